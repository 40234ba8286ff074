import Derived.Test.YtibjcppjfkamhaaGreatDoorC
set_option linter.unusedVariables false
set_option linter.defProp false
set_option linter.unusedSimpArgs false
namespace Go.Proofs.YtibjcppjfkamhaaGreatDoor
open Go.RowKit Go.Proofs.Tryz
open _root_.And renaming intro->AN
open _root_.Bool renaming and_eq_true->IT
open _root_.ByteArray renaming empty->BY
open _root_.List renaming getElem?_eq_some_iff->Lx,replicate->MC,map->MF,mem_of_getElem?->MI,all_eq_true->MK,length_map->MP,getElem?_set->MQ,getElem?_append_right->MS,length_take->Mk
open _root_.Nat renaming ble->IN,le_refl->It,le_of_ble_eq_true->MR,mul_le_mul_right->Ml
open _root_.Or renaming inl->MA
section
set_option maxHeartbeats 40000000
set_option maxRecDepth 100000
set_option maxRecDepth 100000
def wX {N r} (h:p5 N =some r):Spec prog 30 [] [] (.agg (O3 r)) [] []:=by
 refine so func30 ntmps30 fun b hn=>?_;unfold p5 at h;refine B [3,3] fun _ a h=>?_;refine cA (BM N _ a) ?_;exact Sr [7]
def mf (N:Nat) (l:List V) (r:List V) (h:mn N l=some r):Spec prog 121 [] [.sl 2 (MF eV l)] (.aL 0) [(0,.row 2 (MF eV r) 29)] [0]:=by
  obtain⟨d,h⟩:=iz h;obtain rfl:=oI h;refine Spec.of fI func121 rfl ntmps121 y7 rfl rfl rfl fun f hn=>?_;refine I7 hn ?_;refine j6.seq (j6.seq (j6.ops (jt hn 1 ?_)));refine cd.gh (Gh.nil 3 rfl) ?_;rintro⟨b,c⟩;refine jt hn 1 (cd.done ?_);(repeat (first|refine I7 hn ?_|refine P7 hn ?_|refine R5 hn ?_|refine O9 hn ?_|refine P8 hn ?_|refine N9 hn ?_|refine b7 hn ?_));refine nO (fun a=>?_) (fun a=>?_)
  · have e:l=[]:=by simpa using c a
    subst e;refine I7 hn ?_;refine j6.bK 2 5 2 29 rfl rfl rfl ?_;(repeat (first|refine I7 hn ?_|refine P7 hn ?_|refine R5 hn ?_|refine O9 hn ?_|refine P8 hn ?_|refine N9 hn ?_|refine b7 hn ?_));exact⟨[(0,5)],_,rfl,rfl,⟨rfl,trivial⟩,rfl,rfl,rfl,rfl,rfl⟩
  · (repeat (first|refine I7 hn ?_|refine P7 hn ?_|refine R5 hn ?_|refine O9 hn ?_|refine P8 hn ?_|refine N9 hn ?_|refine b7 hn ?_));refine Exists.intro [] (AN trivial ?_);refine AN (by have:=MR d;simpa using this) ?_;refine Exists.intro (MF eV l) (AN (Q8 _) ?_);(repeat (first|refine I7 hn ?_|refine P7 hn ?_|refine R5 hn ?_|refine O9 hn ?_|refine P8 hn ?_|refine N9 hn ?_|refine b7 hn ?_));exact⟨[(0,7)],_,rfl,rfl,⟨rfl,trivial⟩,rfl,rfl,rfl,rfl,rfl⟩
def uh {N a0 r} (h:ku N a0=some r):Spec prog 92 [] [jN a0] (.aL 0) [(0,F3 r [] 1),(1,.aF)] [0,1]:=by
 refine so func92 ntmps92 fun o hn=>?_;unfold ku at h;refine S [3,3,2,3] ?_;refine O1 fun i=>?_;refine nR 3 203 2 92 ?_;refine gC (gT 203 501 [(1,(2,29))]) ?_;refine LR e0 hn ([]:List Ob) (fun l k v=>lL N l k v) h (fun f v=>[(8,.int (f:Int))]) (fun f v=>[(203,F3 v [] 501)]) [3,6,7] [501] [] (fun s=>[]) (fun s=>[(203,F3 s [] 501)]) [3] [501] ?_ ?_ ?_
 ·intro _ g f m h _;rw[lL] at h;exact Sj [3,2,4,0,20]
 ·intro _ g f m e j h _ a _;rw[lL] at h;refine S [3,2,4,0,1,2,6,3] ?_;refine W9 a ?_;refine B [3] fun b d h=>?_;refine cA ((mf N _ _ d).sw 0 14) ?_;refine S [5,11] ?_;refine Exists.intro [(1,(2,29))] (Exists.intro (hW (⟨e.cls,b⟩:Ob)) (Exists.intro [(14,ia b)] (AN rfl (AN rfl (AN rfl (AN E5 (AN E5 (AN rfl (AN rfl ?_)))))))));refine A [] fun c h=>?_;refine aD c ?_;refine S [5] ?_;refine MA (AN (U9 a i) ?_);exact le (m++[(⟨e.cls,b⟩:Ob)]) [(203,19),(501,719)]
 intro n h;exact Sr [3,7] [(0,203),(1,501)]
def Fi (N:Nat) (l:List Ins) (r:List Ins) (h:u5 N l=some r):Spec prog 122 [] [.sl 5 (MF bc l)] (.aL 0) [(0,.row 5 (MF bc r) 55)] [0]:=by
  obtain⟨d,h⟩:=iz h;obtain rfl:=oI h;refine Spec.of fI func122 rfl ntmps122 y7 rfl rfl rfl fun f hn=>?_;refine I7 hn ?_;refine j6.seq (j6.seq (j6.ops (jt hn 1 ?_)));refine cd.gh (Gh.nil 3 rfl) ?_;rintro⟨b,c⟩;refine jt hn 1 (cd.done ?_);(repeat (first|refine I7 hn ?_|refine P7 hn ?_|refine R5 hn ?_|refine O9 hn ?_|refine P8 hn ?_|refine N9 hn ?_|refine b7 hn ?_));refine nO (fun a=>?_) (fun a=>?_)
  · have e:l=[]:=by simpa using c a
    subst e;refine I7 hn ?_;refine j6.bK 2 5 5 55 rfl rfl rfl ?_;(repeat (first|refine I7 hn ?_|refine P7 hn ?_|refine R5 hn ?_|refine O9 hn ?_|refine P8 hn ?_|refine N9 hn ?_|refine b7 hn ?_));exact⟨[(0,5)],_,rfl,rfl,⟨rfl,trivial⟩,rfl,rfl,rfl,rfl,rfl⟩
  · (repeat (first|refine I7 hn ?_|refine P7 hn ?_|refine R5 hn ?_|refine O9 hn ?_|refine P8 hn ?_|refine N9 hn ?_|refine b7 hn ?_));refine Exists.intro [] (AN trivial ?_);refine AN (by have:=MR d;simpa using this) ?_;refine Exists.intro (MF bc l) (AN (Q8 _) ?_);(repeat (first|refine I7 hn ?_|refine P7 hn ?_|refine R5 hn ?_|refine O9 hn ?_|refine P8 hn ?_|refine N9 hn ?_|refine b7 hn ?_));exact⟨[(0,7)],_,rfl,rfl,⟨rfl,trivial⟩,rfl,rfl,rfl,rfl,rfl⟩
def uX {N a0 r} (h:lM N a0=some r):Spec prog 93 [] [.agg (J2 a0)] (.agg (J2 r)) [] []:=by
 refine so func93 ntmps93 fun b hn=>?_;unfold lM at h;refine B [3,3] fun _ a h=>?_;refine cA ((Fi N _ _ a).sw 0 5) ?_;refine S [3] ?_;refine j6.ax 5 rfl ?_;exact Sr [7]
def jU {N a0 r} (h:gk N a0=some r):Spec prog 60 [] [.agg (Q7 a0)] (.agg [E9 r.a7,.aL 0,.int r.aB]) [(0,F3 r.heap [] 1),(1,.aF)] [0,1]:=by
 refine so func60 ntmps60 fun C hn=>?_;unfold gk at h;refine B [3,2,8] fun _ u h=>?_;refine cA (((uh u).sw 0 11).sw 1 711) ?_;refine S [2,3] ?_;refine O1 fun t=>?_;refine nB 3 0 501 4 81 ?_;refine LR e0 hn ([]:List Cl) (fun l k v=>lK N l k v) h (fun p v=>[(18,.int (p:Int))]) (fun p v=>[(501,oY v)]) [2,3,16,17] [2,3,11,711] [] (fun s=>[]) (fun s=>[(501,oY s)]) [2,3] [2,3,11,711] ?_ ?_ ?_
 ·intro _ g p x h _;rw[lK] at h;exact Sj [3,2,4,0,20]
 ·intro _ g p x a w h _ c _;rw[lK] at h;refine S [3,2,4,0,1,2,6,3] ?_;refine W9 c ?_;refine S [3,2,3] ?_;refine O1 fun i=>?_;refine nR 6 206 5 27 ?_;refine LR e0 hn ([]:List Me) (fun l k v=>lP N l k v) h (fun b v=>[(25,.int (b:Int))]) (fun b v=>[(206,kq v)]) [2,3,5,6,16,17,18,23,24] [2,3,5,11,501,711] [] (fun s=>[]) (fun s=>[(206,kq s)]) [2,3,5,6,16,17,18] [2,3,5,11,501,711] ?_ ?_ ?_
  ·intro _ g b n h _;rw[lP] at h;exact Sj [3,2,4,0,20]
  ·intro _ g b n y q h _ d _;rw[lP] at h;refine S [3,2,4,0,1,2,6,3] ?_;refine W9 d ?_;refine B [5] fun m j h=>?_;refine cA (uX j) ?_;refine bS J2 [m] ?_;refine A [] fun e h=>?_;refine aM e ?_;refine kd [2,3,5,6,16,17,18,23,24,25] [2,3,5,11,33,501,711] ?_;refine S [5] ?_;refine MA (AN (U9 d i) ?_);exact le (n++[m]) [(206,33)]
  intro o h;refine S [3,5,12] ?_;refine bS fu [(⟨a.name,a.aV,a.aI,o⟩:Cl)] ?_;refine A [] fun f h=>?_;refine aM f ?_;refine S [5] ?_;refine MA (AN (U9 c t) ?_);exact le (x++[(⟨a.name,a.aV,a.aI,o⟩:Cl)]) [(501,41)]
 intro z h;refine S [3] ?_;refine j6.ax 501 rfl ?_;exact Sr [7] [(0,11),(1,711)]
def uE (N:Nat) (l:List Ln) (r:List Ln) (h:X3 N l=some r):Spec prog 94 [] [.sl 2 (MF V5 l)] (.aL 0) [(0,.row 2 (MF V5 r) 167)] [0]:=by
  obtain⟨d,h⟩:=iz h;obtain rfl:=oI h;refine Spec.of fI func94 rfl ntmps94 y7 rfl rfl rfl fun f hn=>?_;refine I7 hn ?_;refine j6.seq (j6.seq (j6.ops (jt hn 1 ?_)));refine cd.gh (Gh.nil 3 rfl) ?_;rintro⟨b,c⟩;refine jt hn 1 (cd.done ?_);(repeat (first|refine I7 hn ?_|refine P7 hn ?_|refine R5 hn ?_|refine O9 hn ?_|refine P8 hn ?_|refine N9 hn ?_|refine b7 hn ?_));refine nO (fun a=>?_) (fun a=>?_)
  · have e:l=[]:=by simpa using c a
    subst e;refine I7 hn ?_;refine j6.bK 2 5 2 167 rfl rfl rfl ?_;(repeat (first|refine I7 hn ?_|refine P7 hn ?_|refine R5 hn ?_|refine O9 hn ?_|refine P8 hn ?_|refine N9 hn ?_|refine b7 hn ?_));exact⟨[(0,5)],_,rfl,rfl,⟨rfl,trivial⟩,rfl,rfl,rfl,rfl,rfl⟩
  · (repeat (first|refine I7 hn ?_|refine P7 hn ?_|refine R5 hn ?_|refine O9 hn ?_|refine P8 hn ?_|refine N9 hn ?_|refine b7 hn ?_));refine Exists.intro [] (AN trivial ?_);refine AN (by have:=MR d;simpa using this) ?_;refine Exists.intro (MF V5 l) (AN (Q8 _) ?_);(repeat (first|refine I7 hn ?_|refine P7 hn ?_|refine R5 hn ?_|refine O9 hn ?_|refine P8 hn ?_|refine N9 hn ?_|refine b7 hn ?_));exact⟨[(0,7)],_,rfl,rfl,⟨rfl,trivial⟩,rfl,rfl,rfl,rfl,rfl⟩
def uj {N a0 r} (h:kt N a0=some r):Spec prog 61 [] [ke a0] (.aL 0) [(0,d70 r)] [0]:=by
 refine so func61 ntmps61 fun o hn=>?_;unfold kt at h;refine S [3,3,2,3] ?_;refine O1 fun i=>?_;refine nR 3 203 6 159 ?_;refine LR e0 hn ([]:List Ce) (fun l k v=>lN N l k v) h (fun f v=>[(8,.int (f:Int))]) (fun f v=>[(203,d70 v)]) [3,6,7] [] [] (fun s=>[]) (fun s=>[(203,d70 s)]) [3] [] ?_ ?_ ?_
 ·intro _ g f m h _;rw[lN] at h;exact Sj [3,2,4,0,20]
 ·intro _ g f m a j h _ b _;rw[lN] at h;refine S [3,2,4,0,1,2,6,3] ?_;refine W9 b ?_;refine B [3] fun e d h=>?_;refine cA ((uE N _ _ d).sw 0 14) ?_;refine S [5] ?_;refine bS hU [(⟨a.site,a.aB,a.many,e⟩:Ce)] ?_;refine A [] fun c h=>?_;refine aM c ?_;refine S [5] ?_;refine MA (AN (U9 b i) ?_);exact le (m++[(⟨a.site,a.aB,a.many,e⟩:Ce)]) [(203,19)]
 intro n h;exact Sr [3,7] [(0,203)]
def BR {N a0 r} (h:pS N a0=some r):Spec prog 62 [] [jA a0] (.aL 0) [(0,zE r)] [0]:=by
 refine so func62 ntmps62 fun o hn=>?_;unfold pS at h;refine S [3,3,2,3] ?_;refine O1 fun i=>?_;refine nR 3 203 4 162 ?_;refine LR e0 hn ([]:List Tl) (fun l k v=>lO N l k v) h (fun f v=>[(8,.int (f:Int))]) (fun f v=>[(203,zE v)]) [3,6,7] [] [] (fun s=>[]) (fun s=>[(203,zE s)]) [3] [] ?_ ?_ ?_
 ·intro _ g f m h _;rw[lO] at h;exact Sj [3,2,4,0,20]
 ·intro _ g f m e j h _ a _;rw[lO] at h;refine S [3,2,4,0,1,2,6,3] ?_;refine W9 a ?_;refine B [3] fun d c h=>?_;refine cA ((uE N _ _ c).sw 0 14) ?_;refine S [5] ?_;refine bS hX [(⟨e.site,d⟩:Tl)] ?_;refine A [] fun b h=>?_;refine aM b ?_;refine S [5] ?_;refine MA (AN (U9 a i) ?_);exact le (m++[(⟨e.site,d⟩:Tl)]) [(203,19)]
 intro n h;exact Sr [3,7] [(0,203)]
def Fk (N:Nat) (l:List Int) (r:List Int) (h:wU N l=some r):Spec prog 63 [] [.sl 1 (MF (oF .u8) l)] (.aL 0) [(0,.row 1 (MF (oF .u8) r) 5)] [0]:=by
  obtain⟨d,h⟩:=iz h;obtain rfl:=oI h;refine Spec.of fI func63 rfl ntmps63 y7 rfl rfl rfl fun f hn=>?_;refine I7 hn ?_;refine j6.seq (j6.seq (j6.ops (jt hn 1 ?_)));refine cd.gh (Gh.nil 3 rfl) ?_;rintro⟨b,c⟩;refine jt hn 1 (cd.done ?_);(repeat (first|refine I7 hn ?_|refine P7 hn ?_|refine R5 hn ?_|refine O9 hn ?_|refine P8 hn ?_|refine N9 hn ?_|refine b7 hn ?_));refine nO (fun a=>?_) (fun a=>?_)
  · have e:l=[]:=by simpa using c a
    subst e;refine I7 hn ?_;refine j6.bK 2 5 1 5 rfl rfl rfl ?_;(repeat (first|refine I7 hn ?_|refine P7 hn ?_|refine R5 hn ?_|refine O9 hn ?_|refine P8 hn ?_|refine N9 hn ?_|refine b7 hn ?_));exact⟨[(0,5)],_,rfl,rfl,⟨rfl,trivial⟩,rfl,rfl,rfl,rfl,rfl⟩
  · (repeat (first|refine I7 hn ?_|refine P7 hn ?_|refine R5 hn ?_|refine O9 hn ?_|refine P8 hn ?_|refine N9 hn ?_|refine b7 hn ?_));refine Exists.intro [] (AN trivial ?_);refine AN (by have:=MR d;simpa using this) ?_;refine Exists.intro (MF (oF .u8) l) (AN (Q8 _) ?_);(repeat (first|refine I7 hn ?_|refine P7 hn ?_|refine R5 hn ?_|refine O9 hn ?_|refine P8 hn ?_|refine N9 hn ?_|refine b7 hn ?_));exact⟨[(0,7)],_,rfl,rfl,⟨rfl,trivial⟩,rfl,rfl,rfl,rfl,rfl⟩
def Aq {N a0 r} (h:pC N a0=some r):Spec prog 29 [] [.agg (O3 a0)] (.agg (O3 r)) [] []:=by
 refine so func29 ntmps29 fun e hn=>?_;unfold pC at h;refine B [3,2,8] fun _ a h=>?_;refine cA (((jU a).sw 0 5).sw 1 705) ?_;refine B [] fun _ b h=>?_;refine cA ((uj b).sw 0 8) ?_;refine B [] fun _ c h=>?_;refine cA ((BR c).sw 0 11) ?_;refine B [] fun _ d h=>?_;refine cA ((Fk N _ _ d).sw 0 14) ?_;refine j6.b9 5 rfl ?_;refine j6.ax 8 rfl ?_;refine j6.ax 11 rfl ?_;refine j6.ax 14 rfl ?_;exact Sr [7]
def qw {N a0 r} (h:kJ N a0=some r):Spec prog 36 [] [.str a0] (.bool r) [] []:=by
 refine so func36 ntmps36 fun m hn=>?_;unfold kJ at h;refine S [3,2,2] ?_;refine Jb 11 hn h [0] [] (fun _ h g=>?_) ?_
 ·refine I [5,18] ?_ ?_<;>intro _ h
  ·exact Sj [0]
  exact Sj [0,18,0]
 intro j h;refine I [4] ?_ ?_<;>intro _ h
 ·exact Sr [3,7]
 refine S [1,2,3,18] ?_;refine j6.cc 13 rfl (fun b=>?_);refine LU e1 hn () (fun l k v=>mo N a0 l k) h (fun e v=>[(14,.int (e:Int))]) (fun e v=>[]) [0,13] [] [] (fun s=>[]) (fun s=>[]) [] [] ?_ ?_ ?_
 ·intro _ g e _ h _;rw[mo] at h;exact Sj [3,2,4,0,20]
 ·intro _ g e _ f h a _;rw[mo] at h;refine S [3,2,4,0,1,2,6,3,2] ?_;refine Jb 26 hn h [0,13,14] [] (fun _ h g=>?_) ?_
  ·refine B [5] fun _ c h=>?_;refine AS c ?_;refine I [10] ?_ ?_<;>intro _ h
   ·exact Sj [0]
   refine B [0] fun _ d h=>?_;refine AS d ?_;exact Sj [0,10,0]
  intro i h;refine I [4] ?_ ?_<;>intro _ h
  ·exact Sr [3,7]
  refine S [1,5] ?_;refine MA (AN (mA a b) ?_);exact le () []
 rintro⟨⟩ h;exact Sr [3,7]
def Ei {N a0 g1 r} (h:U6 N a0 g1=some r) {m:Nat} {a:List AV} (f:∀d n,g1 d=some n->Spec prog m [] [.agg (fu d),.fp a] (.bool n) [] []):Spec prog 123 [] [E9 a0,.fn m [.fp a]] (.int r) [] []:=by
 refine so func123 ntmps123 fun p hn=>?_;unfold U6 at h;refine S [3,2,3] ?_;refine O1 fun i=>?_;refine LR e1 hn () (fun l k v=>F6 N g1 l k) h (fun e v=>[(8,.int (e:Int))]) (fun e v=>[]) [0,1,7] [] [] (fun s=>[]) (fun s=>[]) [] [] ?_ ?_ ?_
 ·intro _ g e _ h _;rw[F6] at h;exact Sj [3,2,4,0,20]
 ·intro _ g e _ o j h _ c _;rw[F6] at h;refine S [3,2,4,0,1,2,6,3,3] ?_;refine W9 c ?_;refine B [] fun _ b h=>?_;refine cA (f _ _ b) ?_;refine I [4] ?_ ?_<;>intro _ h
  ·exact Sr [3,7]
  refine S [1,5] ?_;refine MA (AN (U9 c i) ?_);exact le () []
 rintro⟨⟩ h;exact Sr [3,7]
def Ee {N a0 g1 r} (h:J6 N a0 g1=some r) {e:Nat} {a:List AV} (c:∀b f,g1 b=some f->Spec prog e [] [.agg (fu b),.fp a] (.bool f) [] []):Spec prog 95 [] [E9 a0,.fn e [.fp a]] (.bool r) [] []:=by
 refine so func95 ntmps95 fun i hn=>?_;unfold J6 at h;refine B [3,3] fun _ d h=>?_;refine cA (Ei d c) ?_;exact Sr [7]
def FM {N a0 b0 r} (h:ov N a0 b0=some r):Spec prog 96 [] [.agg (fu a0),.fp [.str b0]] (.bool r) [] []:=by
 refine so func96 ntmps96 fun a hn=>?_;unfold ov at h;exact Sr [3,3,7]
def kD {N a0 a1 r} (h:iJ N a0 a1=some r):Spec prog 37 [] [.agg (Q7 a0),.int a1] (.int r) [] []:=by
 refine so func37 ntmps37 fun n hn=>?_;unfold iJ at h;refine S [3,3,2,3] ?_;refine LF e0 hn (a1,(0:Int),(0:Int)) (fun l v=>oj N a0 l v.1 v.2.1 v.2.2) h (fun v=>[(1,.int v.1),(5,.int v.2.1),(6,.int v.2.2)]) (fun v=>[]) [2] [2] [] (fun s=>[(5,.int s)]) (fun s=>[]) [] [] ?_ ?_
 ·rintro _ g ⟨k,i,j⟩ e h;rw[oj] at h;refine S [2,2] ?_;refine Jb 22 hn h [1,2,5,6] [2] (fun _ h g=>?_) ?_
  ·refine I [5] ?_ ?_<;>intro _ h
   ·refine I [0,13,0] ?_ ?_<;>intro _ h
    ·exact Sj [0,13,0]
    exact Sj [0]
   exact Sj [0]
  intro f h;refine I [4] ?_ ?_<;>intro _ h
  ·refine B [1,2,6,3] fun c a h=>?_;refine H5 a ?_;refine B [12,5] fun d b h=>?_;refine H5 b ?_;refine kd [1,2,5,6] [2] ?_;refine S [5,12] ?_;exact le (d.aV,(wr (i+c.aI)),(wr (j+(1:Int)))) []
  exact Sj [20]
 intro m h;exact Sr [3,7]
def GK {N a0 r} (h:sG N a0=some r):Spec prog 60 [] [.agg (Q7 a0)] (.agg [.aL 0,jN r.heap,.int r.aB]) [(0,oY r.a7)] [0]:=by
 refine so func60 ntmps60 fun C hn=>?_;unfold sG at h;refine B [3,2,8] fun _ u h=>?_;refine cA (((uh u).sw 0 11).sw 1 711) ?_;refine S [2,3] ?_;refine O1 fun t=>?_;refine nB 3 0 501 4 81 ?_;refine LR e0 hn ([]:List Cl) (fun l k v=>lA N l k v) h (fun p v=>[(18,.int (p:Int))]) (fun p v=>[(501,oY v)]) [2,3,16,17] [2,3,11,711] [] (fun s=>[]) (fun s=>[(501,oY s)]) [2,3] [2,3,11,711] ?_ ?_ ?_
 ·intro _ g p x h _;rw[lA] at h;exact Sj [3,2,4,0,20]
 ·intro _ g p x a w h _ c _;rw[lA] at h;refine S [3,2,4,0,1,2,6,3] ?_;refine W9 c ?_;refine S [3,2,3] ?_;refine O1 fun i=>?_;refine nR 6 206 5 27 ?_;refine LR e0 hn ([]:List Me) (fun l k v=>lB N l k v) h (fun b v=>[(25,.int (b:Int))]) (fun b v=>[(206,kq v)]) [2,3,5,6,16,17,18,23,24] [2,3,5,11,501,711] [] (fun s=>[]) (fun s=>[(206,kq s)]) [2,3,5,6,16,17,18] [2,3,5,11,501,711] ?_ ?_ ?_
  ·intro _ g b n h _;rw[lB] at h;exact Sj [3,2,4,0,20]
  ·intro _ g b n y q h _ d _;rw[lB] at h;refine S [3,2,4,0,1,2,6,3] ?_;refine W9 d ?_;refine B [5] fun m j h=>?_;refine cA (uX j) ?_;refine bS J2 [m] ?_;refine A [] fun e h=>?_;refine aM e ?_;refine kd [2,3,5,6,16,17,18,23,24,25] [2,3,5,11,33,501,711] ?_;refine S [5] ?_;refine MA (AN (U9 d i) ?_);exact le (n++[m]) [(206,33)]
  intro o h;refine S [3,5,12] ?_;refine bS fu [(⟨a.name,a.aV,a.aI,o⟩:Cl)] ?_;refine A [] fun f h=>?_;refine aM f ?_;refine S [5] ?_;refine MA (AN (U9 c t) ?_);exact le (x++[(⟨a.name,a.aV,a.aI,o⟩:Cl)]) [(501,41)]
 intro z h;refine S [3] ?_;refine j6.b9 11 rfl ?_;exact Sr [7] [(0,501)]
def Gw {N a0 a1 a2 a3 r} (h:sO N a0 a1 a2 a3=some r):Spec prog 64 [] [.agg (Q7 a0),.str a1,.int a2,.int a3] (.ab [.agg (Q7 r.1),.int r.2.1,.int r.2.2]) [] []:=by
 refine so func64 ntmps64 fun l hn=>?_;unfold sO at h;refine S [3,2,6,2] ?_;refine j6.gh (Gh.bF 5 5 rfl rfl rfl) (fun _=>?_);refine Jb 12 hn h [2,3,4,5,8] [4,8] (fun _ h g=>?_) ?_
 ·refine B [5] fun _ d h=>?_;refine cA (qw d) ?_;refine I [] ?_ ?_<;>intro _ h
  ·exact Sj [0]
  refine B [0] fun _ e h=>?_;refine cA (Ee e (fun _ _ f=>FM f)) ?_;exact Sj [0]
 intro j h;refine I [4] ?_ ?_<;>intro _ h
 ·exact Sr [3,7]
 refine S [2] ?_;refine Jb 23 hn h [2,3,4,5,8] [4,8] (fun _ h g=>?_) ?_
 ·refine I [5] ?_ ?_<;>intro _ h
  ·exact Sj [0]
  exact Sj [0,13,0]
 intro k h;refine I [4] ?_ ?_<;>intro _ h
 ·exact Sr [3,7]
 refine S [2] ?_;refine Jb 34 hn h [2,3,4,5,8] [4,8] (fun _ h g=>?_) ?_
 ·refine I [5] ?_ ?_<;>intro _ h
  ·exact Sj [0]
  refine B [0] fun _ b h=>?_;refine cA (kD b) ?_;refine I [0,12,0] ?_ ?_<;>intro _ h
  ·exact Sj [0]
  refine I [0] ?_ ?_<;>intro _ h
  ·exact Sj [0]
  exact Sj [0]
 intro i h;refine I [4] ?_ ?_<;>intro _ h
 ·exact Sr [3,7]
 refine I [3,13,4] ?_ ?_<;>intro _ h
 ·exact Sr [3,7]
 refine B [1,3] fun _ c h=>?_;refine cA ((GK c).sw 0 61) ?_;refine S [3,12] ?_;refine bS fu [(⟨a1,a2,a3,[]⟩:Cl)] ?_;refine A [] fun a h=>?_;refine aM a ?_;refine S [2] ?_;refine kd [4,8,11] [4,8,11,69] ?_;refine S [8,13] ?_;refine j6.ax 69 rfl ?_;exact Sr [7]
def rG {N a0 a1 r} (h:kF N a0 a1=some r):Spec prog 107 [] [.int a0,.int a1] (.bool r) [] []:=by
 refine so func107 ntmps107 fun b hn=>?_;unfold kF at h;refine S [3,2] ?_;refine Jb 4 hn h [] [] (fun _ h g=>?_) ?_
 ·refine I [5] ?_ ?_<;>intro _ h
  ·exact Sj [0]
  exact Sj [0]
 intro a h;exact Sr [7]
def FD {N a0 a1 a2 a3 r} (h:rm N a0 a1 a2 a3=some r):Spec prog 74 [] [.fp (Q7 a0),.int a1,.fp (J2 a2),.agg (bc a3)] (.int r) [] []:=by
 refine so func74 ntmps74 fun R hn=>?_;unfold rm at h;refine S [3,3,3,2,3] ?_;refine J e1 hn h (fun s=>[(10,.bool s.1),(11,.bool s.2)]) (fun s=>[]) [7] [7] (fun _ h g=>?_) ?_
 ·refine S [6,2,3] ?_;refine Jb 14 hn h [0,1,2,7,9,11,13] [7] (fun _ h g=>?_) ?_
  ·refine I [4] ?_ ?_<;>intro _ h
   ·exact Sj [1]
   refine S [3] ?_;refine Jb 14 hn h [0,1,2,7,9,11,13] [7] (fun _ h g=>?_) ?_
   ·refine I [4] ?_ ?_<;>intro _ h
    ·exact Sj [1]
    refine S [3] ?_;refine Jb 14 hn h [0,1,2,7,9,11,13] [7] (fun _ h g=>?_) ?_
    ·refine I [4] ?_ ?_<;>intro _ h
     ·exact Sj [1]
     refine S [3] ?_;refine Jb 14 hn h [0,1,2,7,9,11,13] [7] (fun _ h g=>?_) ?_
     ·refine I [4] ?_ ?_<;>intro _ h
      ·exact Sj [1]
      refine S [3] ?_;refine Jb 14 hn h [0,1,2,7,9,11,13] [7] (fun _ h g=>?_) ?_
      ·refine I [4] ?_ ?_<;>intro _ h
       ·exact Sj [1]
       refine kd [0,1,2,7,9,11,13] [7] ?_;refine S [3] ?_;refine Jb 14 hn h [0,1,2,7,9,11,13] [7] (fun _ h g=>?_) ?_
       ·refine I [4] ?_ ?_<;>intro _ h
        ·exact Sj [1]
        exact Sj [5]
       intro m h;exact je
      intro l h;exact je
     intro k h;exact je
    intro j h;exact je
   intro Q h;exact je
  intro P h;refine J e1 hn h (fun s=>[(10,.bool s.1),(11,.bool s.2)]) (fun s=>[]) [7] [7] (fun _ h g=>?_) ?_
  ·refine I [4] ?_ ?_<;>intro _ h
   ·exact Sj [5]
   refine S [3] ?_;refine J e1 hn h (fun s=>[(10,.bool s.1),(11,.bool s.2)]) (fun s=>[]) [7] [7] (fun _ h g=>?_) ?_
   ·refine I [4] ?_ ?_<;>intro _ h
    ·refine B [8] fun _ a h=>?_;refine cA (rG a) ?_;exact je
    refine S [2,3] ?_;refine Jb 35 hn h [0,1,2,7,9,11,13] [7] (fun _ h g=>?_) ?_
    ·refine I [4] ?_ ?_<;>intro _ h
     ·exact Sj [1]
     exact Sj [5]
    intro t h;refine J e1 hn h (fun s=>[(10,.bool s.1),(11,.bool s.2)]) (fun s=>[]) [7] [7] (fun _ h g=>?_) ?_
    ·refine I [4] ?_ ?_<;>intro _ h
     ·refine B [8] fun _ b h=>?_;refine cA (rG b) ?_;exact je
     refine S [2,3] ?_;refine Jb 46 hn h [0,1,2,7,9,11,13] [7] (fun _ h g=>?_) ?_
     ·refine I [4] ?_ ?_<;>intro _ h
      ·exact Sj [1]
      exact Sj [5]
     intro w h;refine J e1 hn h (fun s=>[(10,.bool s.1),(11,.bool s.2)]) (fun s=>[]) [7] [7] (fun _ h g=>?_) ?_
     ·refine I [4] ?_ ?_<;>intro _ h
      ·refine B [8] fun _ c h=>?_;refine cA (kD c) ?_;refine B [] fun _ d h=>?_;refine cA (rG d) ?_;exact je
      refine S [3] ?_;refine J e1 hn h (fun s=>[(10,.bool s.1),(11,.bool s.2)]) (fun s=>[]) [7] [7] (fun _ h g=>?_) ?_
      ·refine I [4] ?_ ?_<;>intro _ h
       ·refine Jb 10 hn h [7,11] [7] (fun _ h g=>?_) ?_
        ·refine I [5] ?_ ?_<;>intro _ h
         ·exact Sj [0]
         exact Sj [0]
        intro C h;exact je
       refine S [3] ?_;refine J e1 hn h (fun s=>[(10,.bool s.1),(11,.bool s.2)]) (fun s=>[]) [7] [7] (fun _ h g=>?_) ?_
       ·refine I [4] ?_ ?_<;>intro _ h
        ·refine Jb 10 hn h [7,11] [7] (fun _ h g=>?_) ?_
         ·refine kd [0,7,11] [7] ?_;refine I [8] ?_ ?_<;>intro _ h
          ·exact Sj [0]
          refine I [0] ?_ ?_<;>intro _ h
          ·exact Sj [0,13,0]
          exact Sj [0]
         intro F h;exact je
        refine S [3] ?_;refine J e1 hn h (fun s=>[(10,.bool s.1),(11,.bool s.2)]) (fun s=>[]) [7] [7] (fun _ h g=>?_) ?_
        ·refine I [4] ?_ ?_<;>intro _ h
         ·refine B [5] fun _ e h=>?_;refine cA (rG e) ?_;exact je
         refine S [2,3] ?_;refine Jb 94 hn h [2,7,9,11] [7] (fun _ h g=>?_) ?_
         ·refine I [4] ?_ ?_<;>intro _ h
          ·exact Sj [1]
          exact Sj [5]
         intro K h;refine I [4] ?_ ?_<;>intro _ h
         ·refine B [8,13] fun _ f h=>?_;refine cA (rG f) ?_;exact je
         exact Sr [3,7]
        rintro⟨G,H⟩ h;exact je
       rintro⟨D,E⟩ h;exact je
      rintro⟨z,A⟩ h;exact je
     rintro⟨x,y⟩ h;exact je
    rintro⟨u,v⟩ h;exact je
   rintro⟨p,q⟩ h;exact je
  rintro⟨n,o⟩ h;exact je
 rintro⟨M,O⟩ h;refine I [2,6,3,4] ?_ ?_<;>intro _ h
 ·exact Sr [3,7]
 refine S [2] ?_;refine Jb 109 hn h [] [] (fun _ h g=>?_) ?_
 ·refine I [5] ?_ ?_<;>intro _ h
  ·refine B [0] fun _ i h=>?_;refine cA (qw i) ?_;refine I [0] ?_ ?_<;>intro _ h
   ·exact Sj [0]
   refine I [0] ?_ ?_<;>intro _ h
   ·refine I [0] ?_ ?_<;>intro _ h
    ·exact Sj [0]
    refine I [0] ?_ ?_<;>intro _ h
    ·exact Sj [0]
    exact Sj [0]
   refine I [0] ?_ ?_<;>intro _ h
   ·exact Sj [0]
   exact Sj [0]
  refine I [0] ?_ ?_<;>intro _ h
  ·refine I [0] ?_ ?_<;>intro _ h
   ·exact Sj [0]
   refine I [0] ?_ ?_<;>intro _ h
   ·exact Sj [0]
   exact Sj [0]
  refine I [0] ?_ ?_<;>intro _ h
  ·exact Sj [0]
  exact Sj [0]
 intro L h;refine I [4] ?_ ?_<;>intro _ h
 ·exact Sr [3,7]
 exact Sr [1,3,7]
def GM {N a0 r} (h:sB N a0=some r):Spec prog 108 [] [.agg (bc a0)] (.ab [.int r.1,.int r.2]) [] []:=by
 refine so func108 ntmps108 fun e hn=>?_;unfold sB at h;refine S [3,2,3,6,2,3] ?_;refine Jb 6 hn h [1,5] [1] (fun _ h g=>?_) ?_
 ·refine I [4] ?_ ?_<;>intro _ h
  ·exact Sj [1]
  refine S [3] ?_;refine Jb 6 hn h [1,5] [1] (fun _ h g=>?_) ?_
  ·refine I [4] ?_ ?_<;>intro _ h
   ·exact Sj [1]
   refine S [3] ?_;refine Jb 6 hn h [1,5] [1] (fun _ h g=>?_) ?_
   ·refine I [4] ?_ ?_<;>intro _ h
    ·exact Sj [1]
    refine S [3] ?_;refine Jb 6 hn h [1,5] [1] (fun _ h g=>?_) ?_
    ·refine I [4] ?_ ?_<;>intro _ h
     ·exact Sj [1]
     exact Sj [5]
    intro a h;exact je
   intro d h;exact je
  intro c h;exact je
 intro b h;refine I [4] ?_ ?_<;>intro _ h
 ·exact Sr [3,7]
 refine I [3,4] ?_ ?_<;>intro _ h
 ·exact Sr [3,7]
 refine I [3,4] ?_ ?_<;>intro _ h
 ·exact Sr [3,12,7]
 refine I [3,4] ?_ ?_<;>intro _ h
 ·exact Sr [3,7]
 exact Sr [1,3,7]
def FE {N a0 r} (h:rq N a0=some r):Spec prog 75 [] [.agg (J2 a0)] (.ab [.aL 0,.agg (Db r.2)]) [(0,w3 r.1)] [0]:=by
 refine so func75 ntmps75 fun X hn=>?_;unfold rq at h;refine A [3,3,13] fun z h=>?_;refine mN (enc:=fN) (x:=(0:Int)) z aT ?_;refine S [2,3,13] ?_;refine j6.cc 17 rfl (fun u=>?_);refine LU e0 hn (MC (a0.code.length:Int).toNat (0:Int)) (fun l k v=>kx N l k v) h (fun y v=>[(18,.int (y:Int))]) (fun y v=>[(15,w3 v)]) [1,3,4,17] [1,3] [] (fun s=>[]) (fun s=>[(15,w3 s)]) [1,3,4] [1,3] ?_ ?_ ?_
 ·intro _ g y G h _;rw[kx] at h;exact Sj [3,2,4,0,20]
 ·intro _ g y G H h m _;rw[kx] at h;refine B [3,2,4,0,1,2,6,3,5] fun _ c h=>?_;refine X8 c ?_;refine sM (l6 c).2 (-1:Int) ?_;refine S [5] ?_;refine MA (AN (mA m u) ?_);exact le (G.set ((y:Int).toNat) (-1:Int)) []
 intro V h;refine S [3] ?_;refine bS vI [(⟨(0:Int),(0:Int)⟩:dw)] ?_;refine S [2] ?_;refine LF e1 hn (V,[(⟨(0:Int),(0:Int)⟩:dw)]) (fun l v=>ml N a0 l v.1 v.2) h (fun v=>[]) (fun v=>[(15,w3 v.1),(26,d72 v.2)]) [1,3,4,6] [1,3] [] (fun s=>[]) (fun s=>[(15,w3 s)]) [3,4] [3] ?_ ?_
 ·rintro _ g ⟨L,M⟩ K h;rw[ml] at h;refine I [2,3,13,4] ?_ ?_<;>intro _ h
  ·refine S [1] ?_;refine J e1 hn h (fun s=>[(6,.aL 39)]) (fun s=>[(15,w3 s.1),(39,d72 s.2)]) [1,3,4] [1,3] (fun _ h g=>?_) ?_
   ·refine B [6,2,8] fun E d h=>?_;refine X8 d ?_;refine S [17] ?_;refine K6 (l6 d).2 ?_;refine B [] fun n e h=>?_;refine X8 e ?_;refine S [17] ?_;refine K6 (l6 e).2 ?_;refine kd [1,3,4,6,7,8] [1,3,15,26] ?_;refine A [3] fun o h=>?_;refine LA o rfl rfl ?_;refine S [2,2] ?_;refine Jb 48 hn h [1,3,4,6,7,8] [1,3,15,39] (fun _ h g=>?_) ?_
    ·refine I [5] ?_ ?_<;>intro _ h
     ·exact Sj [0]
     exact Sj [0,13,0]
    intro P h;refine I [4] ?_ ?_<;>intro _ h
    ·refine S [2,8,13] ?_;refine nR 2 202 1 3 ?_;exact Sr [7] [(0,202)]
    refine B [1,2,3] fun _ f h=>?_;refine X8 f ?_;refine K6 (l6 f).2 ?_;refine I [4] ?_ ?_<;>intro _ h
    ·refine B [2,3] fun _ i h=>?_;refine X8 i ?_;refine K6 (l6 i).2 ?_;refine I [4] ?_ ?_<;>intro _ h
     ·refine kd [3,7] [3] ?_;refine S [3] ?_;refine nR 2 202 1 3 ?_;exact Sr [7] [(0,202)]
     exact Sj [1,20]
    refine B [1,3] fun _ j h=>?_;refine X8 j ?_;refine sM (l6 j).2 n.f1 ?_;refine B [3] fun F w h=>?_;refine H5 w ?_;refine kd [1,3,4,6,7,8,9] [1,3,9,15,39] ?_;refine B [3] fun b t h=>?_;refine cA (GM t) ?_;refine S [2,2] ?_;refine Jb 91 hn h [1,3,4,6,7,8,9,10,11] [1,3,9,15,39] (fun _ h g=>?_) ?_
    ·refine I [5] ?_ ?_<;>intro _ h
     ·exact Sj [0]
     refine I [0] ?_ ?_<;>intro _ h
     ·exact Sj [0]
     exact Sj [0]
    intro Q h;refine I [4] ?_ ?_<;>intro _ h
    ·refine S [3] ?_;refine nR 2 202 1 3 ?_;exact Sr [7] [(0,202)]
    refine I [1,3,12,12,2,3,4] ?_ ?_<;>intro _ h
    ·refine kd [3,7] [3] ?_;refine S [3] ?_;refine nR 2 202 1 3 ?_;exact Sr [7] [(0,202)]
    refine S [1,2,2] ?_;refine Jb 110 hn h [1,3,4,6,7,8,9] [1,3,9,15,39] (fun _ h g=>?_) ?_
    ·refine kd [1,3,4,6,7,8,9] [1,3,9,15,39] ?_;refine I [5] ?_ ?_<;>intro _ h
     ·exact Sj [0]
     exact Sj [0]
    intro R h;refine J e0 hn h (fun s=>[(6,.aL 117)]) (fun s=>[(117,d72 s)]) [1,3,4,8,9] [1,3,9,15] (fun _ h g=>?_) ?_
    ·refine I [4] ?_ ?_<;>intro _ h
     ·refine S [5,12] ?_;refine bS vI [(⟨(wr (E.f0+(1:Int))),(wr (n.f1+(wr (b.2-b.1))))⟩:dw)] ?_;refine A [] fun p h=>?_;refine aM p ?_;exact je
     exact Sj [1] [(117,39)]
    intro T h;refine S [2] ?_;refine Jb 125 hn h [1,3,4,6,8,9] [1,3,9,15,117] (fun _ h g=>?_) ?_
    ·refine I [5] ?_ ?_<;>intro _ h
     ·exact Sj [0]
     exact Sj [0]
    intro U h;refine J e0 hn h (fun s=>[(6,.aL 132)]) (fun s=>[(132,d72 s)]) [1,3,4] [1,3,15] (fun _ h g=>?_) ?_
    ·refine I [4] ?_ ?_<;>intro _ h
     ·refine S [5] ?_;refine bS vI [(⟨F.a,(wr (n.f1+(wr (b.2-b.1))))⟩:dw)] ?_;refine A [] fun q h=>?_;refine aM q ?_;exact je
     exact Sj [1] [(132,117)]
    intro W h;exact je [(39,132)]
   rintro⟨C,D⟩ h;exact le (C,D) [(26,39)]
  exact Sj [20]
 intro O h;exact Sr [3,7] [(0,15)]
def B5 {N a0 a1 a2 r} (h:pN N a0 a1 a2=some r):Spec prog 39 [] [.agg (Q7 a0),.int a1,.agg (J2 a2)] (.agg (Db r)) [] []:=by
 refine so func39 ntmps39 fun p hn=>?_;unfold pN at h;refine S [3,2,6,2] ?_;refine Jb 12 hn h [1,3,5,6] [3,5,6] (fun _ h g=>?_) ?_
 ·refine I [5] ?_ ?_<;>intro _ h
  ·exact Sj [0]
  exact Sj [0,13,0]
 intro n h;refine I [4] ?_ ?_<;>intro _ h
 ·exact Sr [3,7]
 refine B [3] fun _ i h=>?_;refine cA (qw i) ?_;refine I [4] ?_ ?_<;>intro _ h
 ·exact Sr [3,7]
 refine S [2] ?_;refine Jb 29 hn h [1,3,5,6] [3,5,6] (fun _ h g=>?_) ?_
 ·refine I [5] ?_ ?_<;>intro _ h
  ·exact Sj [0]
  refine I [0] ?_ ?_<;>intro _ h
  ·exact Sj [0]
  refine I [0] ?_ ?_<;>intro _ h
  ·exact Sj [0]
  exact Sj [0]
 intro o h;refine I [4] ?_ ?_<;>intro _ h
 ·exact Sr [3,7]
 refine I [3,4] ?_ ?_<;>intro _ h
 ·exact Sr [3,7]
 refine S [2] ?_;refine Jb 54 hn h [1,3,5,6] [3,5,6] (fun _ h g=>?_) ?_
 ·refine I [5,13] ?_ ?_<;>intro _ h
  ·exact Sj [0]
  exact Sj [0,13,0]
 intro j h;refine I [4] ?_ ?_<;>intro _ h
 ·exact Sr [3,7]
 refine S [1,2,3] ?_;refine O1 fun c=>?_;refine j6.gh (Gh.bF 3 3 rfl rfl rfl) (fun _=>?_);refine j6.gh (Gh.bF 5 5 rfl rfl rfl) (fun _=>?_);refine LR e1 hn () (fun l k v=>n5 N a0 a1 a2 l k) h (fun a v=>[(69,.int (a:Int))]) (fun a v=>[]) [1,3,5,6,67,68] [6] [] (fun s=>[]) (fun s=>[]) [5,6] [6] ?_ ?_ ?_
 ·intro _ g a _ h _;rw[n5] at h;exact Sj [3,2,4,0,20]
 ·intro _ g a _ m f h _ b _;rw[n5] at h;refine S [3,2,4,0,1,2,6,3] ?_;refine W9 b ?_;refine B [3] fun _ d h=>?_;refine cA (FD d) ?_;refine kd [1,3,5,6,7,9,67,68,69] [6] ?_;refine I [3,4] ?_ ?_<;>intro _ h
  ·exact Sr [3,7]
  refine S [1,5] ?_;refine MA (AN (U9 b c) ?_);exact le () []
 rintro⟨⟩ h;refine B [3] fun _ e h=>?_;refine cA ((FE e).sw 0 85) ?_;exact Sr [3,7]
def Z9 {N a0 a1 g2 r} (h:y8 N a0 a1 g2=some r) {o:Nat} (c:∀j k p,g2 j k=some p->Spec prog o [] [.agg (J2 j),.str k] (.int p) [] []):Spec prog 106 [] [Lu a0,.str a1,.fn o []] (.ab [.int r.1,.bool r.2]) [] []:=by
 refine so func106 ntmps106 fun C hn=>?_;unfold y8 at h;refine S [3,3,13,3,2] ?_;refine LF e0 hn ((0:Int),(a0.length:Int)) (fun l v=>w9 N a0 a1 g2 l v.1 v.2) h (fun v=>[(9,.int v.1),(10,.int v.2)]) (fun v=>[]) [0,1,2,8] [] [] (fun s=>[(9,.int s)]) (fun s=>[]) [0,1,2,8] [] ?_ ?_
 ·rintro _ g ⟨y,z⟩ q h;rw[w9] at h;refine I [2,3,4] ?_ ?_<;>intro _ h
  ·refine S [1] ?_;refine J e0 hn h (fun s=>[(9,.int s.1),(10,.int s.2)]) (fun s=>[]) [0,1,2,8] [] (fun _ h g=>?_) ?_
   ·refine A [6,3,12] fun a h=>?_;refine EJ a ?_;refine A [10,10] fun b h=>?_;refine EJ b ?_;refine B [3] fun _ f h=>?_;refine H5 f ?_;refine B [] fun _ d h=>?_;refine cA (c _ _ _ d) ?_;refine J e0 hn h (fun s=>[(9,.int s.1),(10,.int s.2)]) (fun s=>[]) [0,1,2,8] [] (fun _ h g=>?_) ?_
    ·refine I [4] ?_ ?_<;>intro _ h
     ·refine kd [0,1,2,8,10,11] [] ?_;exact Sj [5,12]
     refine kd [0,1,2,8,9,11] [] ?_;exact Sj [5]
    rintro⟨t,u⟩ h;exact je
   rintro⟨m,n⟩ h;exact le (m,n) []
  exact Sj [20]
 intro x h;refine S [2] ?_;refine J e0 hn h (fun s=>[(6,.int x),(7,.bool s)]) (fun s=>[]) [] [] (fun _ h g=>?_) ?_
 ·refine I [5] ?_ ?_<;>intro _ h
  ·refine B [0] fun _ i h=>?_;refine H5 i ?_;refine B [0] fun _ e h=>?_;refine cA (c _ _ _ e) ?_;exact Sj [0]
  exact Sj [0]
 intro w h;exact Sr [7]
def A8 {N a0 r} (h:cmp_isNaN_string N a0=some r):Spec prog 145 [] [.str a0] (.bool r) [] []:=by
 refine so func145 ntmps145 fun a hn=>?_;unfold cmp_isNaN_string at h;exact Sr [3,3,7]
def FY {N a0 a1 r} (h:uF N a0 a1=some r):Spec prog 105 [] [.str a0,.str a1] (.int r) [] []:=by
 refine so func105 ntmps105 fun c hn=>?_;unfold uF at h;refine B [3,3] fun _ a h=>?_;refine cA (A8 a) ?_;refine B [3] fun _ b h=>?_;refine cA (A8 b) ?_;refine I [2,3,4] ?_ ?_<;>intro _ h
 ·refine I [2,3,4] ?_ ?_<;>intro _ h
  ·exact Sr [3,7]
  exact Sr [1,3,7]
 refine I [1,2,3,4] ?_ ?_<;>intro _ h
 ·exact Sr [3,7]
 refine I [1,2,3,4] ?_ ?_<;>intro _ h
 ·exact Sr [3,7]
 refine I [1,2,3,4] ?_ ?_<;>intro _ h
 ·refine kd [] [] ?_;exact Sr [3,7]
 refine S [1] ?_;refine kd [] [] ?_;exact Sr [3,7]
def Av {N a0 a1 r} (h:jV N a0 a1=some r):Spec prog 72 [] [.agg (J2 a0),.str a1] (.int r) [] []:=by
 refine so func72 ntmps72 fun b hn=>?_;unfold jV at h;refine B [3,3] fun _ a h=>?_;refine cA (FY a) ?_;exact Sr [7]
def GP {N a0 r} (h:sC N a0=some r):Spec prog 60 [] [.agg (Q7 a0)] (.agg [.aL 0,jN r.heap,.int r.aB]) [(0,d81 r.a7 [] 1),(1,.aF)] [0,1]:=by
 refine so func60 ntmps60 fun C hn=>?_;unfold sC at h;refine B [3,2,8] fun _ u h=>?_;refine cA (((uh u).sw 0 11).sw 1 711) ?_;refine S [2,3] ?_;refine O1 fun t=>?_;refine nB 3 0 501 4 81 ?_;refine gC (gT 501 502 [(3,(5,27))]) ?_;refine LR e0 hn ([]:List Cl) (fun l k v=>lD N l k v) h (fun p v=>[(18,.int (p:Int))]) (fun p v=>[(501,d81 v [] 502)]) [2,3,16,17] [2,3,11,502,711] [] (fun s=>[]) (fun s=>[(501,d81 s [] 502)]) [2,3] [2,3,11,502,711] ?_ ?_ ?_
 ·intro _ g p x h _;rw[lD] at h;exact Sj [3,2,4,0,20]
 ·intro _ g p x a w h _ c _;rw[lD] at h;refine S [3,2,4,0,1,2,6,3] ?_;refine W9 c ?_;refine S [3,2,3] ?_;refine O1 fun j=>?_;refine nR 6 206 5 27 ?_;refine LR e0 hn ([]:List Me) (fun l k v=>lC N l k v) h (fun b v=>[(25,.int (b:Int))]) (fun b v=>[(206,kq v)]) [2,3,5,6,16,17,18,23,24] [2,3,5,11,501,502,711] [] (fun s=>[]) (fun s=>[(206,kq s)]) [2,3,5,6,16,17,18] [2,3,5,11,501,502,711] ?_ ?_ ?_
  ·intro _ g b o h _;rw[lC] at h;exact Sj [3,2,4,0,20]
  ·intro _ g b o y q h _ d _;rw[lC] at h;refine S [3,2,4,0,1,2,6,3] ?_;refine W9 d ?_;refine B [5] fun n m h=>?_;refine cA (uX m) ?_;refine bS J2 [n] ?_;refine A [] fun f h=>?_;refine aM f ?_;refine kd [2,3,5,6,16,17,18,23,24,25] [2,3,5,11,33,501,502,711] ?_;refine S [5] ?_;refine MA (AN (U9 d j) ?_);exact le (o++[n]) [(206,33)]
  intro e h;refine S [3,5,11] ?_;refine Exists.intro [(3,(5,27))] (Exists.intro (fu (⟨a.name,a.aV,a.aI,e⟩:Cl)) (Exists.intro [(206,kq e)] (AN rfl (AN rfl (AN rfl (AN E5 (AN E5 (AN rfl (AN rfl ?_)))))))));refine A [] fun i h=>?_;refine aD i ?_;refine S [5] ?_;refine MA (AN (U9 c t) ?_);exact le (x++[(⟨a.name,a.aV,a.aI,e⟩:Cl)]) [(501,41),(502,741)]
 intro z h;refine S [3] ?_;refine j6.b9 11 rfl ?_;exact Sr [7] [(0,501),(1,502)]
def GB {N a0 a1 a2 r} (h:qt N a0 a1 a2=some r):Spec prog 97 [] [.agg (Q7 a0),.int a1,.agg (J2 a2)] (.ab [.agg (Q7 r.1),.int r.2]) [] []:=by
 refine so func97 ntmps97 fun w hn=>?_;unfold qt at h;refine S [3,2,2] ?_;refine Jb 20 hn h [1,3,5,6] [3,5,6] (fun _ h g=>?_) ?_
 ·refine I [5] ?_ ?_<;>intro _ h
  ·exact Sj [0]
  exact Sj [0,13,0]
 intro v h;refine I [4] ?_ ?_<;>intro _ h
 ·exact Sr [3,7]
 refine B [1,2,8] fun _ n h=>?_;refine H5 n ?_;refine B [] fun q m h=>?_;refine cA (Z9 m (fun _ _ _ p=>Av p)) ?_;refine S [2,2] ?_;refine Jb 45 hn h [1,3,5,6,8,9] [3,5,6] (fun _ h g=>?_) ?_
 ·refine kd [1,3,5,6,8,9] [3,5,6] ?_;refine I [5] ?_ ?_<;>intro _ h
  ·refine B [0] fun _ k h=>?_;refine H5 k ?_;exact Sj [0,13,0]
  exact Sj [0]
 intro t h;refine I [4] ?_ ?_<;>intro _ h
 ·exact Sr [3,7]
 refine B [1,3] fun _ f h=>?_;refine cA (((GP f).sw 0 48).sw 1 748) ?_;refine B [3] fun e a h=>?_;refine iD a ?_;refine S [2,3] ?_;refine J e0 hn h (fun s=>[]) (fun s=>[(48,d81 s [] 501),(501,.aF)]) [5,6,8,10,11] [5,6,10] (fun _ h g=>?_) ?_
 ·refine I [4] ?_ ?_<;>intro _ h
  ·refine gC (gD 48 501 502 a1.toNat 3 (l6 a).2) ?_;refine kd [5,6,8,10,11] [5,6,10,48,501,502] ?_;refine S [5] ?_;refine hD (l6 a).2 ?_;refine bS J2 [(⟨BY,(0:Int),(0:Int),(0:Int),[]⟩:Me)] ?_;refine B [] fun o i h=>?_;refine cA ((((Ff N _ _ _ _ i).sw 1000 501).sw 1032 62).sw 0 63) ?_;refine hS (l6 a).2 ?_;refine gE (gA 48 63 503 a1.toNat 3 ((l6 a).2) (⟨e.name,e.aV,e.aI,o⟩:Cl)) ?_;exact je [(501,503)]
  exact Sj [1] [(501,748)]
 intro u h;refine B [2] fun c b h=>?_;refine gC (gD 48 504 505 a1.toNat 3 b) ?_;refine kd [5,6,8,10,11] [5,6,10,48,504,505] ?_;refine S [8] ?_;refine hD b ?_;refine B [] fun l j h=>?_;refine cA (uX j) ?_;refine B [] fun _ d h=>?_;refine X8 d ?_;refine sM (l6 d).2 l ?_;refine gC (gA 48 504 506 a1.toNat 3 b (⟨c.name,c.aV,c.aI,(c.aC.set q.1.toNat l)⟩:Cl)) ?_;refine kd [6,10] [6,10,48,506] ?_;refine S [3,12,3] ?_;refine j6.b9 48 rfl ?_;exact Sr [7]
def Fx {N a0 a1 a2 r} (h:ua N a0 a1 a2=some r):Spec prog 65 [(1000,.box (O3 a0) 45)] [.ptr 1000 0,.int a1,.agg (J2 a2)] (.agg (nb r.1)) [(1000,.box (O3 r.2) 45)] []:=by
 refine so func65 ntmps65 fun d hn=>?_;unfold ua at h;refine B [3,2,2,8] fun _ a h=>?_;refine cA (B5 a) ?_;refine I [3,4] ?_ ?_<;>intro _ h
 ·exact Sr [3,7]
 refine B [1,2,8] fun _ b h=>?_;refine cA (GB b) ?_;refine S [2] ?_;refine kd [0,6,8,9] [6,8,1000] ?_;refine S [3] ?_;refine J e0 hn h (fun s=>[]) (fun s=>[(1000,.box (O3 s) 45)]) [0,6,9] [6] (fun _ h g=>?_) ?_
 ·refine I [4] ?_ ?_<;>intro _ h
  ·exact Sj [5]
  exact Sj [1]
 intro c h;exact Sr [3,7]
def uq {N a0 a1 a2 r} (h:jY N a0 a1 a2=some r):Spec prog 98 [] [jN a0,.int a1,.int a2] (.ab [.aL 0,.agg (eV r.2.1),.int r.2.2]) [(0,F3 r.1 [] 1),(1,.aF)] [0,1]:=by
 refine so func98 ntmps98 fun d hn=>?_;unfold jY at h;refine I [3,2,3,13,4] ?_ ?_<;>intro _ h
 ·refine S [3] ?_;refine nR 6 206 2 92 ?_;refine gC (gT 206 501 [(1,(2,29))]) ?_;exact Sr [7] [(0,206),(1,501)]
 refine B [1,2,8] fun _ c h=>?_;refine cA (((uh c).sw 0 14).sw 1 714) ?_;refine A [] fun a h=>?_;refine mN (enc:=eV) (x:=(⟨(0:Int),(0:Int)⟩:V)) a aT ?_;refine S [11] ?_;refine Exists.intro [(1,(2,29))] (Exists.intro (hW (⟨a1,(MC (max a2 (0:Int)).toNat (⟨(0:Int),(0:Int)⟩:V))⟩:Ob)) (Exists.intro [(18,ia (MC (max a2 (0:Int)).toNat (⟨(0:Int),(0:Int)⟩:V)))] (AN rfl (AN rfl (AN rfl (AN E5 (AN E5 (AN rfl (AN rfl ?_)))))))));refine A [] fun b h=>?_;refine aD b ?_;exact Sr [13,7] [(0,21),(1,721)]
def FK {N a0 a1 r} (h:ug N a0 a1=some r):Spec prog 66 [(1000,.box (O3 a0) 45)] [.ptr 1000 0,.int a1] (.agg (nb r.1)) [(1000,.box (O3 r.2) 45)] []:=by
 refine so func66 ntmps66 fun d hn=>?_;unfold ug at h;refine S [3,2,2] ?_;refine Jb 23 hn h [0,1,4] [4,1000] (fun _ h g=>?_) ?_
 ·refine I [5] ?_ ?_<;>intro _ h
  ·refine I [0] ?_ ?_<;>intro _ h
   ·exact Sj [0]
   exact Sj [0,13,0]
  exact Sj [0]
 intro c h;refine I [4] ?_ ?_<;>intro _ h
 ·exact Sr [3,7]
 refine S [1,2] ?_;refine kd [0,1,4] [4,1000] ?_;refine B [8] fun _ b h=>?_;refine cA (kD b) ?_;refine B [] fun _ a h=>?_;refine cA (((uq a).sw 0 38).sw 1 738) ?_;refine S [2] ?_;refine kd [0,4,5,6,7] [4,6,38,738,1000] ?_;refine I [3,4] ?_ ?_<;>intro _ h
 ·exact Sr [3,7]
 refine S [1,3,3] ?_;refine j6.b9 38 rfl ?_;exact Sr [7]
def As {N a0 a1 r} (h:oz N a0 a1=some r):Spec prog 76 [] [.agg (eV a0),.int a1] (.int r) [] []:=by
 refine so func76 ntmps76 fun e hn=>?_;unfold oz at h;refine S [3,2,3] ?_;refine J e1 hn h (fun s=>[]) (fun s=>[]) [] [] (fun _ h g=>?_) ?_
 ·refine S [6,2,3] ?_;refine Jb 7 hn h [1,2,6] [2] (fun _ h g=>?_) ?_
  ·refine I [4] ?_ ?_<;>intro _ h
   ·exact Sj [1]
   refine S [3] ?_;refine Jb 7 hn h [1,2,6] [2] (fun _ h g=>?_) ?_
   ·refine I [4] ?_ ?_<;>intro _ h
    ·exact Sj [1]
    exact Sj [5]
   intro d h;exact je
  intro c h;refine J e1 hn h (fun s=>[]) (fun s=>[]) [] [] (fun _ h g=>?_) ?_
  ·refine I [4] ?_ ?_<;>intro _ h
   ·refine I [3,4] ?_ ?_<;>intro _ h
    ·exact Sr [3,7]
    exact Sj [1]
   refine S [3] ?_;refine J e1 hn h (fun s=>[]) (fun s=>[]) [] [] (fun _ h g=>?_) ?_
   ·refine I [4] ?_ ?_<;>intro _ h
    ·refine S [2] ?_;refine Jb 23 hn h [] [] (fun _ h g=>?_) ?_
     ·refine I [5] ?_ ?_<;>intro _ h
      ·exact Sj [0]
      exact Sj [0]
     intro a h;refine I [4] ?_ ?_<;>intro _ h
     ·exact Sr [3,7]
     exact Sj [1]
    refine I [3,4] ?_ ?_<;>intro _ h
    ·refine S [2] ?_;refine Jb 34 hn h [] [] (fun _ h g=>?_) ?_
     ·refine I [5] ?_ ?_<;>intro _ h
      ·exact Sj [0]
      exact Sj [0]
     intro b h;refine I [4] ?_ ?_<;>intro _ h
     ·exact Sr [3,7]
     exact Sj [1]
    exact Sr [3,7]
   rintro⟨⟩ h;exact je
  rintro⟨⟩ h;exact je
 rintro⟨⟩ h;exact Sr [3,7]
def wJ {N a0 a1 a2 r} (h:pP N a0 a1 a2=some r):Spec prog 163 [] [.agg (Q7 a0),.agg (kR a1),.int a2] (.int r) [] []:=by
 refine so func163 ntmps163 fun o hn=>?_;unfold pP at h;refine B [3,2,3] fun _ j h=>?_;refine cA (qw j) ?_;refine I [4] ?_ ?_<;>intro _ h
 ·exact Sr [3,7]
 refine I [1,2,3,13,4] ?_ ?_<;>intro _ h
 ·exact Sr [3,7]
 refine S [1,2,2] ?_;refine Jb 23 hn h [3,4] [3,4] (fun _ h g=>?_) ?_
 ·refine I [5] ?_ ?_<;>intro _ h
  ·exact Sj [0]
  exact Sj [0]
 intro n h;refine I [4] ?_ ?_<;>intro _ h
 ·exact Sr [3,7]
 refine S [1,2,3] ?_;refine bS eV [a1.aU] ?_;refine A [] fun c h=>?_;refine aM c ?_;refine O1 fun d=>?_;refine LR e1 hn () (fun l k v=>nJ N a0 a1 l k) h (fun a v=>[(31,.int (a:Int))]) (fun a v=>[]) [3,29,30] [3,29] [] (fun s=>[]) (fun s=>[]) [] [] ?_ ?_ ?_
 ·intro _ g a _ h _;rw[nJ] at h;exact Sj [3,2,4,0,20]
 ·intro _ g a _ m i h _ f _;rw[nJ] at h;refine B [3,2,4,0,1,2,6,3] fun _ b h=>?_;refine X8 b ?_;refine K6 (l6 b).2 ?_;refine B [3,13] fun _ e h=>?_;refine cA (As e) ?_;refine I [3,4] ?_ ?_<;>intro _ h
  ·exact Sr [3,7]
  refine S [1,5] ?_;refine MA (AN (U9 f d) ?_);exact le () []
 rintro⟨⟩ h;exact Sr [3,7]
def kC {N a0 a1 r} (h:kH N a0 a1=some r):Spec prog 164 [] [jN a0,.agg (eV a1)] (.int r) [] []:=by
 refine so func164 ntmps164 fun d hn=>?_;unfold kH at h;refine I [3,2,3,6,3,4] ?_ ?_<;>intro _ h
 ·exact Sr [3,7]
 refine S [2,3] ?_;refine Jb 9 hn h [0,3,6] [3] (fun _ h g=>?_) ?_
 ·refine I [4] ?_ ?_<;>intro _ h
  ·exact Sj [1]
  exact Sj [5]
 intro b h;refine I [4] ?_ ?_<;>intro _ h
 ·exact Sr [3,7]
 refine I [3,4] ?_ ?_<;>intro _ h
 ·exact Sr [3,7]
 refine S [1,2,2] ?_;refine Jb 28 hn h [0,3] [3] (fun _ h g=>?_) ?_
 ·refine I [5] ?_ ?_<;>intro _ h
  ·refine I [0] ?_ ?_<;>intro _ h
   ·exact Sj [0,13,0]
   exact Sj [0]
  exact Sj [0]
 intro c h;refine I [4] ?_ ?_<;>intro _ h
 ·refine B [3] fun _ a h=>?_;refine H5 a ?_;exact Sr [7]
 exact Sr [1,3,7]
def jT {N a0 a1 a2 r} (h:fW N a0 a1 a2=some r):Spec prog 73 [] [.agg (Q7 a0),.int a1,.str a2] (.ab [.int r.1,.int r.2]) [] []:=by
 refine so func73 ntmps73 fun m hn=>?_;unfold fW at h;refine S [3,2,3] ?_;refine LF e1 hn (a1,(0:Int)) (fun l v=>n4 N a0 a2 l v.1 v.2) h (fun v=>[(1,.int v.1),(8,.int v.2)]) (fun v=>[]) [2,3] [3] [] (fun s=>[]) (fun s=>[]) [] [] ?_ ?_
 ·rintro _ g ⟨k,i⟩ j h;rw[n4] at h;refine S [2,2] ?_;refine Jb 26 hn h [1,2,3,8] [3] (fun _ h g=>?_) ?_
  ·refine I [5] ?_ ?_<;>intro _ h
   ·refine I [0,13,0] ?_ ?_<;>intro _ h
    ·exact Sj [0,13,0]
    exact Sj [0]
   exact Sj [0]
  intro f h;refine I [4] ?_ ?_<;>intro _ h
  ·refine B [1,2,6,2,3] fun _ b h=>?_;refine H5 b ?_;refine B [] fun _ a h=>?_;refine cA (Z9 a (fun _ _ _ e=>Av e)) ?_;refine kd [1,2,3,8,9,10] [3] ?_;refine I [3,4] ?_ ?_<;>intro _ h
   ·exact Sr [3,7]
   refine B [1,5] fun d c h=>?_;refine H5 c ?_;refine S [5,12] ?_;exact le (d.aV,(wr (i+(1:Int)))) []
  exact Sj [20]
 rintro⟨⟩ h;exact Sr [3,7]
def K8 {N a0 a1 r} (h:F5 N a0 a1=some r) {b:Nat} {a:List AV} {c:Nat}:Spec prog 165 [(1000,mB a0 (.fn b [.fp a]) (.fn c []) 1001 1003)] [.ptr 1000 0,.int a1] (.ab []) [(1000,mB r (.fn b [.fp a]) (.fn c []) 1001 1003)] []:=by
 refine so func165 ntmps165 fun e hn=>?_;unfold F5 at h;refine S [15,3] ?_;refine J e0 hn h (fun s=>[]) (fun s=>[(1000,.box [.ptr 1001 0,.fn b [.fp a],.fn c [],.int a0.aE,.int a0.aH,.int a0.aO,.aL 1003,.int a0.back.k,.int a0.back.n,.int s] 251)]) [0] [] (fun _ h g=>?_) ?_
 ·refine I [4] ?_ ?_<;>intro _ h
  ·exact Sj [5]
  exact Sj [1]
 intro d h;exact Sr [14]
def wC {N a0 a1 r} (h:N7 N a0 a1=some r) {d:Nat} {a:List AV} {e:Nat}:Spec prog 195 [(1000,mB a0 (.fn d [.fp a]) (.fn e []) 1001 1003),(1003,p9 a0.aG [] 1005)] [.ptr 1000 0,.bool a1] (.bool r.1) [(1000,mB r.2 (.fn d [.fp a]) (.fn e []) 1001 1003),(1003,p9 a0.aG [] 1005)] []:=by
 refine so func195 ntmps195 fun w hn=>?_;unfold N7 at h;refine S [3,2] ?_;refine J e1 hn h (fun s=>[]) (fun s=>[(1000,.box [.ptr 1001 0,.fn d [.fp a],.fn e [],.int s.1,.int s.2.1,.int s.2.2.1,.aL 1003,.int s.2.2.2.1,.int s.2.2.2.2.1,.int s.2.2.2.2.2] 251)]) [0] [1003] (fun _ h g=>?_) ?_
 ·refine S [6,2,8] ?_;refine J e1 hn h (fun s=>[]) (fun s=>[(1000,.box [.ptr 1001 0,.fn d [.fp a],.fn e [],.int s.1,.int s.2.1,.int s.2.2.1,.aL 1003,.int s.2.2.2.1,.int s.2.2.2.2.1,.int s.2.2.2.2.2] 251)]) [0] [1003] (fun _ h g=>?_) ?_
  ·refine I [4] ?_ ?_<;>intro _ h
   ·refine B [5] fun _ b h=>?_;refine cA (K8 b) ?_;exact je
   refine S [2] ?_;refine Jb 24 hn h [0] [1000,1003] (fun _ h g=>?_) ?_
   ·refine I [5] ?_ ?_<;>intro _ h
    ·exact Sj [0,13,0]
    exact Sj [0]
   intro l h;refine I [4] ?_ ?_<;>intro _ h
   ·refine B [5] fun _ c h=>?_;refine cA (K8 c) ?_;exact je
   exact Sr [3,12,3,7]
  rintro⟨u,v,f,i,j,k⟩ h;exact je
 rintro⟨m,n,o,p,q,t⟩ h;exact Sr [3,7]
def wV {N a0 r} (h:nH N a0=some r):Spec prog 225 [] [.int a0] (.agg (eV r)) [] []:=by
 refine so func225 ntmps225 fun a hn=>?_;unfold nH at h;exact Sr [3,3,16,7]
def qx {N a0 r} (h:pK N a0=some r):Spec prog 226 [] [.bool a0] (.agg (eV r)) [] []:=by
 refine so func226 ntmps226 fun a hn=>?_;unfold pK at h;refine I [3,2,3,4] ?_ ?_<;>intro _ h
 ·exact Sr [3,7]
 exact Sr [1,3,7]
def wa {N a0 a1 a2 r} (h:sL N a0 a1 a2=some r):Spec prog 196 [] [.int a0,.agg (eV a1),.agg (eV a2)] (.ab [.agg (eV r.1),.int r.2]) [] []:=by
 refine so func196 ntmps196 fun i hn=>?_;unfold sL at h;refine S [3,2,2] ?_;refine Jb 16 hn h [0,4,5,6] [4,5,6] (fun _ h g=>?_) ?_
 ·refine I [5] ?_ ?_<;>intro _ h
  ·exact Sj [0]
  exact Sj [0]
 intro f h;refine I [4] ?_ ?_<;>intro _ h
 ·exact Sr [3,7]
 refine I [1,3,2,3,6,3,4] ?_ ?_<;>intro _ h
 ·refine B [3,12] fun _ e h=>?_;refine cA (wV e) ?_;exact Sr [7]
 refine I [3,4] ?_ ?_<;>intro _ h
 ·refine B [3,12] fun _ a h=>?_;refine cA (wV a) ?_;exact Sr [7]
 refine I [3,4] ?_ ?_<;>intro _ h
 ·refine B [3,12] fun _ b h=>?_;refine cA (wV b) ?_;exact Sr [7]
 refine I [3,4] ?_ ?_<;>intro _ h
 ·refine B [3] fun _ c h=>?_;refine cA (qx c) ?_;exact Sr [7]
 refine I [3,4] ?_ ?_<;>intro _ h
 ·refine kd [4,5,6] [4,5,6] ?_;refine B [3] fun _ d h=>?_;refine cA (qx d) ?_;exact Sr [7]
 refine S [1] ?_;refine kd [6] [6] ?_;exact Sr [3,7]
def zw {N a0 a1 r} (h:Q6 N a0 a1=some r) {e:Nat} {c:List AV} {f:Nat}:Spec prog 197 [(1000,mB a0 (.fn e [.fp c]) (.fn f []) 1001 1003),(1003,p9 a0.aG [] 1005)] [.ptr 1000 0,.agg (eV a1)] (.ab []) [(1000,mB r (.fn e [.fp c]) (.fn f []) 1001 1003),(1003,p9 r.aG [] 5),(5,.aF)] [5]:=by
 refine so func197 ntmps197 fun i hn=>?_;unfold Q6 at h;refine I [15,3,2,3,13,4] ?_ ?_<;>intro _ h
 ·refine S [3] ?_;refine gC (gS 1003 501) ?_;exact Sr [7] [(5,501)]
 refine B [1,2,8,13,12] fun b a h=>?_;refine iD a ?_;refine gC (gD 1003 502 503 ((wr ((a0.aG.length:Int)-(1:Int))).toNat) 8 (l6 a).2) ?_;refine kd [0,3,4] [3,502,503,1000,1003] ?_;refine S [8] ?_;refine hD (l6 a).2 ?_;refine bS eV [a1] ?_;refine A [] fun d h=>?_;refine aM d ?_;refine hS (l6 a).2 ?_;refine gE (gA 1003 33 504 ((wr ((a0.aG.length:Int)-(1:Int))).toNat) 8 ((l6 a).2) (⟨b.aK,b.aN,b.aY,b.code,b.aU,b.args,b.a8,(b.aA++[a1]),b.aJ⟩:j3)) ?_;exact Sr [14] [(5,504)]
def zu {N a0 gq a1 a2 a3 a4 r} (h:M9 N a0 gq a1 a2 a3 a4=some r) {K:Nat} {a:List AV} {v:Nat} (y:∀t u H,gq t u=some H->Spec prog v [] [.int t,.int u] (.ab [.agg (ed H.1),.bool H.2]) [] []):Spec prog 166 [(1000,mB a0 (.fn K [.fp a]) (.fn v []) 1001 1003),(1001,.box [E9 a0.w.a7,.aL 1002,.int a0.w.aB] 40),(1003,p9 a0.aG [] 1005)] [.ptr 1000 0,.int a1,.int a2,.agg (eV a3),zN a4] (.ab []) [(1000,mB r (.fn K [.fp a]) (.fn v []) 1001 4),(1001,.box [E9 a0.w.a7,.aL 1002,.int a0.w.aB] 40),(4,p9 r.aG [] 5),(5,.aF),(1003,.aF)] [5,4]:=by
 refine so func166 ntmps166 fun L hn=>?_;unfold M9 at h;refine B [15,3,3] fun _ C h=>?_;refine H5 C ?_;refine B [] fun _ D h=>?_;refine H5 D ?_;refine S [2] ?_;refine kd [0,1,2,4,8,10] [8,1000,1001,1003] ?_;refine I [3,13,4] ?_ ?_<;>intro _ h
 ·refine B [3] fun _ z h=>?_;refine cA (K8 z) ?_;refine gC (gR 1000 6 1003 501 502) ?_;exact Sr [7] [(4,501),(5,502)]
 refine I [1,2,3,4] ?_ ?_<;>intro _ h
 ·refine S [2] ?_;refine kd [0,4,8,10] [8,1000,1001,1003] ?_;refine B [3] fun _ e h=>?_;refine cA (wC e) ?_;refine I [4] ?_ ?_<;>intro _ h
  ·refine gC (gR 1000 6 1003 503 504) ?_;exact Sr [7] [(4,503),(5,504)]
  refine B [1,2,8] fun _ p h=>?_;refine H5 p ?_;refine B [] fun _ f h=>?_;refine cA (wa f) ?_;refine S [2] ?_;refine kd [0,11,12] [11,1000,1001,1003] ?_;refine I [3,4] ?_ ?_<;>intro _ h
  ·refine B [3] fun _ i h=>?_;refine cA (K8 i) ?_;refine gC (gR 1000 6 1003 505 506) ?_;exact Sr [7] [(4,505),(5,506)]
  refine B [1,3] fun _ j h=>?_;refine cA ((zw j).sw 5 507) ?_;refine gC (gR 1000 6 1003 508 509) ?_;exact Sr [7] [(4,508),(5,509)]
 refine S [1,2] ?_;refine kd [0,1,2,4,8,10] [8,1000,1001,1003] ?_;refine B [3] fun _ l h=>?_;refine cA (wC l) ?_;refine I [4] ?_ ?_<;>intro _ h
 ·refine gC (gR 1000 6 1003 510 511) ?_;exact Sr [7] [(4,510),(5,511)]
 refine S [1,2] ?_;refine kd [0,1,2,4,8,10] [8,1000,1001,1003] ?_;refine B [8] fun E m h=>?_;refine cA ((mf N _ _ m).sw 0 77) ?_;refine A [] fun b h=>?_;refine mN (enc:=eV) (x:=(⟨(0:Int),(0:Int)⟩:V)) b aT ?_;refine S [2] ?_;refine kd [0,1,2,13] [13,77,82,1000,1001,1003] ?_;refine B [3] fun _ o h=>?_;refine cA (y _ _ _ o) ?_;refine S [3] ?_;refine J e0 hn h (fun s=>[]) (fun s=>[(13,.box [.int a1,.int a2,.bool s.1,oT s.2.1,.int a3.k,.int a3.n,.aL 77,.aL 99,.aP,.int (0:Int)] 288),(99,ia s.2.2)]) [0,13] [77,1000,1001,1003] (fun _ h g=>?_) ?_
 ·refine I [4] ?_ ?_<;>intro _ h
  ·refine kd [0,13,14] [13,14,77,82,1000,1001,1003] ?_;refine A [8] fun c h=>?_;refine mN (enc:=eV) (x:=(⟨(0:Int),(0:Int)⟩:V)) c aT ?_;exact je
  exact Sj [1] [(99,82)]
 rintro⟨F,G,q⟩ h;refine j6.ax 77 rfl ?_;refine kd [0,13] [13,99,1000,1001,1003] ?_;refine S [8,11] ?_;refine Exists.intro [(7,(2,29)),(8,(2,29))] (Exists.intro (vW (⟨a1,a2,F,G,a3,E,q,[],(0:Int)⟩:j3)) (Exists.intro [(99,ia q)] (AN rfl (AN rfl (AN rfl (AN E5 (AN E5 (AN rfl (AN rfl ?_)))))))));refine A [] fun d h=>?_;refine aD d ?_;exact Sr [14] [(4,110),(5,810)]
def Ek {N a0 gl gq a1 a2 a3 r} (h:mg N a0 gl gq a1 a2 a3=some r) {u:Nat} {c:List AV} (y:∀d f t i,gl d f t=some i->Spec prog u [] [.agg (bW d),.int f,.str t,.fp c] (.ab [.int i.1,.int i.2]) [] []) {v:Nat} (z:∀d f i,gq d f=some i->Spec prog v [] [.int d,.int f] (.ab [.agg (ed i.1),.bool i.2]) [] []):Spec prog 198 [(1000,mB a0 (.fn u [.fp c]) (.fn v []) 1001 1003),(1001,.box [E9 a0.w.a7,.aL 1002,.int a0.w.aB] 40),(1002,F3 a0.w.heap [] 1004),(1003,p9 a0.aG [] 1005)] [.ptr 1000 0,.ep 1003 a1 10 0,.agg (bc a2),.int a3] (.ab []) [(1000,mB r (.fn u [.fp c]) (.fn v []) 1001 4),(1001,.box [E9 a0.w.a7,.aL 1002,.int a0.w.aB] 40),(1002,F3 a0.w.heap [] 1004),(4,p9 r.aG [] 5),(5,.aF),(1003,.aF)] [5,4]:=by
 refine so func198 ntmps198 fun F hn=>?_;unfold mg at h;refine B [15,3,2] fun e b h=>?_;refine gC (gD 1003 501 502 a1 8 b) ?_;refine kd [0,1,3,6] [6,501,502,1000,1001,1002,1003] ?_;refine S [8] ?_;refine hD b ?_;refine S [13,12,2] ?_;refine kd [0,1,3,6,8] [6,501,502,1000,1001,1002,1003] ?_;refine S [8] ?_;refine hD b ?_;refine A [] fun x h=>?_;refine d25 x rfl rfl ?_;refine B [] fun _ C h=>?_;refine qB ((Spec.drop1 (mf N _ _ C)).sw 0 28) ⟨d73 _,trivial⟩ ?_;refine hD b ?_;refine B [12] fun _ q h=>?_;refine X8 q ?_;refine K6 (l6 q).2 ?_;refine S [2] ?_;refine gC (gB 1003 501 503 a1 8 b) ?_;refine kd [0,1,3,6,8,9,10] [6,10,28,503,1000,1001,1002,1003] ?_;refine S [8] ?_;refine K6 b ?_;refine K6 b ?_;refine B [] fun _ o h=>?_;refine H5 o ?_;refine K6 b ?_;refine B [] fun D p h=>?_;refine H5 p ?_;refine S [2] ?_;refine kd [0,1,6,8,9,10,11] [6,10,11,28,503,1000,1001,1002,1003] ?_;refine S [3] ?_;refine K6 b ?_;refine J e0 hn h (fun s=>[]) (fun s=>[(11,.box [.int e.aK,.str D.name,.int s] 156)]) [0,1,6,8,9,10,11] [6,10,28,503,1000,1001,1002,1003] (fun _ h g=>?_) ?_
 ·refine I [4] ?_ ?_<;>intro _ h
  ·exact Sj [5]
  exact Sj [1]
 intro E h;refine S [2] ?_;refine kd [0,1,6,8,9,10,11] [6,10,11,28,503,1000,1001,1002,1003] ?_;refine B [8] fun _ k h=>?_;refine cD (kC k) ?_;refine B [] fun _ l h=>?_;refine cA (y _ _ _ _ l) ?_;refine S [2] ?_;refine kd [0,1,8,9,10,12,13] [10,28,503,1000,1001,1002,1003] ?_;refine I [3,4] ?_ ?_<;>intro _ h
 ·refine B [3] fun _ m h=>?_;refine cA (K8 m) ?_;refine gC (gR 1000 6 1003 504 505) ?_;exact Sr [7] [(4,504),(5,505)]
 refine S [1] ?_;refine gC (gD 1003 506 507 a1 8 b) ?_;refine kd [0,1,8,9,10,12,13] [10,28,506,507,1000,1001,1002,1003] ?_;refine S [3] ?_;refine hD b ?_;refine A [12] fun j h=>?_;refine j8 j rfl rfl ?_;refine hS b ?_;refine gC (gA 1003 102 508 a1 8 b (⟨e.aK,e.aN,e.aY,e.code,e.aU,e.args,e.a8,(e.aA.take (wr ((wr ((e.aA.length:Int)-a2.a))-(1:Int))).toNat),e.aJ⟩:j3)) ?_;refine kd [0,1,9,10,12,13] [10,28,508,1000,1001,1002,1003] ?_;refine B [5] fun _ n h=>?_;refine cF ((((zu n z).sw 1005 508).sw 5 509).sw 4 510) ?_;exact Sr [14] [(4,510),(5,509)]
def zz {N a0 a1 a2 r} (h:P9 N a0 a1 a2=some r) {e:Nat} {a:List AV} {f:Nat}:Spec prog 199 [(1000,mB a0 (.fn e [.fp a]) (.fn f []) 1001 1003),(1003,p9 a0.aG [] 1005)] [.ptr 1000 0,.ep 1003 a1 10 0,.int a2] (.ab []) [(1000,mB r (.fn e [.fp a]) (.fn f []) 1001 1003),(1003,p9 r.aG [] 5),(5,.aF)] [5]:=by
 refine so func199 ntmps199 fun w hn=>?_;unfold P9 at h;refine B [15,2,3] fun b d h=>?_;refine K6 d ?_;refine J e0 hn h (fun s=>[]) (fun s=>[(1000,.box [.ptr 1001 0,.fn e [.fp a],.fn f [],.int s.1,.int s.2.1,.int s.2.2.1,.aL 1003,.int s.2.2.2.1,.int s.2.2.2.2.1,.int s.2.2.2.2.2] 251)]) [0,1,2] [1003] (fun _ h g=>?_) ?_
 ·refine I [4] ?_ ?_<;>intro _ h
  ·refine S [3,12,3] ?_;refine J e0 hn h (fun s=>[]) (fun s=>[(1000,.box [.ptr 1001 0,.fn e [.fp a],.fn f [],.int s.1,.int s.2.1,.int s.2.2.1,.aL 1003,.int s.2.2.2.1,.int s.2.2.2.2.1,.int s.2.2.2.2.2] 251)]) [0,1,2] [1003] (fun _ h g=>?_) ?_
   ·refine I [4] ?_ ?_<;>intro _ h
    ·refine kd [0,1,2] [1000,1003] ?_;refine B [5] fun _ c h=>?_;refine cA (K8 c) ?_;exact je
    exact Sj [1]
   rintro⟨i,j,k,l,m,n⟩ h;exact je
  exact Sj [1]
 rintro⟨o,p,q,t,u,v⟩ h;refine S [5] ?_;refine sD d (⟨b.aK,b.aN,b.aY,b.code,b.aU,b.args,b.a8,b.aA,a2⟩:j3) ?_;refine gE (gS 1003 501) ?_;exact Sr [14] [(5,501)]
def Q0 {N fr a0 r} (h:Y9 N fr a0=some r):Spec prog 200 [(1003,p9 fr [] 1005)] [.ep 1003 a0 10 0] (.agg (eV r.1)) [(1003,p9 r.2 [] 5),(5,.aF)] [5]:=by
 refine so func200 ntmps200 fun e hn=>?_;unfold Y9 at h;refine B [3,2] fun b a h=>?_;refine gC (gD 1003 501 502 a0 8 a) ?_;refine kd [0,2] [2,501,502,1003] ?_;refine S [8] ?_;refine hD a ?_;refine hD a ?_;refine B [13,12] fun _ c h=>?_;refine X8 c ?_;refine K6 (l6 c).2 ?_;refine S [2,8] ?_;refine hD a ?_;refine hD a ?_;refine A [13,12] fun d h=>?_;refine j8 d rfl rfl ?_;refine hS a ?_;refine gC (gA 1003 27 503 a0 8 a (⟨b.aK,b.aN,b.aY,b.code,b.aU,b.args,b.a8,(b.aA.take (wr ((b.aA.length:Int)-(1:Int))).toNat),b.aJ⟩:j3)) ?_;refine kd [0,2,3] [2,3,503,1003] ?_;exact Sr [3,7] [(5,503)]
def Ey {N a0 a1 a2 r} (h:V7 N a0 a1 a2=some r) {m:Nat} {e:List AV} {n:Nat}:Spec prog 201 [(1000,mB a0 (.fn m [.fp e]) (.fn n []) 1001 1003),(1001,.box [E9 a0.w.a7,.aL 1002,.int a0.w.aB] 40),(1002,F3 a0.w.heap [] 1004),(1003,p9 a0.aG [] 1005)] [.ptr 1000 0,.ep 1003 a1 10 0,.agg (bc a2)] (.ab []) [(1000,mB r (.fn m [.fp e]) (.fn n []) 1001 1003),(1001,.box [E9 a0.w.a7,.aL 1002,.int a0.w.aB] 40),(1002,F3 a0.w.heap [] 1004),(1003,p9 r.aG [] 5),(5,.aF)] [5]:=by
 refine so func201 ntmps201 fun o hn=>?_;unfold V7 at h;refine B [15,3,2,2] fun b a h=>?_;refine gC (gD 1003 501 502 a1 8 a) ?_;refine kd [0,1,5] [5,501,502,1000,1001,1002,1003] ?_;refine S [8] ?_;refine hD a ?_;refine hD a ?_;refine B [13,12,12] fun _ k h=>?_;refine X8 k ?_;refine K6 (l6 k).2 ?_;refine B [] fun _ l h=>?_;refine cD (kC l) ?_;refine I [4] ?_ ?_<;>intro _ h
 ·refine gC (gB 1003 501 503 a1 8 a) ?_;exact Sr [7] [(5,503)]
 refine S [1,2] ?_;refine gC (gB 1003 501 504 a1 8 a) ?_;refine kd [0,1,5] [5,504,1000,1001,1002,1003] ?_;refine S [8] ?_;refine K6 a ?_;refine B [] fun _ i h=>?_;refine H5 i ?_;refine K6 a ?_;refine B [] fun d j h=>?_;refine H5 j ?_;refine gC (gD 1003 505 506 a1 7 a) ?_;refine kd [0,1,5,6] [5,505,506,1000,1001,1002,1003] ?_;refine S [8] ?_;refine hD a ?_;refine A [] fun f h=>?_;refine j8 f rfl rfl ?_;refine sD a (⟨b.aK,b.aN,false,b.code,b.aU,b.args,b.a8,b.aA,b.aJ⟩:j3) ?_;refine sD (setAt a) (⟨b.aK,b.aN,false,d.code,b.aU,b.args,b.a8,b.aA,b.aJ⟩:j3) ?_;refine hS (setAt (setAt a)) ?_;refine sD (setAt (setAt a)) (⟨b.aK,b.aN,false,d.code,b.aU,b.args,b.a8,b.aA,a2.c⟩:j3) ?_;refine gE (gA 1003 68 507 a1 7 (setAt (setAt (setAt a))) (⟨b.aK,b.aN,false,d.code,b.aU,b.args,(b.a8.take d.a8.toNat),b.aA,a2.c⟩:j3)) ?_;exact Sr [14] [(5,507)]
def q9 {N a0 fr b0 r} (h:O4 N a0 fr b0=some r):Spec prog 227 [(1016,.box [.ep 1019 b0 10 0] 289),(1019,p9 fr [] 1021)] [.agg (eV a0),.ptr 1016 0] (.ab []) [(1016,.box [.ep 1019 b0 10 0] 289),(1019,p9 r [] 21),(21,.aF)] [21]:=by
 refine so func227 ntmps227 fun d hn=>?_;unfold O4 at h;refine B [15,3] fun b a h=>?_;refine gC (gD 1019 501 502 b0 8 a) ?_;refine kd [1,2] [2,501,502,1016,1019] ?_;refine S [8] ?_;refine hD a ?_;refine bS eV [a0] ?_;refine A [] fun c h=>?_;refine aM c ?_;refine hS a ?_;refine gE (gA 1019 10 503 b0 8 a (⟨b.aK,b.aN,b.aY,b.code,b.aU,b.args,b.a8,(b.aA++[a0]),b.aJ⟩:j3)) ?_;exact Sr [14] [(21,503)]
def oa {N a0 fr b0 r} (h:oc N a0 fr b0=some r):Spec prog 227 [(1016,.box [.ep 1019 b0 10 0] 289),(1019,p9 fr [(b0,7,1022)] 1021)] [.agg (eV a0),.ptr 1016 0] (.ab []) [(1016,.box [.ep 1019 b0 10 0] 289),(1019,p9 r [(b0,7,1022)] 21),(21,.aF)] [21]:=by
 refine so func227 ntmps227 fun d hn=>?_;unfold oc at h;refine B [15,3] fun b a h=>?_;refine gC (gD 1019 501 502 b0 8 a) ?_;refine kd [1,2] [2,501,502,1016,1019] ?_;refine S [8] ?_;refine hD a ?_;refine bS eV [a0] ?_;refine A [] fun c h=>?_;refine aM c ?_;refine hS a ?_;refine gE (gA 1019 10 503 b0 8 a (⟨b.aK,b.aN,b.aY,b.code,b.aU,b.args,b.a8,(b.aA++[a0]),b.aJ⟩:j3)) ?_;exact Sr [14] [(21,503)]
def oq {N a0 a1 a2 r} (h:pJ N a0 a1 a2=some r):Spec prog 228 [] [jN a0,.agg (eV a1),.int a2] (.agg (eV r)) [] []:=by
 refine so func228 ntmps228 fun e hn=>?_;unfold pJ at h;refine S [3,2,2] ?_;refine Jb 36 hn h [0,2,4,6] [4,6] (fun _ h g=>?_) ?_
 ·refine I [5] ?_ ?_<;>intro _ h
  ·exact Sj [0]
  refine I [0] ?_ ?_<;>intro _ h
  ·exact Sj [0]
  refine I [0,13,0] ?_ ?_<;>intro _ h
  ·exact Sj [0]
  refine I [0] ?_ ?_<;>intro _ h
  ·exact Sj [0]
  refine B [0] fun _ c h=>?_;refine H5 c ?_;exact Sj [0,13,0]
 intro d h;refine I [4] ?_ ?_<;>intro _ h
 ·exact Sr [3,7]
 refine B [1,3] fun _ a h=>?_;refine H5 a ?_;refine B [] fun _ b h=>?_;refine H5 b ?_;exact Sr [7]
def wE {N a0 sk fr b0 r} (h:r7 N a0 sk fr b0=some r):Spec prog 227 [(1016,.box [.ep 1019 b0 10 0] 289),(1019,p9 fr [(b0,8,1022)] 1021),(1022,ia sk)] [.agg (eV a0),.ptr 1016 0] (.ab []) [(1016,.box [.ep 1019 b0 10 0] 289),(1019,p9 fr [(b0,8,22)] 1021),(22,ia r),(1022,.aF)] [22]:=by
 refine so func227 ntmps227 fun c hn=>?_;unfold r7 at h;refine B [15,3,8] fun _ a h=>?_;refine hD a ?_;refine bS eV [a0] ?_;refine A [] fun b h=>?_;refine aM b ?_;refine hS a ?_;exact Sr [14] [(22,10)]
def od {N fr a0 r} (h:oe N fr a0=some r):Spec prog 200 [(1003,p9 fr [(a0,7,1006)] 1005)] [.ep 1003 a0 10 0] (.agg (eV r.1)) [(1003,p9 r.2 [(a0,7,1006)] 5),(5,.aF)] [5]:=by
 refine so func200 ntmps200 fun e hn=>?_;unfold oe at h;refine B [3,2] fun b a h=>?_;refine gC (gD 1003 501 502 a0 8 a) ?_;refine kd [0,2] [2,501,502,1003] ?_;refine S [8] ?_;refine hD a ?_;refine hD a ?_;refine B [13,12] fun _ c h=>?_;refine X8 c ?_;refine K6 (l6 c).2 ?_;refine S [2,8] ?_;refine hD a ?_;refine hD a ?_;refine A [13,12] fun d h=>?_;refine j8 d rfl rfl ?_;refine hS a ?_;refine gC (gA 1003 27 503 a0 8 a (⟨b.aK,b.aN,b.aY,b.code,b.aU,b.args,b.a8,(b.aA.take (wr ((b.aA.length:Int)-(1:Int))).toNat),b.aJ⟩:j3)) ?_;refine kd [0,2,3] [2,3,503,1003] ?_;exact Sr [3,7] [(5,503)]
def A5 {N a0 a1 a2 a3 r} (h:jS N a0 a1 a2 a3=some r) {j:Nat} {c:List AV} {k:Nat}:Spec prog 229 [(1000,mB a0 (.fn j [.fp c]) (.fn k []) 1001 1003),(1001,.box [E9 a0.w.a7,.aL 1002,.int a0.w.aB] 40),(1002,F3 a0.w.heap [] 1004)] [.ptr 1000 0,.agg (eV a1),.int a2,.agg (eV a3)] (.ab []) [(1000,mB r (.fn j [.fp c]) (.fn k []) 1001 1003),(1001,.box [E9 a0.w.a7,.aL 1002,.int a0.w.aB] 40),(1002,F3 r.w.heap [] 3),(3,.aF)] [3]:=by
 refine so func229 ntmps229 fun p hn=>?_;unfold jS at h;refine S [15,3,2] ?_;refine J e0 hn h (fun s=>[(40,.bool s)]) (fun s=>[(501,.aF),(1002,F3 a0.w.heap [] 501)]) [0,2,5,7] [5,7,1000,1001] (fun _ h g=>?_) ?_
 ·rcases qP h with⟨b,h⟩|⟨o,b,h⟩
  ·refine kd [0,2,5,7] [5,7,1000,1001,1002] ?_;refine I [8] ?_ ?_<;>intro _ h
   ·refine I [0,13,0] ?_ ?_<;>intro _ h
    ·cases h
    refine S [0] ?_;refine gE (gS 1002 501) ?_;exact je
   refine S [0] ?_;refine gE (gS 1002 502) ?_;exact je [(501,502)]
  refine gC (gD 1002 503 504 a1.n.toNat 1 b) ?_;refine kd [0,2,5,7] [5,7,503,504,1000,1001,1002] ?_;refine I [8] ?_ ?_<;>intro _ h
  ·refine I [0,13,0] ?_ ?_<;>intro _ h
   ·refine B [0] fun _ e h=>?_;refine iD e ?_;refine S [0] ?_;refine hD b ?_;refine S [0,13,0] ?_;refine gE (gB 1002 503 505 a1.n.toNat 1 b) ?_;exact je [(501,505)]
   refine S [0] ?_;refine gE (gB 1002 503 506 a1.n.toNat 1 b) ?_;exact je [(501,506)]
  refine S [0] ?_;refine gE (gB 1002 503 507 a1.n.toNat 1 b) ?_;exact je [(501,507)]
 intro m h;refine J e0 hn h (fun s=>[]) (fun s=>[(508,.aF),(1002,F3 s [] 508)]) [0] [1000,1001] (fun _ h g=>?_) ?_
 ·refine I [4] ?_ ?_<;>intro _ h
  ·rcases qP h with⟨a,h⟩|⟨i,a,h⟩
   ·cases h
   refine gC (gD 1002 508 509 a1.n.toNat 1 a) ?_;refine kd [0,2,5,7] [5,7,508,509,1000,1001,1002] ?_;refine B [8] fun _ f h=>?_;refine iD f ?_;refine hD a ?_;refine B [] fun _ d h=>?_;refine X8 d ?_;refine sM (l6 d).2 a3 ?_;refine gE (gA 1002 508 510 a1.n.toNat 1 a (⟨i.cls,(i.aI.set a2.toNat a3)⟩:Ob)) ?_;exact je [(508,510)]
  exact Sj [1] [(508,501)]
 intro l h;exact Sr [14] [(3,508)]
def Ej {N a0 a1 a2 r} (h:Y0 N a0 a1 a2=some r) {k:Nat} {b:List AV} {l:Nat}:Spec prog 202 [(1000,mB a0 (.fn k [.fp b]) (.fn l []) 1001 1003),(1001,.box [E9 a0.w.a7,.aL 1002,.int a0.w.aB] 40),(1002,F3 a0.w.heap [] 1004),(1003,p9 a0.aG [] 1005)] [.ptr 1000 0,.ep 1003 a1 10 0,.agg (bc a2)] (.ab []) [(1000,mB r (.fn k [.fp b]) (.fn l []) 1001 1003),(1001,.box [E9 r.w.a7,.aL 2,.int r.w.aB] 40),(2,F3 r.w.heap [] 3),(3,.aF),(1002,.aF),(1003,p9 r.aG [] 5),(5,.aF)] [3,2,5]:=by
 refine so func202 ntmps202 fun Γ hn=>?_;unfold Y0 at h;refine S [15,3,3,3] ?_;refine J e1 hn h (fun s=>[]) (fun s=>[(186,F3 s.1 [] 518),(501,.aF),(518,.aF),(1000,.box [.ptr 1001 0,.fn k [.fp b],.fn l [],.int s.2.1,.int s.2.2.1,.int s.2.2.2.1,.aL 1003,.int s.2.2.2.2.2.1,.int s.2.2.2.2.2.2.1,.int s.2.2.2.2.2.2.2] 251),(1001,.box [E9 a0.w.a7,.aL 186,.int a0.w.aB] 40),(1002,.aF),(1003,p9 s.2.2.2.2.1 [] 501)]) [0,1] [] (fun _ h g=>?_) ?_
 ·refine S [6,3] ?_;refine J e1 hn h (fun s=>[]) (fun s=>[(186,F3 s.1 [] 518),(501,.aF),(518,.aF),(1000,.box [.ptr 1001 0,.fn k [.fp b],.fn l [],.int s.2.1,.int s.2.2.1,.int s.2.2.2.1,.aL 1003,.int s.2.2.2.2.2.1,.int s.2.2.2.2.2.2.1,.int s.2.2.2.2.2.2.2] 251),(1001,.box [E9 a0.w.a7,.aL 186,.int a0.w.aB] 40),(1002,.aF),(1003,p9 s.2.2.2.2.1 [] 501)]) [0,1] [] (fun _ h g=>?_) ?_
  ·refine I [4] ?_ ?_<;>intro _ h
   ·refine B [5] fun _ hx21 h=>?_;refine K6 hx21 ?_;refine B [] fun _ Z h=>?_;refine cA ((q9 Z).ay [(1016,4),(1019,1003),(1021,1005),(21,501)] rfl) ?_;refine gE (gR 1001 1 1002 502 503) ?_;exact je [(186,502),(518,503)]
   refine S [3] ?_;refine J e1 hn h (fun s=>[]) (fun s=>[(186,F3 s.1 [] 520),(504,.aF),(520,.aF),(1000,.box [.ptr 1001 0,.fn k [.fp b],.fn l [],.int s.2.1,.int s.2.2.1,.int s.2.2.2.1,.aL 1003,.int s.2.2.2.2.2.1,.int s.2.2.2.2.2.2.1,.int s.2.2.2.2.2.2.2] 251),(1001,.box [E9 a0.w.a7,.aL 186,.int a0.w.aB] 40),(1002,.aF),(1003,p9 s.2.2.2.2.1 [] 504)]) [0,1] [] (fun _ h g=>?_) ?_
   ·refine I [4] ?_ ?_<;>intro _ h
    ·refine B [8] fun _ hx35 h=>?_;refine K6 hx35 ?_;refine B [] fun _ hx37 h=>?_;refine H5 hx37 ?_;refine B [] fun _ hr39 h=>?_;refine cA ((q9 hr39).ay [(1016,4),(1019,1003),(1021,1005),(21,504)] rfl) ?_;refine gE (gR 1001 1 1002 505 506) ?_;exact je [(186,505),(520,506)]
    refine S [3] ?_;refine J e1 hn h (fun s=>[]) (fun s=>[(186,F3 s.1 [] 522),(507,.aF),(522,.aF),(1000,.box [.ptr 1001 0,.fn k [.fp b],.fn l [],.int s.2.1,.int s.2.2.1,.int s.2.2.2.1,.aL 1003,.int s.2.2.2.2.2.1,.int s.2.2.2.2.2.2.1,.int s.2.2.2.2.2.2.2] 251),(1001,.box [E9 a0.w.a7,.aL 186,.int a0.w.aB] 40),(1002,.aF),(1003,p9 s.2.2.2.2.1 [] 507)]) [0,1] [] (fun _ h g=>?_) ?_
    ·refine I [4] ?_ ?_<;>intro _ h
     ·refine B [] fun x50 D h=>?_;refine gC (gD 1003 507 508 a1 7 D) ?_;refine kd [0,1,4,5,6] [4,5,507,508,1000,1001,1002,1003] ?_;refine S [8] ?_;refine hD D ?_;refine B [] fun _ E h=>?_;refine X8 E ?_;refine K6 (l6 E).2 ?_;refine B [] fun _ hr55 h=>?_;refine cA ((oa hr55).ay [(1022,507),(1016,4),(1019,1003),(1021,508),(21,509)] rfl) ?_;refine B [] fun j hx57 h=>?_;refine gE (gA 1003 507 510 a1 7 hx57 (⟨j.aK,j.aN,j.aY,j.code,j.aU,j.args,x50.a8,j.aA,j.aJ⟩:j3)) ?_;refine gE (gR 1001 1 1002 511 512) ?_;exact je [(186,511),(522,512),(507,510)]
     refine S [3] ?_;refine J e1 hn h (fun s=>[]) (fun s=>[(186,F3 s.1 [] 525),(513,.aF),(525,.aF),(1000,.box [.ptr 1001 0,.fn k [.fp b],.fn l [],.int s.2.1,.int s.2.2.1,.int s.2.2.2.1,.aL 1003,.int s.2.2.2.2.2.1,.int s.2.2.2.2.2.2.1,.int s.2.2.2.2.2.2.2] 251),(1001,.box [E9 a0.w.a7,.aL 186,.int a0.w.aB] 40),(1002,.aF),(1003,p9 s.2.2.2.2.1 [] 513)]) [0,1] [] (fun _ h g=>?_) ?_
     ·refine I [4] ?_ ?_<;>intro _ h
      ·refine kd [0,1,4,5,6] [4,5,1000,1001,1002,1003] ?_;refine B [8] fun _ hx69 h=>?_;refine K6 hx69 ?_;refine B [] fun _ hr71 h=>?_;refine cD (oq hr71) ?_;refine B [] fun _ hr73 h=>?_;refine cA ((q9 hr73).ay [(1016,4),(1019,1003),(1021,1005),(21,513)] rfl) ?_;refine gE (gR 1001 1 1002 514 515) ?_;exact je [(186,514),(525,515)]
      refine kd [0,1,4,5,6,12] [4,5,1000,1001,1002,1003] ?_;refine S [3] ?_;refine J e1 hn h (fun s=>[]) (fun s=>[(186,F3 s.1 [] 527),(516,.aF),(527,.aF),(1000,.box [.ptr 1001 0,.fn k [.fp b],.fn l [],.int s.2.1,.int s.2.2.1,.int s.2.2.2.1,.aL 1003,.int s.2.2.2.2.2.1,.int s.2.2.2.2.2.2.1,.int s.2.2.2.2.2.2.2] 251),(1001,.box [E9 a0.w.a7,.aL 186,.int a0.w.aB] 40),(1002,.aF),(1003,p9 s.2.2.2.2.1 [] 516)]) [0,1] [] (fun _ h g=>?_) ?_
      ·refine I [4] ?_ ?_<;>intro _ h
       ·refine B [5] fun _ hr85 h=>?_;refine cA ((q9 hr85).ay [(1016,4),(1019,1003),(1021,1005),(21,516)] rfl) ?_;refine gE (gR 1001 1 1002 517 518) ?_;exact je [(186,517),(527,518)]
       refine S [3] ?_;refine J e1 hn h (fun s=>[]) (fun s=>[(186,F3 s.1 [] 529),(519,.aF),(529,.aF),(1000,.box [.ptr 1001 0,.fn k [.fp b],.fn l [],.int s.2.1,.int s.2.2.1,.int s.2.2.2.1,.aL 1003,.int s.2.2.2.2.2.1,.int s.2.2.2.2.2.2.1,.int s.2.2.2.2.2.2.2] 251),(1001,.box [E9 a0.w.a7,.aL 186,.int a0.w.aB] 40),(1002,.aF),(1003,p9 s.2.2.2.2.1 [] 519)]) [0,1] [] (fun _ h g=>?_) ?_
       ·refine I [4] ?_ ?_<;>intro _ h
        ·refine B [5] fun _ hr97 h=>?_;refine cA ((q9 hr97).ay [(1016,4),(1019,1003),(1021,1005),(21,519)] rfl) ?_;refine gE (gR 1001 1 1002 520 521) ?_;exact je [(186,520),(529,521)]
        refine S [2,3] ?_;refine Jb 75 hn h [0,1,4,5,6,12] [4,5,1000,1001,1002,1003] (fun _ h g=>?_) ?_
        ·refine I [4] ?_ ?_<;>intro _ h
         ·exact Sj [1]
         exact Sj [5]
        intro v98 h;refine J e1 hn h (fun s=>[]) (fun s=>[(186,F3 s.1 [] 531),(522,.aF),(531,.aF),(1000,.box [.ptr 1001 0,.fn k [.fp b],.fn l [],.int s.2.1,.int s.2.2.1,.int s.2.2.2.1,.aL 1003,.int s.2.2.2.2.2.1,.int s.2.2.2.2.2.2.1,.int s.2.2.2.2.2.2.2] 251),(1001,.box [E9 a0.w.a7,.aL 186,.int a0.w.aB] 40),(1002,.aF),(1003,p9 s.2.2.2.2.1 [] 522)]) [0,1] [] (fun _ h g=>?_) ?_
        ·refine I [4] ?_ ?_<;>intro _ h
         ·refine B [5] fun _ G h=>?_;refine cA (qx G) ?_;refine B [] fun _ H h=>?_;refine cA ((q9 H).ay [(1016,4),(1019,1003),(1021,1005),(21,522)] rfl) ?_;refine gE (gR 1001 1 1002 523 524) ?_;exact je [(186,523),(531,524)]
         refine S [3] ?_;refine J e1 hn h (fun s=>[]) (fun s=>[(186,F3 s.1 [] 533),(525,.aF),(533,.aF),(1000,.box [.ptr 1001 0,.fn k [.fp b],.fn l [],.int s.2.1,.int s.2.2.1,.int s.2.2.2.1,.aL 1003,.int s.2.2.2.2.2.1,.int s.2.2.2.2.2.2.1,.int s.2.2.2.2.2.2.2] 251),(1001,.box [E9 a0.w.a7,.aL 186,.int a0.w.aB] 40),(1002,.aF),(1003,p9 s.2.2.2.2.1 [] 525)]) [0,1] [] (fun _ h g=>?_) ?_
         ·refine I [4] ?_ ?_<;>intro _ h
          ·refine B [5] fun _ K h=>?_;refine cA ((Q0 K).sw 5 525) ?_;refine gE (gR 1001 1 1002 526 527) ?_;exact je [(186,526),(533,527)]
          refine S [3] ?_;refine J e1 hn h (fun s=>[]) (fun s=>[(186,F3 s.1 [] 535),(528,.aF),(535,.aF),(1000,.box [.ptr 1001 0,.fn k [.fp b],.fn l [],.int s.2.1,.int s.2.2.1,.int s.2.2.2.1,.aL 1003,.int s.2.2.2.2.2.1,.int s.2.2.2.2.2.2.1,.int s.2.2.2.2.2.2.2] 251),(1001,.box [E9 a0.w.a7,.aL 186,.int a0.w.aB] 40),(1002,.aF),(1003,p9 s.2.2.2.2.1 [] 528)]) [0,1] [] (fun _ h g=>?_) ?_
          ·refine I [4] ?_ ?_<;>intro _ h
           ·refine B [] fun c i h=>?_;refine gC (gD 1003 528 529 a1 8 i) ?_;refine kd [0,1,4,6] [4,528,529,1000,1001,1002,1003] ?_;refine S [8] ?_;refine hD i ?_;refine hD i ?_;refine B [13,12] fun _ n h=>?_;refine X8 n ?_;refine K6 (l6 n).2 ?_;refine B [] fun r142 L h=>?_;refine cA ((wE L).ay [(1022,528),(1016,4),(1019,1003),(1021,529),(22,530)] rfl) ?_;refine gE (gA 1003 530 531 a1 8 i (⟨c.aK,c.aN,c.aY,c.code,c.aU,c.args,c.a8,r142,c.aJ⟩:j3)) ?_;refine gE (gR 1001 1 1002 532 533) ?_;exact je [(186,532),(535,533),(528,531)]
           refine S [3] ?_;refine J e1 hn h (fun s=>[]) (fun s=>[(186,F3 s.1 [] 538),(534,.aF),(538,.aF),(1000,.box [.ptr 1001 0,.fn k [.fp b],.fn l [],.int s.2.1,.int s.2.2.1,.int s.2.2.2.1,.aL 1003,.int s.2.2.2.2.2.1,.int s.2.2.2.2.2.2.1,.int s.2.2.2.2.2.2.2] 251),(1001,.box [E9 a0.w.a7,.aL 186,.int a0.w.aB] 40),(1002,.aF),(1003,p9 s.2.2.2.2.1 [] 534)]) [0,1] [] (fun _ h g=>?_) ?_
           ·refine I [4] ?_ ?_<;>intro _ h
            ·refine B [] fun x154 o h=>?_;refine gC (gD 1003 534 535 a1 7 o) ?_;refine kd [0,1,4,5] [4,5,534,535,1000,1001,1002,1003] ?_;refine gz 3 7 hn ?_;refine hD o ?_;refine B [] fun F M h=>?_;refine cA ((((od M).sw 1005 535).sw 1006 534).sw 5 536) ?_;refine B [] fun d p h=>?_;refine AN ⟨rfl,⟨rfl,trivial⟩,nu p rfl rfl E5 rfl ⟨rfl,rfl,rfl,rfl⟩⟩ ?_;refine B [] fun _ q h=>?_;refine X8 q ?_;refine sM (l6 q).2 F.1 ?_;refine gE (gA 1003 534 537 a1 7 p (⟨d.aK,d.aN,d.aY,d.code,d.aU,d.args,(x154.a8.set a2.a.toNat F.1),d.aA,d.aJ⟩:j3)) ?_;refine gE (gR 1001 1 1002 538 539) ?_;exact je [(186,538),(538,539),(534,537)]
            refine S [3] ?_;refine J e1 hn h (fun s=>[]) (fun s=>[(186,F3 s.1 [] 541),(540,.aF),(541,.aF),(1000,.box [.ptr 1001 0,.fn k [.fp b],.fn l [],.int s.2.1,.int s.2.2.1,.int s.2.2.2.1,.aL 1003,.int s.2.2.2.2.2.1,.int s.2.2.2.2.2.2.1,.int s.2.2.2.2.2.2.2] 251),(1001,.box [E9 a0.w.a7,.aL 186,.int a0.w.aB] 40),(1002,.aF),(1003,p9 s.2.2.2.2.1 [] 540)]) [0,1] [] (fun _ h g=>?_) ?_
            ·refine I [4] ?_ ?_<;>intro _ h
             ·refine gz 4 8 hn ?_;refine B [] fun _ t h=>?_;refine K6 t ?_;refine B [] fun _ m h=>?_;refine cA ((Q0 m).sw 5 540) ?_;refine B [] fun _ u h=>?_;refine AN ⟨rfl,⟨rfl,trivial⟩,K6 u ⟨congrArg (fun v=>AV.agg (eV v)) (wT m t u),rfl,rfl,rfl⟩⟩ ?_;refine B [] fun _ O h=>?_;refine cA ((A5 O).sw 3 541) ?_;refine gE (gR 1001 1 1002 542 543) ?_;exact je [(186,542),(541,543)]
             refine S [3] ?_;refine J e1 hn h (fun s=>[]) (fun s=>[(186,F3 s.1 [] 550),(544,.aF),(550,.aF),(1000,.box [.ptr 1001 0,.fn k [.fp b],.fn l [],.int s.2.1,.int s.2.2.1,.int s.2.2.2.1,.aL 1003,.int s.2.2.2.2.2.1,.int s.2.2.2.2.2.2.1,.int s.2.2.2.2.2.2.2] 251),(1001,.box [E9 a0.w.a7,.aL 186,.int a0.w.aB] 40),(1002,.aF),(1003,p9 s.2.2.2.2.1 [] 544)]) [0,1] [] (fun _ h g=>?_) ?_
             ·refine I [4] ?_ ?_<;>intro _ h
              ·refine B [] fun x190 x h=>?_;refine gC (gD 1003 544 545 a1 7 x) ?_;refine kd [0,1,4,5,6] [4,5,544,545,1000,1001,1002,1003] ?_;refine S [8] ?_;refine hD x ?_;refine B [] fun _ y h=>?_;refine X8 y ?_;refine K6 (l6 y).2 ?_;refine B [] fun _ P h=>?_;refine cD (oq P) ?_;refine B [] fun _ Q h=>?_;refine cA ((oa Q).ay [(1022,544),(1016,4),(1019,1003),(1021,545),(21,546)] rfl) ?_;refine B [] fun e Y h=>?_;refine gE (gA 1003 544 547 a1 7 Y (⟨e.aK,e.aN,e.aY,e.code,e.aU,e.args,x190.a8,e.aA,e.aJ⟩:j3)) ?_;refine gE (gR 1001 1 1002 548 549) ?_;exact je [(186,548),(550,549),(544,547)]
              refine kd [0,1,4,5,6,12] [4,5,1000,1001,1002,1003] ?_;refine S [3] ?_;refine J e1 hn h (fun s=>[]) (fun s=>[(186,F3 s.1 [] 553),(550,.aF),(553,.aF),(1000,.box [.ptr 1001 0,.fn k [.fp b],.fn l [],.int s.2.1,.int s.2.2.1,.int s.2.2.2.1,.aL 1003,.int s.2.2.2.2.2.1,.int s.2.2.2.2.2.2.1,.int s.2.2.2.2.2.2.2] 251),(1001,.box [E9 a0.w.a7,.aL 186,.int a0.w.aB] 40),(1002,.aF),(1003,p9 s.2.2.2.2.1 [] 550)]) [0,1] [] (fun _ h g=>?_) ?_
              ·refine I [4] ?_ ?_<;>intro _ h
               ·refine B [] fun x210 z h=>?_;refine gC (gD 1003 550 551 a1 7 z) ?_;refine kd [0,1,4,5] [4,5,550,551,1000,1001,1002,1003] ?_;refine gz 4 12 hn ?_;refine hD z ?_;refine B [] fun _ A h=>?_;refine X8 A ?_;refine K6 (l6 A).2 ?_;refine B [] fun _ R h=>?_;refine cA ((((od R).sw 1005 551).sw 1006 550).sw 5 552) ?_;refine B [] fun f C h=>?_;refine AN ⟨rfl,⟨rfl,trivial⟩,nu C rfl rfl E5 rfl ⟨rfl,rfl,rfl,rfl⟩⟩ ?_;refine B [] fun _ T h=>?_;refine cA ((A5 T).sw 3 553) ?_;refine gE (gA 1003 550 554 a1 7 C (⟨f.aK,f.aN,f.aY,f.code,f.aU,f.args,x210.a8,f.aA,f.aJ⟩:j3)) ?_;refine gE (gR 1001 1 1002 555 556) ?_;exact je [(186,555),(553,556),(550,554)]
               refine S [3] ?_;refine J e1 hn h (fun s=>[]) (fun s=>[(186,F3 s.1 [] 886),(560,.aF),(886,.aF),(1001,.box [E9 a0.w.a7,.aL 186,.int a0.w.aB] 40),(1002,.aF),(1003,p9 s.2 [] 560)]) [0,1] [1000] (fun _ h g=>?_) ?_
               ·refine I [4] ?_ ?_<;>intro _ h
                ·refine S [2] ?_;refine kd [0,1,5,6] [4,5,1000,1001,1002,1003] ?_;refine B [8] fun _ U h=>?_;refine cD (kD U) ?_;refine B [] fun _ V h=>?_;refine qB (((uq V).sw 0 186).sw 1 886) ⟨yu _,trivial,trivial⟩ ?_;refine S [2] ?_;refine kd [0,1,6,7,8,9] [4,8,186,886,1000,1001,1002,1003] ?_;refine I [3,4] ?_ ?_<;>intro _ h
                 ·refine B [3] fun _ W h=>?_;refine cA (K8 W) ?_;refine gC (gR 1001 1 1002 557 558) ?_;refine gC (gS 1003 559) ?_;exact Sr [7] [(2,557),(3,558),(5,559)]
                 refine B [1,3,5] fun _ X h=>?_;refine cA ((q9 X).ay [(1016,4),(1019,1003),(1021,1005),(21,560)] rfl) ?_;refine gE (gX 1002) ?_;exact je
                refine S [1] ?_;refine gE (gR 1001 1 1002 561 562) ?_;refine gE (gS 1003 563) ?_;exact je [(186,561),(886,562),(560,563)]
               rintro⟨v220,v221⟩ h;exact je [(553,886),(550,560)]
              rintro⟨v200,v201,v202,v203,v204,v205,v206,v207⟩ h;exact je [(550,553),(544,550)]
             rintro⟨v180,v181,v182,v183,v184,v185,v186,v187⟩ h;exact je [(541,550),(540,544)]
            rintro⟨v162,v163,v164,v165,v166,v167,v168,v169⟩ h;exact je [(538,541),(534,540)]
           rintro⟨v144,v145,v146,v147,v148,v149,v150,v151⟩ h;exact je [(535,538),(528,534)]
          rintro⟨v127,v128,v129,v130,v131,v132,v133,v134⟩ h;exact je [(533,535),(525,528)]
         rintro⟨v115,v116,v117,v118,v119,v120,v121,v122⟩ h;exact je [(531,533),(522,525)]
        rintro⟨v101,v102,v103,v104,v105,v106,v107,v108⟩ h;exact je [(529,531),(519,522)]
       rintro⟨v86,v87,v88,v89,v90,v91,v92,v93⟩ h;exact je [(527,529),(516,519)]
      rintro⟨v74,v75,v76,v77,v78,v79,v80,v81⟩ h;exact je [(525,527),(513,516)]
     rintro⟨v58,v59,v60,v61,v62,v63,v64,v65⟩ h;exact je [(522,525),(507,513)]
    rintro⟨v40,v41,v42,v43,v44,v45,v46,v47⟩ h;exact je [(520,522),(504,507)]
   rintro⟨v24,v25,v26,v27,v28,v29,v30,v31⟩ h;exact je [(518,520),(501,504)]
  rintro⟨v10,v11,v12,v13,v14,v15,v16,v17⟩ h;exact je
 rintro⟨v1,v2,v3,v4,v5,v6,v7,v8⟩ h;exact Sr [14] [(2,186),(3,518),(5,501)]
def El {N a0 gl gq r} (h:mi N a0 gl gq=some r) {b:Nat} {a:List AV} (z:∀e f y p,gl e f y=some p->Spec prog b [] [.agg (bW e),.int f,.str y,.fp a] (.ab [.int p.1,.int p.2]) [] []) {c:Nat} (C:∀e f p,gq e f=some p->Spec prog c [] [.int e,.int f] (.ab [.agg (ed p.1),.bool p.2]) [] []):Spec prog 167 [(1000,mB a0 (.fn b [.fp a]) (.fn c []) 1001 1003),(1001,.box [E9 a0.w.a7,.aL 1002,.int a0.w.aB] 40),(1002,F3 a0.w.heap [] 1004),(1003,p9 a0.aG [] 1005)] [.ptr 1000 0] (.ab []) [(1000,mB r (.fn b [.fp a]) (.fn c []) 1001 4),(1001,.box [E9 r.w.a7,.aL 2,.int r.w.aB] 40),(2,F3 r.w.heap [] 3),(3,.aF),(1002,.aF),(4,p9 r.aG [] 5),(5,.aF),(1003,.aF)] [3,2,5,4]:=by
 refine so func167 ntmps167 fun Γ hn=>?_;unfold mi at h;refine B [15,2,8,13,12] fun i d h=>?_;refine iD d ?_;refine S [3] ?_;refine K6 (l6 d).2 ?_;refine kd [0,2,3] [1000,1001,1002,1003] ?_;refine S [3] ?_;refine K6 (l6 d).2 ?_;refine B [] fun _ D h=>?_;refine H5 D ?_;refine S [3] ?_;refine K6 (l6 d).2 ?_;refine S [12] ?_;refine sD (l6 d).2 (⟨i.aK,i.aN,i.aY,i.code,i.aU,i.args,i.a8,i.aA,(wr (i.aJ+(1:Int)))⟩:j3) ?_;refine kd [0,2,3,4] [4,1000,1001,1002,1003] ?_;refine S [3] ?_;refine J e0 hn h (fun s=>[]) (fun s=>[(501,.aF),(502,p9 s.2.2.2.2.2.2.1 [] 501),(509,.aF),(510,F3 s.2.1 [] 509),(1000,.box [.ptr 1001 0,.fn b [.fp a],.fn c [],.int s.2.2.2.1,.int s.2.2.2.2.1,.int s.2.2.2.2.2.1,.aL 502,.int s.2.2.2.2.2.2.2.1,.int s.2.2.2.2.2.2.2.2.1,.int s.2.2.2.2.2.2.2.2.2] 251),(1001,.box [E9 s.1,.aL 510,.int s.2.2.1] 40),(1002,.aF),(1003,.aF)]) [0] [] (fun _ h g=>?_) ?_
 ·refine S [6,3] ?_;refine J e0 hn h (fun s=>[]) (fun s=>[(501,.aF),(502,p9 s.2.2.2.2.2.2.1 [] 501),(509,.aF),(510,F3 s.2.1 [] 509),(1000,.box [.ptr 1001 0,.fn b [.fp a],.fn c [],.int s.2.2.2.1,.int s.2.2.2.2.1,.int s.2.2.2.2.2.1,.aL 502,.int s.2.2.2.2.2.2.2.1,.int s.2.2.2.2.2.2.2.2.1,.int s.2.2.2.2.2.2.2.2.2] 251),(1001,.box [E9 s.1,.aL 510,.int s.2.2.1] 40),(1002,.aF),(1003,.aF)]) [0] [] (fun _ h g=>?_) ?_
  ·refine I [4] ?_ ?_<;>intro _ h
   ·refine B [5] fun _ q h=>?_;refine cA (((Ek q z C).sw 5 501).sw 4 502) ?_;refine gE (gR 1001 1 1002 503 504) ?_;exact je [(510,503),(509,504)]
   refine S [3] ?_;refine J e0 hn h (fun s=>[]) (fun s=>[(88,p9 s.2.2.2.2.2.2.1 [] 505),(505,.aF),(511,.aF),(512,F3 s.2.1 [] 511),(1000,.box [.ptr 1001 0,.fn b [.fp a],.fn c [],.int s.2.2.2.1,.int s.2.2.2.2.1,.int s.2.2.2.2.2.1,.aL 88,.int s.2.2.2.2.2.2.2.1,.int s.2.2.2.2.2.2.2.2.1,.int s.2.2.2.2.2.2.2.2.2] 251),(1001,.box [E9 s.1,.aL 512,.int s.2.2.1] 40),(1002,.aF),(1003,.aF)]) [0] [] (fun _ h g=>?_) ?_
   ·refine I [4] ?_ ?_<;>intro _ h
    ·refine B [5] fun _ t h=>?_;refine cA ((zz t).sw 5 505) ?_;refine gE (gR 1001 1 1002 506 507) ?_;refine gE (gR 1000 6 1003 508 509) ?_;exact je [(512,506),(511,507),(88,508),(505,509)]
    refine S [3] ?_;refine J e0 hn h (fun s=>[]) (fun s=>[(88,p9 s.2.2.2.2.2.2.1 [] 511),(511,.aF),(515,.aF),(516,F3 s.2.1 [] 515),(1000,.box [.ptr 1001 0,.fn b [.fp a],.fn c [],.int s.2.2.2.1,.int s.2.2.2.2.1,.int s.2.2.2.2.2.1,.aL 88,.int s.2.2.2.2.2.2.2.1,.int s.2.2.2.2.2.2.2.2.1,.int s.2.2.2.2.2.2.2.2.2] 251),(1001,.box [E9 s.1,.aL 516,.int s.2.2.1] 40),(1002,.aF),(1003,.aF)]) [0] [] (fun _ h g=>?_) ?_
    ·refine I [4] ?_ ?_<;>intro _ h
     ·refine B [3] fun _ u h=>?_;refine cA ((Q0 u).sw 5 510) ?_;refine S [3] ?_;refine J e0 hn h (fun s=>[]) (fun s=>[(511,.aF),(1000,.box [.ptr 1001 0,.fn b [.fp a],.fn c [],.int s.1,.int s.2.1,.int s.2.2.1,.aL 1003,.int s.2.2.2.2.1,.int s.2.2.2.2.2.1,.int s.2.2.2.2.2.2] 251),(1003,p9 s.2.2.2.1 [] 511)]) [0] [1001,1002] (fun _ h g=>?_) ?_
      ·refine S [6] ?_;refine kd [0,2,4,61] [4,510,1000,1001,1002,1003] ?_;refine S [3] ?_;refine J e0 hn h (fun s=>[]) (fun s=>[(511,.aF),(1000,.box [.ptr 1001 0,.fn b [.fp a],.fn c [],.int s.1,.int s.2.1,.int s.2.2.1,.aL 1003,.int s.2.2.2.2.1,.int s.2.2.2.2.2.1,.int s.2.2.2.2.2.2] 251),(1003,p9 s.2.2.2.1 [] 511)]) [0] [1001,1002] (fun _ h g=>?_) ?_
       ·refine I [4] ?_ ?_<;>intro _ h
        ·refine B [5] fun _ v h=>?_;refine cA (((zz v).sw 1005 510).sw 5 511) ?_;exact je
        refine S [3] ?_;refine J e0 hn h (fun s=>[]) (fun s=>[(1000,.box [.ptr 1001 0,.fn b [.fp a],.fn c [],.int s.1,.int s.2.1,.int s.2.2.1,.aL 1003,.int s.2.2.2.1,.int s.2.2.2.2.1,.int s.2.2.2.2.2] 251)]) [0] [510,1001,1002,1003] (fun _ h g=>?_) ?_
        ·refine I [4] ?_ ?_<;>intro _ h
         ·exact Sj [1]
         refine B [5] fun _ x h=>?_;refine cA (K8 x) ?_;exact je
        rintro⟨v78,v79,v80,v81,v82,v83⟩ h;exact je [(511,510)]
       rintro⟨v67,v68,v69,v70,v71,v72,v73⟩ h;exact je
      rintro⟨v59,v60,v61,v62,v63,v64,v65⟩ h;refine gE (gR 1001 1 1002 512 513) ?_;refine gE (gR 1000 6 1003 514 515) ?_;exact je [(516,512),(515,513),(88,514),(511,515)]
     refine S [3] ?_;refine J e0 hn h (fun s=>[]) (fun s=>[(88,p9 s.2.2.2.2.2.2.1 [] 517),(517,.aF),(519,.aF),(520,F3 s.2.1 [] 519),(1000,.box [.ptr 1001 0,.fn b [.fp a],.fn c [],.int s.2.2.2.1,.int s.2.2.2.2.1,.int s.2.2.2.2.2.1,.aL 88,.int s.2.2.2.2.2.2.2.1,.int s.2.2.2.2.2.2.2.2.1,.int s.2.2.2.2.2.2.2.2.2] 251),(1001,.box [E9 s.1,.aL 520,.int s.2.2.1] 40),(1002,.aF),(1003,.aF)]) [0] [] (fun _ h g=>?_) ?_
     ·refine I [4] ?_ ?_<;>intro _ h
      ·refine B [3] fun _ k h=>?_;refine cA ((Q0 k).sw 5 516) ?_;refine S [2] ?_;refine kd [0,6] [6,516,1000,1001,1002,1003] ?_;refine A [8,13,12] fun j h=>?_;refine j8 j rfl rfl ?_;refine B [5] fun _ l h=>?_;refine cA ((((zw l).sw 1003 88).sw 1005 788).sw 5 517) ?_;refine gE (gR 1001 1 1002 518 519) ?_;exact je [(520,518)]
      refine S [3] ?_;refine J e0 hn h (fun s=>[]) (fun s=>[(520,.aF),(521,.aF),(522,F3 s.2.1 [] 521),(1000,.box [.ptr 1001 0,.fn b [.fp a],.fn c [],.int s.2.2.2.1,.int s.2.2.2.2.1,.int s.2.2.2.2.2.1,.aL 1003,.int s.2.2.2.2.2.2.2.1,.int s.2.2.2.2.2.2.2.2.1,.int s.2.2.2.2.2.2.2.2.2] 251),(1001,.box [E9 s.1,.aL 522,.int s.2.2.1] 40),(1002,.aF),(1003,p9 s.2.2.2.2.2.2.1 [] 520)]) [0] [] (fun _ h g=>?_) ?_
      ·refine I [4] ?_ ?_<;>intro _ h
       ·refine B [5] fun _ m h=>?_;refine cA ((Ey m).sw 5 520) ?_;refine gE (gR 1001 1 1002 521 522) ?_;exact je [(522,521),(521,522)]
       refine S [3] ?_;refine J e0 hn h (fun s=>[]) (fun s=>[(523,.aF),(524,F3 s.2.1 [] 523),(525,.aF),(1000,.box [.ptr 1001 0,.fn b [.fp a],.fn c [],.int s.2.2.2.1,.int s.2.2.2.2.1,.int s.2.2.2.2.2.1,.aL 1003,.int s.2.2.2.2.2.2.2.1,.int s.2.2.2.2.2.2.2.2.1,.int s.2.2.2.2.2.2.2.2.2] 251),(1001,.box [E9 s.1,.aL 524,.int s.2.2.1] 40),(1002,.aF),(1003,p9 s.2.2.2.2.2.2.1 [] 525)]) [0] [] (fun _ h g=>?_) ?_
       ·refine I [4] ?_ ?_<;>intro _ h
        ·refine kd [0] [1000,1001,1002,1003] ?_;refine B [5] fun _ n h=>?_;refine cA (wC n) ?_;refine gE (gR 1001 1 1002 523 524) ?_;refine gE (gS 1003 525) ?_;exact je [(524,523),(523,524)]
        refine kd [0,2,4] [4,1000,1001,1002,1003] ?_;refine B [5] fun _ o h=>?_;refine cA ((((Ej o).sw 3 526).sw 2 527).sw 5 528) ?_;exact je [(524,527),(523,526),(525,528)]
       rintro⟨R,T,U,V,W,X,Y,Z,v128,v129⟩ h;exact je [(522,524),(521,523),(520,525)]
      rintro⟨E,F,G,H,K,L,M,O,P,Q⟩ h;refine gE (gR 1000 6 1003 529 530) ?_;exact je [(520,522),(519,521),(88,529),(517,530)]
     rintro⟨v88,v89,v90,v91,v92,v93,v94,v95,v96,v97⟩ h;exact je [(516,520),(515,519),(511,517)]
    rintro⟨v45,v46,v47,v48,v49,v50,v51,v52,v53,v54⟩ h;exact je [(512,516),(511,515),(505,511)]
   rintro⟨v31,v32,v33,v34,v35,v36,v37,v38,v39,v40⟩ h;exact je [(510,512),(509,511),(502,88),(501,505)]
  rintro⟨v17,v18,v19,v20,v21,v22,v23,v24,v25,v26⟩ h;exact je
 rintro⟨v6,v7,v8,v9,v10,v11,v12,v13,v14,v15⟩ h;exact Sr [14] [(2,510),(3,509),(4,502),(5,501)]
def G3 {N a0 a1 a2 g3 g4 r} (h:iL N a0 a1 a2 g3 g4=some r) {f:Nat} {b:List AV} (x:∀c d u e,g3 c d u=some e->Spec prog f [] [.agg (bW c),.int d,.str u,.fp b] (.ab [.int e.1,.int e.2]) [] []) {i:Nat} (j:∀c d e,g4 c d=some e->Spec prog i [] [.int c,.int d] (.ab [.agg (ed e.1),.bool e.2]) [] []):Spec prog 125 [] [.agg (Q7 a0),.agg (kR a1),.int a2,.fn f [.fp b],.fn i []] (.ab [.agg (Q7 r.1),.agg (lX r.2)]) [] []:=by
 refine so func125 ntmps125 fun Γ hn=>?_;unfold iL at h;refine B [3,2,3] fun _ y h=>?_;refine cA (wJ y) ?_;refine I [3,4] ?_ ?_<;>intro _ h
 ·refine B [3] fun _ z h=>?_;refine cA (((jU z).sw 0 24).sw 1 724) ?_;refine j6.b9 24 rfl ?_;exact Sr [7]
 refine B [1,3] fun D A h=>?_;refine cA (((jU A).sw 0 28).sw 1 728) ?_;refine kd [2,3,4,5,6,10,11,13] [5,6,10,11,13,28,728] ?_;refine B [3,2,2,8] fun _ C h=>?_;refine cD (kC C) ?_;refine B [] fun _ m h=>?_;refine cD (jT m) ?_;refine kd [5,6,10,11,13,14,15,16] [5,6,10,11,13,28,33,728] ?_;refine S [3] ?_;refine nB 33 6 501 10 288 ?_;refine gC (gT 501 502 [(7,(2,29)),(8,(2,29))]) ?_;refine J e0 hn h (fun s=>[]) (fun s=>[(33,.box [.ptr 13 0,.fn f [.fp b],.fn i [],.int s.1,.int s.2.1,.int s.2.2.1,.aL 501,.int s.2.2.2.2.1,.int s.2.2.2.2.2.1,.int s.2.2.2.2.2.2] 251),(501,p9 s.2.2.2.1 [] 502)]) [5,10,11,13,14] [5,10,11,13,28,502,728] (fun _ h g=>?_) ?_
 ·refine I [4] ?_ ?_<;>intro _ h
  ·refine B [5] fun _ o h=>?_;refine cA ((((K8 o).sw 1000 33).sw 1001 13).sw 1003 501) ?_;exact je
  refine B [5] fun _ p h=>?_;refine cA ((zu p j).ay [(1000,33),(1001,13),(1003,501),(1002,28),(1005,502),(5,503),(4,504)] rfl) ?_;exact je [(501,504),(502,503)]
 rintro⟨E,F,G,H,K,L,M⟩ h;refine S [2] ?_;refine LF e0 hn (D.a7,D.heap,D.aB,E,F,G,H,K,L,M) (fun l v=>kI N g3 g4 l v.1 v.2.1 v.2.2.1 v.2.2.2.1 v.2.2.2.2.1 v.2.2.2.2.2.1 v.2.2.2.2.2.2.1 v.2.2.2.2.2.2.2.1 v.2.2.2.2.2.2.2.2.1 v.2.2.2.2.2.2.2.2.2) h (fun v=>[]) (fun v=>[(13,.box [E9 v.1,.aL 28,.int v.2.2.1] 40),(28,F3 v.2.1 [] 728),(33,.box [.ptr 13 0,.fn f [.fp b],.fn i [],.int v.2.2.2.1,.int v.2.2.2.2.1,.int v.2.2.2.2.2.1,.aL 501,.int v.2.2.2.2.2.2.2.1,.int v.2.2.2.2.2.2.2.2.1,.int v.2.2.2.2.2.2.2.2.2] 251),(501,p9 v.2.2.2.2.2.2.1 [] 502)]) [5,10,11,13,14] [5,10,11,502,728] [] (fun s=>[]) (fun s=>[(13,.box [E9 s.1,.aL 28,.int s.2.2.1] 40),(28,F3 s.2.1 [] 728),(33,.box [.ptr 13 0,.fn f [.fp b],.fn i [],.int s.2.2.2.1,.int s.2.2.2.2.1,.int s.2.2.2.2.2.1,.aL 501,.int s.2.2.2.2.2.2.2.1,.int s.2.2.2.2.2.2.2.2.1,.int s.2.2.2.2.2.2.2.2.2] 251),(501,p9 s.2.2.2.2.2.2.1 [] 502)]) [5,10,11,13,14] [5,10,11,502,728] ?_ ?_
 ·rintro _ g ⟨P,Q,R,T,U,V,W,X,Y,Z⟩ O h;rw[kI] at h;refine S [2,2] ?_;refine Jb 70 hn h [5,10,11,13,14] [5,10,11,13,28,33,501,502,728] (fun _ h g=>?_) ?_
  ·refine I [5] ?_ ?_<;>intro _ h
   ·exact Sj [0,13,0]
   exact Sj [0]
  intro v60 h;refine I [4] ?_ ?_<;>intro _ h
  ·refine B [1,6,5] fun a q h=>?_;refine cA ((El q x j).ay [(1000,33),(1001,13),(1003,501),(1002,28),(1004,728),(1005,502),(3,505),(2,506),(5,507),(4,508)] rfl) ?_;exact le (a.w.a7,a.w.heap,a.w.aB,a.aE,a.aH,a.aO,a.aG,a.back.k,a.back.n,a.err) [(28,506),(728,505),(501,508),(502,507)]
  exact Sj [20]
 rintro⟨v46,v47,v48,v49,v50,v51,v52,v53,v54,v55⟩ h;refine I [2,3,4] ?_ ?_<;>intro _ h
 ·refine B [2,8] fun _ t h=>?_;refine cA (((jU t).sw 0 79).sw 1 779) ?_;refine j6.b9 79 rfl ?_;exact Sr [7]
 refine S [1,2,8] ?_;refine j6.b9 28 rfl ?_;exact Sr [7]
def FQ {N a0 a1 a2 b0 r} (h:p7 N a0 a1 a2 b0=some r):Spec prog 126 [] [.agg (bW a0),.int a1,.str a2,.fp (Q7 b0)] (.ab [.int r.1,.int r.2]) [] []:=by
 refine so func126 ntmps126 fun b hn=>?_;unfold p7 at h;refine B [3,3] fun _ a h=>?_;refine cA (jT a) ?_;exact Sr [7]
def BX {N a0 a1 r} (h:pY N a0 a1=some r):Spec prog 127 [] [.int a0,.int a1] (.ab [.agg (ed r.1),.bool r.2]) [] []:=by
 refine so func127 ntmps127 fun a hn=>?_;unfold pY at h;exact Sr [3,3,7]
def HK {N a0 a1 a2 r} (h:sS N a0 a1 a2=some r):Spec prog 99 [] [.agg (Q7 a0),.agg (kR a1),.int a2] (.ab [.agg (Q7 r.1),.agg (lX r.2)]) [] []:=by
 refine so func99 ntmps99 fun c hn=>?_;unfold sS at h;refine S [3] ?_;refine j6.gh (Gh.bF 3 3 rfl rfl rfl) (fun _=>?_);refine kd [2,3,4,6,7] [4,6,7] ?_;refine B [3] fun _ b h=>?_;refine cA (G3 b (fun _ _ _ _ a=>FQ a) (fun _ _ _ a=>BX a)) ?_;exact Sr [7]
def J7 {N a0 a1 r} (h:F5 N a0 a1=some r) {b:Nat} {a:List AV} {c:Nat}:Spec prog 165 [(1000,mB a0 (.fn b [.ptr 1007 0,.fp a]) (.fn c []) 1001 1003)] [.ptr 1000 0,.int a1] (.ab []) [(1000,mB r (.fn b [.ptr 1007 0,.fp a]) (.fn c []) 1001 1003)] []:=by
 refine so func165 ntmps165 fun e hn=>?_;unfold F5 at h;refine S [15,3] ?_;refine J e0 hn h (fun s=>[]) (fun s=>[(1000,.box [.ptr 1001 0,.fn b [.ptr 1007 0,.fp a],.fn c [],.int a0.aE,.int a0.aH,.int a0.aO,.aL 1003,.int a0.back.k,.int a0.back.n,.int s] 251)]) [0] [] (fun _ h g=>?_) ?_
 ·refine I [4] ?_ ?_<;>intro _ h
  ·exact Sj [5]
  exact Sj [1]
 intro d h;exact Sr [14]
def wB {N a0 a1 r} (h:N7 N a0 a1=some r) {d:Nat} {a:List AV} {e:Nat}:Spec prog 195 [(1000,mB a0 (.fn d [.ptr 1007 0,.fp a]) (.fn e []) 1001 1003),(1003,p9 a0.aG [] 1005)] [.ptr 1000 0,.bool a1] (.bool r.1) [(1000,mB r.2 (.fn d [.ptr 1007 0,.fp a]) (.fn e []) 1001 1003),(1003,p9 a0.aG [] 1005)] []:=by
 refine so func195 ntmps195 fun w hn=>?_;unfold N7 at h;refine S [3,2] ?_;refine J e1 hn h (fun s=>[]) (fun s=>[(1000,.box [.ptr 1001 0,.fn d [.ptr 1007 0,.fp a],.fn e [],.int s.1,.int s.2.1,.int s.2.2.1,.aL 1003,.int s.2.2.2.1,.int s.2.2.2.2.1,.int s.2.2.2.2.2] 251)]) [0] [1003] (fun _ h g=>?_) ?_
 ·refine S [6,2,8] ?_;refine J e1 hn h (fun s=>[]) (fun s=>[(1000,.box [.ptr 1001 0,.fn d [.ptr 1007 0,.fp a],.fn e [],.int s.1,.int s.2.1,.int s.2.2.1,.aL 1003,.int s.2.2.2.1,.int s.2.2.2.2.1,.int s.2.2.2.2.2] 251)]) [0] [1003] (fun _ h g=>?_) ?_
  ·refine I [4] ?_ ?_<;>intro _ h
   ·refine B [5] fun _ b h=>?_;refine cA (J7 b) ?_;exact je
   refine S [2] ?_;refine Jb 24 hn h [0] [1000,1003] (fun _ h g=>?_) ?_
   ·refine I [5] ?_ ?_<;>intro _ h
    ·exact Sj [0,13,0]
    exact Sj [0]
   intro l h;refine I [4] ?_ ?_<;>intro _ h
   ·refine B [5] fun _ c h=>?_;refine cA (J7 c) ?_;exact je
   exact Sr [3,12,3,7]
  rintro⟨u,v,f,i,j,k⟩ h;exact je
 rintro⟨m,n,o,p,q,t⟩ h;exact Sr [3,7]
def zr {N a0 a1 r} (h:Q6 N a0 a1=some r) {e:Nat} {c:List AV} {f:Nat}:Spec prog 197 [(1000,mB a0 (.fn e [.ptr 1007 0,.fp c]) (.fn f []) 1001 1003),(1003,p9 a0.aG [] 1005)] [.ptr 1000 0,.agg (eV a1)] (.ab []) [(1000,mB r (.fn e [.ptr 1007 0,.fp c]) (.fn f []) 1001 1003),(1003,p9 r.aG [] 5),(5,.aF)] [5]:=by
 refine so func197 ntmps197 fun i hn=>?_;unfold Q6 at h;refine I [15,3,2,3,13,4] ?_ ?_<;>intro _ h
 ·refine S [3] ?_;refine gC (gS 1003 501) ?_;exact Sr [7] [(5,501)]
 refine B [1,2,8,13,12] fun b a h=>?_;refine iD a ?_;refine gC (gD 1003 502 503 ((wr ((a0.aG.length:Int)-(1:Int))).toNat) 8 (l6 a).2) ?_;refine kd [0,3,4] [3,502,503,1000,1003] ?_;refine S [8] ?_;refine hD (l6 a).2 ?_;refine bS eV [a1] ?_;refine A [] fun d h=>?_;refine aM d ?_;refine hS (l6 a).2 ?_;refine gE (gA 1003 33 504 ((wr ((a0.aG.length:Int)-(1:Int))).toNat) 8 ((l6 a).2) (⟨b.aK,b.aN,b.aY,b.code,b.aU,b.args,b.a8,(b.aA++[a1]),b.aJ⟩:j3)) ?_;exact Sr [14] [(5,504)]
def zY {N a0 gq a1 a2 a3 a4 r} (h:M9 N a0 gq a1 a2 a3 a4=some r) {K:Nat} {a:List AV} {v:Nat} (y:∀t u H,gq t u=some H->Spec prog v [] [.int t,.int u] (.ab [.agg (ed H.1),.bool H.2]) [] []):Spec prog 166 [(1000,mB a0 (.fn K [.ptr 1007 0,.fp a]) (.fn v []) 1001 1003),(1001,.box [E9 a0.w.a7,.aL 1002,.int a0.w.aB] 40),(1003,p9 a0.aG [] 1005)] [.ptr 1000 0,.int a1,.int a2,.agg (eV a3),zN a4] (.ab []) [(1000,mB r (.fn K [.ptr 1007 0,.fp a]) (.fn v []) 1001 4),(1001,.box [E9 a0.w.a7,.aL 1002,.int a0.w.aB] 40),(4,p9 r.aG [] 5),(5,.aF),(1003,.aF)] [5,4]:=by
 refine so func166 ntmps166 fun L hn=>?_;unfold M9 at h;refine B [15,3,3] fun _ C h=>?_;refine H5 C ?_;refine B [] fun _ D h=>?_;refine H5 D ?_;refine S [2] ?_;refine kd [0,1,2,4,8,10] [8,1000,1001,1003] ?_;refine I [3,13,4] ?_ ?_<;>intro _ h
 ·refine B [3] fun _ z h=>?_;refine cA (J7 z) ?_;refine gC (gR 1000 6 1003 501 502) ?_;exact Sr [7] [(4,501),(5,502)]
 refine I [1,2,3,4] ?_ ?_<;>intro _ h
 ·refine S [2] ?_;refine kd [0,4,8,10] [8,1000,1001,1003] ?_;refine B [3] fun _ e h=>?_;refine cA (wB e) ?_;refine I [4] ?_ ?_<;>intro _ h
  ·refine gC (gR 1000 6 1003 503 504) ?_;exact Sr [7] [(4,503),(5,504)]
  refine B [1,2,8] fun _ p h=>?_;refine H5 p ?_;refine B [] fun _ f h=>?_;refine cA (wa f) ?_;refine S [2] ?_;refine kd [0,11,12] [11,1000,1001,1003] ?_;refine I [3,4] ?_ ?_<;>intro _ h
  ·refine B [3] fun _ i h=>?_;refine cA (J7 i) ?_;refine gC (gR 1000 6 1003 505 506) ?_;exact Sr [7] [(4,505),(5,506)]
  refine B [1,3] fun _ j h=>?_;refine cA ((zr j).sw 5 507) ?_;refine gC (gR 1000 6 1003 508 509) ?_;exact Sr [7] [(4,508),(5,509)]
 refine S [1,2] ?_;refine kd [0,1,2,4,8,10] [8,1000,1001,1003] ?_;refine B [3] fun _ l h=>?_;refine cA (wB l) ?_;refine I [4] ?_ ?_<;>intro _ h
 ·refine gC (gR 1000 6 1003 510 511) ?_;exact Sr [7] [(4,510),(5,511)]
 refine S [1,2] ?_;refine kd [0,1,2,4,8,10] [8,1000,1001,1003] ?_;refine B [8] fun E m h=>?_;refine cA ((mf N _ _ m).sw 0 77) ?_;refine A [] fun b h=>?_;refine mN (enc:=eV) (x:=(⟨(0:Int),(0:Int)⟩:V)) b aT ?_;refine S [2] ?_;refine kd [0,1,2,13] [13,77,82,1000,1001,1003] ?_;refine B [3] fun _ o h=>?_;refine cA (y _ _ _ o) ?_;refine S [3] ?_;refine J e0 hn h (fun s=>[]) (fun s=>[(13,.box [.int a1,.int a2,.bool s.1,oT s.2.1,.int a3.k,.int a3.n,.aL 77,.aL 99,.aP,.int (0:Int)] 288),(99,ia s.2.2)]) [0,13] [77,1000,1001,1003] (fun _ h g=>?_) ?_
 ·refine I [4] ?_ ?_<;>intro _ h
  ·refine kd [0,13,14] [13,14,77,82,1000,1001,1003] ?_;refine A [8] fun c h=>?_;refine mN (enc:=eV) (x:=(⟨(0:Int),(0:Int)⟩:V)) c aT ?_;exact je
  exact Sj [1] [(99,82)]
 rintro⟨F,G,q⟩ h;refine j6.ax 77 rfl ?_;refine kd [0,13] [13,99,1000,1001,1003] ?_;refine S [8,11] ?_;refine Exists.intro [(7,(2,29)),(8,(2,29))] (Exists.intro (vW (⟨a1,a2,F,G,a3,E,q,[],(0:Int)⟩:j3)) (Exists.intro [(99,ia q)] (AN rfl (AN rfl (AN rfl (AN E5 (AN E5 (AN rfl (AN rfl ?_)))))))));refine A [] fun d h=>?_;refine aD d ?_;exact Sr [14] [(4,110),(5,810)]
def F0 {N a0 gl gq sb a1 a2 a3 r} (h:rD N a0 gl gq sb a1 a2 a3=some r) {u:Nat} {c:List AV} (y:∀d f t E i,gl d f t E=some i->Spec prog u [(1007,.box (eL E) 153)] [.agg (bW d),.int f,.str t,.ptr 1007 0,.fp c] (.ab [.int i.1,.int i.2.1]) [(1007,.box (eL i.2.2) 153)] []) {v:Nat} (z:∀d f i,gq d f=some i->Spec prog v [] [.int d,.int f] (.ab [.agg (ed i.1),.bool i.2]) [] []):Spec prog 198 [(1000,mB a0 (.fn u [.ptr 1007 0,.fp c]) (.fn v []) 1001 1003),(1001,.box [E9 a0.w.a7,.aL 1002,.int a0.w.aB] 40),(1002,F3 a0.w.heap [] 1004),(1003,p9 a0.aG [] 1005),(1007,.box (eL sb) 153)] [.ptr 1000 0,.ep 1003 a1 10 0,.agg (bc a2),.int a3] (.ab []) [(1000,mB r.2 (.fn u [.ptr 1007 0,.fp c]) (.fn v []) 1001 4),(1001,.box [E9 a0.w.a7,.aL 1002,.int a0.w.aB] 40),(1002,F3 a0.w.heap [] 1004),(4,p9 r.2.aG [] 5),(5,.aF),(1003,.aF),(1007,.box (eL r.1) 153)] [5,4]:=by
 refine so func198 ntmps198 fun G hn=>?_;unfold rD at h;refine B [15,3,2] fun e b h=>?_;refine gC (gD 1003 501 502 a1 8 b) ?_;refine kd [0,1,3,6] [6,501,502,1000,1001,1002,1003,1007] ?_;refine S [8] ?_;refine hD b ?_;refine S [13,12,2] ?_;refine kd [0,1,3,6,8] [6,501,502,1000,1001,1002,1003,1007] ?_;refine S [8] ?_;refine hD b ?_;refine A [] fun x h=>?_;refine d25 x rfl rfl ?_;refine B [] fun _ C h=>?_;refine qB ((Spec.drop1 (mf N _ _ C)).sw 0 28) ⟨d73 _,trivial⟩ ?_;refine hD b ?_;refine B [12] fun _ q h=>?_;refine X8 q ?_;refine K6 (l6 q).2 ?_;refine S [2] ?_;refine gC (gB 1003 501 503 a1 8 b) ?_;refine kd [0,1,3,6,8,9,10] [6,10,28,503,1000,1001,1002,1003,1007] ?_;refine S [8] ?_;refine K6 b ?_;refine K6 b ?_;refine B [] fun _ o h=>?_;refine H5 o ?_;refine K6 b ?_;refine B [] fun D p h=>?_;refine H5 p ?_;refine S [2] ?_;refine kd [0,1,6,8,9,10,11] [6,10,11,28,503,1000,1001,1002,1003,1007] ?_;refine S [3] ?_;refine K6 b ?_;refine J e0 hn h (fun s=>[]) (fun s=>[(11,.box [.int e.aK,.str D.name,.int s] 156)]) [0,1,6,8,9,10,11] [6,10,28,503,1000,1001,1002,1003,1007] (fun _ h g=>?_) ?_
 ·refine I [4] ?_ ?_<;>intro _ h
  ·exact Sj [5]
  exact Sj [1]
 intro F h;refine S [2] ?_;refine kd [0,1,6,8,9,10,11] [6,10,11,28,503,1000,1001,1002,1003,1007] ?_;refine B [8] fun _ k h=>?_;refine cD (kC k) ?_;refine B [] fun _ l h=>?_;refine cA (y _ _ _ _ _ l) ?_;refine S [2] ?_;refine kd [0,1,8,9,10,12,13] [10,28,503,1000,1001,1002,1003,1007] ?_;refine I [3,4] ?_ ?_<;>intro _ h
 ·refine B [3] fun _ m h=>?_;refine cA (J7 m) ?_;refine gC (gR 1000 6 1003 504 505) ?_;exact Sr [7] [(4,504),(5,505)]
 refine S [1] ?_;refine gC (gD 1003 506 507 a1 8 b) ?_;refine kd [0,1,8,9,10,12,13] [10,28,506,507,1000,1001,1002,1003,1007] ?_;refine S [3] ?_;refine hD b ?_;refine A [12] fun j h=>?_;refine j8 j rfl rfl ?_;refine hS b ?_;refine gC (gA 1003 102 508 a1 8 b (⟨e.aK,e.aN,e.aY,e.code,e.aU,e.args,e.a8,(e.aA.take (wr ((wr ((e.aA.length:Int)-a2.a))-(1:Int))).toNat),e.aJ⟩:j3)) ?_;refine kd [0,1,9,10,12,13] [10,28,508,1000,1001,1002,1003,1007] ?_;refine B [5] fun _ n h=>?_;refine cF ((((zY n z).sw 1005 508).sw 5 509).sw 4 510) ?_;exact Sr [14] [(4,510),(5,509)]
def zs {N a0 a1 a2 r} (h:P9 N a0 a1 a2=some r) {e:Nat} {a:List AV} {f:Nat}:Spec prog 199 [(1000,mB a0 (.fn e [.ptr 1007 0,.fp a]) (.fn f []) 1001 1003),(1003,p9 a0.aG [] 1005)] [.ptr 1000 0,.ep 1003 a1 10 0,.int a2] (.ab []) [(1000,mB r (.fn e [.ptr 1007 0,.fp a]) (.fn f []) 1001 1003),(1003,p9 r.aG [] 5),(5,.aF)] [5]:=by
 refine so func199 ntmps199 fun w hn=>?_;unfold P9 at h;refine B [15,2,3] fun b d h=>?_;refine K6 d ?_;refine J e0 hn h (fun s=>[]) (fun s=>[(1000,.box [.ptr 1001 0,.fn e [.ptr 1007 0,.fp a],.fn f [],.int s.1,.int s.2.1,.int s.2.2.1,.aL 1003,.int s.2.2.2.1,.int s.2.2.2.2.1,.int s.2.2.2.2.2] 251)]) [0,1,2] [1003] (fun _ h g=>?_) ?_
 ·refine I [4] ?_ ?_<;>intro _ h
  ·refine S [3,12,3] ?_;refine J e0 hn h (fun s=>[]) (fun s=>[(1000,.box [.ptr 1001 0,.fn e [.ptr 1007 0,.fp a],.fn f [],.int s.1,.int s.2.1,.int s.2.2.1,.aL 1003,.int s.2.2.2.1,.int s.2.2.2.2.1,.int s.2.2.2.2.2] 251)]) [0,1,2] [1003] (fun _ h g=>?_) ?_
   ·refine I [4] ?_ ?_<;>intro _ h
    ·refine kd [0,1,2] [1000,1003] ?_;refine B [5] fun _ c h=>?_;refine cA (J7 c) ?_;exact je
    exact Sj [1]
   rintro⟨i,j,k,l,m,n⟩ h;exact je
  exact Sj [1]
 rintro⟨o,p,q,t,u,v⟩ h;refine S [5] ?_;refine sD d (⟨b.aK,b.aN,b.aY,b.code,b.aU,b.args,b.a8,b.aA,a2⟩:j3) ?_;refine gE (gS 1003 501) ?_;exact Sr [14] [(5,501)]
def Et {N a0 a1 a2 r} (h:V7 N a0 a1 a2=some r) {m:Nat} {e:List AV} {n:Nat}:Spec prog 201 [(1000,mB a0 (.fn m [.ptr 1007 0,.fp e]) (.fn n []) 1001 1003),(1001,.box [E9 a0.w.a7,.aL 1002,.int a0.w.aB] 40),(1002,F3 a0.w.heap [] 1004),(1003,p9 a0.aG [] 1005)] [.ptr 1000 0,.ep 1003 a1 10 0,.agg (bc a2)] (.ab []) [(1000,mB r (.fn m [.ptr 1007 0,.fp e]) (.fn n []) 1001 1003),(1001,.box [E9 a0.w.a7,.aL 1002,.int a0.w.aB] 40),(1002,F3 a0.w.heap [] 1004),(1003,p9 r.aG [] 5),(5,.aF)] [5]:=by
 refine so func201 ntmps201 fun o hn=>?_;unfold V7 at h;refine B [15,3,2,2] fun b a h=>?_;refine gC (gD 1003 501 502 a1 8 a) ?_;refine kd [0,1,5] [5,501,502,1000,1001,1002,1003] ?_;refine S [8] ?_;refine hD a ?_;refine hD a ?_;refine B [13,12,12] fun _ k h=>?_;refine X8 k ?_;refine K6 (l6 k).2 ?_;refine B [] fun _ l h=>?_;refine cD (kC l) ?_;refine I [4] ?_ ?_<;>intro _ h
 ·refine gC (gB 1003 501 503 a1 8 a) ?_;exact Sr [7] [(5,503)]
 refine S [1,2] ?_;refine gC (gB 1003 501 504 a1 8 a) ?_;refine kd [0,1,5] [5,504,1000,1001,1002,1003] ?_;refine S [8] ?_;refine K6 a ?_;refine B [] fun _ i h=>?_;refine H5 i ?_;refine K6 a ?_;refine B [] fun d j h=>?_;refine H5 j ?_;refine gC (gD 1003 505 506 a1 7 a) ?_;refine kd [0,1,5,6] [5,505,506,1000,1001,1002,1003] ?_;refine S [8] ?_;refine hD a ?_;refine A [] fun f h=>?_;refine j8 f rfl rfl ?_;refine sD a (⟨b.aK,b.aN,false,b.code,b.aU,b.args,b.a8,b.aA,b.aJ⟩:j3) ?_;refine sD (setAt a) (⟨b.aK,b.aN,false,d.code,b.aU,b.args,b.a8,b.aA,b.aJ⟩:j3) ?_;refine hS (setAt (setAt a)) ?_;refine sD (setAt (setAt a)) (⟨b.aK,b.aN,false,d.code,b.aU,b.args,b.a8,b.aA,a2.c⟩:j3) ?_;refine gE (gA 1003 68 507 a1 7 (setAt (setAt (setAt a))) (⟨b.aK,b.aN,false,d.code,b.aU,b.args,(b.a8.take d.a8.toNat),b.aA,a2.c⟩:j3)) ?_;exact Sr [14] [(5,507)]
def zy {N a0 a1 a2 a3 r} (h:jS N a0 a1 a2 a3=some r) {j:Nat} {c:List AV} {k:Nat}:Spec prog 229 [(1000,mB a0 (.fn j [.ptr 1007 0,.fp c]) (.fn k []) 1001 1003),(1001,.box [E9 a0.w.a7,.aL 1002,.int a0.w.aB] 40),(1002,F3 a0.w.heap [] 1004)] [.ptr 1000 0,.agg (eV a1),.int a2,.agg (eV a3)] (.ab []) [(1000,mB r (.fn j [.ptr 1007 0,.fp c]) (.fn k []) 1001 1003),(1001,.box [E9 a0.w.a7,.aL 1002,.int a0.w.aB] 40),(1002,F3 r.w.heap [] 3),(3,.aF)] [3]:=by
 refine so func229 ntmps229 fun p hn=>?_;unfold jS at h;refine S [15,3,2] ?_;refine J e0 hn h (fun s=>[(40,.bool s)]) (fun s=>[(501,.aF),(1002,F3 a0.w.heap [] 501)]) [0,2,5,7] [5,7,1000,1001] (fun _ h g=>?_) ?_
 ·rcases qP h with⟨b,h⟩|⟨o,b,h⟩
  ·refine kd [0,2,5,7] [5,7,1000,1001,1002] ?_;refine I [8] ?_ ?_<;>intro _ h
   ·refine I [0,13,0] ?_ ?_<;>intro _ h
    ·cases h
    refine S [0] ?_;refine gE (gS 1002 501) ?_;exact je
   refine S [0] ?_;refine gE (gS 1002 502) ?_;exact je [(501,502)]
  refine gC (gD 1002 503 504 a1.n.toNat 1 b) ?_;refine kd [0,2,5,7] [5,7,503,504,1000,1001,1002] ?_;refine I [8] ?_ ?_<;>intro _ h
  ·refine I [0,13,0] ?_ ?_<;>intro _ h
   ·refine B [0] fun _ e h=>?_;refine iD e ?_;refine S [0] ?_;refine hD b ?_;refine S [0,13,0] ?_;refine gE (gB 1002 503 505 a1.n.toNat 1 b) ?_;exact je [(501,505)]
   refine S [0] ?_;refine gE (gB 1002 503 506 a1.n.toNat 1 b) ?_;exact je [(501,506)]
  refine S [0] ?_;refine gE (gB 1002 503 507 a1.n.toNat 1 b) ?_;exact je [(501,507)]
 intro m h;refine J e0 hn h (fun s=>[]) (fun s=>[(508,.aF),(1002,F3 s [] 508)]) [0] [1000,1001] (fun _ h g=>?_) ?_
 ·refine I [4] ?_ ?_<;>intro _ h
  ·rcases qP h with⟨a,h⟩|⟨i,a,h⟩
   ·cases h
   refine gC (gD 1002 508 509 a1.n.toNat 1 a) ?_;refine kd [0,2,5,7] [5,7,508,509,1000,1001,1002] ?_;refine B [8] fun _ f h=>?_;refine iD f ?_;refine hD a ?_;refine B [] fun _ d h=>?_;refine X8 d ?_;refine sM (l6 d).2 a3 ?_;refine gE (gA 1002 508 510 a1.n.toNat 1 a (⟨i.cls,(i.aI.set a2.toNat a3)⟩:Ob)) ?_;exact je [(508,510)]
  exact Sj [1] [(508,501)]
 intro l h;exact Sr [14] [(3,508)]
def Ez {N a0 a1 a2 r} (h:Y0 N a0 a1 a2=some r) {k:Nat} {b:List AV} {l:Nat}:Spec prog 202 [(1000,mB a0 (.fn k [.ptr 1007 0,.fp b]) (.fn l []) 1001 1003),(1001,.box [E9 a0.w.a7,.aL 1002,.int a0.w.aB] 40),(1002,F3 a0.w.heap [] 1004),(1003,p9 a0.aG [] 1005)] [.ptr 1000 0,.ep 1003 a1 10 0,.agg (bc a2)] (.ab []) [(1000,mB r (.fn k [.ptr 1007 0,.fp b]) (.fn l []) 1001 1003),(1001,.box [E9 r.w.a7,.aL 2,.int r.w.aB] 40),(2,F3 r.w.heap [] 3),(3,.aF),(1002,.aF),(1003,p9 r.aG [] 5),(5,.aF)] [3,2,5]:=by
 refine so func202 ntmps202 fun Γ hn=>?_;unfold Y0 at h;refine S [15,3,3,3] ?_;refine J e1 hn h (fun s=>[]) (fun s=>[(186,F3 s.1 [] 518),(501,.aF),(518,.aF),(1000,.box [.ptr 1001 0,.fn k [.ptr 1007 0,.fp b],.fn l [],.int s.2.1,.int s.2.2.1,.int s.2.2.2.1,.aL 1003,.int s.2.2.2.2.2.1,.int s.2.2.2.2.2.2.1,.int s.2.2.2.2.2.2.2] 251),(1001,.box [E9 a0.w.a7,.aL 186,.int a0.w.aB] 40),(1002,.aF),(1003,p9 s.2.2.2.2.1 [] 501)]) [0,1] [] (fun _ h g=>?_) ?_
 ·refine S [6,3] ?_;refine J e1 hn h (fun s=>[]) (fun s=>[(186,F3 s.1 [] 518),(501,.aF),(518,.aF),(1000,.box [.ptr 1001 0,.fn k [.ptr 1007 0,.fp b],.fn l [],.int s.2.1,.int s.2.2.1,.int s.2.2.2.1,.aL 1003,.int s.2.2.2.2.2.1,.int s.2.2.2.2.2.2.1,.int s.2.2.2.2.2.2.2] 251),(1001,.box [E9 a0.w.a7,.aL 186,.int a0.w.aB] 40),(1002,.aF),(1003,p9 s.2.2.2.2.1 [] 501)]) [0,1] [] (fun _ h g=>?_) ?_
  ·refine I [4] ?_ ?_<;>intro _ h
   ·refine B [5] fun _ hx21 h=>?_;refine K6 hx21 ?_;refine B [] fun _ Z h=>?_;refine cA ((q9 Z).ay [(1016,4),(1019,1003),(1021,1005),(21,501)] rfl) ?_;refine gE (gR 1001 1 1002 502 503) ?_;exact je [(186,502),(518,503)]
   refine S [3] ?_;refine J e1 hn h (fun s=>[]) (fun s=>[(186,F3 s.1 [] 520),(504,.aF),(520,.aF),(1000,.box [.ptr 1001 0,.fn k [.ptr 1007 0,.fp b],.fn l [],.int s.2.1,.int s.2.2.1,.int s.2.2.2.1,.aL 1003,.int s.2.2.2.2.2.1,.int s.2.2.2.2.2.2.1,.int s.2.2.2.2.2.2.2] 251),(1001,.box [E9 a0.w.a7,.aL 186,.int a0.w.aB] 40),(1002,.aF),(1003,p9 s.2.2.2.2.1 [] 504)]) [0,1] [] (fun _ h g=>?_) ?_
   ·refine I [4] ?_ ?_<;>intro _ h
    ·refine B [8] fun _ hx35 h=>?_;refine K6 hx35 ?_;refine B [] fun _ hx37 h=>?_;refine H5 hx37 ?_;refine B [] fun _ hr39 h=>?_;refine cA ((q9 hr39).ay [(1016,4),(1019,1003),(1021,1005),(21,504)] rfl) ?_;refine gE (gR 1001 1 1002 505 506) ?_;exact je [(186,505),(520,506)]
    refine S [3] ?_;refine J e1 hn h (fun s=>[]) (fun s=>[(186,F3 s.1 [] 522),(507,.aF),(522,.aF),(1000,.box [.ptr 1001 0,.fn k [.ptr 1007 0,.fp b],.fn l [],.int s.2.1,.int s.2.2.1,.int s.2.2.2.1,.aL 1003,.int s.2.2.2.2.2.1,.int s.2.2.2.2.2.2.1,.int s.2.2.2.2.2.2.2] 251),(1001,.box [E9 a0.w.a7,.aL 186,.int a0.w.aB] 40),(1002,.aF),(1003,p9 s.2.2.2.2.1 [] 507)]) [0,1] [] (fun _ h g=>?_) ?_
    ·refine I [4] ?_ ?_<;>intro _ h
     ·refine B [] fun x50 D h=>?_;refine gC (gD 1003 507 508 a1 7 D) ?_;refine kd [0,1,4,5,6] [4,5,507,508,1000,1001,1002,1003] ?_;refine S [8] ?_;refine hD D ?_;refine B [] fun _ E h=>?_;refine X8 E ?_;refine K6 (l6 E).2 ?_;refine B [] fun _ hr55 h=>?_;refine cA ((oa hr55).ay [(1022,507),(1016,4),(1019,1003),(1021,508),(21,509)] rfl) ?_;refine B [] fun j hx57 h=>?_;refine gE (gA 1003 507 510 a1 7 hx57 (⟨j.aK,j.aN,j.aY,j.code,j.aU,j.args,x50.a8,j.aA,j.aJ⟩:j3)) ?_;refine gE (gR 1001 1 1002 511 512) ?_;exact je [(186,511),(522,512),(507,510)]
     refine S [3] ?_;refine J e1 hn h (fun s=>[]) (fun s=>[(186,F3 s.1 [] 525),(513,.aF),(525,.aF),(1000,.box [.ptr 1001 0,.fn k [.ptr 1007 0,.fp b],.fn l [],.int s.2.1,.int s.2.2.1,.int s.2.2.2.1,.aL 1003,.int s.2.2.2.2.2.1,.int s.2.2.2.2.2.2.1,.int s.2.2.2.2.2.2.2] 251),(1001,.box [E9 a0.w.a7,.aL 186,.int a0.w.aB] 40),(1002,.aF),(1003,p9 s.2.2.2.2.1 [] 513)]) [0,1] [] (fun _ h g=>?_) ?_
     ·refine I [4] ?_ ?_<;>intro _ h
      ·refine kd [0,1,4,5,6] [4,5,1000,1001,1002,1003] ?_;refine B [8] fun _ hx69 h=>?_;refine K6 hx69 ?_;refine B [] fun _ hr71 h=>?_;refine cD (oq hr71) ?_;refine B [] fun _ hr73 h=>?_;refine cA ((q9 hr73).ay [(1016,4),(1019,1003),(1021,1005),(21,513)] rfl) ?_;refine gE (gR 1001 1 1002 514 515) ?_;exact je [(186,514),(525,515)]
      refine kd [0,1,4,5,6,12] [4,5,1000,1001,1002,1003] ?_;refine S [3] ?_;refine J e1 hn h (fun s=>[]) (fun s=>[(186,F3 s.1 [] 527),(516,.aF),(527,.aF),(1000,.box [.ptr 1001 0,.fn k [.ptr 1007 0,.fp b],.fn l [],.int s.2.1,.int s.2.2.1,.int s.2.2.2.1,.aL 1003,.int s.2.2.2.2.2.1,.int s.2.2.2.2.2.2.1,.int s.2.2.2.2.2.2.2] 251),(1001,.box [E9 a0.w.a7,.aL 186,.int a0.w.aB] 40),(1002,.aF),(1003,p9 s.2.2.2.2.1 [] 516)]) [0,1] [] (fun _ h g=>?_) ?_
      ·refine I [4] ?_ ?_<;>intro _ h
       ·refine B [5] fun _ hr85 h=>?_;refine cA ((q9 hr85).ay [(1016,4),(1019,1003),(1021,1005),(21,516)] rfl) ?_;refine gE (gR 1001 1 1002 517 518) ?_;exact je [(186,517),(527,518)]
       refine S [3] ?_;refine J e1 hn h (fun s=>[]) (fun s=>[(186,F3 s.1 [] 529),(519,.aF),(529,.aF),(1000,.box [.ptr 1001 0,.fn k [.ptr 1007 0,.fp b],.fn l [],.int s.2.1,.int s.2.2.1,.int s.2.2.2.1,.aL 1003,.int s.2.2.2.2.2.1,.int s.2.2.2.2.2.2.1,.int s.2.2.2.2.2.2.2] 251),(1001,.box [E9 a0.w.a7,.aL 186,.int a0.w.aB] 40),(1002,.aF),(1003,p9 s.2.2.2.2.1 [] 519)]) [0,1] [] (fun _ h g=>?_) ?_
       ·refine I [4] ?_ ?_<;>intro _ h
        ·refine B [5] fun _ hr97 h=>?_;refine cA ((q9 hr97).ay [(1016,4),(1019,1003),(1021,1005),(21,519)] rfl) ?_;refine gE (gR 1001 1 1002 520 521) ?_;exact je [(186,520),(529,521)]
        refine S [2,3] ?_;refine Jb 75 hn h [0,1,4,5,6,12] [4,5,1000,1001,1002,1003] (fun _ h g=>?_) ?_
        ·refine I [4] ?_ ?_<;>intro _ h
         ·exact Sj [1]
         exact Sj [5]
        intro v98 h;refine J e1 hn h (fun s=>[]) (fun s=>[(186,F3 s.1 [] 531),(522,.aF),(531,.aF),(1000,.box [.ptr 1001 0,.fn k [.ptr 1007 0,.fp b],.fn l [],.int s.2.1,.int s.2.2.1,.int s.2.2.2.1,.aL 1003,.int s.2.2.2.2.2.1,.int s.2.2.2.2.2.2.1,.int s.2.2.2.2.2.2.2] 251),(1001,.box [E9 a0.w.a7,.aL 186,.int a0.w.aB] 40),(1002,.aF),(1003,p9 s.2.2.2.2.1 [] 522)]) [0,1] [] (fun _ h g=>?_) ?_
        ·refine I [4] ?_ ?_<;>intro _ h
         ·refine B [5] fun _ G h=>?_;refine cA (qx G) ?_;refine B [] fun _ H h=>?_;refine cA ((q9 H).ay [(1016,4),(1019,1003),(1021,1005),(21,522)] rfl) ?_;refine gE (gR 1001 1 1002 523 524) ?_;exact je [(186,523),(531,524)]
         refine S [3] ?_;refine J e1 hn h (fun s=>[]) (fun s=>[(186,F3 s.1 [] 533),(525,.aF),(533,.aF),(1000,.box [.ptr 1001 0,.fn k [.ptr 1007 0,.fp b],.fn l [],.int s.2.1,.int s.2.2.1,.int s.2.2.2.1,.aL 1003,.int s.2.2.2.2.2.1,.int s.2.2.2.2.2.2.1,.int s.2.2.2.2.2.2.2] 251),(1001,.box [E9 a0.w.a7,.aL 186,.int a0.w.aB] 40),(1002,.aF),(1003,p9 s.2.2.2.2.1 [] 525)]) [0,1] [] (fun _ h g=>?_) ?_
         ·refine I [4] ?_ ?_<;>intro _ h
          ·refine B [5] fun _ K h=>?_;refine cA ((Q0 K).sw 5 525) ?_;refine gE (gR 1001 1 1002 526 527) ?_;exact je [(186,526),(533,527)]
          refine S [3] ?_;refine J e1 hn h (fun s=>[]) (fun s=>[(186,F3 s.1 [] 535),(528,.aF),(535,.aF),(1000,.box [.ptr 1001 0,.fn k [.ptr 1007 0,.fp b],.fn l [],.int s.2.1,.int s.2.2.1,.int s.2.2.2.1,.aL 1003,.int s.2.2.2.2.2.1,.int s.2.2.2.2.2.2.1,.int s.2.2.2.2.2.2.2] 251),(1001,.box [E9 a0.w.a7,.aL 186,.int a0.w.aB] 40),(1002,.aF),(1003,p9 s.2.2.2.2.1 [] 528)]) [0,1] [] (fun _ h g=>?_) ?_
          ·refine I [4] ?_ ?_<;>intro _ h
           ·refine B [] fun c i h=>?_;refine gC (gD 1003 528 529 a1 8 i) ?_;refine kd [0,1,4,6] [4,528,529,1000,1001,1002,1003] ?_;refine S [8] ?_;refine hD i ?_;refine hD i ?_;refine B [13,12] fun _ n h=>?_;refine X8 n ?_;refine K6 (l6 n).2 ?_;refine B [] fun r142 L h=>?_;refine cA ((wE L).ay [(1022,528),(1016,4),(1019,1003),(1021,529),(22,530)] rfl) ?_;refine gE (gA 1003 530 531 a1 8 i (⟨c.aK,c.aN,c.aY,c.code,c.aU,c.args,c.a8,r142,c.aJ⟩:j3)) ?_;refine gE (gR 1001 1 1002 532 533) ?_;exact je [(186,532),(535,533),(528,531)]
           refine S [3] ?_;refine J e1 hn h (fun s=>[]) (fun s=>[(186,F3 s.1 [] 538),(534,.aF),(538,.aF),(1000,.box [.ptr 1001 0,.fn k [.ptr 1007 0,.fp b],.fn l [],.int s.2.1,.int s.2.2.1,.int s.2.2.2.1,.aL 1003,.int s.2.2.2.2.2.1,.int s.2.2.2.2.2.2.1,.int s.2.2.2.2.2.2.2] 251),(1001,.box [E9 a0.w.a7,.aL 186,.int a0.w.aB] 40),(1002,.aF),(1003,p9 s.2.2.2.2.1 [] 534)]) [0,1] [] (fun _ h g=>?_) ?_
           ·refine I [4] ?_ ?_<;>intro _ h
            ·refine B [] fun x154 o h=>?_;refine gC (gD 1003 534 535 a1 7 o) ?_;refine kd [0,1,4,5] [4,5,534,535,1000,1001,1002,1003] ?_;refine gz 3 7 hn ?_;refine hD o ?_;refine B [] fun F M h=>?_;refine cA ((((od M).sw 1005 535).sw 1006 534).sw 5 536) ?_;refine B [] fun d p h=>?_;refine AN ⟨rfl,⟨rfl,trivial⟩,nu p rfl rfl E5 rfl ⟨rfl,rfl,rfl,rfl⟩⟩ ?_;refine B [] fun _ q h=>?_;refine X8 q ?_;refine sM (l6 q).2 F.1 ?_;refine gE (gA 1003 534 537 a1 7 p (⟨d.aK,d.aN,d.aY,d.code,d.aU,d.args,(x154.a8.set a2.a.toNat F.1),d.aA,d.aJ⟩:j3)) ?_;refine gE (gR 1001 1 1002 538 539) ?_;exact je [(186,538),(538,539),(534,537)]
            refine S [3] ?_;refine J e1 hn h (fun s=>[]) (fun s=>[(186,F3 s.1 [] 541),(540,.aF),(541,.aF),(1000,.box [.ptr 1001 0,.fn k [.ptr 1007 0,.fp b],.fn l [],.int s.2.1,.int s.2.2.1,.int s.2.2.2.1,.aL 1003,.int s.2.2.2.2.2.1,.int s.2.2.2.2.2.2.1,.int s.2.2.2.2.2.2.2] 251),(1001,.box [E9 a0.w.a7,.aL 186,.int a0.w.aB] 40),(1002,.aF),(1003,p9 s.2.2.2.2.1 [] 540)]) [0,1] [] (fun _ h g=>?_) ?_
            ·refine I [4] ?_ ?_<;>intro _ h
             ·refine gz 4 8 hn ?_;refine B [] fun _ t h=>?_;refine K6 t ?_;refine B [] fun _ m h=>?_;refine cA ((Q0 m).sw 5 540) ?_;refine B [] fun _ u h=>?_;refine AN ⟨rfl,⟨rfl,trivial⟩,K6 u ⟨congrArg (fun v=>AV.agg (eV v)) (wT m t u),rfl,rfl,rfl⟩⟩ ?_;refine B [] fun _ O h=>?_;refine cA ((zy O).sw 3 541) ?_;refine gE (gR 1001 1 1002 542 543) ?_;exact je [(186,542),(541,543)]
             refine S [3] ?_;refine J e1 hn h (fun s=>[]) (fun s=>[(186,F3 s.1 [] 550),(544,.aF),(550,.aF),(1000,.box [.ptr 1001 0,.fn k [.ptr 1007 0,.fp b],.fn l [],.int s.2.1,.int s.2.2.1,.int s.2.2.2.1,.aL 1003,.int s.2.2.2.2.2.1,.int s.2.2.2.2.2.2.1,.int s.2.2.2.2.2.2.2] 251),(1001,.box [E9 a0.w.a7,.aL 186,.int a0.w.aB] 40),(1002,.aF),(1003,p9 s.2.2.2.2.1 [] 544)]) [0,1] [] (fun _ h g=>?_) ?_
             ·refine I [4] ?_ ?_<;>intro _ h
              ·refine B [] fun x190 x h=>?_;refine gC (gD 1003 544 545 a1 7 x) ?_;refine kd [0,1,4,5,6] [4,5,544,545,1000,1001,1002,1003] ?_;refine S [8] ?_;refine hD x ?_;refine B [] fun _ y h=>?_;refine X8 y ?_;refine K6 (l6 y).2 ?_;refine B [] fun _ P h=>?_;refine cD (oq P) ?_;refine B [] fun _ Q h=>?_;refine cA ((oa Q).ay [(1022,544),(1016,4),(1019,1003),(1021,545),(21,546)] rfl) ?_;refine B [] fun e Y h=>?_;refine gE (gA 1003 544 547 a1 7 Y (⟨e.aK,e.aN,e.aY,e.code,e.aU,e.args,x190.a8,e.aA,e.aJ⟩:j3)) ?_;refine gE (gR 1001 1 1002 548 549) ?_;exact je [(186,548),(550,549),(544,547)]
              refine kd [0,1,4,5,6,12] [4,5,1000,1001,1002,1003] ?_;refine S [3] ?_;refine J e1 hn h (fun s=>[]) (fun s=>[(186,F3 s.1 [] 553),(550,.aF),(553,.aF),(1000,.box [.ptr 1001 0,.fn k [.ptr 1007 0,.fp b],.fn l [],.int s.2.1,.int s.2.2.1,.int s.2.2.2.1,.aL 1003,.int s.2.2.2.2.2.1,.int s.2.2.2.2.2.2.1,.int s.2.2.2.2.2.2.2] 251),(1001,.box [E9 a0.w.a7,.aL 186,.int a0.w.aB] 40),(1002,.aF),(1003,p9 s.2.2.2.2.1 [] 550)]) [0,1] [] (fun _ h g=>?_) ?_
              ·refine I [4] ?_ ?_<;>intro _ h
               ·refine B [] fun x210 z h=>?_;refine gC (gD 1003 550 551 a1 7 z) ?_;refine kd [0,1,4,5] [4,5,550,551,1000,1001,1002,1003] ?_;refine gz 4 12 hn ?_;refine hD z ?_;refine B [] fun _ A h=>?_;refine X8 A ?_;refine K6 (l6 A).2 ?_;refine B [] fun _ R h=>?_;refine cA ((((od R).sw 1005 551).sw 1006 550).sw 5 552) ?_;refine B [] fun f C h=>?_;refine AN ⟨rfl,⟨rfl,trivial⟩,nu C rfl rfl E5 rfl ⟨rfl,rfl,rfl,rfl⟩⟩ ?_;refine B [] fun _ T h=>?_;refine cA ((zy T).sw 3 553) ?_;refine gE (gA 1003 550 554 a1 7 C (⟨f.aK,f.aN,f.aY,f.code,f.aU,f.args,x210.a8,f.aA,f.aJ⟩:j3)) ?_;refine gE (gR 1001 1 1002 555 556) ?_;exact je [(186,555),(553,556),(550,554)]
               refine S [3] ?_;refine J e1 hn h (fun s=>[]) (fun s=>[(186,F3 s.1 [] 886),(560,.aF),(886,.aF),(1001,.box [E9 a0.w.a7,.aL 186,.int a0.w.aB] 40),(1002,.aF),(1003,p9 s.2 [] 560)]) [0,1] [1000] (fun _ h g=>?_) ?_
               ·refine I [4] ?_ ?_<;>intro _ h
                ·refine S [2] ?_;refine kd [0,1,5,6] [4,5,1000,1001,1002,1003] ?_;refine B [8] fun _ U h=>?_;refine cD (kD U) ?_;refine B [] fun _ V h=>?_;refine qB (((uq V).sw 0 186).sw 1 886) ⟨yu _,trivial,trivial⟩ ?_;refine S [2] ?_;refine kd [0,1,6,7,8,9] [4,8,186,886,1000,1001,1002,1003] ?_;refine I [3,4] ?_ ?_<;>intro _ h
                 ·refine B [3] fun _ W h=>?_;refine cA (J7 W) ?_;refine gC (gR 1001 1 1002 557 558) ?_;refine gC (gS 1003 559) ?_;exact Sr [7] [(2,557),(3,558),(5,559)]
                 refine B [1,3,5] fun _ X h=>?_;refine cA ((q9 X).ay [(1016,4),(1019,1003),(1021,1005),(21,560)] rfl) ?_;refine gE (gX 1002) ?_;exact je
                refine S [1] ?_;refine gE (gR 1001 1 1002 561 562) ?_;refine gE (gS 1003 563) ?_;exact je [(186,561),(886,562),(560,563)]
               rintro⟨v220,v221⟩ h;exact je [(553,886),(550,560)]
              rintro⟨v200,v201,v202,v203,v204,v205,v206,v207⟩ h;exact je [(550,553),(544,550)]
             rintro⟨v180,v181,v182,v183,v184,v185,v186,v187⟩ h;exact je [(541,550),(540,544)]
            rintro⟨v162,v163,v164,v165,v166,v167,v168,v169⟩ h;exact je [(538,541),(534,540)]
           rintro⟨v144,v145,v146,v147,v148,v149,v150,v151⟩ h;exact je [(535,538),(528,534)]
          rintro⟨v127,v128,v129,v130,v131,v132,v133,v134⟩ h;exact je [(533,535),(525,528)]
         rintro⟨v115,v116,v117,v118,v119,v120,v121,v122⟩ h;exact je [(531,533),(522,525)]
        rintro⟨v101,v102,v103,v104,v105,v106,v107,v108⟩ h;exact je [(529,531),(519,522)]
       rintro⟨v86,v87,v88,v89,v90,v91,v92,v93⟩ h;exact je [(527,529),(516,519)]
      rintro⟨v74,v75,v76,v77,v78,v79,v80,v81⟩ h;exact je [(525,527),(513,516)]
     rintro⟨v58,v59,v60,v61,v62,v63,v64,v65⟩ h;exact je [(522,525),(507,513)]
    rintro⟨v40,v41,v42,v43,v44,v45,v46,v47⟩ h;exact je [(520,522),(504,507)]
   rintro⟨v24,v25,v26,v27,v28,v29,v30,v31⟩ h;exact je [(518,520),(501,504)]
  rintro⟨v10,v11,v12,v13,v14,v15,v16,v17⟩ h;exact je
 rintro⟨v1,v2,v3,v4,v5,v6,v7,v8⟩ h;exact Sr [14] [(2,186),(3,518),(5,501)]
end
section
set_option maxHeartbeats 40000000
set_option maxRecDepth 100000
set_option maxRecDepth 100000
def Ew {N a0 gl gq sb r} (h:rA N a0 gl gq sb=some r) {b:Nat} {a:List AV} (z:∀e f y E j,gl e f y E=some j->Spec prog b [(1007,.box (eL E) 153)] [.agg (bW e),.int f,.str y,.ptr 1007 0,.fp a] (.ab [.int j.1,.int j.2.1]) [(1007,.box (eL j.2.2) 153)] []) {c:Nat} (C:∀e f j,gq e f=some j->Spec prog c [] [.int e,.int f] (.ab [.agg (ed j.1),.bool j.2]) [] []):Spec prog 167 [(1000,mB a0 (.fn b [.ptr 1007 0,.fp a]) (.fn c []) 1001 1003),(1001,.box [E9 a0.w.a7,.aL 1002,.int a0.w.aB] 40),(1002,F3 a0.w.heap [] 1004),(1003,p9 a0.aG [] 1005),(1007,.box (eL sb) 153)] [.ptr 1000 0] (.ab []) [(1000,mB r.2 (.fn b [.ptr 1007 0,.fp a]) (.fn c []) 1001 4),(1001,.box [E9 r.2.w.a7,.aL 2,.int r.2.w.aB] 40),(2,F3 r.2.w.heap [] 3),(3,.aF),(1002,.aF),(4,p9 r.2.aG [] 5),(5,.aF),(1003,.aF),(1007,.box (eL r.1) 153)] [3,2,5,4]:=by
 refine so func167 ntmps167 fun Γ hn=>?_;unfold rA at h;refine B [15,2,8,13,12] fun i d h=>?_;refine iD d ?_;refine S [3] ?_;refine K6 (l6 d).2 ?_;refine kd [0,2,3] [1000,1001,1002,1003,1007] ?_;refine S [3] ?_;refine K6 (l6 d).2 ?_;refine B [] fun _ D h=>?_;refine H5 D ?_;refine S [3] ?_;refine K6 (l6 d).2 ?_;refine S [12] ?_;refine sD (l6 d).2 (⟨i.aK,i.aN,i.aY,i.code,i.aU,i.args,i.a8,i.aA,(wr (i.aJ+(1:Int)))⟩:j3) ?_;refine kd [0,2,3,4] [4,1000,1001,1002,1003,1007] ?_;refine S [3] ?_;refine J e0 hn h (fun s=>[]) (fun s=>[(501,.aF),(502,p9 s.2.2.2.2.2.2.2.1 [] 501),(509,.aF),(510,F3 s.2.1 [] 509),(1000,.box [.ptr 1001 0,.fn b [.ptr 1007 0,.fp a],.fn c [],.int s.2.2.2.2.1,.int s.2.2.2.2.2.1,.int s.2.2.2.2.2.2.1,.aL 502,.int s.2.2.2.2.2.2.2.2.1,.int s.2.2.2.2.2.2.2.2.2.1,.int s.2.2.2.2.2.2.2.2.2.2] 251),(1001,.box [E9 s.1,.aL 510,.int s.2.2.1] 40),(1002,.aF),(1003,.aF),(1007,.box (eL s.2.2.2.1) 153)]) [0] [] (fun _ h g=>?_) ?_
 ·refine S [6,3] ?_;refine J e0 hn h (fun s=>[]) (fun s=>[(501,.aF),(502,p9 s.2.2.2.2.2.2.2.1 [] 501),(509,.aF),(510,F3 s.2.1 [] 509),(1000,.box [.ptr 1001 0,.fn b [.ptr 1007 0,.fp a],.fn c [],.int s.2.2.2.2.1,.int s.2.2.2.2.2.1,.int s.2.2.2.2.2.2.1,.aL 502,.int s.2.2.2.2.2.2.2.2.1,.int s.2.2.2.2.2.2.2.2.2.1,.int s.2.2.2.2.2.2.2.2.2.2] 251),(1001,.box [E9 s.1,.aL 510,.int s.2.2.1] 40),(1002,.aF),(1003,.aF),(1007,.box (eL s.2.2.2.1) 153)]) [0] [] (fun _ h g=>?_) ?_
  ·refine I [4] ?_ ?_<;>intro _ h
   ·refine B [5] fun _ q h=>?_;refine cA (((F0 q z C).sw 5 501).sw 4 502) ?_;refine gE (gR 1001 1 1002 503 504) ?_;exact je [(510,503),(509,504)]
   refine S [3] ?_;refine J e0 hn h (fun s=>[]) (fun s=>[(88,p9 s.2.2.2.2.2.2.1 [] 505),(505,.aF),(511,.aF),(512,F3 s.2.1 [] 511),(1000,.box [.ptr 1001 0,.fn b [.ptr 1007 0,.fp a],.fn c [],.int s.2.2.2.1,.int s.2.2.2.2.1,.int s.2.2.2.2.2.1,.aL 88,.int s.2.2.2.2.2.2.2.1,.int s.2.2.2.2.2.2.2.2.1,.int s.2.2.2.2.2.2.2.2.2] 251),(1001,.box [E9 s.1,.aL 512,.int s.2.2.1] 40),(1002,.aF),(1003,.aF)]) [0] [1007] (fun _ h g=>?_) ?_
   ·refine I [4] ?_ ?_<;>intro _ h
    ·refine B [5] fun _ t h=>?_;refine cA ((zs t).sw 5 505) ?_;refine gE (gR 1001 1 1002 506 507) ?_;refine gE (gR 1000 6 1003 508 509) ?_;exact je [(512,506),(511,507),(88,508),(505,509)]
    refine S [3] ?_;refine J e0 hn h (fun s=>[]) (fun s=>[(88,p9 s.2.2.2.2.2.2.1 [] 511),(511,.aF),(515,.aF),(516,F3 s.2.1 [] 515),(1000,.box [.ptr 1001 0,.fn b [.ptr 1007 0,.fp a],.fn c [],.int s.2.2.2.1,.int s.2.2.2.2.1,.int s.2.2.2.2.2.1,.aL 88,.int s.2.2.2.2.2.2.2.1,.int s.2.2.2.2.2.2.2.2.1,.int s.2.2.2.2.2.2.2.2.2] 251),(1001,.box [E9 s.1,.aL 516,.int s.2.2.1] 40),(1002,.aF),(1003,.aF)]) [0] [1007] (fun _ h g=>?_) ?_
    ·refine I [4] ?_ ?_<;>intro _ h
     ·refine B [3] fun _ u h=>?_;refine cA ((Q0 u).sw 5 510) ?_;refine S [3] ?_;refine J e0 hn h (fun s=>[]) (fun s=>[(511,.aF),(1000,.box [.ptr 1001 0,.fn b [.ptr 1007 0,.fp a],.fn c [],.int s.1,.int s.2.1,.int s.2.2.1,.aL 1003,.int s.2.2.2.2.1,.int s.2.2.2.2.2.1,.int s.2.2.2.2.2.2] 251),(1003,p9 s.2.2.2.1 [] 511)]) [0] [1001,1002,1007] (fun _ h g=>?_) ?_
      ·refine S [6] ?_;refine kd [0,2,4,61] [4,510,1000,1001,1002,1003,1007] ?_;refine S [3] ?_;refine J e0 hn h (fun s=>[]) (fun s=>[(511,.aF),(1000,.box [.ptr 1001 0,.fn b [.ptr 1007 0,.fp a],.fn c [],.int s.1,.int s.2.1,.int s.2.2.1,.aL 1003,.int s.2.2.2.2.1,.int s.2.2.2.2.2.1,.int s.2.2.2.2.2.2] 251),(1003,p9 s.2.2.2.1 [] 511)]) [0] [1001,1002,1007] (fun _ h g=>?_) ?_
       ·refine I [4] ?_ ?_<;>intro _ h
        ·refine B [5] fun _ v h=>?_;refine cA (((zs v).sw 1005 510).sw 5 511) ?_;exact je
        refine S [3] ?_;refine J e0 hn h (fun s=>[]) (fun s=>[(1000,.box [.ptr 1001 0,.fn b [.ptr 1007 0,.fp a],.fn c [],.int s.1,.int s.2.1,.int s.2.2.1,.aL 1003,.int s.2.2.2.1,.int s.2.2.2.2.1,.int s.2.2.2.2.2] 251)]) [0] [510,1001,1002,1003,1007] (fun _ h g=>?_) ?_
        ·refine I [4] ?_ ?_<;>intro _ h
         ·exact Sj [1]
         refine B [5] fun _ x h=>?_;refine cA (J7 x) ?_;exact je
        rintro⟨v80,v81,v82,v83,v84,v85⟩ h;exact je [(511,510)]
       rintro⟨v69,v70,v71,v72,v73,v74,v75⟩ h;exact je
      rintro⟨v61,v62,v63,v64,v65,v66,v67⟩ h;refine gE (gR 1001 1 1002 512 513) ?_;refine gE (gR 1000 6 1003 514 515) ?_;exact je [(516,512),(515,513),(88,514),(511,515)]
     refine S [3] ?_;refine J e0 hn h (fun s=>[]) (fun s=>[(88,p9 s.2.2.2.2.2.2.1 [] 517),(517,.aF),(519,.aF),(520,F3 s.2.1 [] 519),(1000,.box [.ptr 1001 0,.fn b [.ptr 1007 0,.fp a],.fn c [],.int s.2.2.2.1,.int s.2.2.2.2.1,.int s.2.2.2.2.2.1,.aL 88,.int s.2.2.2.2.2.2.2.1,.int s.2.2.2.2.2.2.2.2.1,.int s.2.2.2.2.2.2.2.2.2] 251),(1001,.box [E9 s.1,.aL 520,.int s.2.2.1] 40),(1002,.aF),(1003,.aF)]) [0] [1007] (fun _ h g=>?_) ?_
     ·refine I [4] ?_ ?_<;>intro _ h
      ·refine B [3] fun _ l h=>?_;refine cA ((Q0 l).sw 5 516) ?_;refine S [2] ?_;refine kd [0,6] [6,516,1000,1001,1002,1003,1007] ?_;refine A [8,13,12] fun k h=>?_;refine j8 k rfl rfl ?_;refine B [5] fun _ m h=>?_;refine cA ((((zr m).sw 1003 88).sw 1005 788).sw 5 517) ?_;refine gE (gR 1001 1 1002 518 519) ?_;exact je [(520,518)]
      refine S [3] ?_;refine J e0 hn h (fun s=>[]) (fun s=>[(520,.aF),(521,.aF),(522,F3 s.2.1 [] 521),(1000,.box [.ptr 1001 0,.fn b [.ptr 1007 0,.fp a],.fn c [],.int s.2.2.2.1,.int s.2.2.2.2.1,.int s.2.2.2.2.2.1,.aL 1003,.int s.2.2.2.2.2.2.2.1,.int s.2.2.2.2.2.2.2.2.1,.int s.2.2.2.2.2.2.2.2.2] 251),(1001,.box [E9 s.1,.aL 522,.int s.2.2.1] 40),(1002,.aF),(1003,p9 s.2.2.2.2.2.2.1 [] 520)]) [0] [1007] (fun _ h g=>?_) ?_
      ·refine I [4] ?_ ?_<;>intro _ h
       ·refine B [5] fun _ n h=>?_;refine cA ((Et n).sw 5 520) ?_;refine gE (gR 1001 1 1002 521 522) ?_;exact je [(522,521),(521,522)]
       refine S [3] ?_;refine J e0 hn h (fun s=>[]) (fun s=>[(523,.aF),(524,F3 s.2.1 [] 523),(525,.aF),(1000,.box [.ptr 1001 0,.fn b [.ptr 1007 0,.fp a],.fn c [],.int s.2.2.2.1,.int s.2.2.2.2.1,.int s.2.2.2.2.2.1,.aL 1003,.int s.2.2.2.2.2.2.2.1,.int s.2.2.2.2.2.2.2.2.1,.int s.2.2.2.2.2.2.2.2.2] 251),(1001,.box [E9 s.1,.aL 524,.int s.2.2.1] 40),(1002,.aF),(1003,p9 s.2.2.2.2.2.2.1 [] 525)]) [0] [1007] (fun _ h g=>?_) ?_
       ·refine I [4] ?_ ?_<;>intro _ h
        ·refine kd [0] [1000,1001,1002,1003,1007] ?_;refine B [5] fun _ o h=>?_;refine cA (wB o) ?_;refine gE (gR 1001 1 1002 523 524) ?_;refine gE (gS 1003 525) ?_;exact je [(524,523),(523,524)]
        refine kd [0,2,4] [4,1000,1001,1002,1003,1007] ?_;refine B [5] fun _ p h=>?_;refine cA ((((Ez p).sw 3 526).sw 2 527).sw 5 528) ?_;exact je [(524,527),(523,526),(525,528)]
       rintro⟨T,U,V,W,X,Y,Z,v129,v130,v131⟩ h;exact je [(522,524),(521,523),(520,525)]
      rintro⟨F,G,H,K,L,M,O,P,Q,R⟩ h;refine gE (gR 1000 6 1003 529 530) ?_;exact je [(520,522),(519,521),(88,529),(517,530)]
     rintro⟨v90,v91,v92,v93,v94,v95,v96,v97,v98,v99⟩ h;exact je [(516,520),(515,519),(511,517)]
    rintro⟨v47,v48,v49,v50,v51,v52,v53,v54,v55,v56⟩ h;exact je [(512,516),(511,515),(505,511)]
   rintro⟨v33,v34,v35,v36,v37,v38,v39,v40,v41,v42⟩ h;exact je [(510,512),(509,511),(502,88),(501,505)]
  rintro⟨v18,v19,v20,v21,v22,v23,v24,v25,v26,v27,v28⟩ h;exact je
 rintro⟨v6,v7,v8,v9,v10,v11,v12,v13,v14,v15,v16⟩ h;exact Sr [14] [(2,510),(3,509),(4,502),(5,501)]
def Fw {N a0 a1 a2 g3 sb g4 r} (h:mV N a0 a1 a2 g3 sb g4=some r) {i:Nat} {b:List AV} (y:∀c d f x e,g3 c d f x=some e->Spec prog i [(1055,.box (eL x) 153)] [.agg (bW c),.int d,.str f,.ptr 1055 0,.fp b] (.ab [.int e.1,.int e.2.1]) [(1055,.box (eL e.2.2) 153)] []) {j:Nat} (m:∀c d e,g4 c d=some e->Spec prog j [] [.int c,.int d] (.ab [.agg (ed e.1),.bool e.2]) [] []):Spec prog 125 [(1055,.box (eL sb) 153)] [.agg (Q7 a0),.agg (kR a1),.int a2,.fn i [.ptr 1055 0,.fp b],.fn j []] (.ab [.agg (Q7 r.1),.agg (lX r.2.1)]) [(1055,.box (eL r.2.2) 153)] []:=by
 refine so func125 ntmps125 fun Γ hn=>?_;unfold mV at h;refine B [3,2,3] fun _ z h=>?_;refine cA (wJ z) ?_;refine I [3,4] ?_ ?_<;>intro _ h
 ·refine B [3] fun _ A h=>?_;refine cA (((jU A).sw 0 24).sw 1 724) ?_;refine j6.b9 24 rfl ?_;exact Sr [7]
 refine B [1,3] fun E C h=>?_;refine cA (((jU C).sw 0 28).sw 1 728) ?_;refine kd [2,3,4,5,6,10,11,13] [5,6,10,11,13,28,728,1055] ?_;refine B [3,2,2,8] fun _ D h=>?_;refine cD (kC D) ?_;refine B [] fun _ o h=>?_;refine cD (jT o) ?_;refine kd [3,4,5,6,10,11,13,14,15,16] [5,6,10,11,13,28,33,728,1055] ?_;refine S [3] ?_;refine nB 33 6 501 10 288 ?_;refine gC (gT 501 502 [(7,(2,29)),(8,(2,29))]) ?_;refine J e0 hn h (fun s=>[]) (fun s=>[(33,.box [.ptr 13 0,.fn i [.ptr 1055 0,.fp b],.fn j [],.int s.1,.int s.2.1,.int s.2.2.1,.aL 501,.int s.2.2.2.2.1,.int s.2.2.2.2.2.1,.int s.2.2.2.2.2.2] 251),(501,p9 s.2.2.2.1 [] 502)]) [3,4,5,10,11,13,14] [5,10,11,13,28,502,728,1055] (fun _ h g=>?_) ?_
 ·refine I [4] ?_ ?_<;>intro _ h
  ·refine B [5] fun _ p h=>?_;refine cA ((J7 p).ay [(1000,33),(1001,13),(1003,501),(1007,1055)] rfl) ?_;exact je
  refine B [5] fun _ q h=>?_;refine cA ((zY q m).ay [(1000,33),(1001,13),(1003,501),(1002,28),(1005,502),(1007,1055),(5,503),(4,504)] rfl) ?_;exact je [(501,504),(502,503)]
 rintro⟨F,G,H,K,L,M,O⟩ h;refine S [2] ?_;refine LF e0 hn (sb,E.a7,E.heap,E.aB,F,G,H,K,L,M,O) (fun l v=>n9 N g3 g4 l v.1 v.2.1 v.2.2.1 v.2.2.2.1 v.2.2.2.2.1 v.2.2.2.2.2.1 v.2.2.2.2.2.2.1 v.2.2.2.2.2.2.2.1 v.2.2.2.2.2.2.2.2.1 v.2.2.2.2.2.2.2.2.2.1 v.2.2.2.2.2.2.2.2.2.2) h (fun v=>[]) (fun v=>[(13,.box [E9 v.2.1,.aL 28,.int v.2.2.2.1] 40),(28,F3 v.2.2.1 [] 728),(33,.box [.ptr 13 0,.fn i [.ptr 1055 0,.fp b],.fn j [],.int v.2.2.2.2.1,.int v.2.2.2.2.2.1,.int v.2.2.2.2.2.2.1,.aL 501,.int v.2.2.2.2.2.2.2.2.1,.int v.2.2.2.2.2.2.2.2.2.1,.int v.2.2.2.2.2.2.2.2.2.2] 251),(501,p9 v.2.2.2.2.2.2.2.1 [] 502),(1055,.box (eL v.1) 153)]) [3,4,5,10,11,13,14] [5,10,11,502,728] [] (fun s=>[]) (fun s=>[(13,.box [E9 s.2.1,.aL 28,.int s.2.2.2.1] 40),(28,F3 s.2.2.1 [] 728),(33,.box [.ptr 13 0,.fn i [.ptr 1055 0,.fp b],.fn j [],.int s.2.2.2.2.1,.int s.2.2.2.2.2.1,.int s.2.2.2.2.2.2.1,.aL 501,.int s.2.2.2.2.2.2.2.2.1,.int s.2.2.2.2.2.2.2.2.2.1,.int s.2.2.2.2.2.2.2.2.2.2] 251),(501,p9 s.2.2.2.2.2.2.2.1 [] 502),(1055,.box (eL s.1) 153)]) [3,4,5,10,11,13,14] [5,10,11,502,728] ?_ ?_
 ·rintro _ g ⟨R,T,U,V,W,X,Y,Z,v34,v35,v36⟩ Q h;rw[n9] at h;refine S [2,2] ?_;refine Jb 70 hn h [3,4,5,10,11,13,14] [5,10,11,13,28,33,501,502,728,1055] (fun _ h g=>?_) ?_
  ·refine I [5] ?_ ?_<;>intro _ h
   ·exact Sj [0,13,0]
   exact Sj [0]
  intro v63 h;refine I [4] ?_ ?_<;>intro _ h
  ·refine B [1,6,5] fun a t h=>?_;refine cA ((Ew t (fun c d f x e P=>(y c d f x e P).sw 1055 1007) m).ay [(1000,33),(1001,13),(1003,501),(1002,28),(1004,728),(1005,502),(1007,1055),(3,505),(2,506),(5,507),(4,508)] rfl) ?_;exact le (a.1,a.2.w.a7,a.2.w.heap,a.2.w.aB,a.2.aE,a.2.aH,a.2.aO,a.2.aG,a.2.back.k,a.2.back.n,a.2.err) [(28,506),(728,505),(501,508),(502,507)]
  exact Sj [20]
 rintro⟨v48,v49,v50,v51,v52,v53,v54,v55,v56,v57,v58⟩ h;refine I [2,3,4] ?_ ?_<;>intro _ h
 ·refine B [2,8] fun _ u h=>?_;refine cA (((jU u).sw 0 79).sw 1 779) ?_;refine j6.b9 79 rfl ?_;exact Sr [7]
 refine S [1,2,8] ?_;refine j6.b9 28 rfl ?_;exact Sr [7]
def Ec {N a0 g1 r} (h:M8 N a0 g1=some r) {m:Nat} {a:List AV} (f:∀d n,g1 d=some n->Spec prog m [] [.agg (hU d),.fp a] (.bool n) [] []):Spec prog 230 [] [ke a0,.fn m [.fp a]] (.int r) [] []:=by
 refine so func230 ntmps230 fun p hn=>?_;unfold M8 at h;refine S [3,2,3] ?_;refine O1 fun i=>?_;refine LR e1 hn () (fun l k v=>C9 N g1 l k) h (fun e v=>[(8,.int (e:Int))]) (fun e v=>[]) [0,1,7] [] [] (fun s=>[]) (fun s=>[]) [] [] ?_ ?_ ?_
 ·intro _ g e _ h _;rw[C9] at h;exact Sj [3,2,4,0,20]
 ·intro _ g e _ o j h _ c _;rw[C9] at h;refine S [3,2,4,0,1,2,6,3,3] ?_;refine W9 c ?_;refine B [] fun _ b h=>?_;refine cA (f _ _ b) ?_;refine I [4] ?_ ?_<;>intro _ h
  ·exact Sr [3,7]
  refine S [1,5] ?_;refine MA (AN (U9 c i) ?_);exact le () []
 rintro⟨⟩ h;exact Sr [3,7]
def GA {N a0 b0 r} (h:mw N a0 b0=some r):Spec prog 231 [] [.agg (hU a0),.fp (bW b0)] (.bool r) [] []:=by
 refine so func231 ntmps231 fun a hn=>?_;unfold mw at h;exact Sr [3,3,7]
def Aw {N a0 a1 r} (h:nK N a0 a1=some r):Spec prog 203 [] [ke a0,.agg (bW a1)] (.int r) [] []:=by
 refine so func203 ntmps203 fun c hn=>?_;unfold nK at h;refine S [3] ?_;refine j6.gh (Gh.bF 3 3 rfl rfl rfl) (fun _=>?_);refine kd [0,3] [] ?_;refine B [3] fun _ a h=>?_;refine cA (Ec a (fun _ _ b=>GA b)) ?_;exact Sr [7]
def HB {N a0 a1 a2 a3 r} (h:sR N a0 a1 a2 a3=some r):Spec prog 168 [] [ke a0,.agg (bW a1),.int a2,.int a3] (.int r) [] []:=by
 refine so func168 ntmps168 fun n hn=>?_;unfold sR at h;refine B [3,3] fun _ f h=>?_;refine cA (Aw f) ?_;refine S [2,2] ?_;refine Jb 25 hn h [0,3,9] [] (fun _ h g=>?_) ?_
 ·refine I [5] ?_ ?_<;>intro _ h
  ·exact Sj [0]
  refine B [0] fun _ i h=>?_;refine H5 i ?_;exact Sj [0]
 intro m h;refine I [4] ?_ ?_<;>intro _ h
 ·exact Sr [3,7]
 refine B [1,2,3] fun _ d h=>?_;refine H5 d ?_;refine O1 fun c=>?_;refine LR e1 hn () (fun l k v=>nE N a3 l k) h (fun a v=>[(32,.int (a:Int))]) (fun a v=>[]) [3,30,31] [] [] (fun s=>[]) (fun s=>[]) [] [] ?_ ?_ ?_
 ·intro _ g a _ h _;rw[nE] at h;exact Sj [3,2,4,0,20]
 ·intro _ g a _ j e h _ b _;rw[nE] at h;refine S [3,2,4,0,1,2,6,3] ?_;refine W9 b ?_;refine I [3,4] ?_ ?_<;>intro _ h
  ·exact Sr [3,7]
  refine S [1,5] ?_;refine MA (AN (U9 b c) ?_);exact le () []
 rintro⟨⟩ h;exact Sr [3,7]
def zZ {N a0 g1 r} (h:I9 N a0 g1=some r) {m:Nat} {a:List AV} (f:∀d n,g1 d=some n->Spec prog m [] [.agg (V5 d),.fp a] (.bool n) [] []):Spec prog 172 [] [EG a0,.fn m [.fp a]] (.int r) [] []:=by
 refine so func172 ntmps172 fun p hn=>?_;unfold I9 at h;refine S [3,2,3] ?_;refine O1 fun i=>?_;refine LR e1 hn () (fun l k v=>C8 N g1 l k) h (fun e v=>[(8,.int (e:Int))]) (fun e v=>[]) [0,1,7] [] [] (fun s=>[]) (fun s=>[]) [] [] ?_ ?_ ?_
 ·intro _ g e _ h _;rw[C8] at h;exact Sj [3,2,4,0,20]
 ·intro _ g e _ o j h _ c _;rw[C8] at h;refine S [3,2,4,0,1,2,6,3,3] ?_;refine W9 c ?_;refine B [] fun _ b h=>?_;refine cA (f _ _ b) ?_;refine I [4] ?_ ?_<;>intro _ h
  ·exact Sr [3,7]
  refine S [1,5] ?_;refine MA (AN (U9 c i) ?_);exact le () []
 rintro⟨⟩ h;exact Sr [3,7]
def Ef {N a0 g1 r} (h:R9 N a0 g1=some r) {e:Nat} {a:List AV} (c:∀b f,g1 b=some f->Spec prog e [] [.agg (V5 b),.fp a] (.bool f) [] []):Spec prog 204 [] [EG a0,.fn e [.fp a]] (.bool r) [] []:=by
 refine so func204 ntmps204 fun i hn=>?_;unfold R9 at h;refine B [3,3] fun _ d h=>?_;refine cA (zZ d c) ?_;exact Sr [7]
def FW {N a0 b0 r} (h:sA N a0 b0=some r):Spec prog 205 [] [.agg (V5 a0),.fp [.int b0]] (.bool r) [] []:=by
 refine so func205 ntmps205 fun a hn=>?_;unfold sA at h;exact Sr [3,3,7]
def d44 (N:Nat) {l:List Ln} (h:Fit l.length 16):X3 N l=some l:=by
  unfold X3;rw[show IN (l.length*16) 140737488355328=true from Nat.ble_eq_true_of_le h];rfl
def R4 (t:Ce):List AV:=[.int t.site.cls,.str t.site.name,.int t.site.pos,.int t.aB,.bool t.many]
def dH (t:Ce):List AV×List (List AV):=(R4 t,t.lines.map V5)
def H0 (N:Nat) (l:List Ce) (s:Fit l.length 72) (i:∀t∈l,Fit t.lines.length 16):Spec prog 61 [] [.sl 6 (l.map hU)] (.cN 0) [(0,.nest 6 159 2 167 (l.map dH))] [0]:=by
  refine Spec.of fI func61 rfl ntmps61 y7 rfl rfl rfl fun u hn=>?_;(repeat (first|refine I7 hn ?_|refine P7 hn ?_|refine R5 hn ?_|refine O9 hn ?_|refine P8 hn ?_|refine N9 hn ?_|refine b7 hn ?_));refine O1 (fun c=>?_);(repeat (first|refine I7 hn ?_|refine P7 hn ?_|refine R5 hn ?_|refine O9 hn ?_|refine P8 hn ?_|refine N9 hn ?_|refine b7 hn ?_));refine j6.bK 3 3 6 159 rfl rfl rfl ?_;refine j6.gh (Gh.mQ 100 2 167 rfl rfl) (fun _=>?_);refine j6.loop (ι:={p:Nat×List (Hd×List AV×List (List AV)) // p.1<=l.length/\p.2.map (·.2)=(l.take p.1).map dH}) (fun p=>[(6,.sl 6 (l.map hU)),(7,.int l.length),(8,.int p.1.1),(3,.aL 3)])
    (fun p=>[(3,.row 6 (u6 p.1.2) 159),(100,.pins 2 (Z0 p.1.2) 167)]) (fun p=>l.length-p.1.1) ⟨(0,[]),d9,rfl⟩ [] ?_ ?_ ?_
  · exact⟨⟨rfl,rfl,rfl,rfl,trivial⟩,⟨rfl,rfl,trivial⟩,rfl,rfl⟩
  · intro k;rw[hn];rfl
  rintro⟨⟨k,z⟩,o,b⟩;have o:k<=l.length:=o;have b:z.map (·.2)=(l.take k).map dH:=b;(repeat (first|refine I7 hn ?_|refine P7 hn ?_|refine R5 hn ?_|refine O9 hn ?_|refine P8 hn ?_|refine N9 hn ?_|refine b7 hn ?_));refine jZ (fun a=>?_) (fun j=>?_)
  · have a:k<l.length:=by have:(k:Int)<(l.length:Int):=a;omega
    (repeat (first|refine I7 hn ?_|refine P7 hn ?_|refine R5 hn ?_|refine O9 hn ?_|refine P8 hn ?_|refine N9 hn ?_|refine b7 hn ?_));refine AN d9 (AN (by simpa using a) ?_);intro w f r;obtain⟨x,d,rfl⟩:=ER f;have d:l[k]?=some x:=d;(repeat (first|refine I7 hn ?_|refine P7 hn ?_|refine R5 hn ?_|refine O9 hn ?_|refine P8 hn ?_|refine N9 hn ?_|refine b7 hn ?_));show L9 _ _ _ _ _;refine L9.a_ ((uE N x.lines x.lines (d44 N (i x (MI d)))).sw 0 14) (by first|exact kL rfl|((repeat (refine AN rfl ?_));exact trivial)) (by(repeat (refine AN rfl ?_));exact trivial) rfl ?_;refine j6.gh (Gh.tq 5 5 14 100 rfl rfl rfl rfl rfl rfl rfl) (fun h=>?_);(repeat (first|refine I7 hn ?_|refine P7 hn ?_|refine R5 hn ?_|refine O9 hn ?_|refine P8 hn ?_|refine N9 hn ?_|refine b7 hn ?_));refine Exists.intro [R4 x++[.ad h.v]] (AN aT ?_);have n:(u6 z).length=k:=by
      have:=jb b;rw[Mk] at this;simp only[u6,MP];omega
    refine AN ?_ (Exists.intro (u6 (z++[(h,dH x)])) (AN (by rw[uL];exact Q8 _) ?_))
    · show((u6 z).length+1)*72<=_;rw[n];exact Nat.le_trans (Ml 72 a) s
    (repeat (first|refine I7 hn ?_|refine P7 hn ?_|refine R5 hn ?_|refine O9 hn ?_|refine P8 hn ?_|refine N9 hn ?_|refine b7 hn ?_));refine MA (AN (xg a c) ?_);have m:(z++[(h,dH x)]).map (·.2)=(l.take (k+1)).map dH:=by
      rw[xX d,List.map_append,List.map_append,show z.map (·.2)=(l.take k).map dH from b];rfl
    refine⟨⟨(k+1,z++[(h,dH x)]),a,m⟩,[(3,19)],by show l.length-(k+1)<l.length-k;omega,⟨⟨rfl,rfl,rfl,rfl,trivial⟩,⟨rfl,?_,trivial⟩,rfl,rfl⟩⟩
    · exact congrArg (fun q=>some (Obj.pins 2 q 167)) (vH z (h,dH x)).symm
  · have e:k=l.length:=by have:¬(k:Int)<(l.length:Int):=j;omega
    subst e;have b:z.map (·.2)=l.map dH:=by
      have:z.map (·.2)=(l.take l.length).map dH:=b;rwa [List.take_length] at this
    refine P8 hn ?_;show j6 prog u _ _ _ _;refine j6.gh (Gh.close 3 3 100 101 z rfl rfl rfl rfl rfl b rfl rfl rfl rfl rfl) ?_;intro _;(repeat (first|refine I7 hn ?_|refine P7 hn ?_|refine R5 hn ?_|refine O9 hn ?_|refine P8 hn ?_|refine N9 hn ?_|refine b7 hn ?_));exact⟨[(0,101)],_,rfl,rfl,⟨rfl,trivial⟩,rfl,rfl,rfl,rfl,rfl⟩
def Cz (l:List Ce):dy 2 (l.map dH)=l.map hU:=by simp[dy,dH,R4,hU]
theorem Dt (N:Nat) (s:St):∀(l:List Ce) (k:Nat),C9 N (fun x=>mw N x s) l k=some (match l.findIdx? (fun t=>decide (t.site=s)) with|some i=>.ret ((k+i:Nat):Int)|none=>.next ())
  |[],k=>rfl
  |x::l,k=>by
    rw[C9,nV,Dt N s l (k+1)];unfold mw;rw[show dG (bW x.site) (bW s)=decide (x.site=s) from zH x.site s];by_cases e:x.site=s
    · simp[e]
    · cases l.findIdx? (fun t=>decide (t.site=s))<;>simp[e];omega
def GN (N:Nat) (l:List Ce) (s:St):nK N l s=some (fw (fun t=>decide (t.site=s)) l):=by
  unfold nK M8 fw;rw[Dt];cases l.findIdx? (fun t=>decide (t.site=s))<;>simp
theorem d97 (N:Nat) (c:Int):∀(l:List Ln) (k:Nat),C8 N (fun x=>sA N x c) l k=some (match l.findIdx? (fun t=>decide (t.cls=c)) with|some i=>.ret ((k+i:Nat):Int)|none=>.next ())
  |[],k=>rfl
  |x::l,k=>by
    rw[C8,nV,d97 N c l (k+1)];unfold sA;by_cases e:x.cls=c
    · simp[e]
    · cases l.findIdx? (fun t=>decide (t.cls=c))<;>simp[e];omega
def Hl (N:Nat) (c:Int) (l:List Ln):R9 N l (fun x=>sA N x c)=some (decide (0<=fw (fun t=>decide (t.cls=c)) l)):=by
  unfold R9 I9 fw;rw[d97];cases l.findIdx? (fun t=>decide (t.cls=c))<;>simp
def HL (N:Nat) (l:List Ce) (s:St) (e:Int) (c:Int) (f:Int) (r:List Ce) (h:sQ N l s e c f=some r):Spec prog 169 [] [.sl 6 (l.map hU),.agg (bW s),.int e,.int c,.int f] (.aL 0) [(0,.row 6 (r.map hU) 159)] [0]:=by
  unfold sQ at h;obtain⟨R,h⟩:=iz h;obtain rfl:=oI h;rw[IT,MK] at R;have hf:Fit (l.length+1) 72:=MR R.1;have M:∀t∈l,Fit (t.lines.length+1) 16:=fun t ht=>MR (R.2 t ht);clear h R;refine Spec.of fI func169 rfl ntmps169 y7 rfl rfl rfl fun D hn=>?_;refine I7 hn ?_;show j6 prog D _ _ _ _;refine j6.gh (Gh.bF 6 6 rfl rfl rfl) ?_;intro _;show j6 prog D _ _ _ _;refine j6.gh (Gh.bF 8 8 rfl rfl rfl) ?_;intro _;(repeat (first|refine I7 hn ?_|refine P7 hn ?_|refine R5 hn ?_|refine O9 hn ?_|refine P8 hn ?_|refine N9 hn ?_|refine b7 hn ?_));show L9 _ _ _ _ _;refine L9.a_ ((H0 N l (Nat.le_trans (Ml _ (Nat.le_succ _)) hf) (fun t ht=>Nat.le_trans (Ml _ (Nat.le_succ _)) (M t ht))).sw 0 15) (by first|exact kL rfl|((repeat (refine AN rfl ?_));exact trivial)) (by(repeat (refine AN rfl ?_));exact trivial) rfl ?_;(repeat (first|refine I7 hn ?_|refine P7 hn ?_|refine R5 hn ?_|refine O9 hn ?_|refine P8 hn ?_|refine N9 hn ?_|refine b7 hn ?_));show L9 _ _ _ _ _;refine L9.hZ (Aw (GN N l s)) ?_ rfl ?_
  · show dZ [.sl 6 (dy 2 (l.map dH)),.agg (bW s)] _;rw[Cz];exact kL rfl
  show j6 prog D _ _ _ _;refine j6.gh (Gh.open 11 15 102 103 rfl rfl rfl rfl rfl rfl (fun _=>rfl)) ?_;rintro⟨z,G⟩;refine j6.cut (ι:={ q:Nat×Ce×Hd×List (Hd×List AV×List (List AV)) // q.2.2.2[q.1]?=some (q.2.2.1,dH q.2.1)/\q.2.2.2.map (·.2)=(bf (fun t:Ce=>decide (t.site=s)) ⟨s,e,false,[]⟩ l).1.map dH/\(bf (fun t:Ce=>decide (t.site=s)) ⟨s,e,false,[]⟩ l).1[q.1]?=some q.2.1/\(bf (fun t:Ce=>decide (t.site=s)) ⟨s,e,false,[]⟩ l).2=q.1/\Fit (q.2.1.lines.length+1) 16/\q.2.1.site=s })
    (fun q=>[(11,.aL 102),(12,.int q.1.1),(2,.int e),(4,.int f),(6,.fp (bW s)),(8,.fp [.int c])]) (fun q=>[(102,.row 6 (u6 q.1.2.2.2) 159),(103,.pins 2 ((Z0 q.1.2.2.2).eraseIdx q.1.1) 167),(104,.row 2 (q.1.2.1.lines.map V5) 167),(105,.eqv 104 q.1.2.2.1.v)]) ?_ ?_ ?_
  · (repeat (first|refine I7 hn ?_|refine P7 hn ?_|refine R5 hn ?_|refine O9 hn ?_|refine P8 hn ?_|refine N9 hn ?_|refine b7 hn ?_));rcases vZ (fun t:Ce=>decide (t.site=s)) l with⟨k,x,e1,H,e3,e4⟩|⟨e1,H⟩
    · refine jZ (fun B=>?_) (fun A=>?_)
      · rw[e1] at B;omega
      · obtain⟨h,P⟩:=Dw G H;have X:(Z0 z).Perm ((h,x.lines.map V5)::(Z0 z).eraseIdx k):=by
          have hk:(Z0 z)[k]?=some (h,x.lines.map V5):=(by simp[Z0,P,dH]);obtain⟨hl,hv⟩:=Lx.1 hk;rw[<-hv];exact(List.ai hl).symm
        show j6 prog D _ _ _ _;refine j6.gh (Gh.mS 103 104 105 rfl X rfl rfl rfl rfl rfl) ?_;intro _;refine N9 hn ?_;have ex:bf (fun t:Ce=>decide (t.site=s)) ⟨s,e,false,[]⟩ l=(l,k):=by unfold bf;rw[e4]
        refine⟨⟨(k,x,h,z),P,by rw[ex];exact G,by rw[ex];exact H,by rw[ex],M x (MI H),of_decide_eq_true e3⟩,[],⟨⟨rfl,congrArg AV.int e1,rfl,rfl,rfl,rfl,trivial⟩,⟨rfl,rfl,rfl,rfl,trivial⟩,rfl,rfl⟩⟩
    · refine jZ (fun B=>?_) (fun A=>?_)
      · (repeat (first|refine I7 hn ?_|refine P7 hn ?_|refine R5 hn ?_|refine O9 hn ?_|refine P8 hn ?_|refine N9 hn ?_|refine b7 hn ?_));rintro _ rfl hlen;refine j6.ops (jt hn 7 ?_);refine Exists.intro [[.int s.cls,.str s.name,.int s.pos,.int e,.bool false,.aP]] (AN aT ?_);refine AN ?_ (Exists.intro (u6 z++[[AV.int s.cls,.str s.name,.int s.pos,.int e,.bool false,.aP]]) (AN (Q8 _) ?_))
        · show((u6 z).length+1)*72<=_;rw[show(u6 z).length=l.length by simp only[u6,MP];exact jb G];exact hf
        have ah:(u6 z++[[AV.int s.cls,.str s.name,.int s.pos,.int e,.bool false,.aP]])[l.length]?=some [AV.int s.cls,.str s.name,.int s.pos,.int e,.bool false,.aP]:=by
          rw[MS (by simp[u6,jb G])];simp[u6,jb G]
        show cd prog D _ _ _ _ _;refine cd.gh (Gh.fA (r:=28) (i:=l.length) (off:=5) (j:=104) (j':=105) (isz:=2) (ie:=167) rfl ah rfl rfl rfl rfl rfl rfl) ?_;intro _;refine cd.done ?_;have ex:bf (fun t:Ce=>decide (t.site=s)) ⟨s,e,false,[]⟩ l=(l++[⟨s,e,false,[]⟩],l.length):=by unfold bf;rw[H]
        have o:=jb G;refine⟨⟨(l.length,⟨s,e,false,[]⟩,⟨none,0,0⟩,z++[(⟨none,0,0⟩,dH ⟨s,e,false,[]⟩)]),?_,?_,?_,?_,?_,rfl⟩,[(102,28)],⟨⟨rfl,?_,rfl,rfl,rfl,rfl,trivial⟩,⟨?_,?_,rfl,rfl,trivial⟩,rfl,rfl⟩⟩
        · show(z++[_])[l.length]?=_;rw[MS d9];simp[o]
        · rw[ex];show MF (fun p:Hd×List AV×List (List AV)=>p.2) (z++[_])=MF dH (l++[_]);rw[List.map_append,List.map_append,G];rfl
        · rw[ex];show(l++[_])[l.length]?=_;rw[MS (It _)];simp
        · rw[ex]
        · show(0+1)*16<=_;decide
        · exact congrArg AV.int (by simp[u6,o])
        · refine congrArg (fun q=>some (Obj.row 6 q 159)) ?_;show(u6 z++[_]).set l.length _=u6 (z++[_]);rw[uL,List.set_append_right _ _ (by simp[u6,o])];simp[u6,o,dH,R4]
        · refine congrArg (fun q=>some (Obj.pins 2 q 167)) ?_;show Z0 z=(Z0 (z++[_])).eraseIdx l.length;rw[vH,List.eraseIdx_append_of_length_le (by simp[Z0,o])];simp[Z0,o]
      · rw[e1] at A;omega
  · intro k;rw[hn];rfl
  rintro⟨⟨k,x,h,z⟩,w,Y,Z,hq4,hq5,F⟩;have w:z[k]?=some (h,dH x):=w;have F:x.site=s:=F;have b:k<(u6 z).length:=by
    have:=(Lx.1 w).1;simpa[u6] using this
  have ah:(u6 z)[k]?=some (R4 x++[.ad h.v]):=by simp[u6,w,dH]
  (repeat (first|refine I7 hn ?_|refine P7 hn ?_|refine R5 hn ?_|refine O9 hn ?_|refine P8 hn ?_|refine N9 hn ?_|refine b7 hn ?_));refine AN d9 (AN (by simpa using b) ?_);refine AN (by simpa using b) (fun d a=>?_);have a:(u6 z)[k]?=some d:=a;obtain rfl:d=R4 x++[.ad h.v]:=oI (a.symm.trans ah);show j6 prog D _ _ _ _;refine j6.jH (ι:={ q:Ce×Hd // q.1=fg e x/\Fit (q.1.lines.length+1) 16 })
    (fun q=>[(11,.aL 102),(12,.int k),(4,.int f),(8,.fp [.int c])]) (fun q=>[(102,.row 6 ((u6 z).set k (R4 q.1.1++[.ad q.1.2.v])) 159),(103,.pins 2 ((Z0 z).eraseIdx k) 167),(104,.row 2 (q.1.1.lines.map V5) 167),(105,.eqv 104 q.1.2.v)]) (fun Q2 Q q2x q2r=>?_) (by intro k;rw[hn];rfl) ?_
  · (repeat (first|refine I7 hn ?_|refine P7 hn ?_|refine R5 hn ?_|refine O9 hn ?_|refine P8 hn ?_|refine N9 hn ?_|refine b7 hn ?_));refine nO (fun T=>?_) (fun T=>?_)
    · have W:¬x.aB=e:=by simpa using T
      have n:fg e x=⟨x.site,e,false,[]⟩:=Mt W;refine P7 hn ?_;refine AN d9 (AN (by simpa using b) ?_);refine AN (by simpa using b) (fun d a=>?_);have a:(u6 z)[k]?=some d:=a;obtain rfl:d=R4 x++[.ad h.v]:=oI (a.symm.trans ah);refine Exists.intro ((u6 z).set k [.int s.cls,.str s.name,.int s.pos,.int e,.bool false,.aP]) (AN (Q8 _) ?_);have J:((u6 z).set k [AV.int s.cls,.str s.name,.int s.pos,.int e,.bool false,.aP])[k]?=some [AV.int s.cls,.str s.name,.int s.pos,.int e,.bool false,.aP]:=by rw[MQ,Mu rfl,Mu b]
      refine Q _ _ ?_;refine Z8.gh (Gh.fA (r:=102) (i:=k) (off:=5) (j:=106) (j':=107) (isz:=2) (ie:=167) rfl J rfl rfl rfl rfl rfl rfl) (fun _=>?_);refine Z8.done ?_;refine⟨⟨(fg e x,⟨none,0,0⟩),rfl,by show Fit ((fg e x).lines.length+1) 16;rw[n];show(0+1)*16<=_;decide⟩,[(104,106),(105,107)],trivial,⟨⟨rfl,rfl,rfl,rfl,trivial⟩,⟨?_,rfl,?_,rfl,trivial⟩,rfl,rfl⟩⟩
      · refine congrArg (fun q=>some (Obj.row 6 q 159)) ?_;show((u6 z).set k [AV.int s.cls,.str s.name,.int s.pos,.int e,.bool false,.aP]).set k [AV.int s.cls,.str s.name,.int s.pos,.int e,.bool false,.ad (⟨none,0,0⟩:Hd).v]=(u6 z).set k (R4 (fg e x)++[.ad (⟨none,0,0⟩:Hd).v]);rw[List.set_set,n,<-F];rfl
      · refine congrArg (fun q=>some (Obj.row 2 q 167)) ?_;show[]=MF V5 (fg e x).lines;rw[n];rfl
    · have he:x.aB=e:=by simpa using T
      have n:fg e x=x:=Mu he;refine N9 hn ?_;refine Q _ _ ?_;refine Z8.done ?_;refine⟨⟨(fg e x,h),rfl,by show Fit ((fg e x).lines.length+1) 16;rw[n];exact hq5⟩,[],trivial,⟨⟨rfl,rfl,rfl,rfl,trivial⟩,⟨?_,rfl,?_,rfl,trivial⟩,rfl,rfl⟩⟩
      · refine congrArg (fun q=>some (Obj.row 6 q 159)) ?_;show u6 z=(u6 z).set k (R4 (fg e x)++[.ad h.v]);rw[n];exact(xO ah).symm
      · refine congrArg (fun q=>some (Obj.row 2 q 167)) ?_;show MF V5 x.lines=MF V5 (fg e x).lines;rw[n]
  rintro⟨⟨y,g⟩,hy,E⟩;have hy:y=fg e x:=hy;have E:Fit (y.lines.length+1) 16:=E;have m:((u6 z).set k (R4 y++[.ad g.v]))[k]?=some (R4 y++[.ad g.v]):=by rw[MQ,Mu rfl,Mu b]
  (repeat (first|refine I7 hn ?_|refine P7 hn ?_|refine R5 hn ?_|refine O9 hn ?_|refine P8 hn ?_|refine N9 hn ?_|refine b7 hn ?_));refine AN d9 (AN (by simpa using b) ?_);show j6 prog D _ _ _ _;refine j6.oU fun Q4 q4n q4x q4r=>?_;refine j6.jH (ι:=Hd) (fun q=>[(11,.aL 102),(12,.int k)]) (fun q=>[(102,.row 6 ((u6 z).set k (R4 (Y3 c f y)++[.ad q.v])) 159),(103,.pins 2 ((Z0 z).eraseIdx k) 167),(104,.row 2 ((Y3 c f y).lines.map V5) 167),(105,.eqv 104 q.v)]) (fun Q3 C q3x q3r=>?_) (by intro k;rw[hn];rfl) ?_
  · (repeat (first|refine I7 hn ?_|refine P7 hn ?_|refine R5 hn ?_|refine O9 hn ?_|refine P8 hn ?_|refine N9 hn ?_|refine b7 hn ?_));refine AN (by simpa using b) (fun d a=>?_);have a:((u6 z).set k (R4 y++[.ad g.v]))[k]?=some d:=a;obtain rfl:d=R4 y++[.ad g.v]:=oI (a.symm.trans m);refine nO (fun u=>?_) (fun u=>?_)
    · repeat (refine d37 u ?_)
      have hl:Y3 c f y=y:=Mu (MA u);(repeat (first|refine I7 hn ?_|refine P7 hn ?_|refine R5 hn ?_|refine O9 hn ?_|refine P8 hn ?_|refine N9 hn ?_|refine b7 hn ?_));refine C _ _ ?_;refine Z8.done ?_;refine⟨g,[],trivial,⟨⟨rfl,rfl,trivial⟩,⟨?_,rfl,?_,rfl,trivial⟩,rfl,rfl⟩⟩
      · refine congrArg (fun q=>some (Obj.row 6 q 159)) ?_;show(u6 z).set k (R4 y++[.ad g.v])=(u6 z).set k (R4 (Y3 c f y)++[.ad g.v]);rw[hl]
      · refine congrArg (fun q=>some (Obj.row 2 q 167)) ?_;show MF V5 y.lines=MF V5 (Y3 c f y).lines;rw[hl]
    · refine nt u ?_;refine nt u ?_;refine nt u ?_;refine AN (by simpa using b) (fun d a=>?_);have a:((u6 z).set k (R4 y++[.ad g.v]))[k]?=some d:=a;obtain rfl:d=R4 y++[.ad g.v]:=oI (a.symm.trans m);refine AN rfl ?_;refine nt u ?_;refine nt u ?_;show L9 _ _ _ _ _;refine L9.hZ (Ef (Hl N c y.lines) (fun _ _ h=>FW h)) (kL rfl) rfl ?_;refine nt u ?_;(repeat (first|refine I7 hn ?_|refine P7 hn ?_|refine R5 hn ?_|refine O9 hn ?_|refine P8 hn ?_|refine N9 hn ?_|refine b7 hn ?_));refine nO (fun U=>?_) (fun U=>?_)
      · have hl:Y3 c f y=y:=Mu (Or.inr (of_decide_eq_true U));(repeat (first|refine I7 hn ?_|refine P7 hn ?_|refine R5 hn ?_|refine O9 hn ?_|refine P8 hn ?_|refine N9 hn ?_|refine b7 hn ?_));refine C _ _ ?_;refine Z8.done ?_;refine⟨g,[],trivial,⟨⟨rfl,rfl,trivial⟩,⟨?_,rfl,?_,rfl,trivial⟩,rfl,rfl⟩⟩
        · refine congrArg (fun q=>some (Obj.row 6 q 159)) ?_;show(u6 z).set k (R4 y++[.ad g.v])=(u6 z).set k (R4 (Y3 c f y)++[.ad g.v]);rw[hl]
        · refine congrArg (fun q=>some (Obj.row 2 q 167)) ?_;show MF V5 y.lines=MF V5 (Y3 c f y).lines;rw[hl]
      · have O:¬(y.many=true\/0<=fw (fun t:Ln=>decide (t.cls=c)) y.lines):=by
          rintro(h|h)
          · rw[h] at u;cases u
          · exact absurd h (of_decide_eq_false U)
        (repeat (first|refine I7 hn ?_|refine P7 hn ?_|refine R5 hn ?_|refine O9 hn ?_|refine P8 hn ?_|refine N9 hn ?_|refine b7 hn ?_));refine AN (by simpa using b) (fun d a=>?_);have a:((u6 z).set k (R4 y++[.ad g.v]))[k]?=some d:=a;obtain rfl:d=R4 y++[.ad g.v]:=oI (a.symm.trans m);refine AN rfl ?_;rintro _ rfl V;(repeat (first|refine I7 hn ?_|refine P7 hn ?_|refine R5 hn ?_|refine O9 hn ?_|refine P8 hn ?_|refine N9 hn ?_|refine b7 hn ?_));refine jZ (fun B=>?_) (fun A=>?_)
        · have I:(3:Int)<=(y.lines.length:Int):=by simpa using B
          have hl:Y3 c f y=⟨y.site,y.aB,true,[]⟩:=by unfold Y3;rw[Mt O,Mu I]
          (repeat (first|refine I7 hn ?_|refine P7 hn ?_|refine R5 hn ?_|refine O9 hn ?_|refine P8 hn ?_|refine N9 hn ?_|refine b7 hn ?_));refine AN (by simpa using b) (fun d a=>?_);have a:((u6 z).set k (R4 y++[.ad g.v]))[k]?=some d:=a;obtain rfl:d=R4 y++[.ad g.v]:=oI (a.symm.trans m);refine Exists.intro ((u6 z).set k [.int y.site.cls,.str y.site.name,.int y.site.pos,.int y.aB,.bool true,.ad g.v]) (AN (by show bz (((u6 z).set k (R4 y++[.ad g.v])).set k [AV.int y.site.cls,.str y.site.name,.int y.site.pos,.int y.aB,.bool true,.ad g.v]) _;rw[List.set_set];exact Q8 _) ?_);have K:((u6 z).set k [AV.int y.site.cls,.str y.site.name,.int y.site.pos,.int y.aB,.bool true,.ad g.v])[k]?=some [AV.int y.site.cls,.str y.site.name,.int y.site.pos,.int y.aB,.bool true,.ad g.v]:=by rw[MQ,Mu rfl,Mu b]
          refine AN (by simpa using b) (fun d a=>?_);have a:((u6 z).set k [AV.int y.site.cls,.str y.site.name,.int y.site.pos,.int y.aB,.bool true,.ad g.v])[k]?=some d:=a;obtain rfl:d=[AV.int y.site.cls,.str y.site.name,.int y.site.pos,.int y.aB,.bool true,.ad g.v]:=oI (a.symm.trans K);refine Exists.intro ((u6 z).set k [.int y.site.cls,.str y.site.name,.int y.site.pos,.int y.aB,.bool true,.aP]) (AN (by show bz (((u6 z).set k [AV.int y.site.cls,.str y.site.name,.int y.site.pos,.int y.aB,.bool true,.ad g.v]).set k [AV.int y.site.cls,.str y.site.name,.int y.site.pos,.int y.aB,.bool true,.aP]) _;rw[List.set_set];exact Q8 _) ?_);have L:((u6 z).set k [AV.int y.site.cls,.str y.site.name,.int y.site.pos,.int y.aB,.bool true,.aP])[k]?=some [AV.int y.site.cls,.str y.site.name,.int y.site.pos,.int y.aB,.bool true,.aP]:=by rw[MQ,Mu rfl,Mu b]
          (repeat (first|refine I7 hn ?_|refine P7 hn ?_|refine R5 hn ?_|refine O9 hn ?_|refine P8 hn ?_|refine N9 hn ?_|refine b7 hn ?_));refine C _ _ ?_;refine Z8.gh (Gh.fA (r:=102) (i:=k) (off:=5) (j:=106) (j':=107) (isz:=2) (ie:=167) rfl L rfl rfl rfl rfl rfl rfl) (fun _=>?_);refine Z8.done ?_;refine⟨⟨none,0,0⟩,[(104,106),(105,107)],trivial,⟨⟨rfl,rfl,trivial⟩,⟨?_,rfl,?_,rfl,trivial⟩,rfl,rfl⟩⟩
          · refine congrArg (fun q=>some (Obj.row 6 q 159)) ?_;show((u6 z).set k [AV.int y.site.cls,.str y.site.name,.int y.site.pos,.int y.aB,.bool true,.aP]).set k [AV.int y.site.cls,.str y.site.name,.int y.site.pos,.int y.aB,.bool true,.ad (⟨none,0,0⟩:Hd).v]=(u6 z).set k (R4 (Y3 c f y)++[.ad (⟨none,0,0⟩:Hd).v]);rw[List.set_set,hl];rfl
          · refine congrArg (fun q=>some (Obj.row 2 q 167)) ?_;show[]=MF V5 (Y3 c f y).lines;rw[hl];rfl
        · have I:¬(3:Int)<=(y.lines.length:Int):=by simpa using A
          have hl:Y3 c f y=⟨y.site,y.aB,y.many,y.lines++[⟨c,f⟩]⟩:=by unfold Y3;rw[Mt O,Mt I]
          refine vw hn y7 ?_;refine AN (by simpa using b) (fun d a=>?_);have a:((u6 z).set k (R4 y++[.ad g.v]))[k]?=some d:=a;obtain rfl:d=R4 y++[.ad g.v]:=oI (a.symm.trans m);refine AN rfl ?_;refine Exists.intro (MF V5 [⟨c,f⟩]) (AN aT ?_);refine AN ?_ (Exists.intro (MF V5 (y.lines++[⟨c,f⟩])) (AN (vR (Q8 _)) ?_))
          · show((y.lines.map V5).length+1)*16<=_;rw[MP];exact E
          refine AN (by simpa using b) (AN ?_ ?_)
          · intro d a;have a:((u6 z).set k (R4 y++[.ad g.v]))[k]?=some d:=a;obtain rfl:d=R4 y++[.ad g.v]:=oI (a.symm.trans m);show 5<6;omega
          refine C _ _ ?_;refine Z8.gh (Gh.bZ 102 106 rfl rfl rfl (fun _=>rfl) rfl) (fun S=>?_);refine Z8.done ?_;refine⟨S,[(104,54),(105,106)],trivial,⟨⟨rfl,rfl,trivial⟩,⟨?_,rfl,?_,rfl,trivial⟩,rfl,rfl⟩⟩
          · refine congrArg (fun q=>some (Obj.row 6 q 159)) ?_;show hC ((u6 z).set k (R4 y++[.ad g.v])) k 5 (.ad S.v)=(u6 z).set k (R4 (Y3 c f y)++[.ad S.v]);unfold hC;rw[m,hl];show((u6 z).set k _).set k _=_;rw[List.set_set];rfl
          · refine congrArg (fun q=>some (Obj.row 2 q 167)) ?_;show MF V5 (y.lines++[⟨c,f⟩])=MF V5 (Y3 c f y).lines;rw[hl]
  intro q;refine q4n _ _ ?_;have hat4:((u6 z).set k (R4 (Y3 c f y)++[.ad q.v]))[k]?=some (R4 (Y3 c f y)++[.ad q.v]):=by rw[MQ,Mu rfl,Mu b]
  have hzk:k<z.length:=(Lx.1 w).1;have X:(Z0 (z.set k (q,R4 (Y3 c f y),(Y3 c f y).lines.map V5))).Perm ((q,(Y3 c f y).lines.map V5)::(Z0 z).eraseIdx k):=by
    rw[show Z0 (z.set k (q,R4 (Y3 c f y),(Y3 c f y).lines.map V5))=(Z0 z).set k (q,(Y3 c f y).lines.map V5) by simp[Z0,List.map_set]];exact set_perm (by simpa[Z0] using hzk)
  show j6 prog D _ _ _ _;refine j6.gh (Gh.mR (h:=q) (ls:=(Y3 c f y).lines.map V5) (l':=Z0 (z.set k (q,R4 (Y3 c f y),(Y3 c f y).lines.map V5))) 104 105 103 rfl rfl rfl X rfl rfl rfl) (fun _=>?_);have hz2:(z.set k (q,R4 (Y3 c f y),(Y3 c f y).lines.map V5)).map (·.2)=((bf (fun t:Ce=>decide (t.site=s)) ⟨s,e,false,[]⟩ l).1.modify (bf (fun t:Ce=>decide (t.site=s)) ⟨s,e,false,[]⟩ l).2 (iV e c f)).map dH:=by
    have h2:(bf (fun t:Ce=>decide (t.site=s)) ⟨s,e,false,[]⟩ l).2=k:=hq4;have I:z.map (·.2)=(bf (fun t:Ce=>decide (t.site=s)) ⟨s,e,false,[]⟩ l).1.map dH:=Y;have h4:(bf (fun t:Ce=>decide (t.site=s)) ⟨s,e,false,[]⟩ l).1[k]?=some x:=Z;rw[h2,xF h4,List.map_set,List.map_set,I];unfold iV;rw[<-hy];rfl
  refine j6.gh (Gh.close 11 102 103 108 (z.set k (q,R4 (Y3 c f y),(Y3 c f y).lines.map V5)) rfl rfl rfl (by show(u6 z).set k _=_;simp[u6,List.map_set]) rfl hz2 rfl rfl rfl rfl rfl) (fun _=>?_);show j6 prog D _ _ _ _;refine j6.flat 11 108 109 rfl rfl rfl rfl rfl ?_;rw[Cz];(repeat (first|refine I7 hn ?_|refine P7 hn ?_|refine R5 hn ?_|refine O9 hn ?_|refine P8 hn ?_|refine N9 hn ?_|refine b7 hn ?_));exact⟨[(0,109)],_,rfl,rfl,⟨rfl,trivial⟩,rfl,rfl,rfl,rfl,rfl⟩
def Gl {N a0 a1 a2 a3 a4 r} (h:sI N a0 a1 a2 a3 a4=some r):Spec prog 129 [] [ke a0,.agg (Q7 a1),.agg (bW a2),.int a3,.str a4] (.ab [.aL 0,.int r.2.1,.int r.2.2.1,.bool r.2.2.2]) [(0,d70 r.1)] [0]:=by
 refine so func129 ntmps129 fun j hn=>?_;unfold sI at h;refine B [3,2,3] fun _ e h=>?_;refine cA (HB e) ?_;refine S [2] ?_;refine Jb 33 hn h [0,3,4,6,7,14] [6,7] (fun _ h g=>?_) ?_
 ·refine kd [0,3,4,6,7,14] [6,7] ?_;refine I [5] ?_ ?_<;>intro _ h
  ·exact Sj [0,13,0]
  exact Sj [0]
 intro i h;refine I [4] ?_ ?_<;>intro _ h
 ·refine B [3] fun _ f h=>?_;refine cA (jT f) ?_;refine B [3] fun _ a h=>?_;refine cA ((uj a).sw 0 42) ?_;exact Sr [7] [(0,42)]
 refine B [1,3] fun _ b h=>?_;refine cA (jT b) ?_;refine I [2,3,4] ?_ ?_<;>intro _ h
 ·refine kd [0,17,18] [] ?_;refine B [3] fun _ c h=>?_;refine cA ((uj c).sw 0 55) ?_;exact Sr [7] [(0,55)]
 refine S [1] ?_;refine kd [0,3,6,7,17,18] [6,7] ?_;refine B [3] fun _ d h=>?_;refine cA ((HL N _ _ _ _ _ _ d).sw 0 64) ?_;exact Sr [7] [(0,64)]
def Eh {N a0 g1 r} (h:U4 N a0 g1=some r) {m:Nat} {a:List AV} (f:∀d n,g1 d=some n->Spec prog m [] [.agg (hX d),.fp a] (.bool n) [] []):Spec prog 170 [] [jA a0,.fn m [.fp a]] (.int r) [] []:=by
 refine so func170 ntmps170 fun p hn=>?_;unfold U4 at h;refine S [3,2,3] ?_;refine O1 fun i=>?_;refine LR e1 hn () (fun l k v=>F4 N g1 l k) h (fun e v=>[(8,.int (e:Int))]) (fun e v=>[]) [0,1,7] [] [] (fun s=>[]) (fun s=>[]) [] [] ?_ ?_ ?_
 ·intro _ g e _ h _;rw[F4] at h;exact Sj [3,2,4,0,20]
 ·intro _ g e _ o j h _ c _;rw[F4] at h;refine S [3,2,4,0,1,2,6,3,3] ?_;refine W9 c ?_;refine B [] fun _ b h=>?_;refine cA (f _ _ b) ?_;refine I [4] ?_ ?_<;>intro _ h
  ·exact Sr [3,7]
  refine S [1,5] ?_;refine MA (AN (U9 c i) ?_);exact le () []
 rintro⟨⟩ h;exact Sr [3,7]
def GZ {N a0 b0 r} (h:rz N a0 b0=some r):Spec prog 171 [] [.agg (hX a0),.fp (bW b0)] (.bool r) [] []:=by
 refine so func171 ntmps171 fun a hn=>?_;unfold rz at h;exact Sr [3,3,7]
def GS {N a0 b0 r} (h:sE N a0 b0=some r):Spec prog 173 [] [.agg (V5 a0),.fp [.int b0]] (.bool r) [] []:=by
 refine so func173 ntmps173 fun a hn=>?_;unfold sE at h;exact Sr [3,3,7]
def IX (N:Nat) {l:List Ln} (h:Fit l.length 16):X3 N l=some l:=by
  unfold X3;rw[show IN (l.length*16) 140737488355328=true from Nat.ble_eq_true_of_le h];rfl
def eb (t:Tl):List AV:=[.int t.site.cls,.str t.site.name,.int t.site.pos]
def dI (t:Tl):List AV×List (List AV):=(eb t,t.a7.map V5)
def Gd (N:Nat) (l:List Tl) (s:Fit l.length 56) (i:∀t∈l,Fit t.a7.length 16):Spec prog 62 [] [.sl 4 (l.map hX)] (.cN 0) [(0,.nest 4 162 2 167 (l.map dI))] [0]:=by
  refine Spec.of fI func62 rfl ntmps62 y7 rfl rfl rfl fun u hn=>?_;(repeat (first|refine I7 hn ?_|refine P7 hn ?_|refine R5 hn ?_|refine O9 hn ?_|refine P8 hn ?_|refine N9 hn ?_|refine b7 hn ?_));refine O1 (fun c=>?_);(repeat (first|refine I7 hn ?_|refine P7 hn ?_|refine R5 hn ?_|refine O9 hn ?_|refine P8 hn ?_|refine N9 hn ?_|refine b7 hn ?_));refine j6.bK 3 3 4 162 rfl rfl rfl ?_;refine j6.gh (Gh.mQ 100 2 167 rfl rfl) (fun _=>?_);refine j6.loop (ι:={p:Nat×List (Hd×List AV×List (List AV)) // p.1<=l.length/\p.2.map (·.2)=(l.take p.1).map dI}) (fun p=>[(6,.sl 4 (l.map hX)),(7,.int l.length),(8,.int p.1.1),(3,.aL 3)])
    (fun p=>[(3,.row 4 (u6 p.1.2) 162),(100,.pins 2 (Z0 p.1.2) 167)]) (fun p=>l.length-p.1.1) ⟨(0,[]),d9,rfl⟩ [] ?_ ?_ ?_
  · exact⟨⟨rfl,rfl,rfl,rfl,trivial⟩,⟨rfl,rfl,trivial⟩,rfl,rfl⟩
  · intro k;rw[hn];rfl
  rintro⟨⟨k,z⟩,o,b⟩;have o:k<=l.length:=o;have b:z.map (·.2)=(l.take k).map dI:=b;(repeat (first|refine I7 hn ?_|refine P7 hn ?_|refine R5 hn ?_|refine O9 hn ?_|refine P8 hn ?_|refine N9 hn ?_|refine b7 hn ?_));refine jZ (fun a=>?_) (fun j=>?_)
  · have a:k<l.length:=by have:(k:Int)<(l.length:Int):=a;omega
    (repeat (first|refine I7 hn ?_|refine P7 hn ?_|refine R5 hn ?_|refine O9 hn ?_|refine P8 hn ?_|refine N9 hn ?_|refine b7 hn ?_));refine AN d9 (AN (by simpa using a) ?_);intro w f r;obtain⟨x,d,rfl⟩:=ER f;have d:l[k]?=some x:=d;(repeat (first|refine I7 hn ?_|refine P7 hn ?_|refine R5 hn ?_|refine O9 hn ?_|refine P8 hn ?_|refine N9 hn ?_|refine b7 hn ?_));show L9 _ _ _ _ _;refine L9.a_ ((uE N x.a7 x.a7 (IX N (i x (MI d)))).sw 0 14) (by first|exact kL rfl|((repeat (refine AN rfl ?_));exact trivial)) (by(repeat (refine AN rfl ?_));exact trivial) rfl ?_;refine j6.gh (Gh.tq 5 3 14 100 rfl rfl rfl rfl rfl rfl rfl) (fun h=>?_);(repeat (first|refine I7 hn ?_|refine P7 hn ?_|refine R5 hn ?_|refine O9 hn ?_|refine P8 hn ?_|refine N9 hn ?_|refine b7 hn ?_));refine Exists.intro [[.int x.site.cls,.str x.site.name,.int x.site.pos,.ad h.v]] (AN aT ?_);have n:(u6 z).length=k:=by
      have:=jb b;rw[Mk] at this;simp only[u6,MP];omega
    refine AN ?_ (Exists.intro (u6 (z++[(h,dI x)])) (AN (by rw[uL];exact Q8 _) ?_))
    · show((u6 z).length+1)*56<=_;rw[n];exact Nat.le_trans (Ml 56 a) s
    (repeat (first|refine I7 hn ?_|refine P7 hn ?_|refine R5 hn ?_|refine O9 hn ?_|refine P8 hn ?_|refine N9 hn ?_|refine b7 hn ?_));refine MA (AN (xg a c) ?_);have m:(z++[(h,dI x)]).map (·.2)=(l.take (k+1)).map dI:=by
      rw[xX d,List.map_append,List.map_append,show z.map (·.2)=(l.take k).map dI from b];rfl
    refine⟨⟨(k+1,z++[(h,dI x)]),a,m⟩,[(3,19)],by show l.length-(k+1)<l.length-k;omega,⟨⟨rfl,rfl,rfl,rfl,trivial⟩,⟨rfl,?_,trivial⟩,rfl,rfl⟩⟩
    · exact congrArg (fun q=>some (Obj.pins 2 q 167)) (vH z (h,dI x)).symm
  · have e:k=l.length:=by have:¬(k:Int)<(l.length:Int):=j;omega
    subst e;have b:z.map (·.2)=l.map dI:=by
      have:z.map (·.2)=(l.take l.length).map dI:=b;rwa [List.take_length] at this
    refine P8 hn ?_;show j6 prog u _ _ _ _;refine j6.gh (Gh.close 3 3 100 101 z rfl rfl rfl rfl rfl b rfl rfl rfl rfl rfl) ?_;intro _;(repeat (first|refine I7 hn ?_|refine P7 hn ?_|refine R5 hn ?_|refine O9 hn ?_|refine P8 hn ?_|refine N9 hn ?_|refine b7 hn ?_));exact⟨[(0,101)],_,rfl,rfl,⟨rfl,trivial⟩,rfl,rfl,rfl,rfl,rfl⟩
def DO (l:List Tl):dy 2 (l.map dI)=l.map hX:=by simp[dy,dI,eb,hX]
theorem d93 (N:Nat) (s:St):∀(l:List Tl) (k:Nat),F4 N (fun x=>rz N x s) l k=some (match l.findIdx? (fun t=>decide (t.site=s)) with|some i=>.ret ((k+i:Nat):Int)|none=>.next ())
  |[],k=>rfl
  |x::l,k=>by
    rw[F4,nV,d93 N s l (k+1)];unfold rz;rw[show dG (bW x.site) (bW s)=decide (x.site=s) from zH x.site s];by_cases e:x.site=s
    · simp[e]
    · cases l.findIdx? (fun t=>decide (t.site=s))<;>simp[e];omega
def Lq (N:Nat) (s:St) (l:List Tl):U4 N l (fun x=>rz N x s)=some (fw (fun t=>decide (t.site=s)) l):=by
  unfold U4 fw;rw[d93];cases l.findIdx? (fun t=>decide (t.site=s))<;>simp
theorem Dl (N:Nat) (c:Int):∀(l:List Ln) (k:Nat),C8 N (fun x=>sE N x c) l k=some (match l.findIdx? (fun t=>decide (t.cls=c)) with|some i=>.ret ((k+i:Nat):Int)|none=>.next ())
  |[],k=>rfl
  |x::l,k=>by
    rw[C8,nV,Dl N c l (k+1)];unfold sE;by_cases e:x.cls=c
    · simp[e]
    · cases l.findIdx? (fun t=>decide (t.cls=c))<;>simp[e];omega
def Lp (N:Nat) (c:Int) (l:List Ln):I9 N l (fun x=>sE N x c)=some (fw (fun t=>decide (t.cls=c)) l):=by
  unfold I9 fw;rw[Dl];cases l.findIdx? (fun t=>decide (t.cls=c))<;>simp
def HG (N:Nat) (l:List Tl) (s:St) (c:Int) (r:List Tl) (h:sU N l s c=some r):Spec prog 130 [] [.sl 4 (l.map hX),.agg (bW s),.int c] (.aL 0) [(0,.row 4 (r.map hX) 162)] [0]:=by
  unfold sU at h;obtain⟨M,h⟩:=iz h;obtain rfl:=oI h;rw[IT,MK] at M;have hf:Fit (l.length+1) 56:=MR M.1;have K:∀t∈l,Fit (t.a7.length+1) 16:=fun t Y=>MR (M.2 t Y);clear h M;refine Spec.of fI func130 rfl ntmps130 y7 rfl rfl rfl fun E hn=>?_;refine I7 hn ?_;show j6 prog E _ _ _ _;refine j6.gh (Gh.bF 4 4 rfl rfl rfl) ?_;intro _;show j6 prog E _ _ _ _;refine j6.gh (Gh.bF 5 5 rfl rfl rfl) ?_;intro _;(repeat (first|refine I7 hn ?_|refine P7 hn ?_|refine R5 hn ?_|refine O9 hn ?_|refine P8 hn ?_|refine N9 hn ?_|refine b7 hn ?_));show L9 _ _ _ _ _;refine L9.a_ ((Gd N l (Nat.le_trans (Ml _ (Nat.le_succ _)) hf) (fun t Y=>Nat.le_trans (Ml _ (Nat.le_succ _)) (K t Y))).sw 0 11) (by first|exact kL rfl|((repeat (refine AN rfl ?_));exact trivial)) (by(repeat (refine AN rfl ?_));exact trivial) rfl ?_;(repeat (first|refine I7 hn ?_|refine P7 hn ?_|refine R5 hn ?_|refine O9 hn ?_|refine P8 hn ?_|refine N9 hn ?_|refine b7 hn ?_));show L9 _ _ _ _ _;refine L9.hZ (Eh (Lq N s l) (fun _ _ h=>GZ h)) ?_ rfl ?_
  · show dZ [.sl 4 (dy 2 (l.map dI)),.fn 171 [.fp (bW s)]] _;rw[DO];exact kL rfl
  show j6 prog E _ _ _ _;refine j6.gh (Gh.open 7 11 102 103 rfl rfl rfl rfl rfl rfl (fun _=>rfl)) ?_;rintro⟨z,F⟩;refine j6.cut (ι:={ q:Nat×Tl×Hd×List (Hd×List AV×List (List AV)) // q.2.2.2[q.1]?=some (q.2.2.1,dI q.2.1)/\q.2.2.2.map (·.2)=(bf (fun t=>decide (t.site=s)) ⟨s,[]⟩ l).1.map dI/\(bf (fun t=>decide (t.site=s)) ⟨s,[]⟩ l).1[q.1]?=some q.2.1/\(bf (fun t=>decide (t.site=s)) ⟨s,[]⟩ l).2=q.1/\Fit (q.2.1.a7.length+1) 16 })
    (fun q=>[(7,.aL 102),(8,.int q.1.1),(5,.fp [.int c])]) (fun q=>[(102,.row 4 (u6 q.1.2.2.2) 162),(103,.pins 2 ((Z0 q.1.2.2.2).eraseIdx q.1.1) 167),(104,.row 2 (q.1.2.1.a7.map V5) 167),(105,.eqv 104 q.1.2.2.1.v)]) ?_ ?_ ?_
  · (repeat (first|refine I7 hn ?_|refine P7 hn ?_|refine R5 hn ?_|refine O9 hn ?_|refine P8 hn ?_|refine N9 hn ?_|refine b7 hn ?_));rcases vZ (fun t:Tl=>decide (t.site=s)) l with⟨k,x,e1,B,e3,O⟩|⟨e1,B⟩
    · refine jZ (fun w=>?_) (fun u=>?_)
      · rw[e1] at w;omega
      · obtain⟨h,L⟩:=Dw F B;have T:(Z0 z).Perm ((h,x.a7.map V5)::(Z0 z).eraseIdx k):=by
          have hk:(Z0 z)[k]?=some (h,x.a7.map V5):=(by simp[Z0,L,dI]);obtain⟨hl,hv⟩:=Lx.1 hk;rw[<-hv];exact(List.ai hl).symm
        show j6 prog E _ _ _ _;refine j6.gh (Gh.mS 103 104 105 rfl T rfl rfl rfl rfl rfl) ?_;intro _;refine N9 hn ?_;have ex:bf (fun t:Tl=>decide (t.site=s)) ⟨s,[]⟩ l=(l,k):=by unfold bf;rw[O]
        refine⟨⟨(k,x,h,z),L,by rw[ex];exact F,by rw[ex];exact B,by rw[ex],K x (MI B)⟩,[],⟨⟨rfl,congrArg AV.int e1,rfl,trivial⟩,⟨rfl,rfl,rfl,rfl,trivial⟩,rfl,rfl⟩⟩
    · refine jZ (fun w=>?_) (fun u=>?_)
      · (repeat (first|refine I7 hn ?_|refine P7 hn ?_|refine R5 hn ?_|refine O9 hn ?_|refine P8 hn ?_|refine N9 hn ?_|refine b7 hn ?_));rintro _ rfl hlen;refine j6.ops (jt hn 6 ?_);refine Exists.intro [[.int s.cls,.str s.name,.int s.pos,.aP]] (AN aT ?_);refine AN ?_ (Exists.intro (u6 z++[[AV.int s.cls,.str s.name,.int s.pos,.aP]]) (AN (Q8 _) ?_))
        · show((u6 z).length+1)*56<=_;rw[show(u6 z).length=l.length by simp only[u6,MP];exact jb F];exact hf
        have ah:(u6 z++[[AV.int s.cls,.str s.name,.int s.pos,.aP]])[l.length]?=some [AV.int s.cls,.str s.name,.int s.pos,.aP]:=by
          rw[MS (by simp[u6,jb F])];simp[u6,jb F]
        show cd prog E _ _ _ _ _;refine cd.gh (Gh.fA (r:=23) (i:=l.length) (off:=3) (j:=104) (j':=105) (isz:=2) (ie:=167) rfl ah rfl rfl rfl rfl rfl rfl) ?_;intro _;refine cd.done ?_;have ex:bf (fun t:Tl=>decide (t.site=s)) ⟨s,[]⟩ l=(l++[⟨s,[]⟩],l.length):=by unfold bf;rw[B]
        have f:=jb F;refine⟨⟨(l.length,⟨s,[]⟩,⟨none,0,0⟩,z++[(⟨none,0,0⟩,dI ⟨s,[]⟩)]),?_,?_,?_,?_,?_⟩,[(102,23)],⟨⟨rfl,?_,rfl,trivial⟩,⟨?_,?_,rfl,rfl,trivial⟩,rfl,rfl⟩⟩
        · show(z++[_])[l.length]?=_;rw[MS d9];simp[f]
        · rw[ex];show MF (fun p:Hd×List AV×List (List AV)=>p.2) (z++[_])=MF dI (l++[_]);rw[List.map_append,List.map_append,F];rfl
        · rw[ex];show(l++[_])[l.length]?=_;rw[MS (It _)];simp
        · rw[ex]
        · show(0+1)*16<=_;decide
        · exact congrArg AV.int (by simp[u6,f])
        · refine congrArg (fun q=>some (Obj.row 4 q 162)) ?_;show(u6 z++[_]).set l.length _=u6 (z++[_]);rw[uL,List.set_append_right _ _ (by simp[u6,f])];simp[u6,f,dI,eb]
        · refine congrArg (fun q=>some (Obj.pins 2 q 167)) ?_;show Z0 z=(Z0 (z++[_])).eraseIdx l.length;rw[vH,List.eraseIdx_append_of_length_le (by simp[Z0,f])];simp[Z0,f]
      · rw[e1] at u;omega
  · intro k;rw[hn];rfl
  rintro⟨⟨k,x,h,z⟩,A,U,V,W,X⟩;have A:z[k]?=some (h,dI x):=A;have b:k<(u6 z).length:=by
    have:=(Lx.1 A).1;simpa[u6] using this
  have ah:(u6 z)[k]?=some (eb x++[.ad h.v]):=by simp[u6,A,dI]
  (repeat (first|refine I7 hn ?_|refine P7 hn ?_|refine R5 hn ?_|refine O9 hn ?_|refine P8 hn ?_|refine N9 hn ?_|refine b7 hn ?_));refine AN d9 (AN (by simpa using b) ?_);refine AN (by simpa using b) (fun d a=>?_);have a:(u6 z)[k]?=some d:=a;obtain rfl:d=eb x++[.ad h.v]:=oI (a.symm.trans ah);refine AN rfl ?_;show L9 _ _ _ _ _;refine L9.hZ (zZ (Lp N c x.a7) (fun _ _ h=>GS h)) (kL rfl) rfl ?_;refine j6.cut (ι:={ q:Nat×Ln×Hd×List Ln // q.2.2.2=(bf (fun y=>decide (y.cls=c)) ⟨c,0⟩ x.a7).1/\(bf (fun y=>decide (y.cls=c)) ⟨c,0⟩ x.a7).2=q.1/\q.2.2.2[q.1]?=some q.2.1 })
    (fun q=>[(7,.aL 102),(8,.int k),(9,.int q.1.1)]) (fun q=>[(102,.row 4 ((u6 z).set k (eb x++[.ad q.1.2.2.1.v])) 162),(103,.pins 2 ((Z0 z).eraseIdx k) 167),(104,.row 2 (q.1.2.2.2.map V5) 167),(105,.eqv 104 q.1.2.2.1.v)]) ?_ ?_ ?_
  · (repeat (first|refine I7 hn ?_|refine P7 hn ?_|refine R5 hn ?_|refine O9 hn ?_|refine P8 hn ?_|refine N9 hn ?_|refine b7 hn ?_));rcases vZ (fun y:Ln=>decide (y.cls=c)) x.a7 with⟨j,y,e1,B,e3,O⟩|⟨e1,B⟩
    · refine jZ (fun w=>?_) (fun u=>?_)
      · rw[e1] at w;omega
      · refine N9 hn ?_;have ex:bf (fun y:Ln=>decide (y.cls=c)) ⟨c,0⟩ x.a7=(x.a7,j):=by unfold bf;rw[O]
        refine⟨⟨(j,y,h,x.a7),by rw[ex],by rw[ex],B⟩,[],⟨⟨rfl,rfl,congrArg AV.int e1,trivial⟩,⟨?_,rfl,rfl,rfl,trivial⟩,rfl,rfl⟩⟩;refine congrArg (fun q=>some (Obj.row 4 q 162)) ?_;show u6 z=(u6 z).set k _;exact(xO ah).symm
    · refine jZ (fun w=>?_) (fun u=>?_)
      · (repeat (first|refine I7 hn ?_|refine P7 hn ?_|refine R5 hn ?_|refine O9 hn ?_|refine P8 hn ?_|refine N9 hn ?_|refine b7 hn ?_));refine AN d9 (AN (by simpa using b) ?_);refine AN (by simpa using b) (fun d a=>?_);have a:(u6 z)[k]?=some d:=a;obtain rfl:d=eb x++[.ad h.v]:=oI (a.symm.trans ah);refine AN rfl ?_;rintro _ rfl S;refine j6.snoc (vw hn y7 ?_);refine AN d9 (AN (by simpa using b) ?_);refine AN (by simpa using b) (fun d a=>?_);have a:(u6 z)[k]?=some d:=a;obtain rfl:d=eb x++[.ad h.v]:=oI (a.symm.trans ah);refine AN rfl ?_;refine Exists.intro (MF V5 [⟨c,0⟩]) (AN aT ?_);refine AN ?_ (Exists.intro (MF V5 (x.a7++[⟨c,0⟩])) (AN (vR (Q8 _)) ?_))
        · show((x.a7.map V5).length+1)*16<=_;rw[MP];exact X
        refine AN d9 (AN (by simpa using b) ?_);refine AN (by simpa using b) (AN ?_ ?_)
        · intro d a;have a:(u6 z)[k]?=some d:=a;obtain rfl:d=eb x++[.ad h.v]:=oI (a.symm.trans ah);show 3<4;omega
        show Z8 E _ _ _;refine Z8.gh (Gh.bZ 102 106 rfl rfl rfl (fun _=>rfl) rfl) (fun g=>?_);refine Z8.done ?_;have ex:bf (fun y:Ln=>decide (y.cls=c)) ⟨c,0⟩ x.a7=(x.a7++[⟨c,0⟩],x.a7.length):=by unfold bf;rw[B]
        refine⟨⟨(x.a7.length,⟨c,0⟩,g,x.a7++[⟨c,0⟩]),by rw[ex],by rw[ex],l8⟩,[(104,49),(105,106)],⟨⟨rfl,rfl,?_,trivial⟩,⟨?_,rfl,rfl,rfl,trivial⟩,rfl,rfl⟩⟩
        · exact congrArg AV.int l8
        · refine congrArg (fun q=>some (Obj.row 4 q 162)) ?_;show hC (u6 z) k 3 (.ad g.v)=(u6 z).set k _;unfold hC;rw[ah];rfl
      · rw[e1] at u;omega
  · intro k;rw[hn];rfl
  rintro⟨⟨j,y,m,G⟩,Q,R,e⟩;have J:((u6 z).set k (eb x++[.ad m.v]))[k]?=some (eb x++[.ad m.v]):=by rw[MQ,Mu rfl,Mu b]
  have e:G[j]?=some y:=e;have C:j<G.length:=(Lx.1 e).1;have D:(G.map V5)[j]?=some (V5 y):=by simp[e]
  (repeat (first|refine I7 hn ?_|refine P7 hn ?_|refine R5 hn ?_|refine O9 hn ?_|refine P8 hn ?_|refine N9 hn ?_|refine b7 hn ?_));refine AN d9 (AN (by simpa using b) ?_);refine AN (by simpa using b) (fun d a=>?_);have a:((u6 z).set k (eb x++[.ad m.v]))[k]?=some d:=a;obtain rfl:d=eb x++[.ad m.v]:=oI (Eq.trans (Eq.symm a) J);refine AN rfl ?_;refine AN d9 (AN (by simpa using C) ?_);refine AN (by simpa using C) (fun H n=>?_);have n:(G.map V5)[j]?=some H:=n;obtain rfl:H=V5 y:=oI (Eq.trans (Eq.symm n) D);refine Or.inr ?_;refine AN d9 (AN (by simpa using C) ?_);have hzk:k<z.length:=(Lx.1 A).1;have Z:G.set j ⟨y.cls,wr (y.found+1)⟩=fk c x.a7:=by
    have h1:G=(bf (fun y=>decide (y.cls=c)) ⟨c,0⟩ x.a7).1:=Q;have P:(bf (fun y=>decide (y.cls=c)) ⟨c,0⟩ x.a7).2=j:=R;unfold fk;simp only;rw[P,<-h1,xF e]
  refine AN (by simpa using C) (fun I o=>?_);have o:(G.map V5)[j]?=some I:=o;obtain rfl:I=V5 y:=oI (Eq.trans (Eq.symm o) D);refine Exists.intro (MF V5 (fk c x.a7)) (AN (by rw[<-Z];exact DA e aT) ?_);have T:(Z0 (z.set k (m,eb x,(fk c x.a7).map V5))).Perm ((m,(fk c x.a7).map V5)::(Z0 z).eraseIdx k):=by
    rw[show Z0 (z.set k (m,eb x,(fk c x.a7).map V5))=(Z0 z).set k (m,(fk c x.a7).map V5) by simp[Z0,List.map_set]];exact set_perm (by simpa[Z0] using hzk)
  show j6 prog E _ _ _ _;refine j6.gh (Gh.mR (h:=m) (ls:=(fk c x.a7).map V5) (l':=Z0 (z.set k (m,eb x,(fk c x.a7).map V5))) 104 105 103 rfl rfl rfl T rfl rfl rfl) (fun _=>?_);have hz2:(z.set k (m,eb x,(fk c x.a7).map V5)).map (·.2)=(tQ s c l).map dI:=by
    have P:(bf (fun t=>decide (t.site=s)) ⟨s,[]⟩ l).2=k:=W;have h3:z.map (·.2)=(bf (fun t=>decide (t.site=s)) ⟨s,[]⟩ l).1.map dI:=U;have h4:(bf (fun t=>decide (t.site=s)) ⟨s,[]⟩ l).1[k]?=some x:=V;unfold tQ;simp only;rw[P,xF h4,List.map_set,List.map_set,h3];rfl
  refine j6.gh (Gh.close 7 102 103 107 (z.set k (m,eb x,(fk c x.a7).map V5)) rfl rfl rfl (by show(u6 z).set k _=_;simp[u6,List.map_set]) rfl hz2 rfl rfl rfl rfl rfl) (fun _=>?_);show j6 prog E _ _ _ _;refine j6.flat 7 107 108 rfl rfl rfl rfl rfl ?_;rw[DO];(repeat (first|refine I7 hn ?_|refine P7 hn ?_|refine R5 hn ?_|refine O9 hn ?_|refine P8 hn ?_|refine N9 hn ?_|refine b7 hn ?_));exact⟨[(0,108)],_,rfl,rfl,⟨rfl,trivial⟩,rfl,rfl,rfl,rfl,rfl⟩
def GI {N a0 a1 a2 b0 b1 r} (h:ox N a0 a1 a2 b0 b1=some r):Spec prog 128 [(1048,.box (eL b0) 153)] [.agg (bW a0),.int a1,.str a2,.ptr 1048 0,.fp (Q7 b1)] (.ab [.int r.1,.int r.2.1]) [(1048,.box (eL r.2.2) 153)] []:=by
 refine so func128 ntmps128 fun e hn=>?_;unfold ox at h;refine B [3,3] fun _ a h=>?_;refine cA ((Gl a).sw 0 21) ?_;refine kd [1,3,5,10,11,12,13] [5,21,1048] ?_;refine B [3,3] fun _ b h=>?_;refine cA ((HG N _ _ _ _ b).sw 0 32) ?_;refine S [2,3] ?_;refine J e0 hn h (fun s=>[]) (fun s=>[(1048,.box [E9 b0.world.a7,jN b0.world.heap,.int b0.world.aB,.int b0.ez.value.k,.int b0.ez.value.n,.int b0.ez.err,.int b0.ez.aH,.aL 21,.aL 32,.int s.1,.int s.2] 153)]) [3,11,12] [21,32] (fun _ h g=>?_) ?_
 ·refine I [4] ?_ ?_<;>intro _ h
  ·exact Sj [5,12]
  exact Sj [5,12]
 rintro⟨c,d⟩ h;refine S [3] ?_;refine j6.ax 21 rfl ?_;refine j6.ax 32 rfl ?_;exact Sr [7]
def Gq {N a0 a1 a2 a3 a4 r} (h:sP N a0 a1 a2 a3 a4=some r):Spec prog 100 [] [.agg (Q7 a0),.agg (kR a1),.int a2,ke a3,jA a4] (.agg (eL r)) [] []:=by
 refine so func100 ntmps100 fun e hn=>?_;unfold sP at h;refine B [3,3] fun _ b h=>?_;refine cA ((uj b).sw 0 13) ?_;refine B [] fun _ c h=>?_;refine cA ((BR c).sw 0 15) ?_;refine j6.gh (Gh.bF 5 5 rfl rfl rfl) (fun _=>?_);refine j6.eC 11 [E9 ([]:List Cl),jN ([]:List Ob),.int (0:Int),.int (0:Int),.int (0:Int),.int (0:Int),.int (0:Int),.aL 13,.aL 15,.int (0:Int),.int (0:Int)] rfl aT ?_;refine j6.ax 13 rfl ?_;refine j6.ax 15 rfl ?_;refine kd [2,5,6,10,11] [6,10,11] ?_;refine B [3] fun _ d h=>?_;refine cA ((Fw d (fun _ _ _ _ _ a=>(GI a).sw 1048 1055) (fun _ _ _ a=>BX a)).sw 1055 11) ?_;exact Sr [3,7]
def Gv {N a0 a1 r} (h:sJ N a0 a1=some r):Spec prog 209 [] [jA a0,.agg (bW a1)] (.ab [.int r.1,.int r.2]) [] []:=by
 refine so func209 ntmps209 fun G hn=>?_;unfold sJ at h;refine S [3,3,2,3] ?_;refine O1 fun j=>?_;refine LR e0 hn ((-1:Int),(0:Int)) (fun l k v=>my N a1 l k v.1 v.2) h (fun e v=>[(6,.int v.1),(7,.int v.2),(14,.int (e:Int))]) (fun e v=>[]) [3,12,13] [3] [] (fun s=>[(6,.int s.1),(7,.int s.2)]) (fun s=>[]) [] [] ?_ ?_ ?_
 ·rintro _ g e ⟨u,w⟩ h _;rw[my] at h;exact Sj [3,2,4,0,20]
 ·rintro _ g e ⟨u,w⟩ C f h _ b _;rw[my] at h;refine S [3,2,4,0,1,2] ?_;refine J e0 hn h (fun s=>[(6,.int s.1),(7,.int s.2)]) (fun s=>[]) [3,12,13,14] [3] (fun _ h g=>?_) ?_
  ·refine S [6,3] ?_;refine W9 b ?_;refine I [2,3,4] ?_ ?_<;>intro _ h
   ·exact Sj [20]
   refine S [1,3] ?_;refine O1 fun d=>?_;refine LR e0 hn (u,w) (fun l k v=>mq N l k v.1 v.2) h (fun a v=>[(6,.int v.1),(7,.int v.2),(25,.int (a:Int))]) (fun a v=>[]) [3,12,13,14,23,24] [3] [] (fun s=>[(6,.int s.1),(7,.int s.2)]) (fun s=>[]) [3,12,13,14] [3] ?_ ?_ ?_
   ·rintro _ g a ⟨o,p⟩ h _;rw[mq] at h;exact Sj [3,2,4,0,20]
   ·rintro _ g a ⟨o,p⟩ D i h _ c _;rw[mq] at h;refine S [3,2,4,0,1,2] ?_;refine J e0 hn h (fun s=>[(6,.int s.1),(7,.int s.2)]) (fun s=>[]) [3,12,13,14,23,24,25] [3] (fun _ h g=>?_) ?_
    ·refine S [6,3] ?_;refine W9 c ?_;refine S [2] ?_;refine Jb 48 hn h [3,6,7,11,12,13,14,23,24,25] [3,11] (fun _ h g=>?_) ?_
     ·refine I [5] ?_ ?_<;>intro _ h
      ·exact Sj [0]
      refine I [0] ?_ ?_<;>intro _ h
      ·refine I [0] ?_ ?_<;>intro _ h
       ·exact Sj [0]
       exact Sj [0]
      exact Sj [0]
     intro z h;refine J e0 hn h (fun s=>[(6,.int s.1),(7,.int s.2)]) (fun s=>[]) [3,12,13,14,23,24,25] [3] (fun _ h g=>?_) ?_
     ·refine I [4] ?_ ?_<;>intro _ h
      ·exact Sj [8]
      exact Sj [1]
     rintro⟨A,B⟩ h;exact je
    rintro⟨q,t⟩ h;refine S [5] ?_;refine MA (AN (U9 c d) ?_);exact le (q,t) []
   rintro⟨x,y⟩ h;exact je
  rintro⟨m,n⟩ h;refine S [5] ?_;refine MA (AN (U9 b j) ?_);exact le (m,n) []
 rintro⟨E,F⟩ h;exact Sr [3,7]
def HA {N a0 a1 r} (h:sW N a0 a1=some r):Spec prog 210 [] [jA a0,.agg (bW a1)] (.int r) [] []:=by
 refine so func210 ntmps210 fun w hn=>?_;unfold sW at h;refine S [3,3,2,3] ?_;refine O1 fun j=>?_;refine LR e0 hn (0:Int) (fun l k v=>nG N a1 l k v) h (fun f v=>[(5,.int v),(12,.int (f:Int))]) (fun f v=>[]) [3,10,11] [3] [] (fun s=>[(5,.int s)]) (fun s=>[]) [] [] ?_ ?_ ?_
 ·intro _ g f p h _;rw[nG] at h;exact Sj [3,2,4,0,20]
 ·intro _ g f p t m h _ b _;rw[nG] at h;refine S [3,2,4,0,1,2] ?_;refine J e0 hn h (fun s=>[(5,.int s)]) (fun s=>[]) [3,10,11,12] [3] (fun _ h g=>?_) ?_
  ·refine S [6,3] ?_;refine W9 b ?_;refine I [2,3,4] ?_ ?_<;>intro _ h
   ·exact Sj [20]
   refine S [1,3] ?_;refine O1 fun d=>?_;refine LR e0 hn p (fun l k v=>nI N l k v) h (fun a v=>[(5,.int v),(23,.int (a:Int))]) (fun a v=>[]) [3,10,11,12,21,22] [3] [] (fun s=>[(5,.int s)]) (fun s=>[]) [3,10,11,12] [3] ?_ ?_ ?_
   ·intro _ g a e h _;rw[nI] at h;exact Sj [3,2,4,0,20]
   ·intro _ g a e o i h _ c _;rw[nI] at h;refine S [3,2,4,0,1,2,6,3] ?_;refine W9 c ?_;refine S [5,12,5] ?_;refine MA (AN (U9 c d) ?_);exact le (wr (e+o.found)) []
   intro q h;exact je
  intro n h;refine S [5] ?_;refine MA (AN (U9 b j) ?_);exact le n []
 intro u h;exact Sr [3,7]
def Ed {N a0 g1 r} (h:V9 N a0 g1=some r) {j:Nat} (e:∀c m,g1 c=some m->Spec prog j [] [.agg (bc c)] (.bool m) [] []):Spec prog 232 [] [oT a0,.fn j []] (.int r) [] []:=by
 refine so func232 ntmps232 fun o hn=>?_;unfold V9 at h;refine S [3,2,3] ?_;refine O1 fun f=>?_;refine LR e1 hn () (fun l k v=>G7 N g1 l k) h (fun d v=>[(8,.int (d:Int))]) (fun d v=>[]) [0,1,7] [] [] (fun s=>[]) (fun s=>[]) [] [] ?_ ?_ ?_
 ·intro _ g d _ h _;rw[G7] at h;exact Sj [3,2,4,0,20]
 ·intro _ g d _ n i h _ b _;rw[G7] at h;refine S [3,2,4,0,1,2,6,3,3] ?_;refine W9 b ?_;refine B [] fun _ a h=>?_;refine cA (e _ _ a) ?_;refine I [4] ?_ ?_<;>intro _ h
  ·exact Sr [3,7]
  refine S [1,5] ?_;refine MA (AN (U9 b f) ?_);exact le () []
 rintro⟨⟩ h;exact Sr [3,7]
def Eg {N a0 g1 r} (h:U5 N a0 g1=some r) {d:Nat} (b:∀a e,g1 a=some e->Spec prog d [] [.agg (bc a)] (.bool e) [] []):Spec prog 206 [] [oT a0,.fn d []] (.bool r) [] []:=by
 refine so func206 ntmps206 fun f hn=>?_;unfold U5 at h;refine B [3,3] fun _ c h=>?_;refine cA (Ed c b) ?_;exact Sr [7]
def GF {N a0 r} (h:oo N a0=some r):Spec prog 207 [] [.agg (bc a0)] (.bool r) [] []:=by
 refine so func207 ntmps207 fun b hn=>?_;unfold oo at h;refine S [3,2] ?_;refine Jb 2 hn h [] [] (fun _ h g=>?_) ?_
 ·refine I [5] ?_ ?_<;>intro _ h
  ·exact Sj [0]
  exact Sj [0]
 intro a h;exact Sr [7]
def Ar {N a0 r} (h:p6 N a0=some r):Spec prog 175 [] [.agg (J2 a0)] (.bool r) [] []:=by
 refine so func175 ntmps175 fun d hn=>?_;unfold p6 at h;refine S [3,2] ?_;refine Jb 2 hn h [] [] (fun _ h g=>?_) ?_
 ·refine I [5] ?_ ?_<;>intro _ h
  ·refine B [0] fun _ a h=>?_;refine cA (Eg a (fun _ _ b=>GF b)) ?_;exact Sj [0]
  exact Sj [0]
 intro c h;exact Sr [7]
def Ga {N a0 a1 a2 a3 a4 r} (h:s8 N a0 a1 a2 a3 a4=some r):Spec prog 178 [] [.agg (Q7 a0),jA a1,.agg (bW a2),.str a3,.int a4] (.int r) [] []:=by
 refine so func178 ntmps178 fun m hn=>?_;unfold s8 at h;refine B [3,3] fun _ i h=>?_;refine cA (Gv i) ?_;refine B [2,3] fun _ j h=>?_;refine cA (HA j) ?_;refine S [2] ?_;refine Jb 36 hn h [3,4,5,11] [5] (fun _ h g=>?_) ?_
 ·refine kd [3,4,5,11,12,13] [5] ?_;refine I [5] ?_ ?_<;>intro _ h
  ·exact Sj [0]
  refine I [0] ?_ ?_<;>intro _ h
  ·exact Sj [0]
  exact Sj [0,12,0]
 intro l h;refine I [4] ?_ ?_<;>intro _ h
 ·exact Sr [3,7]
 refine B [1,3] fun _ a h=>?_;refine cA (jT a) ?_;refine S [2,2] ?_;refine Jb 72 hn h [11] [] (fun _ h g=>?_) ?_
 ·refine I [5] ?_ ?_<;>intro _ h
  ·exact Sj [0]
  refine B [0] fun _ c h=>?_;refine H5 c ?_;refine B [0] fun _ d h=>?_;refine H5 d ?_;refine B [0] fun _ b h=>?_;refine cA (Ar b) ?_;refine I [0] ?_ ?_<;>intro _ h
  ·exact Sj [0]
  refine B [0] fun _ e h=>?_;refine H5 e ?_;refine B [0] fun _ f h=>?_;refine H5 f ?_;exact Sj [0]
 intro k h;refine I [4] ?_ ?_<;>intro _ h
 ·exact Sr [3,7]
 exact Sr [1,3,7]
def FJ {N a0 a1 a2 a3 r} (h:nF N a0 a1 a2 a3=some r):Spec prog 134 [] [.agg (Q7 a0),jA a1,.int a2,.int a3] (.aL 0) [(0,w3 r)] [0]:=by
 refine so func134 ntmps134 fun w hn=>?_;unfold nF at h;refine S [3,2,2] ?_;refine Jb 37 hn h [1,2,3,4] [4] (fun _ h g=>?_) ?_
 ·refine I [5] ?_ ?_<;>intro _ h
  ·exact Sj [0]
  refine I [0,13,0] ?_ ?_<;>intro _ h
  ·exact Sj [0]
  refine I [0] ?_ ?_<;>intro _ h
  ·exact Sj [0]
  refine B [0] fun _ o h=>?_;refine H5 o ?_;exact Sj [0,13,0]
 intro u h;refine I [4] ?_ ?_<;>intro _ h
 ·refine S [3] ?_;refine nR 8 208 1 3 ?_;exact Sr [7] [(0,208)]
 refine B [1,3] fun _ f h=>?_;refine H5 f ?_;refine B [] fun p i h=>?_;refine H5 i ?_;refine S [3,2,3] ?_;refine O1 fun d=>?_;refine nR 10 210 1 3 ?_;refine LR e0 hn ([]:List Int) (fun l k v=>mj N a0 a1 a2 p l k v) h (fun a v=>[(51,.int (a:Int))]) (fun a v=>[(210,w3 v)]) [1,2,4,9,10,49,50] [4] [] (fun s=>[]) (fun s=>[(210,w3 s)]) [10] [] ?_ ?_ ?_
 ·intro _ g a j h _;rw[mj] at h;exact Sj [3,2,4,0,20]
 ·intro _ g a j t n h _ b _;rw[mj] at h;refine S [3,2,4,0,1,2,6,3] ?_;refine W9 b ?_;refine S [3,2,3] ?_;refine J e0 hn h (fun s=>[(13,.int s)]) (fun s=>[]) [1,2,4,9,10,49,50,51] [4,210] (fun _ h g=>?_) ?_
  ·refine I [4] ?_ ?_<;>intro _ h
   ·refine kd [1,2,4,9,10,11,12,49,50,51] [4,12,210] ?_;refine B [8] fun _ e h=>?_;refine cA (Ga e) ?_;exact je
   exact Sj [1]
  intro m h;refine S [5] ?_;refine bS fN [m] ?_;refine A [] fun c h=>?_;refine aM c ?_;refine S [5] ?_;refine MA (AN (U9 b d) ?_);exact le (j++[m]) [(210,76)]
 intro q h;exact Sr [3,7] [(0,210)]
def Eo {N a0 a1 a2 r} (h:r8 N a0 a1 a2=some r):Spec prog 174 [(1000,.box [.fp (Q7 a0.w),.fp (J2 a0.m),.aL 1001,.int a0.a8,.aL 1002,.aL 1003] 260),(1001,cU a0.out),(1002,w3 a0.aJ),(1003,w3 a0.fix)] [.ptr 1000 0,.int a1,.str a2] (Hj J2 r.1) [(1000,.box [.fp (Q7 r.2.w),.fp (J2 r.2.m),.aL 2,.int r.2.a8,.aL 3,.aL 4] 260),(2,cU r.2.out),(1001,.aF),(3,w3 r.2.aJ),(1002,.aF),(4,w3 r.2.fix),(1003,.aF)] [2,3,4]:=by
 refine so func174 ntmps174 fun d hn=>?_;unfold r8 at h;refine rB 1000 2 1001 320 ?_;refine rB 1000 4 1002 321 ?_;refine rB 1000 5 1003 322 ?_;refine B [3,3] fun _ a h=>?_;refine cA (jT a) ?_;refine S [2] ?_;refine kd [0,7,8] [320,321,322,1000,1001,1002,1003] ?_;refine I [3,4] ?_ ?_<;>intro _ h
 ·exact Sr [3,7] [(2,320),(3,321),(4,322)]
 refine B [1,3] fun _ b h=>?_;refine H5 b ?_;refine B [] fun _ c h=>?_;refine H5 c ?_;exact Sr [7] [(2,320),(3,321),(4,322)]
def FU {N a0 r} (h:pA N a0=some r):Spec prog 176 [] [.fp (J2 a0)] (.int r) [] []:=by
 refine so func176 ntmps176 fun a hn=>?_;unfold pA at h;refine S [3,2] ?_;refine kd [0] [] ?_;exact Sr [8,12,12,12,13,12,7]
def H8 {N a0 a1 a2 a3 a4 r} (h:G8 N a0 a1 a2 a3 a4=some r):Spec prog 208 [(1000,.box [.fp (Q7 a0.w),.fp (J2 a0.m),.aL 1001,.int a0.a8,.aL 1002,.aL 1003] 260),(1001,cU a0.out),(1002,w3 a0.aJ),(1003,w3 a0.fix)] [.ptr 1000 0,.int a1,.int a2,.int a3,.int a4] (.ab []) [(1000,.box [.fp (Q7 r.w),.fp (J2 r.m),.aL 2,.int r.a8,.aL 3,.aL 4] 260),(2,cU r.out),(1001,.aF),(3,w3 r.aJ),(1002,.aF),(4,w3 r.fix),(1003,.aF)] [2,3,4]:=by
 refine so func208 ntmps208 fun b hn=>?_;unfold G8 at h;refine rB 1000 2 1001 320 ?_;refine rB 1000 4 1002 321 ?_;refine rB 1000 5 1003 322 ?_;refine S [15,5] ?_;refine bS bc [(⟨a1,a2,a3,a4,BY⟩:Ins)] ?_;refine A [] fun a h=>?_;refine aM a ?_;exact Sr [14] [(2,21),(3,321),(4,322)]
def Fb {N a0 a1 a2 a3 a4 r} (h:rC N a0 a1 a2 a3 a4=some r):Spec prog 177 [(1000,.box [.fp (Q7 a0.w),.fp (J2 a0.m),.aL 1001,.int a0.a8,.aL 1002,.aL 1003] 260),(1001,cU a0.out),(1002,w3 a0.aJ),(1003,w3 a0.fix)] [.ptr 1000 0,.int a1,.int a2,.agg (bc a3),.fp (J2 a4)] (.ab []) [(1000,.box [.fp (Q7 r.w),.fp (J2 r.m),.aL 2,.int r.a8,.aL 3,.aL 4] 260),(2,cU r.out),(1001,.aF),(3,w3 r.aJ),(1002,.aF),(4,w3 r.fix),(1003,.aF)] [2,3,4]:=by
 refine so func177 ntmps177 fun Γ hn=>?_;unfold rC at h;refine rB 1000 2 1001 320 ?_;refine rB 1000 4 1002 321 ?_;refine rB 1000 5 1003 322 ?_;refine S [15,3,3,2] ?_;refine kd [0,1,2,4,8,10] [8,320,321,322,1000,1001,1002,1003] ?_;refine S [8,12,12,12] ?_;refine kd [0,1,2,4,8,10] [8,320,321,322,1000,1001,1002,1003] ?_;refine B [3] fun _ G h=>?_;refine cA ((H8 G).ay [(1001,320),(1002,321),(1003,322),(2,501),(3,502),(4,503)] rfl) ?_;refine B [3] fun y H h=>?_;refine cA ((H8 H).ay [(1001,501),(1002,502),(1003,503),(2,504),(3,505),(4,506)] rfl) ?_;refine S [2,3] ?_;refine LF e0 hn (y.w,y.m,y.out,y.a8,y.aJ,y.fix,a4.args) (fun l v=>Z4 N a0 l v.1 v.2.1 v.2.2.1 v.2.2.2.1 v.2.2.2.2.1 v.2.2.2.2.2.1 v.2.2.2.2.2.2) h (fun v=>[(11,.int v.2.2.2.2.2.2)]) (fun v=>[(504,cU v.2.2.1),(505,w3 v.2.2.2.2.1),(506,w3 v.2.2.2.2.2.1),(1000,.box [.fp (Q7 v.1),.fp (J2 v.2.1),.aL 504,.int v.2.2.2.1,.aL 505,.aL 506] 260)]) [0,4,10] [1001,1002,1003] [] (fun s=>[]) (fun s=>[(504,cU s.2.2.1),(505,w3 s.2.2.2.2.1),(506,w3 s.2.2.2.2.2),(1000,.box [.fp (Q7 s.1),.fp (J2 s.2.1),.aL 504,.int s.2.2.2.1,.aL 505,.aL 506] 260)]) [0,4,10] [1001,1002,1003] ?_ ?_
 ·rintro _ g ⟨v6,v7,v8,v9,v10,v11,K⟩ n29 h;rw[Z4] at h;refine I [2,3,4] ?_ ?_<;>intro _ h
  ·refine B [1,2,6,5,12] fun a A h=>?_;refine cA ((H8 A).ay [(1001,504),(1002,505),(1003,506),(2,507),(3,508),(4,509)] rfl) ?_;refine S [5,12] ?_;exact le (a.w,a.m,a.out,a.a8,a.aJ,a.fix,(wr (K-(1:Int)))) [(504,507),(505,508),(506,509)]
  exact Sj [20]
 rintro⟨L,M,O,P,Q,R⟩ h;refine S [2,3] ?_;refine j6.cc 61 rfl (fun x=>?_);refine LU e0 hn (L,M,O,P,Q,R) (fun l k v=>V4 N a0 a4 l k v.1 v.2.1 v.2.2.1 v.2.2.2.1 v.2.2.2.2.1 v.2.2.2.2.2) h (fun c v=>[(62,.int (c:Int))]) (fun c v=>[(504,cU v.2.2.1),(505,w3 v.2.2.2.2.1),(506,w3 v.2.2.2.2.2),(1000,.box [.fp (Q7 v.1),.fp (J2 v.2.1),.aL 504,.int v.2.2.2.1,.aL 505,.aL 506] 260)]) [0,4,10,61] [1001,1002,1003] [] (fun s=>[]) (fun s=>[(504,cU s.2.2.1),(505,w3 s.2.2.2.2.1),(506,w3 s.2.2.2.2.2),(1000,.box [.fp (Q7 s.1),.fp (J2 s.2.1),.aL 504,.int s.2.2.2.1,.aL 505,.aL 506] 260)]) [0,4,10] [1001,1002,1003] ?_ ?_ ?_
 ·rintro _ g c ⟨T,U,V,W,X,Y⟩ h _;rw[V4] at h;exact Sj [3,2,4,0,20]
 ·rintro _ g c ⟨T,U,V,W,X,Y⟩ n55 h f _;rw[V4] at h;refine B [3,2,4,0,1,2,6,3,3] fun _ C h=>?_;refine cA ((H8 C).ay [(1001,504),(1002,505),(1003,506),(2,510),(3,511),(4,512)] rfl) ?_;refine B [5,12,12,12] fun b D h=>?_;refine cA ((H8 D).ay [(1001,510),(1002,511),(1003,512),(2,513),(3,514),(4,515)] rfl) ?_;refine kd [0,4,10,61,62] [513,514,515,1000,1001,1002,1003] ?_;refine S [5] ?_;refine MA (AN (mA f x) ?_);exact le (b.w,b.m,b.out,b.a8,b.aJ,b.fix) [(504,513),(505,514),(506,515)]
 rintro⟨Z,v47,E,v49,v50,v51⟩ h;refine S [3,13,3] ?_;refine O1 fun z=>?_;refine LR e0 hn (Z,v47,E,v49,v50,v51) (fun l k v=>P6 N a0 a4 E l k v.1 v.2.1 v.2.2.1 v.2.2.2.1 v.2.2.2.2.1 v.2.2.2.2.2) h (fun d v=>[(89,.int (d:Int))]) (fun d v=>[(504,cU v.2.2.1),(505,w3 v.2.2.2.2.1),(506,w3 v.2.2.2.2.2),(1000,.box [.fp (Q7 v.1),.fp (J2 v.2.1),.aL 504,.int v.2.2.2.1,.aL 505,.aL 506] 260)]) [0,4,10,13,87,88] [1001,1002,1003] [] (fun s=>[]) (fun s=>[(504,cU s.2.2.1),(505,w3 s.2.2.2.2.1),(506,w3 s.2.2.2.2.2),(1000,.box [.fp (Q7 s.1),.fp (J2 s.2.1),.aL 504,.int s.2.2.2.1,.aL 505,.aL 506] 260)]) [0] [1001,1002,1003] ?_ ?_ ?_
 ·rintro _ g d ⟨v66,v67,v68,v69,v70,v71⟩ h _;rw[P6] at h;exact Sj [3,2,4,0,20]
 ·rintro _ g d ⟨v66,v67,v68,v69,v70,v71⟩ x88 F h _ e _;rw[P6] at h;refine S [3,2,4,0,1,2] ?_;refine J e0 hn h (fun s=>[]) (fun s=>[(516,cU s.2.2.1),(517,w3 s.2.2.2.2.1),(518,w3 s.2.2.2.2.2),(1000,.box [.fp (Q7 s.1),.fp (J2 s.2.1),.aL 516,.int s.2.2.2.1,.aL 517,.aL 518] 260)]) [0,4,10,13,87,88,89] [1001,1002,1003] (fun _ h g=>?_) ?_
  ·refine S [6,3] ?_;refine W9 e ?_;refine S [3] ?_;refine J e0 hn h (fun s=>[]) (fun s=>[(516,cU s.2.2.1),(517,w3 s.2.2.2.2.1),(518,w3 s.2.2.2.2.2),(1000,.box [.fp (Q7 s.1),.fp (J2 s.2.1),.aL 516,.int s.2.2.2.1,.aL 517,.aL 518] 260)]) [0,4,10,13,87,88,89] [1001,1002,1003] (fun _ h g=>?_) ?_
   ·refine S [6,3] ?_;refine J e0 hn h (fun s=>[]) (fun s=>[(516,cU s.2.2.1),(517,w3 s.2.2.2.2.1),(518,w3 s.2.2.2.2.2),(1000,.box [.fp (Q7 s.1),.fp (J2 s.2.1),.aL 516,.int s.2.2.2.1,.aL 517,.aL 518] 260)]) [0,4,10,13,87,88,89] [1001,1002,1003] (fun _ h g=>?_) ?_
    ·refine I [4] ?_ ?_<;>intro _ h
     ·refine B [5] fun _ i h=>?_;refine cA ((H8 i).ay [(1001,504),(1002,505),(1003,506),(2,516),(3,517),(4,518)] rfl) ?_;exact je
     refine S [3] ?_;refine J e0 hn h (fun s=>[]) (fun s=>[(519,cU s.2.2.1),(520,w3 s.2.2.2.2.1),(521,w3 s.2.2.2.2.2),(1000,.box [.fp (Q7 s.1),.fp (J2 s.2.1),.aL 519,.int s.2.2.2.1,.aL 520,.aL 521] 260)]) [0,4,10,13,87,88,89] [1001,1002,1003] (fun _ h g=>?_) ?_
     ·refine I [4] ?_ ?_<;>intro _ h
      ·refine kd [0,4,10,13,15,87,88,89] [15,504,505,506,1000,1001,1002,1003] ?_;refine B [5,12,12] fun _ j h=>?_;refine cA ((H8 j).ay [(1001,504),(1002,505),(1003,506),(2,519),(3,520),(4,521)] rfl) ?_;exact je
      refine S [2] ?_;refine kd [0,4,10,13,15,87,88,89,94] [15,504,505,506,1000,1001,1002,1003] ?_;refine S [3] ?_;refine Jb 115 hn h [0,4,10,13,15,87,88,89,94] [15,504,505,506,1000,1001,1002,1003] (fun _ h g=>?_) ?_
      ·refine I [4] ?_ ?_<;>intro _ h
       ·exact Sj [1]
       exact Sj [5]
      intro v125 h;refine J e0 hn h (fun s=>[]) (fun s=>[(522,cU s.2.2.1),(523,w3 s.2.2.2.2.1),(524,w3 s.2.2.2.2.2),(1000,.box [.fp (Q7 s.1),.fp (J2 s.2.1),.aL 522,.int s.2.2.2.1,.aL 523,.aL 524] 260)]) [0,4,10,13,87,88,89] [1001,1002,1003] (fun _ h g=>?_) ?_
      ·refine I [4] ?_ ?_<;>intro _ h
       ·refine B [8,12,12,12] fun _ n h=>?_;refine cA ((H8 n).ay [(1001,504),(1002,505),(1003,506),(2,522),(3,523),(4,524)] rfl) ?_;exact je
       refine S [3] ?_;refine J e0 hn h (fun s=>[]) (fun s=>[(525,cU s.2.2.1),(526,w3 s.2.2.2.2.1),(527,w3 s.2.2.2.2.2),(1000,.box [.fp (Q7 s.1),.fp (J2 s.2.1),.aL 525,.int s.2.2.2.1,.aL 526,.aL 527] 260)]) [0,4,10,13,87,88,89] [1001,1002,1003] (fun _ h g=>?_) ?_
       ·refine I [4] ?_ ?_<;>intro _ h
        ·refine B [5] fun _ o h=>?_;refine cA ((H8 o).ay [(1001,504),(1002,505),(1003,506),(2,525),(3,526),(4,527)] rfl) ?_;exact je
        refine S [3] ?_;refine J e0 hn h (fun s=>[]) (fun s=>[(528,cU s.2.2.1),(529,w3 s.2.2.2.2.1),(530,w3 s.2.2.2.2.2),(1000,.box [.fp (Q7 s.1),.fp (J2 s.2.1),.aL 528,.int s.2.2.2.1,.aL 529,.aL 530] 260)]) [0,4,10,13,87,88,89] [1001,1002,1003] (fun _ h g=>?_) ?_
        ·refine I [4] ?_ ?_<;>intro _ h
         ·refine B [5] fun _ p h=>?_;refine cA ((H8 p).ay [(1001,504),(1002,505),(1003,506),(2,528),(3,529),(4,530)] rfl) ?_;exact je
         refine S [2,3] ?_;refine Jb 146 hn h [0,4,10,13,15,87,88,89,94] [15,504,505,506,1000,1001,1002,1003] (fun _ h g=>?_) ?_
         ·refine I [4] ?_ ?_<;>intro _ h
          ·exact Sj [1]
          exact Sj [5]
         intro v158 h;refine J e0 hn h (fun s=>[]) (fun s=>[(531,cU s.2.2.1),(532,w3 s.2.2.2.2.1),(533,w3 s.2.2.2.2.2),(1000,.box [.fp (Q7 s.1),.fp (J2 s.2.1),.aL 531,.int s.2.2.2.1,.aL 532,.aL 533] 260)]) [0,4,10,13,87,88,89] [1001,1002,1003] (fun _ h g=>?_) ?_
         ·refine I [4] ?_ ?_<;>intro _ h
          ·refine B [5,12] fun _ q h=>?_;refine cA ((H8 q).ay [(1001,504),(1002,505),(1003,506),(2,531),(3,532),(4,533)] rfl) ?_;exact je
          refine S [3] ?_;refine J e0 hn h (fun s=>[]) (fun s=>[(534,cU s.2.2.1),(535,w3 s.2.2.2.2.1),(536,w3 s.2.2.2.2.2),(1000,.box [.fp (Q7 s.1),.fp (J2 s.2.1),.aL 534,.int s.2.2.2.1,.aL 535,.aL 536] 260)]) [0,4,10,13,87,88,89] [1001,1002,1003] (fun _ h g=>?_) ?_
          ·refine I [4] ?_ ?_<;>intro _ h
           ·refine B [5,13,12] fun _ t h=>?_;refine cA ((H8 t).ay [(1001,504),(1002,505),(1003,506),(2,534),(3,535),(4,536)] rfl) ?_;exact je
           refine B [5] fun _ u h=>?_;refine cA ((H8 u).ay [(1001,504),(1002,505),(1003,506),(2,537),(3,538),(4,539)] rfl) ?_;exact je [(534,537),(535,538),(536,539)]
          rintro⟨v171,v172,v173,v174,v175,v176⟩ h;exact je [(531,534),(532,535),(533,536)]
         rintro⟨v161,v162,v163,v164,v165,v166⟩ h;exact je [(528,531),(529,532),(530,533)]
        rintro⟨v148,v149,v150,v151,v152,v153⟩ h;exact je [(525,528),(526,529),(527,530)]
       rintro⟨v138,v139,v140,v141,v142,v143⟩ h;exact je [(522,525),(523,526),(524,527)]
      rintro⟨v128,v129,v130,v131,v132,v133⟩ h;exact je [(519,522),(520,523),(521,524)]
     rintro⟨v115,v116,v117,v118,v119,v120⟩ h;exact je [(516,519),(517,520),(518,521)]
    rintro⟨v105,v106,v107,v108,v109,v110⟩ h;exact je
   rintro⟨v98,v99,v100,v101,v102,v103⟩ h;exact je
  rintro⟨v91,v92,v93,v94,v95,v96⟩ h;refine S [5] ?_;refine MA (AN (U9 e z) ?_);exact le (v91,v92,v93,v94,v95,v96) [(504,516),(505,517),(506,518)]
 rintro⟨v78,v79,v80,v81,v82,v83⟩ h;exact Sr [14] [(2,504),(3,505),(4,506)]
def G1 {N a0 a1 a2 a3 r} (h:qu N a0 a1 a2 a3=some r):Spec prog 133 [] [.agg (Q7 a0),.int a1,.int a2,s3 a3] (.ab [.agg (ed r.1),.bool r.2]) [] []:=by
 refine so func133 ntmps133 fun Γ hn=>?_;unfold qu at h;refine S [3,2,2] ?_;refine Jb 41 hn h [1,2,3,4,8] [4,8] (fun _ h g=>?_) ?_
 ·refine I [5] ?_ ?_<;>intro _ h
  ·exact Sj [0]
  refine I [0,13,0] ?_ ?_<;>intro _ h
  ·exact Sj [0]
  refine I [0] ?_ ?_<;>intro _ h
  ·exact Sj [0]
  refine B [0] fun _ hx8 h=>?_;refine H5 hx8 ?_;exact Sj [0,13,0]
 intro v1 h;refine I [4] ?_ ?_<;>intro _ h
 ·exact Sr [3,7]
 refine B [1,3] fun _ R h=>?_;refine H5 R ?_;refine B [] fun F T h=>?_;refine H5 T ?_;refine j6.gh (Gh.bF 4 4 rfl rfl rfl) (fun _=>?_);refine kd [1,3,4,8,10] [8] ?_;refine S [3,3,2,3] ?_;refine O1 fun L=>?_;refine nB 57 2 501 5 55 ?_;refine nB 57 4 502 1 3 ?_;refine nB 57 5 503 1 3 ?_;refine LR e0 hn (a0,F,([]:List Ins),F.a8,([]:List Int),([]:List Int),false) (fun l k v=>k6 N a3 F l k v.1 v.2.1 v.2.2.1 v.2.2.2.1 v.2.2.2.2.1 v.2.2.2.2.2.1 v.2.2.2.2.2.2) h (fun o v=>[(12,.bool v.2.2.2.2.2.2),(63,.int (o:Int))]) (fun o v=>[(57,.box [.fp (Q7 v.1),.fp (J2 v.2.1),.aL 501,.int v.2.2.2.1,.aL 502,.aL 503] 260),(501,cU v.2.2.1),(502,w3 v.2.2.2.2.1),(503,w3 v.2.2.2.2.2.1)]) [1,3,4,8,10,11,61,62] [8] [] (fun s=>[(12,.bool s.2.2.2.2.2.2)]) (fun s=>[(57,.box [.fp (Q7 s.1),.fp (J2 s.2.1),.aL 501,.int s.2.2.2.1,.aL 502,.aL 503] 260),(501,cU s.2.2.1),(502,w3 s.2.2.2.2.1),(503,w3 s.2.2.2.2.2.1)]) [1,4,8,10,11] [8] ?_ ?_ ?_
 ·rintro _ g o ⟨v17,v18,E,v20,v21,v22,v23⟩ h _;rw[k6] at h;exact Sj [3,2,4,0,20]
 ·rintro _ g o ⟨v17,v18,E,v20,v21,v22,v23⟩ x42 rest39 h _ p _;rw[k6] at h;refine S [3,2,4,0,1,2] ?_;refine J e0 hn h (fun s=>[(12,.bool s.2.2.2.2.2.2)]) (fun s=>[(57,.box [.fp (Q7 s.1),.fp (J2 s.2.1),.aL 203,.int s.2.2.2.1,.aL 505,.aL 188] 260),(188,w3 s.2.2.2.2.2.1),(203,cU s.2.2.1),(505,w3 s.2.2.2.2.1)]) [1,3,4,8,10,11,61,62,63] [8] (fun _ h g=>?_) ?_
  ·refine S [6,3] ?_;refine W9 p ?_;refine S [2,8,13] ?_;refine bS fN [(E.length:Int)] ?_;refine A [] fun G h=>?_;refine aM G ?_;refine S [2,2] ?_;refine Jb 97 hn h [1,3,4,8,10,11,12,13,14,61,62,63] [8,14,57,79,501,503] (fun _ h g=>?_) ?_
   ·refine kd [1,3,4,8,10,11,12,13,14,61,62,63] [8,14,57,79,501,503] ?_;refine I [5] ?_ ?_<;>intro _ h
    ·refine I [0,13,0] ?_ ?_<;>intro _ h
     ·refine B [0] fun _ U h=>?_;refine H5 U ?_;exact Sj [0]
     exact Sj [0]
    exact Sj [0]
   intro v55 h;refine I [4] ?_ ?_<;>intro _ h
   ·refine B [2,8] fun _ V h=>?_;refine H5 V ?_;refine B [] fun r65 M h=>?_;refine cA ((Eo M).ay [(1000,57),(1001,501),(1002,79),(1003,503),(2,504),(3,505),(4,506)] rfl) ?_;rcases r65 with⟨_|x68,d⟩
    ·refine S [2] ?_;refine kd [1,3,4,8,10,11,12,13,14,15,61,62,63] [8,14,57,504,505,506] ?_;refine S [8,4,1,2,2] ?_;refine Jb 176 hn h [1,3,4,8,10,11,12,13,14,61,62,63] [8,14,57,504,505,506] (fun _ h g=>?_) ?_
     ·refine kd [1,3,4,8,10,11,12,13,14,61,62,63] [8,14,57,504,505,506] ?_;refine I [5] ?_ ?_<;>intro _ h
      ·exact Sj [0]
      exact Sj [0]
     intro v69 h;refine J e0 hn h (fun s=>[]) (fun s=>[(57,.box [.fp (Q7 d.w),.fp (J2 d.m),.aL 504,.int d.a8,.aL 505,.aL 188] 260),(188,w3 s)]) [1,3,4,8,10,11,12,13,14,61,62,63] [8,14,504,505] (fun _ h g=>?_) ?_
     ·refine I [4] ?_ ?_<;>intro _ h
      ·refine S [8,13] ?_;refine bS fN [(d.out.length:Int)] ?_;refine A [] fun H h=>?_;refine aM H ?_;exact je
      exact Sj [1] [(188,506)]
     intro v72 h;refine S [2,3] ?_;refine J e0 hn h (fun s=>[]) (fun s=>[(14,.box (bc s) 55)]) [1,3,4,8,10,11,12,14,61,62,63] [8,57,188,504,505] (fun _ h g=>?_) ?_
     ·refine I [4] ?_ ?_<;>intro _ h
      ·exact Sj [5]
      exact Sj [1]
     intro v77 h;refine S [8] ?_;refine bS bc [v77] ?_;refine A [] fun K h=>?_;refine aM K ?_;exact je
    refine S [2] ?_;refine Jb 159 hn h [1,3,4,8,10,11,12,13,14,15,61,62,63] [8,14,57,504,505,506] (fun _ h g=>?_) ?_
    ·refine kd [1,3,4,8,10,11,12,13,14,15,61,62,63] [8,14,57,504,505,506] ?_;refine B [8] fun _ O h=>?_;refine cA (Ar O) ?_;refine I [] ?_ ?_<;>intro _ h
     ·refine I [0] ?_ ?_<;>intro _ h
      ·refine B [0,13,0] fun _ P h=>?_;refine cA (FU P) ?_;refine I [0,12,0,13,0,12,0,12,0] ?_ ?_<;>intro _ h
       ·exact Sj [0,12,0,12,0,12,0]
       exact Sj [0]
      exact Sj [0]
     exact Sj [0]
    intro v81 h;refine I [4] ?_ ?_<;>intro _ h
    ·refine B [2,8] fun _ W h=>?_;refine H5 W ?_;refine B [] fun _ Q h=>?_;refine cA ((Fb Q).ay [(1000,57),(1001,504),(1002,505),(1003,506),(2,507),(3,508),(4,509)] rfl) ?_;refine kd [1,3,4,8,10,11,61,62,63] [8,57,507,508,509] ?_;exact Sj [3,20] [(203,507),(505,508),(188,509)]
    refine S [1,2,2] ?_;refine Jb 176 hn h [1,3,4,8,10,11,12,13,14,61,62,63] [8,14,57,504,505,506] (fun _ h g=>?_) ?_
    ·refine I [5] ?_ ?_<;>intro _ h
     ·exact Sj [0]
     exact Sj [0]
    intro v97 h;refine J e0 hn h (fun s=>[]) (fun s=>[(57,.box [.fp (Q7 d.w),.fp (J2 d.m),.aL 504,.int d.a8,.aL 505,.aL 188] 260),(188,w3 s)]) [1,3,4,8,10,11,12,13,14,61,62,63] [8,14,504,505] (fun _ h g=>?_) ?_
    ·refine I [4] ?_ ?_<;>intro _ h
     ·refine S [8,13] ?_;refine bS fN [(d.out.length:Int)] ?_;refine A [] fun u h=>?_;refine aM u ?_;exact je
     exact Sj [1] [(188,506)]
    intro v100 h;refine S [2,3] ?_;refine J e0 hn h (fun s=>[]) (fun s=>[(14,.box (bc s) 55)]) [1,3,4,8,10,11,12,14,61,62,63] [8,57,188,504,505] (fun _ h g=>?_) ?_
    ·refine I [4] ?_ ?_<;>intro _ h
     ·exact Sj [5]
     exact Sj [1]
    intro Y h;refine S [8] ?_;refine bS bc [Y] ?_;refine A [] fun x h=>?_;refine aM x ?_;exact je
   refine S [1,2,2] ?_;refine Jb 176 hn h [1,3,4,8,10,11,12,13,14,61,62,63] [8,14,57,79,501,503] (fun _ h g=>?_) ?_
   ·refine I [5] ?_ ?_<;>intro _ h
    ·exact Sj [0]
    exact Sj [0]
   intro v109 h;refine J e0 hn h (fun s=>[]) (fun s=>[(57,.box [.fp (Q7 v17),.fp (J2 v18),.aL 501,.int v20,.aL 79,.aL 188] 260),(188,w3 s)]) [1,3,4,8,10,11,12,13,14,61,62,63] [8,14,79,501] (fun _ h g=>?_) ?_
   ·refine I [4] ?_ ?_<;>intro _ h
    ·refine S [8,13] ?_;refine bS fN [(E.length:Int)] ?_;refine A [] fun y h=>?_;refine aM y ?_;exact je
    exact Sj [1] [(188,503)]
   intro v112 h;refine S [2,3] ?_;refine J e0 hn h (fun s=>[]) (fun s=>[(14,.box (bc s) 55)]) [1,3,4,8,10,11,12,14,61,62,63] [8,57,79,188,501] (fun _ h g=>?_) ?_
   ·refine I [4] ?_ ?_<;>intro _ h
    ·exact Sj [5]
    exact Sj [1]
   intro Z h;refine S [8] ?_;refine bS bc [Z] ?_;refine A [] fun z h=>?_;refine aM z ?_;exact je [(505,79)]
  rintro⟨v45,v46,v47,v48,v49,v50,v51⟩ h;refine S [5] ?_;refine MA (AN (U9 p L) ?_);exact le (v45,v46,v47,v48,v49,v50,v51) [(501,203),(502,505),(503,188)]
 rintro⟨v31,v32,v33,v34,v35,v36,v37⟩ h;refine I [2,3,4] ?_ ?_<;>intro _ h
 ·exact Sr [3,7]
 refine S [1,2,3] ?_;refine O1 fun C=>?_;refine LR e0 hn v33 (fun l k v=>k7 N v35 v36 l k v) h (fun e v=>[(215,.int (e:Int))]) (fun e v=>[(501,cU v)]) [1,4,8,10,11,213,214] [8,57,502,503] [] (fun s=>[]) (fun s=>[(501,cU s)]) [1,4,8,10,11] [8,57,502,503] ?_ ?_ ?_
 ·intro _ g e q h _;rw[k7] at h;exact Sj [3,2,4,0,20]
 ·intro _ g e q x131 X h _ D _;rw[k7] at h;refine B [3,2,4,0,1,2,6,3] fun x134 f h=>?_;refine X8 f ?_;refine K6 (l6 f).2 ?_;refine kd [1,4,8,10,11,17,213,214,215] [8,57,501,502,503] ?_;refine B [8] fun _ i h=>?_;refine X8 i ?_;refine K6 (l6 i).2 ?_;refine B [] fun t j h=>?_;refine X8 j ?_;refine K6 (l6 j).2 ?_;refine B [] fun a n h=>?_;refine X8 n ?_;refine sM (l6 n).2 (⟨a.op,t,a.b,a.c,a.name⟩:Ins) ?_;refine kd [1,4,8,10,11,213,214,215] [8,57,501,502,503] ?_;refine S [5] ?_;refine MA (AN (U9 D C) ?_);exact le (q.set x134.toNat (⟨a.op,t,a.b,a.c,a.name⟩:Ins)) []
 intro v126 h;refine S [2] ?_;refine kd [1,4,8,10,11] [8,57,501,502,503] ?_;refine S [8] ?_;refine j6.ax 501 rfl ?_;exact Sr [7]
def HY {N a0 a1 r} (h:rX N a0 a1=some r):Spec prog 102 [] [.agg (Q7 a0),jA a1] (.aL 0) [(0,oA r)] [0]:=by
 refine so func102 ntmps102 fun D hn=>?_;unfold rX at h;refine S [3,3,2,3] ?_;refine O1 fun n=>?_;refine nR 5 205 5 213 ?_;refine LR e0 hn ([]:List Fs) (fun l k v=>lQ N a0 a1 l k v) h (fun j v=>[(13,.int (j:Int))]) (fun j v=>[(205,oA v)]) [1,2,5,12] [2] [] (fun s=>[]) (fun s=>[(205,oA s)]) [5] [] ?_ ?_ ?_
 ·intro _ g j w h _;rw[lQ] at h;exact Sj [3,2,4,0,20]
 ·intro _ g j w y p h _ b _;rw[lQ] at h;refine S [3,2,4,0,1,2,6,3,3] ?_;refine W9 b ?_;refine O1 fun d=>?_;refine LR e0 hn w (fun l k v=>lS N a0 a1 j l k v) h (fun a v=>[(23,.int (a:Int))]) (fun a v=>[(205,oA v)]) [1,2,5,6,12,13,22] [2] [] (fun s=>[]) (fun s=>[(205,oA s)]) [1,2,5,12,13] [2] ?_ ?_ ?_
  ·intro _ g a q h _;rw[lS] at h;exact Sj [3,2,4,0,20]
  ·intro _ g a q z m h _ i _;rw[lS] at h;refine S [3,2,4,0,1,2] ?_;refine J e0 hn h (fun s=>[(5,.aL 42)]) (fun s=>[(42,oA s)]) [1,2,6,12,13,22,23] [2] (fun _ h g=>?_) ?_
   ·refine B [6,3,2,8] fun _ e h=>?_;refine cA ((FJ e).sw 0 34) ?_;refine B [] fun o f h=>?_;refine cF (G1 f) ?_;refine kd [1,2,5,6,8,9,12,13,22,23] [2,8,205] ?_;refine S [3] ?_;refine J e0 hn h (fun s=>[(5,.aL 42)]) (fun s=>[(42,oA s)]) [1,2,6,12,13,22,23] [2] (fun _ h g=>?_) ?_
    ·refine I [4] ?_ ?_<;>intro _ h
     ·refine S [5] ?_;refine bS ed [o.1] ?_;refine A [] fun c h=>?_;refine aM c ?_;exact je
     exact Sj [1] [(42,205)]
    intro x h;exact je
   intro u h;refine S [5] ?_;refine MA (AN (U9 i d) ?_);exact le u [(205,42)]
  intro t h;refine S [5] ?_;refine MA (AN (U9 b n) ?_);exact le t []
 intro C h;exact Sr [3,7] [(0,205)]
def K9 {N a0 a1 r} (h:F5 N a0 a1=some r) {d:Nat} {a:List AV} {e:Nat} {b:List AV} {c:List AV}:Spec prog 165 [(1000,mB a0 (.fn d [.fp a]) (.fn e [.fp b,.fp c]) 1001 1003)] [.ptr 1000 0,.int a1] (.ab []) [(1000,mB r (.fn d [.fp a]) (.fn e [.fp b,.fp c]) 1001 1003)] []:=by
 refine so func165 ntmps165 fun i hn=>?_;unfold F5 at h;refine S [15,3] ?_;refine J e0 hn h (fun s=>[]) (fun s=>[(1000,.box [.ptr 1001 0,.fn d [.fp a],.fn e [.fp b,.fp c],.int a0.aE,.int a0.aH,.int a0.aO,.aL 1003,.int a0.back.k,.int a0.back.n,.int s] 251)]) [0] [] (fun _ h g=>?_) ?_
 ·refine I [4] ?_ ?_<;>intro _ h
  ·exact Sj [5]
  exact Sj [1]
 intro f h;exact Sr [14]
def wD {N a0 a1 r} (h:N7 N a0 a1=some r) {f:Nat} {a:List AV} {i:Nat} {b:List AV} {c:List AV}:Spec prog 195 [(1000,mB a0 (.fn f [.fp a]) (.fn i [.fp b,.fp c]) 1001 1003),(1003,p9 a0.aG [] 1005)] [.ptr 1000 0,.bool a1] (.bool r.1) [(1000,mB r.2 (.fn f [.fp a]) (.fn i [.fp b,.fp c]) 1001 1003),(1003,p9 a0.aG [] 1005)] []:=by
 refine so func195 ntmps195 fun y hn=>?_;unfold N7 at h;refine S [3,2] ?_;refine J e1 hn h (fun s=>[]) (fun s=>[(1000,.box [.ptr 1001 0,.fn f [.fp a],.fn i [.fp b,.fp c],.int s.1,.int s.2.1,.int s.2.2.1,.aL 1003,.int s.2.2.2.1,.int s.2.2.2.2.1,.int s.2.2.2.2.2] 251)]) [0] [1003] (fun _ h g=>?_) ?_
 ·refine S [6,2,8] ?_;refine J e1 hn h (fun s=>[]) (fun s=>[(1000,.box [.ptr 1001 0,.fn f [.fp a],.fn i [.fp b,.fp c],.int s.1,.int s.2.1,.int s.2.2.1,.aL 1003,.int s.2.2.2.1,.int s.2.2.2.2.1,.int s.2.2.2.2.2] 251)]) [0] [1003] (fun _ h g=>?_) ?_
  ·refine I [4] ?_ ?_<;>intro _ h
   ·refine B [5] fun _ d h=>?_;refine cA (K9 d) ?_;exact je
   refine S [2] ?_;refine Jb 24 hn h [0] [1000,1003] (fun _ h g=>?_) ?_
   ·refine I [5] ?_ ?_<;>intro _ h
    ·exact Sj [0,13,0]
    exact Sj [0]
   intro n h;refine I [4] ?_ ?_<;>intro _ h
   ·refine B [5] fun _ e h=>?_;refine cA (K9 e) ?_;exact je
   exact Sr [3,12,3,7]
  rintro⟨w,x,j,k,l,m⟩ h;exact je
 rintro⟨o,p,q,t,u,v⟩ h;exact Sr [3,7]
def zv {N a0 a1 r} (h:Q6 N a0 a1=some r) {i:Nat} {c:List AV} {j:Nat} {d:List AV} {e:List AV}:Spec prog 197 [(1000,mB a0 (.fn i [.fp c]) (.fn j [.fp d,.fp e]) 1001 1003),(1003,p9 a0.aG [] 1005)] [.ptr 1000 0,.agg (eV a1)] (.ab []) [(1000,mB r (.fn i [.fp c]) (.fn j [.fp d,.fp e]) 1001 1003),(1003,p9 r.aG [] 5),(5,.aF)] [5]:=by
 refine so func197 ntmps197 fun k hn=>?_;unfold Q6 at h;refine I [15,3,2,3,13,4] ?_ ?_<;>intro _ h
 ·refine S [3] ?_;refine gC (gS 1003 501) ?_;exact Sr [7] [(5,501)]
 refine B [1,2,8,13,12] fun b a h=>?_;refine iD a ?_;refine gC (gD 1003 502 503 ((wr ((a0.aG.length:Int)-(1:Int))).toNat) 8 (l6 a).2) ?_;refine kd [0,3,4] [3,502,503,1000,1003] ?_;refine S [8] ?_;refine hD (l6 a).2 ?_;refine bS eV [a1] ?_;refine A [] fun f h=>?_;refine aM f ?_;refine hS (l6 a).2 ?_;refine gE (gA 1003 33 504 ((wr ((a0.aG.length:Int)-(1:Int))).toNat) 8 ((l6 a).2) (⟨b.aK,b.aN,b.aY,b.code,b.aU,b.args,b.a8,(b.aA++[a1]),b.aJ⟩:j3)) ?_;exact Sr [14] [(5,504)]
def zt {N a0 gq a1 a2 a3 a4 r} (h:M9 N a0 gq a1 a2 a3 a4=some r) {M:Nat} {c:List AV} {z:Nat} {a:List AV} {b:List AV} (C:∀v y L,gq v y=some L->Spec prog z [] [.int v,.int y,.fp a,.fp b] (.ab [.agg (ed L.1),.bool L.2]) [] []):Spec prog 166 [(1000,mB a0 (.fn M [.fp c]) (.fn z [.fp a,.fp b]) 1001 1003),(1001,.box [E9 a0.w.a7,.aL 1002,.int a0.w.aB] 40),(1003,p9 a0.aG [] 1005)] [.ptr 1000 0,.int a1,.int a2,.agg (eV a3),zN a4] (.ab []) [(1000,mB r (.fn M [.fp c]) (.fn z [.fp a,.fp b]) 1001 4),(1001,.box [E9 a0.w.a7,.aL 1002,.int a0.w.aB] 40),(4,p9 r.aG [] 5),(5,.aF),(1003,.aF)] [5,4]:=by
 refine so func166 ntmps166 fun O hn=>?_;unfold M9 at h;refine B [15,3,3] fun _ E h=>?_;refine H5 E ?_;refine B [] fun _ F h=>?_;refine H5 F ?_;refine S [2] ?_;refine kd [0,1,2,4,8,10] [8,1000,1001,1003] ?_;refine I [3,13,4] ?_ ?_<;>intro _ h
 ·refine B [3] fun _ D h=>?_;refine cA (K9 D) ?_;refine gC (gR 1000 6 1003 501 502) ?_;exact Sr [7] [(4,501),(5,502)]
 refine I [1,2,3,4] ?_ ?_<;>intro _ h
 ·refine S [2] ?_;refine kd [0,4,8,10] [8,1000,1001,1003] ?_;refine B [3] fun _ i h=>?_;refine cA (wD i) ?_;refine I [4] ?_ ?_<;>intro _ h
  ·refine gC (gR 1000 6 1003 503 504) ?_;exact Sr [7] [(4,503),(5,504)]
  refine B [1,2,8] fun _ t h=>?_;refine H5 t ?_;refine B [] fun _ j h=>?_;refine cA (wa j) ?_;refine S [2] ?_;refine kd [0,11,12] [11,1000,1001,1003] ?_;refine I [3,4] ?_ ?_<;>intro _ h
  ·refine B [3] fun _ l h=>?_;refine cA (K9 l) ?_;refine gC (gR 1000 6 1003 505 506) ?_;exact Sr [7] [(4,505),(5,506)]
  refine B [1,3] fun _ m h=>?_;refine cA ((zv m).sw 5 507) ?_;refine gC (gR 1000 6 1003 508 509) ?_;exact Sr [7] [(4,508),(5,509)]
 refine S [1,2] ?_;refine kd [0,1,2,4,8,10] [8,1000,1001,1003] ?_;refine B [3] fun _ o h=>?_;refine cA (wD o) ?_;refine I [4] ?_ ?_<;>intro _ h
 ·refine gC (gR 1000 6 1003 510 511) ?_;exact Sr [7] [(4,510),(5,511)]
 refine S [1,2] ?_;refine kd [0,1,2,4,8,10] [8,1000,1001,1003] ?_;refine B [8] fun G p h=>?_;refine cA ((mf N _ _ p).sw 0 77) ?_;refine A [] fun d h=>?_;refine mN (enc:=eV) (x:=(⟨(0:Int),(0:Int)⟩:V)) d aT ?_;refine S [2] ?_;refine kd [0,1,2,13] [13,77,82,1000,1001,1003] ?_;refine B [3] fun _ q h=>?_;refine cA (C _ _ _ q) ?_;refine S [3] ?_;refine J e0 hn h (fun s=>[]) (fun s=>[(13,.box [.int a1,.int a2,.bool s.1,oT s.2.1,.int a3.k,.int a3.n,.aL 77,.aL 99,.aP,.int (0:Int)] 288),(99,ia s.2.2)]) [0,13] [77,1000,1001,1003] (fun _ h g=>?_) ?_
 ·refine I [4] ?_ ?_<;>intro _ h
  ·refine kd [0,13,14] [13,14,77,82,1000,1001,1003] ?_;refine A [8] fun e h=>?_;refine mN (enc:=eV) (x:=(⟨(0:Int),(0:Int)⟩:V)) e aT ?_;exact je
  exact Sj [1] [(99,82)]
 rintro⟨H,K,u⟩ h;refine j6.ax 77 rfl ?_;refine kd [0,13] [13,99,1000,1001,1003] ?_;refine S [8,11] ?_;refine Exists.intro [(7,(2,29)),(8,(2,29))] (Exists.intro (vW (⟨a1,a2,H,K,a3,G,u,[],(0:Int)⟩:j3)) (Exists.intro [(99,ia u)] (AN rfl (AN rfl (AN rfl (AN E5 (AN E5 (AN rfl (AN rfl ?_)))))))));refine A [] fun f h=>?_;refine aD f ?_;exact Sr [14] [(4,110),(5,810)]
def Em {N a0 gl gq a1 a2 a3 r} (h:mg N a0 gl gq a1 a2 a3=some r) {x:Nat} {c:List AV} (C:∀f j v k,gl f j v=some k->Spec prog x [] [.agg (bW f),.int j,.str v,.fp c] (.ab [.int k.1,.int k.2]) [] []) {y:Nat} {d:List AV} {e:List AV} (D:∀f j k,gq f j=some k->Spec prog y [] [.int f,.int j,.fp d,.fp e] (.ab [.agg (ed k.1),.bool k.2]) [] []):Spec prog 198 [(1000,mB a0 (.fn x [.fp c]) (.fn y [.fp d,.fp e]) 1001 1003),(1001,.box [E9 a0.w.a7,.aL 1002,.int a0.w.aB] 40),(1002,F3 a0.w.heap [] 1004),(1003,p9 a0.aG [] 1005)] [.ptr 1000 0,.ep 1003 a1 10 0,.agg (bc a2),.int a3] (.ab []) [(1000,mB r (.fn x [.fp c]) (.fn y [.fp d,.fp e]) 1001 4),(1001,.box [E9 a0.w.a7,.aL 1002,.int a0.w.aB] 40),(1002,F3 a0.w.heap [] 1004),(4,p9 r.aG [] 5),(5,.aF),(1003,.aF)] [5,4]:=by
 refine so func198 ntmps198 fun H hn=>?_;unfold mg at h;refine B [15,3,2] fun i b h=>?_;refine gC (gD 1003 501 502 a1 8 b) ?_;refine kd [0,1,3,6] [6,501,502,1000,1001,1002,1003] ?_;refine S [8] ?_;refine hD b ?_;refine S [13,12,2] ?_;refine kd [0,1,3,6,8] [6,501,502,1000,1001,1002,1003] ?_;refine S [8] ?_;refine hD b ?_;refine A [] fun z h=>?_;refine d25 z rfl rfl ?_;refine B [] fun _ E h=>?_;refine qB ((Spec.drop1 (mf N _ _ E)).sw 0 28) ⟨d73 _,trivial⟩ ?_;refine hD b ?_;refine B [12] fun _ u h=>?_;refine X8 u ?_;refine K6 (l6 u).2 ?_;refine S [2] ?_;refine gC (gB 1003 501 503 a1 8 b) ?_;refine kd [0,1,3,6,8,9,10] [6,10,28,503,1000,1001,1002,1003] ?_;refine S [8] ?_;refine K6 b ?_;refine K6 b ?_;refine B [] fun _ q h=>?_;refine H5 q ?_;refine K6 b ?_;refine B [] fun F t h=>?_;refine H5 t ?_;refine S [2] ?_;refine kd [0,1,6,8,9,10,11] [6,10,11,28,503,1000,1001,1002,1003] ?_;refine S [3] ?_;refine K6 b ?_;refine J e0 hn h (fun s=>[]) (fun s=>[(11,.box [.int i.aK,.str F.name,.int s] 156)]) [0,1,6,8,9,10,11] [6,10,28,503,1000,1001,1002,1003] (fun _ h g=>?_) ?_
 ·refine I [4] ?_ ?_<;>intro _ h
  ·exact Sj [5]
  exact Sj [1]
 intro G h;refine S [2] ?_;refine kd [0,1,6,8,9,10,11] [6,10,11,28,503,1000,1001,1002,1003] ?_;refine B [8] fun _ m h=>?_;refine cD (kC m) ?_;refine B [] fun _ n h=>?_;refine cA (C _ _ _ _ n) ?_;refine S [2] ?_;refine kd [0,1,8,9,10,12,13] [10,28,503,1000,1001,1002,1003] ?_;refine I [3,4] ?_ ?_<;>intro _ h
 ·refine B [3] fun _ o h=>?_;refine cA (K9 o) ?_;refine gC (gR 1000 6 1003 504 505) ?_;exact Sr [7] [(4,504),(5,505)]
 refine S [1] ?_;refine gC (gD 1003 506 507 a1 8 b) ?_;refine kd [0,1,8,9,10,12,13] [10,28,506,507,1000,1001,1002,1003] ?_;refine S [3] ?_;refine hD b ?_;refine A [12] fun l h=>?_;refine j8 l rfl rfl ?_;refine hS b ?_;refine gC (gA 1003 102 508 a1 8 b (⟨i.aK,i.aN,i.aY,i.code,i.aU,i.args,i.a8,(i.aA.take (wr ((wr ((i.aA.length:Int)-a2.a))-(1:Int))).toNat),i.aJ⟩:j3)) ?_;refine kd [0,1,9,10,12,13] [10,28,508,1000,1001,1002,1003] ?_;refine B [5] fun _ p h=>?_;refine cF ((((zt p D).sw 1005 508).sw 5 509).sw 4 510) ?_;exact Sr [14] [(4,510),(5,509)]
def zx {N a0 a1 a2 r} (h:P9 N a0 a1 a2=some r) {i:Nat} {a:List AV} {j:Nat} {b:List AV} {c:List AV}:Spec prog 199 [(1000,mB a0 (.fn i [.fp a]) (.fn j [.fp b,.fp c]) 1001 1003),(1003,p9 a0.aG [] 1005)] [.ptr 1000 0,.ep 1003 a1 10 0,.int a2] (.ab []) [(1000,mB r (.fn i [.fp a]) (.fn j [.fp b,.fp c]) 1001 1003),(1003,p9 r.aG [] 5),(5,.aF)] [5]:=by
 refine so func199 ntmps199 fun y hn=>?_;unfold P9 at h;refine B [15,2,3] fun d f h=>?_;refine K6 f ?_;refine J e0 hn h (fun s=>[]) (fun s=>[(1000,.box [.ptr 1001 0,.fn i [.fp a],.fn j [.fp b,.fp c],.int s.1,.int s.2.1,.int s.2.2.1,.aL 1003,.int s.2.2.2.1,.int s.2.2.2.2.1,.int s.2.2.2.2.2] 251)]) [0,1,2] [1003] (fun _ h g=>?_) ?_
 ·refine I [4] ?_ ?_<;>intro _ h
  ·refine S [3,12,3] ?_;refine J e0 hn h (fun s=>[]) (fun s=>[(1000,.box [.ptr 1001 0,.fn i [.fp a],.fn j [.fp b,.fp c],.int s.1,.int s.2.1,.int s.2.2.1,.aL 1003,.int s.2.2.2.1,.int s.2.2.2.2.1,.int s.2.2.2.2.2] 251)]) [0,1,2] [1003] (fun _ h g=>?_) ?_
   ·refine I [4] ?_ ?_<;>intro _ h
    ·refine kd [0,1,2] [1000,1003] ?_;refine B [5] fun _ e h=>?_;refine cA (K9 e) ?_;exact je
    exact Sj [1]
   rintro⟨k,l,m,n,o,p⟩ h;exact je
  exact Sj [1]
 rintro⟨q,t,u,v,w,x⟩ h;refine S [5] ?_;refine sD f (⟨d.aK,d.aN,d.aY,d.code,d.aU,d.args,d.a8,d.aA,a2⟩:j3) ?_;refine gE (gS 1003 501) ?_;exact Sr [14] [(5,501)]
def Eu {N a0 a1 a2 r} (h:V7 N a0 a1 a2=some r) {o:Nat} {e:List AV} {p:Nat} {f:List AV} {i:List AV}:Spec prog 201 [(1000,mB a0 (.fn o [.fp e]) (.fn p [.fp f,.fp i]) 1001 1003),(1001,.box [E9 a0.w.a7,.aL 1002,.int a0.w.aB] 40),(1002,F3 a0.w.heap [] 1004),(1003,p9 a0.aG [] 1005)] [.ptr 1000 0,.ep 1003 a1 10 0,.agg (bc a2)] (.ab []) [(1000,mB r (.fn o [.fp e]) (.fn p [.fp f,.fp i]) 1001 1003),(1001,.box [E9 a0.w.a7,.aL 1002,.int a0.w.aB] 40),(1002,F3 a0.w.heap [] 1004),(1003,p9 r.aG [] 5),(5,.aF)] [5]:=by
 refine so func201 ntmps201 fun q hn=>?_;unfold V7 at h;refine B [15,3,2,2] fun b a h=>?_;refine gC (gD 1003 501 502 a1 8 a) ?_;refine kd [0,1,5] [5,501,502,1000,1001,1002,1003] ?_;refine S [8] ?_;refine hD a ?_;refine hD a ?_;refine B [13,12,12] fun _ m h=>?_;refine X8 m ?_;refine K6 (l6 m).2 ?_;refine B [] fun _ n h=>?_;refine cD (kC n) ?_;refine I [4] ?_ ?_<;>intro _ h
 ·refine gC (gB 1003 501 503 a1 8 a) ?_;exact Sr [7] [(5,503)]
 refine S [1,2] ?_;refine gC (gB 1003 501 504 a1 8 a) ?_;refine kd [0,1,5] [5,504,1000,1001,1002,1003] ?_;refine S [8] ?_;refine K6 a ?_;refine B [] fun _ k h=>?_;refine H5 k ?_;refine K6 a ?_;refine B [] fun d l h=>?_;refine H5 l ?_;refine gC (gD 1003 505 506 a1 7 a) ?_;refine kd [0,1,5,6] [5,505,506,1000,1001,1002,1003] ?_;refine S [8] ?_;refine hD a ?_;refine A [] fun j h=>?_;refine j8 j rfl rfl ?_;refine sD a (⟨b.aK,b.aN,false,b.code,b.aU,b.args,b.a8,b.aA,b.aJ⟩:j3) ?_;refine sD (setAt a) (⟨b.aK,b.aN,false,d.code,b.aU,b.args,b.a8,b.aA,b.aJ⟩:j3) ?_;refine hS (setAt (setAt a)) ?_;refine sD (setAt (setAt a)) (⟨b.aK,b.aN,false,d.code,b.aU,b.args,b.a8,b.aA,a2.c⟩:j3) ?_;refine gE (gA 1003 68 507 a1 7 (setAt (setAt (setAt a))) (⟨b.aK,b.aN,false,d.code,b.aU,b.args,(b.a8.take d.a8.toNat),b.aA,a2.c⟩:j3)) ?_;exact Sr [14] [(5,507)]
def A4 {N a0 a1 a2 a3 r} (h:jS N a0 a1 a2 a3=some r) {l:Nat} {c:List AV} {m:Nat} {d:List AV} {e:List AV}:Spec prog 229 [(1000,mB a0 (.fn l [.fp c]) (.fn m [.fp d,.fp e]) 1001 1003),(1001,.box [E9 a0.w.a7,.aL 1002,.int a0.w.aB] 40),(1002,F3 a0.w.heap [] 1004)] [.ptr 1000 0,.agg (eV a1),.int a2,.agg (eV a3)] (.ab []) [(1000,mB r (.fn l [.fp c]) (.fn m [.fp d,.fp e]) 1001 1003),(1001,.box [E9 a0.w.a7,.aL 1002,.int a0.w.aB] 40),(1002,F3 r.w.heap [] 3),(3,.aF)] [3]:=by
 refine so func229 ntmps229 fun t hn=>?_;unfold jS at h;refine S [15,3,2] ?_;refine J e0 hn h (fun s=>[(40,.bool s)]) (fun s=>[(501,.aF),(1002,F3 a0.w.heap [] 501)]) [0,2,5,7] [5,7,1000,1001] (fun _ h g=>?_) ?_
 ·rcases qP h with⟨b,h⟩|⟨q,b,h⟩
  ·refine kd [0,2,5,7] [5,7,1000,1001,1002] ?_;refine I [8] ?_ ?_<;>intro _ h
   ·refine I [0,13,0] ?_ ?_<;>intro _ h
    ·cases h
    refine S [0] ?_;refine gE (gS 1002 501) ?_;exact je
   refine S [0] ?_;refine gE (gS 1002 502) ?_;exact je [(501,502)]
  refine gC (gD 1002 503 504 a1.n.toNat 1 b) ?_;refine kd [0,2,5,7] [5,7,503,504,1000,1001,1002] ?_;refine I [8] ?_ ?_<;>intro _ h
  ·refine I [0,13,0] ?_ ?_<;>intro _ h
   ·refine B [0] fun _ i h=>?_;refine iD i ?_;refine S [0] ?_;refine hD b ?_;refine S [0,13,0] ?_;refine gE (gB 1002 503 505 a1.n.toNat 1 b) ?_;exact je [(501,505)]
   refine S [0] ?_;refine gE (gB 1002 503 506 a1.n.toNat 1 b) ?_;exact je [(501,506)]
  refine S [0] ?_;refine gE (gB 1002 503 507 a1.n.toNat 1 b) ?_;exact je [(501,507)]
 intro p h;refine J e0 hn h (fun s=>[]) (fun s=>[(508,.aF),(1002,F3 s [] 508)]) [0] [1000,1001] (fun _ h g=>?_) ?_
 ·refine I [4] ?_ ?_<;>intro _ h
  ·rcases qP h with⟨a,h⟩|⟨k,a,h⟩
   ·cases h
   refine gC (gD 1002 508 509 a1.n.toNat 1 a) ?_;refine kd [0,2,5,7] [5,7,508,509,1000,1001,1002] ?_;refine B [8] fun _ j h=>?_;refine iD j ?_;refine hD a ?_;refine B [] fun _ f h=>?_;refine X8 f ?_;refine sM (l6 f).2 a3 ?_;refine gE (gA 1002 508 510 a1.n.toNat 1 a (⟨k.cls,(k.aI.set a2.toNat a3)⟩:Ob)) ?_;exact je [(508,510)]
  exact Sj [1] [(508,501)]
 intro o h;exact Sr [14] [(3,508)]
def F1 {N a0 a1 a2 r} (h:Y0 N a0 a1 a2=some r) {m:Nat} {b:List AV} {n:Nat} {c:List AV} {d:List AV}:Spec prog 202 [(1000,mB a0 (.fn m [.fp b]) (.fn n [.fp c,.fp d]) 1001 1003),(1001,.box [E9 a0.w.a7,.aL 1002,.int a0.w.aB] 40),(1002,F3 a0.w.heap [] 1004),(1003,p9 a0.aG [] 1005)] [.ptr 1000 0,.ep 1003 a1 10 0,.agg (bc a2)] (.ab []) [(1000,mB r (.fn m [.fp b]) (.fn n [.fp c,.fp d]) 1001 1003),(1001,.box [E9 r.w.a7,.aL 2,.int r.w.aB] 40),(2,F3 r.w.heap [] 3),(3,.aF),(1002,.aF),(1003,p9 r.aG [] 5),(5,.aF)] [3,2,5]:=by
 refine so func202 ntmps202 fun Γ hn=>?_;unfold Y0 at h;refine S [15,3,3,3] ?_;refine J e1 hn h (fun s=>[]) (fun s=>[(186,F3 s.1 [] 518),(501,.aF),(518,.aF),(1000,.box [.ptr 1001 0,.fn m [.fp b],.fn n [.fp c,.fp d],.int s.2.1,.int s.2.2.1,.int s.2.2.2.1,.aL 1003,.int s.2.2.2.2.2.1,.int s.2.2.2.2.2.2.1,.int s.2.2.2.2.2.2.2] 251),(1001,.box [E9 a0.w.a7,.aL 186,.int a0.w.aB] 40),(1002,.aF),(1003,p9 s.2.2.2.2.1 [] 501)]) [0,1] [] (fun _ h g=>?_) ?_
 ·refine S [6,3] ?_;refine J e1 hn h (fun s=>[]) (fun s=>[(186,F3 s.1 [] 518),(501,.aF),(518,.aF),(1000,.box [.ptr 1001 0,.fn m [.fp b],.fn n [.fp c,.fp d],.int s.2.1,.int s.2.2.1,.int s.2.2.2.1,.aL 1003,.int s.2.2.2.2.2.1,.int s.2.2.2.2.2.2.1,.int s.2.2.2.2.2.2.2] 251),(1001,.box [E9 a0.w.a7,.aL 186,.int a0.w.aB] 40),(1002,.aF),(1003,p9 s.2.2.2.2.1 [] 501)]) [0,1] [] (fun _ h g=>?_) ?_
  ·refine I [4] ?_ ?_<;>intro _ h
   ·refine B [5] fun _ hx21 h=>?_;refine K6 hx21 ?_;refine B [] fun _ hr23 h=>?_;refine cA ((q9 hr23).ay [(1016,4),(1019,1003),(1021,1005),(21,501)] rfl) ?_;refine gE (gR 1001 1 1002 502 503) ?_;exact je [(186,502),(518,503)]
   refine S [3] ?_;refine J e1 hn h (fun s=>[]) (fun s=>[(186,F3 s.1 [] 520),(504,.aF),(520,.aF),(1000,.box [.ptr 1001 0,.fn m [.fp b],.fn n [.fp c,.fp d],.int s.2.1,.int s.2.2.1,.int s.2.2.2.1,.aL 1003,.int s.2.2.2.2.2.1,.int s.2.2.2.2.2.2.1,.int s.2.2.2.2.2.2.2] 251),(1001,.box [E9 a0.w.a7,.aL 186,.int a0.w.aB] 40),(1002,.aF),(1003,p9 s.2.2.2.2.1 [] 504)]) [0,1] [] (fun _ h g=>?_) ?_
   ·refine I [4] ?_ ?_<;>intro _ h
    ·refine B [8] fun _ hx35 h=>?_;refine K6 hx35 ?_;refine B [] fun _ hx37 h=>?_;refine H5 hx37 ?_;refine B [] fun _ hr39 h=>?_;refine cA ((q9 hr39).ay [(1016,4),(1019,1003),(1021,1005),(21,504)] rfl) ?_;refine gE (gR 1001 1 1002 505 506) ?_;exact je [(186,505),(520,506)]
    refine S [3] ?_;refine J e1 hn h (fun s=>[]) (fun s=>[(186,F3 s.1 [] 522),(507,.aF),(522,.aF),(1000,.box [.ptr 1001 0,.fn m [.fp b],.fn n [.fp c,.fp d],.int s.2.1,.int s.2.2.1,.int s.2.2.2.1,.aL 1003,.int s.2.2.2.2.2.1,.int s.2.2.2.2.2.2.1,.int s.2.2.2.2.2.2.2] 251),(1001,.box [E9 a0.w.a7,.aL 186,.int a0.w.aB] 40),(1002,.aF),(1003,p9 s.2.2.2.2.1 [] 507)]) [0,1] [] (fun _ h g=>?_) ?_
    ·refine I [4] ?_ ?_<;>intro _ h
     ·refine B [] fun x50 F h=>?_;refine gC (gD 1003 507 508 a1 7 F) ?_;refine kd [0,1,4,5,6] [4,5,507,508,1000,1001,1002,1003] ?_;refine S [8] ?_;refine hD F ?_;refine B [] fun _ G h=>?_;refine X8 G ?_;refine K6 (l6 G).2 ?_;refine B [] fun _ hr55 h=>?_;refine cA ((oa hr55).ay [(1022,507),(1016,4),(1019,1003),(1021,508),(21,509)] rfl) ?_;refine B [] fun l hx57 h=>?_;refine gE (gA 1003 507 510 a1 7 hx57 (⟨l.aK,l.aN,l.aY,l.code,l.aU,l.args,x50.a8,l.aA,l.aJ⟩:j3)) ?_;refine gE (gR 1001 1 1002 511 512) ?_;exact je [(186,511),(522,512),(507,510)]
     refine S [3] ?_;refine J e1 hn h (fun s=>[]) (fun s=>[(186,F3 s.1 [] 525),(513,.aF),(525,.aF),(1000,.box [.ptr 1001 0,.fn m [.fp b],.fn n [.fp c,.fp d],.int s.2.1,.int s.2.2.1,.int s.2.2.2.1,.aL 1003,.int s.2.2.2.2.2.1,.int s.2.2.2.2.2.2.1,.int s.2.2.2.2.2.2.2] 251),(1001,.box [E9 a0.w.a7,.aL 186,.int a0.w.aB] 40),(1002,.aF),(1003,p9 s.2.2.2.2.1 [] 513)]) [0,1] [] (fun _ h g=>?_) ?_
     ·refine I [4] ?_ ?_<;>intro _ h
      ·refine kd [0,1,4,5,6] [4,5,1000,1001,1002,1003] ?_;refine B [8] fun _ hx69 h=>?_;refine K6 hx69 ?_;refine B [] fun _ hr71 h=>?_;refine cD (oq hr71) ?_;refine B [] fun _ hr73 h=>?_;refine cA ((q9 hr73).ay [(1016,4),(1019,1003),(1021,1005),(21,513)] rfl) ?_;refine gE (gR 1001 1 1002 514 515) ?_;exact je [(186,514),(525,515)]
      refine kd [0,1,4,5,6,12] [4,5,1000,1001,1002,1003] ?_;refine S [3] ?_;refine J e1 hn h (fun s=>[]) (fun s=>[(186,F3 s.1 [] 527),(516,.aF),(527,.aF),(1000,.box [.ptr 1001 0,.fn m [.fp b],.fn n [.fp c,.fp d],.int s.2.1,.int s.2.2.1,.int s.2.2.2.1,.aL 1003,.int s.2.2.2.2.2.1,.int s.2.2.2.2.2.2.1,.int s.2.2.2.2.2.2.2] 251),(1001,.box [E9 a0.w.a7,.aL 186,.int a0.w.aB] 40),(1002,.aF),(1003,p9 s.2.2.2.2.1 [] 516)]) [0,1] [] (fun _ h g=>?_) ?_
      ·refine I [4] ?_ ?_<;>intro _ h
       ·refine B [5] fun _ hr85 h=>?_;refine cA ((q9 hr85).ay [(1016,4),(1019,1003),(1021,1005),(21,516)] rfl) ?_;refine gE (gR 1001 1 1002 517 518) ?_;exact je [(186,517),(527,518)]
       refine S [3] ?_;refine J e1 hn h (fun s=>[]) (fun s=>[(186,F3 s.1 [] 529),(519,.aF),(529,.aF),(1000,.box [.ptr 1001 0,.fn m [.fp b],.fn n [.fp c,.fp d],.int s.2.1,.int s.2.2.1,.int s.2.2.2.1,.aL 1003,.int s.2.2.2.2.2.1,.int s.2.2.2.2.2.2.1,.int s.2.2.2.2.2.2.2] 251),(1001,.box [E9 a0.w.a7,.aL 186,.int a0.w.aB] 40),(1002,.aF),(1003,p9 s.2.2.2.2.1 [] 519)]) [0,1] [] (fun _ h g=>?_) ?_
       ·refine I [4] ?_ ?_<;>intro _ h
        ·refine B [5] fun _ hr97 h=>?_;refine cA ((q9 hr97).ay [(1016,4),(1019,1003),(1021,1005),(21,519)] rfl) ?_;refine gE (gR 1001 1 1002 520 521) ?_;exact je [(186,520),(529,521)]
        refine S [2,3] ?_;refine Jb 75 hn h [0,1,4,5,6,12] [4,5,1000,1001,1002,1003] (fun _ h g=>?_) ?_
        ·refine I [4] ?_ ?_<;>intro _ h
         ·exact Sj [1]
         exact Sj [5]
        intro v98 h;refine J e1 hn h (fun s=>[]) (fun s=>[(186,F3 s.1 [] 531),(522,.aF),(531,.aF),(1000,.box [.ptr 1001 0,.fn m [.fp b],.fn n [.fp c,.fp d],.int s.2.1,.int s.2.2.1,.int s.2.2.2.1,.aL 1003,.int s.2.2.2.2.2.1,.int s.2.2.2.2.2.2.1,.int s.2.2.2.2.2.2.2] 251),(1001,.box [E9 a0.w.a7,.aL 186,.int a0.w.aB] 40),(1002,.aF),(1003,p9 s.2.2.2.2.1 [] 522)]) [0,1] [] (fun _ h g=>?_) ?_
        ·refine I [4] ?_ ?_<;>intro _ h
         ·refine B [5] fun _ K h=>?_;refine cA (qx K) ?_;refine B [] fun _ L h=>?_;refine cA ((q9 L).ay [(1016,4),(1019,1003),(1021,1005),(21,522)] rfl) ?_;refine gE (gR 1001 1 1002 523 524) ?_;exact je [(186,523),(531,524)]
         refine S [3] ?_;refine J e1 hn h (fun s=>[]) (fun s=>[(186,F3 s.1 [] 533),(525,.aF),(533,.aF),(1000,.box [.ptr 1001 0,.fn m [.fp b],.fn n [.fp c,.fp d],.int s.2.1,.int s.2.2.1,.int s.2.2.2.1,.aL 1003,.int s.2.2.2.2.2.1,.int s.2.2.2.2.2.2.1,.int s.2.2.2.2.2.2.2] 251),(1001,.box [E9 a0.w.a7,.aL 186,.int a0.w.aB] 40),(1002,.aF),(1003,p9 s.2.2.2.2.1 [] 525)]) [0,1] [] (fun _ h g=>?_) ?_
         ·refine I [4] ?_ ?_<;>intro _ h
          ·refine B [5] fun _ M h=>?_;refine cA ((Q0 M).sw 5 525) ?_;refine gE (gR 1001 1 1002 526 527) ?_;exact je [(186,526),(533,527)]
          refine S [3] ?_;refine J e1 hn h (fun s=>[]) (fun s=>[(186,F3 s.1 [] 535),(528,.aF),(535,.aF),(1000,.box [.ptr 1001 0,.fn m [.fp b],.fn n [.fp c,.fp d],.int s.2.1,.int s.2.2.1,.int s.2.2.2.1,.aL 1003,.int s.2.2.2.2.2.1,.int s.2.2.2.2.2.2.1,.int s.2.2.2.2.2.2.2] 251),(1001,.box [E9 a0.w.a7,.aL 186,.int a0.w.aB] 40),(1002,.aF),(1003,p9 s.2.2.2.2.1 [] 528)]) [0,1] [] (fun _ h g=>?_) ?_
          ·refine I [4] ?_ ?_<;>intro _ h
           ·refine B [] fun e k h=>?_;refine gC (gD 1003 528 529 a1 8 k) ?_;refine kd [0,1,4,6] [4,528,529,1000,1001,1002,1003] ?_;refine S [8] ?_;refine hD k ?_;refine hD k ?_;refine B [13,12] fun _ p h=>?_;refine X8 p ?_;refine K6 (l6 p).2 ?_;refine B [] fun r142 O h=>?_;refine cA ((wE O).ay [(1022,528),(1016,4),(1019,1003),(1021,529),(22,530)] rfl) ?_;refine gE (gA 1003 530 531 a1 8 k (⟨e.aK,e.aN,e.aY,e.code,e.aU,e.args,e.a8,r142,e.aJ⟩:j3)) ?_;refine gE (gR 1001 1 1002 532 533) ?_;exact je [(186,532),(535,533),(528,531)]
           refine S [3] ?_;refine J e1 hn h (fun s=>[]) (fun s=>[(186,F3 s.1 [] 538),(534,.aF),(538,.aF),(1000,.box [.ptr 1001 0,.fn m [.fp b],.fn n [.fp c,.fp d],.int s.2.1,.int s.2.2.1,.int s.2.2.2.1,.aL 1003,.int s.2.2.2.2.2.1,.int s.2.2.2.2.2.2.1,.int s.2.2.2.2.2.2.2] 251),(1001,.box [E9 a0.w.a7,.aL 186,.int a0.w.aB] 40),(1002,.aF),(1003,p9 s.2.2.2.2.1 [] 534)]) [0,1] [] (fun _ h g=>?_) ?_
           ·refine I [4] ?_ ?_<;>intro _ h
            ·refine B [] fun x154 q h=>?_;refine gC (gD 1003 534 535 a1 7 q) ?_;refine kd [0,1,4,5] [4,5,534,535,1000,1001,1002,1003] ?_;refine gz 3 7 hn ?_;refine hD q ?_;refine B [] fun H P h=>?_;refine cA ((((od P).sw 1005 535).sw 1006 534).sw 5 536) ?_;refine B [] fun f t h=>?_;refine AN ⟨rfl,⟨rfl,trivial⟩,nu t rfl rfl E5 rfl ⟨rfl,rfl,rfl,rfl⟩⟩ ?_;refine B [] fun _ u h=>?_;refine X8 u ?_;refine sM (l6 u).2 H.1 ?_;refine gE (gA 1003 534 537 a1 7 t (⟨f.aK,f.aN,f.aY,f.code,f.aU,f.args,(x154.a8.set a2.a.toNat H.1),f.aA,f.aJ⟩:j3)) ?_;refine gE (gR 1001 1 1002 538 539) ?_;exact je [(186,538),(538,539),(534,537)]
            refine S [3] ?_;refine J e1 hn h (fun s=>[]) (fun s=>[(186,F3 s.1 [] 541),(540,.aF),(541,.aF),(1000,.box [.ptr 1001 0,.fn m [.fp b],.fn n [.fp c,.fp d],.int s.2.1,.int s.2.2.1,.int s.2.2.2.1,.aL 1003,.int s.2.2.2.2.2.1,.int s.2.2.2.2.2.2.1,.int s.2.2.2.2.2.2.2] 251),(1001,.box [E9 a0.w.a7,.aL 186,.int a0.w.aB] 40),(1002,.aF),(1003,p9 s.2.2.2.2.1 [] 540)]) [0,1] [] (fun _ h g=>?_) ?_
            ·refine I [4] ?_ ?_<;>intro _ h
             ·refine gz 4 8 hn ?_;refine B [] fun _ x h=>?_;refine K6 x ?_;refine B [] fun _ o h=>?_;refine cA ((Q0 o).sw 5 540) ?_;refine B [] fun _ y h=>?_;refine AN ⟨rfl,⟨rfl,trivial⟩,K6 y ⟨congrArg (fun v=>AV.agg (eV v)) (wT o x y),rfl,rfl,rfl⟩⟩ ?_;refine B [] fun _ Q h=>?_;refine cA ((A4 Q).sw 3 541) ?_;refine gE (gR 1001 1 1002 542 543) ?_;exact je [(186,542),(541,543)]
             refine S [3] ?_;refine J e1 hn h (fun s=>[]) (fun s=>[(186,F3 s.1 [] 550),(544,.aF),(550,.aF),(1000,.box [.ptr 1001 0,.fn m [.fp b],.fn n [.fp c,.fp d],.int s.2.1,.int s.2.2.1,.int s.2.2.2.1,.aL 1003,.int s.2.2.2.2.2.1,.int s.2.2.2.2.2.2.1,.int s.2.2.2.2.2.2.2] 251),(1001,.box [E9 a0.w.a7,.aL 186,.int a0.w.aB] 40),(1002,.aF),(1003,p9 s.2.2.2.2.1 [] 544)]) [0,1] [] (fun _ h g=>?_) ?_
             ·refine I [4] ?_ ?_<;>intro _ h
              ·refine B [] fun x190 z h=>?_;refine gC (gD 1003 544 545 a1 7 z) ?_;refine kd [0,1,4,5,6] [4,5,544,545,1000,1001,1002,1003] ?_;refine S [8] ?_;refine hD z ?_;refine B [] fun _ A h=>?_;refine X8 A ?_;refine K6 (l6 A).2 ?_;refine B [] fun _ R h=>?_;refine cD (oq R) ?_;refine B [] fun _ T h=>?_;refine cA ((oa T).ay [(1022,544),(1016,4),(1019,1003),(1021,545),(21,546)] rfl) ?_;refine B [] fun i hx199 h=>?_;refine gE (gA 1003 544 547 a1 7 hx199 (⟨i.aK,i.aN,i.aY,i.code,i.aU,i.args,x190.a8,i.aA,i.aJ⟩:j3)) ?_;refine gE (gR 1001 1 1002 548 549) ?_;exact je [(186,548),(550,549),(544,547)]
              refine kd [0,1,4,5,6,12] [4,5,1000,1001,1002,1003] ?_;refine S [3] ?_;refine J e1 hn h (fun s=>[]) (fun s=>[(186,F3 s.1 [] 553),(550,.aF),(553,.aF),(1000,.box [.ptr 1001 0,.fn m [.fp b],.fn n [.fp c,.fp d],.int s.2.1,.int s.2.2.1,.int s.2.2.2.1,.aL 1003,.int s.2.2.2.2.2.1,.int s.2.2.2.2.2.2.1,.int s.2.2.2.2.2.2.2] 251),(1001,.box [E9 a0.w.a7,.aL 186,.int a0.w.aB] 40),(1002,.aF),(1003,p9 s.2.2.2.2.1 [] 550)]) [0,1] [] (fun _ h g=>?_) ?_
              ·refine I [4] ?_ ?_<;>intro _ h
               ·refine B [] fun x210 C h=>?_;refine gC (gD 1003 550 551 a1 7 C) ?_;refine kd [0,1,4,5] [4,5,550,551,1000,1001,1002,1003] ?_;refine gz 4 12 hn ?_;refine hD C ?_;refine B [] fun _ D h=>?_;refine X8 D ?_;refine K6 (l6 D).2 ?_;refine B [] fun _ U h=>?_;refine cA ((((od U).sw 1005 551).sw 1006 550).sw 5 552) ?_;refine B [] fun j E h=>?_;refine AN ⟨rfl,⟨rfl,trivial⟩,nu E rfl rfl E5 rfl ⟨rfl,rfl,rfl,rfl⟩⟩ ?_;refine B [] fun _ V h=>?_;refine cA ((A4 V).sw 3 553) ?_;refine gE (gA 1003 550 554 a1 7 E (⟨j.aK,j.aN,j.aY,j.code,j.aU,j.args,x210.a8,j.aA,j.aJ⟩:j3)) ?_;refine gE (gR 1001 1 1002 555 556) ?_;exact je [(186,555),(553,556),(550,554)]
               refine S [3] ?_;refine J e1 hn h (fun s=>[]) (fun s=>[(186,F3 s.1 [] 886),(560,.aF),(886,.aF),(1001,.box [E9 a0.w.a7,.aL 186,.int a0.w.aB] 40),(1002,.aF),(1003,p9 s.2 [] 560)]) [0,1] [1000] (fun _ h g=>?_) ?_
               ·refine I [4] ?_ ?_<;>intro _ h
                ·refine S [2] ?_;refine kd [0,1,5,6] [4,5,1000,1001,1002,1003] ?_;refine B [8] fun _ W h=>?_;refine cD (kD W) ?_;refine B [] fun _ X h=>?_;refine qB (((uq X).sw 0 186).sw 1 886) ⟨yu _,trivial,trivial⟩ ?_;refine S [2] ?_;refine kd [0,1,6,7,8,9] [4,8,186,886,1000,1001,1002,1003] ?_;refine I [3,4] ?_ ?_<;>intro _ h
                 ·refine B [3] fun _ Y h=>?_;refine cA (K9 Y) ?_;refine gC (gR 1001 1 1002 557 558) ?_;refine gC (gS 1003 559) ?_;exact Sr [7] [(2,557),(3,558),(5,559)]
                 refine B [1,3,5] fun _ Z h=>?_;refine cA ((q9 Z).ay [(1016,4),(1019,1003),(1021,1005),(21,560)] rfl) ?_;refine gE (gX 1002) ?_;exact je
                refine S [1] ?_;refine gE (gR 1001 1 1002 561 562) ?_;refine gE (gS 1003 563) ?_;exact je [(186,561),(886,562),(560,563)]
               rintro⟨v220,v221⟩ h;exact je [(553,886),(550,560)]
              rintro⟨v200,v201,v202,v203,v204,v205,v206,v207⟩ h;exact je [(550,553),(544,550)]
             rintro⟨v180,v181,v182,v183,v184,v185,v186,v187⟩ h;exact je [(541,550),(540,544)]
            rintro⟨v162,v163,v164,v165,v166,v167,v168,v169⟩ h;exact je [(538,541),(534,540)]
           rintro⟨v144,v145,v146,v147,v148,v149,v150,v151⟩ h;exact je [(535,538),(528,534)]
          rintro⟨v127,v128,v129,v130,v131,v132,v133,v134⟩ h;exact je [(533,535),(525,528)]
         rintro⟨v115,v116,v117,v118,v119,v120,v121,v122⟩ h;exact je [(531,533),(522,525)]
        rintro⟨v101,v102,v103,v104,v105,v106,v107,v108⟩ h;exact je [(529,531),(519,522)]
       rintro⟨v86,v87,v88,v89,v90,v91,v92,v93⟩ h;exact je [(527,529),(516,519)]
      rintro⟨v74,v75,v76,v77,v78,v79,v80,v81⟩ h;exact je [(525,527),(513,516)]
     rintro⟨v58,v59,v60,v61,v62,v63,v64,v65⟩ h;exact je [(522,525),(507,513)]
    rintro⟨v40,v41,v42,v43,v44,v45,v46,v47⟩ h;exact je [(520,522),(504,507)]
   rintro⟨v24,v25,v26,v27,v28,v29,v30,v31⟩ h;exact je [(518,520),(501,504)]
  rintro⟨v10,v11,v12,v13,v14,v15,v16,v17⟩ h;exact je
 rintro⟨v1,v2,v3,v4,v5,v6,v7,v8⟩ h;exact Sr [14] [(2,186),(3,518),(5,501)]
end
section
set_option maxHeartbeats 40000000
set_option maxRecDepth 100000
def F2 {N a0 gl gq r} (h:mi N a0 gl gq=some r) {d:Nat} {a:List AV} (D:∀i j C t,gl i j C=some t->Spec prog d [] [.agg (bW i),.int j,.str C,.fp a] (.ab [.int t.1,.int t.2]) [] []) {e:Nat} {b:List AV} {c:List AV} (E:∀i j t,gq i j=some t->Spec prog e [] [.int i,.int j,.fp b,.fp c] (.ab [.agg (ed t.1),.bool t.2]) [] []):Spec prog 167 [(1000,mB a0 (.fn d [.fp a]) (.fn e [.fp b,.fp c]) 1001 1003),(1001,.box [E9 a0.w.a7,.aL 1002,.int a0.w.aB] 40),(1002,F3 a0.w.heap [] 1004),(1003,p9 a0.aG [] 1005)] [.ptr 1000 0] (.ab []) [(1000,mB r (.fn d [.fp a]) (.fn e [.fp b,.fp c]) 1001 4),(1001,.box [E9 r.w.a7,.aL 2,.int r.w.aB] 40),(2,F3 r.w.heap [] 3),(3,.aF),(1002,.aF),(4,p9 r.aG [] 5),(5,.aF),(1003,.aF)] [3,2,5,4]:=by
 refine so func167 ntmps167 fun Γ hn=>?_;unfold mi at h;refine B [15,2,8,13,12] fun k f h=>?_;refine iD f ?_;refine S [3] ?_;refine K6 (l6 f).2 ?_;refine kd [0,2,3] [1000,1001,1002,1003] ?_;refine S [3] ?_;refine K6 (l6 f).2 ?_;refine B [] fun _ F h=>?_;refine H5 F ?_;refine S [3] ?_;refine K6 (l6 f).2 ?_;refine S [12] ?_;refine sD (l6 f).2 (⟨k.aK,k.aN,k.aY,k.code,k.aU,k.args,k.a8,k.aA,(wr (k.aJ+(1:Int)))⟩:j3) ?_;refine kd [0,2,3,4] [4,1000,1001,1002,1003] ?_;refine S [3] ?_;refine J e0 hn h (fun s=>[]) (fun s=>[(501,.aF),(502,p9 s.2.2.2.2.2.2.1 [] 501),(509,.aF),(510,F3 s.2.1 [] 509),(1000,.box [.ptr 1001 0,.fn d [.fp a],.fn e [.fp b,.fp c],.int s.2.2.2.1,.int s.2.2.2.2.1,.int s.2.2.2.2.2.1,.aL 502,.int s.2.2.2.2.2.2.2.1,.int s.2.2.2.2.2.2.2.2.1,.int s.2.2.2.2.2.2.2.2.2] 251),(1001,.box [E9 s.1,.aL 510,.int s.2.2.1] 40),(1002,.aF),(1003,.aF)]) [0] [] (fun _ h g=>?_) ?_
 ·refine S [6,3] ?_;refine J e0 hn h (fun s=>[]) (fun s=>[(501,.aF),(502,p9 s.2.2.2.2.2.2.1 [] 501),(509,.aF),(510,F3 s.2.1 [] 509),(1000,.box [.ptr 1001 0,.fn d [.fp a],.fn e [.fp b,.fp c],.int s.2.2.2.1,.int s.2.2.2.2.1,.int s.2.2.2.2.2.1,.aL 502,.int s.2.2.2.2.2.2.2.1,.int s.2.2.2.2.2.2.2.2.1,.int s.2.2.2.2.2.2.2.2.2] 251),(1001,.box [E9 s.1,.aL 510,.int s.2.2.1] 40),(1002,.aF),(1003,.aF)]) [0] [] (fun _ h g=>?_) ?_
  ·refine I [4] ?_ ?_<;>intro _ h
   ·refine B [5] fun _ u h=>?_;refine cA (((Em u D E).sw 5 501).sw 4 502) ?_;refine gE (gR 1001 1 1002 503 504) ?_;exact je [(510,503),(509,504)]
   refine S [3] ?_;refine J e0 hn h (fun s=>[]) (fun s=>[(88,p9 s.2.2.2.2.2.2.1 [] 505),(505,.aF),(511,.aF),(512,F3 s.2.1 [] 511),(1000,.box [.ptr 1001 0,.fn d [.fp a],.fn e [.fp b,.fp c],.int s.2.2.2.1,.int s.2.2.2.2.1,.int s.2.2.2.2.2.1,.aL 88,.int s.2.2.2.2.2.2.2.1,.int s.2.2.2.2.2.2.2.2.1,.int s.2.2.2.2.2.2.2.2.2] 251),(1001,.box [E9 s.1,.aL 512,.int s.2.2.1] 40),(1002,.aF),(1003,.aF)]) [0] [] (fun _ h g=>?_) ?_
   ·refine I [4] ?_ ?_<;>intro _ h
    ·refine B [5] fun _ v h=>?_;refine cA ((zx v).sw 5 505) ?_;refine gE (gR 1001 1 1002 506 507) ?_;refine gE (gR 1000 6 1003 508 509) ?_;exact je [(512,506),(511,507),(88,508),(505,509)]
    refine S [3] ?_;refine J e0 hn h (fun s=>[]) (fun s=>[(88,p9 s.2.2.2.2.2.2.1 [] 511),(511,.aF),(515,.aF),(516,F3 s.2.1 [] 515),(1000,.box [.ptr 1001 0,.fn d [.fp a],.fn e [.fp b,.fp c],.int s.2.2.2.1,.int s.2.2.2.2.1,.int s.2.2.2.2.2.1,.aL 88,.int s.2.2.2.2.2.2.2.1,.int s.2.2.2.2.2.2.2.2.1,.int s.2.2.2.2.2.2.2.2.2] 251),(1001,.box [E9 s.1,.aL 516,.int s.2.2.1] 40),(1002,.aF),(1003,.aF)]) [0] [] (fun _ h g=>?_) ?_
    ·refine I [4] ?_ ?_<;>intro _ h
     ·refine B [3] fun _ x h=>?_;refine cA ((Q0 x).sw 5 510) ?_;refine S [3] ?_;refine J e0 hn h (fun s=>[]) (fun s=>[(511,.aF),(1000,.box [.ptr 1001 0,.fn d [.fp a],.fn e [.fp b,.fp c],.int s.1,.int s.2.1,.int s.2.2.1,.aL 1003,.int s.2.2.2.2.1,.int s.2.2.2.2.2.1,.int s.2.2.2.2.2.2] 251),(1003,p9 s.2.2.2.1 [] 511)]) [0] [1001,1002] (fun _ h g=>?_) ?_
      ·refine S [6] ?_;refine kd [0,2,4,61] [4,510,1000,1001,1002,1003] ?_;refine S [3] ?_;refine J e0 hn h (fun s=>[]) (fun s=>[(511,.aF),(1000,.box [.ptr 1001 0,.fn d [.fp a],.fn e [.fp b,.fp c],.int s.1,.int s.2.1,.int s.2.2.1,.aL 1003,.int s.2.2.2.2.1,.int s.2.2.2.2.2.1,.int s.2.2.2.2.2.2] 251),(1003,p9 s.2.2.2.1 [] 511)]) [0] [1001,1002] (fun _ h g=>?_) ?_
       ·refine I [4] ?_ ?_<;>intro _ h
        ·refine B [5] fun _ y h=>?_;refine cA (((zx y).sw 1005 510).sw 5 511) ?_;exact je
        refine S [3] ?_;refine J e0 hn h (fun s=>[]) (fun s=>[(1000,.box [.ptr 1001 0,.fn d [.fp a],.fn e [.fp b,.fp c],.int s.1,.int s.2.1,.int s.2.2.1,.aL 1003,.int s.2.2.2.1,.int s.2.2.2.2.1,.int s.2.2.2.2.2] 251)]) [0] [510,1001,1002,1003] (fun _ h g=>?_) ?_
        ·refine I [4] ?_ ?_<;>intro _ h
         ·exact Sj [1]
         refine B [5] fun _ z h=>?_;refine cA (K9 z) ?_;exact je
        rintro⟨v78,v79,v80,v81,v82,v83⟩ h;exact je [(511,510)]
       rintro⟨v67,v68,v69,v70,v71,v72,v73⟩ h;exact je
      rintro⟨v59,v60,v61,v62,v63,v64,v65⟩ h;refine gE (gR 1001 1 1002 512 513) ?_;refine gE (gR 1000 6 1003 514 515) ?_;exact je [(516,512),(515,513),(88,514),(511,515)]
     refine S [3] ?_;refine J e0 hn h (fun s=>[]) (fun s=>[(88,p9 s.2.2.2.2.2.2.1 [] 517),(517,.aF),(519,.aF),(520,F3 s.2.1 [] 519),(1000,.box [.ptr 1001 0,.fn d [.fp a],.fn e [.fp b,.fp c],.int s.2.2.2.1,.int s.2.2.2.2.1,.int s.2.2.2.2.2.1,.aL 88,.int s.2.2.2.2.2.2.2.1,.int s.2.2.2.2.2.2.2.2.1,.int s.2.2.2.2.2.2.2.2.2] 251),(1001,.box [E9 s.1,.aL 520,.int s.2.2.1] 40),(1002,.aF),(1003,.aF)]) [0] [] (fun _ h g=>?_) ?_
     ·refine I [4] ?_ ?_<;>intro _ h
      ·refine B [3] fun _ m h=>?_;refine cA ((Q0 m).sw 5 516) ?_;refine S [2] ?_;refine kd [0,6] [6,516,1000,1001,1002,1003] ?_;refine A [8,13,12] fun l h=>?_;refine j8 l rfl rfl ?_;refine B [5] fun _ n h=>?_;refine cA ((((zv n).sw 1003 88).sw 1005 788).sw 5 517) ?_;refine gE (gR 1001 1 1002 518 519) ?_;exact je [(520,518)]
      refine S [3] ?_;refine J e0 hn h (fun s=>[]) (fun s=>[(520,.aF),(521,.aF),(522,F3 s.2.1 [] 521),(1000,.box [.ptr 1001 0,.fn d [.fp a],.fn e [.fp b,.fp c],.int s.2.2.2.1,.int s.2.2.2.2.1,.int s.2.2.2.2.2.1,.aL 1003,.int s.2.2.2.2.2.2.2.1,.int s.2.2.2.2.2.2.2.2.1,.int s.2.2.2.2.2.2.2.2.2] 251),(1001,.box [E9 s.1,.aL 522,.int s.2.2.1] 40),(1002,.aF),(1003,p9 s.2.2.2.2.2.2.1 [] 520)]) [0] [] (fun _ h g=>?_) ?_
      ·refine I [4] ?_ ?_<;>intro _ h
       ·refine B [5] fun _ o h=>?_;refine cA ((Eu o).sw 5 520) ?_;refine gE (gR 1001 1 1002 521 522) ?_;exact je [(522,521),(521,522)]
       refine S [3] ?_;refine J e0 hn h (fun s=>[]) (fun s=>[(523,.aF),(524,F3 s.2.1 [] 523),(525,.aF),(1000,.box [.ptr 1001 0,.fn d [.fp a],.fn e [.fp b,.fp c],.int s.2.2.2.1,.int s.2.2.2.2.1,.int s.2.2.2.2.2.1,.aL 1003,.int s.2.2.2.2.2.2.2.1,.int s.2.2.2.2.2.2.2.2.1,.int s.2.2.2.2.2.2.2.2.2] 251),(1001,.box [E9 s.1,.aL 524,.int s.2.2.1] 40),(1002,.aF),(1003,p9 s.2.2.2.2.2.2.1 [] 525)]) [0] [] (fun _ h g=>?_) ?_
       ·refine I [4] ?_ ?_<;>intro _ h
        ·refine kd [0] [1000,1001,1002,1003] ?_;refine B [5] fun _ p h=>?_;refine cA (wD p) ?_;refine gE (gR 1001 1 1002 523 524) ?_;refine gE (gS 1003 525) ?_;exact je [(524,523),(523,524)]
        refine kd [0,2,4] [4,1000,1001,1002,1003] ?_;refine B [5] fun _ q h=>?_;refine cA ((((F1 q).sw 3 526).sw 2 527).sw 5 528) ?_;exact je [(524,527),(523,526),(525,528)]
       rintro⟨U,V,W,X,Y,Z,v126,v127,v128,v129⟩ h;exact je [(522,524),(521,523),(520,525)]
      rintro⟨G,H,K,L,M,O,P,Q,R,T⟩ h;refine gE (gR 1000 6 1003 529 530) ?_;exact je [(520,522),(519,521),(88,529),(517,530)]
     rintro⟨v88,v89,v90,v91,v92,v93,v94,v95,v96,v97⟩ h;exact je [(516,520),(515,519),(511,517)]
    rintro⟨v45,v46,v47,v48,v49,v50,v51,v52,v53,v54⟩ h;exact je [(512,516),(511,515),(505,511)]
   rintro⟨v31,v32,v33,v34,v35,v36,v37,v38,v39,v40⟩ h;exact je [(510,512),(509,511),(502,88),(501,505)]
  rintro⟨v17,v18,v19,v20,v21,v22,v23,v24,v25,v26⟩ h;exact je
 rintro⟨v6,v7,v8,v9,v10,v11,v12,v13,v14,v15⟩ h;exact Sr [14] [(2,510),(3,509),(4,502),(5,501)]
def G2 {N a0 a1 a2 g3 g4 r} (h:iL N a0 a1 a2 g3 g4=some r) {j:Nat} {b:List AV} (z:∀e f y i,g3 e f y=some i->Spec prog j [] [.agg (bW e),.int f,.str y,.fp b] (.ab [.int i.1,.int i.2]) [] []) {m:Nat} {c:List AV} {d:List AV} (o:∀e f i,g4 e f=some i->Spec prog m [] [.int e,.int f,.fp c,.fp d] (.ab [.agg (ed i.1),.bool i.2]) [] []):Spec prog 125 [] [.agg (Q7 a0),.agg (kR a1),.int a2,.fn j [.fp b],.fn m [.fp c,.fp d]] (.ab [.agg (Q7 r.1),.agg (lX r.2)]) [] []:=by
 refine so func125 ntmps125 fun Γ hn=>?_;unfold iL at h;refine B [3,2,3] fun _ A h=>?_;refine cA (wJ A) ?_;refine I [3,4] ?_ ?_<;>intro _ h
 ·refine B [3] fun _ C h=>?_;refine cA (((jU C).sw 0 24).sw 1 724) ?_;refine j6.b9 24 rfl ?_;exact Sr [7]
 refine B [1,3] fun F D h=>?_;refine cA (((jU D).sw 0 28).sw 1 728) ?_;refine kd [2,3,4,5,6,10,11,13] [5,6,10,11,13,28,728] ?_;refine B [3,2,2,8] fun _ E h=>?_;refine cD (kC E) ?_;refine B [] fun _ p h=>?_;refine cD (jT p) ?_;refine kd [5,6,10,11,13,14,15,16] [5,6,10,11,13,28,33,728] ?_;refine S [3] ?_;refine nB 33 6 501 10 288 ?_;refine gC (gT 501 502 [(7,(2,29)),(8,(2,29))]) ?_;refine J e0 hn h (fun s=>[]) (fun s=>[(33,.box [.ptr 13 0,.fn j [.fp b],.fn m [.fp c,.fp d],.int s.1,.int s.2.1,.int s.2.2.1,.aL 501,.int s.2.2.2.2.1,.int s.2.2.2.2.2.1,.int s.2.2.2.2.2.2] 251),(501,p9 s.2.2.2.1 [] 502)]) [5,10,11,13,14] [5,10,11,13,28,502,728] (fun _ h g=>?_) ?_
 ·refine I [4] ?_ ?_<;>intro _ h
  ·refine B [5] fun _ q h=>?_;refine cA ((((K9 q).sw 1000 33).sw 1001 13).sw 1003 501) ?_;exact je
  refine B [5] fun _ t h=>?_;refine cA ((zt t o).ay [(1000,33),(1001,13),(1003,501),(1002,28),(1005,502),(5,503),(4,504)] rfl) ?_;exact je [(501,504),(502,503)]
 rintro⟨G,H,K,L,M,O,P⟩ h;refine S [2] ?_;refine LF e0 hn (F.a7,F.heap,F.aB,G,H,K,L,M,O,P) (fun l v=>kI N g3 g4 l v.1 v.2.1 v.2.2.1 v.2.2.2.1 v.2.2.2.2.1 v.2.2.2.2.2.1 v.2.2.2.2.2.2.1 v.2.2.2.2.2.2.2.1 v.2.2.2.2.2.2.2.2.1 v.2.2.2.2.2.2.2.2.2) h (fun v=>[]) (fun v=>[(13,.box [E9 v.1,.aL 28,.int v.2.2.1] 40),(28,F3 v.2.1 [] 728),(33,.box [.ptr 13 0,.fn j [.fp b],.fn m [.fp c,.fp d],.int v.2.2.2.1,.int v.2.2.2.2.1,.int v.2.2.2.2.2.1,.aL 501,.int v.2.2.2.2.2.2.2.1,.int v.2.2.2.2.2.2.2.2.1,.int v.2.2.2.2.2.2.2.2.2] 251),(501,p9 v.2.2.2.2.2.2.1 [] 502)]) [5,10,11,13,14] [5,10,11,502,728] [] (fun s=>[]) (fun s=>[(13,.box [E9 s.1,.aL 28,.int s.2.2.1] 40),(28,F3 s.2.1 [] 728),(33,.box [.ptr 13 0,.fn j [.fp b],.fn m [.fp c,.fp d],.int s.2.2.2.1,.int s.2.2.2.2.1,.int s.2.2.2.2.2.1,.aL 501,.int s.2.2.2.2.2.2.2.1,.int s.2.2.2.2.2.2.2.2.1,.int s.2.2.2.2.2.2.2.2.2] 251),(501,p9 s.2.2.2.2.2.2.1 [] 502)]) [5,10,11,13,14] [5,10,11,502,728] ?_ ?_
 ·rintro _ g ⟨R,T,U,V,W,X,Y,Z,v34,v35⟩ Q h;rw[kI] at h;refine S [2,2] ?_;refine Jb 70 hn h [5,10,11,13,14] [5,10,11,13,28,33,501,502,728] (fun _ h g=>?_) ?_
  ·refine I [5] ?_ ?_<;>intro _ h
   ·exact Sj [0,13,0]
   exact Sj [0]
  intro v60 h;refine I [4] ?_ ?_<;>intro _ h
  ·refine B [1,6,5] fun a u h=>?_;refine cA ((F2 u z o).ay [(1000,33),(1001,13),(1003,501),(1002,28),(1004,728),(1005,502),(3,505),(2,506),(5,507),(4,508)] rfl) ?_;exact le (a.w.a7,a.w.heap,a.w.aB,a.aE,a.aH,a.aO,a.aG,a.back.k,a.back.n,a.err) [(28,506),(728,505),(501,508),(502,507)]
  exact Sj [20]
 rintro⟨v46,v47,v48,v49,v50,v51,v52,v53,v54,v55⟩ h;refine I [2,3,4] ?_ ?_<;>intro _ h
 ·refine B [2,8] fun _ x h=>?_;refine cA (((jU x).sw 0 79).sw 1 779) ?_;refine j6.b9 79 rfl ?_;exact Sr [7]
 refine S [1,2,8] ?_;refine j6.b9 28 rfl ?_;exact Sr [7]
def Gm {N a0 a1 a2 b0 r} (h:pO N a0 a1 a2 b0=some r):Spec prog 131 [] [.agg (bW a0),.int a1,.str a2,.fp (Q7 b0)] (.ab [.int r.1,.int r.2]) [] []:=by
 refine so func131 ntmps131 fun b hn=>?_;unfold pO at h;refine B [3,3] fun _ a h=>?_;refine cA (jT a) ?_;exact Sr [7]
def Gb {N a0 a1 b0 b1 r} (h:pG N a0 a1 b0 b1=some r):Spec prog 132 [] [.int a0,.int a1,.fp [EP b0],.fp (Q7 b1)] (.ab [.agg (ed r.1),.bool r.2]) [] []:=by
 refine so func132 ntmps132 fun m hn=>?_;unfold pG at h;refine S [3,2,3] ?_;refine O1 fun e=>?_;refine LR e1 hn () (fun l k v=>lE N a0 a1 b1 l k) h (fun d v=>[(12,.int (d:Int))]) (fun d v=>[]) [0,1,3,6,10,11] [6] [] (fun s=>[]) (fun s=>[]) [6] [6] ?_ ?_ ?_
 ·intro _ g d _ h _;rw[lE] at h;exact Sj [3,2,4,0,20]
 ·intro _ g d _ j f h _ c _;rw[lE] at h;refine S [3,2,4,0,1,2,6,3] ?_;refine W9 c ?_;refine S [2] ?_;refine Jb 41 hn h [0,1,3,6,9,10,11,12] [6,9] (fun _ h g=>?_) ?_
  ·refine kd [0,1,3,6,9,10,11,12] [6,9] ?_;refine I [8] ?_ ?_<;>intro _ h
   ·refine B [0] fun _ a h=>?_;refine H5 a ?_;refine B [0] fun _ b h=>?_;refine H5 b ?_;refine I [0] ?_ ?_<;>intro _ h
    ·exact Sj [0]
    exact Sj [0]
   exact Sj [0]
  intro i h;refine I [4] ?_ ?_<;>intro _ h
  ·exact Sr [3,7]
  refine S [1,5] ?_;refine MA (AN (U9 c e) ?_);exact le () []
 rintro⟨⟩ h;exact Sr [3,7]
def HU {N a0 a1 a2 a3 r} (h:rU N a0 a1 a2 a3=some r):Spec prog 101 [] [.agg (Q7 a0),.agg (kR a1),.int a2,EP a3] (.ab [.agg (Q7 r.1),.agg (lX r.2)]) [] []:=by
 refine so func101 ntmps101 fun c hn=>?_;unfold rU at h;refine S [3] ?_;refine j6.gh (Gh.bF 4 4 rfl rfl rfl) (fun _=>?_);refine j6.gh (Gh.bF 7 7 rfl rfl rfl) (fun _=>?_);refine kd [2,4,5,7,8,9] [5,8,9] ?_;refine B [3] fun _ b h=>?_;refine cA (G2 b (fun _ _ _ _ a=>Gm a) (fun _ _ _ a=>Gb a)) ?_;exact Sr [7]
def FB {N a0 a1 a2 r} (h:ri N a0 a1 a2=some r):Spec prog 67 [(1000,.box (O3 a0) 45)] [.ptr 1000 0,.int a1,.agg (kR a2)] (.agg (nb r.1)) [(1000,.box (O3 r.2) 45)] []:=by
 refine so func67 ntmps67 fun A hn=>?_;unfold ri at h;refine S [3,3,2,3] ?_;refine J e0 hn h (fun s=>[]) (fun s=>[(7,.box (lX s.2.2.2.2.2) 151),(1000,.box [E9 s.1,jN s.2.1,.int s.2.2.1,ke s.2.2.2.1,jA s.2.2.2.2.1,s5 a0.saved] 45)]) [0,6,7] [6] (fun _ h g=>?_) ?_
 ·refine S [6,3] ?_;refine J e0 hn h (fun s=>[]) (fun s=>[(7,.box (lX s.2.2.2.2.2) 151),(1000,.box [E9 s.1,jN s.2.1,.int s.2.2.1,ke s.2.2.2.1,jA s.2.2.2.2.1,s5 a0.saved] 45)]) [0,6,7] [6] (fun _ h g=>?_) ?_
  ·refine I [4] ?_ ?_<;>intro _ h
   ·refine B [8] fun _ a h=>?_;refine cA (HK a) ?_;exact je
   refine S [3] ?_;refine J e0 hn h (fun s=>[]) (fun s=>[(7,.box (lX s.2.2.2.2.2) 151),(1000,.box [E9 s.1,jN s.2.1,.int s.2.2.1,ke s.2.2.2.1,jA s.2.2.2.2.1,s5 a0.saved] 45)]) [0,6,7] [6] (fun _ h g=>?_) ?_
   ·refine I [4] ?_ ?_<;>intro _ h
    ·refine B [2,8] fun _ b h=>?_;refine cA (Gq b) ?_;refine kd [0,6,7,8] [6,7,8,1000] ?_;exact Sj [8]
    refine kd [0,5,6,7] [5,6,7,1000] ?_;refine B [8] fun _ c h=>?_;refine cA ((HY c).sw 0 25) ?_;refine B [] fun _ d h=>?_;refine cF (HU d) ?_;exact je
   rintro⟨k,l,m,n,o,p⟩ h;exact je
  rintro⟨y,z,e,f,i,j⟩ h;exact je
 rintro⟨q,t,u,v,w,x⟩ h;exact Sr [3,7]
def Er {N a0 a1 r} (h:u9 N a0 a1=some r):Spec prog 80 [(1000,.box [.np 1000,.aL 1001] 99),(1001,w5 a0)] [.ptr 1000 0,.str a1] (.ab [.int r.1,.dr r.2.1]) [(1000,.box [.np 1000,.aL 2] 99),(2,w5 r.2.2),(1001,.aF)] [2]:=by
 refine so func80 ntmps80 fun b hn=>?_;unfold u9 at h;refine rB 1000 1 1001 320 ?_;refine S [3,3] ?_;refine cA (BH 1000 320) ?_;refine A [3] fun a h=>?_;refine Hp a ?_;exact Sr [3,18,7] [(2,14)]
def Es {N a0 a1 r} (h:uA N a0 a1=some r):Spec prog 81 [(1000,.box [.np 1000,.aL 1001] 99),(1001,w5 a0)] [.ptr 1000 0,.ik .u8 a1] (.dr r.1) [(1000,.box [.np 1000,.aL 2] 99),(2,w5 r.2),(1001,.aF)] [2]:=by
 refine so func81 ntmps81 fun b hn=>?_;unfold uA at h;refine rB 1000 1 1001 320 ?_;refine S [3,3] ?_;refine cA (BH 1000 320) ?_;refine S [3] ?_;refine bS (oF .u8) [a1] ?_;refine A [] fun a h=>?_;refine aM a ?_;exact Sr [3,7] [(2,14)]
def uB {N a0 a1 r} (h:kv N a0 a1=some r):Spec prog 46 [(1000,.box [.np 1000,.aL 1001] 99),(1001,w5 a0)] [.ptr 1000 0,.str a1] (.ab []) [(1000,.box [.np 1000,.aL 2] 99),(2,w5 r),(1001,.aF)] [2]:=by
 refine so func46 ntmps46 fun c hn=>?_;unfold kv at h;refine rB 1000 1 1001 320 ?_;refine B [15,3] fun _ a h=>?_;refine cA (((Er a).sw 1001 320).sw 2 501) ?_;refine B [5] fun _ b h=>?_;refine cA (((Es b).sw 1001 501).sw 2 502) ?_;exact Sr [14] [(2,502)]
def ma {N a0 a1 r} (h:U8 N a0 a1=some r):Spec prog 45 [(1000,.box [.np 1000,.aL 1001] 99),(1001,w5 a0),(2000,GL)] [.ptr 1000 0,s3 a1] (.ab []) [(1000,.box [.np 1000,.aL 2] 99),(2,w5 r),(1001,.aF),(2000,GL)] [2]:=by
 refine so func45 ntmps45 fun o hn=>?_;unfold U8 at h;refine rB 1000 1 1001 320 ?_;refine S [15,3] ?_;refine O1 fun e=>?_;refine LR e0 hn a0 (fun l k v=>Y7 N l k v) h (fun d v=>[(8,.int (d:Int))]) (fun d v=>[(320,w5 v)]) [0,6,7] [1000,1001,2000] [] (fun s=>[]) (fun s=>[(320,w5 s)]) [0] [1000,1001,2000] ?_ ?_ ?_
 ·intro _ g d j h _;rw[Y7] at h;exact Sj [3,2,4,0,20]
 ·intro _ g d j m i h _ a _;rw[Y7] at h;refine S [3,2,4,0,1,2,6,3] ?_;refine W9 a ?_;refine B [5] fun _ b h=>?_;refine cA (zq N _ _ b) ?_;refine B [] fun f c h=>?_;refine cA (((uB c).sw 1001 320).sw 2 501) ?_;refine S [5] ?_;refine MA (AN (U9 a e) ?_);exact le f [(320,501)]
 intro n h;exact Sr [14] [(2,320)]
def FZ {N a0 a1 r} (h:rE N a0 a1=some r):Spec prog 47 [(1000,.box [.np 1000,.aL 1001] 99),(1001,w5 a0),(2000,GL)] [.ptr 1000 0,.fp (J2 a1)] (.ab []) [(1000,.box [.np 1000,.aL 2] 99),(2,w5 r),(1001,.aF),(2000,GL)] [2]:=by
 refine so func47 ntmps47 fun w hn=>?_;unfold rE at h;refine rB 1000 1 1001 320 ?_;refine B [15,3] fun _ m h=>?_;refine cA (((uB m).sw 1001 320).sw 2 501) ?_;refine S [2] ?_;refine kd [0,1] [501,1000,1001,2000] ?_;refine S [8,13] ?_;refine bS fN [a1.args,a1.a8,a1.aX,(a1.code.length:Int)] ?_;refine B [] fun p n h=>?_;refine cF (((ma n).sw 1001 501).sw 2 502) ?_;refine kd [0,1] [502,1000,1001,2000] ?_;refine S [3] ?_;refine O1 fun j=>?_;refine LR e0 hn p (fun l k v=>V6 N l k v) h (fun f v=>[(37,.int (f:Int))]) (fun f v=>[(502,w5 v)]) [0,35,36] [1000,1001,2000] [] (fun s=>[]) (fun s=>[(502,w5 s)]) [0] [1000,1001,2000] ?_ ?_ ?_
 ·intro _ g f u h _;rw[V6] at h;exact Sj [3,2,4,0,20]
 ·intro _ g f u e i h _ b _;rw[V6] at h;refine S [3,2,4,0,1,2] ?_;refine J e0 hn h (fun s=>[]) (fun s=>[(504,w5 s),(1000,.box [.np 1000,.aL 504] 99)]) [0,35,36,37] [1001,2000] (fun _ h g=>?_) ?_
  ·refine S [6,3] ?_;refine W9 b ?_;refine S [3] ?_;refine bS fN [e.op,e.a] ?_;refine B [] fun _ c h=>?_;refine cF (((ma c).sw 1001 502).sw 2 503) ?_;refine S [3] ?_;refine J e0 hn h (fun s=>[]) (fun s=>[(504,w5 s),(1000,.box [.np 1000,.aL 504] 99)]) [0,35,36,37] [1001,2000] (fun _ h g=>?_) ?_
   ·refine I [4] ?_ ?_<;>intro _ h
    ·refine kd [0,5,35,36,37] [5,503,1000,1001,2000] ?_;refine B [5] fun _ d h=>?_;refine cA (((uB d).sw 1001 503).sw 2 504) ?_;exact je
    exact Sj [1] [(504,503)]
   intro t h;exact je
  intro o h;refine S [5] ?_;refine MA (AN (U9 b j) ?_);exact le o [(502,504)]
 intro q h;exact Sr [14] [(2,502)]
def Ge {N a0 r} (h:pI N a0=some r):Spec prog 22 [(2000,GL)] [.agg (Q7 a0)] (s5 r) [(2000,GL)] []:=by
 refine so func22 ntmps22 fun Γ hn=>?_;unfold pI at h;refine S [3,3] ?_;refine j6.eC 13 [.np 13,.aP] rfl aT ?_;refine nB 13 1 501 1 5 ?_;refine kd [1,3] [1,13,501,2000] ?_;refine S [3,13] ?_;refine bS fN [a0.aB,(a0.a7.length:Int)] ?_;refine B [] fun Y K h=>?_;refine cF ((((ma K).sw 1000 13).sw 1001 501).sw 2 502) ?_;refine S [2,3] ?_;refine O1 fun J=>?_;refine LR e0 hn Y (fun l k v=>lG N l k v) h (fun E v=>[(25,.int (E:Int))]) (fun E v=>[(502,w5 v)]) [1,3,23,24] [1,13,2000] [] (fun s=>[]) (fun s=>[(502,w5 s)]) [1,3] [1,13,2000] ?_ ?_ ?_
 ·intro _ g E Z h _;rw[lG] at h;exact Sj [3,2,4,0,20]
 ·intro _ g E Z j F h _ d _;rw[lG] at h;refine S [3,2,4,0,1,2,6,3] ?_;refine W9 d ?_;refine B [3] fun _ t h=>?_;refine cA ((((uB t).sw 1000 13).sw 1001 502).sw 2 503) ?_;refine S [3,13] ?_;refine bS fN [j.aV,j.aI,(j.aC.length:Int)] ?_;refine B [] fun L u h=>?_;refine cF ((((ma u).sw 1000 13).sw 1001 503).sw 2 504) ?_;refine kd [1,3,5,23,24,25] [1,5,13,504,2000] ?_;refine S [3] ?_;refine O1 fun o=>?_;refine LR e0 hn L (fun l k v=>lF N l k v) h (fun a v=>[(46,.int (a:Int))]) (fun a v=>[(504,w5 v)]) [1,3,23,24,25,44,45] [1,13,2000] [] (fun s=>[]) (fun s=>[(504,w5 s)]) [1,3,23,24,25] [1,13,2000] ?_ ?_ ?_
  ·intro _ g a R h _;rw[lF] at h;exact Sj [3,2,4,0,20]
  ·intro _ g a R x30 G h _ e _;rw[lF] at h;refine S [3,2,4,0,1,2,6,3] ?_;refine W9 e ?_;refine j6.gh (Gh.bF 7 7 rfl rfl rfl) (fun _=>?_);refine kd [1,3,7,23,24,25,44,45,46] [1,13,504,2000] ?_;refine B [5] fun M w h=>?_;refine cA ((((FZ w).sw 1000 13).sw 1001 504).sw 2 505) ?_;refine S [5] ?_;refine MA (AN (U9 e o) ?_);exact le M [(504,505)]
  intro T h;refine S [5] ?_;refine MA (AN (U9 d J) ?_);exact le T [(502,504)]
 intro v8 h;refine S [3,13] ?_;refine bS fN [(a0.heap.length:Int)] ?_;refine B [] fun O x h=>?_;refine cF ((((ma x).sw 1000 13).sw 1001 502).sw 2 506) ?_;refine S [2,3] ?_;refine O1 fun p=>?_;refine LR e0 hn O (fun l k v=>lH N l k v) h (fun b v=>[(63,.int (b:Int))]) (fun b v=>[(506,w5 v)]) [3,61,62] [13,2000] [] (fun s=>[]) (fun s=>[(506,w5 s)]) [3] [13,2000] ?_ ?_ ?_
 ·intro _ g b U h _;rw[lH] at h;exact Sj [3,2,4,0,20]
 ·intro _ g b U C H h _ f _;rw[lH] at h;refine S [3,2,4,0,1,2,6,3] ?_;refine W9 f ?_;refine S [3,13] ?_;refine bS fN [C.cls,(C.aI.length:Int)] ?_;refine B [] fun P y h=>?_;refine cF ((((ma y).sw 1000 13).sw 1001 506).sw 2 507) ?_;refine S [3] ?_;refine O1 fun q=>?_;refine LR e0 hn P (fun l k v=>lJ N l k v) h (fun c v=>[(78,.int (c:Int))]) (fun c v=>[(507,w5 v)]) [3,61,62,63,76,77] [13,2000] [] (fun s=>[]) (fun s=>[(507,w5 s)]) [3,61,62,63] [13,2000] ?_ ?_ ?_
  ·intro _ g c W h _;rw[lJ] at h;exact Sj [3,2,4,0,20]
  ·intro _ g c W D I h _ i _;rw[lJ] at h;refine S [3,2,4,0,1,2,6,3] ?_;refine W9 i ?_;refine S [5] ?_;refine bS fN [D.k,D.n] ?_;refine B [] fun Q z h=>?_;refine cF ((((ma z).sw 1000 13).sw 1001 507).sw 2 508) ?_;refine kd [3,61,62,63,76,77,78] [13,508,2000] ?_;refine S [5] ?_;refine MA (AN (U9 i q) ?_);exact le Q [(507,508)]
  intro X h;refine S [5] ?_;refine MA (AN (U9 f p) ?_);exact le X [(506,507)]
 intro V h;refine A [3] fun m h=>?_;refine cA (G0 V 13 506 m) ?_;exact Sr [7]
def uD {N a0 r} (h:Q5 N a0=some r):Spec prog 85 [(1000,.box (V8 a0) 107),(2000,GL)] [.ptr 1000 0] (.str r.1) [(1000,.box (V8 r.2) 107),(2000,GL)] []:=by
 refine so func85 ntmps85 fun c hn=>?_;unfold Q5 at h;refine B [3,3] fun _ a h=>?_;refine cA (GY N _ _ _ a) ?_;refine S [2,2] ?_;refine Jb 20 hn h [0,3,4] [1000,2000] (fun _ h g=>?_) ?_
 ·refine I [5] ?_ ?_<;>intro _ h
  ·exact Sj [0]
  exact Sj [0]
 intro b h;refine I [4] ?_ ?_<;>intro _ h
 ·exact Sr [3,3,7]
 exact Sr [1,3,3,7]
def M0 {N a0 r} (h:q8 N a0=some r):Spec prog 83 [(1000,.box (V8 a0) 107),(2000,GL)] [.ptr 1000 0] (.int r.1) [(1000,.box (V8 r.2) 107),(2000,GL)] []:=by
 refine so func83 ntmps83 fun f hn=>?_;unfold q8 at h;refine B [3,3] fun _ a h=>?_;refine cA (uD a) ?_;refine B [3] fun _ b h=>?_;refine cA (strconv_Atoi_ok N _ _ b) ?_;refine S [2,2] ?_;refine Jb 20 hn h [0,4] [1000,2000] (fun _ h g=>?_) ?_
 ·refine I [5,10] ?_ ?_<;>intro _ h
  ·exact Sj [0]
  refine B [0] fun _ c h=>?_;refine cA (zq N _ _ c) ?_;exact Sj [0]
 intro e h;refine J e0 hn h (fun s=>[]) (fun s=>[(1000,.box (V8 s) 107)]) [0,4] [2000] (fun _ h g=>?_) ?_
 ·refine I [4] ?_ ?_<;>intro _ h
  ·exact Sj [5]
  exact Sj [1]
 intro d h;exact Sr [3,7]
def r9 {N a0 a1 r} (h:L8 N a0 a1=some r):Spec prog 84 [(1000,.box (V8 a0) 107),(2000,GL)] [.ptr 1000 0,.int a1] (.int r.1) [(1000,.box (V8 r.2) 107),(2000,GL)] []:=by
 refine so func84 ntmps84 fun c hn=>?_;unfold L8 at h;refine B [3,3] fun _ a h=>?_;refine cA (M0 a) ?_;refine S [2,2] ?_;refine Jb 14 hn h [0,5] [1000,2000] (fun _ h g=>?_) ?_
 ·refine I [5] ?_ ?_<;>intro _ h
  ·exact Sj [0]
  exact Sj [0]
 intro b h;refine I [4] ?_ ?_<;>intro _ h
 ·exact Sr [3,3,7]
 exact Sr [1,3,7]
def Fa {N a0 r} (h:mc N a0=some r):Spec prog 86 [(1000,.box (V8 a0) 107),(2000,GL)] [.ptr 1000 0] (.agg (J2 r.1)) [(1000,.box (V8 r.2) 107),(2000,GL)] []:=by
 refine so func86 ntmps86 fun F hn=>?_;unfold mc at h;refine B [3,3] fun _ q h=>?_;refine cA (uD q) ?_;refine B [] fun _ t h=>?_;refine cA (M0 t) ?_;refine B [] fun _ u h=>?_;refine cA (M0 u) ?_;refine B [] fun _ w h=>?_;refine cA (M0 w) ?_;refine B [2,3] fun C i h=>?_;refine cA (r9 i) ?_;refine nB 3 4 501 5 55 ?_;refine j6.cc 15 rfl (fun c=>?_);refine LU e0 hn (C.2,([]:List Ins)) (fun l k v=>O7 N l k v.1 v.2) h (fun a v=>[(16,.int (a:Int))]) (fun a v=>[(501,cU v.2),(1000,.box (V8 v.1) 107)]) [0,2,3,15] [2,3,2000] [] (fun s=>[]) (fun s=>[(501,cU s.2),(1000,.box (V8 s.1) 107)]) [0,2,3] [2,3,2000] ?_ ?_ ?_
 ·rintro _ g a ⟨x,o⟩ h _;rw[O7] at h;exact Sj [3,2,4,0,20]
 ·rintro _ g a ⟨x,o⟩ z h b _;rw[O7] at h;refine B [3,2,4,0,1,2,6,3] fun d j h=>?_;refine cA (M0 j) ?_;refine B [] fun e m h=>?_;refine cA (M0 m) ?_;refine S [2,3] ?_;refine J e0 hn h (fun s=>[]) (fun s=>[(4,.box [.int d.1,.int e.1,.int (0:Int),.int (0:Int),.str s.2] 55),(1000,.box (V8 s.1) 107)]) [0,2,3,4,15,16] [2,3,501,2000] (fun _ h g=>?_) ?_
  ·refine I [4] ?_ ?_<;>intro _ h
   ·refine B [5] fun _ n h=>?_;refine cA (uD n) ?_;exact je
   exact Sj [1]
  rintro⟨y,p⟩ h;refine S [5] ?_;refine bS bc [(⟨d.1,e.1,(0:Int),(0:Int),p⟩:Ins)] ?_;refine A [] fun f h=>?_;refine aM f ?_;refine S [5] ?_;refine MA (AN (mA b c) ?_);exact le (y,(o++[(⟨d.1,e.1,(0:Int),(0:Int),p⟩:Ins)])) [(501,33)]
 rintro⟨D,E⟩ h;refine S [3] ?_;refine j6.ax 501 rfl ?_;exact Sr [7]
def Fc {N a0 r} (h:rI N a0=some r):Spec prog 51 [(1000,.box (V8 a0) 107),(2000,GL)] [.ptr 1000 0] (.agg (Q7 r.1)) [(1000,.box (V8 r.2) 107),(2000,GL)] []:=by
 refine so func51 ntmps51 fun Γ hn=>?_;unfold rI at h;refine B [3,3] fun _ Y h=>?_;refine cA (M0 Y) ?_;refine B [2,3] fun r3 Z h=>?_;refine cA (r9 Z) ?_;refine nB 3 0 501 4 81 ?_;refine j6.cc 10 rfl (fun J=>?_);refine LU e0 hn (r3.2,([]:List Cl)) (fun l k v=>S9 N l k v.1 v.2) h (fun X v=>[(11,.int (X:Int))]) (fun X v=>[(501,oY v.2),(1000,.box (V8 v.1) 107)]) [0,2,3,10] [2,3,2000] [] (fun s=>[]) (fun s=>[(501,oY s.2),(1000,.box (V8 s.1) 107)]) [0,2,3] [2,3,2000] ?_ ?_ ?_
 ·rintro _ g X ⟨v6,v7⟩ h _;rw[S9] at h;exact Sj [3,2,4,0,20]
 ·rintro _ g X ⟨v6,v7⟩ n15 h d _;rw[S9] at h;refine B [3,2,4,0,1,2,6,3] fun K x h=>?_;refine cA (uD x) ?_;refine B [] fun L y h=>?_;refine cA (M0 y) ?_;refine B [] fun M z h=>?_;refine cA (M0 z) ?_;refine B [2,3] fun r25 C h=>?_;refine cA (r9 C) ?_;refine nB 4 3 502 5 27 ?_;refine j6.cc 21 rfl (fun j=>?_);refine LU e0 hn (r25.2,([]:List Me)) (fun l k v=>K5 N l k v.1 v.2) h (fun a v=>[(22,.int (a:Int))]) (fun a v=>[(502,kq v.2),(1000,.box (V8 v.1) 107)]) [0,2,3,4,10,11,21] [2,3,4,501,2000] [] (fun s=>[]) (fun s=>[(502,kq s.2),(1000,.box (V8 s.1) 107)]) [0,2,3,4,10,11] [2,3,4,501,2000] ?_ ?_ ?_
  ·rintro _ g a ⟨v28,Q⟩ h _;rw[K5] at h;exact Sj [3,2,4,0,20]
  ·rintro _ g a ⟨v28,Q⟩ n37 h e _;rw[K5] at h;refine B [3,2,4,0,1,2,6,8] fun o D h=>?_;refine cA (Fa D) ?_;refine bS J2 [o.1] ?_;refine A [] fun q h=>?_;refine aM q ?_;refine S [5] ?_;refine MA (AN (mA e j) ?_);exact le (o.2,(Q++[o.1])) [(502,29)]
  rintro⟨v32,R⟩ h;refine S [5,12] ?_;refine bS fu [(⟨K.1,L.1,M.1,R⟩:Cl)] ?_;refine A [] fun t h=>?_;refine aM t ?_;refine S [5] ?_;refine MA (AN (mA d J) ?_);exact le (v32,(v7++[(⟨K.1,L.1,M.1,R⟩:Cl)])) [(501,36)]
 rintro⟨v10,v11⟩ h;refine B [2,3] fun r45 E h=>?_;refine cA (r9 E) ?_;refine nB 3 1 503 2 92 ?_;refine j6.cc 40 rfl (fun m=>?_);refine LU e0 hn (r45.2,([]:List Ob)) (fun l k v=>R8 N l k v.1 v.2) h (fun b v=>[(41,.int (b:Int))]) (fun b v=>[(503,Eb v.2),(1000,.box (V8 v.1) 107)]) [0,2,3,40] [2,3,501,2000] [] (fun s=>[]) (fun s=>[(503,Eb s.2),(1000,.box (V8 s.1) 107)]) [0,2,3] [2,3,501,2000] ?_ ?_ ?_
 ·rintro _ g b ⟨v48,T⟩ h _;rw[R8] at h;exact Sj [3,2,4,0,20]
 ·rintro _ g b ⟨v48,T⟩ n57 h f _;rw[R8] at h;refine B [3,2,4,0,1,2,6,3] fun O F h=>?_;refine cA (M0 F) ?_;refine B [2,3] fun r63 G h=>?_;refine cA (r9 G) ?_;refine nB 5 1 504 2 29 ?_;refine j6.cc 47 rfl (fun n=>?_);refine LU e0 hn (r63.2,([]:List V)) (fun l k v=>L6 N l k v.1 v.2) h (fun c v=>[(48,.int (c:Int))]) (fun c v=>[(504,ia v.2),(1000,.box (V8 v.1) 107)]) [0,2,3,5,40,41,47] [2,3,5,501,503,2000] [] (fun s=>[]) (fun s=>[(504,ia s.2),(1000,.box (V8 s.1) 107)]) [0,2,3,5,40,41] [2,3,5,501,503,2000] ?_ ?_ ?_
  ·rintro _ g c ⟨v66,U⟩ h _;rw[L6] at h;exact Sj [3,2,4,0,20]
  ·rintro _ g c ⟨v66,U⟩ n75 h i _;rw[L6] at h;refine B [3,2,4,0,1,2,6,8] fun P H h=>?_;refine cA (M0 H) ?_;refine B [] fun p I h=>?_;refine cA (M0 I) ?_;refine bS eV [(⟨P.1,p.1⟩:V)] ?_;refine A [] fun u h=>?_;refine aM u ?_;refine kd [0,2,3,5,40,41,47,48] [2,3,5,58,501,503,1000,2000] ?_;refine S [5] ?_;refine MA (AN (mA i n) ?_);exact le (p.2,(U++[(⟨P.1,p.1⟩:V)])) [(504,58)]
  rintro⟨v70,W⟩ h;refine S [5,12] ?_;refine bS hW [(⟨O.1,W⟩:Ob)] ?_;refine A [] fun w h=>?_;refine aM w ?_;refine S [5] ?_;refine MA (AN (mA f m) ?_);exact le (v70,(T++[(⟨O.1,W⟩:Ob)])) [(503,65)]
 rintro⟨v52,v53⟩ h;refine S [3] ?_;refine j6.ax 501 rfl ?_;refine j6.ax 503 rfl ?_;exact Sr [7]
def H4 {N a0 a1 r} (h:pR N a0 a1=some r):Spec prog 38 [] [.fp (Q7 a0),.fp (J2 a1)] (.bool r) [] []:=by
 refine so func38 ntmps38 fun e hn=>?_;unfold pR at h;refine B [3,2,8] fun _ a h=>?_;refine cA (jT a) ?_;refine S [2] ?_;refine Jb 4 hn h [] [] (fun _ h g=>?_) ?_
 ·refine kd [0,1,6] [] ?_;refine I [8] ?_ ?_<;>intro _ h
  ·refine B [0] fun _ b h=>?_;refine H5 b ?_;refine B [0] fun _ c h=>?_;refine H5 c ?_;refine I [0] ?_ ?_<;>intro _ h
   ·refine I [0] ?_ ?_<;>intro _ h
    ·refine I [0] ?_ ?_<;>intro _ h
     ·exact Sj [0,13,0]
     exact Sj [0]
    exact Sj [0]
   exact Sj [0]
  exact Sj [0]
 intro d h;exact Sr [7]
def HF {N a0 r} (h:uT N a0=some r):Spec prog 40 [] [.fp (Q7 a0)] (.int r) [] []:=by
 refine so func40 ntmps40 fun u hn=>?_;unfold uT at h;refine S [3,2,3] ?_;refine O1 fun n=>?_;refine LR e1 hn () (fun l k v=>nC N a0 l k) h (fun j v=>[(13,.int (j:Int))]) (fun j v=>[]) [0,11,12] [] [] (fun s=>[]) (fun s=>[]) [] [] ?_ ?_ ?_
 ·intro _ g j _ h _;rw[nC] at h;exact Sj [3,2,4,0,20]
 ·intro _ g j _ t o h _ i _;rw[nC] at h;refine S [3,2,4,0,1,2,6,3] ?_;refine W9 i ?_;refine S [2,2] ?_;refine Jb 46 hn h [0,4,11,12,13] [4] (fun _ h g=>?_) ?_
  ·refine kd [0,4,11,12,13] [4] ?_;refine I [8] ?_ ?_<;>intro _ h
   ·refine I [0] ?_ ?_<;>intro _ h
    ·exact Sj [0]
    refine I [0,13,0] ?_ ?_<;>intro _ h
    ·exact Sj [0]
    refine B [0,13,0] fun _ d h=>?_;refine cA (kD d) ?_;exact Sj [0]
   refine B [0,13] fun _ e h=>?_;refine cA (kD e) ?_;exact je
  intro p h;refine I [4] ?_ ?_<;>intro _ h
  ·exact Sr [3,7]
  refine S [1,3] ?_;refine O1 fun c=>?_;refine LR e1 hn () (fun l k v=>nD N a0 l k) h (fun a v=>[(50,.int (a:Int))]) (fun a v=>[]) [0,11,12,13,48,49] [] [] (fun s=>[]) (fun s=>[]) [0,11,12,13] [] ?_ ?_ ?_
  ·intro _ g a _ h _;rw[nD] at h;exact Sj [3,2,4,0,20]
  ·intro _ g a _ q m h _ b _;rw[nD] at h;refine S [3,2,4,0,1,2,6,3] ?_;refine W9 b ?_;refine B [2,8,13] fun _ f h=>?_;refine cA (As f) ?_;refine kd [0,7,11,12,13,48,49,50] [] ?_;refine I [3,4] ?_ ?_<;>intro _ h
   ·exact Sr [3,7]
   refine S [1,5] ?_;refine MA (AN (U9 b c) ?_);exact le () []
  rintro⟨⟩ h;refine S [5] ?_;refine MA (AN (U9 i n) ?_);exact le () []
 rintro⟨⟩ h;exact Sr [3,7]
def Gk {N a0 r} (h:pE N a0=some r):Spec prog 20 [] [.agg (Q7 a0)] (.int r) [] []:=by
 refine so func20 ntmps20 fun U hn=>?_;unfold pE at h;refine B [3,3] fun G F h=>?_;refine cA (BM N _ F) ?_;refine S [2,2] ?_;refine Jb 31 hn h [1,3] [1,3] (fun _ h g=>?_) ?_
 ·refine I [5,13,13] ?_ ?_<;>intro _ h
  ·exact Sj [0]
  refine I [0,13,0] ?_ ?_<;>intro _ h
  ·exact Sj [0]
  exact Sj [0,13,0]
 intro T h;refine I [4] ?_ ?_<;>intro _ h
 ·exact Sr [3,7]
 refine S [1,2,2] ?_;refine Jb 39 hn h [1,3] [1,3] (fun _ h g=>?_) ?_
 ·refine I [5] ?_ ?_<;>intro _ h
  ·exact Sj [0]
  exact Sj [0]
 intro L h;refine I [4] ?_ ?_<;>intro _ h
 ·exact Sr [3,7]
 refine S [1,3,2,3] ?_;refine O1 fun o=>?_;refine LR e1 hn ([]:(List (ByteArray×Bool))) (fun l k v=>mz N G l k v) h (fun b v=>[(44,.int (b:Int))]) (fun b v=>[(40,.bh (MF ly v))]) [1,3,4,42,43] [1,3] [] (fun s=>[]) (fun s=>[]) [1,3] [1,3] ?_ ?_ ?_
 ·intro _ g b z h _;rw[mz] at h;exact Sj [3,2,4,0,20]
 ·intro _ g b z H C h _ d _;rw[mz] at h;refine S [3,2,4,0,1,2,6,3] ?_;refine W9 d ?_;refine S [2,2] ?_;refine Jb 76 hn h [1,3,4,5,6,42,43,44] [1,3,6,40] (fun _ h g=>?_) ?_
  ·refine kd [1,3,4,5,6,42,43,44] [1,3,6,40] ?_;refine B [8] fun _ t h=>?_;refine cA (qw t) ?_;refine I [] ?_ ?_<;>intro _ h
   ·exact Sj [0]
   refine S [0] ?_;refine Lg rfl rfl rfl rfl ?_;refine I [0] ?_ ?_<;>intro _ h
   ·exact Sj [0]
   refine I [0,13,0] ?_ ?_<;>intro _ h
   ·refine B [0] fun _ w h=>?_;refine H5 w ?_;exact Sj [0]
   exact Sj [0]
  intro M h;refine I [4] ?_ ?_<;>intro _ h
  ·exact Sr [3,7]
  refine A [1,3] fun n h=>?_;refine Hf rfl rfl n ?_;refine S [2] ?_;refine Jb 138 hn h [1,3,4,42,43,44] [1,3,40] (fun _ h g=>?_) ?_
  ·refine kd [1,3,4,5,6,42,43,44] [1,3,6,40] ?_;refine I [8,13] ?_ ?_<;>intro _ h
   ·refine B [0] fun _ x h=>?_;refine H5 x ?_;refine I [0] ?_ ?_<;>intro _ h
    ·exact Sj [0]
    refine I [0] ?_ ?_<;>intro _ h
    ·exact Sj [0]
    refine I [0,13,0] ?_ ?_<;>intro _ h
    ·refine I [0] ?_ ?_<;>intro _ h
     ·exact Sj [0]
     refine I [0] ?_ ?_<;>intro _ h
     ·exact Sj [0]
     refine I [0] ?_ ?_<;>intro _ h
     ·refine I [0] ?_ ?_<;>intro _ h
      ·exact Sj [0]
      refine I [0] ?_ ?_<;>intro _ h
      ·exact Sj [0]
      exact Sj [0]
     refine I [0] ?_ ?_<;>intro _ h
     ·exact Sj [0]
     exact Sj [0]
    refine I [0] ?_ ?_<;>intro _ h
    ·exact Sj [0]
    exact Sj [0]
   refine I [0,13] ?_ ?_<;>intro _ h
   ·refine I [0] ?_ ?_<;>intro _ h
    ·exact Sj [0]
    refine I [0] ?_ ?_<;>intro _ h
    ·exact Sj [0]
    refine I [0] ?_ ?_<;>intro _ h
    ·refine I [0] ?_ ?_<;>intro _ h
     ·exact Sj [0]
     refine I [0] ?_ ?_<;>intro _ h
     ·exact Sj [0]
     exact Sj [0]
    refine I [0] ?_ ?_<;>intro _ h
    ·exact Sj [0]
    exact Sj [0]
   refine I [0] ?_ ?_<;>intro _ h
   ·exact Sj [0]
   exact Sj [0]
  intro O h;refine I [4] ?_ ?_<;>intro _ h
  ·exact Sr [3,7]
  refine S [1,5] ?_;refine MA (AN (U9 d o) ?_);exact le (eF H.name true z) []
 rintro⟨⟩ h;refine S [2,3] ?_;refine O1 fun p=>?_;refine j6.gh (Gh.bF 3 3 rfl rfl rfl) (fun _=>?_);refine LR e1 hn () (fun l k v=>mr N a0 G l k) h (fun a v=>[(143,.int (a:Int))]) (fun a v=>[]) [1,3,141,142] [1] [] (fun s=>[]) (fun s=>[]) [1] [1] ?_ ?_ ?_
 ·intro _ g a _ h _;rw[mr] at h;exact Sj [3,2,4,0,20]
 ·intro _ g a _ K D h _ e _;rw[mr] at h;refine S [3,2,4,0,1,2,6,3] ?_;refine W9 e ?_;refine B [2,3] fun _ u h=>?_;refine cA (kD u) ?_;refine I [4] ?_ ?_<;>intro _ h
  ·exact Sr [3,7]
  refine I [1,2,3,13,4] ?_ ?_<;>intro _ h
  ·refine kd [] [] ?_;exact Sr [3,7]
  refine S [1] ?_;refine kd [1,3,7,8,141,142,143] [1,8] ?_;refine S [3] ?_;refine O1 fun q=>?_;refine LR e1 hn () (fun l k v=>mv N a0 G a K l k) h (fun c v=>[(159,.int (c:Int))]) (fun c v=>[]) [1,3,7,8,141,142,143,157,158] [1,8] [] (fun s=>[]) (fun s=>[]) [1,3,141,142,143] [1] ?_ ?_ ?_
  ·intro _ g c _ h _;rw[mv] at h;exact Sj [3,2,4,0,20]
  ·intro _ g c _ R E h _ f _;rw[mv] at h;refine S [3,2,4,0,1,2] ?_;refine J e1 hn h (fun s=>[]) (fun s=>[]) [1,3,7,8,141,142,143,157,158,159] [1,8] (fun _ h g=>?_) ?_
   ·refine S [6,3] ?_;refine W9 f ?_;refine S [2,2] ?_;refine Jb 177 hn h [1,3,7,8,10,141,142,143,157,158,159] [1,8,10] (fun _ h g=>?_) ?_
    ·refine I [8] ?_ ?_<;>intro _ h
     ·refine B [0,12,0] fun _ y h=>?_;refine H5 y ?_;exact Sj [0]
     exact Sj [0]
    intro P h;refine I [4] ?_ ?_<;>intro _ h
    ·exact Sr [3,7]
    refine S [1,2,2] ?_;refine j6.gh (Gh.bF 10 10 rfl rfl rfl) (fun _=>?_);refine Jb 187 hn h [1,3,7,8,10,141,142,143,157,158,159] [1,8] (fun _ h g=>?_) ?_
    ·refine I [5] ?_ ?_<;>intro _ h
     ·refine I [0] ?_ ?_<;>intro _ h
      ·refine B [] fun _ i h=>?_;refine cA (H4 i) ?_;exact Sj [0]
      exact Sj [0]
     exact Sj [0]
    intro Q h;refine I [4] ?_ ?_<;>intro _ h
    ·exact Sj [20]
    refine B [1,3] fun _ j h=>?_;refine cA (B5 j) ?_;refine kd [1,3,7,8,11,141,142,143,157,158,159] [1,8,11] ?_;refine I [3,4] ?_ ?_<;>intro _ h
    ·exact Sr [3,7]
    exact Sj [1]
   rintro⟨⟩ h;refine S [5] ?_;refine MA (AN (U9 f q) ?_);exact le () []
  rintro⟨⟩ h;refine S [5] ?_;refine MA (AN (U9 e p) ?_);exact le () []
 rintro⟨⟩ h;refine j6.gh (Gh.bF 1 1 rfl rfl rfl) (fun _=>?_);refine kd [1] [] ?_;refine B [3] fun _ m h=>?_;refine cA (HF m) ?_;exact Sr [7]
def Gr {N a0 r} (h:kK N a0=some r):Spec prog 24 [(2000,GL)] [s5 a0] (.ab [.agg (Q7 r.1),.int r.2]) [(2000,GL)] []:=by
 refine so func24 ntmps24 fun d hn=>?_;unfold kK at h;refine S [3,3] ?_;refine Exists.intro a0 (AN rfl ?_);refine B [3] fun _ a h=>?_;refine cA ((Fc a).sw 1000 10) ?_;refine S [2,2] ?_;refine Jb 24 hn h [2,5] [2,5,2000] (fun _ h g=>?_) ?_
 ·refine I [5] ?_ ?_<;>intro _ h
  ·exact Sj [0]
  exact Sj [0]
 intro c h;refine I [4] ?_ ?_<;>intro _ h
 ·exact Sr [3,7]
 refine B [1,2,3] fun _ b h=>?_;refine cA (Gk b) ?_;refine I [3,4] ?_ ?_<;>intro _ h
 ·exact Sr [3,7]
 exact Sr [1,3,7]
def FO {N a0 r} (h:uo N a0=some r):Spec prog 68 [(1000,.box (O3 a0) 45),(2000,GL)] [.ptr 1000 0] (.agg (nb r.1)) [(1000,.box (O3 r.2) 45),(2000,GL)] []:=by
 refine so func68 ntmps68 fun b hn=>?_;unfold uo at h;refine I [3,2,3,13,4] ?_ ?_<;>intro _ h
 ·exact Sr [3,7]
 refine B [1,3] fun _ a h=>?_;refine cA (Gr a) ?_;refine S [2] ?_;refine kd [0,2,3,4] [2,3,1000,2000] ?_;refine I [3,4] ?_ ?_<;>intro _ h
 ·exact Sr [3,7]
 refine S [1,2,8,12,3] ?_;refine kd [0,2] [2,1000,2000] ?_;exact Sr [3,7]
def om {N a0 a1 r} (h:jX N a0 a1=some r):Spec prog 33 [(2000,GL)] [.agg (O3 a0),.agg (tM a1)] (.ab [.agg (O3 r.1),.agg (nb r.2)]) [(2000,GL)] []:=by
 refine so func33 ntmps33 fun l hn=>?_;unfold jX at h;refine B [3,3] fun _ e h=>?_;refine cA (Aq e) ?_;refine I [2,3,6,3,4] ?_ ?_<;>intro _ h
 ·refine B [3] fun _ f h=>?_;refine cA (Gw f) ?_;refine S [2] ?_;refine kd [4,5,6,7,8,9] [4,5,6,7,2000] ?_;refine I [3,4] ?_ ?_<;>intro _ h
  ·exact Sr [3,7]
  exact Sr [1,3,3,7]
 refine I [3,4] ?_ ?_<;>intro _ h
 ·refine B [3] fun _ i h=>?_;refine cA ((Fx i).sw 1000 6) ?_;refine S [2] ?_;refine kd [4,5,6,10] [4,5,6,10,2000] ?_;exact Sr [8,7]
 refine I [3,4] ?_ ?_<;>intro _ h
 ·refine kd [3,4,5,6] [3,4,5,6,2000] ?_;refine B [3] fun _ a h=>?_;refine cA ((FK a).sw 1000 6) ?_;exact Sr [2,8,7]
 refine S [2] ?_;refine kd [2,3,4,5,6,17] [2,3,4,5,6,2000] ?_;refine S [3] ?_;refine Jb 59 hn h [2,3,4,5,6,17] [2,3,4,5,6,2000] (fun _ h g=>?_) ?_
 ·refine I [4] ?_ ?_<;>intro _ h
  ·exact Sj [1]
  refine S [3] ?_;refine Jb 59 hn h [2,3,4,5,6,17] [2,3,4,5,6,2000] (fun _ h g=>?_) ?_
  ·refine I [4] ?_ ?_<;>intro _ h
   ·exact Sj [1]
   exact Sj [5]
  intro k h;exact je
 intro j h;refine I [4] ?_ ?_<;>intro _ h
 ·refine B [3] fun _ b h=>?_;refine cA ((FB b).sw 1000 6) ?_;exact Sr [2,8,7]
 refine I [3,4] ?_ ?_<;>intro _ h
 ·refine B [3] fun _ c h=>?_;refine cA (Ge c) ?_;exact Sr [2,8,13,7]
 refine I [3,4] ?_ ?_<;>intro _ h
 ·refine B [3] fun _ d h=>?_;refine cA ((FO d).sw 1000 6) ?_;exact Sr [2,8,7]
 exact Sr [1,3,7]
def FL {N a0 r} (h:wG N a0=some r):Spec prog 17 [(2000,GL)] [zO a0] (.ab [.agg (O3 r.1),.aL 0,.int r.2.2]) [(0,zU r.2.1),(2000,GL)] [0]:=by
 refine so func17 ntmps17 fun u hn=>?_;unfold wG at h;refine I [3,2,3,13,4] ?_ ?_<;>intro _ h
 ·refine S [3] ?_;refine nR 3 203 4 51 ?_;exact Sr [7] [(0,203)]
 refine B [1,3] fun n j h=>?_;refine cA (wX j) ?_;refine S [3,2,3] ?_;refine O1 fun i=>?_;refine nR 6 206 4 51 ?_;refine LR e0 hn (n,([]:List fG)) (fun l k v=>rM N l k v.1 v.2) h (fun e v=>[(18,.int (e:Int))]) (fun e v=>[(5,.box (O3 v.1) 45),(206,zU v.2)]) [2,5,6,16,17] [2,2000] [] (fun s=>[]) (fun s=>[(5,.box (O3 s.1) 45),(206,zU s.2)]) [2,5,6] [2,2000] ?_ ?_ ?_
 ·rintro _ g e ⟨q,m⟩ h _;rw[rM] at h;exact Sj [3,2,4,0,20]
 ·rintro _ g e ⟨q,m⟩ t f h _ a _;rw[rM] at h;refine S [3,2,4,0,1,2,6,3] ?_;refine W9 a ?_;refine B [3] fun b d h=>?_;refine cA (om d) ?_;refine kd [2,5,6,9,10,16,17,18] [2,5,9,10,206,2000] ?_;refine S [3,5] ?_;refine bS nb [b.2] ?_;refine A [] fun c h=>?_;refine aM c ?_;refine S [5] ?_;refine MA (AN (U9 a i) ?_);exact le (b.1,(m++[b.2])) [(206,32)]
 rintro⟨o,p⟩ h;exact Sr [3,7] [(0,206)]
def Fu {N a0 a1 r} (h:rN N a0 a1=some r):Spec prog 56 [] [oT a0,oT a1] (.bool r) [] []:=by
 refine so func56 ntmps56 fun i hn=>?_;unfold rN at h;refine I [3,2,3,13,13,4] ?_ ?_<;>intro _ h
 ·exact Sr [3,7]
 refine S [1,2,3] ?_;refine O1 fun d=>?_;refine LR e1 hn () (fun l k v=>mb N a1 l k) h (fun c v=>[(13,.int (c:Int))]) (fun c v=>[]) [0,1,12] [] [] (fun s=>[]) (fun s=>[]) [] [] ?_ ?_ ?_
 ·intro _ g c _ h _;rw[mb] at h;exact Sj [3,2,4,0,20]
 ·intro _ g c _ f e h _ a _;rw[mb] at h;refine S [3,2,4,0,1,2,6,3,2,8] ?_;refine W9 a ?_;refine B [] fun _ b h=>?_;refine H5 b ?_;refine I [4] ?_ ?_<;>intro _ h
  ·exact Sr [3,7]
  refine S [1,5] ?_;refine MA (AN (U9 a d) ?_);exact le () []
 rintro⟨⟩ h;exact Sr [3,7]
def Fm {N a0 a1 r} (h:rL N a0 a1=some r):Spec prog 26 [] [.agg (Q7 a0),.agg (Q7 a1)] (.bool r) [] []:=by
 refine so func26 ntmps26 fun Q hn=>?_;unfold rL at h;refine S [3,2,2] ?_;refine Jb 36 hn h [2,3] [2,3] (fun _ h g=>?_) ?_
 ·refine I [5] ?_ ?_<;>intro _ h
  ·exact Sj [0]
  refine I [0,13,0,13,0] ?_ ?_<;>intro _ h
  ·exact Sj [0]
  exact Sj [0,13,0,13,0]
 intro P h;refine I [4] ?_ ?_<;>intro _ h
 ·exact Sr [3,7]
 refine S [1,2,3] ?_;refine O1 fun m=>?_;refine LR e1 hn () (fun l k v=>mZ N a1 l k) h (fun b v=>[(40,.int (b:Int))]) (fun b v=>[]) [2,3,38,39] [2,3] [] (fun s=>[]) (fun s=>[]) [2,3] [2,3] ?_ ?_ ?_
 ·intro _ g b _ h _;rw[mZ] at h;exact Sj [3,2,4,0,20]
 ·intro _ g b _ K A h _ e _;rw[mZ] at h;refine S [3,2,4,0,1,2,6,3] ?_;refine W9 e ?_;refine B [3] fun F t h=>?_;refine H5 t ?_;refine S [2,2] ?_;refine Jb 77 hn h [2,3,6,7,38,39,40] [2,3,6,7] (fun _ h g=>?_) ?_
  ·refine kd [2,3,6,7,38,39,40] [2,3,6,7] ?_;refine I [5] ?_ ?_<;>intro _ h
   ·exact Sj [0]
   refine I [0] ?_ ?_<;>intro _ h
   ·exact Sj [0]
   refine I [0] ?_ ?_<;>intro _ h
   ·exact Sj [0]
   exact Sj [0,13,0,13,0]
  intro G h;refine I [4] ?_ ?_<;>intro _ h
  ·exact Sr [3,7]
  refine S [1,3] ?_;refine O1 fun n=>?_;refine LR e1 hn () (fun l k v=>mW N F l k) h (fun c v=>[(81,.int (c:Int))]) (fun c v=>[]) [2,3,7,38,39,40,79,80] [2,3,7] [] (fun s=>[]) (fun s=>[]) [2,3,38,39,40] [2,3] ?_ ?_ ?_
  ·intro _ g c _ h _;rw[mW] at h;exact Sj [3,2,4,0,20]
  ·intro _ g c _ L C h _ f _;rw[mW] at h;refine S [3,2,4,0,1,2,6,3] ?_;refine W9 f ?_;refine B [3] fun _ u h=>?_;refine H5 u ?_;refine S [2] ?_;refine Jb 124 hn h [2,3,7,38,39,40,79,80,81] [2,3,7] (fun _ h g=>?_) ?_
   ·refine kd [2,3,7,9,10,38,39,40,79,80,81] [2,3,7,9,10] ?_;refine I [5] ?_ ?_<;>intro _ h
    ·exact Sj [0]
    refine I [0] ?_ ?_<;>intro _ h
    ·exact Sj [0]
    refine I [0] ?_ ?_<;>intro _ h
    ·exact Sj [0]
    refine I [0] ?_ ?_<;>intro _ h
    ·exact Sj [0]
    refine B [0] fun _ q h=>?_;refine cA (Fu q) ?_;exact Sj [0]
   intro H h;refine I [4] ?_ ?_<;>intro _ h
   ·exact Sr [3,7]
   refine S [1,5] ?_;refine MA (AN (U9 f n) ?_);exact le () []
  rintro⟨⟩ h;refine S [5] ?_;refine MA (AN (U9 e m) ?_);exact le () []
 rintro⟨⟩ h;refine S [2,3] ?_;refine O1 fun o=>?_;refine LR e1 hn () (fun l k v=>mY N a1 l k) h (fun a v=>[(130,.int (a:Int))]) (fun a v=>[]) [3,128,129] [3] [] (fun s=>[]) (fun s=>[]) [] [] ?_ ?_ ?_
 ·intro _ g a _ h _;rw[mY] at h;exact Sj [3,2,4,0,20]
 ·intro _ g a _ M D h _ i _;rw[mY] at h;refine S [3,2,4,0,1,2,6,3] ?_;refine W9 i ?_;refine S [2,2] ?_;refine Jb 156 hn h [3,11,12,128,129,130] [3,12] (fun _ h g=>?_) ?_
  ·refine kd [3,11,12,128,129,130] [3,12] ?_;refine B [8] fun _ w h=>?_;refine H5 w ?_;refine I [] ?_ ?_<;>intro _ h
   ·exact Sj [0]
   refine B [0,13,0] fun _ x h=>?_;refine H5 x ?_;exact Sj [0,13,0]
  intro J h;refine I [4] ?_ ?_<;>intro _ h
  ·exact Sr [3,7]
  refine S [1,3] ?_;refine O1 fun p=>?_;refine LR e1 hn () (fun l k v=>mX N a1 a l k) h (fun d v=>[(160,.int (d:Int))]) (fun d v=>[]) [3,11,12,128,129,130,159] [3,12] [] (fun s=>[]) (fun s=>[]) [3,128,129,130] [3] ?_ ?_ ?_
  ·intro _ g d _ h _;rw[mX] at h;exact Sj [3,2,4,0,20]
  ·intro _ g d _ O E h _ j _;rw[mX] at h;refine S [3,2,4,0,1,2,6,3,2,8] ?_;refine W9 j ?_;refine B [] fun _ y h=>?_;refine H5 y ?_;refine B [] fun _ z h=>?_;refine H5 z ?_;refine I [4] ?_ ?_<;>intro _ h
   ·refine kd [] [] ?_;exact Sr [3,7]
   refine S [1] ?_;refine kd [3,11,12,128,129,130,159,160] [3,12] ?_;refine S [5] ?_;refine MA (AN (U9 j p) ?_);exact le () []
  rintro⟨⟩ h;refine S [5] ?_;refine MA (AN (U9 i o) ?_);exact le () []
 rintro⟨⟩ h;exact Sr [3,7]
def GD {N r} (h:qy N =some r):Spec prog 32 [(2000,GL)] [] (.bool r) [(2000,GL)] []:=by
 refine so func32 ntmps32 fun k hn=>?_;unfold qy at h;refine S [3,3] ?_;refine bS eV [(⟨(3:Int),(5:Int)⟩:V)] ?_;refine bS tM [(⟨(1:Int),(⟨#[65]⟩:ByteArray),(0:Int),(1:Int),(⟨BY,(0:Int),(0:Int),(0:Int),[]⟩:Me),(⟨(⟨(0:Int),(0:Int)⟩:V),BY,[]⟩:O8)⟩:cK),(⟨(3:Int),BY,(4:Int),(0:Int),(⟨BY,(0:Int),(0:Int),(0:Int),[]⟩:Me),(⟨(⟨(0:Int),(0:Int)⟩:V),BY,[]⟩:O8)⟩:cK),(⟨(7:Int),BY,(0:Int),(0:Int),(⟨BY,(0:Int),(0:Int),(0:Int),[]⟩:Me),(⟨(⟨(0:Int),(0:Int)⟩:V),BY,[]⟩:O8)⟩:cK),(⟨(4:Int),BY,(0:Int),(0:Int),(⟨BY,(0:Int),(0:Int),(0:Int),[]⟩:Me),(⟨(⟨(3:Int),(2:Int)⟩:V),(⟨#[43]⟩:ByteArray),[(⟨(3:Int),(5:Int)⟩:V)]⟩:O8)⟩:cK),(⟨(8:Int),BY,(0:Int),(0:Int),(⟨BY,(0:Int),(0:Int),(0:Int),[]⟩:Me),(⟨(⟨(0:Int),(0:Int)⟩:V),BY,[]⟩:O8)⟩:cK)] ?_;refine B [] fun _ e h=>?_;refine cF ((FL e).sw 0 17) ?_;refine kd [1,2,3] [1,17,2000] ?_;refine B [3] fun _ f h=>?_;refine cA (wX f) ?_;refine B [] fun _ i h=>?_;refine cA (om i) ?_;refine S [2] ?_;refine Jb 0 hn h [] [2000] (fun _ h g=>?_) ?_
 ·refine I [5] ?_ ?_<;>intro _ h
  ·refine I [0,13,0] ?_ ?_<;>intro _ h
   ·refine B [0] fun _ a h=>?_;refine X8 a ?_;refine S [0] ?_;refine K6 (l6 a).2 ?_;refine I [0] ?_ ?_<;>intro _ h
    ·refine B [0] fun _ b h=>?_;refine X8 b ?_;refine S [0] ?_;refine K6 (l6 b).2 ?_;refine I [0] ?_ ?_<;>intro _ h
     ·refine B [0] fun _ c h=>?_;refine X8 c ?_;refine S [0] ?_;refine K6 (l6 c).2 ?_;refine I [0] ?_ ?_<;>intro _ h
      ·refine I [0,13,0] ?_ ?_<;>intro _ h
       ·refine I [0] ?_ ?_<;>intro _ h
        ·refine I [0,13,0] ?_ ?_<;>intro _ h
         ·refine B [0] fun _ d h=>?_;refine cA (Aq d) ?_;exact Sj [0,13,0]
         exact Sj [0]
        exact Sj [0]
       exact Sj [0]
      exact Sj [0]
     exact Sj [0]
    exact Sj [0]
   exact Sj [0]
  exact Sj [0]
 intro j h;exact Sr [7]
def Ep {N a0 a1 r} (h:uC N a0 a1=some r):Spec prog 9 [(2000,GL)] [zO a0,zO a1] (.bool r) [(2000,GL)] []:=by
 refine so func9 ntmps9 fun L hn=>?_;unfold uC at h;refine B [3,2,3] fun _ t h=>?_;refine cA (GD t) ?_;refine I [4] ?_ ?_<;>intro _ h
 ·exact Sr [3,7]
 refine I [1,2,3,13,13,12,4] ?_ ?_<;>intro _ h
 ·exact Sr [3,7]
 refine B [1,3] fun C u h=>?_;refine cA (wX u) ?_;refine S [2,3] ?_;refine O1 fun q=>?_;refine LR e0 hn C (fun l k v=>X7 N l k v) h (fun a v=>[(24,.int (a:Int))]) (fun a v=>[(5,.box (O3 v) 45)]) [1,5,22,23] [2000] [] (fun s=>[]) (fun s=>[(5,.box (O3 s) 45)]) [1,5] [2000] ?_ ?_ ?_
 ·intro _ g a y h _;rw[X7] at h;exact Sj [3,2,4,0,20]
 ·intro _ g a y H o h _ c _;rw[X7] at h;refine S [3,2,4,0,1,2,6,3] ?_;refine W9 c ?_;refine B [5] fun w f h=>?_;refine cA (om f) ?_;refine S [5] ?_;refine MA (AN (U9 c q) ?_);exact le w.1 []
 intro D h;refine B [3] fun x i h=>?_;refine cA (om i) ?_;refine I [2,3,4] ?_ ?_<;>intro _ h
 ·exact Sr [3,7]
 refine S [1,2,3] ?_;refine O1 fun e=>?_;refine LR e0 hn x.1 (fun l k v=>U0 N l k v) h (fun b v=>[(46,.int (b:Int))]) (fun b v=>[(8,.box (O3 v) 45)]) [5,8,9,44,45] [5,9,2000] [] (fun s=>[]) (fun s=>[(8,.box (O3 s) 45)]) [5,8,9] [5,9,2000] ?_ ?_ ?_
 ·intro _ g b z h _;rw[U0] at h;exact Sj [3,2,4,0,20]
 ·intro _ g b z K p h _ d _;rw[U0] at h;refine S [3,2,4,0,1,2] ?_;refine J e0 hn h (fun s=>[]) (fun s=>[(8,.box (O3 s) 45)]) [5,8,9,44,45,46] [5,9,2000] (fun _ h g=>?_) ?_
  ·refine S [6,3] ?_;refine W9 d ?_;refine S [3] ?_;refine J e0 hn h (fun s=>[]) (fun s=>[(8,.box (O3 s) 45)]) [5,8,9,44,45,46] [5,9,2000] (fun _ h g=>?_) ?_
   ·refine I [4] ?_ ?_<;>intro _ h
    ·refine B [5] fun _ j h=>?_;refine cA (om j) ?_;exact je
    exact Sj [1]
   intro F h;exact je
  intro A h;refine S [5] ?_;refine MA (AN (U9 d e) ?_);exact le A []
 intro E h;refine B [3] fun _ m h=>?_;refine cA (om m) ?_;refine S [3,3,2] ?_;refine Jb 4 hn h [] [2000] (fun _ h g=>?_) ?_
 ·refine I [5] ?_ ?_<;>intro _ h
  ·refine I [0] ?_ ?_<;>intro _ h
   ·refine B [0] fun _ n h=>?_;refine cA (Fm n) ?_;exact Sj [0]
   exact Sj [0]
  exact Sj [0]
 intro G h;exact Sr [7]
end
end Go.Proofs.YtibjcppjfkamhaaGreatDoor
