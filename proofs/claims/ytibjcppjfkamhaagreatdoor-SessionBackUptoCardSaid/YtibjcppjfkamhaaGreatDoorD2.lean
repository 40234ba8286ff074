import Derived.Test.YtibjcppjfkamhaaGreatDoorC
set_option linter.unusedVariables false
set_option linter.defProp false
set_option linter.unusedSimpArgs false
namespace Go.Proofs.YtibjcppjfkamhaaGreatDoor
open Go.RowKit Go.Proofs.Tryz
open _root_.And renaming intro->AN
open _root_.Bool renaming and_eq_true->IT
open _root_.ByteArray renaming empty->BY
open _root_.List renaming getElem?_eq_some_iff->Lx,replicate->MC,map->MF,mem_of_getElem?->MI,all_eq_true->MK,length_map->MP,getElem?_set->MQ,getElem?_append_right->MS,length_take->Mk
open _root_.Nat renaming ble->IN,le_refl->It,le_of_ble_eq_true->MR,mul_le_mul_right->Ml
open _root_.Or renaming inl->MA
section
set_option maxHeartbeats 40000000
set_option maxRecDepth 100000
def mf (N:Nat) (l:List V) (r:List V) (h:mn N l=some r):Spec prog 121 [] [.sl 2 (MF eV l)] (.aL 0) [(0,.row 2 (MF eV r) 29)] [0]:=by
  obtain⟨d,h⟩:=iz h;obtain rfl:=oI h;refine Spec.of fI func121 rfl ntmps121 y7 rfl rfl rfl fun f hn=>?_;refine I7 hn ?_;refine j6.seq (j6.seq (j6.ops (jt hn 1 ?_)));refine cd.gh (Gh.nil 3 rfl) ?_;rintro⟨b,c⟩;refine jt hn 1 (cd.done ?_);(repeat (first|refine I7 hn ?_|refine P7 hn ?_|refine R5 hn ?_|refine O9 hn ?_|refine P8 hn ?_|refine N9 hn ?_|refine b7 hn ?_));refine nO (fun a=>?_) (fun a=>?_)
  · have e:l=[]:=by simpa using c a
    subst e;refine I7 hn ?_;refine j6.bK 2 5 2 29 rfl rfl rfl ?_;(repeat (first|refine I7 hn ?_|refine P7 hn ?_|refine R5 hn ?_|refine O9 hn ?_|refine P8 hn ?_|refine N9 hn ?_|refine b7 hn ?_));exact⟨[(0,5)],_,rfl,rfl,⟨rfl,trivial⟩,rfl,rfl,rfl,rfl,rfl⟩
  · (repeat (first|refine I7 hn ?_|refine P7 hn ?_|refine R5 hn ?_|refine O9 hn ?_|refine P8 hn ?_|refine N9 hn ?_|refine b7 hn ?_));refine Exists.intro [] (AN trivial ?_);refine AN (by have:=MR d;simpa using this) ?_;refine Exists.intro (MF eV l) (AN (Q8 _) ?_);(repeat (first|refine I7 hn ?_|refine P7 hn ?_|refine R5 hn ?_|refine O9 hn ?_|refine P8 hn ?_|refine N9 hn ?_|refine b7 hn ?_));exact⟨[(0,7)],_,rfl,rfl,⟨rfl,trivial⟩,rfl,rfl,rfl,rfl,rfl⟩
def uh {N a0 r} (h:ku N a0=some r):Spec prog 92 [] [jN a0] (.aL 0) [(0,F3 r [] 1),(1,.aF)] [0,1]:=by
 refine so func92 ntmps92 fun o hn=>?_;unfold ku at h;refine S [3,3,2,3] ?_;refine O1 fun i=>?_;refine nR 3 203 2 92 ?_;refine gC (gT 203 501 [(1,(2,29))]) ?_;refine LR e0 hn ([]:List Ob) (fun l k v=>lL N l k v) h (fun f v=>[(8,.int (f:Int))]) (fun f v=>[(203,F3 v [] 501)]) [3,6,7] [501] [] (fun s=>[]) (fun s=>[(203,F3 s [] 501)]) [3] [501] ?_ ?_ ?_
 ·intro _ g f m h _;rw[lL] at h;exact Sj [3,2,4,0,20]
 ·intro _ g f m e j h _ a _;rw[lL] at h;refine S [3,2,4,0,1,2,6,3] ?_;refine W9 a ?_;refine B [3] fun b d h=>?_;refine cA ((mf N _ _ d).sw 0 14) ?_;refine S [5,11] ?_;refine Exists.intro [(1,(2,29))] (Exists.intro (hW (⟨e.cls,b⟩:Ob)) (Exists.intro [(14,ia b)] (AN rfl (AN rfl (AN rfl (AN E5 (AN E5 (AN rfl (AN rfl ?_)))))))));refine A [] fun c h=>?_;refine aD c ?_;refine S [5] ?_;refine MA (AN (U9 a i) ?_);exact le (m++[(⟨e.cls,b⟩:Ob)]) [(203,19),(501,719)]
 intro n h;exact Sr [3,7] [(0,203),(1,501)]
def Fi (N:Nat) (l:List Ins) (r:List Ins) (h:u5 N l=some r):Spec prog 122 [] [.sl 5 (MF bc l)] (.aL 0) [(0,.row 5 (MF bc r) 55)] [0]:=by
  obtain⟨d,h⟩:=iz h;obtain rfl:=oI h;refine Spec.of fI func122 rfl ntmps122 y7 rfl rfl rfl fun f hn=>?_;refine I7 hn ?_;refine j6.seq (j6.seq (j6.ops (jt hn 1 ?_)));refine cd.gh (Gh.nil 3 rfl) ?_;rintro⟨b,c⟩;refine jt hn 1 (cd.done ?_);(repeat (first|refine I7 hn ?_|refine P7 hn ?_|refine R5 hn ?_|refine O9 hn ?_|refine P8 hn ?_|refine N9 hn ?_|refine b7 hn ?_));refine nO (fun a=>?_) (fun a=>?_)
  · have e:l=[]:=by simpa using c a
    subst e;refine I7 hn ?_;refine j6.bK 2 5 5 55 rfl rfl rfl ?_;(repeat (first|refine I7 hn ?_|refine P7 hn ?_|refine R5 hn ?_|refine O9 hn ?_|refine P8 hn ?_|refine N9 hn ?_|refine b7 hn ?_));exact⟨[(0,5)],_,rfl,rfl,⟨rfl,trivial⟩,rfl,rfl,rfl,rfl,rfl⟩
  · (repeat (first|refine I7 hn ?_|refine P7 hn ?_|refine R5 hn ?_|refine O9 hn ?_|refine P8 hn ?_|refine N9 hn ?_|refine b7 hn ?_));refine Exists.intro [] (AN trivial ?_);refine AN (by have:=MR d;simpa using this) ?_;refine Exists.intro (MF bc l) (AN (Q8 _) ?_);(repeat (first|refine I7 hn ?_|refine P7 hn ?_|refine R5 hn ?_|refine O9 hn ?_|refine P8 hn ?_|refine N9 hn ?_|refine b7 hn ?_));exact⟨[(0,7)],_,rfl,rfl,⟨rfl,trivial⟩,rfl,rfl,rfl,rfl,rfl⟩
def uX {N a0 r} (h:lM N a0=some r):Spec prog 93 [] [.agg (J2 a0)] (.agg (J2 r)) [] []:=by
 refine so func93 ntmps93 fun b hn=>?_;unfold lM at h;refine B [3,3] fun _ a h=>?_;refine cA ((Fi N _ _ a).sw 0 5) ?_;refine S [3] ?_;refine j6.ax 5 rfl ?_;exact Sr [7]
def jU {N a0 r} (h:gk N a0=some r):Spec prog 60 [] [.agg (Q7 a0)] (.agg [E9 r.a7,.aL 0,.int r.aB]) [(0,F3 r.heap [] 1),(1,.aF)] [0,1]:=by
 refine so func60 ntmps60 fun C hn=>?_;unfold gk at h;refine B [3,2,8] fun _ u h=>?_;refine cA (((uh u).sw 0 11).sw 1 711) ?_;refine S [2,3] ?_;refine O1 fun t=>?_;refine nB 3 0 501 4 81 ?_;refine LR e0 hn ([]:List Cl) (fun l k v=>lK N l k v) h (fun p v=>[(18,.int (p:Int))]) (fun p v=>[(501,oY v)]) [2,3,16,17] [2,3,11,711] [] (fun s=>[]) (fun s=>[(501,oY s)]) [2,3] [2,3,11,711] ?_ ?_ ?_
 ·intro _ g p x h _;rw[lK] at h;exact Sj [3,2,4,0,20]
 ·intro _ g p x a w h _ c _;rw[lK] at h;refine S [3,2,4,0,1,2,6,3] ?_;refine W9 c ?_;refine S [3,2,3] ?_;refine O1 fun i=>?_;refine nR 6 206 5 27 ?_;refine LR e0 hn ([]:List Me) (fun l k v=>lP N l k v) h (fun b v=>[(25,.int (b:Int))]) (fun b v=>[(206,kq v)]) [2,3,5,6,16,17,18,23,24] [2,3,5,11,501,711] [] (fun s=>[]) (fun s=>[(206,kq s)]) [2,3,5,6,16,17,18] [2,3,5,11,501,711] ?_ ?_ ?_
  ·intro _ g b n h _;rw[lP] at h;exact Sj [3,2,4,0,20]
  ·intro _ g b n y q h _ d _;rw[lP] at h;refine S [3,2,4,0,1,2,6,3] ?_;refine W9 d ?_;refine B [5] fun m j h=>?_;refine cA (uX j) ?_;refine bS J2 [m] ?_;refine A [] fun e h=>?_;refine aM e ?_;refine kd [2,3,5,6,16,17,18,23,24,25] [2,3,5,11,33,501,711] ?_;refine S [5] ?_;refine MA (AN (U9 d i) ?_);exact le (n++[m]) [(206,33)]
  intro o h;refine S [3,5,12] ?_;refine bS fu [(⟨a.name,a.aV,a.aI,o⟩:Cl)] ?_;refine A [] fun f h=>?_;refine aM f ?_;refine S [5] ?_;refine MA (AN (U9 c t) ?_);exact le (x++[(⟨a.name,a.aV,a.aI,o⟩:Cl)]) [(501,41)]
 intro z h;refine S [3] ?_;refine j6.ax 501 rfl ?_;exact Sr [7] [(0,11),(1,711)]
def uE (N:Nat) (l:List Ln) (r:List Ln) (h:X3 N l=some r):Spec prog 94 [] [.sl 2 (MF V5 l)] (.aL 0) [(0,.row 2 (MF V5 r) 167)] [0]:=by
  obtain⟨d,h⟩:=iz h;obtain rfl:=oI h;refine Spec.of fI func94 rfl ntmps94 y7 rfl rfl rfl fun f hn=>?_;refine I7 hn ?_;refine j6.seq (j6.seq (j6.ops (jt hn 1 ?_)));refine cd.gh (Gh.nil 3 rfl) ?_;rintro⟨b,c⟩;refine jt hn 1 (cd.done ?_);(repeat (first|refine I7 hn ?_|refine P7 hn ?_|refine R5 hn ?_|refine O9 hn ?_|refine P8 hn ?_|refine N9 hn ?_|refine b7 hn ?_));refine nO (fun a=>?_) (fun a=>?_)
  · have e:l=[]:=by simpa using c a
    subst e;refine I7 hn ?_;refine j6.bK 2 5 2 167 rfl rfl rfl ?_;(repeat (first|refine I7 hn ?_|refine P7 hn ?_|refine R5 hn ?_|refine O9 hn ?_|refine P8 hn ?_|refine N9 hn ?_|refine b7 hn ?_));exact⟨[(0,5)],_,rfl,rfl,⟨rfl,trivial⟩,rfl,rfl,rfl,rfl,rfl⟩
  · (repeat (first|refine I7 hn ?_|refine P7 hn ?_|refine R5 hn ?_|refine O9 hn ?_|refine P8 hn ?_|refine N9 hn ?_|refine b7 hn ?_));refine Exists.intro [] (AN trivial ?_);refine AN (by have:=MR d;simpa using this) ?_;refine Exists.intro (MF V5 l) (AN (Q8 _) ?_);(repeat (first|refine I7 hn ?_|refine P7 hn ?_|refine R5 hn ?_|refine O9 hn ?_|refine P8 hn ?_|refine N9 hn ?_|refine b7 hn ?_));exact⟨[(0,7)],_,rfl,rfl,⟨rfl,trivial⟩,rfl,rfl,rfl,rfl,rfl⟩
def uj {N a0 r} (h:kt N a0=some r):Spec prog 61 [] [ke a0] (.aL 0) [(0,d70 r)] [0]:=by
 refine so func61 ntmps61 fun o hn=>?_;unfold kt at h;refine S [3,3,2,3] ?_;refine O1 fun i=>?_;refine nR 3 203 6 159 ?_;refine LR e0 hn ([]:List Ce) (fun l k v=>lN N l k v) h (fun f v=>[(8,.int (f:Int))]) (fun f v=>[(203,d70 v)]) [3,6,7] [] [] (fun s=>[]) (fun s=>[(203,d70 s)]) [3] [] ?_ ?_ ?_
 ·intro _ g f m h _;rw[lN] at h;exact Sj [3,2,4,0,20]
 ·intro _ g f m a j h _ b _;rw[lN] at h;refine S [3,2,4,0,1,2,6,3] ?_;refine W9 b ?_;refine B [3] fun e d h=>?_;refine cA ((uE N _ _ d).sw 0 14) ?_;refine S [5] ?_;refine bS hU [(⟨a.site,a.aB,a.many,e⟩:Ce)] ?_;refine A [] fun c h=>?_;refine aM c ?_;refine S [5] ?_;refine MA (AN (U9 b i) ?_);exact le (m++[(⟨a.site,a.aB,a.many,e⟩:Ce)]) [(203,19)]
 intro n h;exact Sr [3,7] [(0,203)]
def BR {N a0 r} (h:pS N a0=some r):Spec prog 62 [] [jA a0] (.aL 0) [(0,zE r)] [0]:=by
 refine so func62 ntmps62 fun o hn=>?_;unfold pS at h;refine S [3,3,2,3] ?_;refine O1 fun i=>?_;refine nR 3 203 4 162 ?_;refine LR e0 hn ([]:List Tl) (fun l k v=>lO N l k v) h (fun f v=>[(8,.int (f:Int))]) (fun f v=>[(203,zE v)]) [3,6,7] [] [] (fun s=>[]) (fun s=>[(203,zE s)]) [3] [] ?_ ?_ ?_
 ·intro _ g f m h _;rw[lO] at h;exact Sj [3,2,4,0,20]
 ·intro _ g f m e j h _ a _;rw[lO] at h;refine S [3,2,4,0,1,2,6,3] ?_;refine W9 a ?_;refine B [3] fun d c h=>?_;refine cA ((uE N _ _ c).sw 0 14) ?_;refine S [5] ?_;refine bS hX [(⟨e.site,d⟩:Tl)] ?_;refine A [] fun b h=>?_;refine aM b ?_;refine S [5] ?_;refine MA (AN (U9 a i) ?_);exact le (m++[(⟨e.site,d⟩:Tl)]) [(203,19)]
 intro n h;exact Sr [3,7] [(0,203)]
def GK {N a0 r} (h:sG N a0=some r):Spec prog 60 [] [.agg (Q7 a0)] (.agg [.aL 0,jN r.heap,.int r.aB]) [(0,oY r.a7)] [0]:=by
 refine so func60 ntmps60 fun C hn=>?_;unfold sG at h;refine B [3,2,8] fun _ u h=>?_;refine cA (((uh u).sw 0 11).sw 1 711) ?_;refine S [2,3] ?_;refine O1 fun t=>?_;refine nB 3 0 501 4 81 ?_;refine LR e0 hn ([]:List Cl) (fun l k v=>lA N l k v) h (fun p v=>[(18,.int (p:Int))]) (fun p v=>[(501,oY v)]) [2,3,16,17] [2,3,11,711] [] (fun s=>[]) (fun s=>[(501,oY s)]) [2,3] [2,3,11,711] ?_ ?_ ?_
 ·intro _ g p x h _;rw[lA] at h;exact Sj [3,2,4,0,20]
 ·intro _ g p x a w h _ c _;rw[lA] at h;refine S [3,2,4,0,1,2,6,3] ?_;refine W9 c ?_;refine S [3,2,3] ?_;refine O1 fun i=>?_;refine nR 6 206 5 27 ?_;refine LR e0 hn ([]:List Me) (fun l k v=>lB N l k v) h (fun b v=>[(25,.int (b:Int))]) (fun b v=>[(206,kq v)]) [2,3,5,6,16,17,18,23,24] [2,3,5,11,501,711] [] (fun s=>[]) (fun s=>[(206,kq s)]) [2,3,5,6,16,17,18] [2,3,5,11,501,711] ?_ ?_ ?_
  ·intro _ g b n h _;rw[lB] at h;exact Sj [3,2,4,0,20]
  ·intro _ g b n y q h _ d _;rw[lB] at h;refine S [3,2,4,0,1,2,6,3] ?_;refine W9 d ?_;refine B [5] fun m j h=>?_;refine cA (uX j) ?_;refine bS J2 [m] ?_;refine A [] fun e h=>?_;refine aM e ?_;refine kd [2,3,5,6,16,17,18,23,24,25] [2,3,5,11,33,501,711] ?_;refine S [5] ?_;refine MA (AN (U9 d i) ?_);exact le (n++[m]) [(206,33)]
  intro o h;refine S [3,5,12] ?_;refine bS fu [(⟨a.name,a.aV,a.aI,o⟩:Cl)] ?_;refine A [] fun f h=>?_;refine aM f ?_;refine S [5] ?_;refine MA (AN (U9 c t) ?_);exact le (x++[(⟨a.name,a.aV,a.aI,o⟩:Cl)]) [(501,41)]
 intro z h;refine S [3] ?_;refine j6.b9 11 rfl ?_;exact Sr [7] [(0,501)]
def uq {N a0 a1 a2 r} (h:jY N a0 a1 a2=some r):Spec prog 98 [] [jN a0,.int a1,.int a2] (.ab [.aL 0,.agg (eV r.2.1),.int r.2.2]) [(0,F3 r.1 [] 1),(1,.aF)] [0,1]:=by
 refine so func98 ntmps98 fun d hn=>?_;unfold jY at h;refine I [3,2,3,13,4] ?_ ?_<;>intro _ h
 ·refine S [3] ?_;refine nR 6 206 2 92 ?_;refine gC (gT 206 501 [(1,(2,29))]) ?_;exact Sr [7] [(0,206),(1,501)]
 refine B [1,2,8] fun _ c h=>?_;refine cA (((uh c).sw 0 14).sw 1 714) ?_;refine A [] fun a h=>?_;refine mN (enc:=eV) (x:=(⟨(0:Int),(0:Int)⟩:V)) a aT ?_;refine S [11] ?_;refine Exists.intro [(1,(2,29))] (Exists.intro (hW (⟨a1,(MC (max a2 (0:Int)).toNat (⟨(0:Int),(0:Int)⟩:V))⟩:Ob)) (Exists.intro [(18,ia (MC (max a2 (0:Int)).toNat (⟨(0:Int),(0:Int)⟩:V)))] (AN rfl (AN rfl (AN rfl (AN E5 (AN E5 (AN rfl (AN rfl ?_)))))))));refine A [] fun b h=>?_;refine aD b ?_;exact Sr [13,7] [(0,21),(1,721)]
def q9 {N a0 fr b0 r} (h:O4 N a0 fr b0=some r):Spec prog 227 [(1016,.box [.ep 1019 b0 10 0] 289),(1019,p9 fr [] 1021)] [.agg (eV a0),.ptr 1016 0] (.ab []) [(1016,.box [.ep 1019 b0 10 0] 289),(1019,p9 r [] 21),(21,.aF)] [21]:=by
 refine so func227 ntmps227 fun d hn=>?_;unfold O4 at h;refine B [15,3] fun b a h=>?_;refine gC (gD 1019 501 502 b0 8 a) ?_;refine kd [1,2] [2,501,502,1016,1019] ?_;refine S [8] ?_;refine hD a ?_;refine bS eV [a0] ?_;refine A [] fun c h=>?_;refine aM c ?_;refine hS a ?_;refine gE (gA 1019 10 503 b0 8 a (⟨b.aK,b.aN,b.aY,b.code,b.aU,b.args,b.a8,(b.aA++[a0]),b.aJ⟩:j3)) ?_;exact Sr [14] [(21,503)]
def oq {N a0 a1 a2 r} (h:pJ N a0 a1 a2=some r):Spec prog 228 [] [jN a0,.agg (eV a1),.int a2] (.agg (eV r)) [] []:=by
 refine so func228 ntmps228 fun e hn=>?_;unfold pJ at h;refine S [3,2,2] ?_;refine Jb 36 hn h [0,2,4,6] [4,6] (fun _ h g=>?_) ?_
 ·refine I [5] ?_ ?_<;>intro _ h
  ·exact Sj [0]
  refine I [0] ?_ ?_<;>intro _ h
  ·exact Sj [0]
  refine I [0,13,0] ?_ ?_<;>intro _ h
  ·exact Sj [0]
  refine I [0] ?_ ?_<;>intro _ h
  ·exact Sj [0]
  refine B [0] fun _ c h=>?_;refine H5 c ?_;exact Sj [0,13,0]
 intro d h;refine I [4] ?_ ?_<;>intro _ h
 ·exact Sr [3,7]
 refine B [1,3] fun _ a h=>?_;refine H5 a ?_;refine B [] fun _ b h=>?_;refine H5 b ?_;exact Sr [7]
def A5 {N a0 a1 a2 a3 r} (h:jS N a0 a1 a2 a3=some r) {j:Nat} {c:List AV} {k:Nat}:Spec prog 229 [(1000,mB a0 (.fn j [.fp c]) (.fn k []) 1001 1003),(1001,.box [E9 a0.w.a7,.aL 1002,.int a0.w.aB] 40),(1002,F3 a0.w.heap [] 1004)] [.ptr 1000 0,.agg (eV a1),.int a2,.agg (eV a3)] (.ab []) [(1000,mB r (.fn j [.fp c]) (.fn k []) 1001 1003),(1001,.box [E9 a0.w.a7,.aL 1002,.int a0.w.aB] 40),(1002,F3 r.w.heap [] 3),(3,.aF)] [3]:=by
 refine so func229 ntmps229 fun p hn=>?_;unfold jS at h;refine S [15,3,2] ?_;refine J e0 hn h (fun s=>[(40,.bool s)]) (fun s=>[(501,.aF),(1002,F3 a0.w.heap [] 501)]) [0,2,5,7] [5,7,1000,1001] (fun _ h g=>?_) ?_
 ·rcases qP h with⟨b,h⟩|⟨o,b,h⟩
  ·refine kd [0,2,5,7] [5,7,1000,1001,1002] ?_;refine I [8] ?_ ?_<;>intro _ h
   ·refine I [0,13,0] ?_ ?_<;>intro _ h
    ·cases h
    refine S [0] ?_;refine gE (gS 1002 501) ?_;exact je
   refine S [0] ?_;refine gE (gS 1002 502) ?_;exact je [(501,502)]
  refine gC (gD 1002 503 504 a1.n.toNat 1 b) ?_;refine kd [0,2,5,7] [5,7,503,504,1000,1001,1002] ?_;refine I [8] ?_ ?_<;>intro _ h
  ·refine I [0,13,0] ?_ ?_<;>intro _ h
   ·refine B [0] fun _ e h=>?_;refine iD e ?_;refine S [0] ?_;refine hD b ?_;refine S [0,13,0] ?_;refine gE (gB 1002 503 505 a1.n.toNat 1 b) ?_;exact je [(501,505)]
   refine S [0] ?_;refine gE (gB 1002 503 506 a1.n.toNat 1 b) ?_;exact je [(501,506)]
  refine S [0] ?_;refine gE (gB 1002 503 507 a1.n.toNat 1 b) ?_;exact je [(501,507)]
 intro m h;refine J e0 hn h (fun s=>[]) (fun s=>[(508,.aF),(1002,F3 s [] 508)]) [0] [1000,1001] (fun _ h g=>?_) ?_
 ·refine I [4] ?_ ?_<;>intro _ h
  ·rcases qP h with⟨a,h⟩|⟨i,a,h⟩
   ·cases h
   refine gC (gD 1002 508 509 a1.n.toNat 1 a) ?_;refine kd [0,2,5,7] [5,7,508,509,1000,1001,1002] ?_;refine B [8] fun _ f h=>?_;refine iD f ?_;refine hD a ?_;refine B [] fun _ d h=>?_;refine X8 d ?_;refine sM (l6 d).2 a3 ?_;refine gE (gA 1002 508 510 a1.n.toNat 1 a (⟨i.cls,(i.aI.set a2.toNat a3)⟩:Ob)) ?_;exact je [(508,510)]
  exact Sj [1] [(508,501)]
 intro l h;exact Sr [14] [(3,508)]
def BX {N a0 a1 r} (h:pY N a0 a1=some r):Spec prog 127 [] [.int a0,.int a1] (.ab [.agg (ed r.1),.bool r.2]) [] []:=by
 refine so func127 ntmps127 fun a hn=>?_;unfold pY at h;exact Sr [3,3,7]
def zr {N a0 a1 r} (h:Q6 N a0 a1=some r) {e:Nat} {c:List AV} {f:Nat}:Spec prog 197 [(1000,mB a0 (.fn e [.ptr 1007 0,.fp c]) (.fn f []) 1001 1003),(1003,p9 a0.aG [] 1005)] [.ptr 1000 0,.agg (eV a1)] (.ab []) [(1000,mB r (.fn e [.ptr 1007 0,.fp c]) (.fn f []) 1001 1003),(1003,p9 r.aG [] 5),(5,.aF)] [5]:=by
 refine so func197 ntmps197 fun i hn=>?_;unfold Q6 at h;refine I [15,3,2,3,13,4] ?_ ?_<;>intro _ h
 ·refine S [3] ?_;refine gC (gS 1003 501) ?_;exact Sr [7] [(5,501)]
 refine B [1,2,8,13,12] fun b a h=>?_;refine iD a ?_;refine gC (gD 1003 502 503 ((wr ((a0.aG.length:Int)-(1:Int))).toNat) 8 (l6 a).2) ?_;refine kd [0,3,4] [3,502,503,1000,1003] ?_;refine S [8] ?_;refine hD (l6 a).2 ?_;refine bS eV [a1] ?_;refine A [] fun d h=>?_;refine aM d ?_;refine hS (l6 a).2 ?_;refine gE (gA 1003 33 504 ((wr ((a0.aG.length:Int)-(1:Int))).toNat) 8 ((l6 a).2) (⟨b.aK,b.aN,b.aY,b.code,b.aU,b.args,b.a8,(b.aA++[a1]),b.aJ⟩:j3)) ?_;exact Sr [14] [(5,504)]
def zZ {N a0 g1 r} (h:I9 N a0 g1=some r) {m:Nat} {a:List AV} (f:∀d n,g1 d=some n->Spec prog m [] [.agg (V5 d),.fp a] (.bool n) [] []):Spec prog 172 [] [EG a0,.fn m [.fp a]] (.int r) [] []:=by
 refine so func172 ntmps172 fun p hn=>?_;unfold I9 at h;refine S [3,2,3] ?_;refine O1 fun i=>?_;refine LR e1 hn () (fun l k v=>C8 N g1 l k) h (fun e v=>[(8,.int (e:Int))]) (fun e v=>[]) [0,1,7] [] [] (fun s=>[]) (fun s=>[]) [] [] ?_ ?_ ?_
 ·intro _ g e _ h _;rw[C8] at h;exact Sj [3,2,4,0,20]
 ·intro _ g e _ o j h _ c _;rw[C8] at h;refine S [3,2,4,0,1,2,6,3,3] ?_;refine W9 c ?_;refine B [] fun _ b h=>?_;refine cA (f _ _ b) ?_;refine I [4] ?_ ?_<;>intro _ h
  ·exact Sr [3,7]
  refine S [1,5] ?_;refine MA (AN (U9 c i) ?_);exact le () []
 rintro⟨⟩ h;exact Sr [3,7]
def Ef {N a0 g1 r} (h:R9 N a0 g1=some r) {e:Nat} {a:List AV} (c:∀b f,g1 b=some f->Spec prog e [] [.agg (V5 b),.fp a] (.bool f) [] []):Spec prog 204 [] [EG a0,.fn e [.fp a]] (.bool r) [] []:=by
 refine so func204 ntmps204 fun i hn=>?_;unfold R9 at h;refine B [3,3] fun _ d h=>?_;refine cA (zZ d c) ?_;exact Sr [7]
def R4 (t:Ce):List AV:=[.int t.site.cls,.str t.site.name,.int t.site.pos,.int t.aB,.bool t.many]
def dH (t:Ce):List AV×List (List AV):=(R4 t,t.lines.map V5)
def Cz (l:List Ce):dy 2 (l.map dH)=l.map hU:=by simp[dy,dH,R4,hU]
def Eh {N a0 g1 r} (h:U4 N a0 g1=some r) {m:Nat} {a:List AV} (f:∀d n,g1 d=some n->Spec prog m [] [.agg (hX d),.fp a] (.bool n) [] []):Spec prog 170 [] [jA a0,.fn m [.fp a]] (.int r) [] []:=by
 refine so func170 ntmps170 fun p hn=>?_;unfold U4 at h;refine S [3,2,3] ?_;refine O1 fun i=>?_;refine LR e1 hn () (fun l k v=>F4 N g1 l k) h (fun e v=>[(8,.int (e:Int))]) (fun e v=>[]) [0,1,7] [] [] (fun s=>[]) (fun s=>[]) [] [] ?_ ?_ ?_
 ·intro _ g e _ h _;rw[F4] at h;exact Sj [3,2,4,0,20]
 ·intro _ g e _ o j h _ c _;rw[F4] at h;refine S [3,2,4,0,1,2,6,3,3] ?_;refine W9 c ?_;refine B [] fun _ b h=>?_;refine cA (f _ _ b) ?_;refine I [4] ?_ ?_<;>intro _ h
  ·exact Sr [3,7]
  refine S [1,5] ?_;refine MA (AN (U9 c i) ?_);exact le () []
 rintro⟨⟩ h;exact Sr [3,7]
def GZ {N a0 b0 r} (h:rz N a0 b0=some r):Spec prog 171 [] [.agg (hX a0),.fp (bW b0)] (.bool r) [] []:=by
 refine so func171 ntmps171 fun a hn=>?_;unfold rz at h;exact Sr [3,3,7]
def IX (N:Nat) {l:List Ln} (h:Fit l.length 16):X3 N l=some l:=by
  unfold X3;rw[show IN (l.length*16) 140737488355328=true from Nat.ble_eq_true_of_le h];rfl
theorem Dl (N:Nat) (c:Int):∀(l:List Ln) (k:Nat),C8 N (fun x=>sE N x c) l k=some (match l.findIdx? (fun t=>decide (t.cls=c)) with|some i=>.ret ((k+i:Nat):Int)|none=>.next ())
  |[],k=>rfl
  |x::l,k=>by
    rw[C8,nV,Dl N c l (k+1)];unfold sE;by_cases e:x.cls=c
    · simp[e]
    · cases l.findIdx? (fun t=>decide (t.cls=c))<;>simp[e];omega
def Lp (N:Nat) (c:Int) (l:List Ln):I9 N l (fun x=>sE N x c)=some (fw (fun t=>decide (t.cls=c)) l):=by
  unfold I9 fw;rw[Dl];cases l.findIdx? (fun t=>decide (t.cls=c))<;>simp
def FU {N a0 r} (h:pA N a0=some r):Spec prog 176 [] [.fp (J2 a0)] (.int r) [] []:=by
 refine so func176 ntmps176 fun a hn=>?_;unfold pA at h;refine S [3,2] ?_;refine kd [0] [] ?_;exact Sr [8,12,12,12,13,12,7]
def Gb {N a0 a1 b0 b1 r} (h:pG N a0 a1 b0 b1=some r):Spec prog 132 [] [.int a0,.int a1,.fp [EP b0],.fp (Q7 b1)] (.ab [.agg (ed r.1),.bool r.2]) [] []:=by
 refine so func132 ntmps132 fun m hn=>?_;unfold pG at h;refine S [3,2,3] ?_;refine O1 fun e=>?_;refine LR e1 hn () (fun l k v=>lE N a0 a1 b1 l k) h (fun d v=>[(12,.int (d:Int))]) (fun d v=>[]) [0,1,3,6,10,11] [6] [] (fun s=>[]) (fun s=>[]) [6] [6] ?_ ?_ ?_
 ·intro _ g d _ h _;rw[lE] at h;exact Sj [3,2,4,0,20]
 ·intro _ g d _ j f h _ c _;rw[lE] at h;refine S [3,2,4,0,1,2,6,3] ?_;refine W9 c ?_;refine S [2] ?_;refine Jb 41 hn h [0,1,3,6,9,10,11,12] [6,9] (fun _ h g=>?_) ?_
  ·refine kd [0,1,3,6,9,10,11,12] [6,9] ?_;refine I [8] ?_ ?_<;>intro _ h
   ·refine B [0] fun _ a h=>?_;refine H5 a ?_;refine B [0] fun _ b h=>?_;refine H5 b ?_;refine I [0] ?_ ?_<;>intro _ h
    ·exact Sj [0]
    exact Sj [0]
   exact Sj [0]
  intro i h;refine I [4] ?_ ?_<;>intro _ h
  ·exact Sr [3,7]
  refine S [1,5] ?_;refine MA (AN (U9 c e) ?_);exact le () []
 rintro⟨⟩ h;exact Sr [3,7]
def Er {N a0 a1 r} (h:u9 N a0 a1=some r):Spec prog 80 [(1000,.box [.np 1000,.aL 1001] 99),(1001,w5 a0)] [.ptr 1000 0,.str a1] (.ab [.int r.1,.dr r.2.1]) [(1000,.box [.np 1000,.aL 2] 99),(2,w5 r.2.2),(1001,.aF)] [2]:=by
 refine so func80 ntmps80 fun b hn=>?_;unfold u9 at h;refine rB 1000 1 1001 320 ?_;refine S [3,3] ?_;refine cA (BH 1000 320) ?_;refine A [3] fun a h=>?_;refine Hp a ?_;exact Sr [3,18,7] [(2,14)]
def Es {N a0 a1 r} (h:uA N a0 a1=some r):Spec prog 81 [(1000,.box [.np 1000,.aL 1001] 99),(1001,w5 a0)] [.ptr 1000 0,.ik .u8 a1] (.dr r.1) [(1000,.box [.np 1000,.aL 2] 99),(2,w5 r.2),(1001,.aF)] [2]:=by
 refine so func81 ntmps81 fun b hn=>?_;unfold uA at h;refine rB 1000 1 1001 320 ?_;refine S [3,3] ?_;refine cA (BH 1000 320) ?_;refine S [3] ?_;refine bS (oF .u8) [a1] ?_;refine A [] fun a h=>?_;refine aM a ?_;exact Sr [3,7] [(2,14)]
def uB {N a0 a1 r} (h:kv N a0 a1=some r):Spec prog 46 [(1000,.box [.np 1000,.aL 1001] 99),(1001,w5 a0)] [.ptr 1000 0,.str a1] (.ab []) [(1000,.box [.np 1000,.aL 2] 99),(2,w5 r),(1001,.aF)] [2]:=by
 refine so func46 ntmps46 fun c hn=>?_;unfold kv at h;refine rB 1000 1 1001 320 ?_;refine B [15,3] fun _ a h=>?_;refine cA (((Er a).sw 1001 320).sw 2 501) ?_;refine B [5] fun _ b h=>?_;refine cA (((Es b).sw 1001 501).sw 2 502) ?_;exact Sr [14] [(2,502)]
def ma {N a0 a1 r} (h:U8 N a0 a1=some r):Spec prog 45 [(1000,.box [.np 1000,.aL 1001] 99),(1001,w5 a0),(2000,GL)] [.ptr 1000 0,s3 a1] (.ab []) [(1000,.box [.np 1000,.aL 2] 99),(2,w5 r),(1001,.aF),(2000,GL)] [2]:=by
 refine so func45 ntmps45 fun o hn=>?_;unfold U8 at h;refine rB 1000 1 1001 320 ?_;refine S [15,3] ?_;refine O1 fun e=>?_;refine LR e0 hn a0 (fun l k v=>Y7 N l k v) h (fun d v=>[(8,.int (d:Int))]) (fun d v=>[(320,w5 v)]) [0,6,7] [1000,1001,2000] [] (fun s=>[]) (fun s=>[(320,w5 s)]) [0] [1000,1001,2000] ?_ ?_ ?_
 ·intro _ g d j h _;rw[Y7] at h;exact Sj [3,2,4,0,20]
 ·intro _ g d j m i h _ a _;rw[Y7] at h;refine S [3,2,4,0,1,2,6,3] ?_;refine W9 a ?_;refine B [5] fun _ b h=>?_;refine cA (zq N _ _ b) ?_;refine B [] fun f c h=>?_;refine cA (((uB c).sw 1001 320).sw 2 501) ?_;refine S [5] ?_;refine MA (AN (U9 a e) ?_);exact le f [(320,501)]
 intro n h;exact Sr [14] [(2,320)]
def FZ {N a0 a1 r} (h:rE N a0 a1=some r):Spec prog 47 [(1000,.box [.np 1000,.aL 1001] 99),(1001,w5 a0),(2000,GL)] [.ptr 1000 0,.fp (J2 a1)] (.ab []) [(1000,.box [.np 1000,.aL 2] 99),(2,w5 r),(1001,.aF),(2000,GL)] [2]:=by
 refine so func47 ntmps47 fun w hn=>?_;unfold rE at h;refine rB 1000 1 1001 320 ?_;refine B [15,3] fun _ m h=>?_;refine cA (((uB m).sw 1001 320).sw 2 501) ?_;refine S [2] ?_;refine kd [0,1] [501,1000,1001,2000] ?_;refine S [8,13] ?_;refine bS fN [a1.args,a1.a8,a1.aX,(a1.code.length:Int)] ?_;refine B [] fun p n h=>?_;refine cF (((ma n).sw 1001 501).sw 2 502) ?_;refine kd [0,1] [502,1000,1001,2000] ?_;refine S [3] ?_;refine O1 fun j=>?_;refine LR e0 hn p (fun l k v=>V6 N l k v) h (fun f v=>[(37,.int (f:Int))]) (fun f v=>[(502,w5 v)]) [0,35,36] [1000,1001,2000] [] (fun s=>[]) (fun s=>[(502,w5 s)]) [0] [1000,1001,2000] ?_ ?_ ?_
 ·intro _ g f u h _;rw[V6] at h;exact Sj [3,2,4,0,20]
 ·intro _ g f u e i h _ b _;rw[V6] at h;refine S [3,2,4,0,1,2] ?_;refine J e0 hn h (fun s=>[]) (fun s=>[(504,w5 s),(1000,.box [.np 1000,.aL 504] 99)]) [0,35,36,37] [1001,2000] (fun _ h g=>?_) ?_
  ·refine S [6,3] ?_;refine W9 b ?_;refine S [3] ?_;refine bS fN [e.op,e.a] ?_;refine B [] fun _ c h=>?_;refine cF (((ma c).sw 1001 502).sw 2 503) ?_;refine S [3] ?_;refine J e0 hn h (fun s=>[]) (fun s=>[(504,w5 s),(1000,.box [.np 1000,.aL 504] 99)]) [0,35,36,37] [1001,2000] (fun _ h g=>?_) ?_
   ·refine I [4] ?_ ?_<;>intro _ h
    ·refine kd [0,5,35,36,37] [5,503,1000,1001,2000] ?_;refine B [5] fun _ d h=>?_;refine cA (((uB d).sw 1001 503).sw 2 504) ?_;exact je
    exact Sj [1] [(504,503)]
   intro t h;exact je
  intro o h;refine S [5] ?_;refine MA (AN (U9 b j) ?_);exact le o [(502,504)]
 intro q h;exact Sr [14] [(2,502)]
def uD {N a0 r} (h:Q5 N a0=some r):Spec prog 85 [(1000,.box (V8 a0) 107),(2000,GL)] [.ptr 1000 0] (.str r.1) [(1000,.box (V8 r.2) 107),(2000,GL)] []:=by
 refine so func85 ntmps85 fun c hn=>?_;unfold Q5 at h;refine B [3,3] fun _ a h=>?_;refine cA (GY N _ _ _ a) ?_;refine S [2,2] ?_;refine Jb 20 hn h [0,3,4] [1000,2000] (fun _ h g=>?_) ?_
 ·refine I [5] ?_ ?_<;>intro _ h
  ·exact Sj [0]
  exact Sj [0]
 intro b h;refine I [4] ?_ ?_<;>intro _ h
 ·exact Sr [3,3,7]
 exact Sr [1,3,3,7]
def M0 {N a0 r} (h:q8 N a0=some r):Spec prog 83 [(1000,.box (V8 a0) 107),(2000,GL)] [.ptr 1000 0] (.int r.1) [(1000,.box (V8 r.2) 107),(2000,GL)] []:=by
 refine so func83 ntmps83 fun f hn=>?_;unfold q8 at h;refine B [3,3] fun _ a h=>?_;refine cA (uD a) ?_;refine B [3] fun _ b h=>?_;refine cA (strconv_Atoi_ok N _ _ b) ?_;refine S [2,2] ?_;refine Jb 20 hn h [0,4] [1000,2000] (fun _ h g=>?_) ?_
 ·refine I [5,10] ?_ ?_<;>intro _ h
  ·exact Sj [0]
  refine B [0] fun _ c h=>?_;refine cA (zq N _ _ c) ?_;exact Sj [0]
 intro e h;refine J e0 hn h (fun s=>[]) (fun s=>[(1000,.box (V8 s) 107)]) [0,4] [2000] (fun _ h g=>?_) ?_
 ·refine I [4] ?_ ?_<;>intro _ h
  ·exact Sj [5]
  exact Sj [1]
 intro d h;exact Sr [3,7]
def r9 {N a0 a1 r} (h:L8 N a0 a1=some r):Spec prog 84 [(1000,.box (V8 a0) 107),(2000,GL)] [.ptr 1000 0,.int a1] (.int r.1) [(1000,.box (V8 r.2) 107),(2000,GL)] []:=by
 refine so func84 ntmps84 fun c hn=>?_;unfold L8 at h;refine B [3,3] fun _ a h=>?_;refine cA (M0 a) ?_;refine S [2,2] ?_;refine Jb 14 hn h [0,5] [1000,2000] (fun _ h g=>?_) ?_
 ·refine I [5] ?_ ?_<;>intro _ h
  ·exact Sj [0]
  exact Sj [0]
 intro b h;refine I [4] ?_ ?_<;>intro _ h
 ·exact Sr [3,3,7]
 exact Sr [1,3,7]
def Fa {N a0 r} (h:mc N a0=some r):Spec prog 86 [(1000,.box (V8 a0) 107),(2000,GL)] [.ptr 1000 0] (.agg (J2 r.1)) [(1000,.box (V8 r.2) 107),(2000,GL)] []:=by
 refine so func86 ntmps86 fun F hn=>?_;unfold mc at h;refine B [3,3] fun _ q h=>?_;refine cA (uD q) ?_;refine B [] fun _ t h=>?_;refine cA (M0 t) ?_;refine B [] fun _ u h=>?_;refine cA (M0 u) ?_;refine B [] fun _ w h=>?_;refine cA (M0 w) ?_;refine B [2,3] fun C i h=>?_;refine cA (r9 i) ?_;refine nB 3 4 501 5 55 ?_;refine j6.cc 15 rfl (fun c=>?_);refine LU e0 hn (C.2,([]:List Ins)) (fun l k v=>O7 N l k v.1 v.2) h (fun a v=>[(16,.int (a:Int))]) (fun a v=>[(501,cU v.2),(1000,.box (V8 v.1) 107)]) [0,2,3,15] [2,3,2000] [] (fun s=>[]) (fun s=>[(501,cU s.2),(1000,.box (V8 s.1) 107)]) [0,2,3] [2,3,2000] ?_ ?_ ?_
 ·rintro _ g a ⟨x,o⟩ h _;rw[O7] at h;exact Sj [3,2,4,0,20]
 ·rintro _ g a ⟨x,o⟩ z h b _;rw[O7] at h;refine B [3,2,4,0,1,2,6,3] fun d j h=>?_;refine cA (M0 j) ?_;refine B [] fun e m h=>?_;refine cA (M0 m) ?_;refine S [2,3] ?_;refine J e0 hn h (fun s=>[]) (fun s=>[(4,.box [.int d.1,.int e.1,.int (0:Int),.int (0:Int),.str s.2] 55),(1000,.box (V8 s.1) 107)]) [0,2,3,4,15,16] [2,3,501,2000] (fun _ h g=>?_) ?_
  ·refine I [4] ?_ ?_<;>intro _ h
   ·refine B [5] fun _ n h=>?_;refine cA (uD n) ?_;exact je
   exact Sj [1]
  rintro⟨y,p⟩ h;refine S [5] ?_;refine bS bc [(⟨d.1,e.1,(0:Int),(0:Int),p⟩:Ins)] ?_;refine A [] fun f h=>?_;refine aM f ?_;refine S [5] ?_;refine MA (AN (mA b c) ?_);exact le (y,(o++[(⟨d.1,e.1,(0:Int),(0:Int),p⟩:Ins)])) [(501,33)]
 rintro⟨D,E⟩ h;refine S [3] ?_;refine j6.ax 501 rfl ?_;exact Sr [7]
end
end Go.Proofs.YtibjcppjfkamhaaGreatDoor
