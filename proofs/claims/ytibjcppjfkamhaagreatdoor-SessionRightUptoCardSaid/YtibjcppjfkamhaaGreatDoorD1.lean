import Derived.Test.YtibjcppjfkamhaaGreatDoorC
set_option linter.unusedVariables false
set_option linter.defProp false
set_option linter.unusedSimpArgs false
namespace Go.Proofs.YtibjcppjfkamhaaGreatDoor
open Go.RowKit Go.Proofs.Tryz
open _root_.And renaming intro->AN
open _root_.Bool renaming and_eq_true->IT
open _root_.ByteArray renaming empty->BY
open _root_.List renaming getElem?_eq_some_iff->ME,replicate->MI,map->MJ,mem_of_getElem?->MP,all_eq_true->MR,length_map->MW,getElem?_set->MY,getElem?_append_right->Ma,length_take->Mq
open _root_.Nat renaming ble->IN,le_refl->It,le_of_ble_eq_true->MZ,mul_le_mul_right->Mt
open _root_.Or renaming inl->MF
section
set_option maxHeartbeats 40000000
set_option maxRecDepth 100000
def mf (N:Nat) (l:List V) (r:List V) (h:mr N l=some r):Spec prog 121 [] [.sl 2 (MJ eV l)] (.aK 0) [(0,.row 2 (MJ eV r) 29)] [0]:=by
  obtain⟨d,h⟩:=j7 h;obtain rfl:=oI h;refine Spec.of eg func121 rfl ntmps121 C8 rfl rfl rfl fun f hn=>?_;refine H6 hn ?_;refine j6.seq (j6.seq (j6.ops (jv hn 1 ?_)));refine cY.gh (Gh.nil 3 rfl) ?_;rintro⟨b,c⟩;refine jv hn 1 (cY.done ?_);(repeat (first|refine H6 hn ?_|refine M4 hn ?_|refine O1 hn ?_|refine M3 hn ?_|refine M0 hn ?_|refine K7 hn ?_|refine ao hn ?_));refine nq (fun a=>?_) (fun a=>?_)
  · have e:l=[]:=by simpa using c a
    subst e;refine H6 hn ?_;refine j6.bG 2 5 2 29 rfl rfl rfl ?_;(repeat (first|refine H6 hn ?_|refine M4 hn ?_|refine O1 hn ?_|refine M3 hn ?_|refine M0 hn ?_|refine K7 hn ?_|refine ao hn ?_));exact⟨[(0,5)],_,rfl,rfl,⟨rfl,trivial⟩,rfl,rfl,rfl,rfl,rfl⟩
  · (repeat (first|refine H6 hn ?_|refine M4 hn ?_|refine O1 hn ?_|refine M3 hn ?_|refine M0 hn ?_|refine K7 hn ?_|refine ao hn ?_));refine Exists.intro [] (AN trivial ?_);refine AN (by have:=MZ d;simpa using this) ?_;refine Exists.intro (MJ eV l) (AN (O4 _) ?_);(repeat (first|refine H6 hn ?_|refine M4 hn ?_|refine O1 hn ?_|refine M3 hn ?_|refine M0 hn ?_|refine K7 hn ?_|refine ao hn ?_));exact⟨[(0,7)],_,rfl,rfl,⟨rfl,trivial⟩,rfl,rfl,rfl,rfl,rfl⟩
def ue {N a0 r} (h:lU N a0=some r):Spec prog 92 [] [jO a0] (.aK 0) [(0,Q8 r [] 1),(1,.aF)] [0,1]:=by
 refine so func92 ntmps92 fun o hn=>?_;unfold lU at h;refine S [3,3,2,3] ?_;refine J2 fun i=>?_;refine nR 3 203 2 92 ?_;refine gC (gT 203 501 [(1,(2,29))]) ?_;refine LR e0 hn ([]:List Ob) (fun l k v=>lN N l k v) h (fun f v=>[(8,.int (f:Int))]) (fun f v=>[(203,Q8 v [] 501)]) [3,6,7] [501] [] nl (fun s=>[(203,Q8 s [] 501)]) [3] [501] ?_ ?_ ?_
 ·intro _ g f m h _;rw[lN] at h;exact Sj [3,2,4,0,20]
 ·intro _ g f m e j h _ a _;rw[lN] at h;refine S [3,2,4,0,1,2,6,3] ?_;refine P9 a ?_;refine B [3] fun b d h=>?_;refine cA ((mf N _ _ d).sw 0 14) ?_;refine S [5,11] ?_;refine Exists.intro [(1,(2,29))] (Exists.intro (hF (⟨e.cls,b⟩:Ob)) (Exists.intro [(14,iZ b)] (AN rfl (AN rfl (AN rfl (AN G8 (AN G8 (AN rfl (AN rfl ?_)))))))));refine A [] fun c h=>?_;refine aD c ?_;refine S [5] ?_;refine MF (AN (M7 a i) ?_);exact le (m++[(⟨e.cls,b⟩:Ob)]) [(203,19),(501,719)]
 intro n h;exact Sr [3,7] [(0,203),(1,501)]
def Fe (N:Nat) (l:List Ins) (r:List Ins) (h:u9 N l=some r):Spec prog 122 [] [.sl 5 (MJ bd l)] (.aK 0) [(0,.row 5 (MJ bd r) 55)] [0]:=by
  obtain⟨d,h⟩:=j7 h;obtain rfl:=oI h;refine Spec.of eg func122 rfl ntmps122 C8 rfl rfl rfl fun f hn=>?_;refine H6 hn ?_;refine j6.seq (j6.seq (j6.ops (jv hn 1 ?_)));refine cY.gh (Gh.nil 3 rfl) ?_;rintro⟨b,c⟩;refine jv hn 1 (cY.done ?_);(repeat (first|refine H6 hn ?_|refine M4 hn ?_|refine O1 hn ?_|refine M3 hn ?_|refine M0 hn ?_|refine K7 hn ?_|refine ao hn ?_));refine nq (fun a=>?_) (fun a=>?_)
  · have e:l=[]:=by simpa using c a
    subst e;refine H6 hn ?_;refine j6.bG 2 5 5 55 rfl rfl rfl ?_;(repeat (first|refine H6 hn ?_|refine M4 hn ?_|refine O1 hn ?_|refine M3 hn ?_|refine M0 hn ?_|refine K7 hn ?_|refine ao hn ?_));exact⟨[(0,5)],_,rfl,rfl,⟨rfl,trivial⟩,rfl,rfl,rfl,rfl,rfl⟩
  · (repeat (first|refine H6 hn ?_|refine M4 hn ?_|refine O1 hn ?_|refine M3 hn ?_|refine M0 hn ?_|refine K7 hn ?_|refine ao hn ?_));refine Exists.intro [] (AN trivial ?_);refine AN (by have:=MZ d;simpa using this) ?_;refine Exists.intro (MJ bd l) (AN (O4 _) ?_);(repeat (first|refine H6 hn ?_|refine M4 hn ?_|refine O1 hn ?_|refine M3 hn ?_|refine M0 hn ?_|refine K7 hn ?_|refine ao hn ?_));exact⟨[(0,7)],_,rfl,rfl,⟨rfl,trivial⟩,rfl,rfl,rfl,rfl,rfl⟩
def uZ {N a0 r} (h:lJ N a0=some r):Spec prog 93 [] [.agg (G9 a0)] (.agg (G9 r)) [] []:=by
 refine so func93 ntmps93 fun b hn=>?_;unfold lJ at h;refine B [3,3] fun _ a h=>?_;refine cA ((Fe N _ _ a).sw 0 5) ?_;refine S [3] ?_;refine j6.ar 5 rfl ?_;exact Sr [7]
def Z8 {N a0 a1 g2 r} (h:y7 N a0 a1 g2=some r) {o:Nat} (c:∀j k p,g2 j k=some p->Spec prog o [] [.agg (G9 j),.str k] (.int p) [] []):Spec prog 106 [] [Lt a0,.str a1,.fn o []] (.aZ [.int r.1,.bool r.2]) [] []:=by
 refine so func106 ntmps106 fun y hn=>?_;unfold y7 at h;refine S [3,3,13,3,2] ?_;refine LF e0 hn ((0:Int),(a0.length:Int)) (fun l v=>u6 N a0 a1 g2 l v.1 v.2) h (fun v=>[(9,.int v.1),(10,.int v.2)]) (fun v=>[]) [0,1,2,8] [] [] (fun s=>[(9,.int s)]) nl [0,1,2,8] [] ?_ ?_
 ·rintro _ g ⟨w,x⟩ q h;rw[u6] at h;refine I [2,3,4] ?_ ?_<;>intro _ h
  ·refine S [1] ?_;refine J e0 hn h (fun s=>[(9,.int s.1),(10,.int s.2)]) nl [0,1,2,8] [] (fun _ h g=>?_) ?_
   ·refine A [6,3,12] fun a h=>?_;refine yx a ?_;refine A [10,10] fun b h=>?_;refine yx b ?_;refine B [3] fun _ f h=>?_;refine G6 f ?_;refine B [] fun _ d h=>?_;refine cA (c _ _ _ d) ?_;refine Jk e0 hn h (fun s=>[(9,.int s.1),(10,.int s.2)]) nl [0,1,2,8] [] [] fun _ h g=>?_;refine I [4] ?_ ?_<;>intro _ h
    ·refine kd [0,1,2,8,10,11] [] ?_;exact Sj [5,12]
    refine kd [0,1,2,8,9,11] [] ?_;exact Sj [5]
   rintro⟨m,n⟩ h;exact le (m,n) []
  exact Sj [20]
 intro u h;refine S [2] ?_;refine J e0 hn h (fun s=>[(6,.int u),(7,.bool s)]) nl [] [] (fun _ h g=>?_) ?_
 ·refine I [5] ?_ ?_<;>intro _ h
  ·refine B [0] fun _ i h=>?_;refine G6 i ?_;refine B [0] fun _ e h=>?_;refine cA (c _ _ _ e) ?_;exact Sj [0]
  exact Sj [0]
 intro t h;exact Sr [7]
def zv {N a0 r} (h:cmp_isNaN_string N a0=some r):Spec prog 145 [] [.str a0] (.bool r) [] []:=by
 refine so func145 ntmps145 fun a hn=>?_;unfold cmp_isNaN_string at h;exact Sr [3,3,7]
def FU {N a0 a1 r} (h:uG N a0 a1=some r):Spec prog 105 [] [.str a0,.str a1] (.int r) [] []:=by
 refine so func105 ntmps105 fun c hn=>?_;unfold uG at h;refine B [3,3] fun _ a h=>?_;refine cA (zv a) ?_;refine B [3] fun _ b h=>?_;refine cA (zv b) ?_;refine I [2,3,4] ?_ ?_<;>intro _ h
 ·exact ia [2,3,4] [3,7] [1,3,7]
 refine Ir [1,2,3,4] [3,7] fun _ h=>?_;refine Ir [1,2,3,4] [3,7] fun _ h=>?_;refine I [1,2,3,4] ?_ ?_<;>intro _ h
 ·refine kd [] [] ?_;exact Sr [3,7]
 refine S [1] ?_;refine kd [] [] ?_;exact Sr [3,7]
def Ae {N a0 a1 r} (h:jY N a0 a1=some r):Spec prog 72 [] [.agg (G9 a0),.str a1] (.int r) [] []:=by
 refine so func72 ntmps72 fun b hn=>?_;unfold jY at h;refine B [3,3] fun _ a h=>?_;refine cA (FU a) ?_;exact Sr [7]
def jV {N a0 a1 a2 r} (h:fR N a0 a1 a2=some r):Spec prog 73 [] [.agg (M8 a0),.int a1,.str a2] (.aZ [.int r.1,.int r.2]) [] []:=by
 refine so func73 ntmps73 fun m hn=>?_;unfold fR at h;refine S [3,2,3] ?_;refine LF e1 hn (a1,(0:Int)) (fun l v=>n9 N a0 a2 l v.1 v.2) h (fun v=>[(1,.int v.1),(8,.int v.2)]) (fun v=>[]) [2,3] [3] [] nl nl [] [] ?_ ?_
 ·rintro _ g ⟨k,i⟩ j h;rw[n9] at h;refine S [2,2] ?_;refine Jb 26 hn h [1,2,3,8] [3] (fun _ h g=>?_) ?_
  ·refine I [5] ?_ ?_<;>intro _ h
   ·exact F8 [0,13,0] [0,13,0] [0]
   exact Sj [0]
  intro f h;refine I [4] ?_ ?_<;>intro _ h
  ·refine B [1,2,6,2,3] fun _ b h=>?_;refine G6 b ?_;refine B [] fun _ a h=>?_;refine cA (Z8 a (fun _ _ _ e=>Ae e)) ?_;refine kd [1,2,3,8,9,10] [3] ?_;refine Ir [3,4] [3,7] fun _ h=>?_;refine B [1,5] fun d c h=>?_;refine G6 c ?_;refine S [5,12] ?_;exact le (d.aQ,(wr (i+(1:Int)))) []
  exact Sj [20]
 rintro⟨⟩ h;exact Sr [3,7]
def Z5 {N a0 fr b0 r} (h:O6 N a0 fr b0=some r):Spec prog 227 [(1016,.box [.ep 1019 b0 10 0] 289),(1019,D9 fr [] 1021)] [.agg (eV a0),.ptr 1016 0] (.aZ []) [(1016,.box [.ep 1019 b0 10 0] 289),(1019,D9 r [] 21),(21,.aF)] [21]:=by
 refine so func227 ntmps227 fun d hn=>?_;unfold O6 at h;refine B [15,3] fun b a h=>?_;refine gC (gD 1019 501 502 b0 8 a) ?_;refine kd [1,2] [2,501,502,1016,1019] ?_;refine S [8] ?_;refine hD a ?_;refine bS eV [a0] ?_;refine A [] fun c h=>?_;refine aM c ?_;refine hS a ?_;refine gE (gA 1019 10 503 b0 8 a (⟨b.aI,b.aL,b.aY,b.code,b.aR,b.args,b.a8,(b.aA++[a0]),b.aH⟩:j3)) ?_;exact Sr [14] [(21,503)]
def Am {N a0 a1 a2 r} (h:pO N a0 a1 a2=some r):Spec prog 228 [] [jO a0,.agg (eV a1),.int a2] (.agg (eV r)) [] []:=by
 refine so func228 ntmps228 fun e hn=>?_;unfold pO at h;refine S [3,2,2] ?_;refine Jb 36 hn h [0,2,4,6] [4,6] (fun _ h g=>?_) ?_
 ·refine Ij [5] [0] fun _ h=>?_;refine Ij [0] [0] fun _ h=>?_;refine Ij [0,13,0] [0] fun _ h=>?_;refine Ij [0] [0] fun _ h=>?_;refine B [0] fun _ c h=>?_;refine G6 c ?_;exact Sj [0,13,0]
 intro d h;refine Ir [4] [3,7] fun _ h=>?_;refine B [1,3] fun _ a h=>?_;refine G6 a ?_;refine B [] fun _ b h=>?_;refine G6 b ?_;exact Sr [7]
def A4 {N fr a0 r} (h:ot N fr a0=some r):Spec prog 200 [(1003,D9 fr [(a0,7,1006)] 1005)] [.ep 1003 a0 10 0] (.agg (eV r.1)) [(1003,D9 r.2 [(a0,7,1006)] 5),(5,.aF)] [5]:=by
 refine so func200 ntmps200 fun e hn=>?_;unfold ot at h;refine B [3,2] fun b a h=>?_;refine gC (gD 1003 501 502 a0 8 a) ?_;refine kd [0,2] [2,501,502,1003] ?_;refine S [8] ?_;refine hD a ?_;refine hD a ?_;refine B [13,12] fun _ c h=>?_;refine bT c ?_;refine V8 (l6 c).2 ?_;refine S [2,8] ?_;refine hD a ?_;refine hD a ?_;refine A [13,12] fun d h=>?_;refine jr d rfl rfl ?_;refine hS a ?_;refine gC (gA 1003 27 503 a0 8 a (⟨b.aI,b.aL,b.aY,b.code,b.aR,b.args,b.a8,(b.aA.take (wr ((b.aA.length:Int)-(1:Int))).toNat),b.aH⟩:j3)) ?_;refine kd [0,2,3] [2,3,503,1003] ?_;exact Sr [3,7] [(5,503)]
def EZ {N a0 g1 r} (h:O0 N a0 g1=some r) {m:Nat} {a:List AV} (f:∀d n,g1 d=some n->Spec prog m [] [.agg (hC d),.fp a] (.bool n) [] []):Spec prog 230 [] [kY a0,.fn m [.fp a]] (.int r) [] []:=by
 refine so func230 ntmps230 fun p hn=>?_;unfold O0 at h;refine S [3,2,3] ?_;refine J2 fun i=>?_;refine LR e1 hn () (fun l k v=>y9 N g1 l k) h (fun e v=>[(8,.int (e:Int))]) (fun e v=>[]) [0,1,7] [] [] nl nl [] [] ?_ ?_ ?_
 ·intro _ g e _ h _;rw[y9] at h;exact Sj [3,2,4,0,20]
 ·intro _ g e _ o j h _ c _;rw[y9] at h;refine S [3,2,4,0,1,2,6,3,3] ?_;refine P9 c ?_;refine B [] fun _ b h=>?_;refine cA (f _ _ b) ?_;refine Ir [4] [3,7] fun _ h=>?_;refine S [1,5] ?_;refine MF (AN (M7 c i) ?_);exact le () []
 rintro⟨⟩ h;exact Sr [3,7]
def GC {N a0 b0 r} (h:nA N a0 b0=some r):Spec prog 231 [] [.agg (hC a0),.fp (bU b0)] (.bool r) [] []:=by
 refine so func231 ntmps231 fun a hn=>?_;unfold nA at h;exact Sr [3,3,7]
def zm {N a0 a1 r} (h:nP N a0 a1=some r):Spec prog 203 [] [kY a0,.agg (bU a1)] (.int r) [] []:=by
 refine so func203 ntmps203 fun c hn=>?_;unfold nP at h;refine S [3] ?_;refine j6.gh (Gh.bA 3 3 rfl rfl rfl) (fun _=>?_);refine kd [0,3] [] ?_;refine B [3] fun _ a h=>?_;refine cA (EZ a (fun _ _ b=>GC b)) ?_;exact Sr [7]
def HO {N a0 a1 a2 a3 r} (h:sH N a0 a1 a2 a3=some r):Spec prog 168 [] [kY a0,.agg (bU a1),.int a2,.int a3] (.int r) [] []:=by
 refine so func168 ntmps168 fun n hn=>?_;unfold sH at h;refine B [3,3] fun _ f h=>?_;refine cA (zm f) ?_;refine S [2,2] ?_;refine Jb 25 hn h [0,3,9] [] (fun _ h g=>?_) ?_
 ·refine Ij [5] [0] fun _ h=>?_;refine B [0] fun _ i h=>?_;refine G6 i ?_;exact Sj [0]
 intro m h;refine Ir [4] [3,7] fun _ h=>?_;refine B [1,2,3] fun _ d h=>?_;refine G6 d ?_;refine J2 fun c=>?_;refine LR e1 hn () (fun l k v=>nI N a3 l k) h (fun a v=>[(32,.int (a:Int))]) (fun a v=>[]) [3,30,31] [] [] nl nl [] [] ?_ ?_ ?_
 ·intro _ g a _ h _;rw[nI] at h;exact Sj [3,2,4,0,20]
 ·intro _ g a _ j e h _ b _;rw[nI] at h;refine S [3,2,4,0,1,2,6,3] ?_;refine P9 b ?_;refine Ir [3,4] [3,7] fun _ h=>?_;refine S [1,5] ?_;refine MF (AN (M7 b c) ?_);exact le () []
 rintro⟨⟩ h;exact Sr [3,7]
def d21 (N:Nat) {l:List Ln} (h:Fit l.length 16):X7 N l=some l:=by
  unfold X7;rw[show IN (l.length*16) 140737488355328=true from Nat.ble_eq_true_of_le h];rfl
theorem Dt (N:Nat) (c:Int):∀(l:List Ln) (k:Nat),y8 N (fun x=>ri N x c) l k=some (match l.findIdx? (fun t=>decide (t.cls=c)) with|some i=>.ret ((k+i:Nat):Int)|none=>.next ())
  |[],k=>rfl
  |x::l,k=>by
    rw[y8,nY,Dt N c l (k+1)];unfold ri;by_cases e:x.cls=c
    · simp[e]
    · cases l.findIdx? (fun t=>decide (t.cls=c))<;>simp[e];omega
def Hu (N:Nat) (c:Int) (l:List Ln):R5 N l (fun x=>ri N x c)=some (decide (0<=fk (fun t=>decide (t.cls=c)) l)):=by
  unfold R5 I9 fk;rw[Dt];cases l.findIdx? (fun t=>decide (t.cls=c))<;>simp
def Ee {N a0 g1 r} (h:U4 N a0 g1=some r) {m:Nat} {a:List AV} (f:∀d n,g1 d=some n->Spec prog m [] [.agg (hJ d),.fp a] (.bool n) [] []):Spec prog 170 [] [jC a0,.fn m [.fp a]] (.int r) [] []:=by
 refine so func170 ntmps170 fun p hn=>?_;unfold U4 at h;refine S [3,2,3] ?_;refine J2 fun i=>?_;refine LR e1 hn () (fun l k v=>F3 N g1 l k) h (fun e v=>[(8,.int (e:Int))]) (fun e v=>[]) [0,1,7] [] [] nl nl [] [] ?_ ?_ ?_
 ·intro _ g e _ h _;rw[F3] at h;exact Sj [3,2,4,0,20]
 ·intro _ g e _ o j h _ c _;rw[F3] at h;refine S [3,2,4,0,1,2,6,3,3] ?_;refine P9 c ?_;refine B [] fun _ b h=>?_;refine cA (f _ _ b) ?_;refine Ir [4] [3,7] fun _ h=>?_;refine S [1,5] ?_;refine MF (AN (M7 c i) ?_);exact le () []
 rintro⟨⟩ h;exact Sr [3,7]
def FN {N a0 b0 r} (h:rW N a0 b0=some r):Spec prog 173 [] [.agg (V7 a0),.fp [.int b0]] (.bool r) [] []:=by
 refine so func173 ntmps173 fun a hn=>?_;unfold rW at h;exact Sr [3,3,7]
def eY (t:Tl):List AV:=[.int t.site.cls,.str t.site.name,.int t.site.pos]
def dD (t:Tl):List AV×List (List AV):=(eY t,t.a7.map V7)
def Cd (l:List Tl):du 2 (l.map dD)=l.map hJ:=by simp[du,dD,eY,hJ]
def Ea {N a0 g1 r} (h:X8 N a0 g1=some r) {j:Nat} (e:∀c m,g1 c=some m->Spec prog j [] [.agg (bd c)] (.bool m) [] []):Spec prog 232 [] [oW a0,.fn j []] (.int r) [] []:=by
 refine so func232 ntmps232 fun o hn=>?_;unfold X8 at h;refine S [3,2,3] ?_;refine J2 fun f=>?_;refine LR e1 hn () (fun l k v=>F9 N g1 l k) h (fun d v=>[(8,.int (d:Int))]) (fun d v=>[]) [0,1,7] [] [] nl nl [] [] ?_ ?_ ?_
 ·intro _ g d _ h _;rw[F9] at h;exact Sj [3,2,4,0,20]
 ·intro _ g d _ n i h _ b _;rw[F9] at h;refine S [3,2,4,0,1,2,6,3,3] ?_;refine P9 b ?_;refine B [] fun _ a h=>?_;refine cA (e _ _ a) ?_;refine Ir [4] [3,7] fun _ h=>?_;refine S [1,5] ?_;refine MF (AN (M7 b f) ?_);exact le () []
 rintro⟨⟩ h;exact Sr [3,7]
def Ed {N a0 g1 r} (h:U5 N a0 g1=some r) {d:Nat} (b:∀a e,g1 a=some e->Spec prog d [] [.agg (bd a)] (.bool e) [] []):Spec prog 206 [] [oW a0,.fn d []] (.bool r) [] []:=by
 refine so func206 ntmps206 fun f hn=>?_;unfold U5 at h;refine B [3,3] fun _ c h=>?_;refine cA (Ea c b) ?_;exact Sr [7]
def GB {N a0 r} (h:ox N a0=some r):Spec prog 207 [] [.agg (bd a0)] (.bool r) [] []:=by
 refine so func207 ntmps207 fun b hn=>?_;unfold ox at h;refine S [3,2] ?_;refine Jb 2 hn h [] [] (fun _ h g=>?_) ?_
 ·exact F8 [5] [0] [0]
 intro a h;exact Sr [7]
def Ad {N a0 r} (h:pF N a0=some r):Spec prog 175 [] [.agg (G9 a0)] (.bool r) [] []:=by
 refine so func175 ntmps175 fun d hn=>?_;unfold pF at h;refine S [3,2] ?_;refine Jb 2 hn h [] [] (fun _ h g=>?_) ?_
 ·refine I [5] ?_ ?_<;>intro _ h
  ·refine B [0] fun _ a h=>?_;refine cA (Ed a (fun _ _ b=>GB b)) ?_;exact Sj [0]
  exact Sj [0]
 intro c h;exact Sr [7]
def GW {N a0 r} (h:pJ N a0=some r):Spec prog 176 [] [.fp (G9 a0)] (.int r) [] []:=by
 refine so func176 ntmps176 fun a hn=>?_;unfold pJ at h;refine S [3,2] ?_;refine kd [0] [] ?_;exact Sr [8,12,12,12,13,12,7]
def HA {N a0 a1 b0 b1 r} (h:pP N a0 a1 b0 b1=some r):Spec prog 132 [] [.int a0,.int a1,.fp [EL b0],.fp (M8 b1)] (.aZ [.agg (eb r.1),.bool r.2]) [] []:=by
 refine so func132 ntmps132 fun m hn=>?_;unfold pP at h;refine S [3,2,3] ?_;refine J2 fun e=>?_;refine LR e1 hn () (fun l k v=>lG N a0 a1 b1 l k) h (fun d v=>[(12,.int (d:Int))]) (fun d v=>[]) [0,1,3,6,10,11] [6] [] nl nl [6] [6] ?_ ?_ ?_
 ·intro _ g d _ h _;rw[lG] at h;exact Sj [3,2,4,0,20]
 ·intro _ g d _ j f h _ c _;rw[lG] at h;refine S [3,2,4,0,1,2,6,3] ?_;refine P9 c ?_;refine S [2] ?_;refine Jb 41 hn h [0,1,3,6,9,10,11,12] [6,9] (fun _ h g=>?_) ?_
  ·refine kd [0,1,3,6,9,10,11,12] [6,9] ?_;refine I [8] ?_ ?_<;>intro _ h
   ·refine B [0] fun _ a h=>?_;refine G6 a ?_;refine B [0] fun _ b h=>?_;refine G6 b ?_;exact F8 [0] [0] [0]
   exact Sj [0]
  intro i h;refine Ir [4] [3,7] fun _ h=>?_;refine S [1,5] ?_;refine MF (AN (M7 c e) ?_);exact le () []
 rintro⟨⟩ h;exact Sr [3,7]
def wV {N a0 r} (h:nO N a0=some r):Spec prog 41 [] [.str a0] (.bool r) [] []:=by
 refine so func41 ntmps41 fun j hn=>?_;unfold nO at h;refine S [3,2,3,18] ?_;refine j6.cK 5 rfl (fun b=>?_);refine LU e1 hn () (fun l k v=>mv N a0 l k) h (fun e v=>[(6,.int (e:Int))]) (fun e v=>[]) [0,5] [] [] nl nl [0] [] ?_ ?_ ?_
 ·intro _ g e _ h _;rw[mv] at h;exact Sj [3,2,4,0,20]
 ·intro _ g e _ n6 h a _;rw[mv] at h;refine S [3,2,4,0,1,2,6,3,2] ?_;refine Jb 18 hn h [0,5,6] [] (fun _ h g=>?_) ?_
  ·refine B [5] fun _ c h=>?_;refine uw c ?_;refine Ij [10] [0] fun _ h=>?_;refine B [0] fun _ d h=>?_;refine uw d ?_;exact Sj [0,10,0]
  intro f h;refine Ir [4] [3,7] fun _ h=>?_;refine S [1,5] ?_;refine MF (AN (jc a b) ?_);exact le () []
 rintro⟨⟩ h;refine S [2] ?_;refine Jb 2 hn h [] [] (fun _ h g=>?_) ?_
 ·exact F8 [5,18] [0,18,0] [0]
 intro i h;exact Sr [7]
def GQ {N a0 a1 r} (h:ra N a0 a1=some r):Spec prog 109 [] [.agg (bd a0),.int a1] (.aZ [.int r.1,.int r.2.1,.aK 0]) [(0,w3 r.2.2)] [0]:=by
 refine so func109 ntmps109 fun d hn=>?_;unfold ra at h;refine S [3,2,3,6,2,3] ?_;refine Jb 9 hn h [1,2,8] [2] (fun _ h g=>?_) ?_
 ·refine Ij [4] [1] fun _ h=>?_;refine S [3] ?_;refine eA 9 hn h [1,2,8] [2] [] fun _ h g=>?_;exact F8 [4] [1] [5]
 intro c h;refine I [4] ?_ ?_<;>intro _ h
 ·refine S [3,12] ?_;refine bS cE [(wr (a1+(1:Int)))] ?_;exact Sr [7] [(0,15)]
 refine I [3,4] ?_ ?_<;>intro _ h
 ·refine S [3,12] ?_;refine bS cE [(wr (a1+(1:Int)))] ?_;exact Sr [7] [(0,20)]
 refine I [3,4] ?_ ?_<;>intro _ h
 ·refine A [2,8,12] fun b h=>?_;refine yx b ?_;refine S [12] ?_;refine bS cE [(wr (a1+(1:Int)))] ?_;exact Sr [7] [(0,31)]
 refine I [3,4] ?_ ?_<;>intro _ h
 ·refine S [2,8] ?_;refine bS cE [a0.a] ?_;exact Sr [7] [(0,36)]
 refine I [3,4] ?_ ?_<;>intro _ h
 ·refine S [2,8,12] ?_;refine bS cE [(wr (a1+(1:Int))),a0.a] ?_;exact Sr [7] [(0,43)]
 refine I [3,4] ?_ ?_<;>intro _ h
 ·refine S [3] ?_;refine nR 6 206 1 3 ?_;exact Sr [7] [(0,206)]
 refine S [1,3,12] ?_;refine bS cE [(wr (a1+(1:Int)))] ?_;exact Sr [7] [(0,48)]
end
end Go.Proofs.YtibjcppjfkamhaaGreatDoor
