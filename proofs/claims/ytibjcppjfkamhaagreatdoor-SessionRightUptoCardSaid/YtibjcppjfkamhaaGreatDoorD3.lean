import Derived.Test.YtibjcppjfkamhaaGreatDoorC
set_option linter.unusedVariables false
set_option linter.defProp false
set_option linter.unusedSimpArgs false
namespace Go.Proofs.YtibjcppjfkamhaaGreatDoor
open Go.RowKit Go.Proofs.Tryz
open _root_.And renaming intro->AN
open _root_.Bool renaming and_eq_true->IT
open _root_.ByteArray renaming empty->BY
open _root_.List renaming getElem?_eq_some_iff->ME,replicate->MI,map->MJ,mem_of_getElem?->MP,all_eq_true->MR,length_map->MW,getElem?_set->MY,getElem?_append_right->Ma,length_take->Mq
open _root_.Nat renaming ble->IN,le_refl->It,le_of_ble_eq_true->MZ,mul_le_mul_right->Mt
open _root_.Or renaming inl->MF
section
set_option maxHeartbeats 40000000
set_option maxRecDepth 100000
def uF (N:Nat) (l:List Ln) (r:List Ln) (h:X7 N l=some r):Spec prog 94 [] [.sl 2 (MJ V7 l)] (.aK 0) [(0,.row 2 (MJ V7 r) 167)] [0]:=by
  obtain⟨d,h⟩:=j7 h;obtain rfl:=oI h;refine Spec.of eg func94 rfl ntmps94 C8 rfl rfl rfl fun f hn=>?_;refine H6 hn ?_;refine j6.seq (j6.seq (j6.ops (jv hn 1 ?_)));refine cY.gh (Gh.nil 3 rfl) ?_;rintro⟨b,c⟩;refine jv hn 1 (cY.done ?_);(repeat (first|refine H6 hn ?_|refine M4 hn ?_|refine O1 hn ?_|refine M3 hn ?_|refine M0 hn ?_|refine K7 hn ?_|refine ao hn ?_));refine nq (fun a=>?_) (fun a=>?_)
  · have e:l=[]:=by simpa using c a
    subst e;refine H6 hn ?_;refine j6.bG 2 5 2 167 rfl rfl rfl ?_;(repeat (first|refine H6 hn ?_|refine M4 hn ?_|refine O1 hn ?_|refine M3 hn ?_|refine M0 hn ?_|refine K7 hn ?_|refine ao hn ?_));exact⟨[(0,5)],_,rfl,rfl,⟨rfl,trivial⟩,rfl,rfl,rfl,rfl,rfl⟩
  · (repeat (first|refine H6 hn ?_|refine M4 hn ?_|refine O1 hn ?_|refine M3 hn ?_|refine M0 hn ?_|refine K7 hn ?_|refine ao hn ?_));refine Exists.intro [] (AN trivial ?_);refine AN (by have:=MZ d;simpa using this) ?_;refine Exists.intro (MJ V7 l) (AN (O4 _) ?_);(repeat (first|refine H6 hn ?_|refine M4 hn ?_|refine O1 hn ?_|refine M3 hn ?_|refine M0 hn ?_|refine K7 hn ?_|refine ao hn ?_));exact⟨[(0,7)],_,rfl,rfl,⟨rfl,trivial⟩,rfl,rfl,rfl,rfl,rfl⟩
def ug {N a0 r} (h:lV N a0=some r):Spec prog 61 [] [kY a0] (.aK 0) [(0,d60 r)] [0]:=by
 refine so func61 ntmps61 fun o hn=>?_;unfold lV at h;refine S [3,3,2,3] ?_;refine J2 fun i=>?_;refine nR 3 203 6 159 ?_;refine LR e0 hn ([]:List Ce) (fun l k v=>lK N l k v) h (fun f v=>[(8,.int (f:Int))]) (fun f v=>[(203,d60 v)]) [3,6,7] [] [] nl (fun s=>[(203,d60 s)]) [3] [] ?_ ?_ ?_
 ·intro _ g f m h _;rw[lK] at h;exact Sj [3,2,4,0,20]
 ·intro _ g f m a j h _ b _;rw[lK] at h;refine S [3,2,4,0,1,2,6,3] ?_;refine P9 b ?_;refine B [3] fun e d h=>?_;refine cA ((uF N _ _ d).sw 0 14) ?_;refine S [5] ?_;refine bS hC [(⟨a.site,a.aC,a.many,e⟩:Ce)] ?_;refine A [] fun c h=>?_;refine aM c ?_;refine S [5] ?_;refine MF (AN (M7 b i) ?_);exact le (m++[(⟨a.site,a.aC,a.many,e⟩:Ce)]) [(203,19)]
 intro n h;exact Sr [3,7] [(0,203)]
def B7 {N a0 r} (h:pX N a0=some r):Spec prog 62 [] [jC a0] (.aK 0) [(0,yr r)] [0]:=by
 refine so func62 ntmps62 fun o hn=>?_;unfold pX at h;refine S [3,3,2,3] ?_;refine J2 fun i=>?_;refine nR 3 203 4 162 ?_;refine LR e0 hn ([]:List Tl) (fun l k v=>lP N l k v) h (fun f v=>[(8,.int (f:Int))]) (fun f v=>[(203,yr v)]) [3,6,7] [] [] nl (fun s=>[(203,yr s)]) [3] [] ?_ ?_ ?_
 ·intro _ g f m h _;rw[lP] at h;exact Sj [3,2,4,0,20]
 ·intro _ g f m e j h _ a _;rw[lP] at h;refine S [3,2,4,0,1,2,6,3] ?_;refine P9 a ?_;refine B [3] fun d c h=>?_;refine cA ((uF N _ _ c).sw 0 14) ?_;refine S [5] ?_;refine bS hJ [(⟨e.site,d⟩:Tl)] ?_;refine A [] fun b h=>?_;refine aM b ?_;refine S [5] ?_;refine MF (AN (M7 a i) ?_);exact le (m++[(⟨e.site,d⟩:Tl)]) [(203,19)]
 intro n h;exact Sr [3,7] [(0,203)]
def Ef {N a0 g1 r} (h:U1 N a0 g1=some r) {m:Nat} {a:List AV} (f:∀d n,g1 d=some n->Spec prog m [] [.agg (fI d),.fp a] (.bool n) [] []):Spec prog 123 [] [N8 a0,.fn m [.fp a]] (.int r) [] []:=by
 refine so func123 ntmps123 fun p hn=>?_;unfold U1 at h;refine S [3,2,3] ?_;refine J2 fun i=>?_;refine LR e1 hn () (fun l k v=>E9 N g1 l k) h (fun e v=>[(8,.int (e:Int))]) (fun e v=>[]) [0,1,7] [] [] nl nl [] [] ?_ ?_ ?_
 ·intro _ g e _ h _;rw[E9] at h;exact Sj [3,2,4,0,20]
 ·intro _ g e _ o j h _ c _;rw[E9] at h;refine S [3,2,4,0,1,2,6,3,3] ?_;refine P9 c ?_;refine B [] fun _ b h=>?_;refine cA (f _ _ b) ?_;refine Ir [4] [3,7] fun _ h=>?_;refine S [1,5] ?_;refine MF (AN (M7 c i) ?_);exact le () []
 rintro⟨⟩ h;exact Sr [3,7]
def Eb {N a0 g1 r} (h:J6 N a0 g1=some r) {e:Nat} {a:List AV} (c:∀b f,g1 b=some f->Spec prog e [] [.agg (fI b),.fp a] (.bool f) [] []):Spec prog 95 [] [N8 a0,.fn e [.fp a]] (.bool r) [] []:=by
 refine so func95 ntmps95 fun i hn=>?_;unfold J6 at h;refine B [3,3] fun _ d h=>?_;refine cA (Ef d c) ?_;exact Sr [7]
def mq {N a0 a1 r} (h:iI N a0 a1=some r):Spec prog 37 [] [.agg (M8 a0),.int a1] (.int r) [] []:=by
 refine so func37 ntmps37 fun n hn=>?_;unfold iI at h;refine S [3,3,2,3] ?_;refine LF e0 hn (a1,(0:Int),(0:Int)) (fun l v=>ow N a0 l v.1 v.2.1 v.2.2) h (fun v=>[(1,.int v.1),(5,.int v.2.1),(6,.int v.2.2)]) (fun v=>[]) [2] [2] [] (fun s=>[(5,.int s)]) nl [] [] ?_ ?_
 ·rintro _ g ⟨k,i,j⟩ e h;rw[ow] at h;refine S [2,2] ?_;refine Jb 22 hn h [1,2,5,6] [2] (fun _ h g=>?_) ?_
  ·refine I [5] ?_ ?_<;>intro _ h
   ·exact F8 [0,13,0] [0,13,0] [0]
   exact Sj [0]
  intro f h;refine I [4] ?_ ?_<;>intro _ h
  ·refine B [1,2,6,3] fun c a h=>?_;refine G6 a ?_;refine B [12,5] fun d b h=>?_;refine G6 b ?_;refine kd [1,2,5,6] [2] ?_;refine S [5,12] ?_;exact le (d.aQ,(wr (i+c.aG)),(wr (j+(1:Int)))) []
  exact Sj [20]
 intro m h;exact Sr [3,7]
def rA {N a0 a1 r} (h:kB N a0 a1=some r):Spec prog 107 [] [.int a0,.int a1] (.bool r) [] []:=by
 refine so func107 ntmps107 fun b hn=>?_;unfold kB at h;refine S [3,2] ?_;refine Jb 4 hn h [] [] (fun _ h g=>?_) ?_
 ·exact F8 [5] [0] [0]
 intro a h;exact Sr [7]
def u7 {N a0 a1 r} (h:I1 N a0 a1=some r) (a b:Value):Spec prog 165 [(1000,mB a0 (.aU a) (.aU b) 1001 1003)] [.ptr 1000 0,.int a1] (.aZ []) [(1000,mB r (.aU a) (.aU b) 1001 1003)] []:=by
 refine so func165 ntmps165 fun d hn=>?_;unfold I1 at h;refine S [15,3] ?_;refine J e0 hn h nl (fun s=>[(1000,.box [.ptr 1001 0,.aU a,.aU b,.int a0.fuel,.int a0.sends,.int a0.turns,.aK 1003,.int a0.back.k,.int a0.back.n,.int s] 251)]) [0] [] (fun _ h g=>?_) ?_
 ·exact F8 [4] [5] [1]
 intro c h;exact Sr [14]
def M6 {N a0 a1 r} (h:kp N a0 a1=some r) (a b:Value):Spec prog 195 [(1000,mB a0 (.aU a) (.aU b) 1001 1003),(1003,D9 a0.aE [] 1005)] [.ptr 1000 0,.bool a1] (.bool r.1) [(1000,mB r.2 (.aU a) (.aU b) 1001 1003),(1003,D9 a0.aE [] 1005)] []:=by
 refine so func195 ntmps195 fun n hn=>?_;unfold kp at h;refine S [3,2] ?_;refine J e1 hn h nl (fun s=>[(1000,.box [.ptr 1001 0,.aU a,.aU b,.int s.1,.int s.2.1,.int s.2.2.1,.aK 1003,.int s.2.2.2.1,.int s.2.2.2.2.1,.int s.2.2.2.2.2] 251)]) [0] [1003] (fun _ h g=>?_) ?_
 ·refine S [6,2,8] ?_;refine Jk e1 hn h nl (fun s=>[(1000,.box [.ptr 1001 0,.aU a,.aU b,.int s.1,.int s.2.1,.int s.2.2.1,.aK 1003,.int s.2.2.2.1,.int s.2.2.2.2.1,.int s.2.2.2.2.2] 251)]) [0] [1003] [] fun _ h g=>?_;refine I [4] ?_ ?_<;>intro _ h
  ·refine B [5] fun _ c h=>?_;refine cA (mb (.aU a) (.aU b) fun _ _=>(u7 c _ _)) ?_;exact je
  refine S [2] ?_;refine Jb 24 hn h [0] [1000,1003] (fun _ h g=>?_) ?_
  ·exact F8 [5] [0,13,0] [0]
  intro e h;refine I [4] ?_ ?_<;>intro _ h
  ·refine B [5] fun _ d h=>?_;refine cA (mb (.aU a) (.aU b) fun _ _=>(u7 d _ _)) ?_;exact je
  exact Sr [3,12,3,7]
 rintro⟨f,i,j,k,l,m⟩ h;exact Sr [3,7]
def og {N a0 a1 a2 r} (h:kt N a0 a1 a2=some r) (d e:Value):Spec prog 199 [(1000,mB a0 (.aU d) (.aU e) 1001 1003),(1003,D9 a0.aE [] 1005)] [.ptr 1000 0,.ep 1003 a1 10 0,.int a2] (.aZ []) [(1000,mB r (.aU d) (.aU e) 1001 1003),(1003,D9 r.aE [] 5),(5,.aF)] [5]:=by
 refine so func199 ntmps199 fun n hn=>?_;unfold kt at h;refine B [15,2,3] fun a c h=>?_;refine V8 c ?_;refine J e0 hn h nl (fun s=>[(1000,.box [.ptr 1001 0,.aU d,.aU e,.int s.1,.int s.2.1,.int s.2.2.1,.aK 1003,.int s.2.2.2.1,.int s.2.2.2.2.1,.int s.2.2.2.2.2] 251)]) [0,1,2] [1003] (fun _ h g=>?_) ?_
 ·refine I [4] ?_ ?_<;>intro _ h
  ·refine S [3,12,3] ?_;refine Jk e0 hn h nl (fun s=>[(1000,.box [.ptr 1001 0,.aU d,.aU e,.int s.1,.int s.2.1,.int s.2.2.1,.aK 1003,.int s.2.2.2.1,.int s.2.2.2.2.1,.int s.2.2.2.2.2] 251)]) [0,1,2] [1003] [] fun _ h g=>?_;refine I [4] ?_ ?_<;>intro _ h
   ·refine kd [0,1,2] [1000,1003] ?_;refine B [5] fun _ b h=>?_;refine cA (mb (.aU d) (.aU e) fun _ _=>(u7 b _ _)) ?_;exact je
   exact Sj [1]
  exact Sj [1]
 rintro⟨f,i,j,k,l,m⟩ h;refine S [5] ?_;refine sD c (⟨a.aI,a.aL,a.aY,a.code,a.aR,a.args,a.a8,a.aA,a2⟩:j3) ?_;refine gE (gS 1003 501) ?_;exact Sr [14] [(5,501)]
def kv {N fr a0 r} (h:Y9 N fr a0=some r):Spec prog 200 [(1003,D9 fr [] 1005)] [.ep 1003 a0 10 0] (.agg (eV r.1)) [(1003,D9 r.2 [] 5),(5,.aF)] [5]:=by
 refine so func200 ntmps200 fun e hn=>?_;unfold Y9 at h;refine B [3,2] fun b a h=>?_;refine gC (gD 1003 501 502 a0 8 a) ?_;refine kd [0,2] [2,501,502,1003] ?_;refine S [8] ?_;refine hD a ?_;refine hD a ?_;refine B [13,12] fun _ c h=>?_;refine bT c ?_;refine V8 (l6 c).2 ?_;refine S [2,8] ?_;refine hD a ?_;refine hD a ?_;refine A [13,12] fun d h=>?_;refine jr d rfl rfl ?_;refine hS a ?_;refine gC (gA 1003 27 503 a0 8 a (⟨b.aI,b.aL,b.aY,b.code,b.aR,b.args,b.a8,(b.aA.take (wr ((b.aA.length:Int)-(1:Int))).toNat),b.aH⟩:j3)) ?_;refine kd [0,2,3] [2,3,503,1003] ?_;exact Sr [3,7] [(5,503)]
def zq {N a0 fr b0 r} (h:oh N a0 fr b0=some r):Spec prog 227 [(1016,.box [.ep 1019 b0 10 0] 289),(1019,D9 fr [(b0,7,1022)] 1021)] [.agg (eV a0),.ptr 1016 0] (.aZ []) [(1016,.box [.ep 1019 b0 10 0] 289),(1019,D9 r [(b0,7,1022)] 21),(21,.aF)] [21]:=by
 refine so func227 ntmps227 fun d hn=>?_;unfold oh at h;refine B [15,3] fun b a h=>?_;refine gC (gD 1019 501 502 b0 8 a) ?_;refine kd [1,2] [2,501,502,1016,1019] ?_;refine S [8] ?_;refine hD a ?_;refine bS eV [a0] ?_;refine A [] fun c h=>?_;refine aM c ?_;refine hS a ?_;refine gE (gA 1019 10 503 b0 8 a (⟨b.aI,b.aL,b.aY,b.code,b.aR,b.args,b.a8,(b.aA++[a0]),b.aH⟩:j3)) ?_;exact Sr [14] [(21,503)]
def Em {N a0 sk fr b0 r} (h:qx N a0 sk fr b0=some r):Spec prog 227 [(1016,.box [.ep 1019 b0 10 0] 289),(1019,D9 fr [(b0,8,1022)] 1021),(1022,iZ sk)] [.agg (eV a0),.ptr 1016 0] (.aZ []) [(1016,.box [.ep 1019 b0 10 0] 289),(1019,D9 fr [(b0,8,22)] 1021),(22,iZ r),(1022,.aF)] [22]:=by
 refine so func227 ntmps227 fun c hn=>?_;unfold qx at h;refine B [15,3,8] fun _ a h=>?_;refine hD a ?_;refine bS eV [a0] ?_;refine A [] fun b h=>?_;refine aM b ?_;refine hS a ?_;exact Sr [14] [(22,10)]
def zr {N a0 a1 a2 a3 r} (h:oo N a0 a1 a2 a3=some r) (i j:Value):Spec prog 229 [(1000,mB a0 (.aU i) (.aU j) 1001 1003),(1001,.box [N8 a0.w.a7,.aK 1002,.int a0.w.aC] 40),(1002,Q8 a0.w.heap [] 1004)] [.ptr 1000 0,.agg (eV a1),.int a2,.agg (eV a3)] (.aZ []) [(1000,mB r (.aU i) (.aU j) 1001 1003),(1001,.box [N8 a0.w.a7,.aK 1002,.int a0.w.aC] 40),(1002,Q8 r.w.heap [] 3),(3,.aF)] [3]:=by
 refine so func229 ntmps229 fun o hn=>?_;unfold oo at h;refine S [15,3,2] ?_;refine J e0 hn h (fun s=>[(40,.bool s)]) (fun s=>[(501,.aF),(1002,Q8 a0.w.heap [] 501)]) [0,2,5,7] [5,7,1000,1001] (fun _ h g=>?_) ?_
 ·rcases EF h with⟨b,h⟩|⟨m,b,h⟩
  ·refine kd [0,2,5,7] [5,7,1000,1001,1002] ?_;refine I [8] ?_ ?_<;>intro _ h
   ·refine I [0,13,0] ?_ ?_<;>intro _ h
    ·cases h
    refine S [0] ?_;refine gE (gS 1002 501) ?_;exact je
   refine S [0] ?_;refine gE (gS 1002 502) ?_;exact je [(501,502)]
  refine gC (gD 1002 503 504 a1.n.toNat 1 b) ?_;refine kd [0,2,5,7] [5,7,503,504,1000,1001,1002] ?_;refine I [8] ?_ ?_<;>intro _ h
  ·refine I [0,13,0] ?_ ?_<;>intro _ h
   ·refine B [0] fun _ d h=>?_;refine iD d ?_;refine S [0] ?_;refine hD b ?_;refine S [0,13,0] ?_;refine gE (gB 1002 503 505 a1.n.toNat 1 b) ?_;exact je [(501,505)]
   refine S [0] ?_;refine gE (gB 1002 503 506 a1.n.toNat 1 b) ?_;exact je [(501,506)]
  refine S [0] ?_;refine gE (gB 1002 503 507 a1.n.toNat 1 b) ?_;exact je [(501,507)]
 intro l h;refine J e0 hn h nl (fun s=>[(508,.aF),(1002,Q8 s [] 508)]) [0] [1000,1001] (fun _ h g=>?_) ?_
 ·refine I [4] ?_ ?_<;>intro _ h
  ·rcases EF h with⟨a,h⟩|⟨f,a,h⟩
   ·cases h
   refine gC (gD 1002 508 509 a1.n.toNat 1 a) ?_;refine kd [0,2,5,7] [5,7,508,509,1000,1001,1002] ?_;refine B [8] fun _ e h=>?_;refine iD e ?_;refine hD a ?_;refine B [] fun _ c h=>?_;refine bT c ?_;refine sM (l6 c).2 a3 ?_;refine gE (gA 1002 508 510 a1.n.toNat 1 a (⟨f.cls,(f.aG.set a2.toNat a3)⟩:Ob)) ?_;exact je [(508,510)]
  exact Sj [1] [(508,501)]
 intro k h;exact Sr [14] [(3,508)]
def BU {N a0 a1 r} (h:ph N a0 a1=some r):Spec prog 127 [] [.int a0,.int a1] (.aZ [.agg (eb r.1),.bool r.2]) [] []:=by
 refine so func127 ntmps127 fun a hn=>?_;unfold ph at h;exact Sr [3,3,7]
theorem d93 (N:Nat) (s:St):∀(l:List Ce) (k:Nat),y9 N (fun x=>nA N x s) l k=some (match l.findIdx? (fun t=>decide (t.site=s)) with|some i=>.ret ((k+i:Nat):Int)|none=>.next ())
  |[],k=>rfl
  |x::l,k=>by
    rw[y9,nY,d93 N s l (k+1)];unfold nA;rw[show cz (bU x.site) (bU s)=decide (x.site=s) from zA x.site s];by_cases e:x.site=s
    · simp[e]
    · cases l.findIdx? (fun t=>decide (t.site=s))<;>simp[e];omega
def Gc (N:Nat) (l:List Ce) (s:St):nP N l s=some (fk (fun t=>decide (t.site=s)) l):=by
  unfold nP O0 fk;rw[d93];cases l.findIdx? (fun t=>decide (t.site=s))<;>simp
def FI {N a0 b0 r} (h:rh N a0 b0=some r):Spec prog 171 [] [.agg (hJ a0),.fp (bU b0)] (.bool r) [] []:=by
 refine so func171 ntmps171 fun a hn=>?_;unfold rh at h;exact Sr [3,3,7]
def IA (N:Nat) {l:List Ln} (h:Fit l.length 16):X7 N l=some l:=by
  unfold X7;rw[show IN (l.length*16) 140737488355328=true from Nat.ble_eq_true_of_le h];rfl
def HP {N a0 a1 r} (h:sL N a0 a1=some r):Spec prog 210 [] [jC a0,.agg (bU a1)] (.int r) [] []:=by
 refine so func210 ntmps210 fun w hn=>?_;unfold sL at h;refine S [3,3,2,3] ?_;refine J2 fun j=>?_;refine LR e0 hn (0:Int) (fun l k v=>nK N a1 l k v) h (fun f v=>[(5,.int v),(12,.int (f:Int))]) (fun f v=>[]) [3,10,11] [3] [] (fun s=>[(5,.int s)]) nl [] [] ?_ ?_ ?_
 ·intro _ g f p h _;rw[nK] at h;exact Sj [3,2,4,0,20]
 ·intro _ g f p t m h _ b _;rw[nK] at h;refine S [3,2,4,0,1,2] ?_;refine J e0 hn h (fun s=>[(5,.int s)]) nl [3,10,11,12] [3] (fun _ h g=>?_) ?_
  ·refine S [6,3] ?_;refine P9 b ?_;refine Ij [2,3,4] [20] fun _ h=>?_;refine S [1,3] ?_;refine J2 fun d=>?_;refine LR e0 hn p (fun l k v=>nL N l k v) h (fun a v=>[(5,.int v),(23,.int (a:Int))]) (fun a v=>[]) [3,10,11,12,21,22] [3] [] (fun s=>[(5,.int s)]) nl [3,10,11,12] [3] ?_ ?_ ?_
   ·intro _ g a e h _;rw[nL] at h;exact Sj [3,2,4,0,20]
   ·intro _ g a e o i h _ c _;rw[nL] at h;refine S [3,2,4,0,1,2,6,3] ?_;refine P9 c ?_;refine S [5,12,5] ?_;refine MF (AN (M7 c d) ?_);exact le (wr (e+o.found)) []
   intro q h;exact je
  intro n h;refine S [5] ?_;refine MF (AN (M7 b j) ?_);exact le n []
 intro u h;exact Sr [3,7]
def H8 {N a0 a1 a2 a3 a4 r} (h:G5 N a0 a1 a2 a3 a4=some r):Spec prog 208 [(1000,.box [.fp (M8 a0.w),.fp (G9 a0.m),.aK 1001,.int a0.a8,.aK 1002,.aK 1003] 260),(1001,cQ a0.out),(1002,w3 a0.aH),(1003,w3 a0.fix)] [.ptr 1000 0,.int a1,.int a2,.int a3,.int a4] (.aZ []) [(1000,.box [.fp (M8 r.w),.fp (G9 r.m),.aK 2,.int r.a8,.aK 3,.aK 4] 260),(2,cQ r.out),(1001,.aF),(3,w3 r.aH),(1002,.aF),(4,w3 r.fix),(1003,.aF)] [2,3,4]:=by
 refine so func208 ntmps208 fun b hn=>?_;unfold G5 at h;refine rB 1000 2 1001 320 ?_;refine rB 1000 4 1002 321 ?_;refine rB 1000 5 1003 322 ?_;refine S [15,5] ?_;refine bS bd [(⟨a1,a2,a3,a4,BY⟩:Ins)] ?_;refine A [] fun a h=>?_;refine aM a ?_;exact Sr [14] [(2,21),(3,321),(4,322)]
def uE {N a0 r} (h:Q0 N a0=some r):Spec prog 85 [(1000,.box (W9 a0) 107),(2000,GL)] [.ptr 1000 0] (.str r.1) [(1000,.box (W9 r.2) 107),(2000,GL)] []:=by
 refine so func85 ntmps85 fun c hn=>?_;unfold Q0 at h;refine B [3,3] fun _ a h=>?_;refine cA (Ga N _ _ _ a) ?_;refine S [2,2] ?_;refine Jb 20 hn h [0,3,4] [1000,2000] (fun _ h g=>?_) ?_
 ·exact F8 [5] [0] [0]
 intro b h;exact ia [4] [3,3,7] [1,3,3,7]
def L8 {N a0 r} (h:p9 N a0=some r):Spec prog 83 [(1000,.box (W9 a0) 107),(2000,GL)] [.ptr 1000 0] (.int r.1) [(1000,.box (W9 r.2) 107),(2000,GL)] []:=by
 refine so func83 ntmps83 fun f hn=>?_;unfold p9 at h;refine B [3,3] fun _ a h=>?_;refine cA (uE a) ?_;refine B [3] fun _ b h=>?_;refine cA (strconv_Atoi_ok N _ _ b) ?_;refine S [2,2] ?_;refine Jb 20 hn h [0,4] [1000,2000] (fun _ h g=>?_) ?_
 ·refine Ij [5,10] [0] fun _ h=>?_;refine B [0] fun _ c h=>?_;refine cA (zj N _ _ c) ?_;exact Sj [0]
 intro e h;refine J e0 hn h nl (fun s=>[(1000,.box (W9 s) 107)]) [0,4] [2000] (fun _ h g=>?_) ?_
 ·exact F8 [4] [5] [1]
 intro d h;exact Sr [3,7]
def qw {N a0 a1 r} (h:K9 N a0 a1=some r):Spec prog 84 [(1000,.box (W9 a0) 107),(2000,GL)] [.ptr 1000 0,.int a1] (.int r.1) [(1000,.box (W9 r.2) 107),(2000,GL)] []:=by
 refine so func84 ntmps84 fun c hn=>?_;unfold K9 at h;refine B [3,3] fun _ a h=>?_;refine cA (L8 a) ?_;refine S [2,2] ?_;refine Jb 14 hn h [0,5] [1000,2000] (fun _ h g=>?_) ?_
 ·exact F8 [5] [0] [0]
 intro b h;exact ia [4] [3,3,7] [1,3,7]
def Gw {N a0 a1 r} (h:rz N a0 a1=some r):Spec prog 77 [] [.agg (M8 a0),.int a1] (.aK 0) [(0,w3 r)] [0]:=by
 refine so func77 ntmps77 fun k hn=>?_;unfold rz at h;refine S [3,3,2] ?_;refine nR 5 205 1 3 ?_;refine LF e0 hn (a1,([]:List Int)) (fun l v=>oy N a0 l v.1 v.2) h (fun v=>[(1,.int v.1)]) (fun v=>[(205,w3 v.2)]) [2,5] [2] [] nl (fun s=>[(205,w3 s)]) [5] [] ?_ ?_
 ·rintro _ g ⟨d,i⟩ e h;rw[oy] at h;refine S [2,2] ?_;refine Jb 22 hn h [1,2,5] [2,205] (fun _ h g=>?_) ?_
  ·refine I [5] ?_ ?_<;>intro _ h
   ·exact F8 [0,13,0] [0,13,0,13,0] [0]
   exact Sj [0]
  intro f h;refine I [4] ?_ ?_<;>intro _ h
  ·refine S [1,6,3] ?_;refine bS cE [d] ?_;refine A [] fun a h=>?_;refine aM a ?_;refine B [5] fun c b h=>?_;refine G6 b ?_;exact le (c.aQ,(i++[d])) [(205,26)]
  exact Sj [20]
 intro j h;exact Sr [3,7] [(0,205)]
def uY {N a0 a1 r} (h:lL N a0 a1=some r):Spec prog 42 [] [.agg (M8 a0),.int a1] (.int r) [] []:=by
 refine so func42 ntmps42 fun q hn=>?_;unfold lL at h;refine B [3,3,2,3] fun n f h=>?_;refine cA ((Gw f).sw 0 10) ?_;refine J2 fun e=>?_;refine LR e0 hn (0:Int) (fun l k v=>ml N a0 n l k v) h (fun d v=>[(5,.int v),(12,.int (d:Int))]) (fun d v=>[]) [2,10,11] [2,10] [] (fun s=>[(5,.int s)]) nl [] [] ?_ ?_ ?_
 ·intro _ g d m h _;rw[ml] at h;exact Sj [3,2,4,0,20]
 ·intro _ g d m o i h _ b _;rw[ml] at h;refine B [3,2,4,0,1,2,6,3] fun _ a h=>?_;refine bT a ?_;refine V8 (l6 a).2 ?_;refine B [5] fun j c h=>?_;refine G6 c ?_;refine S [12] ?_;refine kd [2,5,10,11,12] [2,10] ?_;refine S [5] ?_;refine MF (AN (M7 b e) ?_);exact le (wr (m+j.aG)) []
 intro p h;exact Sr [3,7]
end
end Go.Proofs.YtibjcppjfkamhaaGreatDoor
