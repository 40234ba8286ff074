import Derived.Test.YtibjcppjfkamhaaGreatDoorC
set_option linter.unusedVariables false
set_option linter.defProp false
set_option linter.unusedSimpArgs false
namespace Go.Proofs.YtibjcppjfkamhaaGreatDoor
open Go.RowKit Go.Proofs.Tryz
open _root_.And renaming intro->AN
open _root_.Bool renaming and_eq_true->IT
open _root_.ByteArray renaming empty->BY
open _root_.List renaming getElem?_eq_some_iff->Lx,replicate->MC,map->MF,mem_of_getElem?->MI,all_eq_true->MK,length_map->MP,getElem?_set->MQ,getElem?_append_right->MS,length_take->Mk
open _root_.Nat renaming ble->IN,le_refl->It,le_of_ble_eq_true->MR,mul_le_mul_right->Ml
open _root_.Or renaming inl->MA
section
set_option maxHeartbeats 40000000
set_option maxRecDepth 100000
def Fk (N:Nat) (l:List Int) (r:List Int) (h:wU N l=some r):Spec prog 63 [] [.sl 1 (MF (oF .u8) l)] (.aL 0) [(0,.row 1 (MF (oF .u8) r) 5)] [0]:=by
  obtain⟨d,h⟩:=iz h;obtain rfl:=oI h;refine Spec.of fI func63 rfl ntmps63 y7 rfl rfl rfl fun f hn=>?_;refine I7 hn ?_;refine j6.seq (j6.seq (j6.ops (jt hn 1 ?_)));refine cd.gh (Gh.nil 3 rfl) ?_;rintro⟨b,c⟩;refine jt hn 1 (cd.done ?_);(repeat (first|refine I7 hn ?_|refine P7 hn ?_|refine R5 hn ?_|refine O9 hn ?_|refine P8 hn ?_|refine N9 hn ?_|refine b7 hn ?_));refine nO (fun a=>?_) (fun a=>?_)
  · have e:l=[]:=by simpa using c a
    subst e;refine I7 hn ?_;refine j6.bK 2 5 1 5 rfl rfl rfl ?_;(repeat (first|refine I7 hn ?_|refine P7 hn ?_|refine R5 hn ?_|refine O9 hn ?_|refine P8 hn ?_|refine N9 hn ?_|refine b7 hn ?_));exact⟨[(0,5)],_,rfl,rfl,⟨rfl,trivial⟩,rfl,rfl,rfl,rfl,rfl⟩
  · (repeat (first|refine I7 hn ?_|refine P7 hn ?_|refine R5 hn ?_|refine O9 hn ?_|refine P8 hn ?_|refine N9 hn ?_|refine b7 hn ?_));refine Exists.intro [] (AN trivial ?_);refine AN (by have:=MR d;simpa using this) ?_;refine Exists.intro (MF (oF .u8) l) (AN (Q8 _) ?_);(repeat (first|refine I7 hn ?_|refine P7 hn ?_|refine R5 hn ?_|refine O9 hn ?_|refine P8 hn ?_|refine N9 hn ?_|refine b7 hn ?_));exact⟨[(0,7)],_,rfl,rfl,⟨rfl,trivial⟩,rfl,rfl,rfl,rfl,rfl⟩
def FM {N a0 b0 r} (h:ov N a0 b0=some r):Spec prog 96 [] [.agg (fu a0),.fp [.str b0]] (.bool r) [] []:=by
 refine so func96 ntmps96 fun a hn=>?_;unfold ov at h;exact Sr [3,3,7]
def rG {N a0 a1 r} (h:kF N a0 a1=some r):Spec prog 107 [] [.int a0,.int a1] (.bool r) [] []:=by
 refine so func107 ntmps107 fun b hn=>?_;unfold kF at h;refine S [3,2] ?_;refine Jb 4 hn h [] [] (fun _ h g=>?_) ?_
 ·refine I [5] ?_ ?_<;>intro _ h
  ·exact Sj [0]
  exact Sj [0]
 intro a h;exact Sr [7]
def Z9 {N a0 a1 g2 r} (h:y8 N a0 a1 g2=some r) {o:Nat} (c:∀j k p,g2 j k=some p->Spec prog o [] [.agg (J2 j),.str k] (.int p) [] []):Spec prog 106 [] [Lu a0,.str a1,.fn o []] (.ab [.int r.1,.bool r.2]) [] []:=by
 refine so func106 ntmps106 fun C hn=>?_;unfold y8 at h;refine S [3,3,13,3,2] ?_;refine LF e0 hn ((0:Int),(a0.length:Int)) (fun l v=>w9 N a0 a1 g2 l v.1 v.2) h (fun v=>[(9,.int v.1),(10,.int v.2)]) (fun v=>[]) [0,1,2,8] [] [] (fun s=>[(9,.int s)]) (fun s=>[]) [0,1,2,8] [] ?_ ?_
 ·rintro _ g ⟨y,z⟩ q h;rw[w9] at h;refine I [2,3,4] ?_ ?_<;>intro _ h
  ·refine S [1] ?_;refine J e0 hn h (fun s=>[(9,.int s.1),(10,.int s.2)]) (fun s=>[]) [0,1,2,8] [] (fun _ h g=>?_) ?_
   ·refine A [6,3,12] fun a h=>?_;refine EJ a ?_;refine A [10,10] fun b h=>?_;refine EJ b ?_;refine B [3] fun _ f h=>?_;refine H5 f ?_;refine B [] fun _ d h=>?_;refine cA (c _ _ _ d) ?_;refine J e0 hn h (fun s=>[(9,.int s.1),(10,.int s.2)]) (fun s=>[]) [0,1,2,8] [] (fun _ h g=>?_) ?_
    ·refine I [4] ?_ ?_<;>intro _ h
     ·refine kd [0,1,2,8,10,11] [] ?_;exact Sj [5,12]
     refine kd [0,1,2,8,9,11] [] ?_;exact Sj [5]
    rintro⟨t,u⟩ h;exact je
   rintro⟨m,n⟩ h;exact le (m,n) []
  exact Sj [20]
 intro x h;refine S [2] ?_;refine J e0 hn h (fun s=>[(6,.int x),(7,.bool s)]) (fun s=>[]) [] [] (fun _ h g=>?_) ?_
 ·refine I [5] ?_ ?_<;>intro _ h
  ·refine B [0] fun _ i h=>?_;refine H5 i ?_;refine B [0] fun _ e h=>?_;refine cA (c _ _ _ e) ?_;exact Sj [0]
  exact Sj [0]
 intro w h;exact Sr [7]
def A8 {N a0 r} (h:cmp_isNaN_string N a0=some r):Spec prog 145 [] [.str a0] (.bool r) [] []:=by
 refine so func145 ntmps145 fun a hn=>?_;unfold cmp_isNaN_string at h;exact Sr [3,3,7]
def FY {N a0 a1 r} (h:uF N a0 a1=some r):Spec prog 105 [] [.str a0,.str a1] (.int r) [] []:=by
 refine so func105 ntmps105 fun c hn=>?_;unfold uF at h;refine B [3,3] fun _ a h=>?_;refine cA (A8 a) ?_;refine B [3] fun _ b h=>?_;refine cA (A8 b) ?_;refine I [2,3,4] ?_ ?_<;>intro _ h
 ·refine I [2,3,4] ?_ ?_<;>intro _ h
  ·exact Sr [3,7]
  exact Sr [1,3,7]
 refine I [1,2,3,4] ?_ ?_<;>intro _ h
 ·exact Sr [3,7]
 refine I [1,2,3,4] ?_ ?_<;>intro _ h
 ·exact Sr [3,7]
 refine I [1,2,3,4] ?_ ?_<;>intro _ h
 ·refine kd [] [] ?_;exact Sr [3,7]
 refine S [1] ?_;refine kd [] [] ?_;exact Sr [3,7]
def Av {N a0 a1 r} (h:jV N a0 a1=some r):Spec prog 72 [] [.agg (J2 a0),.str a1] (.int r) [] []:=by
 refine so func72 ntmps72 fun b hn=>?_;unfold jV at h;refine B [3,3] fun _ a h=>?_;refine cA (FY a) ?_;exact Sr [7]
def jT {N a0 a1 a2 r} (h:fW N a0 a1 a2=some r):Spec prog 73 [] [.agg (Q7 a0),.int a1,.str a2] (.ab [.int r.1,.int r.2]) [] []:=by
 refine so func73 ntmps73 fun m hn=>?_;unfold fW at h;refine S [3,2,3] ?_;refine LF e1 hn (a1,(0:Int)) (fun l v=>n4 N a0 a2 l v.1 v.2) h (fun v=>[(1,.int v.1),(8,.int v.2)]) (fun v=>[]) [2,3] [3] [] (fun s=>[]) (fun s=>[]) [] [] ?_ ?_
 ·rintro _ g ⟨k,i⟩ j h;rw[n4] at h;refine S [2,2] ?_;refine Jb 26 hn h [1,2,3,8] [3] (fun _ h g=>?_) ?_
  ·refine I [5] ?_ ?_<;>intro _ h
   ·refine I [0,13,0] ?_ ?_<;>intro _ h
    ·exact Sj [0,13,0]
    exact Sj [0]
   exact Sj [0]
  intro f h;refine I [4] ?_ ?_<;>intro _ h
  ·refine B [1,2,6,2,3] fun _ b h=>?_;refine H5 b ?_;refine B [] fun _ a h=>?_;refine cA (Z9 a (fun _ _ _ e=>Av e)) ?_;refine kd [1,2,3,8,9,10] [3] ?_;refine I [3,4] ?_ ?_<;>intro _ h
   ·exact Sr [3,7]
   refine B [1,5] fun d c h=>?_;refine H5 c ?_;refine S [5,12] ?_;exact le (d.aV,(wr (i+(1:Int)))) []
  exact Sj [20]
 rintro⟨⟩ h;exact Sr [3,7]
def K8 {N a0 a1 r} (h:F5 N a0 a1=some r) {b:Nat} {a:List AV} {c:Nat}:Spec prog 165 [(1000,mB a0 (.fn b [.fp a]) (.fn c []) 1001 1003)] [.ptr 1000 0,.int a1] (.ab []) [(1000,mB r (.fn b [.fp a]) (.fn c []) 1001 1003)] []:=by
 refine so func165 ntmps165 fun e hn=>?_;unfold F5 at h;refine S [15,3] ?_;refine J e0 hn h (fun s=>[]) (fun s=>[(1000,.box [.ptr 1001 0,.fn b [.fp a],.fn c [],.int a0.aE,.int a0.aH,.int a0.aO,.aL 1003,.int a0.back.k,.int a0.back.n,.int s] 251)]) [0] [] (fun _ h g=>?_) ?_
 ·refine I [4] ?_ ?_<;>intro _ h
  ·exact Sj [5]
  exact Sj [1]
 intro d h;exact Sr [14]
def wC {N a0 a1 r} (h:N7 N a0 a1=some r) {d:Nat} {a:List AV} {e:Nat}:Spec prog 195 [(1000,mB a0 (.fn d [.fp a]) (.fn e []) 1001 1003),(1003,p9 a0.aG [] 1005)] [.ptr 1000 0,.bool a1] (.bool r.1) [(1000,mB r.2 (.fn d [.fp a]) (.fn e []) 1001 1003),(1003,p9 a0.aG [] 1005)] []:=by
 refine so func195 ntmps195 fun w hn=>?_;unfold N7 at h;refine S [3,2] ?_;refine J e1 hn h (fun s=>[]) (fun s=>[(1000,.box [.ptr 1001 0,.fn d [.fp a],.fn e [],.int s.1,.int s.2.1,.int s.2.2.1,.aL 1003,.int s.2.2.2.1,.int s.2.2.2.2.1,.int s.2.2.2.2.2] 251)]) [0] [1003] (fun _ h g=>?_) ?_
 ·refine S [6,2,8] ?_;refine J e1 hn h (fun s=>[]) (fun s=>[(1000,.box [.ptr 1001 0,.fn d [.fp a],.fn e [],.int s.1,.int s.2.1,.int s.2.2.1,.aL 1003,.int s.2.2.2.1,.int s.2.2.2.2.1,.int s.2.2.2.2.2] 251)]) [0] [1003] (fun _ h g=>?_) ?_
  ·refine I [4] ?_ ?_<;>intro _ h
   ·refine B [5] fun _ b h=>?_;refine cA (K8 b) ?_;exact je
   refine S [2] ?_;refine Jb 24 hn h [0] [1000,1003] (fun _ h g=>?_) ?_
   ·refine I [5] ?_ ?_<;>intro _ h
    ·exact Sj [0,13,0]
    exact Sj [0]
   intro l h;refine I [4] ?_ ?_<;>intro _ h
   ·refine B [5] fun _ c h=>?_;refine cA (K8 c) ?_;exact je
   exact Sr [3,12,3,7]
  rintro⟨u,v,f,i,j,k⟩ h;exact je
 rintro⟨m,n,o,p,q,t⟩ h;exact Sr [3,7]
def zw {N a0 a1 r} (h:Q6 N a0 a1=some r) {e:Nat} {c:List AV} {f:Nat}:Spec prog 197 [(1000,mB a0 (.fn e [.fp c]) (.fn f []) 1001 1003),(1003,p9 a0.aG [] 1005)] [.ptr 1000 0,.agg (eV a1)] (.ab []) [(1000,mB r (.fn e [.fp c]) (.fn f []) 1001 1003),(1003,p9 r.aG [] 5),(5,.aF)] [5]:=by
 refine so func197 ntmps197 fun i hn=>?_;unfold Q6 at h;refine I [15,3,2,3,13,4] ?_ ?_<;>intro _ h
 ·refine S [3] ?_;refine gC (gS 1003 501) ?_;exact Sr [7] [(5,501)]
 refine B [1,2,8,13,12] fun b a h=>?_;refine iD a ?_;refine gC (gD 1003 502 503 ((wr ((a0.aG.length:Int)-(1:Int))).toNat) 8 (l6 a).2) ?_;refine kd [0,3,4] [3,502,503,1000,1003] ?_;refine S [8] ?_;refine hD (l6 a).2 ?_;refine bS eV [a1] ?_;refine A [] fun d h=>?_;refine aM d ?_;refine hS (l6 a).2 ?_;refine gE (gA 1003 33 504 ((wr ((a0.aG.length:Int)-(1:Int))).toNat) 8 ((l6 a).2) (⟨b.aK,b.aN,b.aY,b.code,b.aU,b.args,b.a8,(b.aA++[a1]),b.aJ⟩:j3)) ?_;exact Sr [14] [(5,504)]
def zz {N a0 a1 a2 r} (h:P9 N a0 a1 a2=some r) {e:Nat} {a:List AV} {f:Nat}:Spec prog 199 [(1000,mB a0 (.fn e [.fp a]) (.fn f []) 1001 1003),(1003,p9 a0.aG [] 1005)] [.ptr 1000 0,.ep 1003 a1 10 0,.int a2] (.ab []) [(1000,mB r (.fn e [.fp a]) (.fn f []) 1001 1003),(1003,p9 r.aG [] 5),(5,.aF)] [5]:=by
 refine so func199 ntmps199 fun w hn=>?_;unfold P9 at h;refine B [15,2,3] fun b d h=>?_;refine K6 d ?_;refine J e0 hn h (fun s=>[]) (fun s=>[(1000,.box [.ptr 1001 0,.fn e [.fp a],.fn f [],.int s.1,.int s.2.1,.int s.2.2.1,.aL 1003,.int s.2.2.2.1,.int s.2.2.2.2.1,.int s.2.2.2.2.2] 251)]) [0,1,2] [1003] (fun _ h g=>?_) ?_
 ·refine I [4] ?_ ?_<;>intro _ h
  ·refine S [3,12,3] ?_;refine J e0 hn h (fun s=>[]) (fun s=>[(1000,.box [.ptr 1001 0,.fn e [.fp a],.fn f [],.int s.1,.int s.2.1,.int s.2.2.1,.aL 1003,.int s.2.2.2.1,.int s.2.2.2.2.1,.int s.2.2.2.2.2] 251)]) [0,1,2] [1003] (fun _ h g=>?_) ?_
   ·refine I [4] ?_ ?_<;>intro _ h
    ·refine kd [0,1,2] [1000,1003] ?_;refine B [5] fun _ c h=>?_;refine cA (K8 c) ?_;exact je
    exact Sj [1]
   rintro⟨i,j,k,l,m,n⟩ h;exact je
  exact Sj [1]
 rintro⟨o,p,q,t,u,v⟩ h;refine S [5] ?_;refine sD d (⟨b.aK,b.aN,b.aY,b.code,b.aU,b.args,b.a8,b.aA,a2⟩:j3) ?_;refine gE (gS 1003 501) ?_;exact Sr [14] [(5,501)]
def Q0 {N fr a0 r} (h:Y9 N fr a0=some r):Spec prog 200 [(1003,p9 fr [] 1005)] [.ep 1003 a0 10 0] (.agg (eV r.1)) [(1003,p9 r.2 [] 5),(5,.aF)] [5]:=by
 refine so func200 ntmps200 fun e hn=>?_;unfold Y9 at h;refine B [3,2] fun b a h=>?_;refine gC (gD 1003 501 502 a0 8 a) ?_;refine kd [0,2] [2,501,502,1003] ?_;refine S [8] ?_;refine hD a ?_;refine hD a ?_;refine B [13,12] fun _ c h=>?_;refine X8 c ?_;refine K6 (l6 c).2 ?_;refine S [2,8] ?_;refine hD a ?_;refine hD a ?_;refine A [13,12] fun d h=>?_;refine j8 d rfl rfl ?_;refine hS a ?_;refine gC (gA 1003 27 503 a0 8 a (⟨b.aK,b.aN,b.aY,b.code,b.aU,b.args,b.a8,(b.aA.take (wr ((b.aA.length:Int)-(1:Int))).toNat),b.aJ⟩:j3)) ?_;refine kd [0,2,3] [2,3,503,1003] ?_;exact Sr [3,7] [(5,503)]
def FQ {N a0 a1 a2 b0 r} (h:p7 N a0 a1 a2 b0=some r):Spec prog 126 [] [.agg (bW a0),.int a1,.str a2,.fp (Q7 b0)] (.ab [.int r.1,.int r.2]) [] []:=by
 refine so func126 ntmps126 fun b hn=>?_;unfold p7 at h;refine B [3,3] fun _ a h=>?_;refine cA (jT a) ?_;exact Sr [7]
def zy {N a0 a1 a2 a3 r} (h:jS N a0 a1 a2 a3=some r) {j:Nat} {c:List AV} {k:Nat}:Spec prog 229 [(1000,mB a0 (.fn j [.ptr 1007 0,.fp c]) (.fn k []) 1001 1003),(1001,.box [E9 a0.w.a7,.aL 1002,.int a0.w.aB] 40),(1002,F3 a0.w.heap [] 1004)] [.ptr 1000 0,.agg (eV a1),.int a2,.agg (eV a3)] (.ab []) [(1000,mB r (.fn j [.ptr 1007 0,.fp c]) (.fn k []) 1001 1003),(1001,.box [E9 a0.w.a7,.aL 1002,.int a0.w.aB] 40),(1002,F3 r.w.heap [] 3),(3,.aF)] [3]:=by
 refine so func229 ntmps229 fun p hn=>?_;unfold jS at h;refine S [15,3,2] ?_;refine J e0 hn h (fun s=>[(40,.bool s)]) (fun s=>[(501,.aF),(1002,F3 a0.w.heap [] 501)]) [0,2,5,7] [5,7,1000,1001] (fun _ h g=>?_) ?_
 ·rcases qP h with⟨b,h⟩|⟨o,b,h⟩
  ·refine kd [0,2,5,7] [5,7,1000,1001,1002] ?_;refine I [8] ?_ ?_<;>intro _ h
   ·refine I [0,13,0] ?_ ?_<;>intro _ h
    ·cases h
    refine S [0] ?_;refine gE (gS 1002 501) ?_;exact je
   refine S [0] ?_;refine gE (gS 1002 502) ?_;exact je [(501,502)]
  refine gC (gD 1002 503 504 a1.n.toNat 1 b) ?_;refine kd [0,2,5,7] [5,7,503,504,1000,1001,1002] ?_;refine I [8] ?_ ?_<;>intro _ h
  ·refine I [0,13,0] ?_ ?_<;>intro _ h
   ·refine B [0] fun _ e h=>?_;refine iD e ?_;refine S [0] ?_;refine hD b ?_;refine S [0,13,0] ?_;refine gE (gB 1002 503 505 a1.n.toNat 1 b) ?_;exact je [(501,505)]
   refine S [0] ?_;refine gE (gB 1002 503 506 a1.n.toNat 1 b) ?_;exact je [(501,506)]
  refine S [0] ?_;refine gE (gB 1002 503 507 a1.n.toNat 1 b) ?_;exact je [(501,507)]
 intro m h;refine J e0 hn h (fun s=>[]) (fun s=>[(508,.aF),(1002,F3 s [] 508)]) [0] [1000,1001] (fun _ h g=>?_) ?_
 ·refine I [4] ?_ ?_<;>intro _ h
  ·rcases qP h with⟨a,h⟩|⟨i,a,h⟩
   ·cases h
   refine gC (gD 1002 508 509 a1.n.toNat 1 a) ?_;refine kd [0,2,5,7] [5,7,508,509,1000,1001,1002] ?_;refine B [8] fun _ f h=>?_;refine iD f ?_;refine hD a ?_;refine B [] fun _ d h=>?_;refine X8 d ?_;refine sM (l6 d).2 a3 ?_;refine gE (gA 1002 508 510 a1.n.toNat 1 a (⟨i.cls,(i.aI.set a2.toNat a3)⟩:Ob)) ?_;exact je [(508,510)]
  exact Sj [1] [(508,501)]
 intro l h;exact Sr [14] [(3,508)]
def FW {N a0 b0 r} (h:sA N a0 b0=some r):Spec prog 205 [] [.agg (V5 a0),.fp [.int b0]] (.bool r) [] []:=by
 refine so func205 ntmps205 fun a hn=>?_;unfold sA at h;exact Sr [3,3,7]
theorem d97 (N:Nat) (c:Int):∀(l:List Ln) (k:Nat),C8 N (fun x=>sA N x c) l k=some (match l.findIdx? (fun t=>decide (t.cls=c)) with|some i=>.ret ((k+i:Nat):Int)|none=>.next ())
  |[],k=>rfl
  |x::l,k=>by
    rw[C8,nV,d97 N c l (k+1)];unfold sA;by_cases e:x.cls=c
    · simp[e]
    · cases l.findIdx? (fun t=>decide (t.cls=c))<;>simp[e];omega
def Hl (N:Nat) (c:Int) (l:List Ln):R9 N l (fun x=>sA N x c)=some (decide (0<=fw (fun t=>decide (t.cls=c)) l)):=by
  unfold R9 I9 fw;rw[d97];cases l.findIdx? (fun t=>decide (t.cls=c))<;>simp
def eb (t:Tl):List AV:=[.int t.site.cls,.str t.site.name,.int t.site.pos]
def dI (t:Tl):List AV×List (List AV):=(eb t,t.a7.map V5)
def DO (l:List Tl):dy 2 (l.map dI)=l.map hX:=by simp[dy,dI,eb,hX]
theorem d93 (N:Nat) (s:St):∀(l:List Tl) (k:Nat),F4 N (fun x=>rz N x s) l k=some (match l.findIdx? (fun t=>decide (t.site=s)) with|some i=>.ret ((k+i:Nat):Int)|none=>.next ())
  |[],k=>rfl
  |x::l,k=>by
    rw[F4,nV,d93 N s l (k+1)];unfold rz;rw[show dG (bW x.site) (bW s)=decide (x.site=s) from zH x.site s];by_cases e:x.site=s
    · simp[e]
    · cases l.findIdx? (fun t=>decide (t.site=s))<;>simp[e];omega
def Lq (N:Nat) (s:St) (l:List Tl):U4 N l (fun x=>rz N x s)=some (fw (fun t=>decide (t.site=s)) l):=by
  unfold U4 fw;rw[d93];cases l.findIdx? (fun t=>decide (t.site=s))<;>simp
def Gv {N a0 a1 r} (h:sJ N a0 a1=some r):Spec prog 209 [] [jA a0,.agg (bW a1)] (.ab [.int r.1,.int r.2]) [] []:=by
 refine so func209 ntmps209 fun G hn=>?_;unfold sJ at h;refine S [3,3,2,3] ?_;refine O1 fun j=>?_;refine LR e0 hn ((-1:Int),(0:Int)) (fun l k v=>my N a1 l k v.1 v.2) h (fun e v=>[(6,.int v.1),(7,.int v.2),(14,.int (e:Int))]) (fun e v=>[]) [3,12,13] [3] [] (fun s=>[(6,.int s.1),(7,.int s.2)]) (fun s=>[]) [] [] ?_ ?_ ?_
 ·rintro _ g e ⟨u,w⟩ h _;rw[my] at h;exact Sj [3,2,4,0,20]
 ·rintro _ g e ⟨u,w⟩ C f h _ b _;rw[my] at h;refine S [3,2,4,0,1,2] ?_;refine J e0 hn h (fun s=>[(6,.int s.1),(7,.int s.2)]) (fun s=>[]) [3,12,13,14] [3] (fun _ h g=>?_) ?_
  ·refine S [6,3] ?_;refine W9 b ?_;refine I [2,3,4] ?_ ?_<;>intro _ h
   ·exact Sj [20]
   refine S [1,3] ?_;refine O1 fun d=>?_;refine LR e0 hn (u,w) (fun l k v=>mq N l k v.1 v.2) h (fun a v=>[(6,.int v.1),(7,.int v.2),(25,.int (a:Int))]) (fun a v=>[]) [3,12,13,14,23,24] [3] [] (fun s=>[(6,.int s.1),(7,.int s.2)]) (fun s=>[]) [3,12,13,14] [3] ?_ ?_ ?_
   ·rintro _ g a ⟨o,p⟩ h _;rw[mq] at h;exact Sj [3,2,4,0,20]
   ·rintro _ g a ⟨o,p⟩ D i h _ c _;rw[mq] at h;refine S [3,2,4,0,1,2] ?_;refine J e0 hn h (fun s=>[(6,.int s.1),(7,.int s.2)]) (fun s=>[]) [3,12,13,14,23,24,25] [3] (fun _ h g=>?_) ?_
    ·refine S [6,3] ?_;refine W9 c ?_;refine S [2] ?_;refine Jb 48 hn h [3,6,7,11,12,13,14,23,24,25] [3,11] (fun _ h g=>?_) ?_
     ·refine I [5] ?_ ?_<;>intro _ h
      ·exact Sj [0]
      refine I [0] ?_ ?_<;>intro _ h
      ·refine I [0] ?_ ?_<;>intro _ h
       ·exact Sj [0]
       exact Sj [0]
      exact Sj [0]
     intro z h;refine J e0 hn h (fun s=>[(6,.int s.1),(7,.int s.2)]) (fun s=>[]) [3,12,13,14,23,24,25] [3] (fun _ h g=>?_) ?_
     ·refine I [4] ?_ ?_<;>intro _ h
      ·exact Sj [8]
      exact Sj [1]
     rintro⟨A,B⟩ h;exact je
    rintro⟨q,t⟩ h;refine S [5] ?_;refine MA (AN (U9 c d) ?_);exact le (q,t) []
   rintro⟨x,y⟩ h;exact je
  rintro⟨m,n⟩ h;refine S [5] ?_;refine MA (AN (U9 b j) ?_);exact le (m,n) []
 rintro⟨E,F⟩ h;exact Sr [3,7]
def HA {N a0 a1 r} (h:sW N a0 a1=some r):Spec prog 210 [] [jA a0,.agg (bW a1)] (.int r) [] []:=by
 refine so func210 ntmps210 fun w hn=>?_;unfold sW at h;refine S [3,3,2,3] ?_;refine O1 fun j=>?_;refine LR e0 hn (0:Int) (fun l k v=>nG N a1 l k v) h (fun f v=>[(5,.int v),(12,.int (f:Int))]) (fun f v=>[]) [3,10,11] [3] [] (fun s=>[(5,.int s)]) (fun s=>[]) [] [] ?_ ?_ ?_
 ·intro _ g f p h _;rw[nG] at h;exact Sj [3,2,4,0,20]
 ·intro _ g f p t m h _ b _;rw[nG] at h;refine S [3,2,4,0,1,2] ?_;refine J e0 hn h (fun s=>[(5,.int s)]) (fun s=>[]) [3,10,11,12] [3] (fun _ h g=>?_) ?_
  ·refine S [6,3] ?_;refine W9 b ?_;refine I [2,3,4] ?_ ?_<;>intro _ h
   ·exact Sj [20]
   refine S [1,3] ?_;refine O1 fun d=>?_;refine LR e0 hn p (fun l k v=>nI N l k v) h (fun a v=>[(5,.int v),(23,.int (a:Int))]) (fun a v=>[]) [3,10,11,12,21,22] [3] [] (fun s=>[(5,.int s)]) (fun s=>[]) [3,10,11,12] [3] ?_ ?_ ?_
   ·intro _ g a e h _;rw[nI] at h;exact Sj [3,2,4,0,20]
   ·intro _ g a e o i h _ c _;rw[nI] at h;refine S [3,2,4,0,1,2,6,3] ?_;refine W9 c ?_;refine S [5,12,5] ?_;refine MA (AN (U9 c d) ?_);exact le (wr (e+o.found)) []
   intro q h;exact je
  intro n h;refine S [5] ?_;refine MA (AN (U9 b j) ?_);exact le n []
 intro u h;exact Sr [3,7]
def Ed {N a0 g1 r} (h:V9 N a0 g1=some r) {j:Nat} (e:∀c m,g1 c=some m->Spec prog j [] [.agg (bc c)] (.bool m) [] []):Spec prog 232 [] [oT a0,.fn j []] (.int r) [] []:=by
 refine so func232 ntmps232 fun o hn=>?_;unfold V9 at h;refine S [3,2,3] ?_;refine O1 fun f=>?_;refine LR e1 hn () (fun l k v=>G7 N g1 l k) h (fun d v=>[(8,.int (d:Int))]) (fun d v=>[]) [0,1,7] [] [] (fun s=>[]) (fun s=>[]) [] [] ?_ ?_ ?_
 ·intro _ g d _ h _;rw[G7] at h;exact Sj [3,2,4,0,20]
 ·intro _ g d _ n i h _ b _;rw[G7] at h;refine S [3,2,4,0,1,2,6,3,3] ?_;refine W9 b ?_;refine B [] fun _ a h=>?_;refine cA (e _ _ a) ?_;refine I [4] ?_ ?_<;>intro _ h
  ·exact Sr [3,7]
  refine S [1,5] ?_;refine MA (AN (U9 b f) ?_);exact le () []
 rintro⟨⟩ h;exact Sr [3,7]
def Eg {N a0 g1 r} (h:U5 N a0 g1=some r) {d:Nat} (b:∀a e,g1 a=some e->Spec prog d [] [.agg (bc a)] (.bool e) [] []):Spec prog 206 [] [oT a0,.fn d []] (.bool r) [] []:=by
 refine so func206 ntmps206 fun f hn=>?_;unfold U5 at h;refine B [3,3] fun _ c h=>?_;refine cA (Ed c b) ?_;exact Sr [7]
def GF {N a0 r} (h:oo N a0=some r):Spec prog 207 [] [.agg (bc a0)] (.bool r) [] []:=by
 refine so func207 ntmps207 fun b hn=>?_;unfold oo at h;refine S [3,2] ?_;refine Jb 2 hn h [] [] (fun _ h g=>?_) ?_
 ·refine I [5] ?_ ?_<;>intro _ h
  ·exact Sj [0]
  exact Sj [0]
 intro a h;exact Sr [7]
def Ar {N a0 r} (h:p6 N a0=some r):Spec prog 175 [] [.agg (J2 a0)] (.bool r) [] []:=by
 refine so func175 ntmps175 fun d hn=>?_;unfold p6 at h;refine S [3,2] ?_;refine Jb 2 hn h [] [] (fun _ h g=>?_) ?_
 ·refine I [5] ?_ ?_<;>intro _ h
  ·refine B [0] fun _ a h=>?_;refine cA (Eg a (fun _ _ b=>GF b)) ?_;exact Sj [0]
  exact Sj [0]
 intro c h;exact Sr [7]
def Ga {N a0 a1 a2 a3 a4 r} (h:s8 N a0 a1 a2 a3 a4=some r):Spec prog 178 [] [.agg (Q7 a0),jA a1,.agg (bW a2),.str a3,.int a4] (.int r) [] []:=by
 refine so func178 ntmps178 fun m hn=>?_;unfold s8 at h;refine B [3,3] fun _ i h=>?_;refine cA (Gv i) ?_;refine B [2,3] fun _ j h=>?_;refine cA (HA j) ?_;refine S [2] ?_;refine Jb 36 hn h [3,4,5,11] [5] (fun _ h g=>?_) ?_
 ·refine kd [3,4,5,11,12,13] [5] ?_;refine I [5] ?_ ?_<;>intro _ h
  ·exact Sj [0]
  refine I [0] ?_ ?_<;>intro _ h
  ·exact Sj [0]
  exact Sj [0,12,0]
 intro l h;refine I [4] ?_ ?_<;>intro _ h
 ·exact Sr [3,7]
 refine B [1,3] fun _ a h=>?_;refine cA (jT a) ?_;refine S [2,2] ?_;refine Jb 72 hn h [11] [] (fun _ h g=>?_) ?_
 ·refine I [5] ?_ ?_<;>intro _ h
  ·exact Sj [0]
  refine B [0] fun _ c h=>?_;refine H5 c ?_;refine B [0] fun _ d h=>?_;refine H5 d ?_;refine B [0] fun _ b h=>?_;refine cA (Ar b) ?_;refine I [0] ?_ ?_<;>intro _ h
  ·exact Sj [0]
  refine B [0] fun _ e h=>?_;refine H5 e ?_;refine B [0] fun _ f h=>?_;refine H5 f ?_;exact Sj [0]
 intro k h;refine I [4] ?_ ?_<;>intro _ h
 ·exact Sr [3,7]
 exact Sr [1,3,7]
def Eo {N a0 a1 a2 r} (h:r8 N a0 a1 a2=some r):Spec prog 174 [(1000,.box [.fp (Q7 a0.w),.fp (J2 a0.m),.aL 1001,.int a0.a8,.aL 1002,.aL 1003] 260),(1001,cU a0.out),(1002,w3 a0.aJ),(1003,w3 a0.fix)] [.ptr 1000 0,.int a1,.str a2] (Hj J2 r.1) [(1000,.box [.fp (Q7 r.2.w),.fp (J2 r.2.m),.aL 2,.int r.2.a8,.aL 3,.aL 4] 260),(2,cU r.2.out),(1001,.aF),(3,w3 r.2.aJ),(1002,.aF),(4,w3 r.2.fix),(1003,.aF)] [2,3,4]:=by
 refine so func174 ntmps174 fun d hn=>?_;unfold r8 at h;refine rB 1000 2 1001 320 ?_;refine rB 1000 4 1002 321 ?_;refine rB 1000 5 1003 322 ?_;refine B [3,3] fun _ a h=>?_;refine cA (jT a) ?_;refine S [2] ?_;refine kd [0,7,8] [320,321,322,1000,1001,1002,1003] ?_;refine I [3,4] ?_ ?_<;>intro _ h
 ·exact Sr [3,7] [(2,320),(3,321),(4,322)]
 refine B [1,3] fun _ b h=>?_;refine H5 b ?_;refine B [] fun _ c h=>?_;refine H5 c ?_;exact Sr [7] [(2,320),(3,321),(4,322)]
def H8 {N a0 a1 a2 a3 a4 r} (h:G8 N a0 a1 a2 a3 a4=some r):Spec prog 208 [(1000,.box [.fp (Q7 a0.w),.fp (J2 a0.m),.aL 1001,.int a0.a8,.aL 1002,.aL 1003] 260),(1001,cU a0.out),(1002,w3 a0.aJ),(1003,w3 a0.fix)] [.ptr 1000 0,.int a1,.int a2,.int a3,.int a4] (.ab []) [(1000,.box [.fp (Q7 r.w),.fp (J2 r.m),.aL 2,.int r.a8,.aL 3,.aL 4] 260),(2,cU r.out),(1001,.aF),(3,w3 r.aJ),(1002,.aF),(4,w3 r.fix),(1003,.aF)] [2,3,4]:=by
 refine so func208 ntmps208 fun b hn=>?_;unfold G8 at h;refine rB 1000 2 1001 320 ?_;refine rB 1000 4 1002 321 ?_;refine rB 1000 5 1003 322 ?_;refine S [15,5] ?_;refine bS bc [(⟨a1,a2,a3,a4,BY⟩:Ins)] ?_;refine A [] fun a h=>?_;refine aM a ?_;exact Sr [14] [(2,21),(3,321),(4,322)]
def K9 {N a0 a1 r} (h:F5 N a0 a1=some r) {d:Nat} {a:List AV} {e:Nat} {b:List AV} {c:List AV}:Spec prog 165 [(1000,mB a0 (.fn d [.fp a]) (.fn e [.fp b,.fp c]) 1001 1003)] [.ptr 1000 0,.int a1] (.ab []) [(1000,mB r (.fn d [.fp a]) (.fn e [.fp b,.fp c]) 1001 1003)] []:=by
 refine so func165 ntmps165 fun i hn=>?_;unfold F5 at h;refine S [15,3] ?_;refine J e0 hn h (fun s=>[]) (fun s=>[(1000,.box [.ptr 1001 0,.fn d [.fp a],.fn e [.fp b,.fp c],.int a0.aE,.int a0.aH,.int a0.aO,.aL 1003,.int a0.back.k,.int a0.back.n,.int s] 251)]) [0] [] (fun _ h g=>?_) ?_
 ·refine I [4] ?_ ?_<;>intro _ h
  ·exact Sj [5]
  exact Sj [1]
 intro f h;exact Sr [14]
def wD {N a0 a1 r} (h:N7 N a0 a1=some r) {f:Nat} {a:List AV} {i:Nat} {b:List AV} {c:List AV}:Spec prog 195 [(1000,mB a0 (.fn f [.fp a]) (.fn i [.fp b,.fp c]) 1001 1003),(1003,p9 a0.aG [] 1005)] [.ptr 1000 0,.bool a1] (.bool r.1) [(1000,mB r.2 (.fn f [.fp a]) (.fn i [.fp b,.fp c]) 1001 1003),(1003,p9 a0.aG [] 1005)] []:=by
 refine so func195 ntmps195 fun y hn=>?_;unfold N7 at h;refine S [3,2] ?_;refine J e1 hn h (fun s=>[]) (fun s=>[(1000,.box [.ptr 1001 0,.fn f [.fp a],.fn i [.fp b,.fp c],.int s.1,.int s.2.1,.int s.2.2.1,.aL 1003,.int s.2.2.2.1,.int s.2.2.2.2.1,.int s.2.2.2.2.2] 251)]) [0] [1003] (fun _ h g=>?_) ?_
 ·refine S [6,2,8] ?_;refine J e1 hn h (fun s=>[]) (fun s=>[(1000,.box [.ptr 1001 0,.fn f [.fp a],.fn i [.fp b,.fp c],.int s.1,.int s.2.1,.int s.2.2.1,.aL 1003,.int s.2.2.2.1,.int s.2.2.2.2.1,.int s.2.2.2.2.2] 251)]) [0] [1003] (fun _ h g=>?_) ?_
  ·refine I [4] ?_ ?_<;>intro _ h
   ·refine B [5] fun _ d h=>?_;refine cA (K9 d) ?_;exact je
   refine S [2] ?_;refine Jb 24 hn h [0] [1000,1003] (fun _ h g=>?_) ?_
   ·refine I [5] ?_ ?_<;>intro _ h
    ·exact Sj [0,13,0]
    exact Sj [0]
   intro n h;refine I [4] ?_ ?_<;>intro _ h
   ·refine B [5] fun _ e h=>?_;refine cA (K9 e) ?_;exact je
   exact Sr [3,12,3,7]
  rintro⟨w,x,j,k,l,m⟩ h;exact je
 rintro⟨o,p,q,t,u,v⟩ h;exact Sr [3,7]
def zv {N a0 a1 r} (h:Q6 N a0 a1=some r) {i:Nat} {c:List AV} {j:Nat} {d:List AV} {e:List AV}:Spec prog 197 [(1000,mB a0 (.fn i [.fp c]) (.fn j [.fp d,.fp e]) 1001 1003),(1003,p9 a0.aG [] 1005)] [.ptr 1000 0,.agg (eV a1)] (.ab []) [(1000,mB r (.fn i [.fp c]) (.fn j [.fp d,.fp e]) 1001 1003),(1003,p9 r.aG [] 5),(5,.aF)] [5]:=by
 refine so func197 ntmps197 fun k hn=>?_;unfold Q6 at h;refine I [15,3,2,3,13,4] ?_ ?_<;>intro _ h
 ·refine S [3] ?_;refine gC (gS 1003 501) ?_;exact Sr [7] [(5,501)]
 refine B [1,2,8,13,12] fun b a h=>?_;refine iD a ?_;refine gC (gD 1003 502 503 ((wr ((a0.aG.length:Int)-(1:Int))).toNat) 8 (l6 a).2) ?_;refine kd [0,3,4] [3,502,503,1000,1003] ?_;refine S [8] ?_;refine hD (l6 a).2 ?_;refine bS eV [a1] ?_;refine A [] fun f h=>?_;refine aM f ?_;refine hS (l6 a).2 ?_;refine gE (gA 1003 33 504 ((wr ((a0.aG.length:Int)-(1:Int))).toNat) 8 ((l6 a).2) (⟨b.aK,b.aN,b.aY,b.code,b.aU,b.args,b.a8,(b.aA++[a1]),b.aJ⟩:j3)) ?_;exact Sr [14] [(5,504)]
def zx {N a0 a1 a2 r} (h:P9 N a0 a1 a2=some r) {i:Nat} {a:List AV} {j:Nat} {b:List AV} {c:List AV}:Spec prog 199 [(1000,mB a0 (.fn i [.fp a]) (.fn j [.fp b,.fp c]) 1001 1003),(1003,p9 a0.aG [] 1005)] [.ptr 1000 0,.ep 1003 a1 10 0,.int a2] (.ab []) [(1000,mB r (.fn i [.fp a]) (.fn j [.fp b,.fp c]) 1001 1003),(1003,p9 r.aG [] 5),(5,.aF)] [5]:=by
 refine so func199 ntmps199 fun y hn=>?_;unfold P9 at h;refine B [15,2,3] fun d f h=>?_;refine K6 f ?_;refine J e0 hn h (fun s=>[]) (fun s=>[(1000,.box [.ptr 1001 0,.fn i [.fp a],.fn j [.fp b,.fp c],.int s.1,.int s.2.1,.int s.2.2.1,.aL 1003,.int s.2.2.2.1,.int s.2.2.2.2.1,.int s.2.2.2.2.2] 251)]) [0,1,2] [1003] (fun _ h g=>?_) ?_
 ·refine I [4] ?_ ?_<;>intro _ h
  ·refine S [3,12,3] ?_;refine J e0 hn h (fun s=>[]) (fun s=>[(1000,.box [.ptr 1001 0,.fn i [.fp a],.fn j [.fp b,.fp c],.int s.1,.int s.2.1,.int s.2.2.1,.aL 1003,.int s.2.2.2.1,.int s.2.2.2.2.1,.int s.2.2.2.2.2] 251)]) [0,1,2] [1003] (fun _ h g=>?_) ?_
   ·refine I [4] ?_ ?_<;>intro _ h
    ·refine kd [0,1,2] [1000,1003] ?_;refine B [5] fun _ e h=>?_;refine cA (K9 e) ?_;exact je
    exact Sj [1]
   rintro⟨k,l,m,n,o,p⟩ h;exact je
  exact Sj [1]
 rintro⟨q,t,u,v,w,x⟩ h;refine S [5] ?_;refine sD f (⟨d.aK,d.aN,d.aY,d.code,d.aU,d.args,d.a8,d.aA,a2⟩:j3) ?_;refine gE (gS 1003 501) ?_;exact Sr [14] [(5,501)]
def Gm {N a0 a1 a2 b0 r} (h:pO N a0 a1 a2 b0=some r):Spec prog 131 [] [.agg (bW a0),.int a1,.str a2,.fp (Q7 b0)] (.ab [.int r.1,.int r.2]) [] []:=by
 refine so func131 ntmps131 fun b hn=>?_;unfold pO at h;refine B [3,3] fun _ a h=>?_;refine cA (jT a) ?_;exact Sr [7]
def H4 {N a0 a1 r} (h:pR N a0 a1=some r):Spec prog 38 [] [.fp (Q7 a0),.fp (J2 a1)] (.bool r) [] []:=by
 refine so func38 ntmps38 fun e hn=>?_;unfold pR at h;refine B [3,2,8] fun _ a h=>?_;refine cA (jT a) ?_;refine S [2] ?_;refine Jb 4 hn h [] [] (fun _ h g=>?_) ?_
 ·refine kd [0,1,6] [] ?_;refine I [8] ?_ ?_<;>intro _ h
  ·refine B [0] fun _ b h=>?_;refine H5 b ?_;refine B [0] fun _ c h=>?_;refine H5 c ?_;refine I [0] ?_ ?_<;>intro _ h
   ·refine I [0] ?_ ?_<;>intro _ h
    ·refine I [0] ?_ ?_<;>intro _ h
     ·exact Sj [0,13,0]
     exact Sj [0]
    exact Sj [0]
   exact Sj [0]
  exact Sj [0]
 intro d h;exact Sr [7]
end
end Go.Proofs.YtibjcppjfkamhaaGreatDoor
