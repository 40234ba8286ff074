import Derived.Test.YtibjcppjfkamhaaGreatDoorC
set_option linter.unusedVariables false
set_option linter.defProp false
set_option linter.unusedSimpArgs false
namespace Go.Proofs.YtibjcppjfkamhaaGreatDoor
open Go.RowKit Go.Proofs.Tryz
open _root_.And renaming intro->AN
open _root_.Bool renaming and_eq_true->IT
open _root_.ByteArray renaming empty->BY
open _root_.List renaming getElem?_eq_some_iff->ME,replicate->MI,map->MJ,mem_of_getElem?->MP,all_eq_true->MR,length_map->MW,getElem?_set->MY,getElem?_append_right->Ma,length_take->Mq
open _root_.Nat renaming ble->IN,le_refl->It,le_of_ble_eq_true->MZ,mul_le_mul_right->Mt
open _root_.Or renaming inl->MF
section
set_option maxHeartbeats 40000000
set_option maxRecDepth 100000
def wT {N r} (h:pH N =some r):Spec prog 30 [] [] (.agg (Y7 r)) [] []:=by
 refine so func30 ntmps30 fun b hn=>?_;unfold pH at h;refine B [3,3] fun _ a h=>?_;refine cA (BF N _ a) ?_;exact Sr [7]
def Fc (N:Nat) (l:List Int) (r:List Int) (h:wQ N l=some r):Spec prog 63 [] [.sl 1 (MJ (oJ .u8) l)] (.aK 0) [(0,.row 1 (MJ (oJ .u8) r) 5)] [0]:=by
  obtain⟨d,h⟩:=j7 h;obtain rfl:=oI h;refine Spec.of eg func63 rfl ntmps63 C8 rfl rfl rfl fun f hn=>?_;refine H6 hn ?_;refine j6.seq (j6.seq (j6.ops (jv hn 1 ?_)));refine cY.gh (Gh.nil 3 rfl) ?_;rintro⟨b,c⟩;refine jv hn 1 (cY.done ?_);(repeat (first|refine H6 hn ?_|refine M4 hn ?_|refine O1 hn ?_|refine M3 hn ?_|refine M0 hn ?_|refine K7 hn ?_|refine ao hn ?_));refine nq (fun a=>?_) (fun a=>?_)
  · have e:l=[]:=by simpa using c a
    subst e;refine H6 hn ?_;refine j6.bG 2 5 1 5 rfl rfl rfl ?_;(repeat (first|refine H6 hn ?_|refine M4 hn ?_|refine O1 hn ?_|refine M3 hn ?_|refine M0 hn ?_|refine K7 hn ?_|refine ao hn ?_));exact⟨[(0,5)],_,rfl,rfl,⟨rfl,trivial⟩,rfl,rfl,rfl,rfl,rfl⟩
  · (repeat (first|refine H6 hn ?_|refine M4 hn ?_|refine O1 hn ?_|refine M3 hn ?_|refine M0 hn ?_|refine K7 hn ?_|refine ao hn ?_));refine Exists.intro [] (AN trivial ?_);refine AN (by have:=MZ d;simpa using this) ?_;refine Exists.intro (MJ (oJ .u8) l) (AN (O4 _) ?_);(repeat (first|refine H6 hn ?_|refine M4 hn ?_|refine O1 hn ?_|refine M3 hn ?_|refine M0 hn ?_|refine K7 hn ?_|refine ao hn ?_));exact⟨[(0,7)],_,rfl,rfl,⟨rfl,trivial⟩,rfl,rfl,rfl,rfl,rfl⟩
def qp {N a0 r} (h:kE N a0=some r):Spec prog 36 [] [.str a0] (.bool r) [] []:=by
 refine so func36 ntmps36 fun m hn=>?_;unfold kE at h;refine S [3,2,2] ?_;refine Jb 11 hn h [0] [] (fun _ h g=>?_) ?_
 ·exact F8 [5,18] [0] [0,18,0]
 intro j h;refine Ir [4] [3,7] fun _ h=>?_;refine S [1,2,3,18] ?_;refine j6.cK 13 rfl (fun b=>?_);refine LU e1 hn () (fun l k v=>nF N a0 l k) h (fun e v=>[(14,.int (e:Int))]) (fun e v=>[]) [0,13] [] [] nl nl [] [] ?_ ?_ ?_
 ·intro _ g e _ h _;rw[nF] at h;exact Sj [3,2,4,0,20]
 ·intro _ g e _ f h a _;rw[nF] at h;refine S [3,2,4,0,1,2,6,3,2] ?_;refine Jb 26 hn h [0,13,14] [] (fun _ h g=>?_) ?_
  ·refine B [5] fun _ c h=>?_;refine uw c ?_;refine Ij [10] [0] fun _ h=>?_;refine B [0] fun _ d h=>?_;refine uw d ?_;exact Sj [0,10,0]
  intro i h;refine Ir [4] [3,7] fun _ h=>?_;refine S [1,5] ?_;refine MF (AN (jc a b) ?_);exact le () []
 rintro⟨⟩ h;exact Sr [3,7]
def F0 {N a0 b0 r} (h:p7 N a0 b0=some r):Spec prog 96 [] [.agg (fI a0),.fp [.str b0]] (.bool r) [] []:=by
 refine so func96 ntmps96 fun a hn=>?_;unfold p7 at h;exact Sr [3,3,7]
def FK {N a0 r} (h:rZ N a0=some r):Spec prog 108 [] [.agg (bd a0)] (.aZ [.int r.1,.int r.2]) [] []:=by
 refine so func108 ntmps108 fun b hn=>?_;unfold rZ at h;refine S [3,2,3,6,2,3] ?_;refine Jb 6 hn h [1,5] [1] (fun _ h g=>?_) ?_
 ·refine Ij [4] [1] fun _ h=>?_;refine S [3] ?_;refine eA 6 hn h [1,5] [1] [] fun _ h g=>?_;refine Ij [4] [1] fun _ h=>?_;refine S [3] ?_;refine eA 6 hn h [1,5] [1] [] fun _ h g=>?_;refine Ij [4] [1] fun _ h=>?_;refine S [3] ?_;refine eA 6 hn h [1,5] [1] [] fun _ h g=>?_;exact F8 [4] [1] [5]
 intro a h;refine Ir [4] [3,7] fun _ h=>?_;refine Ir [3,4] [3,7] fun _ h=>?_;refine Ir [3,4] [3,12,7] fun _ h=>?_;exact ia [3,4] [3,7] [1,3,7]
def Ac {N a0 a1 r} (h:pD N a0 a1=some r):Spec prog 76 [] [.agg (eV a0),.int a1] (.int r) [] []:=by
 refine so func76 ntmps76 fun d hn=>?_;unfold pD at h;refine S [3,2,3] ?_;refine J e1 hn h nl nl [] [] (fun _ h g=>?_) ?_
 ·refine S [6,2,3] ?_;refine Jb 7 hn h [1,2,6] [2] (fun _ h g=>?_) ?_
  ·refine Ij [4] [1] fun _ h=>?_;refine S [3] ?_;refine eA 7 hn h [1,2,6] [2] [] fun _ h g=>?_;exact F8 [4] [1] [5]
  intro c h;refine Jk e1 hn h nl nl [] [] [] fun _ h g=>?_;refine I [4] ?_ ?_<;>intro _ h
  ·refine Ir [3,4] [3,7] fun _ h=>?_;exact Sj [1]
  refine S [3] ?_;refine Jk e1 hn h nl nl [] [] [] fun _ h g=>?_;refine I [4] ?_ ?_<;>intro _ h
  ·refine S [2] ?_;refine Jb 23 hn h [] [] (fun _ h g=>?_) ?_
   ·exact F8 [5] [0] [0]
   intro a h;refine Ir [4] [3,7] fun _ h=>?_;exact Sj [1]
  refine I [3,4] ?_ ?_<;>intro _ h
  ·refine S [2] ?_;refine Jb 34 hn h [] [] (fun _ h g=>?_) ?_
   ·exact F8 [5] [0] [0]
   intro b h;refine Ir [4] [3,7] fun _ h=>?_;exact Sj [1]
  exact Sr [3,7]
 rintro⟨⟩ h;exact Sr [3,7]
def wA {N a0 a1 a2 r} (h:pb N a0 a1 a2=some r):Spec prog 163 [] [.agg (M8 a0),.agg (kN a1),.int a2] (.int r) [] []:=by
 refine so func163 ntmps163 fun o hn=>?_;unfold pb at h;refine B [3,2,3] fun _ j h=>?_;refine cA (qp j) ?_;refine Ir [4] [3,7] fun _ h=>?_;refine Ir [1,2,3,13,4] [3,7] fun _ h=>?_;refine S [1,2,2] ?_;refine Jb 23 hn h [3,4] [3,4] (fun _ h g=>?_) ?_
 ·exact F8 [5] [0] [0]
 intro n h;refine Ir [4] [3,7] fun _ h=>?_;refine S [1,2,3] ?_;refine bS eV [a1.aR] ?_;refine A [] fun c h=>?_;refine aM c ?_;refine J2 fun d=>?_;refine LR e1 hn () (fun l k v=>nG N a0 a1 l k) h (fun a v=>[(31,.int (a:Int))]) (fun a v=>[]) [3,29,30] [3,29] [] nl nl [] [] ?_ ?_ ?_
 ·intro _ g a _ h _;rw[nG] at h;exact Sj [3,2,4,0,20]
 ·intro _ g a _ m i h _ f _;rw[nG] at h;refine B [3,2,4,0,1,2,6,3] fun _ b h=>?_;refine bT b ?_;refine V8 (l6 b).2 ?_;refine B [3,13] fun _ e h=>?_;refine cA (Ac e) ?_;refine Ir [3,4] [3,7] fun _ h=>?_;refine S [1,5] ?_;refine MF (AN (M7 f d) ?_);exact le () []
 rintro⟨⟩ h;exact Sr [3,7]
def mw {N a0 a1 r} (h:kC N a0 a1=some r):Spec prog 164 [] [jO a0,.agg (eV a1)] (.int r) [] []:=by
 refine so func164 ntmps164 fun d hn=>?_;unfold kC at h;refine Ir [3,2,3,6,3,4] [3,7] fun _ h=>?_;refine S [2,3] ?_;refine Jb 9 hn h [0,3,6] [3] (fun _ h g=>?_) ?_
 ·exact F8 [4] [1] [5]
 intro b h;refine Ir [4] [3,7] fun _ h=>?_;refine Ir [3,4] [3,7] fun _ h=>?_;refine S [1,2,2] ?_;refine Jb 28 hn h [0,3] [3] (fun _ h g=>?_) ?_
 ·refine I [5] ?_ ?_<;>intro _ h
  ·exact F8 [0] [0,13,0] [0]
  exact Sj [0]
 intro c h;refine I [4] ?_ ?_<;>intro _ h
 ·refine B [3] fun _ a h=>?_;refine G6 a ?_;exact Sr [7]
 exact Sr [1,3,7]
def wR {N a0 r} (h:nJ N a0=some r):Spec prog 225 [] [.int a0] (.agg (eV r)) [] []:=by
 refine so func225 ntmps225 fun a hn=>?_;unfold nJ at h;exact Sr [3,3,16,7]
def wY {N a0 r} (h:pT N a0=some r):Spec prog 226 [] [.bool a0] (.agg (eV r)) [] []:=by
 refine so func226 ntmps226 fun a hn=>?_;unfold pT at h;exact ia [3,2,3,4] [3,7] [1,3,7]
def wX {N a0 a1 a2 r} (h:rr N a0 a1 a2=some r):Spec prog 196 [] [.int a0,.agg (eV a1),.agg (eV a2)] (.aZ [.agg (eV r.1),.int r.2]) [] []:=by
 refine so func196 ntmps196 fun i hn=>?_;unfold rr at h;refine S [3,2,2] ?_;refine Jb 16 hn h [0,4,5,6] [4,5,6] (fun _ h g=>?_) ?_
 ·exact F8 [5] [0] [0]
 intro f h;refine Ir [4] [3,7] fun _ h=>?_;refine I [1,3,2,3,6,3,4] ?_ ?_<;>intro _ h
 ·refine B [3,12] fun _ e h=>?_;refine cA (wR e) ?_;exact Sr [7]
 refine I [3,4] ?_ ?_<;>intro _ h
 ·refine B [3,12] fun _ a h=>?_;refine cA (wR a) ?_;exact Sr [7]
 refine I [3,4] ?_ ?_<;>intro _ h
 ·refine B [3,12] fun _ b h=>?_;refine cA (wR b) ?_;exact Sr [7]
 refine I [3,4] ?_ ?_<;>intro _ h
 ·refine B [3] fun _ c h=>?_;refine cA (wY c) ?_;exact Sr [7]
 refine I [3,4] ?_ ?_<;>intro _ h
 ·refine kd [4,5,6] [4,5,6] ?_;refine B [3] fun _ d h=>?_;refine cA (wY d) ?_;exact Sr [7]
 refine S [1] ?_;refine kd [6] [6] ?_;exact Sr [3,7]
def oe {N a0 a1 r} (h:kr N a0 a1=some r) (d e:Value):Spec prog 197 [(1000,mB a0 (.aU d) (.aU e) 1001 1003),(1003,D9 a0.aE [] 1005)] [.ptr 1000 0,.agg (eV a1)] (.aZ []) [(1000,mB r (.aU d) (.aU e) 1001 1003),(1003,D9 r.aE [] 5),(5,.aF)] [5]:=by
 refine so func197 ntmps197 fun f hn=>?_;unfold kr at h;refine I [15,3,2,3,13,4] ?_ ?_<;>intro _ h
 ·refine S [3] ?_;refine gC (gS 1003 501) ?_;exact Sr [7] [(5,501)]
 refine B [1,2,8,13,12] fun b a h=>?_;refine iD a ?_;refine gC (gD 1003 502 503 ((wr ((a0.aE.length:Int)-(1:Int))).toNat) 8 (l6 a).2) ?_;refine kd [0,3,4] [3,502,503,1000,1003] ?_;refine S [8] ?_;refine hD (l6 a).2 ?_;refine bS eV [a1] ?_;refine A [] fun c h=>?_;refine aM c ?_;refine hS (l6 a).2 ?_;refine gE (gA 1003 33 504 ((wr ((a0.aE.length:Int)-(1:Int))).toNat) 8 ((l6 a).2) (⟨b.aI,b.aL,b.aY,b.code,b.aR,b.args,b.a8,(b.aA++[a1]),b.aH⟩:j3)) ?_;exact Sr [14] [(5,504)]
def w7 {N a0 a1 a2 r} (h:oj N a0 a1 a2=some r) (l m:Value):Spec prog 201 [(1000,mB a0 (.aU l) (.aU m) 1001 1003),(1001,.box [N8 a0.w.a7,.aK 1002,.int a0.w.aC] 40),(1002,Q8 a0.w.heap [] 1004),(1003,D9 a0.aE [] 1005)] [.ptr 1000 0,.ep 1003 a1 10 0,.agg (bd a2)] (.aZ []) [(1000,mB r (.aU l) (.aU m) 1001 1003),(1001,.box [N8 a0.w.a7,.aK 1002,.int a0.w.aC] 40),(1002,Q8 a0.w.heap [] 1004),(1003,D9 r.aE [] 5),(5,.aF)] [5]:=by
 refine so func201 ntmps201 fun n hn=>?_;unfold oj at h;refine B [15,3,2,2] fun b a h=>?_;refine gC (gD 1003 501 502 a1 8 a) ?_;refine kd [0,1,5] [5,501,502,1000,1001,1002,1003] ?_;refine S [8] ?_;refine hD a ?_;refine hD a ?_;refine B [13,12,12] fun _ j h=>?_;refine bT j ?_;refine V8 (l6 j).2 ?_;refine B [] fun _ k h=>?_;refine cD (mw k) ?_;refine I [4] ?_ ?_<;>intro _ h
 ·refine gC (gB 1003 501 503 a1 8 a) ?_;exact Sr [7] [(5,503)]
 refine S [1,2] ?_;refine gC (gB 1003 501 504 a1 8 a) ?_;refine kd [0,1,5] [5,504,1000,1001,1002,1003] ?_;refine S [8] ?_;refine V8 a ?_;refine B [] fun _ f h=>?_;refine G6 f ?_;refine V8 a ?_;refine B [] fun d i h=>?_;refine G6 i ?_;refine gC (gD 1003 505 506 a1 7 a) ?_;refine kd [0,1,5,6] [5,505,506,1000,1001,1002,1003] ?_;refine S [8] ?_;refine hD a ?_;refine A [] fun e h=>?_;refine jr e rfl rfl ?_;refine sD a (⟨b.aI,b.aL,false,b.code,b.aR,b.args,b.a8,b.aA,b.aH⟩:j3) ?_;refine sD (setAt a) (⟨b.aI,b.aL,false,d.code,b.aR,b.args,b.a8,b.aA,b.aH⟩:j3) ?_;refine hS (setAt (setAt a)) ?_;refine sD (setAt (setAt a)) (⟨b.aI,b.aL,false,d.code,b.aR,b.args,b.a8,b.aA,a2.c⟩:j3) ?_;refine gE (gA 1003 68 507 a1 7 (setAt (setAt (setAt a))) (⟨b.aI,b.aL,false,d.code,b.aR,b.args,(b.a8.take d.a8.toNat),b.aA,a2.c⟩:j3)) ?_;exact Sr [14] [(5,507)]
def zV {N a0 g1 r} (h:I9 N a0 g1=some r) {m:Nat} {a:List AV} (f:∀d n,g1 d=some n->Spec prog m [] [.agg (V7 d),.fp a] (.bool n) [] []):Spec prog 172 [] [EN a0,.fn m [.fp a]] (.int r) [] []:=by
 refine so func172 ntmps172 fun p hn=>?_;unfold I9 at h;refine S [3,2,3] ?_;refine J2 fun i=>?_;refine LR e1 hn () (fun l k v=>y8 N g1 l k) h (fun e v=>[(8,.int (e:Int))]) (fun e v=>[]) [0,1,7] [] [] nl nl [] [] ?_ ?_ ?_
 ·intro _ g e _ h _;rw[y8] at h;exact Sj [3,2,4,0,20]
 ·intro _ g e _ o j h _ c _;rw[y8] at h;refine S [3,2,4,0,1,2,6,3,3] ?_;refine P9 c ?_;refine B [] fun _ b h=>?_;refine cA (f _ _ b) ?_;refine Ir [4] [3,7] fun _ h=>?_;refine S [1,5] ?_;refine MF (AN (M7 c i) ?_);exact le () []
 rintro⟨⟩ h;exact Sr [3,7]
def Ec {N a0 g1 r} (h:R5 N a0 g1=some r) {e:Nat} {a:List AV} (c:∀b f,g1 b=some f->Spec prog e [] [.agg (V7 b),.fp a] (.bool f) [] []):Spec prog 204 [] [EN a0,.fn e [.fp a]] (.bool r) [] []:=by
 refine so func204 ntmps204 fun i hn=>?_;unfold R5 at h;refine B [3,3] fun _ d h=>?_;refine cA (zV d c) ?_;exact Sr [7]
def FO {N a0 b0 r} (h:ri N a0 b0=some r):Spec prog 205 [] [.agg (V7 a0),.fp [.int b0]] (.bool r) [] []:=by
 refine so func205 ntmps205 fun a hn=>?_;unfold ri at h;exact Sr [3,3,7]
def Q6 (t:Ce):List AV:=[.int t.site.cls,.str t.site.name,.int t.site.pos,.int t.aC,.bool t.many]
def dB (t:Ce):List AV×List (List AV):=(Q6 t,t.lines.map V7)
def CS (l:List Ce):du 2 (l.map dB)=l.map hC:=by simp[du,dB,Q6,hC]
theorem d89 (N:Nat) (s:St):∀(l:List Tl) (k:Nat),F3 N (fun x=>rh N x s) l k=some (match l.findIdx? (fun t=>decide (t.site=s)) with|some i=>.ret ((k+i:Nat):Int)|none=>.next ())
  |[],k=>rfl
  |x::l,k=>by
    rw[F3,nY,d89 N s l (k+1)];unfold rh;rw[show cz (bU x.site) (bU s)=decide (x.site=s) from zA x.site s];by_cases e:x.site=s
    · simp[e]
    · cases l.findIdx? (fun t=>decide (t.site=s))<;>simp[e];omega
def Lq (N:Nat) (s:St) (l:List Tl):U4 N l (fun x=>rh N x s)=some (fk (fun t=>decide (t.site=s)) l):=by
  unfold U4 fk;rw[d89];cases l.findIdx? (fun t=>decide (t.site=s))<;>simp
theorem Di (N:Nat) (c:Int):∀(l:List Ln) (k:Nat),y8 N (fun x=>rW N x c) l k=some (match l.findIdx? (fun t=>decide (t.cls=c)) with|some i=>.ret ((k+i:Nat):Int)|none=>.next ())
  |[],k=>rfl
  |x::l,k=>by
    rw[y8,nY,Di N c l (k+1)];unfold rW;by_cases e:x.cls=c
    · simp[e]
    · cases l.findIdx? (fun t=>decide (t.cls=c))<;>simp[e];omega
def Lp (N:Nat) (c:Int) (l:List Ln):I9 N l (fun x=>rW N x c)=some (fk (fun t=>decide (t.cls=c)) l):=by
  unfold I9 fk;rw[Di];cases l.findIdx? (fun t=>decide (t.cls=c))<;>simp
def Gy {N a0 a1 r} (h:sB N a0 a1=some r):Spec prog 209 [] [jC a0,.agg (bU a1)] (.aZ [.int r.1,.int r.2]) [] []:=by
 refine so func209 ntmps209 fun E hn=>?_;unfold sB at h;refine S [3,3,2,3] ?_;refine J2 fun j=>?_;refine LR e0 hn ((-1:Int),(0:Int)) (fun l k v=>mz N a1 l k v.1 v.2) h (fun e v=>[(6,.int v.1),(7,.int v.2),(14,.int (e:Int))]) (fun e v=>[]) [3,12,13] [3] [] (fun s=>[(6,.int s.1),(7,.int s.2)]) nl [] [] ?_ ?_ ?_
 ·rintro _ g e ⟨u,w⟩ h _;rw[mz] at h;exact Sj [3,2,4,0,20]
 ·rintro _ g e ⟨u,w⟩ A f h _ b _;rw[mz] at h;refine S [3,2,4,0,1,2] ?_;refine J e0 hn h (fun s=>[(6,.int s.1),(7,.int s.2)]) nl [3,12,13,14] [3] (fun _ h g=>?_) ?_
  ·refine S [6,3] ?_;refine P9 b ?_;refine Ij [2,3,4] [20] fun _ h=>?_;refine S [1,3] ?_;refine J2 fun d=>?_;refine LR e0 hn (u,w) (fun l k v=>nD N l k v.1 v.2) h (fun a v=>[(6,.int v.1),(7,.int v.2),(25,.int (a:Int))]) (fun a v=>[]) [3,12,13,14,23,24] [3] [] (fun s=>[(6,.int s.1),(7,.int s.2)]) nl [3,12,13,14] [3] ?_ ?_ ?_
   ·rintro _ g a ⟨o,p⟩ h _;rw[nD] at h;exact Sj [3,2,4,0,20]
   ·rintro _ g a ⟨o,p⟩ B i h _ c _;rw[nD] at h;refine S [3,2,4,0,1,2] ?_;refine J e0 hn h (fun s=>[(6,.int s.1),(7,.int s.2)]) nl [3,12,13,14,23,24,25] [3] (fun _ h g=>?_) ?_
    ·refine S [6,3] ?_;refine P9 c ?_;refine S [2] ?_;refine Jb 48 hn h [3,6,7,11,12,13,14,23,24,25] [3,11] (fun _ h g=>?_) ?_
     ·refine Ij [5] [0] fun _ h=>?_;refine I [0] ?_ ?_<;>intro _ h
      ·exact F8 [0] [0] [0]
      exact Sj [0]
     intro z h;refine Jk e0 hn h (fun s=>[(6,.int s.1),(7,.int s.2)]) nl [3,12,13,14,23,24,25] [3] [] fun _ h g=>?_;exact F8 [4] [8] [1]
    rintro⟨q,t⟩ h;refine S [5] ?_;refine MF (AN (M7 c d) ?_);exact le (q,t) []
   rintro⟨x,y⟩ h;exact je
  rintro⟨m,n⟩ h;refine S [5] ?_;refine MF (AN (M7 b j) ?_);exact le (m,n) []
 rintro⟨C,D⟩ h;exact Sr [3,7]
def Eo {N a0 a1 r} (h:uA N a0 a1=some r):Spec prog 80 [(1000,.box [.np 1000,.aK 1001] 99),(1001,w5 a0)] [.ptr 1000 0,.str a1] (.aZ [.int r.1,.dj r.2.1]) [(1000,.box [.np 1000,.aK 2] 99),(2,w5 r.2.2),(1001,.aF)] [2]:=by
 refine so func80 ntmps80 fun b hn=>?_;unfold uA at h;refine rB 1000 1 1001 320 ?_;refine S [3,3] ?_;refine cA (BA 1000 320) ?_;refine A [3] fun a h=>?_;refine Ht a ?_;exact Sr [3,18,7] [(2,14)]
def Ep {N a0 a1 r} (h:uB N a0 a1=some r):Spec prog 81 [(1000,.box [.np 1000,.aK 1001] 99),(1001,w5 a0)] [.ptr 1000 0,.ik .u8 a1] (.dj r.1) [(1000,.box [.np 1000,.aK 2] 99),(2,w5 r.2),(1001,.aF)] [2]:=by
 refine so func81 ntmps81 fun b hn=>?_;unfold uB at h;refine rB 1000 1 1001 320 ?_;refine S [3,3] ?_;refine cA (BA 1000 320) ?_;refine S [3] ?_;refine bS (oJ .u8) [a1] ?_;refine A [] fun a h=>?_;refine aM a ?_;exact Sr [3,7] [(2,14)]
def uD {N a0 a1 r} (h:ku N a0 a1=some r):Spec prog 46 [(1000,.box [.np 1000,.aK 1001] 99),(1001,w5 a0)] [.ptr 1000 0,.str a1] (.aZ []) [(1000,.box [.np 1000,.aK 2] 99),(2,w5 r),(1001,.aF)] [2]:=by
 refine so func46 ntmps46 fun c hn=>?_;unfold ku at h;refine rB 1000 1 1001 320 ?_;refine B [15,3] fun _ a h=>?_;refine cA (((Eo a).sw 1001 320).sw 2 501) ?_;refine B [5] fun _ b h=>?_;refine cA (((Ep b).sw 1001 501).sw 2 502) ?_;exact Sr [14] [(2,502)]
def mV {N a0 a1 r} (h:V3 N a0 a1=some r):Spec prog 45 [(1000,.box [.np 1000,.aK 1001] 99),(1001,w5 a0),(2000,GL)] [.ptr 1000 0,s3 a1] (.aZ []) [(1000,.box [.np 1000,.aK 2] 99),(2,w5 r),(1001,.aF),(2000,GL)] [2]:=by
 refine so func45 ntmps45 fun o hn=>?_;unfold V3 at h;refine rB 1000 1 1001 320 ?_;refine S [15,3] ?_;refine J2 fun e=>?_;refine LR e0 hn a0 (fun l k v=>Y8 N l k v) h (fun d v=>[(8,.int (d:Int))]) (fun d v=>[(320,w5 v)]) [0,6,7] [1000,1001,2000] [] nl (fun s=>[(320,w5 s)]) [0] [1000,1001,2000] ?_ ?_ ?_
 ·intro _ g d j h _;rw[Y8] at h;exact Sj [3,2,4,0,20]
 ·intro _ g d j m i h _ a _;rw[Y8] at h;refine S [3,2,4,0,1,2,6,3] ?_;refine P9 a ?_;refine B [5] fun _ b h=>?_;refine cA (zj N _ _ b) ?_;refine B [] fun f c h=>?_;refine cA (((uD c).sw 1001 320).sw 2 501) ?_;refine S [5] ?_;refine MF (AN (M7 a e) ?_);exact le f [(320,501)]
 intro n h;exact Sr [14] [(2,320)]
def FC {N a0 a1 r} (h:rU N a0 a1=some r):Spec prog 44 [] [.agg (eV a0),.int a1] (.int r) [] []:=by
 refine so func44 ntmps44 fun e hn=>?_;unfold rU at h;refine S [3,2,2] ?_;refine Jb 12 hn h [1,2] [2] (fun _ h g=>?_) ?_
 ·exact F8 [5] [0] [0]
 intro b h;refine Ir [4] [3,7] fun _ h=>?_;refine S [1,2,2] ?_;refine Jb 20 hn h [1,2] [2] (fun _ h g=>?_) ?_
 ·exact F8 [5] [0] [0]
 intro c h;refine Ir [4] [3,7] fun _ h=>?_;refine S [1,2,2] ?_;refine Jb 33 hn h [1,2] [2] (fun _ h g=>?_) ?_
 ·refine I [5] ?_ ?_<;>intro _ h
  ·exact F8 [0] [0] [0]
  exact Sj [0]
 intro d h;refine Ir [4] [3,7] fun _ h=>?_;refine S [1,2,2] ?_;refine Jb 47 hn h [] [] (fun _ h g=>?_) ?_
 ·refine I [5] ?_ ?_<;>intro _ h
  ·exact F8 [0] [0] [0]
  exact Sj [0]
 intro a h;exact ia [4] [3,7] [1,3,7]
def Fj {N a0 a1 r} (h:rF N a0 a1=some r):Spec prog 56 [] [oW a0,oW a1] (.bool r) [] []:=by
 refine so func56 ntmps56 fun i hn=>?_;unfold rF at h;refine Ir [3,2,3,13,13,4] [3,7] fun _ h=>?_;refine S [1,2,3] ?_;refine J2 fun d=>?_;refine LR e1 hn () (fun l k v=>ma N a1 l k) h (fun c v=>[(13,.int (c:Int))]) (fun c v=>[]) [0,1,12] [] [] nl nl [] [] ?_ ?_ ?_
 ·intro _ g c _ h _;rw[ma] at h;exact Sj [3,2,4,0,20]
 ·intro _ g c _ f e h _ a _;rw[ma] at h;refine S [3,2,4,0,1,2,6,3,2,8] ?_;refine P9 a ?_;refine B [] fun _ b h=>?_;refine G6 b ?_;refine Ir [4] [3,7] fun _ h=>?_;refine S [1,5] ?_;refine MF (AN (M7 a d) ?_);exact le () []
 rintro⟨⟩ h;exact Sr [3,7]
end
end Go.Proofs.YtibjcppjfkamhaaGreatDoor
