import Derived.Test.YtibjcppjfkamhaaDoorC
set_option linter.unusedVariables false
set_option linter.defProp false
set_option linter.unusedSimpArgs false
namespace Go.Proofs.YtibjcppjfkamhaaDoor
open Go.RowKit Go.Proofs.Tryd
open _root_.And renaming intro->A5
open _root_.List renaming replicate->AJ
section
set_option maxHeartbeats 40000000
set_option maxRecDepth 100000
def qE {N a0 a1 r} (h:O9 N a0 a1=some r):Sq 38 [(1000,.box [.np 1000,.aF 1001] 62),(1001,w5 a0)] [.ptr 1000 0,.str a1] (.aS [.int r.1,.bY r.2.1]) [(1000,.box [.np 1000,.aF 2] 62),(2,w5 r.2.2),(1001,.aH)] [2]:=by
 refine so func38 ntmps38 fun b hn=>?_;refine rB 1000 1 1001 320 ?_;refine S [3,3] ?_;refine cA (nQ 1000 320) ?_;refine A [3] fun a h=>?_;refine vH a ?_;exact Sr [3,18,7] [(2,14)]
def qF {N a0 a1 r} (h:Q6 N a0 a1=some r):Sq 39 [(1000,.box [.np 1000,.aF 1001] 62),(1001,w5 a0)] [.ptr 1000 0,.ik .u8 a1] (.bY r.1) [(1000,.box [.np 1000,.aF 2] 62),(2,w5 r.2),(1001,.aH)] [2]:=by
 refine so func39 ntmps39 fun b hn=>?_;refine rB 1000 1 1001 320 ?_;refine S [3,3] ?_;refine cA (nQ 1000 320) ?_;refine S [3] ?_;refine bS (mi .u8) [a1] ?_;refine A [] fun a h=>?_;refine aM a ?_;exact Sr [3,7] [(2,14)]
def U6 {N a0 a1 r} (h:J9 N a0 a1=some r):Sq 20 [(1000,.box [.np 1000,.aF 1001] 62),(1001,w5 a0)] [.ptr 1000 0,.str a1] (.aS []) [(1000,.box [.np 1000,.aF 2] 62),(2,w5 r),(1001,.aH)] [2]:=by
 refine so func20 ntmps20 fun c hn=>?_;refine rB 1000 1 1001 320 ?_;refine B [15,3] fun _ a h=>?_;refine cA (((qE a).sw 1001 320).sw 2 501) ?_;refine B [5] fun _ b h=>?_;refine cA (((qF b).sw 1001 501).sw 2 502) ?_;exact Sr [14] [(2,502)]
def I1 {N a0 a1 r} (h:G5 N a0 a1=some r):Sq 19 [(1000,.box [.np 1000,.aF 1001] 62),(1001,w5 a0),(2000,GL)] [.ptr 1000 0,s3 a1] (.aS []) [(1000,.box [.np 1000,.aF 2] 62),(2,w5 r),(1001,.aH),(2000,GL)] [2]:=by
 refine so func19 ntmps19 fun o hn=>?_;refine rB 1000 1 1001 320 ?_;refine S [15,3] ?_;refine X4 fun e=>?_;refine LR e0 hn a0 (fun l k v=>G9 N l k v) h (fun d v=>[(8,.int (d:Int))]) (fun d v=>[(320,w5 v)]) [0,6,7] [1000,1001,2000] [] nl (fun s=>[(320,w5 s)]) [0] [1000,1001,2000] ?_ ?_ ?_
 ·intro _ g d j h _;rw[G9] at h;exact Sj [3,2,4,0,20]
 ·intro _ g d j m i h _ a _;rw[G9] at h;refine S [3,2,4,0,1,2,6,3] ?_;refine br a ?_;refine B [5] fun _ b h=>?_;refine cA (kX N _ _ b) ?_;refine B [] fun f c h=>?_;refine cA (((U6 c).sw 1001 320).sw 2 501) ?_;refine S [5] ?_;refine Or.inl (A5 (bp a e) ?_);exact le f [(320,501)]
 intro n h;exact Sr [14] [(2,320)]
def qG {N a0 a1 r} (h:V5 N a0 a1=some r):Sq 21 [(1000,.box [.np 1000,.aF 1001] 62),(1001,w5 a0),(2000,GL)] [.ptr 1000 0,.fp (S9 a1)] (.aS []) [(1000,.box [.np 1000,.aF 2] 62),(2,w5 r),(1001,.aH),(2000,GL)] [2]:=by
 refine so func21 ntmps21 fun u hn=>?_;refine rB 1000 1 1001 320 ?_;refine B [15,3] fun _ m h=>?_;refine cA (((U6 m).sw 1001 320).sw 2 501) ?_;refine S [2] ?_;refine kd [0,1] [501,1000,1001,2000] ?_;refine S [8,13] ?_;refine bS Z0 [a1.args,a1.aO,a1.aQ,(a1.code.length:Int)] ?_;refine B [] fun p n h=>?_;refine cF (((I1 n).sw 1001 501).sw 2 502) ?_;refine kd [0,1] [502,1000,1001,2000] ?_;refine S [3] ?_;refine X4 fun j=>?_;refine LR e0 hn p (fun l k v=>F4 N l k v) h (fun f v=>[(37,.int (f:Int))]) (fun f v=>[(502,w5 v)]) [0,35,36] [1000,1001,2000] [] nl (fun s=>[(502,w5 s)]) [0] [1000,1001,2000] ?_ ?_ ?_
 ·intro _ g f t h _;rw[F4] at h;exact Sj [3,2,4,0,20]
 ·intro _ g f t e i h _ b _;rw[F4] at h;refine S [3,2,4,0,1,2] ?_;refine J e0 hn h nl (fun s=>[(504,w5 s),(1000,.box [.np 1000,.aF 504] 62)]) [0,35,36,37] [1001,2000] (fun _ h g=>?_) ?_
  ·refine S [6,3] ?_;refine br b ?_;refine S [3] ?_;refine bS Z0 [e.op,e.a] ?_;refine B [] fun _ c h=>?_;refine cF (((I1 c).sw 1001 502).sw 2 503) ?_;refine S [3] ?_;refine Jk e0 hn h nl (fun s=>[(504,w5 s),(1000,.box [.np 1000,.aF 504] 62)]) [0,35,36,37] [1001,2000] [] fun _ h g=>?_;refine I [4] ?_ ?_<;>intro _ h
   ·refine kd [0,5,35,36,37] [5,503,1000,1001,2000] ?_;refine B [5] fun _ d h=>?_;refine cA (((U6 d).sw 1001 503).sw 2 504) ?_;exact je
   exact Sj [1] [(504,503)]
  intro o h;refine S [5] ?_;refine Or.inl (A5 (bp b j) ?_);exact le o [(502,504)]
 intro q h;exact Sr [14] [(2,502)]
def nM {N a0 r} (h:hF N a0=some r):Sq 8 [(2000,GL)] [.agg (cW a0)] (s5 r) [(2000,GL)] []:=by
 refine so func8 ntmps8 fun Γ hn=>?_;refine S [3,3] ?_;refine j4.cI 13 [.np 13,.aC] rfl aT ?_;refine nB 13 1 501 1 5 ?_;refine kd [1,3] [1,13,501,2000] ?_;refine S [3,13] ?_;refine bS Z0 [a0.aR,(a0.a7.length:Int)] ?_;refine B [] fun Y K h=>?_;refine cF ((((I1 K).sw 1000 13).sw 1001 501).sw 2 502) ?_;refine S [2,3] ?_;refine X4 fun J=>?_;refine LR e0 hn Y (fun l k v=>M7 N l k v) h (fun E v=>[(25,.int (E:Int))]) (fun E v=>[(502,w5 v)]) [1,3,23,24] [1,13,2000] [] nl (fun s=>[(502,w5 s)]) [1,3] [1,13,2000] ?_ ?_ ?_
 ·intro _ g E Z h _;rw[M7] at h;exact Sj [3,2,4,0,20]
 ·intro _ g E Z j F h _ d _;rw[M7] at h;refine S [3,2,4,0,1,2,6,3] ?_;refine br d ?_;refine B [3] fun _ t h=>?_;refine cA ((((U6 t).sw 1000 13).sw 1001 502).sw 2 503) ?_;refine S [3,13] ?_;refine bS Z0 [j.aJ,j.aE,(j.aA.length:Int)] ?_;refine B [] fun L u h=>?_;refine cF ((((I1 u).sw 1000 13).sw 1001 503).sw 2 504) ?_;refine kd [1,3,5,23,24,25] [1,5,13,504,2000] ?_;refine S [3] ?_;refine X4 fun o=>?_;refine LR e0 hn L (fun l k v=>M8 N l k v) h (fun a v=>[(46,.int (a:Int))]) (fun a v=>[(504,w5 v)]) [1,3,23,24,25,44,45] [1,13,2000] [] nl (fun s=>[(504,w5 s)]) [1,3,23,24,25] [1,13,2000] ?_ ?_ ?_
  ·intro _ g a R h _;rw[M8] at h;exact Sj [3,2,4,0,20]
  ·intro _ g a R x30 G h _ e _;rw[M8] at h;refine S [3,2,4,0,1,2,6,3] ?_;refine br e ?_;refine j4.gh (Gh.bb 7 7 rfl rfl rfl) (fun _=>?_);refine kd [1,3,7,23,24,25,44,45,46] [1,13,504,2000] ?_;refine B [5] fun M w h=>?_;refine cA ((((qG w).sw 1000 13).sw 1001 504).sw 2 505) ?_;refine S [5] ?_;refine Or.inl (A5 (bp e o) ?_);exact le M [(504,505)]
  intro T h;refine S [5] ?_;refine Or.inl (A5 (bp d J) ?_);exact le T [(502,504)]
 intro v8 h;refine S [3,13] ?_;refine bS Z0 [(a0.heap.length:Int)] ?_;refine B [] fun O x h=>?_;refine cF ((((I1 x).sw 1000 13).sw 1001 502).sw 2 506) ?_;refine S [2,3] ?_;refine X4 fun p=>?_;refine LR e0 hn O (fun l k v=>N7 N l k v) h (fun b v=>[(63,.int (b:Int))]) (fun b v=>[(506,w5 v)]) [3,61,62] [13,2000] [] nl (fun s=>[(506,w5 s)]) [3] [13,2000] ?_ ?_ ?_
 ·intro _ g b U h _;rw[N7] at h;exact Sj [3,2,4,0,20]
 ·intro _ g b U C H h _ f _;rw[N7] at h;refine S [3,2,4,0,1,2,6,3] ?_;refine br f ?_;refine S [3,13] ?_;refine bS Z0 [C.cls,(C.aE.length:Int)] ?_;refine B [] fun P y h=>?_;refine cF ((((I1 y).sw 1000 13).sw 1001 506).sw 2 507) ?_;refine S [3] ?_;refine X4 fun q=>?_;refine LR e0 hn P (fun l k v=>M9 N l k v) h (fun c v=>[(78,.int (c:Int))]) (fun c v=>[(507,w5 v)]) [3,61,62,63,76,77] [13,2000] [] nl (fun s=>[(507,w5 s)]) [3,61,62,63] [13,2000] ?_ ?_ ?_
  ·intro _ g c W h _;rw[M9] at h;exact Sj [3,2,4,0,20]
  ·intro _ g c W D I h _ i _;rw[M9] at h;refine S [3,2,4,0,1,2,6,3] ?_;refine br i ?_;refine S [5] ?_;refine bS Z0 [D.k,D.n] ?_;refine B [] fun Q z h=>?_;refine cF ((((I1 z).sw 1000 13).sw 1001 507).sw 2 508) ?_;refine kd [3,61,62,63,76,77,78] [13,508,2000] ?_;refine S [5] ?_;refine Or.inl (A5 (bp i q) ?_);exact le Q [(507,508)]
  intro X h;refine S [5] ?_;refine Or.inl (A5 (bp f p) ?_);exact le X [(506,507)]
 intro V h;refine A [3] fun m h=>?_;refine cA (qC V 13 506 m) ?_;exact Sr [7]
def U5 {N a0 r} (h:F3 N a0=some r):Sq 36 [(1000,.box (F5 a0) 56),(2000,GL)] [.ptr 1000 0] (.str r.1) [(1000,.box (F5 r.2) 56),(2000,GL)] []:=by
 refine so func36 ntmps36 fun c hn=>?_;refine B [3,3] fun _ a h=>?_;refine cA (ra N _ _ _ a) ?_;refine S [2,2] ?_;refine Jb 20 hn h [0,3,4] [1000,2000] (fun _ h g=>?_) ?_
 ·exact L9 [5] [0] [0]
 intro b h;exact ft [4] [3,3,7] [1,3,3,7]
def w9 {N a0 r} (h:j6 N a0=some r):Sq 34 [(1000,.box (F5 a0) 56),(2000,GL)] [.ptr 1000 0] (.int r.1) [(1000,.box (F5 r.2) 56),(2000,GL)] []:=by
 refine so func34 ntmps34 fun f hn=>?_;refine B [3,3] fun _ a h=>?_;refine cA (U5 a) ?_;refine B [3] fun _ b h=>?_;refine cA (strconv_Atoi_ok N _ _ b) ?_;refine S [2,2] ?_;refine Jb 20 hn h [0,4] [1000,2000] (fun _ h g=>?_) ?_
 ·refine Ij [5,10] [0] fun _ h=>?_;refine B [0] fun _ c h=>?_;refine cA (kX N _ _ c) ?_;exact Sj [0]
 intro e h;refine J e0 hn h nl (fun s=>[(1000,.box (F5 s) 56)]) [0,4] [2000] (fun _ h g=>?_) ?_
 ·exact L9 [4] [5] [1]
 intro d h;exact Sr [3,7]
def L8 {N a0 a1 r} (h:C9 N a0 a1=some r):Sq 35 [(1000,.box (F5 a0) 56),(2000,GL)] [.ptr 1000 0,.int a1] (.int r.1) [(1000,.box (F5 r.2) 56),(2000,GL)] []:=by
 refine so func35 ntmps35 fun c hn=>?_;refine B [3,3] fun _ a h=>?_;refine cA (w9 a) ?_;refine S [2,2] ?_;refine Jb 14 hn h [0,5] [1000,2000] (fun _ h g=>?_) ?_
 ·exact L9 [5] [0] [0]
 intro b h;exact ft [4] [3,3,7] [1,3,7]
def qH {N a0 r} (h:K6 N a0=some r):Sq 37 [(1000,.box (F5 a0) 56),(2000,GL)] [.ptr 1000 0] (.agg (S9 r.1)) [(1000,.box (F5 r.2) 56),(2000,GL)] []:=by
 refine so func37 ntmps37 fun F hn=>?_;refine B [3,3] fun _ q h=>?_;refine cA (U5 q) ?_;refine B [] fun _ t h=>?_;refine cA (w9 t) ?_;refine B [] fun _ u h=>?_;refine cA (w9 u) ?_;refine B [] fun _ w h=>?_;refine cA (w9 w) ?_;refine B [2,3] fun C i h=>?_;refine cA (L8 i) ?_;refine nB 3 4 501 5 77 ?_;refine j4.bG 15 rfl (fun c=>?_);refine LU e0 hn (C.2,([]:List Ins)) (fun l k v=>D6 N l k v.1 v.2) h (fun a v=>[(16,.int (a:Int))]) (fun a v=>[(501,qA v.2),(1000,.box (F5 v.1) 56)]) [0,2,3,15] [2,3,2000] [] nl (fun s=>[(501,qA s.2),(1000,.box (F5 s.1) 56)]) [0,2,3] [2,3,2000] ?_ ?_ ?_
 ·rintro _ g a ⟨x,o⟩ h _;rw[D6] at h;exact Sj [3,2,4,0,20]
 ·rintro _ g a ⟨x,o⟩ z h b _;rw[D6] at h;refine B [3,2,4,0,1,2,6,3] fun d j h=>?_;refine cA (w9 j) ?_;refine B [] fun e m h=>?_;refine cA (w9 m) ?_;refine S [2,3] ?_;refine J e0 hn h nl (fun s=>[(4,.box [.int d.1,.int e.1,.int (0:Int),.int (0:Int),.str s.2] 77),(1000,.box (F5 s.1) 56)]) [0,2,3,4,15,16] [2,3,501,2000] (fun _ h g=>?_) ?_
  ·refine I [4] ?_ ?_<;>intro _ h
   ·refine B [5] fun _ n h=>?_;refine cA (U5 n) ?_;exact je
   exact Sj [1]
  rintro⟨y,p⟩ h;refine S [5] ?_;refine bS fG [(⟨d.1,e.1,(0:Int),(0:Int),p⟩:Ins)] ?_;refine A [] fun f h=>?_;refine aM f ?_;refine S [5] ?_;refine Or.inl (A5 (fZ b c) ?_);exact le (y,(o++[(⟨d.1,e.1,(0:Int),(0:Int),p⟩:Ins)])) [(501,33)]
 rintro⟨D,E⟩ h;refine S [3] ?_;refine j4.bB 501 rfl ?_;exact Sr [7]
def qK {N a0 r} (h:X8 N a0=some r):Sq 18 [(1000,.box (F5 a0) 56),(2000,GL)] [.ptr 1000 0] (.agg (cW r.1)) [(1000,.box (F5 r.2) 56),(2000,GL)] []:=by
 refine so func18 ntmps18 fun Γ hn=>?_;refine B [3,3] fun _ Y h=>?_;refine cA (w9 Y) ?_;refine B [2,3] fun r3 Z h=>?_;refine cA (L8 Z) ?_;refine nB 3 0 501 4 41 ?_;refine j4.bG 10 rfl (fun J=>?_);refine LU e0 hn (r3.2,([]:List Cl)) (fun l k v=>D8 N l k v.1 v.2) h (fun X v=>[(11,.int (X:Int))]) (fun X v=>[(501,pr v.2),(1000,.box (F5 v.1) 56)]) [0,2,3,10] [2,3,2000] [] nl (fun s=>[(501,pr s.2),(1000,.box (F5 s.1) 56)]) [0,2,3] [2,3,2000] ?_ ?_ ?_
 ·rintro _ g X ⟨v6,v7⟩ h _;rw[D8] at h;exact Sj [3,2,4,0,20]
 ·rintro _ g X ⟨v6,v7⟩ n15 h d _;rw[D8] at h;refine B [3,2,4,0,1,2,6,3] fun K x h=>?_;refine cA (U5 x) ?_;refine B [] fun L y h=>?_;refine cA (w9 y) ?_;refine B [] fun M z h=>?_;refine cA (w9 z) ?_;refine B [2,3] fun r25 C h=>?_;refine cA (L8 C) ?_;refine nB 4 3 502 5 46 ?_;refine j4.bG 21 rfl (fun j=>?_);refine LU e0 hn (r25.2,([]:List Me)) (fun l k v=>u6 N l k v.1 v.2) h (fun a v=>[(22,.int (a:Int))]) (fun a v=>[(502,pt v.2),(1000,.box (F5 v.1) 56)]) [0,2,3,4,10,11,21] [2,3,4,501,2000] [] nl (fun s=>[(502,pt s.2),(1000,.box (F5 s.1) 56)]) [0,2,3,4,10,11] [2,3,4,501,2000] ?_ ?_ ?_
  ·rintro _ g a ⟨v28,Q⟩ h _;rw[u6] at h;exact Sj [3,2,4,0,20]
  ·rintro _ g a ⟨v28,Q⟩ n37 h e _;rw[u6] at h;refine B [3,2,4,0,1,2,6,8] fun o D h=>?_;refine cA (qH D) ?_;refine bS S9 [o.1] ?_;refine A [] fun q h=>?_;refine aM q ?_;refine S [5] ?_;refine Or.inl (A5 (fZ e j) ?_);exact le (o.2,(Q++[o.1])) [(502,29)]
  rintro⟨v32,R⟩ h;refine S [5,12] ?_;refine bS fe [(⟨K.1,L.1,M.1,R⟩:Cl)] ?_;refine A [] fun t h=>?_;refine aM t ?_;refine S [5] ?_;refine Or.inl (A5 (fZ d J) ?_);exact le (v32,(v7++[(⟨K.1,L.1,M.1,R⟩:Cl)])) [(501,36)]
 rintro⟨v10,v11⟩ h;refine B [2,3] fun r45 E h=>?_;refine cA (L8 E) ?_;refine nB 3 1 503 2 68 ?_;refine j4.bG 40 rfl (fun m=>?_);refine LU e0 hn (r45.2,([]:List Ob)) (fun l k v=>D7 N l k v.1 v.2) h (fun b v=>[(41,.int (b:Int))]) (fun b v=>[(503,px v.2),(1000,.box (F5 v.1) 56)]) [0,2,3,40] [2,3,501,2000] [] nl (fun s=>[(503,px s.2),(1000,.box (F5 s.1) 56)]) [0,2,3] [2,3,501,2000] ?_ ?_ ?_
 ·rintro _ g b ⟨v48,T⟩ h _;rw[D7] at h;exact Sj [3,2,4,0,20]
 ·rintro _ g b ⟨v48,T⟩ n57 h f _;rw[D7] at h;refine B [3,2,4,0,1,2,6,3] fun O F h=>?_;refine cA (w9 F) ?_;refine B [2,3] fun r63 G h=>?_;refine cA (L8 G) ?_;refine nB 5 1 504 2 70 ?_;refine j4.bG 47 rfl (fun n=>?_);refine LU e0 hn (r63.2,([]:List V)) (fun l k v=>q9 N l k v.1 v.2) h (fun c v=>[(48,.int (c:Int))]) (fun c v=>[(504,pz v.2),(1000,.box (F5 v.1) 56)]) [0,2,3,5,40,41,47] [2,3,5,501,503,2000] [] nl (fun s=>[(504,pz s.2),(1000,.box (F5 s.1) 56)]) [0,2,3,5,40,41] [2,3,5,501,503,2000] ?_ ?_ ?_
  ·rintro _ g c ⟨v66,U⟩ h _;rw[q9] at h;exact Sj [3,2,4,0,20]
  ·rintro _ g c ⟨v66,U⟩ n75 h i _;rw[q9] at h;refine B [3,2,4,0,1,2,6,8] fun P H h=>?_;refine cA (w9 H) ?_;refine B [] fun p I h=>?_;refine cA (w9 I) ?_;refine bS eV [(⟨P.1,p.1⟩:V)] ?_;refine A [] fun u h=>?_;refine aM u ?_;refine kd [0,2,3,5,40,41,47,48] [2,3,5,58,501,503,1000,2000] ?_;refine S [5] ?_;refine Or.inl (A5 (fZ i n) ?_);exact le (p.2,(U++[(⟨P.1,p.1⟩:V)])) [(504,58)]
  rintro⟨v70,W⟩ h;refine S [5] ?_;refine bS im [(⟨O.1,W⟩:Ob)] ?_;refine A [] fun w h=>?_;refine aM w ?_;refine S [5] ?_;refine Or.inl (A5 (fZ f m) ?_);exact le (v70,(T++[(⟨O.1,W⟩:Ob)])) [(503,65)]
 rintro⟨v52,v53⟩ h;refine S [3] ?_;refine j4.bB 501 rfl ?_;refine j4.bB 503 rfl ?_;exact Sr [7]
def ka {N a0 r} (h:fy N a0=some r):Sp 13 [.str a0] (.bool r):=by
 refine so func13 ntmps13 fun m hn=>?_;refine S [3,2,2] ?_;refine Jb 11 hn h [0] [] (fun _ h g=>?_) ?_
 ·exact L9 [5,18] [0] [0,18,0]
 intro j h;refine Ir [4] [3,7] fun _ h=>?_;refine S [1,2,3,18] ?_;refine j4.bG 13 rfl (fun b=>?_);refine LU e1 hn () (fun l k v=>P9 N a0 l k) h (fun e v=>[(14,.int (e:Int))]) (fun e v=>[]) [0,13] [] [] nl nl [] [] ?_ ?_ ?_
 ·intro _ g e _ h _;rw[P9] at h;exact Sj [3,2,4,0,20]
 ·intro _ g e _ f h a _;rw[P9] at h;refine S [3,2,4,0,1,2,6,3,2] ?_;refine Jb 26 hn h [0,13,14] [] (fun _ h g=>?_) ?_
  ·refine B [5] fun _ c h=>?_;refine pM c ?_;refine Ij [10] [0] fun _ h=>?_;refine B [0] fun _ d h=>?_;refine pM d ?_;exact Sj [0,10,0]
  intro i h;refine Ir [4] [3,7] fun _ h=>?_;refine S [1,5] ?_;refine Or.inl (A5 (fZ a b) ?_);exact le () []
 rintro⟨⟩ h;exact Sr [3,7]
def j8 {N a0 a1 r} (h:X0 N a0 a1=some r):Sp 14 [.agg (cW a0),.int a1] (.int r):=by
 refine so func14 ntmps14 fun n hn=>?_;refine S [3,3,2,3] ?_;refine LF e0 hn (a1,(0:Int),(0:Int)) (fun l v=>R6 N a0 l v.1 v.2.1 v.2.2) h (fun v=>[(1,.int v.1),(5,.int v.2.1),(6,.int v.2.2)]) (fun v=>[]) [2] [2] [] (fun s=>[(5,.int s)]) nl [] [] ?_ ?_
 ·rintro _ g ⟨k,i,j⟩ e h;rw[R6] at h;refine S [2,2] ?_;refine Jb 22 hn h [1,2,5,6] [2] (fun _ h g=>?_) ?_
  ·refine I [5] ?_ ?_<;>intro _ h
   ·exact L9 [0,13,0] [0,13,0] [0]
   exact Sj [0]
  intro f h;refine I [4] ?_ ?_<;>intro _ h
  ·refine B [1,2,6,3] fun c a h=>?_;refine cy a ?_;refine B [12,5] fun d b h=>?_;refine cy b ?_;refine kd [1,2,5,6] [2] ?_;refine S [5,12] ?_;exact le (d.aJ,(wr (i+c.aE)),(wr (j+(1:Int)))) []
  exact Sj [20]
 intro m h;exact Sr [3,7]
def O1 {N a0 a1 g2 r} (h:o6 N a0 a1 g2=some r) {o:Nat} (c:∀j k p,g2 j k=some p->Sp o [.agg (S9 j),.str k] (.int p)):Sp 44 [vV a0,.str a1,.fn o []] (.aS [.int r.1,.bool r.2]):=by
 refine so func44 ntmps44 fun y hn=>?_;refine S [3,3,13,3,2] ?_;refine LF e0 hn ((0:Int),(a0.length:Int)) (fun l v=>l5 N a0 a1 g2 l v.1 v.2) h (fun v=>[(9,.int v.1),(10,.int v.2)]) (fun v=>[]) [0,1,2,8] [] [] (fun s=>[(9,.int s)]) nl [0,1,2,8] [] ?_ ?_
 ·rintro _ g ⟨w,x⟩ q h;rw[l5] at h;refine I [2,3,4] ?_ ?_<;>intro _ h
  ·refine S [1] ?_;refine J e0 hn h (fun s=>[(9,.int s.1),(10,.int s.2)]) nl [0,1,2,8] [] (fun _ h g=>?_) ?_
   ·refine A [6,3,12] fun a h=>?_;refine dy a ?_;refine A [10,10] fun b h=>?_;refine dy b ?_;refine B [3] fun _ f h=>?_;refine cy f ?_;refine B [] fun _ d h=>?_;refine cA (c _ _ _ d) ?_;refine Jk e0 hn h (fun s=>[(9,.int s.1),(10,.int s.2)]) nl [0,1,2,8] [] [] fun _ h g=>?_;refine I [4] ?_ ?_<;>intro _ h
    ·refine kd [0,1,2,8,10,11] [] ?_;exact Sj [5,12]
    refine kd [0,1,2,8,9,11] [] ?_;exact Sj [5]
   rintro⟨m,n⟩ h;exact le (m,n) []
  exact Sj [20]
 intro u h;refine S [2] ?_;refine J e0 hn h (fun s=>[(6,.int u),(7,.bool s)]) nl [] [] (fun _ h g=>?_) ?_
 ·refine I [5] ?_ ?_<;>intro _ h
  ·refine B [0] fun _ i h=>?_;refine cy i ?_;refine B [0] fun _ e h=>?_;refine cA (c _ _ _ e) ?_;exact Sj [0]
  exact Sj [0]
 intro t h;exact Sr [7]
def n0 {N a0 r} (h:cmp_isNaN_string N a0=some r):Sp 61 [.str a0] (.bool r):=by
 refine so func61 ntmps61 fun a hn=>?_;exact Sr [3,3,7]
def qI {N a0 a1 r} (h:kV N a0 a1=some r):Sp 43 [.str a0,.str a1] (.int r):=by
 refine so func43 ntmps43 fun c hn=>?_;refine B [3,3] fun _ a h=>?_;refine cA (n0 a) ?_;refine B [3] fun _ b h=>?_;refine cA (n0 b) ?_;refine I [2,3,4] ?_ ?_<;>intro _ h
 ·exact ft [2,3,4] [3,7] [1,3,7]
 refine Ir [1,2,3,4] [3,7] fun _ h=>?_;refine Ir [1,2,3,4] [3,7] fun _ h=>?_;refine I [1,2,3,4] ?_ ?_<;>intro _ h
 ·refine kd [] [] ?_;exact Sr [3,7]
 refine S [1] ?_;refine kd [] [] ?_;exact Sr [3,7]
def rr {N a0 a1 r} (h:Q9 N a0 a1=some r):Sp 29 [.agg (S9 a0),.str a1] (.int r):=by
 refine so func29 ntmps29 fun b hn=>?_;refine B [3,3] fun _ a h=>?_;refine cA (qI a) ?_;exact Sr [7]
def s9 {N a0 a1 a2 r} (h:jM N a0 a1 a2=some r):Sp 30 [.agg (cW a0),.int a1,.str a2] (.aS [.int r.1,.int r.2]):=by
 refine so func30 ntmps30 fun m hn=>?_;refine S [3,2,3] ?_;refine LF e1 hn (a1,(0:Int)) (fun l v=>Q4 N a0 a2 l v.1 v.2) h (fun v=>[(1,.int v.1),(8,.int v.2)]) (fun v=>[]) [2,3] [3] [] nl nl [] [] ?_ ?_
 ·rintro _ g ⟨k,i⟩ j h;rw[Q4] at h;refine S [2,2] ?_;refine Jb 26 hn h [1,2,3,8] [3] (fun _ h g=>?_) ?_
  ·refine I [5] ?_ ?_<;>intro _ h
   ·exact L9 [0,13,0] [0,13,0] [0]
   exact Sj [0]
  intro f h;refine I [4] ?_ ?_<;>intro _ h
  ·refine B [1,2,6,2,3] fun _ b h=>?_;refine cy b ?_;refine B [] fun _ a h=>?_;refine cA (O1 a (fun _ _ _ e=>rr e)) ?_;refine kd [1,2,3,8,9,10] [3] ?_;refine Ir [3,4] [3,7] fun _ h=>?_;refine B [1,5] fun d c h=>?_;refine cy c ?_;refine S [5,12] ?_;exact le (d.aJ,(wr (i+(1:Int)))) []
  exact Sj [20]
 rintro⟨⟩ h;exact Sr [3,7]
def sJ {N a0 a1 r} (h:hQ N a0 a1=some r):Sp 15 [.fp (cW a0),.fp (S9 a1)] (.bool r):=by
 refine so func15 ntmps15 fun e hn=>?_;refine B [3,2,8] fun _ a h=>?_;refine cA (s9 a) ?_;refine S [2] ?_;refine Jb 4 hn h [] [] (fun _ h g=>?_) ?_
 ·refine kd [0,1,6] [] ?_;refine I [8] ?_ ?_<;>intro _ h
  ·refine B [0] fun _ b h=>?_;refine cy b ?_;refine B [0] fun _ c h=>?_;refine cy c ?_;refine I [0] ?_ ?_<;>intro _ h
   ·refine I [0] ?_ ?_<;>intro _ h
    ·exact L9 [0] [0,13,0] [0]
    exact Sj [0]
   exact Sj [0]
  exact Sj [0]
 intro d h;exact Sr [7]
def Q5 {N a0 a1 r} (h:K8 N a0 a1=some r):Sp 45 [.int a0,.int a1] (.bool r):=by
 refine so func45 ntmps45 fun b hn=>?_;refine S [3,2] ?_;refine Jb 4 hn h [] [] (fun _ h g=>?_) ?_
 ·exact L9 [5] [0] [0]
 intro a h;exact Sr [7]
def rX {N a0 a1 a2 a3 r} (h:jG N a0 a1 a2 a3=some r):Sp 31 [.fp (cW a0),.int a1,.fp (S9 a2),.agg (fG a3)] (.int r):=by
 refine so func31 ntmps31 fun q hn=>?_;refine S [3,3,3,2,3] ?_;refine J e1 hn h (fun s=>[(10,.bool s.1),(11,.bool s.2)]) nl [7] [7] (fun _ h g=>?_) ?_
 ·refine S [6,2,3] ?_;refine Jb 14 hn h [0,1,2,7,9,11,13] [7] (fun _ h g=>?_) ?_
  ·refine Ij [4] [1] fun _ h=>?_;refine S [3] ?_;refine dN 14 hn h [0,1,2,7,9,11,13] [7] [] fun _ h g=>?_;refine Ij [4] [1] fun _ h=>?_;refine S [3] ?_;refine dN 14 hn h [0,1,2,7,9,11,13] [7] [] fun _ h g=>?_;refine Ij [4] [1] fun _ h=>?_;refine S [3] ?_;refine dN 14 hn h [0,1,2,7,9,11,13] [7] [] fun _ h g=>?_;refine Ij [4] [1] fun _ h=>?_;refine S [3] ?_;refine dN 14 hn h [0,1,2,7,9,11,13] [7] [] fun _ h g=>?_;refine Ij [4] [1] fun _ h=>?_;refine kd [0,1,2,7,9,11,13] [7] ?_;refine S [3] ?_;refine dN 14 hn h [0,1,2,7,9,11,13] [7] [] fun _ h g=>?_;exact L9 [4] [1] [5]
  intro p h;refine Jk e1 hn h (fun s=>[(10,.bool s.1),(11,.bool s.2)]) nl [7] [7] [] fun _ h g=>?_;refine Ij [4] [5] fun _ h=>?_;refine S [3] ?_;refine Jk e1 hn h (fun s=>[(10,.bool s.1),(11,.bool s.2)]) nl [7] [7] [] fun _ h g=>?_;refine I [4] ?_ ?_<;>intro _ h
  ·refine B [8] fun _ a h=>?_;refine cA (Q5 a) ?_;exact je
  refine S [2,3] ?_;refine Jb 35 hn h [0,1,2,7,9,11,13] [7] (fun _ h g=>?_) ?_
  ·exact L9 [4] [1] [5]
  intro j h;refine Jk e1 hn h (fun s=>[(10,.bool s.1),(11,.bool s.2)]) nl [7] [7] [] fun _ h g=>?_;refine I [4] ?_ ?_<;>intro _ h
  ·refine B [8] fun _ b h=>?_;refine cA (Q5 b) ?_;exact je
  refine S [2,3] ?_;refine Jb 46 hn h [0,1,2,7,9,11,13] [7] (fun _ h g=>?_) ?_
  ·exact L9 [4] [1] [5]
  intro k h;refine Jk e1 hn h (fun s=>[(10,.bool s.1),(11,.bool s.2)]) nl [7] [7] [] fun _ h g=>?_;refine I [4] ?_ ?_<;>intro _ h
  ·refine B [8] fun _ c h=>?_;refine cA (j8 c) ?_;refine B [] fun _ d h=>?_;refine cA (Q5 d) ?_;exact je
  refine S [3] ?_;refine Jk e1 hn h (fun s=>[(10,.bool s.1),(11,.bool s.2)]) nl [7] [7] [] fun _ h g=>?_;refine I [4] ?_ ?_<;>intro _ h
  ·refine dN 10 hn h [7,11] [7] [] fun _ h g=>?_;exact L9 [5] [0] [0]
  refine S [3] ?_;refine Jk e1 hn h (fun s=>[(10,.bool s.1),(11,.bool s.2)]) nl [7] [7] [] fun _ h g=>?_;refine I [4] ?_ ?_<;>intro _ h
  ·refine dN 10 hn h [7,11] [7] [] fun _ h g=>?_;refine kd [0,7,11] [7] ?_;refine Ij [8] [0] fun _ h=>?_;exact L9 [0] [0,13,0] [0]
  refine S [3] ?_;refine Jk e1 hn h (fun s=>[(10,.bool s.1),(11,.bool s.2)]) nl [7] [7] [] fun _ h g=>?_;refine I [4] ?_ ?_<;>intro _ h
  ·refine B [5] fun _ e h=>?_;refine cA (Q5 e) ?_;exact je
  refine S [2,3] ?_;refine Jb 94 hn h [2,7,9,11] [7] (fun _ h g=>?_) ?_
  ·exact L9 [4] [1] [5]
  intro l h;refine I [4] ?_ ?_<;>intro _ h
  ·refine B [8,13] fun _ f h=>?_;refine cA (Q5 f) ?_;exact je
  exact Sr [3,7]
 rintro⟨n,o⟩ h;refine Ir [2,6,3,4] [3,7] fun _ h=>?_;refine S [2] ?_;refine Jb 109 hn h [] [] (fun _ h g=>?_) ?_
 ·refine I [5] ?_ ?_<;>intro _ h
  ·refine B [0] fun _ i h=>?_;refine cA (ka i) ?_;refine Ij [0] [0] fun _ h=>?_;refine I [0] ?_ ?_<;>intro _ h
   ·refine Ij [0] [0] fun _ h=>?_;exact L9 [0] [0] [0]
   exact L9 [0] [0] [0]
  refine I [0] ?_ ?_<;>intro _ h
  ·refine Ij [0] [0] fun _ h=>?_;exact L9 [0] [0] [0]
  exact L9 [0] [0] [0]
 intro m h;exact ft [4] [3,7] [1,3,7]
def rh {N a0 r} (h:jI N a0=some r):Sp 46 [.agg (fG a0)] (.aS [.int r.1,.int r.2]):=by
 refine so func46 ntmps46 fun b hn=>?_;refine S [3,2,3,6,2,3] ?_;refine Jb 6 hn h [1,5] [1] (fun _ h g=>?_) ?_
 ·refine Ij [4] [1] fun _ h=>?_;refine S [3] ?_;refine dN 6 hn h [1,5] [1] [] fun _ h g=>?_;refine Ij [4] [1] fun _ h=>?_;refine S [3] ?_;refine dN 6 hn h [1,5] [1] [] fun _ h g=>?_;refine Ij [4] [1] fun _ h=>?_;refine S [3] ?_;refine dN 6 hn h [1,5] [1] [] fun _ h g=>?_;exact L9 [4] [1] [5]
 intro a h;refine Ir [4] [3,7] fun _ h=>?_;refine Ir [3,4] [3,7] fun _ h=>?_;refine Ir [3,4] [3,12,7] fun _ h=>?_;exact ft [3,4] [3,7] [1,3,7]
def rY {N a0 r} (h:jD N a0=some r):Sq 32 [] [.agg (S9 a0)] (.aS [.aF 0,.agg (pA r.2)]) [(0,w3 r.1)] [0]:=by
 refine so func32 ntmps32 fun W hn=>?_;refine A [3,3,13] fun z h=>?_;refine vU (enc:=Z0) (x:=(0:Int)) z aT ?_;refine S [2,3,13] ?_;refine j4.bG 17 rfl (fun u=>?_);refine LU e0 hn (AJ (a0.code.length:Int).toNat (0:Int)) (fun l k v=>J4 N l k v) h (fun y v=>[(18,.int (y:Int))]) (fun y v=>[(15,w3 v)]) [1,3,4,17] [1,3] [] nl (fun s=>[(15,w3 s)]) [1,3,4] [1,3] ?_ ?_ ?_
 ·intro _ g y G h _;rw[J4] at h;exact Sj [3,2,4,0,20]
 ·intro _ g y G H h m _;rw[J4] at h;refine B [3,2,4,0,1,2,6,3,5] fun _ c h=>?_;refine eO c ?_;refine sM (V8 c).2 (-1:Int) ?_;refine S [5] ?_;refine Or.inl (A5 (fZ m u) ?_);exact le (G.set ((y:Int).toNat) (-1:Int)) []
 intro V h;refine S [3] ?_;refine bS jV [(⟨(0:Int),(0:Int)⟩:I5)] ?_;refine S [2] ?_;refine LF e1 hn (V,[(⟨(0:Int),(0:Int)⟩:I5)]) (fun l v=>M0 N a0 l v.1 v.2) h (fun v=>[]) (fun v=>[(15,w3 v.1),(26,ju v.2)]) [1,3,4,6] [1,3] [] nl (fun s=>[(15,w3 s)]) [3,4] [3] ?_ ?_
 ·rintro _ g ⟨L,M⟩ K h;rw[M0] at h;refine I [2,3,13,4] ?_ ?_<;>intro _ h
  ·refine S [1] ?_;refine J e1 hn h (fun s=>[(6,.aF 39)]) (fun s=>[(15,w3 s.1),(39,ju s.2)]) [1,3,4] [1,3] (fun _ h g=>?_) ?_
   ·refine B [6,2,8] fun E d h=>?_;refine eO d ?_;refine S [17] ?_;refine fD (V8 d).2 ?_;refine B [] fun n e h=>?_;refine eO e ?_;refine S [17] ?_;refine fD (V8 e).2 ?_;refine kd [1,3,4,6,7,8] [1,3,15,26] ?_;refine A [3] fun o h=>?_;refine uW o rfl rfl ?_;refine S [2,2] ?_;refine Jb 48 hn h [1,3,4,6,7,8] [1,3,15,39] (fun _ h g=>?_) ?_
    ·exact L9 [5] [0] [0,13,0]
    intro P h;refine I [4] ?_ ?_<;>intro _ h
    ·refine S [2,8,13] ?_;refine nR 2 202 1 3 ?_;exact Sr [7] [(0,202)]
    refine B [1,2,3] fun _ f h=>?_;refine eO f ?_;refine fD (V8 f).2 ?_;refine I [4] ?_ ?_<;>intro _ h
    ·refine B [2,3] fun _ i h=>?_;refine eO i ?_;refine fD (V8 i).2 ?_;refine I [4] ?_ ?_<;>intro _ h
     ·refine kd [3,7] [3] ?_;refine S [3] ?_;refine nR 2 202 1 3 ?_;exact Sr [7] [(0,202)]
     exact Sj [1,20]
    refine B [1,3] fun _ j h=>?_;refine eO j ?_;refine sM (V8 j).2 n.f1 ?_;refine B [3] fun F w h=>?_;refine cy w ?_;refine kd [1,3,4,6,7,8,9] [1,3,9,15,39] ?_;refine B [3] fun b t h=>?_;refine cA (rh t) ?_;refine S [2,2] ?_;refine Jb 91 hn h [1,3,4,6,7,8,9,10,11] [1,3,9,15,39] (fun _ h g=>?_) ?_
    ·refine Ij [5] [0] fun _ h=>?_;exact L9 [0] [0] [0]
    intro Q h;refine I [4] ?_ ?_<;>intro _ h
    ·refine S [3] ?_;refine nR 2 202 1 3 ?_;exact Sr [7] [(0,202)]
    refine I [1,3,12,12,2,3,4] ?_ ?_<;>intro _ h
    ·refine kd [3,7] [3] ?_;refine S [3] ?_;refine nR 2 202 1 3 ?_;exact Sr [7] [(0,202)]
    refine S [1,2,2] ?_;refine Jb 110 hn h [1,3,4,6,7,8,9] [1,3,9,15,39] (fun _ h g=>?_) ?_
    ·refine kd [1,3,4,6,7,8,9] [1,3,9,15,39] ?_;exact L9 [5] [0] [0]
    intro R h;refine J e0 hn h (fun s=>[(6,.aF 117)]) (fun s=>[(117,ju s)]) [1,3,4,8,9] [1,3,9,15] (fun _ h g=>?_) ?_
    ·refine I [4] ?_ ?_<;>intro _ h
     ·refine S [5,12] ?_;refine bS jV [(⟨(wr (E.f0+(1:Int))),(wr (n.f1+(wr (b.2-b.1))))⟩:I5)] ?_;refine A [] fun p h=>?_;refine aM p ?_;exact je
     exact Sj [1] [(117,39)]
    intro T h;refine S [2] ?_;refine Jb 125 hn h [1,3,4,6,8,9] [1,3,9,15,117] (fun _ h g=>?_) ?_
    ·exact L9 [5] [0] [0]
    intro U h;refine Jk e0 hn h (fun s=>[(6,.aF 132)]) (fun s=>[(132,ju s)]) [1,3,4] [1,3,15] [(39,132)] fun _ h g=>?_;refine I [4] ?_ ?_<;>intro _ h
    ·refine S [5] ?_;refine bS jV [(⟨F.a,(wr (n.f1+(wr (b.2-b.1))))⟩:I5)] ?_;refine A [] fun q h=>?_;refine aM q ?_;exact je
    exact Sj [1] [(132,117)]
   rintro⟨C,D⟩ h;exact le (C,D) [(26,39)]
  exact Sj [20]
 intro O h;exact Sr [3,7] [(0,15)]
def sA {N a0 a1 a2 r} (h:jN N a0 a1 a2=some r):Sp 16 [.agg (cW a0),.int a1,.agg (S9 a2)] (.agg (pA r)):=by
 refine so func16 ntmps16 fun p hn=>?_;refine S [3,2,6,2] ?_;refine Jb 12 hn h [1,3,5,6] [3,5,6] (fun _ h g=>?_) ?_
 ·exact L9 [5] [0] [0,13,0]
 intro n h;refine Ir [4] [3,7] fun _ h=>?_;refine B [3] fun _ i h=>?_;refine cA (ka i) ?_;refine Ir [4] [3,7] fun _ h=>?_;refine S [2] ?_;refine Jb 29 hn h [1,3,5,6] [3,5,6] (fun _ h g=>?_) ?_
 ·refine Ij [5] [0] fun _ h=>?_;refine Ij [0] [0] fun _ h=>?_;exact L9 [0] [0] [0]
 intro o h;refine Ir [4] [3,7] fun _ h=>?_;refine Ir [3,4] [3,7] fun _ h=>?_;refine S [2] ?_;refine Jb 54 hn h [1,3,5,6] [3,5,6] (fun _ h g=>?_) ?_
 ·exact L9 [5,13] [0] [0,13,0]
 intro j h;refine Ir [4] [3,7] fun _ h=>?_;refine S [1,2,3] ?_;refine X4 fun c=>?_;refine j4.gh (Gh.bb 3 3 rfl rfl rfl) (fun _=>?_);refine j4.gh (Gh.bb 5 5 rfl rfl rfl) (fun _=>?_);refine LR e1 hn () (fun l k v=>P7 N a0 a1 a2 l k) h (fun a v=>[(69,.int (a:Int))]) (fun a v=>[]) [1,3,5,6,67,68] [6] [] nl nl [5,6] [6] ?_ ?_ ?_
 ·intro _ g a _ h _;rw[P7] at h;exact Sj [3,2,4,0,20]
 ·intro _ g a _ m f h _ b _;rw[P7] at h;refine S [3,2,4,0,1,2,6,3] ?_;refine br b ?_;refine B [3] fun _ d h=>?_;refine cA (rX d) ?_;refine kd [1,3,5,6,7,9,67,68,69] [6] ?_;refine Ir [3,4] [3,7] fun _ h=>?_;refine S [1,5] ?_;refine Or.inl (A5 (bp b c) ?_);exact le () []
 rintro⟨⟩ h;refine B [3] fun _ e h=>?_;refine cA ((rY e).sw 0 85) ?_;exact Sr [3,7]
def re {N a0 a1 r} (h:jJ N a0 a1=some r):Sp 33 [.agg (eV a0),.int a1] (.int r):=by
 refine so func33 ntmps33 fun d hn=>?_;refine S [3,2,3] ?_;refine J e1 hn h nl nl [] [] (fun _ h g=>?_) ?_
 ·refine S [6,2,3] ?_;refine Jb 7 hn h [1,2,6] [2] (fun _ h g=>?_) ?_
  ·refine Ij [4] [1] fun _ h=>?_;refine S [3] ?_;refine dN 7 hn h [1,2,6] [2] [] fun _ h g=>?_;exact L9 [4] [1] [5]
  intro c h;refine Jk e1 hn h nl nl [] [] [] fun _ h g=>?_;refine I [4] ?_ ?_<;>intro _ h
  ·refine Ir [3,4] [3,7] fun _ h=>?_;exact Sj [1]
  refine S [3] ?_;refine Jk e1 hn h nl nl [] [] [] fun _ h g=>?_;refine I [4] ?_ ?_<;>intro _ h
  ·refine S [2] ?_;refine Jb 23 hn h [] [] (fun _ h g=>?_) ?_
   ·exact L9 [5] [0] [0]
   intro a h;refine Ir [4] [3,7] fun _ h=>?_;exact Sj [1]
  refine I [3,4] ?_ ?_<;>intro _ h
  ·refine S [2] ?_;refine Jb 34 hn h [] [] (fun _ h g=>?_) ?_
   ·exact L9 [5] [0] [0]
   intro b h;refine Ir [4] [3,7] fun _ h=>?_;exact Sj [1]
  exact Sr [3,7]
 rintro⟨⟩ h;exact Sr [3,7]
def sI {N a0 r} (h:lB N a0=some r):Sp 17 [.fp (cW a0)] (.int r):=by
 refine so func17 ntmps17 fun t hn=>?_;refine S [3,2,3] ?_;refine X4 fun n=>?_;refine LR e1 hn () (fun l k v=>U3 N a0 l k) h (fun j v=>[(13,.int (j:Int))]) (fun j v=>[]) [0,11,12] [] [] nl nl [] [] ?_ ?_ ?_
 ·intro _ g j _ h _;rw[U3] at h;exact Sj [3,2,4,0,20]
 ·intro _ g j _ s o h _ i _;rw[U3] at h;refine S [3,2,4,0,1,2,6,3] ?_;refine br i ?_;refine S [2,2] ?_;refine Jb 46 hn h [0,4,11,12,13] [4] (fun _ h g=>?_) ?_
  ·refine kd [0,4,11,12,13] [4] ?_;refine I [8] ?_ ?_<;>intro _ h
   ·refine Ij [0] [0] fun _ h=>?_;refine Ij [0,13,0] [0] fun _ h=>?_;refine B [0,13,0] fun _ d h=>?_;refine cA (j8 d) ?_;exact Sj [0]
   refine B [0,13] fun _ e h=>?_;refine cA (j8 e) ?_;exact je
  intro p h;refine Ir [4] [3,7] fun _ h=>?_;refine S [1,3] ?_;refine X4 fun c=>?_;refine LR e1 hn () (fun l k v=>U2 N a0 l k) h (fun a v=>[(50,.int (a:Int))]) (fun a v=>[]) [0,11,12,13,48,49] [] [] nl nl [0,11,12,13] [] ?_ ?_ ?_
  ·intro _ g a _ h _;rw[U2] at h;exact Sj [3,2,4,0,20]
  ·intro _ g a _ q m h _ b _;rw[U2] at h;refine S [3,2,4,0,1,2,6,3] ?_;refine br b ?_;refine B [2,8,13] fun _ f h=>?_;refine cA (re f) ?_;refine kd [0,7,11,12,13,48,49,50] [] ?_;refine Ir [3,4] [3,7] fun _ h=>?_;refine S [1,5] ?_;refine Or.inl (A5 (bp b c) ?_);exact le () []
  rintro⟨⟩ h;refine S [5] ?_;refine Or.inl (A5 (bp i n) ?_);exact le () []
 rintro⟨⟩ h;exact Sr [3,7]
def jA {N a0 r} (h:O3 N a0=some r):Sp 6 [.agg (cW a0)] (.int r):=by
 refine so func6 ntmps6 fun T hn=>?_;refine B [3,3] fun F E h=>?_;refine cA (sG N _ E) ?_;refine S [2,2] ?_;refine Jb 31 hn h [1,3] [1,3] (fun _ h g=>?_) ?_
 ·refine Ij [5,13,13] [0] fun _ h=>?_;exact L9 [0,13,0] [0] [0,13,0]
 intro R h;refine Ir [4] [3,7] fun _ h=>?_;refine S [1,2,2] ?_;refine Jb 39 hn h [1,3] [1,3] (fun _ h g=>?_) ?_
 ·exact L9 [5] [0] [0]
 intro K h;refine Ir [4] [3,7] fun _ h=>?_;refine S [1,3,2,3] ?_;refine X4 fun o=>?_;refine LR e1 hn ([]:(List (ByteArray×Bool))) (fun l k v=>Q3 N F l k v) h (fun b v=>[(44,.int (b:Int))]) (fun b v=>[(40,.au (List.map eh v))]) [1,3,4,42,43] [1,3] [] nl nl [1,3] [1,3] ?_ ?_ ?_
 ·intro _ g b y h _;rw[Q3] at h;exact Sj [3,2,4,0,20]
 ·intro _ g b y G z h _ d _;rw[Q3] at h;refine S [3,2,4,0,1,2,6,3] ?_;refine br d ?_;refine S [2,2] ?_;refine Jb 76 hn h [1,3,4,5,6,42,43,44] [1,3,6,40] (fun _ h g=>?_) ?_
  ·refine kd [1,3,4,5,6,42,43,44] [1,3,6,40] ?_;refine B [8] fun _ s h=>?_;refine cA (ka s) ?_;refine Ij [] [0] fun _ h=>?_;refine S [0] ?_;refine vB rfl rfl rfl rfl ?_;refine Ij [0] [0] fun _ h=>?_;refine I [0,13,0] ?_ ?_<;>intro _ h
   ·refine B [0] fun _ u h=>?_;refine cy u ?_;exact Sj [0]
   exact Sj [0]
  intro L h;refine Ir [4] [3,7] fun _ h=>?_;refine A [1,3] fun n h=>?_;refine vJ rfl rfl n ?_;refine S [2] ?_;refine Jb 138 hn h [1,3,4,42,43,44] [1,3,40] (fun _ h g=>?_) ?_
  ·refine kd [1,3,4,5,6,42,43,44] [1,3,6,40] ?_;refine I [8,13] ?_ ?_<;>intro _ h
   ·refine B [0] fun _ w h=>?_;refine cy w ?_;refine Ij [0] [0] fun _ h=>?_;refine Ij [0] [0] fun _ h=>?_;refine I [0,13,0] ?_ ?_<;>intro _ h
    ·refine Ij [0] [0] fun _ h=>?_;refine Ij [0] [0] fun _ h=>?_;refine I [0] ?_ ?_<;>intro _ h
     ·refine Ij [0] [0] fun _ h=>?_;exact L9 [0] [0] [0]
     exact L9 [0] [0] [0]
    exact L9 [0] [0] [0]
   refine I [0,13] ?_ ?_<;>intro _ h
   ·refine Ij [0] [0] fun _ h=>?_;refine Ij [0] [0] fun _ h=>?_;refine I [0] ?_ ?_<;>intro _ h
    ·refine Ij [0] [0] fun _ h=>?_;exact L9 [0] [0] [0]
    exact L9 [0] [0] [0]
   exact L9 [0] [0] [0]
  intro M h;refine Ir [4] [3,7] fun _ h=>?_;refine S [1,5] ?_;refine Or.inl (A5 (bp d o) ?_);exact le (Y8 G.name true y) []
 rintro⟨⟩ h;refine S [2,3] ?_;refine X4 fun p=>?_;refine j4.gh (Gh.bb 3 3 rfl rfl rfl) (fun _=>?_);refine LR e1 hn () (fun l k v=>Q0 N a0 F l k) h (fun a v=>[(143,.int (a:Int))]) (fun a v=>[]) [1,3,141,142] [1] [] nl nl [1] [1] ?_ ?_ ?_
 ·intro _ g a _ h _;rw[Q0] at h;exact Sj [3,2,4,0,20]
 ·intro _ g a _ H C h _ e _;rw[Q0] at h;refine S [3,2,4,0,1,2,6,3] ?_;refine br e ?_;refine B [2,3] fun _ t h=>?_;refine cA (j8 t) ?_;refine Ir [4] [3,7] fun _ h=>?_;refine I [1,2,3,13,4] ?_ ?_<;>intro _ h
  ·refine kd [] [] ?_;exact Sr [3,7]
  refine S [1] ?_;refine kd [1,3,7,8,141,142,143] [1,8] ?_;refine S [3] ?_;refine X4 fun q=>?_;refine LR e1 hn () (fun l k v=>P8 N a0 F a H l k) h (fun c v=>[(159,.int (c:Int))]) (fun c v=>[]) [1,3,7,8,141,142,143,157,158] [1,8] [] nl nl [1,3,141,142,143] [1] ?_ ?_ ?_
  ·intro _ g c _ h _;rw[P8] at h;exact Sj [3,2,4,0,20]
  ·intro _ g c _ Q D h _ f _;rw[P8] at h;refine S [3,2,4,0,1,2] ?_;refine J e1 hn h nl nl [1,3,7,8,141,142,143,157,158,159] [1,8] (fun _ h g=>?_) ?_
   ·refine S [6,3] ?_;refine br f ?_;refine S [2,2] ?_;refine Jb 177 hn h [1,3,7,8,10,141,142,143,157,158,159] [1,8,10] (fun _ h g=>?_) ?_
    ·refine I [8] ?_ ?_<;>intro _ h
     ·refine B [0,12,0] fun _ x h=>?_;refine cy x ?_;exact Sj [0]
     exact Sj [0]
    intro O h;refine Ir [4] [3,7] fun _ h=>?_;refine S [1,2,2] ?_;refine j4.gh (Gh.bb 10 10 rfl rfl rfl) (fun _=>?_);refine Jb 187 hn h [1,3,7,8,10,141,142,143,157,158,159] [1,8] (fun _ h g=>?_) ?_
    ·refine I [5] ?_ ?_<;>intro _ h
     ·refine I [0] ?_ ?_<;>intro _ h
      ·refine B [] fun _ i h=>?_;refine cA (sJ i) ?_;exact Sj [0]
      exact Sj [0]
     exact Sj [0]
    intro P h;refine Ij [4] [20] fun _ h=>?_;refine B [1,3] fun _ j h=>?_;refine cA (sA j) ?_;refine kd [1,3,7,8,11,141,142,143,157,158,159] [1,8,11] ?_;refine Ir [3,4] [3,7] fun _ h=>?_;exact Sj [1]
   rintro⟨⟩ h;refine S [5] ?_;refine Or.inl (A5 (bp f q) ?_);exact le () []
  rintro⟨⟩ h;refine S [5] ?_;refine Or.inl (A5 (bp e p) ?_);exact le () []
 rintro⟨⟩ h;refine j4.gh (Gh.bb 1 1 rfl rfl rfl) (fun _=>?_);refine kd [1] [] ?_;refine B [3] fun _ m h=>?_;refine cA (sI m) ?_;exact Sr [7]
def nN {N a0 r} (h:fx N a0=some r):Sq 7 [(2000,GL)] [s5 a0] (.aS [.agg (cW r.1),.int r.2]) [(2000,GL)] []:=by
 refine so func7 ntmps7 fun d hn=>?_;refine S [3,3] ?_;refine Exists.intro a0 (A5 rfl ?_);refine B [3] fun _ a h=>?_;refine cA ((qK a).sw 1000 10) ?_;refine S [2,2] ?_;refine Jb 24 hn h [2,5] [2,5,2000] (fun _ h g=>?_) ?_
 ·exact L9 [5] [0] [0]
 intro c h;refine Ir [4] [3,7] fun _ h=>?_;refine B [1,2,3] fun _ b h=>?_;refine cA (jA b) ?_;exact ft [3,4] [3,7] [1,3,7]
def K3 {N a0 b0 r} (h:H5 N a0 b0=some r):Sq 24 [(1016,.box [.str b0] 9),(2000,GL)] [s3 a0,.ptr 1016 0] (.aS []) [(1016,.box [.str r] 9),(2000,GL)] []:=by
 refine so func24 ntmps24 fun p hn=>?_;refine S [15,3] ?_;refine X4 fun f=>?_;refine LR e0 hn b0 (fun l k v=>H6 N l k v) h (fun e v=>[(7,.int (e:Int))]) (fun e v=>[(1016,.box [.str v] 9)]) [1,5,6] [2000] [] nl (fun s=>[(1016,.box [.str s] 9)]) [1] [2000] ?_ ?_ ?_
 ·intro _ g e m h _;rw[H6] at h;exact Sj [3,2,4,0,20]
 ·intro _ g e m n j h _ a _;rw[H6] at h;refine S [3,2,4,0,1,2,6,3] ?_;refine br a ?_;refine B [8] fun i d h=>?_;refine cA (kX N _ _ d) ?_;refine A [] fun b h=>?_;refine dy b ?_;refine A [] fun c h=>?_;refine dy c ?_;refine S [5] ?_;refine Or.inl (A5 (bp a f) ?_);exact le ((m++i)++(⟨#[32]⟩:ByteArray)) []
 intro o h;exact Sr [14]
def rZ {N a0 r} (h:jH N a0=some r):Sq 11 [(2000,GL)] [.agg (cW a0)] (.str r) [(2000,GL)] []:=by
 refine so func11 ntmps11 fun Γ hn=>?_;refine S [3,3,3,3,13] ?_;refine bS Z0 [a0.aR,(a0.a7.length:Int)] ?_;refine B [] fun r2 hr3 h=>?_;refine cF ((K3 hr3).sw 1016 3) ?_;refine S [2,3] ?_;refine X4 fun Z=>?_;refine LR e0 hn r2 (fun l k v=>I7 N l k v) h (fun T v=>[(27,.int (T:Int))]) (fun T v=>[(3,.box [.str v] 9)]) [1,3,4,25,26] [1,2000] [] nl (fun s=>[(3,.box [.str s] 9)]) [1,3,4] [1,2000] ?_ ?_ ?_
 ·intro _ g T v6 h _;rw[I7] at h;exact Sj [3,2,4,0,20]
 ·intro _ g T v6 q U h _ i _;rw[I7] at h;refine S [3,2,4,0,1,2,6,3] ?_;refine br i ?_;refine A [3] fun t h=>?_;refine dy t ?_;refine A [] fun u h=>?_;refine dy u ?_;refine S [3,13] ?_;refine bS Z0 [q.aJ,q.aE,(q.aA.length:Int)] ?_;refine B [] fun r19 G h=>?_;refine cF ((K3 G).sw 1016 3) ?_;refine kd [1,3,4,6,25,26,27] [1,3,6,2000] ?_;refine S [3] ?_;refine X4 fun C=>?_;refine LR e0 hn r19 (fun l k v=>H9 N l k v) h (fun b v=>[(49,.int (b:Int))]) (fun b v=>[(3,.box [.str v] 9)]) [1,3,4,25,26,27,47,48] [1,2000] [] nl (fun s=>[(3,.box [.str s] 9)]) [1,3,4,25,26,27] [1,2000] ?_ ?_ ?_
  ·intro _ g b v23 h _;rw[H9] at h;exact Sj [3,2,4,0,20]
  ·intro _ g b v23 f V h _ j _;rw[H9] at h;refine S [3,2,4,0,1,2,6,3] ?_;refine br j ?_;refine A [3] fun w h=>?_;refine dy w ?_;refine A [] fun x h=>?_;refine dy x ?_;refine kd [1,3,4,8,25,26,27,47,48,49] [1,3,8,2000] ?_;refine S [3,13] ?_;refine bS Z0 [f.args,f.aO,f.aQ,(f.code.length:Int)] ?_;refine B [] fun r36 H h=>?_;refine cF ((K3 H).sw 1016 3) ?_;refine kd [1,3,4,8,25,26,27,47,48,49] [1,3,8,2000] ?_;refine S [3] ?_;refine X4 fun D=>?_;refine LR e0 hn r36 (fun l k v=>I8 N l k v) h (fun c v=>[(73,.int (c:Int))]) (fun c v=>[(3,.box [.str v] 9)]) [1,3,4,25,26,27,47,48,49,71,72] [1,2000] [] nl (fun s=>[(3,.box [.str s] 9)]) [1,3,4,25,26,27,47,48,49] [1,2000] ?_ ?_ ?_
   ·intro _ g c v40 h _;rw[I8] at h;exact Sj [3,2,4,0,20]
   ·intro _ g c v40 P W h _ m _;rw[I8] at h;refine S [3,2,4,0,1,2] ?_;refine J e0 hn h nl (fun s=>[(3,.box [.str s] 9)]) [1,3,4,25,26,27,47,48,49,71,72,73] [1,2000] (fun _ h g=>?_) ?_
    ·refine S [6,3] ?_;refine br m ?_;refine S [3] ?_;refine bS Z0 [P.op,P.a] ?_;refine B [] fun _ K h=>?_;refine cF ((K3 K).sw 1016 3) ?_;refine kd [1,3,4,10,25,26,27,47,48,49,71,72,73] [1,3,10,2000] ?_;refine S [3] ?_;refine Jk e0 hn h nl (fun s=>[(3,.box [.str s] 9)]) [1,3,4,25,26,27,47,48,49,71,72,73] [1,2000] [] fun _ h g=>?_;refine I [4] ?_ ?_<;>intro _ h
     ·refine A [5] fun y h=>?_;refine dy y ?_;refine A [] fun z h=>?_;refine dy z ?_;exact je
     exact Sj [1]
    intro v50 h;refine S [5] ?_;refine Or.inl (A5 (bp m D) ?_);exact le v50 []
   intro v42 h;refine S [5] ?_;refine Or.inl (A5 (bp j C) ?_);exact le v42 []
  intro v25 h;refine S [5] ?_;refine Or.inl (A5 (bp i Z) ?_);exact le v25 []
 intro v8 h;refine S [3,13] ?_;refine bS Z0 [(a0.heap.length:Int)] ?_;refine B [] fun r60 L h=>?_;refine cF ((K3 L).sw 1016 3) ?_;refine S [2,3] ?_;refine X4 fun E=>?_;refine LR e0 hn r60 (fun l k v=>K9 N l k v) h (fun d v=>[(104,.int (d:Int))]) (fun d v=>[(3,.box [.str v] 9)]) [3,4,102,103] [2000] [] nl (fun s=>[(3,.box [.str s] 9)]) [3] [2000] ?_ ?_ ?_
 ·intro _ g d v64 h _;rw[K9] at h;exact Sj [3,2,4,0,20]
 ·intro _ g d v64 Q X h _ o _;rw[K9] at h;refine S [3,2,4,0,1,2,6,3] ?_;refine br o ?_;refine S [3,13] ?_;refine bS Z0 [Q.cls,(Q.aE.length:Int)] ?_;refine B [] fun r75 M h=>?_;refine cF ((K3 M).sw 1016 3) ?_;refine kd [3,4,12,102,103,104] [3,12,2000] ?_;refine S [3] ?_;refine X4 fun F=>?_;refine LR e0 hn r75 (fun l k v=>K5 N l k v) h (fun e v=>[(119,.int (e:Int))]) (fun e v=>[(3,.box [.str v] 9)]) [3,4,102,103,104,117,118] [2000] [] nl (fun s=>[(3,.box [.str s] 9)]) [3,4,102,103,104] [2000] ?_ ?_ ?_
  ·intro _ g e v79 h _;rw[K5] at h;exact Sj [3,2,4,0,20]
  ·intro _ g e v79 R Y h _ p _;rw[K5] at h;refine S [3,2,4,0,1,2,6,3] ?_;refine br p ?_;refine S [5] ?_;refine bS Z0 [R.k,R.n] ?_;refine B [] fun r89 O h=>?_;refine cF ((K3 O).sw 1016 3) ?_;refine kd [3,4,102,103,104,117,118,119] [3,2000] ?_;refine S [5] ?_;refine Or.inl (A5 (bp p F) ?_);exact le r89 []
  intro v81 h;refine S [5] ?_;refine Or.inl (A5 (bp o E) ?_);exact le v81 []
 intro v66 h;exact Sr [3,7]
def rR {N r} (h:jF N =some r):Sq 5 [(2000,GL)] [] (.bool r) [(2000,GL)] []:=by
 refine so func5 ntmps5 fun l hn=>?_;refine B [3,3] fun _ e h=>?_;refine cA (nK N _ e) ?_;refine B [] fun j f h=>?_;refine cA (nM f) ?_;refine B [3] fun _ i h=>?_;refine cA (nN i) ?_;refine S [2] ?_;refine Jb 0 hn h [] [2000] (fun _ h g=>?_) ?_
 ·refine kd [1,2,3] [2,2000] ?_;refine I [8] ?_ ?_<;>intro _ h
  ·refine I [0,13,0] ?_ ?_<;>intro _ h
   ·refine S [0] ?_;refine Exists.intro j (A5 rfl ?_);refine B [0] fun _ a h=>?_;refine cA (nK N _ a) ?_;refine B [0] fun _ b h=>?_;refine cA (rZ b) ?_;refine I [0] ?_ ?_<;>intro _ h
    ·refine B [0] fun _ c h=>?_;refine cA (jA c) ?_;refine I [0] ?_ ?_<;>intro _ h
     ·refine B [0] fun _ d h=>?_;refine cA (jA d) ?_;exact Sj [0]
     exact Sj [0]
    exact Sj [0]
   exact Sj [0]
  exact Sj [0]
 intro k h;exact Sr [7]
def qB {N a0 a1 r} (h:kY N a0 a1=some r):Sq 4 [(2000,GL)] [.agg (cW a0),.int a1] (.bool r) [(2000,GL)] []:=by
 refine so func4 ntmps4 fun i hn=>?_;refine B [3,2,3] fun _ c h=>?_;refine cA (rR c) ?_;refine Ir [4] [3,7] fun _ h=>?_;refine B [1,2,3] fun _ d h=>?_;refine cA (jA d) ?_;refine Ir [4] [3,7] fun _ h=>?_;refine B [1,3] fun _ e h=>?_;refine cA (nM e) ?_;refine S [2,2] ?_;refine Jb 22 hn h [1,5] [2000] (fun _ h g=>?_) ?_
 ·exact L9 [5] [0] [0,13,0]
 intro f h;refine Ir [4] [3,7] fun _ h=>?_;refine A [1,3] fun a h=>?_;refine uo a rfl rfl ?_;refine B [] fun _ b h=>?_;refine cA (nN b) ?_;exact Sr [3,7]
end
end Go.Proofs.YtibjcppjfkamhaaDoor
