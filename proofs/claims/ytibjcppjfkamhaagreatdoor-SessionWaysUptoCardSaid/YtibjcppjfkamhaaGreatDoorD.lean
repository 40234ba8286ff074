import Derived.Test.YtibjcppjfkamhaaGreatDoorC
set_option linter.unusedVariables false
set_option linter.defProp false
set_option linter.unusedSimpArgs false
namespace Go.Proofs.YtibjcppjfkamhaaGreatDoor
open Go.RowKit Go.Proofs.Tryz
open _root_.And renaming intro->AN
open _root_.Bool renaming and_eq_true->IT
open _root_.ByteArray renaming empty->BY
open _root_.List renaming getElem?_eq_some_iff->MI,replicate->MM,map->MQ,mem_of_getElem?->MT,all_eq_true->MV,length_map->Mb,getElem?_set->Mc,getElem?_append_right->Mf,length_take->Mw
open _root_.Nat renaming ble->IN,le_refl->It,le_of_ble_eq_true->Md,mul_le_mul_right->Mx
open _root_.Or renaming inl->ML
section
set_option maxHeartbeats 40000000
set_option maxRecDepth 100000
set_option maxRecDepth 100000
def Af {N r} (h:re N =some r):Spec prog 30 [] [] (.agg (ed r)) [] []:=by
 refine so func30 ntmps30 fun b hn=>?_;unfold re at h;refine B [3,3] fun _ a h=>?_;refine cA (BA N _ a) ?_;exact Sr [7]
def mj (N:Nat) (l:List V) (r:List V) (h:mr N l=some r):Spec prog 121 [] [.sl 2 (MQ eV l)] (.aJ 0) [(0,.row 2 (MQ eV r) 29)] [0]:=by
  obtain⟨d,h⟩:=j9 h;obtain rfl:=oI h;refine Spec.of fF func121 rfl ntmps121 C9 rfl rfl rfl fun f hn=>?_;refine I7 hn ?_;refine j6.seq (j6.seq (j6.ops (jv hn 1 ?_)));refine cY.gh (Gh.nil 3 rfl) ?_;rintro⟨b,c⟩;refine jv hn 1 (cY.done ?_);(repeat (first|refine I7 hn ?_|refine P7 hn ?_|refine R7 hn ?_|refine P9 hn ?_|refine O6 hn ?_|refine N9 hn ?_|refine ax hn ?_));refine nU (fun a=>?_) (fun a=>?_)
  · have e:l=[]:=by simpa using c a
    subst e;refine I7 hn ?_;refine j6.bH 2 5 2 29 rfl rfl rfl ?_;(repeat (first|refine I7 hn ?_|refine P7 hn ?_|refine R7 hn ?_|refine P9 hn ?_|refine O6 hn ?_|refine N9 hn ?_|refine ax hn ?_));exact⟨[(0,5)],_,rfl,rfl,⟨rfl,trivial⟩,rfl,rfl,rfl,rfl,rfl⟩
  · (repeat (first|refine I7 hn ?_|refine P7 hn ?_|refine R7 hn ?_|refine P9 hn ?_|refine O6 hn ?_|refine N9 hn ?_|refine ax hn ?_));refine Exists.intro [] (AN trivial ?_);refine AN (by have:=Md d;simpa using this) ?_;refine Exists.intro (MQ eV l) (AN (Q9 _) ?_);(repeat (first|refine I7 hn ?_|refine P7 hn ?_|refine R7 hn ?_|refine P9 hn ?_|refine O6 hn ?_|refine N9 hn ?_|refine ax hn ?_));exact⟨[(0,7)],_,rfl,rfl,⟨rfl,trivial⟩,rfl,rfl,rfl,rfl,rfl⟩
def uj {N a0 r} (h:ky N a0=some r):Spec prog 92 [] [jO a0] (.aJ 0) [(0,E9 r [] 1),(1,.aE)] [0,1]:=by
 refine so func92 ntmps92 fun o hn=>?_;unfold ky at h;refine S [3,3,2,3] ?_;refine O5 fun i=>?_;refine nR 3 203 2 92 ?_;refine gC (gT 203 501 [(1,(2,29))]) ?_;refine LR e0 hn ([]:List Ob) (fun l k v=>lO N l k v) h (fun f v=>[(8,.int (f:Int))]) (fun f v=>[(203,E9 v [] 501)]) [3,6,7] [501] [] nl (fun s=>[(203,E9 s [] 501)]) [3] [501] ?_ ?_ ?_
 ·intro _ g f m h _;rw[lO] at h;exact Sj [3,2,4,0,20]
 ·intro _ g f m e j h _ a _;rw[lO] at h;refine S [3,2,4,0,1,2,6,3] ?_;refine Y7 a ?_;refine B [3] fun b d h=>?_;refine cA ((mj N _ _ d).sw 0 14) ?_;refine S [5,11] ?_;refine Exists.intro [(1,(2,29))] (Exists.intro (hF (⟨e.cls,b⟩:Ob)) (Exists.intro [(14,ia b)] (AN rfl (AN rfl (AN rfl (AN G7 (AN G7 (AN rfl (AN rfl ?_)))))))));refine A [] fun c h=>?_;refine aD c ?_;refine S [5] ?_;refine ML (AN (V8 a i) ?_);exact le (m++[(⟨e.cls,b⟩:Ob)]) [(203,19),(501,719)]
 intro n h;exact Sr [3,7] [(0,203),(1,501)]
def Ft (N:Nat) (l:List Ins) (r:List Ins) (h:tt N l=some r):Spec prog 122 [] [.sl 5 (MQ bZ l)] (.aJ 0) [(0,.row 5 (MQ bZ r) 55)] [0]:=by
  obtain⟨d,h⟩:=j9 h;obtain rfl:=oI h;refine Spec.of fF func122 rfl ntmps122 C9 rfl rfl rfl fun f hn=>?_;refine I7 hn ?_;refine j6.seq (j6.seq (j6.ops (jv hn 1 ?_)));refine cY.gh (Gh.nil 3 rfl) ?_;rintro⟨b,c⟩;refine jv hn 1 (cY.done ?_);(repeat (first|refine I7 hn ?_|refine P7 hn ?_|refine R7 hn ?_|refine P9 hn ?_|refine O6 hn ?_|refine N9 hn ?_|refine ax hn ?_));refine nU (fun a=>?_) (fun a=>?_)
  · have e:l=[]:=by simpa using c a
    subst e;refine I7 hn ?_;refine j6.bH 2 5 5 55 rfl rfl rfl ?_;(repeat (first|refine I7 hn ?_|refine P7 hn ?_|refine R7 hn ?_|refine P9 hn ?_|refine O6 hn ?_|refine N9 hn ?_|refine ax hn ?_));exact⟨[(0,5)],_,rfl,rfl,⟨rfl,trivial⟩,rfl,rfl,rfl,rfl,rfl⟩
  · (repeat (first|refine I7 hn ?_|refine P7 hn ?_|refine R7 hn ?_|refine P9 hn ?_|refine O6 hn ?_|refine N9 hn ?_|refine ax hn ?_));refine Exists.intro [] (AN trivial ?_);refine AN (by have:=Md d;simpa using this) ?_;refine Exists.intro (MQ bZ l) (AN (Q9 _) ?_);(repeat (first|refine I7 hn ?_|refine P7 hn ?_|refine R7 hn ?_|refine P9 hn ?_|refine O6 hn ?_|refine N9 hn ?_|refine ax hn ?_));exact⟨[(0,7)],_,rfl,rfl,⟨rfl,trivial⟩,rfl,rfl,rfl,rfl,rfl⟩
def uS {N a0 r} (h:lN N a0=some r):Spec prog 93 [] [.agg (J2 a0)] (.agg (J2 r)) [] []:=by
 refine so func93 ntmps93 fun b hn=>?_;unfold lN at h;refine B [3,3] fun _ a h=>?_;refine cA ((Ft N _ _ a).sw 0 5) ?_;refine S [3] ?_;refine j6.ao 5 rfl ?_;exact Sr [7]
def jX {N a0 r} (h:gd N a0=some r):Spec prog 60 [] [.agg (R4 a0)] (.agg [E8 r.a7,.aJ 0,.int r.aB]) [(0,E9 r.heap [] 1),(1,.aE)] [0,1]:=by
 refine so func60 ntmps60 fun C hn=>?_;unfold gd at h;refine B [3,2,8] fun _ u h=>?_;refine cA (((uj u).sw 0 11).sw 1 711) ?_;refine S [2,3] ?_;refine O5 fun t=>?_;refine nB 3 0 501 4 81 ?_;refine LR e0 hn ([]:List Cl) (fun l k v=>lS N l k v) h (fun p v=>[(18,.int (p:Int))]) (fun p v=>[(501,oc v)]) [2,3,16,17] [2,3,11,711] [] nl (fun s=>[(501,oc s)]) [2,3] [2,3,11,711] ?_ ?_ ?_
 ·intro _ g p x h _;rw[lS] at h;exact Sj [3,2,4,0,20]
 ·intro _ g p x a w h _ c _;rw[lS] at h;refine S [3,2,4,0,1,2,6,3] ?_;refine Y7 c ?_;refine S [3,2,3] ?_;refine O5 fun i=>?_;refine nR 6 206 5 27 ?_;refine LR e0 hn ([]:List Me) (fun l k v=>lP N l k v) h (fun b v=>[(25,.int (b:Int))]) (fun b v=>[(206,kv v)]) [2,3,5,6,16,17,18,23,24] [2,3,5,11,501,711] [] nl (fun s=>[(206,kv s)]) [2,3,5,6,16,17,18] [2,3,5,11,501,711] ?_ ?_ ?_
  ·intro _ g b n h _;rw[lP] at h;exact Sj [3,2,4,0,20]
  ·intro _ g b n y q h _ d _;rw[lP] at h;refine S [3,2,4,0,1,2,6,3] ?_;refine Y7 d ?_;refine B [5] fun m j h=>?_;refine cA (uS j) ?_;refine bS J2 [m] ?_;refine A [] fun e h=>?_;refine aM e ?_;refine kd [2,3,5,6,16,17,18,23,24,25] [2,3,5,11,33,501,711] ?_;refine S [5] ?_;refine ML (AN (V8 d i) ?_);exact le (n++[m]) [(206,33)]
  intro o h;refine S [3,5,12] ?_;refine bS fq [(⟨a.name,a.aR,a.aG,o⟩:Cl)] ?_;refine A [] fun f h=>?_;refine aM f ?_;refine S [5] ?_;refine ML (AN (V8 c t) ?_);exact le (x++[(⟨a.name,a.aR,a.aG,o⟩:Cl)]) [(501,41)]
 intro z h;refine S [3] ?_;refine j6.ao 501 rfl ?_;exact Sr [7] [(0,11),(1,711)]
def uA (N:Nat) (l:List Ln) (r:List Ln) (h:X4 N l=some r):Spec prog 94 [] [.sl 2 (MQ V7 l)] (.aJ 0) [(0,.row 2 (MQ V7 r) 167)] [0]:=by
  obtain⟨d,h⟩:=j9 h;obtain rfl:=oI h;refine Spec.of fF func94 rfl ntmps94 C9 rfl rfl rfl fun f hn=>?_;refine I7 hn ?_;refine j6.seq (j6.seq (j6.ops (jv hn 1 ?_)));refine cY.gh (Gh.nil 3 rfl) ?_;rintro⟨b,c⟩;refine jv hn 1 (cY.done ?_);(repeat (first|refine I7 hn ?_|refine P7 hn ?_|refine R7 hn ?_|refine P9 hn ?_|refine O6 hn ?_|refine N9 hn ?_|refine ax hn ?_));refine nU (fun a=>?_) (fun a=>?_)
  · have e:l=[]:=by simpa using c a
    subst e;refine I7 hn ?_;refine j6.bH 2 5 2 167 rfl rfl rfl ?_;(repeat (first|refine I7 hn ?_|refine P7 hn ?_|refine R7 hn ?_|refine P9 hn ?_|refine O6 hn ?_|refine N9 hn ?_|refine ax hn ?_));exact⟨[(0,5)],_,rfl,rfl,⟨rfl,trivial⟩,rfl,rfl,rfl,rfl,rfl⟩
  · (repeat (first|refine I7 hn ?_|refine P7 hn ?_|refine R7 hn ?_|refine P9 hn ?_|refine O6 hn ?_|refine N9 hn ?_|refine ax hn ?_));refine Exists.intro [] (AN trivial ?_);refine AN (by have:=Md d;simpa using this) ?_;refine Exists.intro (MQ V7 l) (AN (Q9 _) ?_);(repeat (first|refine I7 hn ?_|refine P7 hn ?_|refine R7 hn ?_|refine P9 hn ?_|refine O6 hn ?_|refine N9 hn ?_|refine ax hn ?_));exact⟨[(0,7)],_,rfl,rfl,⟨rfl,trivial⟩,rfl,rfl,rfl,rfl,rfl⟩
def ua {N a0 r} (h:lX N a0=some r):Spec prog 61 [] [kl a0] (.aJ 0) [(0,d63 r)] [0]:=by
 refine so func61 ntmps61 fun o hn=>?_;unfold lX at h;refine S [3,3,2,3] ?_;refine O5 fun i=>?_;refine nR 3 203 6 159 ?_;refine LR e0 hn ([]:List Ce) (fun l k v=>lR N l k v) h (fun f v=>[(8,.int (f:Int))]) (fun f v=>[(203,d63 v)]) [3,6,7] [] [] nl (fun s=>[(203,d63 s)]) [3] [] ?_ ?_ ?_
 ·intro _ g f m h _;rw[lR] at h;exact Sj [3,2,4,0,20]
 ·intro _ g f m a j h _ b _;rw[lR] at h;refine S [3,2,4,0,1,2,6,3] ?_;refine Y7 b ?_;refine B [3] fun e d h=>?_;refine cA ((uA N _ _ d).sw 0 14) ?_;refine S [5] ?_;refine bS hC [(⟨a.site,a.aB,a.many,e⟩:Ce)] ?_;refine A [] fun c h=>?_;refine aM c ?_;refine S [5] ?_;refine ML (AN (V8 b i) ?_);exact le (m++[(⟨a.site,a.aB,a.many,e⟩:Ce)]) [(203,19)]
 intro n h;exact Sr [3,7] [(0,203)]
def BM {N a0 r} (h:pX N a0=some r):Spec prog 62 [] [ix a0] (.aJ 0) [(0,yv r)] [0]:=by
 refine so func62 ntmps62 fun o hn=>?_;unfold pX at h;refine S [3,3,2,3] ?_;refine O5 fun i=>?_;refine nR 3 203 4 162 ?_;refine LR e0 hn ([]:List Tl) (fun l k v=>lQ N l k v) h (fun f v=>[(8,.int (f:Int))]) (fun f v=>[(203,yv v)]) [3,6,7] [] [] nl (fun s=>[(203,yv s)]) [3] [] ?_ ?_ ?_
 ·intro _ g f m h _;rw[lQ] at h;exact Sj [3,2,4,0,20]
 ·intro _ g f m e j h _ a _;rw[lQ] at h;refine S [3,2,4,0,1,2,6,3] ?_;refine Y7 a ?_;refine B [3] fun d c h=>?_;refine cA ((uA N _ _ c).sw 0 14) ?_;refine S [5] ?_;refine bS hJ [(⟨e.site,d⟩:Tl)] ?_;refine A [] fun b h=>?_;refine aM b ?_;refine S [5] ?_;refine ML (AN (V8 a i) ?_);exact le (m++[(⟨e.site,d⟩:Tl)]) [(203,19)]
 intro n h;exact Sr [3,7] [(0,203)]
def Fj (N:Nat) (l:List Int) (r:List Int) (h:wM N l=some r):Spec prog 63 [] [.sl 1 (MQ (oH .u8) l)] (.aJ 0) [(0,.row 1 (MQ (oH .u8) r) 5)] [0]:=by
  obtain⟨d,h⟩:=j9 h;obtain rfl:=oI h;refine Spec.of fF func63 rfl ntmps63 C9 rfl rfl rfl fun f hn=>?_;refine I7 hn ?_;refine j6.seq (j6.seq (j6.ops (jv hn 1 ?_)));refine cY.gh (Gh.nil 3 rfl) ?_;rintro⟨b,c⟩;refine jv hn 1 (cY.done ?_);(repeat (first|refine I7 hn ?_|refine P7 hn ?_|refine R7 hn ?_|refine P9 hn ?_|refine O6 hn ?_|refine N9 hn ?_|refine ax hn ?_));refine nU (fun a=>?_) (fun a=>?_)
  · have e:l=[]:=by simpa using c a
    subst e;refine I7 hn ?_;refine j6.bH 2 5 1 5 rfl rfl rfl ?_;(repeat (first|refine I7 hn ?_|refine P7 hn ?_|refine R7 hn ?_|refine P9 hn ?_|refine O6 hn ?_|refine N9 hn ?_|refine ax hn ?_));exact⟨[(0,5)],_,rfl,rfl,⟨rfl,trivial⟩,rfl,rfl,rfl,rfl,rfl⟩
  · (repeat (first|refine I7 hn ?_|refine P7 hn ?_|refine R7 hn ?_|refine P9 hn ?_|refine O6 hn ?_|refine N9 hn ?_|refine ax hn ?_));refine Exists.intro [] (AN trivial ?_);refine AN (by have:=Md d;simpa using this) ?_;refine Exists.intro (MQ (oH .u8) l) (AN (Q9 _) ?_);(repeat (first|refine I7 hn ?_|refine P7 hn ?_|refine R7 hn ?_|refine P9 hn ?_|refine O6 hn ?_|refine N9 hn ?_|refine ax hn ?_));exact⟨[(0,7)],_,rfl,rfl,⟨rfl,trivial⟩,rfl,rfl,rfl,rfl,rfl⟩
def An {N a0 r} (h:pD N a0=some r):Spec prog 29 [] [.agg (ed a0)] (.agg (ed r)) [] []:=by
 refine so func29 ntmps29 fun e hn=>?_;unfold pD at h;refine B [3,2,8] fun _ a h=>?_;refine cA (((jX a).sw 0 5).sw 1 705) ?_;refine B [] fun _ b h=>?_;refine cA ((ua b).sw 0 8) ?_;refine B [] fun _ c h=>?_;refine cA ((BM c).sw 0 11) ?_;refine B [] fun _ d h=>?_;refine cA ((Fj N _ _ d).sw 0 14) ?_;refine j6.az 5 rfl ?_;refine j6.ao 8 rfl ?_;refine j6.ao 11 rfl ?_;refine j6.ao 14 rfl ?_;exact Sr [7]
def qo {N a0 r} (h:kN N a0=some r):Spec prog 36 [] [.str a0] (.bool r) [] []:=by
 refine so func36 ntmps36 fun m hn=>?_;unfold kN at h;refine S [3,2,2] ?_;refine Jb 11 hn h [0] [] (fun _ h g=>?_) ?_
 ·exact K5 [5,18] [0] [0,18,0]
 intro j h;refine Ir [4] [3,7] fun _ h=>?_;refine S [1,2,3,18] ?_;refine j6.cP 13 rfl (fun b=>?_);refine LU e1 hn () (fun l k v=>my N a0 l k) h (fun e v=>[(14,.int (e:Int))]) (fun e v=>[]) [0,13] [] [] nl nl [] [] ?_ ?_ ?_
 ·intro _ g e _ h _;rw[my] at h;exact Sj [3,2,4,0,20]
 ·intro _ g e _ f h a _;rw[my] at h;refine S [3,2,4,0,1,2,6,3,2] ?_;refine Jb 26 hn h [0,13,14] [] (fun _ h g=>?_) ?_
  ·refine B [5] fun _ c h=>?_;refine AH c ?_;refine Ij [10] [0] fun _ h=>?_;refine B [0] fun _ d h=>?_;refine AH d ?_;exact Sj [0,10,0]
  intro i h;refine Ir [4] [3,7] fun _ h=>?_;refine S [1,5] ?_;refine ML (AN (kh a b) ?_);exact le () []
 rintro⟨⟩ h;exact Sr [3,7]
def Eo {N a0 g1 r} (h:U8 N a0 g1=some r) {m:Nat} {a:List AV} (f:∀d n,g1 d=some n->Spec prog m [] [.agg (fq d),.fp a] (.bool n) [] []):Spec prog 123 [] [E8 a0,.fn m [.fp a]] (.int r) [] []:=by
 refine so func123 ntmps123 fun p hn=>?_;unfold U8 at h;refine S [3,2,3] ?_;refine O5 fun i=>?_;refine LR e1 hn () (fun l k v=>F3 N g1 l k) h (fun e v=>[(8,.int (e:Int))]) (fun e v=>[]) [0,1,7] [] [] nl nl [] [] ?_ ?_ ?_
 ·intro _ g e _ h _;rw[F3] at h;exact Sj [3,2,4,0,20]
 ·intro _ g e _ o j h _ c _;rw[F3] at h;refine S [3,2,4,0,1,2,6,3,3] ?_;refine Y7 c ?_;refine B [] fun _ b h=>?_;refine cA (f _ _ b) ?_;refine Ir [4] [3,7] fun _ h=>?_;refine S [1,5] ?_;refine ML (AN (V8 c i) ?_);exact le () []
 rintro⟨⟩ h;exact Sr [3,7]
def Ej {N a0 g1 r} (h:J7 N a0 g1=some r) {e:Nat} {a:List AV} (c:∀b f,g1 b=some f->Spec prog e [] [.agg (fq b),.fp a] (.bool f) [] []):Spec prog 95 [] [E8 a0,.fn e [.fp a]] (.bool r) [] []:=by
 refine so func95 ntmps95 fun i hn=>?_;unfold J7 at h;refine B [3,3] fun _ d h=>?_;refine cA (Eo d c) ?_;exact Sr [7]
def FK {N a0 b0 r} (h:oz N a0 b0=some r):Spec prog 96 [] [.agg (fq a0),.fp [.str b0]] (.bool r) [] []:=by
 refine so func96 ntmps96 fun a hn=>?_;unfold oz at h;exact Sr [3,3,7]
def kI {N a0 a1 r} (h:iI N a0 a1=some r):Spec prog 37 [] [.agg (R4 a0),.int a1] (.int r) [] []:=by
 refine so func37 ntmps37 fun n hn=>?_;unfold iI at h;refine S [3,3,2,3] ?_;refine LF e0 hn (a1,(0:Int),(0:Int)) (fun l v=>oo N a0 l v.1 v.2.1 v.2.2) h (fun v=>[(1,.int v.1),(5,.int v.2.1),(6,.int v.2.2)]) (fun v=>[]) [2] [2] [] (fun s=>[(5,.int s)]) nl [] [] ?_ ?_
 ·rintro _ g ⟨k,i,j⟩ e h;rw[oo] at h;refine S [2,2] ?_;refine Jb 22 hn h [1,2,5,6] [2] (fun _ h g=>?_) ?_
  ·refine I [5] ?_ ?_<;>intro _ h
   ·exact K5 [0,13,0] [0,13,0] [0]
   exact Sj [0]
  intro f h;refine I [4] ?_ ?_<;>intro _ h
  ·refine B [1,2,6,3] fun c a h=>?_;refine G9 a ?_;refine B [12,5] fun d b h=>?_;refine G9 b ?_;refine kd [1,2,5,6] [2] ?_;refine S [5,12] ?_;exact le (d.aR,(wr (i+c.aG)),(wr (j+(1:Int)))) []
  exact Sj [20]
 intro m h;exact Sr [3,7]
def GN {N a0 r} (h:sA N a0=some r):Spec prog 60 [] [.agg (R4 a0)] (.agg [.aJ 0,jO r.heap,.int r.aB]) [(0,oc r.a7)] [0]:=by
 refine so func60 ntmps60 fun C hn=>?_;unfold sA at h;refine B [3,2,8] fun _ u h=>?_;refine cA (((uj u).sw 0 11).sw 1 711) ?_;refine S [2,3] ?_;refine O5 fun t=>?_;refine nB 3 0 501 4 81 ?_;refine LR e0 hn ([]:List Cl) (fun l k v=>lF N l k v) h (fun p v=>[(18,.int (p:Int))]) (fun p v=>[(501,oc v)]) [2,3,16,17] [2,3,11,711] [] nl (fun s=>[(501,oc s)]) [2,3] [2,3,11,711] ?_ ?_ ?_
 ·intro _ g p x h _;rw[lF] at h;exact Sj [3,2,4,0,20]
 ·intro _ g p x a w h _ c _;rw[lF] at h;refine S [3,2,4,0,1,2,6,3] ?_;refine Y7 c ?_;refine S [3,2,3] ?_;refine O5 fun i=>?_;refine nR 6 206 5 27 ?_;refine LR e0 hn ([]:List Me) (fun l k v=>lD N l k v) h (fun b v=>[(25,.int (b:Int))]) (fun b v=>[(206,kv v)]) [2,3,5,6,16,17,18,23,24] [2,3,5,11,501,711] [] nl (fun s=>[(206,kv s)]) [2,3,5,6,16,17,18] [2,3,5,11,501,711] ?_ ?_ ?_
  ·intro _ g b n h _;rw[lD] at h;exact Sj [3,2,4,0,20]
  ·intro _ g b n y q h _ d _;rw[lD] at h;refine S [3,2,4,0,1,2,6,3] ?_;refine Y7 d ?_;refine B [5] fun m j h=>?_;refine cA (uS j) ?_;refine bS J2 [m] ?_;refine A [] fun e h=>?_;refine aM e ?_;refine kd [2,3,5,6,16,17,18,23,24,25] [2,3,5,11,33,501,711] ?_;refine S [5] ?_;refine ML (AN (V8 d i) ?_);exact le (n++[m]) [(206,33)]
  intro o h;refine S [3,5,12] ?_;refine bS fq [(⟨a.name,a.aR,a.aG,o⟩:Cl)] ?_;refine A [] fun f h=>?_;refine aM f ?_;refine S [5] ?_;refine ML (AN (V8 c t) ?_);exact le (x++[(⟨a.name,a.aR,a.aG,o⟩:Cl)]) [(501,41)]
 intro z h;refine S [3] ?_;refine j6.az 11 rfl ?_;exact Sr [7] [(0,501)]
def H2 {N a0 a1 a2 a3 r} (h:sB N a0 a1 a2 a3=some r):Spec prog 64 [] [.agg (R4 a0),.str a1,.int a2,.int a3] (.aY [.agg (R4 r.1),.int r.2.1,.int r.2.2]) [] []:=by
 refine so func64 ntmps64 fun l hn=>?_;unfold sB at h;refine S [3,2,6,2] ?_;refine j6.gh (Gh.bC 5 5 rfl rfl rfl) (fun _=>?_);refine Jb 12 hn h [2,3,4,5,8] [4,8] (fun _ h g=>?_) ?_
 ·refine B [5] fun _ d h=>?_;refine cA (qo d) ?_;refine Ij [] [0] fun _ h=>?_;refine B [0] fun _ e h=>?_;refine cA (Ej e (fun _ _ f=>FK f)) ?_;exact Sj [0]
 intro j h;refine Ir [4] [3,7] fun _ h=>?_;refine S [2] ?_;refine Jb 23 hn h [2,3,4,5,8] [4,8] (fun _ h g=>?_) ?_
 ·exact K5 [5] [0] [0,13,0]
 intro k h;refine Ir [4] [3,7] fun _ h=>?_;refine S [2] ?_;refine Jb 34 hn h [2,3,4,5,8] [4,8] (fun _ h g=>?_) ?_
 ·refine Ij [5] [0] fun _ h=>?_;refine B [0] fun _ b h=>?_;refine cA (kI b) ?_;refine Ij [0,12,0] [0] fun _ h=>?_;exact K5 [0] [0] [0]
 intro i h;refine Ir [4] [3,7] fun _ h=>?_;refine Ir [3,13,4] [3,7] fun _ h=>?_;refine B [1,3] fun _ c h=>?_;refine cA ((GN c).sw 0 61) ?_;refine S [3,12] ?_;refine bS fq [(⟨a1,a2,a3,[]⟩:Cl)] ?_;refine A [] fun a h=>?_;refine aM a ?_;refine S [2] ?_;refine kd [4,8,11] [4,8,11,69] ?_;refine S [8,13] ?_;refine j6.ao 69 rfl ?_;exact Sr [7]
def r6 {N a0 a1 r} (h:kH N a0 a1=some r):Spec prog 107 [] [.int a0,.int a1] (.bool r) [] []:=by
 refine so func107 ntmps107 fun b hn=>?_;unfold kH at h;refine S [3,2] ?_;refine Jb 4 hn h [] [] (fun _ h g=>?_) ?_
 ·exact K5 [5] [0] [0]
 intro a h;exact Sr [7]
def FP {N a0 a1 a2 a3 r} (h:rY N a0 a1 a2 a3=some r):Spec prog 74 [] [.fp (R4 a0),.int a1,.fp (J2 a2),.agg (bZ a3)] (.int r) [] []:=by
 refine so func74 ntmps74 fun q hn=>?_;unfold rY at h;refine S [3,3,3,2,3] ?_;refine J e1 hn h (fun s=>[(10,.bool s.1),(11,.bool s.2)]) nl [7] [7] (fun _ h g=>?_) ?_
 ·refine S [6,2,3] ?_;refine Jb 14 hn h [0,1,2,7,9,11,13] [7] (fun _ h g=>?_) ?_
  ·refine Ij [4] [1] fun _ h=>?_;refine S [3] ?_;refine iB 14 hn h [0,1,2,7,9,11,13] [7] [] fun _ h g=>?_;refine Ij [4] [1] fun _ h=>?_;refine S [3] ?_;refine iB 14 hn h [0,1,2,7,9,11,13] [7] [] fun _ h g=>?_;refine Ij [4] [1] fun _ h=>?_;refine S [3] ?_;refine iB 14 hn h [0,1,2,7,9,11,13] [7] [] fun _ h g=>?_;refine Ij [4] [1] fun _ h=>?_;refine S [3] ?_;refine iB 14 hn h [0,1,2,7,9,11,13] [7] [] fun _ h g=>?_;refine Ij [4] [1] fun _ h=>?_;refine kd [0,1,2,7,9,11,13] [7] ?_;refine S [3] ?_;refine iB 14 hn h [0,1,2,7,9,11,13] [7] [] fun _ h g=>?_;exact K5 [4] [1] [5]
  intro p h;refine Jk e1 hn h (fun s=>[(10,.bool s.1),(11,.bool s.2)]) nl [7] [7] [] fun _ h g=>?_;refine Ij [4] [5] fun _ h=>?_;refine S [3] ?_;refine Jk e1 hn h (fun s=>[(10,.bool s.1),(11,.bool s.2)]) nl [7] [7] [] fun _ h g=>?_;refine I [4] ?_ ?_<;>intro _ h
  ·refine B [8] fun _ a h=>?_;refine cA (r6 a) ?_;exact je
  refine S [2,3] ?_;refine Jb 35 hn h [0,1,2,7,9,11,13] [7] (fun _ h g=>?_) ?_
  ·exact K5 [4] [1] [5]
  intro j h;refine Jk e1 hn h (fun s=>[(10,.bool s.1),(11,.bool s.2)]) nl [7] [7] [] fun _ h g=>?_;refine I [4] ?_ ?_<;>intro _ h
  ·refine B [8] fun _ b h=>?_;refine cA (r6 b) ?_;exact je
  refine S [2,3] ?_;refine Jb 46 hn h [0,1,2,7,9,11,13] [7] (fun _ h g=>?_) ?_
  ·exact K5 [4] [1] [5]
  intro k h;refine Jk e1 hn h (fun s=>[(10,.bool s.1),(11,.bool s.2)]) nl [7] [7] [] fun _ h g=>?_;refine I [4] ?_ ?_<;>intro _ h
  ·refine B [8] fun _ c h=>?_;refine cA (kI c) ?_;refine B [] fun _ d h=>?_;refine cA (r6 d) ?_;exact je
  refine S [3] ?_;refine Jk e1 hn h (fun s=>[(10,.bool s.1),(11,.bool s.2)]) nl [7] [7] [] fun _ h g=>?_;refine I [4] ?_ ?_<;>intro _ h
  ·refine iB 10 hn h [7,11] [7] [] fun _ h g=>?_;exact K5 [5] [0] [0]
  refine S [3] ?_;refine Jk e1 hn h (fun s=>[(10,.bool s.1),(11,.bool s.2)]) nl [7] [7] [] fun _ h g=>?_;refine I [4] ?_ ?_<;>intro _ h
  ·refine iB 10 hn h [7,11] [7] [] fun _ h g=>?_;refine kd [0,7,11] [7] ?_;refine Ij [8] [0] fun _ h=>?_;exact K5 [0] [0,13,0] [0]
  refine S [3] ?_;refine Jk e1 hn h (fun s=>[(10,.bool s.1),(11,.bool s.2)]) nl [7] [7] [] fun _ h g=>?_;refine I [4] ?_ ?_<;>intro _ h
  ·refine B [5] fun _ e h=>?_;refine cA (r6 e) ?_;exact je
  refine S [2,3] ?_;refine Jb 94 hn h [2,7,9,11] [7] (fun _ h g=>?_) ?_
  ·exact K5 [4] [1] [5]
  intro l h;refine I [4] ?_ ?_<;>intro _ h
  ·refine B [8,13] fun _ f h=>?_;refine cA (r6 f) ?_;exact je
  exact Sr [3,7]
 rintro⟨n,o⟩ h;refine Ir [2,6,3,4] [3,7] fun _ h=>?_;refine S [2] ?_;refine Jb 109 hn h [] [] (fun _ h g=>?_) ?_
 ·refine I [5] ?_ ?_<;>intro _ h
  ·refine B [0] fun _ i h=>?_;refine cA (qo i) ?_;refine Ij [0] [0] fun _ h=>?_;refine I [0] ?_ ?_<;>intro _ h
   ·refine Ij [0] [0] fun _ h=>?_;exact K5 [0] [0] [0]
   exact K5 [0] [0] [0]
  refine I [0] ?_ ?_<;>intro _ h
  ·refine Ij [0] [0] fun _ h=>?_;exact K5 [0] [0] [0]
  exact K5 [0] [0] [0]
 intro m h;exact k6 [4] [3,7] [1,3,7]
def GM {N a0 r} (h:rz N a0=some r):Spec prog 108 [] [.agg (bZ a0)] (.aY [.int r.1,.int r.2]) [] []:=by
 refine so func108 ntmps108 fun b hn=>?_;unfold rz at h;refine S [3,2,3,6,2,3] ?_;refine Jb 6 hn h [1,5] [1] (fun _ h g=>?_) ?_
 ·refine Ij [4] [1] fun _ h=>?_;refine S [3] ?_;refine iB 6 hn h [1,5] [1] [] fun _ h g=>?_;refine Ij [4] [1] fun _ h=>?_;refine S [3] ?_;refine iB 6 hn h [1,5] [1] [] fun _ h g=>?_;refine Ij [4] [1] fun _ h=>?_;refine S [3] ?_;refine iB 6 hn h [1,5] [1] [] fun _ h g=>?_;exact K5 [4] [1] [5]
 intro a h;refine Ir [4] [3,7] fun _ h=>?_;refine Ir [3,4] [3,7] fun _ h=>?_;refine Ir [3,4] [3,12,7] fun _ h=>?_;exact k6 [3,4] [3,7] [1,3,7]
def FH {N a0 r} (h:rb N a0=some r):Spec prog 75 [] [.agg (J2 a0)] (.aY [.aJ 0,.agg (d10 r.2)]) [(0,w3 r.1)] [0]:=by
 refine so func75 ntmps75 fun W hn=>?_;unfold rb at h;refine A [3,3,13] fun z h=>?_;refine mS (enc:=ei) (x:=(0:Int)) z aT ?_;refine S [2,3,13] ?_;refine j6.cP 17 rfl (fun u=>?_);refine LU e0 hn (MM (a0.code.length:Int).toNat (0:Int)) (fun l k v=>lB N l k v) h (fun y v=>[(18,.int (y:Int))]) (fun y v=>[(15,w3 v)]) [1,3,4,17] [1,3] [] nl (fun s=>[(15,w3 s)]) [1,3,4] [1,3] ?_ ?_ ?_
 ·intro _ g y G h _;rw[lB] at h;exact Sj [3,2,4,0,20]
 ·intro _ g y G H h m _;rw[lB] at h;refine B [3,2,4,0,1,2,6,3,5] fun _ c h=>?_;refine U0 c ?_;refine sM (l6 c).2 (-1:Int) ?_;refine S [5] ?_;refine ML (AN (kh m u) ?_);exact le (G.set ((y:Int).toNat) (-1:Int)) []
 intro V h;refine S [3] ?_;refine bS vK [(⟨(0:Int),(0:Int)⟩:du)] ?_;refine S [2] ?_;refine LF e1 hn (V,[(⟨(0:Int),(0:Int)⟩:du)]) (fun l v=>mo N a0 l v.1 v.2) h (fun v=>[]) (fun v=>[(15,w3 v.1),(26,d14 v.2)]) [1,3,4,6] [1,3] [] nl (fun s=>[(15,w3 s)]) [3,4] [3] ?_ ?_
 ·rintro _ g ⟨L,M⟩ K h;rw[mo] at h;refine I [2,3,13,4] ?_ ?_<;>intro _ h
  ·refine S [1] ?_;refine J e1 hn h (fun s=>[(6,.aJ 39)]) (fun s=>[(15,w3 s.1),(39,d14 s.2)]) [1,3,4] [1,3] (fun _ h g=>?_) ?_
   ·refine B [6,2,8] fun E d h=>?_;refine U0 d ?_;refine S [17] ?_;refine J4 (l6 d).2 ?_;refine B [] fun n e h=>?_;refine U0 e ?_;refine S [17] ?_;refine J4 (l6 e).2 ?_;refine kd [1,3,4,6,7,8] [1,3,15,26] ?_;refine A [3] fun o h=>?_;refine LD o rfl rfl ?_;refine S [2,2] ?_;refine Jb 48 hn h [1,3,4,6,7,8] [1,3,15,39] (fun _ h g=>?_) ?_
    ·exact K5 [5] [0] [0,13,0]
    intro P h;refine I [4] ?_ ?_<;>intro _ h
    ·refine S [2,8,13] ?_;refine nR 2 202 1 3 ?_;exact Sr [7] [(0,202)]
    refine B [1,2,3] fun _ f h=>?_;refine U0 f ?_;refine J4 (l6 f).2 ?_;refine I [4] ?_ ?_<;>intro _ h
    ·refine B [2,3] fun _ i h=>?_;refine U0 i ?_;refine J4 (l6 i).2 ?_;refine I [4] ?_ ?_<;>intro _ h
     ·refine kd [3,7] [3] ?_;refine S [3] ?_;refine nR 2 202 1 3 ?_;exact Sr [7] [(0,202)]
     exact Sj [1,20]
    refine B [1,3] fun _ j h=>?_;refine U0 j ?_;refine sM (l6 j).2 n.f1 ?_;refine B [3] fun F w h=>?_;refine G9 w ?_;refine kd [1,3,4,6,7,8,9] [1,3,9,15,39] ?_;refine B [3] fun b t h=>?_;refine cA (GM t) ?_;refine S [2,2] ?_;refine Jb 91 hn h [1,3,4,6,7,8,9,10,11] [1,3,9,15,39] (fun _ h g=>?_) ?_
    ·refine Ij [5] [0] fun _ h=>?_;exact K5 [0] [0] [0]
    intro Q h;refine I [4] ?_ ?_<;>intro _ h
    ·refine S [3] ?_;refine nR 2 202 1 3 ?_;exact Sr [7] [(0,202)]
    refine I [1,3,12,12,2,3,4] ?_ ?_<;>intro _ h
    ·refine kd [3,7] [3] ?_;refine S [3] ?_;refine nR 2 202 1 3 ?_;exact Sr [7] [(0,202)]
    refine S [1,2,2] ?_;refine Jb 110 hn h [1,3,4,6,7,8,9] [1,3,9,15,39] (fun _ h g=>?_) ?_
    ·refine kd [1,3,4,6,7,8,9] [1,3,9,15,39] ?_;exact K5 [5] [0] [0]
    intro R h;refine J e0 hn h (fun s=>[(6,.aJ 117)]) (fun s=>[(117,d14 s)]) [1,3,4,8,9] [1,3,9,15] (fun _ h g=>?_) ?_
    ·refine I [4] ?_ ?_<;>intro _ h
     ·refine S [5,12] ?_;refine bS vK [(⟨(wr (E.f0+(1:Int))),(wr (n.f1+(wr (b.2-b.1))))⟩:du)] ?_;refine A [] fun p h=>?_;refine aM p ?_;exact je
     exact Sj [1] [(117,39)]
    intro T h;refine S [2] ?_;refine Jb 125 hn h [1,3,4,6,8,9] [1,3,9,15,117] (fun _ h g=>?_) ?_
    ·exact K5 [5] [0] [0]
    intro U h;refine Jk e0 hn h (fun s=>[(6,.aJ 132)]) (fun s=>[(132,d14 s)]) [1,3,4] [1,3,15] [(39,132)] fun _ h g=>?_;refine I [4] ?_ ?_<;>intro _ h
    ·refine S [5] ?_;refine bS vK [(⟨F.a,(wr (n.f1+(wr (b.2-b.1))))⟩:du)] ?_;refine A [] fun q h=>?_;refine aM q ?_;exact je
    exact Sj [1] [(132,117)]
   rintro⟨C,D⟩ h;exact le (C,D) [(26,39)]
  exact Sj [20]
 intro O h;exact Sr [3,7] [(0,15)]
def B0 {N a0 a1 a2 r} (h:pK N a0 a1 a2=some r):Spec prog 39 [] [.agg (R4 a0),.int a1,.agg (J2 a2)] (.agg (d10 r)) [] []:=by
 refine so func39 ntmps39 fun p hn=>?_;unfold pK at h;refine S [3,2,6,2] ?_;refine Jb 12 hn h [1,3,5,6] [3,5,6] (fun _ h g=>?_) ?_
 ·exact K5 [5] [0] [0,13,0]
 intro n h;refine Ir [4] [3,7] fun _ h=>?_;refine B [3] fun _ i h=>?_;refine cA (qo i) ?_;refine Ir [4] [3,7] fun _ h=>?_;refine S [2] ?_;refine Jb 29 hn h [1,3,5,6] [3,5,6] (fun _ h g=>?_) ?_
 ·refine Ij [5] [0] fun _ h=>?_;refine Ij [0] [0] fun _ h=>?_;exact K5 [0] [0] [0]
 intro o h;refine Ir [4] [3,7] fun _ h=>?_;refine Ir [3,4] [3,7] fun _ h=>?_;refine S [2] ?_;refine Jb 54 hn h [1,3,5,6] [3,5,6] (fun _ h g=>?_) ?_
 ·exact K5 [5,13] [0] [0,13,0]
 intro j h;refine Ir [4] [3,7] fun _ h=>?_;refine S [1,2,3] ?_;refine O5 fun c=>?_;refine j6.gh (Gh.bC 3 3 rfl rfl rfl) (fun _=>?_);refine j6.gh (Gh.bC 5 5 rfl rfl rfl) (fun _=>?_);refine LR e1 hn () (fun l k v=>n9 N a0 a1 a2 l k) h (fun a v=>[(69,.int (a:Int))]) (fun a v=>[]) [1,3,5,6,67,68] [6] [] nl nl [5,6] [6] ?_ ?_ ?_
 ·intro _ g a _ h _;rw[n9] at h;exact Sj [3,2,4,0,20]
 ·intro _ g a _ m f h _ b _;rw[n9] at h;refine S [3,2,4,0,1,2,6,3] ?_;refine Y7 b ?_;refine B [3] fun _ d h=>?_;refine cA (FP d) ?_;refine kd [1,3,5,6,7,9,67,68,69] [6] ?_;refine Ir [3,4] [3,7] fun _ h=>?_;refine S [1,5] ?_;refine ML (AN (V8 b c) ?_);exact le () []
 rintro⟨⟩ h;refine B [3] fun _ e h=>?_;refine cA ((FH e).sw 0 85) ?_;exact Sr [3,7]
def zN {N a0 a1 g2 r} (h:y7 N a0 a1 g2=some r) {o:Nat} (c:∀j k p,g2 j k=some p->Spec prog o [] [.agg (J2 j),.str k] (.int p) [] []):Spec prog 106 [] [Lx a0,.str a1,.fn o []] (.aY [.int r.1,.bool r.2]) [] []:=by
 refine so func106 ntmps106 fun y hn=>?_;unfold y7 at h;refine S [3,3,13,3,2] ?_;refine LF e0 hn ((0:Int),(a0.length:Int)) (fun l v=>w9 N a0 a1 g2 l v.1 v.2) h (fun v=>[(9,.int v.1),(10,.int v.2)]) (fun v=>[]) [0,1,2,8] [] [] (fun s=>[(9,.int s)]) nl [0,1,2,8] [] ?_ ?_
 ·rintro _ g ⟨w,x⟩ q h;rw[w9] at h;refine I [2,3,4] ?_ ?_<;>intro _ h
  ·refine S [1] ?_;refine J e0 hn h (fun s=>[(9,.int s.1),(10,.int s.2)]) nl [0,1,2,8] [] (fun _ h g=>?_) ?_
   ·refine A [6,3,12] fun a h=>?_;refine EV a ?_;refine A [10,10] fun b h=>?_;refine EV b ?_;refine B [3] fun _ f h=>?_;refine G9 f ?_;refine B [] fun _ d h=>?_;refine cA (c _ _ _ d) ?_;refine Jk e0 hn h (fun s=>[(9,.int s.1),(10,.int s.2)]) nl [0,1,2,8] [] [] fun _ h g=>?_;refine I [4] ?_ ?_<;>intro _ h
    ·refine kd [0,1,2,8,10,11] [] ?_;exact Sj [5,12]
    refine kd [0,1,2,8,9,11] [] ?_;exact Sj [5]
   rintro⟨m,n⟩ h;exact le (m,n) []
  exact Sj [20]
 intro u h;refine S [2] ?_;refine J e0 hn h (fun s=>[(6,.int u),(7,.bool s)]) nl [] [] (fun _ h g=>?_) ?_
 ·refine I [5] ?_ ?_<;>intro _ h
  ·refine B [0] fun _ i h=>?_;refine G9 i ?_;refine B [0] fun _ e h=>?_;refine cA (c _ _ _ e) ?_;exact Sj [0]
  exact Sj [0]
 intro t h;exact Sr [7]
def zv {N a0 r} (h:cmp_isNaN_string N a0=some r):Spec prog 145 [] [.str a0] (.bool r) [] []:=by
 refine so func145 ntmps145 fun a hn=>?_;unfold cmp_isNaN_string at h;exact Sr [3,3,7]
def Fc {N a0 a1 r} (h:u9 N a0 a1=some r):Spec prog 105 [] [.str a0,.str a1] (.int r) [] []:=by
 refine so func105 ntmps105 fun c hn=>?_;unfold u9 at h;refine B [3,3] fun _ a h=>?_;refine cA (zv a) ?_;refine B [3] fun _ b h=>?_;refine cA (zv b) ?_;refine I [2,3,4] ?_ ?_<;>intro _ h
 ·exact k6 [2,3,4] [3,7] [1,3,7]
 refine Ir [1,2,3,4] [3,7] fun _ h=>?_;refine Ir [1,2,3,4] [3,7] fun _ h=>?_;refine I [1,2,3,4] ?_ ?_<;>intro _ h
 ·refine kd [] [] ?_;exact Sr [3,7]
 refine S [1] ?_;refine kd [] [] ?_;exact Sr [3,7]
def Aj {N a0 a1 r} (h:jY N a0 a1=some r):Spec prog 72 [] [.agg (J2 a0),.str a1] (.int r) [] []:=by
 refine so func72 ntmps72 fun b hn=>?_;unfold jY at h;refine B [3,3] fun _ a h=>?_;refine cA (Fc a) ?_;exact Sr [7]
def GZ {N a0 r} (h:rp N a0=some r):Spec prog 60 [] [.agg (R4 a0)] (.agg [.aJ 0,jO r.heap,.int r.aB]) [(0,d81 r.a7 [] 1),(1,.aE)] [0,1]:=by
 refine so func60 ntmps60 fun C hn=>?_;unfold rp at h;refine B [3,2,8] fun _ u h=>?_;refine cA (((uj u).sw 0 11).sw 1 711) ?_;refine S [2,3] ?_;refine O5 fun t=>?_;refine nB 3 0 501 4 81 ?_;refine gC (gT 501 502 [(3,(5,27))]) ?_;refine LR e0 hn ([]:List Cl) (fun l k v=>lG N l k v) h (fun p v=>[(18,.int (p:Int))]) (fun p v=>[(501,d81 v [] 502)]) [2,3,16,17] [2,3,11,502,711] [] nl (fun s=>[(501,d81 s [] 502)]) [2,3] [2,3,11,502,711] ?_ ?_ ?_
 ·intro _ g p x h _;rw[lG] at h;exact Sj [3,2,4,0,20]
 ·intro _ g p x a w h _ c _;rw[lG] at h;refine S [3,2,4,0,1,2,6,3] ?_;refine Y7 c ?_;refine S [3,2,3] ?_;refine O5 fun j=>?_;refine nR 6 206 5 27 ?_;refine LR e0 hn ([]:List Me) (fun l k v=>lE N l k v) h (fun b v=>[(25,.int (b:Int))]) (fun b v=>[(206,kv v)]) [2,3,5,6,16,17,18,23,24] [2,3,5,11,501,502,711] [] nl (fun s=>[(206,kv s)]) [2,3,5,6,16,17,18] [2,3,5,11,501,502,711] ?_ ?_ ?_
  ·intro _ g b o h _;rw[lE] at h;exact Sj [3,2,4,0,20]
  ·intro _ g b o y q h _ d _;rw[lE] at h;refine S [3,2,4,0,1,2,6,3] ?_;refine Y7 d ?_;refine B [5] fun n m h=>?_;refine cA (uS m) ?_;refine bS J2 [n] ?_;refine A [] fun f h=>?_;refine aM f ?_;refine kd [2,3,5,6,16,17,18,23,24,25] [2,3,5,11,33,501,502,711] ?_;refine S [5] ?_;refine ML (AN (V8 d j) ?_);exact le (o++[n]) [(206,33)]
  intro e h;refine S [3,5,11] ?_;refine Exists.intro [(3,(5,27))] (Exists.intro (fq (⟨a.name,a.aR,a.aG,e⟩:Cl)) (Exists.intro [(206,kv e)] (AN rfl (AN rfl (AN rfl (AN G7 (AN G7 (AN rfl (AN rfl ?_)))))))));refine A [] fun i h=>?_;refine aD i ?_;refine S [5] ?_;refine ML (AN (V8 c t) ?_);exact le (x++[(⟨a.name,a.aR,a.aG,e⟩:Cl)]) [(501,41),(502,741)]
 intro z h;refine S [3] ?_;refine j6.az 11 rfl ?_;exact Sr [7] [(0,501),(1,502)]
def GA {N a0 a1 a2 r} (h:rU N a0 a1 a2=some r):Spec prog 97 [] [.agg (R4 a0),.int a1,.agg (J2 a2)] (.aY [.agg (R4 r.1),.int r.2]) [] []:=by
 refine so func97 ntmps97 fun w hn=>?_;unfold rU at h;refine S [3,2,2] ?_;refine Jb 20 hn h [1,3,5,6] [3,5,6] (fun _ h g=>?_) ?_
 ·exact K5 [5] [0] [0,13,0]
 intro v h;refine Ir [4] [3,7] fun _ h=>?_;refine B [1,2,8] fun _ n h=>?_;refine G9 n ?_;refine B [] fun q m h=>?_;refine cA (zN m (fun _ _ _ p=>Aj p)) ?_;refine S [2,2] ?_;refine Jb 45 hn h [1,3,5,6,8,9] [3,5,6] (fun _ h g=>?_) ?_
 ·refine kd [1,3,5,6,8,9] [3,5,6] ?_;refine I [5] ?_ ?_<;>intro _ h
  ·refine B [0] fun _ k h=>?_;refine G9 k ?_;exact Sj [0,13,0]
  exact Sj [0]
 intro t h;refine Ir [4] [3,7] fun _ h=>?_;refine B [1,3] fun _ f h=>?_;refine cA (((GZ f).sw 0 48).sw 1 748) ?_;refine B [3] fun e a h=>?_;refine iD a ?_;refine S [2,3] ?_;refine J e0 hn h nl (fun s=>[(48,d81 s [] 501),(501,.aE)]) [5,6,8,10,11] [5,6,10] (fun _ h g=>?_) ?_
 ·refine I [4] ?_ ?_<;>intro _ h
  ·refine gC (gD 48 501 502 a1.toNat 3 (l6 a).2) ?_;refine kd [5,6,8,10,11] [5,6,10,48,501,502] ?_;refine S [5] ?_;refine hD (l6 a).2 ?_;refine bS J2 [(⟨BY,(0:Int),(0:Int),(0:Int),[]⟩:Me)] ?_;refine B [] fun o i h=>?_;refine cA ((((Fv N _ _ _ _ i).sw 1000 501).sw 1032 62).sw 0 63) ?_;refine hS (l6 a).2 ?_;refine gE (gA 48 63 503 a1.toNat 3 ((l6 a).2) (⟨e.name,e.aR,e.aG,o⟩:Cl)) ?_;exact je [(501,503)]
  exact Sj [1] [(501,748)]
 intro u h;refine B [2] fun c b h=>?_;refine gC (gD 48 504 505 a1.toNat 3 b) ?_;refine kd [5,6,8,10,11] [5,6,10,48,504,505] ?_;refine S [8] ?_;refine hD b ?_;refine B [] fun l j h=>?_;refine cA (uS j) ?_;refine B [] fun _ d h=>?_;refine U0 d ?_;refine sM (l6 d).2 l ?_;refine gC (gA 48 504 506 a1.toNat 3 b (⟨c.name,c.aR,c.aG,(c.aC.set q.1.toNat l)⟩:Cl)) ?_;refine kd [6,10] [6,10,48,506] ?_;refine S [3,12,3] ?_;refine j6.az 48 rfl ?_;exact Sr [7]
def G1 {N a0 a1 a2 r} (h:uW N a0 a1 a2=some r):Spec prog 65 [(1000,.box (ed a0) 45)] [.ptr 1000 0,.int a1,.agg (J2 a2)] (.agg (iM r.1)) [(1000,.box (ed r.2) 45)] []:=by
 refine so func65 ntmps65 fun d hn=>?_;unfold uW at h;refine B [3,2,2,8] fun _ a h=>?_;refine cA (B0 a) ?_;refine Ir [3,4] [3,7] fun _ h=>?_;refine B [1,2,8] fun _ b h=>?_;refine cA (GA b) ?_;refine S [2] ?_;refine kd [0,6,8,9] [6,8,1000] ?_;refine S [3] ?_;refine J e0 hn h nl (fun s=>[(1000,.box (ed s) 45)]) [0,6,9] [6] (fun _ h g=>?_) ?_
 ·exact K5 [4] [5] [1]
 intro c h;exact Sr [3,7]
def uh {N a0 a1 a2 r} (h:ja N a0 a1 a2=some r):Spec prog 98 [] [jO a0,.int a1,.int a2] (.aY [.aJ 0,.agg (eV r.2.1),.int r.2.2]) [(0,E9 r.1 [] 1),(1,.aE)] [0,1]:=by
 refine so func98 ntmps98 fun d hn=>?_;unfold ja at h;refine I [3,2,3,13,4] ?_ ?_<;>intro _ h
 ·refine S [3] ?_;refine nR 6 206 2 92 ?_;refine gC (gT 206 501 [(1,(2,29))]) ?_;exact Sr [7] [(0,206),(1,501)]
 refine B [1,2,8] fun _ c h=>?_;refine cA (((uj c).sw 0 14).sw 1 714) ?_;refine A [] fun a h=>?_;refine mS (enc:=eV) (x:=(⟨(0:Int),(0:Int)⟩:V)) a aT ?_;refine S [11] ?_;refine Exists.intro [(1,(2,29))] (Exists.intro (hF (⟨a1,(MM (max a2 (0:Int)).toNat (⟨(0:Int),(0:Int)⟩:V))⟩:Ob)) (Exists.intro [(18,ia (MM (max a2 (0:Int)).toNat (⟨(0:Int),(0:Int)⟩:V)))] (AN rfl (AN rfl (AN rfl (AN G7 (AN G7 (AN rfl (AN rfl ?_)))))))));refine A [] fun b h=>?_;refine aD b ?_;exact Sr [13,7] [(0,21),(1,721)]
def FQ {N a0 a1 r} (h:ue N a0 a1=some r):Spec prog 66 [(1000,.box (ed a0) 45)] [.ptr 1000 0,.int a1] (.agg (iM r.1)) [(1000,.box (ed r.2) 45)] []:=by
 refine so func66 ntmps66 fun d hn=>?_;unfold ue at h;refine S [3,2,2] ?_;refine Jb 23 hn h [0,1,4] [4,1000] (fun _ h g=>?_) ?_
 ·refine I [5] ?_ ?_<;>intro _ h
  ·exact K5 [0] [0] [0,13,0]
  exact Sj [0]
 intro c h;refine Ir [4] [3,7] fun _ h=>?_;refine S [1,2] ?_;refine kd [0,1,4] [4,1000] ?_;refine B [8] fun _ b h=>?_;refine cA (kI b) ?_;refine B [] fun _ a h=>?_;refine cA (((uh a).sw 0 38).sw 1 738) ?_;refine S [2] ?_;refine kd [0,4,5,6,7] [4,6,38,738,1000] ?_;refine Ir [3,4] [3,7] fun _ h=>?_;refine S [1,3,3] ?_;refine j6.az 38 rfl ?_;exact Sr [7]
def Am {N a0 a1 r} (h:p7 N a0 a1=some r):Spec prog 76 [] [.agg (eV a0),.int a1] (.int r) [] []:=by
 refine so func76 ntmps76 fun d hn=>?_;unfold p7 at h;refine S [3,2,3] ?_;refine J e1 hn h nl nl [] [] (fun _ h g=>?_) ?_
 ·refine S [6,2,3] ?_;refine Jb 7 hn h [1,2,6] [2] (fun _ h g=>?_) ?_
  ·refine Ij [4] [1] fun _ h=>?_;refine S [3] ?_;refine iB 7 hn h [1,2,6] [2] [] fun _ h g=>?_;exact K5 [4] [1] [5]
  intro c h;refine Jk e1 hn h nl nl [] [] [] fun _ h g=>?_;refine I [4] ?_ ?_<;>intro _ h
  ·refine Ir [3,4] [3,7] fun _ h=>?_;exact Sj [1]
  refine S [3] ?_;refine Jk e1 hn h nl nl [] [] [] fun _ h g=>?_;refine I [4] ?_ ?_<;>intro _ h
  ·refine S [2] ?_;refine Jb 23 hn h [] [] (fun _ h g=>?_) ?_
   ·exact K5 [5] [0] [0]
   intro a h;refine Ir [4] [3,7] fun _ h=>?_;exact Sj [1]
  refine I [3,4] ?_ ?_<;>intro _ h
  ·refine S [2] ?_;refine Jb 34 hn h [] [] (fun _ h g=>?_) ?_
   ·exact K5 [5] [0] [0]
   intro b h;refine Ir [4] [3,7] fun _ h=>?_;exact Sj [1]
  exact Sr [3,7]
 rintro⟨⟩ h;exact Sr [3,7]
def wX {N a0 a1 a2 r} (h:pT N a0 a1 a2=some r):Spec prog 163 [] [.agg (R4 a0),.agg (kV a1),.int a2] (.int r) [] []:=by
 refine so func163 ntmps163 fun o hn=>?_;unfold pT at h;refine B [3,2,3] fun _ j h=>?_;refine cA (qo j) ?_;refine Ir [4] [3,7] fun _ h=>?_;refine Ir [1,2,3,13,4] [3,7] fun _ h=>?_;refine S [1,2,2] ?_;refine Jb 23 hn h [3,4] [3,4] (fun _ h g=>?_) ?_
 ·exact K5 [5] [0] [0]
 intro n h;refine Ir [4] [3,7] fun _ h=>?_;refine S [1,2,3] ?_;refine bS eV [a1.aQ] ?_;refine A [] fun c h=>?_;refine aM c ?_;refine O5 fun d=>?_;refine LR e1 hn () (fun l k v=>nF N a0 a1 l k) h (fun a v=>[(31,.int (a:Int))]) (fun a v=>[]) [3,29,30] [3,29] [] nl nl [] [] ?_ ?_ ?_
 ·intro _ g a _ h _;rw[nF] at h;exact Sj [3,2,4,0,20]
 ·intro _ g a _ m i h _ f _;rw[nF] at h;refine B [3,2,4,0,1,2,6,3] fun _ b h=>?_;refine U0 b ?_;refine J4 (l6 b).2 ?_;refine B [3,13] fun _ e h=>?_;refine cA (Am e) ?_;refine Ir [3,4] [3,7] fun _ h=>?_;refine S [1,5] ?_;refine ML (AN (V8 f d) ?_);exact le () []
 rintro⟨⟩ h;exact Sr [3,7]
def kG {N a0 a1 r} (h:kL N a0 a1=some r):Spec prog 164 [] [jO a0,.agg (eV a1)] (.int r) [] []:=by
 refine so func164 ntmps164 fun d hn=>?_;unfold kL at h;refine Ir [3,2,3,6,3,4] [3,7] fun _ h=>?_;refine S [2,3] ?_;refine Jb 9 hn h [0,3,6] [3] (fun _ h g=>?_) ?_
 ·exact K5 [4] [1] [5]
 intro b h;refine Ir [4] [3,7] fun _ h=>?_;refine Ir [3,4] [3,7] fun _ h=>?_;refine S [1,2,2] ?_;refine Jb 28 hn h [0,3] [3] (fun _ h g=>?_) ?_
 ·refine I [5] ?_ ?_<;>intro _ h
  ·exact K5 [0] [0,13,0] [0]
  exact Sj [0]
 intro c h;refine I [4] ?_ ?_<;>intro _ h
 ·refine B [3] fun _ a h=>?_;refine G9 a ?_;exact Sr [7]
 exact Sr [1,3,7]
def jW {N a0 a1 a2 r} (h:fU N a0 a1 a2=some r):Spec prog 73 [] [.agg (R4 a0),.int a1,.str a2] (.aY [.int r.1,.int r.2]) [] []:=by
 refine so func73 ntmps73 fun m hn=>?_;unfold fU at h;refine S [3,2,3] ?_;refine LF e1 hn (a1,(0:Int)) (fun l v=>nC N a0 a2 l v.1 v.2) h (fun v=>[(1,.int v.1),(8,.int v.2)]) (fun v=>[]) [2,3] [3] [] nl nl [] [] ?_ ?_
 ·rintro _ g ⟨k,i⟩ j h;rw[nC] at h;refine S [2,2] ?_;refine Jb 26 hn h [1,2,3,8] [3] (fun _ h g=>?_) ?_
  ·refine I [5] ?_ ?_<;>intro _ h
   ·exact K5 [0,13,0] [0,13,0] [0]
   exact Sj [0]
  intro f h;refine I [4] ?_ ?_<;>intro _ h
  ·refine B [1,2,6,2,3] fun _ b h=>?_;refine G9 b ?_;refine B [] fun _ a h=>?_;refine cA (zN a (fun _ _ _ e=>Aj e)) ?_;refine kd [1,2,3,8,9,10] [3] ?_;refine Ir [3,4] [3,7] fun _ h=>?_;refine B [1,5] fun d c h=>?_;refine G9 c ?_;refine S [5,12] ?_;exact le (d.aR,(wr (i+(1:Int)))) []
  exact Sj [20]
 rintro⟨⟩ h;exact Sr [3,7]
def K8 {N a0 a1 r} (h:F4 N a0 a1=some r) {b:Nat} {a:List AV} {c:Nat}:Spec prog 165 [(1000,mB a0 (.fn b [.fp a]) (.fn c []) 1001 1003)] [.ptr 1000 0,.int a1] (.aY []) [(1000,mB r (.fn b [.fp a]) (.fn c []) 1001 1003)] []:=by
 refine so func165 ntmps165 fun e hn=>?_;unfold F4 at h;refine S [15,3] ?_;refine J e0 hn h nl (fun s=>[(1000,.box [.ptr 1001 0,.fn b [.fp a],.fn c [],.int a0.fuel,.int a0.sends,.int a0.turns,.aJ 1003,.int a0.back.k,.int a0.back.n,.int s] 251)]) [0] [] (fun _ h g=>?_) ?_
 ·exact K5 [4] [5] [1]
 intro d h;exact Sr [14]
def vy {N a0 a1 r} (h:M9 N a0 a1=some r) {d:Nat} {a:List AV} {e:Nat}:Spec prog 195 [(1000,mB a0 (.fn d [.fp a]) (.fn e []) 1001 1003),(1003,p9 a0.aF [] 1005)] [.ptr 1000 0,.bool a1] (.bool r.1) [(1000,mB r.2 (.fn d [.fp a]) (.fn e []) 1001 1003),(1003,p9 a0.aF [] 1005)] []:=by
 refine so func195 ntmps195 fun o hn=>?_;unfold M9 at h;refine S [3,2] ?_;refine J e1 hn h nl (fun s=>[(1000,.box [.ptr 1001 0,.fn d [.fp a],.fn e [],.int s.1,.int s.2.1,.int s.2.2.1,.aJ 1003,.int s.2.2.2.1,.int s.2.2.2.2.1,.int s.2.2.2.2.2] 251)]) [0] [1003] (fun _ h g=>?_) ?_
 ·refine S [6,2,8] ?_;refine Jk e1 hn h nl (fun s=>[(1000,.box [.ptr 1001 0,.fn d [.fp a],.fn e [],.int s.1,.int s.2.1,.int s.2.2.1,.aJ 1003,.int s.2.2.2.1,.int s.2.2.2.2.1,.int s.2.2.2.2.2] 251)]) [0] [1003] [] fun _ h g=>?_;refine I [4] ?_ ?_<;>intro _ h
  ·refine B [5] fun _ b h=>?_;refine cA (K8 b) ?_;exact je
  refine S [2] ?_;refine Jb 24 hn h [0] [1000,1003] (fun _ h g=>?_) ?_
  ·exact K5 [5] [0,13,0] [0]
  intro f h;refine I [4] ?_ ?_<;>intro _ h
  ·refine B [5] fun _ c h=>?_;refine cA (K8 c) ?_;exact je
  exact Sr [3,12,3,7]
 rintro⟨i,j,k,l,m,n⟩ h;exact Sr [3,7]
def wO {N a0 r} (h:nL N a0=some r):Spec prog 225 [] [.int a0] (.agg (eV r)) [] []:=by
 refine so func225 ntmps225 fun a hn=>?_;unfold nL at h;exact Sr [3,3,16,7]
def rV {N a0 r} (h:pG N a0=some r):Spec prog 226 [] [.bool a0] (.agg (eV r)) [] []:=by
 refine so func226 ntmps226 fun a hn=>?_;unfold pG at h;exact k6 [3,2,3,4] [3,7] [1,3,7]
def wS {N a0 a1 a2 r} (h:sE N a0 a1 a2=some r):Spec prog 196 [] [.int a0,.agg (eV a1),.agg (eV a2)] (.aY [.agg (eV r.1),.int r.2]) [] []:=by
 refine so func196 ntmps196 fun i hn=>?_;unfold sE at h;refine S [3,2,2] ?_;refine Jb 16 hn h [0,4,5,6] [4,5,6] (fun _ h g=>?_) ?_
 ·exact K5 [5] [0] [0]
 intro f h;refine Ir [4] [3,7] fun _ h=>?_;refine I [1,3,2,3,6,3,4] ?_ ?_<;>intro _ h
 ·refine B [3,12] fun _ e h=>?_;refine cA (wO e) ?_;exact Sr [7]
 refine I [3,4] ?_ ?_<;>intro _ h
 ·refine B [3,12] fun _ a h=>?_;refine cA (wO a) ?_;exact Sr [7]
 refine I [3,4] ?_ ?_<;>intro _ h
 ·refine B [3,12] fun _ b h=>?_;refine cA (wO b) ?_;exact Sr [7]
 refine I [3,4] ?_ ?_<;>intro _ h
 ·refine B [3] fun _ c h=>?_;refine cA (rV c) ?_;exact Sr [7]
 refine I [3,4] ?_ ?_<;>intro _ h
 ·refine kd [4,5,6] [4,5,6] ?_;refine B [3] fun _ d h=>?_;refine cA (rV d) ?_;exact Sr [7]
 refine S [1] ?_;refine kd [6] [6] ?_;exact Sr [3,7]
def zp {N a0 a1 r} (h:Q6 N a0 a1=some r) {e:Nat} {c:List AV} {f:Nat}:Spec prog 197 [(1000,mB a0 (.fn e [.fp c]) (.fn f []) 1001 1003),(1003,p9 a0.aF [] 1005)] [.ptr 1000 0,.agg (eV a1)] (.aY []) [(1000,mB r (.fn e [.fp c]) (.fn f []) 1001 1003),(1003,p9 r.aF [] 5),(5,.aE)] [5]:=by
 refine so func197 ntmps197 fun i hn=>?_;unfold Q6 at h;refine I [15,3,2,3,13,4] ?_ ?_<;>intro _ h
 ·refine S [3] ?_;refine gC (gS 1003 501) ?_;exact Sr [7] [(5,501)]
 refine B [1,2,8,13,12] fun b a h=>?_;refine iD a ?_;refine gC (gD 1003 502 503 ((wr ((a0.aF.length:Int)-(1:Int))).toNat) 8 (l6 a).2) ?_;refine kd [0,3,4] [3,502,503,1000,1003] ?_;refine S [8] ?_;refine hD (l6 a).2 ?_;refine bS eV [a1] ?_;refine A [] fun d h=>?_;refine aM d ?_;refine hS (l6 a).2 ?_;refine gE (gA 1003 33 504 ((wr ((a0.aF.length:Int)-(1:Int))).toNat) 8 ((l6 a).2) (⟨b.aI,b.aK,b.aV,b.code,b.aQ,b.args,b.a8,(b.aA++[a1]),b.aH⟩:j3)) ?_;exact Sr [14] [(5,504)]
def zi {N a0 gq a1 a2 a3 a4 r} (h:N7 N a0 gq a1 a2 a3 a4=some r) {K:Nat} {a:List AV} {v:Nat} (y:∀t u H,gq t u=some H->Spec prog v [] [.int t,.int u] (.aY [.agg (eb H.1),.bool H.2]) [] []):Spec prog 166 [(1000,mB a0 (.fn K [.fp a]) (.fn v []) 1001 1003),(1001,.box [E8 a0.w.a7,.aJ 1002,.int a0.w.aB] 40),(1003,p9 a0.aF [] 1005)] [.ptr 1000 0,.int a1,.int a2,.agg (eV a3),zC a4] (.aY []) [(1000,mB r (.fn K [.fp a]) (.fn v []) 1001 4),(1001,.box [E8 a0.w.a7,.aJ 1002,.int a0.w.aB] 40),(4,p9 r.aF [] 5),(5,.aE),(1003,.aE)] [5,4]:=by
 refine so func166 ntmps166 fun L hn=>?_;unfold N7 at h;refine B [15,3,3] fun _ C h=>?_;refine G9 C ?_;refine B [] fun _ D h=>?_;refine G9 D ?_;refine S [2] ?_;refine kd [0,1,2,4,8,10] [8,1000,1001,1003] ?_;refine I [3,13,4] ?_ ?_<;>intro _ h
 ·refine B [3] fun _ z h=>?_;refine cA (K8 z) ?_;refine gC (gR 1000 6 1003 501 502) ?_;exact Sr [7] [(4,501),(5,502)]
 refine I [1,2,3,4] ?_ ?_<;>intro _ h
 ·refine S [2] ?_;refine kd [0,4,8,10] [8,1000,1001,1003] ?_;refine B [3] fun _ e h=>?_;refine cA (vy e) ?_;refine I [4] ?_ ?_<;>intro _ h
  ·refine gC (gR 1000 6 1003 503 504) ?_;exact Sr [7] [(4,503),(5,504)]
  refine B [1,2,8] fun _ p h=>?_;refine G9 p ?_;refine B [] fun _ f h=>?_;refine cA (wS f) ?_;refine S [2] ?_;refine kd [0,11,12] [11,1000,1001,1003] ?_;refine I [3,4] ?_ ?_<;>intro _ h
  ·refine B [3] fun _ i h=>?_;refine cA (K8 i) ?_;refine gC (gR 1000 6 1003 505 506) ?_;exact Sr [7] [(4,505),(5,506)]
  refine B [1,3] fun _ j h=>?_;refine cA ((zp j).sw 5 507) ?_;refine gC (gR 1000 6 1003 508 509) ?_;exact Sr [7] [(4,508),(5,509)]
 refine S [1,2] ?_;refine kd [0,1,2,4,8,10] [8,1000,1001,1003] ?_;refine B [3] fun _ l h=>?_;refine cA (vy l) ?_;refine I [4] ?_ ?_<;>intro _ h
 ·refine gC (gR 1000 6 1003 510 511) ?_;exact Sr [7] [(4,510),(5,511)]
 refine S [1,2] ?_;refine kd [0,1,2,4,8,10] [8,1000,1001,1003] ?_;refine B [8] fun E m h=>?_;refine cA ((mj N _ _ m).sw 0 77) ?_;refine A [] fun b h=>?_;refine mS (enc:=eV) (x:=(⟨(0:Int),(0:Int)⟩:V)) b aT ?_;refine S [2] ?_;refine kd [0,1,2,13] [13,77,82,1000,1001,1003] ?_;refine B [3] fun _ o h=>?_;refine cA (y _ _ _ o) ?_;refine S [3] ?_;refine J e0 hn h nl (fun s=>[(13,.box [.int a1,.int a2,.bool s.1,oW s.2.1,.int a3.k,.int a3.n,.aJ 77,.aJ 99,.aL,.int (0:Int)] 288),(99,ia s.2.2)]) [0,13] [77,1000,1001,1003] (fun _ h g=>?_) ?_
 ·refine I [4] ?_ ?_<;>intro _ h
  ·refine kd [0,13,14] [13,14,77,82,1000,1001,1003] ?_;refine A [8] fun c h=>?_;refine mS (enc:=eV) (x:=(⟨(0:Int),(0:Int)⟩:V)) c aT ?_;exact je
  exact Sj [1] [(99,82)]
 rintro⟨F,G,q⟩ h;refine j6.ao 77 rfl ?_;refine kd [0,13] [13,99,1000,1001,1003] ?_;refine S [8,11] ?_;refine Exists.intro [(7,(2,29)),(8,(2,29))] (Exists.intro (vU (⟨a1,a2,F,G,a3,E,q,[],(0:Int)⟩:j3)) (Exists.intro [(99,ia q)] (AN rfl (AN rfl (AN rfl (AN G7 (AN G7 (AN rfl (AN rfl ?_)))))))));refine A [] fun d h=>?_;refine aD d ?_;exact Sr [14] [(4,110),(5,810)]
def Et {N a0 gl gq a1 a2 a3 r} (h:ml N a0 gl gq a1 a2 a3=some r) {u:Nat} {c:List AV} (y:∀d f t i,gl d f t=some i->Spec prog u [] [.agg (bT d),.int f,.str t,.fp c] (.aY [.int i.1,.int i.2]) [] []) {v:Nat} (z:∀d f i,gq d f=some i->Spec prog v [] [.int d,.int f] (.aY [.agg (eb i.1),.bool i.2]) [] []):Spec prog 198 [(1000,mB a0 (.fn u [.fp c]) (.fn v []) 1001 1003),(1001,.box [E8 a0.w.a7,.aJ 1002,.int a0.w.aB] 40),(1002,E9 a0.w.heap [] 1004),(1003,p9 a0.aF [] 1005)] [.ptr 1000 0,.ep 1003 a1 10 0,.agg (bZ a2),.int a3] (.aY []) [(1000,mB r (.fn u [.fp c]) (.fn v []) 1001 4),(1001,.box [E8 a0.w.a7,.aJ 1002,.int a0.w.aB] 40),(1002,E9 a0.w.heap [] 1004),(4,p9 r.aF [] 5),(5,.aE),(1003,.aE)] [5,4]:=by
 refine so func198 ntmps198 fun F hn=>?_;unfold ml at h;refine B [15,3,2] fun e b h=>?_;refine gC (gD 1003 501 502 a1 8 b) ?_;refine kd [0,1,3,6] [6,501,502,1000,1001,1002,1003] ?_;refine S [8] ?_;refine hD b ?_;refine S [13,12,2] ?_;refine kd [0,1,3,6,8] [6,501,502,1000,1001,1002,1003] ?_;refine S [8] ?_;refine hD b ?_;refine A [] fun x h=>?_;refine d59 x rfl rfl ?_;refine B [] fun _ C h=>?_;refine qE ((Spec.drop1 (mj N _ _ C)).sw 0 28) ⟨d66 _,trivial⟩ ?_;refine hD b ?_;refine B [12] fun _ q h=>?_;refine U0 q ?_;refine J4 (l6 q).2 ?_;refine S [2] ?_;refine gC (gB 1003 501 503 a1 8 b) ?_;refine kd [0,1,3,6,8,9,10] [6,10,28,503,1000,1001,1002,1003] ?_;refine S [8] ?_;refine J4 b ?_;refine J4 b ?_;refine B [] fun _ o h=>?_;refine G9 o ?_;refine J4 b ?_;refine B [] fun D p h=>?_;refine G9 p ?_;refine S [2] ?_;refine kd [0,1,6,8,9,10,11] [6,10,11,28,503,1000,1001,1002,1003] ?_;refine S [3] ?_;refine J4 b ?_;refine J e0 hn h nl (fun s=>[(11,.box [.int e.aI,.str D.name,.int s] 156)]) [0,1,6,8,9,10,11] [6,10,28,503,1000,1001,1002,1003] (fun _ h g=>?_) ?_
 ·exact K5 [4] [5] [1]
 intro E h;refine S [2] ?_;refine kd [0,1,6,8,9,10,11] [6,10,11,28,503,1000,1001,1002,1003] ?_;refine B [8] fun _ k h=>?_;refine cD (kG k) ?_;refine B [] fun _ l h=>?_;refine cA (y _ _ _ _ l) ?_;refine S [2] ?_;refine kd [0,1,8,9,10,12,13] [10,28,503,1000,1001,1002,1003] ?_;refine I [3,4] ?_ ?_<;>intro _ h
 ·refine B [3] fun _ m h=>?_;refine cA (K8 m) ?_;refine gC (gR 1000 6 1003 504 505) ?_;exact Sr [7] [(4,504),(5,505)]
 refine S [1] ?_;refine gC (gD 1003 506 507 a1 8 b) ?_;refine kd [0,1,8,9,10,12,13] [10,28,506,507,1000,1001,1002,1003] ?_;refine S [3] ?_;refine hD b ?_;refine A [12] fun j h=>?_;refine jB j rfl rfl ?_;refine hS b ?_;refine gC (gA 1003 102 508 a1 8 b (⟨e.aI,e.aK,e.aV,e.code,e.aQ,e.args,e.a8,(e.aA.take (wr ((wr ((e.aA.length:Int)-a2.a))-(1:Int))).toNat),e.aH⟩:j3)) ?_;refine kd [0,1,9,10,12,13] [10,28,508,1000,1001,1002,1003] ?_;refine B [5] fun _ n h=>?_;refine cF ((((zi n z).sw 1005 508).sw 5 509).sw 4 510) ?_;exact Sr [14] [(4,510),(5,509)]
def zm {N a0 a1 a2 r} (h:Q0 N a0 a1 a2=some r) {e:Nat} {a:List AV} {f:Nat}:Spec prog 199 [(1000,mB a0 (.fn e [.fp a]) (.fn f []) 1001 1003),(1003,p9 a0.aF [] 1005)] [.ptr 1000 0,.ep 1003 a1 10 0,.int a2] (.aY []) [(1000,mB r (.fn e [.fp a]) (.fn f []) 1001 1003),(1003,p9 r.aF [] 5),(5,.aE)] [5]:=by
 refine so func199 ntmps199 fun o hn=>?_;unfold Q0 at h;refine B [15,2,3] fun b d h=>?_;refine J4 d ?_;refine J e0 hn h nl (fun s=>[(1000,.box [.ptr 1001 0,.fn e [.fp a],.fn f [],.int s.1,.int s.2.1,.int s.2.2.1,.aJ 1003,.int s.2.2.2.1,.int s.2.2.2.2.1,.int s.2.2.2.2.2] 251)]) [0,1,2] [1003] (fun _ h g=>?_) ?_
 ·refine I [4] ?_ ?_<;>intro _ h
  ·refine S [3,12,3] ?_;refine Jk e0 hn h nl (fun s=>[(1000,.box [.ptr 1001 0,.fn e [.fp a],.fn f [],.int s.1,.int s.2.1,.int s.2.2.1,.aJ 1003,.int s.2.2.2.1,.int s.2.2.2.2.1,.int s.2.2.2.2.2] 251)]) [0,1,2] [1003] [] fun _ h g=>?_;refine I [4] ?_ ?_<;>intro _ h
   ·refine kd [0,1,2] [1000,1003] ?_;refine B [5] fun _ c h=>?_;refine cA (K8 c) ?_;exact je
   exact Sj [1]
  exact Sj [1]
 rintro⟨i,j,k,l,m,n⟩ h;refine S [5] ?_;refine sD d (⟨b.aI,b.aK,b.aV,b.code,b.aQ,b.args,b.a8,b.aA,a2⟩:j3) ?_;refine gE (gS 1003 501) ?_;exact Sr [14] [(5,501)]
def Q8 {N fr a0 r} (h:Z0 N fr a0=some r):Spec prog 200 [(1003,p9 fr [] 1005)] [.ep 1003 a0 10 0] (.agg (eV r.1)) [(1003,p9 r.2 [] 5),(5,.aE)] [5]:=by
 refine so func200 ntmps200 fun e hn=>?_;unfold Z0 at h;refine B [3,2] fun b a h=>?_;refine gC (gD 1003 501 502 a0 8 a) ?_;refine kd [0,2] [2,501,502,1003] ?_;refine S [8] ?_;refine hD a ?_;refine hD a ?_;refine B [13,12] fun _ c h=>?_;refine U0 c ?_;refine J4 (l6 c).2 ?_;refine S [2,8] ?_;refine hD a ?_;refine hD a ?_;refine A [13,12] fun d h=>?_;refine jB d rfl rfl ?_;refine hS a ?_;refine gC (gA 1003 27 503 a0 8 a (⟨b.aI,b.aK,b.aV,b.code,b.aQ,b.args,b.a8,(b.aA.take (wr ((b.aA.length:Int)-(1:Int))).toNat),b.aH⟩:j3)) ?_;refine kd [0,2,3] [2,3,503,1003] ?_;exact Sr [3,7] [(5,503)]
def FA {N a0 a1 a2 r} (h:V9 N a0 a1 a2=some r) {m:Nat} {e:List AV} {n:Nat}:Spec prog 201 [(1000,mB a0 (.fn m [.fp e]) (.fn n []) 1001 1003),(1001,.box [E8 a0.w.a7,.aJ 1002,.int a0.w.aB] 40),(1002,E9 a0.w.heap [] 1004),(1003,p9 a0.aF [] 1005)] [.ptr 1000 0,.ep 1003 a1 10 0,.agg (bZ a2)] (.aY []) [(1000,mB r (.fn m [.fp e]) (.fn n []) 1001 1003),(1001,.box [E8 a0.w.a7,.aJ 1002,.int a0.w.aB] 40),(1002,E9 a0.w.heap [] 1004),(1003,p9 r.aF [] 5),(5,.aE)] [5]:=by
 refine so func201 ntmps201 fun o hn=>?_;unfold V9 at h;refine B [15,3,2,2] fun b a h=>?_;refine gC (gD 1003 501 502 a1 8 a) ?_;refine kd [0,1,5] [5,501,502,1000,1001,1002,1003] ?_;refine S [8] ?_;refine hD a ?_;refine hD a ?_;refine B [13,12,12] fun _ k h=>?_;refine U0 k ?_;refine J4 (l6 k).2 ?_;refine B [] fun _ l h=>?_;refine cD (kG l) ?_;refine I [4] ?_ ?_<;>intro _ h
 ·refine gC (gB 1003 501 503 a1 8 a) ?_;exact Sr [7] [(5,503)]
 refine S [1,2] ?_;refine gC (gB 1003 501 504 a1 8 a) ?_;refine kd [0,1,5] [5,504,1000,1001,1002,1003] ?_;refine S [8] ?_;refine J4 a ?_;refine B [] fun _ i h=>?_;refine G9 i ?_;refine J4 a ?_;refine B [] fun d j h=>?_;refine G9 j ?_;refine gC (gD 1003 505 506 a1 7 a) ?_;refine kd [0,1,5,6] [5,505,506,1000,1001,1002,1003] ?_;refine S [8] ?_;refine hD a ?_;refine A [] fun f h=>?_;refine jB f rfl rfl ?_;refine sD a (⟨b.aI,b.aK,false,b.code,b.aQ,b.args,b.a8,b.aA,b.aH⟩:j3) ?_;refine sD (setAt a) (⟨b.aI,b.aK,false,d.code,b.aQ,b.args,b.a8,b.aA,b.aH⟩:j3) ?_;refine hS (setAt (setAt a)) ?_;refine sD (setAt (setAt a)) (⟨b.aI,b.aK,false,d.code,b.aQ,b.args,b.a8,b.aA,a2.c⟩:j3) ?_;refine gE (gA 1003 68 507 a1 7 (setAt (setAt (setAt a))) (⟨b.aI,b.aK,false,d.code,b.aQ,b.args,(b.a8.take d.a8.toNat),b.aA,a2.c⟩:j3)) ?_;exact Sr [14] [(5,507)]
def q9 {N a0 fr b0 r} (h:O0 N a0 fr b0=some r):Spec prog 227 [(1016,.box [.ep 1019 b0 10 0] 289),(1019,p9 fr [] 1021)] [.agg (eV a0),.ptr 1016 0] (.aY []) [(1016,.box [.ep 1019 b0 10 0] 289),(1019,p9 r [] 21),(21,.aE)] [21]:=by
 refine so func227 ntmps227 fun d hn=>?_;unfold O0 at h;refine B [15,3] fun b a h=>?_;refine gC (gD 1019 501 502 b0 8 a) ?_;refine kd [1,2] [2,501,502,1016,1019] ?_;refine S [8] ?_;refine hD a ?_;refine bS eV [a0] ?_;refine A [] fun c h=>?_;refine aM c ?_;refine hS a ?_;refine gE (gA 1019 10 503 b0 8 a (⟨b.aI,b.aK,b.aV,b.code,b.aQ,b.args,b.a8,(b.aA++[a0]),b.aH⟩:j3)) ?_;exact Sr [14] [(21,503)]
def oe {N a0 fr b0 r} (h:og N a0 fr b0=some r):Spec prog 227 [(1016,.box [.ep 1019 b0 10 0] 289),(1019,p9 fr [(b0,7,1022)] 1021)] [.agg (eV a0),.ptr 1016 0] (.aY []) [(1016,.box [.ep 1019 b0 10 0] 289),(1019,p9 r [(b0,7,1022)] 21),(21,.aE)] [21]:=by
 refine so func227 ntmps227 fun d hn=>?_;unfold og at h;refine B [15,3] fun b a h=>?_;refine gC (gD 1019 501 502 b0 8 a) ?_;refine kd [1,2] [2,501,502,1016,1019] ?_;refine S [8] ?_;refine hD a ?_;refine bS eV [a0] ?_;refine A [] fun c h=>?_;refine aM c ?_;refine hS a ?_;refine gE (gA 1019 10 503 b0 8 a (⟨b.aI,b.aK,b.aV,b.code,b.aQ,b.args,b.a8,(b.aA++[a0]),b.aH⟩:j3)) ?_;exact Sr [14] [(21,503)]
def ot {N a0 a1 a2 r} (h:pN N a0 a1 a2=some r):Spec prog 228 [] [jO a0,.agg (eV a1),.int a2] (.agg (eV r)) [] []:=by
 refine so func228 ntmps228 fun e hn=>?_;unfold pN at h;refine S [3,2,2] ?_;refine Jb 36 hn h [0,2,4,6] [4,6] (fun _ h g=>?_) ?_
 ·refine Ij [5] [0] fun _ h=>?_;refine Ij [0] [0] fun _ h=>?_;refine Ij [0,13,0] [0] fun _ h=>?_;refine Ij [0] [0] fun _ h=>?_;refine B [0] fun _ c h=>?_;refine G9 c ?_;exact Sj [0,13,0]
 intro d h;refine Ir [4] [3,7] fun _ h=>?_;refine B [1,3] fun _ a h=>?_;refine G9 a ?_;refine B [] fun _ b h=>?_;refine G9 b ?_;exact Sr [7]
def vz {N a0 sk fr b0 r} (h:qs N a0 sk fr b0=some r):Spec prog 227 [(1016,.box [.ep 1019 b0 10 0] 289),(1019,p9 fr [(b0,8,1022)] 1021),(1022,ia sk)] [.agg (eV a0),.ptr 1016 0] (.aY []) [(1016,.box [.ep 1019 b0 10 0] 289),(1019,p9 fr [(b0,8,22)] 1021),(22,ia r),(1022,.aE)] [22]:=by
 refine so func227 ntmps227 fun c hn=>?_;unfold qs at h;refine B [15,3,8] fun _ a h=>?_;refine hD a ?_;refine bS eV [a0] ?_;refine A [] fun b h=>?_;refine aM b ?_;refine hS a ?_;exact Sr [14] [(22,10)]
def oh {N fr a0 r} (h:oj N fr a0=some r):Spec prog 200 [(1003,p9 fr [(a0,7,1006)] 1005)] [.ep 1003 a0 10 0] (.agg (eV r.1)) [(1003,p9 r.2 [(a0,7,1006)] 5),(5,.aE)] [5]:=by
 refine so func200 ntmps200 fun e hn=>?_;unfold oj at h;refine B [3,2] fun b a h=>?_;refine gC (gD 1003 501 502 a0 8 a) ?_;refine kd [0,2] [2,501,502,1003] ?_;refine S [8] ?_;refine hD a ?_;refine hD a ?_;refine B [13,12] fun _ c h=>?_;refine U0 c ?_;refine J4 (l6 c).2 ?_;refine S [2,8] ?_;refine hD a ?_;refine hD a ?_;refine A [13,12] fun d h=>?_;refine jB d rfl rfl ?_;refine hS a ?_;refine gC (gA 1003 27 503 a0 8 a (⟨b.aI,b.aK,b.aV,b.code,b.aQ,b.args,b.a8,(b.aA.take (wr ((b.aA.length:Int)-(1:Int))).toNat),b.aH⟩:j3)) ?_;refine kd [0,2,3] [2,3,503,1003] ?_;exact Sr [3,7] [(5,503)]
def zr {N a0 a1 a2 a3 r} (h:Z8 N a0 a1 a2 a3=some r) {j:Nat} {c:List AV} {k:Nat}:Spec prog 229 [(1000,mB a0 (.fn j [.fp c]) (.fn k []) 1001 1003),(1001,.box [E8 a0.w.a7,.aJ 1002,.int a0.w.aB] 40),(1002,E9 a0.w.heap [] 1004)] [.ptr 1000 0,.agg (eV a1),.int a2,.agg (eV a3)] (.aY []) [(1000,mB r (.fn j [.fp c]) (.fn k []) 1001 1003),(1001,.box [E8 a0.w.a7,.aJ 1002,.int a0.w.aB] 40),(1002,E9 r.w.heap [] 3),(3,.aE)] [3]:=by
 refine so func229 ntmps229 fun p hn=>?_;unfold Z8 at h;refine S [15,3,2] ?_;refine J e0 hn h (fun s=>[(40,.bool s)]) (fun s=>[(501,.aE),(1002,E9 a0.w.heap [] 501)]) [0,2,5,7] [5,7,1000,1001] (fun _ h g=>?_) ?_
 ·rcases qV h with⟨b,h⟩|⟨o,b,h⟩
  ·refine kd [0,2,5,7] [5,7,1000,1001,1002] ?_;refine I [8] ?_ ?_<;>intro _ h
   ·refine I [0,13,0] ?_ ?_<;>intro _ h
    ·cases h
    refine S [0] ?_;refine gE (gS 1002 501) ?_;exact je
   refine S [0] ?_;refine gE (gS 1002 502) ?_;exact je [(501,502)]
  refine gC (gD 1002 503 504 a1.n.toNat 1 b) ?_;refine kd [0,2,5,7] [5,7,503,504,1000,1001,1002] ?_;refine I [8] ?_ ?_<;>intro _ h
  ·refine I [0,13,0] ?_ ?_<;>intro _ h
   ·refine B [0] fun _ e h=>?_;refine iD e ?_;refine S [0] ?_;refine hD b ?_;refine S [0,13,0] ?_;refine gE (gB 1002 503 505 a1.n.toNat 1 b) ?_;exact je [(501,505)]
   refine S [0] ?_;refine gE (gB 1002 503 506 a1.n.toNat 1 b) ?_;exact je [(501,506)]
  refine S [0] ?_;refine gE (gB 1002 503 507 a1.n.toNat 1 b) ?_;exact je [(501,507)]
 intro m h;refine J e0 hn h nl (fun s=>[(508,.aE),(1002,E9 s [] 508)]) [0] [1000,1001] (fun _ h g=>?_) ?_
 ·refine I [4] ?_ ?_<;>intro _ h
  ·rcases qV h with⟨a,h⟩|⟨i,a,h⟩
   ·cases h
   refine gC (gD 1002 508 509 a1.n.toNat 1 a) ?_;refine kd [0,2,5,7] [5,7,508,509,1000,1001,1002] ?_;refine B [8] fun _ f h=>?_;refine iD f ?_;refine hD a ?_;refine B [] fun _ d h=>?_;refine U0 d ?_;refine sM (l6 d).2 a3 ?_;refine gE (gA 1002 508 510 a1.n.toNat 1 a (⟨i.cls,(i.aG.set a2.toNat a3)⟩:Ob)) ?_;exact je [(508,510)]
  exact Sj [1] [(508,501)]
 intro l h;exact Sr [14] [(3,508)]
def FD {N a0 a1 a2 r} (h:Y1 N a0 a1 a2=some r) {k:Nat} {b:List AV} {l:Nat}:Spec prog 202 [(1000,mB a0 (.fn k [.fp b]) (.fn l []) 1001 1003),(1001,.box [E8 a0.w.a7,.aJ 1002,.int a0.w.aB] 40),(1002,E9 a0.w.heap [] 1004),(1003,p9 a0.aF [] 1005)] [.ptr 1000 0,.ep 1003 a1 10 0,.agg (bZ a2)] (.aY []) [(1000,mB r (.fn k [.fp b]) (.fn l []) 1001 1003),(1001,.box [E8 r.w.a7,.aJ 2,.int r.w.aB] 40),(2,E9 r.w.heap [] 3),(3,.aE),(1002,.aE),(1003,p9 r.aF [] 5),(5,.aE)] [3,2,5]:=by
 refine so func202 ntmps202 fun Γ hn=>?_;unfold Y1 at h;refine S [15,3,3,3] ?_;refine J e1 hn h nl (fun s=>[(186,E9 s.1 [] 518),(501,.aE),(518,.aE),(1000,.box [.ptr 1001 0,.fn k [.fp b],.fn l [],.int s.2.1,.int s.2.2.1,.int s.2.2.2.1,.aJ 1003,.int s.2.2.2.2.2.1,.int s.2.2.2.2.2.2.1,.int s.2.2.2.2.2.2.2] 251),(1001,.box [E8 a0.w.a7,.aJ 186,.int a0.w.aB] 40),(1002,.aE),(1003,p9 s.2.2.2.2.1 [] 501)]) [0,1] [] (fun _ h g=>?_) ?_
 ·refine S [6,3] ?_;refine Jk e1 hn h nl (fun s=>[(186,E9 s.1 [] 518),(501,.aE),(518,.aE),(1000,.box [.ptr 1001 0,.fn k [.fp b],.fn l [],.int s.2.1,.int s.2.2.1,.int s.2.2.2.1,.aJ 1003,.int s.2.2.2.2.2.1,.int s.2.2.2.2.2.2.1,.int s.2.2.2.2.2.2.2] 251),(1001,.box [E8 a0.w.a7,.aJ 186,.int a0.w.aB] 40),(1002,.aE),(1003,p9 s.2.2.2.2.1 [] 501)]) [0,1] [] [] fun _ h g=>?_;refine I [4] ?_ ?_<;>intro _ h
  ·refine B [5] fun _ hx21 h=>?_;refine J4 hx21 ?_;refine B [] fun _ Z h=>?_;refine cA ((q9 Z).au [(1016,4),(1019,1003),(1021,1005),(21,501)] rfl) ?_;refine gE (gR 1001 1 1002 502 503) ?_;exact je [(186,502),(518,503)]
  refine S [3] ?_;refine Jk e1 hn h nl (fun s=>[(186,E9 s.1 [] 520),(504,.aE),(520,.aE),(1000,.box [.ptr 1001 0,.fn k [.fp b],.fn l [],.int s.2.1,.int s.2.2.1,.int s.2.2.2.1,.aJ 1003,.int s.2.2.2.2.2.1,.int s.2.2.2.2.2.2.1,.int s.2.2.2.2.2.2.2] 251),(1001,.box [E8 a0.w.a7,.aJ 186,.int a0.w.aB] 40),(1002,.aE),(1003,p9 s.2.2.2.2.1 [] 504)]) [0,1] [] [(518,520),(501,504)] fun _ h g=>?_;refine I [4] ?_ ?_<;>intro _ h
  ·refine B [8] fun _ hx35 h=>?_;refine J4 hx35 ?_;refine B [] fun _ hx37 h=>?_;refine G9 hx37 ?_;refine B [] fun _ hr39 h=>?_;refine cA ((q9 hr39).au [(1016,4),(1019,1003),(1021,1005),(21,504)] rfl) ?_;refine gE (gR 1001 1 1002 505 506) ?_;exact je [(186,505),(520,506)]
  refine S [3] ?_;refine Jk e1 hn h nl (fun s=>[(186,E9 s.1 [] 522),(507,.aE),(522,.aE),(1000,.box [.ptr 1001 0,.fn k [.fp b],.fn l [],.int s.2.1,.int s.2.2.1,.int s.2.2.2.1,.aJ 1003,.int s.2.2.2.2.2.1,.int s.2.2.2.2.2.2.1,.int s.2.2.2.2.2.2.2] 251),(1001,.box [E8 a0.w.a7,.aJ 186,.int a0.w.aB] 40),(1002,.aE),(1003,p9 s.2.2.2.2.1 [] 507)]) [0,1] [] [(520,522),(504,507)] fun _ h g=>?_;refine I [4] ?_ ?_<;>intro _ h
  ·refine B [] fun x50 D h=>?_;refine gC (gD 1003 507 508 a1 7 D) ?_;refine kd [0,1,4,5,6] [4,5,507,508,1000,1001,1002,1003] ?_;refine S [8] ?_;refine hD D ?_;refine B [] fun _ E h=>?_;refine U0 E ?_;refine J4 (l6 E).2 ?_;refine B [] fun _ hr55 h=>?_;refine cA ((oe hr55).au [(1022,507),(1016,4),(1019,1003),(1021,508),(21,509)] rfl) ?_;refine B [] fun j hx57 h=>?_;refine gE (gA 1003 507 510 a1 7 hx57 (⟨j.aI,j.aK,j.aV,j.code,j.aQ,j.args,x50.a8,j.aA,j.aH⟩:j3)) ?_;refine gE (gR 1001 1 1002 511 512) ?_;exact je [(186,511),(522,512),(507,510)]
  refine S [3] ?_;refine Jk e1 hn h nl (fun s=>[(186,E9 s.1 [] 525),(513,.aE),(525,.aE),(1000,.box [.ptr 1001 0,.fn k [.fp b],.fn l [],.int s.2.1,.int s.2.2.1,.int s.2.2.2.1,.aJ 1003,.int s.2.2.2.2.2.1,.int s.2.2.2.2.2.2.1,.int s.2.2.2.2.2.2.2] 251),(1001,.box [E8 a0.w.a7,.aJ 186,.int a0.w.aB] 40),(1002,.aE),(1003,p9 s.2.2.2.2.1 [] 513)]) [0,1] [] [(522,525),(507,513)] fun _ h g=>?_;refine I [4] ?_ ?_<;>intro _ h
  ·refine kd [0,1,4,5,6] [4,5,1000,1001,1002,1003] ?_;refine B [8] fun _ hx69 h=>?_;refine J4 hx69 ?_;refine B [] fun _ hr71 h=>?_;refine cD (ot hr71) ?_;refine B [] fun _ hr73 h=>?_;refine cA ((q9 hr73).au [(1016,4),(1019,1003),(1021,1005),(21,513)] rfl) ?_;refine gE (gR 1001 1 1002 514 515) ?_;exact je [(186,514),(525,515)]
  refine kd [0,1,4,5,6,12] [4,5,1000,1001,1002,1003] ?_;refine S [3] ?_;refine Jk e1 hn h nl (fun s=>[(186,E9 s.1 [] 527),(516,.aE),(527,.aE),(1000,.box [.ptr 1001 0,.fn k [.fp b],.fn l [],.int s.2.1,.int s.2.2.1,.int s.2.2.2.1,.aJ 1003,.int s.2.2.2.2.2.1,.int s.2.2.2.2.2.2.1,.int s.2.2.2.2.2.2.2] 251),(1001,.box [E8 a0.w.a7,.aJ 186,.int a0.w.aB] 40),(1002,.aE),(1003,p9 s.2.2.2.2.1 [] 516)]) [0,1] [] [(525,527),(513,516)] fun _ h g=>?_;refine I [4] ?_ ?_<;>intro _ h
  ·refine B [5] fun _ hr85 h=>?_;refine cA ((q9 hr85).au [(1016,4),(1019,1003),(1021,1005),(21,516)] rfl) ?_;refine gE (gR 1001 1 1002 517 518) ?_;exact je [(186,517),(527,518)]
  refine S [3] ?_;refine Jk e1 hn h nl (fun s=>[(186,E9 s.1 [] 529),(519,.aE),(529,.aE),(1000,.box [.ptr 1001 0,.fn k [.fp b],.fn l [],.int s.2.1,.int s.2.2.1,.int s.2.2.2.1,.aJ 1003,.int s.2.2.2.2.2.1,.int s.2.2.2.2.2.2.1,.int s.2.2.2.2.2.2.2] 251),(1001,.box [E8 a0.w.a7,.aJ 186,.int a0.w.aB] 40),(1002,.aE),(1003,p9 s.2.2.2.2.1 [] 519)]) [0,1] [] [(527,529),(516,519)] fun _ h g=>?_;refine I [4] ?_ ?_<;>intro _ h
  ·refine B [5] fun _ hr97 h=>?_;refine cA ((q9 hr97).au [(1016,4),(1019,1003),(1021,1005),(21,519)] rfl) ?_;refine gE (gR 1001 1 1002 520 521) ?_;exact je [(186,520),(529,521)]
  refine S [2,3] ?_;refine Jb 75 hn h [0,1,4,5,6,12] [4,5,1000,1001,1002,1003] (fun _ h g=>?_) ?_
  ·exact K5 [4] [1] [5]
  intro v98 h;refine Jk e1 hn h nl (fun s=>[(186,E9 s.1 [] 531),(522,.aE),(531,.aE),(1000,.box [.ptr 1001 0,.fn k [.fp b],.fn l [],.int s.2.1,.int s.2.2.1,.int s.2.2.2.1,.aJ 1003,.int s.2.2.2.2.2.1,.int s.2.2.2.2.2.2.1,.int s.2.2.2.2.2.2.2] 251),(1001,.box [E8 a0.w.a7,.aJ 186,.int a0.w.aB] 40),(1002,.aE),(1003,p9 s.2.2.2.2.1 [] 522)]) [0,1] [] [(529,531),(519,522)] fun _ h g=>?_;refine I [4] ?_ ?_<;>intro _ h
  ·refine B [5] fun _ G h=>?_;refine cA (rV G) ?_;refine B [] fun _ H h=>?_;refine cA ((q9 H).au [(1016,4),(1019,1003),(1021,1005),(21,522)] rfl) ?_;refine gE (gR 1001 1 1002 523 524) ?_;exact je [(186,523),(531,524)]
  refine S [3] ?_;refine Jk e1 hn h nl (fun s=>[(186,E9 s.1 [] 533),(525,.aE),(533,.aE),(1000,.box [.ptr 1001 0,.fn k [.fp b],.fn l [],.int s.2.1,.int s.2.2.1,.int s.2.2.2.1,.aJ 1003,.int s.2.2.2.2.2.1,.int s.2.2.2.2.2.2.1,.int s.2.2.2.2.2.2.2] 251),(1001,.box [E8 a0.w.a7,.aJ 186,.int a0.w.aB] 40),(1002,.aE),(1003,p9 s.2.2.2.2.1 [] 525)]) [0,1] [] [(531,533),(522,525)] fun _ h g=>?_;refine I [4] ?_ ?_<;>intro _ h
  ·refine B [5] fun _ K h=>?_;refine cA ((Q8 K).sw 5 525) ?_;refine gE (gR 1001 1 1002 526 527) ?_;exact je [(186,526),(533,527)]
  refine S [3] ?_;refine Jk e1 hn h nl (fun s=>[(186,E9 s.1 [] 535),(528,.aE),(535,.aE),(1000,.box [.ptr 1001 0,.fn k [.fp b],.fn l [],.int s.2.1,.int s.2.2.1,.int s.2.2.2.1,.aJ 1003,.int s.2.2.2.2.2.1,.int s.2.2.2.2.2.2.1,.int s.2.2.2.2.2.2.2] 251),(1001,.box [E8 a0.w.a7,.aJ 186,.int a0.w.aB] 40),(1002,.aE),(1003,p9 s.2.2.2.2.1 [] 528)]) [0,1] [] [(533,535),(525,528)] fun _ h g=>?_;refine I [4] ?_ ?_<;>intro _ h
  ·refine B [] fun c i h=>?_;refine gC (gD 1003 528 529 a1 8 i) ?_;refine kd [0,1,4,6] [4,528,529,1000,1001,1002,1003] ?_;refine S [8] ?_;refine hD i ?_;refine hD i ?_;refine B [13,12] fun _ n h=>?_;refine U0 n ?_;refine J4 (l6 n).2 ?_;refine B [] fun r142 L h=>?_;refine cA ((vz L).au [(1022,528),(1016,4),(1019,1003),(1021,529),(22,530)] rfl) ?_;refine gE (gA 1003 530 531 a1 8 i (⟨c.aI,c.aK,c.aV,c.code,c.aQ,c.args,c.a8,r142,c.aH⟩:j3)) ?_;refine gE (gR 1001 1 1002 532 533) ?_;exact je [(186,532),(535,533),(528,531)]
  refine S [3] ?_;refine Jk e1 hn h nl (fun s=>[(186,E9 s.1 [] 538),(534,.aE),(538,.aE),(1000,.box [.ptr 1001 0,.fn k [.fp b],.fn l [],.int s.2.1,.int s.2.2.1,.int s.2.2.2.1,.aJ 1003,.int s.2.2.2.2.2.1,.int s.2.2.2.2.2.2.1,.int s.2.2.2.2.2.2.2] 251),(1001,.box [E8 a0.w.a7,.aJ 186,.int a0.w.aB] 40),(1002,.aE),(1003,p9 s.2.2.2.2.1 [] 534)]) [0,1] [] [(535,538),(528,534)] fun _ h g=>?_;refine I [4] ?_ ?_<;>intro _ h
  ·refine B [] fun x154 o h=>?_;refine gC (gD 1003 534 535 a1 7 o) ?_;refine kd [0,1,4,5] [4,5,534,535,1000,1001,1002,1003] ?_;refine gz 3 7 hn ?_;refine hD o ?_;refine B [] fun F M h=>?_;refine cA ((((oh M).sw 1005 535).sw 1006 534).sw 5 536) ?_;refine B [] fun d p h=>?_;refine AN ⟨rfl,⟨rfl,trivial⟩,ny p rfl rfl G7 rfl ⟨rfl,rfl,rfl,rfl⟩⟩ ?_;refine B [] fun _ q h=>?_;refine U0 q ?_;refine sM (l6 q).2 F.1 ?_;refine gE (gA 1003 534 537 a1 7 p (⟨d.aI,d.aK,d.aV,d.code,d.aQ,d.args,(x154.a8.set a2.a.toNat F.1),d.aA,d.aH⟩:j3)) ?_;refine gE (gR 1001 1 1002 538 539) ?_;exact je [(186,538),(538,539),(534,537)]
  refine S [3] ?_;refine Jk e1 hn h nl (fun s=>[(186,E9 s.1 [] 541),(540,.aE),(541,.aE),(1000,.box [.ptr 1001 0,.fn k [.fp b],.fn l [],.int s.2.1,.int s.2.2.1,.int s.2.2.2.1,.aJ 1003,.int s.2.2.2.2.2.1,.int s.2.2.2.2.2.2.1,.int s.2.2.2.2.2.2.2] 251),(1001,.box [E8 a0.w.a7,.aJ 186,.int a0.w.aB] 40),(1002,.aE),(1003,p9 s.2.2.2.2.1 [] 540)]) [0,1] [] [(538,541),(534,540)] fun _ h g=>?_;refine I [4] ?_ ?_<;>intro _ h
  ·refine gz 4 8 hn ?_;refine B [] fun _ t h=>?_;refine J4 t ?_;refine B [] fun _ m h=>?_;refine cA ((Q8 m).sw 5 540) ?_;refine B [] fun _ u h=>?_;refine AN ⟨rfl,⟨rfl,trivial⟩,J4 u ⟨congrArg (fun v=>AV.agg (eV v)) (wJ m t u),rfl,rfl,rfl⟩⟩ ?_;refine B [] fun _ O h=>?_;refine cA ((zr O).sw 3 541) ?_;refine gE (gR 1001 1 1002 542 543) ?_;exact je [(186,542),(541,543)]
  refine S [3] ?_;refine Jk e1 hn h nl (fun s=>[(186,E9 s.1 [] 550),(544,.aE),(550,.aE),(1000,.box [.ptr 1001 0,.fn k [.fp b],.fn l [],.int s.2.1,.int s.2.2.1,.int s.2.2.2.1,.aJ 1003,.int s.2.2.2.2.2.1,.int s.2.2.2.2.2.2.1,.int s.2.2.2.2.2.2.2] 251),(1001,.box [E8 a0.w.a7,.aJ 186,.int a0.w.aB] 40),(1002,.aE),(1003,p9 s.2.2.2.2.1 [] 544)]) [0,1] [] [(541,550),(540,544)] fun _ h g=>?_;refine I [4] ?_ ?_<;>intro _ h
  ·refine B [] fun x190 x h=>?_;refine gC (gD 1003 544 545 a1 7 x) ?_;refine kd [0,1,4,5,6] [4,5,544,545,1000,1001,1002,1003] ?_;refine S [8] ?_;refine hD x ?_;refine B [] fun _ y h=>?_;refine U0 y ?_;refine J4 (l6 y).2 ?_;refine B [] fun _ P h=>?_;refine cD (ot P) ?_;refine B [] fun _ Q h=>?_;refine cA ((oe Q).au [(1022,544),(1016,4),(1019,1003),(1021,545),(21,546)] rfl) ?_;refine B [] fun e Y h=>?_;refine gE (gA 1003 544 547 a1 7 Y (⟨e.aI,e.aK,e.aV,e.code,e.aQ,e.args,x190.a8,e.aA,e.aH⟩:j3)) ?_;refine gE (gR 1001 1 1002 548 549) ?_;exact je [(186,548),(550,549),(544,547)]
  refine kd [0,1,4,5,6,12] [4,5,1000,1001,1002,1003] ?_;refine S [3] ?_;refine Jk e1 hn h nl (fun s=>[(186,E9 s.1 [] 553),(550,.aE),(553,.aE),(1000,.box [.ptr 1001 0,.fn k [.fp b],.fn l [],.int s.2.1,.int s.2.2.1,.int s.2.2.2.1,.aJ 1003,.int s.2.2.2.2.2.1,.int s.2.2.2.2.2.2.1,.int s.2.2.2.2.2.2.2] 251),(1001,.box [E8 a0.w.a7,.aJ 186,.int a0.w.aB] 40),(1002,.aE),(1003,p9 s.2.2.2.2.1 [] 550)]) [0,1] [] [(550,553),(544,550)] fun _ h g=>?_;refine I [4] ?_ ?_<;>intro _ h
  ·refine B [] fun x210 z h=>?_;refine gC (gD 1003 550 551 a1 7 z) ?_;refine kd [0,1,4,5] [4,5,550,551,1000,1001,1002,1003] ?_;refine gz 4 12 hn ?_;refine hD z ?_;refine B [] fun _ A h=>?_;refine U0 A ?_;refine J4 (l6 A).2 ?_;refine B [] fun _ R h=>?_;refine cA ((((oh R).sw 1005 551).sw 1006 550).sw 5 552) ?_;refine B [] fun f C h=>?_;refine AN ⟨rfl,⟨rfl,trivial⟩,ny C rfl rfl G7 rfl ⟨rfl,rfl,rfl,rfl⟩⟩ ?_;refine B [] fun _ T h=>?_;refine cA ((zr T).sw 3 553) ?_;refine gE (gA 1003 550 554 a1 7 C (⟨f.aI,f.aK,f.aV,f.code,f.aQ,f.args,x210.a8,f.aA,f.aH⟩:j3)) ?_;refine gE (gR 1001 1 1002 555 556) ?_;exact je [(186,555),(553,556),(550,554)]
  refine S [3] ?_;refine Jk e1 hn h nl (fun s=>[(186,E9 s.1 [] 886),(560,.aE),(886,.aE),(1001,.box [E8 a0.w.a7,.aJ 186,.int a0.w.aB] 40),(1002,.aE),(1003,p9 s.2 [] 560)]) [0,1] [1000] [(553,886),(550,560)] fun _ h g=>?_;refine I [4] ?_ ?_<;>intro _ h
  ·refine S [2] ?_;refine kd [0,1,5,6] [4,5,1000,1001,1002,1003] ?_;refine B [8] fun _ U h=>?_;refine cD (kI U) ?_;refine B [] fun _ V h=>?_;refine qE (((uh V).sw 0 186).sw 1 886) ⟨yV _,trivial,trivial⟩ ?_;refine S [2] ?_;refine kd [0,1,6,7,8,9] [4,8,186,886,1000,1001,1002,1003] ?_;refine I [3,4] ?_ ?_<;>intro _ h
   ·refine B [3] fun _ W h=>?_;refine cA (K8 W) ?_;refine gC (gR 1001 1 1002 557 558) ?_;refine gC (gS 1003 559) ?_;exact Sr [7] [(2,557),(3,558),(5,559)]
   refine B [1,3,5] fun _ X h=>?_;refine cA ((q9 X).au [(1016,4),(1019,1003),(1021,1005),(21,560)] rfl) ?_;refine gE (gX 1002) ?_;exact je
  refine S [1] ?_;refine gE (gR 1001 1 1002 561 562) ?_;refine gE (gS 1003 563) ?_;exact je [(186,561),(886,562),(560,563)]
 rintro⟨v1,v2,v3,v4,v5,v6,v7,v8⟩ h;exact Sr [14] [(2,186),(3,518),(5,501)]
def Es {N a0 gl gq r} (h:mn N a0 gl gq=some r) {b:Nat} {a:List AV} (z:∀e f y p,gl e f y=some p->Spec prog b [] [.agg (bT e),.int f,.str y,.fp a] (.aY [.int p.1,.int p.2]) [] []) {c:Nat} (C:∀e f p,gq e f=some p->Spec prog c [] [.int e,.int f] (.aY [.agg (eb p.1),.bool p.2]) [] []):Spec prog 167 [(1000,mB a0 (.fn b [.fp a]) (.fn c []) 1001 1003),(1001,.box [E8 a0.w.a7,.aJ 1002,.int a0.w.aB] 40),(1002,E9 a0.w.heap [] 1004),(1003,p9 a0.aF [] 1005)] [.ptr 1000 0] (.aY []) [(1000,mB r (.fn b [.fp a]) (.fn c []) 1001 4),(1001,.box [E8 r.w.a7,.aJ 2,.int r.w.aB] 40),(2,E9 r.w.heap [] 3),(3,.aE),(1002,.aE),(4,p9 r.aF [] 5),(5,.aE),(1003,.aE)] [3,2,5,4]:=by
 refine so func167 ntmps167 fun Γ hn=>?_;unfold mn at h;refine B [15,2,8,13,12] fun i d h=>?_;refine iD d ?_;refine S [3] ?_;refine J4 (l6 d).2 ?_;refine kd [0,2,3] [1000,1001,1002,1003] ?_;refine S [3] ?_;refine J4 (l6 d).2 ?_;refine B [] fun _ D h=>?_;refine G9 D ?_;refine S [3] ?_;refine J4 (l6 d).2 ?_;refine S [12] ?_;refine sD (l6 d).2 (⟨i.aI,i.aK,i.aV,i.code,i.aQ,i.args,i.a8,i.aA,(wr (i.aH+(1:Int)))⟩:j3) ?_;refine kd [0,2,3,4] [4,1000,1001,1002,1003] ?_;refine S [3] ?_;refine J e0 hn h nl (fun s=>[(501,.aE),(502,p9 s.2.2.2.2.2.2.1 [] 501),(509,.aE),(510,E9 s.2.1 [] 509),(1000,.box [.ptr 1001 0,.fn b [.fp a],.fn c [],.int s.2.2.2.1,.int s.2.2.2.2.1,.int s.2.2.2.2.2.1,.aJ 502,.int s.2.2.2.2.2.2.2.1,.int s.2.2.2.2.2.2.2.2.1,.int s.2.2.2.2.2.2.2.2.2] 251),(1001,.box [E8 s.1,.aJ 510,.int s.2.2.1] 40),(1002,.aE),(1003,.aE)]) [0] [] (fun _ h g=>?_) ?_
 ·refine S [6,3] ?_;refine Jk e0 hn h nl (fun s=>[(501,.aE),(502,p9 s.2.2.2.2.2.2.1 [] 501),(509,.aE),(510,E9 s.2.1 [] 509),(1000,.box [.ptr 1001 0,.fn b [.fp a],.fn c [],.int s.2.2.2.1,.int s.2.2.2.2.1,.int s.2.2.2.2.2.1,.aJ 502,.int s.2.2.2.2.2.2.2.1,.int s.2.2.2.2.2.2.2.2.1,.int s.2.2.2.2.2.2.2.2.2] 251),(1001,.box [E8 s.1,.aJ 510,.int s.2.2.1] 40),(1002,.aE),(1003,.aE)]) [0] [] [] fun _ h g=>?_;refine I [4] ?_ ?_<;>intro _ h
  ·refine B [5] fun _ q h=>?_;refine cA (((Et q z C).sw 5 501).sw 4 502) ?_;refine gE (gR 1001 1 1002 503 504) ?_;exact je [(510,503),(509,504)]
  refine S [3] ?_;refine Jk e0 hn h nl (fun s=>[(88,p9 s.2.2.2.2.2.2.1 [] 505),(505,.aE),(511,.aE),(512,E9 s.2.1 [] 511),(1000,.box [.ptr 1001 0,.fn b [.fp a],.fn c [],.int s.2.2.2.1,.int s.2.2.2.2.1,.int s.2.2.2.2.2.1,.aJ 88,.int s.2.2.2.2.2.2.2.1,.int s.2.2.2.2.2.2.2.2.1,.int s.2.2.2.2.2.2.2.2.2] 251),(1001,.box [E8 s.1,.aJ 512,.int s.2.2.1] 40),(1002,.aE),(1003,.aE)]) [0] [] [(510,512),(509,511),(502,88),(501,505)] fun _ h g=>?_;refine I [4] ?_ ?_<;>intro _ h
  ·refine B [5] fun _ t h=>?_;refine cA ((zm t).sw 5 505) ?_;refine gE (gR 1001 1 1002 506 507) ?_;refine gE (gR 1000 6 1003 508 509) ?_;exact je [(512,506),(511,507),(88,508),(505,509)]
  refine S [3] ?_;refine Jk e0 hn h nl (fun s=>[(88,p9 s.2.2.2.2.2.2.1 [] 511),(511,.aE),(515,.aE),(516,E9 s.2.1 [] 515),(1000,.box [.ptr 1001 0,.fn b [.fp a],.fn c [],.int s.2.2.2.1,.int s.2.2.2.2.1,.int s.2.2.2.2.2.1,.aJ 88,.int s.2.2.2.2.2.2.2.1,.int s.2.2.2.2.2.2.2.2.1,.int s.2.2.2.2.2.2.2.2.2] 251),(1001,.box [E8 s.1,.aJ 516,.int s.2.2.1] 40),(1002,.aE),(1003,.aE)]) [0] [] [(512,516),(511,515),(505,511)] fun _ h g=>?_;refine I [4] ?_ ?_<;>intro _ h
  ·refine B [3] fun _ u h=>?_;refine cA ((Q8 u).sw 5 510) ?_;refine S [3] ?_;refine J e0 hn h nl (fun s=>[(511,.aE),(1000,.box [.ptr 1001 0,.fn b [.fp a],.fn c [],.int s.1,.int s.2.1,.int s.2.2.1,.aJ 1003,.int s.2.2.2.2.1,.int s.2.2.2.2.2.1,.int s.2.2.2.2.2.2] 251),(1003,p9 s.2.2.2.1 [] 511)]) [0] [1001,1002] (fun _ h g=>?_) ?_
   ·refine S [6] ?_;refine kd [0,2,4,61] [4,510,1000,1001,1002,1003] ?_;refine S [3] ?_;refine Jk e0 hn h nl (fun s=>[(511,.aE),(1000,.box [.ptr 1001 0,.fn b [.fp a],.fn c [],.int s.1,.int s.2.1,.int s.2.2.1,.aJ 1003,.int s.2.2.2.2.1,.int s.2.2.2.2.2.1,.int s.2.2.2.2.2.2] 251),(1003,p9 s.2.2.2.1 [] 511)]) [0] [1001,1002] [] fun _ h g=>?_;refine I [4] ?_ ?_<;>intro _ h
    ·refine B [5] fun _ v h=>?_;refine cA (((zm v).sw 1005 510).sw 5 511) ?_;exact je
    refine S [3] ?_;refine Jk e0 hn h nl (fun s=>[(1000,.box [.ptr 1001 0,.fn b [.fp a],.fn c [],.int s.1,.int s.2.1,.int s.2.2.1,.aJ 1003,.int s.2.2.2.1,.int s.2.2.2.2.1,.int s.2.2.2.2.2] 251)]) [0] [510,1001,1002,1003] [(511,510)] fun _ h g=>?_;refine Ij [4] [1] fun _ h=>?_;refine B [5] fun _ x h=>?_;refine cA (K8 x) ?_;exact je
   rintro⟨Y,Z,v61,v62,v63,v64,v65⟩ h;refine gE (gR 1001 1 1002 512 513) ?_;refine gE (gR 1000 6 1003 514 515) ?_;exact je [(516,512),(515,513),(88,514),(511,515)]
  refine S [3] ?_;refine Jk e0 hn h nl (fun s=>[(88,p9 s.2.2.2.2.2.2.1 [] 517),(517,.aE),(519,.aE),(520,E9 s.2.1 [] 519),(1000,.box [.ptr 1001 0,.fn b [.fp a],.fn c [],.int s.2.2.2.1,.int s.2.2.2.2.1,.int s.2.2.2.2.2.1,.aJ 88,.int s.2.2.2.2.2.2.2.1,.int s.2.2.2.2.2.2.2.2.1,.int s.2.2.2.2.2.2.2.2.2] 251),(1001,.box [E8 s.1,.aJ 520,.int s.2.2.1] 40),(1002,.aE),(1003,.aE)]) [0] [] [(516,520),(515,519),(511,517)] fun _ h g=>?_;refine I [4] ?_ ?_<;>intro _ h
  ·refine B [3] fun _ k h=>?_;refine cA ((Q8 k).sw 5 516) ?_;refine S [2] ?_;refine kd [0,6] [6,516,1000,1001,1002,1003] ?_;refine A [8,13,12] fun j h=>?_;refine jB j rfl rfl ?_;refine B [5] fun _ l h=>?_;refine cA ((((zp l).sw 1003 88).sw 1005 788).sw 5 517) ?_;refine gE (gR 1001 1 1002 518 519) ?_;exact je [(520,518)]
  refine S [3] ?_;refine J e0 hn h nl (fun s=>[(520,.aE),(521,.aE),(522,E9 s.2.1 [] 521),(1000,.box [.ptr 1001 0,.fn b [.fp a],.fn c [],.int s.2.2.2.1,.int s.2.2.2.2.1,.int s.2.2.2.2.2.1,.aJ 1003,.int s.2.2.2.2.2.2.2.1,.int s.2.2.2.2.2.2.2.2.1,.int s.2.2.2.2.2.2.2.2.2] 251),(1001,.box [E8 s.1,.aJ 522,.int s.2.2.1] 40),(1002,.aE),(1003,p9 s.2.2.2.2.2.2.1 [] 520)]) [0] [] (fun _ h g=>?_) ?_
  ·refine I [4] ?_ ?_<;>intro _ h
   ·refine B [5] fun _ m h=>?_;refine cA ((FA m).sw 5 520) ?_;refine gE (gR 1001 1 1002 521 522) ?_;exact je [(522,521),(521,522)]
   refine S [3] ?_;refine Jk e0 hn h nl (fun s=>[(523,.aE),(524,E9 s.2.1 [] 523),(525,.aE),(1000,.box [.ptr 1001 0,.fn b [.fp a],.fn c [],.int s.2.2.2.1,.int s.2.2.2.2.1,.int s.2.2.2.2.2.1,.aJ 1003,.int s.2.2.2.2.2.2.2.1,.int s.2.2.2.2.2.2.2.2.1,.int s.2.2.2.2.2.2.2.2.2] 251),(1001,.box [E8 s.1,.aJ 524,.int s.2.2.1] 40),(1002,.aE),(1003,p9 s.2.2.2.2.2.2.1 [] 525)]) [0] [] [(522,524),(521,523),(520,525)] fun _ h g=>?_;refine I [4] ?_ ?_<;>intro _ h
   ·refine kd [0] [1000,1001,1002,1003] ?_;refine B [5] fun _ n h=>?_;refine cA (vy n) ?_;refine gE (gR 1001 1 1002 523 524) ?_;refine gE (gS 1003 525) ?_;exact je [(524,523),(523,524)]
   refine kd [0,2,4] [4,1000,1001,1002,1003] ?_;refine B [5] fun _ o h=>?_;refine cA ((((FD o).sw 3 526).sw 2 527).sw 5 528) ?_;exact je [(524,527),(523,526),(525,528)]
  rintro⟨E,F,G,H,K,L,M,O,P,Q⟩ h;refine gE (gR 1000 6 1003 529 530) ?_;exact je [(520,522),(519,521),(88,529),(517,530)]
 rintro⟨v6,v7,v8,v9,R,T,U,V,W,X⟩ h;exact Sr [14] [(2,510),(3,509),(4,502),(5,501)]
def GD {N a0 a1 a2 g3 g4 r} (h:iK N a0 a1 a2 g3 g4=some r) {f:Nat} {b:List AV} (x:∀c d u e,g3 c d u=some e->Spec prog f [] [.agg (bT c),.int d,.str u,.fp b] (.aY [.int e.1,.int e.2]) [] []) {i:Nat} (j:∀c d e,g4 c d=some e->Spec prog i [] [.int c,.int d] (.aY [.agg (eb e.1),.bool e.2]) [] []):Spec prog 125 [] [.agg (R4 a0),.agg (kV a1),.int a2,.fn f [.fp b],.fn i []] (.aY [.agg (R4 r.1),.agg (ln r.2)]) [] []:=by
 refine so func125 ntmps125 fun Γ hn=>?_;unfold iK at h;refine B [3,2,3] fun _ y h=>?_;refine cA (wX y) ?_;refine I [3,4] ?_ ?_<;>intro _ h
 ·refine B [3] fun _ z h=>?_;refine cA (((jX z).sw 0 24).sw 1 724) ?_;refine j6.az 24 rfl ?_;exact Sr [7]
 refine B [1,3] fun D A h=>?_;refine cA (((jX A).sw 0 28).sw 1 728) ?_;refine kd [2,3,4,5,6,10,11,13] [5,6,10,11,13,28,728] ?_;refine B [3,2,2,8] fun _ C h=>?_;refine cD (kG C) ?_;refine B [] fun _ m h=>?_;refine cD (jW m) ?_;refine kd [5,6,10,11,13,14,15,16] [5,6,10,11,13,28,33,728] ?_;refine S [3] ?_;refine nB 33 6 501 10 288 ?_;refine gC (gT 501 502 [(7,(2,29)),(8,(2,29))]) ?_;refine J e0 hn h nl (fun s=>[(33,.box [.ptr 13 0,.fn f [.fp b],.fn i [],.int s.1,.int s.2.1,.int s.2.2.1,.aJ 501,.int s.2.2.2.2.1,.int s.2.2.2.2.2.1,.int s.2.2.2.2.2.2] 251),(501,p9 s.2.2.2.1 [] 502)]) [5,10,11,13,14] [5,10,11,13,28,502,728] (fun _ h g=>?_) ?_
 ·refine I [4] ?_ ?_<;>intro _ h
  ·refine B [5] fun _ o h=>?_;refine cA ((((K8 o).sw 1000 33).sw 1001 13).sw 1003 501) ?_;exact je
  refine B [5] fun _ p h=>?_;refine cA ((zi p j).au [(1000,33),(1001,13),(1003,501),(1002,28),(1005,502),(5,503),(4,504)] rfl) ?_;exact je [(501,504),(502,503)]
 rintro⟨E,F,G,H,K,L,M⟩ h;refine S [2] ?_;refine LF e0 hn (D.a7,D.heap,D.aB,E,F,G,H,K,L,M) (fun l v=>kM N g3 g4 l v.1 v.2.1 v.2.2.1 v.2.2.2.1 v.2.2.2.2.1 v.2.2.2.2.2.1 v.2.2.2.2.2.2.1 v.2.2.2.2.2.2.2.1 v.2.2.2.2.2.2.2.2.1 v.2.2.2.2.2.2.2.2.2) h (fun v=>[]) (fun v=>[(13,.box [E8 v.1,.aJ 28,.int v.2.2.1] 40),(28,E9 v.2.1 [] 728),(33,.box [.ptr 13 0,.fn f [.fp b],.fn i [],.int v.2.2.2.1,.int v.2.2.2.2.1,.int v.2.2.2.2.2.1,.aJ 501,.int v.2.2.2.2.2.2.2.1,.int v.2.2.2.2.2.2.2.2.1,.int v.2.2.2.2.2.2.2.2.2] 251),(501,p9 v.2.2.2.2.2.2.1 [] 502)]) [5,10,11,13,14] [5,10,11,502,728] [] nl (fun s=>[(13,.box [E8 s.1,.aJ 28,.int s.2.2.1] 40),(28,E9 s.2.1 [] 728),(33,.box [.ptr 13 0,.fn f [.fp b],.fn i [],.int s.2.2.2.1,.int s.2.2.2.2.1,.int s.2.2.2.2.2.1,.aJ 501,.int s.2.2.2.2.2.2.2.1,.int s.2.2.2.2.2.2.2.2.1,.int s.2.2.2.2.2.2.2.2.2] 251),(501,p9 s.2.2.2.2.2.2.1 [] 502)]) [5,10,11,13,14] [5,10,11,502,728] ?_ ?_
 ·rintro _ g ⟨P,Q,R,T,U,V,W,X,Y,Z⟩ O h;rw[kM] at h;refine S [2,2] ?_;refine Jb 70 hn h [5,10,11,13,14] [5,10,11,13,28,33,501,502,728] (fun _ h g=>?_) ?_
  ·exact K5 [5] [0,13,0] [0]
  intro v60 h;refine I [4] ?_ ?_<;>intro _ h
  ·refine B [1,6,5] fun a q h=>?_;refine cA ((Es q x j).au [(1000,33),(1001,13),(1003,501),(1002,28),(1004,728),(1005,502),(3,505),(2,506),(5,507),(4,508)] rfl) ?_;exact le (a.w.a7,a.w.heap,a.w.aB,a.fuel,a.sends,a.turns,a.aF,a.back.k,a.back.n,a.err) [(28,506),(728,505),(501,508),(502,507)]
  exact Sj [20]
 rintro⟨v46,v47,v48,v49,v50,v51,v52,v53,v54,v55⟩ h;refine I [2,3,4] ?_ ?_<;>intro _ h
 ·refine B [2,8] fun _ t h=>?_;refine cA (((jX t).sw 0 79).sw 1 779) ?_;refine j6.az 79 rfl ?_;exact Sr [7]
 refine S [1,2,8] ?_;refine j6.az 28 rfl ?_;exact Sr [7]
def FZ {N a0 a1 a2 b0 r} (h:pE N a0 a1 a2 b0=some r):Spec prog 126 [] [.agg (bT a0),.int a1,.str a2,.fp (R4 b0)] (.aY [.int r.1,.int r.2]) [] []:=by
 refine so func126 ntmps126 fun b hn=>?_;unfold pE at h;refine B [3,3] fun _ a h=>?_;refine cA (jW a) ?_;exact Sr [7]
def BR {N a0 a1 r} (h:pb N a0 a1=some r):Spec prog 127 [] [.int a0,.int a1] (.aY [.agg (eb r.1),.bool r.2]) [] []:=by
 refine so func127 ntmps127 fun a hn=>?_;unfold pb at h;exact Sr [3,3,7]
def HI {N a0 a1 a2 r} (h:sN N a0 a1 a2=some r):Spec prog 99 [] [.agg (R4 a0),.agg (kV a1),.int a2] (.aY [.agg (R4 r.1),.agg (ln r.2)]) [] []:=by
 refine so func99 ntmps99 fun c hn=>?_;unfold sN at h;refine S [3] ?_;refine j6.gh (Gh.bC 3 3 rfl rfl rfl) (fun _=>?_);refine kd [2,3,4,6,7] [4,6,7] ?_;refine B [3] fun _ b h=>?_;refine cA (GD b (fun _ _ _ _ a=>FZ a) (fun _ _ _ a=>BR a)) ?_;exact Sr [7]
def J8 {N a0 a1 r} (h:F4 N a0 a1=some r) {b:Nat} {a:List AV} {c:Nat}:Spec prog 165 [(1000,mB a0 (.fn b [.ptr 1007 0,.fp a]) (.fn c []) 1001 1003)] [.ptr 1000 0,.int a1] (.aY []) [(1000,mB r (.fn b [.ptr 1007 0,.fp a]) (.fn c []) 1001 1003)] []:=by
 refine so func165 ntmps165 fun e hn=>?_;unfold F4 at h;refine S [15,3] ?_;refine J e0 hn h nl (fun s=>[(1000,.box [.ptr 1001 0,.fn b [.ptr 1007 0,.fp a],.fn c [],.int a0.fuel,.int a0.sends,.int a0.turns,.aJ 1003,.int a0.back.k,.int a0.back.n,.int s] 251)]) [0] [] (fun _ h g=>?_) ?_
 ·exact K5 [4] [5] [1]
 intro d h;exact Sr [14]
def vw {N a0 a1 r} (h:M9 N a0 a1=some r) {d:Nat} {a:List AV} {e:Nat}:Spec prog 195 [(1000,mB a0 (.fn d [.ptr 1007 0,.fp a]) (.fn e []) 1001 1003),(1003,p9 a0.aF [] 1005)] [.ptr 1000 0,.bool a1] (.bool r.1) [(1000,mB r.2 (.fn d [.ptr 1007 0,.fp a]) (.fn e []) 1001 1003),(1003,p9 a0.aF [] 1005)] []:=by
 refine so func195 ntmps195 fun o hn=>?_;unfold M9 at h;refine S [3,2] ?_;refine J e1 hn h nl (fun s=>[(1000,.box [.ptr 1001 0,.fn d [.ptr 1007 0,.fp a],.fn e [],.int s.1,.int s.2.1,.int s.2.2.1,.aJ 1003,.int s.2.2.2.1,.int s.2.2.2.2.1,.int s.2.2.2.2.2] 251)]) [0] [1003] (fun _ h g=>?_) ?_
 ·refine S [6,2,8] ?_;refine Jk e1 hn h nl (fun s=>[(1000,.box [.ptr 1001 0,.fn d [.ptr 1007 0,.fp a],.fn e [],.int s.1,.int s.2.1,.int s.2.2.1,.aJ 1003,.int s.2.2.2.1,.int s.2.2.2.2.1,.int s.2.2.2.2.2] 251)]) [0] [1003] [] fun _ h g=>?_;refine I [4] ?_ ?_<;>intro _ h
  ·refine B [5] fun _ b h=>?_;refine cA (J8 b) ?_;exact je
  refine S [2] ?_;refine Jb 24 hn h [0] [1000,1003] (fun _ h g=>?_) ?_
  ·exact K5 [5] [0,13,0] [0]
  intro f h;refine I [4] ?_ ?_<;>intro _ h
  ·refine B [5] fun _ c h=>?_;refine cA (J8 c) ?_;exact je
  exact Sr [3,12,3,7]
 rintro⟨i,j,k,l,m,n⟩ h;exact Sr [3,7]
def zg {N a0 a1 r} (h:Q6 N a0 a1=some r) {e:Nat} {c:List AV} {f:Nat}:Spec prog 197 [(1000,mB a0 (.fn e [.ptr 1007 0,.fp c]) (.fn f []) 1001 1003),(1003,p9 a0.aF [] 1005)] [.ptr 1000 0,.agg (eV a1)] (.aY []) [(1000,mB r (.fn e [.ptr 1007 0,.fp c]) (.fn f []) 1001 1003),(1003,p9 r.aF [] 5),(5,.aE)] [5]:=by
 refine so func197 ntmps197 fun i hn=>?_;unfold Q6 at h;refine I [15,3,2,3,13,4] ?_ ?_<;>intro _ h
 ·refine S [3] ?_;refine gC (gS 1003 501) ?_;exact Sr [7] [(5,501)]
 refine B [1,2,8,13,12] fun b a h=>?_;refine iD a ?_;refine gC (gD 1003 502 503 ((wr ((a0.aF.length:Int)-(1:Int))).toNat) 8 (l6 a).2) ?_;refine kd [0,3,4] [3,502,503,1000,1003] ?_;refine S [8] ?_;refine hD (l6 a).2 ?_;refine bS eV [a1] ?_;refine A [] fun d h=>?_;refine aM d ?_;refine hS (l6 a).2 ?_;refine gE (gA 1003 33 504 ((wr ((a0.aF.length:Int)-(1:Int))).toNat) 8 ((l6 a).2) (⟨b.aI,b.aK,b.aV,b.code,b.aQ,b.args,b.a8,(b.aA++[a1]),b.aH⟩:j3)) ?_;exact Sr [14] [(5,504)]
def zM {N a0 gq a1 a2 a3 a4 r} (h:N7 N a0 gq a1 a2 a3 a4=some r) {K:Nat} {a:List AV} {v:Nat} (y:∀t u H,gq t u=some H->Spec prog v [] [.int t,.int u] (.aY [.agg (eb H.1),.bool H.2]) [] []):Spec prog 166 [(1000,mB a0 (.fn K [.ptr 1007 0,.fp a]) (.fn v []) 1001 1003),(1001,.box [E8 a0.w.a7,.aJ 1002,.int a0.w.aB] 40),(1003,p9 a0.aF [] 1005)] [.ptr 1000 0,.int a1,.int a2,.agg (eV a3),zC a4] (.aY []) [(1000,mB r (.fn K [.ptr 1007 0,.fp a]) (.fn v []) 1001 4),(1001,.box [E8 a0.w.a7,.aJ 1002,.int a0.w.aB] 40),(4,p9 r.aF [] 5),(5,.aE),(1003,.aE)] [5,4]:=by
 refine so func166 ntmps166 fun L hn=>?_;unfold N7 at h;refine B [15,3,3] fun _ C h=>?_;refine G9 C ?_;refine B [] fun _ D h=>?_;refine G9 D ?_;refine S [2] ?_;refine kd [0,1,2,4,8,10] [8,1000,1001,1003] ?_;refine I [3,13,4] ?_ ?_<;>intro _ h
 ·refine B [3] fun _ z h=>?_;refine cA (J8 z) ?_;refine gC (gR 1000 6 1003 501 502) ?_;exact Sr [7] [(4,501),(5,502)]
 refine I [1,2,3,4] ?_ ?_<;>intro _ h
 ·refine S [2] ?_;refine kd [0,4,8,10] [8,1000,1001,1003] ?_;refine B [3] fun _ e h=>?_;refine cA (vw e) ?_;refine I [4] ?_ ?_<;>intro _ h
  ·refine gC (gR 1000 6 1003 503 504) ?_;exact Sr [7] [(4,503),(5,504)]
  refine B [1,2,8] fun _ p h=>?_;refine G9 p ?_;refine B [] fun _ f h=>?_;refine cA (wS f) ?_;refine S [2] ?_;refine kd [0,11,12] [11,1000,1001,1003] ?_;refine I [3,4] ?_ ?_<;>intro _ h
  ·refine B [3] fun _ i h=>?_;refine cA (J8 i) ?_;refine gC (gR 1000 6 1003 505 506) ?_;exact Sr [7] [(4,505),(5,506)]
  refine B [1,3] fun _ j h=>?_;refine cA ((zg j).sw 5 507) ?_;refine gC (gR 1000 6 1003 508 509) ?_;exact Sr [7] [(4,508),(5,509)]
 refine S [1,2] ?_;refine kd [0,1,2,4,8,10] [8,1000,1001,1003] ?_;refine B [3] fun _ l h=>?_;refine cA (vw l) ?_;refine I [4] ?_ ?_<;>intro _ h
 ·refine gC (gR 1000 6 1003 510 511) ?_;exact Sr [7] [(4,510),(5,511)]
 refine S [1,2] ?_;refine kd [0,1,2,4,8,10] [8,1000,1001,1003] ?_;refine B [8] fun E m h=>?_;refine cA ((mj N _ _ m).sw 0 77) ?_;refine A [] fun b h=>?_;refine mS (enc:=eV) (x:=(⟨(0:Int),(0:Int)⟩:V)) b aT ?_;refine S [2] ?_;refine kd [0,1,2,13] [13,77,82,1000,1001,1003] ?_;refine B [3] fun _ o h=>?_;refine cA (y _ _ _ o) ?_;refine S [3] ?_;refine J e0 hn h nl (fun s=>[(13,.box [.int a1,.int a2,.bool s.1,oW s.2.1,.int a3.k,.int a3.n,.aJ 77,.aJ 99,.aL,.int (0:Int)] 288),(99,ia s.2.2)]) [0,13] [77,1000,1001,1003] (fun _ h g=>?_) ?_
 ·refine I [4] ?_ ?_<;>intro _ h
  ·refine kd [0,13,14] [13,14,77,82,1000,1001,1003] ?_;refine A [8] fun c h=>?_;refine mS (enc:=eV) (x:=(⟨(0:Int),(0:Int)⟩:V)) c aT ?_;exact je
  exact Sj [1] [(99,82)]
 rintro⟨F,G,q⟩ h;refine j6.ao 77 rfl ?_;refine kd [0,13] [13,99,1000,1001,1003] ?_;refine S [8,11] ?_;refine Exists.intro [(7,(2,29)),(8,(2,29))] (Exists.intro (vU (⟨a1,a2,F,G,a3,E,q,[],(0:Int)⟩:j3)) (Exists.intro [(99,ia q)] (AN rfl (AN rfl (AN rfl (AN G7 (AN G7 (AN rfl (AN rfl ?_)))))))));refine A [] fun d h=>?_;refine aD d ?_;exact Sr [14] [(4,110),(5,810)]
def F2 {N a0 gl gq sb a1 a2 a3 r} (h:qy N a0 gl gq sb a1 a2 a3=some r) {u:Nat} {c:List AV} (y:∀d f t E i,gl d f t E=some i->Spec prog u [(1007,.box (eI E) 153)] [.agg (bT d),.int f,.str t,.ptr 1007 0,.fp c] (.aY [.int i.1,.int i.2.1]) [(1007,.box (eI i.2.2) 153)] []) {v:Nat} (z:∀d f i,gq d f=some i->Spec prog v [] [.int d,.int f] (.aY [.agg (eb i.1),.bool i.2]) [] []):Spec prog 198 [(1000,mB a0 (.fn u [.ptr 1007 0,.fp c]) (.fn v []) 1001 1003),(1001,.box [E8 a0.w.a7,.aJ 1002,.int a0.w.aB] 40),(1002,E9 a0.w.heap [] 1004),(1003,p9 a0.aF [] 1005),(1007,.box (eI sb) 153)] [.ptr 1000 0,.ep 1003 a1 10 0,.agg (bZ a2),.int a3] (.aY []) [(1000,mB r.2 (.fn u [.ptr 1007 0,.fp c]) (.fn v []) 1001 4),(1001,.box [E8 a0.w.a7,.aJ 1002,.int a0.w.aB] 40),(1002,E9 a0.w.heap [] 1004),(4,p9 r.2.aF [] 5),(5,.aE),(1003,.aE),(1007,.box (eI r.1) 153)] [5,4]:=by
 refine so func198 ntmps198 fun G hn=>?_;unfold qy at h;refine B [15,3,2] fun e b h=>?_;refine gC (gD 1003 501 502 a1 8 b) ?_;refine kd [0,1,3,6] [6,501,502,1000,1001,1002,1003,1007] ?_;refine S [8] ?_;refine hD b ?_;refine S [13,12,2] ?_;refine kd [0,1,3,6,8] [6,501,502,1000,1001,1002,1003,1007] ?_;refine S [8] ?_;refine hD b ?_;refine A [] fun x h=>?_;refine d59 x rfl rfl ?_;refine B [] fun _ C h=>?_;refine qE ((Spec.drop1 (mj N _ _ C)).sw 0 28) ⟨d66 _,trivial⟩ ?_;refine hD b ?_;refine B [12] fun _ q h=>?_;refine U0 q ?_;refine J4 (l6 q).2 ?_;refine S [2] ?_;refine gC (gB 1003 501 503 a1 8 b) ?_;refine kd [0,1,3,6,8,9,10] [6,10,28,503,1000,1001,1002,1003,1007] ?_;refine S [8] ?_;refine J4 b ?_;refine J4 b ?_;refine B [] fun _ o h=>?_;refine G9 o ?_;refine J4 b ?_;refine B [] fun D p h=>?_;refine G9 p ?_;refine S [2] ?_;refine kd [0,1,6,8,9,10,11] [6,10,11,28,503,1000,1001,1002,1003,1007] ?_;refine S [3] ?_;refine J4 b ?_;refine J e0 hn h nl (fun s=>[(11,.box [.int e.aI,.str D.name,.int s] 156)]) [0,1,6,8,9,10,11] [6,10,28,503,1000,1001,1002,1003,1007] (fun _ h g=>?_) ?_
 ·exact K5 [4] [5] [1]
 intro F h;refine S [2] ?_;refine kd [0,1,6,8,9,10,11] [6,10,11,28,503,1000,1001,1002,1003,1007] ?_;refine B [8] fun _ k h=>?_;refine cD (kG k) ?_;refine B [] fun _ l h=>?_;refine cA (y _ _ _ _ _ l) ?_;refine S [2] ?_;refine kd [0,1,8,9,10,12,13] [10,28,503,1000,1001,1002,1003,1007] ?_;refine I [3,4] ?_ ?_<;>intro _ h
 ·refine B [3] fun _ m h=>?_;refine cA (J8 m) ?_;refine gC (gR 1000 6 1003 504 505) ?_;exact Sr [7] [(4,504),(5,505)]
 refine S [1] ?_;refine gC (gD 1003 506 507 a1 8 b) ?_;refine kd [0,1,8,9,10,12,13] [10,28,506,507,1000,1001,1002,1003,1007] ?_;refine S [3] ?_;refine hD b ?_;refine A [12] fun j h=>?_;refine jB j rfl rfl ?_;refine hS b ?_;refine gC (gA 1003 102 508 a1 8 b (⟨e.aI,e.aK,e.aV,e.code,e.aQ,e.args,e.a8,(e.aA.take (wr ((wr ((e.aA.length:Int)-a2.a))-(1:Int))).toNat),e.aH⟩:j3)) ?_;refine kd [0,1,9,10,12,13] [10,28,508,1000,1001,1002,1003,1007] ?_;refine B [5] fun _ n h=>?_;refine cF ((((zM n z).sw 1005 508).sw 5 509).sw 4 510) ?_;exact Sr [14] [(4,510),(5,509)]
def zh {N a0 a1 a2 r} (h:Q0 N a0 a1 a2=some r) {e:Nat} {a:List AV} {f:Nat}:Spec prog 199 [(1000,mB a0 (.fn e [.ptr 1007 0,.fp a]) (.fn f []) 1001 1003),(1003,p9 a0.aF [] 1005)] [.ptr 1000 0,.ep 1003 a1 10 0,.int a2] (.aY []) [(1000,mB r (.fn e [.ptr 1007 0,.fp a]) (.fn f []) 1001 1003),(1003,p9 r.aF [] 5),(5,.aE)] [5]:=by
 refine so func199 ntmps199 fun o hn=>?_;unfold Q0 at h;refine B [15,2,3] fun b d h=>?_;refine J4 d ?_;refine J e0 hn h nl (fun s=>[(1000,.box [.ptr 1001 0,.fn e [.ptr 1007 0,.fp a],.fn f [],.int s.1,.int s.2.1,.int s.2.2.1,.aJ 1003,.int s.2.2.2.1,.int s.2.2.2.2.1,.int s.2.2.2.2.2] 251)]) [0,1,2] [1003] (fun _ h g=>?_) ?_
 ·refine I [4] ?_ ?_<;>intro _ h
  ·refine S [3,12,3] ?_;refine Jk e0 hn h nl (fun s=>[(1000,.box [.ptr 1001 0,.fn e [.ptr 1007 0,.fp a],.fn f [],.int s.1,.int s.2.1,.int s.2.2.1,.aJ 1003,.int s.2.2.2.1,.int s.2.2.2.2.1,.int s.2.2.2.2.2] 251)]) [0,1,2] [1003] [] fun _ h g=>?_;refine I [4] ?_ ?_<;>intro _ h
   ·refine kd [0,1,2] [1000,1003] ?_;refine B [5] fun _ c h=>?_;refine cA (J8 c) ?_;exact je
   exact Sj [1]
  exact Sj [1]
 rintro⟨i,j,k,l,m,n⟩ h;refine S [5] ?_;refine sD d (⟨b.aI,b.aK,b.aV,b.code,b.aQ,b.args,b.a8,b.aA,a2⟩:j3) ?_;refine gE (gS 1003 501) ?_;exact Sr [14] [(5,501)]
def F0 {N a0 a1 a2 r} (h:V9 N a0 a1 a2=some r) {m:Nat} {e:List AV} {n:Nat}:Spec prog 201 [(1000,mB a0 (.fn m [.ptr 1007 0,.fp e]) (.fn n []) 1001 1003),(1001,.box [E8 a0.w.a7,.aJ 1002,.int a0.w.aB] 40),(1002,E9 a0.w.heap [] 1004),(1003,p9 a0.aF [] 1005)] [.ptr 1000 0,.ep 1003 a1 10 0,.agg (bZ a2)] (.aY []) [(1000,mB r (.fn m [.ptr 1007 0,.fp e]) (.fn n []) 1001 1003),(1001,.box [E8 a0.w.a7,.aJ 1002,.int a0.w.aB] 40),(1002,E9 a0.w.heap [] 1004),(1003,p9 r.aF [] 5),(5,.aE)] [5]:=by
 refine so func201 ntmps201 fun o hn=>?_;unfold V9 at h;refine B [15,3,2,2] fun b a h=>?_;refine gC (gD 1003 501 502 a1 8 a) ?_;refine kd [0,1,5] [5,501,502,1000,1001,1002,1003] ?_;refine S [8] ?_;refine hD a ?_;refine hD a ?_;refine B [13,12,12] fun _ k h=>?_;refine U0 k ?_;refine J4 (l6 k).2 ?_;refine B [] fun _ l h=>?_;refine cD (kG l) ?_;refine I [4] ?_ ?_<;>intro _ h
 ·refine gC (gB 1003 501 503 a1 8 a) ?_;exact Sr [7] [(5,503)]
 refine S [1,2] ?_;refine gC (gB 1003 501 504 a1 8 a) ?_;refine kd [0,1,5] [5,504,1000,1001,1002,1003] ?_;refine S [8] ?_;refine J4 a ?_;refine B [] fun _ i h=>?_;refine G9 i ?_;refine J4 a ?_;refine B [] fun d j h=>?_;refine G9 j ?_;refine gC (gD 1003 505 506 a1 7 a) ?_;refine kd [0,1,5,6] [5,505,506,1000,1001,1002,1003] ?_;refine S [8] ?_;refine hD a ?_;refine A [] fun f h=>?_;refine jB f rfl rfl ?_;refine sD a (⟨b.aI,b.aK,false,b.code,b.aQ,b.args,b.a8,b.aA,b.aH⟩:j3) ?_;refine sD (setAt a) (⟨b.aI,b.aK,false,d.code,b.aQ,b.args,b.a8,b.aA,b.aH⟩:j3) ?_;refine hS (setAt (setAt a)) ?_;refine sD (setAt (setAt a)) (⟨b.aI,b.aK,false,d.code,b.aQ,b.args,b.a8,b.aA,a2.c⟩:j3) ?_;refine gE (gA 1003 68 507 a1 7 (setAt (setAt (setAt a))) (⟨b.aI,b.aK,false,d.code,b.aQ,b.args,(b.a8.take d.a8.toNat),b.aA,a2.c⟩:j3)) ?_;exact Sr [14] [(5,507)]
def zo {N a0 a1 a2 a3 r} (h:Z8 N a0 a1 a2 a3=some r) {j:Nat} {c:List AV} {k:Nat}:Spec prog 229 [(1000,mB a0 (.fn j [.ptr 1007 0,.fp c]) (.fn k []) 1001 1003),(1001,.box [E8 a0.w.a7,.aJ 1002,.int a0.w.aB] 40),(1002,E9 a0.w.heap [] 1004)] [.ptr 1000 0,.agg (eV a1),.int a2,.agg (eV a3)] (.aY []) [(1000,mB r (.fn j [.ptr 1007 0,.fp c]) (.fn k []) 1001 1003),(1001,.box [E8 a0.w.a7,.aJ 1002,.int a0.w.aB] 40),(1002,E9 r.w.heap [] 3),(3,.aE)] [3]:=by
 refine so func229 ntmps229 fun p hn=>?_;unfold Z8 at h;refine S [15,3,2] ?_;refine J e0 hn h (fun s=>[(40,.bool s)]) (fun s=>[(501,.aE),(1002,E9 a0.w.heap [] 501)]) [0,2,5,7] [5,7,1000,1001] (fun _ h g=>?_) ?_
 ·rcases qV h with⟨b,h⟩|⟨o,b,h⟩
  ·refine kd [0,2,5,7] [5,7,1000,1001,1002] ?_;refine I [8] ?_ ?_<;>intro _ h
   ·refine I [0,13,0] ?_ ?_<;>intro _ h
    ·cases h
    refine S [0] ?_;refine gE (gS 1002 501) ?_;exact je
   refine S [0] ?_;refine gE (gS 1002 502) ?_;exact je [(501,502)]
  refine gC (gD 1002 503 504 a1.n.toNat 1 b) ?_;refine kd [0,2,5,7] [5,7,503,504,1000,1001,1002] ?_;refine I [8] ?_ ?_<;>intro _ h
  ·refine I [0,13,0] ?_ ?_<;>intro _ h
   ·refine B [0] fun _ e h=>?_;refine iD e ?_;refine S [0] ?_;refine hD b ?_;refine S [0,13,0] ?_;refine gE (gB 1002 503 505 a1.n.toNat 1 b) ?_;exact je [(501,505)]
   refine S [0] ?_;refine gE (gB 1002 503 506 a1.n.toNat 1 b) ?_;exact je [(501,506)]
  refine S [0] ?_;refine gE (gB 1002 503 507 a1.n.toNat 1 b) ?_;exact je [(501,507)]
 intro m h;refine J e0 hn h nl (fun s=>[(508,.aE),(1002,E9 s [] 508)]) [0] [1000,1001] (fun _ h g=>?_) ?_
 ·refine I [4] ?_ ?_<;>intro _ h
  ·rcases qV h with⟨a,h⟩|⟨i,a,h⟩
   ·cases h
   refine gC (gD 1002 508 509 a1.n.toNat 1 a) ?_;refine kd [0,2,5,7] [5,7,508,509,1000,1001,1002] ?_;refine B [8] fun _ f h=>?_;refine iD f ?_;refine hD a ?_;refine B [] fun _ d h=>?_;refine U0 d ?_;refine sM (l6 d).2 a3 ?_;refine gE (gA 1002 508 510 a1.n.toNat 1 a (⟨i.cls,(i.aG.set a2.toNat a3)⟩:Ob)) ?_;exact je [(508,510)]
  exact Sj [1] [(508,501)]
 intro l h;exact Sr [14] [(3,508)]
def FC {N a0 a1 a2 r} (h:Y1 N a0 a1 a2=some r) {k:Nat} {b:List AV} {l:Nat}:Spec prog 202 [(1000,mB a0 (.fn k [.ptr 1007 0,.fp b]) (.fn l []) 1001 1003),(1001,.box [E8 a0.w.a7,.aJ 1002,.int a0.w.aB] 40),(1002,E9 a0.w.heap [] 1004),(1003,p9 a0.aF [] 1005)] [.ptr 1000 0,.ep 1003 a1 10 0,.agg (bZ a2)] (.aY []) [(1000,mB r (.fn k [.ptr 1007 0,.fp b]) (.fn l []) 1001 1003),(1001,.box [E8 r.w.a7,.aJ 2,.int r.w.aB] 40),(2,E9 r.w.heap [] 3),(3,.aE),(1002,.aE),(1003,p9 r.aF [] 5),(5,.aE)] [3,2,5]:=by
 refine so func202 ntmps202 fun Γ hn=>?_;unfold Y1 at h;refine S [15,3,3,3] ?_;refine J e1 hn h nl (fun s=>[(186,E9 s.1 [] 518),(501,.aE),(518,.aE),(1000,.box [.ptr 1001 0,.fn k [.ptr 1007 0,.fp b],.fn l [],.int s.2.1,.int s.2.2.1,.int s.2.2.2.1,.aJ 1003,.int s.2.2.2.2.2.1,.int s.2.2.2.2.2.2.1,.int s.2.2.2.2.2.2.2] 251),(1001,.box [E8 a0.w.a7,.aJ 186,.int a0.w.aB] 40),(1002,.aE),(1003,p9 s.2.2.2.2.1 [] 501)]) [0,1] [] (fun _ h g=>?_) ?_
 ·refine S [6,3] ?_;refine Jk e1 hn h nl (fun s=>[(186,E9 s.1 [] 518),(501,.aE),(518,.aE),(1000,.box [.ptr 1001 0,.fn k [.ptr 1007 0,.fp b],.fn l [],.int s.2.1,.int s.2.2.1,.int s.2.2.2.1,.aJ 1003,.int s.2.2.2.2.2.1,.int s.2.2.2.2.2.2.1,.int s.2.2.2.2.2.2.2] 251),(1001,.box [E8 a0.w.a7,.aJ 186,.int a0.w.aB] 40),(1002,.aE),(1003,p9 s.2.2.2.2.1 [] 501)]) [0,1] [] [] fun _ h g=>?_;refine I [4] ?_ ?_<;>intro _ h
  ·refine B [5] fun _ hx21 h=>?_;refine J4 hx21 ?_;refine B [] fun _ Z h=>?_;refine cA ((q9 Z).au [(1016,4),(1019,1003),(1021,1005),(21,501)] rfl) ?_;refine gE (gR 1001 1 1002 502 503) ?_;exact je [(186,502),(518,503)]
  refine S [3] ?_;refine Jk e1 hn h nl (fun s=>[(186,E9 s.1 [] 520),(504,.aE),(520,.aE),(1000,.box [.ptr 1001 0,.fn k [.ptr 1007 0,.fp b],.fn l [],.int s.2.1,.int s.2.2.1,.int s.2.2.2.1,.aJ 1003,.int s.2.2.2.2.2.1,.int s.2.2.2.2.2.2.1,.int s.2.2.2.2.2.2.2] 251),(1001,.box [E8 a0.w.a7,.aJ 186,.int a0.w.aB] 40),(1002,.aE),(1003,p9 s.2.2.2.2.1 [] 504)]) [0,1] [] [(518,520),(501,504)] fun _ h g=>?_;refine I [4] ?_ ?_<;>intro _ h
  ·refine B [8] fun _ hx35 h=>?_;refine J4 hx35 ?_;refine B [] fun _ hx37 h=>?_;refine G9 hx37 ?_;refine B [] fun _ hr39 h=>?_;refine cA ((q9 hr39).au [(1016,4),(1019,1003),(1021,1005),(21,504)] rfl) ?_;refine gE (gR 1001 1 1002 505 506) ?_;exact je [(186,505),(520,506)]
  refine S [3] ?_;refine Jk e1 hn h nl (fun s=>[(186,E9 s.1 [] 522),(507,.aE),(522,.aE),(1000,.box [.ptr 1001 0,.fn k [.ptr 1007 0,.fp b],.fn l [],.int s.2.1,.int s.2.2.1,.int s.2.2.2.1,.aJ 1003,.int s.2.2.2.2.2.1,.int s.2.2.2.2.2.2.1,.int s.2.2.2.2.2.2.2] 251),(1001,.box [E8 a0.w.a7,.aJ 186,.int a0.w.aB] 40),(1002,.aE),(1003,p9 s.2.2.2.2.1 [] 507)]) [0,1] [] [(520,522),(504,507)] fun _ h g=>?_;refine I [4] ?_ ?_<;>intro _ h
  ·refine B [] fun x50 D h=>?_;refine gC (gD 1003 507 508 a1 7 D) ?_;refine kd [0,1,4,5,6] [4,5,507,508,1000,1001,1002,1003] ?_;refine S [8] ?_;refine hD D ?_;refine B [] fun _ E h=>?_;refine U0 E ?_;refine J4 (l6 E).2 ?_;refine B [] fun _ hr55 h=>?_;refine cA ((oe hr55).au [(1022,507),(1016,4),(1019,1003),(1021,508),(21,509)] rfl) ?_;refine B [] fun j hx57 h=>?_;refine gE (gA 1003 507 510 a1 7 hx57 (⟨j.aI,j.aK,j.aV,j.code,j.aQ,j.args,x50.a8,j.aA,j.aH⟩:j3)) ?_;refine gE (gR 1001 1 1002 511 512) ?_;exact je [(186,511),(522,512),(507,510)]
  refine S [3] ?_;refine Jk e1 hn h nl (fun s=>[(186,E9 s.1 [] 525),(513,.aE),(525,.aE),(1000,.box [.ptr 1001 0,.fn k [.ptr 1007 0,.fp b],.fn l [],.int s.2.1,.int s.2.2.1,.int s.2.2.2.1,.aJ 1003,.int s.2.2.2.2.2.1,.int s.2.2.2.2.2.2.1,.int s.2.2.2.2.2.2.2] 251),(1001,.box [E8 a0.w.a7,.aJ 186,.int a0.w.aB] 40),(1002,.aE),(1003,p9 s.2.2.2.2.1 [] 513)]) [0,1] [] [(522,525),(507,513)] fun _ h g=>?_;refine I [4] ?_ ?_<;>intro _ h
  ·refine kd [0,1,4,5,6] [4,5,1000,1001,1002,1003] ?_;refine B [8] fun _ hx69 h=>?_;refine J4 hx69 ?_;refine B [] fun _ hr71 h=>?_;refine cD (ot hr71) ?_;refine B [] fun _ hr73 h=>?_;refine cA ((q9 hr73).au [(1016,4),(1019,1003),(1021,1005),(21,513)] rfl) ?_;refine gE (gR 1001 1 1002 514 515) ?_;exact je [(186,514),(525,515)]
  refine kd [0,1,4,5,6,12] [4,5,1000,1001,1002,1003] ?_;refine S [3] ?_;refine Jk e1 hn h nl (fun s=>[(186,E9 s.1 [] 527),(516,.aE),(527,.aE),(1000,.box [.ptr 1001 0,.fn k [.ptr 1007 0,.fp b],.fn l [],.int s.2.1,.int s.2.2.1,.int s.2.2.2.1,.aJ 1003,.int s.2.2.2.2.2.1,.int s.2.2.2.2.2.2.1,.int s.2.2.2.2.2.2.2] 251),(1001,.box [E8 a0.w.a7,.aJ 186,.int a0.w.aB] 40),(1002,.aE),(1003,p9 s.2.2.2.2.1 [] 516)]) [0,1] [] [(525,527),(513,516)] fun _ h g=>?_;refine I [4] ?_ ?_<;>intro _ h
  ·refine B [5] fun _ hr85 h=>?_;refine cA ((q9 hr85).au [(1016,4),(1019,1003),(1021,1005),(21,516)] rfl) ?_;refine gE (gR 1001 1 1002 517 518) ?_;exact je [(186,517),(527,518)]
  refine S [3] ?_;refine Jk e1 hn h nl (fun s=>[(186,E9 s.1 [] 529),(519,.aE),(529,.aE),(1000,.box [.ptr 1001 0,.fn k [.ptr 1007 0,.fp b],.fn l [],.int s.2.1,.int s.2.2.1,.int s.2.2.2.1,.aJ 1003,.int s.2.2.2.2.2.1,.int s.2.2.2.2.2.2.1,.int s.2.2.2.2.2.2.2] 251),(1001,.box [E8 a0.w.a7,.aJ 186,.int a0.w.aB] 40),(1002,.aE),(1003,p9 s.2.2.2.2.1 [] 519)]) [0,1] [] [(527,529),(516,519)] fun _ h g=>?_;refine I [4] ?_ ?_<;>intro _ h
  ·refine B [5] fun _ hr97 h=>?_;refine cA ((q9 hr97).au [(1016,4),(1019,1003),(1021,1005),(21,519)] rfl) ?_;refine gE (gR 1001 1 1002 520 521) ?_;exact je [(186,520),(529,521)]
  refine S [2,3] ?_;refine Jb 75 hn h [0,1,4,5,6,12] [4,5,1000,1001,1002,1003] (fun _ h g=>?_) ?_
  ·exact K5 [4] [1] [5]
  intro v98 h;refine Jk e1 hn h nl (fun s=>[(186,E9 s.1 [] 531),(522,.aE),(531,.aE),(1000,.box [.ptr 1001 0,.fn k [.ptr 1007 0,.fp b],.fn l [],.int s.2.1,.int s.2.2.1,.int s.2.2.2.1,.aJ 1003,.int s.2.2.2.2.2.1,.int s.2.2.2.2.2.2.1,.int s.2.2.2.2.2.2.2] 251),(1001,.box [E8 a0.w.a7,.aJ 186,.int a0.w.aB] 40),(1002,.aE),(1003,p9 s.2.2.2.2.1 [] 522)]) [0,1] [] [(529,531),(519,522)] fun _ h g=>?_;refine I [4] ?_ ?_<;>intro _ h
  ·refine B [5] fun _ G h=>?_;refine cA (rV G) ?_;refine B [] fun _ H h=>?_;refine cA ((q9 H).au [(1016,4),(1019,1003),(1021,1005),(21,522)] rfl) ?_;refine gE (gR 1001 1 1002 523 524) ?_;exact je [(186,523),(531,524)]
  refine S [3] ?_;refine Jk e1 hn h nl (fun s=>[(186,E9 s.1 [] 533),(525,.aE),(533,.aE),(1000,.box [.ptr 1001 0,.fn k [.ptr 1007 0,.fp b],.fn l [],.int s.2.1,.int s.2.2.1,.int s.2.2.2.1,.aJ 1003,.int s.2.2.2.2.2.1,.int s.2.2.2.2.2.2.1,.int s.2.2.2.2.2.2.2] 251),(1001,.box [E8 a0.w.a7,.aJ 186,.int a0.w.aB] 40),(1002,.aE),(1003,p9 s.2.2.2.2.1 [] 525)]) [0,1] [] [(531,533),(522,525)] fun _ h g=>?_;refine I [4] ?_ ?_<;>intro _ h
  ·refine B [5] fun _ K h=>?_;refine cA ((Q8 K).sw 5 525) ?_;refine gE (gR 1001 1 1002 526 527) ?_;exact je [(186,526),(533,527)]
  refine S [3] ?_;refine Jk e1 hn h nl (fun s=>[(186,E9 s.1 [] 535),(528,.aE),(535,.aE),(1000,.box [.ptr 1001 0,.fn k [.ptr 1007 0,.fp b],.fn l [],.int s.2.1,.int s.2.2.1,.int s.2.2.2.1,.aJ 1003,.int s.2.2.2.2.2.1,.int s.2.2.2.2.2.2.1,.int s.2.2.2.2.2.2.2] 251),(1001,.box [E8 a0.w.a7,.aJ 186,.int a0.w.aB] 40),(1002,.aE),(1003,p9 s.2.2.2.2.1 [] 528)]) [0,1] [] [(533,535),(525,528)] fun _ h g=>?_;refine I [4] ?_ ?_<;>intro _ h
  ·refine B [] fun c i h=>?_;refine gC (gD 1003 528 529 a1 8 i) ?_;refine kd [0,1,4,6] [4,528,529,1000,1001,1002,1003] ?_;refine S [8] ?_;refine hD i ?_;refine hD i ?_;refine B [13,12] fun _ n h=>?_;refine U0 n ?_;refine J4 (l6 n).2 ?_;refine B [] fun r142 L h=>?_;refine cA ((vz L).au [(1022,528),(1016,4),(1019,1003),(1021,529),(22,530)] rfl) ?_;refine gE (gA 1003 530 531 a1 8 i (⟨c.aI,c.aK,c.aV,c.code,c.aQ,c.args,c.a8,r142,c.aH⟩:j3)) ?_;refine gE (gR 1001 1 1002 532 533) ?_;exact je [(186,532),(535,533),(528,531)]
  refine S [3] ?_;refine Jk e1 hn h nl (fun s=>[(186,E9 s.1 [] 538),(534,.aE),(538,.aE),(1000,.box [.ptr 1001 0,.fn k [.ptr 1007 0,.fp b],.fn l [],.int s.2.1,.int s.2.2.1,.int s.2.2.2.1,.aJ 1003,.int s.2.2.2.2.2.1,.int s.2.2.2.2.2.2.1,.int s.2.2.2.2.2.2.2] 251),(1001,.box [E8 a0.w.a7,.aJ 186,.int a0.w.aB] 40),(1002,.aE),(1003,p9 s.2.2.2.2.1 [] 534)]) [0,1] [] [(535,538),(528,534)] fun _ h g=>?_;refine I [4] ?_ ?_<;>intro _ h
  ·refine B [] fun x154 o h=>?_;refine gC (gD 1003 534 535 a1 7 o) ?_;refine kd [0,1,4,5] [4,5,534,535,1000,1001,1002,1003] ?_;refine gz 3 7 hn ?_;refine hD o ?_;refine B [] fun F M h=>?_;refine cA ((((oh M).sw 1005 535).sw 1006 534).sw 5 536) ?_;refine B [] fun d p h=>?_;refine AN ⟨rfl,⟨rfl,trivial⟩,ny p rfl rfl G7 rfl ⟨rfl,rfl,rfl,rfl⟩⟩ ?_;refine B [] fun _ q h=>?_;refine U0 q ?_;refine sM (l6 q).2 F.1 ?_;refine gE (gA 1003 534 537 a1 7 p (⟨d.aI,d.aK,d.aV,d.code,d.aQ,d.args,(x154.a8.set a2.a.toNat F.1),d.aA,d.aH⟩:j3)) ?_;refine gE (gR 1001 1 1002 538 539) ?_;exact je [(186,538),(538,539),(534,537)]
  refine S [3] ?_;refine Jk e1 hn h nl (fun s=>[(186,E9 s.1 [] 541),(540,.aE),(541,.aE),(1000,.box [.ptr 1001 0,.fn k [.ptr 1007 0,.fp b],.fn l [],.int s.2.1,.int s.2.2.1,.int s.2.2.2.1,.aJ 1003,.int s.2.2.2.2.2.1,.int s.2.2.2.2.2.2.1,.int s.2.2.2.2.2.2.2] 251),(1001,.box [E8 a0.w.a7,.aJ 186,.int a0.w.aB] 40),(1002,.aE),(1003,p9 s.2.2.2.2.1 [] 540)]) [0,1] [] [(538,541),(534,540)] fun _ h g=>?_;refine I [4] ?_ ?_<;>intro _ h
  ·refine gz 4 8 hn ?_;refine B [] fun _ t h=>?_;refine J4 t ?_;refine B [] fun _ m h=>?_;refine cA ((Q8 m).sw 5 540) ?_;refine B [] fun _ u h=>?_;refine AN ⟨rfl,⟨rfl,trivial⟩,J4 u ⟨congrArg (fun v=>AV.agg (eV v)) (wJ m t u),rfl,rfl,rfl⟩⟩ ?_;refine B [] fun _ O h=>?_;refine cA ((zo O).sw 3 541) ?_;refine gE (gR 1001 1 1002 542 543) ?_;exact je [(186,542),(541,543)]
  refine S [3] ?_;refine Jk e1 hn h nl (fun s=>[(186,E9 s.1 [] 550),(544,.aE),(550,.aE),(1000,.box [.ptr 1001 0,.fn k [.ptr 1007 0,.fp b],.fn l [],.int s.2.1,.int s.2.2.1,.int s.2.2.2.1,.aJ 1003,.int s.2.2.2.2.2.1,.int s.2.2.2.2.2.2.1,.int s.2.2.2.2.2.2.2] 251),(1001,.box [E8 a0.w.a7,.aJ 186,.int a0.w.aB] 40),(1002,.aE),(1003,p9 s.2.2.2.2.1 [] 544)]) [0,1] [] [(541,550),(540,544)] fun _ h g=>?_;refine I [4] ?_ ?_<;>intro _ h
  ·refine B [] fun x190 x h=>?_;refine gC (gD 1003 544 545 a1 7 x) ?_;refine kd [0,1,4,5,6] [4,5,544,545,1000,1001,1002,1003] ?_;refine S [8] ?_;refine hD x ?_;refine B [] fun _ y h=>?_;refine U0 y ?_;refine J4 (l6 y).2 ?_;refine B [] fun _ P h=>?_;refine cD (ot P) ?_;refine B [] fun _ Q h=>?_;refine cA ((oe Q).au [(1022,544),(1016,4),(1019,1003),(1021,545),(21,546)] rfl) ?_;refine B [] fun e Y h=>?_;refine gE (gA 1003 544 547 a1 7 Y (⟨e.aI,e.aK,e.aV,e.code,e.aQ,e.args,x190.a8,e.aA,e.aH⟩:j3)) ?_;refine gE (gR 1001 1 1002 548 549) ?_;exact je [(186,548),(550,549),(544,547)]
  refine kd [0,1,4,5,6,12] [4,5,1000,1001,1002,1003] ?_;refine S [3] ?_;refine Jk e1 hn h nl (fun s=>[(186,E9 s.1 [] 553),(550,.aE),(553,.aE),(1000,.box [.ptr 1001 0,.fn k [.ptr 1007 0,.fp b],.fn l [],.int s.2.1,.int s.2.2.1,.int s.2.2.2.1,.aJ 1003,.int s.2.2.2.2.2.1,.int s.2.2.2.2.2.2.1,.int s.2.2.2.2.2.2.2] 251),(1001,.box [E8 a0.w.a7,.aJ 186,.int a0.w.aB] 40),(1002,.aE),(1003,p9 s.2.2.2.2.1 [] 550)]) [0,1] [] [(550,553),(544,550)] fun _ h g=>?_;refine I [4] ?_ ?_<;>intro _ h
  ·refine B [] fun x210 z h=>?_;refine gC (gD 1003 550 551 a1 7 z) ?_;refine kd [0,1,4,5] [4,5,550,551,1000,1001,1002,1003] ?_;refine gz 4 12 hn ?_;refine hD z ?_;refine B [] fun _ A h=>?_;refine U0 A ?_;refine J4 (l6 A).2 ?_;refine B [] fun _ R h=>?_;refine cA ((((oh R).sw 1005 551).sw 1006 550).sw 5 552) ?_;refine B [] fun f C h=>?_;refine AN ⟨rfl,⟨rfl,trivial⟩,ny C rfl rfl G7 rfl ⟨rfl,rfl,rfl,rfl⟩⟩ ?_;refine B [] fun _ T h=>?_;refine cA ((zo T).sw 3 553) ?_;refine gE (gA 1003 550 554 a1 7 C (⟨f.aI,f.aK,f.aV,f.code,f.aQ,f.args,x210.a8,f.aA,f.aH⟩:j3)) ?_;refine gE (gR 1001 1 1002 555 556) ?_;exact je [(186,555),(553,556),(550,554)]
  refine S [3] ?_;refine Jk e1 hn h nl (fun s=>[(186,E9 s.1 [] 886),(560,.aE),(886,.aE),(1001,.box [E8 a0.w.a7,.aJ 186,.int a0.w.aB] 40),(1002,.aE),(1003,p9 s.2 [] 560)]) [0,1] [1000] [(553,886),(550,560)] fun _ h g=>?_;refine I [4] ?_ ?_<;>intro _ h
  ·refine S [2] ?_;refine kd [0,1,5,6] [4,5,1000,1001,1002,1003] ?_;refine B [8] fun _ U h=>?_;refine cD (kI U) ?_;refine B [] fun _ V h=>?_;refine qE (((uh V).sw 0 186).sw 1 886) ⟨yV _,trivial,trivial⟩ ?_;refine S [2] ?_;refine kd [0,1,6,7,8,9] [4,8,186,886,1000,1001,1002,1003] ?_;refine I [3,4] ?_ ?_<;>intro _ h
   ·refine B [3] fun _ W h=>?_;refine cA (J8 W) ?_;refine gC (gR 1001 1 1002 557 558) ?_;refine gC (gS 1003 559) ?_;exact Sr [7] [(2,557),(3,558),(5,559)]
   refine B [1,3,5] fun _ X h=>?_;refine cA ((q9 X).au [(1016,4),(1019,1003),(1021,1005),(21,560)] rfl) ?_;refine gE (gX 1002) ?_;exact je
  refine S [1] ?_;refine gE (gR 1001 1 1002 561 562) ?_;refine gE (gS 1003 563) ?_;exact je [(186,561),(886,562),(560,563)]
 rintro⟨v1,v2,v3,v4,v5,v6,v7,v8⟩ h;exact Sr [14] [(2,186),(3,518),(5,501)]
end
section
set_option maxHeartbeats 40000000
set_option maxRecDepth 100000
set_option maxRecDepth 100000
def FB {N a0 gl gq sb r} (h:qx N a0 gl gq sb=some r) {b:Nat} {a:List AV} (z:∀e f y E j,gl e f y E=some j->Spec prog b [(1007,.box (eI E) 153)] [.agg (bT e),.int f,.str y,.ptr 1007 0,.fp a] (.aY [.int j.1,.int j.2.1]) [(1007,.box (eI j.2.2) 153)] []) {c:Nat} (C:∀e f j,gq e f=some j->Spec prog c [] [.int e,.int f] (.aY [.agg (eb j.1),.bool j.2]) [] []):Spec prog 167 [(1000,mB a0 (.fn b [.ptr 1007 0,.fp a]) (.fn c []) 1001 1003),(1001,.box [E8 a0.w.a7,.aJ 1002,.int a0.w.aB] 40),(1002,E9 a0.w.heap [] 1004),(1003,p9 a0.aF [] 1005),(1007,.box (eI sb) 153)] [.ptr 1000 0] (.aY []) [(1000,mB r.2 (.fn b [.ptr 1007 0,.fp a]) (.fn c []) 1001 4),(1001,.box [E8 r.2.w.a7,.aJ 2,.int r.2.w.aB] 40),(2,E9 r.2.w.heap [] 3),(3,.aE),(1002,.aE),(4,p9 r.2.aF [] 5),(5,.aE),(1003,.aE),(1007,.box (eI r.1) 153)] [3,2,5,4]:=by
 refine so func167 ntmps167 fun Γ hn=>?_;unfold qx at h;refine B [15,2,8,13,12] fun i d h=>?_;refine iD d ?_;refine S [3] ?_;refine J4 (l6 d).2 ?_;refine kd [0,2,3] [1000,1001,1002,1003,1007] ?_;refine S [3] ?_;refine J4 (l6 d).2 ?_;refine B [] fun _ D h=>?_;refine G9 D ?_;refine S [3] ?_;refine J4 (l6 d).2 ?_;refine S [12] ?_;refine sD (l6 d).2 (⟨i.aI,i.aK,i.aV,i.code,i.aQ,i.args,i.a8,i.aA,(wr (i.aH+(1:Int)))⟩:j3) ?_;refine kd [0,2,3,4] [4,1000,1001,1002,1003,1007] ?_;refine S [3] ?_;refine J e0 hn h nl (fun s=>[(501,.aE),(502,p9 s.2.2.2.2.2.2.2.1 [] 501),(509,.aE),(510,E9 s.2.1 [] 509),(1000,.box [.ptr 1001 0,.fn b [.ptr 1007 0,.fp a],.fn c [],.int s.2.2.2.2.1,.int s.2.2.2.2.2.1,.int s.2.2.2.2.2.2.1,.aJ 502,.int s.2.2.2.2.2.2.2.2.1,.int s.2.2.2.2.2.2.2.2.2.1,.int s.2.2.2.2.2.2.2.2.2.2] 251),(1001,.box [E8 s.1,.aJ 510,.int s.2.2.1] 40),(1002,.aE),(1003,.aE),(1007,.box (eI s.2.2.2.1) 153)]) [0] [] (fun _ h g=>?_) ?_
 ·refine S [6,3] ?_;refine Jk e0 hn h nl (fun s=>[(501,.aE),(502,p9 s.2.2.2.2.2.2.2.1 [] 501),(509,.aE),(510,E9 s.2.1 [] 509),(1000,.box [.ptr 1001 0,.fn b [.ptr 1007 0,.fp a],.fn c [],.int s.2.2.2.2.1,.int s.2.2.2.2.2.1,.int s.2.2.2.2.2.2.1,.aJ 502,.int s.2.2.2.2.2.2.2.2.1,.int s.2.2.2.2.2.2.2.2.2.1,.int s.2.2.2.2.2.2.2.2.2.2] 251),(1001,.box [E8 s.1,.aJ 510,.int s.2.2.1] 40),(1002,.aE),(1003,.aE),(1007,.box (eI s.2.2.2.1) 153)]) [0] [] [] fun _ h g=>?_;refine I [4] ?_ ?_<;>intro _ h
  ·refine B [5] fun _ q h=>?_;refine cA (((F2 q z C).sw 5 501).sw 4 502) ?_;refine gE (gR 1001 1 1002 503 504) ?_;exact je [(510,503),(509,504)]
  refine S [3] ?_;refine Jk e0 hn h nl (fun s=>[(88,p9 s.2.2.2.2.2.2.1 [] 505),(505,.aE),(511,.aE),(512,E9 s.2.1 [] 511),(1000,.box [.ptr 1001 0,.fn b [.ptr 1007 0,.fp a],.fn c [],.int s.2.2.2.1,.int s.2.2.2.2.1,.int s.2.2.2.2.2.1,.aJ 88,.int s.2.2.2.2.2.2.2.1,.int s.2.2.2.2.2.2.2.2.1,.int s.2.2.2.2.2.2.2.2.2] 251),(1001,.box [E8 s.1,.aJ 512,.int s.2.2.1] 40),(1002,.aE),(1003,.aE)]) [0] [1007] [(510,512),(509,511),(502,88),(501,505)] fun _ h g=>?_;refine I [4] ?_ ?_<;>intro _ h
  ·refine B [5] fun _ t h=>?_;refine cA ((zh t).sw 5 505) ?_;refine gE (gR 1001 1 1002 506 507) ?_;refine gE (gR 1000 6 1003 508 509) ?_;exact je [(512,506),(511,507),(88,508),(505,509)]
  refine S [3] ?_;refine Jk e0 hn h nl (fun s=>[(88,p9 s.2.2.2.2.2.2.1 [] 511),(511,.aE),(515,.aE),(516,E9 s.2.1 [] 515),(1000,.box [.ptr 1001 0,.fn b [.ptr 1007 0,.fp a],.fn c [],.int s.2.2.2.1,.int s.2.2.2.2.1,.int s.2.2.2.2.2.1,.aJ 88,.int s.2.2.2.2.2.2.2.1,.int s.2.2.2.2.2.2.2.2.1,.int s.2.2.2.2.2.2.2.2.2] 251),(1001,.box [E8 s.1,.aJ 516,.int s.2.2.1] 40),(1002,.aE),(1003,.aE)]) [0] [1007] [(512,516),(511,515),(505,511)] fun _ h g=>?_;refine I [4] ?_ ?_<;>intro _ h
  ·refine B [3] fun _ u h=>?_;refine cA ((Q8 u).sw 5 510) ?_;refine S [3] ?_;refine J e0 hn h nl (fun s=>[(511,.aE),(1000,.box [.ptr 1001 0,.fn b [.ptr 1007 0,.fp a],.fn c [],.int s.1,.int s.2.1,.int s.2.2.1,.aJ 1003,.int s.2.2.2.2.1,.int s.2.2.2.2.2.1,.int s.2.2.2.2.2.2] 251),(1003,p9 s.2.2.2.1 [] 511)]) [0] [1001,1002,1007] (fun _ h g=>?_) ?_
   ·refine S [6] ?_;refine kd [0,2,4,61] [4,510,1000,1001,1002,1003,1007] ?_;refine S [3] ?_;refine Jk e0 hn h nl (fun s=>[(511,.aE),(1000,.box [.ptr 1001 0,.fn b [.ptr 1007 0,.fp a],.fn c [],.int s.1,.int s.2.1,.int s.2.2.1,.aJ 1003,.int s.2.2.2.2.1,.int s.2.2.2.2.2.1,.int s.2.2.2.2.2.2] 251),(1003,p9 s.2.2.2.1 [] 511)]) [0] [1001,1002,1007] [] fun _ h g=>?_;refine I [4] ?_ ?_<;>intro _ h
    ·refine B [5] fun _ v h=>?_;refine cA (((zh v).sw 1005 510).sw 5 511) ?_;exact je
    refine S [3] ?_;refine Jk e0 hn h nl (fun s=>[(1000,.box [.ptr 1001 0,.fn b [.ptr 1007 0,.fp a],.fn c [],.int s.1,.int s.2.1,.int s.2.2.1,.aJ 1003,.int s.2.2.2.1,.int s.2.2.2.2.1,.int s.2.2.2.2.2] 251)]) [0] [510,1001,1002,1003,1007] [(511,510)] fun _ h g=>?_;refine Ij [4] [1] fun _ h=>?_;refine B [5] fun _ x h=>?_;refine cA (J8 x) ?_;exact je
   rintro⟨v61,v62,v63,v64,v65,v66,v67⟩ h;refine gE (gR 1001 1 1002 512 513) ?_;refine gE (gR 1000 6 1003 514 515) ?_;exact je [(516,512),(515,513),(88,514),(511,515)]
  refine S [3] ?_;refine Jk e0 hn h nl (fun s=>[(88,p9 s.2.2.2.2.2.2.1 [] 517),(517,.aE),(519,.aE),(520,E9 s.2.1 [] 519),(1000,.box [.ptr 1001 0,.fn b [.ptr 1007 0,.fp a],.fn c [],.int s.2.2.2.1,.int s.2.2.2.2.1,.int s.2.2.2.2.2.1,.aJ 88,.int s.2.2.2.2.2.2.2.1,.int s.2.2.2.2.2.2.2.2.1,.int s.2.2.2.2.2.2.2.2.2] 251),(1001,.box [E8 s.1,.aJ 520,.int s.2.2.1] 40),(1002,.aE),(1003,.aE)]) [0] [1007] [(516,520),(515,519),(511,517)] fun _ h g=>?_;refine I [4] ?_ ?_<;>intro _ h
  ·refine B [3] fun _ l h=>?_;refine cA ((Q8 l).sw 5 516) ?_;refine S [2] ?_;refine kd [0,6] [6,516,1000,1001,1002,1003,1007] ?_;refine A [8,13,12] fun k h=>?_;refine jB k rfl rfl ?_;refine B [5] fun _ m h=>?_;refine cA ((((zg m).sw 1003 88).sw 1005 788).sw 5 517) ?_;refine gE (gR 1001 1 1002 518 519) ?_;exact je [(520,518)]
  refine S [3] ?_;refine J e0 hn h nl (fun s=>[(520,.aE),(521,.aE),(522,E9 s.2.1 [] 521),(1000,.box [.ptr 1001 0,.fn b [.ptr 1007 0,.fp a],.fn c [],.int s.2.2.2.1,.int s.2.2.2.2.1,.int s.2.2.2.2.2.1,.aJ 1003,.int s.2.2.2.2.2.2.2.1,.int s.2.2.2.2.2.2.2.2.1,.int s.2.2.2.2.2.2.2.2.2] 251),(1001,.box [E8 s.1,.aJ 522,.int s.2.2.1] 40),(1002,.aE),(1003,p9 s.2.2.2.2.2.2.1 [] 520)]) [0] [1007] (fun _ h g=>?_) ?_
  ·refine I [4] ?_ ?_<;>intro _ h
   ·refine B [5] fun _ n h=>?_;refine cA ((F0 n).sw 5 520) ?_;refine gE (gR 1001 1 1002 521 522) ?_;exact je [(522,521),(521,522)]
   refine S [3] ?_;refine Jk e0 hn h nl (fun s=>[(523,.aE),(524,E9 s.2.1 [] 523),(525,.aE),(1000,.box [.ptr 1001 0,.fn b [.ptr 1007 0,.fp a],.fn c [],.int s.2.2.2.1,.int s.2.2.2.2.1,.int s.2.2.2.2.2.1,.aJ 1003,.int s.2.2.2.2.2.2.2.1,.int s.2.2.2.2.2.2.2.2.1,.int s.2.2.2.2.2.2.2.2.2] 251),(1001,.box [E8 s.1,.aJ 524,.int s.2.2.1] 40),(1002,.aE),(1003,p9 s.2.2.2.2.2.2.1 [] 525)]) [0] [1007] [(522,524),(521,523),(520,525)] fun _ h g=>?_;refine I [4] ?_ ?_<;>intro _ h
   ·refine kd [0] [1000,1001,1002,1003,1007] ?_;refine B [5] fun _ o h=>?_;refine cA (vw o) ?_;refine gE (gR 1001 1 1002 523 524) ?_;refine gE (gS 1003 525) ?_;exact je [(524,523),(523,524)]
   refine kd [0,2,4] [4,1000,1001,1002,1003,1007] ?_;refine B [5] fun _ p h=>?_;refine cA ((((FC p).sw 3 526).sw 2 527).sw 5 528) ?_;exact je [(524,527),(523,526),(525,528)]
  rintro⟨F,G,H,K,L,M,O,P,Q,R⟩ h;refine gE (gR 1000 6 1003 529 530) ?_;exact je [(520,522),(519,521),(88,529),(517,530)]
 rintro⟨v6,v7,v8,v9,T,U,V,W,X,Y,Z⟩ h;exact Sr [14] [(2,510),(3,509),(4,502),(5,501)]
def G3 {N a0 a1 a2 g3 sb g4 r} (h:mX N a0 a1 a2 g3 sb g4=some r) {i:Nat} {b:List AV} (y:∀c d f x e,g3 c d f x=some e->Spec prog i [(1055,.box (eI x) 153)] [.agg (bT c),.int d,.str f,.ptr 1055 0,.fp b] (.aY [.int e.1,.int e.2.1]) [(1055,.box (eI e.2.2) 153)] []) {j:Nat} (m:∀c d e,g4 c d=some e->Spec prog j [] [.int c,.int d] (.aY [.agg (eb e.1),.bool e.2]) [] []):Spec prog 125 [(1055,.box (eI sb) 153)] [.agg (R4 a0),.agg (kV a1),.int a2,.fn i [.ptr 1055 0,.fp b],.fn j []] (.aY [.agg (R4 r.1),.agg (ln r.2.1)]) [(1055,.box (eI r.2.2) 153)] []:=by
 refine so func125 ntmps125 fun Γ hn=>?_;unfold mX at h;refine B [3,2,3] fun _ z h=>?_;refine cA (wX z) ?_;refine I [3,4] ?_ ?_<;>intro _ h
 ·refine B [3] fun _ A h=>?_;refine cA (((jX A).sw 0 24).sw 1 724) ?_;refine j6.az 24 rfl ?_;exact Sr [7]
 refine B [1,3] fun E C h=>?_;refine cA (((jX C).sw 0 28).sw 1 728) ?_;refine kd [2,3,4,5,6,10,11,13] [5,6,10,11,13,28,728,1055] ?_;refine B [3,2,2,8] fun _ D h=>?_;refine cD (kG D) ?_;refine B [] fun _ o h=>?_;refine cD (jW o) ?_;refine kd [3,4,5,6,10,11,13,14,15,16] [5,6,10,11,13,28,33,728,1055] ?_;refine S [3] ?_;refine nB 33 6 501 10 288 ?_;refine gC (gT 501 502 [(7,(2,29)),(8,(2,29))]) ?_;refine J e0 hn h nl (fun s=>[(33,.box [.ptr 13 0,.fn i [.ptr 1055 0,.fp b],.fn j [],.int s.1,.int s.2.1,.int s.2.2.1,.aJ 501,.int s.2.2.2.2.1,.int s.2.2.2.2.2.1,.int s.2.2.2.2.2.2] 251),(501,p9 s.2.2.2.1 [] 502)]) [3,4,5,10,11,13,14] [5,10,11,13,28,502,728,1055] (fun _ h g=>?_) ?_
 ·refine I [4] ?_ ?_<;>intro _ h
  ·refine B [5] fun _ p h=>?_;refine cA ((J8 p).au [(1000,33),(1001,13),(1003,501),(1007,1055)] rfl) ?_;exact je
  refine B [5] fun _ q h=>?_;refine cA ((zM q m).au [(1000,33),(1001,13),(1003,501),(1002,28),(1005,502),(1007,1055),(5,503),(4,504)] rfl) ?_;exact je [(501,504),(502,503)]
 rintro⟨F,G,H,K,L,M,O⟩ h;refine S [2] ?_;refine LF e0 hn (sb,E.a7,E.heap,E.aB,F,G,H,K,L,M,O) (fun l v=>nD N g3 g4 l v.1 v.2.1 v.2.2.1 v.2.2.2.1 v.2.2.2.2.1 v.2.2.2.2.2.1 v.2.2.2.2.2.2.1 v.2.2.2.2.2.2.2.1 v.2.2.2.2.2.2.2.2.1 v.2.2.2.2.2.2.2.2.2.1 v.2.2.2.2.2.2.2.2.2.2) h (fun v=>[]) (fun v=>[(13,.box [E8 v.2.1,.aJ 28,.int v.2.2.2.1] 40),(28,E9 v.2.2.1 [] 728),(33,.box [.ptr 13 0,.fn i [.ptr 1055 0,.fp b],.fn j [],.int v.2.2.2.2.1,.int v.2.2.2.2.2.1,.int v.2.2.2.2.2.2.1,.aJ 501,.int v.2.2.2.2.2.2.2.2.1,.int v.2.2.2.2.2.2.2.2.2.1,.int v.2.2.2.2.2.2.2.2.2.2] 251),(501,p9 v.2.2.2.2.2.2.2.1 [] 502),(1055,.box (eI v.1) 153)]) [3,4,5,10,11,13,14] [5,10,11,502,728] [] nl (fun s=>[(13,.box [E8 s.2.1,.aJ 28,.int s.2.2.2.1] 40),(28,E9 s.2.2.1 [] 728),(33,.box [.ptr 13 0,.fn i [.ptr 1055 0,.fp b],.fn j [],.int s.2.2.2.2.1,.int s.2.2.2.2.2.1,.int s.2.2.2.2.2.2.1,.aJ 501,.int s.2.2.2.2.2.2.2.2.1,.int s.2.2.2.2.2.2.2.2.2.1,.int s.2.2.2.2.2.2.2.2.2.2] 251),(501,p9 s.2.2.2.2.2.2.2.1 [] 502),(1055,.box (eI s.1) 153)]) [3,4,5,10,11,13,14] [5,10,11,502,728] ?_ ?_
 ·rintro _ g ⟨R,T,U,V,W,X,Y,Z,v34,v35,v36⟩ Q h;rw[nD] at h;refine S [2,2] ?_;refine Jb 70 hn h [3,4,5,10,11,13,14] [5,10,11,13,28,33,501,502,728,1055] (fun _ h g=>?_) ?_
  ·exact K5 [5] [0,13,0] [0]
  intro v63 h;refine I [4] ?_ ?_<;>intro _ h
  ·refine B [1,6,5] fun a t h=>?_;refine cA ((FB t (fun c d f x e P=>(y c d f x e P).sw 1055 1007) m).au [(1000,33),(1001,13),(1003,501),(1002,28),(1004,728),(1005,502),(1007,1055),(3,505),(2,506),(5,507),(4,508)] rfl) ?_;exact le (a.1,a.2.w.a7,a.2.w.heap,a.2.w.aB,a.2.fuel,a.2.sends,a.2.turns,a.2.aF,a.2.back.k,a.2.back.n,a.2.err) [(28,506),(728,505),(501,508),(502,507)]
  exact Sj [20]
 rintro⟨v48,v49,v50,v51,v52,v53,v54,v55,v56,v57,v58⟩ h;refine I [2,3,4] ?_ ?_<;>intro _ h
 ·refine B [2,8] fun _ u h=>?_;refine cA (((jX u).sw 0 79).sw 1 779) ?_;refine j6.az 79 rfl ?_;exact Sr [7]
 refine S [1,2,8] ?_;refine j6.az 28 rfl ?_;exact Sr [7]
def Eh {N a0 g1 r} (h:M8 N a0 g1=some r) {m:Nat} {a:List AV} (f:∀d n,g1 d=some n->Spec prog m [] [.agg (hC d),.fp a] (.bool n) [] []):Spec prog 230 [] [kl a0,.fn m [.fp a]] (.int r) [] []:=by
 refine so func230 ntmps230 fun p hn=>?_;unfold M8 at h;refine S [3,2,3] ?_;refine O5 fun i=>?_;refine LR e1 hn () (fun l k v=>y9 N g1 l k) h (fun e v=>[(8,.int (e:Int))]) (fun e v=>[]) [0,1,7] [] [] nl nl [] [] ?_ ?_ ?_
 ·intro _ g e _ h _;rw[y9] at h;exact Sj [3,2,4,0,20]
 ·intro _ g e _ o j h _ c _;rw[y9] at h;refine S [3,2,4,0,1,2,6,3,3] ?_;refine Y7 c ?_;refine B [] fun _ b h=>?_;refine cA (f _ _ b) ?_;refine Ir [4] [3,7] fun _ h=>?_;refine S [1,5] ?_;refine ML (AN (V8 c i) ?_);exact le () []
 rintro⟨⟩ h;exact Sr [3,7]
def GC {N a0 b0 r} (h:nA N a0 b0=some r):Spec prog 231 [] [.agg (hC a0),.fp (bT b0)] (.bool r) [] []:=by
 refine so func231 ntmps231 fun a hn=>?_;unfold nA at h;exact Sr [3,3,7]
def Ai {N a0 a1 r} (h:nN N a0 a1=some r):Spec prog 203 [] [kl a0,.agg (bT a1)] (.int r) [] []:=by
 refine so func203 ntmps203 fun c hn=>?_;unfold nN at h;refine S [3] ?_;refine j6.gh (Gh.bC 3 3 rfl rfl rfl) (fun _=>?_);refine kd [0,3] [] ?_;refine B [3] fun _ a h=>?_;refine cA (Eh a (fun _ _ b=>GC b)) ?_;exact Sr [7]
def HR {N a0 a1 a2 a3 r} (h:sO N a0 a1 a2 a3=some r):Spec prog 168 [] [kl a0,.agg (bT a1),.int a2,.int a3] (.int r) [] []:=by
 refine so func168 ntmps168 fun n hn=>?_;unfold sO at h;refine B [3,3] fun _ f h=>?_;refine cA (Ai f) ?_;refine S [2,2] ?_;refine Jb 25 hn h [0,3,9] [] (fun _ h g=>?_) ?_
 ·refine Ij [5] [0] fun _ h=>?_;refine B [0] fun _ i h=>?_;refine G9 i ?_;exact Sj [0]
 intro m h;refine Ir [4] [3,7] fun _ h=>?_;refine B [1,2,3] fun _ d h=>?_;refine G9 d ?_;refine O5 fun c=>?_;refine LR e1 hn () (fun l k v=>nE N a3 l k) h (fun a v=>[(32,.int (a:Int))]) (fun a v=>[]) [3,30,31] [] [] nl nl [] [] ?_ ?_ ?_
 ·intro _ g a _ h _;rw[nE] at h;exact Sj [3,2,4,0,20]
 ·intro _ g a _ j e h _ b _;rw[nE] at h;refine S [3,2,4,0,1,2,6,3] ?_;refine Y7 b ?_;refine Ir [3,4] [3,7] fun _ h=>?_;refine S [1,5] ?_;refine ML (AN (V8 b c) ?_);exact le () []
 rintro⟨⟩ h;exact Sr [3,7]
def zO {N a0 g1 r} (h:I9 N a0 g1=some r) {m:Nat} {a:List AV} (f:∀d n,g1 d=some n->Spec prog m [] [.agg (V7 d),.fp a] (.bool n) [] []):Spec prog 172 [] [EN a0,.fn m [.fp a]] (.int r) [] []:=by
 refine so func172 ntmps172 fun p hn=>?_;unfold I9 at h;refine S [3,2,3] ?_;refine O5 fun i=>?_;refine LR e1 hn () (fun l k v=>C8 N g1 l k) h (fun e v=>[(8,.int (e:Int))]) (fun e v=>[]) [0,1,7] [] [] nl nl [] [] ?_ ?_ ?_
 ·intro _ g e _ h _;rw[C8] at h;exact Sj [3,2,4,0,20]
 ·intro _ g e _ o j h _ c _;rw[C8] at h;refine S [3,2,4,0,1,2,6,3,3] ?_;refine Y7 c ?_;refine B [] fun _ b h=>?_;refine cA (f _ _ b) ?_;refine Ir [4] [3,7] fun _ h=>?_;refine S [1,5] ?_;refine ML (AN (V8 c i) ?_);exact le () []
 rintro⟨⟩ h;exact Sr [3,7]
def Ek {N a0 g1 r} (h:U1 N a0 g1=some r) {e:Nat} {a:List AV} (c:∀b f,g1 b=some f->Spec prog e [] [.agg (V7 b),.fp a] (.bool f) [] []):Spec prog 204 [] [EN a0,.fn e [.fp a]] (.bool r) [] []:=by
 refine so func204 ntmps204 fun i hn=>?_;unfold U1 at h;refine B [3,3] fun _ d h=>?_;refine cA (zO d c) ?_;exact Sr [7]
def GU {N a0 b0 r} (h:rq N a0 b0=some r):Spec prog 205 [] [.agg (V7 a0),.fp [.int b0]] (.bool r) [] []:=by
 refine so func205 ntmps205 fun a hn=>?_;unfold rq at h;exact Sr [3,3,7]
def d42 (N:Nat) {l:List Ln} (h:Fit l.length 16):X4 N l=some l:=by
  unfold X4;rw[show IN (l.length*16) 140737488355328=true from Nat.ble_eq_true_of_le h];rfl
def R6 (t:Ce):List AV:=[.int t.site.cls,.str t.site.name,.int t.site.pos,.int t.aB,.bool t.many]
def dB (t:Ce):List AV×List (List AV):=(R6 t,t.lines.map V7)
def Gz (N:Nat) (l:List Ce) (s:Fit l.length 72) (i:∀t∈l,Fit t.lines.length 16):Spec prog 61 [] [.sl 6 (l.map hC)] (.cI 0) [(0,.nest 6 159 2 167 (l.map dB))] [0]:=by
  refine Spec.of fF func61 rfl ntmps61 C9 rfl rfl rfl fun u hn=>?_;(repeat (first|refine I7 hn ?_|refine P7 hn ?_|refine R7 hn ?_|refine P9 hn ?_|refine O6 hn ?_|refine N9 hn ?_|refine ax hn ?_));refine O5 (fun c=>?_);(repeat (first|refine I7 hn ?_|refine P7 hn ?_|refine R7 hn ?_|refine P9 hn ?_|refine O6 hn ?_|refine N9 hn ?_|refine ax hn ?_));refine j6.bH 3 3 6 159 rfl rfl rfl ?_;refine j6.gh (Gh.mU 100 2 167 rfl rfl) (fun _=>?_);refine j6.loop (ι:={p:Nat×List (Hd×List AV×List (List AV)) // p.1<=l.length/\p.2.map (·.2)=(l.take p.1).map dB}) (fun p=>[(6,.sl 6 (l.map hC)),(7,.int l.length),(8,.int p.1.1),(3,.aJ 3)])
    (fun p=>[(3,.row 6 (u6 p.1.2) 159),(100,.pins 2 (Z5 p.1.2) 167)]) (fun p=>l.length-p.1.1) ⟨(0,[]),d9,rfl⟩ [] ?_ ?_ ?_
  · exact⟨⟨rfl,rfl,rfl,rfl,trivial⟩,⟨rfl,rfl,trivial⟩,rfl,rfl⟩
  · intro k;rw[hn];rfl
  rintro⟨⟨k,z⟩,o,b⟩;have o:k<=l.length:=o;have b:z.map (·.2)=(l.take k).map dB:=b;(repeat (first|refine I7 hn ?_|refine P7 hn ?_|refine R7 hn ?_|refine P9 hn ?_|refine O6 hn ?_|refine N9 hn ?_|refine ax hn ?_));refine jc (fun a=>?_) (fun j=>?_)
  · have a:k<l.length:=by have:(k:Int)<(l.length:Int):=a;omega
    (repeat (first|refine I7 hn ?_|refine P7 hn ?_|refine R7 hn ?_|refine P9 hn ?_|refine O6 hn ?_|refine N9 hn ?_|refine ax hn ?_));refine AN d9 (AN (by simpa using a) ?_);intro w f r;obtain⟨x,d,rfl⟩:=ES f;have d:l[k]?=some x:=d;(repeat (first|refine I7 hn ?_|refine P7 hn ?_|refine R7 hn ?_|refine P9 hn ?_|refine O6 hn ?_|refine N9 hn ?_|refine ax hn ?_));show M0 _ _ _ _ _;refine M0.a_ ((uA N x.lines x.lines (d42 N (i x (MT d)))).sw 0 14) (by first|exact kO rfl|((repeat (refine AN rfl ?_));exact trivial)) (by(repeat (refine AN rfl ?_));exact trivial) rfl ?_;refine j6.gh (Gh.tc 5 5 14 100 rfl rfl rfl rfl rfl rfl rfl) (fun h=>?_);(repeat (first|refine I7 hn ?_|refine P7 hn ?_|refine R7 hn ?_|refine P9 hn ?_|refine O6 hn ?_|refine N9 hn ?_|refine ax hn ?_));refine Exists.intro [R6 x++[.aZ h.v]] (AN aT ?_);have n:(u6 z).length=k:=by
      have:=jq b;rw[Mw] at this;simp only[u6,Mb];omega
    refine AN ?_ (Exists.intro (u6 (z++[(h,dB x)])) (AN (by rw[uN];exact Q9 _) ?_))
    · show((u6 z).length+1)*72<=_;rw[n];exact Nat.le_trans (Mx 72 a) s
    (repeat (first|refine I7 hn ?_|refine P7 hn ?_|refine R7 hn ?_|refine P9 hn ?_|refine O6 hn ?_|refine N9 hn ?_|refine ax hn ?_));refine ML (AN (xT a c) ?_);have m:(z++[(h,dB x)]).map (·.2)=(l.take (k+1)).map dB:=by
      rw[xJ d,List.map_append,List.map_append,show z.map (·.2)=(l.take k).map dB from b];rfl
    refine⟨⟨(k+1,z++[(h,dB x)]),a,m⟩,[(3,19)],by show l.length-(k+1)<l.length-k;omega,⟨⟨rfl,rfl,rfl,rfl,trivial⟩,⟨rfl,?_,trivial⟩,rfl,rfl⟩⟩
    · exact congrArg (fun q=>some (Obj.pins 2 q 167)) (vB z (h,dB x)).symm
  · have e:k=l.length:=by have:¬(k:Int)<(l.length:Int):=j;omega
    subst e;have b:z.map (·.2)=l.map dB:=by
      have:z.map (·.2)=(l.take l.length).map dB:=b;rwa [List.take_length] at this
    refine O6 hn ?_;show j6 prog u _ _ _ _;refine j6.gh (Gh.close 3 3 100 101 z rfl rfl rfl rfl rfl b rfl rfl rfl rfl rfl) ?_;intro _;(repeat (first|refine I7 hn ?_|refine P7 hn ?_|refine R7 hn ?_|refine P9 hn ?_|refine O6 hn ?_|refine N9 hn ?_|refine ax hn ?_));exact⟨[(0,101)],_,rfl,rfl,⟨rfl,trivial⟩,rfl,rfl,rfl,rfl,rfl⟩
def Cq (l:List Ce):dx 2 (l.map dB)=l.map hC:=by simp[dx,dB,R6,hC]
theorem E1 (N:Nat) (s:St):∀(l:List Ce) (k:Nat),y9 N (fun x=>nA N x s) l k=some (match l.findIdx? (fun t=>decide (t.site=s)) with|some i=>.ret ((k+i:Nat):Int)|none=>.next ())
  |[],k=>rfl
  |x::l,k=>by
    rw[y9,nb,E1 N s l (k+1)];unfold nA;rw[show cT (bT x.site) (bT s)=decide (x.site=s) from yo x.site s];by_cases e:x.site=s
    · simp[e]
    · cases l.findIdx? (fun t=>decide (t.site=s))<;>simp[e];omega
def GO (N:Nat) (l:List Ce) (s:St):nN N l s=some (fu (fun t=>decide (t.site=s)) l):=by
  unfold nN M8 fu;rw[E1];cases l.findIdx? (fun t=>decide (t.site=s))<;>simp
theorem d95 (N:Nat) (c:Int):∀(l:List Ln) (k:Nat),C8 N (fun x=>rq N x c) l k=some (match l.findIdx? (fun t=>decide (t.cls=c)) with|some i=>.ret ((k+i:Nat):Int)|none=>.next ())
  |[],k=>rfl
  |x::l,k=>by
    rw[C8,nb,d95 N c l (k+1)];unfold rq;by_cases e:x.cls=c
    · simp[e]
    · cases l.findIdx? (fun t=>decide (t.cls=c))<;>simp[e];omega
def Ho (N:Nat) (c:Int) (l:List Ln):U1 N l (fun x=>rq N x c)=some (decide (0<=fu (fun t=>decide (t.cls=c)) l)):=by
  unfold U1 I9 fu;rw[d95];cases l.findIdx? (fun t=>decide (t.cls=c))<;>simp
def HP (N:Nat) (l:List Ce) (s:St) (e:Int) (c:Int) (f:Int) (r:List Ce) (h:sK N l s e c f=some r):Spec prog 169 [] [.sl 6 (l.map hC),.agg (bT s),.int e,.int c,.int f] (.aJ 0) [(0,.row 6 (r.map hC) 159)] [0]:=by
  unfold sK at h;obtain⟨R,h⟩:=j9 h;obtain rfl:=oI h;rw[IT,MV] at R;have hf:Fit (l.length+1) 72:=Md R.1;have M:∀t∈l,Fit (t.lines.length+1) 16:=fun t ht=>Md (R.2 t ht);clear h R;refine Spec.of fF func169 rfl ntmps169 C9 rfl rfl rfl fun D hn=>?_;refine I7 hn ?_;show j6 prog D _ _ _ _;refine j6.gh (Gh.bC 6 6 rfl rfl rfl) ?_;intro _;show j6 prog D _ _ _ _;refine j6.gh (Gh.bC 8 8 rfl rfl rfl) ?_;intro _;(repeat (first|refine I7 hn ?_|refine P7 hn ?_|refine R7 hn ?_|refine P9 hn ?_|refine O6 hn ?_|refine N9 hn ?_|refine ax hn ?_));show M0 _ _ _ _ _;refine M0.a_ ((Gz N l (Nat.le_trans (Mx _ (Nat.le_succ _)) hf) (fun t ht=>Nat.le_trans (Mx _ (Nat.le_succ _)) (M t ht))).sw 0 15) (by first|exact kO rfl|((repeat (refine AN rfl ?_));exact trivial)) (by(repeat (refine AN rfl ?_));exact trivial) rfl ?_;(repeat (first|refine I7 hn ?_|refine P7 hn ?_|refine R7 hn ?_|refine P9 hn ?_|refine O6 hn ?_|refine N9 hn ?_|refine ax hn ?_));show M0 _ _ _ _ _;refine M0.hU (Ai (GO N l s)) ?_ rfl ?_
  · show dV [.sl 6 (dx 2 (l.map dB)),.agg (bT s)] _;rw[Cq];exact kO rfl
  show j6 prog D _ _ _ _;refine j6.gh (Gh.open 11 15 102 103 rfl rfl rfl rfl rfl rfl (fun _=>rfl)) ?_;rintro⟨z,G⟩;refine j6.cut (ι:={ q:Nat×Ce×Hd×List (Hd×List AV×List (List AV)) // q.2.2.2[q.1]?=some (q.2.2.1,dB q.2.1)/\q.2.2.2.map (·.2)=(bb (fun t:Ce=>decide (t.site=s)) ⟨s,e,false,[]⟩ l).1.map dB/\(bb (fun t:Ce=>decide (t.site=s)) ⟨s,e,false,[]⟩ l).1[q.1]?=some q.2.1/\(bb (fun t:Ce=>decide (t.site=s)) ⟨s,e,false,[]⟩ l).2=q.1/\Fit (q.2.1.lines.length+1) 16/\q.2.1.site=s })
    (fun q=>[(11,.aJ 102),(12,.int q.1.1),(2,.int e),(4,.int f),(6,.fp (bT s)),(8,.fp [.int c])]) (fun q=>[(102,.row 6 (u6 q.1.2.2.2) 159),(103,.pins 2 ((Z5 q.1.2.2.2).eraseIdx q.1.1) 167),(104,.row 2 (q.1.2.1.lines.map V7) 167),(105,.eqv 104 q.1.2.2.1.v)]) ?_ ?_ ?_
  · (repeat (first|refine I7 hn ?_|refine P7 hn ?_|refine R7 hn ?_|refine P9 hn ?_|refine O6 hn ?_|refine N9 hn ?_|refine ax hn ?_));rcases vO (fun t:Ce=>decide (t.site=s)) l with⟨k,x,e1,H,e3,e4⟩|⟨e1,H⟩
    · refine jc (fun B=>?_) (fun A=>?_)
      · rw[e1] at B;omega
      · obtain⟨h,P⟩:=Dj G H;have X:(Z5 z).Perm ((h,x.lines.map V7)::(Z5 z).eraseIdx k):=by
          have hk:(Z5 z)[k]?=some (h,x.lines.map V7):=(by simp[Z5,P,dB]);obtain⟨hl,hv⟩:=MI.1 hk;rw[<-hv];exact(List.ae hl).symm
        show j6 prog D _ _ _ _;refine j6.gh (Gh.mW 103 104 105 rfl X rfl rfl rfl rfl rfl) ?_;intro _;refine N9 hn ?_;have ex:bb (fun t:Ce=>decide (t.site=s)) ⟨s,e,false,[]⟩ l=(l,k):=by unfold bb;rw[e4]
        refine⟨⟨(k,x,h,z),P,by rw[ex];exact G,by rw[ex];exact H,by rw[ex],M x (MT H),of_decide_eq_true e3⟩,[],⟨⟨rfl,congrArg AV.int e1,rfl,rfl,rfl,rfl,trivial⟩,⟨rfl,rfl,rfl,rfl,trivial⟩,rfl,rfl⟩⟩
    · refine jc (fun B=>?_) (fun A=>?_)
      · (repeat (first|refine I7 hn ?_|refine P7 hn ?_|refine R7 hn ?_|refine P9 hn ?_|refine O6 hn ?_|refine N9 hn ?_|refine ax hn ?_));rintro _ rfl hlen;refine j6.ops (jv hn 7 ?_);refine Exists.intro [[.int s.cls,.str s.name,.int s.pos,.int e,.bool false,.aL]] (AN aT ?_);refine AN ?_ (Exists.intro (u6 z++[[AV.int s.cls,.str s.name,.int s.pos,.int e,.bool false,.aL]]) (AN (Q9 _) ?_))
        · show((u6 z).length+1)*72<=_;rw[show(u6 z).length=l.length by simp only[u6,Mb];exact jq G];exact hf
        have ad:(u6 z++[[AV.int s.cls,.str s.name,.int s.pos,.int e,.bool false,.aL]])[l.length]?=some [AV.int s.cls,.str s.name,.int s.pos,.int e,.bool false,.aL]:=by
          rw[Mf (by simp[u6,jq G])];simp[u6,jq G]
        show cY prog D _ _ _ _ _;refine cY.gh (Gh.ez (r:=28) (i:=l.length) (off:=5) (j:=104) (j':=105) (isz:=2) (ie:=167) rfl ad rfl rfl rfl rfl rfl rfl) ?_;intro _;refine cY.done ?_;have ex:bb (fun t:Ce=>decide (t.site=s)) ⟨s,e,false,[]⟩ l=(l++[⟨s,e,false,[]⟩],l.length):=by unfold bb;rw[H]
        have o:=jq G;refine⟨⟨(l.length,⟨s,e,false,[]⟩,⟨none,0,0⟩,z++[(⟨none,0,0⟩,dB ⟨s,e,false,[]⟩)]),?_,?_,?_,?_,?_,rfl⟩,[(102,28)],⟨⟨rfl,?_,rfl,rfl,rfl,rfl,trivial⟩,⟨?_,?_,rfl,rfl,trivial⟩,rfl,rfl⟩⟩
        · show(z++[_])[l.length]?=_;rw[Mf d9];simp[o]
        · rw[ex];show MQ (fun p:Hd×List AV×List (List AV)=>p.2) (z++[_])=MQ dB (l++[_]);rw[List.map_append,List.map_append,G];rfl
        · rw[ex];show(l++[_])[l.length]?=_;rw[Mf (It _)];simp
        · rw[ex]
        · show(0+1)*16<=_;decide
        · exact congrArg AV.int (by simp[u6,o])
        · refine congrArg (fun q=>some (Obj.row 6 q 159)) ?_;show(u6 z++[_]).set l.length _=u6 (z++[_]);rw[uN,List.set_append_right _ _ (by simp[u6,o])];simp[u6,o,dB,R6]
        · refine congrArg (fun q=>some (Obj.pins 2 q 167)) ?_;show Z5 z=(Z5 (z++[_])).eraseIdx l.length;rw[vB,List.eraseIdx_append_of_length_le (by simp[Z5,o])];simp[Z5,o]
      · rw[e1] at A;omega
  · intro k;rw[hn];rfl
  rintro⟨⟨k,x,h,z⟩,w,Y,Z,hq4,hq5,F⟩;have w:z[k]?=some (h,dB x):=w;have F:x.site=s:=F;have b:k<(u6 z).length:=by
    have:=(MI.1 w).1;simpa[u6] using this
  have ad:(u6 z)[k]?=some (R6 x++[.aZ h.v]):=by simp[u6,w,dB]
  (repeat (first|refine I7 hn ?_|refine P7 hn ?_|refine R7 hn ?_|refine P9 hn ?_|refine O6 hn ?_|refine N9 hn ?_|refine ax hn ?_));refine AN d9 (AN (by simpa using b) ?_);refine AN (by simpa using b) (fun d a=>?_);have a:(u6 z)[k]?=some d:=a;obtain rfl:d=R6 x++[.aZ h.v]:=oI (a.symm.trans ad);show j6 prog D _ _ _ _;refine j6.jI (ι:={ q:Ce×Hd // q.1=fa e x/\Fit (q.1.lines.length+1) 16 })
    (fun q=>[(11,.aJ 102),(12,.int k),(4,.int f),(8,.fp [.int c])]) (fun q=>[(102,.row 6 ((u6 z).set k (R6 q.1.1++[.aZ q.1.2.v])) 159),(103,.pins 2 ((Z5 z).eraseIdx k) 167),(104,.row 2 (q.1.1.lines.map V7) 167),(105,.eqv 104 q.1.2.v)]) (fun Q2 Q q2x q2r=>?_) (by intro k;rw[hn];rfl) ?_
  · (repeat (first|refine I7 hn ?_|refine P7 hn ?_|refine R7 hn ?_|refine P9 hn ?_|refine O6 hn ?_|refine N9 hn ?_|refine ax hn ?_));refine nU (fun T=>?_) (fun T=>?_)
    · have W:¬x.aB=e:=by simpa using T
      have n:fa e x=⟨x.site,e,false,[]⟩:=N5 W;refine P7 hn ?_;refine AN d9 (AN (by simpa using b) ?_);refine AN (by simpa using b) (fun d a=>?_);have a:(u6 z)[k]?=some d:=a;obtain rfl:d=R6 x++[.aZ h.v]:=oI (a.symm.trans ad);refine Exists.intro ((u6 z).set k [.int s.cls,.str s.name,.int s.pos,.int e,.bool false,.aL]) (AN (Q9 _) ?_);have J:((u6 z).set k [AV.int s.cls,.str s.name,.int s.pos,.int e,.bool false,.aL])[k]?=some [AV.int s.cls,.str s.name,.int s.pos,.int e,.bool false,.aL]:=by rw[Mc,N6 rfl,N6 b]
      refine Q _ _ ?_;refine Z9.gh (Gh.ez (r:=102) (i:=k) (off:=5) (j:=106) (j':=107) (isz:=2) (ie:=167) rfl J rfl rfl rfl rfl rfl rfl) (fun _=>?_);refine Z9.done ?_;refine⟨⟨(fa e x,⟨none,0,0⟩),rfl,by show Fit ((fa e x).lines.length+1) 16;rw[n];show(0+1)*16<=_;decide⟩,[(104,106),(105,107)],trivial,⟨⟨rfl,rfl,rfl,rfl,trivial⟩,⟨?_,rfl,?_,rfl,trivial⟩,rfl,rfl⟩⟩
      · refine congrArg (fun q=>some (Obj.row 6 q 159)) ?_;show((u6 z).set k [AV.int s.cls,.str s.name,.int s.pos,.int e,.bool false,.aL]).set k [AV.int s.cls,.str s.name,.int s.pos,.int e,.bool false,.aZ (⟨none,0,0⟩:Hd).v]=(u6 z).set k (R6 (fa e x)++[.aZ (⟨none,0,0⟩:Hd).v]);rw[List.set_set,n,<-F];rfl
      · refine congrArg (fun q=>some (Obj.row 2 q 167)) ?_;show[]=MQ V7 (fa e x).lines;rw[n];rfl
    · have he:x.aB=e:=by simpa using T
      have n:fa e x=x:=N6 he;refine N9 hn ?_;refine Q _ _ ?_;refine Z9.done ?_;refine⟨⟨(fa e x,h),rfl,by show Fit ((fa e x).lines.length+1) 16;rw[n];exact hq5⟩,[],trivial,⟨⟨rfl,rfl,rfl,rfl,trivial⟩,⟨?_,rfl,?_,rfl,trivial⟩,rfl,rfl⟩⟩
      · refine congrArg (fun q=>some (Obj.row 6 q 159)) ?_;show u6 z=(u6 z).set k (R6 (fa e x)++[.aZ h.v]);rw[n];exact(xQ ad).symm
      · refine congrArg (fun q=>some (Obj.row 2 q 167)) ?_;show MQ V7 x.lines=MQ V7 (fa e x).lines;rw[n]
  rintro⟨⟨y,g⟩,hy,E⟩;have hy:y=fa e x:=hy;have E:Fit (y.lines.length+1) 16:=E;have m:((u6 z).set k (R6 y++[.aZ g.v]))[k]?=some (R6 y++[.aZ g.v]):=by rw[Mc,N6 rfl,N6 b]
  (repeat (first|refine I7 hn ?_|refine P7 hn ?_|refine R7 hn ?_|refine P9 hn ?_|refine O6 hn ?_|refine N9 hn ?_|refine ax hn ?_));refine AN d9 (AN (by simpa using b) ?_);show j6 prog D _ _ _ _;refine j6.oX fun Q4 q4n q4x q4r=>?_;refine j6.jI (ι:=Hd) (fun q=>[(11,.aJ 102),(12,.int k)]) (fun q=>[(102,.row 6 ((u6 z).set k (R6 (Y2 c f y)++[.aZ q.v])) 159),(103,.pins 2 ((Z5 z).eraseIdx k) 167),(104,.row 2 ((Y2 c f y).lines.map V7) 167),(105,.eqv 104 q.v)]) (fun Q3 C q3x q3r=>?_) (by intro k;rw[hn];rfl) ?_
  · (repeat (first|refine I7 hn ?_|refine P7 hn ?_|refine R7 hn ?_|refine P9 hn ?_|refine O6 hn ?_|refine N9 hn ?_|refine ax hn ?_));refine AN (by simpa using b) (fun d a=>?_);have a:((u6 z).set k (R6 y++[.aZ g.v]))[k]?=some d:=a;obtain rfl:d=R6 y++[.aZ g.v]:=oI (a.symm.trans m);refine nU (fun u=>?_) (fun u=>?_)
    · repeat (refine d44 u ?_)
      have hl:Y2 c f y=y:=N6 (ML u);(repeat (first|refine I7 hn ?_|refine P7 hn ?_|refine R7 hn ?_|refine P9 hn ?_|refine O6 hn ?_|refine N9 hn ?_|refine ax hn ?_));refine C _ _ ?_;refine Z9.done ?_;refine⟨g,[],trivial,⟨⟨rfl,rfl,trivial⟩,⟨?_,rfl,?_,rfl,trivial⟩,rfl,rfl⟩⟩
      · refine congrArg (fun q=>some (Obj.row 6 q 159)) ?_;show(u6 z).set k (R6 y++[.aZ g.v])=(u6 z).set k (R6 (Y2 c f y)++[.aZ g.v]);rw[hl]
      · refine congrArg (fun q=>some (Obj.row 2 q 167)) ?_;show MQ V7 y.lines=MQ V7 (Y2 c f y).lines;rw[hl]
    · refine nq u ?_;refine nq u ?_;refine nq u ?_;refine AN (by simpa using b) (fun d a=>?_);have a:((u6 z).set k (R6 y++[.aZ g.v]))[k]?=some d:=a;obtain rfl:d=R6 y++[.aZ g.v]:=oI (a.symm.trans m);refine AN rfl ?_;refine nq u ?_;refine nq u ?_;show M0 _ _ _ _ _;refine M0.hU (Ek (Ho N c y.lines) (fun _ _ h=>GU h)) (kO rfl) rfl ?_;refine nq u ?_;(repeat (first|refine I7 hn ?_|refine P7 hn ?_|refine R7 hn ?_|refine P9 hn ?_|refine O6 hn ?_|refine N9 hn ?_|refine ax hn ?_));refine nU (fun U=>?_) (fun U=>?_)
      · have hl:Y2 c f y=y:=N6 (Or.inr (of_decide_eq_true U));(repeat (first|refine I7 hn ?_|refine P7 hn ?_|refine R7 hn ?_|refine P9 hn ?_|refine O6 hn ?_|refine N9 hn ?_|refine ax hn ?_));refine C _ _ ?_;refine Z9.done ?_;refine⟨g,[],trivial,⟨⟨rfl,rfl,trivial⟩,⟨?_,rfl,?_,rfl,trivial⟩,rfl,rfl⟩⟩
        · refine congrArg (fun q=>some (Obj.row 6 q 159)) ?_;show(u6 z).set k (R6 y++[.aZ g.v])=(u6 z).set k (R6 (Y2 c f y)++[.aZ g.v]);rw[hl]
        · refine congrArg (fun q=>some (Obj.row 2 q 167)) ?_;show MQ V7 y.lines=MQ V7 (Y2 c f y).lines;rw[hl]
      · have O:¬(y.many=true\/0<=fu (fun t:Ln=>decide (t.cls=c)) y.lines):=by
          rintro(h|h)
          · rw[h] at u;cases u
          · exact absurd h (of_decide_eq_false U)
        (repeat (first|refine I7 hn ?_|refine P7 hn ?_|refine R7 hn ?_|refine P9 hn ?_|refine O6 hn ?_|refine N9 hn ?_|refine ax hn ?_));refine AN (by simpa using b) (fun d a=>?_);have a:((u6 z).set k (R6 y++[.aZ g.v]))[k]?=some d:=a;obtain rfl:d=R6 y++[.aZ g.v]:=oI (a.symm.trans m);refine AN rfl ?_;rintro _ rfl V;(repeat (first|refine I7 hn ?_|refine P7 hn ?_|refine R7 hn ?_|refine P9 hn ?_|refine O6 hn ?_|refine N9 hn ?_|refine ax hn ?_));refine jc (fun B=>?_) (fun A=>?_)
        · have I:(3:Int)<=(y.lines.length:Int):=by simpa using B
          have hl:Y2 c f y=⟨y.site,y.aB,true,[]⟩:=by unfold Y2;rw[N5 O,N6 I]
          (repeat (first|refine I7 hn ?_|refine P7 hn ?_|refine R7 hn ?_|refine P9 hn ?_|refine O6 hn ?_|refine N9 hn ?_|refine ax hn ?_));refine AN (by simpa using b) (fun d a=>?_);have a:((u6 z).set k (R6 y++[.aZ g.v]))[k]?=some d:=a;obtain rfl:d=R6 y++[.aZ g.v]:=oI (a.symm.trans m);refine Exists.intro ((u6 z).set k [.int y.site.cls,.str y.site.name,.int y.site.pos,.int y.aB,.bool true,.aZ g.v]) (AN (by show bu (((u6 z).set k (R6 y++[.aZ g.v])).set k [AV.int y.site.cls,.str y.site.name,.int y.site.pos,.int y.aB,.bool true,.aZ g.v]) _;rw[List.set_set];exact Q9 _) ?_);have K:((u6 z).set k [AV.int y.site.cls,.str y.site.name,.int y.site.pos,.int y.aB,.bool true,.aZ g.v])[k]?=some [AV.int y.site.cls,.str y.site.name,.int y.site.pos,.int y.aB,.bool true,.aZ g.v]:=by rw[Mc,N6 rfl,N6 b]
          refine AN (by simpa using b) (fun d a=>?_);have a:((u6 z).set k [AV.int y.site.cls,.str y.site.name,.int y.site.pos,.int y.aB,.bool true,.aZ g.v])[k]?=some d:=a;obtain rfl:d=[AV.int y.site.cls,.str y.site.name,.int y.site.pos,.int y.aB,.bool true,.aZ g.v]:=oI (a.symm.trans K);refine Exists.intro ((u6 z).set k [.int y.site.cls,.str y.site.name,.int y.site.pos,.int y.aB,.bool true,.aL]) (AN (by show bu (((u6 z).set k [AV.int y.site.cls,.str y.site.name,.int y.site.pos,.int y.aB,.bool true,.aZ g.v]).set k [AV.int y.site.cls,.str y.site.name,.int y.site.pos,.int y.aB,.bool true,.aL]) _;rw[List.set_set];exact Q9 _) ?_);have L:((u6 z).set k [AV.int y.site.cls,.str y.site.name,.int y.site.pos,.int y.aB,.bool true,.aL])[k]?=some [AV.int y.site.cls,.str y.site.name,.int y.site.pos,.int y.aB,.bool true,.aL]:=by rw[Mc,N6 rfl,N6 b]
          (repeat (first|refine I7 hn ?_|refine P7 hn ?_|refine R7 hn ?_|refine P9 hn ?_|refine O6 hn ?_|refine N9 hn ?_|refine ax hn ?_));refine C _ _ ?_;refine Z9.gh (Gh.ez (r:=102) (i:=k) (off:=5) (j:=106) (j':=107) (isz:=2) (ie:=167) rfl L rfl rfl rfl rfl rfl rfl) (fun _=>?_);refine Z9.done ?_;refine⟨⟨none,0,0⟩,[(104,106),(105,107)],trivial,⟨⟨rfl,rfl,trivial⟩,⟨?_,rfl,?_,rfl,trivial⟩,rfl,rfl⟩⟩
          · refine congrArg (fun q=>some (Obj.row 6 q 159)) ?_;show((u6 z).set k [AV.int y.site.cls,.str y.site.name,.int y.site.pos,.int y.aB,.bool true,.aL]).set k [AV.int y.site.cls,.str y.site.name,.int y.site.pos,.int y.aB,.bool true,.aZ (⟨none,0,0⟩:Hd).v]=(u6 z).set k (R6 (Y2 c f y)++[.aZ (⟨none,0,0⟩:Hd).v]);rw[List.set_set,hl];rfl
          · refine congrArg (fun q=>some (Obj.row 2 q 167)) ?_;show[]=MQ V7 (Y2 c f y).lines;rw[hl];rfl
        · have I:¬(3:Int)<=(y.lines.length:Int):=by simpa using A
          have hl:Y2 c f y=⟨y.site,y.aB,y.many,y.lines++[⟨c,f⟩]⟩:=by unfold Y2;rw[N5 O,N5 I]
          refine vo hn C9 ?_;refine AN (by simpa using b) (fun d a=>?_);have a:((u6 z).set k (R6 y++[.aZ g.v]))[k]?=some d:=a;obtain rfl:d=R6 y++[.aZ g.v]:=oI (a.symm.trans m);refine AN rfl ?_;refine Exists.intro (MQ V7 [⟨c,f⟩]) (AN aT ?_);refine AN ?_ (Exists.intro (MQ V7 (y.lines++[⟨c,f⟩])) (AN (vF (Q9 _)) ?_))
          · show((y.lines.map V7).length+1)*16<=_;rw[Mb];exact E
          refine AN (by simpa using b) (AN ?_ ?_)
          · intro d a;have a:((u6 z).set k (R6 y++[.aZ g.v]))[k]?=some d:=a;obtain rfl:d=R6 y++[.aZ g.v]:=oI (a.symm.trans m);show 5<6;omega
          refine C _ _ ?_;refine Z9.gh (Gh.bW 102 106 rfl rfl rfl (fun _=>rfl) rfl) (fun S=>?_);refine Z9.done ?_;refine⟨S,[(104,54),(105,106)],trivial,⟨⟨rfl,rfl,trivial⟩,⟨?_,rfl,?_,rfl,trivial⟩,rfl,rfl⟩⟩
          · refine congrArg (fun q=>some (Obj.row 6 q 159)) ?_;show gx ((u6 z).set k (R6 y++[.aZ g.v])) k 5 (.aZ S.v)=(u6 z).set k (R6 (Y2 c f y)++[.aZ S.v]);unfold gx;rw[m,hl];show((u6 z).set k _).set k _=_;rw[List.set_set];rfl
          · refine congrArg (fun q=>some (Obj.row 2 q 167)) ?_;show MQ V7 (y.lines++[⟨c,f⟩])=MQ V7 (Y2 c f y).lines;rw[hl]
  intro q;refine q4n _ _ ?_;have hat4:((u6 z).set k (R6 (Y2 c f y)++[.aZ q.v]))[k]?=some (R6 (Y2 c f y)++[.aZ q.v]):=by rw[Mc,N6 rfl,N6 b]
  have hzk:k<z.length:=(MI.1 w).1;have X:(Z5 (z.set k (q,R6 (Y2 c f y),(Y2 c f y).lines.map V7))).Perm ((q,(Y2 c f y).lines.map V7)::(Z5 z).eraseIdx k):=by
    rw[show Z5 (z.set k (q,R6 (Y2 c f y),(Y2 c f y).lines.map V7))=(Z5 z).set k (q,(Y2 c f y).lines.map V7) by simp[Z5,List.map_set]];exact set_perm (by simpa[Z5] using hzk)
  show j6 prog D _ _ _ _;refine j6.gh (Gh.mV (h:=q) (ls:=(Y2 c f y).lines.map V7) (l':=Z5 (z.set k (q,R6 (Y2 c f y),(Y2 c f y).lines.map V7))) 104 105 103 rfl rfl rfl X rfl rfl rfl) (fun _=>?_);have hz2:(z.set k (q,R6 (Y2 c f y),(Y2 c f y).lines.map V7)).map (·.2)=((bb (fun t:Ce=>decide (t.site=s)) ⟨s,e,false,[]⟩ l).1.modify (bb (fun t:Ce=>decide (t.site=s)) ⟨s,e,false,[]⟩ l).2 (iR e c f)).map dB:=by
    have h2:(bb (fun t:Ce=>decide (t.site=s)) ⟨s,e,false,[]⟩ l).2=k:=hq4;have I:z.map (·.2)=(bb (fun t:Ce=>decide (t.site=s)) ⟨s,e,false,[]⟩ l).1.map dB:=Y;have h4:(bb (fun t:Ce=>decide (t.site=s)) ⟨s,e,false,[]⟩ l).1[k]?=some x:=Z;rw[h2,x8 h4,List.map_set,List.map_set,I];unfold iR;rw[<-hy];rfl
  refine j6.gh (Gh.close 11 102 103 108 (z.set k (q,R6 (Y2 c f y),(Y2 c f y).lines.map V7)) rfl rfl rfl (by show(u6 z).set k _=_;simp[u6,List.map_set]) rfl hz2 rfl rfl rfl rfl rfl) (fun _=>?_);show j6 prog D _ _ _ _;refine j6.flat 11 108 109 rfl rfl rfl rfl rfl ?_;rw[Cq];(repeat (first|refine I7 hn ?_|refine P7 hn ?_|refine R7 hn ?_|refine P9 hn ?_|refine O6 hn ?_|refine N9 hn ?_|refine ax hn ?_));exact⟨[(0,109)],_,rfl,rfl,⟨rfl,trivial⟩,rfl,rfl,rfl,rfl,rfl⟩
def Gx {N a0 a1 a2 a3 a4 r} (h:sI N a0 a1 a2 a3 a4=some r):Spec prog 129 [] [kl a0,.agg (R4 a1),.agg (bT a2),.int a3,.str a4] (.aY [.aJ 0,.int r.2.1,.int r.2.2.1,.bool r.2.2.2]) [(0,d63 r.1)] [0]:=by
 refine so func129 ntmps129 fun j hn=>?_;unfold sI at h;refine B [3,2,3] fun _ e h=>?_;refine cA (HR e) ?_;refine S [2] ?_;refine Jb 33 hn h [0,3,4,6,7,14] [6,7] (fun _ h g=>?_) ?_
 ·refine kd [0,3,4,6,7,14] [6,7] ?_;exact K5 [5] [0,13,0] [0]
 intro i h;refine I [4] ?_ ?_<;>intro _ h
 ·refine B [3] fun _ f h=>?_;refine cA (jW f) ?_;refine B [3] fun _ a h=>?_;refine cA ((ua a).sw 0 42) ?_;exact Sr [7] [(0,42)]
 refine B [1,3] fun _ b h=>?_;refine cA (jW b) ?_;refine I [2,3,4] ?_ ?_<;>intro _ h
 ·refine kd [0,17,18] [] ?_;refine B [3] fun _ c h=>?_;refine cA ((ua c).sw 0 55) ?_;exact Sr [7] [(0,55)]
 refine S [1] ?_;refine kd [0,3,6,7,17,18] [6,7] ?_;refine B [3] fun _ d h=>?_;refine cA ((HP N _ _ _ _ _ _ d).sw 0 64) ?_;exact Sr [7] [(0,64)]
def El {N a0 g1 r} (h:U6 N a0 g1=some r) {m:Nat} {a:List AV} (f:∀d n,g1 d=some n->Spec prog m [] [.agg (hJ d),.fp a] (.bool n) [] []):Spec prog 170 [] [ix a0,.fn m [.fp a]] (.int r) [] []:=by
 refine so func170 ntmps170 fun p hn=>?_;unfold U6 at h;refine S [3,2,3] ?_;refine O5 fun i=>?_;refine LR e1 hn () (fun l k v=>F5 N g1 l k) h (fun e v=>[(8,.int (e:Int))]) (fun e v=>[]) [0,1,7] [] [] nl nl [] [] ?_ ?_ ?_
 ·intro _ g e _ h _;rw[F5] at h;exact Sj [3,2,4,0,20]
 ·intro _ g e _ o j h _ c _;rw[F5] at h;refine S [3,2,4,0,1,2,6,3,3] ?_;refine Y7 c ?_;refine B [] fun _ b h=>?_;refine cA (f _ _ b) ?_;refine Ir [4] [3,7] fun _ h=>?_;refine S [1,5] ?_;refine ML (AN (V8 c i) ?_);exact le () []
 rintro⟨⟩ h;exact Sr [3,7]
def Gd {N a0 b0 r} (h:s9 N a0 b0=some r):Spec prog 171 [] [.agg (hJ a0),.fp (bT b0)] (.bool r) [] []:=by
 refine so func171 ntmps171 fun a hn=>?_;unfold s9 at h;exact Sr [3,3,7]
def GW {N a0 b0 r} (h:rm N a0 b0=some r):Spec prog 173 [] [.agg (V7 a0),.fp [.int b0]] (.bool r) [] []:=by
 refine so func173 ntmps173 fun a hn=>?_;unfold rm at h;exact Sr [3,3,7]
def IH (N:Nat) {l:List Ln} (h:Fit l.length 16):X4 N l=some l:=by
  unfold X4;rw[show IN (l.length*16) 140737488355328=true from Nat.ble_eq_true_of_le h];rfl
def eY (t:Tl):List AV:=[.int t.site.cls,.str t.site.name,.int t.site.pos]
def dD (t:Tl):List AV×List (List AV):=(eY t,t.a7.map V7)
def Gt (N:Nat) (l:List Tl) (s:Fit l.length 56) (i:∀t∈l,Fit t.a7.length 16):Spec prog 62 [] [.sl 4 (l.map hJ)] (.cI 0) [(0,.nest 4 162 2 167 (l.map dD))] [0]:=by
  refine Spec.of fF func62 rfl ntmps62 C9 rfl rfl rfl fun u hn=>?_;(repeat (first|refine I7 hn ?_|refine P7 hn ?_|refine R7 hn ?_|refine P9 hn ?_|refine O6 hn ?_|refine N9 hn ?_|refine ax hn ?_));refine O5 (fun c=>?_);(repeat (first|refine I7 hn ?_|refine P7 hn ?_|refine R7 hn ?_|refine P9 hn ?_|refine O6 hn ?_|refine N9 hn ?_|refine ax hn ?_));refine j6.bH 3 3 4 162 rfl rfl rfl ?_;refine j6.gh (Gh.mU 100 2 167 rfl rfl) (fun _=>?_);refine j6.loop (ι:={p:Nat×List (Hd×List AV×List (List AV)) // p.1<=l.length/\p.2.map (·.2)=(l.take p.1).map dD}) (fun p=>[(6,.sl 4 (l.map hJ)),(7,.int l.length),(8,.int p.1.1),(3,.aJ 3)])
    (fun p=>[(3,.row 4 (u6 p.1.2) 162),(100,.pins 2 (Z5 p.1.2) 167)]) (fun p=>l.length-p.1.1) ⟨(0,[]),d9,rfl⟩ [] ?_ ?_ ?_
  · exact⟨⟨rfl,rfl,rfl,rfl,trivial⟩,⟨rfl,rfl,trivial⟩,rfl,rfl⟩
  · intro k;rw[hn];rfl
  rintro⟨⟨k,z⟩,o,b⟩;have o:k<=l.length:=o;have b:z.map (·.2)=(l.take k).map dD:=b;(repeat (first|refine I7 hn ?_|refine P7 hn ?_|refine R7 hn ?_|refine P9 hn ?_|refine O6 hn ?_|refine N9 hn ?_|refine ax hn ?_));refine jc (fun a=>?_) (fun j=>?_)
  · have a:k<l.length:=by have:(k:Int)<(l.length:Int):=a;omega
    (repeat (first|refine I7 hn ?_|refine P7 hn ?_|refine R7 hn ?_|refine P9 hn ?_|refine O6 hn ?_|refine N9 hn ?_|refine ax hn ?_));refine AN d9 (AN (by simpa using a) ?_);intro w f r;obtain⟨x,d,rfl⟩:=ES f;have d:l[k]?=some x:=d;(repeat (first|refine I7 hn ?_|refine P7 hn ?_|refine R7 hn ?_|refine P9 hn ?_|refine O6 hn ?_|refine N9 hn ?_|refine ax hn ?_));show M0 _ _ _ _ _;refine M0.a_ ((uA N x.a7 x.a7 (IH N (i x (MT d)))).sw 0 14) (by first|exact kO rfl|((repeat (refine AN rfl ?_));exact trivial)) (by(repeat (refine AN rfl ?_));exact trivial) rfl ?_;refine j6.gh (Gh.tc 5 3 14 100 rfl rfl rfl rfl rfl rfl rfl) (fun h=>?_);(repeat (first|refine I7 hn ?_|refine P7 hn ?_|refine R7 hn ?_|refine P9 hn ?_|refine O6 hn ?_|refine N9 hn ?_|refine ax hn ?_));refine Exists.intro [[.int x.site.cls,.str x.site.name,.int x.site.pos,.aZ h.v]] (AN aT ?_);have n:(u6 z).length=k:=by
      have:=jq b;rw[Mw] at this;simp only[u6,Mb];omega
    refine AN ?_ (Exists.intro (u6 (z++[(h,dD x)])) (AN (by rw[uN];exact Q9 _) ?_))
    · show((u6 z).length+1)*56<=_;rw[n];exact Nat.le_trans (Mx 56 a) s
    (repeat (first|refine I7 hn ?_|refine P7 hn ?_|refine R7 hn ?_|refine P9 hn ?_|refine O6 hn ?_|refine N9 hn ?_|refine ax hn ?_));refine ML (AN (xT a c) ?_);have m:(z++[(h,dD x)]).map (·.2)=(l.take (k+1)).map dD:=by
      rw[xJ d,List.map_append,List.map_append,show z.map (·.2)=(l.take k).map dD from b];rfl
    refine⟨⟨(k+1,z++[(h,dD x)]),a,m⟩,[(3,19)],by show l.length-(k+1)<l.length-k;omega,⟨⟨rfl,rfl,rfl,rfl,trivial⟩,⟨rfl,?_,trivial⟩,rfl,rfl⟩⟩
    · exact congrArg (fun q=>some (Obj.pins 2 q 167)) (vB z (h,dD x)).symm
  · have e:k=l.length:=by have:¬(k:Int)<(l.length:Int):=j;omega
    subst e;have b:z.map (·.2)=l.map dD:=by
      have:z.map (·.2)=(l.take l.length).map dD:=b;rwa [List.take_length] at this
    refine O6 hn ?_;show j6 prog u _ _ _ _;refine j6.gh (Gh.close 3 3 100 101 z rfl rfl rfl rfl rfl b rfl rfl rfl rfl rfl) ?_;intro _;(repeat (first|refine I7 hn ?_|refine P7 hn ?_|refine R7 hn ?_|refine P9 hn ?_|refine O6 hn ?_|refine N9 hn ?_|refine ax hn ?_));exact⟨[(0,101)],_,rfl,rfl,⟨rfl,trivial⟩,rfl,rfl,rfl,rfl,rfl⟩
def CS (l:List Tl):dx 2 (l.map dD)=l.map hJ:=by simp[dx,dD,eY,hJ]
theorem Dr (N:Nat) (s:St):∀(l:List Tl) (k:Nat),F5 N (fun x=>s9 N x s) l k=some (match l.findIdx? (fun t=>decide (t.site=s)) with|some i=>.ret ((k+i:Nat):Int)|none=>.next ())
  |[],k=>rfl
  |x::l,k=>by
    rw[F5,nb,Dr N s l (k+1)];unfold s9;rw[show cT (bT x.site) (bT s)=decide (x.site=s) from yo x.site s];by_cases e:x.site=s
    · simp[e]
    · cases l.findIdx? (fun t=>decide (t.site=s))<;>simp[e];omega
def Lu (N:Nat) (s:St) (l:List Tl):U6 N l (fun x=>s9 N x s)=some (fu (fun t=>decide (t.site=s)) l):=by
  unfold U6 fu;rw[Dr];cases l.findIdx? (fun t=>decide (t.site=s))<;>simp
theorem d79 (N:Nat) (c:Int):∀(l:List Ln) (k:Nat),C8 N (fun x=>rm N x c) l k=some (match l.findIdx? (fun t=>decide (t.cls=c)) with|some i=>.ret ((k+i:Nat):Int)|none=>.next ())
  |[],k=>rfl
  |x::l,k=>by
    rw[C8,nb,d79 N c l (k+1)];unfold rm;by_cases e:x.cls=c
    · simp[e]
    · cases l.findIdx? (fun t=>decide (t.cls=c))<;>simp[e];omega
def Lt (N:Nat) (c:Int) (l:List Ln):I9 N l (fun x=>rm N x c)=some (fu (fun t=>decide (t.cls=c)) l):=by
  unfold I9 fu;rw[d79];cases l.findIdx? (fun t=>decide (t.cls=c))<;>simp
def HS (N:Nat) (l:List Tl) (s:St) (c:Int) (r:List Tl) (h:sR N l s c=some r):Spec prog 130 [] [.sl 4 (l.map hJ),.agg (bT s),.int c] (.aJ 0) [(0,.row 4 (r.map hJ) 162)] [0]:=by
  unfold sR at h;obtain⟨M,h⟩:=j9 h;obtain rfl:=oI h;rw[IT,MV] at M;have hf:Fit (l.length+1) 56:=Md M.1;have K:∀t∈l,Fit (t.a7.length+1) 16:=fun t Y=>Md (M.2 t Y);clear h M;refine Spec.of fF func130 rfl ntmps130 C9 rfl rfl rfl fun E hn=>?_;refine I7 hn ?_;show j6 prog E _ _ _ _;refine j6.gh (Gh.bC 4 4 rfl rfl rfl) ?_;intro _;show j6 prog E _ _ _ _;refine j6.gh (Gh.bC 5 5 rfl rfl rfl) ?_;intro _;(repeat (first|refine I7 hn ?_|refine P7 hn ?_|refine R7 hn ?_|refine P9 hn ?_|refine O6 hn ?_|refine N9 hn ?_|refine ax hn ?_));show M0 _ _ _ _ _;refine M0.a_ ((Gt N l (Nat.le_trans (Mx _ (Nat.le_succ _)) hf) (fun t Y=>Nat.le_trans (Mx _ (Nat.le_succ _)) (K t Y))).sw 0 11) (by first|exact kO rfl|((repeat (refine AN rfl ?_));exact trivial)) (by(repeat (refine AN rfl ?_));exact trivial) rfl ?_;(repeat (first|refine I7 hn ?_|refine P7 hn ?_|refine R7 hn ?_|refine P9 hn ?_|refine O6 hn ?_|refine N9 hn ?_|refine ax hn ?_));show M0 _ _ _ _ _;refine M0.hU (El (Lu N s l) (fun _ _ h=>Gd h)) ?_ rfl ?_
  · show dV [.sl 4 (dx 2 (l.map dD)),.fn 171 [.fp (bT s)]] _;rw[CS];exact kO rfl
  show j6 prog E _ _ _ _;refine j6.gh (Gh.open 7 11 102 103 rfl rfl rfl rfl rfl rfl (fun _=>rfl)) ?_;rintro⟨z,F⟩;refine j6.cut (ι:={ q:Nat×Tl×Hd×List (Hd×List AV×List (List AV)) // q.2.2.2[q.1]?=some (q.2.2.1,dD q.2.1)/\q.2.2.2.map (·.2)=(bb (fun t=>decide (t.site=s)) ⟨s,[]⟩ l).1.map dD/\(bb (fun t=>decide (t.site=s)) ⟨s,[]⟩ l).1[q.1]?=some q.2.1/\(bb (fun t=>decide (t.site=s)) ⟨s,[]⟩ l).2=q.1/\Fit (q.2.1.a7.length+1) 16 })
    (fun q=>[(7,.aJ 102),(8,.int q.1.1),(5,.fp [.int c])]) (fun q=>[(102,.row 4 (u6 q.1.2.2.2) 162),(103,.pins 2 ((Z5 q.1.2.2.2).eraseIdx q.1.1) 167),(104,.row 2 (q.1.2.1.a7.map V7) 167),(105,.eqv 104 q.1.2.2.1.v)]) ?_ ?_ ?_
  · (repeat (first|refine I7 hn ?_|refine P7 hn ?_|refine R7 hn ?_|refine P9 hn ?_|refine O6 hn ?_|refine N9 hn ?_|refine ax hn ?_));rcases vO (fun t:Tl=>decide (t.site=s)) l with⟨k,x,e1,B,e3,O⟩|⟨e1,B⟩
    · refine jc (fun w=>?_) (fun u=>?_)
      · rw[e1] at w;omega
      · obtain⟨h,L⟩:=Dj F B;have T:(Z5 z).Perm ((h,x.a7.map V7)::(Z5 z).eraseIdx k):=by
          have hk:(Z5 z)[k]?=some (h,x.a7.map V7):=(by simp[Z5,L,dD]);obtain⟨hl,hv⟩:=MI.1 hk;rw[<-hv];exact(List.ae hl).symm
        show j6 prog E _ _ _ _;refine j6.gh (Gh.mW 103 104 105 rfl T rfl rfl rfl rfl rfl) ?_;intro _;refine N9 hn ?_;have ex:bb (fun t:Tl=>decide (t.site=s)) ⟨s,[]⟩ l=(l,k):=by unfold bb;rw[O]
        refine⟨⟨(k,x,h,z),L,by rw[ex];exact F,by rw[ex];exact B,by rw[ex],K x (MT B)⟩,[],⟨⟨rfl,congrArg AV.int e1,rfl,trivial⟩,⟨rfl,rfl,rfl,rfl,trivial⟩,rfl,rfl⟩⟩
    · refine jc (fun w=>?_) (fun u=>?_)
      · (repeat (first|refine I7 hn ?_|refine P7 hn ?_|refine R7 hn ?_|refine P9 hn ?_|refine O6 hn ?_|refine N9 hn ?_|refine ax hn ?_));rintro _ rfl hlen;refine j6.ops (jv hn 6 ?_);refine Exists.intro [[.int s.cls,.str s.name,.int s.pos,.aL]] (AN aT ?_);refine AN ?_ (Exists.intro (u6 z++[[AV.int s.cls,.str s.name,.int s.pos,.aL]]) (AN (Q9 _) ?_))
        · show((u6 z).length+1)*56<=_;rw[show(u6 z).length=l.length by simp only[u6,Mb];exact jq F];exact hf
        have ad:(u6 z++[[AV.int s.cls,.str s.name,.int s.pos,.aL]])[l.length]?=some [AV.int s.cls,.str s.name,.int s.pos,.aL]:=by
          rw[Mf (by simp[u6,jq F])];simp[u6,jq F]
        show cY prog E _ _ _ _ _;refine cY.gh (Gh.ez (r:=23) (i:=l.length) (off:=3) (j:=104) (j':=105) (isz:=2) (ie:=167) rfl ad rfl rfl rfl rfl rfl rfl) ?_;intro _;refine cY.done ?_;have ex:bb (fun t:Tl=>decide (t.site=s)) ⟨s,[]⟩ l=(l++[⟨s,[]⟩],l.length):=by unfold bb;rw[B]
        have f:=jq F;refine⟨⟨(l.length,⟨s,[]⟩,⟨none,0,0⟩,z++[(⟨none,0,0⟩,dD ⟨s,[]⟩)]),?_,?_,?_,?_,?_⟩,[(102,23)],⟨⟨rfl,?_,rfl,trivial⟩,⟨?_,?_,rfl,rfl,trivial⟩,rfl,rfl⟩⟩
        · show(z++[_])[l.length]?=_;rw[Mf d9];simp[f]
        · rw[ex];show MQ (fun p:Hd×List AV×List (List AV)=>p.2) (z++[_])=MQ dD (l++[_]);rw[List.map_append,List.map_append,F];rfl
        · rw[ex];show(l++[_])[l.length]?=_;rw[Mf (It _)];simp
        · rw[ex]
        · show(0+1)*16<=_;decide
        · exact congrArg AV.int (by simp[u6,f])
        · refine congrArg (fun q=>some (Obj.row 4 q 162)) ?_;show(u6 z++[_]).set l.length _=u6 (z++[_]);rw[uN,List.set_append_right _ _ (by simp[u6,f])];simp[u6,f,dD,eY]
        · refine congrArg (fun q=>some (Obj.pins 2 q 167)) ?_;show Z5 z=(Z5 (z++[_])).eraseIdx l.length;rw[vB,List.eraseIdx_append_of_length_le (by simp[Z5,f])];simp[Z5,f]
      · rw[e1] at u;omega
  · intro k;rw[hn];rfl
  rintro⟨⟨k,x,h,z⟩,A,U,V,W,X⟩;have A:z[k]?=some (h,dD x):=A;have b:k<(u6 z).length:=by
    have:=(MI.1 A).1;simpa[u6] using this
  have ad:(u6 z)[k]?=some (eY x++[.aZ h.v]):=by simp[u6,A,dD]
  (repeat (first|refine I7 hn ?_|refine P7 hn ?_|refine R7 hn ?_|refine P9 hn ?_|refine O6 hn ?_|refine N9 hn ?_|refine ax hn ?_));refine AN d9 (AN (by simpa using b) ?_);refine AN (by simpa using b) (fun d a=>?_);have a:(u6 z)[k]?=some d:=a;obtain rfl:d=eY x++[.aZ h.v]:=oI (a.symm.trans ad);refine AN rfl ?_;show M0 _ _ _ _ _;refine M0.hU (zO (Lt N c x.a7) (fun _ _ h=>GW h)) (kO rfl) rfl ?_;refine j6.cut (ι:={ q:Nat×Ln×Hd×List Ln // q.2.2.2=(bb (fun y=>decide (y.cls=c)) ⟨c,0⟩ x.a7).1/\(bb (fun y=>decide (y.cls=c)) ⟨c,0⟩ x.a7).2=q.1/\q.2.2.2[q.1]?=some q.2.1 })
    (fun q=>[(7,.aJ 102),(8,.int k),(9,.int q.1.1)]) (fun q=>[(102,.row 4 ((u6 z).set k (eY x++[.aZ q.1.2.2.1.v])) 162),(103,.pins 2 ((Z5 z).eraseIdx k) 167),(104,.row 2 (q.1.2.2.2.map V7) 167),(105,.eqv 104 q.1.2.2.1.v)]) ?_ ?_ ?_
  · (repeat (first|refine I7 hn ?_|refine P7 hn ?_|refine R7 hn ?_|refine P9 hn ?_|refine O6 hn ?_|refine N9 hn ?_|refine ax hn ?_));rcases vO (fun y:Ln=>decide (y.cls=c)) x.a7 with⟨j,y,e1,B,e3,O⟩|⟨e1,B⟩
    · refine jc (fun w=>?_) (fun u=>?_)
      · rw[e1] at w;omega
      · refine N9 hn ?_;have ex:bb (fun y:Ln=>decide (y.cls=c)) ⟨c,0⟩ x.a7=(x.a7,j):=by unfold bb;rw[O]
        refine⟨⟨(j,y,h,x.a7),by rw[ex],by rw[ex],B⟩,[],⟨⟨rfl,rfl,congrArg AV.int e1,trivial⟩,⟨?_,rfl,rfl,rfl,trivial⟩,rfl,rfl⟩⟩;refine congrArg (fun q=>some (Obj.row 4 q 162)) ?_;show u6 z=(u6 z).set k _;exact(xQ ad).symm
    · refine jc (fun w=>?_) (fun u=>?_)
      · (repeat (first|refine I7 hn ?_|refine P7 hn ?_|refine R7 hn ?_|refine P9 hn ?_|refine O6 hn ?_|refine N9 hn ?_|refine ax hn ?_));refine AN d9 (AN (by simpa using b) ?_);refine AN (by simpa using b) (fun d a=>?_);have a:(u6 z)[k]?=some d:=a;obtain rfl:d=eY x++[.aZ h.v]:=oI (a.symm.trans ad);refine AN rfl ?_;rintro _ rfl S;refine j6.snoc (vo hn C9 ?_);refine AN d9 (AN (by simpa using b) ?_);refine AN (by simpa using b) (fun d a=>?_);have a:(u6 z)[k]?=some d:=a;obtain rfl:d=eY x++[.aZ h.v]:=oI (a.symm.trans ad);refine AN rfl ?_;refine Exists.intro (MQ V7 [⟨c,0⟩]) (AN aT ?_);refine AN ?_ (Exists.intro (MQ V7 (x.a7++[⟨c,0⟩])) (AN (vF (Q9 _)) ?_))
        · show((x.a7.map V7).length+1)*16<=_;rw[Mb];exact X
        refine AN d9 (AN (by simpa using b) ?_);refine AN (by simpa using b) (AN ?_ ?_)
        · intro d a;have a:(u6 z)[k]?=some d:=a;obtain rfl:d=eY x++[.aZ h.v]:=oI (a.symm.trans ad);show 3<4;omega
        show Z9 E _ _ _;refine Z9.gh (Gh.bW 102 106 rfl rfl rfl (fun _=>rfl) rfl) (fun g=>?_);refine Z9.done ?_;have ex:bb (fun y:Ln=>decide (y.cls=c)) ⟨c,0⟩ x.a7=(x.a7++[⟨c,0⟩],x.a7.length):=by unfold bb;rw[B]
        refine⟨⟨(x.a7.length,⟨c,0⟩,g,x.a7++[⟨c,0⟩]),by rw[ex],by rw[ex],l9⟩,[(104,49),(105,106)],⟨⟨rfl,rfl,?_,trivial⟩,⟨?_,rfl,rfl,rfl,trivial⟩,rfl,rfl⟩⟩
        · exact congrArg AV.int l9
        · refine congrArg (fun q=>some (Obj.row 4 q 162)) ?_;show gx (u6 z) k 3 (.aZ g.v)=(u6 z).set k _;unfold gx;rw[ad];rfl
      · rw[e1] at u;omega
  · intro k;rw[hn];rfl
  rintro⟨⟨j,y,m,G⟩,Q,R,e⟩;have J:((u6 z).set k (eY x++[.aZ m.v]))[k]?=some (eY x++[.aZ m.v]):=by rw[Mc,N6 rfl,N6 b]
  have e:G[j]?=some y:=e;have C:j<G.length:=(MI.1 e).1;have D:(G.map V7)[j]?=some (V7 y):=by simp[e]
  (repeat (first|refine I7 hn ?_|refine P7 hn ?_|refine R7 hn ?_|refine P9 hn ?_|refine O6 hn ?_|refine N9 hn ?_|refine ax hn ?_));refine AN d9 (AN (by simpa using b) ?_);refine AN (by simpa using b) (fun d a=>?_);have a:((u6 z).set k (eY x++[.aZ m.v]))[k]?=some d:=a;obtain rfl:d=eY x++[.aZ m.v]:=oI (Eq.trans (Eq.symm a) J);refine AN rfl ?_;refine AN d9 (AN (by simpa using C) ?_);refine AN (by simpa using C) (fun H n=>?_);have n:(G.map V7)[j]?=some H:=n;obtain rfl:H=V7 y:=oI (Eq.trans (Eq.symm n) D);refine Or.inr ?_;refine AN d9 (AN (by simpa using C) ?_);have hzk:k<z.length:=(MI.1 A).1;have Z:G.set j ⟨y.cls,wr (y.found+1)⟩=fk c x.a7:=by
    have h1:G=(bb (fun y=>decide (y.cls=c)) ⟨c,0⟩ x.a7).1:=Q;have P:(bb (fun y=>decide (y.cls=c)) ⟨c,0⟩ x.a7).2=j:=R;unfold fk;simp only;rw[P,<-h1,x8 e]
  refine AN (by simpa using C) (fun I o=>?_);have o:(G.map V7)[j]?=some I:=o;obtain rfl:I=V7 y:=oI (Eq.trans (Eq.symm o) D);refine Exists.intro (MQ V7 (fk c x.a7)) (AN (by rw[<-Z];exact Cs e aT) ?_);have T:(Z5 (z.set k (m,eY x,(fk c x.a7).map V7))).Perm ((m,(fk c x.a7).map V7)::(Z5 z).eraseIdx k):=by
    rw[show Z5 (z.set k (m,eY x,(fk c x.a7).map V7))=(Z5 z).set k (m,(fk c x.a7).map V7) by simp[Z5,List.map_set]];exact set_perm (by simpa[Z5] using hzk)
  show j6 prog E _ _ _ _;refine j6.gh (Gh.mV (h:=m) (ls:=(fk c x.a7).map V7) (l':=Z5 (z.set k (m,eY x,(fk c x.a7).map V7))) 104 105 103 rfl rfl rfl T rfl rfl rfl) (fun _=>?_);have hz2:(z.set k (m,eY x,(fk c x.a7).map V7)).map (·.2)=(tJ s c l).map dD:=by
    have P:(bb (fun t=>decide (t.site=s)) ⟨s,[]⟩ l).2=k:=W;have h3:z.map (·.2)=(bb (fun t=>decide (t.site=s)) ⟨s,[]⟩ l).1.map dD:=U;have h4:(bb (fun t=>decide (t.site=s)) ⟨s,[]⟩ l).1[k]?=some x:=V;unfold tJ;simp only;rw[P,x8 h4,List.map_set,List.map_set,h3];rfl
  refine j6.gh (Gh.close 7 102 103 107 (z.set k (m,eY x,(fk c x.a7).map V7)) rfl rfl rfl (by show(u6 z).set k _=_;simp[u6,List.map_set]) rfl hz2 rfl rfl rfl rfl rfl) (fun _=>?_);show j6 prog E _ _ _ _;refine j6.flat 7 107 108 rfl rfl rfl rfl rfl ?_;rw[CS];(repeat (first|refine I7 hn ?_|refine P7 hn ?_|refine R7 hn ?_|refine P9 hn ?_|refine O6 hn ?_|refine N9 hn ?_|refine ax hn ?_));exact⟨[(0,108)],_,rfl,rfl,⟨rfl,trivial⟩,rfl,rfl,rfl,rfl,rfl⟩
def FT {N a0 a1 a2 b0 b1 r} (h:ov N a0 a1 a2 b0 b1=some r):Spec prog 128 [(1048,.box (eI b0) 153)] [.agg (bT a0),.int a1,.str a2,.ptr 1048 0,.fp (R4 b1)] (.aY [.int r.1,.int r.2.1]) [(1048,.box (eI r.2.2) 153)] []:=by
 refine so func128 ntmps128 fun e hn=>?_;unfold ov at h;refine B [3,3] fun _ a h=>?_;refine cA ((Gx a).sw 0 21) ?_;refine kd [1,3,5,10,11,12,13] [5,21,1048] ?_;refine B [3,3] fun _ b h=>?_;refine cA ((HS N _ _ _ _ b).sw 0 32) ?_;refine S [2,3] ?_;refine J e0 hn h nl (fun s=>[(1048,.box [E8 b0.world.a7,jO b0.world.heap,.int b0.world.aB,.int b0.fN.value.k,.int b0.fN.value.n,.int b0.fN.err,.int b0.fN.sends,.aJ 21,.aJ 32,.int s.1,.int s.2] 153)]) [3,11,12] [21,32] (fun _ h g=>?_) ?_
 ·exact K5 [4] [5,12] [5,12]
 rintro⟨c,d⟩ h;refine S [3] ?_;refine j6.ao 21 rfl ?_;refine j6.ao 32 rfl ?_;exact Sr [7]
def HA {N a0 a1 a2 a3 a4 r} (h:sC N a0 a1 a2 a3 a4=some r):Spec prog 100 [] [.agg (R4 a0),.agg (kV a1),.int a2,kl a3,ix a4] (.agg (eI r)) [] []:=by
 refine so func100 ntmps100 fun e hn=>?_;unfold sC at h;refine B [3,3] fun _ b h=>?_;refine cA ((ua b).sw 0 13) ?_;refine B [] fun _ c h=>?_;refine cA ((BM c).sw 0 15) ?_;refine j6.gh (Gh.bC 5 5 rfl rfl rfl) (fun _=>?_);refine j6.eA 11 [E8 ([]:List Cl),jO ([]:List Ob),.int (0:Int),.int (0:Int),.int (0:Int),.int (0:Int),.int (0:Int),.aJ 13,.aJ 15,.int (0:Int),.int (0:Int)] rfl aT ?_;refine j6.ao 13 rfl ?_;refine j6.ao 15 rfl ?_;refine kd [2,5,6,10,11] [6,10,11] ?_;refine B [3] fun _ d h=>?_;refine cA ((G3 d (fun _ _ _ _ _ a=>(FT a).sw 1048 1055) (fun _ _ _ a=>BR a)).sw 1055 11) ?_;exact Sr [3,7]
def Gv {N a0 a1 r} (h:sH N a0 a1=some r):Spec prog 209 [] [ix a0,.agg (bT a1)] (.aY [.int r.1,.int r.2]) [] []:=by
 refine so func209 ntmps209 fun E hn=>?_;unfold sH at h;refine S [3,3,2,3] ?_;refine O5 fun j=>?_;refine LR e0 hn ((-1:Int),(0:Int)) (fun l k v=>mw N a1 l k v.1 v.2) h (fun e v=>[(6,.int v.1),(7,.int v.2),(14,.int (e:Int))]) (fun e v=>[]) [3,12,13] [3] [] (fun s=>[(6,.int s.1),(7,.int s.2)]) nl [] [] ?_ ?_ ?_
 ·rintro _ g e ⟨u,w⟩ h _;rw[mw] at h;exact Sj [3,2,4,0,20]
 ·rintro _ g e ⟨u,w⟩ A f h _ b _;rw[mw] at h;refine S [3,2,4,0,1,2] ?_;refine J e0 hn h (fun s=>[(6,.int s.1),(7,.int s.2)]) nl [3,12,13,14] [3] (fun _ h g=>?_) ?_
  ·refine S [6,3] ?_;refine Y7 b ?_;refine Ij [2,3,4] [20] fun _ h=>?_;refine S [1,3] ?_;refine O5 fun d=>?_;refine LR e0 hn (u,w) (fun l k v=>mv N l k v.1 v.2) h (fun a v=>[(6,.int v.1),(7,.int v.2),(25,.int (a:Int))]) (fun a v=>[]) [3,12,13,14,23,24] [3] [] (fun s=>[(6,.int s.1),(7,.int s.2)]) nl [3,12,13,14] [3] ?_ ?_ ?_
   ·rintro _ g a ⟨o,p⟩ h _;rw[mv] at h;exact Sj [3,2,4,0,20]
   ·rintro _ g a ⟨o,p⟩ B i h _ c _;rw[mv] at h;refine S [3,2,4,0,1,2] ?_;refine J e0 hn h (fun s=>[(6,.int s.1),(7,.int s.2)]) nl [3,12,13,14,23,24,25] [3] (fun _ h g=>?_) ?_
    ·refine S [6,3] ?_;refine Y7 c ?_;refine S [2] ?_;refine Jb 48 hn h [3,6,7,11,12,13,14,23,24,25] [3,11] (fun _ h g=>?_) ?_
     ·refine Ij [5] [0] fun _ h=>?_;refine I [0] ?_ ?_<;>intro _ h
      ·exact K5 [0] [0] [0]
      exact Sj [0]
     intro z h;refine Jk e0 hn h (fun s=>[(6,.int s.1),(7,.int s.2)]) nl [3,12,13,14,23,24,25] [3] [] fun _ h g=>?_;exact K5 [4] [8] [1]
    rintro⟨q,t⟩ h;refine S [5] ?_;refine ML (AN (V8 c d) ?_);exact le (q,t) []
   rintro⟨x,y⟩ h;exact je
  rintro⟨m,n⟩ h;refine S [5] ?_;refine ML (AN (V8 b j) ?_);exact le (m,n) []
 rintro⟨C,D⟩ h;exact Sr [3,7]
def HN {N a0 a1 r} (h:sJ N a0 a1=some r):Spec prog 210 [] [ix a0,.agg (bT a1)] (.int r) [] []:=by
 refine so func210 ntmps210 fun w hn=>?_;unfold sJ at h;refine S [3,3,2,3] ?_;refine O5 fun j=>?_;refine LR e0 hn (0:Int) (fun l k v=>nK N a1 l k v) h (fun f v=>[(5,.int v),(12,.int (f:Int))]) (fun f v=>[]) [3,10,11] [3] [] (fun s=>[(5,.int s)]) nl [] [] ?_ ?_ ?_
 ·intro _ g f p h _;rw[nK] at h;exact Sj [3,2,4,0,20]
 ·intro _ g f p t m h _ b _;rw[nK] at h;refine S [3,2,4,0,1,2] ?_;refine J e0 hn h (fun s=>[(5,.int s)]) nl [3,10,11,12] [3] (fun _ h g=>?_) ?_
  ·refine S [6,3] ?_;refine Y7 b ?_;refine Ij [2,3,4] [20] fun _ h=>?_;refine S [1,3] ?_;refine O5 fun d=>?_;refine LR e0 hn p (fun l k v=>nJ N l k v) h (fun a v=>[(5,.int v),(23,.int (a:Int))]) (fun a v=>[]) [3,10,11,12,21,22] [3] [] (fun s=>[(5,.int s)]) nl [3,10,11,12] [3] ?_ ?_ ?_
   ·intro _ g a e h _;rw[nJ] at h;exact Sj [3,2,4,0,20]
   ·intro _ g a e o i h _ c _;rw[nJ] at h;refine S [3,2,4,0,1,2,6,3] ?_;refine Y7 c ?_;refine S [5,12,5] ?_;refine ML (AN (V8 c d) ?_);exact le (wr (e+o.found)) []
   intro q h;exact je
  intro n h;refine S [5] ?_;refine ML (AN (V8 b j) ?_);exact le n []
 intro u h;exact Sr [3,7]
def Ei {N a0 g1 r} (h:X6 N a0 g1=some r) {j:Nat} (e:∀c m,g1 c=some m->Spec prog j [] [.agg (bZ c)] (.bool m) [] []):Spec prog 232 [] [oW a0,.fn j []] (.int r) [] []:=by
 refine so func232 ntmps232 fun o hn=>?_;unfold X6 at h;refine S [3,2,3] ?_;refine O5 fun f=>?_;refine LR e1 hn () (fun l k v=>G6 N g1 l k) h (fun d v=>[(8,.int (d:Int))]) (fun d v=>[]) [0,1,7] [] [] nl nl [] [] ?_ ?_ ?_
 ·intro _ g d _ h _;rw[G6] at h;exact Sj [3,2,4,0,20]
 ·intro _ g d _ n i h _ b _;rw[G6] at h;refine S [3,2,4,0,1,2,6,3,3] ?_;refine Y7 b ?_;refine B [] fun _ a h=>?_;refine cA (e _ _ a) ?_;refine Ir [4] [3,7] fun _ h=>?_;refine S [1,5] ?_;refine ML (AN (V8 b f) ?_);exact le () []
 rintro⟨⟩ h;exact Sr [3,7]
def Em {N a0 g1 r} (h:U7 N a0 g1=some r) {d:Nat} (b:∀a e,g1 a=some e->Spec prog d [] [.agg (bZ a)] (.bool e) [] []):Spec prog 206 [] [oW a0,.fn d []] (.bool r) [] []:=by
 refine so func206 ntmps206 fun f hn=>?_;unfold U7 at h;refine B [3,3] fun _ c h=>?_;refine cA (Ei c b) ?_;exact Sr [7]
def GH {N a0 r} (h:ou N a0=some r):Spec prog 207 [] [.agg (bZ a0)] (.bool r) [] []:=by
 refine so func207 ntmps207 fun b hn=>?_;unfold ou at h;refine S [3,2] ?_;refine Jb 2 hn h [] [] (fun _ h g=>?_) ?_
 ·exact K5 [5] [0] [0]
 intro a h;exact Sr [7]
def Ag {N a0 r} (h:pA N a0=some r):Spec prog 175 [] [.agg (J2 a0)] (.bool r) [] []:=by
 refine so func175 ntmps175 fun d hn=>?_;unfold pA at h;refine S [3,2] ?_;refine Jb 2 hn h [] [] (fun _ h g=>?_) ?_
 ·refine I [5] ?_ ?_<;>intro _ h
  ·refine B [0] fun _ a h=>?_;refine cA (Em a (fun _ _ b=>GH b)) ?_;exact Sj [0]
  exact Sj [0]
 intro c h;exact Sr [7]
def GY {N a0 a1 a2 a3 a4 r} (h:ri N a0 a1 a2 a3 a4=some r):Spec prog 178 [] [.agg (R4 a0),ix a1,.agg (bT a2),.str a3,.int a4] (.int r) [] []:=by
 refine so func178 ntmps178 fun m hn=>?_;unfold ri at h;refine B [3,3] fun _ i h=>?_;refine cA (Gv i) ?_;refine B [2,3] fun _ j h=>?_;refine cA (HN j) ?_;refine S [2] ?_;refine Jb 36 hn h [3,4,5,11] [5] (fun _ h g=>?_) ?_
 ·refine kd [3,4,5,11,12,13] [5] ?_;refine Ij [5] [0] fun _ h=>?_;exact K5 [0] [0] [0,12,0]
 intro l h;refine Ir [4] [3,7] fun _ h=>?_;refine B [1,3] fun _ a h=>?_;refine cA (jW a) ?_;refine S [2,2] ?_;refine Jb 72 hn h [11] [] (fun _ h g=>?_) ?_
 ·refine Ij [5] [0] fun _ h=>?_;refine B [0] fun _ c h=>?_;refine G9 c ?_;refine B [0] fun _ d h=>?_;refine G9 d ?_;refine B [0] fun _ b h=>?_;refine cA (Ag b) ?_;refine Ij [0] [0] fun _ h=>?_;refine B [0] fun _ e h=>?_;refine G9 e ?_;refine B [0] fun _ f h=>?_;refine G9 f ?_;exact Sj [0]
 intro k h;exact k6 [4] [3,7] [1,3,7]
def FM {N a0 a1 a2 a3 r} (h:nI N a0 a1 a2 a3=some r):Spec prog 134 [] [.agg (R4 a0),ix a1,.int a2,.int a3] (.aJ 0) [(0,w3 r)] [0]:=by
 refine so func134 ntmps134 fun w hn=>?_;unfold nI at h;refine S [3,2,2] ?_;refine Jb 37 hn h [1,2,3,4] [4] (fun _ h g=>?_) ?_
 ·refine Ij [5] [0] fun _ h=>?_;refine Ij [0,13,0] [0] fun _ h=>?_;refine Ij [0] [0] fun _ h=>?_;refine B [0] fun _ o h=>?_;refine G9 o ?_;exact Sj [0,13,0]
 intro u h;refine I [4] ?_ ?_<;>intro _ h
 ·refine S [3] ?_;refine nR 8 208 1 3 ?_;exact Sr [7] [(0,208)]
 refine B [1,3] fun _ f h=>?_;refine G9 f ?_;refine B [] fun p i h=>?_;refine G9 i ?_;refine S [3,2,3] ?_;refine O5 fun d=>?_;refine nR 10 210 1 3 ?_;refine LR e0 hn ([]:List Int) (fun l k v=>mq N a0 a1 a2 p l k v) h (fun a v=>[(51,.int (a:Int))]) (fun a v=>[(210,w3 v)]) [1,2,4,9,10,49,50] [4] [] nl (fun s=>[(210,w3 s)]) [10] [] ?_ ?_ ?_
 ·intro _ g a j h _;rw[mq] at h;exact Sj [3,2,4,0,20]
 ·intro _ g a j t n h _ b _;rw[mq] at h;refine S [3,2,4,0,1,2,6,3] ?_;refine Y7 b ?_;refine S [3,2,3] ?_;refine J e0 hn h (fun s=>[(13,.int s)]) nl [1,2,4,9,10,49,50,51] [4,210] (fun _ h g=>?_) ?_
  ·refine I [4] ?_ ?_<;>intro _ h
   ·refine kd [1,2,4,9,10,11,12,49,50,51] [4,12,210] ?_;refine B [8] fun _ e h=>?_;refine cA (GY e) ?_;exact je
   exact Sj [1]
  intro m h;refine S [5] ?_;refine bS ei [m] ?_;refine A [] fun c h=>?_;refine aM c ?_;refine S [5] ?_;refine ML (AN (V8 b d) ?_);exact le (j++[m]) [(210,76)]
 intro q h;exact Sr [3,7] [(0,210)]
def Eu {N a0 a1 a2 r} (h:qt N a0 a1 a2=some r):Spec prog 174 [(1000,.box [.fp (R4 a0.w),.fp (J2 a0.m),.aJ 1001,.int a0.a8,.aJ 1002,.aJ 1003] 260),(1001,cQ a0.out),(1002,w3 a0.aH),(1003,w3 a0.fix)] [.ptr 1000 0,.int a1,.str a2] (Hp J2 r.1) [(1000,.box [.fp (R4 r.2.w),.fp (J2 r.2.m),.aJ 2,.int r.2.a8,.aJ 3,.aJ 4] 260),(2,cQ r.2.out),(1001,.aE),(3,w3 r.2.aH),(1002,.aE),(4,w3 r.2.fix),(1003,.aE)] [2,3,4]:=by
 refine so func174 ntmps174 fun d hn=>?_;unfold qt at h;refine rB 1000 2 1001 320 ?_;refine rB 1000 4 1002 321 ?_;refine rB 1000 5 1003 322 ?_;refine B [3,3] fun _ a h=>?_;refine cA (jW a) ?_;refine S [2] ?_;refine kd [0,7,8] [320,321,322,1000,1001,1002,1003] ?_;refine I [3,4] ?_ ?_<;>intro _ h
 ·exact Sr [3,7] [(2,320),(3,321),(4,322)]
 refine B [1,3] fun _ b h=>?_;refine G9 b ?_;refine B [] fun _ c h=>?_;refine G9 c ?_;exact Sr [7] [(2,320),(3,321),(4,322)]
def GQ {N a0 r} (h:pB N a0=some r):Spec prog 176 [] [.fp (J2 a0)] (.int r) [] []:=by
 refine so func176 ntmps176 fun a hn=>?_;unfold pB at h;refine S [3,2] ?_;refine kd [0] [] ?_;exact Sr [8,12,12,12,13,12,7]
def H8 {N a0 a1 a2 a3 a4 r} (h:G8 N a0 a1 a2 a3 a4=some r):Spec prog 208 [(1000,.box [.fp (R4 a0.w),.fp (J2 a0.m),.aJ 1001,.int a0.a8,.aJ 1002,.aJ 1003] 260),(1001,cQ a0.out),(1002,w3 a0.aH),(1003,w3 a0.fix)] [.ptr 1000 0,.int a1,.int a2,.int a3,.int a4] (.aY []) [(1000,.box [.fp (R4 r.w),.fp (J2 r.m),.aJ 2,.int r.a8,.aJ 3,.aJ 4] 260),(2,cQ r.out),(1001,.aE),(3,w3 r.aH),(1002,.aE),(4,w3 r.fix),(1003,.aE)] [2,3,4]:=by
 refine so func208 ntmps208 fun b hn=>?_;unfold G8 at h;refine rB 1000 2 1001 320 ?_;refine rB 1000 4 1002 321 ?_;refine rB 1000 5 1003 322 ?_;refine S [15,5] ?_;refine bS bZ [(⟨a1,a2,a3,a4,BY⟩:Ins)] ?_;refine A [] fun a h=>?_;refine aM a ?_;exact Sr [14] [(2,21),(3,321),(4,322)]
def Ff {N a0 a1 a2 a3 a4 r} (h:qz N a0 a1 a2 a3 a4=some r):Spec prog 177 [(1000,.box [.fp (R4 a0.w),.fp (J2 a0.m),.aJ 1001,.int a0.a8,.aJ 1002,.aJ 1003] 260),(1001,cQ a0.out),(1002,w3 a0.aH),(1003,w3 a0.fix)] [.ptr 1000 0,.int a1,.int a2,.agg (bZ a3),.fp (J2 a4)] (.aY []) [(1000,.box [.fp (R4 r.w),.fp (J2 r.m),.aJ 2,.int r.a8,.aJ 3,.aJ 4] 260),(2,cQ r.out),(1001,.aE),(3,w3 r.aH),(1002,.aE),(4,w3 r.fix),(1003,.aE)] [2,3,4]:=by
 refine so func177 ntmps177 fun Γ hn=>?_;unfold qz at h;refine rB 1000 2 1001 320 ?_;refine rB 1000 4 1002 321 ?_;refine rB 1000 5 1003 322 ?_;refine S [15,3,3,2] ?_;refine kd [0,1,2,4,8,10] [8,320,321,322,1000,1001,1002,1003] ?_;refine S [8,12,12,12] ?_;refine kd [0,1,2,4,8,10] [8,320,321,322,1000,1001,1002,1003] ?_;refine B [3] fun _ G h=>?_;refine cA ((H8 G).au [(1001,320),(1002,321),(1003,322),(2,501),(3,502),(4,503)] rfl) ?_;refine B [3] fun y H h=>?_;refine cA ((H8 H).au [(1001,501),(1002,502),(1003,503),(2,504),(3,505),(4,506)] rfl) ?_;refine S [2,3] ?_;refine LF e0 hn (y.w,y.m,y.out,y.a8,y.aH,y.fix,a4.args) (fun l v=>Z4 N a0 l v.1 v.2.1 v.2.2.1 v.2.2.2.1 v.2.2.2.2.1 v.2.2.2.2.2.1 v.2.2.2.2.2.2) h (fun v=>[(11,.int v.2.2.2.2.2.2)]) (fun v=>[(504,cQ v.2.2.1),(505,w3 v.2.2.2.2.1),(506,w3 v.2.2.2.2.2.1),(1000,.box [.fp (R4 v.1),.fp (J2 v.2.1),.aJ 504,.int v.2.2.2.1,.aJ 505,.aJ 506] 260)]) [0,4,10] [1001,1002,1003] [] nl (fun s=>[(504,cQ s.2.2.1),(505,w3 s.2.2.2.2.1),(506,w3 s.2.2.2.2.2),(1000,.box [.fp (R4 s.1),.fp (J2 s.2.1),.aJ 504,.int s.2.2.2.1,.aJ 505,.aJ 506] 260)]) [0,4,10] [1001,1002,1003] ?_ ?_
 ·rintro _ g ⟨v6,v7,v8,v9,v10,v11,K⟩ n29 h;rw[Z4] at h;refine I [2,3,4] ?_ ?_<;>intro _ h
  ·refine B [1,2,6,5,12] fun a A h=>?_;refine cA ((H8 A).au [(1001,504),(1002,505),(1003,506),(2,507),(3,508),(4,509)] rfl) ?_;refine S [5,12] ?_;exact le (a.w,a.m,a.out,a.a8,a.aH,a.fix,(wr (K-(1:Int)))) [(504,507),(505,508),(506,509)]
  exact Sj [20]
 rintro⟨L,M,O,P,Q,R⟩ h;refine S [2,3] ?_;refine j6.cP 61 rfl (fun x=>?_);refine LU e0 hn (L,M,O,P,Q,R) (fun l k v=>V5 N a0 a4 l k v.1 v.2.1 v.2.2.1 v.2.2.2.1 v.2.2.2.2.1 v.2.2.2.2.2) h (fun c v=>[(62,.int (c:Int))]) (fun c v=>[(504,cQ v.2.2.1),(505,w3 v.2.2.2.2.1),(506,w3 v.2.2.2.2.2),(1000,.box [.fp (R4 v.1),.fp (J2 v.2.1),.aJ 504,.int v.2.2.2.1,.aJ 505,.aJ 506] 260)]) [0,4,10,61] [1001,1002,1003] [] nl (fun s=>[(504,cQ s.2.2.1),(505,w3 s.2.2.2.2.1),(506,w3 s.2.2.2.2.2),(1000,.box [.fp (R4 s.1),.fp (J2 s.2.1),.aJ 504,.int s.2.2.2.1,.aJ 505,.aJ 506] 260)]) [0,4,10] [1001,1002,1003] ?_ ?_ ?_
 ·rintro _ g c ⟨T,U,V,W,X,Y⟩ h _;rw[V5] at h;exact Sj [3,2,4,0,20]
 ·rintro _ g c ⟨T,U,V,W,X,Y⟩ n55 h f _;rw[V5] at h;refine B [3,2,4,0,1,2,6,3,3] fun _ C h=>?_;refine cA ((H8 C).au [(1001,504),(1002,505),(1003,506),(2,510),(3,511),(4,512)] rfl) ?_;refine B [5,12,12,12] fun b D h=>?_;refine cA ((H8 D).au [(1001,510),(1002,511),(1003,512),(2,513),(3,514),(4,515)] rfl) ?_;refine kd [0,4,10,61,62] [513,514,515,1000,1001,1002,1003] ?_;refine S [5] ?_;refine ML (AN (kh f x) ?_);exact le (b.w,b.m,b.out,b.a8,b.aH,b.fix) [(504,513),(505,514),(506,515)]
 rintro⟨Z,v47,E,v49,v50,v51⟩ h;refine S [3,13,3] ?_;refine O5 fun z=>?_;refine LR e0 hn (Z,v47,E,v49,v50,v51) (fun l k v=>O7 N a0 a4 E l k v.1 v.2.1 v.2.2.1 v.2.2.2.1 v.2.2.2.2.1 v.2.2.2.2.2) h (fun d v=>[(89,.int (d:Int))]) (fun d v=>[(504,cQ v.2.2.1),(505,w3 v.2.2.2.2.1),(506,w3 v.2.2.2.2.2),(1000,.box [.fp (R4 v.1),.fp (J2 v.2.1),.aJ 504,.int v.2.2.2.1,.aJ 505,.aJ 506] 260)]) [0,4,10,13,87,88] [1001,1002,1003] [] nl (fun s=>[(504,cQ s.2.2.1),(505,w3 s.2.2.2.2.1),(506,w3 s.2.2.2.2.2),(1000,.box [.fp (R4 s.1),.fp (J2 s.2.1),.aJ 504,.int s.2.2.2.1,.aJ 505,.aJ 506] 260)]) [0] [1001,1002,1003] ?_ ?_ ?_
 ·rintro _ g d ⟨v66,v67,v68,v69,v70,v71⟩ h _;rw[O7] at h;exact Sj [3,2,4,0,20]
 ·rintro _ g d ⟨v66,v67,v68,v69,v70,v71⟩ x88 F h _ e _;rw[O7] at h;refine S [3,2,4,0,1,2] ?_;refine J e0 hn h nl (fun s=>[(516,cQ s.2.2.1),(517,w3 s.2.2.2.2.1),(518,w3 s.2.2.2.2.2),(1000,.box [.fp (R4 s.1),.fp (J2 s.2.1),.aJ 516,.int s.2.2.2.1,.aJ 517,.aJ 518] 260)]) [0,4,10,13,87,88,89] [1001,1002,1003] (fun _ h g=>?_) ?_
  ·refine S [6,3] ?_;refine Y7 e ?_;refine S [3] ?_;refine Jk e0 hn h nl (fun s=>[(516,cQ s.2.2.1),(517,w3 s.2.2.2.2.1),(518,w3 s.2.2.2.2.2),(1000,.box [.fp (R4 s.1),.fp (J2 s.2.1),.aJ 516,.int s.2.2.2.1,.aJ 517,.aJ 518] 260)]) [0,4,10,13,87,88,89] [1001,1002,1003] [] fun _ h g=>?_;refine S [6,3] ?_;refine Jk e0 hn h nl (fun s=>[(516,cQ s.2.2.1),(517,w3 s.2.2.2.2.1),(518,w3 s.2.2.2.2.2),(1000,.box [.fp (R4 s.1),.fp (J2 s.2.1),.aJ 516,.int s.2.2.2.1,.aJ 517,.aJ 518] 260)]) [0,4,10,13,87,88,89] [1001,1002,1003] [] fun _ h g=>?_;refine I [4] ?_ ?_<;>intro _ h
   ·refine B [5] fun _ i h=>?_;refine cA ((H8 i).au [(1001,504),(1002,505),(1003,506),(2,516),(3,517),(4,518)] rfl) ?_;exact je
   refine S [3] ?_;refine Jk e0 hn h nl (fun s=>[(519,cQ s.2.2.1),(520,w3 s.2.2.2.2.1),(521,w3 s.2.2.2.2.2),(1000,.box [.fp (R4 s.1),.fp (J2 s.2.1),.aJ 519,.int s.2.2.2.1,.aJ 520,.aJ 521] 260)]) [0,4,10,13,87,88,89] [1001,1002,1003] [(516,519),(517,520),(518,521)] fun _ h g=>?_;refine I [4] ?_ ?_<;>intro _ h
   ·refine kd [0,4,10,13,15,87,88,89] [15,504,505,506,1000,1001,1002,1003] ?_;refine B [5,12,12] fun _ j h=>?_;refine cA ((H8 j).au [(1001,504),(1002,505),(1003,506),(2,519),(3,520),(4,521)] rfl) ?_;exact je
   refine S [2] ?_;refine kd [0,4,10,13,15,87,88,89,94] [15,504,505,506,1000,1001,1002,1003] ?_;refine S [3] ?_;refine Jb 115 hn h [0,4,10,13,15,87,88,89,94] [15,504,505,506,1000,1001,1002,1003] (fun _ h g=>?_) ?_
   ·exact K5 [4] [1] [5]
   intro v125 h;refine Jk e0 hn h nl (fun s=>[(522,cQ s.2.2.1),(523,w3 s.2.2.2.2.1),(524,w3 s.2.2.2.2.2),(1000,.box [.fp (R4 s.1),.fp (J2 s.2.1),.aJ 522,.int s.2.2.2.1,.aJ 523,.aJ 524] 260)]) [0,4,10,13,87,88,89] [1001,1002,1003] [(519,522),(520,523),(521,524)] fun _ h g=>?_;refine I [4] ?_ ?_<;>intro _ h
   ·refine B [8,12,12,12] fun _ n h=>?_;refine cA ((H8 n).au [(1001,504),(1002,505),(1003,506),(2,522),(3,523),(4,524)] rfl) ?_;exact je
   refine S [3] ?_;refine Jk e0 hn h nl (fun s=>[(525,cQ s.2.2.1),(526,w3 s.2.2.2.2.1),(527,w3 s.2.2.2.2.2),(1000,.box [.fp (R4 s.1),.fp (J2 s.2.1),.aJ 525,.int s.2.2.2.1,.aJ 526,.aJ 527] 260)]) [0,4,10,13,87,88,89] [1001,1002,1003] [(522,525),(523,526),(524,527)] fun _ h g=>?_;refine I [4] ?_ ?_<;>intro _ h
   ·refine B [5] fun _ o h=>?_;refine cA ((H8 o).au [(1001,504),(1002,505),(1003,506),(2,525),(3,526),(4,527)] rfl) ?_;exact je
   refine S [3] ?_;refine Jk e0 hn h nl (fun s=>[(528,cQ s.2.2.1),(529,w3 s.2.2.2.2.1),(530,w3 s.2.2.2.2.2),(1000,.box [.fp (R4 s.1),.fp (J2 s.2.1),.aJ 528,.int s.2.2.2.1,.aJ 529,.aJ 530] 260)]) [0,4,10,13,87,88,89] [1001,1002,1003] [(525,528),(526,529),(527,530)] fun _ h g=>?_;refine I [4] ?_ ?_<;>intro _ h
   ·refine B [5] fun _ p h=>?_;refine cA ((H8 p).au [(1001,504),(1002,505),(1003,506),(2,528),(3,529),(4,530)] rfl) ?_;exact je
   refine S [2,3] ?_;refine Jb 146 hn h [0,4,10,13,15,87,88,89,94] [15,504,505,506,1000,1001,1002,1003] (fun _ h g=>?_) ?_
   ·exact K5 [4] [1] [5]
   intro v158 h;refine Jk e0 hn h nl (fun s=>[(531,cQ s.2.2.1),(532,w3 s.2.2.2.2.1),(533,w3 s.2.2.2.2.2),(1000,.box [.fp (R4 s.1),.fp (J2 s.2.1),.aJ 531,.int s.2.2.2.1,.aJ 532,.aJ 533] 260)]) [0,4,10,13,87,88,89] [1001,1002,1003] [(528,531),(529,532),(530,533)] fun _ h g=>?_;refine I [4] ?_ ?_<;>intro _ h
   ·refine B [5,12] fun _ q h=>?_;refine cA ((H8 q).au [(1001,504),(1002,505),(1003,506),(2,531),(3,532),(4,533)] rfl) ?_;exact je
   refine S [3] ?_;refine Jk e0 hn h nl (fun s=>[(534,cQ s.2.2.1),(535,w3 s.2.2.2.2.1),(536,w3 s.2.2.2.2.2),(1000,.box [.fp (R4 s.1),.fp (J2 s.2.1),.aJ 534,.int s.2.2.2.1,.aJ 535,.aJ 536] 260)]) [0,4,10,13,87,88,89] [1001,1002,1003] [(531,534),(532,535),(533,536)] fun _ h g=>?_;refine I [4] ?_ ?_<;>intro _ h
   ·refine B [5,13,12] fun _ t h=>?_;refine cA ((H8 t).au [(1001,504),(1002,505),(1003,506),(2,534),(3,535),(4,536)] rfl) ?_;exact je
   refine B [5] fun _ u h=>?_;refine cA ((H8 u).au [(1001,504),(1002,505),(1003,506),(2,537),(3,538),(4,539)] rfl) ?_;exact je [(534,537),(535,538),(536,539)]
  rintro⟨v91,v92,v93,v94,v95,v96⟩ h;refine S [5] ?_;refine ML (AN (V8 e z) ?_);exact le (v91,v92,v93,v94,v95,v96) [(504,516),(505,517),(506,518)]
 rintro⟨v78,v79,v80,v81,v82,v83⟩ h;exact Sr [14] [(2,504),(3,505),(4,506)]
def GJ {N a0 a1 a2 a3 r} (h:qq N a0 a1 a2 a3=some r):Spec prog 133 [] [.agg (R4 a0),.int a1,.int a2,s3 a3] (.aY [.agg (eb r.1),.bool r.2]) [] []:=by
 refine so func133 ntmps133 fun Γ hn=>?_;unfold qq at h;refine S [3,2,2] ?_;refine Jb 41 hn h [1,2,3,4,8] [4,8] (fun _ h g=>?_) ?_
 ·refine Ij [5] [0] fun _ h=>?_;refine Ij [0,13,0] [0] fun _ h=>?_;refine Ij [0] [0] fun _ h=>?_;refine B [0] fun _ hx8 h=>?_;refine G9 hx8 ?_;exact Sj [0,13,0]
 intro v1 h;refine Ir [4] [3,7] fun _ h=>?_;refine B [1,3] fun _ R h=>?_;refine G9 R ?_;refine B [] fun F T h=>?_;refine G9 T ?_;refine j6.gh (Gh.bC 4 4 rfl rfl rfl) (fun _=>?_);refine kd [1,3,4,8,10] [8] ?_;refine S [3,3,2,3] ?_;refine O5 fun L=>?_;refine nB 57 2 501 5 55 ?_;refine nB 57 4 502 1 3 ?_;refine nB 57 5 503 1 3 ?_;refine LR e0 hn (a0,F,([]:List Ins),F.a8,([]:List Int),([]:List Int),false) (fun l k v=>kA N a3 F l k v.1 v.2.1 v.2.2.1 v.2.2.2.1 v.2.2.2.2.1 v.2.2.2.2.2.1 v.2.2.2.2.2.2) h (fun o v=>[(12,.bool v.2.2.2.2.2.2),(63,.int (o:Int))]) (fun o v=>[(57,.box [.fp (R4 v.1),.fp (J2 v.2.1),.aJ 501,.int v.2.2.2.1,.aJ 502,.aJ 503] 260),(501,cQ v.2.2.1),(502,w3 v.2.2.2.2.1),(503,w3 v.2.2.2.2.2.1)]) [1,3,4,8,10,11,61,62] [8] [] (fun s=>[(12,.bool s.2.2.2.2.2.2)]) (fun s=>[(57,.box [.fp (R4 s.1),.fp (J2 s.2.1),.aJ 501,.int s.2.2.2.1,.aJ 502,.aJ 503] 260),(501,cQ s.2.2.1),(502,w3 s.2.2.2.2.1),(503,w3 s.2.2.2.2.2.1)]) [1,4,8,10,11] [8] ?_ ?_ ?_
 ·rintro _ g o ⟨v17,v18,E,v20,v21,v22,v23⟩ h _;rw[kA] at h;exact Sj [3,2,4,0,20]
 ·rintro _ g o ⟨v17,v18,E,v20,v21,v22,v23⟩ x42 rest39 h _ p _;rw[kA] at h;refine S [3,2,4,0,1,2] ?_;refine J e0 hn h (fun s=>[(12,.bool s.2.2.2.2.2.2)]) (fun s=>[(57,.box [.fp (R4 s.1),.fp (J2 s.2.1),.aJ 203,.int s.2.2.2.1,.aJ 505,.aJ 188] 260),(188,w3 s.2.2.2.2.2.1),(203,cQ s.2.2.1),(505,w3 s.2.2.2.2.1)]) [1,3,4,8,10,11,61,62,63] [8] (fun _ h g=>?_) ?_
  ·refine S [6,3] ?_;refine Y7 p ?_;refine S [2,8,13] ?_;refine bS ei [(E.length:Int)] ?_;refine A [] fun G h=>?_;refine aM G ?_;refine S [2,2] ?_;refine Jb 97 hn h [1,3,4,8,10,11,12,13,14,61,62,63] [8,14,57,79,501,503] (fun _ h g=>?_) ?_
   ·refine kd [1,3,4,8,10,11,12,13,14,61,62,63] [8,14,57,79,501,503] ?_;refine I [5] ?_ ?_<;>intro _ h
    ·refine I [0,13,0] ?_ ?_<;>intro _ h
     ·refine B [0] fun _ U h=>?_;refine G9 U ?_;exact Sj [0]
     exact Sj [0]
    exact Sj [0]
   intro v55 h;refine I [4] ?_ ?_<;>intro _ h
   ·refine B [2,8] fun _ V h=>?_;refine G9 V ?_;refine B [] fun r65 M h=>?_;refine cA ((Eu M).au [(1000,57),(1001,501),(1002,79),(1003,503),(2,504),(3,505),(4,506)] rfl) ?_;rcases r65 with⟨_|x68,d⟩
    ·refine S [2] ?_;refine kd [1,3,4,8,10,11,12,13,14,15,61,62,63] [8,14,57,504,505,506] ?_;refine S [8,4,1,2,2] ?_;refine Jb 176 hn h [1,3,4,8,10,11,12,13,14,61,62,63] [8,14,57,504,505,506] (fun _ h g=>?_) ?_
     ·refine kd [1,3,4,8,10,11,12,13,14,61,62,63] [8,14,57,504,505,506] ?_;exact K5 [5] [0] [0]
     intro v69 h;refine J e0 hn h nl (fun s=>[(57,.box [.fp (R4 d.w),.fp (J2 d.m),.aJ 504,.int d.a8,.aJ 505,.aJ 188] 260),(188,w3 s)]) [1,3,4,8,10,11,12,13,14,61,62,63] [8,14,504,505] (fun _ h g=>?_) ?_
     ·refine I [4] ?_ ?_<;>intro _ h
      ·refine S [8,13] ?_;refine bS ei [(d.out.length:Int)] ?_;refine A [] fun H h=>?_;refine aM H ?_;exact je
      exact Sj [1] [(188,506)]
     intro v72 h;refine S [2,3] ?_;refine J e0 hn h nl (fun s=>[(14,.box (bZ s) 55)]) [1,3,4,8,10,11,12,14,61,62,63] [8,57,188,504,505] (fun _ h g=>?_) ?_
     ·exact K5 [4] [5] [1]
     intro v77 h;refine S [8] ?_;refine bS bZ [v77] ?_;refine A [] fun K h=>?_;refine aM K ?_;exact je
    refine S [2] ?_;refine Jb 159 hn h [1,3,4,8,10,11,12,13,14,15,61,62,63] [8,14,57,504,505,506] (fun _ h g=>?_) ?_
    ·refine kd [1,3,4,8,10,11,12,13,14,15,61,62,63] [8,14,57,504,505,506] ?_;refine B [8] fun _ O h=>?_;refine cA (Ag O) ?_;refine I [] ?_ ?_<;>intro _ h
     ·refine I [0] ?_ ?_<;>intro _ h
      ·refine B [0,13,0] fun _ P h=>?_;refine cA (GQ P) ?_;exact K5 [0,12,0,13,0,12,0,12,0] [0,12,0,12,0,12,0] [0]
      exact Sj [0]
     exact Sj [0]
    intro v81 h;refine I [4] ?_ ?_<;>intro _ h
    ·refine B [2,8] fun _ W h=>?_;refine G9 W ?_;refine B [] fun _ Q h=>?_;refine cA ((Ff Q).au [(1000,57),(1001,504),(1002,505),(1003,506),(2,507),(3,508),(4,509)] rfl) ?_;refine kd [1,3,4,8,10,11,61,62,63] [8,57,507,508,509] ?_;exact Sj [3,20] [(203,507),(505,508),(188,509)]
    refine S [1,2,2] ?_;refine Jb 176 hn h [1,3,4,8,10,11,12,13,14,61,62,63] [8,14,57,504,505,506] (fun _ h g=>?_) ?_
    ·exact K5 [5] [0] [0]
    intro v97 h;refine J e0 hn h nl (fun s=>[(57,.box [.fp (R4 d.w),.fp (J2 d.m),.aJ 504,.int d.a8,.aJ 505,.aJ 188] 260),(188,w3 s)]) [1,3,4,8,10,11,12,13,14,61,62,63] [8,14,504,505] (fun _ h g=>?_) ?_
    ·refine I [4] ?_ ?_<;>intro _ h
     ·refine S [8,13] ?_;refine bS ei [(d.out.length:Int)] ?_;refine A [] fun u h=>?_;refine aM u ?_;exact je
     exact Sj [1] [(188,506)]
    intro v100 h;refine S [2,3] ?_;refine J e0 hn h nl (fun s=>[(14,.box (bZ s) 55)]) [1,3,4,8,10,11,12,14,61,62,63] [8,57,188,504,505] (fun _ h g=>?_) ?_
    ·exact K5 [4] [5] [1]
    intro Y h;refine S [8] ?_;refine bS bZ [Y] ?_;refine A [] fun x h=>?_;refine aM x ?_;exact je
   refine S [1,2,2] ?_;refine Jb 176 hn h [1,3,4,8,10,11,12,13,14,61,62,63] [8,14,57,79,501,503] (fun _ h g=>?_) ?_
   ·exact K5 [5] [0] [0]
   intro v109 h;refine J e0 hn h nl (fun s=>[(57,.box [.fp (R4 v17),.fp (J2 v18),.aJ 501,.int v20,.aJ 79,.aJ 188] 260),(188,w3 s)]) [1,3,4,8,10,11,12,13,14,61,62,63] [8,14,79,501] (fun _ h g=>?_) ?_
   ·refine I [4] ?_ ?_<;>intro _ h
    ·refine S [8,13] ?_;refine bS ei [(E.length:Int)] ?_;refine A [] fun y h=>?_;refine aM y ?_;exact je
    exact Sj [1] [(188,503)]
   intro v112 h;refine S [2,3] ?_;refine J e0 hn h nl (fun s=>[(14,.box (bZ s) 55)]) [1,3,4,8,10,11,12,14,61,62,63] [8,57,79,188,501] (fun _ h g=>?_) ?_
   ·exact K5 [4] [5] [1]
   intro Z h;refine S [8] ?_;refine bS bZ [Z] ?_;refine A [] fun z h=>?_;refine aM z ?_;exact je [(505,79)]
  rintro⟨v45,v46,v47,v48,v49,v50,v51⟩ h;refine S [5] ?_;refine ML (AN (V8 p L) ?_);exact le (v45,v46,v47,v48,v49,v50,v51) [(501,203),(502,505),(503,188)]
 rintro⟨v31,v32,v33,v34,v35,v36,v37⟩ h;refine Ir [2,3,4] [3,7] fun _ h=>?_;refine S [1,2,3] ?_;refine O5 fun C=>?_;refine LR e0 hn v33 (fun l k v=>k9 N v35 v36 l k v) h (fun e v=>[(215,.int (e:Int))]) (fun e v=>[(501,cQ v)]) [1,4,8,10,11,213,214] [8,57,502,503] [] nl (fun s=>[(501,cQ s)]) [1,4,8,10,11] [8,57,502,503] ?_ ?_ ?_
 ·intro _ g e q h _;rw[k9] at h;exact Sj [3,2,4,0,20]
 ·intro _ g e q x131 X h _ D _;rw[k9] at h;refine B [3,2,4,0,1,2,6,3] fun x134 f h=>?_;refine U0 f ?_;refine J4 (l6 f).2 ?_;refine kd [1,4,8,10,11,17,213,214,215] [8,57,501,502,503] ?_;refine B [8] fun _ i h=>?_;refine U0 i ?_;refine J4 (l6 i).2 ?_;refine B [] fun t j h=>?_;refine U0 j ?_;refine J4 (l6 j).2 ?_;refine B [] fun a n h=>?_;refine U0 n ?_;refine sM (l6 n).2 (⟨a.op,t,a.b,a.c,a.name⟩:Ins) ?_;refine kd [1,4,8,10,11,213,214,215] [8,57,501,502,503] ?_;refine S [5] ?_;refine ML (AN (V8 D C) ?_);exact le (q.set x134.toNat (⟨a.op,t,a.b,a.c,a.name⟩:Ins)) []
 intro v126 h;refine S [2] ?_;refine kd [1,4,8,10,11] [8,57,501,502,503] ?_;refine S [8] ?_;refine j6.ao 501 rfl ?_;exact Sr [7]
def Ha {N a0 a1 r} (h:sT N a0 a1=some r):Spec prog 102 [] [.agg (R4 a0),ix a1] (.aJ 0) [(0,oC r)] [0]:=by
 refine so func102 ntmps102 fun C hn=>?_;unfold sT at h;refine S [3,3,2,3] ?_;refine O5 fun n=>?_;refine nR 5 205 5 213 ?_;refine LR e0 hn ([]:List Fs) (fun l k v=>lV N a0 a1 l k v) h (fun j v=>[(13,.int (j:Int))]) (fun j v=>[(205,oC v)]) [1,2,5,12] [2] [] nl (fun s=>[(205,oC s)]) [5] [] ?_ ?_ ?_
 ·intro _ g j w h _;rw[lV] at h;exact Sj [3,2,4,0,20]
 ·intro _ g j w x p h _ b _;rw[lV] at h;refine S [3,2,4,0,1,2,6,3,3] ?_;refine Y7 b ?_;refine O5 fun d=>?_;refine LR e0 hn w (fun l k v=>lT N a0 a1 j l k v) h (fun a v=>[(23,.int (a:Int))]) (fun a v=>[(205,oC v)]) [1,2,5,6,12,13,22] [2] [] nl (fun s=>[(205,oC s)]) [1,2,5,12,13] [2] ?_ ?_ ?_
  ·intro _ g a q h _;rw[lT] at h;exact Sj [3,2,4,0,20]
  ·intro _ g a q y m h _ i _;rw[lT] at h;refine S [3,2,4,0,1,2] ?_;refine J e0 hn h (fun s=>[(5,.aJ 42)]) (fun s=>[(42,oC s)]) [1,2,6,12,13,22,23] [2] (fun _ h g=>?_) ?_
   ·refine B [6,3,2,8] fun _ e h=>?_;refine cA ((FM e).sw 0 34) ?_;refine B [] fun o f h=>?_;refine cF (GJ f) ?_;refine kd [1,2,5,6,8,9,12,13,22,23] [2,8,205] ?_;refine S [3] ?_;refine Jk e0 hn h (fun s=>[(5,.aJ 42)]) (fun s=>[(42,oC s)]) [1,2,6,12,13,22,23] [2] [] fun _ h g=>?_;refine I [4] ?_ ?_<;>intro _ h
    ·refine S [5] ?_;refine bS eb [o.1] ?_;refine A [] fun c h=>?_;refine aM c ?_;exact je
    exact Sj [1] [(42,205)]
   intro u h;refine S [5] ?_;refine ML (AN (V8 i d) ?_);exact le u [(205,42)]
  intro t h;refine S [5] ?_;refine ML (AN (V8 b n) ?_);exact le t []
 intro z h;exact Sr [3,7] [(0,205)]
def K7 {N a0 a1 r} (h:F4 N a0 a1=some r) {d:Nat} {a:List AV} {e:Nat} {b:List AV} {c:List AV}:Spec prog 165 [(1000,mB a0 (.fn d [.fp a]) (.fn e [.fp b,.fp c]) 1001 1003)] [.ptr 1000 0,.int a1] (.aY []) [(1000,mB r (.fn d [.fp a]) (.fn e [.fp b,.fp c]) 1001 1003)] []:=by
 refine so func165 ntmps165 fun i hn=>?_;unfold F4 at h;refine S [15,3] ?_;refine J e0 hn h nl (fun s=>[(1000,.box [.ptr 1001 0,.fn d [.fp a],.fn e [.fp b,.fp c],.int a0.fuel,.int a0.sends,.int a0.turns,.aJ 1003,.int a0.back.k,.int a0.back.n,.int s] 251)]) [0] [] (fun _ h g=>?_) ?_
 ·exact K5 [4] [5] [1]
 intro f h;exact Sr [14]
def vx {N a0 a1 r} (h:M9 N a0 a1=some r) {f:Nat} {a:List AV} {i:Nat} {b:List AV} {c:List AV}:Spec prog 195 [(1000,mB a0 (.fn f [.fp a]) (.fn i [.fp b,.fp c]) 1001 1003),(1003,p9 a0.aF [] 1005)] [.ptr 1000 0,.bool a1] (.bool r.1) [(1000,mB r.2 (.fn f [.fp a]) (.fn i [.fp b,.fp c]) 1001 1003),(1003,p9 a0.aF [] 1005)] []:=by
 refine so func195 ntmps195 fun q hn=>?_;unfold M9 at h;refine S [3,2] ?_;refine J e1 hn h nl (fun s=>[(1000,.box [.ptr 1001 0,.fn f [.fp a],.fn i [.fp b,.fp c],.int s.1,.int s.2.1,.int s.2.2.1,.aJ 1003,.int s.2.2.2.1,.int s.2.2.2.2.1,.int s.2.2.2.2.2] 251)]) [0] [1003] (fun _ h g=>?_) ?_
 ·refine S [6,2,8] ?_;refine Jk e1 hn h nl (fun s=>[(1000,.box [.ptr 1001 0,.fn f [.fp a],.fn i [.fp b,.fp c],.int s.1,.int s.2.1,.int s.2.2.1,.aJ 1003,.int s.2.2.2.1,.int s.2.2.2.2.1,.int s.2.2.2.2.2] 251)]) [0] [1003] [] fun _ h g=>?_;refine I [4] ?_ ?_<;>intro _ h
  ·refine B [5] fun _ d h=>?_;refine cA (K7 d) ?_;exact je
  refine S [2] ?_;refine Jb 24 hn h [0] [1000,1003] (fun _ h g=>?_) ?_
  ·exact K5 [5] [0,13,0] [0]
  intro j h;refine I [4] ?_ ?_<;>intro _ h
  ·refine B [5] fun _ e h=>?_;refine cA (K7 e) ?_;exact je
  exact Sr [3,12,3,7]
 rintro⟨k,l,m,n,o,p⟩ h;exact Sr [3,7]
def zk {N a0 a1 r} (h:Q6 N a0 a1=some r) {i:Nat} {c:List AV} {j:Nat} {d:List AV} {e:List AV}:Spec prog 197 [(1000,mB a0 (.fn i [.fp c]) (.fn j [.fp d,.fp e]) 1001 1003),(1003,p9 a0.aF [] 1005)] [.ptr 1000 0,.agg (eV a1)] (.aY []) [(1000,mB r (.fn i [.fp c]) (.fn j [.fp d,.fp e]) 1001 1003),(1003,p9 r.aF [] 5),(5,.aE)] [5]:=by
 refine so func197 ntmps197 fun k hn=>?_;unfold Q6 at h;refine I [15,3,2,3,13,4] ?_ ?_<;>intro _ h
 ·refine S [3] ?_;refine gC (gS 1003 501) ?_;exact Sr [7] [(5,501)]
 refine B [1,2,8,13,12] fun b a h=>?_;refine iD a ?_;refine gC (gD 1003 502 503 ((wr ((a0.aF.length:Int)-(1:Int))).toNat) 8 (l6 a).2) ?_;refine kd [0,3,4] [3,502,503,1000,1003] ?_;refine S [8] ?_;refine hD (l6 a).2 ?_;refine bS eV [a1] ?_;refine A [] fun f h=>?_;refine aM f ?_;refine hS (l6 a).2 ?_;refine gE (gA 1003 33 504 ((wr ((a0.aF.length:Int)-(1:Int))).toNat) 8 ((l6 a).2) (⟨b.aI,b.aK,b.aV,b.code,b.aQ,b.args,b.a8,(b.aA++[a1]),b.aH⟩:j3)) ?_;exact Sr [14] [(5,504)]
def zj {N a0 gq a1 a2 a3 a4 r} (h:N7 N a0 gq a1 a2 a3 a4=some r) {M:Nat} {c:List AV} {z:Nat} {a:List AV} {b:List AV} (C:∀v y L,gq v y=some L->Spec prog z [] [.int v,.int y,.fp a,.fp b] (.aY [.agg (eb L.1),.bool L.2]) [] []):Spec prog 166 [(1000,mB a0 (.fn M [.fp c]) (.fn z [.fp a,.fp b]) 1001 1003),(1001,.box [E8 a0.w.a7,.aJ 1002,.int a0.w.aB] 40),(1003,p9 a0.aF [] 1005)] [.ptr 1000 0,.int a1,.int a2,.agg (eV a3),zC a4] (.aY []) [(1000,mB r (.fn M [.fp c]) (.fn z [.fp a,.fp b]) 1001 4),(1001,.box [E8 a0.w.a7,.aJ 1002,.int a0.w.aB] 40),(4,p9 r.aF [] 5),(5,.aE),(1003,.aE)] [5,4]:=by
 refine so func166 ntmps166 fun O hn=>?_;unfold N7 at h;refine B [15,3,3] fun _ E h=>?_;refine G9 E ?_;refine B [] fun _ F h=>?_;refine G9 F ?_;refine S [2] ?_;refine kd [0,1,2,4,8,10] [8,1000,1001,1003] ?_;refine I [3,13,4] ?_ ?_<;>intro _ h
 ·refine B [3] fun _ D h=>?_;refine cA (K7 D) ?_;refine gC (gR 1000 6 1003 501 502) ?_;exact Sr [7] [(4,501),(5,502)]
 refine I [1,2,3,4] ?_ ?_<;>intro _ h
 ·refine S [2] ?_;refine kd [0,4,8,10] [8,1000,1001,1003] ?_;refine B [3] fun _ i h=>?_;refine cA (vx i) ?_;refine I [4] ?_ ?_<;>intro _ h
  ·refine gC (gR 1000 6 1003 503 504) ?_;exact Sr [7] [(4,503),(5,504)]
  refine B [1,2,8] fun _ t h=>?_;refine G9 t ?_;refine B [] fun _ j h=>?_;refine cA (wS j) ?_;refine S [2] ?_;refine kd [0,11,12] [11,1000,1001,1003] ?_;refine I [3,4] ?_ ?_<;>intro _ h
  ·refine B [3] fun _ l h=>?_;refine cA (K7 l) ?_;refine gC (gR 1000 6 1003 505 506) ?_;exact Sr [7] [(4,505),(5,506)]
  refine B [1,3] fun _ m h=>?_;refine cA ((zk m).sw 5 507) ?_;refine gC (gR 1000 6 1003 508 509) ?_;exact Sr [7] [(4,508),(5,509)]
 refine S [1,2] ?_;refine kd [0,1,2,4,8,10] [8,1000,1001,1003] ?_;refine B [3] fun _ o h=>?_;refine cA (vx o) ?_;refine I [4] ?_ ?_<;>intro _ h
 ·refine gC (gR 1000 6 1003 510 511) ?_;exact Sr [7] [(4,510),(5,511)]
 refine S [1,2] ?_;refine kd [0,1,2,4,8,10] [8,1000,1001,1003] ?_;refine B [8] fun G p h=>?_;refine cA ((mj N _ _ p).sw 0 77) ?_;refine A [] fun d h=>?_;refine mS (enc:=eV) (x:=(⟨(0:Int),(0:Int)⟩:V)) d aT ?_;refine S [2] ?_;refine kd [0,1,2,13] [13,77,82,1000,1001,1003] ?_;refine B [3] fun _ q h=>?_;refine cA (C _ _ _ q) ?_;refine S [3] ?_;refine J e0 hn h nl (fun s=>[(13,.box [.int a1,.int a2,.bool s.1,oW s.2.1,.int a3.k,.int a3.n,.aJ 77,.aJ 99,.aL,.int (0:Int)] 288),(99,ia s.2.2)]) [0,13] [77,1000,1001,1003] (fun _ h g=>?_) ?_
 ·refine I [4] ?_ ?_<;>intro _ h
  ·refine kd [0,13,14] [13,14,77,82,1000,1001,1003] ?_;refine A [8] fun e h=>?_;refine mS (enc:=eV) (x:=(⟨(0:Int),(0:Int)⟩:V)) e aT ?_;exact je
  exact Sj [1] [(99,82)]
 rintro⟨H,K,u⟩ h;refine j6.ao 77 rfl ?_;refine kd [0,13] [13,99,1000,1001,1003] ?_;refine S [8,11] ?_;refine Exists.intro [(7,(2,29)),(8,(2,29))] (Exists.intro (vU (⟨a1,a2,H,K,a3,G,u,[],(0:Int)⟩:j3)) (Exists.intro [(99,ia u)] (AN rfl (AN rfl (AN rfl (AN G7 (AN G7 (AN rfl (AN rfl ?_)))))))));refine A [] fun f h=>?_;refine aD f ?_;exact Sr [14] [(4,110),(5,810)]
def Er {N a0 gl gq a1 a2 a3 r} (h:ml N a0 gl gq a1 a2 a3=some r) {x:Nat} {c:List AV} (C:∀f j v k,gl f j v=some k->Spec prog x [] [.agg (bT f),.int j,.str v,.fp c] (.aY [.int k.1,.int k.2]) [] []) {y:Nat} {d:List AV} {e:List AV} (D:∀f j k,gq f j=some k->Spec prog y [] [.int f,.int j,.fp d,.fp e] (.aY [.agg (eb k.1),.bool k.2]) [] []):Spec prog 198 [(1000,mB a0 (.fn x [.fp c]) (.fn y [.fp d,.fp e]) 1001 1003),(1001,.box [E8 a0.w.a7,.aJ 1002,.int a0.w.aB] 40),(1002,E9 a0.w.heap [] 1004),(1003,p9 a0.aF [] 1005)] [.ptr 1000 0,.ep 1003 a1 10 0,.agg (bZ a2),.int a3] (.aY []) [(1000,mB r (.fn x [.fp c]) (.fn y [.fp d,.fp e]) 1001 4),(1001,.box [E8 a0.w.a7,.aJ 1002,.int a0.w.aB] 40),(1002,E9 a0.w.heap [] 1004),(4,p9 r.aF [] 5),(5,.aE),(1003,.aE)] [5,4]:=by
 refine so func198 ntmps198 fun H hn=>?_;unfold ml at h;refine B [15,3,2] fun i b h=>?_;refine gC (gD 1003 501 502 a1 8 b) ?_;refine kd [0,1,3,6] [6,501,502,1000,1001,1002,1003] ?_;refine S [8] ?_;refine hD b ?_;refine S [13,12,2] ?_;refine kd [0,1,3,6,8] [6,501,502,1000,1001,1002,1003] ?_;refine S [8] ?_;refine hD b ?_;refine A [] fun z h=>?_;refine d59 z rfl rfl ?_;refine B [] fun _ E h=>?_;refine qE ((Spec.drop1 (mj N _ _ E)).sw 0 28) ⟨d66 _,trivial⟩ ?_;refine hD b ?_;refine B [12] fun _ u h=>?_;refine U0 u ?_;refine J4 (l6 u).2 ?_;refine S [2] ?_;refine gC (gB 1003 501 503 a1 8 b) ?_;refine kd [0,1,3,6,8,9,10] [6,10,28,503,1000,1001,1002,1003] ?_;refine S [8] ?_;refine J4 b ?_;refine J4 b ?_;refine B [] fun _ q h=>?_;refine G9 q ?_;refine J4 b ?_;refine B [] fun F t h=>?_;refine G9 t ?_;refine S [2] ?_;refine kd [0,1,6,8,9,10,11] [6,10,11,28,503,1000,1001,1002,1003] ?_;refine S [3] ?_;refine J4 b ?_;refine J e0 hn h nl (fun s=>[(11,.box [.int i.aI,.str F.name,.int s] 156)]) [0,1,6,8,9,10,11] [6,10,28,503,1000,1001,1002,1003] (fun _ h g=>?_) ?_
 ·exact K5 [4] [5] [1]
 intro G h;refine S [2] ?_;refine kd [0,1,6,8,9,10,11] [6,10,11,28,503,1000,1001,1002,1003] ?_;refine B [8] fun _ m h=>?_;refine cD (kG m) ?_;refine B [] fun _ n h=>?_;refine cA (C _ _ _ _ n) ?_;refine S [2] ?_;refine kd [0,1,8,9,10,12,13] [10,28,503,1000,1001,1002,1003] ?_;refine I [3,4] ?_ ?_<;>intro _ h
 ·refine B [3] fun _ o h=>?_;refine cA (K7 o) ?_;refine gC (gR 1000 6 1003 504 505) ?_;exact Sr [7] [(4,504),(5,505)]
 refine S [1] ?_;refine gC (gD 1003 506 507 a1 8 b) ?_;refine kd [0,1,8,9,10,12,13] [10,28,506,507,1000,1001,1002,1003] ?_;refine S [3] ?_;refine hD b ?_;refine A [12] fun l h=>?_;refine jB l rfl rfl ?_;refine hS b ?_;refine gC (gA 1003 102 508 a1 8 b (⟨i.aI,i.aK,i.aV,i.code,i.aQ,i.args,i.a8,(i.aA.take (wr ((wr ((i.aA.length:Int)-a2.a))-(1:Int))).toNat),i.aH⟩:j3)) ?_;refine kd [0,1,9,10,12,13] [10,28,508,1000,1001,1002,1003] ?_;refine B [5] fun _ p h=>?_;refine cF ((((zj p D).sw 1005 508).sw 5 509).sw 4 510) ?_;exact Sr [14] [(4,510),(5,509)]
def zn {N a0 a1 a2 r} (h:Q0 N a0 a1 a2=some r) {i:Nat} {a:List AV} {j:Nat} {b:List AV} {c:List AV}:Spec prog 199 [(1000,mB a0 (.fn i [.fp a]) (.fn j [.fp b,.fp c]) 1001 1003),(1003,p9 a0.aF [] 1005)] [.ptr 1000 0,.ep 1003 a1 10 0,.int a2] (.aY []) [(1000,mB r (.fn i [.fp a]) (.fn j [.fp b,.fp c]) 1001 1003),(1003,p9 r.aF [] 5),(5,.aE)] [5]:=by
 refine so func199 ntmps199 fun q hn=>?_;unfold Q0 at h;refine B [15,2,3] fun d f h=>?_;refine J4 f ?_;refine J e0 hn h nl (fun s=>[(1000,.box [.ptr 1001 0,.fn i [.fp a],.fn j [.fp b,.fp c],.int s.1,.int s.2.1,.int s.2.2.1,.aJ 1003,.int s.2.2.2.1,.int s.2.2.2.2.1,.int s.2.2.2.2.2] 251)]) [0,1,2] [1003] (fun _ h g=>?_) ?_
 ·refine I [4] ?_ ?_<;>intro _ h
  ·refine S [3,12,3] ?_;refine Jk e0 hn h nl (fun s=>[(1000,.box [.ptr 1001 0,.fn i [.fp a],.fn j [.fp b,.fp c],.int s.1,.int s.2.1,.int s.2.2.1,.aJ 1003,.int s.2.2.2.1,.int s.2.2.2.2.1,.int s.2.2.2.2.2] 251)]) [0,1,2] [1003] [] fun _ h g=>?_;refine I [4] ?_ ?_<;>intro _ h
   ·refine kd [0,1,2] [1000,1003] ?_;refine B [5] fun _ e h=>?_;refine cA (K7 e) ?_;exact je
   exact Sj [1]
  exact Sj [1]
 rintro⟨k,l,m,n,o,p⟩ h;refine S [5] ?_;refine sD f (⟨d.aI,d.aK,d.aV,d.code,d.aQ,d.args,d.a8,d.aA,a2⟩:j3) ?_;refine gE (gS 1003 501) ?_;exact Sr [14] [(5,501)]
def F1 {N a0 a1 a2 r} (h:V9 N a0 a1 a2=some r) {o:Nat} {e:List AV} {p:Nat} {f:List AV} {i:List AV}:Spec prog 201 [(1000,mB a0 (.fn o [.fp e]) (.fn p [.fp f,.fp i]) 1001 1003),(1001,.box [E8 a0.w.a7,.aJ 1002,.int a0.w.aB] 40),(1002,E9 a0.w.heap [] 1004),(1003,p9 a0.aF [] 1005)] [.ptr 1000 0,.ep 1003 a1 10 0,.agg (bZ a2)] (.aY []) [(1000,mB r (.fn o [.fp e]) (.fn p [.fp f,.fp i]) 1001 1003),(1001,.box [E8 a0.w.a7,.aJ 1002,.int a0.w.aB] 40),(1002,E9 a0.w.heap [] 1004),(1003,p9 r.aF [] 5),(5,.aE)] [5]:=by
 refine so func201 ntmps201 fun q hn=>?_;unfold V9 at h;refine B [15,3,2,2] fun b a h=>?_;refine gC (gD 1003 501 502 a1 8 a) ?_;refine kd [0,1,5] [5,501,502,1000,1001,1002,1003] ?_;refine S [8] ?_;refine hD a ?_;refine hD a ?_;refine B [13,12,12] fun _ m h=>?_;refine U0 m ?_;refine J4 (l6 m).2 ?_;refine B [] fun _ n h=>?_;refine cD (kG n) ?_;refine I [4] ?_ ?_<;>intro _ h
 ·refine gC (gB 1003 501 503 a1 8 a) ?_;exact Sr [7] [(5,503)]
 refine S [1,2] ?_;refine gC (gB 1003 501 504 a1 8 a) ?_;refine kd [0,1,5] [5,504,1000,1001,1002,1003] ?_;refine S [8] ?_;refine J4 a ?_;refine B [] fun _ k h=>?_;refine G9 k ?_;refine J4 a ?_;refine B [] fun d l h=>?_;refine G9 l ?_;refine gC (gD 1003 505 506 a1 7 a) ?_;refine kd [0,1,5,6] [5,505,506,1000,1001,1002,1003] ?_;refine S [8] ?_;refine hD a ?_;refine A [] fun j h=>?_;refine jB j rfl rfl ?_;refine sD a (⟨b.aI,b.aK,false,b.code,b.aQ,b.args,b.a8,b.aA,b.aH⟩:j3) ?_;refine sD (setAt a) (⟨b.aI,b.aK,false,d.code,b.aQ,b.args,b.a8,b.aA,b.aH⟩:j3) ?_;refine hS (setAt (setAt a)) ?_;refine sD (setAt (setAt a)) (⟨b.aI,b.aK,false,d.code,b.aQ,b.args,b.a8,b.aA,a2.c⟩:j3) ?_;refine gE (gA 1003 68 507 a1 7 (setAt (setAt (setAt a))) (⟨b.aI,b.aK,false,d.code,b.aQ,b.args,(b.a8.take d.a8.toNat),b.aA,a2.c⟩:j3)) ?_;exact Sr [14] [(5,507)]
def zq {N a0 a1 a2 a3 r} (h:Z8 N a0 a1 a2 a3=some r) {l:Nat} {c:List AV} {m:Nat} {d:List AV} {e:List AV}:Spec prog 229 [(1000,mB a0 (.fn l [.fp c]) (.fn m [.fp d,.fp e]) 1001 1003),(1001,.box [E8 a0.w.a7,.aJ 1002,.int a0.w.aB] 40),(1002,E9 a0.w.heap [] 1004)] [.ptr 1000 0,.agg (eV a1),.int a2,.agg (eV a3)] (.aY []) [(1000,mB r (.fn l [.fp c]) (.fn m [.fp d,.fp e]) 1001 1003),(1001,.box [E8 a0.w.a7,.aJ 1002,.int a0.w.aB] 40),(1002,E9 r.w.heap [] 3),(3,.aE)] [3]:=by
 refine so func229 ntmps229 fun t hn=>?_;unfold Z8 at h;refine S [15,3,2] ?_;refine J e0 hn h (fun s=>[(40,.bool s)]) (fun s=>[(501,.aE),(1002,E9 a0.w.heap [] 501)]) [0,2,5,7] [5,7,1000,1001] (fun _ h g=>?_) ?_
 ·rcases qV h with⟨b,h⟩|⟨q,b,h⟩
  ·refine kd [0,2,5,7] [5,7,1000,1001,1002] ?_;refine I [8] ?_ ?_<;>intro _ h
   ·refine I [0,13,0] ?_ ?_<;>intro _ h
    ·cases h
    refine S [0] ?_;refine gE (gS 1002 501) ?_;exact je
   refine S [0] ?_;refine gE (gS 1002 502) ?_;exact je [(501,502)]
  refine gC (gD 1002 503 504 a1.n.toNat 1 b) ?_;refine kd [0,2,5,7] [5,7,503,504,1000,1001,1002] ?_;refine I [8] ?_ ?_<;>intro _ h
  ·refine I [0,13,0] ?_ ?_<;>intro _ h
   ·refine B [0] fun _ i h=>?_;refine iD i ?_;refine S [0] ?_;refine hD b ?_;refine S [0,13,0] ?_;refine gE (gB 1002 503 505 a1.n.toNat 1 b) ?_;exact je [(501,505)]
   refine S [0] ?_;refine gE (gB 1002 503 506 a1.n.toNat 1 b) ?_;exact je [(501,506)]
  refine S [0] ?_;refine gE (gB 1002 503 507 a1.n.toNat 1 b) ?_;exact je [(501,507)]
 intro p h;refine J e0 hn h nl (fun s=>[(508,.aE),(1002,E9 s [] 508)]) [0] [1000,1001] (fun _ h g=>?_) ?_
 ·refine I [4] ?_ ?_<;>intro _ h
  ·rcases qV h with⟨a,h⟩|⟨k,a,h⟩
   ·cases h
   refine gC (gD 1002 508 509 a1.n.toNat 1 a) ?_;refine kd [0,2,5,7] [5,7,508,509,1000,1001,1002] ?_;refine B [8] fun _ j h=>?_;refine iD j ?_;refine hD a ?_;refine B [] fun _ f h=>?_;refine U0 f ?_;refine sM (l6 f).2 a3 ?_;refine gE (gA 1002 508 510 a1.n.toNat 1 a (⟨k.cls,(k.aG.set a2.toNat a3)⟩:Ob)) ?_;exact je [(508,510)]
  exact Sj [1] [(508,501)]
 intro o h;exact Sr [14] [(3,508)]
def FE {N a0 a1 a2 r} (h:Y1 N a0 a1 a2=some r) {m:Nat} {b:List AV} {n:Nat} {c:List AV} {d:List AV}:Spec prog 202 [(1000,mB a0 (.fn m [.fp b]) (.fn n [.fp c,.fp d]) 1001 1003),(1001,.box [E8 a0.w.a7,.aJ 1002,.int a0.w.aB] 40),(1002,E9 a0.w.heap [] 1004),(1003,p9 a0.aF [] 1005)] [.ptr 1000 0,.ep 1003 a1 10 0,.agg (bZ a2)] (.aY []) [(1000,mB r (.fn m [.fp b]) (.fn n [.fp c,.fp d]) 1001 1003),(1001,.box [E8 r.w.a7,.aJ 2,.int r.w.aB] 40),(2,E9 r.w.heap [] 3),(3,.aE),(1002,.aE),(1003,p9 r.aF [] 5),(5,.aE)] [3,2,5]:=by
 refine so func202 ntmps202 fun Γ hn=>?_;unfold Y1 at h;refine S [15,3,3,3] ?_;refine J e1 hn h nl (fun s=>[(186,E9 s.1 [] 518),(501,.aE),(518,.aE),(1000,.box [.ptr 1001 0,.fn m [.fp b],.fn n [.fp c,.fp d],.int s.2.1,.int s.2.2.1,.int s.2.2.2.1,.aJ 1003,.int s.2.2.2.2.2.1,.int s.2.2.2.2.2.2.1,.int s.2.2.2.2.2.2.2] 251),(1001,.box [E8 a0.w.a7,.aJ 186,.int a0.w.aB] 40),(1002,.aE),(1003,p9 s.2.2.2.2.1 [] 501)]) [0,1] [] (fun _ h g=>?_) ?_
 ·refine S [6,3] ?_;refine Jk e1 hn h nl (fun s=>[(186,E9 s.1 [] 518),(501,.aE),(518,.aE),(1000,.box [.ptr 1001 0,.fn m [.fp b],.fn n [.fp c,.fp d],.int s.2.1,.int s.2.2.1,.int s.2.2.2.1,.aJ 1003,.int s.2.2.2.2.2.1,.int s.2.2.2.2.2.2.1,.int s.2.2.2.2.2.2.2] 251),(1001,.box [E8 a0.w.a7,.aJ 186,.int a0.w.aB] 40),(1002,.aE),(1003,p9 s.2.2.2.2.1 [] 501)]) [0,1] [] [] fun _ h g=>?_;refine I [4] ?_ ?_<;>intro _ h
  ·refine B [5] fun _ hx21 h=>?_;refine J4 hx21 ?_;refine B [] fun _ hr23 h=>?_;refine cA ((q9 hr23).au [(1016,4),(1019,1003),(1021,1005),(21,501)] rfl) ?_;refine gE (gR 1001 1 1002 502 503) ?_;exact je [(186,502),(518,503)]
  refine S [3] ?_;refine Jk e1 hn h nl (fun s=>[(186,E9 s.1 [] 520),(504,.aE),(520,.aE),(1000,.box [.ptr 1001 0,.fn m [.fp b],.fn n [.fp c,.fp d],.int s.2.1,.int s.2.2.1,.int s.2.2.2.1,.aJ 1003,.int s.2.2.2.2.2.1,.int s.2.2.2.2.2.2.1,.int s.2.2.2.2.2.2.2] 251),(1001,.box [E8 a0.w.a7,.aJ 186,.int a0.w.aB] 40),(1002,.aE),(1003,p9 s.2.2.2.2.1 [] 504)]) [0,1] [] [(518,520),(501,504)] fun _ h g=>?_;refine I [4] ?_ ?_<;>intro _ h
  ·refine B [8] fun _ hx35 h=>?_;refine J4 hx35 ?_;refine B [] fun _ hx37 h=>?_;refine G9 hx37 ?_;refine B [] fun _ hr39 h=>?_;refine cA ((q9 hr39).au [(1016,4),(1019,1003),(1021,1005),(21,504)] rfl) ?_;refine gE (gR 1001 1 1002 505 506) ?_;exact je [(186,505),(520,506)]
  refine S [3] ?_;refine Jk e1 hn h nl (fun s=>[(186,E9 s.1 [] 522),(507,.aE),(522,.aE),(1000,.box [.ptr 1001 0,.fn m [.fp b],.fn n [.fp c,.fp d],.int s.2.1,.int s.2.2.1,.int s.2.2.2.1,.aJ 1003,.int s.2.2.2.2.2.1,.int s.2.2.2.2.2.2.1,.int s.2.2.2.2.2.2.2] 251),(1001,.box [E8 a0.w.a7,.aJ 186,.int a0.w.aB] 40),(1002,.aE),(1003,p9 s.2.2.2.2.1 [] 507)]) [0,1] [] [(520,522),(504,507)] fun _ h g=>?_;refine I [4] ?_ ?_<;>intro _ h
  ·refine B [] fun x50 F h=>?_;refine gC (gD 1003 507 508 a1 7 F) ?_;refine kd [0,1,4,5,6] [4,5,507,508,1000,1001,1002,1003] ?_;refine S [8] ?_;refine hD F ?_;refine B [] fun _ G h=>?_;refine U0 G ?_;refine J4 (l6 G).2 ?_;refine B [] fun _ hr55 h=>?_;refine cA ((oe hr55).au [(1022,507),(1016,4),(1019,1003),(1021,508),(21,509)] rfl) ?_;refine B [] fun l hx57 h=>?_;refine gE (gA 1003 507 510 a1 7 hx57 (⟨l.aI,l.aK,l.aV,l.code,l.aQ,l.args,x50.a8,l.aA,l.aH⟩:j3)) ?_;refine gE (gR 1001 1 1002 511 512) ?_;exact je [(186,511),(522,512),(507,510)]
  refine S [3] ?_;refine Jk e1 hn h nl (fun s=>[(186,E9 s.1 [] 525),(513,.aE),(525,.aE),(1000,.box [.ptr 1001 0,.fn m [.fp b],.fn n [.fp c,.fp d],.int s.2.1,.int s.2.2.1,.int s.2.2.2.1,.aJ 1003,.int s.2.2.2.2.2.1,.int s.2.2.2.2.2.2.1,.int s.2.2.2.2.2.2.2] 251),(1001,.box [E8 a0.w.a7,.aJ 186,.int a0.w.aB] 40),(1002,.aE),(1003,p9 s.2.2.2.2.1 [] 513)]) [0,1] [] [(522,525),(507,513)] fun _ h g=>?_;refine I [4] ?_ ?_<;>intro _ h
  ·refine kd [0,1,4,5,6] [4,5,1000,1001,1002,1003] ?_;refine B [8] fun _ hx69 h=>?_;refine J4 hx69 ?_;refine B [] fun _ hr71 h=>?_;refine cD (ot hr71) ?_;refine B [] fun _ hr73 h=>?_;refine cA ((q9 hr73).au [(1016,4),(1019,1003),(1021,1005),(21,513)] rfl) ?_;refine gE (gR 1001 1 1002 514 515) ?_;exact je [(186,514),(525,515)]
  refine kd [0,1,4,5,6,12] [4,5,1000,1001,1002,1003] ?_;refine S [3] ?_;refine Jk e1 hn h nl (fun s=>[(186,E9 s.1 [] 527),(516,.aE),(527,.aE),(1000,.box [.ptr 1001 0,.fn m [.fp b],.fn n [.fp c,.fp d],.int s.2.1,.int s.2.2.1,.int s.2.2.2.1,.aJ 1003,.int s.2.2.2.2.2.1,.int s.2.2.2.2.2.2.1,.int s.2.2.2.2.2.2.2] 251),(1001,.box [E8 a0.w.a7,.aJ 186,.int a0.w.aB] 40),(1002,.aE),(1003,p9 s.2.2.2.2.1 [] 516)]) [0,1] [] [(525,527),(513,516)] fun _ h g=>?_;refine I [4] ?_ ?_<;>intro _ h
  ·refine B [5] fun _ hr85 h=>?_;refine cA ((q9 hr85).au [(1016,4),(1019,1003),(1021,1005),(21,516)] rfl) ?_;refine gE (gR 1001 1 1002 517 518) ?_;exact je [(186,517),(527,518)]
  refine S [3] ?_;refine Jk e1 hn h nl (fun s=>[(186,E9 s.1 [] 529),(519,.aE),(529,.aE),(1000,.box [.ptr 1001 0,.fn m [.fp b],.fn n [.fp c,.fp d],.int s.2.1,.int s.2.2.1,.int s.2.2.2.1,.aJ 1003,.int s.2.2.2.2.2.1,.int s.2.2.2.2.2.2.1,.int s.2.2.2.2.2.2.2] 251),(1001,.box [E8 a0.w.a7,.aJ 186,.int a0.w.aB] 40),(1002,.aE),(1003,p9 s.2.2.2.2.1 [] 519)]) [0,1] [] [(527,529),(516,519)] fun _ h g=>?_;refine I [4] ?_ ?_<;>intro _ h
  ·refine B [5] fun _ hr97 h=>?_;refine cA ((q9 hr97).au [(1016,4),(1019,1003),(1021,1005),(21,519)] rfl) ?_;refine gE (gR 1001 1 1002 520 521) ?_;exact je [(186,520),(529,521)]
  refine S [2,3] ?_;refine Jb 75 hn h [0,1,4,5,6,12] [4,5,1000,1001,1002,1003] (fun _ h g=>?_) ?_
  ·exact K5 [4] [1] [5]
  intro v98 h;refine Jk e1 hn h nl (fun s=>[(186,E9 s.1 [] 531),(522,.aE),(531,.aE),(1000,.box [.ptr 1001 0,.fn m [.fp b],.fn n [.fp c,.fp d],.int s.2.1,.int s.2.2.1,.int s.2.2.2.1,.aJ 1003,.int s.2.2.2.2.2.1,.int s.2.2.2.2.2.2.1,.int s.2.2.2.2.2.2.2] 251),(1001,.box [E8 a0.w.a7,.aJ 186,.int a0.w.aB] 40),(1002,.aE),(1003,p9 s.2.2.2.2.1 [] 522)]) [0,1] [] [(529,531),(519,522)] fun _ h g=>?_;refine I [4] ?_ ?_<;>intro _ h
  ·refine B [5] fun _ K h=>?_;refine cA (rV K) ?_;refine B [] fun _ L h=>?_;refine cA ((q9 L).au [(1016,4),(1019,1003),(1021,1005),(21,522)] rfl) ?_;refine gE (gR 1001 1 1002 523 524) ?_;exact je [(186,523),(531,524)]
  refine S [3] ?_;refine Jk e1 hn h nl (fun s=>[(186,E9 s.1 [] 533),(525,.aE),(533,.aE),(1000,.box [.ptr 1001 0,.fn m [.fp b],.fn n [.fp c,.fp d],.int s.2.1,.int s.2.2.1,.int s.2.2.2.1,.aJ 1003,.int s.2.2.2.2.2.1,.int s.2.2.2.2.2.2.1,.int s.2.2.2.2.2.2.2] 251),(1001,.box [E8 a0.w.a7,.aJ 186,.int a0.w.aB] 40),(1002,.aE),(1003,p9 s.2.2.2.2.1 [] 525)]) [0,1] [] [(531,533),(522,525)] fun _ h g=>?_;refine I [4] ?_ ?_<;>intro _ h
  ·refine B [5] fun _ M h=>?_;refine cA ((Q8 M).sw 5 525) ?_;refine gE (gR 1001 1 1002 526 527) ?_;exact je [(186,526),(533,527)]
  refine S [3] ?_;refine Jk e1 hn h nl (fun s=>[(186,E9 s.1 [] 535),(528,.aE),(535,.aE),(1000,.box [.ptr 1001 0,.fn m [.fp b],.fn n [.fp c,.fp d],.int s.2.1,.int s.2.2.1,.int s.2.2.2.1,.aJ 1003,.int s.2.2.2.2.2.1,.int s.2.2.2.2.2.2.1,.int s.2.2.2.2.2.2.2] 251),(1001,.box [E8 a0.w.a7,.aJ 186,.int a0.w.aB] 40),(1002,.aE),(1003,p9 s.2.2.2.2.1 [] 528)]) [0,1] [] [(533,535),(525,528)] fun _ h g=>?_;refine I [4] ?_ ?_<;>intro _ h
  ·refine B [] fun e k h=>?_;refine gC (gD 1003 528 529 a1 8 k) ?_;refine kd [0,1,4,6] [4,528,529,1000,1001,1002,1003] ?_;refine S [8] ?_;refine hD k ?_;refine hD k ?_;refine B [13,12] fun _ p h=>?_;refine U0 p ?_;refine J4 (l6 p).2 ?_;refine B [] fun r142 O h=>?_;refine cA ((vz O).au [(1022,528),(1016,4),(1019,1003),(1021,529),(22,530)] rfl) ?_;refine gE (gA 1003 530 531 a1 8 k (⟨e.aI,e.aK,e.aV,e.code,e.aQ,e.args,e.a8,r142,e.aH⟩:j3)) ?_;refine gE (gR 1001 1 1002 532 533) ?_;exact je [(186,532),(535,533),(528,531)]
  refine S [3] ?_;refine Jk e1 hn h nl (fun s=>[(186,E9 s.1 [] 538),(534,.aE),(538,.aE),(1000,.box [.ptr 1001 0,.fn m [.fp b],.fn n [.fp c,.fp d],.int s.2.1,.int s.2.2.1,.int s.2.2.2.1,.aJ 1003,.int s.2.2.2.2.2.1,.int s.2.2.2.2.2.2.1,.int s.2.2.2.2.2.2.2] 251),(1001,.box [E8 a0.w.a7,.aJ 186,.int a0.w.aB] 40),(1002,.aE),(1003,p9 s.2.2.2.2.1 [] 534)]) [0,1] [] [(535,538),(528,534)] fun _ h g=>?_;refine I [4] ?_ ?_<;>intro _ h
  ·refine B [] fun x154 q h=>?_;refine gC (gD 1003 534 535 a1 7 q) ?_;refine kd [0,1,4,5] [4,5,534,535,1000,1001,1002,1003] ?_;refine gz 3 7 hn ?_;refine hD q ?_;refine B [] fun H P h=>?_;refine cA ((((oh P).sw 1005 535).sw 1006 534).sw 5 536) ?_;refine B [] fun f t h=>?_;refine AN ⟨rfl,⟨rfl,trivial⟩,ny t rfl rfl G7 rfl ⟨rfl,rfl,rfl,rfl⟩⟩ ?_;refine B [] fun _ u h=>?_;refine U0 u ?_;refine sM (l6 u).2 H.1 ?_;refine gE (gA 1003 534 537 a1 7 t (⟨f.aI,f.aK,f.aV,f.code,f.aQ,f.args,(x154.a8.set a2.a.toNat H.1),f.aA,f.aH⟩:j3)) ?_;refine gE (gR 1001 1 1002 538 539) ?_;exact je [(186,538),(538,539),(534,537)]
  refine S [3] ?_;refine Jk e1 hn h nl (fun s=>[(186,E9 s.1 [] 541),(540,.aE),(541,.aE),(1000,.box [.ptr 1001 0,.fn m [.fp b],.fn n [.fp c,.fp d],.int s.2.1,.int s.2.2.1,.int s.2.2.2.1,.aJ 1003,.int s.2.2.2.2.2.1,.int s.2.2.2.2.2.2.1,.int s.2.2.2.2.2.2.2] 251),(1001,.box [E8 a0.w.a7,.aJ 186,.int a0.w.aB] 40),(1002,.aE),(1003,p9 s.2.2.2.2.1 [] 540)]) [0,1] [] [(538,541),(534,540)] fun _ h g=>?_;refine I [4] ?_ ?_<;>intro _ h
  ·refine gz 4 8 hn ?_;refine B [] fun _ x h=>?_;refine J4 x ?_;refine B [] fun _ o h=>?_;refine cA ((Q8 o).sw 5 540) ?_;refine B [] fun _ y h=>?_;refine AN ⟨rfl,⟨rfl,trivial⟩,J4 y ⟨congrArg (fun v=>AV.agg (eV v)) (wJ o x y),rfl,rfl,rfl⟩⟩ ?_;refine B [] fun _ Q h=>?_;refine cA ((zq Q).sw 3 541) ?_;refine gE (gR 1001 1 1002 542 543) ?_;exact je [(186,542),(541,543)]
  refine S [3] ?_;refine Jk e1 hn h nl (fun s=>[(186,E9 s.1 [] 550),(544,.aE),(550,.aE),(1000,.box [.ptr 1001 0,.fn m [.fp b],.fn n [.fp c,.fp d],.int s.2.1,.int s.2.2.1,.int s.2.2.2.1,.aJ 1003,.int s.2.2.2.2.2.1,.int s.2.2.2.2.2.2.1,.int s.2.2.2.2.2.2.2] 251),(1001,.box [E8 a0.w.a7,.aJ 186,.int a0.w.aB] 40),(1002,.aE),(1003,p9 s.2.2.2.2.1 [] 544)]) [0,1] [] [(541,550),(540,544)] fun _ h g=>?_;refine I [4] ?_ ?_<;>intro _ h
  ·refine B [] fun x190 z h=>?_;refine gC (gD 1003 544 545 a1 7 z) ?_;refine kd [0,1,4,5,6] [4,5,544,545,1000,1001,1002,1003] ?_;refine S [8] ?_;refine hD z ?_;refine B [] fun _ A h=>?_;refine U0 A ?_;refine J4 (l6 A).2 ?_;refine B [] fun _ R h=>?_;refine cD (ot R) ?_;refine B [] fun _ T h=>?_;refine cA ((oe T).au [(1022,544),(1016,4),(1019,1003),(1021,545),(21,546)] rfl) ?_;refine B [] fun i hx199 h=>?_;refine gE (gA 1003 544 547 a1 7 hx199 (⟨i.aI,i.aK,i.aV,i.code,i.aQ,i.args,x190.a8,i.aA,i.aH⟩:j3)) ?_;refine gE (gR 1001 1 1002 548 549) ?_;exact je [(186,548),(550,549),(544,547)]
  refine kd [0,1,4,5,6,12] [4,5,1000,1001,1002,1003] ?_;refine S [3] ?_;refine Jk e1 hn h nl (fun s=>[(186,E9 s.1 [] 553),(550,.aE),(553,.aE),(1000,.box [.ptr 1001 0,.fn m [.fp b],.fn n [.fp c,.fp d],.int s.2.1,.int s.2.2.1,.int s.2.2.2.1,.aJ 1003,.int s.2.2.2.2.2.1,.int s.2.2.2.2.2.2.1,.int s.2.2.2.2.2.2.2] 251),(1001,.box [E8 a0.w.a7,.aJ 186,.int a0.w.aB] 40),(1002,.aE),(1003,p9 s.2.2.2.2.1 [] 550)]) [0,1] [] [(550,553),(544,550)] fun _ h g=>?_;refine I [4] ?_ ?_<;>intro _ h
  ·refine B [] fun x210 C h=>?_;refine gC (gD 1003 550 551 a1 7 C) ?_;refine kd [0,1,4,5] [4,5,550,551,1000,1001,1002,1003] ?_;refine gz 4 12 hn ?_;refine hD C ?_;refine B [] fun _ D h=>?_;refine U0 D ?_;refine J4 (l6 D).2 ?_;refine B [] fun _ U h=>?_;refine cA ((((oh U).sw 1005 551).sw 1006 550).sw 5 552) ?_;refine B [] fun j E h=>?_;refine AN ⟨rfl,⟨rfl,trivial⟩,ny E rfl rfl G7 rfl ⟨rfl,rfl,rfl,rfl⟩⟩ ?_;refine B [] fun _ V h=>?_;refine cA ((zq V).sw 3 553) ?_;refine gE (gA 1003 550 554 a1 7 E (⟨j.aI,j.aK,j.aV,j.code,j.aQ,j.args,x210.a8,j.aA,j.aH⟩:j3)) ?_;refine gE (gR 1001 1 1002 555 556) ?_;exact je [(186,555),(553,556),(550,554)]
  refine S [3] ?_;refine Jk e1 hn h nl (fun s=>[(186,E9 s.1 [] 886),(560,.aE),(886,.aE),(1001,.box [E8 a0.w.a7,.aJ 186,.int a0.w.aB] 40),(1002,.aE),(1003,p9 s.2 [] 560)]) [0,1] [1000] [(553,886),(550,560)] fun _ h g=>?_;refine I [4] ?_ ?_<;>intro _ h
  ·refine S [2] ?_;refine kd [0,1,5,6] [4,5,1000,1001,1002,1003] ?_;refine B [8] fun _ W h=>?_;refine cD (kI W) ?_;refine B [] fun _ X h=>?_;refine qE (((uh X).sw 0 186).sw 1 886) ⟨yV _,trivial,trivial⟩ ?_;refine S [2] ?_;refine kd [0,1,6,7,8,9] [4,8,186,886,1000,1001,1002,1003] ?_;refine I [3,4] ?_ ?_<;>intro _ h
   ·refine B [3] fun _ Y h=>?_;refine cA (K7 Y) ?_;refine gC (gR 1001 1 1002 557 558) ?_;refine gC (gS 1003 559) ?_;exact Sr [7] [(2,557),(3,558),(5,559)]
   refine B [1,3,5] fun _ Z h=>?_;refine cA ((q9 Z).au [(1016,4),(1019,1003),(1021,1005),(21,560)] rfl) ?_;refine gE (gX 1002) ?_;exact je
  refine S [1] ?_;refine gE (gR 1001 1 1002 561 562) ?_;refine gE (gS 1003 563) ?_;exact je [(186,561),(886,562),(560,563)]
 rintro⟨v1,v2,v3,v4,v5,v6,v7,v8⟩ h;exact Sr [14] [(2,186),(3,518),(5,501)]
end
section
set_option maxHeartbeats 40000000
set_option maxRecDepth 100000
def Ep {N a0 gl gq r} (h:mn N a0 gl gq=some r) {d:Nat} {a:List AV} (D:∀i j C t,gl i j C=some t->Spec prog d [] [.agg (bT i),.int j,.str C,.fp a] (.aY [.int t.1,.int t.2]) [] []) {e:Nat} {b:List AV} {c:List AV} (E:∀i j t,gq i j=some t->Spec prog e [] [.int i,.int j,.fp b,.fp c] (.aY [.agg (eb t.1),.bool t.2]) [] []):Spec prog 167 [(1000,mB a0 (.fn d [.fp a]) (.fn e [.fp b,.fp c]) 1001 1003),(1001,.box [E8 a0.w.a7,.aJ 1002,.int a0.w.aB] 40),(1002,E9 a0.w.heap [] 1004),(1003,p9 a0.aF [] 1005)] [.ptr 1000 0] (.aY []) [(1000,mB r (.fn d [.fp a]) (.fn e [.fp b,.fp c]) 1001 4),(1001,.box [E8 r.w.a7,.aJ 2,.int r.w.aB] 40),(2,E9 r.w.heap [] 3),(3,.aE),(1002,.aE),(4,p9 r.aF [] 5),(5,.aE),(1003,.aE)] [3,2,5,4]:=by
 refine so func167 ntmps167 fun Γ hn=>?_;unfold mn at h;refine B [15,2,8,13,12] fun k f h=>?_;refine iD f ?_;refine S [3] ?_;refine J4 (l6 f).2 ?_;refine kd [0,2,3] [1000,1001,1002,1003] ?_;refine S [3] ?_;refine J4 (l6 f).2 ?_;refine B [] fun _ F h=>?_;refine G9 F ?_;refine S [3] ?_;refine J4 (l6 f).2 ?_;refine S [12] ?_;refine sD (l6 f).2 (⟨k.aI,k.aK,k.aV,k.code,k.aQ,k.args,k.a8,k.aA,(wr (k.aH+(1:Int)))⟩:j3) ?_;refine kd [0,2,3,4] [4,1000,1001,1002,1003] ?_;refine S [3] ?_;refine J e0 hn h nl (fun s=>[(501,.aE),(502,p9 s.2.2.2.2.2.2.1 [] 501),(509,.aE),(510,E9 s.2.1 [] 509),(1000,.box [.ptr 1001 0,.fn d [.fp a],.fn e [.fp b,.fp c],.int s.2.2.2.1,.int s.2.2.2.2.1,.int s.2.2.2.2.2.1,.aJ 502,.int s.2.2.2.2.2.2.2.1,.int s.2.2.2.2.2.2.2.2.1,.int s.2.2.2.2.2.2.2.2.2] 251),(1001,.box [E8 s.1,.aJ 510,.int s.2.2.1] 40),(1002,.aE),(1003,.aE)]) [0] [] (fun _ h g=>?_) ?_
 ·refine S [6,3] ?_;refine Jk e0 hn h nl (fun s=>[(501,.aE),(502,p9 s.2.2.2.2.2.2.1 [] 501),(509,.aE),(510,E9 s.2.1 [] 509),(1000,.box [.ptr 1001 0,.fn d [.fp a],.fn e [.fp b,.fp c],.int s.2.2.2.1,.int s.2.2.2.2.1,.int s.2.2.2.2.2.1,.aJ 502,.int s.2.2.2.2.2.2.2.1,.int s.2.2.2.2.2.2.2.2.1,.int s.2.2.2.2.2.2.2.2.2] 251),(1001,.box [E8 s.1,.aJ 510,.int s.2.2.1] 40),(1002,.aE),(1003,.aE)]) [0] [] [] fun _ h g=>?_;refine I [4] ?_ ?_<;>intro _ h
  ·refine B [5] fun _ u h=>?_;refine cA (((Er u D E).sw 5 501).sw 4 502) ?_;refine gE (gR 1001 1 1002 503 504) ?_;exact je [(510,503),(509,504)]
  refine S [3] ?_;refine Jk e0 hn h nl (fun s=>[(88,p9 s.2.2.2.2.2.2.1 [] 505),(505,.aE),(511,.aE),(512,E9 s.2.1 [] 511),(1000,.box [.ptr 1001 0,.fn d [.fp a],.fn e [.fp b,.fp c],.int s.2.2.2.1,.int s.2.2.2.2.1,.int s.2.2.2.2.2.1,.aJ 88,.int s.2.2.2.2.2.2.2.1,.int s.2.2.2.2.2.2.2.2.1,.int s.2.2.2.2.2.2.2.2.2] 251),(1001,.box [E8 s.1,.aJ 512,.int s.2.2.1] 40),(1002,.aE),(1003,.aE)]) [0] [] [(510,512),(509,511),(502,88),(501,505)] fun _ h g=>?_;refine I [4] ?_ ?_<;>intro _ h
  ·refine B [5] fun _ v h=>?_;refine cA ((zn v).sw 5 505) ?_;refine gE (gR 1001 1 1002 506 507) ?_;refine gE (gR 1000 6 1003 508 509) ?_;exact je [(512,506),(511,507),(88,508),(505,509)]
  refine S [3] ?_;refine Jk e0 hn h nl (fun s=>[(88,p9 s.2.2.2.2.2.2.1 [] 511),(511,.aE),(515,.aE),(516,E9 s.2.1 [] 515),(1000,.box [.ptr 1001 0,.fn d [.fp a],.fn e [.fp b,.fp c],.int s.2.2.2.1,.int s.2.2.2.2.1,.int s.2.2.2.2.2.1,.aJ 88,.int s.2.2.2.2.2.2.2.1,.int s.2.2.2.2.2.2.2.2.1,.int s.2.2.2.2.2.2.2.2.2] 251),(1001,.box [E8 s.1,.aJ 516,.int s.2.2.1] 40),(1002,.aE),(1003,.aE)]) [0] [] [(512,516),(511,515),(505,511)] fun _ h g=>?_;refine I [4] ?_ ?_<;>intro _ h
  ·refine B [3] fun _ x h=>?_;refine cA ((Q8 x).sw 5 510) ?_;refine S [3] ?_;refine J e0 hn h nl (fun s=>[(511,.aE),(1000,.box [.ptr 1001 0,.fn d [.fp a],.fn e [.fp b,.fp c],.int s.1,.int s.2.1,.int s.2.2.1,.aJ 1003,.int s.2.2.2.2.1,.int s.2.2.2.2.2.1,.int s.2.2.2.2.2.2] 251),(1003,p9 s.2.2.2.1 [] 511)]) [0] [1001,1002] (fun _ h g=>?_) ?_
   ·refine S [6] ?_;refine kd [0,2,4,61] [4,510,1000,1001,1002,1003] ?_;refine S [3] ?_;refine Jk e0 hn h nl (fun s=>[(511,.aE),(1000,.box [.ptr 1001 0,.fn d [.fp a],.fn e [.fp b,.fp c],.int s.1,.int s.2.1,.int s.2.2.1,.aJ 1003,.int s.2.2.2.2.1,.int s.2.2.2.2.2.1,.int s.2.2.2.2.2.2] 251),(1003,p9 s.2.2.2.1 [] 511)]) [0] [1001,1002] [] fun _ h g=>?_;refine I [4] ?_ ?_<;>intro _ h
    ·refine B [5] fun _ y h=>?_;refine cA (((zn y).sw 1005 510).sw 5 511) ?_;exact je
    refine S [3] ?_;refine Jk e0 hn h nl (fun s=>[(1000,.box [.ptr 1001 0,.fn d [.fp a],.fn e [.fp b,.fp c],.int s.1,.int s.2.1,.int s.2.2.1,.aJ 1003,.int s.2.2.2.1,.int s.2.2.2.2.1,.int s.2.2.2.2.2] 251)]) [0] [510,1001,1002,1003] [(511,510)] fun _ h g=>?_;refine Ij [4] [1] fun _ h=>?_;refine B [5] fun _ z h=>?_;refine cA (K7 z) ?_;exact je
   rintro⟨v59,v60,v61,v62,v63,v64,v65⟩ h;refine gE (gR 1001 1 1002 512 513) ?_;refine gE (gR 1000 6 1003 514 515) ?_;exact je [(516,512),(515,513),(88,514),(511,515)]
  refine S [3] ?_;refine Jk e0 hn h nl (fun s=>[(88,p9 s.2.2.2.2.2.2.1 [] 517),(517,.aE),(519,.aE),(520,E9 s.2.1 [] 519),(1000,.box [.ptr 1001 0,.fn d [.fp a],.fn e [.fp b,.fp c],.int s.2.2.2.1,.int s.2.2.2.2.1,.int s.2.2.2.2.2.1,.aJ 88,.int s.2.2.2.2.2.2.2.1,.int s.2.2.2.2.2.2.2.2.1,.int s.2.2.2.2.2.2.2.2.2] 251),(1001,.box [E8 s.1,.aJ 520,.int s.2.2.1] 40),(1002,.aE),(1003,.aE)]) [0] [] [(516,520),(515,519),(511,517)] fun _ h g=>?_;refine I [4] ?_ ?_<;>intro _ h
  ·refine B [3] fun _ m h=>?_;refine cA ((Q8 m).sw 5 516) ?_;refine S [2] ?_;refine kd [0,6] [6,516,1000,1001,1002,1003] ?_;refine A [8,13,12] fun l h=>?_;refine jB l rfl rfl ?_;refine B [5] fun _ n h=>?_;refine cA ((((zk n).sw 1003 88).sw 1005 788).sw 5 517) ?_;refine gE (gR 1001 1 1002 518 519) ?_;exact je [(520,518)]
  refine S [3] ?_;refine J e0 hn h nl (fun s=>[(520,.aE),(521,.aE),(522,E9 s.2.1 [] 521),(1000,.box [.ptr 1001 0,.fn d [.fp a],.fn e [.fp b,.fp c],.int s.2.2.2.1,.int s.2.2.2.2.1,.int s.2.2.2.2.2.1,.aJ 1003,.int s.2.2.2.2.2.2.2.1,.int s.2.2.2.2.2.2.2.2.1,.int s.2.2.2.2.2.2.2.2.2] 251),(1001,.box [E8 s.1,.aJ 522,.int s.2.2.1] 40),(1002,.aE),(1003,p9 s.2.2.2.2.2.2.1 [] 520)]) [0] [] (fun _ h g=>?_) ?_
  ·refine I [4] ?_ ?_<;>intro _ h
   ·refine B [5] fun _ o h=>?_;refine cA ((F1 o).sw 5 520) ?_;refine gE (gR 1001 1 1002 521 522) ?_;exact je [(522,521),(521,522)]
   refine S [3] ?_;refine Jk e0 hn h nl (fun s=>[(523,.aE),(524,E9 s.2.1 [] 523),(525,.aE),(1000,.box [.ptr 1001 0,.fn d [.fp a],.fn e [.fp b,.fp c],.int s.2.2.2.1,.int s.2.2.2.2.1,.int s.2.2.2.2.2.1,.aJ 1003,.int s.2.2.2.2.2.2.2.1,.int s.2.2.2.2.2.2.2.2.1,.int s.2.2.2.2.2.2.2.2.2] 251),(1001,.box [E8 s.1,.aJ 524,.int s.2.2.1] 40),(1002,.aE),(1003,p9 s.2.2.2.2.2.2.1 [] 525)]) [0] [] [(522,524),(521,523),(520,525)] fun _ h g=>?_;refine I [4] ?_ ?_<;>intro _ h
   ·refine kd [0] [1000,1001,1002,1003] ?_;refine B [5] fun _ p h=>?_;refine cA (vx p) ?_;refine gE (gR 1001 1 1002 523 524) ?_;refine gE (gS 1003 525) ?_;exact je [(524,523),(523,524)]
   refine kd [0,2,4] [4,1000,1001,1002,1003] ?_;refine B [5] fun _ q h=>?_;refine cA ((((FE q).sw 3 526).sw 2 527).sw 5 528) ?_;exact je [(524,527),(523,526),(525,528)]
  rintro⟨G,H,K,L,M,O,P,Q,R,T⟩ h;refine gE (gR 1000 6 1003 529 530) ?_;exact je [(520,522),(519,521),(88,529),(517,530)]
 rintro⟨v6,v7,v8,v9,U,V,W,X,Y,Z⟩ h;exact Sr [14] [(2,510),(3,509),(4,502),(5,501)]
def GF {N a0 a1 a2 g3 g4 r} (h:iK N a0 a1 a2 g3 g4=some r) {j:Nat} {b:List AV} (z:∀e f y i,g3 e f y=some i->Spec prog j [] [.agg (bT e),.int f,.str y,.fp b] (.aY [.int i.1,.int i.2]) [] []) {m:Nat} {c:List AV} {d:List AV} (o:∀e f i,g4 e f=some i->Spec prog m [] [.int e,.int f,.fp c,.fp d] (.aY [.agg (eb i.1),.bool i.2]) [] []):Spec prog 125 [] [.agg (R4 a0),.agg (kV a1),.int a2,.fn j [.fp b],.fn m [.fp c,.fp d]] (.aY [.agg (R4 r.1),.agg (ln r.2)]) [] []:=by
 refine so func125 ntmps125 fun Γ hn=>?_;unfold iK at h;refine B [3,2,3] fun _ A h=>?_;refine cA (wX A) ?_;refine I [3,4] ?_ ?_<;>intro _ h
 ·refine B [3] fun _ C h=>?_;refine cA (((jX C).sw 0 24).sw 1 724) ?_;refine j6.az 24 rfl ?_;exact Sr [7]
 refine B [1,3] fun F D h=>?_;refine cA (((jX D).sw 0 28).sw 1 728) ?_;refine kd [2,3,4,5,6,10,11,13] [5,6,10,11,13,28,728] ?_;refine B [3,2,2,8] fun _ E h=>?_;refine cD (kG E) ?_;refine B [] fun _ p h=>?_;refine cD (jW p) ?_;refine kd [5,6,10,11,13,14,15,16] [5,6,10,11,13,28,33,728] ?_;refine S [3] ?_;refine nB 33 6 501 10 288 ?_;refine gC (gT 501 502 [(7,(2,29)),(8,(2,29))]) ?_;refine J e0 hn h nl (fun s=>[(33,.box [.ptr 13 0,.fn j [.fp b],.fn m [.fp c,.fp d],.int s.1,.int s.2.1,.int s.2.2.1,.aJ 501,.int s.2.2.2.2.1,.int s.2.2.2.2.2.1,.int s.2.2.2.2.2.2] 251),(501,p9 s.2.2.2.1 [] 502)]) [5,10,11,13,14] [5,10,11,13,28,502,728] (fun _ h g=>?_) ?_
 ·refine I [4] ?_ ?_<;>intro _ h
  ·refine B [5] fun _ q h=>?_;refine cA ((((K7 q).sw 1000 33).sw 1001 13).sw 1003 501) ?_;exact je
  refine B [5] fun _ t h=>?_;refine cA ((zj t o).au [(1000,33),(1001,13),(1003,501),(1002,28),(1005,502),(5,503),(4,504)] rfl) ?_;exact je [(501,504),(502,503)]
 rintro⟨G,H,K,L,M,O,P⟩ h;refine S [2] ?_;refine LF e0 hn (F.a7,F.heap,F.aB,G,H,K,L,M,O,P) (fun l v=>kM N g3 g4 l v.1 v.2.1 v.2.2.1 v.2.2.2.1 v.2.2.2.2.1 v.2.2.2.2.2.1 v.2.2.2.2.2.2.1 v.2.2.2.2.2.2.2.1 v.2.2.2.2.2.2.2.2.1 v.2.2.2.2.2.2.2.2.2) h (fun v=>[]) (fun v=>[(13,.box [E8 v.1,.aJ 28,.int v.2.2.1] 40),(28,E9 v.2.1 [] 728),(33,.box [.ptr 13 0,.fn j [.fp b],.fn m [.fp c,.fp d],.int v.2.2.2.1,.int v.2.2.2.2.1,.int v.2.2.2.2.2.1,.aJ 501,.int v.2.2.2.2.2.2.2.1,.int v.2.2.2.2.2.2.2.2.1,.int v.2.2.2.2.2.2.2.2.2] 251),(501,p9 v.2.2.2.2.2.2.1 [] 502)]) [5,10,11,13,14] [5,10,11,502,728] [] nl (fun s=>[(13,.box [E8 s.1,.aJ 28,.int s.2.2.1] 40),(28,E9 s.2.1 [] 728),(33,.box [.ptr 13 0,.fn j [.fp b],.fn m [.fp c,.fp d],.int s.2.2.2.1,.int s.2.2.2.2.1,.int s.2.2.2.2.2.1,.aJ 501,.int s.2.2.2.2.2.2.2.1,.int s.2.2.2.2.2.2.2.2.1,.int s.2.2.2.2.2.2.2.2.2] 251),(501,p9 s.2.2.2.2.2.2.1 [] 502)]) [5,10,11,13,14] [5,10,11,502,728] ?_ ?_
 ·rintro _ g ⟨R,T,U,V,W,X,Y,Z,v34,v35⟩ Q h;rw[kM] at h;refine S [2,2] ?_;refine Jb 70 hn h [5,10,11,13,14] [5,10,11,13,28,33,501,502,728] (fun _ h g=>?_) ?_
  ·exact K5 [5] [0,13,0] [0]
  intro v60 h;refine I [4] ?_ ?_<;>intro _ h
  ·refine B [1,6,5] fun a u h=>?_;refine cA ((Ep u z o).au [(1000,33),(1001,13),(1003,501),(1002,28),(1004,728),(1005,502),(3,505),(2,506),(5,507),(4,508)] rfl) ?_;exact le (a.w.a7,a.w.heap,a.w.aB,a.fuel,a.sends,a.turns,a.aF,a.back.k,a.back.n,a.err) [(28,506),(728,505),(501,508),(502,507)]
  exact Sj [20]
 rintro⟨v46,v47,v48,v49,v50,v51,v52,v53,v54,v55⟩ h;refine I [2,3,4] ?_ ?_<;>intro _ h
 ·refine B [2,8] fun _ x h=>?_;refine cA (((jX x).sw 0 79).sw 1 779) ?_;refine j6.az 79 rfl ?_;exact Sr [7]
 refine S [1,2,8] ?_;refine j6.az 28 rfl ?_;exact Sr [7]
def H0 {N a0 a1 a2 b0 r} (h:pH N a0 a1 a2 b0=some r):Spec prog 131 [] [.agg (bT a0),.int a1,.str a2,.fp (R4 b0)] (.aY [.int r.1,.int r.2]) [] []:=by
 refine so func131 ntmps131 fun b hn=>?_;unfold pH at h;refine B [3,3] fun _ a h=>?_;refine cA (jW a) ?_;exact Sr [7]
def Gp {N a0 a1 b0 b1 r} (h:pP N a0 a1 b0 b1=some r):Spec prog 132 [] [.int a0,.int a1,.fp [EM b0],.fp (R4 b1)] (.aY [.agg (eb r.1),.bool r.2]) [] []:=by
 refine so func132 ntmps132 fun m hn=>?_;unfold pP at h;refine S [3,2,3] ?_;refine O5 fun e=>?_;refine LR e1 hn () (fun l k v=>lK N a0 a1 b1 l k) h (fun d v=>[(12,.int (d:Int))]) (fun d v=>[]) [0,1,3,6,10,11] [6] [] nl nl [6] [6] ?_ ?_ ?_
 ·intro _ g d _ h _;rw[lK] at h;exact Sj [3,2,4,0,20]
 ·intro _ g d _ j f h _ c _;rw[lK] at h;refine S [3,2,4,0,1,2,6,3] ?_;refine Y7 c ?_;refine S [2] ?_;refine Jb 41 hn h [0,1,3,6,9,10,11,12] [6,9] (fun _ h g=>?_) ?_
  ·refine kd [0,1,3,6,9,10,11,12] [6,9] ?_;refine I [8] ?_ ?_<;>intro _ h
   ·refine B [0] fun _ a h=>?_;refine G9 a ?_;refine B [0] fun _ b h=>?_;refine G9 b ?_;exact K5 [0] [0] [0]
   exact Sj [0]
  intro i h;refine Ir [4] [3,7] fun _ h=>?_;refine S [1,5] ?_;refine ML (AN (V8 c e) ?_);exact le () []
 rintro⟨⟩ h;exact Sr [3,7]
def He {N a0 a1 a2 a3 r} (h:rL N a0 a1 a2 a3=some r):Spec prog 101 [] [.agg (R4 a0),.agg (kV a1),.int a2,EM a3] (.aY [.agg (R4 r.1),.agg (ln r.2)]) [] []:=by
 refine so func101 ntmps101 fun c hn=>?_;unfold rL at h;refine S [3] ?_;refine j6.gh (Gh.bC 4 4 rfl rfl rfl) (fun _=>?_);refine j6.gh (Gh.bC 7 7 rfl rfl rfl) (fun _=>?_);refine kd [2,4,5,7,8,9] [5,8,9] ?_;refine B [3] fun _ b h=>?_;refine cA (GF b (fun _ _ _ _ a=>H0 a) (fun _ _ _ a=>Gp a)) ?_;exact Sr [7]
def FI {N a0 a1 a2 r} (h:rX N a0 a1 a2=some r):Spec prog 67 [(1000,.box (ed a0) 45)] [.ptr 1000 0,.int a1,.agg (kV a2)] (.agg (iM r.1)) [(1000,.box (ed r.2) 45)] []:=by
 refine so func67 ntmps67 fun m hn=>?_;unfold rX at h;refine S [3,3,2,3] ?_;refine J e0 hn h nl (fun s=>[(7,.box (ln s.2.2.2.2.2) 151),(1000,.box [E8 s.1,jO s.2.1,.int s.2.2.1,kl s.2.2.2.1,ix s.2.2.2.2.1,s5 a0.saved] 45)]) [0,6,7] [6] (fun _ h g=>?_) ?_
 ·refine S [6,3] ?_;refine Jk e0 hn h nl (fun s=>[(7,.box (ln s.2.2.2.2.2) 151),(1000,.box [E8 s.1,jO s.2.1,.int s.2.2.1,kl s.2.2.2.1,ix s.2.2.2.2.1,s5 a0.saved] 45)]) [0,6,7] [6] [] fun _ h g=>?_;refine I [4] ?_ ?_<;>intro _ h
  ·refine B [8] fun _ a h=>?_;refine cA (HI a) ?_;exact je
  refine S [3] ?_;refine Jk e0 hn h nl (fun s=>[(7,.box (ln s.2.2.2.2.2) 151),(1000,.box [E8 s.1,jO s.2.1,.int s.2.2.1,kl s.2.2.2.1,ix s.2.2.2.2.1,s5 a0.saved] 45)]) [0,6,7] [6] [] fun _ h g=>?_;refine I [4] ?_ ?_<;>intro _ h
  ·refine B [2,8] fun _ b h=>?_;refine cA (HA b) ?_;refine kd [0,6,7,8] [6,7,8,1000] ?_;exact Sj [8]
  refine kd [0,5,6,7] [5,6,7,1000] ?_;refine B [8] fun _ c h=>?_;refine cA ((Ha c).sw 0 25) ?_;refine B [] fun _ d h=>?_;refine cF (He d) ?_;exact je
 rintro⟨e,f,i,j,k,l⟩ h;exact Sr [3,7]
def Ey {N a0 a1 r} (h:tu N a0 a1=some r):Spec prog 80 [(1000,.box [.np 1000,.aJ 1001] 99),(1001,w5 a0)] [.ptr 1000 0,.str a1] (.aY [.int r.1,.dp r.2.1]) [(1000,.box [.np 1000,.aJ 2] 99),(2,w5 r.2.2),(1001,.aE)] [2]:=by
 refine so func80 ntmps80 fun b hn=>?_;unfold tu at h;refine rB 1000 1 1001 320 ?_;refine S [3,3] ?_;refine cA (BD 1000 320) ?_;refine A [3] fun a h=>?_;refine Hu a ?_;exact Sr [3,18,7] [(2,14)]
def Ez {N a0 a1 r} (h:tw N a0 a1=some r):Spec prog 81 [(1000,.box [.np 1000,.aJ 1001] 99),(1001,w5 a0)] [.ptr 1000 0,.ik .u8 a1] (.dp r.1) [(1000,.box [.np 1000,.aJ 2] 99),(2,w5 r.2),(1001,.aE)] [2]:=by
 refine so func81 ntmps81 fun b hn=>?_;unfold tw at h;refine rB 1000 1 1001 320 ?_;refine S [3,3] ?_;refine cA (BD 1000 320) ?_;refine S [3] ?_;refine bS (oH .u8) [a1] ?_;refine A [] fun a h=>?_;refine aM a ?_;exact Sr [3,7] [(2,14)]
def tz {N a0 a1 r} (h:kz N a0 a1=some r):Spec prog 46 [(1000,.box [.np 1000,.aJ 1001] 99),(1001,w5 a0)] [.ptr 1000 0,.str a1] (.aY []) [(1000,.box [.np 1000,.aJ 2] 99),(2,w5 r),(1001,.aE)] [2]:=by
 refine so func46 ntmps46 fun c hn=>?_;unfold kz at h;refine rB 1000 1 1001 320 ?_;refine B [15,3] fun _ a h=>?_;refine cA (((Ey a).sw 1001 320).sw 2 501) ?_;refine B [5] fun _ b h=>?_;refine cA (((Ez b).sw 1001 501).sw 2 502) ?_;exact Sr [14] [(2,502)]
def mZ {N a0 a1 r} (h:U9 N a0 a1=some r):Spec prog 45 [(1000,.box [.np 1000,.aJ 1001] 99),(1001,w5 a0),(2000,GL)] [.ptr 1000 0,s3 a1] (.aY []) [(1000,.box [.np 1000,.aJ 2] 99),(2,w5 r),(1001,.aE),(2000,GL)] [2]:=by
 refine so func45 ntmps45 fun o hn=>?_;unfold U9 at h;refine rB 1000 1 1001 320 ?_;refine S [15,3] ?_;refine O5 fun e=>?_;refine LR e0 hn a0 (fun l k v=>Y9 N l k v) h (fun d v=>[(8,.int (d:Int))]) (fun d v=>[(320,w5 v)]) [0,6,7] [1000,1001,2000] [] nl (fun s=>[(320,w5 s)]) [0] [1000,1001,2000] ?_ ?_ ?_
 ·intro _ g d j h _;rw[Y9] at h;exact Sj [3,2,4,0,20]
 ·intro _ g d j m i h _ a _;rw[Y9] at h;refine S [3,2,4,0,1,2,6,3] ?_;refine Y7 a ?_;refine B [5] fun _ b h=>?_;refine cA (zY N _ _ b) ?_;refine B [] fun f c h=>?_;refine cA (((tz c).sw 1001 320).sw 2 501) ?_;refine S [5] ?_;refine ML (AN (V8 a e) ?_);exact le f [(320,501)]
 intro n h;exact Sr [14] [(2,320)]
def Fe {N a0 a1 r} (h:qw N a0 a1=some r):Spec prog 47 [(1000,.box [.np 1000,.aJ 1001] 99),(1001,w5 a0),(2000,GL)] [.ptr 1000 0,.fp (J2 a1)] (.aY []) [(1000,.box [.np 1000,.aJ 2] 99),(2,w5 r),(1001,.aE),(2000,GL)] [2]:=by
 refine so func47 ntmps47 fun u hn=>?_;unfold qw at h;refine rB 1000 1 1001 320 ?_;refine B [15,3] fun _ m h=>?_;refine cA (((tz m).sw 1001 320).sw 2 501) ?_;refine S [2] ?_;refine kd [0,1] [501,1000,1001,2000] ?_;refine S [8,13] ?_;refine bS ei [a1.args,a1.a8,a1.aU,(a1.code.length:Int)] ?_;refine B [] fun p n h=>?_;refine cF (((mZ n).sw 1001 501).sw 2 502) ?_;refine kd [0,1] [502,1000,1001,2000] ?_;refine S [3] ?_;refine O5 fun j=>?_;refine LR e0 hn p (fun l k v=>V6 N l k v) h (fun f v=>[(37,.int (f:Int))]) (fun f v=>[(502,w5 v)]) [0,35,36] [1000,1001,2000] [] nl (fun s=>[(502,w5 s)]) [0] [1000,1001,2000] ?_ ?_ ?_
 ·intro _ g f t h _;rw[V6] at h;exact Sj [3,2,4,0,20]
 ·intro _ g f t e i h _ b _;rw[V6] at h;refine S [3,2,4,0,1,2] ?_;refine J e0 hn h nl (fun s=>[(504,w5 s),(1000,.box [.np 1000,.aJ 504] 99)]) [0,35,36,37] [1001,2000] (fun _ h g=>?_) ?_
  ·refine S [6,3] ?_;refine Y7 b ?_;refine S [3] ?_;refine bS ei [e.op,e.a] ?_;refine B [] fun _ c h=>?_;refine cF (((mZ c).sw 1001 502).sw 2 503) ?_;refine S [3] ?_;refine Jk e0 hn h nl (fun s=>[(504,w5 s),(1000,.box [.np 1000,.aJ 504] 99)]) [0,35,36,37] [1001,2000] [] fun _ h g=>?_;refine I [4] ?_ ?_<;>intro _ h
   ·refine kd [0,5,35,36,37] [5,503,1000,1001,2000] ?_;refine B [5] fun _ d h=>?_;refine cA (((tz d).sw 1001 503).sw 2 504) ?_;exact je
   exact Sj [1] [(504,503)]
  intro o h;refine S [5] ?_;refine ML (AN (V8 b j) ?_);exact le o [(502,504)]
 intro q h;exact Sr [14] [(2,502)]
def Gg {N a0 r} (h:pQ N a0=some r):Spec prog 22 [(2000,GL)] [.agg (R4 a0)] (s5 r) [(2000,GL)] []:=by
 refine so func22 ntmps22 fun Γ hn=>?_;unfold pQ at h;refine S [3,3] ?_;refine j6.eA 13 [.np 13,.aL] rfl aT ?_;refine nB 13 1 501 1 5 ?_;refine kd [1,3] [1,13,501,2000] ?_;refine S [3,13] ?_;refine bS ei [a0.aB,(a0.a7.length:Int)] ?_;refine B [] fun Y K h=>?_;refine cF ((((mZ K).sw 1000 13).sw 1001 501).sw 2 502) ?_;refine S [2,3] ?_;refine O5 fun J=>?_;refine LR e0 hn Y (fun l k v=>lJ N l k v) h (fun E v=>[(25,.int (E:Int))]) (fun E v=>[(502,w5 v)]) [1,3,23,24] [1,13,2000] [] nl (fun s=>[(502,w5 s)]) [1,3] [1,13,2000] ?_ ?_ ?_
 ·intro _ g E Z h _;rw[lJ] at h;exact Sj [3,2,4,0,20]
 ·intro _ g E Z j F h _ d _;rw[lJ] at h;refine S [3,2,4,0,1,2,6,3] ?_;refine Y7 d ?_;refine B [3] fun _ t h=>?_;refine cA ((((tz t).sw 1000 13).sw 1001 502).sw 2 503) ?_;refine S [3,13] ?_;refine bS ei [j.aR,j.aG,(j.aC.length:Int)] ?_;refine B [] fun L u h=>?_;refine cF ((((mZ u).sw 1000 13).sw 1001 503).sw 2 504) ?_;refine kd [1,3,5,23,24,25] [1,5,13,504,2000] ?_;refine S [3] ?_;refine O5 fun o=>?_;refine LR e0 hn L (fun l k v=>lI N l k v) h (fun a v=>[(46,.int (a:Int))]) (fun a v=>[(504,w5 v)]) [1,3,23,24,25,44,45] [1,13,2000] [] nl (fun s=>[(504,w5 s)]) [1,3,23,24,25] [1,13,2000] ?_ ?_ ?_
  ·intro _ g a R h _;rw[lI] at h;exact Sj [3,2,4,0,20]
  ·intro _ g a R x30 G h _ e _;rw[lI] at h;refine S [3,2,4,0,1,2,6,3] ?_;refine Y7 e ?_;refine j6.gh (Gh.bC 7 7 rfl rfl rfl) (fun _=>?_);refine kd [1,3,7,23,24,25,44,45,46] [1,13,504,2000] ?_;refine B [5] fun M w h=>?_;refine cA ((((Fe w).sw 1000 13).sw 1001 504).sw 2 505) ?_;refine S [5] ?_;refine ML (AN (V8 e o) ?_);exact le M [(504,505)]
  intro T h;refine S [5] ?_;refine ML (AN (V8 d J) ?_);exact le T [(502,504)]
 intro v8 h;refine S [3,13] ?_;refine bS ei [(a0.heap.length:Int)] ?_;refine B [] fun O x h=>?_;refine cF ((((mZ x).sw 1000 13).sw 1001 502).sw 2 506) ?_;refine S [2,3] ?_;refine O5 fun p=>?_;refine LR e0 hn O (fun l k v=>lH N l k v) h (fun b v=>[(63,.int (b:Int))]) (fun b v=>[(506,w5 v)]) [3,61,62] [13,2000] [] nl (fun s=>[(506,w5 s)]) [3] [13,2000] ?_ ?_ ?_
 ·intro _ g b U h _;rw[lH] at h;exact Sj [3,2,4,0,20]
 ·intro _ g b U C H h _ f _;rw[lH] at h;refine S [3,2,4,0,1,2,6,3] ?_;refine Y7 f ?_;refine S [3,13] ?_;refine bS ei [C.cls,(C.aG.length:Int)] ?_;refine B [] fun P y h=>?_;refine cF ((((mZ y).sw 1000 13).sw 1001 506).sw 2 507) ?_;refine S [3] ?_;refine O5 fun q=>?_;refine LR e0 hn P (fun l k v=>lL N l k v) h (fun c v=>[(78,.int (c:Int))]) (fun c v=>[(507,w5 v)]) [3,61,62,63,76,77] [13,2000] [] nl (fun s=>[(507,w5 s)]) [3,61,62,63] [13,2000] ?_ ?_ ?_
  ·intro _ g c W h _;rw[lL] at h;exact Sj [3,2,4,0,20]
  ·intro _ g c W D I h _ i _;rw[lL] at h;refine S [3,2,4,0,1,2,6,3] ?_;refine Y7 i ?_;refine S [5] ?_;refine bS ei [D.k,D.n] ?_;refine B [] fun Q z h=>?_;refine cF ((((mZ z).sw 1000 13).sw 1001 507).sw 2 508) ?_;refine kd [3,61,62,63,76,77,78] [13,508,2000] ?_;refine S [5] ?_;refine ML (AN (V8 i q) ?_);exact le Q [(507,508)]
  intro X h;refine S [5] ?_;refine ML (AN (V8 f p) ?_);exact le X [(506,507)]
 intro V h;refine A [3] fun m h=>?_;refine cA (G0 V 13 506 m) ?_;exact Sr [7]
def u0 {N a0 r} (h:Q5 N a0=some r):Spec prog 85 [(1000,.box (W9 a0) 107),(2000,GL)] [.ptr 1000 0] (.str r.1) [(1000,.box (W9 r.2) 107),(2000,GL)] []:=by
 refine so func85 ntmps85 fun c hn=>?_;unfold Q5 at h;refine B [3,3] fun _ a h=>?_;refine cA (Fa N _ _ _ a) ?_;refine S [2,2] ?_;refine Jb 20 hn h [0,3,4] [1000,2000] (fun _ h g=>?_) ?_
 ·exact K5 [5] [0] [0]
 intro b h;exact k6 [4] [3,3,7] [1,3,3,7]
def M3 {N a0 r} (h:q8 N a0=some r):Spec prog 83 [(1000,.box (W9 a0) 107),(2000,GL)] [.ptr 1000 0] (.int r.1) [(1000,.box (W9 r.2) 107),(2000,GL)] []:=by
 refine so func83 ntmps83 fun f hn=>?_;unfold q8 at h;refine B [3,3] fun _ a h=>?_;refine cA (u0 a) ?_;refine B [3] fun _ b h=>?_;refine cA (strconv_Atoi_ok N _ _ b) ?_;refine S [2,2] ?_;refine Jb 20 hn h [0,4] [1000,2000] (fun _ h g=>?_) ?_
 ·refine Ij [5,10] [0] fun _ h=>?_;refine B [0] fun _ c h=>?_;refine cA (zY N _ _ c) ?_;exact Sj [0]
 intro e h;refine J e0 hn h nl (fun s=>[(1000,.box (W9 s) 107)]) [0,4] [2000] (fun _ h g=>?_) ?_
 ·exact K5 [4] [5] [1]
 intro d h;exact Sr [3,7]
def qu {N a0 a1 r} (h:L8 N a0 a1=some r):Spec prog 84 [(1000,.box (W9 a0) 107),(2000,GL)] [.ptr 1000 0,.int a1] (.int r.1) [(1000,.box (W9 r.2) 107),(2000,GL)] []:=by
 refine so func84 ntmps84 fun c hn=>?_;unfold L8 at h;refine B [3,3] fun _ a h=>?_;refine cA (M3 a) ?_;refine S [2,2] ?_;refine Jb 14 hn h [0,5] [1000,2000] (fun _ h g=>?_) ?_
 ·exact K5 [5] [0] [0]
 intro b h;exact k6 [4] [3,3,7] [1,3,7]
def Fg {N a0 r} (h:mi N a0=some r):Spec prog 86 [(1000,.box (W9 a0) 107),(2000,GL)] [.ptr 1000 0] (.agg (J2 r.1)) [(1000,.box (W9 r.2) 107),(2000,GL)] []:=by
 refine so func86 ntmps86 fun F hn=>?_;unfold mi at h;refine B [3,3] fun _ q h=>?_;refine cA (u0 q) ?_;refine B [] fun _ t h=>?_;refine cA (M3 t) ?_;refine B [] fun _ u h=>?_;refine cA (M3 u) ?_;refine B [] fun _ w h=>?_;refine cA (M3 w) ?_;refine B [2,3] fun C i h=>?_;refine cA (qu i) ?_;refine nB 3 4 501 5 55 ?_;refine j6.cP 15 rfl (fun c=>?_);refine LU e0 hn (C.2,([]:List Ins)) (fun l k v=>P5 N l k v.1 v.2) h (fun a v=>[(16,.int (a:Int))]) (fun a v=>[(501,cQ v.2),(1000,.box (W9 v.1) 107)]) [0,2,3,15] [2,3,2000] [] nl (fun s=>[(501,cQ s.2),(1000,.box (W9 s.1) 107)]) [0,2,3] [2,3,2000] ?_ ?_ ?_
 ·rintro _ g a ⟨x,o⟩ h _;rw[P5] at h;exact Sj [3,2,4,0,20]
 ·rintro _ g a ⟨x,o⟩ z h b _;rw[P5] at h;refine B [3,2,4,0,1,2,6,3] fun d j h=>?_;refine cA (M3 j) ?_;refine B [] fun e m h=>?_;refine cA (M3 m) ?_;refine S [2,3] ?_;refine J e0 hn h nl (fun s=>[(4,.box [.int d.1,.int e.1,.int (0:Int),.int (0:Int),.str s.2] 55),(1000,.box (W9 s.1) 107)]) [0,2,3,4,15,16] [2,3,501,2000] (fun _ h g=>?_) ?_
  ·refine I [4] ?_ ?_<;>intro _ h
   ·refine B [5] fun _ n h=>?_;refine cA (u0 n) ?_;exact je
   exact Sj [1]
  rintro⟨y,p⟩ h;refine S [5] ?_;refine bS bZ [(⟨d.1,e.1,(0:Int),(0:Int),p⟩:Ins)] ?_;refine A [] fun f h=>?_;refine aM f ?_;refine S [5] ?_;refine ML (AN (kh b c) ?_);exact le (y,(o++[(⟨d.1,e.1,(0:Int),(0:Int),p⟩:Ins)])) [(501,33)]
 rintro⟨D,E⟩ h;refine S [3] ?_;refine j6.ao 501 rfl ?_;exact Sr [7]
def Fi {N a0 r} (h:rA N a0=some r):Spec prog 51 [(1000,.box (W9 a0) 107),(2000,GL)] [.ptr 1000 0] (.agg (R4 r.1)) [(1000,.box (W9 r.2) 107),(2000,GL)] []:=by
 refine so func51 ntmps51 fun Γ hn=>?_;unfold rA at h;refine B [3,3] fun _ Y h=>?_;refine cA (M3 Y) ?_;refine B [2,3] fun r3 Z h=>?_;refine cA (qu Z) ?_;refine nB 3 0 501 4 81 ?_;refine j6.cP 10 rfl (fun J=>?_);refine LU e0 hn (r3.2,([]:List Cl)) (fun l k v=>T9 N l k v.1 v.2) h (fun X v=>[(11,.int (X:Int))]) (fun X v=>[(501,oc v.2),(1000,.box (W9 v.1) 107)]) [0,2,3,10] [2,3,2000] [] nl (fun s=>[(501,oc s.2),(1000,.box (W9 s.1) 107)]) [0,2,3] [2,3,2000] ?_ ?_ ?_
 ·rintro _ g X ⟨v6,v7⟩ h _;rw[T9] at h;exact Sj [3,2,4,0,20]
 ·rintro _ g X ⟨v6,v7⟩ n15 h d _;rw[T9] at h;refine B [3,2,4,0,1,2,6,3] fun K x h=>?_;refine cA (u0 x) ?_;refine B [] fun L y h=>?_;refine cA (M3 y) ?_;refine B [] fun M z h=>?_;refine cA (M3 z) ?_;refine B [2,3] fun r25 C h=>?_;refine cA (qu C) ?_;refine nB 4 3 502 5 27 ?_;refine j6.cP 21 rfl (fun j=>?_);refine LU e0 hn (r25.2,([]:List Me)) (fun l k v=>L6 N l k v.1 v.2) h (fun a v=>[(22,.int (a:Int))]) (fun a v=>[(502,kv v.2),(1000,.box (W9 v.1) 107)]) [0,2,3,4,10,11,21] [2,3,4,501,2000] [] nl (fun s=>[(502,kv s.2),(1000,.box (W9 s.1) 107)]) [0,2,3,4,10,11] [2,3,4,501,2000] ?_ ?_ ?_
  ·rintro _ g a ⟨v28,Q⟩ h _;rw[L6] at h;exact Sj [3,2,4,0,20]
  ·rintro _ g a ⟨v28,Q⟩ n37 h e _;rw[L6] at h;refine B [3,2,4,0,1,2,6,8] fun o D h=>?_;refine cA (Fg D) ?_;refine bS J2 [o.1] ?_;refine A [] fun q h=>?_;refine aM q ?_;refine S [5] ?_;refine ML (AN (kh e j) ?_);exact le (o.2,(Q++[o.1])) [(502,29)]
  rintro⟨v32,R⟩ h;refine S [5,12] ?_;refine bS fq [(⟨K.1,L.1,M.1,R⟩:Cl)] ?_;refine A [] fun t h=>?_;refine aM t ?_;refine S [5] ?_;refine ML (AN (kh d J) ?_);exact le (v32,(v7++[(⟨K.1,L.1,M.1,R⟩:Cl)])) [(501,36)]
 rintro⟨v10,v11⟩ h;refine B [2,3] fun r45 E h=>?_;refine cA (qu E) ?_;refine nB 3 1 503 2 92 ?_;refine j6.cP 40 rfl (fun m=>?_);refine LU e0 hn (r45.2,([]:List Ob)) (fun l k v=>R9 N l k v.1 v.2) h (fun b v=>[(41,.int (b:Int))]) (fun b v=>[(503,Eg v.2),(1000,.box (W9 v.1) 107)]) [0,2,3,40] [2,3,501,2000] [] nl (fun s=>[(503,Eg s.2),(1000,.box (W9 s.1) 107)]) [0,2,3] [2,3,501,2000] ?_ ?_ ?_
 ·rintro _ g b ⟨v48,T⟩ h _;rw[R9] at h;exact Sj [3,2,4,0,20]
 ·rintro _ g b ⟨v48,T⟩ n57 h f _;rw[R9] at h;refine B [3,2,4,0,1,2,6,3] fun O F h=>?_;refine cA (M3 F) ?_;refine B [2,3] fun r63 G h=>?_;refine cA (qu G) ?_;refine nB 5 1 504 2 29 ?_;refine j6.cP 47 rfl (fun n=>?_);refine LU e0 hn (r63.2,([]:List V)) (fun l k v=>K9 N l k v.1 v.2) h (fun c v=>[(48,.int (c:Int))]) (fun c v=>[(504,ia v.2),(1000,.box (W9 v.1) 107)]) [0,2,3,5,40,41,47] [2,3,5,501,503,2000] [] nl (fun s=>[(504,ia s.2),(1000,.box (W9 s.1) 107)]) [0,2,3,5,40,41] [2,3,5,501,503,2000] ?_ ?_ ?_
  ·rintro _ g c ⟨v66,U⟩ h _;rw[K9] at h;exact Sj [3,2,4,0,20]
  ·rintro _ g c ⟨v66,U⟩ n75 h i _;rw[K9] at h;refine B [3,2,4,0,1,2,6,8] fun P H h=>?_;refine cA (M3 H) ?_;refine B [] fun p I h=>?_;refine cA (M3 I) ?_;refine bS eV [(⟨P.1,p.1⟩:V)] ?_;refine A [] fun u h=>?_;refine aM u ?_;refine kd [0,2,3,5,40,41,47,48] [2,3,5,58,501,503,1000,2000] ?_;refine S [5] ?_;refine ML (AN (kh i n) ?_);exact le (p.2,(U++[(⟨P.1,p.1⟩:V)])) [(504,58)]
  rintro⟨v70,W⟩ h;refine S [5,12] ?_;refine bS hF [(⟨O.1,W⟩:Ob)] ?_;refine A [] fun w h=>?_;refine aM w ?_;refine S [5] ?_;refine ML (AN (kh f m) ?_);exact le (v70,(T++[(⟨O.1,W⟩:Ob)])) [(503,65)]
 rintro⟨v52,v53⟩ h;refine S [3] ?_;refine j6.ao 501 rfl ?_;refine j6.ao 503 rfl ?_;exact Sr [7]
def HQ {N a0 a1 r} (h:pW N a0 a1=some r):Spec prog 38 [] [.fp (R4 a0),.fp (J2 a1)] (.bool r) [] []:=by
 refine so func38 ntmps38 fun e hn=>?_;unfold pW at h;refine B [3,2,8] fun _ a h=>?_;refine cA (jW a) ?_;refine S [2] ?_;refine Jb 4 hn h [] [] (fun _ h g=>?_) ?_
 ·refine kd [0,1,6] [] ?_;refine I [8] ?_ ?_<;>intro _ h
  ·refine B [0] fun _ b h=>?_;refine G9 b ?_;refine B [0] fun _ c h=>?_;refine G9 c ?_;refine I [0] ?_ ?_<;>intro _ h
   ·refine I [0] ?_ ?_<;>intro _ h
    ·exact K5 [0] [0,13,0] [0]
    exact Sj [0]
   exact Sj [0]
  exact Sj [0]
 intro d h;exact Sr [7]
def HF {N a0 r} (h:uG N a0=some r):Spec prog 40 [] [.fp (R4 a0)] (.int r) [] []:=by
 refine so func40 ntmps40 fun t hn=>?_;unfold uG at h;refine S [3,2,3] ?_;refine O5 fun n=>?_;refine LR e1 hn () (fun l k v=>nH N a0 l k) h (fun j v=>[(13,.int (j:Int))]) (fun j v=>[]) [0,11,12] [] [] nl nl [] [] ?_ ?_ ?_
 ·intro _ g j _ h _;rw[nH] at h;exact Sj [3,2,4,0,20]
 ·intro _ g j _ s o h _ i _;rw[nH] at h;refine S [3,2,4,0,1,2,6,3] ?_;refine Y7 i ?_;refine S [2,2] ?_;refine Jb 46 hn h [0,4,11,12,13] [4] (fun _ h g=>?_) ?_
  ·refine kd [0,4,11,12,13] [4] ?_;refine I [8] ?_ ?_<;>intro _ h
   ·refine Ij [0] [0] fun _ h=>?_;refine Ij [0,13,0] [0] fun _ h=>?_;refine B [0,13,0] fun _ d h=>?_;refine cA (kI d) ?_;exact Sj [0]
   refine B [0,13] fun _ e h=>?_;refine cA (kI e) ?_;exact je
  intro p h;refine Ir [4] [3,7] fun _ h=>?_;refine S [1,3] ?_;refine O5 fun c=>?_;refine LR e1 hn () (fun l k v=>nM N a0 l k) h (fun a v=>[(50,.int (a:Int))]) (fun a v=>[]) [0,11,12,13,48,49] [] [] nl nl [0,11,12,13] [] ?_ ?_ ?_
  ·intro _ g a _ h _;rw[nM] at h;exact Sj [3,2,4,0,20]
  ·intro _ g a _ q m h _ b _;rw[nM] at h;refine S [3,2,4,0,1,2,6,3] ?_;refine Y7 b ?_;refine B [2,8,13] fun _ f h=>?_;refine cA (Am f) ?_;refine kd [0,7,11,12,13,48,49,50] [] ?_;refine Ir [3,4] [3,7] fun _ h=>?_;refine S [1,5] ?_;refine ML (AN (V8 b c) ?_);exact le () []
  rintro⟨⟩ h;refine S [5] ?_;refine ML (AN (V8 i n) ?_);exact le () []
 rintro⟨⟩ h;exact Sr [3,7]
def Gq {N a0 r} (h:pF N a0=some r):Spec prog 20 [] [.agg (R4 a0)] (.int r) [] []:=by
 refine so func20 ntmps20 fun T hn=>?_;unfold pF at h;refine B [3,3] fun F E h=>?_;refine cA (BA N _ E) ?_;refine S [2,2] ?_;refine Jb 31 hn h [1,3] [1,3] (fun _ h g=>?_) ?_
 ·refine Ij [5,13,13] [0] fun _ h=>?_;exact K5 [0,13,0] [0] [0,13,0]
 intro R h;refine Ir [4] [3,7] fun _ h=>?_;refine S [1,2,2] ?_;refine Jb 39 hn h [1,3] [1,3] (fun _ h g=>?_) ?_
 ·exact K5 [5] [0] [0]
 intro K h;refine Ir [4] [3,7] fun _ h=>?_;refine S [1,3,2,3] ?_;refine O5 fun o=>?_;refine LR e1 hn ([]:(List (ByteArray×Bool))) (fun l k v=>mz N F l k v) h (fun b v=>[(44,.int (b:Int))]) (fun b v=>[(40,.bd (MQ mJ v))]) [1,3,4,42,43] [1,3] [] nl nl [1,3] [1,3] ?_ ?_ ?_
 ·intro _ g b y h _;rw[mz] at h;exact Sj [3,2,4,0,20]
 ·intro _ g b y G z h _ d _;rw[mz] at h;refine S [3,2,4,0,1,2,6,3] ?_;refine Y7 d ?_;refine S [2,2] ?_;refine Jb 76 hn h [1,3,4,5,6,42,43,44] [1,3,6,40] (fun _ h g=>?_) ?_
  ·refine kd [1,3,4,5,6,42,43,44] [1,3,6,40] ?_;refine B [8] fun _ s h=>?_;refine cA (qo s) ?_;refine Ij [] [0] fun _ h=>?_;refine S [0] ?_;refine LX rfl rfl rfl rfl ?_;refine Ij [0] [0] fun _ h=>?_;refine I [0,13,0] ?_ ?_<;>intro _ h
   ·refine B [0] fun _ u h=>?_;refine G9 u ?_;exact Sj [0]
   exact Sj [0]
  intro L h;refine Ir [4] [3,7] fun _ h=>?_;refine A [1,3] fun n h=>?_;refine Hw rfl rfl n ?_;refine S [2] ?_;refine Jb 138 hn h [1,3,4,42,43,44] [1,3,40] (fun _ h g=>?_) ?_
  ·refine kd [1,3,4,5,6,42,43,44] [1,3,6,40] ?_;refine I [8,13] ?_ ?_<;>intro _ h
   ·refine B [0] fun _ w h=>?_;refine G9 w ?_;refine Ij [0] [0] fun _ h=>?_;refine Ij [0] [0] fun _ h=>?_;refine I [0,13,0] ?_ ?_<;>intro _ h
    ·refine Ij [0] [0] fun _ h=>?_;refine Ij [0] [0] fun _ h=>?_;refine I [0] ?_ ?_<;>intro _ h
     ·refine Ij [0] [0] fun _ h=>?_;exact K5 [0] [0] [0]
     exact K5 [0] [0] [0]
    exact K5 [0] [0] [0]
   refine I [0,13] ?_ ?_<;>intro _ h
   ·refine Ij [0] [0] fun _ h=>?_;refine Ij [0] [0] fun _ h=>?_;refine I [0] ?_ ?_<;>intro _ h
    ·refine Ij [0] [0] fun _ h=>?_;exact K5 [0] [0] [0]
    exact K5 [0] [0] [0]
   exact K5 [0] [0] [0]
  intro M h;refine Ir [4] [3,7] fun _ h=>?_;refine S [1,5] ?_;refine ML (AN (V8 d o) ?_);exact le (eC G.name true y) []
 rintro⟨⟩ h;refine S [2,3] ?_;refine O5 fun p=>?_;refine j6.gh (Gh.bC 3 3 rfl rfl rfl) (fun _=>?_);refine LR e1 hn () (fun l k v=>n4 N a0 F l k) h (fun a v=>[(143,.int (a:Int))]) (fun a v=>[]) [1,3,141,142] [1] [] nl nl [1] [1] ?_ ?_ ?_
 ·intro _ g a _ h _;rw[n4] at h;exact Sj [3,2,4,0,20]
 ·intro _ g a _ H C h _ e _;rw[n4] at h;refine S [3,2,4,0,1,2,6,3] ?_;refine Y7 e ?_;refine B [2,3] fun _ t h=>?_;refine cA (kI t) ?_;refine Ir [4] [3,7] fun _ h=>?_;refine I [1,2,3,13,4] ?_ ?_<;>intro _ h
  ·refine kd [] [] ?_;exact Sr [3,7]
  refine S [1] ?_;refine kd [1,3,7,8,141,142,143] [1,8] ?_;refine S [3] ?_;refine O5 fun q=>?_;refine LR e1 hn () (fun l k v=>n5 N a0 F a H l k) h (fun c v=>[(159,.int (c:Int))]) (fun c v=>[]) [1,3,7,8,141,142,143,157,158] [1,8] [] nl nl [1,3,141,142,143] [1] ?_ ?_ ?_
  ·intro _ g c _ h _;rw[n5] at h;exact Sj [3,2,4,0,20]
  ·intro _ g c _ Q D h _ f _;rw[n5] at h;refine S [3,2,4,0,1,2] ?_;refine J e1 hn h nl nl [1,3,7,8,141,142,143,157,158,159] [1,8] (fun _ h g=>?_) ?_
   ·refine S [6,3] ?_;refine Y7 f ?_;refine S [2,2] ?_;refine Jb 177 hn h [1,3,7,8,10,141,142,143,157,158,159] [1,8,10] (fun _ h g=>?_) ?_
    ·refine I [8] ?_ ?_<;>intro _ h
     ·refine B [0,12,0] fun _ x h=>?_;refine G9 x ?_;exact Sj [0]
     exact Sj [0]
    intro O h;refine Ir [4] [3,7] fun _ h=>?_;refine S [1,2,2] ?_;refine j6.gh (Gh.bC 10 10 rfl rfl rfl) (fun _=>?_);refine Jb 187 hn h [1,3,7,8,10,141,142,143,157,158,159] [1,8] (fun _ h g=>?_) ?_
    ·refine I [5] ?_ ?_<;>intro _ h
     ·refine I [0] ?_ ?_<;>intro _ h
      ·refine B [] fun _ i h=>?_;refine cA (HQ i) ?_;exact Sj [0]
      exact Sj [0]
     exact Sj [0]
    intro P h;refine Ij [4] [20] fun _ h=>?_;refine B [1,3] fun _ j h=>?_;refine cA (B0 j) ?_;refine kd [1,3,7,8,11,141,142,143,157,158,159] [1,8,11] ?_;refine Ir [3,4] [3,7] fun _ h=>?_;exact Sj [1]
   rintro⟨⟩ h;refine S [5] ?_;refine ML (AN (V8 f q) ?_);exact le () []
  rintro⟨⟩ h;refine S [5] ?_;refine ML (AN (V8 e p) ?_);exact le () []
 rintro⟨⟩ h;refine j6.gh (Gh.bC 1 1 rfl rfl rfl) (fun _=>?_);refine kd [1] [] ?_;refine B [3] fun _ m h=>?_;refine cA (HF m) ?_;exact Sr [7]
def Gf {N a0 r} (h:lW N a0=some r):Spec prog 24 [(2000,GL)] [s5 a0] (.aY [.agg (R4 r.1),.int r.2]) [(2000,GL)] []:=by
 refine so func24 ntmps24 fun d hn=>?_;unfold lW at h;refine S [3,3] ?_;refine Exists.intro a0 (AN rfl ?_);refine B [3] fun _ a h=>?_;refine cA ((Fi a).sw 1000 10) ?_;refine S [2,2] ?_;refine Jb 24 hn h [2,5] [2,5,2000] (fun _ h g=>?_) ?_
 ·exact K5 [5] [0] [0]
 intro c h;refine Ir [4] [3,7] fun _ h=>?_;refine B [1,2,3] fun _ b h=>?_;refine cA (Gq b) ?_;exact k6 [3,4] [3,7] [1,3,7]
def FW {N a0 r} (h:uf N a0=some r):Spec prog 68 [(1000,.box (ed a0) 45),(2000,GL)] [.ptr 1000 0] (.agg (iM r.1)) [(1000,.box (ed r.2) 45),(2000,GL)] []:=by
 refine so func68 ntmps68 fun b hn=>?_;unfold uf at h;refine Ir [3,2,3,13,4] [3,7] fun _ h=>?_;refine B [1,3] fun _ a h=>?_;refine cA (Gf a) ?_;refine S [2] ?_;refine kd [0,2,3,4] [2,3,1000,2000] ?_;refine Ir [3,4] [3,7] fun _ h=>?_;refine S [1,2,8,12,3] ?_;refine kd [0,2] [2,1000,2000] ?_;exact Sr [3,7]
def Ay {N a0 a1 r} (h:pI N a0 a1=some r):Spec prog 33 [(2000,GL)] [.agg (ed a0),.agg (nQ a1)] (.aY [.agg (ed r.1),.agg (iM r.2)]) [(2000,GL)] []:=by
 refine so func33 ntmps33 fun k hn=>?_;unfold pI at h;refine B [3,3] fun _ e h=>?_;refine cA (An e) ?_;refine I [2,3,6,3,4] ?_ ?_<;>intro _ h
 ·refine B [3] fun _ f h=>?_;refine cA (H2 f) ?_;refine S [2] ?_;refine kd [4,5,6,7,8,9] [4,5,6,7,2000] ?_;exact k6 [3,4] [3,7] [1,3,3,7]
 refine I [3,4] ?_ ?_<;>intro _ h
 ·refine B [3] fun _ i h=>?_;refine cA ((G1 i).sw 1000 6) ?_;refine S [2] ?_;refine kd [4,5,6,10] [4,5,6,10,2000] ?_;exact Sr [8,7]
 refine I [3,4] ?_ ?_<;>intro _ h
 ·refine kd [3,4,5,6] [3,4,5,6,2000] ?_;refine B [3] fun _ a h=>?_;refine cA ((FQ a).sw 1000 6) ?_;exact Sr [2,8,7]
 refine S [2] ?_;refine kd [2,3,4,5,6,17] [2,3,4,5,6,2000] ?_;refine S [3] ?_;refine Jb 59 hn h [2,3,4,5,6,17] [2,3,4,5,6,2000] (fun _ h g=>?_) ?_
 ·refine Ij [4] [1] fun _ h=>?_;refine S [3] ?_;refine iB 59 hn h [2,3,4,5,6,17] [2,3,4,5,6,2000] [] fun _ h g=>?_;exact K5 [4] [1] [5]
 intro j h;refine I [4] ?_ ?_<;>intro _ h
 ·refine B [3] fun _ b h=>?_;refine cA ((FI b).sw 1000 6) ?_;exact Sr [2,8,7]
 refine I [3,4] ?_ ?_<;>intro _ h
 ·refine B [3] fun _ c h=>?_;refine cA (Gg c) ?_;exact Sr [2,8,13,7]
 refine I [3,4] ?_ ?_<;>intro _ h
 ·refine B [3] fun _ d h=>?_;refine cA ((FW d).sw 1000 6) ?_;exact Sr [2,8,7]
 exact Sr [1,3,7]
def wN {N a0 r} (h:ib N a0=some r):Spec prog 17 [(2000,GL)] [Ef a0] (.aY [.agg (ed r.1),.aJ 0,.int r.2.2]) [(0,zI r.2.1),(2000,GL)] [0]:=by
 refine so func17 ntmps17 fun u hn=>?_;unfold ib at h;refine I [3,2,3,13,4] ?_ ?_<;>intro _ h
 ·refine S [3] ?_;refine nR 3 203 4 51 ?_;exact Sr [7] [(0,203)]
 refine B [1,3] fun n j h=>?_;refine cA (Af j) ?_;refine S [3,2,3] ?_;refine O5 fun i=>?_;refine nR 6 206 4 51 ?_;refine LR e0 hn (n,([]:List dS)) (fun l k v=>kC N l k v.1 v.2) h (fun e v=>[(18,.int (e:Int))]) (fun e v=>[(5,.box (ed v.1) 45),(206,zI v.2)]) [2,5,6,16,17] [2,2000] [] nl (fun s=>[(5,.box (ed s.1) 45),(206,zI s.2)]) [2,5,6] [2,2000] ?_ ?_ ?_
 ·rintro _ g e ⟨q,m⟩ h _;rw[kC] at h;exact Sj [3,2,4,0,20]
 ·rintro _ g e ⟨q,m⟩ t f h _ a _;rw[kC] at h;refine S [3,2,4,0,1,2,6,3] ?_;refine Y7 a ?_;refine B [3] fun b d h=>?_;refine cA (Ay d) ?_;refine kd [2,5,6,9,10,16,17,18] [2,5,9,10,206,2000] ?_;refine S [3,5] ?_;refine bS iM [b.2] ?_;refine A [] fun c h=>?_;refine aM c ?_;refine S [5] ?_;refine ML (AN (V8 a i) ?_);exact le (b.1,(m++[b.2])) [(206,32)]
 rintro⟨o,p⟩ h;exact Sr [3,7] [(0,206)]
def Fx {N a0 a1 r} (h:rE N a0 a1=some r):Spec prog 56 [] [oW a0,oW a1] (.bool r) [] []:=by
 refine so func56 ntmps56 fun i hn=>?_;unfold rE at h;refine Ir [3,2,3,13,13,4] [3,7] fun _ h=>?_;refine S [1,2,3] ?_;refine O5 fun d=>?_;refine LR e1 hn () (fun l k v=>mg N a1 l k) h (fun c v=>[(13,.int (c:Int))]) (fun c v=>[]) [0,1,12] [] [] nl nl [] [] ?_ ?_ ?_
 ·intro _ g c _ h _;rw[mg] at h;exact Sj [3,2,4,0,20]
 ·intro _ g c _ f e h _ a _;rw[mg] at h;refine S [3,2,4,0,1,2,6,3,2,8] ?_;refine Y7 a ?_;refine B [] fun _ b h=>?_;refine G9 b ?_;refine Ir [4] [3,7] fun _ h=>?_;refine S [1,5] ?_;refine ML (AN (V8 a d) ?_);exact le () []
 rintro⟨⟩ h;exact Sr [3,7]
def Fk {N a0 a1 r} (h:rD N a0 a1=some r):Spec prog 26 [] [.agg (R4 a0),.agg (R4 a1)] (.bool r) [] []:=by
 refine so func26 ntmps26 fun P hn=>?_;unfold rD at h;refine S [3,2,2] ?_;refine Jb 36 hn h [2,3] [2,3] (fun _ h g=>?_) ?_
 ·refine Ij [5] [0] fun _ h=>?_;exact K5 [0,13,0,13,0] [0] [0,13,0,13,0]
 intro O h;refine Ir [4] [3,7] fun _ h=>?_;refine S [1,2,3] ?_;refine O5 fun m=>?_;refine LR e1 hn () (fun l k v=>mc N a1 l k) h (fun b v=>[(40,.int (b:Int))]) (fun b v=>[]) [2,3,38,39] [2,3] [] nl nl [2,3] [2,3] ?_ ?_ ?_
 ·intro _ g b _ h _;rw[mc] at h;exact Sj [3,2,4,0,20]
 ·intro _ g b _ J z h _ e _;rw[mc] at h;refine S [3,2,4,0,1,2,6,3] ?_;refine Y7 e ?_;refine B [3] fun E s h=>?_;refine G9 s ?_;refine S [2,2] ?_;refine Jb 77 hn h [2,3,6,7,38,39,40] [2,3,6,7] (fun _ h g=>?_) ?_
  ·refine kd [2,3,6,7,38,39,40] [2,3,6,7] ?_;refine Ij [5] [0] fun _ h=>?_;refine Ij [0] [0] fun _ h=>?_;exact K5 [0] [0] [0,13,0,13,0]
  intro F h;refine Ir [4] [3,7] fun _ h=>?_;refine S [1,3] ?_;refine O5 fun n=>?_;refine LR e1 hn () (fun l k v=>ma N E l k) h (fun c v=>[(81,.int (c:Int))]) (fun c v=>[]) [2,3,7,38,39,40,79,80] [2,3,7] [] nl nl [2,3,38,39,40] [2,3] ?_ ?_ ?_
  ·intro _ g c _ h _;rw[ma] at h;exact Sj [3,2,4,0,20]
  ·intro _ g c _ K A h _ f _;rw[ma] at h;refine S [3,2,4,0,1,2,6,3] ?_;refine Y7 f ?_;refine B [3] fun _ t h=>?_;refine G9 t ?_;refine S [2] ?_;refine Jb 124 hn h [2,3,7,38,39,40,79,80,81] [2,3,7] (fun _ h g=>?_) ?_
   ·refine kd [2,3,7,9,10,38,39,40,79,80,81] [2,3,7,9,10] ?_;refine Ij [5] [0] fun _ h=>?_;refine Ij [0] [0] fun _ h=>?_;refine Ij [0] [0] fun _ h=>?_;refine Ij [0] [0] fun _ h=>?_;refine B [0] fun _ q h=>?_;refine cA (Fx q) ?_;exact Sj [0]
   intro G h;refine Ir [4] [3,7] fun _ h=>?_;refine S [1,5] ?_;refine ML (AN (V8 f n) ?_);exact le () []
  rintro⟨⟩ h;refine S [5] ?_;refine ML (AN (V8 e m) ?_);exact le () []
 rintro⟨⟩ h;refine S [2,3] ?_;refine O5 fun o=>?_;refine LR e1 hn () (fun l k v=>mb N a1 l k) h (fun a v=>[(130,.int (a:Int))]) (fun a v=>[]) [3,128,129] [3] [] nl nl [] [] ?_ ?_ ?_
 ·intro _ g a _ h _;rw[mb] at h;exact Sj [3,2,4,0,20]
 ·intro _ g a _ L C h _ i _;rw[mb] at h;refine S [3,2,4,0,1,2,6,3] ?_;refine Y7 i ?_;refine S [2,2] ?_;refine Jb 156 hn h [3,11,12,128,129,130] [3,12] (fun _ h g=>?_) ?_
  ·refine kd [3,11,12,128,129,130] [3,12] ?_;refine B [8] fun _ u h=>?_;refine G9 u ?_;refine Ij [] [0] fun _ h=>?_;refine B [0,13,0] fun _ w h=>?_;refine G9 w ?_;exact Sj [0,13,0]
  intro H h;refine Ir [4] [3,7] fun _ h=>?_;refine S [1,3] ?_;refine O5 fun p=>?_;refine LR e1 hn () (fun l k v=>mf N a1 a l k) h (fun d v=>[(160,.int (d:Int))]) (fun d v=>[]) [3,11,12,128,129,130,159] [3,12] [] nl nl [3,128,129,130] [3] ?_ ?_ ?_
  ·intro _ g d _ h _;rw[mf] at h;exact Sj [3,2,4,0,20]
  ·intro _ g d _ M D h _ j _;rw[mf] at h;refine S [3,2,4,0,1,2,6,3,2,8] ?_;refine Y7 j ?_;refine B [] fun _ x h=>?_;refine G9 x ?_;refine B [] fun _ y h=>?_;refine G9 y ?_;refine I [4] ?_ ?_<;>intro _ h
   ·refine kd [] [] ?_;exact Sr [3,7]
   refine S [1] ?_;refine kd [3,11,12,128,129,130,159,160] [3,12] ?_;refine S [5] ?_;refine ML (AN (V8 j p) ?_);exact le () []
  rintro⟨⟩ h;refine S [5] ?_;refine ML (AN (V8 i o) ?_);exact le () []
 rintro⟨⟩ h;exact Sr [3,7]
def GI {N r} (h:qm N =some r):Spec prog 32 [(2000,GL)] [] (.bool r) [(2000,GL)] []:=by
 refine so func32 ntmps32 fun k hn=>?_;unfold qm at h;refine S [3,3] ?_;refine bS eV [(⟨(3:Int),(5:Int)⟩:V)] ?_;refine bS nQ [(⟨(1:Int),(⟨#[65]⟩:ByteArray),(0:Int),(1:Int),(⟨BY,(0:Int),(0:Int),(0:Int),[]⟩:Me),(⟨(⟨(0:Int),(0:Int)⟩:V),BY,[]⟩:O9)⟩:O4),(⟨(3:Int),BY,(4:Int),(0:Int),(⟨BY,(0:Int),(0:Int),(0:Int),[]⟩:Me),(⟨(⟨(0:Int),(0:Int)⟩:V),BY,[]⟩:O9)⟩:O4),(⟨(7:Int),BY,(0:Int),(0:Int),(⟨BY,(0:Int),(0:Int),(0:Int),[]⟩:Me),(⟨(⟨(0:Int),(0:Int)⟩:V),BY,[]⟩:O9)⟩:O4),(⟨(4:Int),BY,(0:Int),(0:Int),(⟨BY,(0:Int),(0:Int),(0:Int),[]⟩:Me),(⟨(⟨(3:Int),(2:Int)⟩:V),(⟨#[43]⟩:ByteArray),[(⟨(3:Int),(5:Int)⟩:V)]⟩:O9)⟩:O4),(⟨(8:Int),BY,(0:Int),(0:Int),(⟨BY,(0:Int),(0:Int),(0:Int),[]⟩:Me),(⟨(⟨(0:Int),(0:Int)⟩:V),BY,[]⟩:O9)⟩:O4)] ?_;refine B [] fun _ e h=>?_;refine cF ((wN e).sw 0 17) ?_;refine kd [1,2,3] [1,17,2000] ?_;refine B [3] fun _ f h=>?_;refine cA (Af f) ?_;refine B [] fun _ i h=>?_;refine cA (Ay i) ?_;refine S [2] ?_;refine Jb 0 hn h [] [2000] (fun _ h g=>?_) ?_
 ·refine I [5] ?_ ?_<;>intro _ h
  ·refine I [0,13,0] ?_ ?_<;>intro _ h
   ·refine B [0] fun _ a h=>?_;refine U0 a ?_;refine S [0] ?_;refine J4 (l6 a).2 ?_;refine I [0] ?_ ?_<;>intro _ h
    ·refine B [0] fun _ b h=>?_;refine U0 b ?_;refine S [0] ?_;refine J4 (l6 b).2 ?_;refine I [0] ?_ ?_<;>intro _ h
     ·refine B [0] fun _ c h=>?_;refine U0 c ?_;refine S [0] ?_;refine J4 (l6 c).2 ?_;refine I [0] ?_ ?_<;>intro _ h
      ·refine I [0,13,0] ?_ ?_<;>intro _ h
       ·refine I [0] ?_ ?_<;>intro _ h
        ·refine I [0,13,0] ?_ ?_<;>intro _ h
         ·refine B [0] fun _ d h=>?_;refine cA (An d) ?_;exact Sj [0,13,0]
         exact Sj [0]
        exact Sj [0]
       exact Sj [0]
      exact Sj [0]
     exact Sj [0]
    exact Sj [0]
   exact Sj [0]
  exact Sj [0]
 intro j h;exact Sr [7]
def Ew {N a0 a1 r} (h:u5 N a0 a1=some r):Spec prog 7 [(2000,GL)] [Ef a0,s3 a1] (.bool r) [(2000,GL)] []:=by
 refine so func7 ntmps7 fun X hn=>?_;unfold u5 at h;refine B [3,2,3] fun _ E h=>?_;refine cA (GI E) ?_;refine Ir [4] [3,7] fun _ h=>?_;refine S [1,3] ?_;refine bS nQ ([]:List O4) ?_;refine A [] fun D h=>?_;refine aM D ?_;refine S [3,2,3,13] ?_;refine j6.cP 21 rfl (fun t=>?_);refine LU e0 hn ((([]:List O4)++a0),(0:Int)) (fun l k v=>X7 N a1 l k v.1 v.2) h (fun z v=>[(6,.int v.2),(22,.int (z:Int))]) (fun z v=>[(19,tn v.1)]) [0,1,5,21] [2000] [] nl (fun s=>[(19,tn s)]) [0,5] [2000] ?_ ?_ ?_
 ·rintro _ g z ⟨U,V⟩ h _;rw[X7] at h;exact Sj [3,2,4,0,20]
 ·rintro _ g z ⟨U,V⟩ M h m _;rw[X7] at h;refine S [3,2,4,0,1,2] ?_;refine J e0 hn h (fun s=>[(6,.int s.2)]) (fun s=>[(19,tn s.1)]) [0,1,5,21,22] [2000] (fun _ h g=>?_) ?_
  ·refine S [6,3,2] ?_;refine Jb 46 hn h [0,1,5,6,7,21,22] [19,2000] (fun _ h g=>?_) ?_
   ·refine B [5] fun _ c h=>?_;refine U0 c ?_;refine J4 (l6 c).2 ?_;refine Ij [] [0] fun _ h=>?_;refine B [0] fun _ d h=>?_;refine U0 d ?_;refine S [0] ?_;refine J4 (l6 d).2 ?_;refine Ij [0] [0] fun _ h=>?_;refine B [0] fun _ e h=>?_;refine U0 e ?_;refine S [0] ?_;refine J4 (l6 e).2 ?_;exact Sj [0]
   intro P h;refine Jk e0 hn h (fun s=>[(6,.int s.2)]) (fun s=>[(19,tn s.1)]) [0,1,5,21,22] [2000] [] fun _ h g=>?_;refine I [4] ?_ ?_<;>intro _ h
   ·refine S [2,2] ?_;refine Jb 64 hn h [0,1,5,6,7,21,22] [19,2000] (fun _ h g=>?_) ?_
    ·refine I [5,13] ?_ ?_<;>intro _ h
     ·refine B [0] fun _ u h=>?_;refine G9 u ?_;refine I [0] ?_ ?_<;>intro _ h
      ·refine B [0] fun _ w h=>?_;refine G9 w ?_;exact Sj [0]
      exact Sj [0]
     exact Sj [0]
    intro Q h;refine J e0 hn h nl (fun s=>[(19,tn s)]) [0,1,5,6,21,22] [2000] (fun _ h g=>?_) ?_
    ·refine I [4] ?_ ?_<;>intro _ h
     ·refine B [5] fun L x h=>?_;refine G9 x ?_;refine B [12] fun a f h=>?_;refine U0 f ?_;refine sM (l6 f).2 (⟨(wr ((4:Int)+L)),a.name,a.aI,a.aG,a.aK,a.call⟩:O4) ?_;exact je
     exact Sj [1]
    intro R h;exact Sj [5,12]
   exact Sj [1]
  rintro⟨H,K⟩ h;refine S [5] ?_;refine ML (AN (kh m t) ?_);exact le (H,K) []
 intro O h;refine B [3] fun F o h=>?_;refine cA ((wN o).sw 0 79) ?_;refine j6.ao 19 rfl ?_;refine kd [5,8,9,10] [8,79,2000] ?_;refine B [3] fun G p h=>?_;refine cA ((wN p).sw 0 85) ?_;refine S [2,2] ?_;refine Jb 106 hn h [9,12] [79,85,2000] (fun _ h g=>?_) ?_
 ·refine Ij [5] [0] fun _ h=>?_;refine Ij [0,13,0,13,0] [0] fun _ h=>?_;refine B [0] fun _ q h=>?_;refine cA (Fk q) ?_;exact Sj [0]
 intro T h;refine Ir [4] [3,7] fun _ h=>?_;refine S [1,2,3] ?_;refine O5 fun n=>?_;refine LR e1 hn () (fun l k v=>X8 N F G l k) h (fun b v=>[(109,.int (b:Int))]) (fun b v=>[]) [9,12,108] [79,85,2000] [] nl nl [] [2000] ?_ ?_ ?_
 ·intro _ g b _ h _;rw[X8] at h;exact Sj [3,2,4,0,20]
 ·intro _ g b _ W C h _ y _;rw[X8] at h;refine B [3,2,4,0,1,2,6,3,2,8] fun _ i h=>?_;refine U0 i ?_;refine J4 (l6 i).2 ?_;refine B [] fun _ j h=>?_;refine U0 j ?_;refine J4 (l6 j).2 ?_;refine Ir [4] [3,7] fun _ h=>?_;refine S [1,5] ?_;refine ML (AN (V8 y n) ?_);exact le () []
 rintro⟨⟩ h;exact Sr [3,7]
end
end Go.Proofs.YtibjcppjfkamhaaGreatDoor
