import Derived.Test.YtibjcppjfkamhaaGreatDoorC
set_option linter.unusedVariables false
set_option linter.defProp false
set_option linter.unusedSimpArgs false
namespace Go.Proofs.YtibjcppjfkamhaaGreatDoor
open Go.RowKit Go.Proofs.Tryz
open _root_.And renaming intro->AN
open _root_.Bool renaming and_eq_true->It
open _root_.ByteArray renaming empty->IS
open _root_.List renaming getElem?_eq_some_iff->OR,replicate->QH,map->QK,mem_of_getElem?->QM,all_eq_true->QP,length_map->QU,getElem?_set->QV,getElem?_append_right->QY,length_take->Qo
open _root_.Nat renaming ble->AT,le_refl->NO,le_of_ble_eq_true->QW,mul_le_mul_right->Qr,ble_eq_true_of_le->Qx
open _root_.Or renaming inl->IN
section
set_option maxHeartbeats 40000000
set_option maxRecDepth 100000
set_option maxRecDepth 100000
def Cx{N r}(h:vx N =some r):Sp 30 [] (.agg (M8 r)):=by
 refine so func30 ntmps30 fun b u=>?_;refine B [3,3] fun _ a h=>?_;refine cA (DZ N _ a) ?_;exact Sr [7]
def nt(N:Nat)(l:List V)(r:List V)(h:oJ N l=some r):Sq 121 [] [.sl 2 (QK eV l)] (.aN 0) [(0,.row 2 (QK eV r) 29)] [0]:=by
  obtain⟨d,h⟩:=jW h;obtain rfl:=oI h;refine Spec.of fQ func121 rfl ntmps121 D6 rfl rfl rfl fun f u=>?_;refine eB u ?_;refine j5.seq (j5.seq (j5.ops (kT u 1 ?_)));refine cw.gh (Gh.nil 3 rfl) ?_;rintro⟨b,c⟩;refine kT u 1 (cw.done ?_);refine Gx ?_;refine pK (fun a=>?_) (fun a=>?_)
  · have e:l=[]:=by simpa using c a
    subst e;refine eB u ?_;refine j5.ba 2 5 2 29 rfl rfl rfl ?_;refine Gx ?_;exact⟨[(0,5)],_,rfl,rfl,⟨rfl,trivial⟩,rfl,rfl,rfl,rfl,rfl⟩
  · refine Gx ?_;refine Exists.intro [] (AN trivial ?_);refine AN (by have:=QW d;simpa using this) ?_;refine Exists.intro (QK eV l) (AN (O7 _) ?_);refine Gx ?_;exact⟨[(0,7)],_,rfl,rfl,⟨rfl,trivial⟩,rfl,rfl,rfl,rfl,rfl⟩
def vp{N a0 r}(h:ow N a0=some r):Sq 92 [] [cC a0] (.aN 0) [(0,d92 r [] 1),(1,.aK)] [0,1]:=by
 refine so func92 ntmps92 fun o u=>?_;refine S [3,3,2,3] ?_;refine F6 fun i=>?_;refine nR 3 203 2 92 ?_;refine gC (gT 203 501 [(1,(2,29))]) ?_;refine LR e0 u ([]:List Ob) (fun l k v=>mI N l k v) h (fun f v=>[(8,.int (f:Int))]) (fun f v=>[(203,d92 v [] 501)]) [3,6,7] [501] [] nl (fun s=>[(203,d92 s [] 501)]) [3] [501] ?_ ?_ ?_
 ·intro _ g f m h _;rw[mI] at h;exact Sj [3,2,4,0,20]
 ·intro _ g f m e j h _ a _;rw[mI] at h;refine S [3,2,4,0,1,2,6,3] ?_;refine H6 a ?_;refine B [3] fun b d h=>?_;refine cA ((nt N _ _ d).sw 0 14) ?_;refine S [5,11] ?_;refine Exists.intro [(1,(2,29))] (Exists.intro (eQ (⟨e.cls,b⟩:Ob)) (Exists.intro [(14,eS b)] (AN rfl (AN rfl (AN rfl (AN G7 (AN G7 (AN rfl (AN rfl ?_)))))))));refine A [] fun c h=>?_;refine aD c ?_;refine S [5] ?_;refine IN (AN (G6 a i) ?_);exact le (m++[(⟨e.cls,b⟩:Ob)]) [(203,19),(501,719)]
 intro n h;exact Sr [3,7] [(0,203),(1,501)]
def IF(N:Nat)(l:List Ins)(r:List Ins)(h:vH N l=some r):Sq 122 [] [.sl 5 (QK bh l)] (.aN 0) [(0,.row 5 (QK bh r) 55)] [0]:=by
  obtain⟨d,h⟩:=jW h;obtain rfl:=oI h;refine Spec.of fQ func122 rfl ntmps122 D6 rfl rfl rfl fun f u=>?_;refine eB u ?_;refine j5.seq (j5.seq (j5.ops (kT u 1 ?_)));refine cw.gh (Gh.nil 3 rfl) ?_;rintro⟨b,c⟩;refine kT u 1 (cw.done ?_);refine Gx ?_;refine pK (fun a=>?_) (fun a=>?_)
  · have e:l=[]:=by simpa using c a
    subst e;refine eB u ?_;refine j5.ba 2 5 5 55 rfl rfl rfl ?_;refine Gx ?_;exact⟨[(0,5)],_,rfl,rfl,⟨rfl,trivial⟩,rfl,rfl,rfl,rfl,rfl⟩
  · refine Gx ?_;refine Exists.intro [] (AN trivial ?_);refine AN (by have:=QW d;simpa using this) ?_;refine Exists.intro (QK bh l) (AN (O7 _) ?_);refine Gx ?_;exact⟨[(0,7)],_,rfl,rfl,⟨rfl,trivial⟩,rfl,rfl,rfl,rfl,rfl⟩
def vN{N a0 r}(h:og N a0=some r):Sp 93 [.agg (I4 a0)] (.agg (I4 r)):=by
 refine so func93 ntmps93 fun b u=>?_;refine B [3,3] fun _ a h=>?_;refine cA ((IF N _ _ a).sw 0 5) ?_;refine S [3] ?_;refine j5.aY 5 rfl ?_;exact Sr [7]
def jz{N a0 r}(h:iY N a0=some r):Sq 60 [] [.agg (M3 a0)] (.agg [Y1 r.a7,.aN 0,.int r.aC]) [(0,d92 r.heap [] 1),(1,.aK)] [0,1]:=by
 refine so func60 ntmps60 fun D u=>?_;refine B [3,2,8] fun _ w h=>?_;refine cA (((vp w).sw 0 11).sw 1 711) ?_;refine S [2,3] ?_;refine F6 fun t=>?_;refine nB 3 0 501 4 81 ?_;refine LR e0 u ([]:List Cl) (fun l k v=>mG N l k v) h (fun p v=>[(18,.int (p:Int))]) (fun p v=>[(501,lT v)]) [2,3,16,17] [2,3,11,711] [] nl (fun s=>[(501,lT s)]) [2,3] [2,3,11,711] ?_ ?_ ?_
 ·intro _ g p y h _;rw[mG] at h;exact Sj [3,2,4,0,20]
 ·intro _ g p y a x h _ c _;rw[mG] at h;refine S [3,2,4,0,1,2,6,3] ?_;refine H6 c ?_;refine S [3,2,3] ?_;refine F6 fun i=>?_;refine nR 6 206 5 27 ?_;refine LR e0 u ([]:List Me) (fun l k v=>mH N l k v) h (fun b v=>[(25,.int (b:Int))]) (fun b v=>[(206,gH v)]) [2,3,5,6,16,17,18,23,24] [2,3,5,11,501,711] [] nl (fun s=>[(206,gH s)]) [2,3,5,6,16,17,18] [2,3,5,11,501,711] ?_ ?_ ?_
  ·intro _ g b n h _;rw[mH] at h;exact Sj [3,2,4,0,20]
  ·intro _ g b n z q h _ d _;rw[mH] at h;refine S [3,2,4,0,1,2,6,3] ?_;refine H6 d ?_;refine B [5] fun m j h=>?_;refine cA (vN j) ?_;refine bS I4 [m] ?_;refine A [] fun e h=>?_;refine aM e ?_;refine kd [2,3,5,6,16,17,18,23,24,25] [2,3,5,11,33,501,711] ?_;refine S [5] ?_;refine IN (AN (G6 d i) ?_);exact le (n++[m]) [(206,33)]
  intro o h;refine S [3,5,12] ?_;refine bS eA [(⟨a.name,a.aQ,a.aG,o⟩:Cl)] ?_;refine A [] fun f h=>?_;refine aM f ?_;refine S [5] ?_;refine IN (AN (G6 c t) ?_);exact le (y++[(⟨a.name,a.aQ,a.aG,o⟩:Cl)]) [(501,41)]
 intro C h;refine S [3] ?_;refine j5.aY 501 rfl ?_;exact Sr [7] [(0,11),(1,711)]
def ub(N:Nat)(l:List Ln)(r:List Ln)(h:Y3 N l=some r):Sq 94 [] [.sl 2 (QK O6 l)] (.aN 0) [(0,.row 2 (QK O6 r) 167)] [0]:=by
  obtain⟨d,h⟩:=jW h;obtain rfl:=oI h;refine Spec.of fQ func94 rfl ntmps94 D6 rfl rfl rfl fun f u=>?_;refine eB u ?_;refine j5.seq (j5.seq (j5.ops (kT u 1 ?_)));refine cw.gh (Gh.nil 3 rfl) ?_;rintro⟨b,c⟩;refine kT u 1 (cw.done ?_);refine Gx ?_;refine pK (fun a=>?_) (fun a=>?_)
  · have e:l=[]:=by simpa using c a
    subst e;refine eB u ?_;refine j5.ba 2 5 2 167 rfl rfl rfl ?_;refine Gx ?_;exact⟨[(0,5)],_,rfl,rfl,⟨rfl,trivial⟩,rfl,rfl,rfl,rfl,rfl⟩
  · refine Gx ?_;refine Exists.intro [] (AN trivial ?_);refine AN (by have:=QW d;simpa using this) ?_;refine Exists.intro (QK O6 l) (AN (O7 _) ?_);refine Gx ?_;exact⟨[(0,7)],_,rfl,rfl,⟨rfl,trivial⟩,rfl,rfl,rfl,rfl,rfl⟩
def vr{N a0 r}(h:ou N a0=some r):Sq 61 [] [fW a0] (.aN 0) [(0,jf r)] [0]:=by
 refine so func61 ntmps61 fun o u=>?_;refine S [3,3,2,3] ?_;refine F6 fun i=>?_;refine nR 3 203 6 159 ?_;refine LR e0 u ([]:List Ce) (fun l k v=>mJ N l k v) h (fun f v=>[(8,.int (f:Int))]) (fun f v=>[(203,jf v)]) [3,6,7] [] [] nl (fun s=>[(203,jf s)]) [3] [] ?_ ?_ ?_
 ·intro _ g f m h _;rw[mJ] at h;exact Sj [3,2,4,0,20]
 ·intro _ g f m a j h _ b _;rw[mJ] at h;refine S [3,2,4,0,1,2,6,3] ?_;refine H6 b ?_;refine B [3] fun e d h=>?_;refine cA ((ub N _ _ d).sw 0 14) ?_;refine S [5] ?_;refine bS fJ [(⟨a.site,a.aC,a.many,e⟩:Ce)] ?_;refine A [] fun c h=>?_;refine aM c ?_;refine S [5] ?_;refine IN (AN (G6 b i) ?_);exact le (m++[(⟨a.site,a.aC,a.many,e⟩:Ce)]) [(203,19)]
 intro n h;exact Sr [3,7] [(0,203)]
def Dd{N a0 r}(h:sK N a0=some r):Sq 62 [] [fR a0] (.aN 0) [(0,mq r)] [0]:=by
 refine so func62 ntmps62 fun o u=>?_;refine S [3,3,2,3] ?_;refine F6 fun i=>?_;refine nR 3 203 4 162 ?_;refine LR e0 u ([]:List Tl) (fun l k v=>mK N l k v) h (fun f v=>[(8,.int (f:Int))]) (fun f v=>[(203,mq v)]) [3,6,7] [] [] nl (fun s=>[(203,mq s)]) [3] [] ?_ ?_ ?_
 ·intro _ g f m h _;rw[mK] at h;exact Sj [3,2,4,0,20]
 ·intro _ g f m e j h _ a _;rw[mK] at h;refine S [3,2,4,0,1,2,6,3] ?_;refine H6 a ?_;refine B [3] fun d c h=>?_;refine cA ((ub N _ _ c).sw 0 14) ?_;refine S [5] ?_;refine bS fx [(⟨e.site,d⟩:Tl)] ?_;refine A [] fun b h=>?_;refine aM b ?_;refine S [5] ?_;refine IN (AN (G6 a i) ?_);exact le (m++[(⟨e.site,d⟩:Tl)]) [(203,19)]
 intro n h;exact Sr [3,7] [(0,203)]
def Hy(N:Nat)(l:List Int)(r:List Int)(h:yO N l=some r):Sq 63 [] [.sl 1 (QK (ph .u8) l)] (.aN 0) [(0,.row 1 (QK (ph .u8) r) 5)] [0]:=by
  obtain⟨d,h⟩:=jW h;obtain rfl:=oI h;refine Spec.of fQ func63 rfl ntmps63 D6 rfl rfl rfl fun f u=>?_;refine eB u ?_;refine j5.seq (j5.seq (j5.ops (kT u 1 ?_)));refine cw.gh (Gh.nil 3 rfl) ?_;rintro⟨b,c⟩;refine kT u 1 (cw.done ?_);refine Gx ?_;refine pK (fun a=>?_) (fun a=>?_)
  · have e:l=[]:=by simpa using c a
    subst e;refine eB u ?_;refine j5.ba 2 5 1 5 rfl rfl rfl ?_;refine Gx ?_;exact⟨[(0,5)],_,rfl,rfl,⟨rfl,trivial⟩,rfl,rfl,rfl,rfl,rfl⟩
  · refine Gx ?_;refine Exists.intro [] (AN trivial ?_);refine AN (by have:=QW d;simpa using this) ?_;refine Exists.intro (QK (ph .u8) l) (AN (O7 _) ?_);refine Gx ?_;exact⟨[(0,7)],_,rfl,rfl,⟨rfl,trivial⟩,rfl,rfl,rfl,rfl,rfl⟩
def D3{N a0 r}(h:sq N a0=some r):Sp 29 [.agg (M8 a0)] (.agg (M8 r)):=by
 refine so func29 ntmps29 fun e u=>?_;refine B [3,2,8] fun _ a h=>?_;refine cA (((jz a).sw 0 5).sw 1 705) ?_;refine B [] fun _ b h=>?_;refine cA ((vr b).sw 0 8) ?_;refine B [] fun _ c h=>?_;refine cA ((Dd c).sw 0 11) ?_;refine B [] fun _ d h=>?_;refine cA ((Hy N _ _ d).sw 0 14) ?_;refine j5.az 5 rfl ?_;refine j5.aY 8 rfl ?_;refine j5.aY 11 rfl ?_;refine j5.aY 14 rfl ?_;exact Sr [7]
def sV{N a0 r}(h:lX N a0=some r):Sp 36 [.str a0] (.bool r):=by
 refine so func36 ntmps36 fun m u=>?_;refine S [3,2,2] ?_;refine Jb 11 u h [0] [] (fun _ h g=>?_) ?_
 ·exact E9 [5,18] [0] [0,18,0]
 intro j h;refine Ir [4] [3,7] fun _ h=>?_;refine S [1,2,3,18] ?_;refine j5.bx 13 rfl (fun b=>?_);refine LU e1 u () (fun l k v=>oS N a0 l k) h (fun e v=>[(14,.int (e:Int))]) (fun e v=>[]) [0,13] [] [] nl nl [] [] ?_ ?_ ?_
 ·intro _ g e _ h _;rw[oS] at h;exact Sj [3,2,4,0,20]
 ·intro _ g e _ f h a _;rw[oS] at h;refine S [3,2,4,0,1,2,6,3,2] ?_;refine Jb 26 u h [0,13,14] [] (fun _ h g=>?_) ?_
  ·refine B [5] fun _ c h=>?_;refine tS c ?_;refine Ij [10] [0] fun _ h=>?_;refine B [0] fun _ d h=>?_;refine tS d ?_;exact Sj [0,10,0]
  intro i h;refine Ir [4] [3,7] fun _ h=>?_;refine S [1,5] ?_;refine IN (AN (fT a b) ?_);exact le () []
 rintro⟨⟩ h;exact Sr [3,7]
def HG{N a0 g1 r}(h:xp N a0 g1=some r){m:Nat}{a:List AV}(f:∀d n,g1 d=some n->Sp m [.agg (eA d),.fp a] (.bool n)):Sp 123 [Y1 a0,.fn m [.fp a]] (.int r):=by
 refine so func123 ntmps123 fun p u=>?_;refine S [3,2,3] ?_;refine F6 fun i=>?_;refine LR e1 u () (fun l k v=>G5 N g1 l k) h (fun e v=>[(8,.int (e:Int))]) (fun e v=>[]) [0,1,7] [] [] nl nl [] [] ?_ ?_ ?_
 ·intro _ g e _ h _;rw[G5] at h;exact Sj [3,2,4,0,20]
 ·intro _ g e _ o j h _ c _;rw[G5] at h;refine S [3,2,4,0,1,2,6,3,3] ?_;refine H6 c ?_;refine B [] fun _ b h=>?_;refine cA (f _ _ b) ?_;refine Ir [4] [3,7] fun _ h=>?_;refine S [1,5] ?_;refine IN (AN (G6 c i) ?_);exact le () []
 rintro⟨⟩ h;exact Sr [3,7]
def HE{N a0 g1 r}(h:P5 N a0 g1=some r){e:Nat}{a:List AV}(c:∀b f,g1 b=some f->Sp e [.agg (eA b),.fp a] (.bool f)):Sp 95 [Y1 a0,.fn e [.fp a]] (.bool r):=by
 refine so func95 ntmps95 fun i u=>?_;refine B [3,3] fun _ d h=>?_;refine cA (HG d c) ?_;exact Sr [7]
def Iz{N a0 b0 r}(h:sn N a0 b0=some r):Sp 96 [.agg (eA a0),.fp [.str b0]] (.bool r):=by
 refine so func96 ntmps96 fun a u=>?_;exact Sr [3,3,7]
def oP{N a0 a1 r}(h:jK N a0 a1=some r):Sp 37 [.agg (M3 a0),.int a1] (.int r):=by
 refine so func37 ntmps37 fun n u=>?_;refine S [3,3,2,3] ?_;refine LF e0 u (a1,(0:Int),(0:Int)) (fun l v=>qR N a0 l v.1 v.2.1 v.2.2) h (fun v=>[(1,.int v.1),(5,.int v.2.1),(6,.int v.2.2)]) (fun v=>[]) [2] [2] [] (fun s=>[(5,.int s)]) nl [] [] ?_ ?_
 ·rintro _ g ⟨k,i,j⟩ e h;rw[qR] at h;refine S [2,2] ?_;refine Jb 22 u h [1,2,5,6] [2] (fun _ h g=>?_) ?_
  ·refine I [5] ?_ ?_<;>intro _ h
   ·exact E9 [0,13,0] [0,13,0] [0]
   exact Sj [0]
  intro f h;refine I [4] ?_ ?_<;>intro _ h
  ·refine B [1,2,6,3] fun c a h=>?_;refine E5 a ?_;refine B [12,5] fun d b h=>?_;refine E5 b ?_;refine kd [1,2,5,6] [2] ?_;refine S [5,12] ?_;exact le (d.aQ,(wr (i+c.aG)),(wr (j+(1:Int)))) []
  exact Sj [20]
 intro m h;exact Sr [3,7]
def JN{N a0 r}(h:vw N a0=some r):Sq 60 [] [.agg (M3 a0)] (.agg [.aN 0,cC r.heap,.int r.aC]) [(0,lT r.a7)] [0]:=by
 refine so func60 ntmps60 fun D u=>?_;refine B [3,2,8] fun _ w h=>?_;refine cA (((vp w).sw 0 11).sw 1 711) ?_;refine S [2,3] ?_;refine F6 fun t=>?_;refine nB 3 0 501 4 81 ?_;refine LR e0 u ([]:List Cl) (fun l k v=>ln N l k v) h (fun p v=>[(18,.int (p:Int))]) (fun p v=>[(501,lT v)]) [2,3,16,17] [2,3,11,711] [] nl (fun s=>[(501,lT s)]) [2,3] [2,3,11,711] ?_ ?_ ?_
 ·intro _ g p y h _;rw[ln] at h;exact Sj [3,2,4,0,20]
 ·intro _ g p y a x h _ c _;rw[ln] at h;refine S [3,2,4,0,1,2,6,3] ?_;refine H6 c ?_;refine S [3,2,3] ?_;refine F6 fun i=>?_;refine nR 6 206 5 27 ?_;refine LR e0 u ([]:List Me) (fun l k v=>lj N l k v) h (fun b v=>[(25,.int (b:Int))]) (fun b v=>[(206,gH v)]) [2,3,5,6,16,17,18,23,24] [2,3,5,11,501,711] [] nl (fun s=>[(206,gH s)]) [2,3,5,6,16,17,18] [2,3,5,11,501,711] ?_ ?_ ?_
  ·intro _ g b n h _;rw[lj] at h;exact Sj [3,2,4,0,20]
  ·intro _ g b n z q h _ d _;rw[lj] at h;refine S [3,2,4,0,1,2,6,3] ?_;refine H6 d ?_;refine B [5] fun m j h=>?_;refine cA (vN j) ?_;refine bS I4 [m] ?_;refine A [] fun e h=>?_;refine aM e ?_;refine kd [2,3,5,6,16,17,18,23,24,25] [2,3,5,11,33,501,711] ?_;refine S [5] ?_;refine IN (AN (G6 d i) ?_);exact le (n++[m]) [(206,33)]
  intro o h;refine S [3,5,12] ?_;refine bS eA [(⟨a.name,a.aQ,a.aG,o⟩:Cl)] ?_;refine A [] fun f h=>?_;refine aM f ?_;refine S [5] ?_;refine IN (AN (G6 c t) ?_);exact le (y++[(⟨a.name,a.aQ,a.aG,o⟩:Cl)]) [(501,41)]
 intro C h;refine S [3] ?_;refine j5.az 11 rfl ?_;exact Sr [7] [(0,501)]
def KD{N a0 a1 a2 a3 r}(h:uz N a0 a1 a2 a3=some r):Sp 64 [.agg (M3 a0),.str a1,.int a2,.int a3] (.aX [.agg (M3 r.1),.int r.2.1,.int r.2.2]):=by
 refine so func64 ntmps64 fun l u=>?_;refine S [3,2,6,2] ?_;refine j5.gh (Gh.ao 5 5 rfl rfl rfl) (fun _=>?_);refine Jb 12 u h [2,3,4,5,8] [4,8] (fun _ h g=>?_) ?_
 ·refine B [5] fun _ d h=>?_;refine cA (sV d) ?_;refine Ij [] [0] fun _ h=>?_;refine B [0] fun _ e h=>?_;refine cA (HE e (fun _ _ f=>Iz f)) ?_;exact Sj [0]
 intro j h;refine Ir [4] [3,7] fun _ h=>?_;refine S [2] ?_;refine Jb 23 u h [2,3,4,5,8] [4,8] (fun _ h g=>?_) ?_
 ·exact E9 [5] [0] [0,13,0]
 intro k h;refine Ir [4] [3,7] fun _ h=>?_;refine S [2] ?_;refine Jb 34 u h [2,3,4,5,8] [4,8] (fun _ h g=>?_) ?_
 ·refine Ij [5] [0] fun _ h=>?_;refine B [0] fun _ b h=>?_;refine cA (oP b) ?_;refine Ij [0,12,0] [0] fun _ h=>?_;exact E9 [0] [0] [0]
 intro i h;refine Ir [4] [3,7] fun _ h=>?_;refine Ir [3,13,4] [3,7] fun _ h=>?_;refine B [1,3] fun _ c h=>?_;refine cA ((JN c).sw 0 61) ?_;refine S [3,12] ?_;refine bS eA [(⟨a1,a2,a3,[]⟩:Cl)] ?_;refine A [] fun a h=>?_;refine aM a ?_;refine S [2] ?_;refine kd [4,8,11] [4,8,11,69] ?_;refine S [8,13] ?_;refine j5.aY 69 rfl ?_;exact Sr [7]
def rz{N a0 a1 r}(h:lu N a0 a1=some r):Sp 107 [.int a0,.int a1] (.bool r):=by
 refine so func107 ntmps107 fun b u=>?_;refine S [3,2] ?_;refine Jb 4 u h [] [] (fun _ h g=>?_) ?_
 ·exact E9 [5] [0] [0]
 intro a h;exact Sr [7]
def Iy{N a0 a1 a2 a3 r}(h:vm N a0 a1 a2 a3=some r):Sp 74 [.fp (M3 a0),.int a1,.fp (I4 a2),.agg (bh a3)] (.int r):=by
 refine so func74 ntmps74 fun q u=>?_;refine S [3,3,3,2,3] ?_;refine J e1 u h (fun s=>[(10,.bool s.1),(11,.bool s.2)]) nl [7] [7] (fun _ h g=>?_) ?_
 ·refine S [6,2,3] ?_;refine Jb 14 u h [0,1,2,7,9,11,13] [7] (fun _ h g=>?_) ?_
  ·refine Ij [4] [1] fun _ h=>?_;refine Ij [3,4] [1] fun _ h=>?_;refine Ij [3,4] [1] fun _ h=>?_;refine Ij [3,4] [1] fun _ h=>?_;refine Ij [3,4] [1] fun _ h=>?_;refine kd [0,1,2,7,9,11,13] [7] ?_;exact E9 [3,4] [1] [5]
  intro p h;refine Ij [4] [5] fun _ h=>?_;refine I [3,4] ?_ ?_<;>intro _ h
  ·refine B [8] fun _ a h=>?_;refine cA (rz a) ?_;exact je
  refine S [2,3] ?_;refine Jb 35 u h [0,1,2,7,9,11,13] [7] (fun _ h g=>?_) ?_
  ·exact E9 [4] [1] [5]
  intro j h;refine I [4] ?_ ?_<;>intro _ h
  ·refine B [8] fun _ b h=>?_;refine cA (rz b) ?_;exact je
  refine S [2,3] ?_;refine Jb 46 u h [0,1,2,7,9,11,13] [7] (fun _ h g=>?_) ?_
  ·exact E9 [4] [1] [5]
  intro k h;refine I [4] ?_ ?_<;>intro _ h
  ·refine B [8] fun _ c h=>?_;refine cA (oP c) ?_;refine B [] fun _ d h=>?_;refine cA (rz d) ?_;exact je
  refine I [3,4] ?_ ?_<;>intro _ h
  ·exact E9 [5] [0] [0]
  refine I [3,4] ?_ ?_<;>intro _ h
  ·refine kd [0,7,11] [7] ?_;refine Ij [8] [0] fun _ h=>?_;exact E9 [0] [0,13,0] [0]
  refine I [3,4] ?_ ?_<;>intro _ h
  ·refine B [5] fun _ e h=>?_;refine cA (rz e) ?_;exact je
  refine S [2,3] ?_;refine Jb 94 u h [2,7,9,11] [7] (fun _ h g=>?_) ?_
  ·exact E9 [4] [1] [5]
  intro l h;refine I [4] ?_ ?_<;>intro _ h
  ·refine B [8,13] fun _ f h=>?_;refine cA (rz f) ?_;exact je
  exact Sr [3,7]
 rintro⟨n,o⟩ h;refine Ir [2,6,3,4] [3,7] fun _ h=>?_;refine S [2] ?_;refine Jb 109 u h [] [] (fun _ h g=>?_) ?_
 ·refine I [5] ?_ ?_<;>intro _ h
  ·refine B [0] fun _ i h=>?_;refine cA (sV i) ?_;refine Ij [0] [0] fun _ h=>?_;refine I [0] ?_ ?_<;>intro _ h
   ·refine Ij [0] [0] fun _ h=>?_;exact E9 [0] [0] [0]
   exact E9 [0] [0] [0]
  refine I [0] ?_ ?_<;>intro _ h
  ·refine Ij [0] [0] fun _ h=>?_;exact E9 [0] [0] [0]
  exact E9 [0] [0] [0]
 intro m h;exact gI [4] [3,7] [1,3,7]
def Jd{N a0 r}(h:w8 N a0=some r):Sp 108 [.agg (bh a0)] (.aX [.int r.1,.int r.2]):=by
 refine so func108 ntmps108 fun b u=>?_;refine S [3,2,3,6,2,3] ?_;refine Jb 6 u h [1,5] [1] (fun _ h g=>?_) ?_
 ·refine Ij [4] [1] fun _ h=>?_;refine Ij [3,4] [1] fun _ h=>?_;refine Ij [3,4] [1] fun _ h=>?_;exact E9 [3,4] [1] [5]
 intro a h;refine Ir [4] [3,7] fun _ h=>?_;refine Ir [3,4] [3,7] fun _ h=>?_;refine Ir [3,4] [3,12,7] fun _ h=>?_;exact gI [3,4] [3,7] [1,3,7]
def Il{N a0 r}(h:vi N a0=some r):Sq 75 [] [.agg (I4 a0)] (.aX [.aN 0,.agg (wL r.2)]) [(0,w3 r.1)] [0]:=by
 refine so func75 ntmps75 fun X u=>?_;refine A [3,3,13] fun C h=>?_;refine j8 (enc:=bY) (x:=(0:Int)) C aT ?_;refine S [2,3,13] ?_;refine j5.bx 17 rfl (fun w=>?_);refine LU e0 u (QH (a0.code.length:Int).toNat (0:Int)) (fun l k v=>lg N l k v) h (fun z v=>[(18,.int (z:Int))]) (fun z v=>[(15,w3 v)]) [1,3,4,17] [1,3] [] nl (fun s=>[(15,w3 s)]) [1,3,4] [1,3] ?_ ?_ ?_
 ·intro _ g z H h _;rw[lg] at h;exact Sj [3,2,4,0,20]
 ·intro _ g z H K h m _;rw[lg] at h;refine B [3,2,4,0,1,2,6,3,5] fun _ c h=>?_;refine R7 c ?_;refine sM (l6 c).2 (-1:Int) ?_;refine S [5] ?_;refine IN (AN (fT m w) ?_);exact le (H.set ((z:Int).toNat) (-1:Int)) []
 intro W h;refine S [3] ?_;refine bS wi [(⟨(0:Int),(0:Int)⟩:eI)] ?_;refine S [2] ?_;refine LF e1 u (W,[(⟨(0:Int),(0:Int)⟩:eI)]) (fun l v=>oD N a0 l v.1 v.2) h (fun v=>[]) (fun v=>[(15,w3 v.1),(26,BK v.2)]) [1,3,4,6] [1,3] [] nl (fun s=>[(15,w3 s)]) [3,4] [3] ?_ ?_
 ·rintro _ g ⟨M,O⟩ L h;rw[oD] at h;refine I [2,3,13,4] ?_ ?_<;>intro _ h
  ·refine S [1] ?_;refine J e1 u h (fun s=>[(6,.aN 39)]) (fun s=>[(15,w3 s.1),(39,BK s.2)]) [1,3,4] [1,3] (fun _ h g=>?_) ?_
   ·refine B [6,2,8] fun F d h=>?_;refine R7 d ?_;refine S [17] ?_;refine Q9 (l6 d).2 ?_;refine B [] fun n e h=>?_;refine R7 e ?_;refine S [17] ?_;refine Q9 (l6 e).2 ?_;refine kd [1,3,4,6,7,8] [1,3,15,26] ?_;refine A [3] fun o h=>?_;refine OS o rfl rfl ?_;refine S [2,2] ?_;refine Jb 48 u h [1,3,4,6,7,8] [1,3,15,39] (fun _ h g=>?_) ?_
    ·exact E9 [5] [0] [0,13,0]
    intro Q h;refine I [4] ?_ ?_<;>intro _ h
    ·refine S [2,8,13] ?_;refine nR 2 202 1 3 ?_;exact Sr [7] [(0,202)]
    refine B [1,2,3] fun _ f h=>?_;refine R7 f ?_;refine Q9 (l6 f).2 ?_;refine I [4] ?_ ?_<;>intro _ h
    ·refine B [2,3] fun _ i h=>?_;refine R7 i ?_;refine Q9 (l6 i).2 ?_;refine I [4] ?_ ?_<;>intro _ h
     ·refine kd [3,7] [3] ?_;refine S [3] ?_;refine nR 2 202 1 3 ?_;exact Sr [7] [(0,202)]
     exact Sj [1,20]
    refine B [1,3] fun _ j h=>?_;refine R7 j ?_;refine sM (l6 j).2 n.f1 ?_;refine B [3] fun G y h=>?_;refine E5 y ?_;refine kd [1,3,4,6,7,8,9] [1,3,9,15,39] ?_;refine B [3] fun b t h=>?_;refine cA (Jd t) ?_;refine S [2,2] ?_;refine Jb 91 u h [1,3,4,6,7,8,9,10,11] [1,3,9,15,39] (fun _ h g=>?_) ?_
    ·refine Ij [5] [0] fun _ h=>?_;exact E9 [0] [0] [0]
    intro R h;refine I [4] ?_ ?_<;>intro _ h
    ·refine S [3] ?_;refine nR 2 202 1 3 ?_;exact Sr [7] [(0,202)]
    refine I [1,3,12,12,2,3,4] ?_ ?_<;>intro _ h
    ·refine kd [3,7] [3] ?_;refine S [3] ?_;refine nR 2 202 1 3 ?_;exact Sr [7] [(0,202)]
    refine S [1,2,2] ?_;refine Jb 110 u h [1,3,4,6,7,8,9] [1,3,9,15,39] (fun _ h g=>?_) ?_
    ·refine kd [1,3,4,6,7,8,9] [1,3,9,15,39] ?_;exact E9 [5] [0] [0]
    intro T h;refine J e0 u h (fun s=>[(6,.aN 117)]) (fun s=>[(117,BK s)]) [1,3,4,8,9] [1,3,9,15] (fun _ h g=>?_) ?_
    ·refine I [4] ?_ ?_<;>intro _ h
     ·refine S [5,12] ?_;refine bS wi [(⟨(wr (F.f0+(1:Int))),(wr (n.f1+(wr (b.2-b.1))))⟩:eI)] ?_;refine A [] fun p h=>?_;refine aM p ?_;exact je
     exact Sj [1] [(117,39)]
    intro U h;refine S [2] ?_;refine Jb 125 u h [1,3,4,6,8,9] [1,3,9,15,117] (fun _ h g=>?_) ?_
    ·exact E9 [5] [0] [0]
    intro V h;refine I [4] ?_ ?_<;>intro _ h
    ·refine S [5] ?_;refine bS wi [(⟨G.a,(wr (n.f1+(wr (b.2-b.1))))⟩:eI)] ?_;refine A [] fun q h=>?_;refine aM q ?_;exact je [(39,132)]
    exact Sj [1] [(39,117)]
   rintro⟨D,E⟩ h;exact le (D,E) [(26,39)]
  exact Sj [20]
 intro P h;exact Sr [3,7] [(0,15)]
def D4{N a0 a1 a2 r}(h:tG N a0 a1 a2=some r):Sp 39 [.agg (M3 a0),.int a1,.agg (I4 a2)] (.agg (wL r)):=by
 refine so func39 ntmps39 fun p u=>?_;refine S [3,2,6,2] ?_;refine Jb 12 u h [1,3,5,6] [3,5,6] (fun _ h g=>?_) ?_
 ·exact E9 [5] [0] [0,13,0]
 intro n h;refine Ir [4] [3,7] fun _ h=>?_;refine B [3] fun _ i h=>?_;refine cA (sV i) ?_;refine Ir [4] [3,7] fun _ h=>?_;refine S [2] ?_;refine Jb 29 u h [1,3,5,6] [3,5,6] (fun _ h g=>?_) ?_
 ·refine Ij [5] [0] fun _ h=>?_;refine Ij [0] [0] fun _ h=>?_;exact E9 [0] [0] [0]
 intro o h;refine Ir [4] [3,7] fun _ h=>?_;refine Ir [3,4] [3,7] fun _ h=>?_;refine S [2] ?_;refine Jb 54 u h [1,3,5,6] [3,5,6] (fun _ h g=>?_) ?_
 ·exact E9 [5,13] [0] [0,13,0]
 intro j h;refine Ir [4] [3,7] fun _ h=>?_;refine S [1,2,3] ?_;refine F6 fun c=>?_;refine j5.gh (Gh.ao 3 3 rfl rfl rfl) (fun _=>?_);refine j5.gh (Gh.ao 5 5 rfl rfl rfl) (fun _=>?_);refine LR e1 u () (fun l k v=>oa N a0 a1 a2 l k) h (fun a v=>[(69,.int (a:Int))]) (fun a v=>[]) [1,3,5,6,67,68] [6] [] nl nl [5,6] [6] ?_ ?_ ?_
 ·intro _ g a _ h _;rw[oa] at h;exact Sj [3,2,4,0,20]
 ·intro _ g a _ m f h _ b _;rw[oa] at h;refine S [3,2,4,0,1,2,6,3] ?_;refine H6 b ?_;refine B [3] fun _ d h=>?_;refine cA (Iy d) ?_;refine kd [1,3,5,6,7,9,67,68,69] [6] ?_;refine Ir [3,4] [3,7] fun _ h=>?_;refine S [1,5] ?_;refine IN (AN (G6 b c) ?_);exact le () []
 rintro⟨⟩ h;refine B [3] fun _ e h=>?_;refine cA ((Il e).sw 0 85) ?_;exact Sr [3,7]
def Bb{N a0 a1 g2 r}(h:F4 N a0 a1 g2=some r){o:Nat}(c:∀j k p,g2 j k=some p->Sp o [.agg (I4 j),.str k] (.int p)):Sp 106 [Pv a0,.str a1,.fn o []] (.aX [.int r.1,.bool r.2]):=by
 refine so func106 ntmps106 fun z u=>?_;refine S [3,3,13,3,2] ?_;refine LF e0 u ((0:Int),(a0.length:Int)) (fun l v=>y8 N a0 a1 g2 l v.1 v.2) h (fun v=>[(9,.int v.1),(10,.int v.2)]) (fun v=>[]) [0,1,2,8] [] [] (fun s=>[(9,.int s)]) nl [0,1,2,8] [] ?_ ?_
 ·rintro _ g ⟨x,y⟩ q h;rw[y8] at h;refine I [2,3,4] ?_ ?_<;>intro _ h
  ·refine S [1] ?_;refine J e0 u h (fun s=>[(9,.int s.1),(10,.int s.2)]) nl [0,1,2,8] [] (fun _ h g=>?_) ?_
   ·refine A [6,3,12] fun a h=>?_;refine iQ a ?_;refine A [10,10] fun b h=>?_;refine iQ b ?_;refine B [3] fun _ f h=>?_;refine E5 f ?_;refine B [] fun _ d h=>?_;refine cA (c _ _ _ d) ?_;refine I [4] ?_ ?_<;>intro _ h
    ·refine kd [0,1,2,8,10,11] [] ?_;exact Sj [5,12]
    refine kd [0,1,2,8,9,11] [] ?_;exact Sj [5]
   rintro⟨m,n⟩ h;exact le (m,n) []
  exact Sj [20]
 intro w h;refine S [2] ?_;refine J e0 u h (fun s=>[(6,.int w),(7,.bool s)]) nl [] [] (fun _ h g=>?_) ?_
 ·refine I [5] ?_ ?_<;>intro _ h
  ·refine B [0] fun _ i h=>?_;refine E5 i ?_;refine B [0] fun _ e h=>?_;refine cA (c _ _ _ e) ?_;exact Sj [0]
  exact Sj [0]
 intro t h;exact Sr [7]
def C3{N a0 r}(h:cmp_isNaN_string N a0=some r):Sp 145 [.str a0] (.bool r):=by
 refine so func145 ntmps145 fun a u=>?_;exact Sr [3,3,7]
def Hq{N a0 a1 r}(h:yM N a0 a1=some r):Sp 105 [.str a0,.str a1] (.int r):=by
 refine so func105 ntmps105 fun c u=>?_;refine B [3,3] fun _ a h=>?_;refine cA (C3 a) ?_;refine B [3] fun _ b h=>?_;refine cA (C3 b) ?_;refine I [2,3,4] ?_ ?_<;>intro _ h
 ·exact gI [2,3,4] [3,7] [1,3,7]
 refine Ir [1,2,3,4] [3,7] fun _ h=>?_;refine Ir [1,2,3,4] [3,7] fun _ h=>?_;refine I [1,2,3,4] ?_ ?_<;>intro _ h
 ·refine kd [] [] ?_;exact Sr [3,7]
 refine S [1] ?_;refine kd [] [] ?_;exact Sr [3,7]
def Cs{N a0 a1 r}(h:ki N a0 a1=some r):Sp 72 [.agg (I4 a0),.str a1] (.int r):=by
 refine so func72 ntmps72 fun b u=>?_;refine B [3,3] fun _ a h=>?_;refine cA (Hq a) ?_;exact Sr [7]
def JX{N a0 r}(h:w7 N a0=some r):Sq 60 [] [.agg (M3 a0)] (.agg [.aN 0,cC r.heap,.int r.aC]) [(0,d81 r.a7 [] 1),(1,.aK)] [0,1]:=by
 refine so func60 ntmps60 fun D u=>?_;refine B [3,2,8] fun _ w h=>?_;refine cA (((vp w).sw 0 11).sw 1 711) ?_;refine S [2,3] ?_;refine F6 fun t=>?_;refine nB 3 0 501 4 81 ?_;refine gC (gT 501 502 [(3,(5,27))]) ?_;refine LR e0 u ([]:List Cl) (fun l k v=>ll N l k v) h (fun p v=>[(18,.int (p:Int))]) (fun p v=>[(501,d81 v [] 502)]) [2,3,16,17] [2,3,11,502,711] [] nl (fun s=>[(501,d81 s [] 502)]) [2,3] [2,3,11,502,711] ?_ ?_ ?_
 ·intro _ g p y h _;rw[ll] at h;exact Sj [3,2,4,0,20]
 ·intro _ g p y a x h _ c _;rw[ll] at h;refine S [3,2,4,0,1,2,6,3] ?_;refine H6 c ?_;refine S [3,2,3] ?_;refine F6 fun j=>?_;refine nR 6 206 5 27 ?_;refine LR e0 u ([]:List Me) (fun l k v=>lq N l k v) h (fun b v=>[(25,.int (b:Int))]) (fun b v=>[(206,gH v)]) [2,3,5,6,16,17,18,23,24] [2,3,5,11,501,502,711] [] nl (fun s=>[(206,gH s)]) [2,3,5,6,16,17,18] [2,3,5,11,501,502,711] ?_ ?_ ?_
  ·intro _ g b o h _;rw[lq] at h;exact Sj [3,2,4,0,20]
  ·intro _ g b o z q h _ d _;rw[lq] at h;refine S [3,2,4,0,1,2,6,3] ?_;refine H6 d ?_;refine B [5] fun n m h=>?_;refine cA (vN m) ?_;refine bS I4 [n] ?_;refine A [] fun f h=>?_;refine aM f ?_;refine kd [2,3,5,6,16,17,18,23,24,25] [2,3,5,11,33,501,502,711] ?_;refine S [5] ?_;refine IN (AN (G6 d j) ?_);exact le (o++[n]) [(206,33)]
  intro e h;refine S [3,5,11] ?_;refine Exists.intro [(3,(5,27))] (Exists.intro (eA (⟨a.name,a.aQ,a.aG,e⟩:Cl)) (Exists.intro [(206,gH e)] (AN rfl (AN rfl (AN rfl (AN G7 (AN G7 (AN rfl (AN rfl ?_)))))))));refine A [] fun i h=>?_;refine aD i ?_;refine S [5] ?_;refine IN (AN (G6 c t) ?_);exact le (y++[(⟨a.name,a.aQ,a.aG,e⟩:Cl)]) [(501,41),(502,741)]
 intro C h;refine S [3] ?_;refine j5.az 11 rfl ?_;exact Sr [7] [(0,501),(1,502)]
def IX{N a0 a1 a2 r}(h:vY N a0 a1 a2=some r):Sp 97 [.agg (M3 a0),.int a1,.agg (I4 a2)] (.aX [.agg (M3 r.1),.int r.2]):=by
 refine so func97 ntmps97 fun x u=>?_;refine S [3,2,2] ?_;refine Jb 20 u h [1,3,5,6] [3,5,6] (fun _ h g=>?_) ?_
 ·exact E9 [5] [0] [0,13,0]
 intro w h;refine Ir [4] [3,7] fun _ h=>?_;refine B [1,2,8] fun _ n h=>?_;refine E5 n ?_;refine B [] fun q m h=>?_;refine cA (Bb m (fun _ _ _ p=>Cs p)) ?_;refine S [2,2] ?_;refine Jb 45 u h [1,3,5,6,8,9] [3,5,6] (fun _ h g=>?_) ?_
 ·refine kd [1,3,5,6,8,9] [3,5,6] ?_;refine I [5] ?_ ?_<;>intro _ h
  ·refine B [0] fun _ k h=>?_;refine E5 k ?_;exact Sj [0,13,0]
  exact Sj [0]
 intro t h;refine Ir [4] [3,7] fun _ h=>?_;refine B [1,3] fun _ f h=>?_;refine cA (((JX f).sw 0 48).sw 1 748) ?_;refine B [3] fun e a h=>?_;refine iD a ?_;refine S [2,3] ?_;refine J e0 u h nl (fun s=>[(48,d81 s [] 501),(501,.aK)]) [5,6,8,10,11] [5,6,10] (fun _ h g=>?_) ?_
 ·refine I [4] ?_ ?_<;>intro _ h
  ·refine gC (gD 48 501 502 a1.toNat 3 (l6 a).2) ?_;refine kd [5,6,8,10,11] [5,6,10,48,501,502] ?_;refine S [5] ?_;refine hD (l6 a).2 ?_;refine bS I4 [(⟨IS,(0:Int),(0:Int),(0:Int),[]⟩:Me)] ?_;refine B [] fun o i h=>?_;refine cA ((((I3 N _ _ _ _ i).sw 1000 501).sw 1032 62).sw 0 63) ?_;refine hS (l6 a).2 ?_;refine gE (gA 48 63 503 a1.toNat 3 ((l6 a).2) (⟨e.name,e.aQ,e.aG,o⟩:Cl)) ?_;exact je [(501,503)]
  exact Sj [1] [(501,748)]
 intro v h;refine B [2] fun c b h=>?_;refine gC (gD 48 504 505 a1.toNat 3 b) ?_;refine kd [5,6,8,10,11] [5,6,10,48,504,505] ?_;refine S [8] ?_;refine hD b ?_;refine B [] fun l j h=>?_;refine cA (vN j) ?_;refine B [] fun _ d h=>?_;refine R7 d ?_;refine sM (l6 d).2 l ?_;refine gC (gA 48 504 506 a1.toNat 3 b (⟨c.name,c.aQ,c.aG,(c.aB.set q.1.toNat l)⟩:Cl)) ?_;refine kd [6,10] [6,10,48,506] ?_;refine S [3,12,3] ?_;refine j5.az 48 rfl ?_;exact Sr [7]
def He{N a0 a1 a2 r}(h:vS N a0 a1 a2=some r):Sq 65 [(1000,.box (M8 a0) 45)] [.ptr 1000 0,.int a1,.agg (I4 a2)] (.agg (gp r.1)) [(1000,.box (M8 r.2) 45)] []:=by
 refine so func65 ntmps65 fun d u=>?_;refine B [3,2,2,8] fun _ a h=>?_;refine cA (D4 a) ?_;refine Ir [3,4] [3,7] fun _ h=>?_;refine B [1,2,8] fun _ b h=>?_;refine cA (IX b) ?_;refine S [2] ?_;refine kd [0,6,8,9] [6,8,1000] ?_;refine S [3] ?_;refine J e0 u h nl (fun s=>[(1000,.box (M8 s) 45)]) [0,6,9] [6] (fun _ h g=>?_) ?_
 ·exact E9 [4] [5] [1]
 intro c h;exact Sr [3,7]
def De{N a0 a1 a2 r}(h:jM N a0 a1 a2=some r):Sq 98 [] [cC a0,.int a1,.int a2] (.aX [.aN 0,.agg (eV r.2.1),.int r.2.2]) [(0,d92 r.1 [] 1),(1,.aK)] [0,1]:=by
 refine so func98 ntmps98 fun d u=>?_;refine I [3,2,3,13,4] ?_ ?_<;>intro _ h
 ·refine S [3] ?_;refine nR 6 206 2 92 ?_;refine gC (gT 206 501 [(1,(2,29))]) ?_;exact Sr [7] [(0,206),(1,501)]
 refine B [1,2,8] fun _ c h=>?_;refine cA (((vp c).sw 0 14).sw 1 714) ?_;refine A [] fun a h=>?_;refine j8 (enc:=eV) (x:=(⟨(0:Int),(0:Int)⟩:V)) a aT ?_;refine S [11] ?_;refine Exists.intro [(1,(2,29))] (Exists.intro (eQ (⟨a1,(QH (max a2 (0:Int)).toNat (⟨(0:Int),(0:Int)⟩:V))⟩:Ob)) (Exists.intro [(18,eS (QH (max a2 (0:Int)).toNat (⟨(0:Int),(0:Int)⟩:V)))] (AN rfl (AN rfl (AN rfl (AN G7 (AN G7 (AN rfl (AN rfl ?_)))))))));refine A [] fun b h=>?_;refine aD b ?_;exact Sr [13,7] [(0,21),(1,721)]
def Iu{N a0 a1 r}(h:vj N a0 a1=some r):Sq 66 [(1000,.box (M8 a0) 45)] [.ptr 1000 0,.int a1] (.agg (gp r.1)) [(1000,.box (M8 r.2) 45)] []:=by
 refine so func66 ntmps66 fun d u=>?_;refine S [3,2,2] ?_;refine Jb 23 u h [0,1,4] [4,1000] (fun _ h g=>?_) ?_
 ·refine I [5] ?_ ?_<;>intro _ h
  ·exact E9 [0] [0] [0,13,0]
  exact Sj [0]
 intro c h;refine Ir [4] [3,7] fun _ h=>?_;refine S [1,2] ?_;refine kd [0,1,4] [4,1000] ?_;refine B [8] fun _ b h=>?_;refine cA (oP b) ?_;refine B [] fun _ a h=>?_;refine cA (((De a).sw 0 38).sw 1 738) ?_;refine S [2] ?_;refine kd [0,4,5,6,7] [4,6,38,738,1000] ?_;refine Ir [3,4] [3,7] fun _ h=>?_;refine S [1,3,3] ?_;refine j5.az 38 rfl ?_;exact Sr [7]
def Cz{N a0 a1 r}(h:sr N a0 a1=some r):Sp 76 [.agg (eV a0),.int a1] (.int r):=by
 refine so func76 ntmps76 fun d u=>?_;refine S [3,2,3] ?_;refine J e1 u h nl nl [] [] (fun _ h g=>?_) ?_
 ·refine S [6,2,3] ?_;refine Jb 7 u h [1,2,6] [2] (fun _ h g=>?_) ?_
  ·refine Ij [4] [1] fun _ h=>?_;exact E9 [3,4] [1] [5]
  intro b h;refine I [4] ?_ ?_<;>intro _ h
  ·refine Ir [3,4] [3,7] fun _ h=>?_;exact Sj [1]
  refine I [3,4] ?_ ?_<;>intro _ h
  ·refine S [2] ?_;refine Jb 23 u h [] [] (fun _ h g=>?_) ?_
   ·exact E9 [5] [0] [0]
   intro c h;refine Ir [4] [3,7] fun _ h=>?_;exact Sj [1]
  refine I [3,4] ?_ ?_<;>intro _ h
  ·refine S [2] ?_;refine Jb 34 u h [] [] (fun _ h g=>?_) ?_
   ·exact E9 [5] [0] [0]
   intro a h;refine Ir [4] [3,7] fun _ h=>?_;exact Sj [1]
  exact Sr [3,7]
 rintro⟨⟩ h;exact Sr [3,7]
def ym{N a0 a1 a2 r}(h:sO N a0 a1 a2=some r):Sp 163 [.agg (M3 a0),.agg (ir a1),.int a2] (.int r):=by
 refine so func163 ntmps163 fun o u=>?_;refine B [3,2,3] fun _ j h=>?_;refine cA (sV j) ?_;refine Ir [4] [3,7] fun _ h=>?_;refine Ir [1,2,3,13,4] [3,7] fun _ h=>?_;refine S [1,2,2] ?_;refine Jb 23 u h [3,4] [3,4] (fun _ h g=>?_) ?_
 ·exact E9 [5] [0] [0]
 intro n h;refine Ir [4] [3,7] fun _ h=>?_;refine S [1,2,3] ?_;refine bS eV [a1.aP] ?_;refine A [] fun c h=>?_;refine aM c ?_;refine F6 fun d=>?_;refine LR e1 u () (fun l k v=>oh N a0 a1 l k) h (fun a v=>[(31,.int (a:Int))]) (fun a v=>[]) [3,29,30] [3,29] [] nl nl [] [] ?_ ?_ ?_
 ·intro _ g a _ h _;rw[oh] at h;exact Sj [3,2,4,0,20]
 ·intro _ g a _ m i h _ f _;rw[oh] at h;refine B [3,2,4,0,1,2,6,3] fun _ b h=>?_;refine R7 b ?_;refine Q9 (l6 b).2 ?_;refine B [3,13] fun _ e h=>?_;refine cA (Cz e) ?_;refine Ir [3,4] [3,7] fun _ h=>?_;refine S [1,5] ?_;refine IN (AN (G6 f d) ?_);exact le () []
 rintro⟨⟩ h;exact Sr [3,7]
def oO{N a0 a1 r}(h:mP N a0 a1=some r):Sp 164 [cC a0,.agg (eV a1)] (.int r):=by
 refine so func164 ntmps164 fun d u=>?_;refine Ir [3,2,3,6,3,4] [3,7] fun _ h=>?_;refine S [2,3] ?_;refine Jb 9 u h [0,3,6] [3] (fun _ h g=>?_) ?_
 ·exact E9 [4] [1] [5]
 intro b h;refine Ir [4] [3,7] fun _ h=>?_;refine Ir [3,4] [3,7] fun _ h=>?_;refine S [1,2,2] ?_;refine Jb 28 u h [0,3] [3] (fun _ h g=>?_) ?_
 ·refine I [5] ?_ ?_<;>intro _ h
  ·exact E9 [0] [0,13,0] [0]
  exact Sj [0]
 intro c h;refine I [4] ?_ ?_<;>intro _ h
 ·refine B [3] fun _ a h=>?_;refine E5 a ?_;exact Sr [7]
 exact Sr [1,3,7]
def jy{N a0 a1 a2 r}(h:gm N a0 a1 a2=some r):Sp 73 [.agg (M3 a0),.int a1,.str a2] (.aX [.int r.1,.int r.2]):=by
 refine so func73 ntmps73 fun m u=>?_;refine S [3,2,3] ?_;refine LF e1 u (a1,(0:Int)) (fun l v=>oX N a0 a2 l v.1 v.2) h (fun v=>[(1,.int v.1),(8,.int v.2)]) (fun v=>[]) [2,3] [3] [] nl nl [] [] ?_ ?_
 ·rintro _ g ⟨k,i⟩ j h;rw[oX] at h;refine S [2,2] ?_;refine Jb 26 u h [1,2,3,8] [3] (fun _ h g=>?_) ?_
  ·refine I [5] ?_ ?_<;>intro _ h
   ·exact E9 [0,13,0] [0,13,0] [0]
   exact Sj [0]
  intro f h;refine I [4] ?_ ?_<;>intro _ h
  ·refine B [1,2,6,2,3] fun _ b h=>?_;refine E5 b ?_;refine B [] fun _ a h=>?_;refine cA (Bb a (fun _ _ _ e=>Cs e)) ?_;refine kd [1,2,3,8,9,10] [3] ?_;refine Ir [3,4] [3,7] fun _ h=>?_;refine B [1,5] fun d c h=>?_;refine E5 c ?_;refine S [5,12] ?_;exact le (d.aQ,(wr (i+(1:Int)))) []
  exact Sj [20]
 rintro⟨⟩ h;exact Sr [3,7]
def y7{N a0 a1 r}(h:J6 N a0 a1=some r)(a b:Value):Sq 165 [(1000,mB a0 (.aV a) (.aV b) 1001 1003)] [.ptr 1000 0,.int a1] (.aX []) [(1000,mB r (.aV a) (.aV b) 1001 1003)] []:=by
 refine so func165 ntmps165 fun c u=>?_;exact gI [15,3,4] [5,14] [1,14]
def N7{N a0 a1 r}(h:nv N a0 a1=some r)(c d:Value):Sq 195 [(1000,mB a0 (.aV c) (.aV d) 1001 1003),(1003,U9 a0.aF [] 1005)] [.ptr 1000 0,.bool a1] (.bool r.1) [(1000,mB r.2 (.aV c) (.aV d) 1001 1003),(1003,U9 a0.aF [] 1005)] []:=by
 refine so func195 ntmps195 fun n u=>?_;refine S [3,2] ?_;refine J e1 u h nl (fun s=>[(1000,.box [.ptr 1001 0,.aV c,.aV d,.int s.1,.int s.2.1,.int s.2.2.1,.aN 1003,.int s.2.2.2.1,.int s.2.2.2.2.1,.int s.2.2.2.2.2] 251)]) [0] [1003] (fun _ h g=>?_) ?_
 ·refine I [6,2,8,4] ?_ ?_<;>intro _ h
  ·refine B [5] fun _ a h=>?_;refine cA (mb (.aV c) (.aV d) fun _ _=>(y7 a _ _)) ?_;exact je
  refine S [2] ?_;refine Jb 24 u h [0] [1000,1003] (fun _ h g=>?_) ?_
  ·exact E9 [5] [0,13,0] [0]
  intro e h;refine I [4] ?_ ?_<;>intro _ h
  ·refine B [5] fun _ b h=>?_;refine cA (mb (.aV c) (.aV d) fun _ _=>(y7 b _ _)) ?_;exact je
  exact Sr [3,12,3,7]
 rintro⟨f,i,j,k,l,m⟩ h;exact Sr [3,7]
def yP{N a0 r}(h:qe N a0=some r):Sp 225 [.int a0] (.agg (eV r)):=by
 refine so func225 ntmps225 fun a u=>?_;exact Sr [3,3,16,7]
def yD{N a0 r}(h:tJ N a0=some r):Sp 226 [.bool a0] (.agg (eV r)):=by
 refine so func226 ntmps226 fun a u=>?_;exact gI [3,2,3,4] [3,7] [1,3,7]
def yB{N a0 a1 a2 r}(h:vG N a0 a1 a2=some r):Sp 196 [.int a0,.agg (eV a1),.agg (eV a2)] (.aX [.agg (eV r.1),.int r.2]):=by
 refine so func196 ntmps196 fun i u=>?_;refine S [3,2,2] ?_;refine Jb 16 u h [0,4,5,6] [4,5,6] (fun _ h g=>?_) ?_
 ·exact E9 [5] [0] [0]
 intro f h;refine Ir [4] [3,7] fun _ h=>?_;refine I [1,3,2,3,6,3,4] ?_ ?_<;>intro _ h
 ·refine B [3,12] fun _ e h=>?_;refine cA (yP e) ?_;exact Sr [7]
 refine I [3,4] ?_ ?_<;>intro _ h
 ·refine B [3,12] fun _ a h=>?_;refine cA (yP a) ?_;exact Sr [7]
 refine I [3,4] ?_ ?_<;>intro _ h
 ·refine B [3,12] fun _ b h=>?_;refine cA (yP b) ?_;exact Sr [7]
 refine I [3,4] ?_ ?_<;>intro _ h
 ·refine B [3] fun _ c h=>?_;refine cA (yD c) ?_;exact Sr [7]
 refine I [3,4] ?_ ?_<;>intro _ h
 ·refine kd [4,5,6] [4,5,6] ?_;refine B [3] fun _ d h=>?_;refine cA (yD d) ?_;exact Sr [7]
 refine S [1] ?_;refine kd [6] [6] ?_;exact Sr [3,7]
def qN{N a0 a1 r}(h:nz N a0 a1=some r)(d e:Value):Sq 197 [(1000,mB a0 (.aV d) (.aV e) 1001 1003),(1003,U9 a0.aF [] 1005)] [.ptr 1000 0,.agg (eV a1)] (.aX []) [(1000,mB r (.aV d) (.aV e) 1001 1003),(1003,U9 r.aF [] 5),(5,.aK)] [5]:=by
 refine so func197 ntmps197 fun f u=>?_;refine I [15,3,2,3,13,4] ?_ ?_<;>intro _ h
 ·refine S [3] ?_;refine gC (gS 1003 501) ?_;exact Sr [7] [(5,501)]
 refine B [1,2,8,13,12] fun b a h=>?_;refine iD a ?_;refine gC (gD 1003 502 503 ((wr ((a0.aF.length:Int)-(1:Int))).toNat) 8 (l6 a).2) ?_;refine kd [0,3,4] [3,502,503,1000,1003] ?_;refine S [8] ?_;refine hD (l6 a).2 ?_;refine bS eV [a1] ?_;refine A [] fun c h=>?_;refine aM c ?_;refine hS (l6 a).2 ?_;refine gE (gA 1003 33 504 ((wr ((a0.aF.length:Int)-(1:Int))).toNat) 8 ((l6 a).2) (⟨b.aE,b.aJ,b.aZ,b.code,b.aP,b.args,b.a8,(b.aA++[a1]),b.aH⟩:j4)) ?_;exact Sr [14] [(5,504)]
def Bv{N a0 gq a1 a2 a3 a4 r}(h:ka N a0 gq a1 a2 a3 a4=some r){c:Nat}{a:List AV}{b:Nat}(C:∀y z L,gq y z=some L->Sp b [.int y,.int z] (.aX [.agg (fK L.1),.bool L.2])):Sq 166 [(1000,mB a0 (.fn c [.fp a]) (.fn b []) 1001 1003),(1001,.box [Y1 a0.w.a7,.aN 1002,.int a0.w.aC] 40),(1003,U9 a0.aF [] 1005)] [.ptr 1000 0,.int a1,.int a2,.agg (eV a3),lR a4] (.aX []) [(1000,mB r (.fn c [.fp a]) (.fn b []) 1001 4),(1001,.box [Y1 a0.w.a7,.aN 1002,.int a0.w.aC] 40),(4,U9 r.aF [] 5),(5,.aK),(1003,.aK)] [5,4]:=by
 refine so func166 ntmps166 fun M u=>?_;refine B [15,3,3] fun _ E h=>?_;refine E5 E ?_;refine B [] fun _ F h=>?_;refine E5 F ?_;refine S [2] ?_;refine kd [0,1,2,4,8,10] [8,1000,1001,1003] ?_;refine I [3,13,4] ?_ ?_<;>intro _ h
 ·refine B [3] fun _ D h=>?_;refine cA (mb (.fn c [.fp a]) (.fn b []) fun _ _=>(y7 D _ _)) ?_;refine gC (gR 1000 6 1003 501 502) ?_;exact Sr [7] [(4,501),(5,502)]
 refine I [1,2,3,4] ?_ ?_<;>intro _ h
 ·refine S [2] ?_;refine kd [0,4,8,10] [8,1000,1001,1003] ?_;refine B [3] fun _ i h=>?_;refine cA (mb (.fn c [.fp a]) (.fn b []) fun _ _=>(N7 i _ _)) ?_;refine I [4] ?_ ?_<;>intro _ h
  ·refine gC (gR 1000 6 1003 503 504) ?_;exact Sr [7] [(4,503),(5,504)]
  refine B [1,2,8] fun _ t h=>?_;refine E5 t ?_;refine B [] fun _ j h=>?_;refine cA (yB j) ?_;refine S [2] ?_;refine kd [0,11,12] [11,1000,1001,1003] ?_;refine I [3,4] ?_ ?_<;>intro _ h
  ·refine B [3] fun _ l h=>?_;refine cA (mb (.fn c [.fp a]) (.fn b []) fun _ _=>(y7 l _ _)) ?_;refine gC (gR 1000 6 1003 505 506) ?_;exact Sr [7] [(4,505),(5,506)]
  refine B [1,3] fun _ m h=>?_;refine cA (mb (.fn c [.fp a]) (.fn b []) fun _ _=>((qN m _ _).sw 5 507)) ?_;refine gC (gR 1000 6 1003 508 509) ?_;exact Sr [7] [(4,508),(5,509)]
 refine S [1,2] ?_;refine kd [0,1,2,4,8,10] [8,1000,1001,1003] ?_;refine B [3] fun _ o h=>?_;refine cA (mb (.fn c [.fp a]) (.fn b []) fun _ _=>(N7 o _ _)) ?_;refine I [4] ?_ ?_<;>intro _ h
 ·refine gC (gR 1000 6 1003 510 511) ?_;exact Sr [7] [(4,510),(5,511)]
 refine S [1,2] ?_;refine kd [0,1,2,4,8,10] [8,1000,1001,1003] ?_;refine B [8] fun G p h=>?_;refine cA ((nt N _ _ p).sw 0 77) ?_;refine A [] fun d h=>?_;refine j8 (enc:=eV) (x:=(⟨(0:Int),(0:Int)⟩:V)) d aT ?_;refine S [2] ?_;refine kd [0,1,2,13] [13,77,82,1000,1001,1003] ?_;refine B [3] fun _ q h=>?_;refine cA (C _ _ _ q) ?_;refine S [3] ?_;refine J e0 u h nl (fun s=>[(13,.box [.int a1,.int a2,.bool s.1,qH s.2.1,.int a3.k,.int a3.n,.aN 77,.aN 99,.aI,.int (0:Int)] 288),(99,eS s.2.2)]) [0,13] [77,1000,1001,1003] (fun _ h g=>?_) ?_
 ·refine I [4] ?_ ?_<;>intro _ h
  ·refine kd [0,13,14] [13,14,77,82,1000,1001,1003] ?_;refine A [8] fun e h=>?_;refine j8 (enc:=eV) (x:=(⟨(0:Int),(0:Int)⟩:V)) e aT ?_;exact je
  exact Sj [1] [(99,82)]
 rintro⟨H,K,v⟩ h;refine j5.aY 77 rfl ?_;refine kd [0,13] [13,99,1000,1001,1003] ?_;refine S [8,11] ?_;refine Exists.intro [(7,(2,29)),(8,(2,29))] (Exists.intro (wI (⟨a1,a2,H,K,a3,G,v,[],(0:Int)⟩:j4)) (Exists.intro [(99,eS v)] (AN rfl (AN rfl (AN rfl (AN G7 (AN G7 (AN rfl (AN rfl ?_)))))))));refine A [] fun f h=>?_;refine aD f ?_;exact Sr [14] [(4,110),(5,810)]
def Hi{N a0 gl gq a1 a2 a3 r}(h:s9 N a0 gl gq a1 a2 a3=some r){v:Nat}{c:List AV}(z:∀d f t i,gl d f t=some i->Sp v [.agg (Z8 d),.int f,.str t,.fp c] (.aX [.int i.1,.int i.2])){x:Nat}(C:∀d f i,gq d f=some i->Sp x [.int d,.int f] (.aX [.agg (fK i.1),.bool i.2])):Sq 198 [(1000,mB a0 (.fn v [.fp c]) (.fn x []) 1001 1003),(1001,.box [Y1 a0.w.a7,.aN 1002,.int a0.w.aC] 40),(1002,d92 a0.w.heap [] 1004),(1003,U9 a0.aF [] 1005)] [.ptr 1000 0,.ep 1003 a1 10 0,.agg (bh a2),.int a3] (.aX []) [(1000,mB r (.fn v [.fp c]) (.fn x []) 1001 4),(1001,.box [Y1 a0.w.a7,.aN 1002,.int a0.w.aC] 40),(1002,d92 a0.w.heap [] 1004),(4,U9 r.aF [] 5),(5,.aK),(1003,.aK)] [5,4]:=by
 refine so func198 ntmps198 fun G u=>?_;refine B [15,3,2] fun e b h=>?_;refine gC (gD 1003 501 502 a1 8 b) ?_;refine kd [0,1,3,6] [6,501,502,1000,1001,1002,1003] ?_;refine S [8] ?_;refine hD b ?_;refine S [13,12,2] ?_;refine kd [0,1,3,6,8] [6,501,502,1000,1001,1002,1003] ?_;refine S [8] ?_;refine hD b ?_;refine A [] fun y h=>?_;refine d66 y rfl rfl ?_;refine B [] fun _ D h=>?_;refine wM ((Spec.drop1 (nt N _ _ D)).sw 0 28) ⟨BF _,trivial⟩ ?_;refine hD b ?_;refine B [12] fun _ q h=>?_;refine R7 q ?_;refine Q9 (l6 q).2 ?_;refine S [2] ?_;refine gC (gB 1003 501 503 a1 8 b) ?_;refine kd [0,1,3,6,8,9,10] [6,10,28,503,1000,1001,1002,1003] ?_;refine S [8] ?_;refine Q9 b ?_;refine Q9 b ?_;refine B [] fun _ o h=>?_;refine E5 o ?_;refine Q9 b ?_;refine B [] fun E p h=>?_;refine E5 p ?_;refine S [2] ?_;refine kd [0,1,6,8,9,10,11] [6,10,11,28,503,1000,1001,1002,1003] ?_;refine S [3] ?_;refine Q9 b ?_;refine J e0 u h nl (fun s=>[(11,.box [.int e.aE,.str E.name,.int s] 156)]) [0,1,6,8,9,10,11] [6,10,28,503,1000,1001,1002,1003] (fun _ h g=>?_) ?_
 ·exact E9 [4] [5] [1]
 intro F h;refine S [2] ?_;refine kd [0,1,6,8,9,10,11] [6,10,11,28,503,1000,1001,1002,1003] ?_;refine B [8] fun _ k h=>?_;refine cD (oO k) ?_;refine B [] fun _ l h=>?_;refine cA (z _ _ _ _ l) ?_;refine S [2] ?_;refine kd [0,1,8,9,10,12,13] [10,28,503,1000,1001,1002,1003] ?_;refine I [3,4] ?_ ?_<;>intro _ h
 ·refine B [3] fun _ m h=>?_;refine cA (mb (.fn v [.fp c]) (.fn x []) fun _ _=>(y7 m _ _)) ?_;refine gC (gR 1000 6 1003 504 505) ?_;exact Sr [7] [(4,504),(5,505)]
 refine S [1] ?_;refine gC (gD 1003 506 507 a1 8 b) ?_;refine kd [0,1,8,9,10,12,13] [10,28,506,507,1000,1001,1002,1003] ?_;refine S [3] ?_;refine hD b ?_;refine A [12] fun j h=>?_;refine j7 j rfl rfl ?_;refine hS b ?_;refine gC (gA 1003 102 508 a1 8 b (⟨e.aE,e.aJ,e.aZ,e.code,e.aP,e.args,e.a8,(e.aA.take (wr ((wr ((e.aA.length:Int)-a2.a))-(1:Int))).toNat),e.aH⟩:j4)) ?_;refine kd [0,1,9,10,12,13] [10,28,508,1000,1001,1002,1003] ?_;refine B [5] fun _ n h=>?_;refine cF ((((Bv n C).sw 1005 508).sw 5 509).sw 4 510) ?_;exact Sr [14] [(4,510),(5,509)]
def qM{N a0 a1 a2 r}(h:oB N a0 a1 a2=some r)(d e:Value):Sq 199 [(1000,mB a0 (.aV d) (.aV e) 1001 1003),(1003,U9 a0.aF [] 1005)] [.ptr 1000 0,.ep 1003 a1 10 0,.int a2] (.aX []) [(1000,mB r (.aV d) (.aV e) 1001 1003),(1003,U9 r.aF [] 5),(5,.aK)] [5]:=by
 refine so func199 ntmps199 fun n u=>?_;refine B [15,2,3] fun a c h=>?_;refine Q9 c ?_;refine J e0 u h nl (fun s=>[(1000,.box [.ptr 1001 0,.aV d,.aV e,.int s.1,.int s.2.1,.int s.2.2.1,.aN 1003,.int s.2.2.2.1,.int s.2.2.2.2.1,.int s.2.2.2.2.2] 251)]) [0,1,2] [1003] (fun _ h g=>?_) ?_
 ·refine I [4] ?_ ?_<;>intro _ h
  ·refine I [3,12,3,4] ?_ ?_<;>intro _ h
   ·refine kd [0,1,2] [1000,1003] ?_;refine B [5] fun _ b h=>?_;refine cA (mb (.aV d) (.aV e) fun _ _=>(y7 b _ _)) ?_;exact je
   exact Sj [1]
  exact Sj [1]
 rintro⟨f,i,j,k,l,m⟩ h;refine S [5] ?_;refine sD c (⟨a.aE,a.aJ,a.aZ,a.code,a.aP,a.args,a.a8,a.aA,a2⟩:j4) ?_;refine gE (gS 1003 501) ?_;exact Sr [14] [(5,501)]
def ld{N fr a0 r}(h:jG N fr a0=some r):Sq 200 [(1003,U9 fr [] 1005)] [.ep 1003 a0 10 0] (.agg (eV r.1)) [(1003,U9 r.2 [] 5),(5,.aK)] [5]:=by
 refine so func200 ntmps200 fun e u=>?_;refine B [3,2] fun b a h=>?_;refine gC (gD 1003 501 502 a0 8 a) ?_;refine kd [0,2] [2,501,502,1003] ?_;refine S [8] ?_;refine hD a ?_;refine hD a ?_;refine B [13,12] fun _ c h=>?_;refine R7 c ?_;refine Q9 (l6 c).2 ?_;refine S [2,8] ?_;refine hD a ?_;refine hD a ?_;refine A [13,12] fun d h=>?_;refine j7 d rfl rfl ?_;refine hS a ?_;refine gC (gA 1003 27 503 a0 8 a (⟨b.aE,b.aJ,b.aZ,b.code,b.aP,b.args,b.a8,(b.aA.take (wr ((b.aA.length:Int)-(1:Int))).toNat),b.aH⟩:j4)) ?_;refine kd [0,2,3] [2,3,503,1003] ?_;exact Sr [3,7] [(5,503)]
def xv{N a0 a1 a2 r}(h:ru N a0 a1 a2=some r)(l m:Value):Sq 201 [(1000,mB a0 (.aV l) (.aV m) 1001 1003),(1001,.box [Y1 a0.w.a7,.aN 1002,.int a0.w.aC] 40),(1002,d92 a0.w.heap [] 1004),(1003,U9 a0.aF [] 1005)] [.ptr 1000 0,.ep 1003 a1 10 0,.agg (bh a2)] (.aX []) [(1000,mB r (.aV l) (.aV m) 1001 1003),(1001,.box [Y1 a0.w.a7,.aN 1002,.int a0.w.aC] 40),(1002,d92 a0.w.heap [] 1004),(1003,U9 r.aF [] 5),(5,.aK)] [5]:=by
 refine so func201 ntmps201 fun n u=>?_;refine B [15,3,2,2] fun b a h=>?_;refine gC (gD 1003 501 502 a1 8 a) ?_;refine kd [0,1,5] [5,501,502,1000,1001,1002,1003] ?_;refine S [8] ?_;refine hD a ?_;refine hD a ?_;refine B [13,12,12] fun _ j h=>?_;refine R7 j ?_;refine Q9 (l6 j).2 ?_;refine B [] fun _ k h=>?_;refine cD (oO k) ?_;refine I [4] ?_ ?_<;>intro _ h
 ·refine gC (gB 1003 501 503 a1 8 a) ?_;exact Sr [7] [(5,503)]
 refine S [1,2] ?_;refine gC (gB 1003 501 504 a1 8 a) ?_;refine kd [0,1,5] [5,504,1000,1001,1002,1003] ?_;refine S [8] ?_;refine Q9 a ?_;refine B [] fun _ f h=>?_;refine E5 f ?_;refine Q9 a ?_;refine B [] fun d i h=>?_;refine E5 i ?_;refine gC (gD 1003 505 506 a1 7 a) ?_;refine kd [0,1,5,6] [5,505,506,1000,1001,1002,1003] ?_;refine S [8] ?_;refine hD a ?_;refine A [] fun e h=>?_;refine j7 e rfl rfl ?_;refine sD a (⟨b.aE,b.aJ,false,b.code,b.aP,b.args,b.a8,b.aA,b.aH⟩:j4) ?_;refine sD (setAt a) (⟨b.aE,b.aJ,false,d.code,b.aP,b.args,b.a8,b.aA,b.aH⟩:j4) ?_;refine hS (setAt (setAt a)) ?_;refine sD (setAt (setAt a)) (⟨b.aE,b.aJ,false,d.code,b.aP,b.args,b.a8,b.aA,a2.c⟩:j4) ?_;refine gE (gA 1003 68 507 a1 7 (setAt (setAt (setAt a))) (⟨b.aE,b.aJ,false,d.code,b.aP,b.args,(b.a8.take d.a8.toNat),b.aA,a2.c⟩:j4)) ?_;exact Sr [14] [(5,507)]
def nb{N a0 fr b0 r}(h:R9 N a0 fr b0=some r):Sq 227 [(1016,.box [.ep 1019 b0 10 0] 289),(1019,U9 fr [] 1021)] [.agg (eV a0),.ptr 1016 0] (.aX []) [(1016,.box [.ep 1019 b0 10 0] 289),(1019,U9 r [] 21),(21,.aK)] [21]:=by
 refine so func227 ntmps227 fun d u=>?_;refine B [15,3] fun b a h=>?_;refine gC (gD 1019 501 502 b0 8 a) ?_;refine kd [1,2] [2,501,502,1016,1019] ?_;refine S [8] ?_;refine hD a ?_;refine bS eV [a0] ?_;refine A [] fun c h=>?_;refine aM c ?_;refine hS a ?_;refine gE (gA 1019 10 503 b0 8 a (⟨b.aE,b.aJ,b.aZ,b.code,b.aP,b.args,b.a8,(b.aA++[a0]),b.aH⟩:j4)) ?_;exact Sr [14] [(21,503)]
def Bx{N a0 fr b0 r}(h:rr N a0 fr b0=some r):Sq 227 [(1016,.box [.ep 1019 b0 10 0] 289),(1019,U9 fr [(b0,7,1022)] 1021)] [.agg (eV a0),.ptr 1016 0] (.aX []) [(1016,.box [.ep 1019 b0 10 0] 289),(1019,U9 r [(b0,7,1022)] 21),(21,.aK)] [21]:=by
 refine so func227 ntmps227 fun d u=>?_;refine B [15,3] fun b a h=>?_;refine gC (gD 1019 501 502 b0 8 a) ?_;refine kd [1,2] [2,501,502,1016,1019] ?_;refine S [8] ?_;refine hD a ?_;refine bS eV [a0] ?_;refine A [] fun c h=>?_;refine aM c ?_;refine hS a ?_;refine gE (gA 1019 10 503 b0 8 a (⟨b.aE,b.aJ,b.aZ,b.code,b.aP,b.args,b.a8,(b.aA++[a0]),b.aH⟩:j4)) ?_;exact Sr [14] [(21,503)]
def DM{N a0 a1 a2 r}(h:tH N a0 a1 a2=some r):Sp 228 [cC a0,.agg (eV a1),.int a2] (.agg (eV r)):=by
 refine so func228 ntmps228 fun e u=>?_;refine S [3,2,2] ?_;refine Jb 36 u h [0,2,4,6] [4,6] (fun _ h g=>?_) ?_
 ·refine Ij [5] [0] fun _ h=>?_;refine Ij [0] [0] fun _ h=>?_;refine Ij [0,13,0] [0] fun _ h=>?_;refine Ij [0] [0] fun _ h=>?_;refine B [0] fun _ c h=>?_;refine E5 c ?_;exact Sj [0,13,0]
 intro d h;refine Ir [4] [3,7] fun _ h=>?_;refine B [1,3] fun _ a h=>?_;refine E5 a ?_;refine B [] fun _ b h=>?_;refine E5 b ?_;exact Sr [7]
def Hl{N a0 sk fr b0 r}(h:ui N a0 sk fr b0=some r):Sq 227 [(1016,.box [.ep 1019 b0 10 0] 289),(1019,U9 fr [(b0,8,1022)] 1021),(1022,eS sk)] [.agg (eV a0),.ptr 1016 0] (.aX []) [(1016,.box [.ep 1019 b0 10 0] 289),(1019,U9 fr [(b0,8,22)] 1021),(22,eS r),(1022,.aK)] [22]:=by
 refine so func227 ntmps227 fun c u=>?_;refine B [15,3,8] fun _ a h=>?_;refine hD a ?_;refine bS eV [a0] ?_;refine A [] fun b h=>?_;refine aM b ?_;refine hS a ?_;exact Sr [14] [(22,10)]
def Be{N fr a0 r}(h:rj N fr a0=some r):Sq 200 [(1003,U9 fr [(a0,7,1006)] 1005)] [.ep 1003 a0 10 0] (.agg (eV r.1)) [(1003,U9 r.2 [(a0,7,1006)] 5),(5,.aK)] [5]:=by
 refine so func200 ntmps200 fun e u=>?_;refine B [3,2] fun b a h=>?_;refine gC (gD 1003 501 502 a0 8 a) ?_;refine kd [0,2] [2,501,502,1003] ?_;refine S [8] ?_;refine hD a ?_;refine hD a ?_;refine B [13,12] fun _ c h=>?_;refine R7 c ?_;refine Q9 (l6 c).2 ?_;refine S [2,8] ?_;refine hD a ?_;refine hD a ?_;refine A [13,12] fun d h=>?_;refine j7 d rfl rfl ?_;refine hS a ?_;refine gC (gA 1003 27 503 a0 8 a (⟨b.aE,b.aJ,b.aZ,b.code,b.aP,b.args,b.a8,(b.aA.take (wr ((b.aA.length:Int)-(1:Int))).toNat),b.aH⟩:j4)) ?_;refine kd [0,2,3] [2,3,503,1003] ?_;exact Sr [3,7] [(5,503)]
def Bz{N a0 a1 a2 a3 r}(h:rm N a0 a1 a2 a3=some r)(i j:Value):Sq 229 [(1000,mB a0 (.aV i) (.aV j) 1001 1003),(1001,.box [Y1 a0.w.a7,.aN 1002,.int a0.w.aC] 40),(1002,d92 a0.w.heap [] 1004)] [.ptr 1000 0,.agg (eV a1),.int a2,.agg (eV a3)] (.aX []) [(1000,mB r (.aV i) (.aV j) 1001 1003),(1001,.box [Y1 a0.w.a7,.aN 1002,.int a0.w.aC] 40),(1002,d92 r.w.heap [] 3),(3,.aK)] [3]:=by
 refine so func229 ntmps229 fun m u=>?_;refine S [15,3,2] ?_;refine J e0 u h (fun s=>[(40,.bool s)]) (fun s=>[(501,.aK),(1002,d92 a0.w.heap [] 501)]) [0,2,5,7] [5,7,1000,1001] (fun _ h g=>?_) ?_
 ·rcases Gw h with⟨b,h⟩|⟨l,b,h⟩
  ·refine kd [0,2,5,7] [5,7,1000,1001,1002] ?_;refine I [8] ?_ ?_<;>intro _ h
   ·refine I [0,13,0] ?_ ?_<;>intro _ h
    ·cases h
    refine S [0] ?_;refine gE (gS 1002 501) ?_;exact je
   refine S [0] ?_;refine gE (gS 1002 502) ?_;exact je [(501,502)]
  refine gC (gD 1002 503 504 a1.n.toNat 1 b) ?_;refine kd [0,2,5,7] [5,7,503,504,1000,1001,1002] ?_;refine I [8] ?_ ?_<;>intro _ h
  ·refine I [0,13,0] ?_ ?_<;>intro _ h
   ·refine B [0] fun _ d h=>?_;refine iD d ?_;refine S [0] ?_;refine hD b ?_;refine S [0,13,0] ?_;refine gE (gB 1002 503 505 a1.n.toNat 1 b) ?_;exact je [(501,505)]
   refine S [0] ?_;refine gE (gB 1002 503 506 a1.n.toNat 1 b) ?_;exact je [(501,506)]
  refine S [0] ?_;refine gE (gB 1002 503 507 a1.n.toNat 1 b) ?_;exact je [(501,507)]
 intro k h;refine I [4] ?_ ?_<;>intro _ h
 ·rcases Gw h with⟨a,h⟩|⟨f,a,h⟩
  ·cases h
  refine gC (gD 1002 508 509 a1.n.toNat 1 a) ?_;refine kd [0,2,5,7] [5,7,508,509,1000,1001,1002] ?_;refine B [8] fun _ e h=>?_;refine iD e ?_;refine hD a ?_;refine B [] fun _ c h=>?_;refine R7 c ?_;refine sM (l6 c).2 a3 ?_;refine gE (gA 1002 508 510 a1.n.toNat 1 a (⟨f.cls,(f.aG.set a2.toNat a3)⟩:Ob)) ?_;exact Sr [14] [(3,510)]
 exact Sr [1,14] [(3,501)]
def xm{N a0 a1 a2 r}(h:s8 N a0 a1 a2=some r)(vl vq:Value):Sq 202 [(1000,mB a0 (.aV vl) (.aV vq) 1001 1003),(1001,.box [Y1 a0.w.a7,.aN 1002,.int a0.w.aC] 40),(1002,d92 a0.w.heap [] 1004),(1003,U9 a0.aF [] 1005)] [.ptr 1000 0,.ep 1003 a1 10 0,.agg (bh a2)] (.aX []) [(1000,mB r (.aV vl) (.aV vq) 1001 1003),(1001,.box [Y1 r.w.a7,.aN 2,.int r.w.aC] 40),(2,d92 r.w.heap [] 3),(3,.aK),(1002,.aK),(1003,U9 r.aF [] 5),(5,.aK)] [3,2,5]:=by
 refine so func202 ntmps202 fun Γ u=>?_;refine I [15,3,3,3,6,3,4] ?_ ?_<;>intro _ h
 ·refine B [5] fun _ hx3 h=>?_;refine Q9 hx3 ?_;refine B [] fun _ hr5 h=>?_;refine cA ((nb hr5).bB [(1016,4),(1019,1003),(1021,1005),(21,501)] rfl) ?_;refine gE (gR 1001 1 1002 502 503) ?_;exact Sr [14] [(2,502),(3,503),(5,501)]
 refine I [3,4] ?_ ?_<;>intro _ h
 ·refine B [8] fun _ hx8 h=>?_;refine Q9 hx8 ?_;refine B [] fun _ Z h=>?_;refine E5 Z ?_;refine B [] fun _ E h=>?_;refine cA ((nb E).bB [(1016,4),(1019,1003),(1021,1005),(21,504)] rfl) ?_;refine gE (gR 1001 1 1002 505 506) ?_;exact Sr [14] [(2,505),(3,506),(5,504)]
 refine I [3,4] ?_ ?_<;>intro _ h
 ·refine B [] fun x14 k h=>?_;refine gC (gD 1003 507 508 a1 7 k) ?_;refine kd [0,1,4,5,6] [4,5,507,508,1000,1001,1002,1003] ?_;refine S [8] ?_;refine hD k ?_;refine B [] fun _ l h=>?_;refine R7 l ?_;refine Q9 (l6 l).2 ?_;refine B [] fun _ F h=>?_;refine cA ((Bx F).bB [(1022,507),(1016,4),(1019,1003),(1021,508),(21,509)] rfl) ?_;refine B [] fun b hx21 h=>?_;refine gE (gA 1003 507 510 a1 7 hx21 (⟨b.aE,b.aJ,b.aZ,b.code,b.aP,b.args,x14.a8,b.aA,b.aH⟩:j4)) ?_;refine gE (gR 1001 1 1002 511 512) ?_;exact Sr [14] [(2,511),(3,512),(5,510)]
 refine I [3,4] ?_ ?_<;>intro _ h
 ·refine kd [0,1,4,5,6] [4,5,1000,1001,1002,1003] ?_;refine B [8] fun _ hx24 h=>?_;refine Q9 hx24 ?_;refine B [] fun _ G h=>?_;refine cD (DM G) ?_;refine B [] fun _ H h=>?_;refine cA ((nb H).bB [(1016,4),(1019,1003),(1021,1005),(21,513)] rfl) ?_;refine gE (gR 1001 1 1002 514 515) ?_;exact Sr [14] [(2,514),(3,515),(5,513)]
 refine kd [0,1,4,5,6,12] [4,5,1000,1001,1002,1003] ?_;refine I [3,4] ?_ ?_<;>intro _ h
 ·refine B [5] fun _ J h=>?_;refine cA ((nb J).bB [(1016,4),(1019,1003),(1021,1005),(21,516)] rfl) ?_;refine gE (gR 1001 1 1002 517 518) ?_;exact Sr [14] [(2,517),(3,518),(5,516)]
 refine I [3,4] ?_ ?_<;>intro _ h
 ·refine B [5] fun _ K h=>?_;refine cA ((nb K).bB [(1016,4),(1019,1003),(1021,1005),(21,519)] rfl) ?_;refine gE (gR 1001 1 1002 520 521) ?_;exact Sr [14] [(2,520),(3,521),(5,519)]
 refine S [2,3] ?_;refine Jb 75 u h [0,1,4,5,6,12] [4,5,1000,1001,1002,1003] (fun _ h g=>?_) ?_
 ·exact E9 [4] [1] [5]
 intro v35 h;refine I [4] ?_ ?_<;>intro _ h
 ·refine B [5] fun _ L h=>?_;refine cA (yD L) ?_;refine B [] fun _ M h=>?_;refine cA ((nb M).bB [(1016,4),(1019,1003),(1021,1005),(21,522)] rfl) ?_;refine gE (gR 1001 1 1002 523 524) ?_;exact Sr [14] [(2,523),(3,524),(5,522)]
 refine I [3,4] ?_ ?_<;>intro _ h
 ·refine B [5] fun _ O h=>?_;refine cA ((ld O).sw 5 525) ?_;refine gE (gR 1001 1 1002 526 527) ?_;exact Sr [14] [(2,526),(3,527),(5,525)]
 refine I [3,4] ?_ ?_<;>intro _ h
 ·refine B [] fun c i h=>?_;refine gC (gD 1003 528 529 a1 8 i) ?_;refine kd [0,1,4,6] [4,528,529,1000,1001,1002,1003] ?_;refine S [8] ?_;refine hD i ?_;refine hD i ?_;refine B [13,12] fun _ m h=>?_;refine R7 m ?_;refine Q9 (l6 m).2 ?_;refine B [] fun r52 P h=>?_;refine cA ((Hl P).bB [(1022,528),(1016,4),(1019,1003),(1021,529),(22,530)] rfl) ?_;refine gE (gA 1003 530 531 a1 8 i (⟨c.aE,c.aJ,c.aZ,c.code,c.aP,c.args,c.a8,r52,c.aH⟩:j4)) ?_;refine gE (gR 1001 1 1002 532 533) ?_;exact Sr [14] [(2,532),(3,533),(5,531)]
 refine I [3,4] ?_ ?_<;>intro _ h
 ·refine B [] fun x55 n h=>?_;refine gC (gD 1003 534 535 a1 7 n) ?_;refine kd [0,1,4,5] [4,5,534,535,1000,1001,1002,1003] ?_;refine gz 3 7 u ?_;refine hD n ?_;refine B [] fun r57 Q h=>?_;refine cA ((((Be Q).sw 1005 535).sw 1006 534).sw 5 536) ?_;refine B [] fun d o h=>?_;refine AN ⟨rfl,⟨rfl,trivial⟩,BA o rfl rfl G7 rfl ⟨rfl,rfl,rfl,rfl⟩⟩ ?_;refine B [] fun _ p h=>?_;refine R7 p ?_;refine sM (l6 p).2 r57.1 ?_;refine gE (gA 1003 534 537 a1 7 o (⟨d.aE,d.aJ,d.aZ,d.code,d.aP,d.args,(x55.a8.set a2.a.toNat r57.1),d.aA,d.aH⟩:j4)) ?_;refine gE (gR 1001 1 1002 538 539) ?_;exact Sr [14] [(2,538),(3,539),(5,537)]
 refine I [3,4] ?_ ?_<;>intro _ h
 ·refine gz 4 8 u ?_;refine B [] fun _ q h=>?_;refine Q9 q ?_;refine B [] fun _ j h=>?_;refine cA ((ld j).sw 5 540) ?_;refine B [] fun _ s h=>?_;refine AN ⟨rfl,⟨rfl,trivial⟩,Q9 s ⟨congrArg (fun v=>AV.agg (eV v)) (HT j q s),rfl,rfl,rfl⟩⟩ ?_;refine B [] fun _ R h=>?_;refine cA (mb (.aV vl) (.aV vq) fun _ _=>((Bz R _ _).sw 3 541)) ?_;refine gE (gR 1001 1 1002 542 543) ?_;exact Sr [14] [(2,542),(3,543),(5,540)]
 refine I [3,4] ?_ ?_<;>intro _ h
 ·refine B [] fun x73 t h=>?_;refine gC (gD 1003 544 545 a1 7 t) ?_;refine kd [0,1,4,5,6] [4,5,544,545,1000,1001,1002,1003] ?_;refine S [8] ?_;refine hD t ?_;refine B [] fun _ x h=>?_;refine R7 x ?_;refine Q9 (l6 x).2 ?_;refine B [] fun _ T h=>?_;refine cD (DM T) ?_;refine B [] fun _ U h=>?_;refine cA ((Bx U).bB [(1022,544),(1016,4),(1019,1003),(1021,545),(21,546)] rfl) ?_;refine B [] fun e hx82 h=>?_;refine gE (gA 1003 544 547 a1 7 hx82 (⟨e.aE,e.aJ,e.aZ,e.code,e.aP,e.args,x73.a8,e.aA,e.aH⟩:j4)) ?_;refine gE (gR 1001 1 1002 548 549) ?_;exact Sr [14] [(2,548),(3,549),(5,547)]
 refine kd [0,1,4,5,6,12] [4,5,1000,1001,1002,1003] ?_;refine I [3,4] ?_ ?_<;>intro _ h
 ·refine B [] fun x84 y h=>?_;refine gC (gD 1003 550 551 a1 7 y) ?_;refine kd [0,1,4,5] [4,5,550,551,1000,1001,1002,1003] ?_;refine gz 4 12 u ?_;refine hD y ?_;refine B [] fun _ z h=>?_;refine R7 z ?_;refine Q9 (l6 z).2 ?_;refine B [] fun _ V h=>?_;refine cA ((((Be V).sw 1005 551).sw 1006 550).sw 5 552) ?_;refine B [] fun f A h=>?_;refine AN ⟨rfl,⟨rfl,trivial⟩,BA A rfl rfl G7 rfl ⟨rfl,rfl,rfl,rfl⟩⟩ ?_;refine B [] fun _ W h=>?_;refine cA (mb (.aV vl) (.aV vq) fun _ _=>((Bz W _ _).sw 3 553)) ?_;refine gE (gA 1003 550 554 a1 7 A (⟨f.aE,f.aJ,f.aZ,f.code,f.aP,f.args,x84.a8,f.aA,f.aH⟩:j4)) ?_;refine gE (gR 1001 1 1002 555 556) ?_;exact Sr [14] [(2,555),(3,556),(5,554)]
 refine I [3,4] ?_ ?_<;>intro _ h
 ·refine S [2] ?_;refine kd [0,1,5,6] [4,5,1000,1001,1002,1003] ?_;refine B [8] fun _ X h=>?_;refine cD (oP X) ?_;refine B [] fun _ Y h=>?_;refine wM (((De Y).sw 0 186).sw 1 886) ⟨OU _,trivial,trivial⟩ ?_;refine S [2] ?_;refine kd [0,1,6,7,8,9] [4,8,186,886,1000,1001,1002,1003] ?_;refine I [3,4] ?_ ?_<;>intro _ h
  ·refine B [3] fun _ C h=>?_;refine cA (mb (.aV vl) (.aV vq) fun _ _=>(y7 C _ _)) ?_;refine gC (gR 1001 1 1002 557 558) ?_;refine gC (gS 1003 559) ?_;exact Sr [7] [(2,557),(3,558),(5,559)]
  refine B [1,3,5] fun _ D h=>?_;refine cA ((nb D).bB [(1016,4),(1019,1003),(1021,1005),(21,560)] rfl) ?_;refine gE (gX 1002) ?_;exact Sr [14] [(2,186),(3,886),(5,560)]
 refine S [1] ?_;refine gE (gR 1001 1 1002 561 562) ?_;refine gE (gS 1003 563) ?_;exact Sr [14] [(2,561),(3,562),(5,563)]
def Hh{N a0 gl gq r}(h:sA N a0 gl gq=some r){e:Nat}{a:List AV}(y:∀c d x j,gl c d x=some j->Sp e [.agg (Z8 c),.int d,.str x,.fp a] (.aX [.int j.1,.int j.2])){f:Nat}(z:∀c d j,gq c d=some j->Sp f [.int c,.int d] (.aX [.agg (fK j.1),.bool j.2])):Sq 167 [(1000,mB a0 (.fn e [.fp a]) (.fn f []) 1001 1003),(1001,.box [Y1 a0.w.a7,.aN 1002,.int a0.w.aC] 40),(1002,d92 a0.w.heap [] 1004),(1003,U9 a0.aF [] 1005)] [.ptr 1000 0] (.aX []) [(1000,mB r (.fn e [.fp a]) (.fn f []) 1001 4),(1001,.box [Y1 r.w.a7,.aN 2,.int r.w.aC] 40),(2,d92 r.w.heap [] 3),(3,.aK),(1002,.aK),(4,U9 r.aF [] 5),(5,.aK),(1003,.aK)] [3,2,5,4]:=by
 refine so func167 ntmps167 fun E u=>?_;refine B [15,2,8,13,12] fun i b h=>?_;refine iD b ?_;refine S [3] ?_;refine Q9 (l6 b).2 ?_;refine kd [0,2,3] [1000,1001,1002,1003] ?_;refine S [3] ?_;refine Q9 (l6 b).2 ?_;refine B [] fun _ D h=>?_;refine E5 D ?_;refine S [3] ?_;refine Q9 (l6 b).2 ?_;refine S [12] ?_;refine sD (l6 b).2 (⟨i.aE,i.aJ,i.aZ,i.code,i.aP,i.args,i.a8,i.aA,(wr (i.aH+(1:Int)))⟩:j4) ?_;refine kd [0,2,3,4] [4,1000,1001,1002,1003] ?_;refine I [3,6,3,4] ?_ ?_<;>intro _ h
 ·refine B [5] fun _ C h=>?_;refine cA (((Hi C y z).sw 5 501).sw 4 502) ?_;refine gE (gR 1001 1 1002 503 504) ?_;exact Sr [14] [(2,503),(3,504),(4,502),(5,501)]
 refine I [3,4] ?_ ?_<;>intro _ h
 ·refine B [5] fun _ l h=>?_;refine cA (mb (.fn e [.fp a]) (.fn f []) fun _ _=>((qM l _ _).sw 5 505)) ?_;refine gE (gR 1001 1 1002 506 507) ?_;refine gE (gR 1000 6 1003 508 509) ?_;exact Sr [14] [(2,506),(3,507),(4,508),(5,509)]
 refine I [3,4] ?_ ?_<;>intro _ h
 ·refine B [3] fun _ m h=>?_;refine cA ((ld m).sw 5 510) ?_;refine S [3,6] ?_;refine kd [0,2,4,61] [4,510,1000,1001,1002,1003] ?_;refine I [3,4] ?_ ?_<;>intro _ h
  ·refine B [5] fun _ n h=>?_;refine cA (mb (.fn e [.fp a]) (.fn f []) fun _ _=>(((qM n _ _).sw 1005 510).sw 5 511)) ?_;refine gE (gR 1001 1 1002 512 513) ?_;refine gE (gR 1000 6 1003 514 515) ?_;exact Sr [14] [(2,512),(3,513),(4,514),(5,515)]
  refine I [3,4] ?_ ?_<;>intro _ h
  ·refine S [1] ?_;refine gE (gR 1001 1 1002 516 517) ?_;refine gE (gR 1000 6 1003 518 519) ?_;exact Sr [14] [(2,516),(3,517),(4,518),(5,519)]
  refine B [5] fun _ o h=>?_;refine cA (mb (.fn e [.fp a]) (.fn f []) fun _ _=>(y7 o _ _)) ?_;refine gE (gR 1001 1 1002 520 521) ?_;refine gE (gR 1000 6 1003 522 523) ?_;exact Sr [14] [(2,520),(3,521),(4,522),(5,523)]
 refine I [3,4] ?_ ?_<;>intro _ h
 ·refine B [3] fun _ p h=>?_;refine cA ((ld p).sw 5 524) ?_;refine S [2] ?_;refine kd [0,6] [6,524,1000,1001,1002,1003] ?_;refine A [8,13,12] fun k h=>?_;refine j7 k rfl rfl ?_;refine B [5] fun _ q h=>?_;refine cA (mb (.fn e [.fp a]) (.fn f []) fun _ _=>((((qN q _ _).sw 1003 88).sw 1005 788).sw 5 525)) ?_;refine gE (gR 1001 1 1002 526 527) ?_;exact Sr [14] [(2,526),(3,527),(4,88),(5,525)]
 refine I [3,4] ?_ ?_<;>intro _ h
 ·refine B [5] fun _ s h=>?_;refine cA (mb (.fn e [.fp a]) (.fn f []) fun _ _=>((xv s _ _).sw 5 528)) ?_;refine gE (gR 1001 1 1002 529 530) ?_;refine gE (gR 1000 6 1003 531 532) ?_;exact Sr [14] [(2,529),(3,530),(4,531),(5,532)]
 refine I [3,4] ?_ ?_<;>intro _ h
 ·refine kd [0] [1000,1001,1002,1003] ?_;refine B [5] fun _ t h=>?_;refine cA (mb (.fn e [.fp a]) (.fn f []) fun _ _=>(N7 t _ _)) ?_;refine gE (gR 1001 1 1002 533 534) ?_;refine gE (gR 1000 6 1003 535 536) ?_;exact Sr [14] [(2,533),(3,534),(4,535),(5,536)]
 refine kd [0,2,4] [4,1000,1001,1002,1003] ?_;refine B [5] fun _ v h=>?_;refine cA (mb (.fn e [.fp a]) (.fn f []) fun _ _=>((((xm v _ _).sw 3 537).sw 2 538).sw 5 539)) ?_;refine gE (gR 1000 6 1003 540 541) ?_;exact Sr [14] [(2,538),(3,537),(4,540),(5,541)]
def IY{N a0 a1 a2 g3 g4 r}(h:jv N a0 a1 a2 g3 g4=some r){f:Nat}{b:List AV}(y:∀c d x e,g3 c d x=some e->Sp f [.agg (Z8 c),.int d,.str x,.fp b] (.aX [.int e.1,.int e.2])){i:Nat}(j:∀c d e,g4 c d=some e->Sp i [.int c,.int d] (.aX [.agg (fK e.1),.bool e.2])):Sp 125 [.agg (M3 a0),.agg (ir a1),.int a2,.fn f [.fp b],.fn i []] (.aX [.agg (M3 r.1),.agg (pU r.2)]):=by
 refine so func125 ntmps125 fun Γ u=>?_;refine B [3,2,3] fun _ z h=>?_;refine cA (ym z) ?_;refine I [3,4] ?_ ?_<;>intro _ h
 ·refine B [3] fun _ A h=>?_;refine cA (((jz A).sw 0 24).sw 1 724) ?_;refine j5.az 24 rfl ?_;exact Sr [7]
 refine B [1,3] fun E C h=>?_;refine cA (((jz C).sw 0 28).sw 1 728) ?_;refine kd [2,3,4,5,6,10,11,13] [5,6,10,11,13,28,728] ?_;refine B [3,2,2,8] fun _ D h=>?_;refine cD (oO D) ?_;refine B [] fun _ m h=>?_;refine cD (jy m) ?_;refine kd [5,6,10,11,13,14,15,16] [5,6,10,11,13,28,33,728] ?_;refine S [3] ?_;refine nB 33 6 501 10 288 ?_;refine gC (gT 501 502 [(7,(2,29)),(8,(2,29))]) ?_;refine J e0 u h nl (fun s=>[(33,.box [.ptr 13 0,.fn f [.fp b],.fn i [],.int s.1,.int s.2.1,.int s.2.2.1,.aN 501,.int s.2.2.2.2.1,.int s.2.2.2.2.2.1,.int s.2.2.2.2.2.2] 251),(501,U9 s.2.2.2.1 [] 502)]) [5,10,11,13,14] [5,10,11,13,28,502,728] (fun _ h g=>?_) ?_
 ·refine I [4] ?_ ?_<;>intro _ h
  ·refine B [5] fun _ o h=>?_;refine cA (mb (.fn f [.fp b]) (.fn i []) fun _ _=>((((y7 o _ _).sw 1000 33).sw 1001 13).sw 1003 501)) ?_;exact je
  refine B [5] fun _ p h=>?_;refine cA ((Bv p j).bB [(1000,33),(1001,13),(1003,501),(1002,28),(1005,502),(5,503),(4,504)] rfl) ?_;exact je [(501,504),(502,503)]
 rintro⟨F,G,H,K,L,M,O⟩ h;refine S [2] ?_;refine LF e0 u (E.a7,E.heap,E.aC,F,G,H,K,L,M,O) (fun l v=>kj N g3 g4 l v.1 v.2.1 v.2.2.1 v.2.2.2.1 v.2.2.2.2.1 v.2.2.2.2.2.1 v.2.2.2.2.2.2.1 v.2.2.2.2.2.2.2.1 v.2.2.2.2.2.2.2.2.1 v.2.2.2.2.2.2.2.2.2) h (fun v=>[]) (fun v=>[(13,.box [Y1 v.1,.aN 28,.int v.2.2.1] 40),(28,d92 v.2.1 [] 728),(33,.box [.ptr 13 0,.fn f [.fp b],.fn i [],.int v.2.2.2.1,.int v.2.2.2.2.1,.int v.2.2.2.2.2.1,.aN 501,.int v.2.2.2.2.2.2.2.1,.int v.2.2.2.2.2.2.2.2.1,.int v.2.2.2.2.2.2.2.2.2] 251),(501,U9 v.2.2.2.2.2.2.1 [] 502)]) [5,10,11,13,14] [5,10,11,502,728] [] nl (fun s=>[(13,.box [Y1 s.1,.aN 28,.int s.2.2.1] 40),(28,d92 s.2.1 [] 728),(33,.box [.ptr 13 0,.fn f [.fp b],.fn i [],.int s.2.2.2.1,.int s.2.2.2.2.1,.int s.2.2.2.2.2.1,.aN 501,.int s.2.2.2.2.2.2.2.1,.int s.2.2.2.2.2.2.2.2.1,.int s.2.2.2.2.2.2.2.2.2] 251),(501,U9 s.2.2.2.2.2.2.1 [] 502)]) [5,10,11,13,14] [5,10,11,502,728] ?_ ?_
 ·rintro _ g ⟨Q,R,T,U,V,W,X,Y,Z,v35⟩ P h;rw[kj] at h;refine S [2,2] ?_;refine Jb 70 u h [5,10,11,13,14] [5,10,11,13,28,33,501,502,728] (fun _ h g=>?_) ?_
  ·exact E9 [5] [0,13,0] [0]
  intro v60 h;refine I [4] ?_ ?_<;>intro _ h
  ·refine B [1,6,5] fun a q h=>?_;refine cA ((Hh q y j).bB [(1000,33),(1001,13),(1003,501),(1002,28),(1004,728),(1005,502),(3,505),(2,506),(5,507),(4,508)] rfl) ?_;exact le (a.w.a7,a.w.heap,a.w.aC,a.fuel,a.sends,a.turns,a.aF,a.back.k,a.back.n,a.err) [(28,506),(728,505),(501,508),(502,507)]
  exact Sj [20]
 rintro⟨v46,v47,v48,v49,v50,v51,v52,v53,v54,v55⟩ h;refine I [2,3,4] ?_ ?_<;>intro _ h
 ·refine B [2,8] fun _ t h=>?_;refine cA (((jz t).sw 0 79).sw 1 779) ?_;refine j5.az 79 rfl ?_;exact Sr [7]
 refine S [1,2,8] ?_;refine j5.az 28 rfl ?_;exact Sr [7]
def Jg{N a0 a1 a2 b0 r}(h:tD N a0 a1 a2 b0=some r):Sp 126 [.agg (Z8 a0),.int a1,.str a2,.fp (M3 b0)] (.aX [.int r.1,.int r.2]):=by
 refine so func126 ntmps126 fun b u=>?_;refine B [3,3] fun _ a h=>?_;refine cA (jy a) ?_;exact Sr [7]
def CJ{N a0 a1 r}(h:tW N a0 a1=some r):Sp 127 [.int a0,.int a1] (.aX [.agg (fK r.1),.bool r.2]):=by
 refine so func127 ntmps127 fun a u=>?_;exact Sr [3,3,7]
def d26{N a0 a1 a2 r}(h:wV N a0 a1 a2=some r):Sp 99 [.agg (M3 a0),.agg (ir a1),.int a2] (.aX [.agg (M3 r.1),.agg (pU r.2)]):=by
 refine so func99 ntmps99 fun c u=>?_;refine S [3] ?_;refine j5.gh (Gh.ao 3 3 rfl rfl rfl) (fun _=>?_);refine kd [2,3,4,6,7] [4,6,7] ?_;refine B [3] fun _ b h=>?_;refine cA (IY b (fun _ _ _ _ a=>Jg a) (fun _ _ _ a=>CJ a)) ?_;exact Sr [7]
def Bu{N a0 gq a1 a2 a3 a4 r}(h:ka N a0 gq a1 a2 a3 a4=some r){c:Nat}{a:List AV}{b:Nat}(C:∀y z L,gq y z=some L->Sp b [.int y,.int z] (.aX [.agg (fK L.1),.bool L.2])):Sq 166 [(1000,mB a0 (.fn c [.ptr 1007 0,.fp a]) (.fn b []) 1001 1003),(1001,.box [Y1 a0.w.a7,.aN 1002,.int a0.w.aC] 40),(1003,U9 a0.aF [] 1005)] [.ptr 1000 0,.int a1,.int a2,.agg (eV a3),lR a4] (.aX []) [(1000,mB r (.fn c [.ptr 1007 0,.fp a]) (.fn b []) 1001 4),(1001,.box [Y1 a0.w.a7,.aN 1002,.int a0.w.aC] 40),(4,U9 r.aF [] 5),(5,.aK),(1003,.aK)] [5,4]:=by
 refine so func166 ntmps166 fun M u=>?_;refine B [15,3,3] fun _ E h=>?_;refine E5 E ?_;refine B [] fun _ F h=>?_;refine E5 F ?_;refine S [2] ?_;refine kd [0,1,2,4,8,10] [8,1000,1001,1003] ?_;refine I [3,13,4] ?_ ?_<;>intro _ h
 ·refine B [3] fun _ D h=>?_;refine cA (mb (.fn c [.ptr 1007 0,.fp a]) (.fn b []) fun _ _=>(y7 D _ _)) ?_;refine gC (gR 1000 6 1003 501 502) ?_;exact Sr [7] [(4,501),(5,502)]
 refine I [1,2,3,4] ?_ ?_<;>intro _ h
 ·refine S [2] ?_;refine kd [0,4,8,10] [8,1000,1001,1003] ?_;refine B [3] fun _ i h=>?_;refine cA (mb (.fn c [.ptr 1007 0,.fp a]) (.fn b []) fun _ _=>(N7 i _ _)) ?_;refine I [4] ?_ ?_<;>intro _ h
  ·refine gC (gR 1000 6 1003 503 504) ?_;exact Sr [7] [(4,503),(5,504)]
  refine B [1,2,8] fun _ t h=>?_;refine E5 t ?_;refine B [] fun _ j h=>?_;refine cA (yB j) ?_;refine S [2] ?_;refine kd [0,11,12] [11,1000,1001,1003] ?_;refine I [3,4] ?_ ?_<;>intro _ h
  ·refine B [3] fun _ l h=>?_;refine cA (mb (.fn c [.ptr 1007 0,.fp a]) (.fn b []) fun _ _=>(y7 l _ _)) ?_;refine gC (gR 1000 6 1003 505 506) ?_;exact Sr [7] [(4,505),(5,506)]
  refine B [1,3] fun _ m h=>?_;refine cA (mb (.fn c [.ptr 1007 0,.fp a]) (.fn b []) fun _ _=>((qN m _ _).sw 5 507)) ?_;refine gC (gR 1000 6 1003 508 509) ?_;exact Sr [7] [(4,508),(5,509)]
 refine S [1,2] ?_;refine kd [0,1,2,4,8,10] [8,1000,1001,1003] ?_;refine B [3] fun _ o h=>?_;refine cA (mb (.fn c [.ptr 1007 0,.fp a]) (.fn b []) fun _ _=>(N7 o _ _)) ?_;refine I [4] ?_ ?_<;>intro _ h
 ·refine gC (gR 1000 6 1003 510 511) ?_;exact Sr [7] [(4,510),(5,511)]
 refine S [1,2] ?_;refine kd [0,1,2,4,8,10] [8,1000,1001,1003] ?_;refine B [8] fun G p h=>?_;refine cA ((nt N _ _ p).sw 0 77) ?_;refine A [] fun d h=>?_;refine j8 (enc:=eV) (x:=(⟨(0:Int),(0:Int)⟩:V)) d aT ?_;refine S [2] ?_;refine kd [0,1,2,13] [13,77,82,1000,1001,1003] ?_;refine B [3] fun _ q h=>?_;refine cA (C _ _ _ q) ?_;refine S [3] ?_;refine J e0 u h nl (fun s=>[(13,.box [.int a1,.int a2,.bool s.1,qH s.2.1,.int a3.k,.int a3.n,.aN 77,.aN 99,.aI,.int (0:Int)] 288),(99,eS s.2.2)]) [0,13] [77,1000,1001,1003] (fun _ h g=>?_) ?_
 ·refine I [4] ?_ ?_<;>intro _ h
  ·refine kd [0,13,14] [13,14,77,82,1000,1001,1003] ?_;refine A [8] fun e h=>?_;refine j8 (enc:=eV) (x:=(⟨(0:Int),(0:Int)⟩:V)) e aT ?_;exact je
  exact Sj [1] [(99,82)]
 rintro⟨H,K,v⟩ h;refine j5.aY 77 rfl ?_;refine kd [0,13] [13,99,1000,1001,1003] ?_;refine S [8,11] ?_;refine Exists.intro [(7,(2,29)),(8,(2,29))] (Exists.intro (wI (⟨a1,a2,H,K,a3,G,v,[],(0:Int)⟩:j4)) (Exists.intro [(99,eS v)] (AN rfl (AN rfl (AN rfl (AN G7 (AN G7 (AN rfl (AN rfl ?_)))))))));refine A [] fun f h=>?_;refine aD f ?_;exact Sr [14] [(4,110),(5,810)]
def HI{N a0 gl gq sb a1 a2 a3 r}(h:ue N a0 gl gq sb a1 a2 a3=some r){v:Nat}{c:List AV}(z:∀d f t F i,gl d f t F=some i->Sq v [(1007,.box (fD F) 153)] [.agg (Z8 d),.int f,.str t,.ptr 1007 0,.fp c] (.aX [.int i.1,.int i.2.1]) [(1007,.box (fD i.2.2) 153)] []){x:Nat}(C:∀d f i,gq d f=some i->Sp x [.int d,.int f] (.aX [.agg (fK i.1),.bool i.2])):Sq 198 [(1000,mB a0 (.fn v [.ptr 1007 0,.fp c]) (.fn x []) 1001 1003),(1001,.box [Y1 a0.w.a7,.aN 1002,.int a0.w.aC] 40),(1002,d92 a0.w.heap [] 1004),(1003,U9 a0.aF [] 1005),(1007,.box (fD sb) 153)] [.ptr 1000 0,.ep 1003 a1 10 0,.agg (bh a2),.int a3] (.aX []) [(1000,mB r.2 (.fn v [.ptr 1007 0,.fp c]) (.fn x []) 1001 4),(1001,.box [Y1 a0.w.a7,.aN 1002,.int a0.w.aC] 40),(1002,d92 a0.w.heap [] 1004),(4,U9 r.2.aF [] 5),(5,.aK),(1003,.aK),(1007,.box (fD r.1) 153)] [5,4]:=by
 refine so func198 ntmps198 fun H u=>?_;refine B [15,3,2] fun e b h=>?_;refine gC (gD 1003 501 502 a1 8 b) ?_;refine kd [0,1,3,6] [6,501,502,1000,1001,1002,1003,1007] ?_;refine S [8] ?_;refine hD b ?_;refine S [13,12,2] ?_;refine kd [0,1,3,6,8] [6,501,502,1000,1001,1002,1003,1007] ?_;refine S [8] ?_;refine hD b ?_;refine A [] fun y h=>?_;refine d66 y rfl rfl ?_;refine B [] fun _ D h=>?_;refine wM ((Spec.drop1 (nt N _ _ D)).sw 0 28) ⟨BF _,trivial⟩ ?_;refine hD b ?_;refine B [12] fun _ q h=>?_;refine R7 q ?_;refine Q9 (l6 q).2 ?_;refine S [2] ?_;refine gC (gB 1003 501 503 a1 8 b) ?_;refine kd [0,1,3,6,8,9,10] [6,10,28,503,1000,1001,1002,1003,1007] ?_;refine S [8] ?_;refine Q9 b ?_;refine Q9 b ?_;refine B [] fun _ o h=>?_;refine E5 o ?_;refine Q9 b ?_;refine B [] fun E p h=>?_;refine E5 p ?_;refine S [2] ?_;refine kd [0,1,6,8,9,10,11] [6,10,11,28,503,1000,1001,1002,1003,1007] ?_;refine S [3] ?_;refine Q9 b ?_;refine J e0 u h nl (fun s=>[(11,.box [.int e.aE,.str E.name,.int s] 156)]) [0,1,6,8,9,10,11] [6,10,28,503,1000,1001,1002,1003,1007] (fun _ h g=>?_) ?_
 ·exact E9 [4] [5] [1]
 intro G h;refine S [2] ?_;refine kd [0,1,6,8,9,10,11] [6,10,11,28,503,1000,1001,1002,1003,1007] ?_;refine B [8] fun _ k h=>?_;refine cD (oO k) ?_;refine B [] fun _ l h=>?_;refine cA (z _ _ _ _ _ l) ?_;refine S [2] ?_;refine kd [0,1,8,9,10,12,13] [10,28,503,1000,1001,1002,1003,1007] ?_;refine I [3,4] ?_ ?_<;>intro _ h
 ·refine B [3] fun _ m h=>?_;refine cA (mb (.fn v [.ptr 1007 0,.fp c]) (.fn x []) fun _ _=>(y7 m _ _)) ?_;refine gC (gR 1000 6 1003 504 505) ?_;exact Sr [7] [(4,504),(5,505)]
 refine S [1] ?_;refine gC (gD 1003 506 507 a1 8 b) ?_;refine kd [0,1,8,9,10,12,13] [10,28,506,507,1000,1001,1002,1003,1007] ?_;refine S [3] ?_;refine hD b ?_;refine A [12] fun j h=>?_;refine j7 j rfl rfl ?_;refine hS b ?_;refine gC (gA 1003 102 508 a1 8 b (⟨e.aE,e.aJ,e.aZ,e.code,e.aP,e.args,e.a8,(e.aA.take (wr ((wr ((e.aA.length:Int)-a2.a))-(1:Int))).toNat),e.aH⟩:j4)) ?_;refine kd [0,1,9,10,12,13] [10,28,508,1000,1001,1002,1003,1007] ?_;refine B [5] fun _ n h=>?_;refine cF ((((Bu n C).sw 1005 508).sw 5 509).sw 4 510) ?_;exact Sr [14] [(4,510),(5,509)]
def HH{N a0 gl gq sb r}(h:ud N a0 gl gq sb=some r){e:Nat}{a:List AV}(y:∀c d x E j,gl c d x E=some j->Sq e [(1007,.box (fD E) 153)] [.agg (Z8 c),.int d,.str x,.ptr 1007 0,.fp a] (.aX [.int j.1,.int j.2.1]) [(1007,.box (fD j.2.2) 153)] []){f:Nat}(z:∀c d j,gq c d=some j->Sp f [.int c,.int d] (.aX [.agg (fK j.1),.bool j.2])):Sq 167 [(1000,mB a0 (.fn e [.ptr 1007 0,.fp a]) (.fn f []) 1001 1003),(1001,.box [Y1 a0.w.a7,.aN 1002,.int a0.w.aC] 40),(1002,d92 a0.w.heap [] 1004),(1003,U9 a0.aF [] 1005),(1007,.box (fD sb) 153)] [.ptr 1000 0] (.aX []) [(1000,mB r.2 (.fn e [.ptr 1007 0,.fp a]) (.fn f []) 1001 4),(1001,.box [Y1 r.2.w.a7,.aN 2,.int r.2.w.aC] 40),(2,d92 r.2.w.heap [] 3),(3,.aK),(1002,.aK),(4,U9 r.2.aF [] 5),(5,.aK),(1003,.aK),(1007,.box (fD r.1) 153)] [3,2,5,4]:=by
 refine so func167 ntmps167 fun F u=>?_;refine B [15,2,8,13,12] fun i b h=>?_;refine iD b ?_;refine S [3] ?_;refine Q9 (l6 b).2 ?_;refine kd [0,2,3] [1000,1001,1002,1003,1007] ?_;refine S [3] ?_;refine Q9 (l6 b).2 ?_;refine B [] fun _ D h=>?_;refine E5 D ?_;refine S [3] ?_;refine Q9 (l6 b).2 ?_;refine S [12] ?_;refine sD (l6 b).2 (⟨i.aE,i.aJ,i.aZ,i.code,i.aP,i.args,i.a8,i.aA,(wr (i.aH+(1:Int)))⟩:j4) ?_;refine kd [0,2,3,4] [4,1000,1001,1002,1003,1007] ?_;refine I [3,6,3,4] ?_ ?_<;>intro _ h
 ·refine B [5] fun _ C h=>?_;refine cA (((HI C y z).sw 5 501).sw 4 502) ?_;refine gE (gR 1001 1 1002 503 504) ?_;exact Sr [14] [(2,503),(3,504),(4,502),(5,501)]
 refine I [3,4] ?_ ?_<;>intro _ h
 ·refine B [5] fun _ l h=>?_;refine cA (mb (.fn e [.ptr 1007 0,.fp a]) (.fn f []) fun _ _=>((qM l _ _).sw 5 505)) ?_;refine gE (gR 1001 1 1002 506 507) ?_;refine gE (gR 1000 6 1003 508 509) ?_;exact Sr [14] [(2,506),(3,507),(4,508),(5,509)]
 refine I [3,4] ?_ ?_<;>intro _ h
 ·refine B [3] fun _ m h=>?_;refine cA ((ld m).sw 5 510) ?_;refine S [3,6] ?_;refine kd [0,2,4,61] [4,510,1000,1001,1002,1003,1007] ?_;refine I [3,4] ?_ ?_<;>intro _ h
  ·refine B [5] fun _ n h=>?_;refine cA (mb (.fn e [.ptr 1007 0,.fp a]) (.fn f []) fun _ _=>(((qM n _ _).sw 1005 510).sw 5 511)) ?_;refine gE (gR 1001 1 1002 512 513) ?_;refine gE (gR 1000 6 1003 514 515) ?_;exact Sr [14] [(2,512),(3,513),(4,514),(5,515)]
  refine I [3,4] ?_ ?_<;>intro _ h
  ·refine S [1] ?_;refine gE (gR 1001 1 1002 516 517) ?_;refine gE (gR 1000 6 1003 518 519) ?_;exact Sr [14] [(2,516),(3,517),(4,518),(5,519)]
  refine B [5] fun _ o h=>?_;refine cA (mb (.fn e [.ptr 1007 0,.fp a]) (.fn f []) fun _ _=>(y7 o _ _)) ?_;refine gE (gR 1001 1 1002 520 521) ?_;refine gE (gR 1000 6 1003 522 523) ?_;exact Sr [14] [(2,520),(3,521),(4,522),(5,523)]
 refine I [3,4] ?_ ?_<;>intro _ h
 ·refine B [3] fun _ p h=>?_;refine cA ((ld p).sw 5 524) ?_;refine S [2] ?_;refine kd [0,6] [6,524,1000,1001,1002,1003,1007] ?_;refine A [8,13,12] fun k h=>?_;refine j7 k rfl rfl ?_;refine B [5] fun _ q h=>?_;refine cA (mb (.fn e [.ptr 1007 0,.fp a]) (.fn f []) fun _ _=>((((qN q _ _).sw 1003 88).sw 1005 788).sw 5 525)) ?_;refine gE (gR 1001 1 1002 526 527) ?_;exact Sr [14] [(2,526),(3,527),(4,88),(5,525)]
 refine I [3,4] ?_ ?_<;>intro _ h
 ·refine B [5] fun _ s h=>?_;refine cA (mb (.fn e [.ptr 1007 0,.fp a]) (.fn f []) fun _ _=>((xv s _ _).sw 5 528)) ?_;refine gE (gR 1001 1 1002 529 530) ?_;refine gE (gR 1000 6 1003 531 532) ?_;exact Sr [14] [(2,529),(3,530),(4,531),(5,532)]
 refine I [3,4] ?_ ?_<;>intro _ h
 ·refine kd [0] [1000,1001,1002,1003,1007] ?_;refine B [5] fun _ t h=>?_;refine cA (mb (.fn e [.ptr 1007 0,.fp a]) (.fn f []) fun _ _=>(N7 t _ _)) ?_;refine gE (gR 1001 1 1002 533 534) ?_;refine gE (gR 1000 6 1003 535 536) ?_;exact Sr [14] [(2,533),(3,534),(4,535),(5,536)]
 refine kd [0,2,4] [4,1000,1001,1002,1003,1007] ?_;refine B [5] fun _ v h=>?_;refine cA (mb (.fn e [.ptr 1007 0,.fp a]) (.fn f []) fun _ _=>((((xm v _ _).sw 3 537).sw 2 538).sw 5 539)) ?_;refine gE (gR 1000 6 1003 540 541) ?_;exact Sr [14] [(2,538),(3,537),(4,540),(5,541)]
def HX{N a0 a1 a2 g3 sb g4 r}(h:qj N a0 a1 a2 g3 sb g4=some r){i:Nat}{b:List AV}(z:∀c d f y e,g3 c d f y=some e->Sq i [(1055,.box (fD y) 153)] [.agg (Z8 c),.int d,.str f,.ptr 1055 0,.fp b] (.aX [.int e.1,.int e.2.1]) [(1055,.box (fD e.2.2) 153)] []){j:Nat}(m:∀c d e,g4 c d=some e->Sp j [.int c,.int d] (.aX [.agg (fK e.1),.bool e.2])):Sq 125 [(1055,.box (fD sb) 153)] [.agg (M3 a0),.agg (ir a1),.int a2,.fn i [.ptr 1055 0,.fp b],.fn j []] (.aX [.agg (M3 r.1),.agg (pU r.2.1)]) [(1055,.box (fD r.2.2) 153)] []:=by
 refine so func125 ntmps125 fun Γ u=>?_;refine B [3,2,3] fun _ A h=>?_;refine cA (ym A) ?_;refine I [3,4] ?_ ?_<;>intro _ h
 ·refine B [3] fun _ C h=>?_;refine cA (((jz C).sw 0 24).sw 1 724) ?_;refine j5.az 24 rfl ?_;exact Sr [7]
 refine B [1,3] fun F D h=>?_;refine cA (((jz D).sw 0 28).sw 1 728) ?_;refine kd [2,3,4,5,6,10,11,13] [5,6,10,11,13,28,728,1055] ?_;refine B [3,2,2,8] fun _ E h=>?_;refine cD (oO E) ?_;refine B [] fun _ o h=>?_;refine cD (jy o) ?_;refine kd [3,4,5,6,10,11,13,14,15,16] [5,6,10,11,13,28,33,728,1055] ?_;refine S [3] ?_;refine nB 33 6 501 10 288 ?_;refine gC (gT 501 502 [(7,(2,29)),(8,(2,29))]) ?_;refine J e0 u h nl (fun s=>[(33,.box [.ptr 13 0,.fn i [.ptr 1055 0,.fp b],.fn j [],.int s.1,.int s.2.1,.int s.2.2.1,.aN 501,.int s.2.2.2.2.1,.int s.2.2.2.2.2.1,.int s.2.2.2.2.2.2] 251),(501,U9 s.2.2.2.1 [] 502)]) [3,4,5,10,11,13,14] [5,10,11,13,28,502,728,1055] (fun _ h g=>?_) ?_
 ·refine I [4] ?_ ?_<;>intro _ h
  ·refine B [5] fun _ p h=>?_;refine cA (mb (.fn i [.ptr 1055 0,.fp b]) (.fn j []) fun _ _=>((((y7 p _ _).sw 1000 33).sw 1001 13).sw 1003 501)) ?_;exact je
  refine B [5] fun _ q h=>?_;refine cA ((Bu q m).bB [(1000,33),(1001,13),(1003,501),(1002,28),(1005,502),(1007,1055),(5,503),(4,504)] rfl) ?_;exact je [(501,504),(502,503)]
 rintro⟨G,H,K,L,M,O,P⟩ h;refine S [2] ?_;refine LF e0 u (sb,F.a7,F.heap,F.aC,G,H,K,L,M,O,P) (fun l v=>oQ N g3 g4 l v.1 v.2.1 v.2.2.1 v.2.2.2.1 v.2.2.2.2.1 v.2.2.2.2.2.1 v.2.2.2.2.2.2.1 v.2.2.2.2.2.2.2.1 v.2.2.2.2.2.2.2.2.1 v.2.2.2.2.2.2.2.2.2.1 v.2.2.2.2.2.2.2.2.2.2) h (fun v=>[]) (fun v=>[(13,.box [Y1 v.2.1,.aN 28,.int v.2.2.2.1] 40),(28,d92 v.2.2.1 [] 728),(33,.box [.ptr 13 0,.fn i [.ptr 1055 0,.fp b],.fn j [],.int v.2.2.2.2.1,.int v.2.2.2.2.2.1,.int v.2.2.2.2.2.2.1,.aN 501,.int v.2.2.2.2.2.2.2.2.1,.int v.2.2.2.2.2.2.2.2.2.1,.int v.2.2.2.2.2.2.2.2.2.2] 251),(501,U9 v.2.2.2.2.2.2.2.1 [] 502),(1055,.box (fD v.1) 153)]) [3,4,5,10,11,13,14] [5,10,11,502,728] [] nl (fun s=>[(13,.box [Y1 s.2.1,.aN 28,.int s.2.2.2.1] 40),(28,d92 s.2.2.1 [] 728),(33,.box [.ptr 13 0,.fn i [.ptr 1055 0,.fp b],.fn j [],.int s.2.2.2.2.1,.int s.2.2.2.2.2.1,.int s.2.2.2.2.2.2.1,.aN 501,.int s.2.2.2.2.2.2.2.2.1,.int s.2.2.2.2.2.2.2.2.2.1,.int s.2.2.2.2.2.2.2.2.2.2] 251),(501,U9 s.2.2.2.2.2.2.2.1 [] 502),(1055,.box (fD s.1) 153)]) [3,4,5,10,11,13,14] [5,10,11,502,728] ?_ ?_
 ·rintro _ g ⟨T,U,V,W,X,Y,Z,v33,v34,v35,v36⟩ R h;rw[oQ] at h;refine S [2,2] ?_;refine Jb 70 u h [3,4,5,10,11,13,14] [5,10,11,13,28,33,501,502,728,1055] (fun _ h g=>?_) ?_
  ·exact E9 [5] [0,13,0] [0]
  intro v63 h;refine I [4] ?_ ?_<;>intro _ h
  ·refine B [1,6,5] fun a t h=>?_;refine cA ((HH t (fun c d f y e Q=>(z c d f y e Q).sw 1055 1007) m).bB [(1000,33),(1001,13),(1003,501),(1002,28),(1004,728),(1005,502),(1007,1055),(3,505),(2,506),(5,507),(4,508)] rfl) ?_;exact le (a.1,a.2.w.a7,a.2.w.heap,a.2.w.aC,a.2.fuel,a.2.sends,a.2.turns,a.2.aF,a.2.back.k,a.2.back.n,a.2.err) [(28,506),(728,505),(501,508),(502,507)]
  exact Sj [20]
 rintro⟨v48,v49,v50,v51,v52,v53,v54,v55,v56,v57,v58⟩ h;refine I [2,3,4] ?_ ?_<;>intro _ h
 ·refine B [2,8] fun _ x h=>?_;refine cA (((jz x).sw 0 79).sw 1 779) ?_;refine j5.az 79 rfl ?_;exact Sr [7]
 refine S [1,2,8] ?_;refine j5.az 28 rfl ?_;exact Sr [7]
def HL{N a0 g1 r}(h:X3 N a0 g1=some r){m:Nat}{a:List AV}(f:∀d n,g1 d=some n->Sp m [.agg (fJ d),.fp a] (.bool n)):Sp 230 [fW a0,.fn m [.fp a]] (.int r):=by
 refine so func230 ntmps230 fun p u=>?_;refine S [3,2,3] ?_;refine F6 fun i=>?_;refine LR e1 u () (fun l k v=>D7 N g1 l k) h (fun e v=>[(8,.int (e:Int))]) (fun e v=>[]) [0,1,7] [] [] nl nl [] [] ?_ ?_ ?_
 ·intro _ g e _ h _;rw[D7] at h;exact Sj [3,2,4,0,20]
 ·intro _ g e _ o j h _ c _;rw[D7] at h;refine S [3,2,4,0,1,2,6,3,3] ?_;refine H6 c ?_;refine B [] fun _ b h=>?_;refine cA (f _ _ b) ?_;refine Ir [4] [3,7] fun _ h=>?_;refine S [1,5] ?_;refine IN (AN (G6 c i) ?_);exact le () []
 rintro⟨⟩ h;exact Sr [3,7]
def Ia{N a0 b0 r}(h:qT N a0 b0=some r):Sp 231 [.agg (fJ a0),.fp (Z8 b0)] (.bool r):=by
 refine so func231 ntmps231 fun a u=>?_;exact Sr [3,3,7]
def Ct{N a0 a1 r}(h:qf N a0 a1=some r):Sp 203 [fW a0,.agg (Z8 a1)] (.int r):=by
 refine so func203 ntmps203 fun c u=>?_;refine S [3] ?_;refine j5.gh (Gh.ao 3 3 rfl rfl rfl) (fun _=>?_);refine kd [0,3] [] ?_;refine B [3] fun _ a h=>?_;refine cA (HL a (fun _ _ b=>Ia b)) ?_;exact Sr [7]
def d90{N a0 a1 a2 a3 r}(h:wS N a0 a1 a2 a3=some r):Sp 168 [fW a0,.agg (Z8 a1),.int a2,.int a3] (.int r):=by
 refine so func168 ntmps168 fun n u=>?_;refine B [3,3] fun _ f h=>?_;refine cA (Ct f) ?_;refine S [2,2] ?_;refine Jb 25 u h [0,3,9] [] (fun _ h g=>?_) ?_
 ·refine Ij [5] [0] fun _ h=>?_;refine B [0] fun _ i h=>?_;refine E5 i ?_;exact Sj [0]
 intro m h;refine Ir [4] [3,7] fun _ h=>?_;refine B [1,2,3] fun _ d h=>?_;refine E5 d ?_;refine F6 fun c=>?_;refine LR e1 u () (fun l k v=>om N a3 l k) h (fun a v=>[(32,.int (a:Int))]) (fun a v=>[]) [3,30,31] [] [] nl nl [] [] ?_ ?_ ?_
 ·intro _ g a _ h _;rw[om] at h;exact Sj [3,2,4,0,20]
 ·intro _ g a _ j e h _ b _;rw[om] at h;refine S [3,2,4,0,1,2,6,3] ?_;refine H6 b ?_;refine Ir [3,4] [3,7] fun _ h=>?_;refine S [1,5] ?_;refine IN (AN (G6 b c) ?_);exact le () []
 rintro⟨⟩ h;exact Sr [3,7]
def Bc{N a0 g1 r}(h:O1 N a0 g1=some r){m:Nat}{a:List AV}(f:∀d n,g1 d=some n->Sp m [.agg (O6 d),.fp a] (.bool n)):Sp 172 [rT a0,.fn m [.fp a]] (.int r):=by
 refine so func172 ntmps172 fun p u=>?_;refine S [3,2,3] ?_;refine F6 fun i=>?_;refine LR e1 u () (fun l k v=>D8 N g1 l k) h (fun e v=>[(8,.int (e:Int))]) (fun e v=>[]) [0,1,7] [] [] nl nl [] [] ?_ ?_ ?_
 ·intro _ g e _ h _;rw[D8] at h;exact Sj [3,2,4,0,20]
 ·intro _ g e _ o j h _ c _;rw[D8] at h;refine S [3,2,4,0,1,2,6,3,3] ?_;refine H6 c ?_;refine B [] fun _ b h=>?_;refine cA (f _ _ b) ?_;refine Ir [4] [3,7] fun _ h=>?_;refine S [1,5] ?_;refine IN (AN (G6 c i) ?_);exact le () []
 rintro⟨⟩ h;exact Sr [3,7]
def HF{N a0 g1 r}(h:xn N a0 g1=some r){e:Nat}{a:List AV}(c:∀b f,g1 b=some f->Sp e [.agg (O6 b),.fp a] (.bool f)):Sp 204 [rT a0,.fn e [.fp a]] (.bool r):=by
 refine so func204 ntmps204 fun i u=>?_;refine B [3,3] fun _ d h=>?_;refine cA (Bc d c) ?_;exact Sr [7]
def JZ{N a0 b0 r}(h:uu N a0 b0=some r):Sp 205 [.agg (O6 a0),.fp [.int b0]] (.bool r):=by
 refine so func205 ntmps205 fun a u=>?_;exact Sr [3,3,7]
def LW(N:Nat){l:List Ln}(h:Fit l.length 16):Y3 N l=some l:=by
  unfold Y3;rw[show AT (l.length*16) 140737488355328=true from Qx h];rfl
def Q7(t:Ce):List AV:=[.int t.site.cls,.str t.site.name,.int t.site.pos,.int t.aC,.bool t.many]
def dQ(t:Ce):List AV×List (List AV):=(Q7 t,t.lines.map O6)
def IP(N:Nat)(l:List Ce)(s:Fit l.length 72)(i:∀t∈l,Fit t.lines.length 16):Sq 61 [] [.sl 6 (l.map fJ)] (.cV 0) [(0,.nest 6 159 2 167 (l.map dQ))] [0]:=by
  refine Spec.of fQ func61 rfl ntmps61 D6 rfl rfl rfl fun w u=>?_;refine Gx ?_;refine F6 (fun c=>?_);refine Gx ?_;refine j5.ba 3 3 6 159 rfl rfl rfl ?_;refine j5.gh (Gh.nV 100 2 167 rfl rfl) (fun _=>?_);refine j5.loop (ι:={p:Nat×List (Hd×List AV×List (List AV)) // p.1<=l.length/\p.2.map (·.2)=(l.take p.1).map dQ}) (fun p=>[(6,.sl 6 (l.map fJ)),(7,.int l.length),(8,.int p.1.1),(3,.aN 3)])
    (fun p=>[(3,.row 6 (u6 p.1.2) 159),(100,.pins 2 (bD p.1.2) 167)]) (fun p=>l.length-p.1.1) ⟨(0,[]),d9,rfl⟩ [] ?_ ?_ ?_
  · exact⟨⟨rfl,rfl,rfl,rfl,trivial⟩,⟨rfl,rfl,trivial⟩,rfl,rfl⟩
  · intro k;rw[u];rfl
  rintro⟨⟨k,z⟩,o,b⟩;have o:k<=l.length:=o;have b:z.map (·.2)=(l.take k).map dQ:=b;refine Gx ?_;refine jP (fun a=>?_) (fun j=>?_)
  · have a:k<l.length:=by have:(k:Int)<(l.length:Int):=a;omega
    refine Gx ?_;refine AN d9 (AN (by simpa using a) ?_);intro y f r;obtain⟨x,d,rfl⟩:=Gn f;have d:l[k]?=some x:=d;refine Gx ?_;show K9 _ _ _ _ _;refine K9.a_ ((ub N x.lines x.lines (LW N (i x (QM d)))).sw 0 14) (by first|exact km rfl|((repeat (refine AN rfl ?_));exact trivial)) (by(repeat (refine AN rfl ?_));exact trivial) rfl ?_;refine j5.gh (Gh.uU 5 5 14 100 rfl rfl rfl rfl rfl rfl rfl) (fun h=>?_);refine Gx ?_;refine Exists.intro [Q7 x++[.aV h.v]] (AN aT ?_);have n:(u6 z).length=k:=by
      have:=kP b;rw[Qo] at this;simp only[u6,QU];omega
    refine AN ?_ (Exists.intro (u6 (z++[(h,dQ x)])) (AN (by rw[wZ];exact O7 _) ?_))
    · show((u6 z).length+1)*72<=_;rw[n];exact Nat.le_trans (Qr 72 a) s
    refine Gx ?_;refine IN (AN (zt a c) ?_);have m:(z++[(h,dQ x)]).map (·.2)=(l.take (k+1)).map dQ:=by
      rw[zW d,List.map_append,List.map_append,show z.map (·.2)=(l.take k).map dQ from b];rfl
    refine⟨⟨(k+1,z++[(h,dQ x)]),a,m⟩,[(3,19)],by show l.length-(k+1)<l.length-k;omega,⟨⟨rfl,rfl,rfl,rfl,trivial⟩,⟨rfl,?_,trivial⟩,rfl,rfl⟩⟩
    · exact congrArg (fun q=>some (Obj.pins 2 q 167)) (wv z (h,dQ x)).symm
  · have e:k=l.length:=by have:¬(k:Int)<(l.length:Int):=j;omega
    subst e;have b:z.map (·.2)=l.map dQ:=by
      have:z.map (·.2)=(l.take l.length).map dQ:=b;rwa [List.take_length] at this
    refine xb u ?_;show j5 prog w _ _ _ _;refine j5.gh (Gh.close 3 3 100 101 z rfl rfl rfl rfl rfl b rfl rfl rfl rfl rfl) ?_;intro _;refine Gx ?_;exact⟨[(0,101)],_,rfl,rfl,⟨rfl,trivial⟩,rfl,rfl,rfl,rfl,rfl⟩
def FK(l:List Ce):eN 2 (l.map dQ)=l.map fJ:=by simp[eN,dQ,Q7,fJ]
def GV(N:Nat)(s:St):∀(l:List Ce) (k:Nat),D7 N (fun x=>qT N x s) l k=some (match l.findIdx? (fun t=>decide (t.site=s)) with|some i=>.ret ((k+i:Nat):Int)|none=>.next ())
  |[],k=>rfl
  |x::l,k=>by
    rw[D7,pB,GV N s l (k+1)];unfold qT;rw[show cE (Z8 x.site) (Z8 s)=decide (x.site=s) from Ap x.site s];by_cases e:x.site=s
    · simp[e]
    · cases l.findIdx? (fun t=>decide (t.site=s))<;>simp[e];omega
def JY(N:Nat)(l:List Ce)(s:St):qf N l s=some (fY (fun t=>decide (t.site=s)) l):=by
  unfold qf X3 fY;rw[GV];cases l.findIdx? (fun t=>decide (t.site=s))<;>simp
def Gc(N:Nat)(c:Int):∀(l:List Ln) (k:Nat),D8 N (fun x=>uu N x c) l k=some (match l.findIdx? (fun t=>decide (t.cls=c)) with|some i=>.ret ((k+i:Nat):Int)|none=>.next ())
  |[],k=>rfl
  |x::l,k=>by
    rw[D8,pB,Gc N c l (k+1)];unfold uu;by_cases e:x.cls=c
    · simp[e]
    · cases l.findIdx? (fun t=>decide (t.cls=c))<;>simp[e];omega
def PS(N:Nat)(c:Int)(l:List Ln):xn N l (fun x=>uu N x c)=some (decide (0<=fY (fun t=>decide (t.cls=c)) l)):=by
  unfold xn O1 fY;rw[Gc];cases l.findIdx? (fun t=>decide (t.cls=c))<;>simp
def d79(N:Nat)(l:List Ce)(s:St)(e:Int)(c:Int)(f:Int)(r:List Ce)(h:sJ N l s e c f=some r):Sq 169 [] [.sl 6 (l.map fJ),.agg (Z8 s),.int e,.int c,.int f] (.aN 0) [(0,.row 6 (r.map fJ) 159)] [0]:=by
  unfold sJ at h;obtain⟨S,h⟩:=jW h;obtain rfl:=oI h;rw[It,QP] at S;have hf:Fit (l.length+1) 72:=QW S.1;have O:∀t∈l,Fit (t.lines.length+1) 16:=fun t ht=>QW (S.2 t ht);clear h S;refine Spec.of fQ func169 rfl ntmps169 D6 rfl rfl rfl fun E u=>?_;refine eB u ?_;show j5 prog E _ _ _ _;refine j5.gh (Gh.ao 6 6 rfl rfl rfl) ?_;intro _;show j5 prog E _ _ _ _;refine j5.gh (Gh.ao 8 8 rfl rfl rfl) ?_;intro _;refine Gx ?_;show K9 _ _ _ _ _;refine K9.a_ ((IP N l (Nat.le_trans (Qr _ (Nat.le_succ _)) hf) (fun t ht=>Nat.le_trans (Qr _ (Nat.le_succ _)) (O t ht))).sw 0 15) (by first|exact km rfl|((repeat (refine AN rfl ?_));exact trivial)) (by(repeat (refine AN rfl ?_));exact trivial) rfl ?_;refine Gx ?_;show K9 _ _ _ _ _;refine K9.gb (Ct (JY N l s)) ?_ rfl ?_
  · show dW [.sl 6 (eN 2 (l.map dQ)),.agg (Z8 s)] _;rw[FK];exact km rfl
  show j5 prog E _ _ _ _;refine j5.gh (Gh.open 11 15 102 103 rfl rfl rfl rfl rfl rfl (fun _=>rfl)) ?_;rintro⟨z,H⟩;refine j5.cut (ι:={ q:Nat×Ce×Hd×List (Hd×List AV×List (List AV)) // q.2.2.2[q.1]?=some (q.2.2.1,dQ q.2.1)/\q.2.2.2.map (·.2)=(bl (fun t:Ce=>decide (t.site=s)) ⟨s,e,false,[]⟩ l).1.map dQ/\(bl (fun t:Ce=>decide (t.site=s)) ⟨s,e,false,[]⟩ l).1[q.1]?=some q.2.1/\(bl (fun t:Ce=>decide (t.site=s)) ⟨s,e,false,[]⟩ l).2=q.1/\Fit (q.2.1.lines.length+1) 16/\q.2.1.site=s })
    (fun q=>[(11,.aN 102),(12,.int q.1.1),(2,.int e),(4,.int f),(6,.fp (Z8 s)),(8,.fp [.int c])]) (fun q=>[(102,.row 6 (u6 q.1.2.2.2) 159),(103,.pins 2 ((bD q.1.2.2.2).eraseIdx q.1.1) 167),(104,.row 2 (q.1.2.1.lines.map O6) 167),(105,.eqv 104 q.1.2.2.1.v)]) ?_ ?_ ?_
  · refine Gx ?_;rcases tw (fun t:Ce=>decide (t.site=s)) l with⟨k,x,e1,I,e3,e4⟩|⟨e1,I⟩
    · refine jP (fun C=>?_) (fun B=>?_)
      · rw[e1] at C;omega
      · obtain⟨h,Q⟩:=GU H I;have Y:(bD z).Perm ((h,x.lines.map O6)::(bD z).eraseIdx k):=by
          have hk:(bD z)[k]?=some (h,x.lines.map O6):=(by simp[bD,Q,dQ]);obtain⟨hl,hv⟩:=OR.1 hk;rw[<-hv];exact(List.af hl).symm
        show j5 prog E _ _ _ _;refine j5.gh (Gh.nX 103 104 105 rfl Y rfl rfl rfl rfl rfl) ?_;intro _;refine pq u ?_;have ex:bl (fun t:Ce=>decide (t.site=s)) ⟨s,e,false,[]⟩ l=(l,k):=by unfold bl;rw[e4]
        refine⟨⟨(k,x,h,z),Q,by rw[ex];exact H,by rw[ex];exact I,by rw[ex],O x (QM I),of_decide_eq_true e3⟩,[],⟨⟨rfl,congrArg AV.int e1,rfl,rfl,rfl,rfl,trivial⟩,⟨rfl,rfl,rfl,rfl,trivial⟩,rfl,rfl⟩⟩
    · refine jP (fun C=>?_) (fun B=>?_)
      · refine Gx ?_;rintro _ rfl hlen;refine j5.ops (kT u 7 ?_);refine Exists.intro [[.int s.cls,.str s.name,.int s.pos,.int e,.bool false,.aI]] (AN aT ?_);refine AN ?_ (Exists.intro (u6 z++[[AV.int s.cls,.str s.name,.int s.pos,.int e,.bool false,.aI]]) (AN (O7 _) ?_))
        · show((u6 z).length+1)*72<=_;rw[show(u6 z).length=l.length by simp only[u6,QU];exact kP H];exact hf
        have aa:(u6 z++[[AV.int s.cls,.str s.name,.int s.pos,.int e,.bool false,.aI]])[l.length]?=some [AV.int s.cls,.str s.name,.int s.pos,.int e,.bool false,.aI]:=by
          rw[QY (by simp[u6,kP H])];simp[u6,kP H]
        show cw prog E _ _ _ _ _;refine cw.gh (Gh.eR (r:=28) (i:=l.length) (off:=5) (j:=104) (j':=105) (isz:=2) (ie:=167) rfl aa rfl rfl rfl rfl rfl rfl) ?_;intro _;refine cw.done ?_;have ex:bl (fun t:Ce=>decide (t.site=s)) ⟨s,e,false,[]⟩ l=(l++[⟨s,e,false,[]⟩],l.length):=by unfold bl;rw[I]
        have o:=kP H;refine⟨⟨(l.length,⟨s,e,false,[]⟩,⟨none,0,0⟩,z++[(⟨none,0,0⟩,dQ ⟨s,e,false,[]⟩)]),?_,?_,?_,?_,?_,rfl⟩,[(102,28)],⟨⟨rfl,?_,rfl,rfl,rfl,rfl,trivial⟩,⟨?_,?_,rfl,rfl,trivial⟩,rfl,rfl⟩⟩
        · show(z++[_])[l.length]?=_;rw[QY d9];simp[o]
        · rw[ex];show QK (fun p:Hd×List AV×List (List AV)=>p.2) (z++[_])=QK dQ (l++[_]);rw[List.map_append,List.map_append,H];rfl
        · rw[ex];show(l++[_])[l.length]?=_;rw[QY (NO _)];simp
        · rw[ex]
        · show(0+1)*16<=_;decide
        · exact congrArg AV.int (by simp[u6,o])
        · refine congrArg (fun q=>some (Obj.row 6 q 159)) ?_;show(u6 z++[_]).set l.length _=u6 (z++[_]);rw[wZ,List.set_append_right _ _ (by simp[u6,o])];simp[u6,o,dQ,Q7]
        · refine congrArg (fun q=>some (Obj.pins 2 q 167)) ?_;show bD z=(bD (z++[_])).eraseIdx l.length;rw[wv,List.eraseIdx_append_of_length_le (by simp[bD,o])];simp[bD,o]
      · rw[e1] at B;omega
  · intro k;rw[u];rfl
  rintro⟨⟨k,x,h,z⟩,A,Z,hq3,hq4,hq5,G⟩;have A:z[k]?=some (h,dQ x):=A;have G:x.site=s:=G;have b:k<(u6 z).length:=by
    have:=(OR.1 A).1;simpa[u6] using this
  have aa:(u6 z)[k]?=some (Q7 x++[.aV h.v]):=by simp[u6,A,dQ]
  refine Gx ?_;refine AN d9 (AN (by simpa using b) ?_);refine AN (by simpa using b) (fun d a=>?_);have a:(u6 z)[k]?=some d:=a;obtain rfl:d=Q7 x++[.aV h.v]:=oI (a.symm.trans aa);show j5 prog E _ _ _ _;refine j5.hO (ι:={ q:Ce×Hd // q.1=dw e x/\Fit (q.1.lines.length+1) 16 })
    (fun q=>[(11,.aN 102),(12,.int k),(4,.int f),(8,.fp [.int c])]) (fun q=>[(102,.row 6 ((u6 z).set k (Q7 q.1.1++[.aV q.1.2.v])) 159),(103,.pins 2 ((bD z).eraseIdx k) 167),(104,.row 2 (q.1.1.lines.map O6) 167),(105,.eqv 104 q.1.2.v)]) (fun Q2 R q2x q2r=>?_) (by intro k;rw[u];rfl) ?_
  · refine Gx ?_;refine pK (fun U=>?_) (fun U=>?_)
    · have X:¬x.aC=e:=by simpa using U
      have n:dw e x=⟨x.site,e,false,[]⟩:=R1 X;refine xc u ?_;refine AN d9 (AN (by simpa using b) ?_);refine AN (by simpa using b) (fun d a=>?_);have a:(u6 z)[k]?=some d:=a;obtain rfl:d=Q7 x++[.aV h.v]:=oI (a.symm.trans aa);refine Exists.intro ((u6 z).set k [.int s.cls,.str s.name,.int s.pos,.int e,.bool false,.aI]) (AN (O7 _) ?_);have K:((u6 z).set k [AV.int s.cls,.str s.name,.int s.pos,.int e,.bool false,.aI])[k]?=some [AV.int s.cls,.str s.name,.int s.pos,.int e,.bool false,.aI]:=by rw[QV,RA rfl,RA b]
      refine R _ _ ?_;refine V9.gh (Gh.eR (r:=102) (i:=k) (off:=5) (j:=106) (j':=107) (isz:=2) (ie:=167) rfl K rfl rfl rfl rfl rfl rfl) (fun _=>?_);refine V9.done ?_;refine⟨⟨(dw e x,⟨none,0,0⟩),rfl,by show Fit ((dw e x).lines.length+1) 16;rw[n];show(0+1)*16<=_;decide⟩,[(104,106),(105,107)],trivial,⟨⟨rfl,rfl,rfl,rfl,trivial⟩,⟨?_,rfl,?_,rfl,trivial⟩,rfl,rfl⟩⟩
      · refine congrArg (fun q=>some (Obj.row 6 q 159)) ?_;show((u6 z).set k [AV.int s.cls,.str s.name,.int s.pos,.int e,.bool false,.aI]).set k [AV.int s.cls,.str s.name,.int s.pos,.int e,.bool false,.aV (⟨none,0,0⟩:Hd).v]=(u6 z).set k (Q7 (dw e x)++[.aV (⟨none,0,0⟩:Hd).v]);rw[List.set_set,n,<-G];rfl
      · refine congrArg (fun q=>some (Obj.row 2 q 167)) ?_;show[]=QK O6 (dw e x).lines;rw[n];rfl
    · have he:x.aC=e:=by simpa using U
      have n:dw e x=x:=RA he;refine pq u ?_;refine R _ _ ?_;refine V9.done ?_;refine⟨⟨(dw e x,h),rfl,by show Fit ((dw e x).lines.length+1) 16;rw[n];exact hq5⟩,[],trivial,⟨⟨rfl,rfl,rfl,rfl,trivial⟩,⟨?_,rfl,?_,rfl,trivial⟩,rfl,rfl⟩⟩
      · refine congrArg (fun q=>some (Obj.row 6 q 159)) ?_;show u6 z=(u6 z).set k (Q7 (dw e x)++[.aV h.v]);rw[n];exact(yX aa).symm
      · refine congrArg (fun q=>some (Obj.row 2 q 167)) ?_;show QK O6 x.lines=QK O6 (dw e x).lines;rw[n]
  rintro⟨⟨y,g⟩,hy,F⟩;have hy:y=dw e x:=hy;have F:Fit (y.lines.length+1) 16:=F;have m:((u6 z).set k (Q7 y++[.aV g.v]))[k]?=some (Q7 y++[.aV g.v]):=by rw[QV,RA rfl,RA b]
  refine Gx ?_;refine AN d9 (AN (by simpa using b) ?_);show j5 prog E _ _ _ _;refine j5.qI fun Q4 q4n q4x q4r=>?_;refine j5.hO (ι:=Hd) (fun q=>[(11,.aN 102),(12,.int k)]) (fun q=>[(102,.row 6 ((u6 z).set k (Q7 (V4 c f y)++[.aV q.v])) 159),(103,.pins 2 ((bD z).eraseIdx k) 167),(104,.row 2 ((V4 c f y).lines.map O6) 167),(105,.eqv 104 q.v)]) (fun Q3 D q3x q3r=>?_) (by intro k;rw[u];rfl) ?_
  · refine Gx ?_;refine AN (by simpa using b) (fun d a=>?_);have a:((u6 z).set k (Q7 y++[.aV g.v]))[k]?=some d:=a;obtain rfl:d=Q7 y++[.aV g.v]:=oI (a.symm.trans m);refine pK (fun w=>?_) (fun w=>?_)
    · repeat (refine B5 w ?_)
      have hl:V4 c f y=y:=RA (IN w);refine Gx ?_;refine D _ _ ?_;refine V9.done ?_;refine⟨g,[],trivial,⟨⟨rfl,rfl,trivial⟩,⟨?_,rfl,?_,rfl,trivial⟩,rfl,rfl⟩⟩
      · refine congrArg (fun q=>some (Obj.row 6 q 159)) ?_;show(u6 z).set k (Q7 y++[.aV g.v])=(u6 z).set k (Q7 (V4 c f y)++[.aV g.v]);rw[hl]
      · refine congrArg (fun q=>some (Obj.row 2 q 167)) ?_;show QK O6 y.lines=QK O6 (V4 c f y).lines;rw[hl]
    · refine pP w ?_;refine pP w ?_;refine pP w ?_;refine AN (by simpa using b) (fun d a=>?_);have a:((u6 z).set k (Q7 y++[.aV g.v]))[k]?=some d:=a;obtain rfl:d=Q7 y++[.aV g.v]:=oI (a.symm.trans m);refine AN rfl ?_;refine pP w ?_;refine pP w ?_;show K9 _ _ _ _ _;refine K9.gb (HF (PS N c y.lines) (fun _ _ h=>JZ h)) (km rfl) rfl ?_;refine pP w ?_;refine Gx ?_;refine pK (fun V=>?_) (fun V=>?_)
      · have hl:V4 c f y=y:=RA (Or.inr (of_decide_eq_true V));refine Gx ?_;refine D _ _ ?_;refine V9.done ?_;refine⟨g,[],trivial,⟨⟨rfl,rfl,trivial⟩,⟨?_,rfl,?_,rfl,trivial⟩,rfl,rfl⟩⟩
        · refine congrArg (fun q=>some (Obj.row 6 q 159)) ?_;show(u6 z).set k (Q7 y++[.aV g.v])=(u6 z).set k (Q7 (V4 c f y)++[.aV g.v]);rw[hl]
        · refine congrArg (fun q=>some (Obj.row 2 q 167)) ?_;show QK O6 y.lines=QK O6 (V4 c f y).lines;rw[hl]
      · have P:¬(y.many=true\/0<=fY (fun t:Ln=>decide (t.cls=c)) y.lines):=by
          rintro(h|h)
          · rw[h] at w;cases w
          · exact absurd h (of_decide_eq_false V)
        refine Gx ?_;refine AN (by simpa using b) (fun d a=>?_);have a:((u6 z).set k (Q7 y++[.aV g.v]))[k]?=some d:=a;obtain rfl:d=Q7 y++[.aV g.v]:=oI (a.symm.trans m);refine AN rfl ?_;rintro _ rfl W;refine Gx ?_;refine jP (fun C=>?_) (fun B=>?_)
        · have J:(3:Int)<=(y.lines.length:Int):=by simpa using C
          have hl:V4 c f y=⟨y.site,y.aC,true,[]⟩:=by unfold V4;rw[R1 P,RA J]
          refine Gx ?_;refine AN (by simpa using b) (fun d a=>?_);have a:((u6 z).set k (Q7 y++[.aV g.v]))[k]?=some d:=a;obtain rfl:d=Q7 y++[.aV g.v]:=oI (a.symm.trans m);refine Exists.intro ((u6 z).set k [.int y.site.cls,.str y.site.name,.int y.site.pos,.int y.aC,.bool true,.aV g.v]) (AN (by show cJ (((u6 z).set k (Q7 y++[.aV g.v])).set k [AV.int y.site.cls,.str y.site.name,.int y.site.pos,.int y.aC,.bool true,.aV g.v]) _;rw[List.set_set];exact O7 _) ?_);have L:((u6 z).set k [AV.int y.site.cls,.str y.site.name,.int y.site.pos,.int y.aC,.bool true,.aV g.v])[k]?=some [AV.int y.site.cls,.str y.site.name,.int y.site.pos,.int y.aC,.bool true,.aV g.v]:=by rw[QV,RA rfl,RA b]
          refine AN (by simpa using b) (fun d a=>?_);have a:((u6 z).set k [AV.int y.site.cls,.str y.site.name,.int y.site.pos,.int y.aC,.bool true,.aV g.v])[k]?=some d:=a;obtain rfl:d=[AV.int y.site.cls,.str y.site.name,.int y.site.pos,.int y.aC,.bool true,.aV g.v]:=oI (a.symm.trans L);refine Exists.intro ((u6 z).set k [.int y.site.cls,.str y.site.name,.int y.site.pos,.int y.aC,.bool true,.aI]) (AN (by show cJ (((u6 z).set k [AV.int y.site.cls,.str y.site.name,.int y.site.pos,.int y.aC,.bool true,.aV g.v]).set k [AV.int y.site.cls,.str y.site.name,.int y.site.pos,.int y.aC,.bool true,.aI]) _;rw[List.set_set];exact O7 _) ?_);have M:((u6 z).set k [AV.int y.site.cls,.str y.site.name,.int y.site.pos,.int y.aC,.bool true,.aI])[k]?=some [AV.int y.site.cls,.str y.site.name,.int y.site.pos,.int y.aC,.bool true,.aI]:=by rw[QV,RA rfl,RA b]
          refine Gx ?_;refine D _ _ ?_;refine V9.gh (Gh.eR (r:=102) (i:=k) (off:=5) (j:=106) (j':=107) (isz:=2) (ie:=167) rfl M rfl rfl rfl rfl rfl rfl) (fun _=>?_);refine V9.done ?_;refine⟨⟨none,0,0⟩,[(104,106),(105,107)],trivial,⟨⟨rfl,rfl,trivial⟩,⟨?_,rfl,?_,rfl,trivial⟩,rfl,rfl⟩⟩
          · refine congrArg (fun q=>some (Obj.row 6 q 159)) ?_;show((u6 z).set k [AV.int y.site.cls,.str y.site.name,.int y.site.pos,.int y.aC,.bool true,.aI]).set k [AV.int y.site.cls,.str y.site.name,.int y.site.pos,.int y.aC,.bool true,.aV (⟨none,0,0⟩:Hd).v]=(u6 z).set k (Q7 (V4 c f y)++[.aV (⟨none,0,0⟩:Hd).v]);rw[List.set_set,hl];rfl
          · refine congrArg (fun q=>some (Obj.row 2 q 167)) ?_;show[]=QK O6 (V4 c f y).lines;rw[hl];rfl
        · have J:¬(3:Int)<=(y.lines.length:Int):=by simpa using B
          have hl:V4 c f y=⟨y.site,y.aC,y.many,y.lines++[⟨c,f⟩]⟩:=by unfold V4;rw[R1 P,R1 J]
          refine uM u D6 ?_;refine AN (by simpa using b) (fun d a=>?_);have a:((u6 z).set k (Q7 y++[.aV g.v]))[k]?=some d:=a;obtain rfl:d=Q7 y++[.aV g.v]:=oI (a.symm.trans m);refine AN rfl ?_;refine Exists.intro (QK O6 [⟨c,f⟩]) (AN aT ?_);refine AN ?_ (Exists.intro (QK O6 (y.lines++[⟨c,f⟩])) (AN (tb (O7 _)) ?_))
          · show((y.lines.map O6).length+1)*16<=_;rw[QU];exact F
          refine AN (by simpa using b) (AN ?_ ?_)
          · intro d a;have a:((u6 z).set k (Q7 y++[.aV g.v]))[k]?=some d:=a;obtain rfl:d=Q7 y++[.aV g.v]:=oI (a.symm.trans m);show 5<6;omega
          refine D _ _ ?_;refine V9.gh (Gh.bX 102 106 rfl rfl rfl (fun _=>rfl) rfl) (fun T=>?_);refine V9.done ?_;refine⟨T,[(104,54),(105,106)],trivial,⟨⟨rfl,rfl,trivial⟩,⟨?_,rfl,?_,rfl,trivial⟩,rfl,rfl⟩⟩
          · refine congrArg (fun q=>some (Obj.row 6 q 159)) ?_;show iN ((u6 z).set k (Q7 y++[.aV g.v])) k 5 (.aV T.v)=(u6 z).set k (Q7 (V4 c f y)++[.aV T.v]);unfold iN;rw[m,hl];show((u6 z).set k _).set k _=_;rw[List.set_set];rfl
          · refine congrArg (fun q=>some (Obj.row 2 q 167)) ?_;show QK O6 (y.lines++[⟨c,f⟩])=QK O6 (V4 c f y).lines;rw[hl]
  intro q;refine q4n _ _ ?_;have hat4:((u6 z).set k (Q7 (V4 c f y)++[.aV q.v]))[k]?=some (Q7 (V4 c f y)++[.aV q.v]):=by rw[QV,RA rfl,RA b]
  have hzk:k<z.length:=(OR.1 A).1;have Y:(bD (z.set k (q,Q7 (V4 c f y),(V4 c f y).lines.map O6))).Perm ((q,(V4 c f y).lines.map O6)::(bD z).eraseIdx k):=by
    rw[show bD (z.set k (q,Q7 (V4 c f y),(V4 c f y).lines.map O6))=(bD z).set k (q,(V4 c f y).lines.map O6) by simp[bD,List.map_set]];exact set_perm (by simpa[bD] using hzk)
  show j5 prog E _ _ _ _;refine j5.gh (Gh.nW (h:=q) (ls:=(V4 c f y).lines.map O6) (l':=bD (z.set k (q,Q7 (V4 c f y),(V4 c f y).lines.map O6))) 104 105 103 rfl rfl rfl Y rfl rfl rfl) (fun _=>?_);have hz2:(z.set k (q,Q7 (V4 c f y),(V4 c f y).lines.map O6)).map (·.2)=((bl (fun t:Ce=>decide (t.site=s)) ⟨s,e,false,[]⟩ l).1.modify (bl (fun t:Ce=>decide (t.site=s)) ⟨s,e,false,[]⟩ l).2 (fv e c f)).map dQ:=by
    have h2:(bl (fun t:Ce=>decide (t.site=s)) ⟨s,e,false,[]⟩ l).2=k:=hq4;have J:z.map (·.2)=(bl (fun t:Ce=>decide (t.site=s)) ⟨s,e,false,[]⟩ l).1.map dQ:=Z;have h4:(bl (fun t:Ce=>decide (t.site=s)) ⟨s,e,false,[]⟩ l).1[k]?=some x:=hq3;rw[h2,zM h4,List.map_set,List.map_set,J];unfold fv;rw[<-hy];rfl
  refine j5.gh (Gh.close 11 102 103 108 (z.set k (q,Q7 (V4 c f y),(V4 c f y).lines.map O6)) rfl rfl rfl (by show(u6 z).set k _=_;simp[u6,List.map_set]) rfl hz2 rfl rfl rfl rfl rfl) (fun _=>?_);show j5 prog E _ _ _ _;refine j5.flat 11 108 109 rfl rfl rfl rfl rfl ?_;rw[FK];refine Gx ?_;exact⟨[(0,109)],_,rfl,rfl,⟨rfl,trivial⟩,rfl,rfl,rfl,rfl,rfl⟩
def IK{N a0 a1 a2 a3 a4 r}(h:vC N a0 a1 a2 a3 a4=some r):Sq 129 [] [fW a0,.agg (M3 a1),.agg (Z8 a2),.int a3,.str a4] (.aX [.aN 0,.int r.2.1,.int r.2.2.1,.bool r.2.2.2]) [(0,jf r.1)] [0]:=by
 refine so func129 ntmps129 fun j u=>?_;refine B [3,2,3] fun _ e h=>?_;refine cA (d90 e) ?_;refine S [2] ?_;refine Jb 33 u h [0,3,4,6,7,14] [6,7] (fun _ h g=>?_) ?_
 ·refine kd [0,3,4,6,7,14] [6,7] ?_;exact E9 [5] [0,13,0] [0]
 intro i h;refine I [4] ?_ ?_<;>intro _ h
 ·refine B [3] fun _ f h=>?_;refine cA (jy f) ?_;refine B [3] fun _ a h=>?_;refine cA ((vr a).sw 0 42) ?_;exact Sr [7] [(0,42)]
 refine B [1,3] fun _ b h=>?_;refine cA (jy b) ?_;refine I [2,3,4] ?_ ?_<;>intro _ h
 ·refine kd [0,17,18] [] ?_;refine B [3] fun _ c h=>?_;refine cA ((vr c).sw 0 55) ?_;exact Sr [7] [(0,55)]
 refine S [1] ?_;refine kd [0,3,6,7,17,18] [6,7] ?_;refine B [3] fun _ d h=>?_;refine cA ((d79 N _ _ _ _ _ _ d).sw 0 64) ?_;exact Sr [7] [(0,64)]
def HK{N a0 g1 r}(h:xo N a0 g1=some r){m:Nat}{a:List AV}(f:∀d n,g1 d=some n->Sp m [.agg (fx d),.fp a] (.bool n)):Sp 170 [fR a0,.fn m [.fp a]] (.int r):=by
 refine so func170 ntmps170 fun p u=>?_;refine S [3,2,3] ?_;refine F6 fun i=>?_;refine LR e1 u () (fun l k v=>F9 N g1 l k) h (fun e v=>[(8,.int (e:Int))]) (fun e v=>[]) [0,1,7] [] [] nl nl [] [] ?_ ?_ ?_
 ·intro _ g e _ h _;rw[F9] at h;exact Sj [3,2,4,0,20]
 ·intro _ g e _ o j h _ c _;rw[F9] at h;refine S [3,2,4,0,1,2,6,3,3] ?_;refine H6 c ?_;refine B [] fun _ b h=>?_;refine cA (f _ _ b) ?_;refine Ir [4] [3,7] fun _ h=>?_;refine S [1,5] ?_;refine IN (AN (G6 c i) ?_);exact le () []
 rintro⟨⟩ h;exact Sr [3,7]
def JV{N a0 b0 r}(h:vz N a0 b0=some r):Sp 171 [.agg (fx a0),.fp (Z8 b0)] (.bool r):=by
 refine so func171 ntmps171 fun a u=>?_;exact Sr [3,3,7]
def JK{N a0 b0 r}(h:vv N a0 b0=some r):Sp 173 [.agg (O6 a0),.fp [.int b0]] (.bool r):=by
 refine so func173 ntmps173 fun a u=>?_;exact Sr [3,3,7]
def Lb(N:Nat){l:List Ln}(h:Fit l.length 16):Y3 N l=some l:=by
  unfold Y3;rw[show AT (l.length*16) 140737488355328=true from Qx h];rfl
def fG(t:Tl):List AV:=[.int t.site.cls,.str t.site.name,.int t.site.pos]
def dR(t:Tl):List AV×List (List AV):=(fG t,t.a7.map O6)
def IH(N:Nat)(l:List Tl)(s:Fit l.length 56)(i:∀t∈l,Fit t.a7.length 16):Sq 62 [] [.sl 4 (l.map fx)] (.cV 0) [(0,.nest 4 162 2 167 (l.map dR))] [0]:=by
  refine Spec.of fQ func62 rfl ntmps62 D6 rfl rfl rfl fun w u=>?_;refine Gx ?_;refine F6 (fun c=>?_);refine Gx ?_;refine j5.ba 3 3 4 162 rfl rfl rfl ?_;refine j5.gh (Gh.nV 100 2 167 rfl rfl) (fun _=>?_);refine j5.loop (ι:={p:Nat×List (Hd×List AV×List (List AV)) // p.1<=l.length/\p.2.map (·.2)=(l.take p.1).map dR}) (fun p=>[(6,.sl 4 (l.map fx)),(7,.int l.length),(8,.int p.1.1),(3,.aN 3)])
    (fun p=>[(3,.row 4 (u6 p.1.2) 162),(100,.pins 2 (bD p.1.2) 167)]) (fun p=>l.length-p.1.1) ⟨(0,[]),d9,rfl⟩ [] ?_ ?_ ?_
  · exact⟨⟨rfl,rfl,rfl,rfl,trivial⟩,⟨rfl,rfl,trivial⟩,rfl,rfl⟩
  · intro k;rw[u];rfl
  rintro⟨⟨k,z⟩,o,b⟩;have o:k<=l.length:=o;have b:z.map (·.2)=(l.take k).map dR:=b;refine Gx ?_;refine jP (fun a=>?_) (fun j=>?_)
  · have a:k<l.length:=by have:(k:Int)<(l.length:Int):=a;omega
    refine Gx ?_;refine AN d9 (AN (by simpa using a) ?_);intro y f r;obtain⟨x,d,rfl⟩:=Gn f;have d:l[k]?=some x:=d;refine Gx ?_;show K9 _ _ _ _ _;refine K9.a_ ((ub N x.a7 x.a7 (Lb N (i x (QM d)))).sw 0 14) (by first|exact km rfl|((repeat (refine AN rfl ?_));exact trivial)) (by(repeat (refine AN rfl ?_));exact trivial) rfl ?_;refine j5.gh (Gh.uU 5 3 14 100 rfl rfl rfl rfl rfl rfl rfl) (fun h=>?_);refine Gx ?_;refine Exists.intro [[.int x.site.cls,.str x.site.name,.int x.site.pos,.aV h.v]] (AN aT ?_);have n:(u6 z).length=k:=by
      have:=kP b;rw[Qo] at this;simp only[u6,QU];omega
    refine AN ?_ (Exists.intro (u6 (z++[(h,dR x)])) (AN (by rw[wZ];exact O7 _) ?_))
    · show((u6 z).length+1)*56<=_;rw[n];exact Nat.le_trans (Qr 56 a) s
    refine Gx ?_;refine IN (AN (zt a c) ?_);have m:(z++[(h,dR x)]).map (·.2)=(l.take (k+1)).map dR:=by
      rw[zW d,List.map_append,List.map_append,show z.map (·.2)=(l.take k).map dR from b];rfl
    refine⟨⟨(k+1,z++[(h,dR x)]),a,m⟩,[(3,19)],by show l.length-(k+1)<l.length-k;omega,⟨⟨rfl,rfl,rfl,rfl,trivial⟩,⟨rfl,?_,trivial⟩,rfl,rfl⟩⟩
    · exact congrArg (fun q=>some (Obj.pins 2 q 167)) (wv z (h,dR x)).symm
  · have e:k=l.length:=by have:¬(k:Int)<(l.length:Int):=j;omega
    subst e;have b:z.map (·.2)=l.map dR:=by
      have:z.map (·.2)=(l.take l.length).map dR:=b;rwa [List.take_length] at this
    refine xb u ?_;show j5 prog w _ _ _ _;refine j5.gh (Gh.close 3 3 100 101 z rfl rfl rfl rfl rfl b rfl rfl rfl rfl rfl) ?_;intro _;refine Gx ?_;exact⟨[(0,101)],_,rfl,rfl,⟨rfl,trivial⟩,rfl,rfl,rfl,rfl,rfl⟩
def d48(l:List Tl):eN 2 (l.map dR)=l.map fx:=by simp[eN,dR,fG,fx]
def GK(N:Nat)(s:St):∀(l:List Tl) (k:Nat),F9 N (fun x=>vz N x s) l k=some (match l.findIdx? (fun t=>decide (t.site=s)) with|some i=>.ret ((k+i:Nat):Int)|none=>.next ())
  |[],k=>rfl
  |x::l,k=>by
    rw[F9,pB,GK N s l (k+1)];unfold vz;rw[show cE (Z8 x.site) (Z8 s)=decide (x.site=s) from Ap x.site s];by_cases e:x.site=s
    · simp[e]
    · cases l.findIdx? (fun t=>decide (t.site=s))<;>simp[e];omega
def Pq(N:Nat)(s:St)(l:List Tl):xo N l (fun x=>vz N x s)=some (fY (fun t=>decide (t.site=s)) l):=by
  unfold xo fY;rw[GK];cases l.findIdx? (fun t=>decide (t.site=s))<;>simp
def GQ(N:Nat)(c:Int):∀(l:List Ln) (k:Nat),D8 N (fun x=>vv N x c) l k=some (match l.findIdx? (fun t=>decide (t.cls=c)) with|some i=>.ret ((k+i:Nat):Int)|none=>.next ())
  |[],k=>rfl
  |x::l,k=>by
    rw[D8,pB,GQ N c l (k+1)];unfold vv;by_cases e:x.cls=c
    · simp[e]
    · cases l.findIdx? (fun t=>decide (t.cls=c))<;>simp[e];omega
def Pp(N:Nat)(c:Int)(l:List Ln):O1 N l (fun x=>vv N x c)=some (fY (fun t=>decide (t.cls=c)) l):=by
  unfold O1 fY;rw[GQ];cases l.findIdx? (fun t=>decide (t.cls=c))<;>simp
def Ki(N:Nat)(l:List Tl)(s:St)(c:Int)(r:List Tl)(h:sH N l s c=some r):Sq 130 [] [.sl 4 (l.map fx),.agg (Z8 s),.int c] (.aN 0) [(0,.row 4 (r.map fx) 162)] [0]:=by
  unfold sH at h;obtain⟨O,h⟩:=jW h;obtain rfl:=oI h;rw[It,QP] at O;have hf:Fit (l.length+1) 56:=QW O.1;have L:∀t∈l,Fit (t.a7.length+1) 16:=fun t Z=>QW (O.2 t Z);clear h O;refine Spec.of fQ func130 rfl ntmps130 D6 rfl rfl rfl fun F u=>?_;refine eB u ?_;show j5 prog F _ _ _ _;refine j5.gh (Gh.ao 4 4 rfl rfl rfl) ?_;intro _;show j5 prog F _ _ _ _;refine j5.gh (Gh.ao 5 5 rfl rfl rfl) ?_;intro _;refine Gx ?_;show K9 _ _ _ _ _;refine K9.a_ ((IH N l (Nat.le_trans (Qr _ (Nat.le_succ _)) hf) (fun t Z=>Nat.le_trans (Qr _ (Nat.le_succ _)) (L t Z))).sw 0 11) (by first|exact km rfl|((repeat (refine AN rfl ?_));exact trivial)) (by(repeat (refine AN rfl ?_));exact trivial) rfl ?_;refine Gx ?_;show K9 _ _ _ _ _;refine K9.gb (HK (Pq N s l) (fun _ _ h=>JV h)) ?_ rfl ?_
  · show dW [.sl 4 (eN 2 (l.map dR)),.fn 171 [.fp (Z8 s)]] _;rw[d48];exact km rfl
  show j5 prog F _ _ _ _;refine j5.gh (Gh.open 7 11 102 103 rfl rfl rfl rfl rfl rfl (fun _=>rfl)) ?_;rintro⟨z,G⟩;refine j5.cut (ι:={ q:Nat×Tl×Hd×List (Hd×List AV×List (List AV)) // q.2.2.2[q.1]?=some (q.2.2.1,dR q.2.1)/\q.2.2.2.map (·.2)=(bl (fun t=>decide (t.site=s)) ⟨s,[]⟩ l).1.map dR/\(bl (fun t=>decide (t.site=s)) ⟨s,[]⟩ l).1[q.1]?=some q.2.1/\(bl (fun t=>decide (t.site=s)) ⟨s,[]⟩ l).2=q.1/\Fit (q.2.1.a7.length+1) 16 })
    (fun q=>[(7,.aN 102),(8,.int q.1.1),(5,.fp [.int c])]) (fun q=>[(102,.row 4 (u6 q.1.2.2.2) 162),(103,.pins 2 ((bD q.1.2.2.2).eraseIdx q.1.1) 167),(104,.row 2 (q.1.2.1.a7.map O6) 167),(105,.eqv 104 q.1.2.2.1.v)]) ?_ ?_ ?_
  · refine Gx ?_;rcases tw (fun t:Tl=>decide (t.site=s)) l with⟨k,x,e1,C,e3,P⟩|⟨e1,C⟩
    · refine jP (fun A=>?_) (fun w=>?_)
      · rw[e1] at A;omega
      · obtain⟨h,M⟩:=GU G C;have U:(bD z).Perm ((h,x.a7.map O6)::(bD z).eraseIdx k):=by
          have hk:(bD z)[k]?=some (h,x.a7.map O6):=(by simp[bD,M,dR]);obtain⟨hl,hv⟩:=OR.1 hk;rw[<-hv];exact(List.af hl).symm
        show j5 prog F _ _ _ _;refine j5.gh (Gh.nX 103 104 105 rfl U rfl rfl rfl rfl rfl) ?_;intro _;refine pq u ?_;have ex:bl (fun t:Tl=>decide (t.site=s)) ⟨s,[]⟩ l=(l,k):=by unfold bl;rw[P]
        refine⟨⟨(k,x,h,z),M,by rw[ex];exact G,by rw[ex];exact C,by rw[ex],L x (QM C)⟩,[],⟨⟨rfl,congrArg AV.int e1,rfl,trivial⟩,⟨rfl,rfl,rfl,rfl,trivial⟩,rfl,rfl⟩⟩
    · refine jP (fun A=>?_) (fun w=>?_)
      · refine Gx ?_;rintro _ rfl hlen;refine j5.ops (kT u 6 ?_);refine Exists.intro [[.int s.cls,.str s.name,.int s.pos,.aI]] (AN aT ?_);refine AN ?_ (Exists.intro (u6 z++[[AV.int s.cls,.str s.name,.int s.pos,.aI]]) (AN (O7 _) ?_))
        · show((u6 z).length+1)*56<=_;rw[show(u6 z).length=l.length by simp only[u6,QU];exact kP G];exact hf
        have aa:(u6 z++[[AV.int s.cls,.str s.name,.int s.pos,.aI]])[l.length]?=some [AV.int s.cls,.str s.name,.int s.pos,.aI]:=by
          rw[QY (by simp[u6,kP G])];simp[u6,kP G]
        show cw prog F _ _ _ _ _;refine cw.gh (Gh.eR (r:=23) (i:=l.length) (off:=3) (j:=104) (j':=105) (isz:=2) (ie:=167) rfl aa rfl rfl rfl rfl rfl rfl) ?_;intro _;refine cw.done ?_;have ex:bl (fun t:Tl=>decide (t.site=s)) ⟨s,[]⟩ l=(l++[⟨s,[]⟩],l.length):=by unfold bl;rw[C]
        have f:=kP G;refine⟨⟨(l.length,⟨s,[]⟩,⟨none,0,0⟩,z++[(⟨none,0,0⟩,dR ⟨s,[]⟩)]),?_,?_,?_,?_,?_⟩,[(102,23)],⟨⟨rfl,?_,rfl,trivial⟩,⟨?_,?_,rfl,rfl,trivial⟩,rfl,rfl⟩⟩
        · show(z++[_])[l.length]?=_;rw[QY d9];simp[f]
        · rw[ex];show QK (fun p:Hd×List AV×List (List AV)=>p.2) (z++[_])=QK dR (l++[_]);rw[List.map_append,List.map_append,G];rfl
        · rw[ex];show(l++[_])[l.length]?=_;rw[QY (NO _)];simp
        · rw[ex]
        · show(0+1)*16<=_;decide
        · exact congrArg AV.int (by simp[u6,f])
        · refine congrArg (fun q=>some (Obj.row 4 q 162)) ?_;show(u6 z++[_]).set l.length _=u6 (z++[_]);rw[wZ,List.set_append_right _ _ (by simp[u6,f])];simp[u6,f,dR,fG]
        · refine congrArg (fun q=>some (Obj.pins 2 q 167)) ?_;show bD z=(bD (z++[_])).eraseIdx l.length;rw[wv,List.eraseIdx_append_of_length_le (by simp[bD,f])];simp[bD,f]
      · rw[e1] at w;omega
  · intro k;rw[u];rfl
  rintro⟨⟨k,x,h,z⟩,B,V,W,X,Y⟩;have B:z[k]?=some (h,dR x):=B;have b:k<(u6 z).length:=by
    have:=(OR.1 B).1;simpa[u6] using this
  have aa:(u6 z)[k]?=some (fG x++[.aV h.v]):=by simp[u6,B,dR]
  refine Gx ?_;refine AN d9 (AN (by simpa using b) ?_);refine AN (by simpa using b) (fun d a=>?_);have a:(u6 z)[k]?=some d:=a;obtain rfl:d=fG x++[.aV h.v]:=oI (a.symm.trans aa);refine AN rfl ?_;show K9 _ _ _ _ _;refine K9.gb (Bc (Pp N c x.a7) (fun _ _ h=>JK h)) (km rfl) rfl ?_;refine j5.cut (ι:={ q:Nat×Ln×Hd×List Ln // q.2.2.2=(bl (fun y=>decide (y.cls=c)) ⟨c,0⟩ x.a7).1/\(bl (fun y=>decide (y.cls=c)) ⟨c,0⟩ x.a7).2=q.1/\q.2.2.2[q.1]?=some q.2.1 })
    (fun q=>[(7,.aN 102),(8,.int k),(9,.int q.1.1)]) (fun q=>[(102,.row 4 ((u6 z).set k (fG x++[.aV q.1.2.2.1.v])) 162),(103,.pins 2 ((bD z).eraseIdx k) 167),(104,.row 2 (q.1.2.2.2.map O6) 167),(105,.eqv 104 q.1.2.2.1.v)]) ?_ ?_ ?_
  · refine Gx ?_;rcases tw (fun y:Ln=>decide (y.cls=c)) x.a7 with⟨j,y,e1,C,e3,P⟩|⟨e1,C⟩
    · refine jP (fun A=>?_) (fun w=>?_)
      · rw[e1] at A;omega
      · refine pq u ?_;have ex:bl (fun y:Ln=>decide (y.cls=c)) ⟨c,0⟩ x.a7=(x.a7,j):=by unfold bl;rw[P]
        refine⟨⟨(j,y,h,x.a7),by rw[ex],by rw[ex],C⟩,[],⟨⟨rfl,rfl,congrArg AV.int e1,trivial⟩,⟨?_,rfl,rfl,rfl,trivial⟩,rfl,rfl⟩⟩;refine congrArg (fun q=>some (Obj.row 4 q 162)) ?_;show u6 z=(u6 z).set k _;exact(yX aa).symm
    · refine jP (fun A=>?_) (fun w=>?_)
      · refine Gx ?_;refine AN d9 (AN (by simpa using b) ?_);refine AN (by simpa using b) (fun d a=>?_);have a:(u6 z)[k]?=some d:=a;obtain rfl:d=fG x++[.aV h.v]:=oI (a.symm.trans aa);refine AN rfl ?_;rintro _ rfl T;refine j5.snoc (uM u D6 ?_);refine AN d9 (AN (by simpa using b) ?_);refine AN (by simpa using b) (fun d a=>?_);have a:(u6 z)[k]?=some d:=a;obtain rfl:d=fG x++[.aV h.v]:=oI (a.symm.trans aa);refine AN rfl ?_;refine Exists.intro (QK O6 [⟨c,0⟩]) (AN aT ?_);refine AN ?_ (Exists.intro (QK O6 (x.a7++[⟨c,0⟩])) (AN (tb (O7 _)) ?_))
        · show((x.a7.map O6).length+1)*16<=_;rw[QU];exact Y
        refine AN d9 (AN (by simpa using b) ?_);refine AN (by simpa using b) (AN ?_ ?_)
        · intro d a;have a:(u6 z)[k]?=some d:=a;obtain rfl:d=fG x++[.aV h.v]:=oI (a.symm.trans aa);show 3<4;omega
        show V9 F _ _ _;refine V9.gh (Gh.bX 102 106 rfl rfl rfl (fun _=>rfl) rfl) (fun g=>?_);refine V9.done ?_;have ex:bl (fun y:Ln=>decide (y.cls=c)) ⟨c,0⟩ x.a7=(x.a7++[⟨c,0⟩],x.a7.length):=by unfold bl;rw[C]
        refine⟨⟨(x.a7.length,⟨c,0⟩,g,x.a7++[⟨c,0⟩]),by rw[ex],by rw[ex],l9⟩,[(104,49),(105,106)],⟨⟨rfl,rfl,?_,trivial⟩,⟨?_,rfl,rfl,rfl,trivial⟩,rfl,rfl⟩⟩
        · exact congrArg AV.int l9
        · refine congrArg (fun q=>some (Obj.row 4 q 162)) ?_;show iN (u6 z) k 3 (.aV g.v)=(u6 z).set k _;unfold iN;rw[aa];rfl
      · rw[e1] at w;omega
  · intro k;rw[u];rfl
  rintro⟨⟨j,y,m,H⟩,R,S,e⟩;have K:((u6 z).set k (fG x++[.aV m.v]))[k]?=some (fG x++[.aV m.v]):=by rw[QV,RA rfl,RA b]
  have e:H[j]?=some y:=e;have D:j<H.length:=(OR.1 e).1;have E:(H.map O6)[j]?=some (O6 y):=by simp[e]
  refine Gx ?_;refine AN d9 (AN (by simpa using b) ?_);refine AN (by simpa using b) (fun d a=>?_);have a:((u6 z).set k (fG x++[.aV m.v]))[k]?=some d:=a;obtain rfl:d=fG x++[.aV m.v]:=oI (Eq.trans (Eq.symm a) K);refine AN rfl ?_;refine AN d9 (AN (by simpa using D) ?_);refine AN (by simpa using D) (fun I n=>?_);have n:(H.map O6)[j]?=some I:=n;obtain rfl:I=O6 y:=oI (Eq.trans (Eq.symm n) E);refine Or.inr ?_;refine AN d9 (AN (by simpa using D) ?_);have hzk:k<z.length:=(OR.1 B).1;have hys:H.set j ⟨y.cls,wr (y.found+1)⟩=gV c x.a7:=by
    have h1:H=(bl (fun y=>decide (y.cls=c)) ⟨c,0⟩ x.a7).1:=R;have Q:(bl (fun y=>decide (y.cls=c)) ⟨c,0⟩ x.a7).2=j:=S;unfold gV;simp only;rw[Q,<-h1,zM e]
  refine AN (by simpa using D) (fun J o=>?_);have o:(H.map O6)[j]?=some J:=o;obtain rfl:J=O6 y:=oI (Eq.trans (Eq.symm o) E);refine Exists.intro (QK O6 (gV c x.a7)) (AN (by rw[<-hys];exact FJ e aT) ?_);have U:(bD (z.set k (m,fG x,(gV c x.a7).map O6))).Perm ((m,(gV c x.a7).map O6)::(bD z).eraseIdx k):=by
    rw[show bD (z.set k (m,fG x,(gV c x.a7).map O6))=(bD z).set k (m,(gV c x.a7).map O6) by simp[bD,List.map_set]];exact set_perm (by simpa[bD] using hzk)
  show j5 prog F _ _ _ _;refine j5.gh (Gh.nW (h:=m) (ls:=(gV c x.a7).map O6) (l':=bD (z.set k (m,fG x,(gV c x.a7).map O6))) 104 105 103 rfl rfl rfl U rfl rfl rfl) (fun _=>?_);have hz2:(z.set k (m,fG x,(gV c x.a7).map O6)).map (·.2)=(uI s c l).map dR:=by
    have Q:(bl (fun t=>decide (t.site=s)) ⟨s,[]⟩ l).2=k:=X;have h3:z.map (·.2)=(bl (fun t=>decide (t.site=s)) ⟨s,[]⟩ l).1.map dR:=V;have h4:(bl (fun t=>decide (t.site=s)) ⟨s,[]⟩ l).1[k]?=some x:=W;unfold uI;simp only;rw[Q,zM h4,List.map_set,List.map_set,h3];rfl
  refine j5.gh (Gh.close 7 102 103 107 (z.set k (m,fG x,(gV c x.a7).map O6)) rfl rfl rfl (by show(u6 z).set k _=_;simp[u6,List.map_set]) rfl hz2 rfl rfl rfl rfl rfl) (fun _=>?_);show j5 prog F _ _ _ _;refine j5.flat 7 107 108 rfl rfl rfl rfl rfl ?_;rw[d48];refine Gx ?_;exact⟨[(0,108)],_,rfl,rfl,⟨rfl,trivial⟩,rfl,rfl,rfl,rfl,rfl⟩
end
section
set_option maxHeartbeats 40000000
set_option maxRecDepth 100000
def JA{N a0 a1 a2 b0 b1 r}(h:sX N a0 a1 a2 b0 b1=some r):Sq 128 [(1048,.box (fD b0) 153)] [.agg (Z8 a0),.int a1,.str a2,.ptr 1048 0,.fp (M3 b1)] (.aX [.int r.1,.int r.2.1]) [(1048,.box (fD r.2.2) 153)] []:=by
 refine so func128 ntmps128 fun e u=>?_;refine B [3,3] fun _ a h=>?_;refine cA ((IK a).sw 0 21) ?_;refine kd [1,3,5,10,11,12,13] [5,21,1048] ?_;refine B [3,3] fun _ b h=>?_;refine cA ((Ki N _ _ _ _ b).sw 0 32) ?_;refine S [2,3] ?_;refine J e0 u h nl (fun s=>[(1048,.box [Y1 b0.world.a7,cC b0.world.heap,.int b0.world.aC,.int b0.fL.value.k,.int b0.fL.value.n,.int b0.fL.err,.int b0.fL.sends,.aN 21,.aN 32,.int s.1,.int s.2] 153)]) [3,11,12] [21,32] (fun _ h g=>?_) ?_
 ·exact E9 [4] [5,12] [5,12]
 rintro⟨c,d⟩ h;refine S [3] ?_;refine j5.aY 21 rfl ?_;refine j5.aY 32 rfl ?_;exact Sr [7]
def K1{N a0 a1 a2 a3 a4 r}(h:uw N a0 a1 a2 a3 a4=some r):Sp 100 [.agg (M3 a0),.agg (ir a1),.int a2,fW a3,fR a4] (.agg (fD r)):=by
 refine so func100 ntmps100 fun e u=>?_;refine B [3,3] fun _ b h=>?_;refine cA ((vr b).sw 0 13) ?_;refine B [] fun _ c h=>?_;refine cA ((Dd c).sw 0 15) ?_;refine j5.gh (Gh.ao 5 5 rfl rfl rfl) (fun _=>?_);refine j5.cU 11 [Y1 ([]:List Cl),cC ([]:List Ob),.int (0:Int),.int (0:Int),.int (0:Int),.int (0:Int),.int (0:Int),.aN 13,.aN 15,.int (0:Int),.int (0:Int)] rfl aT ?_;refine j5.aY 13 rfl ?_;refine j5.aY 15 rfl ?_;refine kd [2,5,6,10,11] [6,10,11] ?_;refine B [3] fun _ d h=>?_;refine cA ((HX d (fun _ _ _ _ _ a=>(JA a).sw 1048 1055) (fun _ _ _ a=>CJ a)).sw 1055 11) ?_;exact Sr [3,7]
def IQ{N a0 a1 r}(h:vB N a0 a1=some r):Sp 209 [fR a0,.agg (Z8 a1)] (.aX [.int r.1,.int r.2]):=by
 refine so func209 ntmps209 fun F u=>?_;refine S [3,3,2,3] ?_;refine F6 fun j=>?_;refine LR e0 u ((-1:Int),(0:Int)) (fun l k v=>oW N a1 l k v.1 v.2) h (fun e v=>[(6,.int v.1),(7,.int v.2),(14,.int (e:Int))]) (fun e v=>[]) [3,12,13] [3] [] (fun s=>[(6,.int s.1),(7,.int s.2)]) nl [] [] ?_ ?_ ?_
 ·rintro _ g e ⟨w,x⟩ h _;rw[oW] at h;exact Sj [3,2,4,0,20]
 ·rintro _ g e ⟨w,x⟩ B f h _ b _;rw[oW] at h;refine S [3,2,4,0,1,2] ?_;refine J e0 u h (fun s=>[(6,.int s.1),(7,.int s.2)]) nl [3,12,13,14] [3] (fun _ h g=>?_) ?_
  ·refine S [6,3] ?_;refine H6 b ?_;refine Ij [2,3,4] [20] fun _ h=>?_;refine S [1,3] ?_;refine F6 fun d=>?_;refine LR e0 u (w,x) (fun l k v=>oT N l k v.1 v.2) h (fun a v=>[(6,.int v.1),(7,.int v.2),(25,.int (a:Int))]) (fun a v=>[]) [3,12,13,14,23,24] [3] [] (fun s=>[(6,.int s.1),(7,.int s.2)]) nl [3,12,13,14] [3] ?_ ?_ ?_
   ·rintro _ g a ⟨o,p⟩ h _;rw[oT] at h;exact Sj [3,2,4,0,20]
   ·rintro _ g a ⟨o,p⟩ C i h _ c _;rw[oT] at h;refine S [3,2,4,0,1,2] ?_;refine J e0 u h (fun s=>[(6,.int s.1),(7,.int s.2)]) nl [3,12,13,14,23,24,25] [3] (fun _ h g=>?_) ?_
    ·refine S [6,3] ?_;refine H6 c ?_;refine S [2] ?_;refine Jb 48 u h [3,6,7,11,12,13,14,23,24,25] [3,11] (fun _ h g=>?_) ?_
     ·refine Ij [5] [0] fun _ h=>?_;refine I [0] ?_ ?_<;>intro _ h
      ·exact E9 [0] [0] [0]
      exact Sj [0]
     intro A h;exact E9 [4] [8] [1]
    rintro⟨q,t⟩ h;refine S [5] ?_;refine IN (AN (G6 c d) ?_);exact le (q,t) []
   rintro⟨y,z⟩ h;exact je
  rintro⟨m,n⟩ h;refine S [5] ?_;refine IN (AN (G6 b j) ?_);exact le (m,n) []
 rintro⟨D,E⟩ h;exact Sr [3,7]
def d99{N a0 a1 r}(h:wT N a0 a1=some r):Sp 210 [fR a0,.agg (Z8 a1)] (.int r):=by
 refine so func210 ntmps210 fun x u=>?_;refine S [3,3,2,3] ?_;refine F6 fun j=>?_;refine LR e0 u (0:Int) (fun l k v=>oc N a1 l k v) h (fun f v=>[(5,.int v),(12,.int (f:Int))]) (fun f v=>[]) [3,10,11] [3] [] (fun s=>[(5,.int s)]) nl [] [] ?_ ?_ ?_
 ·intro _ g f p h _;rw[oc] at h;exact Sj [3,2,4,0,20]
 ·intro _ g f p t m h _ b _;rw[oc] at h;refine S [3,2,4,0,1,2] ?_;refine J e0 u h (fun s=>[(5,.int s)]) nl [3,10,11,12] [3] (fun _ h g=>?_) ?_
  ·refine S [6,3] ?_;refine H6 b ?_;refine Ij [2,3,4] [20] fun _ h=>?_;refine S [1,3] ?_;refine F6 fun d=>?_;refine LR e0 u p (fun l k v=>oj N l k v) h (fun a v=>[(5,.int v),(23,.int (a:Int))]) (fun a v=>[]) [3,10,11,12,21,22] [3] [] (fun s=>[(5,.int s)]) nl [3,10,11,12] [3] ?_ ?_ ?_
   ·intro _ g a e h _;rw[oj] at h;exact Sj [3,2,4,0,20]
   ·intro _ g a e o i h _ c _;rw[oj] at h;refine S [3,2,4,0,1,2,6,3] ?_;refine H6 c ?_;refine S [5,12,5] ?_;refine IN (AN (G6 c d) ?_);exact le (wr (e+o.found)) []
   intro q h;exact je
  intro n h;refine S [5] ?_;refine IN (AN (G6 b j) ?_);exact le n []
 intro w h;exact Sr [3,7]
def HM{N a0 g1 r}(h:xr N a0 g1=some r){j:Nat}(e:∀c m,g1 c=some m->Sp j [.agg (bh c)] (.bool m)):Sp 232 [qH a0,.fn j []] (.int r):=by
 refine so func232 ntmps232 fun o u=>?_;refine S [3,2,3] ?_;refine F6 fun f=>?_;refine LR e1 u () (fun l k v=>H7 N g1 l k) h (fun d v=>[(8,.int (d:Int))]) (fun d v=>[]) [0,1,7] [] [] nl nl [] [] ?_ ?_ ?_
 ·intro _ g d _ h _;rw[H7] at h;exact Sj [3,2,4,0,20]
 ·intro _ g d _ n i h _ b _;rw[H7] at h;refine S [3,2,4,0,1,2,6,3,3] ?_;refine H6 b ?_;refine B [] fun _ a h=>?_;refine cA (e _ _ a) ?_;refine Ir [4] [3,7] fun _ h=>?_;refine S [1,5] ?_;refine IN (AN (G6 b f) ?_);exact le () []
 rintro⟨⟩ h;exact Sr [3,7]
def HJ{N a0 g1 r}(h:xq N a0 g1=some r){d:Nat}(b:∀a e,g1 a=some e->Sp d [.agg (bh a)] (.bool e)):Sp 206 [qH a0,.fn d []] (.bool r):=by
 refine so func206 ntmps206 fun f u=>?_;refine B [3,3] fun _ c h=>?_;refine cA (HM c b) ?_;exact Sr [7]
def Ik{N a0 r}(h:sU N a0=some r):Sp 207 [.agg (bh a0)] (.bool r):=by
 refine so func207 ntmps207 fun b u=>?_;refine S [3,2] ?_;refine Jb 2 u h [] [] (fun _ h g=>?_) ?_
 ·exact E9 [5] [0] [0]
 intro a h;exact Sr [7]
def Cv{N a0 r}(h:ss N a0=some r):Sp 175 [.agg (I4 a0)] (.bool r):=by
 refine so func175 ntmps175 fun d u=>?_;refine S [3,2] ?_;refine Jb 2 u h [] [] (fun _ h g=>?_) ?_
 ·refine I [5] ?_ ?_<;>intro _ h
  ·refine B [0] fun _ a h=>?_;refine cA (HJ a (fun _ _ b=>Ik b)) ?_;exact Sj [0]
  exact Sj [0]
 intro c h;exact Sr [7]
def Jf{N a0 a1 a2 a3 a4 r}(h:wC N a0 a1 a2 a3 a4=some r):Sp 178 [.agg (M3 a0),fR a1,.agg (Z8 a2),.str a3,.int a4] (.int r):=by
 refine so func178 ntmps178 fun m u=>?_;refine B [3,3] fun _ i h=>?_;refine cA (IQ i) ?_;refine B [2,3] fun _ j h=>?_;refine cA (d99 j) ?_;refine S [2] ?_;refine Jb 36 u h [3,4,5,11] [5] (fun _ h g=>?_) ?_
 ·refine kd [3,4,5,11,12,13] [5] ?_;refine Ij [5] [0] fun _ h=>?_;exact E9 [0] [0] [0,12,0]
 intro l h;refine Ir [4] [3,7] fun _ h=>?_;refine B [1,3] fun _ a h=>?_;refine cA (jy a) ?_;refine S [2,2] ?_;refine Jb 72 u h [11] [] (fun _ h g=>?_) ?_
 ·refine Ij [5] [0] fun _ h=>?_;refine B [0] fun _ c h=>?_;refine E5 c ?_;refine B [0] fun _ d h=>?_;refine E5 d ?_;refine B [0] fun _ b h=>?_;refine cA (Cv b) ?_;refine Ij [0] [0] fun _ h=>?_;refine B [0] fun _ e h=>?_;refine E5 e ?_;refine B [0] fun _ f h=>?_;refine E5 f ?_;exact Sj [0]
 intro k h;exact gI [4] [3,7] [1,3,7]
def Io{N a0 a1 a2 a3 r}(h:qa N a0 a1 a2 a3=some r):Sq 134 [] [.agg (M3 a0),fR a1,.int a2,.int a3] (.aN 0) [(0,w3 r)] [0]:=by
 refine so func134 ntmps134 fun x u=>?_;refine S [3,2,2] ?_;refine Jb 37 u h [1,2,3,4] [4] (fun _ h g=>?_) ?_
 ·refine Ij [5] [0] fun _ h=>?_;refine Ij [0,13,0] [0] fun _ h=>?_;refine Ij [0] [0] fun _ h=>?_;refine B [0] fun _ o h=>?_;refine E5 o ?_;exact Sj [0,13,0]
 intro w h;refine I [4] ?_ ?_<;>intro _ h
 ·refine S [3] ?_;refine nR 8 208 1 3 ?_;exact Sr [7] [(0,208)]
 refine B [1,3] fun _ f h=>?_;refine E5 f ?_;refine B [] fun p i h=>?_;refine E5 i ?_;refine S [3,2,3] ?_;refine F6 fun d=>?_;refine nR 10 210 1 3 ?_;refine LR e0 u ([]:List Int) (fun l k v=>oH N a0 a1 a2 p l k v) h (fun a v=>[(51,.int (a:Int))]) (fun a v=>[(210,w3 v)]) [1,2,4,9,10,49,50] [4] [] nl (fun s=>[(210,w3 s)]) [10] [] ?_ ?_ ?_
 ·intro _ g a j h _;rw[oH] at h;exact Sj [3,2,4,0,20]
 ·intro _ g a j t n h _ b _;rw[oH] at h;refine S [3,2,4,0,1,2,6,3] ?_;refine H6 b ?_;refine S [3,2,3] ?_;refine J e0 u h (fun s=>[(13,.int s)]) nl [1,2,4,9,10,49,50,51] [4,210] (fun _ h g=>?_) ?_
  ·refine I [4] ?_ ?_<;>intro _ h
   ·refine kd [1,2,4,9,10,11,12,49,50,51] [4,12,210] ?_;refine B [8] fun _ e h=>?_;refine cA (Jf e) ?_;exact je
   exact Sj [1]
  intro m h;refine S [5] ?_;refine bS bY [m] ?_;refine A [] fun c h=>?_;refine aM c ?_;refine S [5] ?_;refine IN (AN (G6 b d) ?_);exact le (j++[m]) [(210,76)]
 intro q h;exact Sr [3,7] [(0,210)]
def Hk{N a0 a1 a2 r}(h:uh N a0 a1 a2=some r):Sq 174 [(1000,.box [.fp (M3 a0.w),.fp (I4 a0.m),.aN 1001,.int a0.a8,.aN 1002,.aN 1003] 260),(1001,dr a0.out),(1002,w3 a0.aH),(1003,w3 a0.fix)] [.ptr 1000 0,.int a1,.str a2] (Pg I4 r.1) [(1000,.box [.fp (M3 r.2.w),.fp (I4 r.2.m),.aN 2,.int r.2.a8,.aN 3,.aN 4] 260),(2,dr r.2.out),(1001,.aK),(3,w3 r.2.aH),(1002,.aK),(4,w3 r.2.fix),(1003,.aK)] [2,3,4]:=by
 refine so func174 ntmps174 fun d u=>?_;refine rB 1000 2 1001 320 ?_;refine rB 1000 4 1002 321 ?_;refine rB 1000 5 1003 322 ?_;refine B [3,3] fun _ a h=>?_;refine cA (jy a) ?_;refine S [2] ?_;refine kd [0,7,8] [320,321,322,1000,1001,1002,1003] ?_;refine I [3,4] ?_ ?_<;>intro _ h
 ·exact Sr [3,7] [(2,320),(3,321),(4,322)]
 refine B [1,3] fun _ b h=>?_;refine E5 b ?_;refine B [] fun _ c h=>?_;refine E5 c ?_;exact Sr [7] [(2,320),(3,321),(4,322)]
def JR{N a0 r}(h:tC N a0=some r):Sp 176 [.fp (I4 a0)] (.int r):=by
 refine so func176 ntmps176 fun a u=>?_;refine S [3,2] ?_;refine kd [0] [] ?_;exact Sr [8,12,12,12,13,12,7]
def I6{N a0 a1 a2 a3 a4 r}(h:I1 N a0 a1 a2 a3 a4=some r):Sq 208 [(1000,.box [.fp (M3 a0.w),.fp (I4 a0.m),.aN 1001,.int a0.a8,.aN 1002,.aN 1003] 260),(1001,dr a0.out),(1002,w3 a0.aH),(1003,w3 a0.fix)] [.ptr 1000 0,.int a1,.int a2,.int a3,.int a4] (.aX []) [(1000,.box [.fp (M3 r.w),.fp (I4 r.m),.aN 2,.int r.a8,.aN 3,.aN 4] 260),(2,dr r.out),(1001,.aK),(3,w3 r.aH),(1002,.aK),(4,w3 r.fix),(1003,.aK)] [2,3,4]:=by
 refine so func208 ntmps208 fun b u=>?_;refine rB 1000 2 1001 320 ?_;refine rB 1000 4 1002 321 ?_;refine rB 1000 5 1003 322 ?_;refine S [15,5] ?_;refine bS bh [(⟨a1,a2,a3,a4,IS⟩:Ins)] ?_;refine A [] fun a h=>?_;refine aM a ?_;exact Sr [14] [(2,21),(3,321),(4,322)]
def Hm{N a0 a1 a2 a3 a4 r}(h:ua N a0 a1 a2 a3 a4=some r):Sq 177 [(1000,.box [.fp (M3 a0.w),.fp (I4 a0.m),.aN 1001,.int a0.a8,.aN 1002,.aN 1003] 260),(1001,dr a0.out),(1002,w3 a0.aH),(1003,w3 a0.fix)] [.ptr 1000 0,.int a1,.int a2,.agg (bh a3),.fp (I4 a4)] (.aX []) [(1000,.box [.fp (M3 r.w),.fp (I4 r.m),.aN 2,.int r.a8,.aN 3,.aN 4] 260),(2,dr r.out),(1001,.aK),(3,w3 r.aH),(1002,.aK),(4,w3 r.fix),(1003,.aK)] [2,3,4]:=by
 refine so func177 ntmps177 fun Γ u=>?_;refine rB 1000 2 1001 320 ?_;refine rB 1000 4 1002 321 ?_;refine rB 1000 5 1003 322 ?_;refine S [15,3,3,2] ?_;refine kd [0,1,2,4,8,10] [8,320,321,322,1000,1001,1002,1003] ?_;refine S [8,12,12,12] ?_;refine kd [0,1,2,4,8,10] [8,320,321,322,1000,1001,1002,1003] ?_;refine B [3] fun _ H h=>?_;refine cA ((I6 H).bB [(1001,320),(1002,321),(1003,322),(2,501),(3,502),(4,503)] rfl) ?_;refine B [3] fun z K h=>?_;refine cA ((I6 K).bB [(1001,501),(1002,502),(1003,503),(2,504),(3,505),(4,506)] rfl) ?_;refine S [2,3] ?_;refine LF e0 u (z.w,z.m,z.out,z.a8,z.aH,z.fix,a4.args) (fun l v=>nd N a0 l v.1 v.2.1 v.2.2.1 v.2.2.2.1 v.2.2.2.2.1 v.2.2.2.2.2.1 v.2.2.2.2.2.2) h (fun v=>[(11,.int v.2.2.2.2.2.2)]) (fun v=>[(504,dr v.2.2.1),(505,w3 v.2.2.2.2.1),(506,w3 v.2.2.2.2.2.1),(1000,.box [.fp (M3 v.1),.fp (I4 v.2.1),.aN 504,.int v.2.2.2.1,.aN 505,.aN 506] 260)]) [0,4,10] [1001,1002,1003] [] nl (fun s=>[(504,dr s.2.2.1),(505,w3 s.2.2.2.2.1),(506,w3 s.2.2.2.2.2),(1000,.box [.fp (M3 s.1),.fp (I4 s.2.1),.aN 504,.int s.2.2.2.1,.aN 505,.aN 506] 260)]) [0,4,10] [1001,1002,1003] ?_ ?_
 ·rintro _ g ⟨v6,v7,v8,v9,v10,v11,L⟩ n29 h;rw[nd] at h;refine I [2,3,4] ?_ ?_<;>intro _ h
  ·refine B [1,2,6,5,12] fun a C h=>?_;refine cA ((I6 C).bB [(1001,504),(1002,505),(1003,506),(2,507),(3,508),(4,509)] rfl) ?_;refine S [5,12] ?_;exact le (a.w,a.m,a.out,a.a8,a.aH,a.fix,(wr (L-(1:Int)))) [(504,507),(505,508),(506,509)]
  exact Sj [20]
 rintro⟨M,O,P,Q,R,T⟩ h;refine S [2,3] ?_;refine j5.bx 61 rfl (fun y=>?_);refine LU e0 u (M,O,P,Q,R,T) (fun l k v=>V5 N a0 a4 l k v.1 v.2.1 v.2.2.1 v.2.2.2.1 v.2.2.2.2.1 v.2.2.2.2.2) h (fun c v=>[(62,.int (c:Int))]) (fun c v=>[(504,dr v.2.2.1),(505,w3 v.2.2.2.2.1),(506,w3 v.2.2.2.2.2),(1000,.box [.fp (M3 v.1),.fp (I4 v.2.1),.aN 504,.int v.2.2.2.1,.aN 505,.aN 506] 260)]) [0,4,10,61] [1001,1002,1003] [] nl (fun s=>[(504,dr s.2.2.1),(505,w3 s.2.2.2.2.1),(506,w3 s.2.2.2.2.2),(1000,.box [.fp (M3 s.1),.fp (I4 s.2.1),.aN 504,.int s.2.2.2.1,.aN 505,.aN 506] 260)]) [0,4,10] [1001,1002,1003] ?_ ?_ ?_
 ·rintro _ g c ⟨U,V,W,X,Y,Z⟩ h _;rw[V5] at h;exact Sj [3,2,4,0,20]
 ·rintro _ g c ⟨U,V,W,X,Y,Z⟩ n55 h f _;rw[V5] at h;refine B [3,2,4,0,1,2,6,3,3] fun _ D h=>?_;refine cA ((I6 D).bB [(1001,504),(1002,505),(1003,506),(2,510),(3,511),(4,512)] rfl) ?_;refine B [5,12,12,12] fun b E h=>?_;refine cA ((I6 E).bB [(1001,510),(1002,511),(1003,512),(2,513),(3,514),(4,515)] rfl) ?_;refine kd [0,4,10,61,62] [513,514,515,1000,1001,1002,1003] ?_;refine S [5] ?_;refine IN (AN (fT f y) ?_);exact le (b.w,b.m,b.out,b.a8,b.aH,b.fix) [(504,513),(505,514),(506,515)]
 rintro⟨v46,v47,F,v49,v50,v51⟩ h;refine S [3,13,3] ?_;refine F6 fun A=>?_;refine LR e0 u (v46,v47,F,v49,v50,v51) (fun l k v=>P6 N a0 a4 F l k v.1 v.2.1 v.2.2.1 v.2.2.2.1 v.2.2.2.2.1 v.2.2.2.2.2) h (fun d v=>[(89,.int (d:Int))]) (fun d v=>[(504,dr v.2.2.1),(505,w3 v.2.2.2.2.1),(506,w3 v.2.2.2.2.2),(1000,.box [.fp (M3 v.1),.fp (I4 v.2.1),.aN 504,.int v.2.2.2.1,.aN 505,.aN 506] 260)]) [0,4,10,13,87,88] [1001,1002,1003] [] nl (fun s=>[(504,dr s.2.2.1),(505,w3 s.2.2.2.2.1),(506,w3 s.2.2.2.2.2),(1000,.box [.fp (M3 s.1),.fp (I4 s.2.1),.aN 504,.int s.2.2.2.1,.aN 505,.aN 506] 260)]) [0] [1001,1002,1003] ?_ ?_ ?_
 ·rintro _ g d ⟨v66,v67,v68,v69,v70,v71⟩ h _;rw[P6] at h;exact Sj [3,2,4,0,20]
 ·rintro _ g d ⟨v66,v67,v68,v69,v70,v71⟩ x88 G h _ e _;rw[P6] at h;refine S [3,2,4,0,1,2] ?_;refine J e0 u h nl (fun s=>[(516,dr s.2.2.1),(517,w3 s.2.2.2.2.1),(518,w3 s.2.2.2.2.2),(1000,.box [.fp (M3 s.1),.fp (I4 s.2.1),.aN 516,.int s.2.2.2.1,.aN 517,.aN 518] 260)]) [0,4,10,13,87,88,89] [1001,1002,1003] (fun _ h g=>?_) ?_
  ·refine S [6,3] ?_;refine H6 e ?_;refine I [3,6,3,4] ?_ ?_<;>intro _ h
   ·refine B [5] fun _ i h=>?_;refine cA ((I6 i).bB [(1001,504),(1002,505),(1003,506),(2,516),(3,517),(4,518)] rfl) ?_;exact je
   refine I [3,4] ?_ ?_<;>intro _ h
   ·refine kd [0,4,10,13,15,87,88,89] [15,504,505,506,1000,1001,1002,1003] ?_;refine B [5,12,12] fun _ j h=>?_;refine cA ((I6 j).bB [(1001,504),(1002,505),(1003,506),(2,519),(3,520),(4,521)] rfl) ?_;exact je [(516,519),(517,520),(518,521)]
   refine S [2] ?_;refine kd [0,4,10,13,15,87,88,89,94] [15,504,505,506,1000,1001,1002,1003] ?_;refine S [3] ?_;refine Jb 115 u h [0,4,10,13,15,87,88,89,94] [15,504,505,506,1000,1001,1002,1003] (fun _ h g=>?_) ?_
   ·exact E9 [4] [1] [5]
   intro v104 h;refine I [4] ?_ ?_<;>intro _ h
   ·refine B [8,12,12,12] fun _ n h=>?_;refine cA ((I6 n).bB [(1001,504),(1002,505),(1003,506),(2,522),(3,523),(4,524)] rfl) ?_;exact je [(516,522),(517,523),(518,524)]
   refine I [3,4] ?_ ?_<;>intro _ h
   ·refine B [5] fun _ o h=>?_;refine cA ((I6 o).bB [(1001,504),(1002,505),(1003,506),(2,525),(3,526),(4,527)] rfl) ?_;exact je [(516,525),(517,526),(518,527)]
   refine I [3,4] ?_ ?_<;>intro _ h
   ·refine B [5] fun _ p h=>?_;refine cA ((I6 p).bB [(1001,504),(1002,505),(1003,506),(2,528),(3,529),(4,530)] rfl) ?_;exact je [(516,528),(517,529),(518,530)]
   refine S [2,3] ?_;refine Jb 146 u h [0,4,10,13,15,87,88,89,94] [15,504,505,506,1000,1001,1002,1003] (fun _ h g=>?_) ?_
   ·exact E9 [4] [1] [5]
   intro v116 h;refine I [4] ?_ ?_<;>intro _ h
   ·refine B [5,12] fun _ q h=>?_;refine cA ((I6 q).bB [(1001,504),(1002,505),(1003,506),(2,531),(3,532),(4,533)] rfl) ?_;exact je [(516,531),(517,532),(518,533)]
   refine I [3,4] ?_ ?_<;>intro _ h
   ·refine B [5,13,12] fun _ t h=>?_;refine cA ((I6 t).bB [(1001,504),(1002,505),(1003,506),(2,534),(3,535),(4,536)] rfl) ?_;exact je [(516,534),(517,535),(518,536)]
   refine B [5] fun _ x h=>?_;refine cA ((I6 x).bB [(1001,504),(1002,505),(1003,506),(2,537),(3,538),(4,539)] rfl) ?_;exact je [(516,537),(517,538),(518,539)]
  rintro⟨v91,v92,v93,v94,v95,v96⟩ h;refine S [5] ?_;refine IN (AN (G6 e A) ?_);exact le (v91,v92,v93,v94,v95,v96) [(504,516),(505,517),(506,518)]
 rintro⟨v78,v79,v80,v81,v82,v83⟩ h;exact Sr [14] [(2,504),(3,505),(4,506)]
def Ic{N a0 a1 a2 a3 r}(h:vd N a0 a1 a2 a3=some r):Sp 133 [.agg (M3 a0),.int a1,.int a2,s3 a3] (.aX [.agg (fK r.1),.bool r.2]):=by
 refine so func133 ntmps133 fun Γ u=>?_;refine S [3,2,2] ?_;refine Jb 41 u h [1,2,3,4,8] [4,8] (fun _ h g=>?_) ?_
 ·refine Ij [5] [0] fun _ h=>?_;refine Ij [0,13,0] [0] fun _ h=>?_;refine Ij [0] [0] fun _ h=>?_;refine B [0] fun _ hx8 h=>?_;refine E5 hx8 ?_;exact Sj [0,13,0]
 intro v1 h;refine Ir [4] [3,7] fun _ h=>?_;refine B [1,3] fun _ T h=>?_;refine E5 T ?_;refine B [] fun G U h=>?_;refine E5 U ?_;refine j5.gh (Gh.ao 4 4 rfl rfl rfl) (fun _=>?_);refine kd [1,3,4,8,10] [8] ?_;refine S [3,3,2,3] ?_;refine F6 fun M=>?_;refine nB 57 2 501 5 55 ?_;refine nB 57 4 502 1 3 ?_;refine nB 57 5 503 1 3 ?_;refine LR e0 u (a0,G,([]:List Ins),G.a8,([]:List Int),([]:List Int),false) (fun l k v=>kc N a3 G l k v.1 v.2.1 v.2.2.1 v.2.2.2.1 v.2.2.2.2.1 v.2.2.2.2.2.1 v.2.2.2.2.2.2) h (fun o v=>[(12,.bool v.2.2.2.2.2.2),(63,.int (o:Int))]) (fun o v=>[(57,.box [.fp (M3 v.1),.fp (I4 v.2.1),.aN 501,.int v.2.2.2.1,.aN 502,.aN 503] 260),(501,dr v.2.2.1),(502,w3 v.2.2.2.2.1),(503,w3 v.2.2.2.2.2.1)]) [1,3,4,8,10,11,61,62] [8] [] (fun s=>[(12,.bool s.2.2.2.2.2.2)]) (fun s=>[(57,.box [.fp (M3 s.1),.fp (I4 s.2.1),.aN 501,.int s.2.2.2.1,.aN 502,.aN 503] 260),(501,dr s.2.2.1),(502,w3 s.2.2.2.2.1),(503,w3 s.2.2.2.2.2.1)]) [1,4,8,10,11] [8] ?_ ?_ ?_
 ·rintro _ g o ⟨v17,v18,F,v20,v21,v22,v23⟩ h _;rw[kc] at h;exact Sj [3,2,4,0,20]
 ·rintro _ g o ⟨v17,v18,F,v20,v21,v22,v23⟩ x42 rest39 h _ p _;rw[kc] at h;refine S [3,2,4,0,1,2] ?_;refine J e0 u h (fun s=>[(12,.bool s.2.2.2.2.2.2)]) (fun s=>[(57,.box [.fp (M3 s.1),.fp (I4 s.2.1),.aN 203,.int s.2.2.2.1,.aN 505,.aN 188] 260),(188,w3 s.2.2.2.2.2.1),(203,dr s.2.2.1),(505,w3 s.2.2.2.2.1)]) [1,3,4,8,10,11,61,62,63] [8] (fun _ h g=>?_) ?_
  ·refine S [6,3] ?_;refine H6 p ?_;refine S [2,8,13] ?_;refine bS bY [(F.length:Int)] ?_;refine A [] fun H h=>?_;refine aM H ?_;refine S [2,2] ?_;refine Jb 97 u h [1,3,4,8,10,11,12,13,14,61,62,63] [8,14,57,79,501,503] (fun _ h g=>?_) ?_
   ·refine kd [1,3,4,8,10,11,12,13,14,61,62,63] [8,14,57,79,501,503] ?_;refine I [5] ?_ ?_<;>intro _ h
    ·refine I [0,13,0] ?_ ?_<;>intro _ h
     ·refine B [0] fun _ V h=>?_;refine E5 V ?_;exact Sj [0]
     exact Sj [0]
    exact Sj [0]
   intro v55 h;refine I [4] ?_ ?_<;>intro _ h
   ·refine B [2,8] fun _ W h=>?_;refine E5 W ?_;refine B [] fun r65 O h=>?_;refine cA ((Hk O).bB [(1000,57),(1001,501),(1002,79),(1003,503),(2,504),(3,505),(4,506)] rfl) ?_;rcases r65 with⟨_|x68,d⟩
    ·refine S [2] ?_;refine kd [1,3,4,8,10,11,12,13,14,15,61,62,63] [8,14,57,504,505,506] ?_;refine S [8,4,1,2,2] ?_;refine Jb 176 u h [1,3,4,8,10,11,12,13,14,61,62,63] [8,14,57,504,505,506] (fun _ h g=>?_) ?_
     ·refine kd [1,3,4,8,10,11,12,13,14,61,62,63] [8,14,57,504,505,506] ?_;exact E9 [5] [0] [0]
     intro v69 h;refine J e0 u h nl (fun s=>[(57,.box [.fp (M3 d.w),.fp (I4 d.m),.aN 504,.int d.a8,.aN 505,.aN 188] 260),(188,w3 s)]) [1,3,4,8,10,11,12,13,14,61,62,63] [8,14,504,505] (fun _ h g=>?_) ?_
     ·refine I [4] ?_ ?_<;>intro _ h
      ·refine S [8,13] ?_;refine bS bY [(d.out.length:Int)] ?_;refine A [] fun K h=>?_;refine aM K ?_;exact je
      exact Sj [1] [(188,506)]
     intro v72 h;refine S [2,3] ?_;refine J e0 u h nl (fun s=>[(14,.box (bh s) 55)]) [1,3,4,8,10,11,12,14,61,62,63] [8,57,188,504,505] (fun _ h g=>?_) ?_
     ·exact E9 [4] [5] [1]
     intro v77 h;refine S [8] ?_;refine bS bh [v77] ?_;refine A [] fun L h=>?_;refine aM L ?_;exact je
    refine S [2] ?_;refine Jb 159 u h [1,3,4,8,10,11,12,13,14,15,61,62,63] [8,14,57,504,505,506] (fun _ h g=>?_) ?_
    ·refine kd [1,3,4,8,10,11,12,13,14,15,61,62,63] [8,14,57,504,505,506] ?_;refine B [8] fun _ P h=>?_;refine cA (Cv P) ?_;refine I [] ?_ ?_<;>intro _ h
     ·refine I [0] ?_ ?_<;>intro _ h
      ·refine B [0,13,0] fun _ Q h=>?_;refine cA (JR Q) ?_;exact E9 [0,12,0,13,0,12,0,12,0] [0,12,0,12,0,12,0] [0]
      exact Sj [0]
     exact Sj [0]
    intro v81 h;refine I [4] ?_ ?_<;>intro _ h
    ·refine B [2,8] fun _ X h=>?_;refine E5 X ?_;refine B [] fun _ R h=>?_;refine cA ((Hm R).bB [(1000,57),(1001,504),(1002,505),(1003,506),(2,507),(3,508),(4,509)] rfl) ?_;refine kd [1,3,4,8,10,11,61,62,63] [8,57,507,508,509] ?_;exact Sj [3,20] [(203,507),(505,508),(188,509)]
    refine S [1,2,2] ?_;refine Jb 176 u h [1,3,4,8,10,11,12,13,14,61,62,63] [8,14,57,504,505,506] (fun _ h g=>?_) ?_
    ·exact E9 [5] [0] [0]
    intro v97 h;refine J e0 u h nl (fun s=>[(57,.box [.fp (M3 d.w),.fp (I4 d.m),.aN 504,.int d.a8,.aN 505,.aN 188] 260),(188,w3 s)]) [1,3,4,8,10,11,12,13,14,61,62,63] [8,14,504,505] (fun _ h g=>?_) ?_
    ·refine I [4] ?_ ?_<;>intro _ h
     ·refine S [8,13] ?_;refine bS bY [(d.out.length:Int)] ?_;refine A [] fun x h=>?_;refine aM x ?_;exact je
     exact Sj [1] [(188,506)]
    intro v100 h;refine S [2,3] ?_;refine J e0 u h nl (fun s=>[(14,.box (bh s) 55)]) [1,3,4,8,10,11,12,14,61,62,63] [8,57,188,504,505] (fun _ h g=>?_) ?_
    ·exact E9 [4] [5] [1]
    intro Z h;refine S [8] ?_;refine bS bh [Z] ?_;refine A [] fun y h=>?_;refine aM y ?_;exact je
   refine S [1,2,2] ?_;refine Jb 176 u h [1,3,4,8,10,11,12,13,14,61,62,63] [8,14,57,79,501,503] (fun _ h g=>?_) ?_
   ·exact E9 [5] [0] [0]
   intro v109 h;refine J e0 u h nl (fun s=>[(57,.box [.fp (M3 v17),.fp (I4 v18),.aN 501,.int v20,.aN 79,.aN 188] 260),(188,w3 s)]) [1,3,4,8,10,11,12,13,14,61,62,63] [8,14,79,501] (fun _ h g=>?_) ?_
   ·refine I [4] ?_ ?_<;>intro _ h
    ·refine S [8,13] ?_;refine bS bY [(F.length:Int)] ?_;refine A [] fun z h=>?_;refine aM z ?_;exact je
    exact Sj [1] [(188,503)]
   intro v112 h;refine S [2,3] ?_;refine J e0 u h nl (fun s=>[(14,.box (bh s) 55)]) [1,3,4,8,10,11,12,14,61,62,63] [8,57,79,188,501] (fun _ h g=>?_) ?_
   ·exact E9 [4] [5] [1]
   intro v117 h;refine S [8] ?_;refine bS bh [v117] ?_;refine A [] fun C h=>?_;refine aM C ?_;exact je [(505,79)]
  rintro⟨v45,v46,v47,v48,v49,v50,v51⟩ h;refine S [5] ?_;refine IN (AN (G6 p M) ?_);exact le (v45,v46,v47,v48,v49,v50,v51) [(501,203),(502,505),(503,188)]
 rintro⟨v31,v32,v33,v34,v35,v36,v37⟩ h;refine Ir [2,3,4] [3,7] fun _ h=>?_;refine S [1,2,3] ?_;refine F6 fun D=>?_;refine LR e0 u v33 (fun l k v=>ke N v35 v36 l k v) h (fun e v=>[(215,.int (e:Int))]) (fun e v=>[(501,dr v)]) [1,4,8,10,11,213,214] [8,57,502,503] [] nl (fun s=>[(501,dr s)]) [1,4,8,10,11] [8,57,502,503] ?_ ?_ ?_
 ·intro _ g e q h _;rw[ke] at h;exact Sj [3,2,4,0,20]
 ·intro _ g e q x131 Y h _ E _;rw[ke] at h;refine B [3,2,4,0,1,2,6,3] fun x134 f h=>?_;refine R7 f ?_;refine Q9 (l6 f).2 ?_;refine kd [1,4,8,10,11,17,213,214,215] [8,57,501,502,503] ?_;refine B [8] fun _ i h=>?_;refine R7 i ?_;refine Q9 (l6 i).2 ?_;refine B [] fun t j h=>?_;refine R7 j ?_;refine Q9 (l6 j).2 ?_;refine B [] fun a n h=>?_;refine R7 n ?_;refine sM (l6 n).2 (⟨a.op,t,a.b,a.c,a.name⟩:Ins) ?_;refine kd [1,4,8,10,11,213,214,215] [8,57,501,502,503] ?_;refine S [5] ?_;refine IN (AN (G6 E D) ?_);exact le (q.set x134.toNat (⟨a.op,t,a.b,a.c,a.name⟩:Ins)) []
 intro v126 h;refine S [2] ?_;refine kd [1,4,8,10,11] [8,57,501,502,503] ?_;refine S [8] ?_;refine j5.aY 501 rfl ?_;exact Sr [7]
def Ks{N a0 a1 r}(h:wu N a0 a1=some r):Sq 102 [] [.agg (M3 a0),fR a1] (.aN 0) [(0,rS r)] [0]:=by
 refine so func102 ntmps102 fun D u=>?_;refine S [3,3,2,3] ?_;refine F6 fun n=>?_;refine nR 5 205 5 213 ?_;refine LR e0 u ([]:List Fs) (fun l k v=>mN N a0 a1 l k v) h (fun j v=>[(13,.int (j:Int))]) (fun j v=>[(205,rS v)]) [1,2,5,12] [2] [] nl (fun s=>[(205,rS s)]) [5] [] ?_ ?_ ?_
 ·intro _ g j x h _;rw[mN] at h;exact Sj [3,2,4,0,20]
 ·intro _ g j x y p h _ b _;rw[mN] at h;refine S [3,2,4,0,1,2,6,3,3] ?_;refine H6 b ?_;refine F6 fun d=>?_;refine LR e0 u x (fun l k v=>mM N a0 a1 j l k v) h (fun a v=>[(23,.int (a:Int))]) (fun a v=>[(205,rS v)]) [1,2,5,6,12,13,22] [2] [] nl (fun s=>[(205,rS s)]) [1,2,5,12,13] [2] ?_ ?_ ?_
  ·intro _ g a q h _;rw[mM] at h;exact Sj [3,2,4,0,20]
  ·intro _ g a q z m h _ i _;rw[mM] at h;refine S [3,2,4,0,1,2] ?_;refine J e0 u h (fun s=>[(5,.aN 42)]) (fun s=>[(42,rS s)]) [1,2,6,12,13,22,23] [2] (fun _ h g=>?_) ?_
   ·refine B [6,3,2,8] fun _ e h=>?_;refine cA ((Io e).sw 0 34) ?_;refine B [] fun o f h=>?_;refine cF (Ic f) ?_;refine kd [1,2,5,6,8,9,12,13,22,23] [2,8,205] ?_;refine I [3,4] ?_ ?_<;>intro _ h
    ·refine S [5] ?_;refine bS fK [o.1] ?_;refine A [] fun c h=>?_;refine aM c ?_;exact je
    exact Sj [1] [(42,205)]
   intro w h;refine S [5] ?_;refine IN (AN (G6 i d) ?_);exact le w [(205,42)]
  intro t h;refine S [5] ?_;refine IN (AN (G6 b n) ?_);exact le t []
 intro C h;exact Sr [3,7] [(0,205)]
def Bw{N a0 gq a1 a2 a3 a4 r}(h:ka N a0 gq a1 a2 a3 a4=some r){e:Nat}{c:List AV}{d:Nat}{a:List AV}{b:List AV}(E:∀C D O,gq C D=some O->Sp d [.int C,.int D,.fp a,.fp b] (.aX [.agg (fK O.1),.bool O.2])):Sq 166 [(1000,mB a0 (.fn e [.fp c]) (.fn d [.fp a,.fp b]) 1001 1003),(1001,.box [Y1 a0.w.a7,.aN 1002,.int a0.w.aC] 40),(1003,U9 a0.aF [] 1005)] [.ptr 1000 0,.int a1,.int a2,.agg (eV a3),lR a4] (.aX []) [(1000,mB r (.fn e [.fp c]) (.fn d [.fp a,.fp b]) 1001 4),(1001,.box [Y1 a0.w.a7,.aN 1002,.int a0.w.aC] 40),(4,U9 r.aF [] 5),(5,.aK),(1003,.aK)] [5,4]:=by
 refine so func166 ntmps166 fun P u=>?_;refine B [15,3,3] fun _ G h=>?_;refine E5 G ?_;refine B [] fun _ H h=>?_;refine E5 H ?_;refine S [2] ?_;refine kd [0,1,2,4,8,10] [8,1000,1001,1003] ?_;refine I [3,13,4] ?_ ?_<;>intro _ h
 ·refine B [3] fun _ F h=>?_;refine cA (mb (.fn e [.fp c]) (.fn d [.fp a,.fp b]) fun _ _=>(y7 F _ _)) ?_;refine gC (gR 1000 6 1003 501 502) ?_;exact Sr [7] [(4,501),(5,502)]
 refine I [1,2,3,4] ?_ ?_<;>intro _ h
 ·refine S [2] ?_;refine kd [0,4,8,10] [8,1000,1001,1003] ?_;refine B [3] fun _ l h=>?_;refine cA (mb (.fn e [.fp c]) (.fn d [.fp a,.fp b]) fun _ _=>(N7 l _ _)) ?_;refine I [4] ?_ ?_<;>intro _ h
  ·refine gC (gR 1000 6 1003 503 504) ?_;exact Sr [7] [(4,503),(5,504)]
  refine B [1,2,8] fun _ y h=>?_;refine E5 y ?_;refine B [] fun _ m h=>?_;refine cA (yB m) ?_;refine S [2] ?_;refine kd [0,11,12] [11,1000,1001,1003] ?_;refine I [3,4] ?_ ?_<;>intro _ h
  ·refine B [3] fun _ o h=>?_;refine cA (mb (.fn e [.fp c]) (.fn d [.fp a,.fp b]) fun _ _=>(y7 o _ _)) ?_;refine gC (gR 1000 6 1003 505 506) ?_;exact Sr [7] [(4,505),(5,506)]
  refine B [1,3] fun _ p h=>?_;refine cA (mb (.fn e [.fp c]) (.fn d [.fp a,.fp b]) fun _ _=>((qN p _ _).sw 5 507)) ?_;refine gC (gR 1000 6 1003 508 509) ?_;exact Sr [7] [(4,508),(5,509)]
 refine S [1,2] ?_;refine kd [0,1,2,4,8,10] [8,1000,1001,1003] ?_;refine B [3] fun _ q h=>?_;refine cA (mb (.fn e [.fp c]) (.fn d [.fp a,.fp b]) fun _ _=>(N7 q _ _)) ?_;refine I [4] ?_ ?_<;>intro _ h
 ·refine gC (gR 1000 6 1003 510 511) ?_;exact Sr [7] [(4,510),(5,511)]
 refine S [1,2] ?_;refine kd [0,1,2,4,8,10] [8,1000,1001,1003] ?_;refine B [8] fun K t h=>?_;refine cA ((nt N _ _ t).sw 0 77) ?_;refine A [] fun f h=>?_;refine j8 (enc:=eV) (x:=(⟨(0:Int),(0:Int)⟩:V)) f aT ?_;refine S [2] ?_;refine kd [0,1,2,13] [13,77,82,1000,1001,1003] ?_;refine B [3] fun _ v h=>?_;refine cA (E _ _ _ v) ?_;refine S [3] ?_;refine J e0 u h nl (fun s=>[(13,.box [.int a1,.int a2,.bool s.1,qH s.2.1,.int a3.k,.int a3.n,.aN 77,.aN 99,.aI,.int (0:Int)] 288),(99,eS s.2.2)]) [0,13] [77,1000,1001,1003] (fun _ h g=>?_) ?_
 ·refine I [4] ?_ ?_<;>intro _ h
  ·refine kd [0,13,14] [13,14,77,82,1000,1001,1003] ?_;refine A [8] fun i h=>?_;refine j8 (enc:=eV) (x:=(⟨(0:Int),(0:Int)⟩:V)) i aT ?_;exact je
  exact Sj [1] [(99,82)]
 rintro⟨L,M,z⟩ h;refine j5.aY 77 rfl ?_;refine kd [0,13] [13,99,1000,1001,1003] ?_;refine S [8,11] ?_;refine Exists.intro [(7,(2,29)),(8,(2,29))] (Exists.intro (wI (⟨a1,a2,L,M,a3,K,z,[],(0:Int)⟩:j4)) (Exists.intro [(99,eS z)] (AN rfl (AN rfl (AN rfl (AN G7 (AN G7 (AN rfl (AN rfl ?_)))))))));refine A [] fun j h=>?_;refine aD j ?_;exact Sr [14] [(4,110),(5,810)]
def Hg{N a0 gl gq a1 a2 a3 r}(h:s9 N a0 gl gq a1 a2 a3=some r){y:Nat}{c:List AV}(D:∀f j x k,gl f j x=some k->Sp y [.agg (Z8 f),.int j,.str x,.fp c] (.aX [.int k.1,.int k.2])){z:Nat}{d:List AV}{e:List AV}(E:∀f j k,gq f j=some k->Sp z [.int f,.int j,.fp d,.fp e] (.aX [.agg (fK k.1),.bool k.2])):Sq 198 [(1000,mB a0 (.fn y [.fp c]) (.fn z [.fp d,.fp e]) 1001 1003),(1001,.box [Y1 a0.w.a7,.aN 1002,.int a0.w.aC] 40),(1002,d92 a0.w.heap [] 1004),(1003,U9 a0.aF [] 1005)] [.ptr 1000 0,.ep 1003 a1 10 0,.agg (bh a2),.int a3] (.aX []) [(1000,mB r (.fn y [.fp c]) (.fn z [.fp d,.fp e]) 1001 4),(1001,.box [Y1 a0.w.a7,.aN 1002,.int a0.w.aC] 40),(1002,d92 a0.w.heap [] 1004),(4,U9 r.aF [] 5),(5,.aK),(1003,.aK)] [5,4]:=by
 refine so func198 ntmps198 fun K u=>?_;refine B [15,3,2] fun i b h=>?_;refine gC (gD 1003 501 502 a1 8 b) ?_;refine kd [0,1,3,6] [6,501,502,1000,1001,1002,1003] ?_;refine S [8] ?_;refine hD b ?_;refine S [13,12,2] ?_;refine kd [0,1,3,6,8] [6,501,502,1000,1001,1002,1003] ?_;refine S [8] ?_;refine hD b ?_;refine A [] fun C h=>?_;refine d66 C rfl rfl ?_;refine B [] fun _ F h=>?_;refine wM ((Spec.drop1 (nt N _ _ F)).sw 0 28) ⟨BF _,trivial⟩ ?_;refine hD b ?_;refine B [12] fun _ v h=>?_;refine R7 v ?_;refine Q9 (l6 v).2 ?_;refine S [2] ?_;refine gC (gB 1003 501 503 a1 8 b) ?_;refine kd [0,1,3,6,8,9,10] [6,10,28,503,1000,1001,1002,1003] ?_;refine S [8] ?_;refine Q9 b ?_;refine Q9 b ?_;refine B [] fun _ q h=>?_;refine E5 q ?_;refine Q9 b ?_;refine B [] fun G t h=>?_;refine E5 t ?_;refine S [2] ?_;refine kd [0,1,6,8,9,10,11] [6,10,11,28,503,1000,1001,1002,1003] ?_;refine S [3] ?_;refine Q9 b ?_;refine J e0 u h nl (fun s=>[(11,.box [.int i.aE,.str G.name,.int s] 156)]) [0,1,6,8,9,10,11] [6,10,28,503,1000,1001,1002,1003] (fun _ h g=>?_) ?_
 ·exact E9 [4] [5] [1]
 intro H h;refine S [2] ?_;refine kd [0,1,6,8,9,10,11] [6,10,11,28,503,1000,1001,1002,1003] ?_;refine B [8] fun _ m h=>?_;refine cD (oO m) ?_;refine B [] fun _ n h=>?_;refine cA (D _ _ _ _ n) ?_;refine S [2] ?_;refine kd [0,1,8,9,10,12,13] [10,28,503,1000,1001,1002,1003] ?_;refine I [3,4] ?_ ?_<;>intro _ h
 ·refine B [3] fun _ o h=>?_;refine cA (mb (.fn y [.fp c]) (.fn z [.fp d,.fp e]) fun _ _=>(y7 o _ _)) ?_;refine gC (gR 1000 6 1003 504 505) ?_;exact Sr [7] [(4,504),(5,505)]
 refine S [1] ?_;refine gC (gD 1003 506 507 a1 8 b) ?_;refine kd [0,1,8,9,10,12,13] [10,28,506,507,1000,1001,1002,1003] ?_;refine S [3] ?_;refine hD b ?_;refine A [12] fun l h=>?_;refine j7 l rfl rfl ?_;refine hS b ?_;refine gC (gA 1003 102 508 a1 8 b (⟨i.aE,i.aJ,i.aZ,i.code,i.aP,i.args,i.a8,(i.aA.take (wr ((wr ((i.aA.length:Int)-a2.a))-(1:Int))).toNat),i.aH⟩:j4)) ?_;refine kd [0,1,9,10,12,13] [10,28,508,1000,1001,1002,1003] ?_;refine B [5] fun _ p h=>?_;refine cF ((((Bw p E).sw 1005 508).sw 5 509).sw 4 510) ?_;exact Sr [14] [(4,510),(5,509)]
def Hf{N a0 gl gq r}(h:sA N a0 gl gq=some r){i:Nat}{a:List AV}(C:∀e f z l,gl e f z=some l->Sp i [.agg (Z8 e),.int f,.str z,.fp a] (.aX [.int l.1,.int l.2])){j:Nat}{b:List AV}{c:List AV}(D:∀e f l,gq e f=some l->Sp j [.int e,.int f,.fp b,.fp c] (.aX [.agg (fK l.1),.bool l.2])):Sq 167 [(1000,mB a0 (.fn i [.fp a]) (.fn j [.fp b,.fp c]) 1001 1003),(1001,.box [Y1 a0.w.a7,.aN 1002,.int a0.w.aC] 40),(1002,d92 a0.w.heap [] 1004),(1003,U9 a0.aF [] 1005)] [.ptr 1000 0] (.aX []) [(1000,mB r (.fn i [.fp a]) (.fn j [.fp b,.fp c]) 1001 4),(1001,.box [Y1 r.w.a7,.aN 2,.int r.w.aC] 40),(2,d92 r.w.heap [] 3),(3,.aK),(1002,.aK),(4,U9 r.aF [] 5),(5,.aK),(1003,.aK)] [3,2,5,4]:=by
 refine so func167 ntmps167 fun G u=>?_;refine B [15,2,8,13,12] fun k d h=>?_;refine iD d ?_;refine S [3] ?_;refine Q9 (l6 d).2 ?_;refine kd [0,2,3] [1000,1001,1002,1003] ?_;refine S [3] ?_;refine Q9 (l6 d).2 ?_;refine B [] fun _ F h=>?_;refine E5 F ?_;refine S [3] ?_;refine Q9 (l6 d).2 ?_;refine S [12] ?_;refine sD (l6 d).2 (⟨k.aE,k.aJ,k.aZ,k.code,k.aP,k.args,k.a8,k.aA,(wr (k.aH+(1:Int)))⟩:j4) ?_;refine kd [0,2,3,4] [4,1000,1001,1002,1003] ?_;refine I [3,6,3,4] ?_ ?_<;>intro _ h
 ·refine B [5] fun _ E h=>?_;refine cA (((Hg E C D).sw 5 501).sw 4 502) ?_;refine gE (gR 1001 1 1002 503 504) ?_;exact Sr [14] [(2,503),(3,504),(4,502),(5,501)]
 refine I [3,4] ?_ ?_<;>intro _ h
 ·refine B [5] fun _ n h=>?_;refine cA (mb (.fn i [.fp a]) (.fn j [.fp b,.fp c]) fun _ _=>((qM n _ _).sw 5 505)) ?_;refine gE (gR 1001 1 1002 506 507) ?_;refine gE (gR 1000 6 1003 508 509) ?_;exact Sr [14] [(2,506),(3,507),(4,508),(5,509)]
 refine I [3,4] ?_ ?_<;>intro _ h
 ·refine B [3] fun _ o h=>?_;refine cA ((ld o).sw 5 510) ?_;refine S [3,6] ?_;refine kd [0,2,4,61] [4,510,1000,1001,1002,1003] ?_;refine I [3,4] ?_ ?_<;>intro _ h
  ·refine B [5] fun _ p h=>?_;refine cA (mb (.fn i [.fp a]) (.fn j [.fp b,.fp c]) fun _ _=>(((qM p _ _).sw 1005 510).sw 5 511)) ?_;refine gE (gR 1001 1 1002 512 513) ?_;refine gE (gR 1000 6 1003 514 515) ?_;exact Sr [14] [(2,512),(3,513),(4,514),(5,515)]
  refine I [3,4] ?_ ?_<;>intro _ h
  ·refine S [1] ?_;refine gE (gR 1001 1 1002 516 517) ?_;refine gE (gR 1000 6 1003 518 519) ?_;exact Sr [14] [(2,516),(3,517),(4,518),(5,519)]
  refine B [5] fun _ q h=>?_;refine cA (mb (.fn i [.fp a]) (.fn j [.fp b,.fp c]) fun _ _=>(y7 q _ _)) ?_;refine gE (gR 1001 1 1002 520 521) ?_;refine gE (gR 1000 6 1003 522 523) ?_;exact Sr [14] [(2,520),(3,521),(4,522),(5,523)]
 refine I [3,4] ?_ ?_<;>intro _ h
 ·refine B [3] fun _ s h=>?_;refine cA ((ld s).sw 5 524) ?_;refine S [2] ?_;refine kd [0,6] [6,524,1000,1001,1002,1003] ?_;refine A [8,13,12] fun m h=>?_;refine j7 m rfl rfl ?_;refine B [5] fun _ t h=>?_;refine cA (mb (.fn i [.fp a]) (.fn j [.fp b,.fp c]) fun _ _=>((((qN t _ _).sw 1003 88).sw 1005 788).sw 5 525)) ?_;refine gE (gR 1001 1 1002 526 527) ?_;exact Sr [14] [(2,526),(3,527),(4,88),(5,525)]
 refine I [3,4] ?_ ?_<;>intro _ h
 ·refine B [5] fun _ v h=>?_;refine cA (mb (.fn i [.fp a]) (.fn j [.fp b,.fp c]) fun _ _=>((xv v _ _).sw 5 528)) ?_;refine gE (gR 1001 1 1002 529 530) ?_;refine gE (gR 1000 6 1003 531 532) ?_;exact Sr [14] [(2,529),(3,530),(4,531),(5,532)]
 refine I [3,4] ?_ ?_<;>intro _ h
 ·refine kd [0] [1000,1001,1002,1003] ?_;refine B [5] fun _ x h=>?_;refine cA (mb (.fn i [.fp a]) (.fn j [.fp b,.fp c]) fun _ _=>(N7 x _ _)) ?_;refine gE (gR 1001 1 1002 533 534) ?_;refine gE (gR 1000 6 1003 535 536) ?_;exact Sr [14] [(2,533),(3,534),(4,535),(5,536)]
 refine kd [0,2,4] [4,1000,1001,1002,1003] ?_;refine B [5] fun _ y h=>?_;refine cA (mb (.fn i [.fp a]) (.fn j [.fp b,.fp c]) fun _ _=>((((xm y _ _).sw 3 537).sw 2 538).sw 5 539)) ?_;refine gE (gR 1000 6 1003 540 541) ?_;exact Sr [14] [(2,538),(3,537),(4,540),(5,541)]
def Ih{N a0 a1 a2 g3 g4 r}(h:jv N a0 a1 a2 g3 g4=some r){j:Nat}{b:List AV}(A:∀e f z i,g3 e f z=some i->Sp j [.agg (Z8 e),.int f,.str z,.fp b] (.aX [.int i.1,.int i.2])){m:Nat}{c:List AV}{d:List AV}(o:∀e f i,g4 e f=some i->Sp m [.int e,.int f,.fp c,.fp d] (.aX [.agg (fK i.1),.bool i.2])):Sp 125 [.agg (M3 a0),.agg (ir a1),.int a2,.fn j [.fp b],.fn m [.fp c,.fp d]] (.aX [.agg (M3 r.1),.agg (pU r.2)]):=by
 refine so func125 ntmps125 fun Γ u=>?_;refine B [3,2,3] fun _ C h=>?_;refine cA (ym C) ?_;refine I [3,4] ?_ ?_<;>intro _ h
 ·refine B [3] fun _ D h=>?_;refine cA (((jz D).sw 0 24).sw 1 724) ?_;refine j5.az 24 rfl ?_;exact Sr [7]
 refine B [1,3] fun G E h=>?_;refine cA (((jz E).sw 0 28).sw 1 728) ?_;refine kd [2,3,4,5,6,10,11,13] [5,6,10,11,13,28,728] ?_;refine B [3,2,2,8] fun _ F h=>?_;refine cD (oO F) ?_;refine B [] fun _ p h=>?_;refine cD (jy p) ?_;refine kd [5,6,10,11,13,14,15,16] [5,6,10,11,13,28,33,728] ?_;refine S [3] ?_;refine nB 33 6 501 10 288 ?_;refine gC (gT 501 502 [(7,(2,29)),(8,(2,29))]) ?_;refine J e0 u h nl (fun s=>[(33,.box [.ptr 13 0,.fn j [.fp b],.fn m [.fp c,.fp d],.int s.1,.int s.2.1,.int s.2.2.1,.aN 501,.int s.2.2.2.2.1,.int s.2.2.2.2.2.1,.int s.2.2.2.2.2.2] 251),(501,U9 s.2.2.2.1 [] 502)]) [5,10,11,13,14] [5,10,11,13,28,502,728] (fun _ h g=>?_) ?_
 ·refine I [4] ?_ ?_<;>intro _ h
  ·refine B [5] fun _ q h=>?_;refine cA (mb (.fn j [.fp b]) (.fn m [.fp c,.fp d]) fun _ _=>((((y7 q _ _).sw 1000 33).sw 1001 13).sw 1003 501)) ?_;exact je
  refine B [5] fun _ t h=>?_;refine cA ((Bw t o).bB [(1000,33),(1001,13),(1003,501),(1002,28),(1005,502),(5,503),(4,504)] rfl) ?_;exact je [(501,504),(502,503)]
 rintro⟨H,K,L,M,O,P,Q⟩ h;refine S [2] ?_;refine LF e0 u (G.a7,G.heap,G.aC,H,K,L,M,O,P,Q) (fun l v=>kj N g3 g4 l v.1 v.2.1 v.2.2.1 v.2.2.2.1 v.2.2.2.2.1 v.2.2.2.2.2.1 v.2.2.2.2.2.2.1 v.2.2.2.2.2.2.2.1 v.2.2.2.2.2.2.2.2.1 v.2.2.2.2.2.2.2.2.2) h (fun v=>[]) (fun v=>[(13,.box [Y1 v.1,.aN 28,.int v.2.2.1] 40),(28,d92 v.2.1 [] 728),(33,.box [.ptr 13 0,.fn j [.fp b],.fn m [.fp c,.fp d],.int v.2.2.2.1,.int v.2.2.2.2.1,.int v.2.2.2.2.2.1,.aN 501,.int v.2.2.2.2.2.2.2.1,.int v.2.2.2.2.2.2.2.2.1,.int v.2.2.2.2.2.2.2.2.2] 251),(501,U9 v.2.2.2.2.2.2.1 [] 502)]) [5,10,11,13,14] [5,10,11,502,728] [] nl (fun s=>[(13,.box [Y1 s.1,.aN 28,.int s.2.2.1] 40),(28,d92 s.2.1 [] 728),(33,.box [.ptr 13 0,.fn j [.fp b],.fn m [.fp c,.fp d],.int s.2.2.2.1,.int s.2.2.2.2.1,.int s.2.2.2.2.2.1,.aN 501,.int s.2.2.2.2.2.2.2.1,.int s.2.2.2.2.2.2.2.2.1,.int s.2.2.2.2.2.2.2.2.2] 251),(501,U9 s.2.2.2.2.2.2.1 [] 502)]) [5,10,11,13,14] [5,10,11,502,728] ?_ ?_
 ·rintro _ g ⟨T,U,V,W,X,Y,Z,v33,v34,v35⟩ R h;rw[kj] at h;refine S [2,2] ?_;refine Jb 70 u h [5,10,11,13,14] [5,10,11,13,28,33,501,502,728] (fun _ h g=>?_) ?_
  ·exact E9 [5] [0,13,0] [0]
  intro v60 h;refine I [4] ?_ ?_<;>intro _ h
  ·refine B [1,6,5] fun a x h=>?_;refine cA ((Hf x A o).bB [(1000,33),(1001,13),(1003,501),(1002,28),(1004,728),(1005,502),(3,505),(2,506),(5,507),(4,508)] rfl) ?_;exact le (a.w.a7,a.w.heap,a.w.aC,a.fuel,a.sends,a.turns,a.aF,a.back.k,a.back.n,a.err) [(28,506),(728,505),(501,508),(502,507)]
  exact Sj [20]
 rintro⟨v46,v47,v48,v49,v50,v51,v52,v53,v54,v55⟩ h;refine I [2,3,4] ?_ ?_<;>intro _ h
 ·refine B [2,8] fun _ y h=>?_;refine cA (((jz y).sw 0 79).sw 1 779) ?_;refine j5.az 79 rfl ?_;exact Sr [7]
 refine S [1,2,8] ?_;refine j5.az 28 rfl ?_;exact Sr [7]
def K2{N a0 a1 a2 b0 r}(h:tI N a0 a1 a2 b0=some r):Sp 131 [.agg (Z8 a0),.int a1,.str a2,.fp (M3 b0)] (.aX [.int r.1,.int r.2]):=by
 refine so func131 ntmps131 fun b u=>?_;refine B [3,3] fun _ a h=>?_;refine cA (jy a) ?_;exact Sr [7]
def Jz{N a0 a1 b0 b1 r}(h:tK N a0 a1 b0 b1=some r):Sp 132 [.int a0,.int a1,.fp [Gq b0],.fp (M3 b1)] (.aX [.agg (fK r.1),.bool r.2]):=by
 refine so func132 ntmps132 fun m u=>?_;refine S [3,2,3] ?_;refine F6 fun e=>?_;refine LR e1 u () (fun l k v=>mD N a0 a1 b1 l k) h (fun d v=>[(12,.int (d:Int))]) (fun d v=>[]) [0,1,3,6,10,11] [6] [] nl nl [6] [6] ?_ ?_ ?_
 ·intro _ g d _ h _;rw[mD] at h;exact Sj [3,2,4,0,20]
 ·intro _ g d _ j f h _ c _;rw[mD] at h;refine S [3,2,4,0,1,2,6,3] ?_;refine H6 c ?_;refine S [2] ?_;refine Jb 41 u h [0,1,3,6,9,10,11,12] [6,9] (fun _ h g=>?_) ?_
  ·refine kd [0,1,3,6,9,10,11,12] [6,9] ?_;refine I [8] ?_ ?_<;>intro _ h
   ·refine B [0] fun _ a h=>?_;refine E5 a ?_;refine B [0] fun _ b h=>?_;refine E5 b ?_;exact E9 [0] [0] [0]
   exact Sj [0]
  intro i h;refine Ir [4] [3,7] fun _ h=>?_;refine S [1,5] ?_;refine IN (AN (G6 c e) ?_);exact le () []
 rintro⟨⟩ h;exact Sr [3,7]
def Kn{N a0 a1 a2 a3 r}(h:wz N a0 a1 a2 a3=some r):Sp 101 [.agg (M3 a0),.agg (ir a1),.int a2,Gq a3] (.aX [.agg (M3 r.1),.agg (pU r.2)]):=by
 refine so func101 ntmps101 fun c u=>?_;refine S [3] ?_;refine j5.gh (Gh.ao 4 4 rfl rfl rfl) (fun _=>?_);refine j5.gh (Gh.ao 7 7 rfl rfl rfl) (fun _=>?_);refine kd [2,4,5,7,8,9] [5,8,9] ?_;refine B [3] fun _ b h=>?_;refine cA (Ih b (fun _ _ _ _ a=>K2 a) (fun _ _ _ a=>Jz a)) ?_;exact Sr [7]
def JB{N a0 a1 a2 r}(h:sZ N a0 a1 a2=some r):Sq 67 [(1000,.box (M8 a0) 45)] [.ptr 1000 0,.int a1,.agg (ir a2)] (.agg (gp r.1)) [(1000,.box (M8 r.2) 45)] []:=by
 refine so func67 ntmps67 fun m u=>?_;refine S [3,3,2,3] ?_;refine J e0 u h nl (fun s=>[(7,.box (pU s.2.2.2.2.2) 151),(1000,.box [Y1 s.1,cC s.2.1,.int s.2.2.1,fW s.2.2.2.1,fR s.2.2.2.2.1,s5 a0.saved] 45)]) [0,6,7] [6] (fun _ h g=>?_) ?_
 ·refine I [6,3,4] ?_ ?_<;>intro _ h
  ·refine B [8] fun _ a h=>?_;refine cA (d26 a) ?_;exact je
  refine I [3,4] ?_ ?_<;>intro _ h
  ·refine B [2,8] fun _ b h=>?_;refine cA (K1 b) ?_;refine kd [0,6,7,8] [6,7,8,1000] ?_;exact Sj [8]
  refine kd [0,5,6,7] [5,6,7,1000] ?_;refine B [8] fun _ c h=>?_;refine cA ((Ks c).sw 0 25) ?_;refine B [] fun _ d h=>?_;refine cF (Kn d) ?_;exact je
 rintro⟨e,f,i,j,k,l⟩ h;exact Sr [3,7]
def HN{N a0 a1 r}(h:xt N a0 a1=some r):Sq 80 [(1000,.box [.np 1000,.aN 1001] 99),(1001,w5 a0)] [.ptr 1000 0,.str a1] (.aX [.int r.1,.eC r.2.1]) [(1000,.box [.np 1000,.aN 2] 99),(2,w5 r.2.2),(1001,.aK)] [2]:=by
 refine so func80 ntmps80 fun b u=>?_;refine rB 1000 1 1001 320 ?_;refine S [3,3] ?_;refine cA (CF 1000 320) ?_;refine A [3] fun a h=>?_;refine Pf a ?_;exact Sr [3,18,7] [(2,14)]
def HO{N a0 a1 r}(h:xu N a0 a1=some r):Sq 81 [(1000,.box [.np 1000,.aN 1001] 99),(1001,w5 a0)] [.ptr 1000 0,.ik .u8 a1] (.eC r.1) [(1000,.box [.np 1000,.aN 2] 99),(2,w5 r.2),(1001,.aK)] [2]:=by
 refine so func81 ntmps81 fun b u=>?_;refine rB 1000 1 1001 320 ?_;refine S [3,3] ?_;refine cA (CF 1000 320) ?_;refine S [3] ?_;refine bS (ph .u8) [a1] ?_;refine A [] fun a h=>?_;refine aM a ?_;exact Sr [3,7] [(2,14)]
def uj{N a0 a1 r}(h:oA N a0 a1=some r):Sq 46 [(1000,.box [.np 1000,.aN 1001] 99),(1001,w5 a0)] [.ptr 1000 0,.str a1] (.aX []) [(1000,.box [.np 1000,.aN 2] 99),(2,w5 r),(1001,.aK)] [2]:=by
 refine so func46 ntmps46 fun c u=>?_;refine rB 1000 1 1001 320 ?_;refine B [15,3] fun _ a h=>?_;refine cA (((HN a).sw 1001 320).sw 2 501) ?_;refine B [5] fun _ b h=>?_;refine cA (((HO b).sw 1001 501).sw 2 502) ?_;exact Sr [14] [(2,502)]
def nn{N a0 a1 r}(h:Z6 N a0 a1=some r):Sq 45 [(1000,.box [.np 1000,.aN 1001] 99),(1001,w5 a0),(2000,GL)] [.ptr 1000 0,s3 a1] (.aX []) [(1000,.box [.np 1000,.aN 2] 99),(2,w5 r),(1001,.aK),(2000,GL)] [2]:=by
 refine so func45 ntmps45 fun o u=>?_;refine rB 1000 1 1001 320 ?_;refine S [15,3] ?_;refine F6 fun e=>?_;refine LR e0 u a0 (fun l k v=>lY N l k v) h (fun d v=>[(8,.int (d:Int))]) (fun d v=>[(320,w5 v)]) [0,6,7] [1000,1001,2000] [] nl (fun s=>[(320,w5 s)]) [0] [1000,1001,2000] ?_ ?_ ?_
 ·intro _ g d j h _;rw[lY] at h;exact Sj [3,2,4,0,20]
 ·intro _ g d j m i h _ a _;rw[lY] at h;refine S [3,2,4,0,1,2,6,3] ?_;refine H6 a ?_;refine B [5] fun _ b h=>?_;refine cA (vQ N _ _ b) ?_;refine B [] fun f c h=>?_;refine cA (((uj c).sw 1001 320).sw 2 501) ?_;refine S [5] ?_;refine IN (AN (G6 a e) ?_);exact le f [(320,501)]
 intro n h;exact Sr [14] [(2,320)]
def Hr{N a0 a1 r}(h:um N a0 a1=some r):Sq 47 [(1000,.box [.np 1000,.aN 1001] 99),(1001,w5 a0),(2000,GL)] [.ptr 1000 0,.fp (I4 a1)] (.aX []) [(1000,.box [.np 1000,.aN 2] 99),(2,w5 r),(1001,.aK),(2000,GL)] [2]:=by
 refine so func47 ntmps47 fun w u=>?_;refine rB 1000 1 1001 320 ?_;refine B [15,3] fun _ m h=>?_;refine cA (((uj m).sw 1001 320).sw 2 501) ?_;refine S [2] ?_;refine kd [0,1] [501,1000,1001,2000] ?_;refine S [8,13] ?_;refine bS bY [a1.args,a1.a8,a1.aS,(a1.code.length:Int)] ?_;refine B [] fun p n h=>?_;refine cF (((nn n).sw 1001 501).sw 2 502) ?_;refine kd [0,1] [502,1000,1001,2000] ?_;refine S [3] ?_;refine F6 fun j=>?_;refine LR e0 u p (fun l k v=>V6 N l k v) h (fun f v=>[(37,.int (f:Int))]) (fun f v=>[(502,w5 v)]) [0,35,36] [1000,1001,2000] [] nl (fun s=>[(502,w5 s)]) [0] [1000,1001,2000] ?_ ?_ ?_
 ·intro _ g f t h _;rw[V6] at h;exact Sj [3,2,4,0,20]
 ·intro _ g f t e i h _ b _;rw[V6] at h;refine S [3,2,4,0,1,2] ?_;refine J e0 u h nl (fun s=>[(504,w5 s),(1000,.box [.np 1000,.aN 504] 99)]) [0,35,36,37] [1001,2000] (fun _ h g=>?_) ?_
  ·refine S [6,3] ?_;refine H6 b ?_;refine S [3] ?_;refine bS bY [e.op,e.a] ?_;refine B [] fun _ c h=>?_;refine cF (((nn c).sw 1001 502).sw 2 503) ?_;refine I [3,4] ?_ ?_<;>intro _ h
   ·refine kd [0,5,35,36,37] [5,503,1000,1001,2000] ?_;refine B [5] fun _ d h=>?_;refine cA (((uj d).sw 1001 503).sw 2 504) ?_;exact je
   exact Sj [1] [(504,503)]
  intro o h;refine S [5] ?_;refine IN (AN (G6 b j) ?_);exact le o [(502,504)]
 intro q h;exact Sr [14] [(2,502)]
def KH{N a0 r}(h:tN N a0=some r):Sq 22 [(2000,GL)] [.agg (M3 a0)] (s5 r) [(2000,GL)] []:=by
 refine so func22 ntmps22 fun Γ u=>?_;refine S [3,3] ?_;refine j5.cU 13 [.np 13,.aI] rfl aT ?_;refine nB 13 1 501 1 5 ?_;refine kd [1,3] [1,13,501,2000] ?_;refine S [3,13] ?_;refine bS bY [a0.aC,(a0.a7.length:Int)] ?_;refine B [] fun Z L h=>?_;refine cF ((((nn L).sw 1000 13).sw 1001 501).sw 2 502) ?_;refine S [2,3] ?_;refine F6 fun K=>?_;refine LR e0 u Z (fun l k v=>mE N l k v) h (fun F v=>[(25,.int (F:Int))]) (fun F v=>[(502,w5 v)]) [1,3,23,24] [1,13,2000] [] nl (fun s=>[(502,w5 s)]) [1,3] [1,13,2000] ?_ ?_ ?_
 ·intro _ g F v6 h _;rw[mE] at h;exact Sj [3,2,4,0,20]
 ·intro _ g F v6 j G h _ d _;rw[mE] at h;refine S [3,2,4,0,1,2,6,3] ?_;refine H6 d ?_;refine B [3] fun _ t h=>?_;refine cA ((((uj t).sw 1000 13).sw 1001 502).sw 2 503) ?_;refine S [3,13] ?_;refine bS bY [j.aQ,j.aG,(j.aB.length:Int)] ?_;refine B [] fun M w h=>?_;refine cF ((((nn w).sw 1000 13).sw 1001 503).sw 2 504) ?_;refine kd [1,3,5,23,24,25] [1,5,13,504,2000] ?_;refine S [3] ?_;refine F6 fun o=>?_;refine LR e0 u M (fun l k v=>mF N l k v) h (fun a v=>[(46,.int (a:Int))]) (fun a v=>[(504,w5 v)]) [1,3,23,24,25,44,45] [1,13,2000] [] nl (fun s=>[(504,w5 s)]) [1,3,23,24,25] [1,13,2000] ?_ ?_ ?_
  ·intro _ g a T h _;rw[mF] at h;exact Sj [3,2,4,0,20]
  ·intro _ g a T x30 H h _ e _;rw[mF] at h;refine S [3,2,4,0,1,2,6,3] ?_;refine H6 e ?_;refine j5.gh (Gh.ao 7 7 rfl rfl rfl) (fun _=>?_);refine kd [1,3,7,23,24,25,44,45,46] [1,13,504,2000] ?_;refine B [5] fun O x h=>?_;refine cA ((((Hr x).sw 1000 13).sw 1001 504).sw 2 505) ?_;refine S [5] ?_;refine IN (AN (G6 e o) ?_);exact le O [(504,505)]
  intro U h;refine S [5] ?_;refine IN (AN (G6 d K) ?_);exact le U [(502,504)]
 intro v8 h;refine S [3,13] ?_;refine bS bY [(a0.heap.length:Int)] ?_;refine B [] fun P y h=>?_;refine cF ((((nn y).sw 1000 13).sw 1001 502).sw 2 506) ?_;refine S [2,3] ?_;refine F6 fun p=>?_;refine LR e0 u P (fun l k v=>lz N l k v) h (fun b v=>[(63,.int (b:Int))]) (fun b v=>[(506,w5 v)]) [3,61,62] [13,2000] [] nl (fun s=>[(506,w5 s)]) [3] [13,2000] ?_ ?_ ?_
 ·intro _ g b V h _;rw[lz] at h;exact Sj [3,2,4,0,20]
 ·intro _ g b V D I h _ f _;rw[lz] at h;refine S [3,2,4,0,1,2,6,3] ?_;refine H6 f ?_;refine S [3,13] ?_;refine bS bY [D.cls,(D.aG.length:Int)] ?_;refine B [] fun Q z h=>?_;refine cF ((((nn z).sw 1000 13).sw 1001 506).sw 2 507) ?_;refine S [3] ?_;refine F6 fun q=>?_;refine LR e0 u Q (fun l k v=>mC N l k v) h (fun c v=>[(78,.int (c:Int))]) (fun c v=>[(507,w5 v)]) [3,61,62,63,76,77] [13,2000] [] nl (fun s=>[(507,w5 s)]) [3,61,62,63] [13,2000] ?_ ?_ ?_
  ·intro _ g c X h _;rw[mC] at h;exact Sj [3,2,4,0,20]
  ·intro _ g c X E J h _ i _;rw[mC] at h;refine S [3,2,4,0,1,2,6,3] ?_;refine H6 i ?_;refine S [5] ?_;refine bS bY [E.k,E.n] ?_;refine B [] fun R C h=>?_;refine cF ((((nn C).sw 1000 13).sw 1001 507).sw 2 508) ?_;refine kd [3,61,62,63,76,77,78] [13,508,2000] ?_;refine S [5] ?_;refine IN (AN (G6 i q) ?_);exact le R [(507,508)]
  intro Y h;refine S [5] ?_;refine IN (AN (G6 f p) ?_);exact le Y [(506,507)]
 intro W h;refine A [3] fun m h=>?_;refine cA (Hc W 13 506 m) ?_;exact Sr [7]
def uk{N a0 r}(h:U8 N a0=some r):Sq 85 [(1000,.box (X6 a0) 107),(2000,GL)] [.ptr 1000 0] (.str r.1) [(1000,.box (X6 r.2) 107),(2000,GL)] []:=by
 refine so func85 ntmps85 fun c u=>?_;refine B [3,3] fun _ a h=>?_;refine cA (Jc N _ _ _ a) ?_;refine S [2,2] ?_;refine Jb 20 u h [0,3,4] [1000,2000] (fun _ h g=>?_) ?_
 ·exact E9 [5] [0] [0]
 intro b h;exact gI [4] [3,3,7] [1,3,3,7]
def M9{N a0 r}(h:u7 N a0=some r):Sq 83 [(1000,.box (X6 a0) 107),(2000,GL)] [.ptr 1000 0] (.int r.1) [(1000,.box (X6 r.2) 107),(2000,GL)] []:=by
 refine so func83 ntmps83 fun f u=>?_;refine B [3,3] fun _ a h=>?_;refine cA (uk a) ?_;refine B [3] fun _ b h=>?_;refine cA (strconv_Atoi_ok N _ _ b) ?_;refine S [2,2] ?_;refine Jb 20 u h [0,4] [1000,2000] (fun _ h g=>?_) ?_
 ·refine Ij [5,10] [0] fun _ h=>?_;refine B [0] fun _ c h=>?_;refine cA (vQ N _ _ c) ?_;exact Sj [0]
 intro e h;refine J e0 u h nl (fun s=>[(1000,.box (X6 s) 107)]) [0,4] [2000] (fun _ h g=>?_) ?_
 ·exact E9 [4] [5] [1]
 intro d h;exact Sr [3,7]
def rq{N a0 a1 r}(h:O3 N a0 a1=some r):Sq 84 [(1000,.box (X6 a0) 107),(2000,GL)] [.ptr 1000 0,.int a1] (.int r.1) [(1000,.box (X6 r.2) 107),(2000,GL)] []:=by
 refine so func84 ntmps84 fun c u=>?_;refine B [3,3] fun _ a h=>?_;refine cA (M9 a) ?_;refine S [2,2] ?_;refine Jb 14 u h [0,5] [1000,2000] (fun _ h g=>?_) ?_
 ·exact E9 [5] [0] [0]
 intro b h;exact gI [4] [3,3,7] [1,3,7]
def Hp{N a0 r}(h:qP N a0=some r):Sq 86 [(1000,.box (X6 a0) 107),(2000,GL)] [.ptr 1000 0] (.agg (I4 r.1)) [(1000,.box (X6 r.2) 107),(2000,GL)] []:=by
 refine so func86 ntmps86 fun G u=>?_;refine B [3,3] fun _ q h=>?_;refine cA (uk q) ?_;refine B [] fun _ t h=>?_;refine cA (M9 t) ?_;refine B [] fun _ w h=>?_;refine cA (M9 w) ?_;refine B [] fun _ x h=>?_;refine cA (M9 x) ?_;refine B [2,3] fun D i h=>?_;refine cA (rq i) ?_;refine nB 3 4 501 5 55 ?_;refine j5.bx 15 rfl (fun c=>?_);refine LU e0 u (D.2,([]:List Ins)) (fun l k v=>P9 N l k v.1 v.2) h (fun a v=>[(16,.int (a:Int))]) (fun a v=>[(501,dr v.2),(1000,.box (X6 v.1) 107)]) [0,2,3,15] [2,3,2000] [] nl (fun s=>[(501,dr s.2),(1000,.box (X6 s.1) 107)]) [0,2,3] [2,3,2000] ?_ ?_ ?_
 ·rintro _ g a ⟨y,o⟩ h _;rw[P9] at h;exact Sj [3,2,4,0,20]
 ·rintro _ g a ⟨y,o⟩ C h b _;rw[P9] at h;refine B [3,2,4,0,1,2,6,3] fun d j h=>?_;refine cA (M9 j) ?_;refine B [] fun e m h=>?_;refine cA (M9 m) ?_;refine S [2,3] ?_;refine J e0 u h nl (fun s=>[(4,.box [.int d.1,.int e.1,.int (0:Int),.int (0:Int),.str s.2] 55),(1000,.box (X6 s.1) 107)]) [0,2,3,4,15,16] [2,3,501,2000] (fun _ h g=>?_) ?_
  ·refine I [4] ?_ ?_<;>intro _ h
   ·refine B [5] fun _ n h=>?_;refine cA (uk n) ?_;exact je
   exact Sj [1]
  rintro⟨z,p⟩ h;refine S [5] ?_;refine bS bh [(⟨d.1,e.1,(0:Int),(0:Int),p⟩:Ins)] ?_;refine A [] fun f h=>?_;refine aM f ?_;refine S [5] ?_;refine IN (AN (fT b c) ?_);exact le (z,(o++[(⟨d.1,e.1,(0:Int),(0:Int),p⟩:Ins)])) [(501,33)]
 rintro⟨E,F⟩ h;refine S [3] ?_;refine j5.aY 501 rfl ?_;exact Sr [7]
def Ht{N a0 r}(h:uf N a0=some r):Sq 51 [(1000,.box (X6 a0) 107),(2000,GL)] [.ptr 1000 0] (.agg (M3 r.1)) [(1000,.box (X6 r.2) 107),(2000,GL)] []:=by
 refine so func51 ntmps51 fun Γ u=>?_;refine B [3,3] fun _ Z h=>?_;refine cA (M9 Z) ?_;refine B [2,3] fun r3 hr4 h=>?_;refine cA (rq hr4) ?_;refine nB 3 0 501 4 81 ?_;refine j5.bx 10 rfl (fun K=>?_);refine LU e0 u (r3.2,([]:List Cl)) (fun l k v=>R8 N l k v.1 v.2) h (fun Y v=>[(11,.int (Y:Int))]) (fun Y v=>[(501,lT v.2),(1000,.box (X6 v.1) 107)]) [0,2,3,10] [2,3,2000] [] nl (fun s=>[(501,lT s.2),(1000,.box (X6 s.1) 107)]) [0,2,3] [2,3,2000] ?_ ?_ ?_
 ·rintro _ g Y ⟨v6,v7⟩ h _;rw[R8] at h;exact Sj [3,2,4,0,20]
 ·rintro _ g Y ⟨v6,v7⟩ n15 h d _;rw[R8] at h;refine B [3,2,4,0,1,2,6,3] fun L y h=>?_;refine cA (uk y) ?_;refine B [] fun M z h=>?_;refine cA (M9 z) ?_;refine B [] fun O C h=>?_;refine cA (M9 C) ?_;refine B [2,3] fun r25 D h=>?_;refine cA (rq D) ?_;refine nB 4 3 502 5 27 ?_;refine j5.bx 21 rfl (fun j=>?_);refine LU e0 u (r25.2,([]:List Me)) (fun l k v=>M4 N l k v.1 v.2) h (fun a v=>[(22,.int (a:Int))]) (fun a v=>[(502,gH v.2),(1000,.box (X6 v.1) 107)]) [0,2,3,4,10,11,21] [2,3,4,501,2000] [] nl (fun s=>[(502,gH s.2),(1000,.box (X6 s.1) 107)]) [0,2,3,4,10,11] [2,3,4,501,2000] ?_ ?_ ?_
  ·rintro _ g a ⟨v28,R⟩ h _;rw[M4] at h;exact Sj [3,2,4,0,20]
  ·rintro _ g a ⟨v28,R⟩ n37 h e _;rw[M4] at h;refine B [3,2,4,0,1,2,6,8] fun o E h=>?_;refine cA (Hp E) ?_;refine bS I4 [o.1] ?_;refine A [] fun q h=>?_;refine aM q ?_;refine S [5] ?_;refine IN (AN (fT e j) ?_);exact le (o.2,(R++[o.1])) [(502,29)]
  rintro⟨v32,T⟩ h;refine S [5,12] ?_;refine bS eA [(⟨L.1,M.1,O.1,T⟩:Cl)] ?_;refine A [] fun t h=>?_;refine aM t ?_;refine S [5] ?_;refine IN (AN (fT d K) ?_);exact le (v32,(v7++[(⟨L.1,M.1,O.1,T⟩:Cl)])) [(501,36)]
 rintro⟨v10,v11⟩ h;refine B [2,3] fun r45 F h=>?_;refine cA (rq F) ?_;refine nB 3 1 503 2 92 ?_;refine j5.bx 40 rfl (fun m=>?_);refine LU e0 u (r45.2,([]:List Ob)) (fun l k v=>R6 N l k v.1 v.2) h (fun b v=>[(41,.int (b:Int))]) (fun b v=>[(503,xi v.2),(1000,.box (X6 v.1) 107)]) [0,2,3,40] [2,3,501,2000] [] nl (fun s=>[(503,xi s.2),(1000,.box (X6 s.1) 107)]) [0,2,3] [2,3,501,2000] ?_ ?_ ?_
 ·rintro _ g b ⟨v48,U⟩ h _;rw[R6] at h;exact Sj [3,2,4,0,20]
 ·rintro _ g b ⟨v48,U⟩ n57 h f _;rw[R6] at h;refine B [3,2,4,0,1,2,6,3] fun P G h=>?_;refine cA (M9 G) ?_;refine B [2,3] fun r63 H h=>?_;refine cA (rq H) ?_;refine nB 5 1 504 2 29 ?_;refine j5.bx 47 rfl (fun n=>?_);refine LU e0 u (r63.2,([]:List V)) (fun l k v=>M0 N l k v.1 v.2) h (fun c v=>[(48,.int (c:Int))]) (fun c v=>[(504,eS v.2),(1000,.box (X6 v.1) 107)]) [0,2,3,5,40,41,47] [2,3,5,501,503,2000] [] nl (fun s=>[(504,eS s.2),(1000,.box (X6 s.1) 107)]) [0,2,3,5,40,41] [2,3,5,501,503,2000] ?_ ?_ ?_
  ·rintro _ g c ⟨v66,W⟩ h _;rw[M0] at h;exact Sj [3,2,4,0,20]
  ·rintro _ g c ⟨v66,W⟩ n75 h i _;rw[M0] at h;refine B [3,2,4,0,1,2,6,8] fun Q I h=>?_;refine cA (M9 I) ?_;refine B [] fun p J h=>?_;refine cA (M9 J) ?_;refine bS eV [(⟨Q.1,p.1⟩:V)] ?_;refine A [] fun w h=>?_;refine aM w ?_;refine kd [0,2,3,5,40,41,47,48] [2,3,5,58,501,503,1000,2000] ?_;refine S [5] ?_;refine IN (AN (fT i n) ?_);exact le (p.2,(W++[(⟨Q.1,p.1⟩:V)])) [(504,58)]
  rintro⟨v70,X⟩ h;refine S [5,12] ?_;refine bS eQ [(⟨P.1,X⟩:Ob)] ?_;refine A [] fun x h=>?_;refine aM x ?_;refine S [5] ?_;refine IN (AN (fT f m) ?_);exact le (v70,(U++[(⟨P.1,X⟩:Ob)])) [(503,65)]
 rintro⟨v52,v53⟩ h;refine S [3] ?_;refine j5.aY 501 rfl ?_;refine j5.aY 503 rfl ?_;exact Sr [7]
def d42{N a0 a1 r}(h:sL N a0 a1=some r):Sp 38 [.fp (M3 a0),.fp (I4 a1)] (.bool r):=by
 refine so func38 ntmps38 fun e u=>?_;refine B [3,2,8] fun _ a h=>?_;refine cA (jy a) ?_;refine S [2] ?_;refine Jb 4 u h [] [] (fun _ h g=>?_) ?_
 ·refine kd [0,1,6] [] ?_;refine I [8] ?_ ?_<;>intro _ h
  ·refine B [0] fun _ b h=>?_;refine E5 b ?_;refine B [0] fun _ c h=>?_;refine E5 c ?_;refine I [0] ?_ ?_<;>intro _ h
   ·refine I [0] ?_ ?_<;>intro _ h
    ·exact E9 [0] [0,13,0] [0]
    exact Sj [0]
   exact Sj [0]
  exact Sj [0]
 intro d h;exact Sr [7]
def d86{N a0 r}(h:yb N a0=some r):Sp 40 [.fp (M3 a0)] (.int r):=by
 refine so func40 ntmps40 fun t u=>?_;refine S [3,2,3] ?_;refine F6 fun n=>?_;refine LR e1 u () (fun l k v=>od N a0 l k) h (fun j v=>[(13,.int (j:Int))]) (fun j v=>[]) [0,11,12] [] [] nl nl [] [] ?_ ?_ ?_
 ·intro _ g j _ h _;rw[od] at h;exact Sj [3,2,4,0,20]
 ·intro _ g j _ s o h _ i _;rw[od] at h;refine S [3,2,4,0,1,2,6,3] ?_;refine H6 i ?_;refine S [2,2] ?_;refine Jb 46 u h [0,4,11,12,13] [4] (fun _ h g=>?_) ?_
  ·refine kd [0,4,11,12,13] [4] ?_;refine I [8] ?_ ?_<;>intro _ h
   ·refine Ij [0] [0] fun _ h=>?_;refine Ij [0,13,0] [0] fun _ h=>?_;refine B [0,13,0] fun _ d h=>?_;refine cA (oP d) ?_;exact Sj [0]
   refine B [0,13] fun _ e h=>?_;refine cA (oP e) ?_;exact je
  intro p h;refine Ir [4] [3,7] fun _ h=>?_;refine S [1,3] ?_;refine F6 fun c=>?_;refine LR e1 u () (fun l k v=>oe N a0 l k) h (fun a v=>[(50,.int (a:Int))]) (fun a v=>[]) [0,11,12,13,48,49] [] [] nl nl [0,11,12,13] [] ?_ ?_ ?_
  ·intro _ g a _ h _;rw[oe] at h;exact Sj [3,2,4,0,20]
  ·intro _ g a _ q m h _ b _;rw[oe] at h;refine S [3,2,4,0,1,2,6,3] ?_;refine H6 b ?_;refine B [2,8,13] fun _ f h=>?_;refine cA (Cz f) ?_;refine kd [0,7,11,12,13,48,49,50] [] ?_;refine Ir [3,4] [3,7] fun _ h=>?_;refine S [1,5] ?_;refine IN (AN (G6 b c) ?_);exact le () []
  rintro⟨⟩ h;refine S [5] ?_;refine IN (AN (G6 i n) ?_);exact le () []
 rintro⟨⟩ h;exact Sr [3,7]
def KF{N a0 r}(h:tE N a0=some r):Sp 20 [.agg (M3 a0)] (.int r):=by
 refine so func20 ntmps20 fun U u=>?_;refine B [3,3] fun G F h=>?_;refine cA (DZ N _ F) ?_;refine S [2,2] ?_;refine Jb 31 u h [1,3] [1,3] (fun _ h g=>?_) ?_
 ·refine Ij [5,13,13] [0] fun _ h=>?_;exact E9 [0,13,0] [0] [0,13,0]
 intro T h;refine Ir [4] [3,7] fun _ h=>?_;refine S [1,2,2] ?_;refine Jb 39 u h [1,3] [1,3] (fun _ h g=>?_) ?_
 ·exact E9 [5] [0] [0]
 intro L h;refine Ir [4] [3,7] fun _ h=>?_;refine S [1,3,2,3] ?_;refine F6 fun o=>?_;refine LR e1 u ([]:(List (ByteArray×Bool))) (fun l k v=>oY N G l k v) h (fun b v=>[(44,.int (b:Int))]) (fun b v=>[(40,.bm (QK mj v))]) [1,3,4,42,43] [1,3] [] nl nl [1,3] [1,3] ?_ ?_ ?_
 ·intro _ g b z h _;rw[oY] at h;exact Sj [3,2,4,0,20]
 ·intro _ g b z H C h _ d _;rw[oY] at h;refine S [3,2,4,0,1,2,6,3] ?_;refine H6 d ?_;refine S [2,2] ?_;refine Jb 76 u h [1,3,4,5,6,42,43,44] [1,3,6,40] (fun _ h g=>?_) ?_
  ·refine kd [1,3,4,5,6,42,43,44] [1,3,6,40] ?_;refine B [8] fun _ s h=>?_;refine cA (sV s) ?_;refine Ij [] [0] fun _ h=>?_;refine S [0] ?_;refine PA rfl rfl rfl rfl ?_;refine Ij [0] [0] fun _ h=>?_;refine I [0,13,0] ?_ ?_<;>intro _ h
   ·refine B [0] fun _ w h=>?_;refine E5 w ?_;exact Sj [0]
   exact Sj [0]
  intro M h;refine Ir [4] [3,7] fun _ h=>?_;refine A [1,3] fun n h=>?_;refine PY rfl rfl n ?_;refine S [2] ?_;refine Jb 138 u h [1,3,4,42,43,44] [1,3,40] (fun _ h g=>?_) ?_
  ·refine kd [1,3,4,5,6,42,43,44] [1,3,6,40] ?_;refine I [8,13] ?_ ?_<;>intro _ h
   ·refine B [0] fun _ x h=>?_;refine E5 x ?_;refine Ij [0] [0] fun _ h=>?_;refine Ij [0] [0] fun _ h=>?_;refine I [0,13,0] ?_ ?_<;>intro _ h
    ·refine Ij [0] [0] fun _ h=>?_;refine Ij [0] [0] fun _ h=>?_;refine I [0] ?_ ?_<;>intro _ h
     ·refine Ij [0] [0] fun _ h=>?_;exact E9 [0] [0] [0]
     exact E9 [0] [0] [0]
    exact E9 [0] [0] [0]
   refine I [0,13] ?_ ?_<;>intro _ h
   ·refine Ij [0] [0] fun _ h=>?_;refine Ij [0] [0] fun _ h=>?_;refine I [0] ?_ ?_<;>intro _ h
    ·refine Ij [0] [0] fun _ h=>?_;exact E9 [0] [0] [0]
    exact E9 [0] [0] [0]
   exact E9 [0] [0] [0]
  intro O h;refine Ir [4] [3,7] fun _ h=>?_;refine S [1,5] ?_;refine IN (AN (G6 d o) ?_);exact le (ec H.name true z) []
 rintro⟨⟩ h;refine S [2,3] ?_;refine F6 fun p=>?_;refine j5.gh (Gh.ao 3 3 rfl rfl rfl) (fun _=>?_);refine LR e1 u () (fun l k v=>oV N a0 G l k) h (fun a v=>[(143,.int (a:Int))]) (fun a v=>[]) [1,3,141,142] [1] [] nl nl [1] [1] ?_ ?_ ?_
 ·intro _ g a _ h _;rw[oV] at h;exact Sj [3,2,4,0,20]
 ·intro _ g a _ K D h _ e _;rw[oV] at h;refine S [3,2,4,0,1,2,6,3] ?_;refine H6 e ?_;refine B [2,3] fun _ t h=>?_;refine cA (oP t) ?_;refine Ir [4] [3,7] fun _ h=>?_;refine I [1,2,3,13,4] ?_ ?_<;>intro _ h
  ·refine kd [] [] ?_;exact Sr [3,7]
  refine S [1] ?_;refine kd [1,3,7,8,141,142,143] [1,8] ?_;refine S [3] ?_;refine F6 fun q=>?_;refine LR e1 u () (fun l k v=>oZ N a0 G a K l k) h (fun c v=>[(159,.int (c:Int))]) (fun c v=>[]) [1,3,7,8,141,142,143,157,158] [1,8] [] nl nl [1,3,141,142,143] [1] ?_ ?_ ?_
  ·intro _ g c _ h _;rw[oZ] at h;exact Sj [3,2,4,0,20]
  ·intro _ g c _ R E h _ f _;rw[oZ] at h;refine S [3,2,4,0,1,2] ?_;refine J e1 u h nl nl [1,3,7,8,141,142,143,157,158,159] [1,8] (fun _ h g=>?_) ?_
   ·refine S [6,3] ?_;refine H6 f ?_;refine S [2,2] ?_;refine Jb 177 u h [1,3,7,8,10,141,142,143,157,158,159] [1,8,10] (fun _ h g=>?_) ?_
    ·refine I [8] ?_ ?_<;>intro _ h
     ·refine B [0,12,0] fun _ y h=>?_;refine E5 y ?_;exact Sj [0]
     exact Sj [0]
    intro P h;refine Ir [4] [3,7] fun _ h=>?_;refine S [1,2,2] ?_;refine j5.gh (Gh.ao 10 10 rfl rfl rfl) (fun _=>?_);refine Jb 187 u h [1,3,7,8,10,141,142,143,157,158,159] [1,8] (fun _ h g=>?_) ?_
    ·refine I [5] ?_ ?_<;>intro _ h
     ·refine I [0] ?_ ?_<;>intro _ h
      ·refine B [] fun _ i h=>?_;refine cA (d42 i) ?_;exact Sj [0]
      exact Sj [0]
     exact Sj [0]
    intro Q h;refine Ij [4] [20] fun _ h=>?_;refine B [1,3] fun _ j h=>?_;refine cA (D4 j) ?_;refine kd [1,3,7,8,11,141,142,143,157,158,159] [1,8,11] ?_;refine Ir [3,4] [3,7] fun _ h=>?_;exact Sj [1]
   rintro⟨⟩ h;refine S [5] ?_;refine IN (AN (G6 f q) ?_);exact le () []
  rintro⟨⟩ h;refine S [5] ?_;refine IN (AN (G6 e p) ?_);exact le () []
 rintro⟨⟩ h;refine j5.gh (Gh.ao 1 1 rfl rfl rfl) (fun _=>?_);refine kd [1] [] ?_;refine B [3] fun _ m h=>?_;refine cA (d86 m) ?_;exact Sr [7]
def K4{N a0 r}(h:kl N a0=some r):Sq 24 [(2000,GL)] [s5 a0] (.aX [.agg (M3 r.1),.int r.2]) [(2000,GL)] []:=by
 refine so func24 ntmps24 fun d u=>?_;refine S [3,3] ?_;refine Exists.intro a0 (AN rfl ?_);refine B [3] fun _ a h=>?_;refine cA ((Ht a).sw 1000 10) ?_;refine S [2,2] ?_;refine Jb 24 u h [2,5] [2,5,2000] (fun _ h g=>?_) ?_
 ·exact E9 [5] [0] [0]
 intro c h;refine Ir [4] [3,7] fun _ h=>?_;refine B [1,2,3] fun _ b h=>?_;refine cA (KF b) ?_;exact gI [3,4] [3,7] [1,3,7]
def Iw{N a0 r}(h:vf N a0=some r):Sq 68 [(1000,.box (M8 a0) 45),(2000,GL)] [.ptr 1000 0] (.agg (gp r.1)) [(1000,.box (M8 r.2) 45),(2000,GL)] []:=by
 refine so func68 ntmps68 fun b u=>?_;refine Ir [3,2,3,13,4] [3,7] fun _ h=>?_;refine B [1,3] fun _ a h=>?_;refine cA (K4 a) ?_;refine S [2] ?_;refine kd [0,2,3,4] [2,3,1000,2000] ?_;refine Ir [3,4] [3,7] fun _ h=>?_;refine S [1,2,8,12,3] ?_;refine kd [0,2] [2,1000,2000] ?_;exact Sr [3,7]
def IM{N a0 a1 r}(h:ql N a0 a1=some r):Sq 33 [(2000,GL)] [.agg (M8 a0),.agg (u9 a1)] (.aX [.agg (M8 r.1),.agg (gp r.2)]) [(2000,GL)] []:=by
 refine so func33 ntmps33 fun k u=>?_;refine B [3,3] fun _ e h=>?_;refine cA (D3 e) ?_;refine I [2,3,6,3,4] ?_ ?_<;>intro _ h
 ·refine B [3] fun _ f h=>?_;refine cA (KD f) ?_;refine S [2] ?_;refine kd [4,5,6,7,8,9] [4,5,6,7,2000] ?_;exact gI [3,4] [3,7] [1,3,3,7]
 refine I [3,4] ?_ ?_<;>intro _ h
 ·refine B [3] fun _ i h=>?_;refine cA ((He i).sw 1000 6) ?_;refine S [2] ?_;refine kd [4,5,6,10] [4,5,6,10,2000] ?_;exact Sr [8,7]
 refine I [3,4] ?_ ?_<;>intro _ h
 ·refine kd [3,4,5,6] [3,4,5,6,2000] ?_;refine B [3] fun _ a h=>?_;refine cA ((Iu a).sw 1000 6) ?_;exact Sr [2,8,7]
 refine S [2] ?_;refine kd [2,3,4,5,6,17] [2,3,4,5,6,2000] ?_;refine S [3] ?_;refine Jb 59 u h [2,3,4,5,6,17] [2,3,4,5,6,2000] (fun _ h g=>?_) ?_
 ·refine Ij [4] [1] fun _ h=>?_;exact E9 [3,4] [1] [5]
 intro j h;refine I [4] ?_ ?_<;>intro _ h
 ·refine B [3] fun _ b h=>?_;refine cA ((JB b).sw 1000 6) ?_;exact Sr [2,8,7]
 refine I [3,4] ?_ ?_<;>intro _ h
 ·refine B [3] fun _ c h=>?_;refine cA (KH c) ?_;exact Sr [2,8,13,7]
 refine I [3,4] ?_ ?_<;>intro _ h
 ·refine B [3] fun _ d h=>?_;refine cA ((Iw d).sw 1000 6) ?_;exact Sr [2,8,7]
 exact Sr [1,3,7]
def JH{N a0 r}(h:qd N a0=some r):Sq 17 [(2000,GL)] [BT a0] (.aX [.agg (M8 r.1),.aN 0,.int r.2.2]) [(0,rb r.2.1),(2000,GL)] [0]:=by
 refine so func17 ntmps17 fun w u=>?_;refine I [3,2,3,13,4] ?_ ?_<;>intro _ h
 ·refine S [3] ?_;refine nR 3 203 4 51 ?_;exact Sr [7] [(0,203)]
 refine B [1,3] fun n j h=>?_;refine cA (Cx j) ?_;refine S [3,2,3] ?_;refine F6 fun i=>?_;refine nR 6 206 4 51 ?_;refine LR e0 u (n,([]:List ch)) (fun l k v=>oC N l k v.1 v.2) h (fun e v=>[(18,.int (e:Int))]) (fun e v=>[(5,.box (M8 v.1) 45),(206,rb v.2)]) [2,5,6,16,17] [2,2000] [] nl (fun s=>[(5,.box (M8 s.1) 45),(206,rb s.2)]) [2,5,6] [2,2000] ?_ ?_ ?_
 ·rintro _ g e ⟨q,m⟩ h _;rw[oC] at h;exact Sj [3,2,4,0,20]
 ·rintro _ g e ⟨q,m⟩ t f h _ a _;rw[oC] at h;refine S [3,2,4,0,1,2,6,3] ?_;refine H6 a ?_;refine B [3] fun b d h=>?_;refine cA (IM d) ?_;refine kd [2,5,6,9,10,16,17,18] [2,5,9,10,206,2000] ?_;refine S [3,5] ?_;refine bS gp [b.2] ?_;refine A [] fun c h=>?_;refine aM c ?_;refine S [5] ?_;refine IN (AN (G6 a i) ?_);exact le (b.1,(m++[b.2])) [(206,32)]
 rintro⟨o,p⟩ h;exact Sr [3,7] [(0,206)]
def sP{N a0 r}(h:mL N a0=some r):Sp 41 [.str a0] (.bool r):=by
 refine so func41 ntmps41 fun j u=>?_;refine S [3,2,3,18] ?_;refine j5.bx 5 rfl (fun b=>?_);refine LU e1 u () (fun l k v=>oM N a0 l k) h (fun e v=>[(6,.int (e:Int))]) (fun e v=>[]) [0,5] [] [] nl nl [0] [] ?_ ?_ ?_
 ·intro _ g e _ h _;rw[oM] at h;exact Sj [3,2,4,0,20]
 ·intro _ g e _ n6 h a _;rw[oM] at h;refine S [3,2,4,0,1,2,6,3,2] ?_;refine Jb 18 u h [0,5,6] [] (fun _ h g=>?_) ?_
  ·refine B [5] fun _ c h=>?_;refine tS c ?_;refine Ij [10] [0] fun _ h=>?_;refine B [0] fun _ d h=>?_;refine tS d ?_;exact Sj [0,10,0]
  intro f h;refine Ir [4] [3,7] fun _ h=>?_;refine S [1,5] ?_;refine IN (AN (fT a b) ?_);exact le () []
 rintro⟨⟩ h;refine S [2] ?_;refine Jb 2 u h [] [] (fun _ h g=>?_) ?_
 ·exact E9 [5,18] [0,18,0] [0]
 intro i h;exact Sr [7]
def DV{N a0 a1 r}(h:tL N a0 a1=some r):Sq 77 [] [.agg (M3 a0),.int a1] (.aN 0) [(0,w3 r)] [0]:=by
 refine so func77 ntmps77 fun k u=>?_;refine S [3,3,2] ?_;refine nR 5 205 1 3 ?_;refine LF e0 u (a1,([]:List Int)) (fun l v=>qU N a0 l v.1 v.2) h (fun v=>[(1,.int v.1)]) (fun v=>[(205,w3 v.2)]) [2,5] [2] [] nl (fun s=>[(205,w3 s)]) [5] [] ?_ ?_
 ·rintro _ g ⟨d,i⟩ e h;rw[qU] at h;refine S [2,2] ?_;refine Jb 22 u h [1,2,5] [2,205] (fun _ h g=>?_) ?_
  ·refine I [5] ?_ ?_<;>intro _ h
   ·exact E9 [0,13,0] [0,13,0,13,0] [0]
   exact Sj [0]
  intro f h;refine I [4] ?_ ?_<;>intro _ h
  ·refine S [1,6,3] ?_;refine bS bY [d] ?_;refine A [] fun a h=>?_;refine aM a ?_;refine B [5] fun c b h=>?_;refine E5 b ?_;exact le (c.aQ,(i++[d])) [(205,26)]
  exact Sj [20]
 intro j h;exact Sr [3,7] [(0,205)]
def oG{N a0 a1 r}(h:jJ N a0 a1=some r):Sp 42 [.agg (M3 a0),.int a1] (.int r):=by
 refine so func42 ntmps42 fun q u=>?_;refine B [3,3,2,3] fun n f h=>?_;refine cA ((DV f).sw 0 10) ?_;refine F6 fun e=>?_;refine LR e0 u (0:Int) (fun l k v=>oE N a0 n l k v) h (fun d v=>[(5,.int v),(12,.int (d:Int))]) (fun d v=>[]) [2,10,11] [2,10] [] (fun s=>[(5,.int s)]) nl [] [] ?_ ?_ ?_
 ·intro _ g d m h _;rw[oE] at h;exact Sj [3,2,4,0,20]
 ·intro _ g d m o i h _ b _;rw[oE] at h;refine B [3,2,4,0,1,2,6,3] fun _ a h=>?_;refine R7 a ?_;refine Q9 (l6 a).2 ?_;refine B [5] fun j c h=>?_;refine E5 c ?_;refine S [12] ?_;refine kd [2,5,10,11,12] [2,10] ?_;refine S [5] ?_;refine IN (AN (G6 b e) ?_);exact le (wr (m+j.aG)) []
 intro p h;exact Sr [3,7]
def HZ{N a0 a1 a2 a3 r}(h:M5 N a0 a1 a2 a3=some r):Sp 78 [.agg (M3 a0),.int a1,.agg (I4 a2),.agg (bh a3)] (.int r):=by
 refine so func78 ntmps78 fun n u=>?_;refine S [3,3,2,3] ?_;refine J e1 u h (fun s=>[(9,.int s.1),(10,.int s.2)]) nl [7] [7] (fun _ h g=>?_) ?_
 ·refine S [6,2,3] ?_;refine Jb 13 u h [1,4,6,7,9,10,12] [4,6,7] (fun _ h g=>?_) ?_
  ·refine Ij [4] [1] fun _ h=>?_;refine Ij [3,4] [1] fun _ h=>?_;refine Ij [3,4] [1] fun _ h=>?_;refine Ij [3,4] [1] fun _ h=>?_;refine kd [1,4,6,7,9,10,12] [4,6,7] ?_;refine Ij [3,4] [1] fun _ h=>?_;exact E9 [3,4] [1] [5]
  intro m h;refine Ij [4] [1] fun _ h=>?_;refine Ij [3,4] [5,12] fun _ h=>?_;refine S [2,3] ?_;refine Jb 26 u h [1,4,6,7,9,12] [4,6,7] (fun _ h g=>?_) ?_
  ·exact E9 [4] [1] [5]
  intro c h;refine Ij [4] [5,12] fun _ h=>?_;refine S [2,3] ?_;refine Jb 32 u h [1,4,6,7,9,12] [4,6,7] (fun _ h g=>?_) ?_
  ·exact E9 [4] [1] [5]
  intro d h;refine I [4] ?_ ?_<;>intro _ h
  ·refine B [5] fun _ a h=>?_;refine cA (oG a) ?_;exact Sj [12]
  refine Ij [3,4] [5] fun _ h=>?_;refine I [3,4] ?_ ?_<;>intro _ h
  ·refine S [3,13,12,2] ?_;refine Jb 54 u h [7,9,10] [7] (fun _ h g=>?_) ?_
   ·exact E9 [5] [0] [0]
   intro e h;refine Ir [4] [3,7] fun _ h=>?_;exact Sj [1]
  refine Ij [3,4] [5] fun _ h=>?_;refine S [2,3] ?_;refine Jb 57 u h [6,7,9] [6,7] (fun _ h g=>?_) ?_
  ·exact E9 [4] [1] [5]
  intro f h;refine Ij [4] [5,13,12] fun _ h=>?_;exact Sr [3,7]
 rintro⟨k,l⟩ h;refine S [2,2] ?_;refine Jb 73 u h [7] [7] (fun _ h g=>?_) ?_
 ·exact E9 [5] [0] [0]
 intro i h;refine Ir [4] [3,7] fun _ h=>?_;refine S [1,2,2] ?_;refine Jb 102 u h [] [] (fun _ h g=>?_) ?_
 ·refine I [5] ?_ ?_<;>intro _ h
  ·refine B [0] fun _ b h=>?_;refine cA (sP b) ?_;refine Ij [0] [0] fun _ h=>?_;refine I [0] ?_ ?_<;>intro _ h
   ·refine Ij [0] [0] fun _ h=>?_;exact E9 [0] [0] [0]
   exact E9 [0] [0] [0]
  refine I [0] ?_ ?_<;>intro _ h
  ·refine Ij [0] [0] fun _ h=>?_;exact E9 [0] [0] [0]
  exact E9 [0] [0] [0]
 intro j h;exact gI [4] [3,7] [1,3,7]
def Ji{N a0 a1 r}(h:wB N a0 a1=some r):Sq 109 [] [.agg (bh a0),.int a1] (.aX [.int r.1,.int r.2.1,.aN 0]) [(0,w3 r.2.2)] [0]:=by
 refine so func109 ntmps109 fun d u=>?_;refine S [3,2,3,6,2,3] ?_;refine Jb 9 u h [1,2,8] [2] (fun _ h g=>?_) ?_
 ·refine Ij [4] [1] fun _ h=>?_;exact E9 [3,4] [1] [5]
 intro c h;refine I [4] ?_ ?_<;>intro _ h
 ·refine S [3,12] ?_;refine bS bY [(wr (a1+(1:Int)))] ?_;exact Sr [7] [(0,15)]
 refine I [3,4] ?_ ?_<;>intro _ h
 ·refine S [3,12] ?_;refine bS bY [(wr (a1+(1:Int)))] ?_;exact Sr [7] [(0,20)]
 refine I [3,4] ?_ ?_<;>intro _ h
 ·refine A [2,8,12] fun b h=>?_;refine iQ b ?_;refine S [12] ?_;refine bS bY [(wr (a1+(1:Int)))] ?_;exact Sr [7] [(0,31)]
 refine I [3,4] ?_ ?_<;>intro _ h
 ·refine S [2,8] ?_;refine bS bY [a0.a] ?_;exact Sr [7] [(0,36)]
 refine I [3,4] ?_ ?_<;>intro _ h
 ·refine S [2,8,12] ?_;refine bS bY [(wr (a1+(1:Int))),a0.a] ?_;exact Sr [7] [(0,43)]
 refine I [3,4] ?_ ?_<;>intro _ h
 ·refine S [3] ?_;refine nR 6 206 1 3 ?_;exact Sr [7] [(0,206)]
 refine S [1,3,12] ?_;refine bS bY [(wr (a1+(1:Int)))] ?_;exact Sr [7] [(0,48)]
def HY{N a0 r}(h:sS N a0=some r):Sq 79 [] [.agg (I4 a0)] (.aX [.aN 0,.agg (wL r.2)]) [(0,w3 r.1)] [0]:=by
 refine so func79 ntmps79 fun Γ u=>?_;refine A [3,3,13] fun L h=>?_;refine j8 (enc:=bY) (x:=(0:Int)) L aT ?_;refine S [2,3,13] ?_;refine j5.bx 21 rfl (fun y=>?_);refine LU e0 u (QH (a0.code.length:Int).toNat (0:Int)) (fun l k v=>lb N l k v) h (fun E v=>[(22,.int (E:Int))]) (fun E v=>[(19,w3 v)]) [1,3,4,21] [1,3] [] nl (fun s=>[(19,w3 s)]) [1,3,4] [1,3] ?_ ?_ ?_
 ·intro _ g E U h _;rw[lb] at h;exact Sj [3,2,4,0,20]
 ·intro _ g E U V h n _;rw[lb] at h;refine B [3,2,4,0,1,2,6,3,5] fun _ c h=>?_;refine R7 c ?_;refine sM (l6 c).2 (-1:Int) ?_;refine S [5] ?_;refine IN (AN (fT n y) ?_);exact le (U.set ((E:Int).toNat) (-1:Int)) []
 intro v7 h;refine S [3] ?_;refine bS bY [(0:Int)] ?_;refine bS bY [(0:Int)] ?_;refine S [2,3] ?_;refine LF e1 u (v7,[(0:Int)],[(0:Int)],(0:Int)) (fun l v=>nu N a0 l v.1 v.2.1 v.2.2.1 v.2.2.2) h (fun v=>[(8,.int v.2.2.2)]) (fun v=>[(19,w3 v.1),(29,w3 v.2.1),(30,w3 v.2.2.1)]) [1,3,4,6,7] [1,3] [] nl (fun s=>[(19,w3 s)]) [3,4] [3] ?_ ?_
 ·rintro _ g ⟨X,M,O,P⟩ W h;rw[nu] at h;refine I [2,3,13,4] ?_ ?_<;>intro _ h
  ·refine S [1,2] ?_;refine J e1 u h nl (fun s=>[(19,w3 s.1),(29,w3 s.2.1),(30,w3 s.2.2)]) [1,3,4,6,7,8] [1,3] (fun _ h g=>?_) ?_
   ·refine B [6,2,8] fun _ d h=>?_;refine R7 d ?_;refine Q9 (l6 d).2 ?_;refine B [] fun b e h=>?_;refine R7 e ?_;refine Q9 (l6 e).2 ?_;refine S [2,2] ?_;refine Jb 53 u h [1,3,4,6,7,8,9,10] [1,3,19,29,30] (fun _ h g=>?_) ?_
    ·refine kd [1,3,4,6,7,8,9,10] [1,3,19,29,30] ?_;exact E9 [5,13] [0] [0]
    intro Z h;refine I [4] ?_ ?_<;>intro _ h
    ·refine S [2,8,13] ?_;refine nR 2 202 1 3 ?_;exact Sr [7] [(0,202)]
    refine B [1,2,3] fun _ f h=>?_;refine R7 f ?_;refine Q9 (l6 f).2 ?_;refine I [4] ?_ ?_<;>intro _ h
    ·refine B [2,3] fun _ i h=>?_;refine R7 i ?_;refine Q9 (l6 i).2 ?_;refine I [4] ?_ ?_<;>intro _ h
     ·refine kd [3,9] [3] ?_;refine S [3] ?_;refine nR 2 202 1 3 ?_;exact Sr [7] [(0,202)]
     exact Sj [1,20]
    refine B [1,3] fun _ j h=>?_;refine R7 j ?_;refine sM (l6 j).2 b ?_;refine kd [1,3,4,6,7,8,9,10] [1,3,19,29,30] ?_;refine B [3] fun _ z h=>?_;refine E5 z ?_;refine B [] fun o w h=>?_;refine cA ((Ji w).sw 0 82) ?_;refine S [2,2] ?_;refine Jb 101 u h [1,3,4,6,7,8,9,10,12,13] [1,3,19,29,30,82] (fun _ h g=>?_) ?_
    ·refine kd [1,3,4,6,7,8,9,10,11,12,13] [1,3,19,29,30,82] ?_;refine Ij [5] [0] fun _ h=>?_;refine B [0] fun _ C h=>?_;refine E5 C ?_;exact E9 [0] [0] [0]
    intro v59 h;refine I [4] ?_ ?_<;>intro _ h
    ·refine S [3] ?_;refine nR 2 202 1 3 ?_;exact Sr [7] [(0,202)]
    refine I [1,2,3,12,4] ?_ ?_<;>intro _ h
    ·refine S [3] ?_;refine nR 2 202 1 3 ?_;exact Sr [7] [(0,202)]
    refine S [1,3] ?_;refine F6 fun t=>?_;refine LR e0 u (M,O) (fun l k v=>lZ N b o l k v.1 v.2) h (fun a v=>[(112,.int (a:Int))]) (fun a v=>[(29,w3 v.1),(30,w3 v.2)]) [1,3,4,6,7,8,10,12,110,111] [1,3,19,82] [] nl (fun s=>[(29,w3 s.1),(30,w3 s.2)]) [1,3,4,6,7,8] [1,3,19] ?_ ?_ ?_
    ·rintro _ g a ⟨F,G⟩ h _;rw[lZ] at h;exact Sj [3,2,4,0,20]
    ·rintro _ g a ⟨F,G⟩ x79 K h _ D _;rw[lZ] at h;refine B [3,2,4,0,1,2,6,3] fun H m h=>?_;refine R7 m ?_;refine Q9 (l6 m).2 ?_;refine S [5] ?_;refine bS bY [H] ?_;refine A [] fun p h=>?_;refine aM p ?_;refine S [12] ?_;refine bS bY [(wr (b+o.2.1))] ?_;refine A [] fun q h=>?_;refine aM q ?_;refine kd [1,3,4,6,7,8,10,12,110,111,112] [1,3,19,82,119,125] ?_;refine S [5] ?_;refine IN (AN (G6 D t) ?_);exact le ((F++[H]),(G++[(wr (b+o.2.1))])) [(29,119),(30,125)]
    rintro⟨v73,v74⟩ h;exact je
   rintro⟨Q,R,T⟩ h;refine S [5,12] ?_;exact le (Q,R,T,(wr (P+(1:Int)))) []
  exact Sj [20]
 intro Y h;exact Sr [3,7] [(0,19)]
def Ci{N a0 a1 a2 r}(h:jI N a0 a1 a2=some r):Sp 43 [.agg (M3 a0),.int a1,.agg (I4 a2)] (.agg (wL r)):=by
 refine so func43 ntmps43 fun p u=>?_;refine S [3,2,2] ?_;refine Jb 20 u h [1,3,5,6] [3,5,6] (fun _ h g=>?_) ?_
 ·exact E9 [5] [0] [0,13,0]
 intro n h;refine Ir [4] [3,7] fun _ h=>?_;refine B [1,2,3] fun _ i h=>?_;refine cA (sP i) ?_;refine Ir [4] [3,7] fun _ h=>?_;refine S [1,2,2] ?_;refine Jb 44 u h [1,3,5,6] [3,5,6] (fun _ h g=>?_) ?_
 ·refine Ij [5] [0] fun _ h=>?_;refine Ij [0] [0] fun _ h=>?_;exact E9 [0] [0] [0]
 intro o h;refine Ir [4] [3,7] fun _ h=>?_;refine Ir [1,2,3,4] [3,7] fun _ h=>?_;refine S [1,2,2] ?_;refine Jb 59 u h [1,3,5,6] [3,5,6] (fun _ h g=>?_) ?_
 ·exact E9 [5,13] [0] [0,13,0]
 intro j h;refine Ir [4] [3,7] fun _ h=>?_;refine S [1,2,3] ?_;refine F6 fun c=>?_;refine LR e1 u () (fun l k v=>U5 N a0 a1 a2 l k) h (fun a v=>[(64,.int (a:Int))]) (fun a v=>[]) [1,3,5,6,62,63] [3,5,6] [] nl nl [5,6] [5,6] ?_ ?_ ?_
 ·intro _ g a _ h _;rw[U5] at h;exact Sj [3,2,4,0,20]
 ·intro _ g a _ m f h _ b _;rw[U5] at h;refine S [3,2,4,0,1,2,6,3] ?_;refine H6 b ?_;refine B [3] fun _ d h=>?_;refine cA (HZ d) ?_;refine kd [1,3,5,6,7,9,62,63,64] [3,5,6] ?_;refine Ir [3,4] [3,7] fun _ h=>?_;refine S [1,5] ?_;refine IN (AN (G6 b c) ?_);exact le () []
 rintro⟨⟩ h;refine B [3] fun _ e h=>?_;refine cA ((HY e).sw 0 82) ?_;exact Sr [3,7]
def yQ{N a0 a1 r}(h:qX N a0 a1=some r):Sp 44 [.agg (eV a0),.int a1] (.int r):=by
 refine so func44 ntmps44 fun e u=>?_;refine S [3,2,2] ?_;refine Jb 12 u h [1,2] [2] (fun _ h g=>?_) ?_
 ·exact E9 [5] [0] [0]
 intro b h;refine Ir [4] [3,7] fun _ h=>?_;refine S [1,2,2] ?_;refine Jb 20 u h [1,2] [2] (fun _ h g=>?_) ?_
 ·exact E9 [5] [0] [0]
 intro c h;refine Ir [4] [3,7] fun _ h=>?_;refine S [1,2,2] ?_;refine Jb 33 u h [1,2] [2] (fun _ h g=>?_) ?_
 ·refine I [5] ?_ ?_<;>intro _ h
  ·exact E9 [0] [0] [0]
  exact Sj [0]
 intro d h;refine Ir [4] [3,7] fun _ h=>?_;refine S [1,2,2] ?_;refine Jb 47 u h [] [] (fun _ h g=>?_) ?_
 ·refine I [5] ?_ ?_<;>intro _ h
  ·exact E9 [0] [0] [0]
  exact Sj [0]
 intro a h;exact gI [4] [3,7] [1,3,7]
def Ip{N a0 r}(h:k6 N a0=some r):Sp 21 [.agg (M3 a0)] (.int r):=by
 refine so func21 ntmps21 fun Γ u=>?_;refine B [3,3] fun r1 hr2 h=>?_;refine cA (xy N _ hr2) ?_;refine S [2,2] ?_;refine Jb 39 u h [1,3] [1,3] (fun _ h g=>?_) ?_
 ·refine Ij [5,13] [0] fun _ h=>?_;exact E9 [0,13,0] [0] [0,13,0]
 intro v3 h;refine Ir [4] [3,7] fun _ h=>?_;refine S [1,2,2] ?_;refine Jb 47 u h [1,3] [1,3] (fun _ h g=>?_) ?_
 ·exact E9 [5] [0] [0]
 intro v11 h;refine Ir [4] [3,7] fun _ h=>?_;refine S [1,2,3] ?_;refine F6 fun F=>?_;refine LR e1 u () (fun l k v=>Q0 N a0 r1 l k) h (fun i v=>[(51,.int (i:Int))]) (fun i v=>[]) [1,3,49,50] [1,3] [] nl nl [1,3] [1,3] ?_ ?_ ?_
 ·intro _ g i _ h _;rw[Q0] at h;exact Sj [3,2,4,0,20]
 ·intro _ g i _ x21 X h _ o _;rw[Q0] at h;refine S [3,2,4,0,1,2,6,3] ?_;refine H6 o ?_;refine S [2,2] ?_;refine Jb 74 u h [1,3,4,5,49,50,51] [1,3,5] (fun _ h g=>?_) ?_
  ·refine kd [1,3,4,5,49,50,51] [1,3,5] ?_;refine B [8] fun _ M h=>?_;refine cA (sP M) ?_;refine Ij [] [0] fun _ h=>?_;refine I [0] ?_ ?_<;>intro _ h
   ·refine B [0] fun _ P h=>?_;refine E5 P ?_;exact Sj [0]
   exact Sj [0]
  intro v24 h;refine Ir [4] [3,7] fun _ h=>?_;refine A [1,2,3] fun E h=>?_;refine j7 E rfl rfl ?_;refine F6 fun G=>?_;refine LR e1 u () (fun l k v=>U4 N x21 l k) h (fun j v=>[(80,.int (j:Int))]) (fun j v=>[]) [1,3,4,5,49,50,51,78,79] [1,3,5] [] nl nl [1,3,4,5,49,50,51] [1,3,5] ?_ ?_ ?_
  ·intro _ g j _ h _;rw[U4] at h;exact Sj [3,2,4,0,20]
  ·intro _ g j _ x40 Y h _ p _;rw[U4] at h;refine S [3,2,4,0,1,2,6,3] ?_;refine H6 p ?_;refine I [3,4] ?_ ?_<;>intro _ h
   ·refine kd [] [] ?_;exact Sr [3,7]
   refine S [1] ?_;refine kd [1,3,4,5,49,50,51,78,79,80] [1,3,5] ?_;refine S [5] ?_;refine IN (AN (G6 p G) ?_);exact le () []
  rintro⟨⟩ h;refine S [3,2,3] ?_;refine J e1 u h (fun s=>[(9,.int s)]) nl [1,3,5,8,49,50,51] [1,3,5] (fun _ h g=>?_) ?_
  ·refine I [4] ?_ ?_<;>intro _ h
   ·refine B [3,2,8] fun _ Q h=>?_;refine E5 Q ?_;refine I [4] ?_ ?_<;>intro _ h
    ·refine kd [] [] ?_;exact Sr [3,7]
    exact Sj [1]
   refine S [2] ?_;refine Jb 119 u h [1,3,5,8,9,49,50,51] [1,3,5] (fun _ h g=>?_) ?_
   ·refine Ij [5] [0] fun _ h=>?_;refine Ij [0] [0] fun _ h=>?_;exact E9 [0] [0] [0]
   intro v50 h;refine Ir [4] [3,7] fun _ h=>?_;exact Sj [1]
  intro v44 h;refine S [2] ?_;refine Jb 129 u h [1,3,49,50,51] [1,3] (fun _ h g=>?_) ?_
  ·exact E9 [5] [0] [0]
  intro v56 h;refine Ir [4] [3,7] fun _ h=>?_;refine S [1,5] ?_;refine IN (AN (G6 o F) ?_);exact le () []
 rintro⟨⟩ h;refine S [2,3] ?_;refine F6 fun H=>?_;refine LR e1 u () (fun l k v=>Y8 N a0 r1 l k) h (fun c v=>[(134,.int (c:Int))]) (fun c v=>[]) [1,3,132,133] [1,3] [] nl nl [1] [1] ?_ ?_ ?_
 ·intro _ g c _ h _;rw[Y8] at h;exact Sj [3,2,4,0,20]
 ·intro _ g c _ x66 Z h _ q _;rw[Y8] at h;refine S [3,2,4,0,1,2,6,3] ?_;refine H6 q ?_;refine B [2,3] fun _ O h=>?_;refine cA (oG O) ?_;refine Ir [4] [3,7] fun _ h=>?_;refine I [1,2,3,13,4] ?_ ?_<;>intro _ h
  ·refine kd [] [] ?_;exact Sr [3,7]
  refine S [1] ?_;refine kd [1,3,10,11,132,133,134] [1,3,11] ?_;refine S [3] ?_;refine F6 fun K=>?_;refine LR e1 u () (fun l k v=>Q5 N a0 r1 c x66 l k) h (fun m v=>[(150,.int (m:Int))]) (fun m v=>[]) [1,3,10,11,132,133,134,148,149] [1,3,11] [] nl nl [1,3,132,133,134] [1,3] ?_ ?_ ?_
  ·intro _ g m _ h _;rw[Q5] at h;exact Sj [3,2,4,0,20]
  ·intro _ g m _ x80 rest77 h _ t _;rw[Q5] at h;refine S [3,2,4,0,1,2,6,3] ?_;refine H6 t ?_;refine S [2,2] ?_;refine Jb 168 u h [1,3,10,11,13,132,133,134,148,149,150] [1,3,11,13] (fun _ h g=>?_) ?_
   ·refine I [8] ?_ ?_<;>intro _ h
    ·refine B [0,12,0] fun _ R h=>?_;refine E5 R ?_;exact Sj [0]
    exact Sj [0]
   intro v83 h;refine Ir [4] [3,7] fun _ h=>?_;refine B [1,3,2,3] fun _ T h=>?_;refine E5 T ?_;refine F6 fun L=>?_;refine LR e0 u false (fun l k v=>J9 N c x80 l k v) h (fun n v=>[(14,.bool v),(175,.int (n:Int))]) (fun n v=>[]) [1,3,10,11,13,132,133,134,148,149,150,173,174] [1,3,11,13] [] (fun s=>[(14,.bool s)]) nl [1,3,10,11,13,132,133,134,148,149,150] [1,3,11,13] ?_ ?_ ?_
   ·intro _ g n v93 h _;rw[J9] at h;exact Sj [3,2,4,0,20]
   ·intro _ g n v93 x100 rest97 h _ d _;rw[J9] at h;refine S [3,2,4,0,1,2] ?_;refine Jb 14 u h [1,3,10,11,13,132,133,134,148,149,150,173,174,175] [1,3,11,13] (fun _ h g=>?_) ?_
    ·refine S [6,3] ?_;refine H6 d ?_;refine kd [1,3,10,11,13,14,16,132,133,134,148,149,150,173,174,175] [1,3,11,13,16] ?_;refine Ij [5] [0] fun _ h=>?_;refine I [0] ?_ ?_<;>intro _ h
     ·refine I [0] ?_ ?_<;>intro _ h
      ·refine I [0] ?_ ?_<;>intro _ h
       ·refine I [0] ?_ ?_<;>intro _ h
        ·exact E9 [0] [0,13,0] [0]
        exact Sj [0]
       exact Sj [0]
      exact Sj [0]
     exact Sj [0]
    intro W h;refine S [5] ?_;refine IN (AN (G6 d L) ?_);exact le W []
   intro v95 h;refine B [3] fun _ y h=>?_;refine cA (Ci y) ?_;refine S [2] ?_;refine Jb 225 u h [1,3,10,11,17,132,133,134,148,149,150] [1,3,11,17] (fun _ h g=>?_) ?_
   ·refine kd [1,3,10,11,14,17,132,133,134,148,149,150] [1,3,11,17] ?_;exact E9 [5] [0] [0]
   intro v114 h;refine Ir [4] [3,7] fun _ h=>?_;refine S [1,5] ?_;refine IN (AN (G6 t K) ?_);exact le () []
  rintro⟨⟩ h;refine S [5] ?_;refine IN (AN (G6 q H) ?_);exact le () []
 rintro⟨⟩ h;refine S [2,3] ?_;refine F6 fun w=>?_;refine LR e1 u () (fun l k v=>U1 N a0 l k) h (fun a v=>[(233,.int (a:Int))]) (fun a v=>[]) [1,231,232] [1] [] nl nl [] [] ?_ ?_ ?_
 ·intro _ g a _ h _;rw[U1] at h;exact Sj [3,2,4,0,20]
 ·intro _ g a _ x124 U h _ e _;rw[U1] at h;refine S [3,2,4,0,1,2,6,3] ?_;refine H6 e ?_;refine S [2,2] ?_;refine Jb 267 u h [1,19,231,232,233] [1,19] (fun _ h g=>?_) ?_
  ·refine kd [1,19,231,232,233] [1,19] ?_;refine Ij [8] [0] fun _ h=>?_;refine I [0] ?_ ?_<;>intro _ h
   ·refine Ij [0] [0] fun _ h=>?_;refine Ij [0,13,0] [0] fun _ h=>?_;refine B [0,13,0] fun _ z h=>?_;refine cA (oG z) ?_;exact Sj [0]
   refine Ij [0,13] [0] fun _ h=>?_;refine B [0,13,0] fun _ C h=>?_;refine cA (oG C) ?_;exact Sj [0]
  intro v127 h;refine Ir [4] [3,7] fun _ h=>?_;refine S [1,3] ?_;refine F6 fun x=>?_;refine LR e1 u () (fun l k v=>U6 N a0 l k) h (fun b v=>[(271,.int (b:Int))]) (fun b v=>[]) [1,231,232,233,269,270] [1] [] nl nl [1,231,232,233] [1] ?_ ?_ ?_
  ·intro _ g b _ h _;rw[U6] at h;exact Sj [3,2,4,0,20]
  ·intro _ g b _ x149 V h _ f _;rw[U6] at h;refine S [3,2,4,0,1,2,6,3] ?_;refine H6 f ?_;refine B [3,13] fun _ D h=>?_;refine cA (yQ D) ?_;refine kd [1,22,231,232,233,269,270,271] [1] ?_;refine Ir [3,4] [3,7] fun _ h=>?_;refine S [1,5] ?_;refine IN (AN (G6 f x) ?_);exact le () []
  rintro⟨⟩ h;refine S [5] ?_;refine IN (AN (G6 e w) ?_);exact le () []
 rintro⟨⟩ h;exact Sr [3,7]
def o0{N a0 b0 r}(h:iX N a0 b0=some r):Sq 49 [(1016,.box [.str b0] 9),(2000,GL)] [s3 a0,.ptr 1016 0] (.aX []) [(1016,.box [.str r] 9),(2000,GL)] []:=by
 refine so func49 ntmps49 fun p u=>?_;refine S [15,3] ?_;refine F6 fun f=>?_;refine LR e0 u b0 (fun l k v=>kb N l k v) h (fun e v=>[(7,.int (e:Int))]) (fun e v=>[(1016,.box [.str v] 9)]) [1,5,6] [2000] [] nl (fun s=>[(1016,.box [.str s] 9)]) [1] [2000] ?_ ?_ ?_
 ·intro _ g e m h _;rw[kb] at h;exact Sj [3,2,4,0,20]
 ·intro _ g e m n j h _ a _;rw[kb] at h;refine S [3,2,4,0,1,2,6,3] ?_;refine H6 a ?_;refine B [8] fun i d h=>?_;refine cA (vQ N _ _ d) ?_;refine A [] fun b h=>?_;refine iQ b ?_;refine A [] fun c h=>?_;refine iQ c ?_;refine S [5] ?_;refine IN (AN (G6 a f) ?_);exact le ((m++i)++(⟨#[32]⟩:ByteArray)) []
 intro o h;exact Sr [14]
def Jj{N a0 r}(h:wE N a0=some r):Sq 23 [(2000,GL)] [.agg (M3 a0)] (.str r) [(2000,GL)] []:=by
 refine so func23 ntmps23 fun Γ u=>?_;refine S [3,3,3,3,13] ?_;refine bS bY [a0.aC,(a0.a7.length:Int)] ?_;refine B [] fun r2 hr3 h=>?_;refine cF ((o0 hr3).sw 1016 3) ?_;refine S [2,3] ?_;refine F6 fun hl4=>?_;refine LR e0 u r2 (fun l k v=>kg N l k v) h (fun U v=>[(27,.int (U:Int))]) (fun U v=>[(3,.box [.str v] 9)]) [1,3,4,25,26] [1,2000] [] nl (fun s=>[(3,.box [.str s] 9)]) [1,3,4] [1,2000] ?_ ?_ ?_
 ·intro _ g U v6 h _;rw[kg] at h;exact Sj [3,2,4,0,20]
 ·intro _ g U v6 q V h _ i _;rw[kg] at h;refine S [3,2,4,0,1,2,6,3] ?_;refine H6 i ?_;refine A [3] fun t h=>?_;refine iQ t ?_;refine A [] fun w h=>?_;refine iQ w ?_;refine S [3,13] ?_;refine bS bY [q.aQ,q.aG,(q.aB.length:Int)] ?_;refine B [] fun r19 H h=>?_;refine cF ((o0 H).sw 1016 3) ?_;refine kd [1,3,4,6,25,26,27] [1,3,6,2000] ?_;refine S [3] ?_;refine F6 fun D=>?_;refine LR e0 u r19 (fun l k v=>jx N l k v) h (fun b v=>[(49,.int (b:Int))]) (fun b v=>[(3,.box [.str v] 9)]) [1,3,4,25,26,27,47,48] [1,2000] [] nl (fun s=>[(3,.box [.str s] 9)]) [1,3,4,25,26,27] [1,2000] ?_ ?_ ?_
  ·intro _ g b v23 h _;rw[jx] at h;exact Sj [3,2,4,0,20]
  ·intro _ g b v23 f W h _ j _;rw[jx] at h;refine S [3,2,4,0,1,2,6,3] ?_;refine H6 j ?_;refine A [3] fun x h=>?_;refine iQ x ?_;refine A [] fun y h=>?_;refine iQ y ?_;refine kd [1,3,4,8,25,26,27,47,48,49] [1,3,8,2000] ?_;refine S [3,13] ?_;refine bS bY [f.args,f.a8,f.aS,(f.code.length:Int)] ?_;refine B [] fun r36 K h=>?_;refine cF ((o0 K).sw 1016 3) ?_;refine kd [1,3,4,8,25,26,27,47,48,49] [1,3,8,2000] ?_;refine S [3] ?_;refine F6 fun E=>?_;refine LR e0 u r36 (fun l k v=>kh N l k v) h (fun c v=>[(73,.int (c:Int))]) (fun c v=>[(3,.box [.str v] 9)]) [1,3,4,25,26,27,47,48,49,71,72] [1,2000] [] nl (fun s=>[(3,.box [.str s] 9)]) [1,3,4,25,26,27,47,48,49] [1,2000] ?_ ?_ ?_
   ·intro _ g c v40 h _;rw[kh] at h;exact Sj [3,2,4,0,20]
   ·intro _ g c v40 Q X h _ m _;rw[kh] at h;refine S [3,2,4,0,1,2] ?_;refine J e0 u h nl (fun s=>[(3,.box [.str s] 9)]) [1,3,4,25,26,27,47,48,49,71,72,73] [1,2000] (fun _ h g=>?_) ?_
    ·refine S [6,3] ?_;refine H6 m ?_;refine S [3] ?_;refine bS bY [Q.op,Q.a] ?_;refine B [] fun _ L h=>?_;refine cF ((o0 L).sw 1016 3) ?_;refine kd [1,3,4,10,25,26,27,47,48,49,71,72,73] [1,3,10,2000] ?_;refine I [3,4] ?_ ?_<;>intro _ h
     ·refine A [5] fun z h=>?_;refine iQ z ?_;refine A [] fun C h=>?_;refine iQ C ?_;exact je
     exact Sj [1]
    intro v50 h;refine S [5] ?_;refine IN (AN (G6 m E) ?_);exact le v50 []
   intro v42 h;refine S [5] ?_;refine IN (AN (G6 j D) ?_);exact le v42 []
  intro v25 h;refine S [5] ?_;refine IN (AN (G6 i hl4) ?_);exact le v25 []
 intro v8 h;refine S [3,13] ?_;refine bS bY [(a0.heap.length:Int)] ?_;refine B [] fun r58 M h=>?_;refine cF ((o0 M).sw 1016 3) ?_;refine S [2,3] ?_;refine F6 fun F=>?_;refine LR e0 u r58 (fun l k v=>ly N l k v) h (fun d v=>[(104,.int (d:Int))]) (fun d v=>[(3,.box [.str v] 9)]) [3,4,102,103] [2000] [] nl (fun s=>[(3,.box [.str s] 9)]) [3] [2000] ?_ ?_ ?_
 ·intro _ g d v62 h _;rw[ly] at h;exact Sj [3,2,4,0,20]
 ·intro _ g d v62 R Y h _ o _;rw[ly] at h;refine S [3,2,4,0,1,2,6,3] ?_;refine H6 o ?_;refine S [3,13] ?_;refine bS bY [R.cls,(R.aG.length:Int)] ?_;refine B [] fun r73 O h=>?_;refine cF ((o0 O).sw 1016 3) ?_;refine kd [3,4,12,102,103,104] [3,12,2000] ?_;refine S [3] ?_;refine F6 fun G=>?_;refine LR e0 u r73 (fun l k v=>lp N l k v) h (fun e v=>[(119,.int (e:Int))]) (fun e v=>[(3,.box [.str v] 9)]) [3,4,102,103,104,117,118] [2000] [] nl (fun s=>[(3,.box [.str s] 9)]) [3,4,102,103,104] [2000] ?_ ?_ ?_
  ·intro _ g e v77 h _;rw[lp] at h;exact Sj [3,2,4,0,20]
  ·intro _ g e v77 T Z h _ p _;rw[lp] at h;refine S [3,2,4,0,1,2,6,3] ?_;refine H6 p ?_;refine S [5] ?_;refine bS bY [T.k,T.n] ?_;refine B [] fun r87 P h=>?_;refine cF ((o0 P).sw 1016 3) ?_;refine kd [3,4,102,103,104,117,118,119] [3,2000] ?_;refine S [5] ?_;refine IN (AN (G6 p G) ?_);exact le r87 []
  intro v79 h;refine S [5] ?_;refine IN (AN (G6 o F) ?_);exact le v79 []
 intro v64 h;exact Sr [3,7]
def JF{N a0 r}(h:qb N a0=some r):Sq 52 [] [.str a0] (.aX [.aN 0,.bool r.2]) [(0,w9 r.1)] [0]:=by
 refine so func52 ntmps52 fun w u=>?_;refine S [3,3,3,2,3,18] ?_;refine nR 4 204 1 9 ?_;refine j5.bx 8 rfl (fun b=>?_);refine LU e1 u (([]:List ByteArray),(⟨#[]⟩:ByteArray)) (fun l k v=>Y6 N a0 l k v.1 v.2) h (fun i v=>[(5,.str v.2),(9,.int (i:Int))]) (fun i v=>[(204,w9 v.1)]) [0,4,8] [] [] (fun s=>[(5,.str s.2)]) (fun s=>[(204,w9 s.1)]) [4] [] ?_ ?_ ?_
 ·rintro _ g i ⟨p,n⟩ h _;rw[Y6] at h;exact Sj [3,2,4,0,20]
 ·rintro _ g i ⟨p,n⟩ o h a _;rw[Y6] at h;refine S [3,2,4,0,1,2] ?_;refine J e1 u h (fun s=>[(5,.str s.2)]) (fun s=>[(204,w9 s.1)]) [0,4,8,9] [] (fun _ h g=>?_) ?_
  ·refine B [6,3,2,3] fun _ f h=>?_;refine tS f ?_;refine I [10,4] ?_ ?_<;>intro _ h
   ·refine S [3] ?_;refine IN (AN (fT a b) ?_);refine A [] fun c h=>?_;refine PV c rfl ?_;refine A [] fun d h=>?_;refine iQ d ?_;exact Sj [20]
   refine I [1,2,3,4] ?_ ?_<;>intro _ h
   ·refine S [3] ?_;refine nR 2 202 1 9 ?_;exact Sr [7] [(0,202)]
   refine S [1,3] ?_;refine bS lI [n] ?_;refine A [] fun e h=>?_;refine aM e ?_;refine kd [0,4,8,9] [28] ?_;exact Sj [5] [(204,28)]
  rintro⟨j,m⟩ h;refine S [5] ?_;refine IN (AN (fT a b) ?_);exact le (j,m) []
 rintro⟨q,t⟩ h;exact Sr [3,7] [(0,204)]
def vW{N a0 r}(h:iG N a0=some r):Sq 55 [(1000,.box (fI a0) 113)] [.ptr 1000 0] (.str r.1) [(1000,.box (fI r.2) 113)] []:=by
 refine so func55 ntmps55 fun c u=>?_;refine Ir [3,2,3,13,4] [3,3,7] fun _ h=>?_;refine B [1,3] fun _ b h=>?_;refine E5 b ?_;refine A [3] fun a h=>?_;refine PL a rfl rfl ?_;refine kd [0,3] [1000] ?_;exact Sr [3,7]
def X7{N a0 r}(h:C9 N a0=some r):Sq 53 [(1000,.box (fI a0) 113),(2000,GL)] [.ptr 1000 0] (.int r.1) [(1000,.box (fI r.2) 113),(2000,GL)] []:=by
 refine so func53 ntmps53 fun f u=>?_;refine B [3,3] fun _ a h=>?_;refine cA (vW a) ?_;refine B [3] fun _ b h=>?_;refine cA (strconv_Atoi_ok N _ _ b) ?_;refine S [2,2] ?_;refine Jb 20 u h [0,4] [1000,2000] (fun _ h g=>?_) ?_
 ·refine Ij [5,10] [0] fun _ h=>?_;refine B [0] fun _ c h=>?_;refine cA (vQ N _ _ c) ?_;exact Sj [0]
 intro e h;refine J e0 u h nl (fun s=>[(1000,.box (fI s) 113)]) [0,4] [2000] (fun _ h g=>?_) ?_
 ·exact E9 [4] [5] [1]
 intro d h;exact Sr [3,7]
def sT{N a0 a1 r}(h:Q6 N a0 a1=some r):Sq 54 [(1000,.box (fI a0) 113),(2000,GL)] [.ptr 1000 0,.int a1] (.int r.1) [(1000,.box (fI r.2) 113),(2000,GL)] []:=by
 refine so func54 ntmps54 fun c u=>?_;refine B [3,3] fun _ a h=>?_;refine cA (X7 a) ?_;refine S [2,2] ?_;refine Jb 21 u h [0,5] [1000,2000] (fun _ h g=>?_) ?_
 ·refine Ij [5] [0] fun _ h=>?_;exact E9 [0] [0] [0]
 intro b h;exact gI [4] [3,3,7] [1,3,7]
def Is{N a0 r}(h:si N a0=some r):Sq 25 [(2000,GL)] [s5 a0] (.aX [.agg (M3 r.1),.int r.2]) [(2000,GL)] []:=by
 refine so func25 ntmps25 fun Γ u=>?_;refine S [3,3] ?_;refine Exists.intro a0 (AN rfl ?_);refine B [] fun _ hr2 h=>?_;refine cA ((JF hr2).sw 0 16) ?_;refine Ir [2,3,4] [3,7] fun _ h=>?_;refine S [1,3] ?_;refine j5.aY 16 rfl ?_;refine kd [2,6] [2,24,2000] ?_;refine B [3] fun _ hr5 h=>?_;refine cA ((X7 hr5).sw 1000 24) ?_;refine B [2,3] fun r6 hr7 h=>?_;refine cA ((sT hr7).sw 1000 24) ?_;refine nB 7 0 501 4 81 ?_;refine j5.bx 29 rfl (fun hrn8=>?_);refine LU e0 u (r6.2,([]:List Cl)) (fun l k v=>X8 N l k v.1 v.2) h (fun k8 v=>[(30,.int (k8:Int))]) (fun k8 v=>[(24,.box (fI v.1) 113),(501,lT v.2)]) [2,6,7,29] [2,7,2000] [] nl (fun s=>[(24,.box (fI s.1) 113),(501,lT s.2)]) [2,6,7] [2,7,2000] ?_ ?_ ?_
 ·rintro _ g k8 ⟨v9,v10⟩ h _;rw[X8] at h;exact Sj [3,2,4,0,20]
 ·rintro _ g k8 ⟨v9,v10⟩ n18 h q _;rw[X8] at h;refine B [3,2,4,0,1,2,6,3] fun r22 P h=>?_;refine cA ((vW P).sw 1000 24) ?_;refine B [] fun r24 Q h=>?_;refine cA ((X7 Q).sw 1000 24) ?_;refine B [] fun r26 R h=>?_;refine cA ((X7 R).sw 1000 24) ?_;refine B [2,3] fun r28 T h=>?_;refine cA ((sT T).sw 1000 24) ?_;refine nB 8 3 502 5 27 ?_;refine j5.bx 40 rfl (fun E=>?_);refine LU e0 u (r28.2,([]:List Me)) (fun l k v=>Y9 N l k v.1 v.2) h (fun e v=>[(41,.int (e:Int))]) (fun e v=>[(24,.box (fI v.1) 113),(502,gH v.2)]) [2,6,7,8,29,30,40] [2,7,8,501,2000] [] nl (fun s=>[(24,.box (fI s.1) 113),(502,gH s.2)]) [2,6,7,8,29,30] [2,7,8,501,2000] ?_ ?_ ?_
  ·rintro _ g e ⟨v31,v32⟩ h _;rw[Y9] at h;exact Sj [3,2,4,0,20]
  ·rintro _ g e ⟨v31,v32⟩ n40 h t _;rw[Y9] at h;refine B [3,2,4,0,1,2,6,3] fun r44 U h=>?_;refine cA ((vW U).sw 1000 24) ?_;refine B [] fun r46 W h=>?_;refine cA ((X7 W).sw 1000 24) ?_;refine B [] fun r48 X h=>?_;refine cA ((X7 X).sw 1000 24) ?_;refine B [] fun r50 Y h=>?_;refine cA ((X7 Y).sw 1000 24) ?_;refine S [2] ?_;refine kd [2,6,7,8,9,29,30,40,41] [2,7,8,9,24,501,502,2000] ?_;refine B [3] fun r52 Z h=>?_;refine cA ((sT Z).sw 1000 24) ?_;refine nB 9 4 503 5 55 ?_;refine j5.bx 53 rfl (fun F=>?_);refine LU e0 u (r52.2,([]:List Ins)) (fun l k v=>Y4 N l k v.1 v.2) h (fun f v=>[(54,.int (f:Int))]) (fun f v=>[(24,.box (fI v.1) 113),(503,dr v.2)]) [2,6,7,8,9,29,30,40,41,53] [2,7,8,9,501,502,2000] [] nl (fun s=>[(24,.box (fI s.1) 113),(503,dr s.2)]) [2,6,7,8,9,29,30,40,41] [2,7,8,9,501,502,2000] ?_ ?_ ?_
   ·rintro _ g f ⟨v55,v56⟩ h _;rw[Y4] at h;exact Sj [3,2,4,0,20]
   ·rintro _ g f ⟨v55,v56⟩ n64 h w _;rw[Y4] at h;refine B [3,2,4,0,1,2,6,3] fun H hr69 h=>?_;refine cA ((X7 hr69).sw 1000 24) ?_;refine B [] fun K hr71 h=>?_;refine cA ((X7 hr71).sw 1000 24) ?_;refine S [2] ?_;refine kd [2,6,7,8,9,10,29,30,40,41,53,54] [2,7,8,9,10,24,501,502,503,2000] ?_;refine S [3] ?_;refine J e0 u h nl (fun s=>[(10,.box [.int H.1,.int K.1,.int (0:Int),.int (0:Int),.str s.2] 55),(24,.box (fI s.1) 113)]) [2,6,7,8,9,10,29,30,40,41,53,54] [2,7,8,9,501,502,503,2000] (fun _ h g=>?_) ?_
    ·refine I [4] ?_ ?_<;>intro _ h
     ·refine B [5] fun _ hr77 h=>?_;refine cA ((vW hr77).sw 1000 24) ?_;exact je
     exact Sj [1]
    rintro⟨v72,v73⟩ h;refine S [5] ?_;refine bS bh [(⟨H.1,K.1,(0:Int),(0:Int),v73⟩:Ins)] ?_;refine A [] fun L h=>?_;refine aM L ?_;refine kd [2,6,7,8,9,29,30,40,41,53,54] [2,7,8,9,24,71,501,502,2000] ?_;refine S [5] ?_;refine IN (AN (fT w F) ?_);exact le (v72,(v56++[(⟨H.1,K.1,(0:Int),(0:Int),v73⟩:Ins)])) [(503,71)]
   rintro⟨v59,v60⟩ h;refine S [5] ?_;refine bS I4 [(⟨r44.1,r46.1,r48.1,r50.1,v60⟩:Me)] ?_;refine A [] fun M h=>?_;refine aM M ?_;refine S [5] ?_;refine IN (AN (fT t E) ?_);exact le (v59,(v32++[(⟨r44.1,r46.1,r48.1,r50.1,v60⟩:Me)])) [(502,78)]
  rintro⟨v35,v36⟩ h;refine S [5,12] ?_;refine bS eA [(⟨r22.1,r24.1,r26.1,v36⟩:Cl)] ?_;refine A [] fun O h=>?_;refine aM O ?_;refine S [5] ?_;refine IN (AN (fT q hrn8) ?_);exact le (v35,(v10++[(⟨r22.1,r24.1,r26.1,v36⟩:Cl)])) [(501,85)]
 rintro⟨v13,v14⟩ h;refine B [2,3] fun r81 hr82 h=>?_;refine cA ((sT hr82).sw 1000 24) ?_;refine nB 7 1 504 2 92 ?_;refine j5.bx 89 rfl (fun G=>?_);refine LU e0 u (r81.2,([]:List Ob)) (fun l k v=>X9 N l k v.1 v.2) h (fun i v=>[(90,.int (i:Int))]) (fun i v=>[(24,.box (fI v.1) 113),(504,xi v.2)]) [2,6,7,89] [2,7,501,2000] [] nl (fun s=>[(24,.box (fI s.1) 113),(504,xi s.2)]) [2,6,7] [2,7,501,2000] ?_ ?_ ?_
 ·rintro _ g i ⟨v84,v85⟩ h _;rw[X9] at h;exact Sj [3,2,4,0,20]
 ·rintro _ g i ⟨v84,v85⟩ n93 h x _;rw[X9] at h;refine B [3,2,4,0,1,2,6,3] fun r97 hr98 h=>?_;refine cA ((X7 hr98).sw 1000 24) ?_;refine B [2,3] fun r99 y h=>?_;refine cA ((sT y).sw 1000 24) ?_;refine nB 11 1 505 2 29 ?_;refine j5.bx 96 rfl (fun d=>?_);refine LU e0 u (r99.2,([]:List V)) (fun l k v=>Y2 N l k v.1 v.2) h (fun a v=>[(97,.int (a:Int))]) (fun a v=>[(24,.box (fI v.1) 113),(505,eS v.2)]) [2,6,7,11,89,90,96] [2,7,11,501,504,2000] [] nl (fun s=>[(24,.box (fI s.1) 113),(505,eS s.2)]) [2,6,7,11,89,90] [2,7,11,501,504,2000] ?_ ?_ ?_
  ·rintro _ g a ⟨v102,m⟩ h _;rw[Y2] at h;exact Sj [3,2,4,0,20]
  ·rintro _ g a ⟨v102,m⟩ n111 h c _;rw[Y2] at h;refine B [3,2,4,0,1,2,6,8] fun j z h=>?_;refine cA ((X7 z).sw 1000 24) ?_;refine B [] fun b C h=>?_;refine cA ((X7 C).sw 1000 24) ?_;refine bS eV [(⟨j.1,b.1⟩:V)] ?_;refine A [] fun o h=>?_;refine aM o ?_;refine kd [2,6,7,11,89,90,96,97] [2,7,11,24,107,501,504,2000] ?_;refine S [5] ?_;refine IN (AN (fT c d) ?_);exact le (b.2,(m++[(⟨j.1,b.1⟩:V)])) [(505,107)]
  rintro⟨v106,n⟩ h;refine S [5,12] ?_;refine bS eQ [(⟨r97.1,n⟩:Ob)] ?_;refine A [] fun p h=>?_;refine aM p ?_;refine S [5] ?_;refine IN (AN (fT x G) ?_);exact le (v106,(v85++[(⟨r97.1,n⟩:Ob)])) [(504,114)]
 rintro⟨v88,v89⟩ h;refine S [2,2] ?_;refine Jb 129 u h [2,7] [2,7,501,504,2000] (fun _ h g=>?_) ?_
 ·exact E9 [5] [0] [0,13,0]
 intro v121 h;refine Ir [4] [3,7] fun _ h=>?_;refine B [1,2,3] fun _ D h=>?_;refine cL (Ip D) ?_;refine Ir [3,4] [3,7] fun _ h=>?_;refine S [1,3] ?_;refine j5.aY 501 rfl ?_;refine j5.aY 504 rfl ?_;exact Sr [7]
def HR{N a0 a1 r}(h:vP N a0 a1=some r):Sp 56 [qH a0,qH a1] (.bool r):=by
 refine so func56 ntmps56 fun i u=>?_;refine Ir [3,2,3,13,13,4] [3,7] fun _ h=>?_;refine S [1,2,3] ?_;refine F6 fun d=>?_;refine LR e1 u () (fun l k v=>ns N a1 l k) h (fun c v=>[(13,.int (c:Int))]) (fun c v=>[]) [0,1,12] [] [] nl nl [] [] ?_ ?_ ?_
 ·intro _ g c _ h _;rw[ns] at h;exact Sj [3,2,4,0,20]
 ·intro _ g c _ f e h _ a _;rw[ns] at h;refine S [3,2,4,0,1,2,6,3,2,8] ?_;refine H6 a ?_;refine B [] fun _ b h=>?_;refine E5 b ?_;refine Ir [4] [3,7] fun _ h=>?_;refine S [1,5] ?_;refine IN (AN (G6 a d) ?_);exact le () []
 rintro⟨⟩ h;exact Sr [3,7]
def I2{N a0 a1 r}(h:vK N a0 a1=some r):Sp 26 [.agg (M3 a0),.agg (M3 a1)] (.bool r):=by
 refine so func26 ntmps26 fun Q u=>?_;refine S [3,2,2] ?_;refine Jb 36 u h [2,3] [2,3] (fun _ h g=>?_) ?_
 ·refine Ij [5] [0] fun _ h=>?_;exact E9 [0,13,0,13,0] [0] [0,13,0,13,0]
 intro P h;refine Ir [4] [3,7] fun _ h=>?_;refine S [1,2,3] ?_;refine F6 fun m=>?_;refine LR e1 u () (fun l k v=>nh N a1 l k) h (fun b v=>[(40,.int (b:Int))]) (fun b v=>[]) [2,3,38,39] [2,3] [] nl nl [2,3] [2,3] ?_ ?_ ?_
 ·intro _ g b _ h _;rw[nh] at h;exact Sj [3,2,4,0,20]
 ·intro _ g b _ K A h _ e _;rw[nh] at h;refine S [3,2,4,0,1,2,6,3] ?_;refine H6 e ?_;refine B [3] fun F s h=>?_;refine E5 s ?_;refine S [2,2] ?_;refine Jb 77 u h [2,3,6,7,38,39,40] [2,3,6,7] (fun _ h g=>?_) ?_
  ·refine kd [2,3,6,7,38,39,40] [2,3,6,7] ?_;refine Ij [5] [0] fun _ h=>?_;refine Ij [0] [0] fun _ h=>?_;exact E9 [0] [0] [0,13,0,13,0]
  intro G h;refine Ir [4] [3,7] fun _ h=>?_;refine S [1,3] ?_;refine F6 fun n=>?_;refine LR e1 u () (fun l k v=>nj N F l k) h (fun c v=>[(81,.int (c:Int))]) (fun c v=>[]) [2,3,7,38,39,40,79,80] [2,3,7] [] nl nl [2,3,38,39,40] [2,3] ?_ ?_ ?_
  ·intro _ g c _ h _;rw[nj] at h;exact Sj [3,2,4,0,20]
  ·intro _ g c _ L C h _ f _;rw[nj] at h;refine S [3,2,4,0,1,2,6,3] ?_;refine H6 f ?_;refine B [3] fun _ t h=>?_;refine E5 t ?_;refine S [2] ?_;refine Jb 124 u h [2,3,7,38,39,40,79,80,81] [2,3,7] (fun _ h g=>?_) ?_
   ·refine kd [2,3,7,9,10,38,39,40,79,80,81] [2,3,7,9,10] ?_;refine Ij [5] [0] fun _ h=>?_;refine Ij [0] [0] fun _ h=>?_;refine Ij [0] [0] fun _ h=>?_;refine Ij [0] [0] fun _ h=>?_;refine B [0] fun _ q h=>?_;refine cA (HR q) ?_;exact Sj [0]
   intro H h;refine Ir [4] [3,7] fun _ h=>?_;refine S [1,5] ?_;refine IN (AN (G6 f n) ?_);exact le () []
  rintro⟨⟩ h;refine S [5] ?_;refine IN (AN (G6 e m) ?_);exact le () []
 rintro⟨⟩ h;refine S [2,3] ?_;refine F6 fun o=>?_;refine LR e1 u () (fun l k v=>ni N a1 l k) h (fun a v=>[(130,.int (a:Int))]) (fun a v=>[]) [3,128,129] [3] [] nl nl [] [] ?_ ?_ ?_
 ·intro _ g a _ h _;rw[ni] at h;exact Sj [3,2,4,0,20]
 ·intro _ g a _ M D h _ i _;rw[ni] at h;refine S [3,2,4,0,1,2,6,3] ?_;refine H6 i ?_;refine S [2,2] ?_;refine Jb 156 u h [3,11,12,128,129,130] [3,12] (fun _ h g=>?_) ?_
  ·refine kd [3,11,12,128,129,130] [3,12] ?_;refine B [8] fun _ w h=>?_;refine E5 w ?_;refine Ij [] [0] fun _ h=>?_;refine B [0,13,0] fun _ x h=>?_;refine E5 x ?_;exact Sj [0,13,0]
  intro J h;refine Ir [4] [3,7] fun _ h=>?_;refine S [1,3] ?_;refine F6 fun p=>?_;refine LR e1 u () (fun l k v=>nq N a1 a l k) h (fun d v=>[(160,.int (d:Int))]) (fun d v=>[]) [3,11,12,128,129,130,159] [3,12] [] nl nl [3,128,129,130] [3] ?_ ?_ ?_
  ·intro _ g d _ h _;rw[nq] at h;exact Sj [3,2,4,0,20]
  ·intro _ g d _ O E h _ j _;rw[nq] at h;refine S [3,2,4,0,1,2,6,3,2,8] ?_;refine H6 j ?_;refine B [] fun _ y h=>?_;refine E5 y ?_;refine B [] fun _ z h=>?_;refine E5 z ?_;refine I [4] ?_ ?_<;>intro _ h
   ·refine kd [] [] ?_;exact Sr [3,7]
   refine S [1] ?_;refine kd [3,11,12,128,129,130,159,160] [3,12] ?_;refine S [5] ?_;refine IN (AN (G6 j p) ?_);exact le () []
  rintro⟨⟩ h;refine S [5] ?_;refine IN (AN (G6 i o) ?_);exact le () []
 rintro⟨⟩ h;exact Sr [3,7]
def JW{N a0 a1 a2 a3 r}(h:uv N a0 a1 a2 a3=some r):Sp 88 [.agg (M3 a0),.str a1,.int a2,.int a3] (.aX [.agg (M3 r.1),.int r.2.1,.int r.2.2]):=by
 refine so func88 ntmps88 fun p u=>?_;refine B [3,2,3] fun _ i h=>?_;refine cA (sP i) ?_;refine Ir [4] [3,7] fun _ h=>?_;refine S [1,2,3] ?_;refine F6 fun f=>?_;refine LR e1 u () (fun l k v=>lv N a1 l k) h (fun e v=>[(21,.int (e:Int))]) (fun e v=>[]) [1,2,3,4,8,19,20] [4,8] [] nl nl [1,2,3,4,8] [4,8] ?_ ?_ ?_
 ·intro _ g e _ h _;rw[lv] at h;exact Sj [3,2,4,0,20]
 ·intro _ g e _ o j h _ a _;rw[lv] at h;refine S [3,2,4,0,1,2,6,3] ?_;refine H6 a ?_;refine Ir [3,4] [3,7] fun _ h=>?_;refine S [1,5] ?_;refine IN (AN (G6 a f) ?_);exact le () []
 rintro⟨⟩ h;refine S [2,2] ?_;refine Jb 39 u h [1,2,3,4,8] [4,8] (fun _ h g=>?_) ?_
 ·exact E9 [5] [0] [0,13,0]
 intro m h;refine Ir [4] [3,7] fun _ h=>?_;refine S [1,2,2] ?_;refine Jb 62 u h [1,2,3,4,8] [4,8] (fun _ h g=>?_) ?_
 ·refine Ij [5] [0] fun _ h=>?_;refine Ij [0] [0] fun _ h=>?_;refine B [0] fun _ d h=>?_;refine cA (oG d) ?_;refine Ij [0,12,0] [0] fun _ h=>?_;exact E9 [0] [0] [0]
 intro n h;refine Ir [4] [3,7] fun _ h=>?_;refine Ir [1,2,3,13,4] [3,7] fun _ h=>?_;refine S [1,3,13,3,12] ?_;refine bS eA ([]:List Cl) ?_;refine A [] fun b h=>?_;refine aM b ?_;refine S [12] ?_;refine bS eA [(⟨a1,a2,a3,[]⟩:Cl)] ?_;refine A [] fun c h=>?_;refine aM c ?_;refine kd [4,8,13] [4,8,81] ?_;refine S [3] ?_;refine j5.aY 81 rfl ?_;exact Sr [7]
def HU{N a0 a1 a2 r}(h:vU N a0 a1 a2=some r):Sp 89 [.agg (M3 a0),.int a1,.agg (I4 a2)] (.aX [.agg (M3 r.1),.int r.2]):=by
 refine so func89 ntmps89 fun Q u=>?_;refine S [3,2,2] ?_;refine Jb 21 u h [1,3,5,6] [3,5,6] (fun _ h g=>?_) ?_
 ·exact E9 [5] [0] [0,13,0]
 intro P h;refine Ir [4] [3,7] fun _ h=>?_;refine B [1,3,3,2,3] fun _ q h=>?_;refine E5 q ?_;refine F6 fun p=>?_;refine nR 8 208 5 27 ?_;refine LR e0 u (([]:List Me),false,false) (fun l k v=>R5 N a2 l k v.1 v.2.1 v.2.2) h (fun n v=>[(9,.bool v.2.1),(10,.bool v.2.2),(30,.int (n:Int))]) (fun n v=>[(208,gH v.1)]) [1,3,5,6,8,28,29] [3,5,6] [] (fun s=>[(9,.bool s.2.1),(10,.bool s.2.2)]) (fun s=>[(208,gH s.1)]) [1,3,5,6,8] [3,5,6] ?_ ?_ ?_
 ·rintro _ g n ⟨t,w,x⟩ h _;rw[R5] at h;exact Sj [3,2,4,0,20]
 ·rintro _ g n ⟨t,w,x⟩ E o h _ a _;rw[R5] at h;refine S [3,2,4,0,1,2] ?_;refine J e0 u h (fun s=>[(8,.aN 42),(9,.bool s.2.1),(10,.bool s.2.2)]) (fun s=>[(42,gH s.1)]) [1,3,5,6,28,29,30] [3,5,6] (fun _ h g=>?_) ?_
  ·refine S [6,3] ?_;refine H6 a ?_;refine I [2,3,4] ?_ ?_<;>intro _ h
   ·refine kd [1,3,5,6,8,28,29,30] [3,5,6,208] ?_;refine S [3] ?_;refine bS I4 [a2] ?_;refine A [] fun d h=>?_;refine aM d ?_;exact Sj [3,20]
   refine S [1,2,2] ?_;refine Jb 51 u h [1,3,5,6,8,9,10,12,28,29,30] [3,5,6,12,208] (fun _ h g=>?_) ?_
   ·refine kd [1,3,5,6,8,9,10,12,28,29,30] [3,5,6,12,208] ?_;exact E9 [5] [0] [0]
   intro K h;refine J e0 u h (fun s=>[(8,.aN 55),(9,.bool s.2)]) (fun s=>[(55,gH s.1)]) [1,3,5,6,10,12,28,29,30] [3,5,6,12] (fun _ h g=>?_) ?_
   ·refine I [4] ?_ ?_<;>intro _ h
    ·refine S [3] ?_;refine bS I4 [a2] ?_;refine A [] fun e h=>?_;refine aM e ?_;exact Sj [5]
    exact Sj [1] [(55,208)]
   rintro⟨L,M⟩ h;refine S [5] ?_;refine bS I4 [E] ?_;refine A [] fun f h=>?_;refine aM f ?_;exact je [(42,59)]
  rintro⟨y,z,C⟩ h;refine S [5] ?_;refine IN (AN (G6 a p) ?_);exact le (y,z,C) [(208,42)]
 rintro⟨F,G,H⟩ h;refine S [2,3] ?_;refine J e0 u h (fun s=>[(8,.aN 66)]) (fun s=>[(66,gH s)]) [1,3,6,10] [3,6] (fun _ h g=>?_) ?_
 ·refine I [4] ?_ ?_<;>intro _ h
  ·refine S [5] ?_;refine bS I4 [a2] ?_;refine A [] fun i h=>?_;refine aM i ?_;exact je
  exact Sj [1] [(66,208)]
 intro D h;refine S [2,2] ?_;refine Jb 78 u h [1,3,6,8] [3,6,66] (fun _ h g=>?_) ?_
 ·refine I [5] ?_ ?_<;>intro _ h
  ·refine B [0] fun _ m h=>?_;refine E5 m ?_;exact Sj [0,13,0]
  exact Sj [0]
 intro O h;refine Ir [4] [3,7] fun _ h=>?_;refine S [1,3,12] ?_;refine bS eA ([]:List Cl) ?_;refine A [] fun j h=>?_;refine aM j ?_;refine j5.aY 66 rfl ?_;refine kd [1,3,6,8] [3,6,83] ?_;refine B [3] fun c b h=>?_;refine R7 b ?_;refine sM (l6 b).2 (⟨c.name,c.aQ,c.aG,D⟩:Cl) ?_;refine S [3,12,3] ?_;refine j5.aY 83 rfl ?_;exact Sr [7]
end
section
set_option maxHeartbeats 40000000
set_option maxRecDepth 100000
def ID{N a0 a1 a2 r}(h:vL N a0 a1 a2=some r):Sp 157 [.agg (M3 a0),.agg (ir a1),.int a2] (.int r):=by
 refine so func157 ntmps157 fun n u=>?_;refine B [3,2,3] fun _ i h=>?_;refine cA (sP i) ?_;refine Ir [4] [3,7] fun _ h=>?_;refine Ir [1,2,3,13,4] [3,7] fun _ h=>?_;refine S [1,2,2] ?_;refine Jb 24 u h [3,4] [3,4] (fun _ h g=>?_) ?_
 ·exact E9 [5] [0] [0]
 intro m h;refine Ir [4] [3,7] fun _ h=>?_;refine B [1,2,3,13] fun _ d h=>?_;refine cA (yQ d) ?_;refine Ir [3,4] [3,7] fun _ h=>?_;refine S [1,2,3] ?_;refine F6 fun c=>?_;refine LR e1 u () (fun l k v=>nr N a0 l k) h (fun a v=>[(37,.int (a:Int))]) (fun a v=>[]) [3,35,36] [3] [] nl nl [] [] ?_ ?_ ?_
 ·intro _ g a _ h _;rw[nr] at h;exact Sj [3,2,4,0,20]
 ·intro _ g a _ j f h _ b _;rw[nr] at h;refine S [3,2,4,0,1,2,6,3] ?_;refine H6 b ?_;refine B [3,13] fun _ e h=>?_;refine cA (yQ e) ?_;refine Ir [3,4] [3,7] fun _ h=>?_;refine S [1,5] ?_;refine IN (AN (G6 b c) ?_);exact le () []
 rintro⟨⟩ h;exact Sr [3,7]
def Cq{N a0 a1 r}(h:sa N a0 a1=some r):Sp 158 [cC a0,.agg (eV a1)] (.int r):=by
 refine so func158 ntmps158 fun e u=>?_;refine S [3,2,2] ?_;refine Jb 19 u h [0,3] [3] (fun _ h g=>?_) ?_
 ·refine I [5] ?_ ?_<;>intro _ h
  ·exact E9 [0] [0,13,0] [0]
  exact Sj [0]
 intro c h;refine I [4] ?_ ?_<;>intro _ h
 ·refine B [3] fun _ b h=>?_;refine E5 b ?_;exact Sr [7]
 refine S [1,2,2] ?_;refine Jb 33 u h [3] [3] (fun _ h g=>?_) ?_
 ·exact E9 [5] [0] [0]
 intro d h;refine Ir [4] [3,7] fun _ h=>?_;refine S [1,3] ?_;refine bS bY [(1:Int),(2:Int),(2:Int),(3:Int)] ?_;refine B [] fun _ a h=>?_;refine R7 a ?_;refine Q9 (l6 a).2 ?_;exact Sr [7]
def yW{N a0 a1 a2 r}(h:nZ N a0 a1 a2=some r):Sp 118 [.agg (M3 a0),.int a1,.str a2] (.aX [.int r.1,.int r.2]):=by
 refine so func118 ntmps118 fun w u=>?_;refine B [3,2,3] fun q n h=>?_;refine cA ((DV n).sw 0 14) ?_;refine F6 fun m=>?_;refine LR e1 u () (fun l k v=>oK N a0 a2 q l k) h (fun i v=>[(16,.int (i:Int))]) (fun i v=>[]) [2,3,14,15] [3,14] [] nl nl [] [] ?_ ?_ ?_
 ·intro _ g i _ h _;rw[oK] at h;exact Sj [3,2,4,0,20]
 ·intro _ g i _ t o h _ e _;rw[oK] at h;refine B [3,2,4,0,1,2,6,3] fun p b h=>?_;refine R7 b ?_;refine Q9 (l6 b).2 ?_;refine B [3] fun _ f h=>?_;refine E5 f ?_;refine F6 fun d=>?_;refine LR e1 u () (fun l k v=>oL N a2 p l k) h (fun a v=>[(27,.int (a:Int))]) (fun a v=>[]) [2,3,9,14,15,16,25,26] [3,14] [] nl nl [2,3,14,15,16] [3,14] ?_ ?_ ?_
  ·intro _ g a _ h _;rw[oL] at h;exact Sj [3,2,4,0,20]
  ·intro _ g a _ s j h _ c _;rw[oL] at h;refine S [3,2,4,0,1,2,6,3] ?_;refine H6 c ?_;refine I [3,4] ?_ ?_<;>intro _ h
   ·refine kd [9,10] [] ?_;exact Sr [3,7]
   refine S [1] ?_;refine kd [2,3,9,14,15,16,25,26,27] [3,14] ?_;refine S [5] ?_;refine IN (AN (G6 c d) ?_);exact le () []
  rintro⟨⟩ h;refine S [5] ?_;refine IN (AN (G6 e m) ?_);exact le () []
 rintro⟨⟩ h;exact Sr [3,7]
def vV{N a0 r}(h:qg N a0=some r):Sp 220 [.bool a0] (.agg (eV r)):=by
 refine so func220 ntmps220 fun a u=>?_;exact gI [3,2,3,4] [3,7] [1,3,7]
def Jm{N a0 a1 a2 r}(h:vy N a0 a1 a2=some r):Sp 192 [.int a0,.agg (eV a1),.agg (eV a2)] (.aX [.agg (eV r.1),.int r.2]):=by
 refine so func192 ntmps192 fun j u=>?_;refine S [3,2,2] ?_;refine Jb 17 u h [0,4,5,6] [4,5,6] (fun _ h g=>?_) ?_
 ·exact E9 [5] [0] [0]
 intro f h;refine Ir [4] [3,7] fun _ h=>?_;refine S [1,3,2,3] ?_;refine J e1 u h (fun s=>[(8,.int s)]) nl [6] [6] (fun _ h g=>?_) ?_
 ·refine Ij [6,3,4] [5,12] fun _ h=>?_;refine Ij [3,4] [5,12] fun _ h=>?_;refine Ij [3,4] [5,12] fun _ h=>?_;refine I [3,4] ?_ ?_<;>intro _ h
  ·refine B [3] fun _ d h=>?_;refine cA (vV d) ?_;exact Sr [7]
  refine I [3,4] ?_ ?_<;>intro _ h
  ·refine kd [4,5,6] [4,5,6] ?_;refine B [3] fun _ e h=>?_;refine cA (vV e) ?_;exact Sr [7]
  refine kd [6] [6] ?_;exact Sr [3,7]
 intro i h;refine I [3,2,3,4] ?_ ?_<;>intro _ h
 ·refine A [3] fun a h=>?_;refine Gz a ?_;exact Sr [12,12,7]
 refine A [1,3] fun b h=>?_;refine iQ b ?_;refine A [] fun c h=>?_;refine Gz c ?_;exact Sr [12,12,7]
def Hv{N gR a b c d e r}(h:vJ N gR a b c d e=some r)(k:∀(N:Nat) (a:TR) (b:Int) (c:Me) (d:V) (e:(List V)) (r:(V×TR)),gR N a b c d e=some r->Sq 193 [(1000,.box [Y1 a.w.a7,cC a.w.heap,.int a.w.aC,.int a.fuel,.int a.sends,.int a.turns,.int a.deep,.int a.err,.aN 1001,.aN 1002] 198),(1001,fU a.sites),(1002,w3 a.of)] [.ptr 1000 0,.int b,.agg (I4 c),.agg (eV d),lR e] (.agg (eV r.1)) [(1000,.box [Y1 r.2.w.a7,cC r.2.w.heap,.int r.2.w.aC,.int r.2.fuel,.int r.2.sends,.int r.2.turns,.int r.2.deep,.int r.2.err,.aN 2,.aN 3] 198),(2,fU r.2.sites),(1001,.aK),(3,w3 r.2.of),(1002,.aK)] [2,3]):Sq 159 [(1000,.box [Y1 a.w.a7,cC a.w.heap,.int a.w.aC,.int a.fuel,.int a.sends,.int a.turns,.int a.deep,.int a.err,.aN 1001,.aN 1002] 198),(1001,fU a.sites),(1002,w3 a.of)] [.ptr 1000 0,.int b,.int c,.agg (eV d),lR e] (.agg (eV r.1)) [(1000,.box [Y1 r.2.w.a7,cC r.2.w.heap,.int r.2.w.aC,.int r.2.fuel,.int r.2.sends,.int r.2.turns,.int r.2.deep,.int r.2.err,.aN 2,.aN 3] 198),(2,fU r.2.sites),(1001,.aK),(3,w3 r.2.of),(1002,.aK)] [2,3]:=by
 refine so func159 ntmps159 fun n u=>?_;refine rB 1000 8 1001 320 ?_;refine rB 1000 9 1002 321 ?_;refine B [3,3] fun _ l h=>?_;refine E5 l ?_;refine B [] fun _ m h=>?_;refine E5 m ?_;refine S [2] ?_;refine kd [0,1,4,8,10,11] [8,10,11,320,321,1000,1001,1002] ?_;refine I [3,13,4] ?_ ?_<;>intro _ h
 ·exact Sr [3,3,7] [(2,320),(3,321)]
 refine I [1,2,2,8,4] ?_ ?_<;>intro _ h
 ·refine kd [0,10] [10,320,321,1000,1001,1002] ?_;exact Sr [3,3,7] [(2,320),(3,321)]
 refine S [1,2] ?_;refine kd [0,1,4,8,10,11] [8,10,11,320,321,1000,1001,1002] ?_;refine I [3,4] ?_ ?_<;>intro _ h
 ·refine B [3,12,2,8] fun _ j h=>?_;refine E5 j ?_;refine B [] fun _ f h=>?_;refine cA (Jm f) ?_;refine kd [0,10,12,13] [10,12,320,321,1000,1001,1002] ?_;exact Sr [3,3,7] [(2,320),(3,321)]
 refine I [1,2,3,4] ?_ ?_<;>intro _ h
 ·refine S [3] ?_;refine kd [0,10] [10,320,321,1000,1001,1002] ?_;exact Sr [3,7] [(2,320),(3,321)]
 refine S [1,3,12] ?_;refine kd [0,1,4,8,10,11] [8,10,11,320,321,1000,1001,1002] ?_;refine B [3,12,3] fun _ i h=>?_;refine cA ((k N _ _ _ _ _ _ i).bB [(1001,320),(1002,321),(2,501),(3,502)] rfl) ?_;refine kd [0,10,14] [10,14,501,502,1000,1001,1002] ?_;exact Sr [3,12,3,7] [(2,501),(3,502)]
def Jh{N a0 a1 a2 r}(h:uq N a0 a1 a2=some r):Sp 222 [cC a0,.agg (eV a1),.int a2] (.agg (eV r)):=by
 refine so func222 ntmps222 fun j u=>?_;refine S [3,2,2] ?_;refine Jb 23 u h [0,2,4,6] [4,6] (fun _ h g=>?_) ?_
 ·refine I [5] ?_ ?_<;>intro _ h
  ·exact E9 [0] [0,13,0] [0]
  exact Sj [0]
 intro i h;refine J e1 u h nl nl [6] [6] (fun _ h g=>?_) ?_
 ·refine I [4] ?_ ?_<;>intro _ h
  ·refine B [3] fun _ e h=>?_;refine E5 e ?_;refine F6 fun c=>?_;refine LR e1 u () (fun l k v=>lr N a2 l k) h (fun a v=>[(31,.int (a:Int))]) (fun a v=>[]) [2,6,29,30] [6] [] nl nl [6] [6] ?_ ?_ ?_
   ·intro _ g a _ h _;rw[lr] at h;exact Sj [3,2,4,0,20]
   ·intro _ g a _ f d h _ b _;rw[lr] at h;refine S [3,2,4,0,1,2,6,3] ?_;refine H6 b ?_;refine Ir [3,4] [3,7] fun _ h=>?_;refine S [1,5] ?_;refine IN (AN (G6 b c) ?_);exact le () []
   rintro⟨⟩ h;exact je
  exact Sj [1]
 rintro⟨⟩ h;exact Sr [3,7]
def qQ{N b0 r}(h:kf N b0=some r):Sq 221 [(1000,.box [.aN 1001] 30),(1001,eS b0)] [.ptr 1000 0] (.agg (eV r.1)) [(1000,.box [.aN 2] 30),(2,eS r.2),(1001,.aK)] [2]:=by
 refine so func221 ntmps221 fun c u=>?_;refine rB 1000 0 1001 320 ?_;refine B [3,3,13,12] fun _ a h=>?_;refine R7 a ?_;refine Q9 (l6 a).2 ?_;refine A [3,13,12] fun b h=>?_;refine j7 b rfl rfl ?_;exact Sr [3,7] [(2,13)]
def Ie{N a0 a1 a2 a3 r}(h:va N a0 a1 a2 a3=some r):Sq 223 [(1000,.box [Y1 a0.w.a7,cC a0.w.heap,.int a0.w.aC,.int a0.fuel,.int a0.sends,.int a0.turns,.int a0.deep,.int a0.err,.aN 1001,.aN 1002] 198),(1001,fU a0.sites),(1002,w3 a0.of)] [.ptr 1000 0,.agg (eV a1),.int a2,.agg (eV a3)] (.aX []) [(1000,.box [Y1 r.w.a7,cC r.w.heap,.int r.w.aC,.int r.fuel,.int r.sends,.int r.turns,.int r.deep,.int r.err,.aN 2,.aN 3] 198),(2,fU r.sites),(1001,.aK),(3,w3 r.of),(1002,.aK)] [2,3]:=by
 refine so func223 ntmps223 fun l u=>?_;refine rB 1000 8 1001 320 ?_;refine rB 1000 9 1002 321 ?_;refine S [15,3,3,12] ?_;refine bS eQ ([]:List Ob) ?_;refine A [] fun f h=>?_;refine aM f ?_;refine S [2] ?_;refine Jb 37 u h [0,2,5,7,8] [5,7,16,320,321,1000,1001,1002] (fun _ h g=>?_) ?_
 ·refine I [5] ?_ ?_<;>intro _ h
  ·refine I [0,13,0] ?_ ?_<;>intro _ h
   ·refine B [0] fun _ e h=>?_;refine R7 e ?_;refine S [0] ?_;refine Q9 (l6 e).2 ?_;exact Sj [0,13,0]
   exact Sj [0]
  exact Sj [0]
 intro k h;refine I [4] ?_ ?_<;>intro _ h
 ·refine S [3] ?_;refine bS eV ([]:List V) ?_;refine B [] fun i a h=>?_;refine R7 a ?_;refine Q9 (l6 a).2 ?_;refine A [] fun d h=>?_;refine aM d ?_;refine B [3] fun _ b h=>?_;refine R7 b ?_;refine sM (l6 b).2 a3 ?_;refine j5.aY 45 rfl ?_;refine kd [0,5,8,9] [5,16,320,321,1000,1001,1002] ?_;refine B [3] fun j c h=>?_;refine R7 c ?_;refine sM (l6 c).2 (⟨j.cls,((([]:List V)++i.aG).set a2.toNat a3)⟩:Ob) ?_;refine S [5] ?_;refine V9.aY 16 rfl ?_;exact Sr [14] [(2,320),(3,321)]
 exact Sr [1,14] [(2,320),(3,321)]
def IG{N gR b i d j O r}(h:vM N gR b i d j O=some r)(hgR:∀(N:Nat) (b:TR) (i:Int) (d:Int) (j:V) (O:(List V)) (r:(V×TR)),gR N b i d j O=some r->Sq 159 [(1000,.box [Y1 b.w.a7,cC b.w.heap,.int b.w.aC,.int b.fuel,.int b.sends,.int b.turns,.int b.deep,.int b.err,.aN 1001,.aN 1002] 198),(1001,fU b.sites),(1002,w3 b.of)] [.ptr 1000 0,.int i,.int d,.agg (eV j),lR O] (.agg (eV r.1)) [(1000,.box [Y1 r.2.w.a7,cC r.2.w.heap,.int r.2.w.aC,.int r.2.fuel,.int r.2.sends,.int r.2.turns,.int r.2.deep,.int r.2.err,.aN 2,.aN 3] 198),(2,fU r.2.sites),(1001,.aK),(3,w3 r.2.of),(1002,.aK)] [2,3]):Sq 193 [(1000,.box [Y1 b.w.a7,cC b.w.heap,.int b.w.aC,.int b.fuel,.int b.sends,.int b.turns,.int b.deep,.int b.err,.aN 1001,.aN 1002] 198),(1001,fU b.sites),(1002,w3 b.of)] [.ptr 1000 0,.int i,.agg (I4 d),.agg (eV j),lR O] (.agg (eV r.1)) [(1000,.box [Y1 r.2.w.a7,cC r.2.w.heap,.int r.2.w.aC,.int r.2.fuel,.int r.2.sends,.int r.2.turns,.int r.2.deep,.int r.2.err,.aN 2,.aN 3] 198),(2,fU r.2.sites),(1001,.aK),(3,w3 r.2.of),(1002,.aK)] [2,3]:=by
 refine so func193 ntmps193 fun Γ u=>?_;refine rB 1000 8 1001 320 ?_;refine rB 1000 9 1002 321 ?_;refine A [3,3] fun hg1 h=>?_;refine j8 (enc:=eV) (x:=(⟨(0:Int),(0:Int)⟩:V)) hg1 aT ?_;refine S [3,3,3,2] ?_;refine nB 12 0 501 2 29 ?_;refine LF e1 u (b.w.a7,b.w.heap,b.w.aC,b.fuel,b.sends,b.turns,b.deep,b.err,b.sites,b.of,(QH d.a8.toNat (⟨(0:Int),(0:Int)⟩:V)),([]:List V),(0:Int)) (fun l v=>I8 N gR i d j O l v.1 v.2.1 v.2.2.1 v.2.2.2.1 v.2.2.2.2.1 v.2.2.2.2.2.1 v.2.2.2.2.2.2.1 v.2.2.2.2.2.2.2.1 v.2.2.2.2.2.2.2.2.1 v.2.2.2.2.2.2.2.2.2.1 v.2.2.2.2.2.2.2.2.2.2.1 v.2.2.2.2.2.2.2.2.2.2.2.1 v.2.2.2.2.2.2.2.2.2.2.2.2) h (fun v=>[(14,.int v.2.2.2.2.2.2.2.2.2.2.2.2)]) (fun v=>[(27,eS v.2.2.2.2.2.2.2.2.2.2.1),(320,fU v.2.2.2.2.2.2.2.2.1),(321,w3 v.2.2.2.2.2.2.2.2.2.1),(501,eS v.2.2.2.2.2.2.2.2.2.2.2.1),(1000,.box [Y1 v.1,cC v.2.1,.int v.2.2.1,.int v.2.2.2.1,.int v.2.2.2.2.1,.int v.2.2.2.2.2.1,.int v.2.2.2.2.2.2.1,.int v.2.2.2.2.2.2.2.1,.aN 320,.aN 321] 198)]) [0,1,4,7,8,10,11,12,13] [7,8,10,12,1001,1002] [] nl (fun s=>[(320,fU s.2.2.2.2.2.2.2.2.1),(321,w3 s.2.2.2.2.2.2.2.2.2),(1000,.box [Y1 s.1,cC s.2.1,.int s.2.2.1,.int s.2.2.2.1,.int s.2.2.2.2.1,.int s.2.2.2.2.2.1,.int s.2.2.2.2.2.2.1,.int s.2.2.2.2.2.2.2.1,.aN 320,.aN 321] 198)]) [0,10] [10,1001,1002] ?_ ?_
 ·rintro _ g ⟨v3,v4,v5,v6,v7,v8,v9,v10,v11,v12,v13,v14,v15⟩ n42 h;rw[I8] at h;refine I [2,3,4] ?_ ?_<;>intro _ h
  ·refine B [1,6,3] fun x44 hx45 h=>?_;refine E5 hx45 ?_;refine kd [0,1,4,7,8,10,11,12,13,14,15] [7,8,10,12,15,27,320,321,501,1000,1001,1002] ?_;refine S [3,12,2,3] ?_;refine J e1 u h (fun s=>[(16,.int s.2.2.2.2.2.2.2.2.2.2.2.2)]) (fun s=>[(12,.box [.aN 48] 30),(27,eS s.2.2.2.2.2.2.2.2.2.2.1),(48,eS s.2.2.2.2.2.2.2.2.2.2.2.1),(320,fU s.2.2.2.2.2.2.2.2.1),(321,w3 s.2.2.2.2.2.2.2.2.2.1),(1000,.box [Y1 s.1,cC s.2.1,.int s.2.2.1,.int s.2.2.2.1,.int s.2.2.2.2.1,.int s.2.2.2.2.2.1,.int s.2.2.2.2.2.2.1,.int s.2.2.2.2.2.2.2.1,.aN 320,.aN 321] 198)]) [0,1,4,7,8,10,11,12,13,14] [7,8,10,1001,1002] (fun _ h g=>?_) ?_
   ·refine I [6,3,4] ?_ ?_<;>intro _ h
    ·refine kd [0,1,4,7,8,10,11,12,13,14,16] [7,8,10,12,27,320,321,501,1000,1001,1002] ?_;refine S [5] ?_;refine bS eV [j] ?_;refine A [] fun P h=>?_;refine aM P ?_;exact je
    refine kd [0,1,4,7,8,10,11,12,13,14,15,16,42] [7,8,10,12,15,27,320,321,501,1000,1001,1002] ?_;refine I [3,4] ?_ ?_<;>intro _ h
    ·refine B [8] fun x63 hx64 h=>?_;refine E5 hx64 ?_;refine bS eV [x63] ?_;refine A [] fun Q h=>?_;refine aM Q ?_;exact je [(48,58)]
    refine I [3,4] ?_ ?_<;>intro _ h
    ·refine kd [0,1,4,7,8,10,11,12,13,14,15,16] [7,8,10,12,15,27,320,321,501,1000,1001,1002] ?_;refine B [8] fun x67 e h=>?_;refine R7 e ?_;refine Q9 (l6 e).2 ?_;refine bS eV [x67] ?_;refine A [] fun R h=>?_;refine aM R ?_;exact je [(48,68)]
    refine kd [0,1,4,7,8,10,11,12,13,14,15,16,42] [7,8,10,12,15,27,320,321,501,1000,1001,1002] ?_;refine I [3,4] ?_ ?_<;>intro _ h
    ·refine B [8] fun r71 hr72 h=>?_;refine cA (Jh hr72) ?_;refine bS eV [r71] ?_;refine A [] fun T h=>?_;refine aM T ?_;exact je [(48,82)]
    refine I [3,4] ?_ ?_<;>intro _ h
    ·refine kd [0,1,4,7,8,10,11,12,13,14,15,16] [7,8,10,12,15,27,320,321,501,1000,1001,1002] ?_;refine S [5] ?_;refine bS eV [(⟨(3:Int),x44.a⟩:V)] ?_;refine A [] fun U h=>?_;refine aM U ?_;exact je [(48,90)]
    refine kd [0,1,4,7,8,10,11,12,13,14,15,16,42] [7,8,10,12,15,27,320,321,501,1000,1001,1002] ?_;refine I [3,4] ?_ ?_<;>intro _ h
    ·refine S [5] ?_;refine bS eV [(⟨(0:Int),(0:Int)⟩:V)] ?_;refine A [] fun W h=>?_;refine aM W ?_;exact je [(48,96)]
    refine I [3,4] ?_ ?_<;>intro _ h
    ·refine kd [0,1,4,7,8,10,11,12,13,14,16] [7,8,10,12,27,320,321,501,1000,1001,1002] ?_;refine B [8] fun r79 hr80 h=>?_;refine cA (vV hr80) ?_;refine bS eV [r79] ?_;refine A [] fun X h=>?_;refine aM X ?_;exact je [(48,102)]
    refine kd [0,1,4,7,8,10,11,12,13,14,15,16,42] [7,8,10,12,15,27,320,321,501,1000,1001,1002] ?_;refine I [3,4] ?_ ?_<;>intro _ h
    ·refine B [8] fun r83 hr84 h=>?_;refine cA (vV hr84) ?_;refine bS eV [r83] ?_;refine A [] fun Y h=>?_;refine aM Y ?_;exact je [(48,108)]
    refine I [3,4] ?_ ?_<;>intro _ h
    ·refine kd [0,1,4,7,8,10,11,12,13,14,16] [7,8,10,12,27,320,321,501,1000,1001,1002] ?_;refine B [5] fun _ hr88 h=>?_;refine cA ((((qQ hr88).sw 1000 12).sw 1001 501).sw 2 502) ?_;exact je [(48,502)]
    refine kd [0,1,4,7,8,10,11,12,13,14,15,16,42] [7,8,10,12,15,27,320,321,501,1000,1001,1002] ?_;refine I [3,4] ?_ ?_<;>intro _ h
    ·refine B [3] fun r90 hr91 h=>?_;refine cA ((((qQ hr91).sw 1000 12).sw 1001 501).sw 2 503) ?_;refine kd [0,1,4,7,8,10,11,12,13,14,16,17] [7,8,10,12,17,27,320,321,503,1000,1001,1002] ?_;refine S [5] ?_;refine bS eV [r90.1,r90.1] ?_;refine A [] fun Z h=>?_;refine aM Z ?_;exact je [(48,121)]
    refine I [3,4] ?_ ?_<;>intro _ h
    ·refine kd [0,1,4,7,8,10,11,12,13,14,15,16] [7,8,10,12,15,27,320,321,501,1000,1001,1002] ?_;refine B [8] fun r94 hr95 h=>?_;refine cA ((((qQ hr95).sw 1000 12).sw 1001 501).sw 2 504) ?_;refine B [] fun _ f h=>?_;refine R7 f ?_;refine sM (l6 f).2 r94.1 ?_;exact je [(48,504)]
    refine kd [0,1,4,7,8,10,11,12,13,14,15,16,42] [7,8,10,12,15,27,320,321,501,1000,1001,1002] ?_;refine I [3,4] ?_ ?_<;>intro _ h
    ·refine B [8] fun _ D h=>?_;refine cA ((((qQ D).sw 1000 12).sw 1001 501).sw 2 505) ?_;refine B [] fun _ E h=>?_;refine cA ((Ie E).bB [(1001,320),(1002,321),(2,506),(3,507)] rfl) ?_;exact je [(320,506),(321,507),(48,505)]
    refine I [3,4] ?_ ?_<;>intro _ h
    ·refine S [2] ?_;refine kd [0,1,4,7,8,10,11,12,13,14,15,16] [7,8,10,12,15,27,320,321,501,1000,1001,1002] ?_;refine I [3,13,4] ?_ ?_<;>intro _ h
     ·refine kd [0,1,4,7,8,10,11,12,13,14,16] [7,8,10,12,27,320,321,501,1000,1001,1002] ?_;exact Sj [3,20] [(48,501)]
     refine S [1,2] ?_;refine kd [0,1,4,7,8,10,11,12,13,14,15,16] [7,8,10,12,15,27,320,321,501,1000,1001,1002] ?_;refine S [8,13] ?_;refine bS eV [(⟨(4:Int),(v4.length:Int)⟩:V)] ?_;refine A [] fun k h=>?_;refine aM k ?_;refine kd [0,1,4,7,8,10,11,12,13,14,15,16] [7,8,10,12,15,27,160,320,321,1000,1001,1002] ?_;refine S [8,12] ?_;refine bS eQ ([]:List Ob) ?_;refine A [] fun m h=>?_;refine aM m ?_;refine B [] fun r109 F h=>?_;refine cA (oG F) ?_;refine A [] fun n h=>?_;refine j8 (enc:=eV) (x:=(⟨(0:Int),(0:Int)⟩:V)) n aT ?_;refine S [12] ?_;refine bS eQ [(⟨x44.a,(QH r109.toNat (⟨(0:Int),(0:Int)⟩:V))⟩:Ob)] ?_;refine A [] fun o h=>?_;refine aM o ?_;refine V9.aY 181 rfl ?_;exact je [(48,160)]
    refine kd [0,1,4,7,8,10,11,12,13,14,15,16,42] [7,8,10,12,15,27,320,321,501,1000,1001,1002] ?_;refine I [3,4] ?_ ?_<;>intro _ h
    ·refine S [3,13,12,2] ?_;refine kd [0,1,4,7,8,10,11,12,13,14,15,16,18] [7,8,10,12,15,27,320,321,501,1000,1001,1002] ?_;refine S [8] ?_;refine bS eV ([]:List V) ?_;refine A [] fun p h=>?_;refine d66 p rfl rfl ?_;refine A [] fun q h=>?_;refine aM q ?_;refine B [12] fun _ c h=>?_;refine R7 c ?_;refine Q9 (l6 c).2 ?_;refine kd [0,1,4,7,8,10,11,12,13,14,15,16,18,19,20] [7,8,10,12,15,20,27,196,320,321,501,1000,1001,1002] ?_;refine A [3,12] fun t h=>?_;refine j7 t rfl rfl ?_;refine S [2] ?_;refine kd [0,1,4,7,8,10,11,12,13,14,15,16,19,20] [7,8,10,12,15,20,27,196,205,320,321,1000,1001,1002] ?_;refine B [8] fun r120 G h=>?_;refine cA (Cq G) ?_;refine S [2] ?_;refine kd [0,1,4,7,8,10,11,12,13,14,15,16,19,20,21] [7,8,10,12,15,20,27,196,205,320,321,1000,1001,1002] ?_;refine S [8] ?_;refine bS Z8 [(⟨i,d.name,v15⟩:St)] ?_;refine A [] fun y h=>?_;refine aM y ?_;refine bS bY [r120] ?_;refine A [] fun z h=>?_;refine aM z ?_;refine S [2] ?_;refine kd [0,1,4,7,8,10,11,12,13,14,15,16,19,20,21] [7,8,10,12,15,20,27,196,205,225,232,1000,1001,1002] ?_;refine B [8] fun _ H h=>?_;refine cA (yW H) ?_;refine S [2] ?_;refine kd [0,1,4,7,8,10,11,12,13,14,16,19,20,22,23] [7,8,10,12,20,27,196,205,225,232,1000,1001,1002] ?_;refine I [3,4] ?_ ?_<;>intro _ h
     ·refine kd [0,1,4,7,8,10,11,12,13,14,16] [7,8,10,12,27,205,225,232,1000,1001,1002] ?_;exact Sj [3,20] [(320,225),(321,232),(48,205)]
     refine S [1] ?_;refine kd [0,1,4,7,8,10,11,12,13,14,16,19,20,22,23] [7,8,10,12,20,27,196,205,225,232,1000,1001,1002] ?_;refine B [8] fun r127 K h=>?_;refine cF ((hgR N _ _ _ _ _ _ K).bB [(1001,225),(1002,232),(2,508),(3,509)] rfl) ?_;refine bS eV [r127.1] ?_;refine A [] fun C h=>?_;refine aM C ?_;exact je [(320,508),(321,509),(48,261)]
    refine I [3,4] ?_ ?_<;>intro _ h
    ·refine kd [0,1,4,7,8,10,11,12,13,14,15] [7,8,10,12,15,27,320,321,501,1000,1001,1002] ?_;exact Sj [5] [(48,501)]
    refine kd [0,1,4,7,8,10,11,12,13,14,15,16,42] [7,8,10,12,15,27,320,321,501,1000,1001,1002] ?_;refine I [3,4] ?_ ?_<;>intro _ h
    ·refine B [3] fun _ L h=>?_;refine cA ((((qQ L).sw 1000 12).sw 1001 501).sw 2 510) ?_;refine kd [0,1,4,7,8,10,11,12,13,14,15,16,24] [7,8,10,12,15,24,27,320,321,510,1000,1001,1002] ?_;refine I [3,4] ?_ ?_<;>intro _ h
     ·exact Sj [5] [(48,510)]
     refine I [3,4] ?_ ?_<;>intro _ h
     ·refine kd [0,1,4,7,8,10,11,12,13,14,16] [7,8,10,12,27,320,321,510,1000,1001,1002] ?_;exact Sj [5] [(48,510)]
     exact Sj [1] [(48,510)]
    refine I [3,4] ?_ ?_<;>intro _ h
    ·refine kd [0,10,13] [10,12,320,321,501,1000,1001,1002] ?_;refine B [3] fun _ M h=>?_;refine cA ((((qQ M).sw 1000 12).sw 1001 501).sw 2 511) ?_;exact Sr [7] [(2,320),(3,321)]
    exact Sj [1] [(48,501)]
   rintro⟨v46,v47,v48,v49,v50,v51,v52,v53,v54,v55,v56,v57,v58⟩ h;refine S [2,3] ?_;refine J e0 u h nl (fun s=>[(1000,.box [Y1 v46,cC v47,.int v48,.int v49,.int v50,.int s.1,.int v52,.int s.2,.aN 320,.aN 321] 198)]) [0,1,4,7,8,10,11,12,13,16] [7,8,10,12,27,48,320,321,1001,1002] (fun _ h g=>?_) ?_
   ·refine I [4] ?_ ?_<;>intro _ h
    ·refine S [3,12] ?_;refine kd [0,1,4,7,8,10,11,12,13,16] [7,8,10,12,27,48,320,321,1000,1001,1002] ?_;exact E9 [3,4] [5] [1]
    exact Sj [1]
   rintro⟨v139,v140⟩ h;refine S [5] ?_;exact le (v46,v47,v48,v49,v50,v139,v52,v140,v54,v55,v56,v57,v58) [(501,48)]
  exact Sj [20]
 rintro⟨v29,v30,v31,v32,v33,v34,v35,v36,v37,v38⟩ h;exact Sr [3,7] [(2,320),(3,321)]
def Hz(N n:Nat)(a:TR)(b:Int)(c:Int)(d:V)(e:(List V))(r:(V×TR))(h:O0 N n a b c d e=some r):Sq 159 [(1000,.box [Y1 a.w.a7,cC a.w.heap,.int a.w.aC,.int a.fuel,.int a.sends,.int a.turns,.int a.deep,.int a.err,.aN 1001,.aN 1002] 198),(1001,fU a.sites),(1002,w3 a.of)] [.ptr 1000 0,.int b,.int c,.agg (eV d),lR e] (.agg (eV r.1)) [(1000,.box [Y1 r.2.w.a7,cC r.2.w.heap,.int r.2.w.aC,.int r.2.fuel,.int r.2.sends,.int r.2.turns,.int r.2.deep,.int r.2.err,.aN 2,.aN 3] 198),(2,fU r.2.sites),(1001,.aK),(3,w3 r.2.of),(1002,.aK)] [2,3]:=by
  induction n generalizing a b c d e r with
  |zero =>
    have h:(none:Option (V×TR))=some r:=h;cases h
  |succ n ih=>exact Hv h (fun _ m o p q s r h=>IG h (fun _ f i j k l r h=>ih f i j k l r h))
def Hb{N a0 a1 a2 a3 a4 r}(h:yR N a0 a1 a2 a3 a4=some r):Sq 159 [(1000,.box [Y1 a0.w.a7,cC a0.w.heap,.int a0.w.aC,.int a0.fuel,.int a0.sends,.int a0.turns,.int a0.deep,.int a0.err,.aN 1001,.aN 1002] 198),(1001,fU a0.sites),(1002,w3 a0.of)] [.ptr 1000 0,.int a1,.int a2,.agg (eV a3),lR a4] (.agg (eV r.1)) [(1000,.box [Y1 r.2.w.a7,cC r.2.w.heap,.int r.2.w.aC,.int r.2.fuel,.int r.2.sends,.int r.2.turns,.int r.2.deep,.int r.2.err,.aN 2,.aN 3] 198),(2,fU r.2.sites),(1001,.aK),(3,w3 r.2.of),(1002,.aK)] [2,3]:=by
  exact Hz N N a0 a1 a2 a3 a4 r h
def KC{N a0 a1 a2 r}(h:vD N a0 a1 a2=some r):Sp 115 [.agg (M3 a0),.agg (ir a1),.int a2] (.aX [.agg (M3 r.1),.agg (pU r.2.1),.fp (MK r.2.2)]):=by
 refine so func115 ntmps115 fun e u=>?_;refine B [3,3,2,3] fun _ b h=>?_;refine cA (ID b) ?_;refine kd [3,4,6,7,9,10] [3,4,6,7,17] ?_;refine I [3,4] ?_ ?_<;>intro _ h
 ·refine S [3] ?_;refine nB 17 8 501 3 156 ?_;refine nB 17 9 502 1 3 ?_;refine j5.aY 501 rfl ?_;refine j5.aY 502 rfl ?_;refine j5.gh (Gh.ao 8 17 rfl rfl rfl) (fun _=>?_);exact Sr [7]
 refine B [1,2,8] fun _ c h=>?_;refine cA (Cq c) ?_;refine B [] fun _ d h=>?_;refine cA (yW d) ?_;refine S [2] ?_;refine kd [3,4,6,7,9,11,12] [3,4,6,7,17] ?_;refine I [3,4] ?_ ?_<;>intro _ h
 ·refine S [3] ?_;refine nB 17 8 503 3 156 ?_;refine nB 17 9 504 1 3 ?_;refine j5.aY 503 rfl ?_;refine j5.aY 504 rfl ?_;refine j5.gh (Gh.ao 8 17 rfl rfl rfl) (fun _=>?_);exact Sr [7]
 refine S [1] ?_;refine nB 17 8 505 3 156 ?_;refine nB 17 9 506 1 3 ?_;refine kd [3,4,6,7,9,11,12] [3,4,6,7,17,505,506] ?_;refine B [3] fun _ a h=>?_;refine cA ((Hb a).bB [(1000,17),(1001,505),(1002,506),(2,507),(3,508)] rfl) ?_;refine I [2,3,4] ?_ ?_<;>intro _ h
 ·refine S [2] ?_;refine kd [3,6,7,9] [3,6,7,17,507,508] ?_;refine S [8] ?_;refine j5.aY 507 rfl ?_;refine j5.aY 508 rfl ?_;refine j5.gh (Gh.ao 8 17 rfl rfl rfl) (fun _=>?_);exact Sr [7]
 refine S [1,2] ?_;refine kd [6,7,9,13] [6,7,13,17,507,508] ?_;refine S [8] ?_;refine j5.aY 507 rfl ?_;refine j5.aY 508 rfl ?_;refine j5.gh (Gh.ao 8 17 rfl rfl rfl) (fun _=>?_);exact Sr [7]
def JD{N a0 a1 a2 r}(h:vo N a0 a1 a2=some r):Sq 116 [] [fR a0,.agg (Z8 a1),.int a2] (.aN 0) [(0,mq r)] [0]:=by
 refine so func116 ntmps116 fun Q u=>?_;refine S [3,3,3,2,3] ?_;refine F6 fun w=>?_;refine nR 7 207 4 162 ?_;refine LR e0 u (([]:List Tl),false) (fun l k v=>Y5 N a1 a2 l k v.1 v.2) h (fun p v=>[(8,.bool v.2),(17,.int (p:Int))]) (fun p v=>[(207,mq v.1)]) [2,4,7,15,16] [4] [] (fun s=>[(8,.bool s.2)]) (fun s=>[(207,mq s.1)]) [2,4,7] [4] ?_ ?_ ?_
 ·rintro _ g p ⟨B,G⟩ h _;rw[Y5] at h;exact Sj [3,2,4,0,20]
 ·rintro _ g p ⟨B,G⟩ L q h _ b _;rw[Y5] at h;refine S [3,2,4,0,1,2,6,3] ?_;refine H6 b ?_;refine S [2,2] ?_;refine Jb 28 u h [2,4,7,8,10,15,16,17] [4,10,207] (fun _ h g=>?_) ?_
  ·exact E9 [5] [0] [0]
  intro C h;refine J e0 u h (fun s=>[(8,.bool s.1)]) (fun s=>[(10,.box (fx s.2) 162)]) [2,4,7,10,15,16,17] [4,207] (fun _ h g=>?_) ?_
  ·refine I [4] ?_ ?_<;>intro _ h
   ·refine S [3,3,3,2,3] ?_;refine F6 fun j=>?_;refine nR 11 211 2 167 ?_;refine LR e0 u (([]:List Ln),false) (fun l k v=>Y0 N a2 l k v.1 v.2) h (fun a v=>[(12,.bool v.2),(32,.int (a:Int))]) (fun a v=>[(211,Ao v.1)]) [2,4,7,8,10,11,15,16,17,30,31] [4,10,207] [] (fun s=>[(12,.bool s.2)]) (fun s=>[(211,Ao s.1)]) [2,4,7,8,10,11,15,16,17] [4,10,207] ?_ ?_ ?_
    ·rintro _ g a ⟨n,y⟩ h _;rw[Y0] at h;exact Sj [3,2,4,0,20]
    ·rintro _ g a ⟨n,y⟩ M t h _ c _;rw[Y0] at h;refine S [3,2,4,0,1,2,6,3] ?_;refine H6 c ?_;refine S [2,2] ?_;refine Jb 43 u h [2,4,7,8,10,11,12,14,15,16,17,30,31,32] [4,10,14,207,211] (fun _ h g=>?_) ?_
     ·refine kd [2,4,7,8,10,11,12,14,15,16,17,30,31,32] [4,10,14,207,211] ?_;exact E9 [5] [0] [0]
     intro F h;refine J e0 u h (fun s=>[(12,.bool s.1)]) (fun s=>[(14,.box (O6 s.2) 167)]) [2,4,7,8,10,11,14,15,16,17,30,31,32] [4,10,207,211] (fun _ h g=>?_) ?_
     ·refine I [4] ?_ ?_<;>intro _ h
      ·refine S [3,12] ?_;refine kd [2,4,7,8,10,11,14,15,16,17,30,31,32] [4,10,14,207,211] ?_;exact Sj [5]
      exact Sj [1]
     rintro⟨z,o⟩ h;refine S [5] ?_;refine bS O6 [o] ?_;refine A [] fun d h=>?_;refine aM d ?_;refine kd [2,4,7,8,10,11,12,15,16,17,30,31,32] [4,10,51,207] ?_;refine S [5] ?_;refine IN (AN (G6 c j) ?_);exact le ((n++[o]),z) [(211,51)]
    rintro⟨D,E⟩ h;refine S [2,3] ?_;refine J e0 u h (fun s=>[(11,.aN 59)]) (fun s=>[(59,Ao s)]) [2,4,7,8,10,15,16,17] [4,10,207] (fun _ h g=>?_) ?_
    ·refine I [4] ?_ ?_<;>intro _ h
     ·refine S [5] ?_;refine bS O6 [(⟨a2,(1:Int)⟩:Ln)] ?_;refine A [] fun e h=>?_;refine aM e ?_;exact je
     exact Sj [1] [(59,211)]
    intro H h;refine S [5] ?_;refine V9.aY 59 rfl ?_;exact je
   exact Sj [1]
  rintro⟨x,m⟩ h;refine S [5] ?_;refine bS fx [m] ?_;refine A [] fun f h=>?_;refine aM f ?_;refine S [5] ?_;refine IN (AN (G6 b w) ?_);exact le ((B++[m]),x) [(207,65)]
 rintro⟨O,P⟩ h;refine S [2,3] ?_;refine J e0 u h (fun s=>[(7,.aN 76)]) (fun s=>[(76,mq s)]) [] [] (fun _ h g=>?_) ?_
 ·refine I [4] ?_ ?_<;>intro _ h
  ·refine S [5] ?_;refine bS O6 [(⟨a2,(1:Int)⟩:Ln)] ?_;refine bS fx [(⟨a1,[(⟨a2,(1:Int)⟩:Ln)]⟩:Tl)] ?_;refine A [] fun i h=>?_;refine aM i ?_;exact je
  exact Sj [1] [(76,207)]
 intro K h;exact Sr [3,7] [(0,76)]
def IJ{N a0 a1 a2 a3 r}(h:uy N a0 a1 a2 a3=some r):Sp 117 [fW a0,.agg (Z8 a1),.int a2,.int a3] (.int r):=by
 refine so func117 ntmps117 fun p u=>?_;refine S [3,2,3] ?_;refine F6 fun i=>?_;refine LR e1 u () (fun l k v=>oR N a1 a2 a3 l k) h (fun e v=>[(15,.int (e:Int))]) (fun e v=>[]) [2,3,5,13,14] [5] [] nl nl [] [] ?_ ?_ ?_
 ·intro _ g e _ h _;rw[oR] at h;exact Sj [3,2,4,0,20]
 ·intro _ g e _ o j h _ d _;rw[oR] at h;refine S [3,2,4,0,1,2,6,3] ?_;refine H6 d ?_;refine I [3,4] ?_ ?_<;>intro _ h
  ·refine S [2,3] ?_;refine F6 fun c=>?_;refine LR e1 u () (fun l k v=>oU N a2 a3 o l k) h (fun a v=>[(26,.int (a:Int))]) (fun a v=>[]) [2,3,10,24,25] [10] [] nl nl [] [] ?_ ?_ ?_
   ·intro _ g a _ h _;rw[oU] at h;exact Sj [3,2,4,0,20]
   ·intro _ g a _ n f h _ b _;rw[oU] at h;refine S [3,2,4,0,1,2,6,3] ?_;refine H6 b ?_;refine S [2] ?_;refine Jb 39 u h [2,3,10,12,24,25,26] [10,12] (fun _ h g=>?_) ?_
    ·exact E9 [5] [0] [0]
    intro m h;refine Ir [4] [3,7] fun _ h=>?_;refine S [1,5] ?_;refine IN (AN (G6 b c) ?_);exact le () []
   rintro⟨⟩ h;exact Sr [3,7]
  refine S [1,5] ?_;refine IN (AN (G6 d i) ?_);exact le () []
 rintro⟨⟩ h;exact Sr [3,7]
def IW{N a0 a1 r}(h:ve N a0 a1=some r):Sp 119 [.agg (M3 a0),.agg (Z8 a1)] (.int r):=by
 refine so func119 ntmps119 fun i u=>?_;refine B [3,2,3] fun _ d h=>?_;refine E5 d ?_;refine F6 fun c=>?_;refine LR e1 u () (fun l k v=>ny N a1 l k) h (fun b v=>[(15,.int (b:Int))]) (fun b v=>[]) [3,13,14] [3] [] nl nl [] [] ?_ ?_ ?_
 ·intro _ g b _ h _;rw[ny] at h;exact Sj [3,2,4,0,20]
 ·intro _ g b _ f e h _ a _;rw[ny] at h;refine S [3,2,4,0,1,2,6,3] ?_;refine H6 a ?_;refine Ir [3,4] [3,7] fun _ h=>?_;refine S [1,5] ?_;refine IN (AN (G6 a c) ?_);exact le () []
 rintro⟨⟩ h;exact Sr [3,7]
def Ch{N a0 b0 b1 b2 b3 b4 b5 r}(h:sd N a0 b0 b1 b2 b3 b4 b5=some r):Sq 160 [(1080,.box [.aN 1081] 41),(1081,jf b4),(1096,.box [.bool b5] 4)] [.agg (fJ a0),.fp [.int b0],.fp (Z8 b1),.fp [.int b2],.fp [.int b3],.ptr 1080 0,.ptr 1096 0] (.aX []) [(1080,.box [.aN 82] 41),(82,jf r.1),(1081,.aK),(1096,.box [.bool r.2] 4)] [82]:=by
 refine so func160 ntmps160 fun w u=>?_;refine rB 1080 0 1081 400 ?_;refine S [15,3,2,3] ?_;refine J e0 u h nl (fun s=>[(7,.box (fJ s) 159)]) [3,4,5,6,7] [400,1080,1081,1096] (fun _ h g=>?_) ?_
 ·refine I [4] ?_ ?_<;>intro _ h
  ·refine S [5] ?_;refine V9.cU 7 [.int b1.cls,.str b1.name,.int b1.pos,.int b0,.bool false,rT ([]:List Ln)] rfl aT ?_;exact je
  exact Sj [1]
 intro e h;refine S [3,2,3] ?_;refine F6 fun j=>?_;refine LR e0 u e.many (fun l k v=>lh N b2 l k v) h (fun f v=>[(8,.bool v),(23,.int (f:Int))]) (fun f v=>[]) [3,4,5,6,7,21,22] [7,400,1080,1081,1096] [] (fun s=>[(8,.bool s)]) nl [3,4,5,6,7] [7,400,1080,1081,1096] ?_ ?_ ?_
 ·intro _ g f p h _;rw[lh] at h;exact Sj [3,2,4,0,20]
 ·intro _ g f p q i h _ a _;rw[lh] at h;refine S [3,2,4,0,1,2] ?_;refine Jb 8 u h [3,4,5,6,7,21,22,23] [7,400,1080,1081,1096] (fun _ h g=>?_) ?_
  ·refine S [6,3] ?_;refine H6 a ?_;exact E9 [5] [0] [0]
  intro m h;refine S [5] ?_;refine IN (AN (G6 a j) ?_);exact le m []
 intro t h;refine S [2,2] ?_;refine Jb 42 u h [3,4,5,6,7,8] [7,400,1080,1081,1096] (fun _ h g=>?_) ?_
 ·exact E9 [5] [0,13,0] [0]
 intro o h;refine J e0 u h nl (fun s=>[(7,.box (fJ s) 159)]) [5,6,7] [400,1080,1081,1096] (fun _ h g=>?_) ?_
 ·refine I [4] ?_ ?_<;>intro _ h
  ·refine S [5] ?_;refine V9.cU 7 [.int e.site.cls,.str e.site.name,.int e.site.pos,.int e.aC,.bool true,rT ([]:List Ln)] rfl aT ?_;exact je
  refine I [3,4] ?_ ?_<;>intro _ h
  ·refine S [8] ?_;refine bS O6 ([]:List Ln) ?_;refine A [] fun b h=>?_;refine aM b ?_;refine bS O6 [(⟨b2,b3⟩:Ln)] ?_;refine A [] fun c h=>?_;refine aM c ?_;refine V9.aY 55 rfl ?_;exact je
  exact Sj [1]
 intro n h;refine S [3] ?_;refine bS fJ [n] ?_;refine A [] fun d h=>?_;refine aM d ?_;exact Sr [5,14] [(82,60)]
def KK{N a0 a1 a2 a3 a4 r}(h:tF N a0 a1 a2 a3 a4=some r):Sq 120 [] [fW a0,.agg (Z8 a1),.int a2,.int a3,.int a4] (.aN 0) [(0,jf r)] [0]:=by
 refine so func120 ntmps120 fun y u=>?_;refine S [3,3,3] ?_;refine j5.gh (Gh.ao 6 6 rfl rfl rfl) (fun _=>?_);refine j5.gh (Gh.ao 7 7 rfl rfl rfl) (fun _=>?_);refine j5.gh (Gh.ao 8 8 rfl rfl rfl) (fun _=>?_);refine j5.gh (Gh.ao 9 9 rfl rfl rfl) (fun _=>?_);refine kd [0,6,7,8,9,11,12] [11,12] ?_;refine S [3,2,3] ?_;refine F6 fun i=>?_;refine nB 11 0 501 6 159 ?_;refine LR e0 u (([]:List Ce),false) (fun l k v=>jF N a1 a2 a3 a4 l k v.1 v.2) h (fun e v=>[(19,.int (e:Int))]) (fun e v=>[(12,.box [.bool v.2] 4),(501,jf v.1)]) [6,7,11,12,13,17,18] [11] [] nl (fun s=>[(12,.box [.bool s.2] 4),(501,jf s.1)]) [6,7,11,12,13] [11] ?_ ?_ ?_
 ·rintro _ g e ⟨q,t⟩ h _;rw[jF] at h;exact Sj [3,2,4,0,20]
 ·rintro _ g e ⟨q,t⟩ n f h _ a _;rw[jF] at h;refine S [3,2,4,0,1,2] ?_;refine J e0 u h nl (fun s=>[(11,.box [.aN 502] 41),(12,.box [.bool s.2] 4),(502,jf s.1)]) [6,7,11,12,13,17,18,19] [] (fun _ h g=>?_) ?_
  ·refine S [6,3] ?_;refine H6 a ?_;refine S [2] ?_;refine Jb 30 u h [6,7,11,12,13,15,17,18,19] [11,12,15,501] (fun _ h g=>?_) ?_
   ·exact E9 [5] [0] [0]
   intro o h;refine I [4] ?_ ?_<;>intro _ h
   ·refine B [5] fun _ c h=>?_;refine cA ((Ch c).bB [(1080,11),(1081,501),(1096,12),(82,502)] rfl) ?_;exact je
   refine S [5] ?_;refine bS fJ [n] ?_;refine A [] fun b h=>?_;refine aM b ?_;exact je [(502,37)]
  rintro⟨j,m⟩ h;refine S [5] ?_;refine IN (AN (G6 a i) ?_);exact le (j,m) [(501,502)]
 rintro⟨w,x⟩ h;refine S [2,3] ?_;refine J e0 u h nl (fun s=>[(11,.box [.aN 503] 41),(503,jf s)]) [11] [] (fun _ h g=>?_) ?_
 ·refine I [4] ?_ ?_<;>intro _ h
  ·refine B [5] fun _ d h=>?_;refine cA ((Ch d).bB [(1080,11),(1081,501),(1096,12),(82,503)] rfl) ?_;exact je
  exact Sj [1] [(503,501)]
 intro p h;exact Sr [3,7] [(0,503)]
def Ig{N a0 a1 a2 a3 a4 r}(h:vZ N a0 a1 a2 a3 a4=some r):Sp 90 [.agg (M3 a0),.agg (ir a1),.int a2,fW a3,fR a4] (.agg (fD r)):=by
 refine so func90 ntmps90 fun P u=>?_;refine B [3,3] fun a x h=>?_;refine cA (KC x) ?_;refine kd [3,4,5,10,11,12,13] [5,10,11,12] ?_;refine S [3,2,3] ?_;refine F6 fun w=>?_;refine LR e0 u (a3,a4,(0:Int),(0:Int)) (fun l k v=>lf N a0 a l k v.1 v.2.1 v.2.2.1 v.2.2.2) h (fun q v=>[(38,.int (q:Int))]) (fun q v=>[(14,.box [Y1 a.1.a7,cC a.1.heap,.int a.1.aC,.int a.2.1.value.k,.int a.2.1.value.n,.int a.2.1.err,.int a.2.1.sends,fW v.1,fR v.2.1,.int v.2.2.1,.int v.2.2.2] 153)]) [5,10,13,14,36,37] [5,10] [] nl (fun s=>[(14,.box [Y1 a.1.a7,cC a.1.heap,.int a.1.aC,.int a.2.1.value.k,.int a.2.1.value.n,.int a.2.1.err,.int a.2.1.sends,fW s.1,fR s.2.1,.int s.2.2.1,.int s.2.2.2] 153)]) [10,14] [10] ?_ ?_ ?_
 ·rintro _ g q ⟨H,K,L,M⟩ h _;rw[lf] at h;exact Sj [3,2,4,0,20]
 ·rintro _ g q ⟨H,K,L,M⟩ O t h _ b _;rw[lf] at h;refine S [3,2,4,0,1,2] ?_;refine J e0 u h nl (fun s=>[(14,.box [Y1 a.1.a7,cC a.1.heap,.int a.1.aC,.int a.2.1.value.k,.int a.2.1.value.n,.int a.2.1.err,.int a.2.1.sends,fW s.1,.aN 54,.int s.2.2.1,.int s.2.2.2] 153),(54,mq s.2.1)]) [5,10,13,14,36,37,38] [5,10] (fun _ h g=>?_) ?_
  ·refine S [6,3] ?_;refine H6 b ?_;refine B [3] fun _ j h=>?_;refine E5 j ?_;refine kd [5,10,13,14,16,17,36,37,38] [5,10,14,16] ?_;refine B [3] fun _ c h=>?_;refine cA ((JD c).sw 0 54) ?_;refine B [2,3] fun _ d h=>?_;refine cA (IJ d) ?_;refine I [4] ?_ ?_<;>intro _ h
   ·refine kd [5,10,13,14,36,37,38] [5,10,14,54] ?_;exact Sj [3,12,20]
   refine S [1] ?_;refine kd [5,10,13,14,16,17,36,37,38] [5,10,14,16,54] ?_;refine S [3,12,2] ?_;refine kd [5,10,13,14,16,17,36,37,38] [5,10,14,16,54] ?_;refine B [8] fun _ m h=>?_;refine E5 m ?_;refine B [] fun _ e h=>?_;refine cA (IW e) ?_;refine B [] fun _ o h=>?_;refine E5 o ?_;refine B [] fun _ p h=>?_;refine E5 p ?_;refine B [] fun _ f h=>?_;refine cA (yW f) ?_;refine kd [5,10,13,14,16,17,18,19,36,37,38] [5,10,14,16,54] ?_;refine I [3,4] ?_ ?_<;>intro _ h
   ·refine B [5] fun _ i h=>?_;refine cA ((KK i).sw 0 105) ?_;refine V9.aY 105 rfl ?_;exact je
   exact Sj [1]
  rintro⟨y,z,A,C⟩ h;refine S [5] ?_;refine IN (AN (G6 b w) ?_);refine V9.aY 54 rfl ?_;exact le (y,z,A,C) []
 rintro⟨D,E,F,G⟩ h;exact Sr [3,7]
def Ja{N a0 a1 r}(h:wA N a0 a1=some r):Sq 57 [(2000,GL)] [.agg (M8 a0),.agg (u9 a1)] (.aX [.agg (M8 r.1),.agg (gp r.2)]) [(2000,GL)] []:=by
 refine so func57 ntmps57 fun y u=>?_;refine I [3,2,3,6,3,4] ?_ ?_<;>intro _ h
 ·refine B [3] fun _ l h=>?_;refine cA (JW l) ?_;refine S [2] ?_;refine kd [2,4,5,6,7,8] [2,4,5,6,2000] ?_;exact gI [3,4] [3,7] [1,3,3,7]
 refine I [3,4] ?_ ?_<;>intro _ h
 ·refine B [2,3] fun _ m h=>?_;refine cA (Ci m) ?_;refine kd [2,3,4,5,9] [2,3,4,5,9,2000] ?_;refine Ir [3,4] [2,8,7] fun _ h=>?_;refine B [1,3] fun _ e h=>?_;refine cA (HU e) ?_;refine S [2] ?_;refine kd [2,4,5,10,11] [2,4,5,10,2000] ?_;refine S [3] ?_;refine J e0 u h nl (fun s=>[(2,.box (M8 s) 45)]) [2,4,5,11] [4,5,2000] (fun _ h g=>?_) ?_
  ·exact E9 [4] [5] [1]
  intro o h;exact Sr [3,7]
 refine I [3,4] ?_ ?_<;>intro _ h
 ·refine S [2,2] ?_;refine Jb 101 u h [2,3,4,5] [2,3,4,5,2000] (fun _ h g=>?_) ?_
  ·refine Ij [5] [0] fun _ h=>?_;refine I [0] ?_ ?_<;>intro _ h
   ·exact E9 [0] [0] [0,13,0]
   exact Sj [0,13]
  intro p h;refine Ir [4] [3,7] fun _ h=>?_;refine Ir [1,3,13,2,3,4] [3,7] fun _ h=>?_;refine S [1,2] ?_;refine kd [2,3,4,5,12] [2,3,4,5,2000] ?_;refine S [8,12] ?_;refine bS eQ ([]:List Ob) ?_;refine A [] fun b h=>?_;refine aM b ?_;refine B [] fun n f h=>?_;refine cA (oG f) ?_;refine A [] fun c h=>?_;refine j8 (enc:=eV) (x:=(⟨(0:Int),(0:Int)⟩:V)) c aT ?_;refine S [12] ?_;refine bS eQ [(⟨a1.aE,(QH n.toNat (⟨(0:Int),(0:Int)⟩:V))⟩:Ob)] ?_;refine A [] fun d h=>?_;refine aM d ?_;refine kd [2,4,5,12] [2,4,5,127,2000] ?_;refine S [3] ?_;refine j5.aY 127 rfl ?_;exact Sr [7]
 refine S [2,3] ?_;refine Jb 135 u h [2,3,4,5,17] [2,3,4,5,2000] (fun _ h g=>?_) ?_
 ·refine Ij [4] [1] fun _ h=>?_;refine Ij [3,4] [1] fun _ h=>?_;refine kd [2,3,4,5,17] [2,3,4,5,2000] ?_;exact Sj [5]
 intro q h;refine I [4] ?_ ?_<;>intro _ h
 ·refine B [3] fun a i h=>?_;refine cA (Ig i) ?_;refine S [3,2] ?_;refine kd [2,3,4,5,13] [2,3,4,5,13,2000] ?_;refine S [3] ?_;refine J e0 u h nl (fun s=>[(2,.box [Y1 a.world.a7,cC a.world.heap,.int a.world.aC,fW s.1,fR s.2,s5 a0.saved] 45)]) [2,4,5,13] [4,5,13,2000] (fun _ h g=>?_) ?_
  ·exact E9 [4] [8] [1]
  rintro⟨t,v⟩ h;exact Sr [2,8,7]
 refine I [3,4] ?_ ?_<;>intro _ h
 ·refine B [3] fun _ j h=>?_;refine cA (Jj j) ?_;exact Sr [2,8,13,7]
 refine I [3,4] ?_ ?_<;>intro _ h
 ·refine Ir [2,3,13,4] [3,7] fun _ h=>?_;refine B [1,3] fun _ k h=>?_;refine cA (Is k) ?_;refine S [2] ?_;refine kd [2,4,5,14,15] [2,4,5,14,2000] ?_;refine Ir [3,4] [3,7] fun _ h=>?_;refine S [1,2,3] ?_;refine J e0 u h nl (fun s=>[(14,.box (M3 s) 40)]) [2,4,5,14] [2,4,5,2000] (fun _ h g=>?_) ?_
  ·exact E9 [4] [5] [1]
  intro w h;exact Sr [3,12,3,3,7]
 exact Sr [1,3,7]
def JG{N a0 r}(h:vu N a0=some r):Sq 27 [(2000,GL)] [BT a0] (.aX [.agg (M8 r.1),.aN 0]) [(0,rb r.2),(2000,GL)] [0]:=by
 refine so func27 ntmps27 fun w u=>?_;refine B [3,3] fun f m h=>?_;refine cA (xy N _ m) ?_;refine S [3,2,3] ?_;refine F6 fun j=>?_;refine nR 5 205 4 51 ?_;refine j5.cU 4 [Y1 f.a7,cC f.heap,.int f.aC,fW ([]:List Ce),fR ([]:List Tl),s5 ([]:List Int)] rfl aT ?_;refine LR e0 u ((⟨f,([]:List Ce),([]:List Tl),([]:List Int)⟩:H9),([]:List ch)) (fun l k v=>oF N l k v.1 v.2) h (fun e v=>[(14,.int (e:Int))]) (fun e v=>[(4,.box (M8 v.1) 45),(205,rb v.2)]) [2,4,5,12,13] [2,2000] [] nl (fun s=>[(4,.box (M8 s.1) 45),(205,rb s.2)]) [2,4,5] [2,2000] ?_ ?_ ?_
 ·rintro _ g e ⟨p,n⟩ h _;rw[oF] at h;exact Sj [3,2,4,0,20]
 ·rintro _ g e ⟨p,n⟩ q i h _ a _;rw[oF] at h;refine S [3,2,4,0,1,2,6,3] ?_;refine H6 a ?_;refine B [3] fun b d h=>?_;refine cA (Ja d) ?_;refine kd [2,4,5,8,9,12,13,14] [2,4,8,9,205,2000] ?_;refine S [3,5] ?_;refine bS gp [b.2] ?_;refine A [] fun c h=>?_;refine aM c ?_;refine S [5] ?_;refine IN (AN (G6 a j) ?_);exact le (b.1,(n++[b.2])) [(205,28)]
 rintro⟨t,o⟩ h;exact Sr [3,7] [(0,205)]
def C6{N a0 a1 r}(h:sC N a0 a1=some r):Sp 91 [rT a0,rT a1] (.bool r):=by
 refine so func91 ntmps91 fun i u=>?_;refine Ir [3,2,3,13,13,4] [3,7] fun _ h=>?_;refine S [1,2,3] ?_;refine F6 fun d=>?_;refine LR e1 u () (fun l k v=>nf N a1 l k) h (fun c v=>[(13,.int (c:Int))]) (fun c v=>[]) [0,1,12] [] [] nl nl [] [] ?_ ?_ ?_
 ·intro _ g c _ h _;rw[nf] at h;exact Sj [3,2,4,0,20]
 ·intro _ g c _ f e h _ a _;rw[nf] at h;refine S [3,2,4,0,1,2,6,3,2,8] ?_;refine H6 a ?_;refine B [] fun _ b h=>?_;refine E5 b ?_;refine Ir [4] [3,7] fun _ h=>?_;refine S [1,5] ?_;refine IN (AN (G6 a d) ?_);exact le () []
 rintro⟨⟩ h;exact Sr [3,7]
def IC{N a0 a1 r}(h:vI N a0 a1=some r):Sp 58 [fW a0,fW a1] (.bool r):=by
 refine so func58 ntmps58 fun p u=>?_;refine Ir [3,2,3,13,13,4] [3,7] fun _ h=>?_;refine S [1,2,3] ?_;refine F6 fun j=>?_;refine LR e1 u () (fun l k v=>nk N a1 l k) h (fun i v=>[(13,.int (i:Int))]) (fun i v=>[]) [0,1,12] [] [] nl nl [] [] ?_ ?_ ?_
 ·intro _ g i _ h _;rw[nk] at h;exact Sj [3,2,4,0,20]
 ·intro _ g i _ o m h _ a _;rw[nk] at h;refine S [3,2,4,0,1,2,6,3,2] ?_;refine Jb 66 u h [0,1,12,13] [] (fun _ h g=>?_) ?_
  ·refine kd [0,1,5,12,13] [] ?_;refine S [8] ?_;refine H6 a ?_;refine B [] fun _ c h=>?_;refine E5 c ?_;refine Ij [] [0] fun _ h=>?_;refine S [0] ?_;refine H6 a ?_;refine B [0] fun _ d h=>?_;refine E5 d ?_;refine Ij [0] [0] fun _ h=>?_;refine S [0] ?_;refine H6 a ?_;refine B [0] fun _ e h=>?_;refine E5 e ?_;refine Ij [0] [0] fun _ h=>?_;refine S [0] ?_;refine H6 a ?_;refine B [0] fun _ f h=>?_;refine E5 f ?_;refine B [0] fun _ b h=>?_;refine cA (C6 b) ?_;exact Sj [0]
  intro n h;refine Ir [4] [3,7] fun _ h=>?_;refine S [1,5] ?_;refine IN (AN (G6 a j) ?_);exact le () []
 rintro⟨⟩ h;exact Sr [3,7]
def Ho{N a0 a1 r}(h:uc N a0 a1=some r):Sp 59 [fR a0,fR a1] (.bool r):=by
 refine so func59 ntmps59 fun n u=>?_;refine Ir [3,2,3,13,13,4] [3,7] fun _ h=>?_;refine S [1,2,3] ?_;refine F6 fun f=>?_;refine LR e1 u () (fun l k v=>nc N a1 l k) h (fun e v=>[(13,.int (e:Int))]) (fun e v=>[]) [0,1,12] [] [] nl nl [] [] ?_ ?_ ?_
 ·intro _ g e _ h _;rw[nc] at h;exact Sj [3,2,4,0,20]
 ·intro _ g e _ m i h _ a _;rw[nc] at h;refine S [3,2,4,0,1,2,6,3,2] ?_;refine Jb 40 u h [0,1,12,13] [] (fun _ h g=>?_) ?_
  ·refine kd [0,1,5,12,13] [] ?_;refine S [8] ?_;refine H6 a ?_;refine B [] fun _ c h=>?_;refine E5 c ?_;refine Ij [] [0] fun _ h=>?_;refine S [0] ?_;refine H6 a ?_;refine B [0] fun _ d h=>?_;refine E5 d ?_;refine B [0] fun _ b h=>?_;refine cA (C6 b) ?_;exact Sj [0]
  intro j h;refine Ir [4] [3,7] fun _ h=>?_;refine S [1,5] ?_;refine IN (AN (G6 a f) ?_);exact le () []
 rintro⟨⟩ h;exact Sr [3,7]
def yE{N a0 a1 r}(h:qO N a0 a1=some r):Sp 28 [.agg (M8 a0),.agg (M8 a1)] (.bool r):=by
 refine so func28 ntmps28 fun e u=>?_;refine S [3,2] ?_;refine Jb 4 u h [] [] (fun _ h g=>?_) ?_
 ·refine B [5] fun _ b h=>?_;refine cA (I2 b) ?_;refine I [] ?_ ?_<;>intro _ h
  ·refine B [0] fun _ c h=>?_;refine cA (IC c) ?_;refine I [0] ?_ ?_<;>intro _ h
   ·refine B [0] fun _ a h=>?_;refine cA (Ho a) ?_;refine I [0] ?_ ?_<;>intro _ h
    ·refine S [0] ?_;refine Exists.intro a0.saved (AN rfl ?_);refine S [0] ?_;refine Exists.intro a1.saved (AN rfl ?_);exact Sj [0]
    exact Sj [0]
   exact Sj [0]
  exact Sj [0]
 intro d h;exact Sr [7]
def Hj{N a0 r}(h:yG N a0=some r):Sq 6 [(2000,GL)] [BT a0] (.bool r) [(2000,GL)] []:=by
 refine so func6 ntmps6 fun A u=>?_;refine B [3,3] fun t s h=>?_;refine cA ((JH s).sw 0 11) ?_;refine I [2,3,13,4] ?_ ?_<;>intro _ h
 ·refine S [2] ?_;refine Jb 2 u h [] [2000] (fun _ h g=>?_) ?_
  ·exact E9 [5] [0,13,0] [0]
  intro z h;exact Sr [7]
 refine B [1,3] fun w e h=>?_;refine cA ((JG e).sw 0 27) ?_;refine S [2,2] ?_;refine Jb 51 u h [4,7] [11,27,2000] (fun _ h g=>?_) ?_
 ·refine kd [3,4,5,6,7] [3,6,11,27,2000] ?_;refine Ij [8] [0] fun _ h=>?_;refine Ij [0,13,0,13,0] [0] fun _ h=>?_;refine B [0] fun _ f h=>?_;refine cA (yE f) ?_;refine Ij [0] [0] fun _ h=>?_;refine B [0] fun _ i h=>?_;refine cA (D3 i) ?_;refine B [0] fun _ j h=>?_;refine cA (yE j) ?_;exact Sj [0]
 intro x h;refine Ir [4] [3,7] fun _ h=>?_;refine S [1,2,3] ?_;refine F6 fun d=>?_;refine LR e1 u () (fun l k v=>X4 N t w l k) h (fun a v=>[(54,.int (a:Int))]) (fun a v=>[]) [4,7,53] [11,27,2000] [] nl nl [] [2000] ?_ ?_ ?_
 ·intro _ g a _ h _;rw[X4] at h;exact Sj [3,2,4,0,20]
 ·intro _ g a _ y q h _ p _;rw[X4] at h;refine B [3,2,4,0,1,2,6,3,2,8] fun _ b h=>?_;refine R7 b ?_;refine Q9 (l6 b).2 ?_;refine B [] fun _ c h=>?_;refine R7 c ?_;refine Q9 (l6 c).2 ?_;refine Ir [4] [3,7] fun _ h=>?_;refine S [1,5] ?_;refine IN (AN (G6 p d) ?_);exact le () []
 rintro⟨⟩ h;refine B [3] fun _ m h=>?_;refine cA (Cx m) ?_;refine B [] fun _ n h=>?_;refine cA (xy N _ n) ?_;refine B [] fun _ o h=>?_;refine cA (yE o) ?_;exact Sr [7]
end
end Go.Proofs.YtibjcppjfkamhaaGreatDoor
