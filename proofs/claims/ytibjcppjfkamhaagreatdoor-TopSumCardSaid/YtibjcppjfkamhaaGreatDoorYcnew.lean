/- class.New: the library's sort at its five methods; then the walk. -/
import Derived.Test.YtibjcppjfkamhaaGreatDoorN
import Derived.Test.YtibjcppjfkamhaaGreatDoorIo
import Derived.Test.YtibjcppjfkamhaaGreatDoorDg
import Derived.Test.YtibjcppjfkamhaaGreatDoorHd
import Derived.Lib.Walk
import Derived.Shelf.SlSortCmp.SmallK
namespace Go.Proofs.YtibjcppjfkamhaaGreatDoor
open Go.RowKit Go.Lib Go.Proofs Go.Shelf Go.Sort
set_option linter.unusedVariables false
def cI8 : Go.Shelf.Ren:=⟨fun|6=>70|15=>104|14=>103|28=>143|29=>144|20=>135|21=>136|22=>137|23=>138|24=>139|25=>140|26=>141|27=>142|46=>179|47=>180|48=>181|49=>182|50=>183|57=>211|n=>n,fun|22=>79|24=>27|25=>134|3=>3|39=>179|0=>0|53=>225|55=>227|4=>4|46=>219|45=>218|50=>181|5=>5|9=>9|66=>266|70=>270|76=>302|77=>135|n=>n,fun|n=>n⟩
theorem c68 : Go.Proofs.SlLaysF0.n6 Tryz.prog cI8:={
 mixed:=by kernel_rfl,
 f6:=⟨Tryz.f70.name,by decide,Tryz.func70.trans (congrArg some (by kernel_rfl))⟩,
 f14:=⟨Tryz.f103.name,by decide,Tryz.func103.trans (congrArg some (by kernel_rfl))⟩,
 f15:=Tryz.func104.trans (congrArg some (by kernel_rfl)),
 f20:=⟨Tryz.f135.name,by decide,Tryz.func135.trans (congrArg some (by kernel_rfl))⟩,
 f21:=⟨Tryz.f136.name,by decide,Tryz.func136.trans (congrArg some (by kernel_rfl))⟩,
 f22:=⟨Tryz.f137.name,by decide,Tryz.func137.trans (congrArg some (by kernel_rfl))⟩,
 f23:=⟨Tryz.f138.name,by decide,Tryz.func138.trans (congrArg some (by kernel_rfl))⟩,
 f24:=⟨Tryz.f139.name,by decide,Tryz.func139.trans (congrArg some (by kernel_rfl))⟩,
 f25:=⟨Tryz.f140.name,by decide,Tryz.func140.trans (congrArg some (by kernel_rfl))⟩,
 f26:=⟨Tryz.f141.name,by decide,Tryz.func141.trans (congrArg some (by kernel_rfl))⟩,
 f27:=⟨Tryz.f142.name,by decide,Tryz.func142.trans (congrArg some (by kernel_rfl))⟩,
 f28:=Tryz.func143.trans (congrArg some (by kernel_rfl)),
 f29:=Tryz.func144.trans (congrArg some (by kernel_rfl)),
 f46:=⟨Tryz.f179.name,by decide,Tryz.func179.trans (congrArg some (by kernel_rfl))⟩,
 f47:=Tryz.func180.trans (congrArg some (by kernel_rfl)),
 f48:=Tryz.func181.trans (congrArg some (by kernel_rfl)),
 f49:=⟨Tryz.f182.name,by decide,Tryz.func182.trans (congrArg some (by kernel_rfl))⟩,
 f50:=⟨Tryz.f183.name,by decide,Tryz.func183.trans (congrArg some (by kernel_rfl))⟩,
 f57:=⟨Tryz.f211.name,by decide,Tryz.func211.trans (congrArg some (by kernel_rfl))⟩,
 t0:=Tryz.underlying0,
 a0:=Tryz.isAgg0,
 z0:=Tryz.sizeOf0,
 v0:=Tryz.zeroValue0,
 t3:=Tryz.underlying3,
 a3:=Tryz.isAgg3,
 z3:=Tryz.sizeOf3,
 v3:=Tryz.zeroValue3,
 t4:=Tryz.underlying4,
 a4:=Tryz.isAgg4,
 z4:=Tryz.sizeOf4,
 v4:=Tryz.zeroValue4,
 t5:=Tryz.underlying5,
 a5:=Tryz.isAgg5,
 z5:=Tryz.sizeOf5,
 v5:=Tryz.zeroValue5,
 t9:=Tryz.underlying9,
 a9:=Tryz.isAgg9,
 z9:=Tryz.sizeOf9,
 v9:=Tryz.zeroValue9,
 t22:=Tryz.underlying79,
 a22:=Tryz.isAgg79,
 z22:=Tryz.sizeOf79,
 v22:=Tryz.zeroValue79,
 t25:=Tryz.underlying134,
 a25:=Tryz.isAgg134,
 z25:=Tryz.sizeOf134,
 v25:=Tryz.zeroValue134,
 t39:=Tryz.underlying179,
 a39:=Tryz.isAgg179,
 z39:=Tryz.sizeOf179,
 v39:=Tryz.zeroValue179,
 t45:=Tryz.underlying218,
 a45:=Tryz.isAgg218,
 z45:=Tryz.sizeOf218,
 v45:=Tryz.zeroValue218,
 t46:=Tryz.underlying219,
 a46:=Tryz.isAgg219,
 z46:=Tryz.sizeOf219,
 v46:=Tryz.zeroValue219,
 t50:=Tryz.underlying181,
 a50:=Tryz.isAgg181,
 z50:=Tryz.sizeOf181,
 v50:=Tryz.zeroValue181,
 t53:=Tryz.underlying225,
 a53:=Tryz.isAgg225,
 z53:=Tryz.sizeOf225,
 v53:=Tryz.zeroValue225,
 t55:=Tryz.underlying227,
 a55:=Tryz.isAgg227,
 z55:=Tryz.sizeOf227,
 v55:=Tryz.zeroValue227,
 t66:=Tryz.underlying266,
 a66:=Tryz.isAgg266,
 z66:=Tryz.sizeOf266,
 v66:=Tryz.zeroValue266,
 t70:=Tryz.underlying270,
 a70:=Tryz.isAgg270,
 z70:=Tryz.sizeOf270,
 v70:=Tryz.zeroValue270,
 t76:=Tryz.underlying302,
 a76:=Tryz.isAgg302,
 z76:=Tryz.sizeOf302,
 v76:=Tryz.zeroValue302,
 t77:=Tryz.underlying135,
 a77:=Tryz.isAgg135,
 z77:=Tryz.sizeOf135,
 v77:=Tryz.zeroValue135 }
theorem cV8 (s:ByteArray) (W:World):Calls Tryz.prog 145 #[.string s] W fun e w'=>e=.returned (.bool false)∧w'=W:=by
 go_enter Tryz.func145,Tryz.ntmps145
 go_wp2
 go_ret
 exact ⟨rfl,rfl⟩
theorem dA7 (a b:ByteArray) (W:World):Calls Tryz.prog 105 #[.string a,.string b] W fun e w'=>e=.returned (.int .i64 (if Op.bytesLess a.toList b.toList=true then -1 else if (!(Op.bytesLess a.toList b.toList || a.toList == b.toList))=true then 1 else 0))∧w'=W:=by
 have hn:=cV8
 have hg:∀w,(binOp .gtr 9 (.string a) (.string b)).run Tryz.prog w=.ok (.bool !(Op.bytesLess a.toList b.toList || a.toList == b.toList)) w:=fun w=>by
  simp [binOp,run_underlying Tryz.underlying9,Op.stringOp]
 generalize hz:(!(Op.bytesLess a.toList b.toList || a.toList == b.toList))=z at hg ⊢
 go_enter Tryz.func105,Tryz.ntmps105
 go_wp2_with (go_at_call 145; refine (hn _ _).mono ?_; rintro e w' ⟨rfl,rfl⟩)
 all_goals (try (go_ret; exact ⟨rfl,rfl⟩))
 all_goals go_wp2_with (simp only [hg])
 all_goals (try (go_ret; first|exact ⟨rfl,rfl⟩|(refine ⟨?_,rfl⟩; simp_all)))
 all_goals go_wp2
 all_goals (go_ret; first|exact ⟨rfl,rfl⟩|(refine ⟨?_,rfl⟩; simp_all))
def bX5 (a b:ByteArray):Int:=if Op.bytesLess a.toList b.toList=true then -1 else if (!(Op.bytesLess a.toList b.toList || a.toList == b.toList))=true then 1 else 0
theorem cV9 (s t:ByteArray) (a1 a2 a3 a4:Value) (W:World):Calls Tryz.prog 72 #[.agg #[.string s,a1,a2,a3,a4],.string t] W fun e w'=>e=.returned (.int .i64 (bX5 s t))∧∃q os',w'=grow (W.drewN q) os':=by
 have hn:=dA7 s t
 change ∀W,Calls Tryz.prog 105 _ W fun e w'=>e=.returned (.int .i64 (bX5 s t))∧w'=W at hn
 generalize bX5 s t=r at hn ⊢
 go_enter Tryz.func72,Tryz.ntmps72
 go_wp2_with (go_at_call 105; refine (hn _).mono ?_; rintro e w' ⟨rfl,rfl⟩)
 go_ret
 exact ⟨rfl,0,_,by rw [alloc_eq_grow]; rfl⟩
theorem c97 (s t:ByteArray) (a1 a2 a3 a4 b1 b2 b3 b4:Value) (W:World):Calls Tryz.prog 71 #[.agg #[.string s,a1,a2,a3,a4],.agg #[.string t,b1,b2,b3,b4]] W fun e w'=>e=.returned (.int .i64 (bX5 s t))∧∃q os',w'=grow (W.drewN q) os':=by
 have hn:=fun W=>cV9 s t a1 a2 a3 a4 W
 generalize bX5 s t=r at hn ⊢
 go_enter Tryz.func71,Tryz.ntmps71
 go_wp2_with (go_at_call 72; refine (hn _).mono ?_; rintro e w' ⟨rfl,q,os',rfl⟩)
 go_ret
 exact ⟨rfl,q,_,by rw [alloc_eq_grow,alloc_eq_grow,grow_grow]; exact grow_grow (W.drewN q) _ os'⟩
set_option maxHeartbeats 1000000 in
theorem dA5 (n:Nat) (W:World) (h:n≤12):Calls Tryz.prog 144 #[.int .u64 n] W fun e w'=>(∃l:Int,e=.returned (.int .i64 l))∧w'=W:=by
 have hc:∃m:Nat,m≤12∧n=m:=⟨n,h,rfl⟩
 match n,h with
 |0,_|1,_|2,_|3,_|4,_|5,_|6,_|7,_|8,_|9,_|10,_|11,_|12,_ =>
  go_enter Tryz.func144,Tryz.ntmps144
  go_wp2
  go_ret
  exact ⟨⟨_,rfl⟩,rfl⟩
theorem bitsLen (n:Nat) (W:World) (h:n≤12):Calls Tryz.prog 104 #[.int .u64 n] W fun e w'=>(∃l:Int,e=.returned (.int .i64 l))∧w'=W:=by
 have hn:=fun W=>dA5 n W h
 go_enter Tryz.func104,Tryz.ntmps104
 go_wp2_with (go_at_call 144; refine (hn _).mono ?_; rintro e w' ⟨⟨l,rfl⟩,rfl⟩)
 go_ret
 exact ⟨⟨_,rfl⟩,rfl⟩
theorem c35 (b:ByteArray):b.toList=b.data.toList:=by
 have:∀(n i:Nat) (r:List UInt8),n=b.size - i→ByteArray.toList.loop b i r=r.reverse++b.data.toList.drop i:=by
  intro n
  induction n with
  |zero =>
   intro i r h
   unfold ByteArray.toList.loop
   rw [if_neg (by omega)]
   have:b.data.toList.length≤i:=by simpa using (show b.size≤i by omega)
   rw [List.drop_eq_nil_of_le this]; simp
  |succ n ih =>
   intro i r h
   have hi:i < b.size:=by omega
   have hi':i < b.data.toList.length:=by simpa using hi
   unfold ByteArray.toList.loop
   rw [if_pos hi,ih (i+1) _ (by omega),List.drop_eq_getElem_cons hi']
   have e:b.get! i=b.data.toList[i]:=by
    show b.data[i]! = _
    rw [getElem!_pos b.data i hi,Array.getElem_toList]
   simp [e]
 have:=this b.size 0 [] (by omega)
 simpa [ByteArray.toList] using this
def bA0 : List Me:=[⟨⟨#[43]⟩,1,0,1,[]⟩,⟨⟨#[45]⟩,1,0,2,[]⟩,⟨⟨#[42]⟩,1,0,3,[]⟩,⟨⟨#[60]⟩,1,0,4,[]⟩,⟨⟨#[61]⟩,1,0,5,[]⟩]
def rk : _root_.Fin 5→Nat|0=>1|1=>2|2=>0|3=>3|4=>4
def cfI (i j:_root_.Fin 5):Int:=if rk i < rk j then -1 else if rk j < rk i then 1 else 0
def nmI (i:_root_.Fin 5):ByteArray:=match i with|0=>⟨#[43]⟩|1=>⟨#[45]⟩|2=>⟨#[42]⟩|3=>⟨#[60]⟩|4=>⟨#[61]⟩
theorem dD5 : Sort.insertionSort (ltOf cfI) #[0,1,2,3,4] 0 5=#[2,0,1,3,4]:=by decide +kernel
theorem dD0 : ∀i j:_root_.Fin 5,bX5 (nmI i) (nmI j)=cfI i j:=by
 have h:∀i:_root_.Fin 5,(nmI i).toList=(nmI i).data.toList:=fun i=>c35 _
 unfold bX5
 simp only [h]
 decide +kernel
theorem Post.writeRowG {c:Ctx} {w w':World} {id sz e:Nat} {ls ls':List (List AV)} {css':List (List Value)} {b:Nat} (h:P9 c w [(id,.row sz ls e)]) (hb:(c.hd id).ownBlock=some b) (hR:M7 w' (c.hd id) sz e css') (hl:css'.length=ls'.length)
  (hr:∀(i:Nat) (us:List Value) (cs:List AV),css'[i]?=some us→ls'[i]?=some cs→J4 c.Φ w us cs) (ho:∀k,k < w.heap.size→k≠b→w'.heap[k]?=w.heap[k]?)
  (hs:w.heap.size≤w'.heap.size) (h1:w'.os=w.os) (h2:w'.tape=w.tape) (h3:w'.output=w.output):Post c w c w' [(id,.row sz ls e)] [(id,.row sz ls' e)] []:=by
 have hlt:=h.lt id _ b (p9 _ _ _) hb
 have ht:∀x,x=b→Touch c [(id,.row sz ls e)] [(id,.row sz ls' e)] x:=fun x hx=>⟨id,_,p9 _ _ _,by rw [p9]; rfl,by rw [hx]; exact hb⟩
 have hfr:∀x,c.Φ x→w'.heap[x]?=w.heap[x]?:=fun x hx=>ho x (h.phi x hx) fun e=>hlt.2 (e▸hx)
 refine ⟨h1,h2,h3,hs,fun b hb=>hb,fun b hb=>.inl hb,fun x hx hn=>ho x hx fun e=>hn (ht x e),fun _ _=>⟨rfl,rfl⟩,⟨fun i o hl=>?_,fun i o x hl hf=>?_,fun i i' o o' x hdis hl hl' hf=>?_,fun x hx=>by have:=h.phi x hx; omega⟩,fun i o x hl hf=>?_⟩<;>rw [y7] at hl<;>split at hl<;>first|(rename_i e1; subst e1; cases hl)|cases hl
 ·exact ⟨css',hR,by assumption,fun i us cs hu hc=>(hr i us cs hu hc).mono hfr fun _ h=>h⟩
 ·have:x=b:=by have hf':(c.hd id).ownBlock=some x:=hf; rw [hb] at hf'; injection hf' with e; exact e.symm
  rw [this]
  exact ⟨by omega,hlt.2⟩
 ·rw [G9 _ _ hdis] at hl'
  cases hl'
 ·have:x=b:=by have hf':(c.hd id).ownBlock=some x:=hf; rw [hb] at hf'; injection hf' with e; exact e.symm
  exact .inr (ht x this)
theorem bE2 {Φ:Nat→Prop} {w:World} {us:List Value} {m:Me} (h:J4 Φ w us (J3 m)):∃a1 a2 a3 a4,us=[.string m.name,a1,a2,a3,a4]:=by
 cases h with
 |cons h1 t1 =>
  cases t1 with
  |cons _ t2=>cases t2 with
   |cons _ t3=>cases t3 with
    |cons _ t4=>cases t4 with
     |cons _ t5 =>
      cases t5
      cases h1
      exact ⟨_,_,_,_,rfl⟩
def aE9 (css:List (List Value)) (i:_root_.Fin 5):List Value:=css.getD i.val []
theorem cZ4 {p:_root_.Fin 5→Prop} (h0:p 0) (h1:p 1) (h2:p 2) (h3:p 3) (h4:p 4):∀i,p i
 |⟨0,_⟩=>h0
 |⟨1,_⟩=>h1
 |⟨2,_⟩=>h2
 |⟨3,_⟩=>h3
 |⟨4,_⟩=>h4
theorem cE9 (css:List (List Value)) (hk:∀i,(aE9 css i).length=5) (d:Array (_root_.Fin 5)) (j:Nat) (hj:j < d.size*5):(d.toList.map (aE9 css)).flatten[j]?=some ((Go.Sort.flatK (aE9 css) 5 d)[j]!):=by
 have hq:j / 5 < d.size:=by omega
 have h1:(d.toList.map (aE9 css))[j / 5]?=some (aE9 css d[j / 5]):=by
  rw [List.getElem?_map,Array.getElem?_toList,Array.getElem?_eq_getElem hq]; rfl
 have:=flat_get 5 (d.toList.map (aE9 css)) (fun x hx=>by obtain ⟨i,_,rfl⟩:=List.mem_map.1 hx; exact hk i) (j / 5) (j % 5) _ h1 (Nat.mod_lt _ (by decide))
 rw [show j / 5*5+j % 5=j by omega] at this
 have hm:j % 5 < (aE9 css d[j / 5]).length:=by rw [hk]; omega
 rw [this,get_flatK _ _ _ _ hj,getElem!_pos d (j / 5) hq,getElem!_pos (aE9 css d[j / 5]) (j % 5) hm,List.getElem?_eq_getElem hm]
set_option maxHeartbeats 1000000 in
set_option maxRecDepth 100000 in
theorem cO9 : Spec Tryz.prog 70 [(1000,.row 5 (bA0.map J3) 27)] [.own 1000,.fn 71 []] (.tup []) [(1000,.row 5 (cU2.map J3) 27)] []:=by
 refine ⟨by kernel_rfl,(fun id hid=>by cases hid),fun c w args hok hr=>?_⟩
 obtain ⟨args⟩:=args
 have hr:F6 c w args [.own 1000,.fn 71 []]:=hr
 obtain ⟨v1,as1,rfl,r1,hr⟩:∃v r,args=v::r∧Rd c w v (.own 1000)∧F6 c w r [.fn 71 []]:=by cases hr with|cons a b=>exact ⟨_,_,rfl,a,b⟩
 obtain ⟨v2,as2,rfl,r2,hr⟩:∃v r,as1=v::r∧Rd c w v (.fn 71 [])∧F6 c w r []:=by cases hr with|cons a b=>exact ⟨_,_,rfl,a,b⟩
 obtain rfl:as2=[]:=by cases hr; rfl
 obtain ⟨cb,rfl,hcb⟩:=r2.fn_
 obtain rfl:cb=[]:=by cases hcb; rfl
 obtain ⟨A1,n1,cap1,rfl,h1,_,hc1⟩:=r1.own_
 have k0:lk [(1000,Obj.row 5 (bA0.map J3) 27)] 1000=some (.row 5 (bA0.map J3) 27):=rfl
 obtain ⟨css,R1,L1,q1⟩:=hok.rep 1000 _ k0
 rw [h1] at R1
 obtain ⟨u0,u1,u2,u3,u4,rfl⟩:∃u0 u1 u2 u3 u4,css=[u0,u1,u2,u3,u4]:=by
  match css,L1 with
  |[a,b,c,d,e],_=>exact ⟨a,b,c,d,e,rfl⟩
 obtain ⟨a1,a2,a3,a4,rfl⟩:=bE2 (q1 0 u0 _ rfl rfl)
 obtain ⟨b1,b2,b3,b4,rfl⟩:=bE2 (q1 1 u1 _ rfl rfl)
 obtain ⟨c1,c2,c3,c4,rfl⟩:=bE2 (q1 2 u2 _ rfl rfl)
 obtain ⟨d1,d2,d3,d4,rfl⟩:=bE2 (q1 3 u3 _ rfl rfl)
 obtain ⟨e1,e2,e3,e4,rfl⟩:=bE2 (q1 4 u4 _ rfl rfl)
 generalize hu0:([.string (⟨#[43]⟩:ByteArray),a1,a2,a3,a4]:List Value)=u0 at R1 q1
 generalize hu1:([.string (⟨#[45]⟩:ByteArray),b1,b2,b3,b4]:List Value)=u1 at R1 q1
 generalize hu2:([.string (⟨#[42]⟩:ByteArray),c1,c2,c3,c4]:List Value)=u2 at R1 q1
 generalize hu3:([.string (⟨#[60]⟩:ByteArray),d1,d2,d3,d4]:List Value)=u3 at R1 q1
 generalize hu4:([.string (⟨#[61]⟩:ByteArray),e1,e2,e3,e4]:List Value)=u4 at R1 q1
 have hE:∀i,∃y1 y2 y3 y4,aE9 [u0,u1,u2,u3,u4] i=[.string (nmI i),y1,y2,y3,y4]:=cZ4 ⟨_,_,_,_,hu0.symm⟩ ⟨_,_,_,_,hu1.symm⟩ ⟨_,_,_,_,hu2.symm⟩ ⟨_,_,_,_,hu3.symm⟩ ⟨_,_,_,_,hu4.symm⟩
 have hk:∀i,(aE9 [u0,u1,u2,u3,u4] i).length=5:=fun i=>by obtain ⟨_,_,_,_,e⟩:=hE i; rw [e]; rfl
 have hmem:∀i,aE9 [u0,u1,u2,u3,u4] i∈[u0,u1,u2,u3,u4]:=cZ4 (by simp [aE9]) (by simp [aE9]) (by simp [aE9]) (by simp [aE9]) (by simp [aE9])
 have h1c:∀i,∀v∈aE9 [u0,u1,u2,u3,u4] i,v.oneCell'=true:=fun i v hv=>R1.one _ (hmem i) v hv
 clear hu0 hu1 hu2 hu3 hu4
 rcases R1.lies with ⟨e,h0⟩|⟨b,off,p,cap,cur,e,hh,hle,hpm,hsz,hoff,htk⟩
 ·cases h0
 obtain ⟨rfl,rfl,rfl⟩:A1=some ⟨b,off,none⟩∧n1=5∧cap=cap1:=by cases e; exact ⟨rfl,rfl,rfl⟩
 have hle:5≤cap:=hle
 obtain rfl:=hoff (by omega)
 have hbw:b < w.heap.size:=(Array.getElem?_eq_some_iff.1 hh).1
 have hcell:∀j,w.cell? ⟨b,j,none⟩=cur[j]?:=fun j=>by unfold World.cell?; rw [hh]; rfl
 have hfl:∀d:Array (_root_.Fin 5),d.size=5→(d.toList.map (aE9 [u0,u1,u2,u3,u4])).flatten.length=25:=fun d hd=>by
  rw [aA6 5 _ (fun x hx=>by obtain ⟨i,_,rfl⟩:=List.mem_map.1 hx; exact hk i),List.length_map,Array.length_toList,hd]
 have hH:HoldsK (aE9 [u0,u1,u2,u3,u4]) 5 w b (p*5) #[0,1,2,3,4]:=fun j hj=>by
  rw [size_flatK] at hj
  have hj:j < 25:=hj
  have hf:=cE9 [u0,u1,u2,u3,u4] hk #[0,1,2,3,4] j hj
  have htk:(cur.toList.drop (p*5)).take (5*5)=((#[0,1,2,3,4]:Array (_root_.Fin 5)).toList.map (aE9 [u0,u1,u2,u3,u4])).flatten:=htk
  have ht:((cur.toList.drop (p*5)).take (5*5))[j]?=(cur.toList.drop (p*5))[j]?:=List.getElem?_take_of_lt (by omega)
  refine ⟨?_,by unfold World.frozen?; rw [hh]; simp⟩
  rw [hcell,←Array.getElem?_toList,←List.getElem?_drop,←ht,htk,hf]
  rfl
 have hcmp:CmpLays Tryz.prog 71 #[] (aE9 [u0,u1,u2,u3,u4]) 5 cfI b (p*5) (#[0,1,2,3,4]:Array (_root_.Fin 5)).size w:=fun m os dk hdk x y=>by
  obtain ⟨x1,x2,x3,x4,ex⟩:=hE x
  obtain ⟨y1,y2,y3,y4,ey⟩:=hE y
  rw [ex,ey,←dD0 x y]
  exact c97 (nmI x) (nmI y) x1 x2 x3 x4 y1 y2 y3 y4 _
 have hcon:=AnyQ.slices_SortFunc_small c68 5 Tryz.isAgg27 Tryz.sizeOf27 (aE9 [u0,u1,u2,u3,u4]) hk h1c cfI 71 #[] b (p*5) cap #[0,1,2,3,4] w (enters_of Tryz.func71 (by kernel_rfl) rfl) hcmp hH hbw (by decide) bitsLen
 refine Calls.mono (show Calls Tryz.prog 70 _ _ _ from hcon) ?_
 rintro e w' ⟨rfl,n,os,hw'⟩
 rw [show (#[0,1,2,3,4]:Array (_root_.Fin 5)).size=5 from rfl,dD5] at hw'
 have hheap:w'.heap=(w.heap.modify b (onCells (putCells id (p*5) (Go.Sort.flatK (aE9 [u0,u1,u2,u3,u4]) 5 #[2,0,1,3,4]))))++os:=by rw [hw']; rfl
 have hb':w'.heap[b]?=some (.cells (putCells id (p*5) (Go.Sort.flatK (aE9 [u0,u1,u2,u3,u4]) 5 #[2,0,1,3,4]) cur) 27):=by
  rw [hheap,Array.getElem?_append_left (by simpa using hbw),Array.getElem?_modify,if_pos rfl,hh]
  rfl
 have hob:(c.hd 1000).ownBlock=some b:=by rw [h1]; rfl
 refine ⟨.tuple #[],c,rfl,Post.writeRowG (css':=(#[2,0,1,3,4]:Array (_root_.Fin 5)).toList.map (aE9 [u0,u1,u2,u3,u4])) (b:=b) hok hob ?_ rfl ?_ (fun k hk hne=>?_) (by rw [hheap]; simp) (by rw [hw']; rfl) (by rw [hw']; rfl) (by rw [hw']; rfl),.tup .nil⟩
 ·rw [h1]
  refine ⟨.inr ⟨b,p*5,p,cap,_,rfl,hb',hle,hpm,by simpa [putCells] using hsz,fun _=>rfl,?_⟩,fun x hx=>by obtain ⟨i,_,rfl⟩:=List.mem_map.1 hx; exact hk i,fun x hx=>by obtain ⟨i,_,rfl⟩:=List.mem_map.1 hx; exact h1c i⟩
  apply List.ext_getElem?
  intro j
  by_cases hj:j < 25
  ·have hf:=cE9 [u0,u1,u2,u3,u4] hk #[2,0,1,3,4] j hj
   have hp:p*5+j < cur.size:=by omega
   rw [List.getElem?_take_of_lt (show j < ((#[2,0,1,3,4]:Array (_root_.Fin 5)).toList.map (aE9 [u0,u1,u2,u3,u4])).length*5 from hj),List.getElem?_drop,Array.getElem?_toList,hf]
   unfold putCells
   rw [Array.getElem?_mapIdx,Array.getElem?_eq_getElem hp]
   simp only [Option.map_some]
   rw [if_pos ⟨by omega,by rw [size_flatK]; show p*5+j < p*5+25; omega⟩,show p*5+j - p*5=j by omega]
   rfl
  ·rw [List.getElem?_eq_none (by rw [List.length_take]; show min 25 _≤j; omega),List.getElem?_eq_none (by rw [hfl _ rfl]; omega)]
 ·intro i us cs hu hc
  match i,hu,hc with
  |0,hu,hc=>cases hu; cases hc; exact q1 2 _ _ rfl rfl
  |1,hu,hc=>cases hu; cases hc; exact q1 0 _ _ rfl rfl
  |2,hu,hc=>cases hu; cases hc; exact q1 1 _ _ rfl rfl
  |3,hu,hc=>cases hu; cases hc; exact q1 3 _ _ rfl rfl
  |4,hu,hc=>cases hu; cases hc; exact q1 4 _ _ rfl rfl
  |i+5,hu,hc=>cases hc
 ·rw [hheap,Array.getElem?_append_left (by simpa using hk),Array.getElem?_modify,if_neg (fun e=>hne e.symm)]
def cB7 : List ByteArray:=[⟨#[43]⟩,⟨#[45]⟩,⟨#[42]⟩,⟨#[60]⟩,⟨#[61]⟩]
set_option maxRecDepth 100000 in
theorem cY5 : Spec Tryz.prog 69 [] [] (.own 0) [(0,.row 1 (List.map cM1 cB7) 9)] [0]:=by
 refine Spec.of u7 Tryz.func69 rfl Tryz.ntmps69 (by kernel_rfl) rfl rfl rfl fun Γ hn=>?_
 refine j6 hn ?_
 refine j6 hn ?_
 refine Exists.intro (List.map cM1 cB7) (And.intro (by repeat (first|exact trivial|exact rfl|(refine And.intro ?_ ?_))) ?_)
 refine got hn ?_
 exact ⟨[(0,1)],_,fm⟩
def b49 (a:AV):List (List AV):=[[.str ⟨#[79,98,106,101,99,116]⟩,.int (-1),.int 0,.nilsl],[.str ⟨#[78,105,108]⟩,.int 0,.int 0,.nilsl],[.str ⟨#[66,111,111,108]⟩,.int 0,.int 0,.nilsl],[.str ⟨#[73,110,116]⟩,.int 0,.int 0,a]]
theorem dD2 : ∀k:Nat,k < 5→∃x,cB7[k]?=some x∧bA0[k]?=some ⟨x,1,0,(k:Int)+1,[]⟩
 |0,_=>⟨_,rfl,rfl⟩
 |1,_=>⟨_,rfl,rfl⟩
 |2,_=>⟨_,rfl,rfl⟩
 |3,_=>⟨_,rfl,rfl⟩
 |4,_=>⟨_,rfl,rfl⟩
 |k+5,h=>absurd h (by omega)
set_option maxRecDepth 100000 in
theorem bR3 (N:Nat) (r:Wd) (h:bR6 N=some r):Spec Tryz.prog 35 [] [] (.agg (P6 r)) [] []:=by
 obtain rfl:=Option.some.inj h
 refine Spec.of u7 Tryz.func35 rfl Tryz.ntmps35 (by kernel_rfl) rfl rfl rfl fun Γ hn=>?_
 (repeat (first|refine j6 hn ?_|refine q8 hn ?_|refine P7 hn ?_|refine l8 hn ?_|refine F8 hn ?_|refine q9 hn ?_|refine got hn ?_))
 refine Or.inr ?_
 refine Exists.intro (b49 .nilsl) (And.intro (by repeat (first|exact trivial|exact rfl|(refine And.intro ?_ ?_))) ?_)
 (repeat (first|refine j6 hn ?_|refine q8 hn ?_|refine P7 hn ?_|refine l8 hn ?_|refine F8 hn ?_|refine q9 hn ?_|refine got hn ?_))
 refine And.intro (by decide) (And.intro (by show (3:Int) < 4; decide) ?_)
 (repeat (first|refine j6 hn ?_|refine q8 hn ?_|refine P7 hn ?_|refine l8 hn ?_|refine F8 hn ?_|refine q9 hn ?_|refine got hn ?_))
 show l5 Tryz.prog _ _ _ _
 refine cA (cY5.sw 0 15) ?_
 refine w9 (fun hl=>?_)
 show j5 Tryz.prog Γ _ _ _ _
 refine j5.gh (Gh.unnil (r:=9) (i:=3) (off:=3) (j:=104) (j':=105) (isz:=5) (ie:=27) rfl rfl rfl rfl rfl rfl rfl rfl) (fun _=>?_)
 refine j5.joinR (ι:=Hd) (fun g=>[(0,.ptr 0 0),(1,.ptr 1 0),(2,.ep 9 3 4 3)]) (fun g=>[(0,.box [.nilsl,.nilsl,.int 0] 40),(1,.box [.own 9,.nilsl,.int 0] 40),(9,.row 4 (b49 (.con g.v)) 81),(104,.row 5 (bA0.map J3) 27),(105,.eqv 104 g.v)]) (fun Qj nj xj rj=>?_) (by intro q; rw [hn]; rfl) ?_
 ·refine j5.blkQ fun Qb nb eb xb rb=>?_
  refine j5.loopQ (ι:={ q:Nat×Hd // q.1≤5 }) (fun q=>[(0,.ptr 0 0),(1,.ptr 1 0),(2,.ep 9 3 4 3),(15,.own 15),(16,.int 5),(17,.int q.1.1)]) (fun q=>[(0,.box [.nilsl,.nilsl,.int 0] 40),(1,.box [.own 9,.nilsl,.int 0] 40),(9,.row 4 (b49 (.con q.1.2.v)) 81),(15,.row 1 (cB7.map cM1) 9),(104,.row 5 ((bA0.take q.1.1).map J3) 27),(105,.eqv 104 q.1.2.v)]) (fun q=>5 - q.1.1) ⟨(0,⟨none,0,0⟩),by omega⟩ [] ⟨⟨rfl,rfl,rfl,rfl,rfl,rfl,trivial⟩,⟨rfl,rfl,rfl,rfl,rfl,rfl,trivial⟩,rfl,rfl⟩ (by intro q; rw [hn]; rfl) ?_
  rintro ⟨⟨k,hd⟩,hk⟩ Ql nl xl rl
  have hk:k≤5:=hk
  (repeat (first|refine j6 hn ?_|refine q8 hn ?_|refine P7 hn ?_|refine l8 hn ?_|refine F8 hn ?_|refine q9 hn ?_|refine got hn ?_))
  refine aL4 (fun hlt=>?_) (fun hge=>?_)
  ·have hlt:k < 5:=by have:(k:Int) < 5:=hlt; omega
   obtain ⟨x,hx,hm⟩:=dD2 k hlt
   (repeat (first|refine j6 hn ?_|refine q8 hn ?_|refine P7 hn ?_|refine l8 hn ?_|refine F8 hn ?_|refine q9 hn ?_|refine got hn ?_))
   refine O8 (i:=(k:Int)) (by rw [bG7]; exact hx) ?_
   refine I7 hx ?_
   show j5 Tryz.prog Γ _ _ _ _
   refine j5.snoc (q8 hn ?_)
   refine And.intro (by show 3 < 4; decide) (fun cs hcs=>?_)
   have hcs:(b49 (.con hd.v))[3]?=some cs:=hcs
   obtain rfl:cs=[.str ⟨#[73,110,116]⟩,.int 0,.int 0,.con hd.v]:=(Option.some.inj hcs).symm
   refine And.intro rfl ?_
   refine Or.inl (And.intro ⟨by omega,by omega⟩ ?_)
   refine Exists.intro (List.map J3 [⟨x,1,0,(k:Int)+1,[]⟩]) (And.intro (by repeat (first|exact trivial|exact rfl|(refine And.intro ?_ ?_))) ?_)
   refine And.intro ?_ (Exists.intro (List.map J3 (bA0.take k++[⟨x,1,0,(k:Int)+1,[]⟩])) (And.intro (bN3 (y9 _)) ?_))
   ·show ((List.map J3 (bA0.take k)).length+1)*64≤_
    rw [List.length_map,List.length_take]
    omega
   refine And.intro (by show 3 < 4; decide) (And.intro ?_ ?_)
   ·intro cs hcs
    have hcs:(b49 (.con hd.v))[3]?=some cs:=hcs
    obtain rfl:cs=[.str ⟨#[73,110,116]⟩,.int 0,.int 0,.con hd.v]:=(Option.some.inj hcs).symm
    show 3 < 4
    omega
   show y5 Γ _ _ _
   refine y5.gh (Gh.rowx 9 106 rfl rfl rfl (fun _=>rfl) rfl) (fun g=>?_)
   refine y5.done ?_
   show j5 Tryz.prog Γ _ _ _ _
   (repeat (first|refine j6 hn ?_|refine q8 hn ?_|refine P7 hn ?_|refine l8 hn ?_|refine F8 hn ?_|refine q9 hn ?_|refine got hn ?_))
   refine Or.inl (And.intro ⟨by omega,by omega⟩ ?_)
   refine nl _ _ ?_
   refine y5.done ?_
   have e:bA0.take k++[⟨x,1,0,(k:Int)+1,[]⟩]=bA0.take (k+1):=by rw [List.take_add_one,hm]; rfl
   refine ⟨⟨(k+1,g),hlt⟩,[(104,31),(105,106)],by show 5 - (k+1) < 5 - k; omega,⟨⟨rfl,rfl,rfl,rfl,rfl,rfl,trivial⟩,⟨rfl,rfl,rfl,rfl,?_,rfl,trivial⟩,rfl,rfl⟩⟩
   exact congrArg (fun q=>some (Obj.row 5 (List.map J3 q) 27)) e
  ·have e:k=5:=by have:¬((k:Int) < 5):=hge; omega
   subst e
   (repeat (first|refine j6 hn ?_|refine q8 hn ?_|refine P7 hn ?_|refine l8 hn ?_|refine F8 hn ?_|refine q9 hn ?_|refine got hn ?_))
   refine xl _ _ _ ?_
   refine eb _ _ ?_
   refine nj _ _ ?_
   refine y5.done ?_
   exact ⟨hd,[],trivial,⟨⟨rfl,rfl,rfl,trivial⟩,⟨rfl,rfl,rfl,rfl,rfl,trivial⟩,rfl,rfl⟩⟩
 intro g
 show j5 Tryz.prog Γ _ _ _ _
 (repeat (first|refine j6 hn ?_|refine q8 hn ?_|refine P7 hn ?_|refine l8 hn ?_|refine F8 hn ?_|refine q9 hn ?_|refine got hn ?_))
 refine And.intro (by show 3 < 4; decide) (fun cs hcs=>?_)
 have hcs:(b49 (.con g.v))[3]?=some cs:=hcs
 obtain rfl:cs=[.str ⟨#[73,110,116]⟩,.int 0,.int 0,.con g.v]:=(Option.some.inj hcs).symm
 refine And.intro rfl ?_
 show l5 Tryz.prog _ _ _ _
 refine cA (cO9.sw 1000 104) ?_
 show j5 Tryz.prog Γ _ _ _ _
 refine j5.fzIn 9 3 3 104 105 rfl rfl rfl rfl rfl rfl rfl rfl ?_
 refine j5.leRow 9 (List.map F4 c58.classes) rfl (by repeat (first|exact trivial|exact rfl|(refine And.intro ?_ ?_))) ?_
 refine j5.fzAll 9 rfl ?_
 (repeat (first|refine j6 hn ?_|refine q8 hn ?_|refine P7 hn ?_|refine l8 hn ?_|refine F8 hn ?_|refine q9 hn ?_|refine got hn ?_))
 exact ⟨[],_,rfl,(by repeat (first|exact trivial|exact rfl|(refine And.intro ?_ ?_))),trivial,rfl,rfl,rfl,rfl,rfl⟩
end Go.Proofs.YtibjcppjfkamhaaGreatDoor
