/- class.New: the library's sort at its five methods; then the walk. -/
import Derived.Test.YtibjcppjfkamhaaDoorN
import Derived.Test.YtibjcppjfkamhaaDoorIo
import Derived.Test.YtibjcppjfkamhaaDoorDg
import Derived.Test.YtibjcppjfkamhaaDoorHd
import Derived.Lib.Walk
import Derived.Shelf.SlSortCmp.SmallK
namespace Go.Proofs.YtibjcppjfkamhaaDoor
open Go.RowKit Go.Lib Go.Proofs Go.Shelf Go.Sort
set_option linter.unusedVariables false
def bZ2 : Go.Shelf.Ren:=⟨fun|6=>27|15=>42|14=>41|28=>59|29=>60|20=>51|21=>52|22=>53|23=>54|24=>55|25=>56|26=>57|27=>58|46=>70|47=>71|48=>72|49=>73|50=>74|57=>85|n=>n,fun|22=>39|24=>46|25=>82|3=>3|39=>100|0=>0|53=>119|55=>121|4=>4|46=>113|45=>112|50=>102|5=>5|9=>9|66=>129|70=>133|76=>145|77=>83|n=>n,fun|n=>n⟩
theorem cK8 : Go.Proofs.SlLaysF0.n6 Tryd.prog bZ2:={
 mixed:=by kernel_rfl,
 f6:=⟨Tryd.f27.name,by decide,Tryd.func27.trans (congrArg some (by kernel_rfl))⟩,
 f14:=⟨Tryd.f41.name,by decide,Tryd.func41.trans (congrArg some (by kernel_rfl))⟩,
 f15:=Tryd.func42.trans (congrArg some (by kernel_rfl)),
 f20:=⟨Tryd.f51.name,by decide,Tryd.func51.trans (congrArg some (by kernel_rfl))⟩,
 f21:=⟨Tryd.f52.name,by decide,Tryd.func52.trans (congrArg some (by kernel_rfl))⟩,
 f22:=⟨Tryd.f53.name,by decide,Tryd.func53.trans (congrArg some (by kernel_rfl))⟩,
 f23:=⟨Tryd.f54.name,by decide,Tryd.func54.trans (congrArg some (by kernel_rfl))⟩,
 f24:=⟨Tryd.f55.name,by decide,Tryd.func55.trans (congrArg some (by kernel_rfl))⟩,
 f25:=⟨Tryd.f56.name,by decide,Tryd.func56.trans (congrArg some (by kernel_rfl))⟩,
 f26:=⟨Tryd.f57.name,by decide,Tryd.func57.trans (congrArg some (by kernel_rfl))⟩,
 f27:=⟨Tryd.f58.name,by decide,Tryd.func58.trans (congrArg some (by kernel_rfl))⟩,
 f28:=Tryd.func59.trans (congrArg some (by kernel_rfl)),
 f29:=Tryd.func60.trans (congrArg some (by kernel_rfl)),
 f46:=⟨Tryd.f70.name,by decide,Tryd.func70.trans (congrArg some (by kernel_rfl))⟩,
 f47:=Tryd.func71.trans (congrArg some (by kernel_rfl)),
 f48:=Tryd.func72.trans (congrArg some (by kernel_rfl)),
 f49:=⟨Tryd.f73.name,by decide,Tryd.func73.trans (congrArg some (by kernel_rfl))⟩,
 f50:=⟨Tryd.f74.name,by decide,Tryd.func74.trans (congrArg some (by kernel_rfl))⟩,
 f57:=⟨Tryd.f85.name,by decide,Tryd.func85.trans (congrArg some (by kernel_rfl))⟩,
 t0:=Tryd.underlying0,
 a0:=Tryd.isAgg0,
 z0:=Tryd.sizeOf0,
 v0:=Tryd.zeroValue0,
 t3:=Tryd.underlying3,
 a3:=Tryd.isAgg3,
 z3:=Tryd.sizeOf3,
 v3:=Tryd.zeroValue3,
 t4:=Tryd.underlying4,
 a4:=Tryd.isAgg4,
 z4:=Tryd.sizeOf4,
 v4:=Tryd.zeroValue4,
 t5:=Tryd.underlying5,
 a5:=Tryd.isAgg5,
 z5:=Tryd.sizeOf5,
 v5:=Tryd.zeroValue5,
 t9:=Tryd.underlying9,
 a9:=Tryd.isAgg9,
 z9:=Tryd.sizeOf9,
 v9:=Tryd.zeroValue9,
 t22:=Tryd.underlying39,
 a22:=Tryd.isAgg39,
 z22:=Tryd.sizeOf39,
 v22:=Tryd.zeroValue39,
 t25:=Tryd.underlying82,
 a25:=Tryd.isAgg82,
 z25:=Tryd.sizeOf82,
 v25:=Tryd.zeroValue82,
 t39:=Tryd.underlying100,
 a39:=Tryd.isAgg100,
 z39:=Tryd.sizeOf100,
 v39:=Tryd.zeroValue100,
 t45:=Tryd.underlying112,
 a45:=Tryd.isAgg112,
 z45:=Tryd.sizeOf112,
 v45:=Tryd.zeroValue112,
 t46:=Tryd.underlying113,
 a46:=Tryd.isAgg113,
 z46:=Tryd.sizeOf113,
 v46:=Tryd.zeroValue113,
 t50:=Tryd.underlying102,
 a50:=Tryd.isAgg102,
 z50:=Tryd.sizeOf102,
 v50:=Tryd.zeroValue102,
 t53:=Tryd.underlying119,
 a53:=Tryd.isAgg119,
 z53:=Tryd.sizeOf119,
 v53:=Tryd.zeroValue119,
 t55:=Tryd.underlying121,
 a55:=Tryd.isAgg121,
 z55:=Tryd.sizeOf121,
 v55:=Tryd.zeroValue121,
 t66:=Tryd.underlying129,
 a66:=Tryd.isAgg129,
 z66:=Tryd.sizeOf129,
 v66:=Tryd.zeroValue129,
 t70:=Tryd.underlying133,
 a70:=Tryd.isAgg133,
 z70:=Tryd.sizeOf133,
 v70:=Tryd.zeroValue133,
 t76:=Tryd.underlying145,
 a76:=Tryd.isAgg145,
 z76:=Tryd.sizeOf145,
 v76:=Tryd.zeroValue145,
 t77:=Tryd.underlying83,
 a77:=Tryd.isAgg83,
 z77:=Tryd.sizeOf83,
 v77:=Tryd.zeroValue83 }
theorem cE2 (s:ByteArray) (W:World):Calls Tryd.prog 61 #[.string s] W fun e w'=>e=.returned (.bool false)∧w'=W:=by
 go_enter Tryd.func61,Tryd.ntmps61
 go_wp2
 go_ret
 exact ⟨rfl,rfl⟩
theorem cL9 (a b:ByteArray) (W:World):Calls Tryd.prog 43 #[.string a,.string b] W fun e w'=>e=.returned (.int .i64 (if Op.bytesLess a.toList b.toList=true then -1 else if (!(Op.bytesLess a.toList b.toList || a.toList == b.toList))=true then 1 else 0))∧w'=W:=by
 have hn:=cE2
 have hg:∀w,(binOp .gtr 9 (.string a) (.string b)).run Tryd.prog w=.ok (.bool !(Op.bytesLess a.toList b.toList || a.toList == b.toList)) w:=fun w=>by
  simp [binOp,run_underlying Tryd.underlying9,Op.stringOp]
 generalize hz:(!(Op.bytesLess a.toList b.toList || a.toList == b.toList))=z at hg ⊢
 go_enter Tryd.func43,Tryd.ntmps43
 go_wp2_with (go_at_call 61; refine (hn _ _).mono ?_; rintro e w' ⟨rfl,rfl⟩)
 all_goals (try (go_ret; exact ⟨rfl,rfl⟩))
 all_goals go_wp2_with (simp only [hg])
 all_goals (try (go_ret; first|exact ⟨rfl,rfl⟩|(refine ⟨?_,rfl⟩; simp_all)))
 all_goals go_wp2
 all_goals (go_ret; first|exact ⟨rfl,rfl⟩|(refine ⟨?_,rfl⟩; simp_all))
def bA3 (a b:ByteArray):Int:=if Op.bytesLess a.toList b.toList=true then -1 else if (!(Op.bytesLess a.toList b.toList || a.toList == b.toList))=true then 1 else 0
theorem cI0 (s t:ByteArray) (a1 a2 a3 a4:Value) (W:World):Calls Tryd.prog 29 #[.agg #[.string s,a1,a2,a3,a4],.string t] W fun e w'=>e=.returned (.int .i64 (bA3 s t))∧∃q os',w'=grow (W.drewN q) os':=by
 have hn:=cL9 s t
 change ∀W,Calls Tryd.prog 43 _ W fun e w'=>e=.returned (.int .i64 (bA3 s t))∧w'=W at hn
 generalize bA3 s t=r at hn ⊢
 go_enter Tryd.func29,Tryd.ntmps29
 go_wp2_with (go_at_call 43; refine (hn _).mono ?_; rintro e w' ⟨rfl,rfl⟩)
 go_ret
 exact ⟨rfl,0,_,by rw [alloc_eq_grow]; rfl⟩
theorem cM4 (s t:ByteArray) (a1 a2 a3 a4 b1 b2 b3 b4:Value) (W:World):Calls Tryd.prog 28 #[.agg #[.string s,a1,a2,a3,a4],.agg #[.string t,b1,b2,b3,b4]] W fun e w'=>e=.returned (.int .i64 (bA3 s t))∧∃q os',w'=grow (W.drewN q) os':=by
 have hn:=fun W=>cI0 s t a1 a2 a3 a4 W
 generalize bA3 s t=r at hn ⊢
 go_enter Tryd.func28,Tryd.ntmps28
 go_wp2_with (go_at_call 29; refine (hn _).mono ?_; rintro e w' ⟨rfl,q,os',rfl⟩)
 go_ret
 exact ⟨rfl,q,_,by rw [alloc_eq_grow,alloc_eq_grow,grow_grow]; exact grow_grow (W.drewN q) _ os'⟩
set_option maxHeartbeats 1000000 in
theorem cL5 (n:Nat) (W:World) (h:n≤12):Calls Tryd.prog 60 #[.int .u64 n] W fun e w'=>(∃l:Int,e=.returned (.int .i64 l))∧w'=W:=by
 have hc:∃m:Nat,m≤12∧n=m:=⟨n,h,rfl⟩
 match n,h with
 |0,_|1,_|2,_|3,_|4,_|5,_|6,_|7,_|8,_|9,_|10,_|11,_|12,_ =>
  go_enter Tryd.func60,Tryd.ntmps60
  go_wp2
  go_ret
  exact ⟨⟨_,rfl⟩,rfl⟩
theorem bitsLen (n:Nat) (W:World) (h:n≤12):Calls Tryd.prog 42 #[.int .u64 n] W fun e w'=>(∃l:Int,e=.returned (.int .i64 l))∧w'=W:=by
 have hn:=fun W=>cL5 n W h
 go_enter Tryd.func42,Tryd.ntmps42
 go_wp2_with (go_at_call 60; refine (hn _).mono ?_; rintro e w' ⟨⟨l,rfl⟩,rfl⟩)
 go_ret
 exact ⟨⟨_,rfl⟩,rfl⟩
theorem cI6 (b:ByteArray):b.toList=b.data.toList:=by
 have:∀(n i:Nat) (r:List UInt8),n=b.size - i→ByteArray.toList.loop b i r=r.reverse++b.data.toList.drop i:=by
  intro n
  induction n with
  |zero =>
   intro i r h
   unfold ByteArray.toList.loop
   rw [if_neg (by omega)]
   have:b.data.toList.length≤i:=by simpa using (show b.size≤i by omega)
   rw [List.drop_eq_nil_of_le this]; simp
  |succ n ih =>
   intro i r h
   have hi:i < b.size:=by omega
   have hi':i < b.data.toList.length:=by simpa using hi
   unfold ByteArray.toList.loop
   rw [if_pos hi,ih (i+1) _ (by omega),List.drop_eq_getElem_cons hi']
   have e:b.get! i=b.data.toList[i]:=by
    show b.data[i]! = _
    rw [getElem!_pos b.data i hi,Array.getElem_toList]
   simp [e]
 have:=this b.size 0 [] (by omega)
 simpa [ByteArray.toList] using this
def aK0 : List Me:=[⟨⟨#[43]⟩,1,0,1,[]⟩,⟨⟨#[45]⟩,1,0,2,[]⟩,⟨⟨#[42]⟩,1,0,3,[]⟩,⟨⟨#[60]⟩,1,0,4,[]⟩,⟨⟨#[61]⟩,1,0,5,[]⟩]
def rk : _root_.Fin 5→Nat|0=>1|1=>2|2=>0|3=>3|4=>4
def cfI (i j:_root_.Fin 5):Int:=if rk i < rk j then -1 else if rk j < rk i then 1 else 0
def nmI (i:_root_.Fin 5):ByteArray:=match i with|0=>⟨#[43]⟩|1=>⟨#[45]⟩|2=>⟨#[42]⟩|3=>⟨#[60]⟩|4=>⟨#[61]⟩
theorem cN4 : Sort.insertionSort (ltOf cfI) #[0,1,2,3,4] 0 5=#[2,0,1,3,4]:=by decide +kernel
theorem cN8 : ∀i j:_root_.Fin 5,bA3 (nmI i) (nmI j)=cfI i j:=by
 have h:∀i:_root_.Fin 5,(nmI i).toList=(nmI i).data.toList:=fun i=>cI6 _
 unfold bA3
 simp only [h]
 decide +kernel
theorem Post.writeRowG {c:Ctx} {w w':World} {id sz e:Nat} {ls ls':List (List AV)} {css':List (List Value)} {b:Nat} (h:I4 c w [(id,.row sz ls e)]) (hb:(c.hd id).ownBlock=some b) (hR:C9 w' (c.hd id) sz e css') (hl:css'.length=ls'.length)
  (hr:∀(i:Nat) (us:List Value) (cs:List AV),css'[i]?=some us→ls'[i]?=some cs→y9 c.Φ w us cs) (ho:∀k,k < w.heap.size→k≠b→w'.heap[k]?=w.heap[k]?)
  (hs:w.heap.size≤w'.heap.size) (h1:w'.os=w.os) (h2:w'.tape=w.tape) (h3:w'.output=w.output):Post c w c w' [(id,.row sz ls e)] [(id,.row sz ls' e)] []:=by
 have hlt:=h.lt id _ b (l6 _ _ _) hb
 have ht:∀x,x=b→Touch c [(id,.row sz ls e)] [(id,.row sz ls' e)] x:=fun x hx=>⟨id,_,l6 _ _ _,by rw [l6]; rfl,by rw [hx]; exact hb⟩
 have hfr:∀x,c.Φ x→w'.heap[x]?=w.heap[x]?:=fun x hx=>ho x (h.phi x hx) fun e=>hlt.2 (e▸hx)
 refine ⟨h1,h2,h3,hs,fun b hb=>hb,fun b hb=>.inl hb,fun x hx hn=>ho x hx fun e=>hn (ht x e),fun _ _=>⟨rfl,rfl⟩,⟨fun i o hl=>?_,fun i o x hl hf=>?_,fun i i' o o' x hdis hl hl' hf=>?_,fun x hx=>by have:=h.phi x hx; omega⟩,fun i o x hl hf=>?_⟩<;>rw [l9] at hl<;>split at hl<;>first|(rename_i e1; subst e1; cases hl)|cases hl
 ·exact ⟨css',hR,by assumption,fun i us cs hu hc=>(hr i us cs hu hc).mono hfr fun _ h=>h⟩
 ·have:x=b:=by have hf':(c.hd id).ownBlock=some x:=hf; rw [hb] at hf'; injection hf' with e; exact e.symm
  rw [this]
  exact ⟨by omega,hlt.2⟩
 ·rw [G7 _ _ hdis] at hl'
  cases hl'
 ·have:x=b:=by have hf':(c.hd id).ownBlock=some x:=hf; rw [hb] at hf'; injection hf' with e; exact e.symm
  exact .inr (ht x this)
theorem aP0 {Φ:Nat→Prop} {w:World} {us:List Value} {m:Me} (h:y9 Φ w us (X5 m)):∃a1 a2 a3 a4,us=[.string m.name,a1,a2,a3,a4]:=by
 cases h with
 |cons h1 t1 =>
  cases t1 with
  |cons _ t2=>cases t2 with
   |cons _ t3=>cases t3 with
    |cons _ t4=>cases t4 with
     |cons _ t5 =>
      cases t5
      cases h1
      exact ⟨_,_,_,_,rfl⟩
def U4 (css:List (List Value)) (i:_root_.Fin 5):List Value:=css.getD i.val []
theorem cK4 {p:_root_.Fin 5→Prop} (h0:p 0) (h1:p 1) (h2:p 2) (h3:p 3) (h4:p 4):∀i,p i
 |⟨0,_⟩=>h0
 |⟨1,_⟩=>h1
 |⟨2,_⟩=>h2
 |⟨3,_⟩=>h3
 |⟨4,_⟩=>h4
theorem bS5 (css:List (List Value)) (hk:∀i,(U4 css i).length=5) (d:Array (_root_.Fin 5)) (j:Nat) (hj:j < d.size*5):(d.toList.map (U4 css)).flatten[j]?=some ((Go.Sort.flatK (U4 css) 5 d)[j]!):=by
 have hq:j / 5 < d.size:=by omega
 have h1:(d.toList.map (U4 css))[j / 5]?=some (U4 css d[j / 5]):=by
  rw [List.getElem?_map,Array.getElem?_toList,Array.getElem?_eq_getElem hq]; rfl
 have:=flat_get 5 (d.toList.map (U4 css)) (fun x hx=>by obtain ⟨i,_,rfl⟩:=List.mem_map.1 hx; exact hk i) (j / 5) (j % 5) _ h1 (Nat.mod_lt _ (by decide))
 rw [show j / 5*5+j % 5=j by omega] at this
 have hm:j % 5 < (U4 css d[j / 5]).length:=by rw [hk]; omega
 rw [this,get_flatK _ _ _ _ hj,getElem!_pos d (j / 5) hq,getElem!_pos (U4 css d[j / 5]) (j % 5) hm,List.getElem?_eq_getElem hm]
set_option maxHeartbeats 1000000 in
set_option maxRecDepth 100000 in
theorem b28 : Spec Tryd.prog 27 [(1000,.row 5 (aK0.map X5) 46)] [.own 1000,.fn 28 []] (.tup []) [(1000,.row 5 (K3.map X5) 46)] []:=by
 refine ⟨by kernel_rfl,(fun id hid=>by cases hid),fun c w args hok hr=>?_⟩
 obtain ⟨args⟩:=args
 have hr:q9 c w args [.own 1000,.fn 28 []]:=hr
 obtain ⟨v1,as1,rfl,r1,hr⟩:∃v r,args=v::r∧Rd c w v (.own 1000)∧q9 c w r [.fn 28 []]:=by cases hr with|cons a b=>exact ⟨_,_,rfl,a,b⟩
 obtain ⟨v2,as2,rfl,r2,hr⟩:∃v r,as1=v::r∧Rd c w v (.fn 28 [])∧q9 c w r []:=by cases hr with|cons a b=>exact ⟨_,_,rfl,a,b⟩
 obtain rfl:as2=[]:=by cases hr; rfl
 obtain ⟨cb,rfl,hcb⟩:=r2.fn_
 obtain rfl:cb=[]:=by cases hcb; rfl
 obtain ⟨A1,n1,cap1,rfl,h1,_,hc1⟩:=r1.own_
 have k0:lk [(1000,Obj.row 5 (aK0.map X5) 46)] 1000=some (.row 5 (aK0.map X5) 46):=rfl
 obtain ⟨css,R1,L1,q1⟩:=hok.rep 1000 _ k0
 rw [h1] at R1
 obtain ⟨u0,u1,u2,u3,u4,rfl⟩:∃u0 u1 u2 u3 u4,css=[u0,u1,u2,u3,u4]:=by
  match css,L1 with
  |[a,b,c,d,e],_=>exact ⟨a,b,c,d,e,rfl⟩
 obtain ⟨a1,a2,a3,a4,rfl⟩:=aP0 (q1 0 u0 _ rfl rfl)
 obtain ⟨b1,b2,b3,b4,rfl⟩:=aP0 (q1 1 u1 _ rfl rfl)
 obtain ⟨c1,c2,c3,c4,rfl⟩:=aP0 (q1 2 u2 _ rfl rfl)
 obtain ⟨d1,d2,d3,d4,rfl⟩:=aP0 (q1 3 u3 _ rfl rfl)
 obtain ⟨e1,e2,e3,e4,rfl⟩:=aP0 (q1 4 u4 _ rfl rfl)
 generalize hu0:([.string (⟨#[43]⟩:ByteArray),a1,a2,a3,a4]:List Value)=u0 at R1 q1
 generalize hu1:([.string (⟨#[45]⟩:ByteArray),b1,b2,b3,b4]:List Value)=u1 at R1 q1
 generalize hu2:([.string (⟨#[42]⟩:ByteArray),c1,c2,c3,c4]:List Value)=u2 at R1 q1
 generalize hu3:([.string (⟨#[60]⟩:ByteArray),d1,d2,d3,d4]:List Value)=u3 at R1 q1
 generalize hu4:([.string (⟨#[61]⟩:ByteArray),e1,e2,e3,e4]:List Value)=u4 at R1 q1
 have hE:∀i,∃y1 y2 y3 y4,U4 [u0,u1,u2,u3,u4] i=[.string (nmI i),y1,y2,y3,y4]:=cK4 ⟨_,_,_,_,hu0.symm⟩ ⟨_,_,_,_,hu1.symm⟩ ⟨_,_,_,_,hu2.symm⟩ ⟨_,_,_,_,hu3.symm⟩ ⟨_,_,_,_,hu4.symm⟩
 have hk:∀i,(U4 [u0,u1,u2,u3,u4] i).length=5:=fun i=>by obtain ⟨_,_,_,_,e⟩:=hE i; rw [e]; rfl
 have hmem:∀i,U4 [u0,u1,u2,u3,u4] i∈[u0,u1,u2,u3,u4]:=cK4 (by simp [U4]) (by simp [U4]) (by simp [U4]) (by simp [U4]) (by simp [U4])
 have h1c:∀i,∀v∈U4 [u0,u1,u2,u3,u4] i,v.oneCell'=true:=fun i v hv=>R1.one _ (hmem i) v hv
 clear hu0 hu1 hu2 hu3 hu4
 rcases R1.lies with ⟨e,h0⟩|⟨b,off,p,cap,cur,e,hh,hle,hpm,hsz,hoff,htk⟩
 ·cases h0
 obtain ⟨rfl,rfl,rfl⟩:A1=some ⟨b,off,none⟩∧n1=5∧cap=cap1:=by cases e; exact ⟨rfl,rfl,rfl⟩
 have hle:5≤cap:=hle
 obtain rfl:=hoff (by omega)
 have hbw:b < w.heap.size:=(Array.getElem?_eq_some_iff.1 hh).1
 have hcell:∀j,w.cell? ⟨b,j,none⟩=cur[j]?:=fun j=>by unfold World.cell?; rw [hh]; rfl
 have hfl:∀d:Array (_root_.Fin 5),d.size=5→(d.toList.map (U4 [u0,u1,u2,u3,u4])).flatten.length=25:=fun d hd=>by
  rw [O4 5 _ (fun x hx=>by obtain ⟨i,_,rfl⟩:=List.mem_map.1 hx; exact hk i),List.length_map,Array.length_toList,hd]
 have hH:HoldsK (U4 [u0,u1,u2,u3,u4]) 5 w b (p*5) #[0,1,2,3,4]:=fun j hj=>by
  rw [size_flatK] at hj
  have hj:j < 25:=hj
  have hf:=bS5 [u0,u1,u2,u3,u4] hk #[0,1,2,3,4] j hj
  have htk:(cur.toList.drop (p*5)).take (5*5)=((#[0,1,2,3,4]:Array (_root_.Fin 5)).toList.map (U4 [u0,u1,u2,u3,u4])).flatten:=htk
  have ht:((cur.toList.drop (p*5)).take (5*5))[j]?=(cur.toList.drop (p*5))[j]?:=List.getElem?_take_of_lt (by omega)
  refine ⟨?_,by unfold World.frozen?; rw [hh]; simp⟩
  rw [hcell,←Array.getElem?_toList,←List.getElem?_drop,←ht,htk,hf]
  rfl
 have hcmp:CmpLays Tryd.prog 28 #[] (U4 [u0,u1,u2,u3,u4]) 5 cfI b (p*5) (#[0,1,2,3,4]:Array (_root_.Fin 5)).size w:=fun m os dk hdk x y=>by
  obtain ⟨x1,x2,x3,x4,ex⟩:=hE x
  obtain ⟨y1,y2,y3,y4,ey⟩:=hE y
  rw [ex,ey,←cN8 x y]
  exact cM4 (nmI x) (nmI y) x1 x2 x3 x4 y1 y2 y3 y4 _
 have hcon:=AnyQ.slices_SortFunc_small cK8 5 Tryd.isAgg46 Tryd.sizeOf46 (U4 [u0,u1,u2,u3,u4]) hk h1c cfI 28 #[] b (p*5) cap #[0,1,2,3,4] w (enters_of Tryd.func28 (by kernel_rfl) rfl) hcmp hH hbw (by decide) bitsLen
 refine Calls.mono (show Calls Tryd.prog 27 _ _ _ from hcon) ?_
 rintro e w' ⟨rfl,n,os,hw'⟩
 rw [show (#[0,1,2,3,4]:Array (_root_.Fin 5)).size=5 from rfl,cN4] at hw'
 have hheap:w'.heap=(w.heap.modify b (onCells (putCells id (p*5) (Go.Sort.flatK (U4 [u0,u1,u2,u3,u4]) 5 #[2,0,1,3,4]))))++os:=by rw [hw']; rfl
 have hb':w'.heap[b]?=some (.cells (putCells id (p*5) (Go.Sort.flatK (U4 [u0,u1,u2,u3,u4]) 5 #[2,0,1,3,4]) cur) 46):=by
  rw [hheap,Array.getElem?_append_left (by simpa using hbw),Array.getElem?_modify,if_pos rfl,hh]
  rfl
 have hob:(c.hd 1000).ownBlock=some b:=by rw [h1]; rfl
 refine ⟨.tuple #[],c,rfl,Post.writeRowG (css':=(#[2,0,1,3,4]:Array (_root_.Fin 5)).toList.map (U4 [u0,u1,u2,u3,u4])) (b:=b) hok hob ?_ rfl ?_ (fun k hk hne=>?_) (by rw [hheap]; simp) (by rw [hw']; rfl) (by rw [hw']; rfl) (by rw [hw']; rfl),.tup .nil⟩
 ·rw [h1]
  refine ⟨.inr ⟨b,p*5,p,cap,_,rfl,hb',hle,hpm,by simpa [putCells] using hsz,fun _=>rfl,?_⟩,fun x hx=>by obtain ⟨i,_,rfl⟩:=List.mem_map.1 hx; exact hk i,fun x hx=>by obtain ⟨i,_,rfl⟩:=List.mem_map.1 hx; exact h1c i⟩
  apply List.ext_getElem?
  intro j
  by_cases hj:j < 25
  ·have hf:=bS5 [u0,u1,u2,u3,u4] hk #[2,0,1,3,4] j hj
   have hp:p*5+j < cur.size:=by omega
   rw [List.getElem?_take_of_lt (show j < ((#[2,0,1,3,4]:Array (_root_.Fin 5)).toList.map (U4 [u0,u1,u2,u3,u4])).length*5 from hj),List.getElem?_drop,Array.getElem?_toList,hf]
   unfold putCells
   rw [Array.getElem?_mapIdx,Array.getElem?_eq_getElem hp]
   simp only [Option.map_some]
   rw [if_pos ⟨by omega,by rw [size_flatK]; show p*5+j < p*5+25; omega⟩,show p*5+j - p*5=j by omega]
   rfl
  ·rw [List.getElem?_eq_none (by rw [List.length_take]; show min 25 _≤j; omega),List.getElem?_eq_none (by rw [hfl _ rfl]; omega)]
 ·intro i us cs hu hc
  match i,hu,hc with
  |0,hu,hc=>cases hu; cases hc; exact q1 2 _ _ rfl rfl
  |1,hu,hc=>cases hu; cases hc; exact q1 0 _ _ rfl rfl
  |2,hu,hc=>cases hu; cases hc; exact q1 1 _ _ rfl rfl
  |3,hu,hc=>cases hu; cases hc; exact q1 3 _ _ rfl rfl
  |4,hu,hc=>cases hu; cases hc; exact q1 4 _ _ rfl rfl
  |i+5,hu,hc=>cases hc
 ·rw [hheap,Array.getElem?_append_left (by simpa using hk),Array.getElem?_modify,if_neg (fun e=>hne e.symm)]
def bM8 : List ByteArray:=[⟨#[43]⟩,⟨#[45]⟩,⟨#[42]⟩,⟨#[60]⟩,⟨#[61]⟩]
set_option maxRecDepth 100000 in
theorem cH5 : Spec Tryd.prog 26 [] [] (.own 0) [(0,.row 1 (List.map bI3 bM8) 9)] [0]:=by
 refine Spec.of G9 Tryd.func26 rfl Tryd.ntmps26 (by kernel_rfl) rfl rfl rfl fun Γ hn=>?_
 refine j6 hn ?_
 refine j6 hn ?_
 refine Exists.intro (List.map bI3 bM8) (And.intro (by repeat (first|exact trivial|exact rfl|(refine And.intro ?_ ?_))) ?_)
 refine got hn ?_
 exact ⟨[(0,1)],_,fm⟩
def bI4 (a:AV):List (List AV):=[[.str ⟨#[79,98,106,101,99,116]⟩,.int (-1),.int 0,.nilsl],[.str ⟨#[78,105,108]⟩,.int 0,.int 0,.nilsl],[.str ⟨#[66,111,111,108]⟩,.int 0,.int 0,.nilsl],[.str ⟨#[73,110,116]⟩,.int 0,.int 0,a]]
theorem cN9 : ∀k:Nat,k < 5→∃x,bM8[k]?=some x∧aK0[k]?=some ⟨x,1,0,(k:Int)+1,[]⟩
 |0,_=>⟨_,rfl,rfl⟩
 |1,_=>⟨_,rfl,rfl⟩
 |2,_=>⟨_,rfl,rfl⟩
 |3,_=>⟨_,rfl,rfl⟩
 |4,_=>⟨_,rfl,rfl⟩
 |k+5,h=>absurd h (by omega)
set_option maxRecDepth 100000 in
theorem bO9 (N:Nat) (r:Wd) (h:aZ1 N=some r):Spec Tryd.prog 12 [] [] (.agg (eWd r)) [] []:=by
 obtain rfl:=Option.some.inj h
 refine Spec.of G9 Tryd.func12 rfl Tryd.ntmps12 (by kernel_rfl) rfl rfl rfl fun Γ hn=>?_
 (repeat (first|refine j6 hn ?_|refine y7 hn ?_|refine gob hn ?_|refine q8 hn ?_|refine K9 hn ?_|refine y5 hn ?_|refine got hn ?_))
 refine Or.inr ?_
 refine Exists.intro (bI4 .nilsl) (And.intro (by repeat (first|exact trivial|exact rfl|(refine And.intro ?_ ?_))) ?_)
 (repeat (first|refine j6 hn ?_|refine y7 hn ?_|refine gob hn ?_|refine q8 hn ?_|refine K9 hn ?_|refine y5 hn ?_|refine got hn ?_))
 refine And.intro (by decide) (And.intro (by show (3:Int) < 4; decide) ?_)
 (repeat (first|refine j6 hn ?_|refine y7 hn ?_|refine gob hn ?_|refine q8 hn ?_|refine K9 hn ?_|refine y5 hn ?_|refine got hn ?_))
 show l7 Tryd.prog _ _ _ _
 refine cA (cH5.sw 0 15) ?_
 refine C8 (fun hl=>?_)
 show j4 Tryd.prog Γ _ _ _ _
 refine j4.gh (Gh.unnil (r:=9) (i:=3) (off:=3) (j:=104) (j':=105) (isz:=5) (ie:=46) rfl rfl rfl rfl rfl rfl rfl rfl) (fun _=>?_)
 refine j4.joinR (ι:=Hd) (fun g=>[(0,.ptr 0 0),(1,.ptr 1 0),(2,.ep 9 3 4 3)]) (fun g=>[(0,.box [.nilsl,.nilsl,.int 0] 25),(1,.box [.own 9,.nilsl,.int 0] 25),(9,.row 4 (bI4 (.con g.v)) 41),(104,.row 5 (aK0.map X5) 46),(105,.eqv 104 g.v)]) (fun Qj nj xj rj=>?_) (by intro q; rw [hn]; rfl) ?_
 ·refine j4.blkQ fun Qb nb eb xb rb=>?_
  refine j4.loopQ (ι:={ q:Nat×Hd // q.1≤5 }) (fun q=>[(0,.ptr 0 0),(1,.ptr 1 0),(2,.ep 9 3 4 3),(15,.own 15),(16,.int 5),(17,.int q.1.1)]) (fun q=>[(0,.box [.nilsl,.nilsl,.int 0] 25),(1,.box [.own 9,.nilsl,.int 0] 25),(9,.row 4 (bI4 (.con q.1.2.v)) 41),(15,.row 1 (bM8.map bI3) 9),(104,.row 5 ((aK0.take q.1.1).map X5) 46),(105,.eqv 104 q.1.2.v)]) (fun q=>5 - q.1.1) ⟨(0,⟨none,0,0⟩),by omega⟩ [] ⟨⟨rfl,rfl,rfl,rfl,rfl,rfl,trivial⟩,⟨rfl,rfl,rfl,rfl,rfl,rfl,trivial⟩,rfl,rfl⟩ (by intro q; rw [hn]; rfl) ?_
  rintro ⟨⟨k,hd⟩,hk⟩ Ql nl xl rl
  have hk:k≤5:=hk
  (repeat (first|refine j6 hn ?_|refine y7 hn ?_|refine gob hn ?_|refine q8 hn ?_|refine K9 hn ?_|refine y5 hn ?_|refine got hn ?_))
  refine bP7 (fun hlt=>?_) (fun hge=>?_)
  ·have hlt:k < 5:=by have:(k:Int) < 5:=hlt; omega
   obtain ⟨x,hx,hm⟩:=cN9 k hlt
   (repeat (first|refine j6 hn ?_|refine y7 hn ?_|refine gob hn ?_|refine q8 hn ?_|refine K9 hn ?_|refine y5 hn ?_|refine got hn ?_))
   refine aV0 (i:=(k:Int)) (by rw [aA4]; exact hx) ?_
   refine ldM hx ?_
   show j4 Tryd.prog Γ _ _ _ _
   refine j4.snoc (y7 hn ?_)
   refine And.intro (by show 3 < 4; decide) (fun cs hcs=>?_)
   have hcs:(bI4 (.con hd.v))[3]?=some cs:=hcs
   obtain rfl:cs=[.str ⟨#[73,110,116]⟩,.int 0,.int 0,.con hd.v]:=(Option.some.inj hcs).symm
   refine And.intro rfl ?_
   refine Or.inl (And.intro ⟨by omega,by omega⟩ ?_)
   refine Exists.intro (List.map X5 [⟨x,1,0,(k:Int)+1,[]⟩]) (And.intro (by repeat (first|exact trivial|exact rfl|(refine And.intro ?_ ?_))) ?_)
   refine And.intro ?_ (Exists.intro (List.map X5 (aK0.take k++[⟨x,1,0,(k:Int)+1,[]⟩])) (And.intro (bC0 (K7 _)) ?_))
   ·show ((List.map X5 (aK0.take k)).length+1)*64≤_
    rw [List.length_map,List.length_take]
    omega
   refine And.intro (by show 3 < 4; decide) (And.intro ?_ ?_)
   ·intro cs hcs
    have hcs:(bI4 (.con hd.v))[3]?=some cs:=hcs
    obtain rfl:cs=[.str ⟨#[73,110,116]⟩,.int 0,.int 0,.con hd.v]:=(Option.some.inj hcs).symm
    show 3 < 4
    omega
   show P7 Γ _ _ _
   refine P7.gh (Gh.rowx 9 106 rfl rfl rfl (fun _=>rfl) rfl) (fun g=>?_)
   refine P7.done ?_
   show j4 Tryd.prog Γ _ _ _ _
   (repeat (first|refine j6 hn ?_|refine y7 hn ?_|refine gob hn ?_|refine q8 hn ?_|refine K9 hn ?_|refine y5 hn ?_|refine got hn ?_))
   refine Or.inl (And.intro ⟨by omega,by omega⟩ ?_)
   refine nl _ _ ?_
   refine P7.done ?_
   have e:aK0.take k++[⟨x,1,0,(k:Int)+1,[]⟩]=aK0.take (k+1):=by rw [List.take_add_one,hm]; rfl
   refine ⟨⟨(k+1,g),hlt⟩,[(104,31),(105,106)],by show 5 - (k+1) < 5 - k; omega,⟨⟨rfl,rfl,rfl,rfl,rfl,rfl,trivial⟩,⟨rfl,rfl,rfl,rfl,?_,rfl,trivial⟩,rfl,rfl⟩⟩
   exact congrArg (fun q=>some (Obj.row 5 (List.map X5 q) 46)) e
  ·have e:k=5:=by have:¬((k:Int) < 5):=hge; omega
   subst e
   (repeat (first|refine j6 hn ?_|refine y7 hn ?_|refine gob hn ?_|refine q8 hn ?_|refine K9 hn ?_|refine y5 hn ?_|refine got hn ?_))
   refine xl _ _ _ ?_
   refine eb _ _ ?_
   refine nj _ _ ?_
   refine P7.done ?_
   exact ⟨hd,[],trivial,⟨⟨rfl,rfl,rfl,trivial⟩,⟨rfl,rfl,rfl,rfl,rfl,trivial⟩,rfl,rfl⟩⟩
 intro g
 show j4 Tryd.prog Γ _ _ _ _
 (repeat (first|refine j6 hn ?_|refine y7 hn ?_|refine gob hn ?_|refine q8 hn ?_|refine K9 hn ?_|refine y5 hn ?_|refine got hn ?_))
 refine And.intro (by show 3 < 4; decide) (fun cs hcs=>?_)
 have hcs:(bI4 (.con g.v))[3]?=some cs:=hcs
 obtain rfl:cs=[.str ⟨#[73,110,116]⟩,.int 0,.int 0,.con g.v]:=(Option.some.inj hcs).symm
 refine And.intro rfl ?_
 show l7 Tryd.prog _ _ _ _
 refine cA (b28.sw 1000 104) ?_
 show j4 Tryd.prog Γ _ _ _ _
 refine j4.fzIn 9 3 3 104 105 rfl rfl rfl rfl rfl rfl rfl rfl ?_
 refine j4.leRow 9 (List.map eCl J3.classes) rfl (by repeat (first|exact trivial|exact rfl|(refine And.intro ?_ ?_))) ?_
 refine j4.fzAll 9 rfl ?_
 (repeat (first|refine j6 hn ?_|refine y7 hn ?_|refine gob hn ?_|refine q8 hn ?_|refine K9 hn ?_|refine y5 hn ?_|refine got hn ?_))
 exact ⟨[],_,rfl,(by repeat (first|exact trivial|exact rfl|(refine And.intro ?_ ?_))),trivial,rfl,rfl,rfl,rfl,rfl⟩
end Go.Proofs.YtibjcppjfkamhaaDoor
