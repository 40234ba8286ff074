/- class.New: the library's sort at its five methods; then the walk. -/
import Derived.Test.YtahmeibkdhbngaaN
import Derived.Test.YtahmeibkdhbngaaIo
import Derived.Test.YtahmeibkdhbngaaDg
import Derived.Test.YtahmeibkdhbngaaHd
import Derived.Lib.Walk
import Derived.Shelf.SlSortCmp.SmallK
namespace Go.Proofs.Ytahmeibkdhbngaa
open Go.RowKit Go.Lib Go.Proofs Go.Shelf Go.Sort
set_option linter.unusedVariables false
def bP3 : Go.Shelf.Ren:=⟨fun|6=>62|15=>90|14=>89|28=>118|29=>119|20=>110|21=>111|22=>112|23=>113|24=>114|25=>115|26=>116|27=>117|46=>128|47=>129|48=>130|49=>131|50=>132|57=>134|n=>n,fun|22=>65|24=>64|25=>123|3=>3|39=>158|0=>0|53=>188|55=>190|4=>4|46=>182|45=>181|50=>126|5=>5|9=>9|66=>194|70=>198|76=>201|77=>73|n=>n,fun|n=>n⟩
theorem b45 : Go.Proofs.SlLaysF0.n6 Try.prog bP3:={
 mixed:=by kernel_rfl,
 f6:=⟨Try.f62.name,by decide,Try.func62.trans (congrArg some (by kernel_rfl))⟩,
 f14:=⟨Try.f89.name,by decide,Try.func89.trans (congrArg some (by kernel_rfl))⟩,
 f15:=Try.func90.trans (congrArg some (by kernel_rfl)),
 f20:=⟨Try.f110.name,by decide,Try.func110.trans (congrArg some (by kernel_rfl))⟩,
 f21:=⟨Try.f111.name,by decide,Try.func111.trans (congrArg some (by kernel_rfl))⟩,
 f22:=⟨Try.f112.name,by decide,Try.func112.trans (congrArg some (by kernel_rfl))⟩,
 f23:=⟨Try.f113.name,by decide,Try.func113.trans (congrArg some (by kernel_rfl))⟩,
 f24:=⟨Try.f114.name,by decide,Try.func114.trans (congrArg some (by kernel_rfl))⟩,
 f25:=⟨Try.f115.name,by decide,Try.func115.trans (congrArg some (by kernel_rfl))⟩,
 f26:=⟨Try.f116.name,by decide,Try.func116.trans (congrArg some (by kernel_rfl))⟩,
 f27:=⟨Try.f117.name,by decide,Try.func117.trans (congrArg some (by kernel_rfl))⟩,
 f28:=Try.func118.trans (congrArg some (by kernel_rfl)),
 f29:=Try.func119.trans (congrArg some (by kernel_rfl)),
 f46:=⟨Try.f128.name,by decide,Try.func128.trans (congrArg some (by kernel_rfl))⟩,
 f47:=Try.func129.trans (congrArg some (by kernel_rfl)),
 f48:=Try.func130.trans (congrArg some (by kernel_rfl)),
 f49:=⟨Try.f131.name,by decide,Try.func131.trans (congrArg some (by kernel_rfl))⟩,
 f50:=⟨Try.f132.name,by decide,Try.func132.trans (congrArg some (by kernel_rfl))⟩,
 f57:=⟨Try.f134.name,by decide,Try.func134.trans (congrArg some (by kernel_rfl))⟩,
 t0:=Try.underlying0,
 a0:=Try.isAgg0,
 z0:=Try.sizeOf0,
 v0:=Try.zeroValue0,
 t3:=Try.underlying3,
 a3:=Try.isAgg3,
 z3:=Try.sizeOf3,
 v3:=Try.zeroValue3,
 t4:=Try.underlying4,
 a4:=Try.isAgg4,
 z4:=Try.sizeOf4,
 v4:=Try.zeroValue4,
 t5:=Try.underlying5,
 a5:=Try.isAgg5,
 z5:=Try.sizeOf5,
 v5:=Try.zeroValue5,
 t9:=Try.underlying9,
 a9:=Try.isAgg9,
 z9:=Try.sizeOf9,
 v9:=Try.zeroValue9,
 t22:=Try.underlying65,
 a22:=Try.isAgg65,
 z22:=Try.sizeOf65,
 v22:=Try.zeroValue65,
 t25:=Try.underlying123,
 a25:=Try.isAgg123,
 z25:=Try.sizeOf123,
 v25:=Try.zeroValue123,
 t39:=Try.underlying158,
 a39:=Try.isAgg158,
 z39:=Try.sizeOf158,
 v39:=Try.zeroValue158,
 t45:=Try.underlying181,
 a45:=Try.isAgg181,
 z45:=Try.sizeOf181,
 v45:=Try.zeroValue181,
 t46:=Try.underlying182,
 a46:=Try.isAgg182,
 z46:=Try.sizeOf182,
 v46:=Try.zeroValue182,
 t50:=Try.underlying126,
 a50:=Try.isAgg126,
 z50:=Try.sizeOf126,
 v50:=Try.zeroValue126,
 t53:=Try.underlying188,
 a53:=Try.isAgg188,
 z53:=Try.sizeOf188,
 v53:=Try.zeroValue188,
 t55:=Try.underlying190,
 a55:=Try.isAgg190,
 z55:=Try.sizeOf190,
 v55:=Try.zeroValue190,
 t66:=Try.underlying194,
 a66:=Try.isAgg194,
 z66:=Try.sizeOf194,
 v66:=Try.zeroValue194,
 t70:=Try.underlying198,
 a70:=Try.isAgg198,
 z70:=Try.sizeOf198,
 v70:=Try.zeroValue198,
 t76:=Try.underlying201,
 a76:=Try.isAgg201,
 z76:=Try.sizeOf201,
 v76:=Try.zeroValue201,
 t77:=Try.underlying73,
 a77:=Try.isAgg73,
 z77:=Try.sizeOf73,
 v77:=Try.zeroValue73 }
theorem b30 (s:ByteArray) (W:World):Calls Try.prog 120 #[.string s] W fun e w'=>e=.returned (.bool false)∧w'=W:=by
 go_enter Try.func120,Try.ntmps120
 go_wp2
 go_ret
 exact ⟨rfl,rfl⟩
theorem b76 (a b:ByteArray) (W:World):Calls Try.prog 91 #[.string a,.string b] W fun e w'=>e=.returned (.int .i64 (if Op.bytesLess a.toList b.toList=true then -1 else if (!(Op.bytesLess a.toList b.toList || a.toList == b.toList))=true then 1 else 0))∧w'=W:=by
 have hn:=b30
 have hg:∀w,(binOp .gtr 9 (.string a) (.string b)).run Try.prog w=.ok (.bool !(Op.bytesLess a.toList b.toList || a.toList == b.toList)) w:=fun w=>by
  simp [binOp,run_underlying Try.underlying9,Op.stringOp]
 generalize hz:(!(Op.bytesLess a.toList b.toList || a.toList == b.toList))=z at hg ⊢
 go_enter Try.func91,Try.ntmps91
 go_wp2_with (go_at_call 120; refine (hn _ _).mono ?_; rintro e w' ⟨rfl,rfl⟩)
 all_goals (try (go_ret; exact ⟨rfl,rfl⟩))
 all_goals go_wp2_with (simp only [hg])
 all_goals (try (go_ret; first|exact ⟨rfl,rfl⟩|(refine ⟨?_,rfl⟩; simp_all)))
 all_goals go_wp2
 all_goals (go_ret; first|exact ⟨rfl,rfl⟩|(refine ⟨?_,rfl⟩; simp_all))
def aZ6 (a b:ByteArray):Int:=if Op.bytesLess a.toList b.toList=true then -1 else if (!(Op.bytesLess a.toList b.toList || a.toList == b.toList))=true then 1 else 0
theorem b25 (s t:ByteArray) (a1 a2 a3 a4:Value) (W:World):Calls Try.prog 64 #[.agg #[.string s,a1,a2,a3,a4],.string t] W fun e w'=>e=.returned (.int .i64 (aZ6 s t))∧∃q os',w'=grow (W.drewN q) os':=by
 have hn:=b76 s t
 change ∀W,Calls Try.prog 91 _ W fun e w'=>e=.returned (.int .i64 (aZ6 s t))∧w'=W at hn
 generalize aZ6 s t=r at hn ⊢
 go_enter Try.func64,Try.ntmps64
 go_wp2_with (go_at_call 91; refine (hn _).mono ?_; rintro e w' ⟨rfl,rfl⟩)
 go_ret
 exact ⟨rfl,0,_,by rw [alloc_eq_grow]; rfl⟩
theorem b80 (s t:ByteArray) (a1 a2 a3 a4 b1 b2 b3 b4:Value) (W:World):Calls Try.prog 63 #[.agg #[.string s,a1,a2,a3,a4],.agg #[.string t,b1,b2,b3,b4]] W fun e w'=>e=.returned (.int .i64 (aZ6 s t))∧∃q os',w'=grow (W.drewN q) os':=by
 have hn:=fun W=>b25 s t a1 a2 a3 a4 W
 generalize aZ6 s t=r at hn ⊢
 go_enter Try.func63,Try.ntmps63
 go_wp2_with (go_at_call 64; refine (hn _).mono ?_; rintro e w' ⟨rfl,q,os',rfl⟩)
 go_ret
 exact ⟨rfl,q,_,by rw [alloc_eq_grow,alloc_eq_grow,grow_grow]; exact grow_grow (W.drewN q) _ os'⟩
set_option maxHeartbeats 1000000 in
theorem b77 (n:Nat) (W:World) (h:n≤12):Calls Try.prog 119 #[.int .u64 n] W fun e w'=>(∃l:Int,e=.returned (.int .i64 l))∧w'=W:=by
 have hc:∃m:Nat,m≤12∧n=m:=⟨n,h,rfl⟩
 match n,h with
 |0,_|1,_|2,_|3,_|4,_|5,_|6,_|7,_|8,_|9,_|10,_|11,_|12,_ =>
  go_enter Try.func119,Try.ntmps119
  go_wp2
  go_ret
  exact ⟨⟨_,rfl⟩,rfl⟩
theorem bitsLen (n:Nat) (W:World) (h:n≤12):Calls Try.prog 90 #[.int .u64 n] W fun e w'=>(∃l:Int,e=.returned (.int .i64 l))∧w'=W:=by
 have hn:=fun W=>b77 n W h
 go_enter Try.func90,Try.ntmps90
 go_wp2_with (go_at_call 119; refine (hn _).mono ?_; rintro e w' ⟨⟨l,rfl⟩,rfl⟩)
 go_ret
 exact ⟨⟨_,rfl⟩,rfl⟩
theorem b42 (b:ByteArray):b.toList=b.data.toList:=by
 have:∀(n i:Nat) (r:List UInt8),n=b.size - i→ByteArray.toList.loop b i r=r.reverse++b.data.toList.drop i:=by
  intro n
  induction n with
  |zero =>
   intro i r h
   unfold ByteArray.toList.loop
   rw [if_neg (by omega)]
   have:b.data.toList.length≤i:=by simpa using (show b.size≤i by omega)
   rw [List.drop_eq_nil_of_le this]; simp
  |succ n ih =>
   intro i r h
   have hi:i < b.size:=by omega
   have hi':i < b.data.toList.length:=by simpa using hi
   unfold ByteArray.toList.loop
   rw [if_pos hi,ih (i+1) _ (by omega),List.drop_eq_getElem_cons hi']
   have e:b.get! i=b.data.toList[i]:=by
    show b.data[i]! = _
    rw [getElem!_pos b.data i hi,Array.getElem_toList]
   simp [e]
 have:=this b.size 0 [] (by omega)
 simpa [ByteArray.toList] using this
def aH1 : List Me:=[⟨⟨#[43]⟩,1,0,1,[]⟩,⟨⟨#[45]⟩,1,0,2,[]⟩,⟨⟨#[42]⟩,1,0,3,[]⟩,⟨⟨#[60]⟩,1,0,4,[]⟩,⟨⟨#[61]⟩,1,0,5,[]⟩]
def rk : _root_.Fin 5→Nat|0=>1|1=>2|2=>0|3=>3|4=>4
def cfI (i j:_root_.Fin 5):Int:=if rk i < rk j then -1 else if rk j < rk i then 1 else 0
def nmI (i:_root_.Fin 5):ByteArray:=match i with|0=>⟨#[43]⟩|1=>⟨#[45]⟩|2=>⟨#[42]⟩|3=>⟨#[60]⟩|4=>⟨#[61]⟩
theorem b90 : Sort.insertionSort (ltOf cfI) #[0,1,2,3,4] 0 5=#[2,0,1,3,4]:=by decide +kernel
theorem b92 : ∀i j:_root_.Fin 5,aZ6 (nmI i) (nmI j)=cfI i j:=by
 have h:∀i:_root_.Fin 5,(nmI i).toList=(nmI i).data.toList:=fun i=>b42 _
 unfold aZ6
 simp only [h]
 decide +kernel
theorem Post.writeRowG {c:Ctx} {w w':World} {id sz e:Nat} {ls ls':List (List AV)} {css':List (List Value)} {b:Nat} (h:F4 c w [(id,.row sz ls e)]) (hb:(c.hd id).ownBlock=some b) (hR:z8 w' (c.hd id) sz e css') (hl:css'.length=ls'.length)
  (hr:∀(i:Nat) (us:List Value) (cs:List AV),css'[i]?=some us→ls'[i]?=some cs→u7 c.Φ w us cs) (ho:∀k,k < w.heap.size→k≠b→w'.heap[k]?=w.heap[k]?)
  (hs:w.heap.size≤w'.heap.size) (h1:w'.os=w.os) (h2:w'.tape=w.tape) (h3:w'.output=w.output):Post c w c w' [(id,.row sz ls e)] [(id,.row sz ls' e)] []:=by
 have hlt:=h.lt id _ b (j6 _ _ _) hb
 have ht:∀x,x=b→Touch c [(id,.row sz ls e)] [(id,.row sz ls' e)] x:=fun x hx=>⟨id,_,j6 _ _ _,by rw [j6]; rfl,by rw [hx]; exact hb⟩
 have hfr:∀x,c.Φ x→w'.heap[x]?=w.heap[x]?:=fun x hx=>ho x (h.phi x hx) fun e=>hlt.2 (e▸hx)
 refine ⟨h1,h2,h3,hs,fun b hb=>hb,fun b hb=>.inl hb,fun x hx hn=>ho x hx fun e=>hn (ht x e),fun _ _=>⟨rfl,rfl⟩,⟨fun i o hl=>?_,fun i o x hl hf=>?_,fun i i' o o' x hdis hl hl' hf=>?_,fun x hx=>by have:=h.phi x hx; omega⟩,fun i o x hl hf=>?_⟩<;>rw [l6] at hl<;>split at hl<;>first|(rename_i e1; subst e1; cases hl)|cases hl
 ·exact ⟨css',hR,by assumption,fun i us cs hu hc=>(hr i us cs hu hc).mono hfr fun _ h=>h⟩
 ·have:x=b:=by have hf':(c.hd id).ownBlock=some x:=hf; rw [hb] at hf'; injection hf' with e; exact e.symm
  rw [this]
  exact ⟨by omega,hlt.2⟩
 ·rw [D7 _ _ hdis] at hl'
  cases hl'
 ·have:x=b:=by have hf':(c.hd id).ownBlock=some x:=hf; rw [hb] at hf'; injection hf' with e; exact e.symm
  exact .inr (ht x this)
theorem aL9 {Φ:Nat→Prop} {w:World} {us:List Value} {m:Me} (h:u7 Φ w us (D6 m)):∃a1 a2 a3 a4,us=[.string m.name,a1,a2,a3,a4]:=by
 cases h with
 |cons h1 t1 =>
  cases t1 with
  |cons _ t2=>cases t2 with
   |cons _ t3=>cases t3 with
    |cons _ t4=>cases t4 with
     |cons _ t5 =>
      cases t5
      cases h1
      exact ⟨_,_,_,_,rfl⟩
def P7 (css:List (List Value)) (i:_root_.Fin 5):List Value:=css.getD i.val []
theorem b51 {p:_root_.Fin 5→Prop} (h0:p 0) (h1:p 1) (h2:p 2) (h3:p 3) (h4:p 4):∀i,p i
 |⟨0,_⟩=>h0
 |⟨1,_⟩=>h1
 |⟨2,_⟩=>h2
 |⟨3,_⟩=>h3
 |⟨4,_⟩=>h4
theorem bK6 (css:List (List Value)) (hk:∀i,(P7 css i).length=5) (d:Array (_root_.Fin 5)) (j:Nat) (hj:j < d.size*5):(d.toList.map (P7 css)).flatten[j]?=some ((Go.Sort.flatK (P7 css) 5 d)[j]!):=by
 have hq:j / 5 < d.size:=by omega
 have h1:(d.toList.map (P7 css))[j / 5]?=some (P7 css d[j / 5]):=by
  rw [List.getElem?_map,Array.getElem?_toList,Array.getElem?_eq_getElem hq]; rfl
 have:=flat_get 5 (d.toList.map (P7 css)) (fun x hx=>by obtain ⟨i,_,rfl⟩:=List.mem_map.1 hx; exact hk i) (j / 5) (j % 5) _ h1 (Nat.mod_lt _ (by decide))
 rw [show j / 5*5+j % 5=j by omega] at this
 have hm:j % 5 < (P7 css d[j / 5]).length:=by rw [hk]; omega
 rw [this,get_flatK _ _ _ _ hj,getElem!_pos d (j / 5) hq,getElem!_pos (P7 css d[j / 5]) (j % 5) hm,List.getElem?_eq_getElem hm]
set_option maxHeartbeats 1000000 in
set_option maxRecDepth 100000 in
theorem bQ4 : Spec Try.prog 62 [(1000,.row 5 (aH1.map D6) 64)] [.own 1000,.fn 63 []] (.tup []) [(1000,.row 5 (aK3.map D6) 64)] []:=by
 refine ⟨by kernel_rfl,(fun id hid=>by cases hid),fun c w args hok hr=>?_⟩
 obtain ⟨args⟩:=args
 have hr:p8 c w args [.own 1000,.fn 63 []]:=hr
 obtain ⟨v1,as1,rfl,r1,hr⟩:∃v r,args=v::r∧Rd c w v (.own 1000)∧p8 c w r [.fn 63 []]:=by cases hr with|cons a b=>exact ⟨_,_,rfl,a,b⟩
 obtain ⟨v2,as2,rfl,r2,hr⟩:∃v r,as1=v::r∧Rd c w v (.fn 63 [])∧p8 c w r []:=by cases hr with|cons a b=>exact ⟨_,_,rfl,a,b⟩
 obtain rfl:as2=[]:=by cases hr; rfl
 obtain ⟨cb,rfl,hcb⟩:=r2.fn_
 obtain rfl:cb=[]:=by cases hcb; rfl
 obtain ⟨A1,n1,cap1,rfl,h1,_,hc1⟩:=r1.own_
 have k0:lk [(1000,Obj.row 5 (aH1.map D6) 64)] 1000=some (.row 5 (aH1.map D6) 64):=rfl
 obtain ⟨css,R1,L1,q1⟩:=hok.rep 1000 _ k0
 rw [h1] at R1
 obtain ⟨u0,u1,u2,u3,u4,rfl⟩:∃u0 u1 u2 u3 u4,css=[u0,u1,u2,u3,u4]:=by
  match css,L1 with
  |[a,b,c,d,e],_=>exact ⟨a,b,c,d,e,rfl⟩
 obtain ⟨a1,a2,a3,a4,rfl⟩:=aL9 (q1 0 u0 _ rfl rfl)
 obtain ⟨b1,b2,b3,b4,rfl⟩:=aL9 (q1 1 u1 _ rfl rfl)
 obtain ⟨c1,c2,c3,c4,rfl⟩:=aL9 (q1 2 u2 _ rfl rfl)
 obtain ⟨d1,d2,d3,d4,rfl⟩:=aL9 (q1 3 u3 _ rfl rfl)
 obtain ⟨e1,e2,e3,e4,rfl⟩:=aL9 (q1 4 u4 _ rfl rfl)
 generalize hu0:([.string (⟨#[43]⟩:ByteArray),a1,a2,a3,a4]:List Value)=u0 at R1 q1
 generalize hu1:([.string (⟨#[45]⟩:ByteArray),b1,b2,b3,b4]:List Value)=u1 at R1 q1
 generalize hu2:([.string (⟨#[42]⟩:ByteArray),c1,c2,c3,c4]:List Value)=u2 at R1 q1
 generalize hu3:([.string (⟨#[60]⟩:ByteArray),d1,d2,d3,d4]:List Value)=u3 at R1 q1
 generalize hu4:([.string (⟨#[61]⟩:ByteArray),e1,e2,e3,e4]:List Value)=u4 at R1 q1
 have hE:∀i,∃y1 y2 y3 y4,P7 [u0,u1,u2,u3,u4] i=[.string (nmI i),y1,y2,y3,y4]:=b51 ⟨_,_,_,_,hu0.symm⟩ ⟨_,_,_,_,hu1.symm⟩ ⟨_,_,_,_,hu2.symm⟩ ⟨_,_,_,_,hu3.symm⟩ ⟨_,_,_,_,hu4.symm⟩
 have hk:∀i,(P7 [u0,u1,u2,u3,u4] i).length=5:=fun i=>by obtain ⟨_,_,_,_,e⟩:=hE i; rw [e]; rfl
 have hmem:∀i,P7 [u0,u1,u2,u3,u4] i∈[u0,u1,u2,u3,u4]:=b51 (by simp [P7]) (by simp [P7]) (by simp [P7]) (by simp [P7]) (by simp [P7])
 have h1c:∀i,∀v∈P7 [u0,u1,u2,u3,u4] i,v.oneCell'=true:=fun i v hv=>R1.one _ (hmem i) v hv
 clear hu0 hu1 hu2 hu3 hu4
 rcases R1.lies with ⟨e,h0⟩|⟨b,off,p,cap,cur,e,hh,hle,hpm,hsz,hoff,htk⟩
 ·cases h0
 obtain ⟨rfl,rfl,rfl⟩:A1=some ⟨b,off,none⟩∧n1=5∧cap=cap1:=by cases e; exact ⟨rfl,rfl,rfl⟩
 have hle:5≤cap:=hle
 obtain rfl:=hoff (by omega)
 have hbw:b < w.heap.size:=(Array.getElem?_eq_some_iff.1 hh).1
 have hcell:∀j,w.cell? ⟨b,j,none⟩=cur[j]?:=fun j=>by unfold World.cell?; rw [hh]; rfl
 have hfl:∀d:Array (_root_.Fin 5),d.size=5→(d.toList.map (P7 [u0,u1,u2,u3,u4])).flatten.length=25:=fun d hd=>by
  rw [K7 5 _ (fun x hx=>by obtain ⟨i,_,rfl⟩:=List.mem_map.1 hx; exact hk i),List.length_map,Array.length_toList,hd]
 have hH:HoldsK (P7 [u0,u1,u2,u3,u4]) 5 w b (p*5) #[0,1,2,3,4]:=fun j hj=>by
  rw [size_flatK] at hj
  have hj:j < 25:=hj
  have hf:=bK6 [u0,u1,u2,u3,u4] hk #[0,1,2,3,4] j hj
  have htk:(cur.toList.drop (p*5)).take (5*5)=((#[0,1,2,3,4]:Array (_root_.Fin 5)).toList.map (P7 [u0,u1,u2,u3,u4])).flatten:=htk
  have ht:((cur.toList.drop (p*5)).take (5*5))[j]?=(cur.toList.drop (p*5))[j]?:=List.getElem?_take_of_lt (by omega)
  refine ⟨?_,by unfold World.frozen?; rw [hh]; simp⟩
  rw [hcell,←Array.getElem?_toList,←List.getElem?_drop,←ht,htk,hf]
  rfl
 have hcmp:CmpLays Try.prog 63 #[] (P7 [u0,u1,u2,u3,u4]) 5 cfI b (p*5) (#[0,1,2,3,4]:Array (_root_.Fin 5)).size w:=fun m os dk hdk x y=>by
  obtain ⟨x1,x2,x3,x4,ex⟩:=hE x
  obtain ⟨y1,y2,y3,y4,ey⟩:=hE y
  rw [ex,ey,←b92 x y]
  exact b80 (nmI x) (nmI y) x1 x2 x3 x4 y1 y2 y3 y4 _
 have hcon:=AnyQ.slices_SortFunc_small b45 5 Try.isAgg64 Try.sizeOf64 (P7 [u0,u1,u2,u3,u4]) hk h1c cfI 63 #[] b (p*5) cap #[0,1,2,3,4] w (enters_of Try.func63 (by kernel_rfl) rfl) hcmp hH hbw (by decide) bitsLen
 refine Calls.mono (show Calls Try.prog 62 _ _ _ from hcon) ?_
 rintro e w' ⟨rfl,n,os,hw'⟩
 rw [show (#[0,1,2,3,4]:Array (_root_.Fin 5)).size=5 from rfl,b90] at hw'
 have hheap:w'.heap=(w.heap.modify b (onCells (putCells id (p*5) (Go.Sort.flatK (P7 [u0,u1,u2,u3,u4]) 5 #[2,0,1,3,4]))))++os:=by rw [hw']; rfl
 have hb':w'.heap[b]?=some (.cells (putCells id (p*5) (Go.Sort.flatK (P7 [u0,u1,u2,u3,u4]) 5 #[2,0,1,3,4]) cur) 64):=by
  rw [hheap,Array.getElem?_append_left (by simpa using hbw),Array.getElem?_modify,if_pos rfl,hh]
  rfl
 have hob:(c.hd 1000).ownBlock=some b:=by rw [h1]; rfl
 refine ⟨.tuple #[],c,rfl,Post.writeRowG (css':=(#[2,0,1,3,4]:Array (_root_.Fin 5)).toList.map (P7 [u0,u1,u2,u3,u4])) (b:=b) hok hob ?_ rfl ?_ (fun k hk hne=>?_) (by rw [hheap]; simp) (by rw [hw']; rfl) (by rw [hw']; rfl) (by rw [hw']; rfl),.tup .nil⟩
 ·rw [h1]
  refine ⟨.inr ⟨b,p*5,p,cap,_,rfl,hb',hle,hpm,by simpa [putCells] using hsz,fun _=>rfl,?_⟩,fun x hx=>by obtain ⟨i,_,rfl⟩:=List.mem_map.1 hx; exact hk i,fun x hx=>by obtain ⟨i,_,rfl⟩:=List.mem_map.1 hx; exact h1c i⟩
  apply List.ext_getElem?
  intro j
  by_cases hj:j < 25
  ·have hf:=bK6 [u0,u1,u2,u3,u4] hk #[2,0,1,3,4] j hj
   have hp:p*5+j < cur.size:=by omega
   rw [List.getElem?_take_of_lt (show j < ((#[2,0,1,3,4]:Array (_root_.Fin 5)).toList.map (P7 [u0,u1,u2,u3,u4])).length*5 from hj),List.getElem?_drop,Array.getElem?_toList,hf]
   unfold putCells
   rw [Array.getElem?_mapIdx,Array.getElem?_eq_getElem hp]
   simp only [Option.map_some]
   rw [if_pos ⟨by omega,by rw [size_flatK]; show p*5+j < p*5+25; omega⟩,show p*5+j - p*5=j by omega]
   rfl
  ·rw [List.getElem?_eq_none (by rw [List.length_take]; show min 25 _≤j; omega),List.getElem?_eq_none (by rw [hfl _ rfl]; omega)]
 ·intro i us cs hu hc
  match i,hu,hc with
  |0,hu,hc=>cases hu; cases hc; exact q1 2 _ _ rfl rfl
  |1,hu,hc=>cases hu; cases hc; exact q1 0 _ _ rfl rfl
  |2,hu,hc=>cases hu; cases hc; exact q1 1 _ _ rfl rfl
  |3,hu,hc=>cases hu; cases hc; exact q1 3 _ _ rfl rfl
  |4,hu,hc=>cases hu; cases hc; exact q1 4 _ _ rfl rfl
  |i+5,hu,hc=>cases hc
 ·rw [hheap,Array.getElem?_append_left (by simpa using hk),Array.getElem?_modify,if_neg (fun e=>hne e.symm)]
def bG6 : List ByteArray:=[⟨#[43]⟩,⟨#[45]⟩,⟨#[42]⟩,⟨#[60]⟩,⟨#[61]⟩]
set_option maxRecDepth 100000 in
theorem b28 : Spec Try.prog 61 [] [] (.own 0) [(0,.row 1 (List.map bD9 bG6) 9)] [0]:=by
 refine Spec.of G5 Try.func61 rfl Try.ntmps61 (by kernel_rfl) rfl rfl rfl fun Γ hn=>?_
 refine j5 hn ?_
 refine j5 hn ?_
 refine Exists.intro (List.map bD9 bG6) (And.intro (by repeat (first|exact trivial|exact rfl|(refine And.intro ?_ ?_))) ?_)
 refine got hn ?_
 exact ⟨[(0,1)],_,fm⟩
def bD2 (a:AV):List (List AV):=[[.str ⟨#[79,98,106,101,99,116]⟩,.int (-1),.int 0,.nilsl],[.str ⟨#[78,105,108]⟩,.int 0,.int 0,.nilsl],[.str ⟨#[66,111,111,108]⟩,.int 0,.int 0,.nilsl],[.str ⟨#[73,110,116]⟩,.int 0,.int 0,a]]
theorem b84 : ∀k:Nat,k < 5→∃x,bG6[k]?=some x∧aH1[k]?=some ⟨x,1,0,(k:Int)+1,[]⟩
 |0,_=>⟨_,rfl,rfl⟩
 |1,_=>⟨_,rfl,rfl⟩
 |2,_=>⟨_,rfl,rfl⟩
 |3,_=>⟨_,rfl,rfl⟩
 |4,_=>⟨_,rfl,rfl⟩
 |k+5,h=>absurd h (by omega)
set_option maxRecDepth 100000 in
theorem bK1 (N:Nat) (r:Wd) (h:aH7 N=some r):Spec Try.prog 23 [] [] (.agg (eWd r)) [] []:=by
 obtain rfl:=Option.some.inj h
 refine Spec.of G5 Try.func23 rfl Try.ntmps23 (by kernel_rfl) rfl rfl rfl fun Γ hn=>?_
 (repeat (first|refine j5 hn ?_|refine w9 hn ?_|refine gob hn ?_|refine q8 hn ?_|refine I4 hn ?_|refine x9 hn ?_|refine got hn ?_))
 refine Or.inr ?_
 refine Exists.intro (bD2 .nilsl) (And.intro (by repeat (first|exact trivial|exact rfl|(refine And.intro ?_ ?_))) ?_)
 (repeat (first|refine j5 hn ?_|refine w9 hn ?_|refine gob hn ?_|refine q8 hn ?_|refine I4 hn ?_|refine x9 hn ?_|refine got hn ?_))
 refine And.intro (by decide) (And.intro (by show (3:Int) < 4; decide) ?_)
 (repeat (first|refine j5 hn ?_|refine w9 hn ?_|refine gob hn ?_|refine q8 hn ?_|refine I4 hn ?_|refine x9 hn ?_|refine got hn ?_))
 show p9 Try.prog _ _ _ _
 refine cA (b28.sw 0 15) ?_
 refine C9 (fun hl=>?_)
 show j4 Try.prog Γ _ _ _ _
 refine j4.gh (Gh.unnil (r:=9) (i:=3) (off:=3) (j:=104) (j':=105) (isz:=5) (ie:=64) rfl rfl rfl rfl rfl rfl rfl rfl) (fun _=>?_)
 refine j4.joinR (ι:=Hd) (fun g=>[(0,.ptr 0 0),(1,.ptr 1 0),(2,.ep 9 3 4 3)]) (fun g=>[(0,.box [.nilsl,.nilsl,.int 0] 37),(1,.box [.own 9,.nilsl,.int 0] 37),(9,.row 4 (bD2 (.con g.v)) 67),(104,.row 5 (aH1.map D6) 64),(105,.eqv 104 g.v)]) (fun Qj nj xj rj=>?_) (by intro q; rw [hn]; rfl) ?_
 ·refine j4.blkQ fun Qb nb eb xb rb=>?_
  refine j4.loopQ (ι:={ q:Nat×Hd // q.1≤5 }) (fun q=>[(0,.ptr 0 0),(1,.ptr 1 0),(2,.ep 9 3 4 3),(15,.own 15),(16,.int 5),(17,.int q.1.1)]) (fun q=>[(0,.box [.nilsl,.nilsl,.int 0] 37),(1,.box [.own 9,.nilsl,.int 0] 37),(9,.row 4 (bD2 (.con q.1.2.v)) 67),(15,.row 1 (bG6.map bD9) 9),(104,.row 5 ((aH1.take q.1.1).map D6) 64),(105,.eqv 104 q.1.2.v)]) (fun q=>5 - q.1.1) ⟨(0,⟨none,0,0⟩),by omega⟩ [] ⟨⟨rfl,rfl,rfl,rfl,rfl,rfl,trivial⟩,⟨rfl,rfl,rfl,rfl,rfl,rfl,trivial⟩,rfl,rfl⟩ (by intro q; rw [hn]; rfl) ?_
  rintro ⟨⟨k,hd⟩,hk⟩ Ql nl xl rl
  have hk:k≤5:=hk
  (repeat (first|refine j5 hn ?_|refine w9 hn ?_|refine gob hn ?_|refine q8 hn ?_|refine I4 hn ?_|refine x9 hn ?_|refine got hn ?_))
  refine bL0 (fun hlt=>?_) (fun hge=>?_)
  ·have hlt:k < 5:=by have:(k:Int) < 5:=hlt; omega
   obtain ⟨x,hx,hm⟩:=b84 k hlt
   (repeat (first|refine j5 hn ?_|refine w9 hn ?_|refine gob hn ?_|refine q8 hn ?_|refine I4 hn ?_|refine x9 hn ?_|refine got hn ?_))
   refine aX3 (i:=(k:Int)) (by rw [J9]; exact hx) ?_
   refine ldM hx ?_
   show j4 Try.prog Γ _ _ _ _
   refine j4.snoc (w9 hn ?_)
   refine And.intro (by show 3 < 4; decide) (fun cs hcs=>?_)
   have hcs:(bD2 (.con hd.v))[3]?=some cs:=hcs
   obtain rfl:cs=[.str ⟨#[73,110,116]⟩,.int 0,.int 0,.con hd.v]:=(Option.some.inj hcs).symm
   refine And.intro rfl ?_
   refine Or.inl (And.intro ⟨by omega,by omega⟩ ?_)
   refine Exists.intro (List.map D6 [⟨x,1,0,(k:Int)+1,[]⟩]) (And.intro (by repeat (first|exact trivial|exact rfl|(refine And.intro ?_ ?_))) ?_)
   refine And.intro ?_ (Exists.intro (List.map D6 (aH1.take k++[⟨x,1,0,(k:Int)+1,[]⟩])) (And.intro (aZ8 (D5 _)) ?_))
   ·show ((List.map D6 (aH1.take k)).length+1)*64≤_
    rw [List.length_map,List.length_take]
    omega
   refine And.intro (by show 3 < 4; decide) (And.intro ?_ ?_)
   ·intro cs hcs
    have hcs:(bD2 (.con hd.v))[3]?=some cs:=hcs
    obtain rfl:cs=[.str ⟨#[73,110,116]⟩,.int 0,.int 0,.con hd.v]:=(Option.some.inj hcs).symm
    show 3 < 4
    omega
   show O8 Γ _ _ _
   refine O8.gh (Gh.rowx 9 106 rfl rfl rfl (fun _=>rfl) rfl) (fun g=>?_)
   refine O8.done ?_
   show j4 Try.prog Γ _ _ _ _
   (repeat (first|refine j5 hn ?_|refine w9 hn ?_|refine gob hn ?_|refine q8 hn ?_|refine I4 hn ?_|refine x9 hn ?_|refine got hn ?_))
   refine Or.inl (And.intro ⟨by omega,by omega⟩ ?_)
   refine nl _ _ ?_
   refine O8.done ?_
   have e:aH1.take k++[⟨x,1,0,(k:Int)+1,[]⟩]=aH1.take (k+1):=by rw [List.take_add_one,hm]; rfl
   refine ⟨⟨(k+1,g),hlt⟩,[(104,31),(105,106)],by show 5 - (k+1) < 5 - k; omega,⟨⟨rfl,rfl,rfl,rfl,rfl,rfl,trivial⟩,⟨rfl,rfl,rfl,rfl,?_,rfl,trivial⟩,rfl,rfl⟩⟩
   exact congrArg (fun q=>some (Obj.row 5 (List.map D6 q) 64)) e
  ·have e:k=5:=by have:¬((k:Int) < 5):=hge; omega
   subst e
   (repeat (first|refine j5 hn ?_|refine w9 hn ?_|refine gob hn ?_|refine q8 hn ?_|refine I4 hn ?_|refine x9 hn ?_|refine got hn ?_))
   refine xl _ _ _ ?_
   refine eb _ _ ?_
   refine nj _ _ ?_
   refine O8.done ?_
   exact ⟨hd,[],trivial,⟨⟨rfl,rfl,rfl,trivial⟩,⟨rfl,rfl,rfl,rfl,rfl,trivial⟩,rfl,rfl⟩⟩
 intro g
 show j4 Try.prog Γ _ _ _ _
 (repeat (first|refine j5 hn ?_|refine w9 hn ?_|refine gob hn ?_|refine q8 hn ?_|refine I4 hn ?_|refine x9 hn ?_|refine got hn ?_))
 refine And.intro (by show 3 < 4; decide) (fun cs hcs=>?_)
 have hcs:(bD2 (.con g.v))[3]?=some cs:=hcs
 obtain rfl:cs=[.str ⟨#[73,110,116]⟩,.int 0,.int 0,.con g.v]:=(Option.some.inj hcs).symm
 refine And.intro rfl ?_
 show p9 Try.prog _ _ _ _
 refine cA (bQ4.sw 1000 104) ?_
 show j4 Try.prog Γ _ _ _ _
 refine j4.fzIn 9 3 3 104 105 rfl rfl rfl rfl rfl rfl rfl rfl ?_
 refine j4.leRow 9 (List.map U7 bO2.classes) rfl (by repeat (first|exact trivial|exact rfl|(refine And.intro ?_ ?_))) ?_
 refine j4.fzAll 9 rfl ?_
 (repeat (first|refine j5 hn ?_|refine w9 hn ?_|refine gob hn ?_|refine q8 hn ?_|refine I4 hn ?_|refine x9 hn ?_|refine got hn ?_))
 exact ⟨[],_,rfl,(by repeat (first|exact trivial|exact rfl|(refine And.intro ?_ ?_))),trivial,rfl,rfl,rfl,rfl,rfl⟩
end Go.Proofs.Ytahmeibkdhbngaa
