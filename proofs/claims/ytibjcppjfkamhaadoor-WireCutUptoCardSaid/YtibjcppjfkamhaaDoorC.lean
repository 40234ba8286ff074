import Derived.Shelf.SlSortCmp.SmallK
import Derived.Test.YtibjcppjfkamhaaDoorB
set_option linter.unusedVariables false
set_option linter.defProp false
set_option linter.unusedSimpArgs false
namespace Go.Proofs.YtibjcppjfkamhaaDoor
open Go.RowKit Go.Proofs.Tryd
open _root_.And renaming intro->A5
open _root_.List renaming getElem?_eq_getElem->A8,mem_map->AI,length_map->AM,getElem?_eq_none->AS,ext_getElem?->AT,getElem?_map->AY,getElem?_drop->AZ
open _root_.Nat renaming beq->A4,ble->AE,blt->AH
section
open Go.RowKit Go.Lib Go.Proofs Go.Shelf Go.Sort
def sZ : Go.Shelf.Ren:=⟨fun|6=>27|15=>42|14=>41|28=>59|29=>60|20=>51|21=>52|22=>53|23=>54|24=>55|25=>56|26=>57|27=>58|46=>70|47=>71|48=>72|49=>73|50=>74|57=>85|n=>n,fun|22=>39|24=>46|25=>82|3=>3|39=>100|0=>0|53=>119|55=>121|4=>4|46=>113|45=>112|50=>102|5=>5|9=>9|66=>129|70=>133|76=>145|77=>83|n=>n,fun|n=>n⟩
def uG : Go.Proofs.SlLaysF0.n6 prog sZ:={
 mixed:=l8,
 f6:=⟨Tryd.f27.name,p8,func27.trans (congrArg some l8)⟩,
 f14:=⟨f41.name,p8,func41.trans (congrArg some l8)⟩,
 f15:=func42.trans (congrArg some l8),
 f20:=⟨f51.name,p8,func51.trans (congrArg some l8)⟩,
 f21:=⟨f52.name,p8,func52.trans (congrArg some l8)⟩,
 f22:=⟨f53.name,p8,func53.trans (congrArg some l8)⟩,
 f23:=⟨f54.name,p8,func54.trans (congrArg some l8)⟩,
 f24:=⟨f55.name,p8,func55.trans (congrArg some l8)⟩,
 f25:=⟨f56.name,p8,func56.trans (congrArg some l8)⟩,
 f26:=⟨Tryd.f57.name,p8,func57.trans (congrArg some l8)⟩,
 f27:=⟨f58.name,p8,func58.trans (congrArg some l8)⟩,
 f28:=func59.trans (congrArg some l8),
 f29:=func60.trans (congrArg some l8),
 f46:=⟨f70.name,p8,func70.trans (congrArg some l8)⟩,
 f47:=func71.trans (congrArg some l8),
 f48:=func72.trans (congrArg some l8),
 f49:=⟨f73.name,p8,func73.trans (congrArg some l8)⟩,
 f50:=⟨f74.name,p8,func74.trans (congrArg some l8)⟩,
 f57:=⟨f85.name,p8,func85.trans (congrArg some l8)⟩,
 t0:=underlying0,
 a0:=isAgg0,
 z0:=sizeOf0,
 v0:=zeroValue0,
 t3:=underlying3,
 a3:=isAgg3,
 z3:=sizeOf3,
 v3:=zeroValue3,
 t4:=underlying4,
 a4:=isAgg4,
 z4:=sizeOf4,
 v4:=zeroValue4,
 t5:=underlying5,
 a5:=isAgg5,
 z5:=sizeOf5,
 v5:=zeroValue5,
 t9:=underlying9,
 a9:=isAgg9,
 z9:=sizeOf9,
 v9:=zeroValue9,
 t22:=underlying39,
 a22:=isAgg39,
 z22:=sizeOf39,
 v22:=zeroValue39,
 t25:=underlying82,
 a25:=isAgg82,
 z25:=sizeOf82,
 v25:=zeroValue82,
 t39:=underlying100,
 a39:=isAgg100,
 z39:=sizeOf100,
 v39:=zeroValue100,
 t45:=underlying112,
 a45:=isAgg112,
 z45:=sizeOf112,
 v45:=zeroValue112,
 t46:=underlying113,
 a46:=isAgg113,
 z46:=sizeOf113,
 v46:=zeroValue113,
 t50:=underlying102,
 a50:=isAgg102,
 z50:=sizeOf102,
 v50:=zeroValue102,
 t53:=underlying119,
 a53:=isAgg119,
 z53:=sizeOf119,
 v53:=zeroValue119,
 t55:=underlying121,
 a55:=isAgg121,
 z55:=sizeOf121,
 v55:=zeroValue121,
 t66:=underlying129,
 a66:=isAgg129,
 z66:=sizeOf129,
 v66:=zeroValue129,
 t70:=underlying133,
 a70:=isAgg133,
 z70:=sizeOf133,
 v70:=zeroValue133,
 t76:=underlying145,
 a76:=isAgg145,
 z76:=sizeOf145,
 v76:=zeroValue145,
 t77:=underlying83,
 a77:=isAgg83,
 z77:=sizeOf83,
 v77:=zeroValue83 }
def tM (s:ByteArray) (W:World):Calls prog 61 #[.string s] W fun e w'=>e=.returned (.bool false)/\w'=W:=by
 go_enter func61,ntmps61
 go_wp2
 go_ret
 exact⟨rfl,rfl⟩
def uz (a b:ByteArray) (W:World):Calls prog 43 #[.string a,.string b] W fun e w'=>e=.returned (.int .i64 (if Op.bytesLess a.toList b.toList=true then -1 else if(!(Op.bytesLess a.toList b.toList || a.toList == b.toList))=true then 1 else 0))/\w'=W:=by
 have d:=tM;have c:∀w,(binOp .gtr 9 (.string a) (.string b)).run prog w=.ok (.bool !(Op.bytesLess a.toList b.toList || a.toList == b.toList)) w:=fun w=>by
  simp[binOp,run_underlying underlying9,Op.stringOp]
 generalize f:(!(Op.bytesLess a.toList b.toList || a.toList == b.toList))=z at c⊢
 go_enter func43,ntmps43
 go_wp2_with (go_at_call 61;refine(d _ _).mono ?_;rintro e w' ⟨rfl,rfl⟩)
 all_goals (try (go_ret;exact⟨rfl,rfl⟩))
 all_goals go_wp2_with (simp only[c])
 all_goals (try (go_ret;first|exact⟨rfl,rfl⟩|(refine⟨?_,rfl⟩;simp_all)))
 all_goals go_wp2
 all_goals (go_ret;first|exact⟨rfl,rfl⟩|(refine⟨?_,rfl⟩;simp_all))
def fY (a b:ByteArray):Int:=if Op.bytesLess a.toList b.toList=true then -1 else if(!(Op.bytesLess a.toList b.toList || a.toList == b.toList))=true then 1 else 0
def tF (s t:ByteArray) (c d f g:Value) (W:World):Calls prog 29 #[.agg #[.string s,c,d,f,g],.string t] W fun e w'=>e=.returned (.int .i64 (fY s t))/\∃q b,w'=grow (W.drewN q) b:=by
 have a:=uz s t;change ∀W,Calls prog 43 _ W fun e w'=>e=.returned (.int .i64 (fY s t))/\w'=W at a;generalize fY s t=r at a⊢
 go_enter func29,ntmps29
 go_wp2_with (go_at_call 43;refine(a _).mono ?_;rintro e w' ⟨rfl,rfl⟩)
 go_ret
 exact⟨rfl,0,_,by rw[alloc_eq_grow];rfl⟩
def uf (s t:ByteArray) (b c d f h i j k:Value) (W:World):Calls prog 28 #[.agg #[.string s,b,c,d,f],.agg #[.string t,h,i,j,k]] W fun e w'=>e=.returned (.int .i64 (fY s t))/\∃q a,w'=grow (W.drewN q) a:=by
 have g:=fun W=>tF s t b c d f W;generalize fY s t=r at g⊢
 go_enter func28,ntmps28
 go_wp2_with (go_at_call 29;refine(g _).mono ?_;rintro e w' ⟨rfl,q,a,rfl⟩)
 go_ret
 exact⟨rfl,q,_,by rw[alloc_eq_grow,alloc_eq_grow,grow_grow];exact grow_grow (W.drewN q) _ a⟩
set_option maxHeartbeats 1000000 in
def uh (n:Nat) (W:World) (h:n<=12):Calls prog 60 #[.int .u64 n] W fun e w'=>(∃l:Int,e=.returned (.int .i64 l))/\w'=W:=by
 have a:∃m:Nat,m<=12/\n=m:=⟨n,h,rfl⟩
 match n,h with
 |0,_|1,_|2,_|3,_|4,_|5,_|6,_|7,_|8,_|9,_|10,_|11,_|12,_ =>
  go_enter func60,ntmps60
  go_wp2
  go_ret
  exact⟨⟨_,rfl⟩,rfl⟩
def bitsLen (n:Nat) (W:World) (h:n<=12):Calls prog 42 #[.int .u64 n] W fun e w'=>(∃l:Int,e=.returned (.int .i64 l))/\w'=W:=by
 have a:=fun W=>uh n W h
 go_enter func42,ntmps42
 go_wp2_with (go_at_call 60;refine(a _).mono ?_;rintro e w' ⟨⟨l,rfl⟩,rfl⟩)
 go_ret
 exact⟨⟨_,rfl⟩,rfl⟩
def uD (b:ByteArray):b.toList=b.data.toList:=by
 have:∀(n i:Nat) (r:List UInt8),n=b.size-i->ByteArray.toList.loop b i r=r.reverse++b.data.toList.drop i:=by
  intro n
  induction n with
  |zero =>
   intro i r h;unfold ByteArray.toList.loop;rw[Ae d9];have:b.data.toList.length<=i:=by simpa using(show b.size<=i by omega)
   rw[List.drop_eq_nil_of_le this];simp
  |succ n ih =>
   intro i r h;have a:i<b.size:=d9;have c:i<b.data.toList.length:=by simpa using a
   unfold ByteArray.toList.loop;rw[Af a,ih (i+1) _ d9,List.drop_eq_getElem_cons c];have e:b.get! i=b.data.toList[i]:=by
    show b.data[i]! = _;rw[getElem!_pos b.data i a,Array.getElem_toList]
   simp[e]
 have:=this b.size 0 [] d9;simpa[ByteArray.toList] using this
def dw : List Me:=[⟨⟨#[43]⟩,1,0,1,[]⟩,⟨⟨#[45]⟩,1,0,2,[]⟩,⟨⟨#[42]⟩,1,0,3,[]⟩,⟨⟨#[60]⟩,1,0,4,[]⟩,⟨⟨#[61]⟩,1,0,5,[]⟩]
def rk : _root_.Fin 5->Nat|0=>1|1=>2|2=>0|3=>3|4=>4
def kD (i j:_root_.Fin 5):Int:=if rk i<rk j then -1 else if rk j<rk i then 1 else 0
def fk (i:_root_.Fin 5):ByteArray:=match i with|0=>⟨#[43]⟩|1=>⟨#[45]⟩|2=>⟨#[42]⟩|3=>⟨#[60]⟩|4=>⟨#[61]⟩
def vL : Sort.insertionSort (ltOf kD) #[0,1,2,3,4] 0 5=#[2,0,1,3,4]:=by decide +kernel
def vD : ∀i j:_root_.Fin 5,fY (fk i) (fk j)=kD i j:=by
 have h:∀i:_root_.Fin 5,(fk i).toList=(fk i).data.toList:=fun i=>uD _;unfold fY;simp only[h];decide +kernel
theorem aD.dD {c:Ctx} {w w':World} {id sz e:Nat} {ls d:List (List AV)} {css':List (List Value)} {b:Nat} (h:F6 c w [(id,.row sz ls e)]) (f:(c.hd id).ownBlock=some b) (z:u7 w' (c.hd id) sz e css') (g:css'.length=d.length)
  (C:∀(i:Nat) (us:List Value) (p:List AV),css'[i]?=some us->d[i]?=some p->o9 c.Φ w us p) (s:∀k,k<w.heap.size->k≠b->w'.heap[k]?=w.heap[k]?)
  (D:w.heap.size<=w'.heap.size) (u:w'.os=w.os) (v:w'.tape=w.tape) (y:w'.output=w.output):aD c w c w' [(id,.row sz ls e)] [(id,.row sz d e)] []:=by
 have n:=h.lt id _ b (j3 _ _ _) f;have t:∀x,x=b->Touch c [(id,.row sz ls e)] [(id,.row sz d e)] x:=fun x j=>⟨id,_,j3 _ _ _,by rw[j3];rfl,by rw[j];exact f⟩;have r:∀x,c.Φ x->w'.heap[x]?=w.heap[x]?:=fun x j=>s x (h.aX x j) fun e=>n.2 (e▸j);refine⟨u,v,y,D,fun b f=>f,fun b f=>.inl f,fun x j B=>s x j fun e=>B (t x e),fun _ _=>⟨rfl,rfl⟩,⟨fun i o g=>?_,fun i o x g q=>?_,fun i F o G x l g m q=>?_,fun x j=>by have:=h.aX x j;omega⟩,fun i o x g q=>?_⟩<;>rw[j5] at g<;>split at g<;>first|(rename_i e1;subst e1;cases g)|cases g
 ·exact⟨css',z,by assumption,fun i us p E A=>(C i us p E A).mono r fun _ h=>h⟩
 ·have:x=b:=by have a:(c.hd id).ownBlock=some x:=q;rw[f] at a;injection a with e;exact e.symm
  rw[this];exact⟨d9,n.2⟩
 ·rw[E8 _ _ l] at m;cases m
 ·have:x=b:=by have a:(c.hd id).ownBlock=some x:=q;rw[f] at a;injection a with e;exact e.symm
  exact .inr (t x this)
def iC {Φ:Nat->Prop} {w:World} {us:List Value} {m:Me} (h:o9 Φ w us (S9 m)):∃a b c d,us=[.string m.name,a,b,c,d]:=by
 cases h with
 |cons e t1 =>
  cases t1 with
  |cons _ t2=>cases t2 with
   |cons _ t3=>cases t3 with
    |cons _ f=>cases f with
     |cons _ g =>
      cases g;cases e;exact⟨_,_,_,_,rfl⟩
def O4 (css:List (List Value)) (i:_root_.Fin 5):List Value:=css.getD i.val []
def pW {p:_root_.Fin 5->Prop} (a:p 0) (b:p 1) (c:p 2) (d:p 3) (e:p 4):∀i,p i
 |⟨0,_⟩=>a
 |⟨1,_⟩=>b
 |⟨2,_⟩=>c
 |⟨3,_⟩=>d
 |⟨4,_⟩=>e
def oj (css:List (List Value)) (a:∀i,(O4 css i).length=5) (d:Array (_root_.Fin 5)) (j:Nat) (f:j<d.size*5):(d.toList.map (O4 css)).flatten[j]?=some ((Go.Sort.flatK (O4 css) 5 d)[j]!):=by
 have c:j / 5<d.size:=d9;have e:(d.toList.map (O4 css))[j / 5]?=some (O4 css d[j / 5]):=by
  rw[AY,Array.getElem?_toList,Array.getElem?_eq_getElem c];rfl
 have:=ad 5 (d.toList.map (O4 css)) (fun x g=>by obtain⟨i,_,rfl⟩:=AI.1 g;exact a i) (j / 5) (j % 5) _ e (Nat.mod_lt _ p8);rw[show j / 5*5+j % 5=j by omega] at this;have b:j % 5<(O4 css d[j / 5]).length:=by rw[a];omega
 rw[this,get_flatK _ _ _ _ f,getElem!_pos d (j / 5) c,getElem!_pos (O4 css d[j / 5]) (j % 5) b,A8 b]
set_option maxHeartbeats 1000000 in
set_option maxRecDepth 100000 in
def qU : Spec prog 27 [(1000,.row 5 (dw.map S9) 46)] [.aF 1000,.fn 28 []] (.aS []) [(1000,.row 5 (H8.map S9) 46)] []:=by
 refine⟨l8,(fun id hid=>by cases hid),fun c w args a8 G=>?_⟩;obtain⟨args⟩:=args;have G:l6 c w args [.aF 1000,.fn 28 []]:=G;obtain⟨v1,W,rfl,r1,G⟩:∃v r,args=v::r/\Rd c w v (.aF 1000)/\l6 c w r [.fn 28 []]:=by cases G with|cons a b=>exact⟨_,_,rfl,a,b⟩
 obtain⟨v2,X,rfl,r2,G⟩:∃v r,W=v::r/\Rd c w v (.fn 28 [])/\l6 c w r []:=by cases G with|cons a b=>exact⟨_,_,rfl,a,b⟩
 obtain rfl:X=[]:=by cases G;rfl
 obtain⟨cb,rfl,hcb⟩:=r2.gk;obtain rfl:cb=[]:=by cases hcb;rfl
 obtain⟨A1,n1,I,rfl,Y,_,hc1⟩:=r1.aj;have k0:lk [(1000,Obj.row 5 (dw.map S9) 46)] 1000=some (.row 5 (dw.map S9) 46):=rfl;obtain⟨css,B,L1,s⟩:=a8.rep 1000 _ k0;rw[Y] at B;obtain⟨f,g,h,l,o,rfl⟩:∃f g h l o,css=[f,g,h,l,o]:=by
  match css,L1 with
  |[a,b,c,d,e],_=>exact⟨a,b,c,d,e,rfl⟩
 obtain⟨a1,a2,a3,a4,rfl⟩:=iC (s 0 f _ rfl rfl);obtain⟨b1,b2,b3,b4,rfl⟩:=iC (s 1 g _ rfl rfl);obtain⟨c1,c2,c3,c4,rfl⟩:=iC (s 2 h _ rfl rfl);obtain⟨d1,d2,d3,d4,rfl⟩:=iC (s 3 l _ rfl rfl);obtain⟨e1,e2,e3,e4,rfl⟩:=iC (s 4 o _ rfl rfl);generalize P:([.string (⟨#[43]⟩:ByteArray),a1,a2,a3,a4]:List Value)=f at B s;generalize Q:([.string (⟨#[45]⟩:ByteArray),b1,b2,b3,b4]:List Value)=g at B s;generalize R:([.string (⟨#[42]⟩:ByteArray),c1,c2,c3,c4]:List Value)=h at B s;generalize S:([.string (⟨#[60]⟩:ByteArray),d1,d2,d3,d4]:List Value)=l at B s;generalize T:([.string (⟨#[61]⟩:ByteArray),e1,e2,e3,e4]:List Value)=o at B s;have Z:∀i,∃y1 y2 y3 y4,O4 [f,g,h,l,o] i=[.string (fk i),y1,y2,y3,y4]:=pW ⟨_,_,_,_,P.symm⟩ ⟨_,_,_,_,Q.symm⟩ ⟨_,_,_,_,R.symm⟩ ⟨_,_,_,_,S.symm⟩ ⟨_,_,_,_,T.symm⟩;have E:∀i,(O4 [f,g,h,l,o] i).length=5:=fun i=>by obtain⟨_,_,_,_,e⟩:=Z i;rw[e];rfl
 have N:∀i,O4 [f,g,h,l,o] i∈[f,g,h,l,o]:=pW (by simp[O4]) (by simp[O4]) (by simp[O4]) (by simp[O4]) (by simp[O4]);have J:∀i,∀v∈O4 [f,g,h,l,o] i,v.oneCell'=true:=fun i v hv=>B.one _ (N i) v hv;clear P Q R S T;rcases B.az with⟨e,h0⟩|⟨b,off,p,cap,t,e,V,F,hpm,hsz,O,H⟩
 ·cases h0
 obtain⟨rfl,rfl,rfl⟩:A1=some ⟨b,off,none⟩/\n1=5/\cap=I:=by cases e;exact⟨rfl,rfl,rfl⟩
 have F:5<=cap:=F;obtain rfl:=O d9;have K:b<w.heap.size:=(Array.getElem?_eq_some_iff.1 V).1;have C:∀j,w.cell? ⟨b,j,none⟩=t[j]?:=fun j=>by unfold World.cell?;rw[V];rfl
 have hfl:∀d:Array (_root_.Fin 5),d.size=5->(d.toList.map (O4 [f,g,h,l,o])).flatten.length=25:=fun d hd=>by
  rw[K4 5 _ (fun x U=>by obtain⟨i,_,rfl⟩:=AI.1 U;exact E i),AM,Array.length_toList,hd]
 have hH:HoldsK (O4 [f,g,h,l,o]) 5 w b (p*5) #[0,1,2,3,4]:=fun j D=>by
  rw[size_flatK] at D;have D:j<25:=D;have hf:=oj [f,g,h,l,o] E #[0,1,2,3,4] j D;have H:(t.toList.drop (p*5)).take (5*5)=((#[0,1,2,3,4]:Array (_root_.Fin 5)).toList.map (O4 [f,g,h,l,o])).flatten:=H;have ht:((t.toList.drop (p*5)).take (5*5))[j]?=(t.toList.drop (p*5))[j]?:=List.getElem?_take_of_lt d9;refine⟨?_,by unfold World.frozen?;rw[V];simp⟩;rw[C,<-Array.getElem?_toList,<-AZ,<-ht,H,hf];rfl
 have L:CmpLays prog 28 #[] (O4 [f,g,h,l,o]) 5 kD b (p*5) (#[0,1,2,3,4]:Array (_root_.Fin 5)).size w:=fun m os dk hdk x y=>by
  obtain⟨x1,x2,x3,x4,ex⟩:=Z x;obtain⟨y1,y2,y3,y4,ey⟩:=Z y;rw[ex,ey,<-vD x y];exact uf (fk x) (fk y) x1 x2 x3 x4 y1 y2 y3 y4 _
 have M:=AnyQ.slices_SortFunc_small uG 5 isAgg46 sizeOf46 (O4 [f,g,h,l,o]) E J kD 28 #[] b (p*5) cap #[0,1,2,3,4] w (enters_of func28 l8 rfl) L hH K p8 bitsLen;refine Calls.mono (show Calls prog 27 _ _ _ from M) ?_;rintro e w' ⟨rfl,n,os,A⟩;rw[show(#[0,1,2,3,4]:Array (_root_.Fin 5)).size=5 from rfl,vL] at A;have q:w'.heap=(w.heap.modify b (onCells (putCells id (p*5) (Go.Sort.flatK (O4 [f,g,h,l,o]) 5 #[2,0,1,3,4]))))++os:=by rw[A];rfl
 have hb':w'.heap[b]?=some (.cells (putCells id (p*5) (Go.Sort.flatK (O4 [f,g,h,l,o]) 5 #[2,0,1,3,4]) t) 46):=by
  rw[q,Array.getElem?_append_left (by simpa using K),Array.getElem?_modify,Af rfl,V];rfl
 have hob:(c.hd 1000).ownBlock=some b:=by rw[Y];rfl
 refine⟨.tuple #[],c,rfl,aD.dD (css':=(#[2,0,1,3,4]:Array (_root_.Fin 5)).toList.map (O4 [f,g,h,l,o])) (b:=b) a8 hob ?_ rfl ?_ (fun k E hne=>?_) (by rw[q];simp) (by rw[A];rfl) (by rw[A];rfl) (by rw[A];rfl),.aS .nil⟩
 ·rw[Y];refine⟨.inr ⟨b,p*5,p,cap,_,rfl,hb',F,hpm,by simpa[putCells] using hsz,fun _=>rfl,?_⟩,fun x U=>by obtain⟨i,_,rfl⟩:=AI.1 U;exact E i,fun x U=>by obtain⟨i,_,rfl⟩:=AI.1 U;exact J i⟩;apply AT;intro j;by_cases D:j<25
  ·have hf:=oj [f,g,h,l,o] E #[2,0,1,3,4] j D;have hp:p*5+j<t.size:=d9;rw[List.getElem?_take_of_lt (show j<((#[2,0,1,3,4]:Array (_root_.Fin 5)).toList.map (O4 [f,g,h,l,o])).length*5 from D),AZ,Array.getElem?_toList,hf];unfold putCells;rw[Array.getElem?_mapIdx,Array.getElem?_eq_getElem hp];simp only[Option.map_some];rw[Af ⟨d9,by rw[size_flatK];show p*5+j<p*5+25;omega⟩,show p*5+j-p*5=j by omega];rfl
  ·rw[AS (by rw[List.length_take];show min 25 _<=j;omega),AS (by rw[hfl _ rfl];omega)]
 ·intro i us cs z u
  match i,z,u with
  |0,z,u=>cases z;cases u;exact s 2 _ _ rfl rfl
  |1,z,u=>cases z;cases u;exact s 0 _ _ rfl rfl
  |2,z,u=>cases z;cases u;exact s 1 _ _ rfl rfl
  |3,z,u=>cases z;cases u;exact s 3 _ _ rfl rfl
  |4,z,u=>cases z;cases u;exact s 4 _ _ rfl rfl
  |i+5,z,u=>cases u
 ·rw[q,Array.getElem?_append_left (by simpa using E),Array.getElem?_modify,Ae (fun e=>hne e.symm)]
def jc : List ByteArray:=[⟨#[43]⟩,⟨#[45]⟩,⟨#[42]⟩,⟨#[60]⟩,⟨#[61]⟩]
set_option maxRecDepth 100000 in
def tu : Spec prog 26 [] [] (.aF 0) [(0,.row 1 (List.map gb jc) 9)] [0]:=by
 refine Spec.of fV func26 rfl ntmps26 l8 rfl rfl rfl fun b a=>?_;refine bd a ?_;refine bd a ?_;refine Exists.intro (List.map gb jc) (A5 (by repeat (first|exact trivial|exact rfl|(refine A5 ?_ ?_))) ?_);refine bw a ?_;exact⟨[(0,1)],_,fm⟩
def gW (a:AV):List (List AV):=[[.str ⟨#[79,98,106,101,99,116]⟩,.int (-1),.int 0,.aC],[.str ⟨#[78,105,108]⟩,.int 0,.int 0,.aC],[.str ⟨#[66,111,111,108]⟩,.int 0,.int 0,.aC],[.str ⟨#[73,110,116]⟩,.int 0,.int 0,a]]
def vG : ∀k:Nat,k<5->∃x,jc[k]?=some x/\dw[k]?=some ⟨x,1,0,(k:Int)+1,[]⟩
 |0,_=>⟨_,rfl,rfl⟩
 |1,_=>⟨_,rfl,rfl⟩
 |2,_=>⟨_,rfl,rfl⟩
 |3,_=>⟨_,rfl,rfl⟩
 |4,_=>⟨_,rfl,rfl⟩
 |k+5,h=>absurd h d9
set_option maxRecDepth 100000 in
def sG (N:Nat) (r:Wd) (h:kv N=some r):Spec prog 12 [] [] (.agg (cW r)) [] []:=by
 obtain rfl:=Option.some.inj h;refine Spec.of fV func12 rfl ntmps12 l8 rfl rfl rfl fun f a=>?_
 (repeat (first|refine bd a ?_|refine bu a ?_|refine cQ a ?_|refine cC a ?_|refine cD a ?_|refine cE a ?_|refine bw a ?_))
 refine Or.inr ?_;refine Exists.intro (gW .aC) (A5 (by repeat (first|exact trivial|exact rfl|(refine A5 ?_ ?_))) ?_)
 (repeat (first|refine bd a ?_|refine bu a ?_|refine cQ a ?_|refine cC a ?_|refine cD a ?_|refine cE a ?_|refine bw a ?_))
 refine A5 p8 (A5 (by show(3:Int)<4;decide) ?_)
 (repeat (first|refine bd a ?_|refine bu a ?_|refine cQ a ?_|refine cC a ?_|refine cD a ?_|refine cE a ?_|refine bw a ?_))
 show Z8 prog _ _ _ _;refine cA (tu.sw 0 15) ?_;refine X4 (fun z=>?_);show j4 prog f _ _ _ _;refine j4.gh (Gh.fF (r:=9) (i:=3) (off:=3) (j:=104) (j':=105) (isz:=5) (ie:=46) rfl rfl rfl rfl rfl rfl rfl rfl) (fun _=>?_);refine j4.fB (ι:=Hd) (fun g=>[(0,.ptr 0 0),(1,.ptr 1 0),(2,.ep 9 3 4 3)]) (fun g=>[(0,.box [.aC,.aC,.int 0] 25),(1,.box [.aF 9,.aC,.int 0] 25),(9,.row 4 (gW (.aU g.v)) 41),(104,.row 5 (dw.map S9) 46),(105,.eqv 104 g.v)]) (fun w s F C=>?_) (by intro q;rw[a];rfl) ?_
 ·refine j4.ib fun u A o E B=>?_;refine j4.db (ι:={ q:Nat×Hd // q.1<=5 }) (fun q=>[(0,.ptr 0 0),(1,.ptr 1 0),(2,.ep 9 3 4 3),(15,.aF 15),(16,.int 5),(17,.int q.1.1)]) (fun q=>[(0,.box [.aC,.aC,.int 0] 25),(1,.box [.aF 9,.aC,.int 0] 25),(9,.row 4 (gW (.aU q.1.2.v)) 41),(15,.row 1 (jc.map gb) 9),(104,.row 5 ((dw.take q.1.1).map S9) 46),(105,.eqv 104 q.1.2.v)]) (fun q=>5-q.1.1) ⟨(0,⟨none,0,0⟩),d9⟩ [] ⟨⟨rfl,rfl,rfl,rfl,rfl,rfl,trivial⟩,⟨rfl,rfl,rfl,rfl,rfl,rfl,trivial⟩,rfl,rfl⟩ (by intro q;rw[a];rfl) ?_;rintro⟨⟨k,hd⟩,m⟩ y nl t D;have m:k<=5:=m
  (repeat (first|refine bd a ?_|refine bu a ?_|refine cQ a ?_|refine cC a ?_|refine cD a ?_|refine cE a ?_|refine bw a ?_))
  refine oL (fun c=>?_) (fun l=>?_)
  ·have c:k<5:=by have:(k:Int)<5:=c;omega
   obtain⟨x,n,p⟩:=vG k c
   (repeat (first|refine bd a ?_|refine bu a ?_|refine cQ a ?_|refine cC a ?_|refine cD a ?_|refine cE a ?_|refine bw a ?_))
   refine eO (i:=(k:Int)) (by rw[W9];exact n) ?_;refine fD n ?_;show j4 prog f _ _ _ _;refine j4.snoc (bu a ?_);refine A5 (by show 3<4;decide) (fun d b=>?_);have b:(gW (.aU hd.v))[3]?=some d:=b;obtain rfl:d=[.str ⟨#[73,110,116]⟩,.int 0,.int 0,.aU hd.v]:=(Option.some.inj b).symm;refine A5 rfl ?_;refine Or.inl (A5 ⟨d9,d9⟩ ?_);refine Exists.intro (List.map S9 [⟨x,1,0,(k:Int)+1,[]⟩]) (A5 (by repeat (first|exact trivial|exact rfl|(refine A5 ?_ ?_))) ?_);refine A5 ?_ (Exists.intro (List.map S9 (dw.take k++[⟨x,1,0,(k:Int)+1,[]⟩])) (A5 (lR (V7 _)) ?_))
   ·show((List.map S9 (dw.take k)).length+1)*64<=_;rw[AM,List.length_take];omega
   refine A5 (by show 3<4;decide) (A5 ?_ ?_)
   ·intro d b;have b:(gW (.aU hd.v))[3]?=some d:=b;obtain rfl:d=[.str ⟨#[73,110,116]⟩,.int 0,.int 0,.aU hd.v]:=(Option.some.inj b).symm;show 3<4;omega
   show J7 f _ _ _;refine J7.gh (Gh.aw 9 106 rfl rfl rfl (fun _=>rfl) rfl) (fun g=>?_);refine J7.done ?_;show j4 prog f _ _ _ _
   (repeat (first|refine bd a ?_|refine bu a ?_|refine cQ a ?_|refine cC a ?_|refine cD a ?_|refine cE a ?_|refine bw a ?_))
   refine Or.inl (A5 ⟨d9,d9⟩ ?_);refine nl _ _ ?_;refine J7.done ?_;have e:dw.take k++[⟨x,1,0,(k:Int)+1,[]⟩]=dw.take (k+1):=by rw[List.take_add_one,p];rfl
   refine⟨⟨(k+1,g),c⟩,[(104,31),(105,106)],by show 5-(k+1)<5-k;omega,⟨⟨rfl,rfl,rfl,rfl,rfl,rfl,trivial⟩,⟨rfl,rfl,rfl,rfl,?_,rfl,trivial⟩,rfl,rfl⟩⟩;exact congrArg (fun q=>some (Obj.row 5 (List.map S9 q) 46)) e
  ·have e:k=5:=by have:¬((k:Int)<5):=l;omega
   subst e
   (repeat (first|refine bd a ?_|refine bu a ?_|refine cQ a ?_|refine cC a ?_|refine cD a ?_|refine cE a ?_|refine bw a ?_))
   refine t _ _ _ ?_;refine o _ _ ?_;refine s _ _ ?_;refine J7.done ?_;exact⟨hd,[],trivial,⟨⟨rfl,rfl,rfl,trivial⟩,⟨rfl,rfl,rfl,rfl,rfl,trivial⟩,rfl,rfl⟩⟩
 intro g;show j4 prog f _ _ _ _
 (repeat (first|refine bd a ?_|refine bu a ?_|refine cQ a ?_|refine cC a ?_|refine cD a ?_|refine cE a ?_|refine bw a ?_))
 refine A5 (by show 3<4;decide) (fun d b=>?_);have b:(gW (.aU g.v))[3]?=some d:=b;obtain rfl:d=[.str ⟨#[73,110,116]⟩,.int 0,.int 0,.aU g.v]:=(Option.some.inj b).symm;refine A5 rfl ?_;show Z8 prog _ _ _ _;refine cA (qU.sw 1000 104) ?_;show j4 prog f _ _ _ _;refine j4.eR 9 3 3 104 105 rfl rfl rfl rfl rfl rfl rfl rfl ?_;refine j4.ay 9 (List.map fe G7.a7) rfl (by repeat (first|exact trivial|exact rfl|(refine A5 ?_ ?_))) ?_;refine j4.bB 9 rfl ?_
 (repeat (first|refine bd a ?_|refine bu a ?_|refine cQ a ?_|refine cC a ?_|refine cD a ?_|refine cE a ?_|refine bw a ?_))
 exact⟨[],_,rfl,(by repeat (first|exact trivial|exact rfl|(refine A5 ?_ ?_))),trivial,rfl,rfl,rfl,rfl,rfl⟩
end
section
variable {P:Program} {Γ:H7}
def SQ (P:Program) (Γ:H7) (y:Code) (Q:Qt):Qt:=fun e ts os=>match e with
 |.normal=>j4 P Γ y ts os Q
 |.exit id=>Q (.exit id) ts os
 |.ret=>Q .ret ts os
def BQ (b:Nat) (Q:Qt):Qt:=fun e ts os=>match e with
 |.normal=>Q .normal ts os
 |.exit id=>match A4 id b with
  |true=>Q .normal ts os
  |false=>Q (.exit id) ts os
 |.ret=>Q .ret ts os
def JE (p:Option (Ts×Os)):Qt:=fun _ ts os=>match p with
 |some (t,o)=>∃rl,U9 ts os t o rl
 |none=>False
def JS (Γ:H7) (p:Option (Ts×Os)) (Q:Qt):Qt:=fun e ts os=>match e with
 |.normal=>J7 Γ ts os (JE p)
 |.exit id=>Q (.exit id) ts os
 |.ret=>Q .ret ts os
def LS (Γ:H7) (b:Nat) (R:Qt) (p:Option (Ts×Os)) (Q:Qt):Qt:=fun e ts os=>match e with
 |.normal=>J7 Γ ts os R
 |.exit id=>match A4 id b with
  |true=>J7 Γ ts os (JE p)
  |false=>Q (.exit id) ts os
 |.ret=>Q .ret ts os
theorem j4.j1 {x y:Code} {ts:Ts} {os:Os} {Q:Qt} (h:j4 P Γ x ts os (SQ P Γ y Q)):j4 P Γ (.seq x y) ts os Q :=
 j4.seq (h.mono fun e _ _ h=>by cases e<;>exact h)
theorem j4.ic {c:Code} {b:Nat} {ts:Ts} {os:Os} {Q:Qt} (h:j4 P Γ c ts os (BQ b Q)):j4 P Γ (.block b c) ts os Q :=
 j4.pL (h.mono fun e _ _ h=>by cases e<;>exact h)
def E9 {β:Type} (l:List (Nat×β)):List Nat->List (Nat×β)
 |[]=>[]
 |k::r=>match lk l k with
  |some v=>(k,v)::E9 l r
  |none=>E9 l r
def M3.nx {ρ σ:Type}:M3 ρ σ->Option σ
 |.ret _=>none
 |.next s=>some s
structure En (τ ρ:Type) where
 e:τ->Option ρ
 s:ρ->τ
 h:∀o x,e o=some x->o=s x
abbrev e0 {τ:Type}:En τ τ:=⟨some,fun x=>x,fun _ _ h=>Option.some.inj h⟩
abbrev e1 {ρ σ:Type}:En (M3 ρ σ) σ:=⟨M3.nx,.next,fun o x h=>by cases o with|ret=>cases h|next=>cases h;rfl⟩
def di {σ:Type} (D:σ->Ts) (O:σ->Os) (dt dO:List Nat) (ts:Ts) (os:Os) (s:Option σ):Option (Ts×Os):=match s with
 |none=>none
 |some s=>some (D s++E9 ts dt,O s++E9 os dO)
theorem j4.fC {c:Code} {ts:Ts} {os:Os} {Q:Qt} (p:Option (Ts×Os)) (h:j4 P Γ c ts os (JS Γ p Q)) (hn:∀q,p=some q->(q.1.all fun p=>AH p.1 Γ.n)=true) (h2:∀q,p=some q->Q .normal q.1 q.2):j4 P Γ c ts os Q:=by
 refine⟨fun a w hr=>wp_mono (h.run a w hr) fun e a' w' ⟨ex,ts',os',h1,h2',h3⟩=>?_⟩;cases ex with
 |normal =>
  obtain⟨ts2,os2,hj,h4⟩:=J7.run h2' a' w' h3;unfold JE at hj;split at hj
  ·rename_i t o;obtain⟨rl,hs⟩:=hj;exact⟨.normal,_,_,h1,h2 _ rfl,hs.rel (hn _ rfl) h4⟩
  ·exact hj.elim
 |exit id=>exact⟨.exit id,ts',os',h1,h2',h3⟩
 |ret=>exact⟨.ret,ts',os',h1,h2',h3⟩
end
section
variable {α β σ τ:Type}
def uw {x:Option α} {f:α->Option β} {r:β} {G:Prop} (h:x.bind f=some r) (k:∀a,x=some a->f a=some r->G):G :=
 let ⟨a,h1,h2⟩:=mR h;k a h1 h2
def vQ {b:Bool} {x:Option β} {r:β} {G:Prop} (h:(bif b then x else none)=some r) (k:b=true->x=some r->G):G :=
 let ⟨h1,h2⟩:=mA h;k h1 h2
end
structure Wz {κ:Type} (c:κ) (G:Prop):Prop where
 o:G
def iw {Γ:H7} {ts t:Ts} {os o:Os} {rl:List (Nat×Nat)} (h:U9 ts os t o rl:=by(refine U9.mk ?_ ?_ rfl rfl<;>repeat (first|exact trivial|exact rfl|(refine A5 ?_ ?_)))):Wz rl (J7 Γ ts os (JE (some (t,o)))):=⟨J7.done ⟨rl,h⟩⟩
def po {tab:E5} {rs:List ResultVar} {ts:Ts} {os:Os} {av:AV} {upd:Os} {news:List Nat} {rl:List (Nat×Nat)} {r:List AV} (h:Fin tab rs ts os av upd news rl r):Wz rl (mP tab rs av upd news .ret ts os):=⟨⟨rl,r,h⟩⟩
section
variable {P:Program} {Γ:H7} {n:Nat} {α β σ ρ τ:Type} {c:Code} {ts:Ts} {os:Os} {Q:Qt}
abbrev nl {α β:Type}:α->List β:=fun _=>[]
def fc (ts:Ts) (os:Os) (K:Ts->Os->Prop):Prop:=Y0 ts fun ts=>dK os [] fun os=>K ts os
def pb {K:Ts->Os->Prop} (h:fc ts os K):K ts os:=by
 have h:=(dq os [] _).1 ((gA ts _).1 h)
 rwa [List.append_nil] at h
def J {x:Option τ} {f:τ->Option β} {r:β} (E:En τ σ) (hn:Γ.n=n) (h:x.bind f=some r) (D:σ->Ts) (O:σ->Os) (dt dO:List Nat)
  (k1:∀o,x=some o->f o=some r->j4 P Γ c ts os (JS Γ (di D O dt dO ts os (E.e o)) Q)) (k2:∀s,f (E.s s)=some r->fc (D s++E9 ts dt) (O s++E9 os dO) (Q .normal))
  (hb:∀s,((D s++E9 ts dt).all fun p=>AH p.1 n)=true:=by intro s;rfl):j4 P Γ c ts os Q:=by
 obtain⟨o,h1,h2⟩:=mR h;subst hn;refine j4.fC _ (k1 o h1 h2) (fun q hq=>?_) (fun q hq=>?_)<;>(cases ho:E.e o with|none=>rw[ho] at hq;cases hq|some s=>rw[ho] at hq;cases hq;first|exact hb s|(have:=E.h _ _ ho;subst this;exact pb (k2 s h2)))
def Jb {x:Option Bool} {f:Bool->Option β} {r:β} (t:Nat) (hn:Γ.n=n) (h:x.bind f=some r) (dt dO:List Nat) (k1:∀o,x=some o->f o=some r->j4 P Γ c ts os (JS Γ (di (fun s=>[(t,.bool s)]) (fun _=>[]) dt dO ts os (some o)) Q))
  (k2:∀s,f s=some r->fc ((t,.bool s)::E9 ts dt) (E9 os dO) (Q .normal)) (hb:∀s,(((t,AV.bool s)::E9 ts dt).all fun p=>AH p.1 n)=true:=by intro s;rfl):j4 P Γ c ts os Q:=J e0 hn h (fun s=>[(t,.bool s)]) (fun _=>[]) dt dO k1 k2 hb
def Jk {x:Option τ} {f:τ->Option β} {r:β} (E:En τ σ) (hn:Γ.n=n) (h:x.bind f=some r) (D:σ->Ts) (O:σ->Os) (dt dO:List Nat) (rl:List (Nat×Nat))
  (k1:∀o,x=some o->f o=some r->j4 P Γ c ts os (JS Γ (di D O dt dO ts os (E.e o)) Q)) (k2:∀s,f (E.s s)=some r->Wz rl (fc (D s++E9 ts dt) (O s++E9 os dO) (Q .normal)):=by intro s h;obtain rfl:=oI h;exact iw)
  (hb:∀s,((D s++E9 ts dt).all fun p=>AH p.1 n)=true:=by intro s;rfl):j4 P Γ c ts os Q:=J E hn h D O dt dO k1 (fun s h=>(k2 s h).o) hb
def dN {x:Option Bool} {f:Bool->Option β} {r:β} (t:Nat) (hn:Γ.n=n) (h:x.bind f=some r) (dt dO:List Nat) (rl:List (Nat×Nat)) (k1:∀o,x=some o->f o=some r->j4 P Γ c ts os (JS Γ (di (fun s=>[(t,.bool s)]) (fun _=>[]) dt dO ts os (some o)) Q))
  (k2:∀s,f s=some r->Wz rl (fc ((t,.bool s)::E9 ts dt) (E9 os dO) (Q .normal)):=by intro s h;obtain rfl:=oI h;exact iw) (hb:∀s,(((t,AV.bool s)::E9 ts dt).all fun p=>AH p.1 n)=true:=by intro s;rfl):j4 P Γ c ts os Q:=J e0 hn h (fun s=>[(t,.bool s)]) (fun _=>[]) dt dO k1 (fun s h=>(k2 s h).o) hb
theorem iQ {β:Type} {l:List (Nat×β)}:∀{ks:List Nat} {t:Nat} {x:β},lk (E9 l ks) t=some x->lk l t=some x
 |k::ks,t,x,h=>by
  unfold E9 at h;split at h
  ·rename_i v hv;rw[j5] at h;split at h
   ·rename_i e;subst e;cases h;exact hv
   ·exact iQ h
  ·exact iQ h
def kd (dt dO:List Nat) (h:Y0 (E9 ts dt) fun ts=>dK (E9 os dO) [] fun os=>j4 P Γ c ts os Q):j4 P Γ c ts os Q:=by
 have h:=(dq (E9 os dO) [] _).1 ((gA (E9 ts dt) _).1 h);rw[List.append_nil] at h;refine⟨fun a w hr=>h.run a w ?_⟩;obtain⟨c,⟨h1,h2,h3,h4,h5⟩,h6⟩:=hr;exact⟨c,⟨h1,h2,fun t x hl=>h3 t x (iQ hl),h4.sub fun _ _=>iQ,⟨h5.bO,h5.tape,h5.output,h5.size,h5.aX,h5.aV,h5.aK,fun id o b hl hf=>h5.ab _ _ b (iQ hl) hf⟩⟩,h6⟩
def ur {ι:Type} (St:ι->Ts) (So:ι->Os) (m:ι->Nat) {b:Nat} (p:Option (Ts×Os)) (i0:ι) (rl0:List (Nat×Nat)) (h0:U9 ts os (St i0) (So i0) rl0) (hn:∀i,((St i).all fun p=>AH p.1 Γ.n)=true)
  (hr:∀i,j4 P Γ c (St i) (So i) (LS Γ b (JQ St So fun j=>m j<m i) p Q)) (hp:∀q,p=some q->(q.1.all fun p=>AH p.1 Γ.n)=true) (h2:∀q,p=some q->Q .normal q.1 q.2):j4 P Γ (.block b (.loop c)) ts os Q:=by
 refine j4.fC p (j4.ic (j4.db St So m i0 rl0 h0 hn fun i Q1 q1 q2 q3=>(hr i).mono fun e t o h=>?_)) hp h2;cases e with
 |normal=>exact q1 _ _ h
 |ret=>exact q3 _ _ h
 |exit id =>
  refine q2 id _ _ ?_;unfold LS at h;unfold BQ;cases hb:A4 id b<;>(simp only[hb] at h⊢;exact h)
def RK {κ:Type} (μ:κ->Nat) (Iv:κ->Nat->Prop) (F:κ->Nat->σ->Option τ) (o:τ) (D:Nat->σ->Ts) (O:Nat->σ->Os) (z:Nat):Qt:=fun _ ts os =>
 ∃(l:κ) (k:Nat) (v:σ) (rl:List (Nat×Nat)),μ l<z/\Iv l k/\F l k v=some o/\U9 ts os (D k v) (O k v) rl
def vS {κ:Type} {μ:κ->Nat} {Iv:κ->Nat->Prop} {l:κ} {F:κ->Nat->σ->Option τ} {o:τ} {D:Nat->σ->Ts} {O:Nat->σ->Os} {z k:Nat} {v:σ} {rl:List (Nat×Nat)} (h:F l k v=some o) (hd:Iv l k) (hz:μ l<z)
  (hs:U9 ts os (D k v) (O k v) rl:=by(refine U9.mk ?_ ?_ rfl rfl<;>repeat (first|exact trivial|exact rfl|(refine A5 ?_ ?_)))):Wz (v,rl) (J7 Γ ts os (RK μ Iv F o D O z)):=⟨J7.done ⟨l,k,v,rl,hz,hd,h,hs⟩⟩
def LK {κ:Type} {E:En τ ρ} {b:Nat} {f:τ->Option β} {r:β} (μ:κ->Nat) (Iv:κ->Nat->Prop) (l0:κ) (i0:Iv l0 0) (hn:Γ.n=n) {F:κ->Nat->σ->Option τ} {v0:σ} (h:(F l0 0 v0).bind f=some r)
  {D:Nat->σ->Ts} {O:Nat->σ->Os} {rl:List (Nat×Nat)} {D':ρ->Ts} {O':ρ->Os} {dt dO:List Nat}
  (k1:∀o,f o=some r->∀l k v,Iv l k->F l k v=some o->j4 P Γ c (D k v) (O k v) (LS Γ b (RK μ Iv F o D O (μ l)) (di D' O' dt dO ts os (E.e o)) Q))
  (k3:∀s,f (E.s s)=some r->fc (D' s++E9 ts dt) (O' s++E9 os dO) (Q .normal)) (h0:U9 ts os (D 0 v0) (O 0 v0) rl)
  (hb:∀k s,((D k s).all fun p=>AH p.1 n)=true) (hb':∀s,((D' s++E9 ts dt).all fun p=>AH p.1 n)=true):j4 P Γ (.block b (.loop c)) ts os Q:=by
 obtain⟨o,h1,h2⟩:=mR h;subst hn;refine ur (fun q:{ q:κ×Nat×σ // Iv q.1 q.2.1/\F q.1 q.2.1 q.2.2=some o }=>D q.1.2.1 q.1.2.2) (fun q=>O q.1.2.1 q.1.2.2) (fun q=>μ q.1.1) (di D' O' dt dO ts os (E.e o)) ⟨(l0,0,v0),i0,h1⟩ rl h0 (fun q=>hb _ _) ?_ (fun q hq=>?_) (fun q hq=>?_)
 ·rintro⟨⟨l,k,v⟩,hd,hf⟩;refine(k1 o h2 l k v hd hf).mono fun ex t s hh=>?_;cases ex with
  |normal=>exact⟨fun a w hr=>let ⟨t2,o2,⟨l,k,v,rl,e1,e2,e3,e4⟩,e5⟩:=J7.run hh a w hr;⟨t2,o2,⟨⟨(l,k,v),e2,e3⟩,rl,e1,e4⟩,e5⟩⟩
  |exit id=>exact hh
  |ret=>exact hh
 all_goals (cases ho:E.e o with|none=>rw[ho] at hq;cases hq|some s=>rw[ho] at hq;cases hq;first|exact hb' s|(have:=E.h _ _ ho;subst this;exact pb (k3 s h2)))
def LR {b:Nat} {f:τ->Option β} {r:β} {lx:List α} (E:En τ ρ) (hn:Γ.n=n) (v0:σ) (F:List α->Nat->σ->Option τ) (h:(F lx 0 v0).bind f=some r)
  (D:Nat->σ->Ts) (O:Nat->σ->Os) (dt dO:List Nat) (rl:List (Nat×Nat)) (D':ρ->Ts) (O':ρ->Os) (dt' dO':List Nat)
  (k1:∀o,f o=some r->∀k v,F [] k v=some o->decide ((k:Int)<(lx.length:Int))=false->j4 P Γ c (D k v++E9 ts dt) (O k v++E9 os dO)
   (LS Γ b (RK List.length (fun l k=>l=lx.drop k) F o (fun k v=>D k v++E9 ts dt) (fun k v=>O k v++E9 os dO) 0) (di D' O' dt' dO' ts os (E.e o)) Q))
  (k2:∀o,f o=some r->∀k v x l,F (x::l) k v=some o->decide ((k:Int)<(lx.length:Int))=true->lx[k]?=some x->l=lx.drop (k+1)->j4 P Γ c (D k v++E9 ts dt) (O k v++E9 os dO)
   (LS Γ b (RK List.length (fun l k=>l=lx.drop k) F o (fun k v=>D k v++E9 ts dt) (fun k v=>O k v++E9 os dO) (l.length+1)) (di D' O' dt' dO' ts os (E.e o)) Q))
  (k3:∀s,f (E.s s)=some r->fc (D' s++E9 ts dt') (O' s++E9 os dO') (Q .normal)) (h0:U9 ts os (D 0 v0++E9 ts dt) (O 0 v0++E9 os dO) rl:=by(refine U9.mk ?_ ?_ rfl rfl<;>repeat (first|exact trivial|exact rfl|(refine A5 ?_ ?_))))
  (hb:∀k s,((D k s++E9 ts dt).all fun p=>AH p.1 n)=true:=by intro k s;rfl) (hb':∀s,((D' s++E9 ts dt').all fun p=>AH p.1 n)=true:=by intro s;rfl):j4 P Γ (.block b (.loop c)) ts os Q :=
 LK List.length (fun l k=>l=lx.drop k) lx rfl hn h (fun o g l k v hd hf=>by
  rcases l with _|⟨x,l⟩
  ·exact k1 o g k v hf (tN hd)
  ·obtain⟨g1,g2,g3⟩:=fI hd;exact k2 o g k v x l hf g3 g1 g2) k3 h0 hb hb'
def LU {b:Nat} {f:τ->Option β} {r:β} {nx:Int} (E:En τ ρ) (hn:Γ.n=n) (v0:σ) (F:Nat->Nat->σ->Option τ) (h:(F (nx-((0:Nat):Int)).toNat 0 v0).bind f=some r)
  (D:Nat->σ->Ts) (O:Nat->σ->Os) (dt dO:List Nat) (rl:List (Nat×Nat)) (D':ρ->Ts) (O':ρ->Os) (dt' dO':List Nat)
  (k1:∀o,f o=some r->∀k v,F 0 k v=some o->decide ((k:Int)<nx)=false->j4 P Γ c (D k v++E9 ts dt) (O k v++E9 os dO)
   (LS Γ b (RK (fun m=>m) (fun m k=>m=(nx-(k:Int)).toNat) F o (fun k v=>D k v++E9 ts dt) (fun k v=>O k v++E9 os dO) 0) (di D' O' dt' dO' ts os (E.e o)) Q))
  (k2:∀o,f o=some r->∀k v m,F (m+1) k v=some o->decide ((k:Int)<nx)=true->m=(nx-((k+1:Nat):Int)).toNat->j4 P Γ c (D k v++E9 ts dt) (O k v++E9 os dO)
   (LS Γ b (RK (fun m=>m) (fun m k=>m=(nx-(k:Int)).toNat) F o (fun k v=>D k v++E9 ts dt) (fun k v=>O k v++E9 os dO) (m+1)) (di D' O' dt' dO' ts os (E.e o)) Q))
  (k3:∀s,f (E.s s)=some r->fc (D' s++E9 ts dt') (O' s++E9 os dO') (Q .normal)) (h0:U9 ts os (D 0 v0++E9 ts dt) (O 0 v0++E9 os dO) rl:=by(refine U9.mk ?_ ?_ rfl rfl<;>repeat (first|exact trivial|exact rfl|(refine A5 ?_ ?_))))
  (hb:∀k s,((D k s++E9 ts dt).all fun p=>AH p.1 n)=true:=by intro k s;rfl) (hb':∀s,((D' s++E9 ts dt').all fun p=>AH p.1 n)=true:=by intro s;rfl):j4 P Γ (.block b (.loop c)) ts os Q :=
 LK (fun m=>m) (fun m k=>m=(nx-(k:Int)).toNat) _ rfl hn h (fun o g m k v hd hf=>by
  rcases m with _|m
  ·exact k1 o g k v hf (uq hd)
  ·exact k2 o g k v m hf (nW hd).2 (nW hd).1) k3 h0 hb hb'
def LF {b N:Nat} {f:τ->Option β} {r:β} (E:En τ ρ) (hn:Γ.n=n) (v0:σ) (F:Nat->σ->Option τ) (h:(F N v0).bind f=some r)
  (D:σ->Ts) (O:σ->Os) (dt dO:List Nat) (rl:List (Nat×Nat)) (D':ρ->Ts) (O':ρ->Os) (dt' dO':List Nat)
  (k2:∀o,f o=some r->∀v m,F (m+1) v=some o->j4 P Γ c (D v++E9 ts dt) (O v++E9 os dO)
   (LS Γ b (RK (fun m=>m) (fun m k=>k=0) (fun m _=>F m) o (fun _ v=>D v++E9 ts dt) (fun _ v=>O v++E9 os dO) (m+1)) (di D' O' dt' dO' ts os (E.e o)) Q))
  (k3:∀s,f (E.s s)=some r->fc (D' s++E9 ts dt') (O' s++E9 os dO') (Q .normal)) (hz:∀v,F 0 v=none:=by intro v;rfl) (h0:U9 ts os (D v0++E9 ts dt) (O v0++E9 os dO) rl:=by(refine U9.mk ?_ ?_ rfl rfl<;>repeat (first|exact trivial|exact rfl|(refine A5 ?_ ?_))))
  (hb:∀s,((D s++E9 ts dt).all fun p=>AH p.1 n)=true:=by intro s;rfl) (hb':∀s,((D' s++E9 ts dt').all fun p=>AH p.1 n)=true:=by intro s;rfl):j4 P Γ (.block b (.loop c)) ts os Q :=
 LK (fun m=>m) (fun m k=>k=0) N rfl hn (F:=fun m _=>F m) h (fun o g m k v hd hf=>by
  rcases m with _|m
  ·rw[hz] at hf;cases hf
  ·exact k2 o g v m hf) k3 h0 (fun _=>hb) hb'
end
section
variable {P:Program} {Γ:H7} {c:Code} {ts:Ts} {os:Os} {Q:Qt} {α:Type} {enc:α->List AV}
def nR (t id sz e:Nat) (h:j4 P Γ c ((t,.aF id)::ts) ((id,.row sz [] e)::os) Q) (h1:lk ts t=some .aC:=by rfl) (h2:y7 [id] ts=true:=by rfl) (h3:y5 [id] [(id,.row sz [] e)] os=true:=by rfl):j4 P Γ c ts os Q:=j4.bT t id sz e h1 h2 h3 h
def nB (b off id sz e:Nat) {cs:List AV} {e2:Nat} (h:j4 P Γ c ts ((b,.box (cs.set off (.aF id)) e2)::(id,.row sz [] e)::os) Q) (h1:lk os b=some (.box cs e2):=by rfl) (h2:cs[off]?=some .aC:=by rfl) (h3:(AV.aY cs).all (fun i=>!Nat.beq i id)=true:=by rfl) (h4:A4 b id=false:=by rfl)
  (h5:y7 [id] ts=true:=by rfl) (h6:y5 [id] [(b,.box (cs.set off (.aF id)) e2),(id,.row sz [] e)] os=true:=by rfl):j4 P Γ c ts os Q:=j4.bm b off id sz e h1 h2 h3 h4 h5 h6 h
def rB (b off j g:Nat) {cs:List AV} {e2 sz e:Nat} {ls:List (List AV)} (h:j4 P Γ c ts ((b,.box (cs.set off (.aF g)) e2)::(g,.row sz ls e)::(j,.aH)::os) Q) (h1:lk os b=some (.box cs e2):=by rfl) (h2:cs[off]?=some (.aF j):=by rfl) (h3:lk os j=some (.row sz ls e):=by rfl)
  (h4:(AV.aY cs).all (fun i=>!Nat.beq i g)=true:=by rfl) (h5:A4 b j=false:=by rfl) (h6:A4 b g=false:=by rfl) (h7:A4 j g=false:=by rfl) (h8:y7 [g] ts=true:=by rfl) (h9:y5 [g] [(b,.box (cs.set off (.aF g)) e2),(g,.row sz ls e),(j,.aH)] os=true:=by rfl):j4 P Γ c ts os Q :=
 j4.dh b off j g h1 h2 h3 h4 h5 h6 h7 h8 h9 h
variable {l l1 l2:List α} {i:Nat} {x:α} {A B' C D':Prop}
def hD {K:Prop} (h:l[i]?=some x) (H:K) (a:A:=by rfl) (b:B':=by rfl) (c:C:=by decide) (d:D':=by rfl):A/\B'/\i<(l.map enc).length/\C/\D'/\K:=ue h a b c d H
def hS {K:Prop} (h:l[i]?=some x) (H:K) (a:A:=by rfl) (b:B':=by rfl) (d:D':=by decide):A/\B'/\i<(l.map enc).length/\D'/\K:=uV h a b d H
def sM {p:List AV->Prop} {cs':List AV} {K:List (List AV)->Prop} (h:l[i]?=some x) (x2:α) (H:K ((l.set i x2).map enc)) (hp:(∃q,M4 ((l.map enc).set i cs') q/\K q)->p (enc x):=by exact fun h=>h) (hc:dI cs' (enc x2):=by exact aT) :
  i<(l.map enc).length/\∀cs,(l.map enc)[i]?=some cs->p cs:=fD h (hp ⟨_,qz h hc,H⟩)
def bS {q0:List (List AV)} {K:List (List AV)->Prop} (enc:α->List AV) (l:List α) (H:K (l.map enc)) (h:M4 q0 (l.map enc):=by exact aT):∃q,M4 q0 q/\K q:=⟨_,h,H⟩
def aM {ls2:List (List AV)} {B C:Nat} {K:List (List AV)->Prop} (hb:AE ((l1.length+l2.length)*B) C=true) (H:K ((l1++l2).map enc)) (hle:M4 ls2 (l2.map enc):=by first|exact V7 _|exact qp _ _|exact aT) :
  ((l1.map enc).length+ls2.length)*B<=C/\∃q,M4 (l1.map enc++ls2) q/\K q:=vI hb hle H
end
section
variable {Γ:H7} {n:Nat} {c:List Nat} {ts:Ts} {os:Os} {Q:Qt} {x y:Code}
def z2 (h:Wz c (j4 prog Γ x ts os (SQ prog Γ y Q))):Wz (2::c) (j4 prog Γ (.seq x y) ts os Q):=⟨.j1 h.o⟩
def z3 (hn:Γ.n=n) (h:Wz c (cT prog tab bo Γ n (.seq x y) ts os Q)):Wz (3::c) (j4 prog Γ (.seq x y) ts os Q):=⟨bd hn h.o⟩
def z4 (hn:Γ.n=n) {a:Operand} (h:Wz c (cT prog tab bo Γ n (.cond a x y) ts os Q)):Wz (4::c) (j4 prog Γ (.cond a x y) ts os Q):=⟨cC hn h.o⟩
def z5 (hn:Γ.n=n) {id:Nat} {l:Array Oper} (h:Wz c (cT prog tab bo Γ n (.region id l false) ts os Q)):Wz (5::c) (j4 prog Γ (.region id l false) ts os Q):=⟨bu hn h.o⟩
def z6 {b:Nat} (h:Wz c (j4 prog Γ x ts os (BQ b Q))):Wz (6::c) (j4 prog Γ (.block b x) ts os Q):=⟨.ic h.o⟩
def z7 (hn:Γ.n=n) (h:Wz c (cT prog tab bo Γ n .ret ts os Q)):Wz (7::c) (j4 prog Γ .ret ts os Q):=⟨bw hn h.o⟩
def z8 (hn:Γ.n=n) {id:Nat} {l:Array Oper} (hd:O6 l.toList=true) (h:Wz c (Y0 ts fun ts=>dL prog tab bo n l.toList 0 l.toList ts os [] (Q .normal))):Wz (8::c) (j4 prog Γ (.region id l true) ts os Q):=⟨ml hn hd h.o⟩
def z9 (hn:Γ.n=n) {id:Nat} {l:Array Oper} (hd:O6 l.toList=true) (h:Wz c (Y0 ts fun ts=>dL prog tab bo n l.toList 0 l.toList ts os [] (SQ prog Γ y Q .normal))):Wz (9::c) (j4 prog Γ (.seq (.region id l true) y) ts os Q):=⟨.j1 (ml hn hd h.o)⟩
def vX {p K:Prop} (hp:p) (h:Wz c K):Wz (10::c) (p/\K):=⟨⟨hp,h.o⟩⟩
def vY {p K:Prop} (h:Wz c p):Wz (11::c) (p\/K):=⟨.inl h.o⟩
def z12 {p K:Prop} (h:Wz c K):Wz (12::c) (p\/K):=⟨.inr h.o⟩
def vZ {α:Type} {l:List α} {enc:α->List AV} {K:Nat->Prop} (h:Wz c (K l.length)):Wz (13::c) (∀n:Nat,n=(l.map enc).length->n<=maxLen->K n):=⟨X4 fun _=>h.o⟩
def va (h:Wz c (Q .normal ts os)):Wz (14::c) (J7 Γ ts os Q):=⟨.done h.o⟩
def vc {P:Program} (h:Wz c (j4 P Γ x ts os fun e ts' os'=>match e with
  |.normal=>J7 Γ ts' os' Q
  |.exit id=>Q (.exit id) ts' os'
  |.ret=>Q .ret ts' os')):Wz (15::c) (j4 P Γ x ts os Q):=⟨.snoc h.o⟩
def vd {a b:Int} (h0:0<b) (h1:b<=4611686018427387904) {K:Prop} (h:Wz c K):Wz (16::c) (b≠0/\C8 (a.tmod b)/\K):=⟨vM h0 h1 h.o⟩
def z17 {p q K:Prop} (hp:p) (hq:q) (h:Wz c K):Wz (17::c) (p/\q/\K):=⟨⟨hp,hq,h.o⟩⟩
def ve {p K:Prop} (h:Wz c K):Wz (18::c) (p->K):=⟨fun _=>h.o⟩
def vf {P:Program} (h:Wz c (dK os [] fun os=>j4 P Γ x ts os Q)):Wz (19::c) (j4 P Γ x ts os Q):=⟨by have:=(dq os [] _).1 h.o;rwa [List.append_nil] at this⟩
def z0 {G:Prop} (h:Wz c G):Wz (0::c) G:=⟨h.o⟩
def z1 (hn:Γ.n=n) (h:Wz c (Q .normal ts os)):Wz (1::c) (j4 prog Γ .skip ts os Q):=⟨cE hn h.o⟩
def z20 (hn:Γ.n=n) {id:Nat} (h:Wz c (Q (.exit id) ts os)):Wz (20::c) (j4 prog Γ (.exit id) ts os Q):=⟨cD hn h.o⟩
def zT {b:Bool} {X Y:Prop} (hb:b=true) (h:Wz c X):Wz c (dW.match_1 (motive:=fun _ _ _=>Prop) b X Y (fun X _=>X) (fun _ Y=>Y)):=⟨ux hb h.o⟩
def zF {b:Bool} {X Y:Prop} (hb:b=false) (h:Wz c Y):Wz c (dW.match_1 (motive:=fun _ _ _=>Prop) b X Y (fun X _=>X) (fun _ Y=>Y)):=⟨vA hb h.o⟩
end
def je {G:Prop} (rl:List (Nat×Nat):=[]) (a:Wz rl G:=by obtain rfl:=oI h;exact iw):G:=a.o
def le {G:Prop} {σ:Type} (v:σ) (rl:List (Nat×Nat)) (a:Wz (v,rl) G:=by exact vS h (by first|with_reducible assumption|exact rfl) (Nat.lt_succ_self _)):G:=a.o
structure dE (R:Prop):Prop where
 o:R
abbrev Sp (f:Nat) (ins:List AV) (av:AV):Prop:=Spec prog f [] ins av [] []
abbrev Sq (f:Nat) (need:Os) (ins:List AV) (av:AV) (upd:Os) (news:List Nat):Prop:=Spec prog f need ins av upd news
def so {f n:Nat} {fn:Func} {c:Code} {need upd:Os} {ins:List AV} {av:AV} {news:List Nat} (hf:prog.funcs[f]?=some fn) (hn:fn.ntmps=n)
  (h:∀Γ:H7,Γ.n=n->j4 prog Γ c (ja ins) need (mP tab fn.results.toList av upd news)) (hb:fn.body=some c:=by rfl) (hc:ax prog f=true:=by kernel_rfl)
  (hl:AE ins.length n=true:=by rfl) (hneed:(need.all fun p=>AE top p.1 && (lk upd p.1).isSome)=true:=by rfl) (hnews:(news.all fun i=>(lk upd i).isSome)=true:=by rfl):Spec prog f need ins av upd news :=
 Spec.of fV hf hb hn hc hl hneed hnews h
def gz (ks ms:Nat) {Γ:H7} {n:Nat} (hn:Γ.n=n) {id:Nat} {l:Array Oper} {ts:Ts} {os:Os} {Q:Qt} (h:Y0 ts fun ts=>dM prog tab bo n l.toList ks ms 0 l.toList ts os [] none (Q .normal)) (hd:O6 l.toList=true:=by kernel_rfl):j4 prog Γ (.region id l true) ts os Q:=vO ks ms hn hd h
def ig {β:Type} {b b':Bool} {x y:Option β} {r:β} (h:(bif b then x else y)=some r) {X Y:Prop} (hx:b'=true->x=some r->X) (hy:b'=false->y=some r->Y) (e:b=b':=by rfl):dW.match_1 (motive:=fun _ _ _=>Prop) b' X Y (fun X _=>X) (fun _ Y=>Y):=by
 subst e;exact ui h hx hy
theorem l6.c3 {c:Ctx} {w:World}:∀{us:List Value} {a X Y:AV} {cs:List AV},l6 c w us (a::X::Y::cs)->∃v0 vl vq vs,us=v0::vl::vq::vs/\Rd c w v0 a/\Rd c w vl X/\Rd c w vq Y/\l6 c w vs cs
 |_,_,_,_,_,.cons h0 (.cons h1 (.cons h2 t))=>⟨_,_,_,_,rfl,h0,h1,h2,t⟩
def Sx {c:List Nat} {G R:Prop} (k:R) (a:dE R->Wz c G:=by
  intro q_;(repeat (first|refine z2 ?_|refine z3 hn ?_|(refine z0 ?_;(repeat (first|refine zT (by with_reducible assumption) ?_|refine zF (by with_reducible assumption) ?_)))|refine z4 hn ?_|refine z5 hn ?_|refine z1 hn ?_|refine z7 hn ?_|refine z8 hn l8 ?_|refine z6 ?_|refine vX rfl ?_|refine vZ ?_|refine z9 hn l8 ?_|refine z12 ?_|refine vY ?_|refine z20 hn ?_|refine va ?_|refine vc ?_|refine vd p8 p8 ?_|refine z17 p8 p8 ?_|refine ve ?_|refine vf ?_));exact⟨q_.o⟩):Wz c G:=a ⟨k⟩
def S (c:List Nat) {G R:Prop} (k:R) (a:dE R->Wz c G:=by intro q_;exact Sx q_.o):G:=(a ⟨k⟩).o
def Sj (c:List Nat) {G R:Prop} (rl:List (Nat×Nat):=[]) (a:dE R->Wz c G:=by intro q_;exact Sx q_.o) (b:Wz rl R:=by obtain rfl:=oI h;exact iw):G:=(a ⟨b.o⟩).o
def Sr (c:List Nat) {G R:Prop} (rl:List (Nat×Nat):=[]) (a:dE R->Wz c G:=by intro q_;exact Sx q_.o) (b:Wz rl R:=by obtain rfl:=oI h;(repeat (have e_:=oI g;clear g;subst e_));exact po fm):G:=(a ⟨b.o⟩).o
def B (c:List Nat) {G R:Prop} (k:R) (a:dE R->Wz c G:=by intro q_;refine Sx ?_;exact uw h q_.o):G:=(a ⟨k⟩).o
def A (c:List Nat) {G R:Prop} (k:R) (a:dE R->Wz c G:=by intro q_;refine Sx ?_;exact vQ h q_.o):G:=(a ⟨k⟩).o
def I (c:List Nat) {G R R':Prop} (k:R) (k':R') (a:dE R->dE R'->Wz c G:=by intro p_ q_;refine Sx ?_;exact ig h p_.o q_.o):G:=(a ⟨k⟩ ⟨k'⟩).o
structure Pk (c:List Nat):Prop where
def Pj {c:List Nat} (_:Pk c) {G R:Prop} (a:dE R->Wz c G:=by intro q_;exact Sx q_.o) (b:Wz ([]:List (Nat×Nat)) R:=by obtain rfl:=oI h;exact iw):G:=(a ⟨b.o⟩).o
def Pr {c:List Nat} (_:Pk c) {G R:Prop} (a:dE R->Wz c G:=by intro q_;exact Sx q_.o) (b:Wz ([]:List (Nat×Nat)) R:=by obtain rfl:=oI h;(repeat (have e_:=oI g;clear g;subst e_));exact po fm):G:=(a ⟨b.o⟩).o
def Ij (c d:List Nat) {G R:Prop} (k:R) (a:Pk d->dE R->Wz c G:=by intro p_ q_;refine Sx ?_;refine ig h ?_ q_.o;intro _ h;exact Pj p_):G:=(a ⟨⟩ ⟨k⟩).o
def Ir (c d:List Nat) {G R:Prop} (k:R) (a:Pk d->dE R->Wz c G:=by intro p_ q_;refine Sx ?_;refine ig h ?_ q_.o;intro _ h;exact Pr p_):G:=(a ⟨⟩ ⟨k⟩).o
def L9 (c d e:List Nat) {G:Prop} (a:Pk d->Pk e->Wz c G:=by intro p_ q_;refine Sx ?_;refine ig h ?_ ?_;intro _ h;exact Pj p_;intro _ h;exact Pj q_):G:=(a ⟨⟩ ⟨⟩).o
def ft (c d e:List Nat) {G:Prop} (a:Pk d->Pk e->Wz c G:=by intro p_ q_;refine Sx ?_;refine ig h ?_ ?_;intro _ h;exact Pr p_;intro _ h;exact Pr q_):G:=(a ⟨⟩ ⟨⟩).o
end Go.Proofs.YtibjcppjfkamhaaDoor
