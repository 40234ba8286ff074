import Derived.WalkKit
import Derived.ProofKit
import Derived.OpenShut
import Derived.Below
import Derived.ChangeSame
import Derived.BigQuiet
import Derived.Deep.QuietTactic
import Derived.WalkSpells
import Derived.WalkLawsBesides
import Derived.Maps.AppendAt
import Derived.Laws.OwnMore
import Derived.ChangeKeysEq
import Derived.Stop.IfaceNil
import Derived.Laws.StructEq
import Derived.ArgAppend
import Derived.IntWalk
import Derived.Laws.Cover3
import Derived.MapKept
import Derived.Lib.AppendStr
import Derived.Lib.ConvBytes
import Derived.Laws.BytesArg
set_option linter.unusedVariables false
set_option linter.defProp false
set_option linter.unusedSimpArgs false
namespace Go.Proofs.YtibjcppjfkamhaaGreatDoor
open Go.RowKit
open _root_.Bool renaming and_eq_true->IT,false_eq_true->Ml
open _root_.ByteArray renaming empty->BY
open _root_.Int renaming le_refl->MO
open _root_.List renaming getElem?_eq_getElem->IS,getElem?_eq_some_iff->ME,mem_cons->MG,replicate->MI,map->MJ,length_append->MK,length_cons->ML,mem_of_getElem?->MP,all_eq_true->MR,map_cons->MS,mem_append->MT,mem_map->MU,append_assoc->MV,length_map->MW,getElem?_set->MY,getElem?_append_right->Ma,length_set->Mc,getElem?_eq_none->Md,mem_singleton->Mh,getElem?_map->Mj,eq_nil_of_length_eq_zero->Mk,getElem?_drop->Mm,ext_getElem?->Mn,getElem?_append_left->Mp,length_take->Mq,mem_cons_of_mem->Mr,length_nil->Ms,getElem?_take->Mu,getElem?_cons_succ->Mw,length_singleton->Mx,getElem?_cons_zero->My
open _root_.Nat renaming beq->AT,ble->IN,le_refl->It,eq_of_beq_eq_true->MN,blt->MX,le_of_ble_eq_true->MZ,zero_add->Mi,add_assoc->Mo,mul_le_mul_right->Mt
open _root_.Option renaming map_eq_some_iff->MM,map_some->Mf
open _root_.Or renaming inl->MF
theorem Mz {α:Type} (a b:α):cond true a b=a:=rfl
theorem N0 {α:Type} (a b:α):cond false a b=b:=rfl
def N1:=@if_neg
def N2:=@if_pos
def N3:=@decide_true
def N4:=@decide_false
def N5:=@decide_eq_false
def N6:=@decide_eq_true
def NA:=@decide_eq_true_eq
section
open Go.ChangeShapes Go.WideShapes Go.ChangeAt Go.RowKit
def d9 {P:Prop} (h:P:=by omega):P:=h
def C8 {P:Prop} (h:P:=by kernel_rfl):P:=h
def G8 {P:Prop} (h:P:=by decide):P:=h
def l9 {P:Prop} (h:P:=by simp):P:=h
def L6 {P:Prop} (h:P:=by simp;omega):P:=h
def bJ {P:Prop} (h:P:=by simp only;omega):P:=h
def ino {P:Prop} (h:P:=by unfold I5;omega):P:=h
section
variable {H:Type} {enc:TypeId×Value->H} {P:Program}
def Gp {f:Func} {s:ChangeSpec} {apart m c l:Bool} {W o:World} {args:Array Value} {v:Value} {q gs:List (DataW H)} {a x pv:List MemPlace}
  (y:DataW.Whole enc P f.params.toList s.vars apart W args.toList q gs a)
  (k:∀(b:Nat) (n:Nat->Bool) (hd:Bool),DataW.TrodAll enc P o b n hd f.resultTypes.toList (v.resultList f.resultTypes.size) (s.fn H (q++gs)).results [])
  (d:∀n:Nat->Bool,(∀p∈a,n p.block=true)->DataW.TrodAll enc P o 0 n true f.params.toList args.toList (s.fn H (q++gs)).args x)
  (g:∀n:Nat->Bool,(∀p∈a,n p.block=true)->DataW.TrodVars enc P o n s.vars (s.fn H (q++gs)).vars pv)
  (h:a=x++pv) (z:Below W.heap.size W o)
  (aO:∀(j:Nat) (t:TypeId) (r:Value),f.resultTypes[j]?=some t->(v.resultList f.resultTypes.size)[j]?=some r->Value.okWide P o .any 0 t r) :
  s.post enc P f apart m c l W args v o:=by
 have w:∀p∈a,p.block<W.heap.size:=fun p e=>y.lt p e;have i:∀p∈a,(fun b=>decide (b<W.heap.size)) p.block=true:=fun p e=>by simpa using w p e
 refine⟨q,gs,a,[],x,pv,y,k _ _ _,d _ i,g _ i,World.keptBut_mono (fun p e=>⟨e,?_⟩) (z.frame (·∈a)),fun _=>?_⟩
 ·rw[h,MT] at e;exact Or.inr e
 ·obtain⟨_,_,_,_,_,C,B⟩:=y;refine⟨aO,_,_,([]++x)++pv,⟨[]++x,pv,trodAll_append (d _ (fun _ _=>rfl)) (k _ _ _),g _ (fun _ _=>rfl),rfl,?_,?_⟩,?_⟩
  ·intro b off e;have u:MemPlace.cell b off∈a:=by rw[h];simpa using e
   rw[z.frozen (w _ u)];exact C b off u
  ·intro A;have:=B A;rw[h] at this;simpa using this
  ·intro p e _;rw[h];simpa using e
end
theorem Al {H:Type} {enc:TypeId×Value->H} {P:Program} (hl:laidOutB P=true) {W f:World} (g:Below W.heap.size W f) (e:Nat->Bool) :
  ∀{ts:List TypeId} {vs:List Value} {c:List (DataW H)} {b:List MemPlace},(∀t∈ts,P.readableRec t=true/\t<P.types.size)->DataW.TrodAll enc P W 0 (fun _=>true) true ts vs c b ->
   (∀p∈b,p.block<W.heap.size)->(∀p∈b,e p.block=true)->DataW.TrodAll enc P f 0 e true ts vs c b
 |[],[],[],_,_,h,_,_=>h
 |t::ts,v::vs,d::c,b,hr,h,hlt,hsp=>by
  obtain⟨p,q,i,j,rfl⟩:=h;refine⟨p,q,?_,?_,rfl⟩
  ·exact WideElems.Trod_stays hl (hr t l9).1 (hr t l9).2 i (fun x a=>g.same (hlt x (by simp[a]))) (fun x a=>hsp x (by simp[a]))
  ·exact Al hl g e (fun t k=>hr t (by simp[k])) j (fun x a=>hlt x (by simp[a])) (fun x a=>hsp x (by simp[a]))
 |[],_::_,_,_,_,h,_,_=>h.elim
 |[],[],_::_,_,_,h,_,_=>h.elim
 |_::_,[],_,_,_,h,_,_=>h.elim
 |_::_,_::_,[],_,_,h,_,_=>h.elim
end
abbrev I5 (n:Int):Prop:=-9223372036854775808<=n/\n<=9223372036854775807
inductive AV : Type where
 |any
 |int (n:Int)
 |ik (k:IntKind) (n:Int)
 |bool (b:Bool)
 |str (s:ByteArray)
 |sl (sz:Nat) (ls:List (List AV))
 |ptr (id off:Nat)
 |fp (cs:List AV)
 |aK (id:Nat)
 |dW (id n:Nat)
 |dQ (id n sz:Nat)
 |ep (id i sz off:Nat)
 |fn (f:Nat) (caps:List AV)
 |agg (cs:List AV)
 |aZ (l:List AV)
 |aJ
  |fL (b:Bool)
 |aa
 |aP
 |mp (id:Nat)
 |cI (id:Nat)
  |np (id:Nat)
  |dj (b:Bool)
 |aU (v:Value)
 deriving Inhabited
mutual
inductive Rf (Φ:Nat->Prop) (w:World):Value->AV->Prop
 |any (v:Value):Rf Φ w v .any
 |int {n:Int}:I5 n->Rf Φ w (.int .i64 n) (.int n)
 |ik (k:IntKind) (n:Int):Rf Φ w (.int k n) (.ik k n)
 |bool (b:Bool):Rf Φ w (.bool b) (.bool b)
 |str {s:ByteArray}:s.size<=maxLen->Rf Φ w (.string s) (.str s)
 |sl {A:Option Addr} {c sz:Nat} {ls:List (List AV)} (us:Nat->List Value) (b o:Nat):ls.length<=c->c<=maxLen->(0<ls.length->A=some ⟨b,o,none⟩/\Φ b) ->
   (∀i cs,ls[i]?=some cs->(us i).length=sz)->(∀i cs,ls[i]?=some cs->∀j u,(us i)[j]?=some u->w.cell? ⟨b,o+i*sz+j,none⟩=some u) ->
   (∀i cs,ls[i]?=some cs->H5 Φ w (us i) cs)->(∀i cs,ls[i]?=some cs->∀u∈us i,u.oneCell'=true)->Rf Φ w (.slice A ls.length c) (.sl sz ls)
 |fp {b o:Nat} {us:List Value} {cs:List AV}:Φ b->(∀j u,us[j]?=some u->w.cell? ⟨b,o+j,none⟩=some u)->H5 Φ w us cs->Rf Φ w (.pointer (some ⟨b,o,none⟩)) (.fp cs)
 |fn {f:Nat} {us:List Value} {cs:List AV}:H5 Φ w us cs->Rf Φ w (.func (.func f) #[] us.toArray) (.fn f cs)
 |agg {us:List Value} {cs:List AV}:H5 Φ w us cs->Rf Φ w (.agg us.toArray) (.agg cs)
 |aZ {us:List Value} {cs:List AV}:H5 Φ w us cs->Rf Φ w (.tuple us.toArray) (.aZ cs)
 |aJ:Rf Φ w (.slice none 0 0) .aJ
 |fL (A:Option Addr) (n c:Nat):Rf Φ w (.slice A n c) (.fL A.isNone)
 |aa:Rf Φ w (.pointer none) .aa
 |aP:Rf Φ w .nilFunc .aP
 |eO:Rf Φ w .nilIface (.dj true)
 |ei (t:TypeId) (p:Value):Rf Φ w (.iface t p) (.dj false)
 |aU (v:Value):Rf Φ w v (.aU v)
inductive H5 (Φ:Nat->Prop) (w:World):List Value->List AV->Prop
 |nil:H5 Φ w [] []
 |cons {v:Value} {a:AV} {vs:List Value} {a_:List AV}:Rf Φ w v a->H5 Φ w vs a_->H5 Φ w (v::vs) (a::a_)
end
mutual
theorem Rf.mono {Φ f:Nat->Prop} {w w':World} (e:∀b,Φ b->w'.heap[b]?=w.heap[b]?) (d:∀b,Φ b->f b):∀{v:Value} {a:AV},Rf Φ w v a->Rf f w' v a
 |_,_,.any v=>.any v
 |_,_,.int h=>.int h
 |_,_,.ik k n=>.ik k n
 |_,_,.bool b=>.bool b
 |_,_,.str h=>.str h
 |_,_,.sl us b o r s l x y z B=>.sl us b o r s (fun h=>⟨(l h).1,d b (l h).2⟩) x
   (fun i g h j u m=>(World.cell?_of_block (w:=w) (a:=⟨b,o+i*_+j,none⟩) (e b (l (by have:=(ME.1 h).1;omega)).2)).trans (y i g h j u m))
   (fun i g h=>H5.mono e d (z i g h)) B
 |_,_,.fp q C D=>.fp (d _ q) (fun j u m=>(World.cell?_of_block (w:=w) (e _ q)).trans (C j u m)) (H5.mono e d D)
 |_,_,.fn h=>.fn (H5.mono e d h)
 |_,_,.agg h=>.agg (H5.mono e d h)
 |_,_,.aZ h=>.aZ (H5.mono e d h)
 |_,_,.aJ=>.aJ
 |_,_,.fL A n c=>.fL A n c
 |_,_,.aa=>.aa
 |_,_,.aP=>.aP
 |_,_,.eO=>.eO
 |_,_,.ei t p=>.ei t p
 |_,_,.aU v=>.aU v
theorem H5.mono {Φ d:Nat->Prop} {w w':World} (e:∀b,Φ b->w'.heap[b]?=w.heap[b]?) (a:∀b,Φ b->d b):∀{vs:List Value} {a_:List AV},H5 Φ w vs a_->H5 d w' vs a_
 |_,_,.nil=>.nil
 |_,_,.cons h t=>.cons (Rf.mono e a h) (H5.mono e a t)
end
section
variable {Φ:Nat->Prop} {w:World}
theorem H5.length : ∀{vs:List Value} {a_:List AV},H5 Φ w vs a_->vs.length=a_.length
 |_,_,.nil=>rfl
 |_,_,.cons _ t=>by simp[H5.length t]
theorem H5.get : ∀{vs:List Value} {a_:List AV},H5 Φ w vs a_->∀{i:Nat} {a:AV},a_[i]?=some a->∃v,vs[i]?=some v/\Rf Φ w v a
 |_,_,.cons (v:=v) h t,0,a,e=>⟨v,rfl,by simp at e;exact e▸h⟩
 |_,_,.cons h t,i+1,a,e=>by simpa using H5.get t (by simpa using e)
theorem H5.append : ∀{vs:List Value} {a_:List AV} {us:List Value} {a:List AV},H5 Φ w vs a_->H5 Φ w us a->H5 Φ w (vs++us) (a_++a)
 |_,_,_,_,.nil,h=>h
 |_,_,_,_,.cons x t,h=>.cons x (H5.append t h)
theorem H5.take (n:Nat):∀{vs:List Value} {a_:List AV},H5 Φ w vs a_->∀n,H5 Φ w (vs.take n) (a_.take n)
 |_,_,.nil,n=>by simpa using .nil
 |_,_,.cons h t,0=>by simpa using .nil
 |_,_,.cons h t,n+1=>.cons h (H5.take n t n)
theorem H5.drop : ∀{vs:List Value} {a_:List AV},H5 Φ w vs a_->∀n,H5 Φ w (vs.drop n) (a_.drop n)
 |_,_,.nil,n=>by simpa using .nil
 |_,_,.cons h t,0=>.cons h t
 |_,_,.cons h t,n+1=>by simpa using H5.drop t n
end
structure Ctx where
 Φ:Nat->Prop
 μ:Nat->Nat
 hd:Nat->Value
mutual
inductive Rd (c:Ctx) (w:World):Value->AV->Prop
 |fz {v:Value} {a:AV}:Rf c.Φ w v a->Rd c w v a
 |ptr {id off b:Nat}:c.μ id=b->Rd c w (.pointer (some ⟨b,off,none⟩)) (.ptr id off)
 |aK {id n cap:Nat} {A:Option Addr}:c.hd id=.slice A n cap->n<=cap->cap<=maxLen->Rd c w (.slice A n cap) (.aK id)
 |dW {id n m cap:Nat} {A:Option Addr}:c.hd id=.slice A m cap->n<=m->m<=cap->cap<=maxLen->Rd c w (.slice A n cap) (.dW id n)
 |dQ {id n sz m cap:Nat} {A:Option Addr}:c.hd id=.slice A m cap->n<=m->m<=cap->cap<=maxLen->Rd c w (.slice (if cap=n then A else A.map (·.add (n*sz))) (m-n) (cap-n)) (.dQ id n sz)
 |ep {id i sz off m cap g x:Nat}:c.hd id=.slice (some ⟨g,x,none⟩) m cap->Rd c w (.pointer (some ⟨g,x+i*sz+off,none⟩)) (.ep id i sz off)
 |fn {f:Nat} {us:List Value} {cs:List AV}:w9 c w us cs->Rd c w (.func (.func f) #[] us.toArray) (.fn f cs)
 |agg {us:List Value} {cs:List AV}:w9 c w us cs->Rd c w (.agg us.toArray) (.agg cs)
 |aZ {us:List Value} {cs:List AV}:w9 c w us cs->Rd c w (.tuple us.toArray) (.aZ cs)
 |mp {id b:Nat}:c.μ id=b->Rd c w (.map (some b)) (.mp id)
 |cI {id n cap:Nat} {A:Option Addr} {vs:List Value}:c.hd id=.tuple (.slice A n cap::vs).toArray->n<=cap->cap<=maxLen->Rd c w (.slice A n cap) (.cI id)
 |qg {id:Nat}:Rd c w (.pointer none) (.np id)
 |qh {id b:Nat}:c.μ id=b->Rd c w (.pointer (some ⟨b,0,none⟩)) (.np id)
inductive w9 (c:Ctx) (w:World):List Value->List AV->Prop
 |nil:w9 c w [] []
 |cons {v:Value} {a:AV} {vs:List Value} {a_:List AV}:Rd c w v a->w9 c w vs a_->w9 c w (v::vs) (a::a_)
end
mutual
def AV.ids : AV->List Nat
 |.ptr id _=>[id]
 |.aK id=>[id]
 |.dW id _=>[id]
 |.dQ id _ _=>[id]
 |.ep id _ _ _=>[id]
 |.mp id=>[id]
 |.cI id=>[id]
 |.np id=>[id]
 |.fn _ a=>AV.au a
 |.agg a=>AV.au a
 |.aZ a=>AV.au a
 |_=>[]
def AV.au : List AV->List Nat
 |[]=>[]
 |a::l=>a.ids++AV.au l
end
mutual
theorem Rd.mono {c c':Ctx} {w w':World} (g:∀b,c.Φ b->w'.heap[b]?=w.heap[b]?) (d:∀b,c.Φ b->c'.Φ b):∀{v:Value} {a:AV},(∀id∈a.ids,c'.μ id=c.μ id/\c'.hd id=c.hd id)->Rd c w v a->Rd c' w' v a
 |_,_,_,.fz h=>.fz (h.mono g d)
 |_,_,hi,.ptr h=>.ptr ((hi _ (by simp[AV.ids])).1.trans h)
 |_,_,hi,.aK h e f=>.aK ((hi _ (by simp[AV.ids])).2.trans h) e f
 |_,_,hi,.dW h e f i=>.dW ((hi _ (by simp[AV.ids])).2.trans h) e f i
 |_,_,hi,.dQ h e f i=>.dQ ((hi _ (by simp[AV.ids])).2.trans h) e f i
 |_,_,hi,.ep h=>.ep ((hi _ (by simp[AV.ids])).2.trans h)
 |_,_,hi,.fn h=>.fn (w9.mono g d (by simpa only[AV.ids] using hi) h)
 |_,_,hi,.agg h=>.agg (w9.mono g d (by simpa only[AV.ids] using hi) h)
 |_,_,hi,.aZ h=>.aZ (w9.mono g d (by simpa only[AV.ids] using hi) h)
 |_,_,hi,.mp h=>.mp ((hi _ (by simp[AV.ids])).1.trans h)
 |_,_,hi,.cI h e f=>.cI ((hi _ (by simp[AV.ids])).2.trans h) e f
 |_,_,hi,.qg=>.qg
 |_,_,hi,.qh h=>.qh ((hi _ (by simp[AV.ids])).1.trans h)
theorem w9.mono {c c':Ctx} {w w':World} (d:∀b,c.Φ b->w'.heap[b]?=w.heap[b]?) (a:∀b,c.Φ b->c'.Φ b):∀{vs:List Value} {a_:List AV},(∀id∈AV.au a_,c'.μ id=c.μ id/\c'.hd id=c.hd id)->w9 c w vs a_->w9 c' w' vs a_
 |_,_,_,.nil=>.nil
 |_,_,hi,.cons h t=>.cons (Rd.mono d a (fun id h=>hi id (by simp[AV.au,h])) h) (w9.mono d a (fun id h=>hi id (by simp[AV.au,h])) t)
end
section
variable {c:Ctx} {w:World}
theorem w9.length : ∀{vs:List Value} {a_:List AV},w9 c w vs a_->vs.length=a_.length
 |_,_,.nil=>rfl
 |_,_,.cons _ t=>by simp[w9.length t]
theorem w9.get : ∀{vs:List Value} {a_:List AV},w9 c w vs a_->∀{i:Nat} {a:AV},a_[i]?=some a->∃v,vs[i]?=some v/\Rd c w v a
 |_,_,.cons (v:=v) h t,0,a,e=>⟨v,rfl,by simp at e;exact e▸h⟩
 |_,_,.cons h t,i+1,a,e=>by simpa using w9.get t (by simpa using e)
theorem w9.append : ∀{vs:List Value} {a_:List AV} {us:List Value} {a:List AV},w9 c w vs a_->w9 c w us a->w9 c w (vs++us) (a_++a)
 |_,_,_,_,.nil,h=>h
 |_,_,_,_,.cons x t,h=>.cons x (w9.append t h)
theorem w9.take : ∀{vs:List Value} {a_:List AV},w9 c w vs a_->∀n,w9 c w (vs.take n) (a_.take n)
 |_,_,.nil,n=>by simpa using .nil
 |_,_,.cons h t,0=>by simpa using .nil
 |_,_,.cons h t,n+1=>.cons h (w9.take t n)
theorem w9.drop : ∀{vs:List Value} {a_:List AV},w9 c w vs a_->∀n,w9 c w (vs.drop n) (a_.drop n)
 |_,_,.nil,n=>by simpa using .nil
 |_,_,.cons h t,0=>.cons h t
 |_,_,.cons h t,n+1=>by simpa using w9.drop t n
theorem w9.set : ∀{vs:List Value} {a_:List AV},w9 c w vs a_->∀(n:Nat) {v:Value} {a:AV},Rd c w v a->w9 c w (vs.set n v) (a_.set n a)
 |_,_,.nil,n,_,_,_=>by simpa using .nil
 |_,_,.cons h t,0,_,_,k=>.cons k t
 |_,_,.cons h t,n+1,_,_,k=>.cons h (w9.set t n k)
theorem w9.bC : ∀{vs:List Value} {a_:List AV},H5 c.Φ w vs a_->w9 c w vs a_
 |_,_,.nil=>.nil
 |_,_,.cons h t=>.cons (.fz h) (w9.bC t)
theorem Rd.cU {v:Value} {a:List AV} (h:Rd c w v (.agg a)):∃us,v=.agg us.toArray/\w9 c w us a:=by
 cases h with
 |fz h=>cases h with|agg h=>exact⟨_,rfl,.bC h⟩
 |agg h=>exact⟨_,rfl,h⟩
theorem Rd.fo {v:Value} {a:List AV} (h:Rd c w v (.aZ a)):∃us,v=.tuple us.toArray/\w9 c w us a:=by
 cases h with
 |fz h=>cases h with|aZ h=>exact⟨_,rfl,.bC h⟩
 |aZ h=>exact⟨_,rfl,h⟩
theorem Rd.qd {v:Value} {f:Nat} {a:List AV} (h:Rd c w v (.fn f a)):∃us,v=.func (.func f) #[] us.toArray/\w9 c w us a:=by
 cases h with
 |fz h=>cases h with|fn h=>exact⟨_,rfl,.bC h⟩
 |fn h=>exact⟨_,rfl,h⟩
theorem Rd.ah {v:Value} {n:Int} (h:Rd c w v (.int n)):v=.int .i64 n/\I5 n:=by
 cases h with|fz h=>cases h with|int h=>exact⟨rfl,h⟩
theorem Rd.kf {v:Value} {k:IntKind} {n:Int} (h:Rd c w v (.ik k n)):v=.int k n:=by
 cases h with|fz h=>cases h with|ik=>rfl
theorem Rd.bL {v:Value} {b:Bool} (h:Rd c w v (.bool b)):v=.bool b:=by
 cases h with|fz h=>cases h with|bool=>rfl
theorem Rd.bY {v:Value} {s:ByteArray} (h:Rd c w v (.str s)):v=.string s/\s.size<=maxLen:=by
 cases h with|fz h=>cases h with|str h=>exact⟨rfl,h⟩
theorem Rd.bH {v:Value} (h:Rd c w v .aJ):v=.slice none 0 0:=by
 cases h with|fz h=>cases h with|aJ=>rfl
theorem Rd.zL {v:Value} {b:Bool} (h:Rd c w v (.fL b)):∃A n k,v=.slice A n k/\b=A.isNone:=by
 cases h with|fz h=>cases h with|fL A n k=>exact⟨_,_,_,rfl,rfl⟩
theorem Rd.gU {v:Value} (h:Rd c w v .aa):v=.pointer none:=by
 cases h with|fz h=>cases h with|aa=>rfl
theorem Rd.jE {v u:Value} (h:Rd c w v (.aU u)):v=u:=by
 cases h with|fz h=>cases h with|aU=>rfl
theorem Rd.cm {v:Value} {id off:Nat} (h:Rd c w v (.ptr id off)):v=.pointer (some ⟨c.μ id,off,none⟩):=by
 cases h with
 |fz h=>cases h
 |ptr h=>rw[h]
theorem Rd.qf {v:Value} {id:Nat} (h:Rd c w v (.mp id)):v=.map (some (c.μ id)):=by
 cases h with
 |fz h=>cases h
 |mp h=>rw[h]
theorem Rd.kl {v:Value} {id:Nat} (h:Rd c w v (.cI id)):∃A n cap vs,v=.slice A n cap/\c.hd id=.tuple (.slice A n cap::vs).toArray/\n<=cap/\cap<=maxLen:=by
 cases h with
 |fz h=>cases h
 |cI h a b=>exact⟨_,_,_,_,rfl,h,a,b⟩
theorem Rd.EV {v:Value} {id:Nat} (h:Rd c w v (.np id)):v=.pointer none\/v=.pointer (some ⟨c.μ id,0,none⟩):=by
 cases h with
 |fz h=>cases h
 |qg=>exact .inl rfl
 |qh h=>exact .inr (by rw[h])
theorem Rd.oM {v:Value} {b:Bool} (h:Rd c w v (.dj b)):(v=.nilIface/\b=true)\/∃t p,v=.iface t p/\b=false:=by
 cases h with|fz h=>cases h with
  |eO=>exact .inl ⟨rfl,rfl⟩
  |ei t p=>exact .inr ⟨t,p,rfl,rfl⟩
theorem Rd.vt {v:Value} {a:List AV} (h:Rd c w v (.fp a)):∃b o us,v=.pointer (some ⟨b,o,none⟩)/\c.Φ b/\(∀j u,us[j]?=some u->w.cell? ⟨b,o+j,none⟩=some u)/\H5 c.Φ w us a:=by
 cases h with|fz h=>cases h with|fp d e f=>exact⟨_,_,_,rfl,d,e,f⟩
theorem Rd.jx {v:Value} {sz:Nat} {ls:List (List AV)} (h:Rd c w v (.sl sz ls)):∃(A:Option Addr) (k:Nat) (us:Nat->List Value) (b o:Nat),v=.slice A ls.length k/\ls.length<=k/\k<=maxLen/\(0<ls.length->A=some ⟨b,o,none⟩/\c.Φ b) /\
  (∀i a,ls[i]?=some a->(us i).length=sz)/\(∀i a,ls[i]?=some a->∀j u,(us i)[j]?=some u->w.cell? ⟨b,o+i*sz+j,none⟩=some u)/\(∀(i:Nat) (a:List AV),ls[i]?=some a->H5 c.Φ w (us i:List Value) a)/\(∀i a,ls[i]?=some a->∀u∈us i,u.oneCell'=true):=by
 cases h with|fz h=>cases h with|sl us b o d e f g l m n=>exact⟨_,_,us,b,o,rfl,d,e,f,g,l,m,n⟩
theorem Rd.bF {v:Value} {id:Nat} (h:Rd c w v (.aK id)):∃A n cap,v=.slice A n cap/\c.hd id=.slice A n cap/\n<=cap/\cap<=maxLen:=by
 cases h with
 |fz h=>cases h
 |aK h a b=>exact⟨_,_,_,rfl,h,a,b⟩
theorem Rd.hZ {v:Value} {id n:Nat} (h:Rd c w v (.dW id n)):∃A m cap,v=.slice A n cap/\c.hd id=.slice A m cap/\n<=m/\m<=cap/\cap<=maxLen:=by
 cases h with
 |fz h=>cases h
 |dW h a b d=>exact⟨_,_,_,rfl,h,a,b,d⟩
theorem Rd.oU {v:Value} {id n sz:Nat} (h:Rd c w v (.dQ id n sz)):∃A m cap,v=.slice (if cap=n then A else A.map (·.add (n*sz))) (m-n) (cap-n)/\c.hd id=.slice A m cap/\n<=m/\m<=cap/\cap<=maxLen:=by
 cases h with
 |fz h=>cases h
 |dQ h a b d=>exact⟨_,_,_,rfl,h,a,b,d⟩
theorem Rd.oK {v:Value} {id i sz off:Nat} (h:Rd c w v (.ep id i sz off)):∃g x m cap,v=.pointer (some ⟨g,x+i*sz+off,none⟩)/\c.hd id=.slice (some ⟨g,x,none⟩) m cap:=by
 cases h with
 |fz h=>cases h
 |ep h=>exact⟨_,_,_,_,rfl,h⟩
def pt : AV->Bool
 |.any=>false
 |.agg _=>false
 |.aZ _=>false
 |.aU v=>v.oneCell'
 |_=>true
theorem Rd.one {v:Value} {a:AV} (h:Rd c w v a) (b:pt a=true):v.oneCell'=true:=by
 cases h with
 |fz h=>cases h<;>first|rfl|cases b|exact b
 |_=>first|rfl|cases b
theorem w9.one : ∀{vs:List Value} {a_:List AV},w9 c w vs a_->a_.all pt=true->∀u∈vs,u.oneCell'=true
 |_,_,.nil,_=>l9
 |_,_,.cons h t,a=>by
  simp only[List.all_cons,IT] at a;intro u b;rcases MG.1 b with rfl|b
  ·exact h.one a.1
  ·exact w9.one t a.2 u b
mutual
theorem Rd.rf : ∀{v:Value} {a:AV},a.ids=[]->Rd c w v a->Rf c.Φ w v a
 |_,_,_,.fz h=>h
 |_,_,hi,.ptr _=>by simp[AV.ids] at hi
 |_,_,hi,.aK _ _ _=>by simp[AV.ids] at hi
 |_,_,hi,.dW _ _ _ _=>by simp[AV.ids] at hi
 |_,_,hi,.dQ _ _ _ _=>by simp[AV.ids] at hi
 |_,_,hi,.ep _=>by simp[AV.ids] at hi
 |_,_,hi,.mp _=>by simp[AV.ids] at hi
 |_,_,hi,.cI _ _ _=>by simp[AV.ids] at hi
 |_,_,hi,.qg=>by simp[AV.ids] at hi
 |_,_,hi,.qh _=>by simp[AV.ids] at hi
 |_,_,hi,.fn h=>.fn (w9.jw (by simpa only[AV.ids] using hi) h)
 |_,_,hi,.agg h=>.agg (w9.jw (by simpa only[AV.ids] using hi) h)
 |_,_,hi,.aZ h=>.aZ (w9.jw (by simpa only[AV.ids] using hi) h)
theorem w9.jw : ∀{vs:List Value} {a_:List AV},AV.au a_=[]->w9 c w vs a_->H5 c.Φ w vs a_
 |_,_,_,.nil=>.nil
 |_,_,hi,.cons h t=>by
  simp only[AV.au,List.append_eq_nil_iff] at hi;exact .cons (Rd.rf hi.1 h) (w9.jw hi.2 t)
end
theorem Rd.dM (v:Value):Rd c w v .any:=.fz (.any v)
end
structure Hd where
 A:Option Addr
 n:Nat
 c:Nat
def Hd.v (h:Hd):Value:=.slice h.A h.n h.c
inductive Obj : Type where
 |aF
 |box (cs:List AV) (e:TypeId)
 |row (sz:Nat) (ls:List (List AV)) (e:TypeId)
  |pins (sz:Nat) (l:List (Hd×List (List AV))) (e:TypeId)
  |nest (sz:Nat) (e:TypeId) (isz:Nat) (ie:TypeId) (l:List (List AV×List (List AV)))
  |bR (sz:Nat) (ls:List (List AV)) (e:TypeId) (i off x:Nat)
  |deep (sz:Nat) (e:TypeId) (cols:List (Nat×Nat×TypeId)) (l:List (List AV)) (hs:List (Nat×Nat×Nat)) (sh:Nat)
  |bc (l:List (AV×AV))
  |eqv (j:Nat) (v:Value)
  |tX (bs:List Nat) (G:World->Prop)
 deriving Inhabited
abbrev Ts := List (Nat×AV)
abbrev Os := List (Nat×Obj)
def lk {a:Type}:List (Nat×a)->Nat->Option a
 |[],_=>none
 |(k,v)::r,n=>bif AT k n then some v else lk r n
def l8 {a:Type} (k:Nat) (v:a) (r:List (Nat×a)) (n:Nat):lk ((k,v)::r) n=if k=n then some v else lk r n:=by
 show(bif AT k n then some v else lk r n)=_;by_cases h:k=n
 ·subst h;simp
 ·have:AT k n=false:=by cases e:AT k n;rfl;exact absurd (MN e) h
  simp[this,h]
def j5 {a:Type} (k:Nat) (v:a) (r:List (Nat×a)):lk ((k,v)::r) k=some v:=by rw[l8,N2 rfl]
def E8 {a:Type} {k n:Nat} (v:a) (r:List (Nat×a)) (h:k≠n):lk ((k,v)::r) n=lk r n:=by rw[l8,N1 h]
theorem J7 {a:Type} (n:Nat) (r:List (Nat×a)):∀l:List (Nat×a),lk (l++r) n=(lk l n).or (lk r n)
 |[]=>rfl
 |(k,v)::l=>by
  rw[List.cons_append,l8,l8,J7 n r l];split<;>simp
theorem dR {a:Type} {n:Nat} {v:a}:∀{l:List (Nat×a)},lk l n=some v->(n,v)∈l
 |(k,u)::l,h=>by
  rw[l8] at h;split at h
  ·rename_i e;subst e;cases h;simp
  ·exact Mr _ (dR h)
def Obj.ids : Obj->List Nat
 |.box a _=>AV.au a
 |.eqv j _=>[j]
 |.bR _ _ _ _ _ x=>[x]
 |.deep _ _ _ _ b sh=>sh::b.map (·.2.2)
 |_=>[]
def eZ : Value->List Value
 |.tuple a=>a.toList
 |_=>[]
def aW (c:Ctx) (id:Nat):Obj->Nat->Prop
 |.aF,_=>False
 |.tX _ _,_=>False
 |.box _ _,b=>b=c.μ id
 |.bc _,b=>b=c.μ id
 |.row _ _ _,b=>(c.hd id).ownBlock=some b
 |.pins _ l _,b=>∃p∈l,p.1.v.ownBlock=some b
 |.nest _ _ _ _ _,b=>∃v∈eZ (c.hd id),v.ownBlock=some b
 |.bR _ _ _ _ _ _,b=>(c.hd id).ownBlock=some b
 |.deep _ _ _ _ _ sh,b=>(c.hd id).ownBlock=some b\/∃v∈eZ (c.hd sh),v.ownBlock=some b
 |.eqv _ _,_=>False
structure K5 (w:World) (hdv:Value) (sz e:Nat) (css:List (List Value)):Prop where
 bV:(hdv=.slice none 0 0/\css.length=0)\/∃g x p cap cur,hdv=.slice (some ⟨g,x,none⟩) css.length cap/\w.heap[g]?=some (.cells cur e)/\css.length<=cap/\p+cap<=maxLen/\cur.size=(p+cap)*sz/\(0<cap->x=p*sz)/\(cur.toList.drop (p*sz)).take (css.length*sz)=css.flatten
 len:∀us∈css,us.length=sz
 one:∀us∈css,∀u∈us,u.oneCell'=true
def O7 (Φ:Nat->Prop) (w:World) (hdv:Value) (sz:Nat) (ls:List (List AV)) (e:TypeId):Prop :=
 ∃css,K5 w hdv sz e css/\css.length=ls.length/\∀(i:Nat) (us:List Value) (a:List AV),css[i]?=some us->ls[i]?=some a->H5 Φ w us a
def da (Φ:Nat->Prop) (w:World) (sz:Nat) (l:List (Hd×List (List AV))) (e:TypeId):Prop :=
 (∀p∈l,O7 Φ w p.1.v sz p.2 e)/\l.Pairwise fun p q=>∀b,p.1.v.ownBlock=some b->q.1.v.ownBlock=some b->False
def q8 (z:List (Hd×List AV×List (List AV))):List (List AV):=z.map fun p=>p.2.1++[.aU p.1.v]
def Z0 (z:List (Hd×List AV×List (List AV))):List (Hd×List (List AV)):=z.map fun p=>(p.1,p.2.2)
def du (isz:Nat) (l:List (List AV×List (List AV))):List (List AV):=l.map fun p=>p.1++[.sl isz p.2]
def nd (Φ:Nat->Prop) (w:World) (hd:Value) (sz:Nat) (e:TypeId) (isz:Nat) (ie:TypeId) (l:List (List AV×List (List AV))):Prop :=
 ∃(h:Hd) (z:List (Hd×List AV×List (List AV))),hd=.tuple (h.v::z.map (·.1.v)).toArray/\z.map (·.2)=l/\O7 Φ w h.v sz (q8 z) e/\da Φ w isz (Z0 z) ie/\∀b p,h.v.ownBlock=some b->p∈z->p.1.v.ownBlock=some b->False
def gv (ls:List (List AV)) (i off:Nat) (a:AV):List (List AV):=match ls[i]? with
 |some b=>ls.set i (b.set off a)
 |none=>ls
def eW (a:List (Nat×Nat×Nat)) (i off:Nat):Prop:=∃x,(i,off,x)∈a
def bN (css:List (List Value)) (a:List (Nat×Nat×TypeId)) (b:List (Nat×Nat×Nat)) (i off:Nat) (v:Value):Prop:=∃us p,css[i]?=some us/\lk a off=some p/\us[off]?=some v/\¬eW b i off
structure dc (Φ:Nat->Prop) (hd:Nat->Value) (w:World) (cols:List (Nat×Nat×TypeId)) (hs:List (Nat×Nat×Nat)) (l:List (List AV)) (css:List (List Value)):Prop where
 len:css.length=l.length
 cell:∀(i:Nat) (us:List Value) (cs:List AV),css[i]?=some us->l[i]?=some cs->us.length=cs.length/\∀(off:Nat) (u:Value) (a:AV),us[off]?=some u->cs[off]?=some a->lk cols off=none->Rf Φ w u a
 inner:∀(i:Nat) (us:List Value) (cs:List AV) (off isz:Nat) (ie:TypeId) (u:Value),css[i]?=some us->l[i]?=some cs->lk cols off=some (isz,ie)->us[off]?=some u->¬eW hs i off->∃ls,cs[off]?=some (.sl isz ls)/\O7 Φ w u isz ls ie
 hole:∀(i off x:Nat) (us:List Value) (u:Value),(i,off,x)∈hs->css[i]?=some us->us[off]?=some u->u=hd x/\∃A n cap,u=.slice A n cap/\n<=cap/\cap<=maxLen
 apart:∀(i off:Nat) (v:Value) (i' off':Nat) (v':Value) (b:Nat),bN css cols hs i off v->bN css cols hs i' off' v'->v.ownBlock=some b->v'.ownBlock=some b->i=i'/\off=off'
def sq (Φ:Nat->Prop) (hd:Nat->Value) (w:World) (id:Nat) (sz:Nat) (e:TypeId) (a:List (Nat×Nat×TypeId)) (l:List (List AV)) (c:List (Nat×Nat×Nat)) (sh:Nat):Prop :=
 ∃css,K5 w (hd id) sz e css/\dc Φ hd w a c l css/\(∀v,v∈eZ (hd sh)↔∃i off,bN css a c i off v)/\∀i off v b,bN css a c i off v->(hd id).ownBlock=some b->v.ownBlock=some b->False
inductive dJ (Φ:Nat->Prop) (w:World):List MapEntry->List (AV×AV)->Prop
 |nil:dJ Φ w [] []
 |cons {e:MapEntry} {k v:AV} {es:List MapEntry} {l:List (AV×AV)}:Rf Φ w e.key k->Rf Φ w e.val v->dJ Φ w es l->dJ Φ w (e::es) ((k,v)::l)
theorem dJ.mono {Φ c:Nat->Prop} {w w':World} (d:∀b,Φ b->w'.heap[b]?=w.heap[b]?) (a:∀b,Φ b->c b):∀{es:List MapEntry} {l:List (AV×AV)},dJ Φ w es l->dJ c w' es l
 |_,_,.nil=>.nil
 |_,_,.cons e f t=>.cons (e.mono d a) (f.mono d a) (dJ.mono d a t)
def d90 (es:List MapEntry) (a:Nat):Prop:=(∀x∈es,x.born<a)/\(es.map (·.born)).Nodup
def LC (Φ:Nat->Prop) (w:World) (b:Nat) (l:List (AV×AV)):Prop:=∃(es:Array MapEntry) (a:Nat),w.heap[b]?=some (.map es a)/\dJ Φ w es.toList l/\l.length<=maxLen/\d90 es.toList a
def dH (c:Ctx) (w:World) (id:Nat):Obj->Prop
 |.aF=>True
 |.tX d G=>(∀b∈d,c.Φ b)/\∃f:World,G f/\∀b∈d,w.heap[b]?=f.heap[b]?
 |.box g e=>∃us,w.heap[c.μ id]?=some (.cells us.toArray e)/\w9 c w us g
 |.bc l=>LC c.Φ w (c.μ id) l
 |.deep sz e a l h sh=>sq c.Φ c.hd w id sz e a l h sh
 |.row sz ls e=>O7 c.Φ w (c.hd id) sz ls e
 |.pins sz l e=>da c.Φ w sz l e
 |.nest sz e isz ie l=>nd c.Φ w (c.hd id) sz e isz ie l
 |.bR sz ls e i off x=>∃v,Rd c w v (.aK x)/\O7 c.Φ w (c.hd id) sz (gv ls i off (.aU v)) e
 |.eqv j v=>c.hd j=v
structure Q5 (c:Ctx) (w:World) (os:Os):Prop where
 rep:∀id o,lk os id=some o->dH c w id o
 lt:∀id o b,lk os id=some o->aW c id o b->b<w.heap.size/\¬c.Φ b
 sep:∀id id' o o' b,id≠id'->lk os id=some o->lk os id'=some o'->aW c id o b->¬aW c id' o' b
 aq:∀b,c.Φ b->b<w.heap.size
theorem Q5.sub {c:Ctx} {w:World} {os need:Os} (h:Q5 c w os) (d:∀id o,lk need id=some o->lk os id=some o):Q5 c w need :=
 ⟨fun id o hl=>h.rep id o (d id o hl),fun id o b hl=>h.lt id o b (d id o hl),fun id a o f b e g i=>h.sep id a o f b e (d id o g) (d a f i),h.aq⟩
def Touch (c:Ctx) (need upd:Os) (b:Nat):Prop:=∃id o,lk need id=some o/\(lk upd id).isSome=true/\aW c id o b
structure aS (c:Ctx) (w:World) (c':Ctx) (w':World) (need upd:Os) (news:List Nat):Prop where
 cX:w'.os=w.os
 tape:w'.tape=w.tape
 output:w'.output=w.output
 size:w.heap.size<=w'.heap.size
 aq:∀b,c.Φ b->c'.Φ b
 ak:∀b,c'.Φ b->c.Φ b\/w.heap.size<=b\/Touch c need upd b
 ab:∀b,b<w.heap.size->¬Touch c need upd b->w'.heap[b]?=w.heap[b]?
 ctx:∀id,id ∉ news->c'.μ id=c.μ id/\c'.hd id=c.hd id
 aO:Q5 c' w' upd
 az:∀id o b,lk upd id=some o->aW c' id o b->w.heap.size<=b\/Touch c need upd b
theorem aS.frozen {c c':Ctx} {w w':World} {need upd:Os} {news:List Nat} (h:aS c w c' w' need upd news) (d:Q5 c w need):∀b,c.Φ b->w'.heap[b]?=w.heap[b]? :=
 fun b a=>h.ab b (d.aq b a) fun⟨id,o,e,_,f⟩=>(d.lt id o b e f).2 a
theorem Rd.post {c c':Ctx} {w w':World} {need upd:Os} {news:List Nat} (h:aS c w c' w' need upd news) (e:Q5 c w need) {v:Value} {a:AV} (f:Rd c w v a) (b:∀id∈news,id ∉ a.ids):Rd c' w' v a :=
 f.mono (h.frozen e) h.aq fun id hi=>h.ctx id fun d=>b id d hi
theorem w9.post {c c':Ctx} {w w':World} {need upd:Os} {news:List Nat} (h:aS c w c' w' need upd news) (e:Q5 c w need) {v:List Value} {a:List AV} (f:w9 c w v a) (b:∀id∈news,id ∉ AV.au a):w9 c' w' v a :=
 f.mono (h.frozen e) h.aq fun id hi=>h.ctx id fun d=>b id d hi
def rJ {c c':Ctx} {id:Nat} {o:Obj} {b:Nat} (h:c'.μ id=c.μ id/\c'.hd id=c.hd id) (hi:∀x∈o.ids,c'.μ x=c.μ x/\c'.hd x=c.hd x):aW c' id o b↔aW c id o b:=by
 cases o
 case deep sz e cols l hs sh=>simp only[aW,h.2,(hi sh (by simp[Obj.ids])).2]
 all_goals simp[aW,h.1,h.2]
theorem K5.ab {w w':World} {hdv:Value} {sz e:Nat} {css:List (List Value)} (h:K5 w hdv sz e css) (d:∀b,hdv.ownBlock=some b->w'.heap[b]?=w.heap[b]?):K5 w' hdv sz e css:=by
 refine⟨?_,h.len,h.one⟩;rcases h.bV with h|⟨g,x,p,cap,a,rfl,c,h⟩
 ·exact .inl h
 ·exact .inr ⟨g,x,p,cap,a,rfl,(d g rfl).trans c,h⟩
theorem O7.ab {Φ a:Nat->Prop} {w w':World} {hdv:Value} {sz e:Nat} {ls:List (List AV)} (h:O7 Φ w hdv sz ls e) (c:∀b,Φ b->w'.heap[b]?=w.heap[b]?) (d:∀b,Φ b->a b)
  (l:∀b,hdv.ownBlock=some b->w'.heap[b]?=w.heap[b]?):O7 a w' hdv sz ls e:=by
 obtain⟨css,g,j,k⟩:=h;exact⟨css,g.ab l,j,fun i us f m hl=>(k i us f m hl).mono c d⟩
theorem dc.ab {Φ m:Nat->Prop} {hd g:Nat->Value} {w w':World} {c:List (Nat×Nat×TypeId)} {q:List (Nat×Nat×Nat)} {l:List (List AV)} {css:List (List Value)} (h:dc Φ hd w c q l css) (j:∀b,Φ b->w'.heap[b]?=w.heap[b]?) (k:∀b,Φ b->m b)
  (z:∀i off x,(i,off,x)∈q->g x=hd x) (y:∀i off v b,bN css c q i off v->v.ownBlock=some b->w'.heap[b]?=w.heap[b]?):dc m g w' c q l css :=
 ⟨h.len,fun i us n d e=>⟨(h.cell i us n d e).1,fun off u a f o p=>((h.cell i us n d e).2 off u a f o p).mono j k⟩,
  fun i us n off isz ie u d e f o p=>let ⟨ls,r,s⟩:=h.inner i us n off isz ie u d e f o p;⟨ls,r,O7.ab s j k fun b t=>y i off u b ⟨us,_,d,f,o,p⟩ t⟩,
  fun i off x us u d e f=>by rw[z i off x d];exact h.hole i off x us u d e f,h.apart⟩
theorem da.ab {Φ a:Nat->Prop} {w w':World} {sz e:Nat} {l:List (Hd×List (List AV))} (h:da Φ w sz l e) (c:∀b,Φ b->w'.heap[b]?=w.heap[b]?) (d:∀b,Φ b->a b)
  (i:∀b,(∃p∈l,p.1.v.ownBlock=some b)->w'.heap[b]?=w.heap[b]?):da a w' sz l e :=
 ⟨fun p f=>(h.1 p f).ab c d fun b g=>i b ⟨p,f,g⟩,h.2⟩
theorem nd.ab {Φ d:Nat->Prop} {w w':World} {hd:Value} {sz e isz ie:Nat} {l:List (List AV×List (List AV))} (h:nd Φ w hd sz e isz ie l) (a:∀b,Φ b->w'.heap[b]?=w.heap[b]?) (c:∀b,Φ b->d b)
  (g:∀b,(∃v∈eZ hd,v.ownBlock=some b)->w'.heap[b]?=w.heap[b]?):nd d w' hd sz e isz ie l:=by
 obtain⟨hdv,z,rfl,i,j,k,m⟩:=h;exact⟨hdv,z,rfl,i,j.ab a c fun b f=>g b ⟨hdv.v,by simp[eZ],f⟩,k.ab a c fun b ⟨p,n,f⟩=>g b ⟨p.1.v,by
  obtain⟨q,o,rfl⟩:=MU.1 n;simpa[eZ] using .inr ⟨q.1,⟨q.2.1,q.2.2,o⟩,rfl⟩,f⟩,m⟩
theorem dH.ab {c c':Ctx} {w w':World} {id:Nat} {o:Obj} (h:dH c w id o) (p:c'.μ id=c.μ id/\c'.hd id=c.hd id) (a:∀b,c.Φ b->w'.heap[b]?=w.heap[b]?) (d:∀b,c.Φ b->c'.Φ b)
  (m:∀b,aW c id o b->w'.heap[b]?=w.heap[b]?) (hi:∀x∈o.ids,c'.μ x=c.μ x/\c'.hd x=c.hd x):dH c' w' id o:=by
 cases o with
 |aF=>trivial
 |tX B G=>obtain⟨f,A,g,q⟩:=h;exact⟨fun b k=>d b (f b k),A,g,fun b k=>(a b (f b k)).trans (q b k)⟩
 |box C e =>
  obtain⟨us,f,g⟩:=h;exact⟨us,by rw[p.1,m _ rfl,f],g.mono a d hi⟩
 |deep sz e s l D sh =>
  obtain⟨css,f,g,q,t⟩:=h;have es:c'.hd sh=c.hd sh:=(hi sh (by simp[Obj.ids])).2;refine⟨css,by rw[p.2];exact f.ab fun b k=>m b (.inl k),g.ab a d (fun i off x z=>(hi x (by simp[Obj.ids];exact .inr ⟨i,off,z⟩)).2) (fun i off v b r k=>m b (.inr ⟨v,(q v).2 ⟨i,off,r⟩,k⟩)),fun v=>by rw[es];exact q v,fun i off v b r u y=>t i off v b r (by rw[<-p.2];exact u) y⟩
 |bc l =>
  obtain⟨es,n,f,g,q⟩:=h;exact⟨es,n,by rw[p.1,m _ rfl,f],g.mono a d,q⟩
 |row sz ls e =>
  show O7 c'.Φ w' (c'.hd id) sz ls e;rw[p.2];exact O7.ab h a d m
 |pins sz l e=>exact da.ab h a d m
 |nest sz e isz ie l =>
  show nd c'.Φ w' (c'.hd id) sz e isz ie l;rw[p.2];exact nd.ab h a d m
 |bR sz ls e i off x =>
  obtain⟨v,f,g⟩:=h;refine⟨v,f.mono a d hi,?_⟩;rw[p.2];exact O7.ab g a d m
 |eqv j v=>exact((hi j (by simp[Obj.ids])).2).trans h
def kI (news:List Nat) (l:List Nat):Bool:=l.all fun i=>!(news.elem i)
def oz {news l:List Nat} (h:kI news l=true):∀id∈news,id ∉ l:=by
 intro id a hl;have:=MR.1 h id hl;simp at this;exact this a
theorem Q5.frame {c c':Ctx} {w w':World} {os need upd:Os} {news:List Nat} (h:Q5 c w os) (G:∀id o,lk need id=some o->lk os id=some o) (g:aS c w c' w' need upd news)
  (y:∀id∈news,(lk upd id).isSome=true) (f:∀id o,lk os id=some o->lk upd id=none->∀x∈news,x ∉ o.ids):Q5 c' w' (upd++os):=by
 have C:=h.sub G;have A:=g.frozen C;have j:∀id o,lk upd id=none->lk os id=some o->dH c' w' id o/\(∀b,aW c' id o b->aW c id o b/\b<w.heap.size/\¬c'.Φ b/\¬Touch c need upd b):=by
  intro id o a hl;have B:id ∉ news:=fun u=>by have:=y id u;rw[a] at this;cases this
  have F:=g.ctx id B;have s:∀b,aW c id o b->¬Touch c need upd b:=by
   rintro b e ⟨D,I,q,E,H⟩;refine h.sep D id I o b ?_ (G _ _ q) hl H e;rintro rfl;rw[a] at E;cases E
  refine⟨(h.rep id o hl).ab F A g.aq (fun b e=>g.ab b (h.lt id o b hl e).1 (s b e)) fun x d=>g.ctx x fun u=>f id o hl a x u d,fun b e=>?_⟩;have n:=(rJ F fun x d=>g.ctx x fun u=>f id o hl a x u d).1 e;have r:=h.lt id o b hl n;refine⟨n,r.1,fun z=>?_,s b n⟩;rcases g.ak b z with d|d|d
  ·exact r.2 d
  ·exact absurd r.1 (Nat.not_lt.2 d)
  ·exact s b n d
 have p:∀id o,lk (upd++os) id=some o->lk upd id=some o\/(lk upd id=none/\lk os id=some o):=by
  intro id o hl;rw[J7] at hl;cases a:lk upd id with
  |none=>rw[a] at hl;exact .inr ⟨rfl,by simpa using hl⟩
  |some x=>rw[a] at hl;exact .inl (by simpa using hl)
 refine⟨fun id o hl=>?_,fun id o b hl e=>?_,fun id i o t b v hl k e m=>?_,g.aO.aq⟩
 ·rcases p id o hl with a|⟨a,hl⟩
  ·exact g.aO.rep id o a
  ·exact(j id o a hl).1
 ·rcases p id o hl with a|⟨a,hl⟩
  ·exact g.aO.lt id o b a e
  ·have:=(j id o a hl).2 b e;exact⟨Nat.lt_of_lt_of_le this.2.1 g.size,this.2.2.1⟩
 ·rcases p id o hl with a|⟨a,hl⟩<;>rcases p i t k with l|⟨l,k⟩
  ·exact g.aO.sep id i o t b v a l e m
  ·have q:=(j i t l k).2 b m;rcases g.az id o b a e with d|d
   ·exact absurd q.2.1 (Nat.not_lt.2 d)
   ·exact q.2.2.2 d
  ·have q:=(j id o a hl).2 b e;rcases g.az i t b l m with d|d
   ·exact absurd q.2.1 (Nat.not_lt.2 d)
   ·exact q.2.2.2 d
  ·exact h.sep id i o t b v hl k ((j id o a hl).2 b e).1 ((j i t l k).2 b m).1
structure Z7 where
 c:Ctx
 w:World
 need:Os
 n:Nat
def Z7.aK (a:Z7) (b:Nat):Prop:=a.w.heap.size<=b\/∃id o,lk a.need id=some o/\aW a.c id o b
structure Inv (Γ:Z7) (c:Ctx) (w:World) (os:Os):Prop where
 cX:w.os=Γ.w.os
 tape:w.tape=Γ.w.tape
 output:w.output=Γ.w.output
 size:Γ.w.heap.size<=w.heap.size
 aq:∀b,Γ.c.Φ b->c.Φ b
 ak:∀b,c.Φ b->Γ.c.Φ b\/Γ.aK b
 ab:∀b,¬Γ.aK b->w.heap[b]?=Γ.w.heap[b]?
 az:∀id o b,lk os id=some o->aW c id o b->Γ.aK b
theorem Inv.post {m:Z7} {c c':Ctx} {w w':World} {os need upd:Os} {news:List Nat} (h:Inv m c w os) (aO:Q5 c w os) (v:∀id o,lk need id=some o->lk os id=some o) (d:aS c w c' w' need upd news)
  (k:∀id∈news,(lk upd id).isSome=true) (f:∀id o,lk os id=some o->lk upd id=none->∀x∈news,x ∉ o.ids):Inv m c' w' (upd++os):=by
 have i:∀b,Touch c need upd b->m.aK b:=fun b ⟨id,o,t,_,u⟩=>h.az id o b (v _ _ t) u;have g:∀b,w.heap.size<=b->m.aK b:=fun b e=>.inl (Nat.le_trans h.size e);refine⟨d.cX.trans h.cX,d.tape.trans h.tape,d.output.trans h.output,Nat.le_trans h.size d.size,fun b e=>d.aq b (h.aq b e),fun b e=>?_,fun b e=>?_,fun id o b hl s=>?_⟩
 ·rcases d.ak b e with a|a|a
  ·exact h.ak b a
  ·exact .inr (g b a)
  ·exact .inr (i b a)
 ·rcases Nat.lt_or_ge b w.heap.size with q|n
  ·exact(d.ab b q fun y=>e (i b y)).trans (h.ab b e)
  ·exact absurd (g b n) e
 ·rw[J7] at hl;cases l:lk upd id with
  |none =>
   rw[l] at hl;have p:id ∉ news:=fun r=>by have:=k id r;rw[l] at this;cases this
   have j:lk os id=some o:=(by simpa using hl);exact h.az id o b j ((rJ (d.ctx id p) fun x a=>d.ctx x fun r=>f id o j l x r a).1 s)
  |some x =>
   rw[l] at hl;simp at hl;subst hl;rcases d.az id x b l s with a|a
   ·exact g b a
   ·exact i b a
def gL (c:Ctx) (w:World) (ts:Ts) (a:Act):Prop:=∀t av,lk ts t=some av->∃v,a.tmps[t]?=some v/\Rd c w v av
structure Hq (Γ:Z7) (ts:Ts) (os:Os) (c:Ctx) (a:Act) (w:World):Prop where
 defers:a.defers=[]
 n:a.tmps.size=Γ.n
 ts:gL c w ts a
 aO:Q5 c w os
 inv:Inv Γ c w os
structure TI where
 kind:Nat
 size:Nat
 bytes:Nat
 zero:List AV
 fields:List (Nat×Nat×Bool)
 elem:Nat
 len:Nat
 ik:IntKind
abbrev R9 := List (Nat×TI)
def TI.agg (ti:TI):Bool:=match ti.kind with|1=>true|3=>true|_=>false
def dA : TypeDesc->Bool|.struct _=>true|.array _ _=>true|_=>false
def ed : List Value->List AV->Bool
 |[],[]=>true
 |.int k n::vs,.int m::a_=>decide (k=.i64) && decide (n=0) && decide (m=0) && ed vs a_
 |.int k n::vs,.ik k' m::a_=>decide (k=k') && decide (n=m) && ed vs a_
 |.bool b::vs,.bool b'::a_=>decide (b=b') && ed vs a_
 |.string s::vs,.str s'::a_=>decide (s.size=0) && decide (s'.size=0) && ed vs a_
 |.slice none 0 0::vs,.aJ::a_=>ed vs a_
 |.pointer none::vs,.aa::a_=>ed vs a_
 |.nilFunc::vs,.aP::a_=>ed vs a_
 |.map none::vs,.any::a_=>ed vs a_
 |.nilIface::vs,.dj true::a_=>ed vs a_
 |_,_=>false
def Bs {s:ByteArray} (h:s.size=0):s=BY:=by
 obtain⟨⟨l⟩⟩:=s;have:l=[]:=Mk h;subst this;rfl
def lQ (Φ:Nat->Prop) (w:World):∀(vs:List Value) (a_:List AV),ed vs a_=true->H5 Φ w vs a_/\∀u∈vs,u.oneCell'=true:=by
 intro vs a_
 fun_induction ed vs a_ with
 |case1=>exact fun _=>⟨.nil,l9⟩
 |case2 k n vs m a_ ih =>
  intro h;simp only[IT,NA] at h;obtain⟨⟨⟨rfl,rfl⟩,rfl⟩,h⟩:=h;exact⟨.cons (.int (by simp[I5])) (ih h).1,by simpa[Value.oneCell'] using(ih h).2⟩
 |case3 k n vs g m a_ ih =>
  intro h;simp only[IT,NA] at h;obtain⟨⟨rfl,rfl⟩,h⟩:=h;exact⟨.cons (.ik _ _) (ih h).1,by simpa[Value.oneCell'] using(ih h).2⟩
 |case4 b vs f a_ ih =>
  intro h;simp only[IT,NA] at h;obtain⟨rfl,h⟩:=h;exact⟨.cons (.bool _) (ih h).1,by simpa[Value.oneCell'] using(ih h).2⟩
 |case5 s vs d a_ ih =>
  intro h;simp only[IT,NA] at h;obtain⟨⟨a,c⟩,h⟩:=h;have e:s=d:=(Bs a).trans (Bs c).symm;subst e;exact⟨.cons (.str d9) (ih h).1,by simpa[Value.oneCell'] using(ih h).2⟩
 |case6 vs a_ ih=>exact fun h=>⟨.cons .aJ (ih h).1,by simpa[Value.oneCell'] using(ih h).2⟩
 |case7 vs a_ ih=>exact fun h=>⟨.cons .aa (ih h).1,by simpa[Value.oneCell'] using(ih h).2⟩
 |case8 vs a_ ih=>exact fun h=>⟨.cons .aP (ih h).1,by simpa[Value.oneCell'] using(ih h).2⟩
 |case9 vs a_ ih=>exact fun h=>⟨.cons (.any _) (ih h).1,by simpa[Value.oneCell'] using(ih h).2⟩
 |case10 vs a_ ih=>exact fun h=>⟨.cons .eO (ih h).1,by simpa[Value.oneCell'] using(ih h).2⟩
 |case11=>intro h;cases h
def iq (P:Program):List Field->List (Nat×Nat×Bool)->Bool
 |[],[]=>true
 |f::fs,(o,s,a)::l=>decide (f.offset=o) && decide ((P.info? f.type).map (·.size)=some s) && decide ((P.underlying f.type).map dA=some a) && iq P fs l
 |_,_=>false
def gP (P:Program) (ti:TI):TypeDesc->Bool
 |.struct fs=>decide (ti.kind=1) && iq P fs.toList ti.fields
 |.slice e=>decide (ti.kind=2) && decide (e=ti.elem)
 |.array n e=>decide (ti.kind=3) && decide (n=ti.len) && decide (e=ti.elem)
 |.string=>decide (ti.kind=4)
 |.int k=>decide (ti.kind=5) && decide (k=ti.ik)
 |.bool=>decide (ti.kind=6)
 |.pointer _=>decide (ti.kind=7)
 |.interface _=>decide (ti.kind=9)
 |.map k e=>decide (ti.kind=8) && decide (e=ti.elem) && decide (k=ti.len)
 |_=>decide (ti.kind=0)
def uz : Value->Bool|.agg _=>true|_=>false
def d40 (P:Program) (t:TypeId) (ti:TI):Bool :=
 match P.info? t,P.underlying t with
 |some i,some d=>decide (i.size=ti.size) && decide (i.bytes=ti.bytes) && decide (ti.zero.length=ti.size) && gP P ti d &&
   match i.zero with
   |some z=>ed z.cells.toList ti.zero && decide (uz z=ti.agg)
   |none=>false
 |_,_=>false
structure X4 (P:Program) (t:TypeId) (ti:TI):Prop where
 info:∃i z,P.info? t=some i/\i.size=ti.size/\i.bytes=ti.bytes/\i.zero=some z/\ed z.cells.toList ti.zero=true/\uz z=ti.agg
 fq:∃d,P.underlying t=some d/\gP P ti d=true
 zl:ti.zero.length=ti.size
theorem X4.of {P:Program} {t:TypeId} {ti:TI} (h:d40 P t ti=true):X4 P t ti:=by
 unfold d40 at h;split at h
 ·rename_i i d hi hd;cases a:i.zero with
  |none=>rw[a] at h;simp at h
  |some z =>
   rw[a] at h;simp only[IT,NA] at h;obtain⟨⟨⟨⟨b,c⟩,e⟩,f⟩,g,j⟩:=h;exact⟨⟨i,z,hi,b,c,a,g,j⟩,⟨d,hd,f⟩,e⟩
 ·cases h
def M9 (P:Program) (tab:R9):Prop:=∀t ti,lk tab t=some ti->X4 P t ti
def Ky (P:Program) (tab:R9):Bool:=tab.all fun p=>d40 P p.1 p.2
theorem M9.of {P:Program} {tab:R9} (h:Ky P tab=true):M9 P tab:=fun t ti hl=>X4.of (MR.1 h (t,ti) (dR hl))
section
variable {P:Program} {t:TypeId} {ti:TI} (w:World)
def d12 {d:TypeDesc} (h:gP P ti d=true):dA d=ti.agg:=by
 cases d<;>simp only[gP,IT,NA] at h<;>simp[dA,TI.agg,h]
theorem X4.gY (h:X4 P t ti):(isAgg t).run P w=.ok ti.agg w:=by
 obtain⟨d,hd,a⟩:=h.fq;rw[<-d12 a];cases d<;>simp[isAgg,run_underlying hd,dA]
theorem X4.ax (h:X4 P t ti):(sizeOf t).run P w=.ok ti.size w:=by
 obtain⟨i,z,hi,a,_⟩:=h.info;simp[sizeOf,typeInfo,hi,a]
theorem X4.bm (h:X4 P t ti):∃z,(zeroValue t).run P w=.ok z w/\ed z.cells.toList ti.zero=true/\uz z=ti.agg:=by
 obtain⟨i,z,hi,_,_,c,a,b⟩:=h.info;exact⟨z,by simp[zeroValue,typeInfo,hi,c],a,b⟩
theorem X4.dF (h:X4 P t ti) (b:ti.kind=1):∃fs,P.underlying t=some (.struct fs)/\iq P fs.toList ti.fields=true:=by
 obtain⟨d,hd,a⟩:=h.fq;cases d<;>simp only[gP,IT,NA,b] at a<;>first|omega|exact⟨_,hd,a.2⟩
theorem X4.af (h:X4 P t ti) (b:ti.kind=2):P.underlying t=some (.slice ti.elem):=by
 obtain⟨d,hd,a⟩:=h.fq;cases d<;>simp only[gP,IT,NA,b] at a<;>first|omega|(rw[hd,a.2])
theorem X4.cm (h:X4 P t ti) (b:ti.kind=7):∃e,P.underlying t=some (.pointer e):=by
 obtain⟨d,hd,a⟩:=h.fq;cases d<;>simp only[gP,IT,NA,b] at a<;>first|omega|exact⟨_,hd⟩
theorem X4.oO (h:X4 P t ti) (b:ti.kind=8):P.underlying t=some (.map ti.len ti.elem):=by
 obtain⟨d,hd,a⟩:=h.fq;cases d<;>simp only[gP,IT,NA,b] at a<;>first|omega|(rw[hd,a.1.2,a.2])
theorem X4.oL (h:X4 P t ti) (b:ti.kind=9):P.isIface t=true:=by
 obtain⟨d,hd,a⟩:=h.fq;cases d<;>simp only[gP,IT,NA,b] at a<;>first|omega|(unfold Program.isIface;rw[hd])
theorem X4.bL (h:X4 P t ti) (b:ti.kind=6):P.underlying t=some .bool:=by
 obtain⟨d,hd,a⟩:=h.fq;cases d<;>simp only[gP,IT,NA,b] at a<;>first|omega|exact hd
theorem X4.iw (h:X4 P t ti) (b:ti.kind=3):P.underlying t=some (.array ti.len ti.elem):=by
 obtain⟨d,hd,a⟩:=h.fq;cases d<;>simp only[gP,IT,NA,b] at a<;>first|omega|(rw[hd,a.1.2,a.2])
theorem X4.bZ (h:X4 P t ti) (b:ti.kind=4):P.underlying t=some .string:=by
 obtain⟨d,hd,a⟩:=h.fq;cases d<;>simp only[gP,IT,NA,b] at a<;>first|omega|(rw[hd])
theorem X4.ah (h:X4 P t ti) (b:ti.kind=5):P.underlying t=some (.int ti.ik):=by
 obtain⟨d,hd,a⟩:=h.fq;cases d<;>simp only[gP,IT,NA,b] at a<;>first|omega|(rw[hd,a.2])
theorem uh : ∀(fs:List Field) (l:List (Nat×Nat×Bool)),iq P fs l=true->∀(i o s:Nat) (a:Bool),l[i]?=some (o,s,a) ->
  ∃f,fs[i]?=some f/\f.offset=o/\(∃x,P.info? f.type=some x/\x.size=s)/\∃d,P.underlying f.type=some d/\dA d=a
 |[],[],_,i,o,s,a,h=>by simp at h
 |f::fs,(o',s',a')::l,h,0,o,s,a,hi=>by
  simp only[iq,IT,NA] at h;simp at hi;obtain⟨rfl,rfl,rfl⟩:=hi;obtain⟨⟨⟨e,b⟩,c⟩,_⟩:=h;simp only[MM] at b c;exact⟨f,rfl,e,b,c⟩
 |f::fs,(o',s',a')::l,h,i+1,o,s,a,hi=>by
  simp only[iq,IT,NA] at h;simpa using uh fs l h.2 i o s a (by simpa using hi)
end
inductive CK : Type where
 |int (k:IntKind)
 |str
 |bool
 deriving DecidableEq,Inhabited
def qE (P:Program) (fl:TypeId->Option (List CK)):List Field->Nat->Option (List CK)
 |[],_=>some []
 |f::fs,o =>
  if f.name = "_" \/ f.offset ≠ o then none else
  match fl f.type with
  |none=>none
  |some a=>if(P.info? f.type).map (·.size)=some a.length then
    match qE P fl fs (o+a.length) with
    |none=>none
    |some r=>some (a++r)
   else none
def flatK (P:Program):Nat->TypeId->Option (List CK)
 |0,_=>none
 |n+1,t =>
  match P.underlying t with
  |some (.int k)=>some [.int k]
  |some .string=>some [.str]
  |some .bool=>some [.bool]
  |some (.struct fs)=>if P.stoodInHeld t=true then none else qE P (flatK P n) fs.toList 0
  |_=>none
inductive dV : List CK->List Value->Prop
 |nil:dV [] []
 |int (k:IntKind) (n:Int) {ks:List CK} {vs:List Value}:dV ks vs->dV (.int k::ks) (.int k n::vs)
 |str (s:ByteArray) {ks:List CK} {vs:List Value}:dV ks vs->dV (.str::ks) (.string s::vs)
 |bool (b:Bool) {ks:List CK} {vs:List Value}:dV ks vs->dV (.bool::ks) (.bool b::vs)
theorem dV.length {a:List CK} {vs:List Value} (h:dV a vs):vs.length=a.length:=by
 induction h<;>simp_all
theorem dV.split {a c:List CK}:∀{vs:List Value},dV (a++c) vs->dV a (vs.take a.length)/\dV c (vs.drop a.length):=by
 induction a with
 |nil=>intro vs h;exact⟨.nil,h⟩
 |cons k a ih =>
  intro vs h;cases h with
  |int k n h=>exact⟨.int k n (ih h).1,(ih h).2⟩
  |str s h=>exact⟨.str s (ih h).1,(ih h).2⟩
  |bool b h=>exact⟨.bool b (ih h).1,(ih h).2⟩
def tw : Value->Value->Bool
 |.int _ a,.int _ b=>decide (a=b)
 |.string a,.string b=>decide (a=b)
 |.bool a,.bool b=>decide (a=b)
 |_,_=>true
def fE : List Value->List Value->Bool
 |u::us,v::vs=>tw u v && fE us vs
 |_,_=>true
theorem AO : ∀(n:Nat) (us vs:List Value),n<=us.length->us.length=vs.length->fE us vs=(fE (us.take n) (vs.take n) && fE (us.drop n) (vs.drop n))
 |0,us,vs,_,_=>by simp[fE]
 |n+1,[],vs,h,_=>by simp at h
 |n+1,u::us,[],_,h=>by simp at h
 |n+1,u::us,v::vs,h,h2=>by
  have:=AO n us vs (by simpa using h) (by simpa using h2);simp[fE,this,Bool.and_assoc]
def sE (a b:ByteArray):(a.toList == b.toList)=decide (a=b):=by
 rw[<-beq_toListBytes];by_cases h:a=b
 ·subst h;rw[beq_toListBytes];simp
 ·rw[N5 h];have:(a == b)≠true:=by
   intro d;apply h;have c:a.data=b.data:=by
    obtain⟨⟨x⟩⟩:=a;obtain⟨⟨y⟩⟩:=b;have:((⟨x⟩:Array UInt8) == ⟨y⟩)=true:=d;simpa using this
   obtain⟨x⟩:=a;obtain⟨y⟩:=b;simp at c;rw[c]
  simpa using this
def hV : Bool->List Value->Value
 |true,us=>.agg us.toArray
 |false,us=>us.headD undef
section
variable {P:Program} (w:World)
def xg {t:TypeId} {d:TypeDesc} {s:Nat} (hd:P.underlying t=some d) (e:(P.info? t).map (·.size)=some s) (us:List Value) (o:Nat) (h:dA d=true\/o<us.length) (f:dA d=true\/s=1) :
  (part t us.toArray o).run P w=.ok (hV (dA d) ((us.drop o).take s)) w:=by
 simp only[MM] at e;obtain⟨i,hi,rfl⟩:=e;have c:(isAgg t).run P w=.ok (dA d) w:=by cases d<;>simp[isAgg,run_underlying hd,dA]
 cases a:dA d with
 |true =>
  simp only[part,Sem.run_bind,c,a,Result.andThen_ok,if_true];simp only[sizeOf,typeInfo,Sem.run_bind,run_program,Result.andThen_ok,hi,Sem.run_pure];congr 2;simp[List.take_drop]
 |false =>
  have g:o<us.length:=by simpa[a] using h
  have b:i.size=1:=by simpa[a] using f
  simp only[part,Sem.run_bind,c,a,Result.andThen_ok,Ml,if_false];simp[g,hV,b,List.take_one,List.head?_drop]
def d91 : ∀(n:Nat) (t:TypeId) (a:List CK),flatK P n t=some a->∃d,P.underlying t=some d/\(dA d=true\/a.length=1):=by
 intro n t a h;cases n with
 |zero=>simp[flatK] at h
 |succ n =>
  unfold flatK at h;split at h<;>first|(rename_i e;refine⟨_,e,?_⟩;simp at h;first|(subst h;simp)|(simp[dA]))|(rename_i e;exact⟨_,e,.inl rfl⟩)|cases h
def GU : ∀(n:Nat) (t:TypeId) (u:List CK) (d:TypeDesc) (m:Nat),flatK P n t=some u->P.underlying t=some d->n<=m->∀us vs:List Value,dV u us->dV u vs ->
  (Op.equalIn m t (hV (dA d) us) (hV (dA d) vs)).run P w=.ok (fE us vs) w:=by
 intro n
 induction n with
 |zero=>intro t u d m h;simp[flatK] at h
 |succ n ih =>
  intro t u d m h hd W us vs j p;obtain⟨m,rfl⟩:∃k,m=k+1:=⟨m-1,d9⟩;unfold flatK at h;rw[hd] at h;cases d with
  |int k =>
   simp at h;subst h;cases j with|int k a j=>cases j;cases p with|int k b p =>
    cases p;simp[hV,dA,run_equalIn_int w m t k k a b hd,fE,tw];exact Bool.beq_eq_decide_eq a b
  |string =>
   simp at h;subst h;cases j with|str a j=>cases j;cases p with|str b p =>
    cases p;simp[hV,dA,run_equalIn_string w m t a b hd,fE,tw,sE]
  |bool =>
   simp at h;subst h;cases j with|bool a j=>cases j;cases p with|bool b p =>
    cases p;simp[hV,dA,run_equalIn_bool' w m t a b hd,fE,tw];exact Bool.beq_eq_decide_eq a b
  |struct fs =>
   simp only at h;split at h
   ·cases h
   ·rename_i F;have K:P.fieldsOf t=fs:=by simp[Program.fieldsOf,hd]
    simp only[hV,dA];rw[run_equalIn_struct w m t _ _ (by rw[K];exact hd) (by simpa using F),K];have key:∀(l:List Field) (o:Nat) (i:List CK),qE P (flatK P n) l o=some i->o+i.length=us.length->dV i (us.drop o)->dV i (vs.drop o)->us.length=vs.length ->
      (Op.eqFields m us.toArray vs.toArray l).run P w=.ok (fE (us.drop o) (vs.drop o)) w:=by
     intro l
     induction l with
     |nil =>
      intro o i h M A B hl;simp[qE] at h;subst h;have e1:us.drop o=[]:=Mk (by simpa using A.length);have Q:vs.drop o=[]:=Mk (by simpa using B.length);simp[Op.eqFields,e1,Q,fE]
     |cons f l G =>
      intro o i h M A B hl;unfold qE at h;split at h
      ·cases h
      ·rename_i L;have C : f.name ≠ "_" := fun e => L (.inl e);have D:f.offset=o:=Classical.byContradiction fun e=>L (.inr e);cases q:flatK P n f.type with
       |none=>rw[q] at h;simp at h
       |some c =>
        rw[q] at h;simp only at h;split at h
        ·rename_i x;cases E:qE P (flatK P n) l (o+c.length) with
         |none=>rw[E] at h;simp at h
         |some H =>
          rw[E] at h;simp at h;subst h;obtain⟨z,r,g⟩:=d91 n f.type c q;obtain⟨N,I⟩:=A.split;obtain⟨O,J⟩:=B.split;rw[List.drop_drop] at I J;simp only[MK] at M;have v:dA z=true\/o<us.length:=g.imp id fun e=>d9;have s:dA z=true\/o<vs.length:=g.imp id fun e=>d9;have U:=xg (P:=P) w r x us o v g;have py:=xg (P:=P) w r x vs o s g;have T:=ih f.type c z m q r d9 _ _ N O;have y:=G (o+c.length) H E d9 I J hl;simp only[Op.eqFields,N2 C,Sem.run_bind,D,U,py,T,Result.andThen_ok];rw[AO c.length (us.drop o) (vs.drop o) L6 L6,List.drop_drop,List.drop_drop];cases V:fE ((us.drop o).take c.length) ((vs.drop o).take c.length)
          ·simp
          ·simpa using y
        ·cases h
    have R:=j.length;have S:=p.length;simpa using key fs.toList 0 u h d9 (by simpa using j) (by simpa using p) d9
  |_=>simp at h
end
abbrev eK := List (Nat×List CK)
def E1 (P:Program) (t:TypeId) (a:List CK):Bool:=decide (flatK P 8 t=some a) && !P.eqGuardType P.depth t && ((P.underlying t).map dA == some true)
structure yw (P:Program) (t:TypeId) (ks:List CK):Prop where
 flat:flatK P 8 t=some ks
 guard:P.eqGuardType P.depth t=false
 agg:∃d,P.underlying t=some d/\dA d=true
def fw (P:Program) (b:eK):Prop:=∀t a,lk b t=some a->yw P t a
theorem fw.of {P:Program} {a:eK} (h:(a.all fun p=>E1 P p.1 p.2)=true):fw P a:=fun t b hl=>by
 have:=MR.1 h (t,b) (dR hl);simp only[E1,IT,NA,Bool.not_eq_true',beq_iff_eq,MM] at this;exact⟨this.1.1,this.1.2,this.2⟩
theorem yw.run {P:Program} {t:TypeId} {a:List CK} (h:yw P t a) (w:World) {us vs:List Value} (c:dV a us) (e:dV a vs):(Op.equalIn 10000 t (.agg us.toArray) (.agg vs.toArray)).run P w=.ok (fE us vs) w:=by
 obtain⟨d,hd,b⟩:=h.agg;have:=GU (P:=P) w 8 t a d 10000 h.flat hd d9 us vs c e;simpa[b,hV] using this
def ka : CK->AV->Bool
 |.int k,.int _=>decide (k=.i64)
 |.int k,.ik a _=>decide (k=a)
 |.str,.str _=>true
 |.bool,.bool _=>true
 |_,_=>false
def jg : List CK->List AV->Bool
 |[],[]=>true
 |k::ks,a::a_=>ka k a && jg ks a_
 |_,_=>false
def qc : AV->AV->Bool
 |.int a,.int b=>decide (a=b)
 |.ik _ a,.ik _ b=>decide (a=b)
 |.int a,.ik _ b=>decide (a=b)
 |.ik _ a,.int b=>decide (a=b)
 |.str a,.str b=>decide (a=b)
 |.bool a,.bool b=>decide (a=b)
 |_,_=>true
def cz : List AV->List AV->Bool
 |a::xs,b::ys=>qc a b && cz xs ys
 |_,_=>true
def Iw {c:Ctx} {w:World} {k:CK} {a b:AV} {u v:Value} (d:ka k a=true) (g:ka k b=true) (e:Rd c w u a) (f:Rd c w v b) :
  tw u v=qc a b/\∀{i:List CK} {us:List Value},dV i us->dV (k::i) (u::us):=by
 cases k with
 |int k =>
  cases a<;>simp only[ka,NA,Ml] at d<;>cases b<;>simp only[ka,NA,Ml] at g
  ·obtain⟨rfl,_⟩:=e.ah;obtain⟨rfl,_⟩:=f.ah;subst d;exact⟨rfl,fun h=>.int _ _ h⟩
  ·obtain⟨rfl,_⟩:=e.ah;obtain rfl:=f.kf;subst d;exact⟨rfl,fun h=>.int _ _ h⟩
  ·obtain rfl:=e.kf;obtain⟨rfl,_⟩:=f.ah;subst d;exact⟨rfl,fun h=>.int _ _ h⟩
  ·obtain rfl:=e.kf;obtain rfl:=f.kf;subst d;exact⟨rfl,fun h=>.int _ _ h⟩
 |str =>
  cases a<;>simp only[ka,Ml] at d<;>cases b<;>simp only[ka,Ml] at g;obtain⟨rfl,_⟩:=e.bY;obtain⟨rfl,_⟩:=f.bY;exact⟨rfl,fun h=>.str _ h⟩
 |bool =>
  cases a<;>simp only[ka,Ml] at d<;>cases b<;>simp only[ka,Ml] at g;obtain rfl:=e.bL;obtain rfl:=f.bL;exact⟨rfl,fun h=>.bool _ h⟩
theorem yA {c:Ctx} {w:World}:∀{e:List CK} {a_ d:List AV} {us vs:List Value},jg e a_=true->jg e d=true->w9 c w us a_->w9 c w vs d->dV e us/\fE us vs=cz a_ d
 |[],[],[],_,_,_,_,.nil,.nil=>⟨.nil,rfl⟩
 |[],[],_::_,_,_,_,h,_,_=>by simp[jg] at h
 |[],_::_,_,_,_,h,_,_,_=>by simp[jg] at h
 |_::_,[],_,_,_,h,_,_,_=>by simp[jg] at h
 |_::_,_::_,[],_,_,_,h,_,_=>by simp[jg] at h
 |k::e,a::a_,b::d,_,_,ha,hb,.cons h1 h2,.cons k1 k2=>by
  simp only[jg,IT] at ha hb;have r:=yA ha.2 hb.2 h2 k2;have f:=Iw ha.1 hb.1 h1 k1;exact⟨f.2 r.1,by simp[fE,cz,f.1,r.2]⟩
def fv (b o j:Nat):(⟨b,o,none⟩:Addr).add j=⟨b,o+j,none⟩:=by
 unfold Addr.add;by_cases h:j=0<;>simp[h]
def bB {b:Type}:Nat->Nat->List b->Option (List b)
 |0,0,_=>some []
 |0,n+1,a::l=>match bB 0 n l with
  |some r=>some (a::r)
  |none=>none
 |o+1,n,_::l=>bB o n l
 |_,_,[]=>none
def sC {c:Type}:∀{o n:Nat} {l r:List c},bB o n l=some r->r=(l.drop o).take n/\o+n<=l.length:=by
 intro o n l
 fun_induction bB o n l with
 |case1 l=>intro r h;cases h;simp
 |case2 n a l d b ih =>
  intro r h;cases h;have:=ih b;exact⟨by rw[this.1];simp,L6⟩
 |case3 n a l b ih=>intro r h;cases h
 |case4 o n a l ih =>
  intro r h;have:=ih h;exact⟨by simp[this.1],L6⟩
 |case5=>intro r h;cases h
def DU {b:Type} {o n:Nat} {l r:List b} (h:bB o n l=some r) {j:Nat} (a:j<n):r[j]?=l[o+j]?:=by
 rw[(sC h).1,Mu,N2 a,Mm]
def X9 {b:Type}:Nat->List b->List b->Option (List b)
 |0,[],a=>some a
 |0,v::vs,_::a=>match X9 0 vs a with
  |some r=>some (v::r)
  |none=>none
 |o+1,vs,c::a=>match X9 o vs a with
  |some r=>some (c::r)
  |none=>none
 |_,_,[]=>none
def xl {c:Ctx} {w:World}:∀{o:Nat} {a_ b d:List AV},X9 o a_ b=some d->∀{vs us:List Value},w9 c w vs a_->w9 c w us b->∃r,X9 o vs us=some r/\w9 c w r d:=by
 intro o a_ b
 fun_induction X9 o a_ b with
 |case1 b=>intro d h vs us g i;cases h;cases g;exact⟨us,by simp[X9],i⟩
 |case2 a a_ x b r j ih =>
  intro d h vs us g i;cases h;cases g with|cons m n=>cases i with|cons l k =>
   obtain⟨p,e,f⟩:=ih j n k;exact⟨_,by simp[X9,e],.cons m f⟩
 |case3 a a_ x b j ih=>intro d h;cases h
 |case4 o a_ x b r j ih =>
  intro d h vs us g i;cases h;cases i with|cons l k =>
   obtain⟨p,e,f⟩:=ih j g k;exact⟨_,by simp[X9,e],.cons l f⟩
 |case5 o a_ x b j ih=>intro d h;cases h
 |case6=>intro d h;cases h
theorem iu {b:Type}:∀(p:Nat) (vs l:List b),p+vs.length<=l.length->∃r,X9 p vs l=some r
 |0,[],l,_=>⟨l,by simp[X9]⟩
 |0,v::vs,[],h=>by simp at h
 |0,v::vs,x::l,h=>by
  obtain⟨r,a⟩:=iu 0 vs l (by simp at h⊢;omega);exact⟨v::r,by simp[X9,a]⟩
 |p+1,vs,[],h=>by simp at h
 |p+1,vs,x::l,h=>by
  obtain⟨r,a⟩:=iu p vs l (by simp at h⊢;omega);exact⟨x::r,by simp[X9,a]⟩
def fS {e:Type}:∀{o:Nat} {a_ c b:List e},X9 o a_ c=some b->b.length=c.length/\o+a_.length<=c.length:=by
 intro o a_ c
 fun_induction X9 o a_ c with
 |case1=>intro b h;cases h;simp
 |case2 a a_ x c r d ih=>intro b h;cases h;have:=ih d;simp;omega
 |case3=>intro b h;cases h
 |case4 o a_ x c r d ih=>intro b h;cases h;have:=ih d;simp;omega
 |case5=>intro b h;cases h
 |case6=>intro b h;cases h
def vO {f:Type}:∀{o:Nat} {a_ c b:List f},X9 o a_ c=some b->∀x∈b,x∈a_\/x∈c:=by
 intro o a_ c
 fun_induction X9 o a_ c with
 |case1=>intro b h;cases h;simp
 |case2 a a_ x c r d ih=>intro b h;cases h;have:=ih d;simp;intro y e;rcases this y e with h|h<;>simp[h]
 |case3=>intro b h;cases h
 |case4 o a_ x c r d ih=>intro b h;cases h;have:=ih d;simp;intro y e;rcases this y e with h|h<;>simp[h]
 |case5=>intro b h;cases h
 |case6=>intro b h;cases h
def Y2 {f:Type}:∀{o:Nat} {a_ c b:List f},X9 o a_ c=some b->∀j,b[j]?=if o<=j/\j<o+a_.length then a_[j-o]? else c[j]?:=by
 intro o a_ c
 fun_induction X9 o a_ c with
 |case1=>intro b h j;cases h;rw[N1 l9]
 |case2 a a_ x c r d ih =>
  intro b h j;cases h;cases j with
  |zero=>simp
  |succ j =>
   have:=ih d j;simp only[Nat.zero_le,true_and,Mw,ML,Mi,Nat.add_lt_add_iff_right,Nat.sub_zero] at this⊢;exact this
 |case3=>intro b h;cases h
 |case4 o a_ x c r d ih =>
  intro b h j;cases h;cases j with
  |zero=>simp
  |succ j =>
   have:=ih d j;simp only[Mw];rw[this];by_cases e:o<=j/\j<o+a_.length
   ·rw[N2 e,N2 d9];congr 1;omega
   ·rw[N1 e,N1 d9]
 |case5=>intro b h;cases h
 |case6=>intro b h;cases h
section
variable {P:Program} (w:World)
theorem run_loadCellsFrom (b o:Nat):∀(us:List Value) (i:Nat) (a:Array Value),(∀j u,us[j]?=some u->w.cell? ⟨b,o+(i+j),none⟩=some u)->(loadCellsFrom ⟨b,o,none⟩ i us.length a).run P w=.ok (a++us.toArray) w
 |[],i,a,_=>by simp[loadCellsFrom]
 |u::us,i,a,h=>by
  have c:=h 0 u rfl;have ih:=run_loadCellsFrom b o us (i+1) (a.push u) fun j v d=>by
   have:=h (j+1) v (by simpa using d)
   rwa [show i+(j+1)=i+1+j by omega] at this
  simp only[Nat.add_zero] at c;simp only[ML,loadCellsFrom,Sem.run_bind,run_load,fv,c,Result.andThen_ok,ih];simp
def run_loadCells (b o:Nat) (us:List Value) (h:∀j u,us[j]?=some u->w.cell? ⟨b,o+j,none⟩=some u):(loadCells ⟨b,o,none⟩ us.length).run P w=.ok us.toArray w:=by
 unfold loadCells;rw[run_loadCellsFrom w b o us 0 #[] (by simpa using h)];simp
theorem X4.run_load {t:TypeId} {ti:TI} (a:X4 P t ti) (b o:Nat) (us:List Value) (hl:us.length=ti.size) (f:ti.agg=true\/us.length=1) (h:∀j u,us[j]?=some u->w.cell? ⟨b,o+j,none⟩=some u) :
  (Instr.loadAt t (.pointer (some ⟨b,o,none⟩))).run P w=.ok (hV ti.agg us) w:=by
 cases c:ti.agg with
 |true =>
  have e:=run_loadCells (P:=P) w b o us h;rw[hl] at e;simp[Instr.loadAt,Instr.sureAddr,loadVar,a.gY,c,a.ax,e,hV]
 |false =>
  obtain⟨u,rfl⟩:=List.length_eq_one_iff.1 (by simpa[c] using f);have d:=h 0 u rfl;simp only[Nat.add_zero] at d;simp[Instr.loadAt,Instr.sureAddr,loadVar,a.gY,c,d,hV]
end
def heap_setCell (w:World) (b o:Nat) (v:Value) (us:Array Value) (e:TypeId) (h:w.heap[b]?=some (.cells us e)) :
  (w.setCell ⟨b,o,none⟩ v).heap[b]?=some (.cells (us.setIfInBounds o v) e)/\(∀k,k≠b->(w.setCell ⟨b,o,none⟩ v).heap[k]?=w.heap[k]?)/\(w.setCell ⟨b,o,none⟩ v).heap.size=w.heap.size:=by
 unfold World.setCell;refine⟨?_,fun k a=>?_,l9⟩
 ·simp only[Array.getElem?_modify,h];simp
 ·simp only[Array.getElem?_modify];rw[N1 (fun e=>a e.symm)]
theorem ub {P:Program} (b o:Nat) (e:TypeId):∀(vs:List Value) (i:Nat) (us a:List Value) (w:World),w.heap[b]?=some (.cells us.toArray e)->(∀v∈vs,v.oneCell'=true)->X9 (o+i) vs us=some a ->
  ∃w',(storeCells ⟨b,o,none⟩ vs i).run P w=.ok () w'/\w'.heap[b]?=some (.cells a.toArray e)/\(∀k,k≠b->w'.heap[k]?=w.heap[k]?)/\w'.heap.size=w.heap.size/\w'.os=w.os/\w'.tape=w.tape/\w'.output=w.output
 |[],i,us,a,w,h,_,d=>by
  have e1:us=a:=by
   apply Mn;intro j;rw[Y2 d j,N1 (by simp only[Ms];omega)]
  subst e1;exact⟨w,rfl,h,fun _ _=>rfl,rfl,rfl,rfl,rfl⟩
 |v::vs,i,us,a,w,h,h1,d=>by
  obtain⟨p,g⟩:=fS d;simp only[ML] at g;have f:∃u,w.cell? ⟨b,o+i,none⟩=some u:=by
   unfold World.cell?;rw[h];exact⟨us[o+i],l9⟩
  obtain⟨u,f⟩:=f;have s:w.frozen? ⟨b,o+i,none⟩=false:=by
   unfold World.frozen?;rw[h];simp
  obtain⟨s1,F,s3⟩:=heap_setCell w b (o+i) v us.toArray e h;have l:X9 (o+(i+1)) vs (us.set (o+i) v)=some a:=by
   obtain⟨r,q⟩:=iu (o+(i+1)) vs (us.set (o+i) v) (by rw[Mc];omega);rw[q];congr 1;apply Mn;intro j;rw[Y2 q j,Y2 d j,MY];by_cases m:j=o+i
   ·subst m;rw[N1 d9,N2 rfl,N2 d9,N2 l9];simp
   ·by_cases c:o+i<=j/\j<o+i+(vs.length+1)
    ·rw[N2 d9,N2 (by simpa using c)];obtain⟨k,rfl⟩:∃k,j=o+i+1+k:=⟨j-(o+i+1),d9⟩;rw[show o+i+1+k-(o+(i+1))=k by omega,show o+i+1+k-(o+i)=k+1 by omega];simp
    ·rw[N1 d9,N1 (fun e=>m e.symm),N1 (by simpa using c)]
  obtain⟨w',y,z,A,B,C,D,E⟩:=ub (P:=P) b o e vs (i+1) (us.set (o+i) v) a (w.setCell ⟨b,o+i,none⟩ v) (by rw[s1];simp) (fun x t=>h1 x (by simp[t])) l;refine⟨w',?_,z,fun k n=>(A k n).trans (F k n),B.trans s3,C,D,E⟩;simp only[storeCells,Sem.run_bind,fv,run_store P w ⟨b,o+i,none⟩ v .plain (h1 v l9),f,s,Ml,if_false,Result.andThen_ok,y]
def cR (P:Program) (r:Result Next) (R:Value->World->Prop):Prop :=
 match r with
 |.ok (.value v) w'=>R v w'
 |.ok .skip w'=>R undef w'
 |.ok (.enter f args) w'=>Calls P f args w' fun e a=>∃v,e=.returned v/\R v a
 |_=>False
theorem cR.upon {P:Program} {o:Oper} {a:Act} {r:Result Next} {R:Value->World->Prop} {K:Act->World->Prop} {Q:Exit->Act->World->Prop} (h:cR P r R) (b:∀v w',R v w'->K (a.put o.dst v) w'):o.upon P a K Q r:=by
 unfold cR at h;split at h
 ·exact b _ _ h
 ·exact b _ _ h
 ·exact h.mono fun e f ⟨v,c,d⟩=>by subst c;exact b _ _ d
 ·exact h.elim
abbrev Ev := Operand->AV
def qn (P:Program) (o:Oper) (ev:Ev) (av:AV) (need upd:Os) (news:List Nat):Prop :=
 ∀(c:Ctx) (w:World) (a:Operand->Value),Q5 c w need->(∀x∈o.op.operands.toList,Rd c w (a x) (ev x)) ->
  cR P ((execOp a o).run P w) fun v w'=>∃c',aS c w c' w' need upd news/\Rd c' w' v av
abbrev Kt := AV->List Nat->List Nat->Os->Prop
def Hm (o:Oper) (ev:Ev) (os:Os):Prop:=∃(c:Ctx) (w:World) (a:Operand->Value),Q5 c w os/\∀x∈o.op.operands.toList,Rd c w (a x) (ev x)
def Y6 (P:Program) (o:Oper) (ev:Ev) (os:Os) (K:Kt):Prop :=
 Hm o ev os->∃av need upd news,qn P o ev av need upd news/\(∀id ob,lk need id=some ob->lk os id=some ob)/\(∀id∈news,(lk upd id).isSome=true)/\K av (need.map (·.1)) news upd
theorem Y6.have {P:Program} {o:Oper} {ev:Ev} {os:Os} {K:Kt} {p:Prop} (e:∀(c:Ctx) (w:World) (a:Operand->Value),Q5 c w os->(∀x∈o.op.operands.toList,Rd c w (a x) (ev x))->p) (h:p->Y6 P o ev os K):Y6 P o ev os K :=
 fun hi=>h (hi.elim fun c ⟨w,a,b,d⟩=>e c w a b d) hi
def cK : List AV->Prop
 |[]=>True
 |.int n::l=>I5 n/\cK l
 |.str s::l=>s.size<=maxLen/\cK l
 |.sl _ ls::l=>ls.length<=maxLen/\cK l
 |_::l=>cK l
theorem H5.cK {Φ:Nat->Prop} {w:World}:∀{us:List Value} {b:List AV},H5 Φ w us b->Go.Proofs.YtibjcppjfkamhaaGreatDoor.cK b
 |_,_,.nil=>trivial
 |_,_,.cons (a:=a) h t=>by
  have ih:=H5.cK t;cases h<;>first|exact ih|(simp only[Go.Proofs.YtibjcppjfkamhaaGreatDoor.cK];refine⟨?_,ih⟩;first|assumption|omega)
theorem aS.refl {c:Ctx} {w:World} {need:Os} (a:∀b,c.Φ b->b<w.heap.size):aS c w c w need [] [] :=
 ⟨rfl,rfl,rfl,It _,fun _ h=>h,fun _ h=>.inl h,fun _ _ _=>rfl,fun _ _=>⟨rfl,rfl⟩,⟨fun _ _ h=>(by cases h),fun _ _ _ h=>(by cases h),fun _ _ _ _ _ _ h=>(by cases h),a⟩,fun _ _ _ h=>(by cases h)⟩
theorem Y6.pure {P:Program} {o:Oper} {ev:Ev} {os:Os} {K:Kt} {av:AV} (h:∀(c:Ctx) (w:World) (a:Operand->Value),(∀x∈o.op.operands.toList,Rd c w (a x) (ev x))->∃v,(execOp a o).run P w=.ok (.value v) w/\Rd c w v av)
  (e:K av [] [] []):Y6 P o ev os K :=
 fun _=>⟨av,[],[],[],fun c w a aO f=>by
  obtain⟨v,b,d⟩:=h c w a f;rw[b];exact⟨c,aS.refl aO.aq,d⟩,fun _ _ h=>(by cases h),fun _ h=>(by cases h),e⟩
def fY {id i:Nat} {ob o:Obj} {os:Os} (h:lk [(id,ob)] i=some o) (hl:lk os id=some ob):lk os i=some o:=by
 rw[l8] at h;split at h
 ·rename_i e;subst e;cases h;exact hl
 ·cases h
theorem Y6.read {P:Program} {o:Oper} {ev:Ev} {os:Os} {K:Kt} {av:AV} {id:Nat} {ob:Obj} (hl:lk os id=some ob)
  (h:∀(c:Ctx) (w:World) (a:Operand->Value),dH c w id ob->(∀x∈o.op.operands.toList,Rd c w (a x) (ev x))->∃v,(execOp a o).run P w=.ok (.value v) w/\Rd c w v av)
  (e:K av [id] [] []):Y6 P o ev os K :=
 fun _=>⟨av,[(id,ob)],[],[],fun c w a aO f=>by
  obtain⟨v,b,d⟩:=h c w a (aO.rep id ob (j5 _ _ _)) f;rw[b];exact⟨c,aS.refl aO.aq,d⟩,fun i o h=>fY h hl,fun _ h=>(by cases h),e⟩
theorem Aj {a b:Type} (f:a->b) (id:Nat):∀l:List (Nat×a),(lk (l.map fun p=>(p.1,f p.2)) id).isSome=(lk l id).isSome
 |[]=>rfl
 |(k,v)::l=>by
  rw[MS,l8,l8];split
  ·rfl
  ·exact Aj f id l
def IX {l:Os} {id:Nat} {o:Obj} (h:lk (l.map fun p=>(p.1,Obj.aF)) id=some o):o=.aF:=by
 have:=dR h;simp only[MU,Prod.mk.injEq] at this;obtain⟨a,_,_,h⟩:=this;exact h.symm
theorem aS.trans {c B F:Ctx} {w L M:World} {need j d e:Os} {f g:List Nat} (aO:Q5 c w need) (i:aS c w B L need d f) (m:aS B L F M j e g)
  (y:∀id∈f,(lk d id).isSome=true) (z:∀id∈g,(lk e id).isSome=true)
  (n:∀id o,lk j id=some o->lk (d++need) id=some o) (u:∀id o,lk need id=some o->lk d id=none->∀x∈f,x ∉ o.ids)
  (v:∀id o,lk (d++need) id=some o->lk e id=none->∀x∈g,x ∉ o.ids):aS c w F M need (e++d) (g++f):=by
 have I:Q5 B L (d++need):=aO.frame (fun _ _ h=>h) i y u;have J:Q5 F M (e++(d++need)):=I.frame n m z v;have q:∀id,(lk (e++d) id).isSome=true↔(lk e id).isSome=true\/(lk d id).isSome=true:=fun id=>by
  rw[J7];cases lk e id<;>cases lk d id<;>simp
 have C:∀b,Touch c need d b->Touch c need (e++d) b:=fun b ⟨id,o,D,E,A⟩=>⟨id,o,D,(q id).2 (.inr E),A⟩;have K:∀b,Touch B j e b->w.heap.size<=b\/Touch c need (e++d) b:=by
  rintro b ⟨id,o,D,E,A⟩;have l:=n id o D;rw[J7] at l;cases k:lk d id with
  |some x =>
   rw[k] at l;simp at l;subst l;exact(i.az id x b k A).imp (fun h=>h) (C b)
  |none =>
   rw[k] at l;have p:id ∉ f:=fun t=>by have:=y id t;rw[k] at this;cases this
   have r:lk need id=some o:=(by simpa using l);exact .inr ⟨id,o,r,(q id).2 (.inl E),(rJ (i.ctx id p) fun x H=>i.ctx x fun t=>u id o r k x t H).1 A⟩
 refine⟨m.cX.trans i.cX,m.tape.trans i.tape,m.output.trans i.output,Nat.le_trans i.size m.size,fun b h=>m.aq b (i.aq b h),fun b h=>?_,fun b G O=>?_,fun id s=>?_,?_,fun id o b hl N=>?_⟩
 ·rcases m.ak b h with h|h|h
  ·exact(i.ak b h).imp (fun h=>h) (.imp (fun h=>h) (C b))
  ·exact .inr (.inl (Nat.le_trans i.size h))
  ·exact .inr (K b h)
 ·refine(m.ab b (Nat.lt_of_lt_of_le G i.size) fun h=>?_).trans (i.ab b G fun h=>O (C b h));rcases K b h with h|h
  ·exact absurd G (Nat.not_lt.2 h)
  ·exact O h
 ·simp only[MT] at s;have a:=i.ctx id fun h=>s (.inr h);have b:=m.ctx id fun h=>s (.inl h);exact⟨b.1.trans a.1,b.2.trans a.2⟩
 ·refine J.sub fun id o h=>?_;rw[J7] at h⊢;cases k:lk e id with
  |some x=>rw[k] at h;simpa using h
  |none =>
   rw[k] at h;rw[J7];simp at h;simp[h]
 ·rw[J7] at hl;cases k:lk e id with
  |some x =>
   rw[k] at hl;simp at hl;subst hl;rcases m.az id x b k N with h|h
   ·exact .inl (Nat.le_trans i.size h)
   ·exact K b h
  |none =>
   rw[k] at hl;simp at hl;have p:id ∉ g:=fun t=>by have:=z id t;rw[k] at this;cases this
   exact(i.az id o b hl ((rJ (m.ctx id p) fun x H=>m.ctx x fun t=>v id o (by rw[J7,hl];rfl) k x t H).1 N)).imp (fun h=>h) (C b)
theorem b9 {b:Type} (n:Nat):∀(css:List (List b)),(∀a∈css,a.length=n)->∀(i j:Nat) (a:List b),css[i]?=some a->j<n->css.flatten[i*n+j]?=a[j]?
 |[],_,i,j,a,h,_=>by simp at h
 |c::css,hl,0,j,a,h,hj=>by
  simp at h;subst h;have:c.length=n:=hl c l9;simp[Mp,this,hj]
 |c::css,hl,i+1,j,a,h,hj=>by
  have d:c.length=n:=hl c l9;have ih:=b9 n css (fun x f=>hl x (by simp[f])) i j a (by simpa using h) hj;have e:(i+1)*n+j=c.length+(i*n+j):=by rw[d,Nat.succ_mul];omega
  rw[List.flatten_cons,e,Ma d9];simpa using ih
theorem fC {d:Type} (n:Nat):∀(css:List (List d)),(∀a∈css,a.length=n)->css.flatten.length=css.length*n
 |[],_=>l9
 |c::css,hl=>by
  have ih:=fC n css (fun x b=>hl x (by simp[b]));rw[List.flatten_cons,MK,hl c l9,ih,ML,Nat.succ_mul];omega
theorem K5.head {w:World} {hdv:Value} {sz e:Nat} {css:List (List Value)} (h:K5 w hdv sz e css):∃A cap,hdv=.slice A css.length cap/\css.length<=cap/\cap<=maxLen:=by
 rcases h.bV with⟨rfl,c⟩|⟨g,x,p,cap,a,rfl,f,b,d,_⟩
 ·exact⟨none,0,by rw[c],d9,by simp[maxLen]⟩
 ·exact⟨_,cap,rfl,b,d9⟩
theorem K5.cells {w:World} {hdv:Value} {sz e:Nat} {css:List (List Value)} (h:K5 w hdv sz e css) {i:Nat} {us:List Value} (hi:css[i]?=some us) :
  ∃g x cap,hdv=.slice (some ⟨g,x,none⟩) css.length cap/\hdv.ownBlock=some g/\∀j u,us[j]?=some u->w.cell? ⟨g,x+i*sz+j,none⟩=some u:=by
 have o:i<css.length:=(ME.1 hi).1;rcases h.bV with⟨rfl,y⟩|⟨g,x,p,cap,k,rfl,n,s,t,v,r,l⟩
 ·omega
 ·obtain rfl:=r d9;refine⟨g,p*sz,cap,rfl,rfl,fun j u f=>?_⟩;have q:us∈css:=MP hi;have d:=h.len us q;have c:j<sz:=by rw[<-d];exact(ME.1 f).1
  have b:=b9 sz css h.len i j us hi c;have a:i*sz+j<css.length*sz:=by
   calc i*sz+j<i*sz+sz:=d9
    _=(i+1)*sz:=by rw[Nat.succ_mul]
    _<=css.length*sz:=Mt _ d9
  have m:w.cell? ⟨g,p*sz+i*sz+j,none⟩=css.flatten[i*sz+j]?:=by
   rw[<-l];unfold World.cell?;rw[n];simp[a,Mo]
  rw[m,b,f]
theorem K5.rf {w:World} {hdv:Value} {sz e:Nat} {css:List (List Value)} {ls:List (List AV)} {Φ l:Nat->Prop} (h:K5 w hdv sz e css) (hl:css.length=ls.length)
  (I:∀(i:Nat) (us:List Value) (c:List AV),css[i]?=some us->ls[i]?=some c->H5 Φ w us c) (r:∀b,Φ b->l b) (D:∀b,hdv.ownBlock=some b->l b):Rf l w hdv (.sl sz ls):=by
 obtain⟨A,cap,q,C,t⟩:=h.head;have key:∀i c,ls[i]?=some c->∃us,css[i]?=some us:=fun i c hi=>by
  have:=(ME.1 hi).1;exact⟨css[i],IS d9⟩
 rcases Nat.eq_zero_or_pos ls.length with B|H
 ·have:ls=[]:=Mk B;subst this;rw[q,show css.length=([]:List (List AV)).length by simpa using hl];exact .sl (fun _=>[]) 0 0 l9 t (fun h=>absurd h l9) (fun i c h=>by simp at h) (fun i c h=>by simp at h) (fun i c h=>by simp at h) (fun i c h=>by simp at h)
 ·obtain⟨K,p⟩:=key 0 ls[0] (IS H);obtain⟨g,x,f,k,F,_⟩:=h.cells p;rw[k,hl];have n:css.length<=f/\f<=maxLen:=by rw[k] at q;injection q with _ _ e;subst e;exact⟨C,t⟩
  have d:∀i us,css[i]?=some us->css.getD i []=us:=fun i us h=>by simp[List.getD_eq_getElem?_getD,h]
  refine .sl (fun i=>css.getD i []) g x d9 n.2 (fun _=>⟨rfl,D g F⟩) (fun i c hi=>?_) (fun i c hi j u v=>?_) (fun i c hi=>?_) (fun i c hi u y=>?_)<;>obtain⟨us,a⟩:=key i c hi
  ·rw[d i us a];exact h.len us (MP a)
  ·rw[d i us a] at v;obtain⟨J,L,s,o,G,E⟩:=h.cells a;rw[k] at o;injection o with m _ _
   injection m with m
   injection m with m z _
   subst m z;exact E j u v
  ·rw[d i us a];exact(I i us c a hi).mono (fun _ _=>rfl) r
  ·rw[d i us a] at y;exact h.one us (MP a) u y
def ck (c:Ctx) (g:Os) (b:Nat):Prop:=c.Φ b\/∃id o,lk g id=some o/\aW c id o b
def Ctx.fz (c:Ctx) (g:Os):Ctx:={ c with Φ:=ck c g }
def I7 : Os->Os
 |[]=>[]
 |(k,_)::r=>(k,.aF)::I7 r
def Bj (g:Os):I7 g=g.map fun p=>(p.1,.aF):=by
 induction g with
 |nil=>rfl
 |cons p r ih=>simp[I7,ih]
def re (g:Os) (id:Nat):(lk (I7 g) id).isSome=(lk g id).isSome:=by rw[Bj];exact Aj (fun _=>Obj.aF) id g
def lq {l:Os} {id:Nat} {o:Obj} (h:lk (I7 l) id=some o):o=.aF:=IX (by rwa [Bj] at h)
theorem aS.freeze {c:Ctx} {w:World} {g:Os} (h:Q5 c w g):aS c w (c.fz g) w g (I7 g) []:=by
 have i:∀id,(lk (I7 g) id).isSome=(lk g id).isSome:=re g;refine⟨rfl,rfl,rfl,It _,fun b a=>.inl a,fun b a=>?_,fun _ _ _=>rfl,fun _ _=>⟨rfl,rfl⟩,⟨fun id o hl=>?_,fun id o b hl d=>?_,fun id j o k b _ hl _ d=>?_,fun b a=>?_⟩,fun id o b hl d=>?_⟩
 ·rcases a with a|⟨id,o,e,f⟩
  ·exact .inl a
  ·exact .inr (.inr ⟨id,o,e,by rw[i,e];rfl,f⟩)
 ·cases lq hl;trivial
 ·cases lq hl;exact d.elim
 ·cases lq hl;exact d.elim
 ·rcases a with a|⟨id,o,e,f⟩
  ·exact h.aq b a
  ·exact(h.lt id o b e f).1
 ·cases lq hl;exact d.elim
def Ctx.bD (c:Ctx) (d b:Nat):Ctx:={ c with μ:=fun i=>if i=d then b else c.μ i }
def Ctx.aN (c:Ctx) (d:Nat) (v:Value):Ctx:={ c with hd:=fun i=>if i=d then v else c.hd i }
def alloc_old (w:World) (o:Go.Obj) {b:Nat} (h:b<w.heap.size):(w.alloc o).heap[b]?=w.heap[b]?:=by
 show(w.heap.push o)[b]?=_;rw[Array.getElem?_push];rw[N1 d9]
def uP (w:World) (o:Go.Obj):(w.alloc o).heap[w.heap.size]?=some o:=by
 show(w.heap.push o)[w.heap.size]?=_;simp
def mU (w:World) (o:Go.Obj):(w.alloc o).heap.size=w.heap.size+1:=by
 show(w.heap.push o).size=_;simp
theorem aS.jL {c:Ctx} {w:World} (f:∀b,c.Φ b->b<w.heap.size) (d:Nat) {us:List Value} {l:List AV} (e:TypeId) (p:w9 c w us l) (hd:d ∉ AV.au l) :
  aS c w (c.bD d w.heap.size) (w.alloc (.cells us.toArray e)) [] [(d,.box l e)] [d]:=by
 have n:(c.bD d w.heap.size).μ d=w.heap.size:=by simp[Ctx.bD]
 have j:∀id,id≠d->(c.bD d w.heap.size).μ id=c.μ id:=fun id h=>by simp[Ctx.bD,h]
 refine⟨rfl,rfl,rfl,by rw[mU];omega,fun b a=>a,fun b a=>.inl a,fun b a _=>alloc_old w _ a,fun id m=>⟨j id (by simpa using m),rfl⟩,⟨fun id o hl=>?_,fun id o b hl k=>?_,fun id q o r b g hl i k=>?_,fun b a=>by rw[mU];have:=f b a;omega⟩,fun id o b hl k=>?_⟩<;>rw[l8] at hl<;>split at hl<;>first|(rename_i e1;subst e1;cases hl)|cases hl
 ·exact⟨us,by rw[n];exact uP w _,p.mono (c':=c.bD d w.heap.size) (fun b a=>alloc_old w _ (f b a)) (fun _ h=>h) fun id hi=>⟨j id fun e1=>hd (by rw[<-e1];exact hi),rfl⟩⟩
 ·have a:b=w.heap.size:=k.trans n;exact⟨by rw[mU];omega,fun h=>by have:=f b h;omega⟩
 ·rw[E8 _ _ g] at i;cases i
 ·exact .inl (by have a:b=w.heap.size:=k.trans n;omega)
theorem K5.made {w:World} {sz e:Nat} {css:List (List Value)} (hl:∀us∈css,us.length=sz) (b:∀us∈css,∀u∈us,u.oneCell'=true) (c:css.length<=maxLen) :
  K5 (w.alloc (.cells css.flatten.toArray e)) (.slice (some ⟨w.heap.size,0,none⟩) css.length css.length) sz e css :=
 have a:=fC sz css hl
 ⟨.inr ⟨w.heap.size,0,0,css.length,css.flatten.toArray,rfl,uP w _,It _,d9,by simpa using a,fun _=>l9,by simpa using List.take_of_length_le (Nat.le_of_eq a)⟩,hl,b⟩
theorem aS.newRow {c:Ctx} {w:World} (f:∀b,c.Φ b->b<w.heap.size) (d:Nat) {sz:Nat} {css:List (List Value)} {ls:List (List AV)} (e:TypeId) (hl:css.length=ls.length)
  (x:∀(i:Nat) (us:List Value) (p:List AV),css[i]?=some us->ls[i]?=some p->H5 c.Φ w us p) (m:∀us∈css,us.length=sz) (s:∀us∈css,∀u∈us,u.oneCell'=true) (v:css.length<=maxLen) :
  aS c w (c.aN d (.slice (some ⟨w.heap.size,0,none⟩) css.length css.length)) (w.alloc (.cells css.flatten.toArray e)) [] [(d,.row sz ls e)] [d]:=by
 have n:(c.aN d (.slice (some ⟨w.heap.size,0,none⟩) css.length css.length)).hd d=.slice (some ⟨w.heap.size,0,none⟩) css.length css.length:=by simp[Ctx.aN]
 have r:∀id,id≠d->(c.aN d (.slice (some ⟨w.heap.size,0,none⟩) css.length css.length)).hd id=c.hd id:=fun id h=>by simp[Ctx.aN,h]
 have a:∀b,aW (c.aN d (.slice (some ⟨w.heap.size,0,none⟩) css.length css.length)) d (.row sz ls e) b->b=w.heap.size:=fun b j=>by
  simp only[aW,n,Value.ownBlock,Option.some.injEq] at j;exact j.symm
 refine⟨rfl,rfl,rfl,by rw[mU];omega,fun b g=>g,fun b g=>.inl g,fun b g _=>alloc_old w _ g,fun id q=>⟨rfl,r id (by simpa using q)⟩,⟨fun id o hl=>?_,fun id o b hl j=>?_,fun id z o A b k hl l j=>?_,fun b g=>by rw[mU];have:=f b g;omega⟩,fun id o b hl j=>?_⟩<;>rw[l8] at hl<;>split at hl<;>first|(rename_i e1;subst e1;cases hl)|cases hl
 ·refine⟨css,by rw[n];exact K5.made m s v,by assumption,fun i us p y t=>(x i us p y t).mono (fun b g=>alloc_old w _ (f b g)) fun _ h=>h⟩
 ·have g:=a b j;exact⟨by rw[mU];omega,fun h=>by have:=f b h;omega⟩
 ·rw[E8 _ _ k] at l;cases l
 ·exact .inl (by have:=a b j;omega)
theorem aS.write {c:Ctx} {w w':World} {id:Nat} {m d:List AV} {e:TypeId} {us':List Value} (h:Q5 c w [(id,.box m e)]) (a:w'.heap[c.μ id]?=some (.cells us'.toArray e)) (u:w9 c w us' d) (n:∀k,k≠c.μ id->w'.heap[k]?=w.heap[k]?)
  (v:w'.heap.size=w.heap.size) (q:w'.os=w.os) (r:w'.tape=w.tape) (s:w'.output=w.output):aS c w c w' [(id,.box m e)] [(id,.box d e)] []:=by
 have f:=h.lt id _ (c.μ id) (j5 _ _ _) rfl;have p:∀b,b=c.μ id->Touch c [(id,.box m e)] [(id,.box d e)] b:=fun b a=>⟨id,_,j5 _ _ _,by rw[j5];rfl,a⟩;refine⟨q,r,s,d9,fun b a=>a,fun b a=>.inl a,fun b a t=>n b fun e=>t (p b e),fun _ _=>⟨rfl,rfl⟩,⟨fun i o hl=>?_,fun i o b hl j=>?_,fun i x o y b g hl l j=>?_,fun b a=>by have:=h.aq b a;omega⟩,fun i o b hl j=>?_⟩<;>rw[l8] at hl<;>split at hl<;>first|(rename_i e1;subst e1;cases hl)|cases hl
 ·exact⟨us',a,u.mono (fun b a=>n b fun e=>f.2 (e▸a)) (fun _ h=>h) fun _ _=>⟨rfl,rfl⟩⟩
 ·exact⟨by rw[v];rw[show b=_ from j];exact f.1,by rw[show b=_ from j];exact f.2⟩
 ·rw[E8 _ _ g] at l;cases l
 ·exact .inr (p b j)
def kh : AV->AV->Prop
 |_,.any=>True
 |.aJ,.sl _ ls=>ls=[]
 |a,b=>a=b
def iQ : List AV->List AV->Prop
 |[],[]=>True
 |a::a_,b::bs=>kh a b/\iQ a_ bs
 |_,_=>False
def bt : List (List AV)->List (List AV)->Prop
 |[],[]=>True
 |a::a_,b::bs=>iQ a b/\bt a_ bs
 |_,_=>False
def Kl {Φ:Nat->Prop} {w:World} {v:Value} {a b:AV} (h:kh a b) (e:Rf Φ w v a):Rf Φ w v b:=by
 unfold kh at h;split at h
 ·exact .any _
 ·subst h;cases e;exact Rf.sl (A:=none) (c:=0) (sz:=_) (ls:=[]) (fun _=>[]) 0 0 l9 (by simp[maxLen]) (fun h=>absurd h l9) (fun i d h=>by simp at h) (fun i d h=>by simp at h) (fun i d h=>by simp at h) (fun i d h=>by simp at h)
 ·subst h;exact e
theorem Cv {Φ:Nat->Prop} {w:World}:∀{vs:List Value} {a_ a:List AV},iQ a_ a->H5 Φ w vs a_->H5 Φ w vs a
 |_,[],[],_,.nil=>.nil
 |_,_::_,_::_,h,.cons x t=>.cons (Kl h.1 x) (Cv h.2 t)
 |_,[],_::_,h,_=>h.elim
 |_,_::_,[],h,_=>h.elim
theorem yV : ∀{ls q:List (List AV)},bt ls q->ls.length=q.length/\∀(i:Nat) (c:List AV),q[i]?=some c->∃d,ls[i]?=some d/\iQ d c
 |[],[],_=>⟨rfl,fun i c h=>by simp at h⟩
 |[],_::_,h=>h.elim
 |_::_,[],h=>h.elim
 |a::ls,b::q,h=>by
  obtain⟨e,f⟩:=yV h.2;refine⟨by simp[e],fun i c hi=>?_⟩;cases i with
  |zero=>simp at hi;subst hi;exact⟨a,rfl,h.1⟩
  |succ i=>simpa using f i c (by simpa using hi)
theorem O7.le {Φ:Nat->Prop} {w:World} {v:Value} {sz e:Nat} {ls q:List (List AV)} (h:O7 Φ w v sz ls e) (hl:bt ls q):O7 Φ w v sz q e:=by
 obtain⟨css,d,f,g⟩:=h;obtain⟨l,l2⟩:=yV hl;refine⟨css,d,f.trans l,fun i us b k j=>?_⟩;obtain⟨c,hd,a⟩:=l2 i b j;exact Cv a (g i us c k hd)
theorem aS.bl {c c':Ctx} {w w':World} {need U:Os} {news:List Nat} {d sz e:Nat} {ls q:List (List AV)} (h:aS c w c' w' need ((d,.row sz ls e)::U) news) (hl:bt ls q):aS c w c' w' need ((d,.row sz q e)::U) news:=by
 have y:∀id,(lk ((d,Obj.row sz q e)::U) id).isSome=(lk ((d,Obj.row sz ls e)::U) id).isSome:=fun id=>by
  rw[l8,l8];split<;>rfl
 have x:∀b,Touch c need ((d,.row sz ls e)::U) b->Touch c need ((d,.row sz q e)::U) b:=fun b ⟨id,o,m,n,r⟩=>⟨id,o,m,by rw[y];exact n,r⟩;have B:∀b,Touch c need ((d,.row sz q e)::U) b->Touch c need ((d,.row sz ls e)::U) b:=fun b ⟨id,o,m,n,r⟩=>⟨id,o,m,by rw[<-y];exact n,r⟩;have g:∀id o,lk ((d,Obj.row sz q e)::U) id=some o->∃f,lk ((d,Obj.row sz ls e)::U) id=some f/\(∀b,aW c' id o b↔aW c' id f b)/\(dH c' w' id f->dH c' w' id o):=fun id o a=>by
  rw[l8] at a;split at a
  ·rename_i e1;subst e1;cases a;exact⟨.row sz ls e,j5 _ _ _,fun b=>Iff.rfl,fun v=>O7.le v hl⟩
  ·rename_i e1;exact⟨o,by rw[E8 _ _ e1];exact a,fun b=>Iff.rfl,fun v=>v⟩
 refine⟨h.cX,h.tape,h.output,h.size,h.aq,fun b s=>(h.ak b s).imp (fun h=>h) (.imp (fun h=>h) (x b)),fun b s A=>h.ab b s fun j=>A (x b j),h.ctx,⟨fun id o a=>?_,fun id o b a k=>?_,fun id l o f b u i j k t=>?_,h.aO.aq⟩,fun id o b a k=>?_⟩
 ·obtain⟨f,i,_,z⟩:=g id o a;exact z (h.aO.rep id f i)
 ·obtain⟨f,i,j,_⟩:=g id o a;exact h.aO.lt id f b i ((j b).1 k)
 ·obtain⟨p,D,E,_⟩:=g id o i;obtain⟨C,F,G,_⟩:=g l f j;exact h.aO.sep id l p C b u D F ((E b).1 k) ((G b).1 t)
 ·obtain⟨f,i,j,_⟩:=g id o a;exact(h.az id f b i ((j b).1 k)).imp (fun h=>h) (x b)
def xy (a:AV):kh a a:=by
 unfold kh;split<;>first|trivial|rfl|(rename_i b c;simp_all)
theorem sF : ∀l:List AV,iQ l l
 |[]=>trivial
 |a::l=>⟨xy a,sF l⟩
theorem O4 : ∀l:List (List AV),bt l l
 |[]=>trivial
 |a::l=>⟨sF a,O4 l⟩
def Src (Φ:Nat->Prop) (w:World) (sz:Nat) (x:Value) (ls:List (List AV)):Prop :=
 ∃(A:Option Addr) (cap:Nat) (css:List (List Value)),x=.slice A ls.length cap/\css.length=ls.length/\(∀us∈css,us.length=sz)/\(∀us∈css,∀u∈us,u.oneCell'=true) /\
  (∀(i:Nat) (us:List Value) (a:List AV),css[i]?=some us->ls[i]?=some a->H5 Φ w us a) /\
  (0<ls.length->∃b o,A=some ⟨b,o,none⟩/\∀i us,css[i]?=some us->∀j u,us[j]?=some u->w.cell? ⟨b,o+i*sz+j,none⟩=some u)
theorem Src.th {c:Ctx} {w:World} {sz:Nat} {x:Value} {ls:List (List AV)} (h:Rd c w x (.sl sz ls)):Src c.Φ w sz x ls:=by
 obtain⟨A,k,us,b,o,rfl,z,B,g,l,m,n,p⟩:=h.jx;have aH:∀(i:Nat) (u:List Value),((List.range ls.length).map us)[i]?=some u->i<ls.length/\u=us i:=fun i u hi=>by
  simp only[Mj,MM] at hi;obtain⟨a,q,rfl⟩:=hi;have:=ME.1 q;simp at this;exact⟨d9,by rw[<-this.2]⟩
 have e:∀u∈(List.range ls.length).map us,∃i,i<ls.length/\u=us i:=fun u d=>by
  simp only[MU,List.mem_range] at d;obtain⟨i,hi,rfl⟩:=d;exact⟨i,hi,rfl⟩
 refine⟨A,k,(List.range ls.length).map us,rfl,l9,fun u d=>?_,fun u d=>?_,fun i u f d r=>?_,fun s=>?_⟩
 ·obtain⟨i,hi,rfl⟩:=e u d;exact l i ls[i] (IS hi)
 ·obtain⟨i,hi,rfl⟩:=e u d;exact p i ls[i] (IS hi)
 ·obtain⟨hi,rfl⟩:=aH i u d
  exact n i f r
 ·refine⟨b,o,(g s).1,fun i u d j v y=>?_⟩;obtain⟨hi,rfl⟩:=aH i u d
  exact m i ls[i] (IS hi) j v y
theorem Src.er {Φ:Nat->Prop} {w:World} {v:Value} {sz e:Nat} {css:List (List Value)} {ls:List (List AV)} (b:K5 w v sz e css) (n:css.length=ls.length)
  (p:∀(i:Nat) (us:List Value) (m:List AV),css[i]?=some us->ls[i]?=some m->H5 Φ w us m):Src Φ w sz v ls:=by
 obtain⟨A,cap,h,C,D⟩:=b.head;refine⟨A,cap,css,by rw[h,n],n,b.len,b.one,p,fun F=>?_⟩;have f:0<css.length:=d9;obtain⟨g,x,k,c,E,_⟩:=b.cells (IS f);rw[h] at c;injection c with e1 y z
 refine⟨g,x,e1,fun i us hi j u s=>?_⟩;obtain⟨B,G,l,d,r,q⟩:=b.cells hi;rw[h,e1] at d;injection d with a _ _
 injection a with a
 injection a with a o _
 subst a o;exact q j u s
theorem Src.jM {c:Ctx} {w:World} {id sz e:Nat} {ls:List (List AV)} (h:dH c w id (.row sz ls e)):Src c.Φ w sz (c.hd id) ls:=by
 obtain⟨css,a,b,d⟩:=h;exact Src.er a b d
theorem Src.nil {Φ:Nat->Prop} {w:World} (sz:Nat):Src Φ w sz (.slice none 0 0) [] :=
 ⟨none,0,[],rfl,rfl,l9,l9,fun i us a h=>by simp at h,fun h=>absurd h l9⟩
theorem K5.take {w:World} {A:Option Addr} {m cap sz e n:Nat} {css:List (List Value)} (h:K5 w (.slice A m cap) sz e css) (D:n<=m):K5 w (.slice A n cap) sz e (css.take n):=by
 have C:css.length=m:=by
  obtain⟨y,c,f,_,_⟩:=h.head;injection f with _ i _
  exact i.symm
 have a:(css.take n).length=n:=by rw[Mq];omega
 have o:∀us∈css.take n,us.length=sz:=fun us l=>h.len us (List.mem_of_mem_take l);have k:=fC sz _ o;refine⟨?_,o,fun us l=>h.one us (List.mem_of_mem_take l)⟩;rcases h.bV with⟨f,B⟩|⟨g,x,p,c,d,f,u,z,q,r,v,s⟩
 ·injection f with e1 i j
  subst e1 j;exact .inl ⟨by rw[show n=0 by omega],d9⟩
 ·injection f with e1 i j
  subst e1 j;refine .inr ⟨g,x,p,cap,d,by rw[a],u,d9,q,r,v,?_⟩;have e:(d.toList.drop (p*sz)).take (n*sz)=css.flatten.take (n*sz):=by
   rw[<-s,List.take_take];congr 1;have:n*sz<=css.length*sz:=Mt _ d9;omega
  rw[a,e];have b:css.flatten=(css.take n).flatten++(css.drop n).flatten:=by rw[<-List.flatten_append,List.take_append_drop]
  rw[b,List.take_left' (by rw[k,a])]
theorem K5.drop {w:World} {A:Option Addr} {m cap sz e n:Nat} {css:List (List Value)} (h:K5 w (.slice A m cap) sz e css) (E:n<=m):K5 w (.slice (if cap=n then A else A.map (·.add (n*sz))) (m-n) (cap-n)) sz e (css.drop n):=by
 have v:css.length=m:=by
  obtain⟨z,d,i,_,_⟩:=h.head;injection i with _ j _
  exact j.symm
 have a:(css.drop n).length=m-n:=by rw[List.length_drop];omega
 refine⟨?_,fun us f=>h.len us (List.mem_of_mem_drop f),fun us f=>h.one us (List.mem_of_mem_drop f)⟩;rcases h.bV with⟨i,D⟩|⟨g,x,p,d,c,i,q,B,C,o,y,r⟩
 ·injection i with e1 j k
  subst e1 k;exact .inl ⟨by rw[show m-n=0 by omega];simp,d9⟩
 ·injection i with e1 j k
  subst e1 k;have hd:(c.toList.drop ((p+n)*sz)).take ((m-n)*sz)=(css.drop n).flatten:=by
   have u:(css.take n).flatten.length=n*sz:=by rw[fC sz _ fun us f=>h.len us (List.mem_of_mem_take f),Mq];congr 1;omega
   have b:css.flatten=(css.take n).flatten++(css.drop n).flatten:=(by rw[<-List.flatten_append,List.take_append_drop]);have s:(css.drop n).flatten=css.flatten.drop (n*sz):=by rw[b,List.drop_left' u]
   rw[s,<-r,List.drop_take,List.drop_drop,Nat.add_mul,v,<-Nat.sub_mul]
  by_cases l:cap=n
  ·refine .inr ⟨g,x,p+n,0,c,by rw[N2 l,a,l];simp,q,d9,d9,by rw[o];congr 1;omega,fun h=>absurd h d9,by rw[a];exact hd⟩
  ·refine .inr ⟨g,x+n*sz,p+n,cap-n,c,by rw[N1 l,a];simp[fv],q,d9,d9,by rw[o];congr 1;omega,fun h=>by rw[y d9,Nat.add_mul],by rw[a];exact hd⟩
section
variable {P:Program} {tab:R9} {t:TypeId} {ti te:TI}
def Ew (r:X4 P t ti) (s:ti.kind=2) (q:X4 P ti.elem te) (u:TypeId) {w:World} {hdv:Value} {sz e c:Nat} {a:Option Addr} {css:List (List Value)} (h:K5 w hdv sz e css) :
  (Builtin.append_ #[t,t] u #[hdv,.slice a 0 c]).run P w=.ok hdv w:=by
 obtain⟨i,z,hi,_⟩:=q.info;have f:=r.af s;obtain⟨A,cap,rfl,o,y⟩:=h.head;have d:(Builtin.firstCells i.size 0 (.slice a 0 c)).run P w=.ok #[] w:=by
  cases a with
  |none=>simp[Builtin.firstCells]
  |some k=>exact run_firstCells_some (P:=P) w i.size 0 k 0 c [] l9 l9
 rcases h.bV with⟨j,B⟩|⟨g,x,p,b,l,j,_⟩<;>injection j with e1 v m<;>subst e1
 ·subst m;have n:css.length=0:=d9;simp[Builtin.append_,run_underlying f,sizeOf,typeInfo,hi,Builtin.lenOf,d,n,storeCells]
 ·simp[Builtin.append_,run_underlying f,sizeOf,typeInfo,hi,Builtin.lenOf,d,o,storeCells]
def Af (X:X4 P t ti) (M:ti.kind=2) (hE:X4 P ti.elem te) (B:0<te.size) (ty:TypeId) {Φ:Nat->Prop} {w:World} {hdv x:Value} {css:List (List Value)} {c:List (List AV)}
  (h:K5 w hdv te.size ti.elem css) (hs:Src Φ w te.size x c) (J:(css.length+c.length)*te.bytes<=140737488355328) (hl:css.length+c.length<=maxLen) :
  ∃s w' a,(Builtin.append_ #[t,t] ty #[hdv,x]).run P w=.ok s w'/\a.length=c.length/\K5 w' s te.size ti.elem (css++a)/\w.grownBy w' hdv.ownBlock/\(s.ownBlock=hdv.ownBlock\/∀b,s.ownBlock=some b->w.heap.size<=b) /\
   (∀(i:Nat) (us:List Value) (cs:List AV),a[i]?=some us->c[i]?=some cs->H5 Φ w us cs):=by
 obtain⟨A,cap,a,rfl,v,h2,h3,R,h5⟩:=hs;obtain⟨i,z,hi,Q,S,hz,hzo,hza⟩:=hE.info;have W:z.cells.size=te.size:=by
  have:=(lQ (fun _=>False) w _ _ hzo).1.length;rw[<-hE.zl,<-this];simp
 rcases Nat.eq_zero_or_pos c.length with h0|hp
 ·have e2:c=[]:=Mk h0;have e3:a=[]:=Mk d9;subst e2 e3;exact⟨hdv,w,[],Ew X M hE ty h,rfl,by simpa using h,World.grownBy.refl w _,.inl rfl,fun i us cs h=>by simp at h⟩
 ·obtain⟨b,o,rfl,hc⟩:=h5 hp;have F:=fC te.size a h2;have q:∀us∈css++a,us.length=te.size:=fun us m=>by
   rcases MT.1 m with m|m
   ·exact h.len us m
   ·exact h2 us m
  have r:∀us∈css++a,∀u∈us,u.oneCell'=true:=fun us m=>by
   rcases MT.1 m with m|m
   ·exact h.one us m
   ·exact h3 us m
  have f:∀(j:Nat) (u:Value),a.flatten[j]?=some u->w.cell? ((⟨b,o,none⟩:Addr).add j)=some u:=by
   intro j u E;have L:j<a.length*te.size:=by
    have:=(ME.1 E).1
    rwa [F] at this
   have hd:j / te.size<a.length:=Nat.div_lt_of_lt_mul (by rwa [Nat.mul_comm] at L);have hm:j % te.size<te.size:=Nat.mod_lt _ B;have hf:=b9 te.size a h2 (j / te.size) (j % te.size) a[j / te.size] (IS hd) hm;have ej:j / te.size*te.size+j % te.size=j:=by rw[Nat.mul_comm];exact Nat.div_add_mod j te.size
   rw[ej,E] at hf;have:=hc (j / te.size) _ (IS hd) (j % te.size) u hf.symm;rw[fv,<-this];simp only[Mo,ej]
  have H:∀u∈a.flatten,u.oneCell'=true:=by
   intro u m;obtain⟨us,hus,m⟩:=List.mem_flatten.1 m;exact h3 us hus u m
  have n:=fC te.size css h.len;have I:∀{w':World} {s:Value} {base:Nat},w'.ownsRow base ti.elem te.size s (css.length+c.length) (css.flatten++a.flatten)->K5 w' s te.size ti.elem (css++a)/\∀b,s.ownBlock=some b->base<=b:=fun {w' s base} ho=>by
   refine⟨⟨?_,q,r⟩,fun b J=>?_⟩
   ·rcases ho.2 with⟨e,_⟩|⟨g,G,d,e,_,b2,b3,b4,b5,b6⟩
    ·omega
    ·exact .inr ⟨g,0,0,G,d,by rw[e,MK,v],b2,by rw[MK,v];exact b3,d9,by simpa using b5,fun _=>l9,by simpa[v] using b6⟩
   ·rcases ho.2 with⟨e,_⟩|⟨g,G,d,e,b1,_⟩
    ·rw[e] at J;cases J
    ·rw[e] at J;cases J;exact b1
  have U:∀j u,css.flatten[j]?=some u->∀(g x p:Nat) (d:Array Value),w.heap[g]?=some (.cells d ti.elem)->x=p*te.size->(d.toList.drop (p*te.size)).take (css.length*te.size)=css.flatten->w.cell? ((⟨g,x,none⟩:Addr).add j)=some u:=fun j u E g x p d Y V R=>by
   have hlt:j<css.length*te.size:=by
    have:=(ME.1 E).1
    rwa [n] at this
   rw[<-R,List.getElem?_take_of_lt hlt,Mm] at E;rw[fv,V];unfold World.cell?;rw[Y];simpa using E
  rcases h.bV with⟨rfl,hn⟩|⟨g,x,p,G,d,rfl,Y,a1,a2,a3,V,a4⟩
  ·have e0:css=[]:=Mk hn;subst e0;obtain⟨s,w',D,y,l,_,ad⟩:=run_append_own_at (P:=P) w w.heap.size t ty ti.elem i z te.size te.bytes (X.af M) hi hz Q S W B (.slice none 0 0) 0 [] (World.ownsRow_nil w _ _ _) ⟨b,o,none⟩ c.length cap a.flatten (by rw[F,v]) f H (by simpa using hl) (by simpa using J) (It _);have:=I (by simpa using y);exact⟨s,w',a,D,v,this.1,l,.inr this.2,R⟩
  ·rcases Nat.lt_or_ge G (css.length+c.length) with K|C
   ·obtain⟨s,w',D,y,l⟩:=run_append_arg_grows (P:=P) w t ty ti.elem i z te.size te.bytes (X.af M) hi hz Q S W B ⟨g,x,none⟩ css.length G css.flatten n (fun j u E=>by
      have:0<css.length:=by
       rcases Nat.eq_zero_or_pos css.length with e|e
       ·have:css=[]:=Mk e;subst this;simp at E
       ·exact e
      exact U j u E g x p d Y (V d9) a4) ⟨b,o,none⟩ c.length cap a.flatten (by rw[F,v]) f K hl J
    have:=I y;exact⟨s,w',a,D,v,this.1,⟨l.os,l.tape,l.output,l.size,fun k M _=>l.block k M l9⟩,.inr this.2,R⟩
   ·have hxp:=V d9;have O:a.flatten.length=c.length*te.size:=by rw[F,v]
    have T:d.toList.length=(p+G)*te.size:=by rw[<-a3];simp
    have Z:p*te.size+css.length*te.size+c.length*te.size<=d.toList.length:=by
     rw[T,<-Nat.add_mul,<-Nat.add_mul];exact Mt _ d9
    obtain⟨rs,N⟩:=iu (p*te.size+css.length*te.size+0) a.flatten d.toList (by rw[O];omega);have hg':w.heap[g]?=some (.cells d.toList.toArray ti.elem):=by simpa using Y
    obtain⟨w',q1,q2,q3,q4,q5,q6,q7⟩:=ub (P:=P) g (p*te.size+css.length*te.size) ti.elem a.flatten 0 d.toList rs w hg' H N;have hfc:=run_firstCells_some (P:=P) w te.size c.length ⟨b,o,none⟩ c.length cap a.flatten O f;refine⟨.slice (some ⟨g,x,none⟩) (css.length+c.length) G,w',a,?_,v,⟨.inr ⟨g,x,p,G,rs.toArray,by rw[MK,v],q2,by rw[MK,v];exact C,a2,by rw[List.size_toArray,(fS N).1,T],V,?_⟩,q,r⟩,⟨q5,q6,q7,d9,fun k M hn=>q3 k fun e=>hn (by rw[e];rfl)⟩,.inl rfl,R⟩
    ·simp[Builtin.append_,run_underlying (X.af M),sizeOf,typeInfo,hi,Builtin.lenOf,C,Q,hfc,fv,hxp,q1]
    ·rw[MK,v,List.flatten_append];apply Mn;intro j;simp only[Nat.add_mul];rw[Mu];split
     ·rename_i E;rw[Mm];show rs[p*te.size+j]?=_;rw[Y2 N];by_cases L:j<css.length*te.size
      ·rw[N1 d9,Mp d9,<-a4,List.getElem?_take_of_lt L,Mm]
      ·rw[N2 d9,Ma d9,n];congr 1;omega
     ·rw[Md];rw[MK,n,O];omega
end
theorem aS.append {c:Ctx} {w w':World} {m hdv:Value} {g:Os} {d sz e:Nat} {css:List (List Value)} {ls:List (List AV)} (aO:Q5 c w g) (q:∀b,hdv.ownBlock=some b↔∃id o,lk g id=some o/\aW c id o b) (hd:lk g d=none)
  (p:w.grownBy w' hdv.ownBlock) (ad:m.ownBlock=hdv.ownBlock\/∀b,m.ownBlock=some b->w.heap.size<=b) (G:K5 w' m sz e css) (hl:css.length=ls.length)
  (K:∀(i:Nat) (us:List Value) (u:List AV),css[i]?=some us->ls[i]?=some u->H5 c.Φ w us u) :
  aS c w (c.aN d m) w' g ((d,.row sz ls e)::I7 g) [d]:=by
 have C:(c.aN d m).hd d=m:=by simp[Ctx.aN]
 have L:∀id,(lk (I7 g) id).isSome=(lk g id).isSome:=re g;have k:∀b,hdv.ownBlock=some b->Touch c g ((d,.row sz ls e)::I7 g) b:=fun b f=>by
  obtain⟨id,o,n,r⟩:=(q b).1 f;refine⟨id,o,n,?_,r⟩;have D:d≠id:=fun e=>by rw[e,n] at hd;cases hd
  rw[E8 _ _ D,L,n];rfl
 have x:∀b,c.Φ b->w'.heap[b]?=w.heap[b]?:=fun b f=>p.block b (aO.aq b f) fun e=>by
  obtain⟨id,o,n,r⟩:=(q b).1 e.symm;exact(aO.lt id o b n r).2 f
 have j:∀b,aW (c.aN d m) d (.row sz ls e) b->w.heap.size<=b\/hdv.ownBlock=some b:=fun b a=>by
  simp only[aW,C] at a;rcases ad with h|h
  ·exact .inr (h▸a)
  ·exact .inl (h b a)
 have B:∀b,aW (c.aN d m) d (.row sz ls e) b->b<w'.heap.size/\¬c.Φ b:=fun b a=>by
  refine⟨?_,fun f=>?_⟩
  ·simp only[aW,C] at a;rcases G.bV with⟨e1,_⟩|⟨O,R,Q,H,F,e1,y,_⟩
   ·rw[e1] at a;cases a
   ·rw[e1] at a;injection a with a
    subst a;exact(Array.getElem?_eq_some_iff.1 y).1
  ·rcases j b a with h|h
   ·have:=aO.aq b f;omega
   ·obtain⟨id,o,n,r⟩:=(q b).1 h;exact(aO.lt id o b n r).2 f
 have l:∀id o,lk ((d,Obj.row sz ls e)::I7 g) id=some o->(id=d/\o=.row sz ls e)\/(id≠d/\o=.aF):=fun id o hl=>by
  rw[l8] at hl;split at hl
  ·rename_i e;cases hl;exact .inl ⟨e.symm,rfl⟩
  ·rename_i e;exact .inr ⟨fun h=>e h.symm,lq hl⟩
 refine⟨p.os,p.tape,p.output,p.size,fun b f=>f,fun b f=>.inl f,fun b f J=>p.block b f fun e=>J (k b e.symm),fun id z=>⟨rfl,by have:id≠d:=(by simpa using z);simp[Ctx.aN,this]⟩,
  ⟨fun id o hl=>?_,fun id o b hl a=>?_,fun id E o N b s hl A a v=>?_,fun b f=>Nat.lt_of_lt_of_le (aO.aq b f) p.size⟩,fun id o b hl a=>?_⟩
 ·rcases l id o hl with⟨rfl,rfl⟩|⟨_,rfl⟩
  ·exact⟨css,by rw[C];exact G,by assumption,fun i us u M I=>(K i us u M I).mono x fun _ h=>h⟩
  ·trivial
 ·rcases l id o hl with⟨rfl,rfl⟩|⟨_,rfl⟩
  ·exact B b a
  ·exact a.elim
 ·rcases l id o hl with⟨rfl,rfl⟩|⟨_,rfl⟩
  ·rcases l E N A with⟨rfl,rfl⟩|⟨_,rfl⟩
   ·exact s rfl
   ·exact v.elim
  ·exact a.elim
 ·rcases l id o hl with⟨rfl,rfl⟩|⟨_,rfl⟩
  ·exact(j b a).imp (fun h=>h) (k b)
  ·exact a.elim
def x5 : Value->AV
 |.int .i64 n=>bif MX n.natAbs 4611686018427387904 then .int n else .any
 |.int k n=>.ik k n
 |.bool b=>.bool b
 |.string s=>bif IN s.size 4294967296 then .str s else .any
 |.slice none 0 0=>.aJ
 |.pointer none=>.aa
 |.nilFunc=>.aP
 |.nilIface=>.dj true
 |v=>.aU v
def Km (c:Ctx) (w:World) (v:Value):Rd c w v (x5 v):=by
 unfold x5;split
 ·rename_i n;cases h:MX n.natAbs 4611686018427387904
  ·exact .fz (.any _)
  ·refine .fz (.int ?_);have:=MZ h;unfold I5;omega
 ·exact .fz (.ik _ _)
 ·exact .fz (.bool _)
 ·rename_i s;cases h:IN s.size 4294967296
  ·exact .fz (.any _)
  ·refine .fz (.str ?_);have:=MZ h;simp only[maxLen];omega
 ·exact .fz .aJ
 ·exact .fz .aa
 ·exact .fz .aP
 ·exact .fz .eO
 ·exact .fz (.aU _)
def cP (ts:Ts):Ev
 |.tmp t=>match lk ts t with
  |some a=>a
  |none=>.any
 |.const v=>x5 v
 |.global _=>.any
 |.func f=>.fn f []
def qB {c:Ctx} {w:World} {ts:Ts} {a:Act} (h:gL c w ts a) (x:Operand):Rd c w (a.eval x) (cP ts x):=by
 cases x with
 |tmp t =>
  unfold cP Act.eval;simp only;cases hl:lk ts t with
  |none=>exact Rd.dM _
  |some av =>
   obtain⟨v,b,d⟩:=h t av hl;simp only[Array.getD_eq_getD_getElem?,b,Option.getD_some];exact d
 |const v=>exact Km c w v
 |global g=>exact Rd.dM _
 |func f =>
  have:=Rd.fn (c:=c) (w:=w) (f:=f) .nil;exact this
def AV.cells? : AV->Option (List AV)
 |.agg b=>match b.all pt with
  |true=>some b
  |false=>none
 |.any=>none
 |.aZ _=>none
 |.aU v=>match v.oneCell' with
  |true=>some [.aU v]
  |false=>none
 |a=>some [a]
def kG {c:Ctx} {w:World} {v:Value} {a:AV} {g:List AV} (h:Rd c w v a) (d:a.cells?=some g):w9 c w v.cells.toList g/\∀u∈v.cells.toList,u.oneCell'=true:=by
 have b:pt a=true->g=[a]->w9 c w v.cells.toList g/\∀u∈v.cells.toList,u.oneCell'=true:=fun f k=>by
  have j:=h.one f;have e:v.cells=#[v]:=by cases v<;>first|rfl|cases j
  rw[e,k];exact⟨.cons h .nil,by simpa using j⟩
 cases a<;>simp only[AV.cells?,Option.some.injEq] at d<;>first|(exact b rfl d.symm)|cases d|skip
 split at d
 ·rename_i f;cases d;obtain⟨us,rfl,i⟩:=h.cU;exact⟨by simpa[Value.cells] using i,by simpa[Value.cells] using i.one f⟩
 ·cases d
 ·split at d
  ·rename_i f;exact b f (by injection d with e;exact e.symm)
  ·cases d
section
variable {P:Program} {tab:R9} {o:Oper} {ev:Ev} {os:Os} {K:Kt}
def DW {x:Operand} (a:o.op=.move x\/o.op=.assign x) (h:K (ev x) [] [] []):Y6 P o ev os K :=
 .pure (fun c w d b=>⟨d x,by rcases a with a|a<;>simp[execOp,a],b x (by rcases a with a|a<;>simp[a,Op.operands])⟩) h
def iO : Bool->Prop->Prop->Prop
 |true,X,_=>X
 |false,_,Y=>Y
def yi (ev:Ev) (c a b:Operand) (K:Kt):Prop :=
 match ev c with
 |.bool y=>iO y (K (ev a) [] [] []) (K (ev b) [] [] [])
 |_=>False
def Jd {x a b:Operand} (d:o.op=.pick x a b) (h:yi ev x a b K):Y6 P o ev os K:=by
 unfold yi at h;split at h
 ·rename_i y i;cases y
  ·refine .pure (av:=ev b) (fun c w g f=>?_) h;have e:=f x (by simp[d,Op.operands]);rw[i] at e;exact⟨g b,by simp[execOp,d,e.bL,asBool],f b (by simp[d,Op.operands])⟩
  ·refine .pure (av:=ev a) (fun c w g f=>?_) h;have e:=f x (by simp[d,Op.operands]);rw[i] at e;exact⟨g a,by simp[execOp,d,e.bL,asBool],f a (by simp[d,Op.operands])⟩
 ·exact h.elim
def yK (op:BinOp) (a b:Int) (K:AV->Prop):Prop :=
 match op with
 |.add=>(I5 (a+b)/\K (.int (a+b)))\/K (.int (IntKind.i64.wrap (a+b)))
 |.sub=>(I5 (a-b)/\K (.int (a-b)))\/K (.int (IntKind.i64.wrap (a-b)))
 |.mul=>(I5 (a*b)/\K (.int (a*b)))\/K (.int (IntKind.i64.wrap (a*b)))
 |.quo=>b≠0/\I5 (a.tdiv b)/\K (.int (a.tdiv b))
 |.rem=>b≠0/\I5 (a.tmod b)/\K (.int (a.tmod b))
 |.eql=>K (.bool (decide (a=b)))
 |.neq=>K (.bool (!decide (a=b)))
 |.lss=>K (.bool (decide (a<b)))
 |.leq=>K (.bool (decide (a<=b)))
 |.gtr=>K (.bool (decide (b<a)))
 |.geq=>K (.bool (decide (b<=a)))
 |_=>False
def zD (op:BinOp) (k:IntKind) (a b:Int) (K:AV->Prop):Prop :=
 match op with
 |.eql=>K (.bool (decide (a=b)))
 |.neq=>K (.bool (!decide (a=b)))
 |.lss=>K (.bool (decide (a<b)))
 |.leq=>K (.bool (decide (a<=b)))
 |.gtr=>K (.bool (decide (b<a)))
 |.geq=>K (.bool (decide (b<=a)))
 |.shr=>b=1/\K (.ik k (a / 2))
 |_=>False
def Y4 (a b:ByteArray):Bool:=Op.bytesLess a.toList b.toList
def yG (op:BinOp) (a b:ByteArray) (K:AV->Prop):Prop :=
 match op with
 |.add=>a.size+b.size<=4611686018427387904/\K (.str (a++b))
 |.eql=>K (.bool (decide (a=b)))
 |.neq=>K (.bool (!decide (a=b)))
 |.lss=>K (.bool (Y4 a b))
 |.leq=>K (.bool (Y4 a b || decide (a=b)))
 |.gtr=>K (.bool (!(Y4 a b || decide (a=b))))
 |.geq=>K (.bool (!Y4 a b))
 |_=>False
def kV (op:BinOp) (r:Bool) (K:AV->Prop):Prop :=
 match op with
 |.eql=>K (.bool r)
 |.neq=>K (.bool (!r))
 |_=>False
def d59 (tab:R9) (f:eK) (op:BinOp) (t:TypeId) (x y:AV) (K:AV->Prop):Prop :=
 match x,y with
 |.int a,.int b=>yK op a b K
 |.ik k a,.ik g b=>k=g/\zD op k a b K
 |.str a,.str b=>yG op a b K
 |.bool a,.bool b=>match lk tab t with
  |some ti=>match ti.kind with
   |6=>kV op (decide (a=b)) K
   |_=>False
  |none=>False
 |.agg d,.agg e=>match lk f t with
  |some c=>match jg c d && jg c e with
   |true=>kV op (cz d e) K
   |false=>False
  |none=>False
 |.ik k a,.int b=>match op with
  |.shr=>b=1/\K (.ik k (a / 2))
  |_=>False
 |.fL b,.aJ=>match lk tab t with
  |some ti=>match ti.kind with
   |2=>kV op b K
   |_=>False
  |none=>False
 |.aJ,.aJ=>match lk tab t with
  |some ti=>match ti.kind with
   |2=>kV op true K
   |_=>False
  |none=>False
 |.fp _,.aa=>match lk tab t with
  |some ti=>match ti.kind with
   |7=>kV op false K
   |_=>False
  |none=>False
 |.aa,.aa=>match lk tab t with
  |some ti=>match ti.kind with
   |7=>kV op true K
   |_=>False
  |none=>False
 |_,_=>False
def FZ (w:World) (d:Nat) (t e:TypeId) (a:Option Addr) (h:P.underlying t=some (.pointer e)):(Op.equalIn (d+1) t (.pointer a) (.pointer none)).run P w=.ok a.isNone w:=by
 cases a<;>simp[Op.equalIn,run_underlying h]
def AF (w:World) (t e:TypeId) (a:Option Addr) (h:P.underlying t=some (.pointer e)):(Op.equal t (.pointer a) (.pointer none)).run P w=.ok a.isNone w:=FZ w 9999 t e a h
def yQ (n:Int):I5 (IntKind.i64.wrap n):=by
 have a:IntKind.i64.bits=64:=rfl;have b:IntKind.i64.signed=true:=rfl;unfold I5 IntKind.wrap;rw[a,b];simp only[Bool.true_and,NA];split<;>omega
def JY {op:BinOp} {t:TypeId} {x y:Operand} {a b:Int} {K:AV->Prop} (h:yK op a b K) :
  ∃v av,K av/\∀(w:World) (Φ:Nat->Prop),(do eqGuard op t x y (.int .i64 a) (.int .i64 b);binOp op t (.int .i64 a) (.int .i64 b):Sem Value).run P w=.ok v w/\Rf Φ w v av:=by
 have wr:∀n,I5 n->IntKind.i64.wrap n=n:=fun n hn=>IntWalk.i64_in n hn;cases op<;>simp only[yK] at h
 case add =>
  rcases h with h|h
  ·exact⟨.int .i64 (a+b),_,h.2,fun w Φ=>⟨by simp[eqGuard,binOp,Op.intArith,wr _ h.1],.int h.1⟩⟩
  ·exact⟨.int .i64 (IntKind.i64.wrap (a+b)),_,h,fun w Φ=>⟨by simp[eqGuard,binOp,Op.intArith],.int (yQ _)⟩⟩
 case sub =>
  rcases h with h|h
  ·exact⟨.int .i64 (a-b),_,h.2,fun w Φ=>⟨by simp[eqGuard,binOp,Op.intArith,wr _ h.1],.int h.1⟩⟩
  ·exact⟨.int .i64 (IntKind.i64.wrap (a-b)),_,h,fun w Φ=>⟨by simp[eqGuard,binOp,Op.intArith],.int (yQ _)⟩⟩
 case mul =>
  rcases h with h|h
  ·exact⟨.int .i64 (a*b),_,h.2,fun w Φ=>⟨by simp[eqGuard,binOp,Op.intArith,wr _ h.1],.int h.1⟩⟩
  ·exact⟨.int .i64 (IntKind.i64.wrap (a*b)),_,h,fun w Φ=>⟨by simp[eqGuard,binOp,Op.intArith],.int (yQ _)⟩⟩
 case quo=>exact⟨.int .i64 (a.tdiv b),_,h.2.2,fun w Φ=>⟨by simp[eqGuard,binOp,Op.intDiv,h.1,wr _ h.2.1],.int h.2.1⟩⟩
 case rem=>exact⟨.int .i64 (a.tmod b),_,h.2.2,fun w Φ=>⟨by simp[eqGuard,binOp,Op.intDiv,h.1],.int h.2.1⟩⟩
 case eql=>exact⟨.bool (decide (a=b)),_,h,fun w Φ=>⟨by simp[eqGuard,binOp,Op.intCmp,Bool.beq_eq_decide_eq],.bool _⟩⟩
 case neq=>exact⟨.bool (!decide (a=b)),_,h,fun w Φ=>⟨by simp[eqGuard,binOp,Op.intCmp,bne,Bool.beq_eq_decide_eq],.bool _⟩⟩
 case lss=>exact⟨.bool (decide (a<b)),_,h,fun w Φ=>⟨by simp[eqGuard,binOp,Op.intCmp],.bool _⟩⟩
 case leq=>exact⟨.bool (decide (a<=b)),_,h,fun w Φ=>⟨by simp[eqGuard,binOp,Op.intCmp],.bool _⟩⟩
 case gtr=>exact⟨.bool (decide (b<a)),_,h,fun w Φ=>⟨by simp[eqGuard,binOp,Op.intCmp],.bool _⟩⟩
 case geq=>exact⟨.bool (decide (b<=a)),_,h,fun w Φ=>⟨by simp[eqGuard,binOp,Op.intCmp],.bool _⟩⟩
def IK {w:World} {P:Program} {t:TypeId} {x y:Operand} {k:IntKind} {a:Int}:(do eqGuard .shr t x y (.int k a) (.int k 1);binOp .shr t (.int k a) (.int k 1):Sem Value).run P w=.ok (.int k (a / 2)) w:=by
 have b:min (1:Int).toNat k.bits=1:=by cases k<;>rfl
 simp only[eqGuard,binOp,Op.shift,b];simp[Int.fdiv_eq_ediv_of_nonneg]
def Jj {op:BinOp} {t:TypeId} {x y:Operand} {k:IntKind} {a b:Int} {K:AV->Prop} (h:zD op k a b K) :
  ∃v av,K av/\∀(w:World) (Φ:Nat->Prop),(do eqGuard op t x y (.int k a) (.int k b);binOp op t (.int k a) (.int k b):Sem Value).run P w=.ok v w/\Rf Φ w v av:=by
 cases op<;>simp only[zD] at h
 case shr=>obtain⟨rfl,h⟩:=h;exact⟨.int k (a / 2),_,h,fun w Φ=>⟨IK,.ik _ _⟩⟩
 case eql=>exact⟨.bool (decide (a=b)),_,h,fun w Φ=>⟨by simp[eqGuard,binOp,Op.intCmp,Bool.beq_eq_decide_eq],.bool _⟩⟩
 case neq=>exact⟨.bool (!decide (a=b)),_,h,fun w Φ=>⟨by simp[eqGuard,binOp,Op.intCmp,bne,Bool.beq_eq_decide_eq],.bool _⟩⟩
 case lss=>exact⟨.bool (decide (a<b)),_,h,fun w Φ=>⟨by simp[eqGuard,binOp,Op.intCmp],.bool _⟩⟩
 case leq=>exact⟨.bool (decide (a<=b)),_,h,fun w Φ=>⟨by simp[eqGuard,binOp,Op.intCmp],.bool _⟩⟩
 case gtr=>exact⟨.bool (decide (b<a)),_,h,fun w Φ=>⟨by simp[eqGuard,binOp,Op.intCmp],.bool _⟩⟩
 case geq=>exact⟨.bool (decide (b<=a)),_,h,fun w Φ=>⟨by simp[eqGuard,binOp,Op.intCmp],.bool _⟩⟩
def Ix {op:BinOp} {t:TypeId} {x y:Operand} {a b:ByteArray} {K:AV->Prop} (h:yG op a b K) :
  ∃v av,K av/\∀(w:World) (Φ:Nat->Prop),(do eqGuard op t x y (.string a) (.string b);binOp op t (.string a) (.string b):Sem Value).run P w=.ok v w/\Rf Φ w v av:=by
 cases op<;>simp only[yG] at h
 case add =>
  have hn:¬(((a.size+b.size:Nat):Int) > IntKind.i64.max):=by
   have:IntKind.i64.max=9223372036854775807:=G8;rw[this];omega
  exact⟨.string (a++b),_,h.2,fun w Φ=>⟨by simp only[eqGuard,binOp,Op.stringOp];rw[N1 hn];simp,.str (by rw[ByteArray.size_append];simp only[maxLen];omega)⟩⟩
 case eql=>exact⟨.bool (decide (a=b)),_,h,fun w Φ=>⟨by simp[eqGuard,binOp,Op.stringOp,sE],.bool _⟩⟩
 case neq=>exact⟨.bool (!decide (a=b)),_,h,fun w Φ=>⟨by simp[eqGuard,binOp,Op.stringOp,sE],.bool _⟩⟩
 case lss=>exact⟨.bool (Y4 a b),_,h,fun w Φ=>⟨by simp[eqGuard,binOp,Op.stringOp,Y4],.bool _⟩⟩
 case leq=>exact⟨.bool (Y4 a b || decide (a=b)),_,h,fun w Φ=>⟨by simp[eqGuard,binOp,Op.stringOp,Y4,sE],.bool _⟩⟩
 case gtr=>exact⟨.bool (!(Y4 a b || decide (a=b))),_,h,fun w Φ=>⟨by simp[eqGuard,binOp,Op.stringOp,Y4,sE],.bool _⟩⟩
 case geq=>exact⟨.bool (!Y4 a b),_,h,fun w Φ=>⟨by simp[eqGuard,binOp,Op.stringOp,Y4],.bool _⟩⟩
def nc {op:BinOp} {r:Bool} {K:AV->Prop} (h:kV op r K):∃b,(op=.eql/\b=r\/op=.neq/\b=!r)/\K (.bool b):=by
 cases op<;>simp only[kV] at h
 ·exact⟨r,.inl ⟨rfl,rfl⟩,h⟩
 ·exact⟨!r,.inr ⟨rfl,rfl⟩,h⟩
def LB {N:eK} (E:M9 P tab) (O:fw P N) {op:BinOp} {t Z:TypeId} {x y:Operand} (M:o.op=.binOp op t x y Z) (h:d59 tab N op t (ev x) (ev y) (fun av=>K av [] [] [])):Y6 P o ev os K:=by
 have H:∀{c:Ctx} {w:World} {f:Operand->Value},(∀z∈o.op.operands.toList,Rd c w (f z) (ev z))->Rd c w (f x) (ev x)/\Rd c w (f y) (ev y):=fun m=>⟨m x (by simp[M,Op.operands]),m y (by simp[M,Op.operands])⟩;have run:∀(f:Operand->Value) (w:World),(execOp f o).run P w=((do eqGuard op t x y (f x) (f y);binOp op t (f x) (f y):Sem Value).run P w).andThen fun v w'=>.ok (.value v) w':=fun f w=>by
  simp only[execOp,M,Sem.run_bind];simp
 have close:∀av:AV,K av [] [] []->(∀(c:Ctx) (w:World) (f:Operand->Value),Rd c w (f x) (ev x)->Rd c w (f y) (ev y)->∃v,(do eqGuard op t x y (f x) (f y);binOp op t (f x) (f y):Sem Value).run P w=.ok v w/\Rd c w v av)->Y6 P o ev os K:=fun av V X =>
  .pure (fun c w f m=>by
   obtain⟨v,l,u⟩:=X c w f (H m).1 (H m).2;exact⟨v,by rw[run,l];rfl,u⟩) V
 unfold d59 at h;split at h
 ·rename_i a b q s;obtain⟨v,av,l,u⟩:=JY (P:=P) (t:=t) (x:=x) (y:=y) h;refine close av l fun c w f i j=>?_;rw[q] at i;rw[s] at j;rw[i.ah.1,j.ah.1];exact⟨v,(u w c.Φ).1,.fz (u w c.Φ).2⟩
 ·rename_i k a k' b q s;obtain⟨rfl,h⟩:=h;obtain⟨v,av,l,u⟩:=Jj (P:=P) (t:=t) (x:=x) (y:=y) h;refine close av l fun c w f i j=>?_;rw[q] at i;rw[s] at j;rw[i.kf,j.kf];exact⟨v,(u w c.Φ).1,.fz (u w c.Φ).2⟩
 ·rename_i a b q s;obtain⟨v,av,l,u⟩:=Ix (P:=P) (t:=t) (x:=x) (y:=y) h;refine close av l fun c w f i j=>?_;rw[q] at i;rw[s] at j;rw[i.bY.1,j.bY.1];exact⟨v,(u w c.Φ).1,.fz (u w c.Φ).2⟩
 ·rename_i a b q s;split at h
  ·rename_i ti p;split at h
   ·rename_i B;obtain⟨d,hd,L⟩:=(E t ti p).fq;have J:P.underlying t=some .bool:=by
     cases d<;>simp only[gP,B,IT,NA] at L<;>first|omega|exact hd
    obtain⟨r,m,l⟩:=nc h;refine close _ l fun c w f i j=>?_;rw[q] at i;rw[s] at j;rw[i.bL,j.bL];have e:=run_equalIn_bool' (P:=P) w 9999 t a b J;refine⟨.bool r,?_,.fz (.bool _)⟩;rcases m with⟨rfl,rfl⟩|⟨rfl,rfl⟩
    ·simp[eqGuard,binOp,Op.equal,Op.maxDepth,e,Bool.beq_eq_decide_eq]
    ·simp[eqGuard,binOp,Op.equal,Op.maxDepth,e,Bool.beq_eq_decide_eq]
   ·exact h.elim
  ·exact h.elim
 ·rename_i xs ys q s;split at h
  ·rename_i Q G;split at h
   ·rename_i F;simp only[IT] at F;obtain⟨r,m,l⟩:=nc h;refine close _ l fun c w f i j=>?_;rw[q] at i;rw[s] at j;obtain⟨us,e1,R⟩:=i.cU;obtain⟨vs,D,S⟩:=j.cU;have f1:=yA F.1 F.2 R S;have U:=yA F.2 F.1 S R;have e:=(O t Q G).run w f1.1 U.1;have g:=run_eqGuard_agg (P:=P) w op t x y us.toArray vs.toArray (O t Q G).guard;refine⟨.bool r,?_,.fz (.bool _)⟩;rw[e1,D];rcases m with⟨rfl,rfl⟩|⟨rfl,rfl⟩
    ·simp[g,run_eql_struct,e,f1.2]
    ·simp[g,run_neq_struct,e,f1.2]
   ·exact h.elim
  ·exact h.elim
 ·rename_i k a b q s;split at h
  ·obtain⟨rfl,h⟩:=h;refine close _ h fun c w f i j=>?_;rw[q] at i;rw[s] at j;rw[i.kf,j.ah.1];refine⟨.int k (a / 2),?_,.fz (.ik _ _)⟩;have W:min (1:Int).toNat k.bits=1:=by cases k<;>rfl
   simp only[eqGuard,binOp,Op.shift,W];simp[Int.fdiv_eq_ediv_of_nonneg]
  ·exact h.elim
 ·rename_i b q s;split at h
  ·rename_i ti p;split at h
   ·rename_i B;have C:=(E t ti p).af B;obtain⟨r,m,l⟩:=nc h;refine close _ l fun c w f i j=>?_;rw[q] at i;rw[s] at j;obtain⟨A,n,k,e1,D⟩:∃A n k,f x=.slice A n k/\b=A.isNone:=i.zL;rw[e1,j.bH];have e:=run_equal_slice_nil (P:=P) w t ti.elem A n k C;refine⟨.bool r,?_,.fz (.bool _)⟩;rw[D] at m;rcases m with⟨rfl,rfl⟩|⟨rfl,rfl⟩
    ·simp[eqGuard,binOp,e]
    ·simp[eqGuard,binOp,e]
   ·exact h.elim
  ·exact h.elim
 ·rename_i q s;split at h
  ·rename_i ti p;split at h
   ·rename_i B;have C:=(E t ti p).af B;obtain⟨r,m,l⟩:=nc h;refine close _ l fun c w f i j=>?_;rw[q] at i;rw[s] at j;obtain⟨A,n,k,e1,D⟩:∃A n k,f x=.slice A n k/\true=A.isNone:=⟨none,0,0,i.bH,rfl⟩;rw[e1,j.bH];have e:=run_equal_slice_nil (P:=P) w t ti.elem A n k C;refine⟨.bool r,?_,.fz (.bool _)⟩;rw[D] at m;rcases m with⟨rfl,rfl⟩|⟨rfl,rfl⟩
    ·simp[eqGuard,binOp,e]
    ·simp[eqGuard,binOp,e]
   ·exact h.elim
  ·exact h.elim
 ·rename_i cs q s;split at h
  ·rename_i ti p;split at h
   ·rename_i B;obtain⟨I,C⟩:=(E t ti p).cm B;obtain⟨r,m,l⟩:=nc h;refine close _ l fun c w f i j=>?_;rw[q] at i;rw[s] at j;obtain⟨T,Y,us0,e1,-,-,-⟩:=i.vt;rw[e1,j.gU];have e:=AF (P:=P) w t I (some ⟨T,Y,none⟩) C;refine⟨.bool r,?_,.fz (.bool _)⟩;rcases m with⟨rfl,rfl⟩|⟨rfl,rfl⟩
    ·simp[eqGuard,binOp,e]
    ·simp[eqGuard,binOp,e]
   ·exact h.elim
  ·exact h.elim
 ·rename_i q s;split at h
  ·rename_i ti p;split at h
   ·rename_i B;obtain⟨I,C⟩:=(E t ti p).cm B;obtain⟨r,m,l⟩:=nc h;refine close _ l fun c w f i j=>?_;rw[q] at i;rw[s] at j;rw[i.gU,j.gU];have e:=AF (P:=P) w t I none C;refine⟨.bool r,?_,.fz (.bool _)⟩;rcases m with⟨rfl,rfl⟩|⟨rfl,rfl⟩
    ·simp[eqGuard,binOp,e]
    ·simp[eqGuard,binOp,e]
   ·exact h.elim
  ·exact h.elim
 ·exact h.elim
def yp : Operand->Bool
 |.const .nilIface=>true
 |_=>false
def yI (tab:R9) (op:BinOp) (t:TypeId) (x y:AV) (K:Kt):Prop :=
 match x,y,lk tab t with
 |.dj a,.dj true,some ti=>ti.kind=9/\kV op a fun av=>K av [] [] []
 |_,_,_=>False
def L0 (q:M9 P tab) {op:BinOp} {t v:TypeId} {x y:Operand} (b:o.op=.binOp op t x y v) (f:yp y=true) (h:yI tab op t (ev x) (ev y) K):Y6 P o ev os K:=by
 unfold yp at f;split at f
 ·unfold yI at h;split at h
  ·rename_i a ti u f j;obtain⟨s,h⟩:=h;have g:=(q t ti j).oL s;obtain⟨r,k,n⟩:=nc h;refine .pure (fun c w z d=>⟨.bool r,?_,.fz (.bool _)⟩) n;have l:=d x (by simp[b,Op.operands]);rw[u] at l;have m:=d _ (by simp[b,Op.operands];exact .inr rfl);rw[f] at m;have i:z (.const .nilIface)=.nilIface:=by
    rcases m.oM with⟨e,_⟩|⟨_,_,_,e⟩
    ·exact e
    ·cases e
   rcases l.oM with⟨e1,rfl⟩|⟨A,p,e1,rfl⟩
   ·rcases k with⟨rfl,rfl⟩|⟨rfl,rfl⟩<;>cases x<;>first
     |(simp[execOp,b,eqGuard,e1,i,run_eql_nil_nil_at (P:=P) w t g,run_neq_nil_nil_at (P:=P) w t g];done)
   ·rcases k with⟨rfl,rfl⟩|⟨rfl,rfl⟩
    ·simp[execOp,b,eqGuard,e1,i,run_eql_iface_nil (P:=P) w t g]
    ·simp[execOp,b,eqGuard,e1,i,run_neq_iface_nil (P:=P) w t g]
  ·exact h.elim
 ·cases f
end
section
variable {P:Program} {tab:R9} {o:Oper} {ev:Ev} {os:Os} {K:Kt}
def yu (op:UnOp) (x:AV) (K:Kt):Prop :=
 match op,x with
 |.not,.bool b=>K (.bool (!b)) [] [] []
 |.neg,.int n=>I5 (-n)/\K (.int (-n)) [] [] []
 |_,_=>False
def Lb {op:UnOp} {t:TypeId} {x:Operand} (a:o.op=.unOp op t x) (h:yu op (ev x) K):Y6 P o ev os K:=by
 unfold yu at h;split at h
 ·rename_i b e;refine .pure (fun c w f d=>⟨.bool (!b),?_,.fz (.bool _)⟩) h;have:=d x (by simp[a,Op.operands]);rw[e] at this;simp[execOp,a,this.bL,Op.unary]
 ·rename_i n e;refine .pure (fun c w f d=>⟨.int .i64 (-n),?_,.fz (.int h.1)⟩) h.2;have:=d x (by simp[a,Op.operands]);rw[e] at this;simp[execOp,a,this.ah.1,Op.unary,Op.intArith,IntWalk.i64_in _ h.1]
 ·exact h.elim
def d16 (x:AV) (K:Kt):Prop :=
 match x with
 |.ptr _ _=>K x [] [] []
 |.fp _=>K x [] [] []
 |.ep _ _ _ _=>K x [] [] []
 |_=>False
def Kk {x:Operand} (j:o.op=.nilCheck x) (h:d16 (ev x) K):Y6 P o ev os K:=by
 have key:(∀(c:Ctx) (w:World) (v:Value),Rd c w v (ev x)->∃a,v=.pointer (some a))->K (ev x) [] [] []->Y6 P o ev os K:=fun n k =>
  .pure (fun c w q p=>by
   have i:=p x (by simp[j,Op.operands]);obtain⟨a,l⟩:=n c w _ i;exact⟨q x,by simp[execOp,j,l],i⟩) k
 unfold d16 at h;split at h
 ·rename_i f;exact key (fun c w v d=>by rw[f] at d;exact⟨_,d.cm⟩) h
 ·rename_i f;exact key (fun c w v d=>by rw[f] at d;obtain⟨b,o,us,e,_⟩:=d.vt;exact⟨_,e⟩) h
 ·rename_i f;exact key (fun c w v d=>by rw[f] at d;obtain⟨g,x,m,cap,e,_⟩:=d.oK;exact⟨_,e⟩) h
 ·exact h.elim
def xT (x:AV) (i:Nat) (K:Kt):Prop :=
 match x with
 |.aZ l=>match bB i 1 l with
  |some [a]=>K a [] [] []
  |_=>False
 |_=>False
def CU {b:Type} {i:Nat} {l:List b} {a:b} (h:bB i 1 l=some [a]):l[i]?=some a:=by
 have:=DU h (show 0<1 by omega);simpa using this.symm
def d33 {x:Operand} {i:Nat} (d:o.op=.extract x i) (h:xT (ev x) i K):Y6 P o ev os K:=by
 unfold xT at h;split at h
 ·rename_i l n;split at h
  ·rename_i a j;refine .pure (fun c w p k=>?_) h;have b:=k x (by simp[d,Op.operands]);rw[n] at b;obtain⟨us,e,f⟩:=b.fo;obtain⟨v,m,g⟩:=f.get (CU j);exact⟨v,by simp[execOp,d,e,Instr.extract,m],g⟩
  ·exact h.elim
 ·exact h.elim
theorem ss {c:Ctx} {w:World} {b:Operand->Value}:∀{a:List Operand},(∀x∈a,Rd c w (b x) (ev x))->w9 c w (a.map b) (a.map ev)
 |[],_=>.nil
 |x::a,h=>.cons (h x l9) (ss fun y d=>h y (by simp[d]))
def yn (ev:Ev) (fn:Fn) (first a:Array Operand) (K:Kt):Prop :=
 match fn,first.toList with
 |.func f,[]=>K (.fn f (a.toList.map ev)) [] [] []
 |_,_=>False
def KH {fn:Fn} {first a:Array Operand} (e:o.op=.makeFunc fn first a) (h:yn ev fn first a K):Y6 P o ev os K:=by
 unfold yn at h;split at h
 ·rename_i f d;refine .pure (fun c w b i=>⟨.func (.func f) #[] (a.toList.map b).toArray,?_,.fn (ss fun x j=>i x (by simp[e,Op.operands,d];simpa using j))⟩) h;have:first=#[]:=by simpa using d
  have g:a.map b=(a.toList.map b).toArray:=by apply Array.toList_inj.1;simp
  simp[execOp,e,Instr.makeFunc,this,g]
 ·exact h.elim
def d58 {a:Type}:Nat->List a->Option (List a)
 |0,l=>some l
 |n+1,_::l=>d58 n l
 |_+1,[]=>none
theorem BZ {a:Type}:∀{n:Nat} {l r:List a},d58 n l=some r->r=l.drop n
 |0,l,r,h=>by cases h;rfl
 |n+1,_::l,r,h=>by simpa using BZ (n:=n) (l:=l) h
 |n+1,[],r,h=>by cases h
def pz : Nat->List (Nat×Nat×Bool)->Option (Nat×Nat×Bool)
 |0,a::_=>some a
 |n+1,_::l=>pz n l
 |_,[]=>none
theorem uU : ∀{n:Nat} {l:List (Nat×Nat×Bool)} {a:Nat×Nat×Bool},pz n l=some a->l[n]?=some a
 |0,a::l,b,h=>by cases h;rfl
 |n+1,_::l,a,h=>by simpa using uU (n:=n) (l:=l) h
 |0,[],a,h=>by cases h
 |n+1,[],a,h=>by cases h
def d17 (x:AV) (n:Nat):Option AV :=
 match x with
 |.ptr id off=>some (.ptr id (off+n))
 |.ep id i sz off=>some (.ep id i sz (off+n))
 |.fp a=>match d58 n a with
  |some r=>some (.fp r)
  |none=>none
 |_=>none
def DQ {c:Ctx} {w:World} {v:Value} {x y:AV} {n:Nat} (h:Rd c w v x) (a:d17 x n=some y):∃b p,v=.pointer (some ⟨b,p,none⟩)/\Rd c w (.pointer (some ⟨b,p+n,none⟩)) y:=by
 unfold d17 at a;split at a
 ·cases a;rw[h.cm];exact⟨_,_,rfl,.ptr rfl⟩
 ·cases a;obtain⟨g,x,m,cap,e,l⟩:=h.oK;rw[e];refine⟨_,_,rfl,?_⟩;rw[Mo];exact .ep l
 ·rename_i s;split at a
  ·rename_i r q;cases a;obtain⟨b,p,us,e,f,i,k⟩:=h.vt;rw[e,BZ q];refine⟨b,p,rfl,.fz (.fp (us:=us.drop n) f (fun j u d=>?_) ?_)⟩
   ·rw[Mm] at d;have:=i (n+j) u d
    rwa [show p+n+j=p+(n+j) by omega]
   ·exact H5.drop k n
  ·cases a
 ·cases a
def wK (tab:R9) (s:TypeId) (x:AV) (f:Nat) (K:Kt):Prop :=
 match lk tab s with
 |some ti=>match ti.kind,pz f ti.fields with
  |1,some (off,sz,_)=>match sz,d17 x off with
   |0,_=>False
   |_+1,some y=>K y [] [] []
   |_,none=>False
  |_,_=>False
 |none=>False
def HE (v:M9 P tab) {s:TypeId} {x:Operand} {f:Nat} (l:o.op=.fieldAddr s x f) (h:wK tab s (ev x) f K):Y6 P o ev os K:=by
 unfold wK at h;split at h
 ·rename_i ti k;split at h
  ·rename_i off sz m A z;split at h
   ·exact h.elim
   ·rename_i H y C E;obtain⟨fs,D,g⟩:=(v s ti k).dF A;obtain⟨n,q,r,⟨i,t,u⟩,d,F,G⟩:=uh fs.toList ti.fields g f off _ m (uU z);refine .pure (fun c w I B=>?_) h;obtain⟨b,p,e,j⟩:=DQ (B x (by simp[l,Op.operands])) E;refine⟨_,?_,j⟩;have a:fs[f]?=some n:=by simpa using q
    simp[execOp,l,Instr.fieldAt,run_underlying D,a,Instr.sureAddr,e,fieldPlace,sizeOf,typeInfo,t,u,fv,r]
   ·exact h.elim
  ·exact h.elim
 ·exact h.elim
def kM (ti:TI) (b:List AV) (off:Nat):Option AV :=
 match ti.agg with
 |true=>match bB off ti.size b with
  |some l=>some (.agg l)
  |none=>none
 |false=>match bB off 1 b with
  |some [a]=>some a
  |_=>none
def Kb {c:Type} {o n:Nat} {l:List c} (h:o+n<=l.length):∃r,bB o n l=some r:=by
 induction o generalizing l with
 |zero =>
  induction n generalizing l with
  |zero=>exact⟨[],by cases l<;>simp[bB]⟩
  |succ n ih =>
   cases l with
   |nil=>simp at h
   |cons a l =>
    obtain⟨r,b⟩:=ih (l:=l) (by simp at h⊢;omega);exact⟨a::r,by simp[bB,b]⟩
 |succ o ih =>
  cases l with
  |nil=>simp at h
  |cons a l =>
   obtain⟨r,b⟩:=ih (l:=l) (by simp at h⊢;omega);exact⟨r,by simpa[bB] using b⟩
theorem w9.bB {c:Ctx} {w:World} {vs:List Value} {a_ r:List AV} (h:w9 c w vs a_) {o n:Nat} (f:bB o n a_=some r):∃us,Go.Proofs.YtibjcppjfkamhaaGreatDoor.bB o n vs=some us/\w9 c w us r/\us.length=n:=by
 obtain⟨d,e⟩:=sC f;obtain⟨us,a⟩:=Kb (o:=o) (n:=n) (l:=vs) (by rw[h.length];exact e);obtain⟨b,g⟩:=sC a;refine⟨us,a,?_,?_⟩
 ·rw[d,b];exact(h.drop o).take n
 ·rw[b,Mq,List.length_drop];omega
def pL {t:TypeId} {ti:TI} (g:X4 P t ti) {c:Ctx} {w:World} {us:List Value} {C:List AV} {off b p:Nat} {av:AV} (hl:kM ti C off=some av) (D:w9 c w us C)
  (E:∀j u,us[j]?=some u->w.cell? ⟨b,p+j,none⟩=some u):∃v,(Instr.loadAt t (.pointer (some ⟨b,p+off,none⟩))).run P w=.ok v w/\Rd c w v av:=by
 have cells:∀{n:Nat} {r:List Value},Go.Proofs.YtibjcppjfkamhaaGreatDoor.bB off n us=some r->∀j u,r[j]?=some u->w.cell? ⟨b,p+off+j,none⟩=some u:=by
  intro n r d j u s;have x:j<n:=by
   have:=(ME.1 s).1;rw[(sC d).1,Mq] at this;omega
  rw[DU d x] at s;rw[Mo];exact E _ u s
 unfold kM at hl;split at hl
 ·rename_i e;split at hl
  ·rename_i l d;cases hl;obtain⟨r,k,m,q⟩:=D.bB d;refine⟨_,g.run_load w b (p+off) r q (.inl e) (cells k),?_⟩;rw[e];exact .agg m
  ·cases hl
 ·rename_i e;split at hl
  ·rename_i a d;cases hl;obtain⟨r,k,m,q⟩:=D.bB d;obtain⟨u,rfl⟩:=List.length_eq_one_iff.1 q;have y:ti.size=1:=by
    obtain⟨i,z,hi,G,F,H,B,f⟩:=g.info;have A:=(lQ (fun _=>False) w _ _ B).1.length;rw[<-g.zl,<-A];rw[e] at f;cases z<;>first|rfl|cases f
   refine⟨_,g.run_load w b (p+off) [u] (by rw[y];rfl) (.inr rfl) (cells k),?_⟩;rw[e];cases m with|cons h _=>exact h
  ·cases hl
def yf (tab:R9) (os:Os) (t:TypeId) (x:AV) (K:Kt):Prop :=
 match lk tab t with
 |some ti=>match x with
  |.fp a=>match kM ti a 0 with
   |some av=>K av [] [] []
   |none=>False
  |.ptr id off=>match lk os id with
   |some (.box a _)=>match kM ti a off with
    |some av=>K av [id] [] []
    |none=>False
   |_=>False
  |.ep id i sz off=>match lk os id with
   |some (.row b ls _)=>match AT sz b with
    |true=>i<ls.length/\∀a,ls[i]?=some a->match kM ti a off with
     |some av=>K av [id] [] []
     |none=>False
    |false=>False
   |_=>False
  |_=>False
 |none=>False
def Ju (Q:M9 P tab) {t:TypeId} {x:Operand} (D:o.op=.load t x) (h:yf tab os t (ev x) K):Y6 P o ev os K:=by
 have run:∀(r:Operand->Value) (w:World),(execOp r o).run P w=((Instr.loadAt t (r x)).run P w).andThen fun v w'=>.ok (.value v) w':=fun r w=>by simp[execOp,D]
 unfold yf at h;split at h
 ·rename_i ti G;have n:=Q t ti G;split at h
  ·rename_i M A;split at h
   ·rename_i av a;refine .pure (fun c w r z=>?_) h;have f:=z x (by simp[D,Op.operands]);rw[A] at f;obtain⟨b,p,us,e,B,C,E⟩:=f.vt;obtain⟨v,l,s⟩:=pL n a (.bC E) C;exact⟨v,by rw[run,e];simp only[Nat.add_zero] at l;rw[l];rfl,s⟩
   ·exact h.elim
  ·rename_i id off A;split at h
   ·rename_i M e q;split at h
    ·rename_i av a;refine .read q (fun c w r d z=>?_) h;have f:=z x (by simp[D,Op.operands]);rw[A] at f;obtain⟨us,B,C⟩:=d;obtain⟨v,l,s⟩:=pL (b:=c.μ id) (p:=0) n a C (fun j u T=>by
      unfold World.cell?;simp only[Mi,B];simpa using T)
     rw[Mi] at l;exact⟨v,by rw[run,f.cm,l];rfl,s⟩
    ·exact h.elim
   ·exact h.elim
  ·rename_i id i sz off A;split at h
   ·rename_i U ls e q;split at h
    ·rename_i F;obtain rfl:=MN F;obtain⟨hi,h⟩:=h;have y:ls[i]?=some ls[i]:=IS hi;have h:=h _ y;split at h
     ·rename_i av a;refine .read q (fun c w r d z=>?_) h;have f:=z x (by simp[D,Op.operands]);rw[A] at f;obtain⟨g,V,m,cap,e1,S⟩:=f.oK;obtain⟨css,B,C,E⟩:=d;have k:css[i]?=some (css[i]' d9):=IS d9;obtain⟨I,L,H,J,W,R⟩:=B.cells k;have O:I=g/\L=V:=by rw[S] at J;injection J with e _ _;injection e with e;injection e with e N _;exact⟨e.symm,N.symm⟩
      obtain⟨rfl,rfl⟩:=O;obtain⟨v,l,s⟩:=pL (b:=I) (p:=L+i*sz) n a (.bC (E i _ _ k y)) R;exact⟨v,by rw[run,e1,l];rfl,s⟩
     ·exact h.elim
    ·exact h.elim
   ·exact h.elim
  ·exact h.elim
 ·exact h.elim
def yN (tab:R9) (s:TypeId) (x:AV) (f:Nat) (K:Kt):Prop :=
 match lk tab s with
 |some ti=>match ti.kind,pz f ti.fields,x with
  |1,some (off,sz,true),.agg b=>match bB off sz b with
   |some l=>K (.agg l) [] [] []
   |none=>False
  |1,some (off,_,false),.agg b=>match bB off 1 b with
   |some [a]=>K a [] [] []
   |_=>False
  |_,_,_=>False
 |none=>False
def JW (I:M9 P tab) {s:TypeId} {x:Operand} {f:Nat} (q:o.op=.field s x f) (h:yN tab s (ev x) f K):Y6 P o ev os K:=by
 unfold yN at h;split at h
 ·rename_i ti n;split at h
  ·rename_i off sz L C B F;split at h
   ·rename_i l hl;obtain⟨fs,E,j⟩:=(I s ti n).dF C;obtain⟨p,u,y,⟨i,G,H⟩,d,z,m⟩:=uh fs.toList ti.fields j f off _ _ (uU B);refine .pure (fun c w M D=>?_) h;have b:=D x (by simp[q,Op.operands]);rw[F] at b;obtain⟨us,e,k⟩:=b.cU;obtain⟨r,g1,t,N⟩:=k.bB hl;have g:fs[f]?=some p:=by simpa using u
    have J:=xg (P:=P) (s:=sz) w z (by rw[G];simp[H]) us off (.inl m) (.inl m);rw[m] at J;refine⟨.agg r.toArray,?_,.agg t⟩;simp[execOp,q,Instr.field,run_underlying E,g,e,asAgg,y,J,hV,(sC g1).1]
   ·exact h.elim
  ·rename_i off sz L C B F;split at h
   ·rename_i a hl;obtain⟨fs,E,j⟩:=(I s ti n).dF C;obtain⟨p,u,y,⟨i,G,H⟩,d,z,m⟩:=uh fs.toList ti.fields j f off _ _ (uU B);refine .pure (fun c w M D=>?_) h;have b:=D x (by simp[q,Op.operands]);rw[F] at b;obtain⟨us,e,k⟩:=b.cU;obtain⟨v,g1,t⟩:=k.get (CU hl);have g:fs[f]?=some p:=by simpa using u
    refine⟨v,?_,t⟩;have A:(isAgg p.type).run P w=.ok false w:=by rw[<-m];cases d<;>simp[isAgg,run_underlying z,dA]
    simp[execOp,q,Instr.field,run_underlying E,g,e,asAgg,part,A,y,g1]
   ·exact h.elim
  ·exact h.elim
 ·exact h.elim
end
section
variable {P:Program} {tab:R9} {o:Oper} {ev:Ev} {os:Os} {K:Kt}
def wG (tab:R9) (os:Os) (t:TypeId) (x b:AV) (K:Kt):Prop :=
 match lk tab t,b with
 |some ti,.int i=>match ti.kind,lk tab ti.elem with
  |2,some te=>match x with
   |.sl sz ls=>match AT sz te.size with
    |true=>0<=i/\i<ls.length/\∀a,ls[i.toNat]?=some a->cK a->K (.fp a) [] [] []
    |false=>False
   |.aK id=>match lk os id with
    |some (.row sz ls _)=>match AT sz te.size with
     |true=>0<=i/\i<ls.length/\K (.ep id i.toNat sz 0) [id] [] []
     |false=>False
    |_=>False
   |.dW id n=>match lk os id with
    |some (.row sz ls _)=>match AT sz te.size with
     |true=>0<=i/\i<n/\n<=ls.length/\K (.ep id i.toNat sz 0) [id] [] []
     |false=>False
    |_=>False
   |_=>False
  |3,some te=>match d17 x (i.toNat*te.size) with
   |some y=>0<=i/\i<ti.len/\K y [] [] []
   |none=>False
  |_,_=>False
 |_,_=>False
def run_indexAt_slice {t e:TypeId} {te:TI} (f:P.underlying t=some (.slice e)) (d:X4 P e te) {w:World} {b p n cap:Nat} {i:Int} (a:0<=i) (c:i<n) :
  (Instr.indexAt t (.slice (some ⟨b,p,none⟩) n cap) (.int .i64 i)).run P w=.ok (.pointer (some ⟨b,p+i.toNat*te.size,none⟩)) w:=by
 simp[Instr.indexAt,asIntOf,run_underlying f,a,c,d.ax,fv]
def HM (R:M9 P tab) {t:TypeId} {x I:Operand} (Y:o.op=.indexAddr t x I) (h:wG tab os t (ev x) (ev I) K):Y6 P o ev os K:=by
 have run:∀(d:Operand->Value) (w:World),(execOp d o).run P w=((Instr.indexAt t (d x) (d I)).run P w).andThen fun v w'=>.ok (.value v) w':=fun d w=>by simp[execOp,Y]
 have s:∀{c:Ctx} {w:World} {d:Operand->Value},(∀z∈o.op.operands.toList,Rd c w (d z) (ev z))->Rd c w (d x) (ev x)/\Rd c w (d I) (ev I):=fun f=>⟨f x (by simp[Y,Op.operands]),f I (by simp[Y,Op.operands])⟩;unfold wG at h;split at h
 ·rename_i ti i O hi;split at h
  ·rename_i te X F;have N:=(R t ti O).af X;have W:=R _ te F;split at h
   ·rename_i sz ls H;split at h
    ·rename_i r;obtain rfl:=MN r;obtain⟨D,G,h⟩:=h;have l:i.toNat<ls.length:=d9;have C:ls[i.toNat]?=some ls[i.toNat]:=IS l;refine .have (p:=cK ls[i.toNat]) (fun c w d aO f=>?_) fun M=>.pure (fun c w d f=>?_) (h _ C M)
     ·have a:=(s f).1;rw[H] at a;obtain⟨A,k,us,b,p,e,g1,g2,g3,g4,g5,V,g7⟩:=a.jx;exact(V _ _ C).cK
     obtain⟨a,B⟩:=s f;rw[H] at a;rw[hi] at B;obtain⟨A,k,us,b,p,e,g1,g2,g3,g4,g5,V,g7⟩:=a.jx;obtain⟨rfl,hb⟩:=g3 d9;refine⟨_,by rw[run,e,B.ah.1,run_indexAt_slice N W D G];rfl,.fz (.fp hb (fun j u hj=>?_) (V _ _ C))⟩;exact g5 _ _ C j u hj
    ·exact h.elim
   ·rename_i id H;split at h
    ·rename_i sz ls e E;split at h
     ·rename_i r;obtain rfl:=MN r;obtain⟨D,G,h⟩:=h;refine .read E (fun c w d q f=>?_) h;obtain⟨a,B⟩:=s f;rw[H] at a;rw[hi] at B;obtain⟨A,n,cap,e1,L,_,_⟩:=a.bF;obtain⟨css,q1,q2,q3⟩:=q;have l:0<css.length:=d9;obtain⟨g,x',J,Q,hg,_⟩:=q1.cells (IS l);rw[L] at Q;injection Q with S T U
      subst S T U;refine⟨_,by rw[run,e1,B.ah.1,run_indexAt_slice N W D d9];rfl,?_⟩;exact .ep (off:=0) L
     ·exact h.elim
    ·exact h.elim
   ·rename_i id n H;split at h
    ·rename_i sz ls e E;split at h
     ·rename_i r;obtain rfl:=MN r;obtain⟨D,G,h2,h⟩:=h;refine .read E (fun c w d q f=>?_) h;obtain⟨a,B⟩:=s f;rw[H] at a;rw[hi] at B;obtain⟨A,m,cap,e1,L,_,_⟩:=a.hZ;obtain⟨css,q1,q2,q3⟩:=q;have l:0<css.length:=d9;obtain⟨g,x',J,Q,hg,_⟩:=q1.cells (IS l);rw[L] at Q;injection Q with S T U
      subst S T U;refine⟨_,by rw[run,e1,B.ah.1,run_indexAt_slice N W D G];rfl,?_⟩;exact .ep (off:=0) L
     ·exact h.elim
    ·exact h.elim
   ·exact h.elim
  ·rename_i te X F;split at h
   ·rename_i y hy;obtain⟨D,G,h⟩:=h;have N:=(R t ti O).iw X;refine .pure (fun c w d f=>?_) h;obtain⟨a,B⟩:=s f;rw[hi] at B;obtain⟨b,p,e,Z⟩:=DQ a hy;refine⟨_,?_,Z⟩;rw[run,e,B.ah.1];simp[Instr.indexAt,asIntOf,run_underlying N,Instr.sureAddr,D,G,(R _ te F).ax,fv]
   ·exact h.elim
  ·exact h.elim
 ·exact h.elim
def yS (tab:R9) (t:TypeId) (x a:AV) (K:Kt):Prop :=
 match lk tab t,x,a with
 |some ti,.str s,.int i=>match ti.kind with
  |4=>0<=i/\i<s.size/\∀u,s[i.toNat]?=some u->K (.ik .u8 u.toNat) [] [] []
  |_=>False
 |_,_,_=>False
def J1 (m:M9 P tab) {t:TypeId} {x e:Operand} (b:o.op=.index t x e) (h:yS tab t (ev x) (ev e) K):Y6 P o ev os K:=by
 unfold yS at h;split at h
 ·rename_i ti s i d q hi;split at h
  ·rename_i n;obtain⟨l,p,h⟩:=h;have a:i.toNat<s.size:=d9;have g:s[i.toNat]?=some s[i.toNat]:=by simp[a]
   refine .pure (fun c w r f=>?_) (h _ g);have j:=f x (by simp[b,Op.operands]);have k:=f e (by simp[b,Op.operands]);rw[q] at j;rw[hi] at k;refine⟨.int .u8 s[i.toNat].toNat,?_,.fz (.ik _ _)⟩;simp[execOp,b,Instr.index,asIntOf,j.bY.1,k.ah.1,run_underlying ((m t ti d).bZ n),l,g]
  ·exact h.elim
 ·exact h.elim
def d38 (os:Os) (x:AV) (K:Kt):Prop :=
 match x with
 |.sl _ ls=>∀n:Nat,n=ls.length->n<=maxLen->K (.int n) [] [] []
 |.aJ=>K (.int 0) [] [] []
 |.str s=>s.size<=maxLen->K (.int s.size) [] [] []
 |.aK id=>match lk os id with
  |some (.row _ ls _)=>∀n:Nat,n=ls.length->n<=maxLen->K (.int n) [id] [] []
  |_=>False
 |.dW _ n=>n<=maxLen->K (.int n) [] [] []
 |.mp id=>match lk os id with
  |some (.bc l)=>∀n:Nat,n=l.length->n<=maxLen->K (.int n) [id] [] []
  |_=>False
 |_=>False
theorem dJ.length {Φ:Nat->Prop} {w:World}:∀{es:List MapEntry} {l:List (AV×AV)},dJ Φ w es l->es.length=l.length
 |_,_,.nil=>rfl
 |_,_,.cons _ _ t=>by simp[dJ.length t]
def po {n:Nat} (h:n<=maxLen):I5 n:=by unfold I5;simp only[maxLen] at h;omega
def Kh (D:M9 P tab) {x:Operand} {t:TypeId} (F:o.op=.call { callee:=.builtin .len,args:=#[x],argTypes:=#[t] })
  (u:match lk tab t,ev x with|some ti,.str _=>ti.kind=4|some ti,.mp _=>ti.kind=8|some ti,_=>ti.kind=2|_,_=>False) (h:d38 os (ev x) K):Y6 P o ev os K:=by
 have g:∀{c:Ctx} {w:World} {a:Operand->Value},(∀z∈o.op.operands.toList,Rd c w (a z) (ev z))->Rd c w (a x) (ev x):=fun f=>f x (by simp[F,Op.operands,Go.Call.operands]);have i:∀(a:Operand->Value) (w:World) {A:Option Addr} {n cap:Nat} {e:TypeId},P.underlying t=some (.slice e)->a x=.slice A n cap->(execOp a o).run P w=.ok (.value (.int .i64 n)) w:=fun a w A n cap e v d=>by
  simp[execOp,F,resolve,invoke,builtin,Builtin.len_,run_underlying v,d,goInt]
 unfold d38 at h;cases hl:lk tab t with
 |none=>rw[hl] at u;exact u.elim
 |some ti =>
  rw[hl] at u;split at h
  ·rename_i sz ls d;rw[d] at u;have v:=(D t ti hl).af u;refine .have (p:=ls.length<=maxLen) (fun c w a aO f=>?_) fun j=>.pure (fun c w a f=>?_) (h _ rfl j)
   ·have r:=g f;rw[d] at r;obtain⟨A,k,us,b,p,e,g1,C,_⟩:=r.jx;omega
   ·have r:=g f;rw[d] at r;obtain⟨A,k,us,b,p,e,g1,C,_⟩:=r.jx;exact⟨_,i a w v e,.fz (.int (po j))⟩
  ·rename_i d;rw[d] at u;have v:=(D t ti hl).af u;refine .pure (fun c w a f=>?_) h;have r:=g f;rw[d] at r;exact⟨_,i a w v r.bH,.fz (.int (by simp[I5]))⟩
  ·rename_i s d;rw[d] at u;have v:=(D t ti hl).bZ u;refine .have (p:=s.size<=maxLen) (fun c w a aO f=>?_) fun j=>.pure (fun c w a f=>?_) (h j)
   ·have r:=g f;rw[d] at r;exact r.bY.2
   ·have r:=g f;rw[d] at r;exact⟨_,by simp[execOp,F,resolve,invoke,builtin,Builtin.len_,run_underlying v,r.bY.1,goInt],.fz (.int (po j))⟩
  ·rename_i id d;rw[d] at u;have v:=(D t ti hl).af u;split at h
   ·rename_i sz ls e y;have len_:∀(c:Ctx) (w:World) (a:Operand->Value),dH c w id (.row sz ls e)->Rd c w (a x) (.aK id)->∃A cap,a x=.slice A ls.length cap/\ls.length<=maxLen:=fun c w a q r=>by
     obtain⟨A,n,cap,e1,J,S,T⟩:=r.bF;obtain⟨css,M,N,W⟩:=q;obtain⟨O,G,H,U,V⟩:=M.head;rw[J] at H;injection H with Q I R
     exact⟨A,cap,by rw[e1,I,N],d9⟩
    refine .have (p:=ls.length<=maxLen) (fun c w a aO f=>?_) fun j=>.read y (fun c w a q f=>?_) (h _ rfl j)
    ·have r:=g f;rw[d] at r;obtain⟨A,cap,e1,j⟩:=len_ c w a (aO.rep id _ y) r;exact j
    ·have r:=g f;rw[d] at r;obtain⟨A,cap,e1,j⟩:=len_ c w a q r;exact⟨_,i a w v e1,.fz (.int (po j))⟩
   ·exact h.elim
  ·rename_i id n d;rw[d] at u;have v:=(D t ti hl).af u;refine .have (p:=n<=maxLen) (fun c w a aO f=>?_) fun j=>.pure (fun c w a f=>?_) (h j)
   ·have r:=g f;rw[d] at r;obtain⟨A,m,cap,e,_,g1,C,E⟩:=r.hZ;omega
   ·have r:=g f;rw[d] at r;obtain⟨A,m,cap,e,_,g1,C,E⟩:=r.hZ;exact⟨_,i a w v e,.fz (.int (po j))⟩
  ·rename_i id d;rw[d] at u;have v:=(D t ti hl).oO u;split at h
   ·rename_i l y;refine .have (p:=l.length<=maxLen) (fun c w a aO f=>?_) fun j=>.read y (fun c w a q f=>?_) (h _ rfl j)
    ·obtain⟨es,B,g1,C,E,_⟩:=aO.rep id _ y;exact E
    ·have r:=g f;rw[d] at r;obtain⟨es,B,g1,C,E⟩:=q;have L:es.size=l.length:=by rw[<-C.length];simp
     refine⟨_,?_,.fz (.int (po j))⟩;simp[execOp,F,resolve,invoke,builtin,Builtin.len_,run_underlying v,r.qf,MapKept.run_getObj_map g1,goInt,L]
   ·exact h.elim
  ·exact h.elim
end
section
variable {P:Program} {tab:R9} {o:Oper} {ev:Ev} {os:Os} {K:Kt}
def wz (tab:R9) (d:Nat) (t:TypeId) (K:Kt):Prop :=
 match lk tab t with
 |some ti=>K (.ptr d 0) [] [d] [(d,.box ti.zero t)]
 |none=>False
def JL {Φ:Nat->Prop} {w:World}:∀{us:List Value} {a:List AV},ed us a=true->AV.au a=[]:=by
 intro us a
 fun_induction ed us a<;>intro h<;>simp_all [AV.au,AV.ids]
def JZ (k:M9 P tab) (d:Nat) {t:TypeId} (l:o.op=.alloc t) (h:wz tab d t K):Y6 P o ev os K:=by
 unfold wz at h;split at h
 ·rename_i ti g;refine fun _=>⟨_,[],_,[d],fun c w n aO p=>?_,fun _ _ h=>(by cases h),fun id a=>(by simp at a;subst a;rw[j5];rfl),h⟩;obtain⟨z,m,f,_⟩:=(k t ti g).bm w;have i:=lQ c.Φ w _ _ f;have j:=aS.jL (c:=c) (w:=w) aO.aq d t (.bC i.1) (by rw[JL (Φ:=c.Φ) (w:=w) f];simp);have e:z.cells.toList.toArray=z.cells:=l9;rw[e] at j;have b:(execOp n o).run P w=.ok (.value (.pointer (some ⟨w.heap.size,0,none⟩))) (w.alloc (.cells z.cells t)):=by
   simp[execOp,l,Instr.alloc,m,newVar,newRow]
  rw[b];exact⟨_,j,.ptr (by simp[Ctx.bD])⟩
 ·exact h.elim
def d23 (d:Nat) (t:TypeId) (x:AV) (K:Kt):Prop :=
 match x.cells? with
 |some a=>match kI [d] (AV.au a) with
  |true=>K (.ptr d 0) [] [d] [(d,.box a t)]
  |false=>False
 |none=>False
def LG (d:Nat) {t:TypeId} {x:Operand} (i:o.op=.box t x) (h:d23 d t (ev x) K):Y6 P o ev os K:=by
 unfold d23 at h;split at h
 ·rename_i m g;split at h
  ·rename_i k;refine fun _=>⟨_,[],_,[d],fun c w f aO l=>?_,fun _ _ h=>(by cases h),fun id a=>(by simp at a;subst a;rw[j5];rfl),h⟩;obtain⟨r,_⟩:=kG (l x (by simp[i,Op.operands])) g;have j:=aS.jL (c:=c) (w:=w) aO.aq d t r (oz k d l9);have e:(f x).cells.toList.toArray=(f x).cells:=l9;rw[e] at j;have b:(execOp f o).run P w=.ok (.value (.pointer (some ⟨w.heap.size,0,none⟩))) (w.alloc (.cells (f x).cells t)):=by
    simp[execOp,i,Instr.box,newVar,newRow]
   rw[b];exact⟨_,j,.ptr (by simp[Ctx.bD])⟩
  ·exact h.elim
 ·exact h.elim
mutual
theorem Rf.ids {Φ:Nat->Prop} {w:World}:∀{v:Value} {a:AV},Rf Φ w v a->a.ids=[]
 |_,_,.any _=>rfl
 |_,_,.int _=>rfl
 |_,_,.ik _ _=>rfl
 |_,_,.bool _=>rfl
 |_,_,.str _=>rfl
 |_,_,.sl _ _ _ _ _ _ _ _ _ _=>rfl
 |_,_,.fp _ _ _=>rfl
 |_,_,.fn h=>H5.ids h
 |_,_,.agg h=>H5.ids h
 |_,_,.aZ h=>H5.ids h
 |_,_,.aJ=>rfl
 |_,_,.fL _ _ _=>rfl
 |_,_,.aa=>rfl
 |_,_,.aP=>rfl
 |_,_,.eO=>rfl
 |_,_,.ei _ _=>rfl
 |_,_,.aU _=>rfl
theorem H5.ids {Φ:Nat->Prop} {w:World}:∀{vs:List Value} {a_:List AV},H5 Φ w vs a_->AV.au a_=[]
 |_,_,.nil=>rfl
 |_,_,.cons h t=>by simp[AV.au,Rf.ids h,H5.ids t]
end
def sO {l:List AV}:AV.au l=[]↔∀a∈l,a.ids=[]:=by
 induction l with
 |nil=>simp[AV.au]
 |cons a l ih=>simp[AV.au,ih]
def BV {f:Type}:∀{o:Nat} {a_ d c:List f} (b:List f),X9 o a_ d=some c->X9 o a_ (d++b)=some (c++b):=by
 intro o a_ d
 fun_induction X9 o a_ d with
 |case1=>intro c b h;cases h;simp[X9]
 |case2 a a_ x d r e ih=>intro c b h;cases h;simp[X9,ih b e]
 |case3=>intro c b h;cases h
 |case4 o a_ x d r e ih=>intro c b h;cases h;simp[X9,ih b e]
 |case5=>intro c b h;cases h
 |case6=>intro c b h;cases h
theorem wC {c:Type} {a_ a b:List c}:∀(pre:List c) {o:Nat},X9 o a_ a=some b->X9 (pre.length+o) a_ (pre++a)=some (pre++b)
 |[],o,h=>by simpa using h
 |x::pre,o,h=>by
  have ih:=wC pre h;rw[ML,Nat.succ_add];simp[X9,ih]
theorem aS.jS {c:Ctx} {w w':World} {id sz e:Nat} {ls d:List (List AV)} {css':List (List Value)} {b:Nat} (h:Q5 c w [(id,.row sz ls e)]) (f:(c.hd id).ownBlock=some b) (y:K5 w' (c.hd id) sz e css') (hl:css'.length=d.length)
  (B:∀(i:Nat) (us:List Value) (n:List AV),css'[i]?=some us->d[i]?=some n->H5 c.Φ w us n) (r:∀k,k≠b->w'.heap[k]?=w.heap[k]?)
  (D:w'.heap.size=w.heap.size) (t:w'.os=w.os) (u:w'.tape=w.tape) (v:w'.output=w.output):aS c w c w' [(id,.row sz ls e)] [(id,.row sz d e)] []:=by
 have m:=h.lt id _ b (j5 _ _ _) f;have s:∀x,x=b->Touch c [(id,.row sz ls e)] [(id,.row sz d e)] x:=fun x g=>⟨id,_,j5 _ _ _,by rw[j5];rfl,by rw[g];exact f⟩;have q:∀x,c.Φ x->w'.heap[x]?=w.heap[x]?:=fun x g=>r x fun e=>m.2 (e▸g);refine⟨t,u,v,d9,fun b f=>f,fun b f=>.inl f,fun x g A=>r x fun e=>A (s x e),fun _ _=>⟨rfl,rfl⟩,⟨fun i o hl=>?_,fun i o x hl p=>?_,fun i E o F x j hl l p=>?_,fun x g=>by have:=h.aq x g;omega⟩,fun i o x hl p=>?_⟩<;>rw[l8] at hl<;>split at hl<;>first|(rename_i e1;subst e1;cases hl)|cases hl
 ·exact⟨css',y,by assumption,fun i us n C z=>(B i us n C z).mono q fun _ h=>h⟩
 ·have:x=b:=by have a:(c.hd id).ownBlock=some x:=p;rw[f] at a;injection a with e;exact e.symm
  rw[this];exact⟨d9,m.2⟩
 ·rw[E8 _ _ j] at l;cases l
 ·have:x=b:=by have a:(c.hd id).ownBlock=some x:=p;rw[f] at a;injection a with e;exact e.symm
  exact .inr (s x this)
def sr (tab:R9) (os:Os) (t:TypeId) (x y:AV) (K:Kt):Prop :=
 match lk tab t,y.cells? with
 |some ti,some vs=>match AT vs.length ti.size with
  |true=>match x with
   |.ptr id off=>match lk os id with
    |some (.box c e)=>match X9 off vs c with
     |some a=>K .any [id] [] [(id,.box a e)]
     |none=>False
    |_=>False
   |.ep id i sz off=>match lk os id,AV.au vs with
    |some (.row b ls e),[]=>match AT sz b with
     |true=>i<ls.length/\∀c,ls[i]?=some c->match X9 off vs c with
      |some a=>∃q,bt (ls.set i a) q/\K .any [id] [] [(id,.row b q e)]
      |none=>False
     |false=>False
    |_,_=>False
   |_=>False
  |false=>False
 |_,_=>False
def wH {t:TypeId} {ti:TI} (h:X4 P t ti) {w:World} {b p:Nat} {v:Value} (l:v.cells.toList.length=ti.size) {e:TypeId} {us c:List Value} (i:w.heap[b]?=some (.cells us.toArray e)) (d:∀u∈v.cells.toList,u.oneCell'=true)
  (j:X9 p v.cells.toList us=some c):∃w',(Instr.storeAt t (.pointer (some ⟨b,p,none⟩)) v).run P w=.ok () w'/\w'.heap[b]?=some (.cells c.toArray e)/\(∀k,k≠b->w'.heap[k]?=w.heap[k]?)/\w'.heap.size=w.heap.size/\w'.os=w.os/\w'.tape=w.tape/\w'.output=w.output:=by
 obtain⟨w',f,g⟩:=ub (P:=P) b p e v.cells.toList 0 us c w i d (by simpa using j);refine⟨w',?_,g⟩;have a:v.cells.size=ti.size:=by simpa using l
 simp[Instr.storeAt,Instr.sureAddr,storeVar,h.ax,a,f]
def xC {sz:Nat}:∀(css:List (List Value)) (i off:Nat) (us vs b:List Value),(∀x∈css,x.length=sz)->css[i]?=some us->X9 off vs us=some b->X9 (i*sz+off) vs css.flatten=some (css.set i b).flatten:=by
 intro css i off us vs b hl hi t;obtain⟨B,l2⟩:=fS t;have y:us.length=sz:=hl us (MP hi);have g:i<css.length:=(ME.1 hi).1;have e:=fC sz css hl;have A:i*sz+sz<=css.length*sz:=by
  have:(i+1)*sz<=css.length*sz:=Mt _ g
  rwa [Nat.succ_mul] at this
 obtain⟨r,s⟩:=iu (i*sz+off) vs css.flatten (by rw[e];omega);rw[s];congr 1;have c:∀x∈css.set i b,x.length=sz:=fun x z=>by
  rcases List.mem_or_eq_of_mem_set z with h|h
  ·exact hl x h
  ·rw[h];omega
 apply Mn;intro j;rw[Y2 s j];have f:=fC sz (css.set i b) c;by_cases v:j<css.length*sz
 ·have k:0<sz:=by rcases Nat.eq_zero_or_pos sz with h|h;subst h;omega;exact h
  have hd:j / sz<css.length:=Nat.div_lt_of_lt_mul (by rwa [Nat.mul_comm] at v);have n:j % sz<sz:=Nat.mod_lt _ k;have l:j / sz*sz+j % sz=j:=by rw[Nat.mul_comm];exact Nat.div_add_mod j sz
  have f1:=b9 sz css hl (j / sz) (j % sz) css[j / sz] (IS hd) n;rw[l] at f1;by_cases a:i=j / sz
  ·have d:=b9 sz (css.set i b) c (j / sz) (j % sz) b (by rw[MY,N2 a,N2 g]) n;rw[l] at d;have e1:css[j / sz]=us:=by
    have p:=IS hd;have m:css[j / sz]?=some us:=by rw[<-a];exact hi
    rw[p] at m;injection m
   rw[d,f1,e1,Y2 t];have w:j=i*sz+j % sz:=by rw[a];exact l.symm
   by_cases q:off<=j % sz/\j % sz<off+vs.length
   ·rw[N2 q,N2 d9];congr 1;omega
   ·rw[N1 q,N1 d9]
  ·have d:=b9 sz (css.set i b) c (j / sz) (j % sz) css[j / sz] (by rw[MY,N1 a];exact IS hd) n;rw[l] at d;rw[d,f1,N1];rintro⟨p,m⟩;apply a;have:i*sz<=j/\j<i*sz+sz:=d9;exact(Nat.div_eq_of_lt_le d9 (by rw[Nat.succ_mul];omega)).symm
 ·have e1:css.flatten[j]?=none:=Md (by rw[e];omega);have u:(css.set i b).flatten[j]?=none:=Md (by rw[f,Mc];omega);rw[e1,u,N1 d9]
def CI (hT:M9 P tab) {t:TypeId} {x y:Operand} (ho:o.op=.store t x y) (h:sr tab os t (ev x) (ev y) K):Y6 P o ev os K:=by
 have Z:∀{c:Ctx} {w:World} {l:Operand->Value},(∀z∈o.op.operands.toList,Rd c w (l z) (ev z))->Rd c w (l x) (ev x)/\Rd c w (l y) (ev y):=fun G=>⟨G x (by simp[ho,Op.operands]),G y (by simp[ho,Op.operands])⟩;have run:∀(l:Operand->Value) (w w':World),(Instr.storeAt t (l x) (l y)).run P w=.ok () w'->(execOp l o).run P w=.ok .skip w':=fun l w w' h=>by simp[execOp,ho,h]
 unfold sr at h;split at h
 ·rename_i ti vs X Y;split at h
  ·rename_i r;have r:=MN r;split at h
   ·rename_i id off hx;split at h
    ·rename_i cs e C;split at h
     ·rename_i I f;refine fun _=>⟨_,[(id,.box cs e)],_,[],fun c w l aO G=>?_,fun i ob h=>fY h C,fun _ h=>(by cases h),h⟩;obtain⟨r1,r2⟩:=Z G;rw[hx] at r1;obtain⟨us,hb,hus⟩:=aO.rep id _ (j5 _ _ _);obtain⟨rv,h1⟩:=kG r2 Y;obtain⟨rs,V,E⟩:=xl f rv hus;obtain⟨w',q1,q2,q3,q4,q5,q6,q7⟩:=wH (P:=P) (hT t ti X) (by rw[rv.length];exact r) hb h1 V;rw[run l w w' (by rw[r1.cm];exact q1)];exact⟨c,aS.write aO q2 E q3 q4 q5 q6 q7,Rd.dM _⟩
     ·exact h.elim
    ·exact h.elim
   ·rename_i id i sz off hx;split at h
    ·rename_i sz' ls e C S;split at h
     ·rename_i W;obtain rfl:=MN W;obtain⟨hi,h⟩:=h;have Q:ls[i]?=some ls[i]:=IS hi;have h:=h _ Q;split at h
      ·rename_i I f;obtain⟨q0,hq0,h⟩:=h;refine fun _=>⟨_,[(id,.row sz ls e)],_,[],fun c w l aO G=>?_,fun i ob h=>fY h C,fun _ h=>(by cases h),h⟩;obtain⟨r1,r2⟩:=Z G;rw[hx] at r1;obtain⟨css,F,p2,p3⟩:=aO.rep id _ (j5 _ _ _);obtain⟨g,x0,m,cap,e1,hh⟩:=r1.oK;obtain⟨rv,h1⟩:=kG r2 Y;have j:i<css.length:=d9;have N:css[i]?=some css[i]:=IS j;have A:=p3 i _ _ N Q;obtain⟨rs,V,E⟩:=xl f rv (.bC A);have D:AV.au I=[]:=sO.2 fun a ha=>by
        rcases vO f a ha with h|h
        ·exact sO.1 S a h
        ·exact sO.1 A.ids a h
       rcases F.bV with⟨hv,hn⟩|⟨g',x',p,cap',d,hv,hgb,c1,c2,c3,cx,c4⟩
       ·omega
       ·rw[hh] at hv;injection hv with H a2 a3
        injection H with H
        injection H with H a1x
        subst H a1x a3;have hx0:=cx d9;have L:=xC css i off css[i] (l y).cells.toList rs F.len N V;have hfl:=fC sz css F.len;have O:d.toList.length=(p+cap)*sz:=by rw[<-c3];simp
        have hple:p*sz<=d.toList.length:=by rw[O];exact Mt _ d9
        have T:(d.toList.take (p*sz)).length=p*sz:=by rw[Mq];omega
        have s:d.toList=d.toList.take (p*sz)++(css.flatten++(d.toList.drop (p*sz)).drop (css.length*sz)):=by
         rw[<-c4,List.take_append_drop,List.take_append_drop]
        have B:=wC (d.toList.take (p*sz)) (BV ((d.toList.drop (p*sz)).drop (css.length*sz)) L);rw[<-s,T] at B;have R:w.heap[g]?=some (.cells d.toList.toArray e):=by simpa using hgb
        obtain⟨w',q1,q2,q3,q4,q5,q6,q7⟩:=wH (P:=P) (hT t ti X) (by rw[rv.length];exact r) R h1 B;rw[run l w w' (by rw[e1,hx0,Mo];exact q1)];have n:∀us∈css.set i rs,us.length=sz:=fun us q=>by
         rcases List.mem_or_eq_of_mem_set q with h|h
         ·exact F.len us h
         ·rw[h,(fS V).1];exact F.len _ (List.getElem_mem j)
        have v:=fC sz (css.set i rs) n;have J:K5 w' (c.hd id) sz e (css.set i rs):=by
         refine⟨.inr ⟨g,x0,p,cap,_,by rw[hh,Mc,a2],q2,by rw[Mc];exact c1,c2,?_,cx,?_⟩,n,fun us q=>?_⟩
         ·have e5:d.toList.length=(p+cap)*sz:=O;rw[s,MK,MK,hfl] at e5;rw[List.size_toArray,MK,MK,v,Mc];exact e5
         ·rw[List.toList_toArray,List.drop_left' T,List.take_left' (by rw[v])]
         ·rcases List.mem_or_eq_of_mem_set q with h|h
          ·exact F.one us h
          ·rw[h];intro u q;rcases vO V u q with h|h
           ·exact h1 u h
           ·exact F.one _ (List.getElem_mem j) u h
        refine⟨c,aS.bl (U:=[]) (aS.jS aO (b:=g) (by rw[hh];rfl) J (by simpa using p2) (fun k us cs q M=>?_) q3 q4 q5 q6 q7) hq0,Rd.dM _⟩;rw[MY] at q M;by_cases hk:i=k
        ·subst hk;rw[N2 rfl,N2 j] at q;rw[N2 rfl,N2 hi] at M;cases q;cases M;exact E.jw D
        ·rw[N1 hk] at q M;exact p3 k us cs q M
      ·exact h.elim
     ·exact h.elim
    ·exact h.elim
   ·exact h.elim
  ·exact h.elim
 ·exact h.elim
end
section
variable {P:Program} {tab:R9} {o:Oper} {ev:Ev} {os:Os} {K:Kt}
theorem bo (off:Nat):∀(vs:List Value) (k:Nat) (cells a:List Value),X9 (off+k) vs cells=some a ->
  (vs.zipIdx k).foldl (fun(m:Array Value) (c,j)=>m.setIfInBounds (off+j) c) cells.toArray=a.toArray
 |[],k,cells,a,h=>by
  have e1:cells=a:=by
   apply Mn;intro j;rw[Y2 h j,N1 (by simp only[Ms];omega)]
  simp[e1]
 |v::vs,k,cells,a,h=>by
  obtain⟨g,d⟩:=fS h;simp only[ML] at d;obtain⟨r,l⟩:=iu (off+(k+1)) vs (cells.set (off+k) v) (by rw[Mc];omega);have:r=a:=by
   apply Mn;intro j;rw[Y2 l j,Y2 h j,MY];by_cases f:j=off+k
   ·subst f;rw[N1 d9,N2 rfl,N2 d9,N2 l9];simp
   ·by_cases b:off+k<=j/\j<off+k+(vs.length+1)
    ·rw[N2 d9,N2 (by simpa using b)];obtain⟨i,rfl⟩:∃i,j=off+k+1+i:=⟨j-(off+k+1),d9⟩;rw[show off+k+1+i-(off+(k+1))=i by omega,show off+k+1+i-(off+k)=i+1 by omega];simp
    ·rw[N1 d9,N1 (fun e=>f e.symm),N1 (by simpa using b)]
  subst this;have ih:=bo off vs (k+1) (cells.set (off+k) v) r l;simpa using ih
def qN (b:Nat->Option (Nat×Nat)):List AV->List (Nat×AV)->Option (List AV)
 |cells,[]=>some cells
 |cells,(i,a)::rest=>match b i,a.cells? with
  |some (off,size),some vs=>match AT vs.length size with
   |true=>match X9 off vs cells with
    |some r=>qN b r rest
    |none=>none
   |false=>none
  |_,_=>none
theorem By {c:Ctx} {w:World} {f:Nat->Option (Nat×Nat)}:∀{d:List (Nat×AV)} {cells s:List AV},qN f cells d=some s->∀{vparts:List (Nat×Value)} {us:List Value},
  vparts.length=d.length->(∀(k:Nat) (p:Nat×Value) (q:Nat×AV),vparts[k]?=some p->d[k]?=some q->p.1=q.1/\Rd c w p.2 q.2)->w9 c w us cells->(∀u∈us,u.oneCell'=true) ->
  ∃r,Instr.fill f us.toArray vparts=some r.toArray/\w9 c w r s/\∀u∈r,u.oneCell'=true
 |[],cells,s,h,vparts,us,hl,_,A,t=>by
  have:vparts=[]:=Mk hl;subst this;cases h;exact⟨us,rfl,A,t⟩
 |(i,a)::rest,cells,s,h,[],us,hl,_,_,_=>by simp at hl
 |(i,a)::rest,cells,s,h,(i',v)::vrest,us,hl,hp,A,t=>by
  obtain⟨e,G⟩:=hp 0 _ _ rfl rfl;simp only at e G;subst e;unfold qN at h;split at h
  ·rename_i off size vs z D;split at h
   ·rename_i m;have m:=MN m;split at h
    ·rename_i r n;obtain⟨H,x⟩:=kG G D;obtain⟨E,e1,B⟩:=xl n H A;have y:=fS e1;obtain⟨q,L,M,N⟩:=By h (vparts:=vrest) (us:=E) (by simpa using hl) (fun k p q a b=>hp (k+1) p q (by simpa using a) (by simpa using b)) B (fun u J=>by
      rcases vO e1 u J with h|h
      ·exact x u h
      ·exact t u h)
     refine⟨q,?_,M,N⟩;have C:v.cells.size=size:=by rw[<-m,<-H.length];simp
     have F:off+v.cells.size<=us.length:=by have:=y.2;simpa using this
     have l:=bo off v.cells.toList 0 us E (by simpa using e1);have g:v.cells.zipIdx.foldl (fun(I:Array Value) (c,j)=>I.setIfInBounds (off+j) c) us.toArray=E.toArray:=by
      rw[<-l,<-Array.foldl_toList];simp
     unfold Instr.fill;simp only[z];rw[N1 (by simp[C];omega),g];exact L
    ·cases h
   ·cases h
  ·cases h
def tI (l:List (Nat×Nat×Bool)) (i:Nat):Option (Nat×Nat) :=
 match pz i l with
 |some (off,sz,_)=>some (off,sz)
 |none=>none
def Dq (size:Nat) (i:Nat):Option (Nat×Nat):=some (i*size,size)
def nk (ev:Ev):List (Nat×Operand)->List (Nat×AV)
 |[]=>[]
 |(i,x)::l=>(i,ev x)::nk ev l
def yM (tab:R9) (ev:Ev) (t:TypeId) (a:Array (Nat×Operand)) (K:Kt):Prop :=
 match lk tab t with
 |some ti=>match ti.kind,lk tab ti.elem with
  |1,_=>match qN (tI ti.fields) ti.zero (nk ev a.toList) with
   |some b=>K (.agg b) [] [] []
   |none=>False
  |3,some te=>match qN (Dq te.size) ti.zero (nk ev a.toList) with
   |some b=>K (.agg b) [] [] []
   |none=>False
  |_,_=>False
 |none=>False
def AQ (l:List (Nat×Operand)):nk ev l=l.map fun p=>(p.1,ev p.2):=by
 induction l with
 |nil=>rfl
 |cons p l ih=>simp[nk,ih]
def FG {w:World} (fs:Array Field) (l:List (Nat×Nat×Bool)) (d:iq P fs.toList l=true):(fs.mapM (fun f=>do pure (f.offset,<-sizeOf f.type)):Sem (Array (Nat×Nat))).run P w=.ok (l.map fun x=>(x.1,x.2.1)).toArray w:=by
 have g:∀(fs:List Field) (l:List (Nat×Nat×Bool)) (b:Array (Nat×Nat)),iq P fs l=true->(fs.foldlM (fun(m:Array (Nat×Nat)) (a:Field)=>Functor.map m.push (do pure (a.offset,<-sizeOf a.type))) b:Sem (Array (Nat×Nat))).run P w=.ok (b++(l.map fun x=>(x.1,x.2.1)).toArray) w:=by
  intro fs
  induction fs with
  |nil =>
   intro l b c;cases l with
   |nil=>simp
   |cons a l=>simp[iq] at c
  |cons f fs ih =>
   intro l b c;cases l with
   |nil=>simp[iq] at c
   |cons a l =>
    obtain⟨p,k,q⟩:=a;simp only[iq,IT,NA] at c;obtain⟨⟨⟨f1,j⟩,r⟩,n⟩:=c;simp only[MM] at j;obtain⟨i,hi,e⟩:=j;have h:(sizeOf f.type).run P w=.ok k w:=by simp[sizeOf,typeInfo,hi,e]
    simp only[List.foldlM_cons,Sem.run_bind,Sem.run_map,h,Result.andThen_ok,Sem.run_pure,f1,ih l _ n];simp
 rw[Array.mapM_eq_foldlM,<-Array.foldlM_toList];have:=g fs.toList l #[] d;rw[this];simp
def d57 (l:List (Nat×Nat×Bool)) (i:Nat):((l.map fun x=>(x.1,x.2.1)).toArray)[i]?=tI l i:=by
 have:∀(l:List (Nat×Nat×Bool)) (i:Nat),(l.map fun x=>(x.1,x.2.1))[i]?=tI l i:=by
  intro l
  induction l with
  |nil=>intro i;cases i<;>rfl
  |cons a l ih =>
   intro i;cases i with
   |zero=>rfl
   |succ i=>simpa[tI,pz] using ih i
 simpa using this l i
def Ig (H:M9 P tab) {t:TypeId} {d:Array (Nat×Operand)} (L:o.op=.build t d) (h:yM tab ev t d K):Y6 P o ev os K:=by
 unfold yM at h;split at h
 ·rename_i ti C;have m:=H t ti C;have close:∀(f:Nat->Option (Nat×Nat)) (l:List AV),qN f ti.zero (nk ev d.toList)=some l->K (.agg l) [] [] [] ->
    (∀(w:World) (j:Operand->Value) (z:Value) (r:List Value),(zeroValue t).run P w=.ok z w->Instr.fill f z.cells (d.toList.map fun p=>(p.1,j p.2))=some r.toArray->(Instr.build t (d.map fun(i,x)=>(i,j x))).run P w=.ok (.agg r.toArray) w)->Y6 P o ev os K:=by
   intro f l g Q s;refine .pure (fun c w j R=>?_) Q;obtain⟨z,u,F,S⟩:=m.bm w;have v:=lQ c.Φ w _ _ F;rw[AQ] at g;obtain⟨r,G,O,T⟩:=By (c:=c) (w:=w) g (vparts:=d.toList.map fun p=>(p.1,j p.2)) (us:=z.cells.toList) l9 (fun k p q M N=>by
    simp only[Mj,MM] at M N;obtain⟨a,I,rfl⟩:=M;obtain⟨b,J,rfl⟩:=N;rw[I] at J;cases J;refine⟨rfl,R a.2 ?_⟩;rw[L];simp only[Op.operands,MU];exact⟨a,MP I,rfl⟩) (.bC v.1) v.2
   have E:z.cells.toList.toArray=z.cells:=l9;rw[E] at G;exact⟨.agg r.toArray,by simp[execOp,L,s w j z r u G],.agg O⟩
  split at h
  ·rename_i A;split at h
   ·rename_i l g;obtain⟨fs,D,y⟩:=m.dF A;refine close _ l g h fun w j z r u e=>?_;rw[show tI ti.fields=(fun i=>((ti.fields.map fun x=>(x.1,x.2.1)).toArray)[i]?) from funext fun i=>(d57 ti.fields i).symm] at e;have n:(d.map fun(p:Nat×Operand)=>(p.1,j p.2)).toList=d.toList.map fun p=>(p.1,j p.2):=l9;simp only[Instr.build,Sem.run_bind,u,Result.andThen_ok,run_underlying D,FG fs ti.fields y];rw[n,e];simp
   ·exact h.elim
  ·rename_i te A B;split at h
   ·rename_i l g;have D:=m.iw A;refine close _ l g h fun w j z r u e=>?_;have n:(d.map fun(p:Nat×Operand)=>(p.1,j p.2)).toList=d.toList.map fun p=>(p.1,j p.2):=l9;simp only[Instr.build,Sem.run_bind,u,Result.andThen_ok,run_underlying D,(H _ te B).ax];rw[n];rw[show Dq te.size=(fun i=>some (i*te.size,te.size)) from rfl] at e;rw[e];simp
   ·exact h.elim
  ·exact h.elim
 ·exact h.elim
end
def tW (os:Os):List AV->Option (List AV×Os)
 |[]=>some ([],[])
 |.aK id::l=>match lk os id with
  |some (.row sz ls e)=>match tW os l with
   |some (r,g)=>some (.sl sz ls::r,(id,.row sz ls e)::g)
   |none=>none
  |_=>none
 |a::l=>match a.ids with
  |[]=>match tW os l with
   |some (r,g)=>some (a::r,g)
   |none=>none
  |_=>none
structure Hk (os:Os) (a_ r:List AV) (g:Os):Prop where
 sub:∀id o,lk g id=some o->lk os id=some o
 ids:∀id o,lk g id=some o->o.ids=[]
 len:r.length=a_.length
 one:a_.all pt=true->r.all pt=true
 run:∀(c:Ctx) (w:World) (us:List Value),Q5 c w g->w9 c w us a_->H5 (c.fz g).Φ w us r
theorem Q5.tail {c:Ctx} {w:World} {os g:Os} {id:Nat} {o:Obj} (h:Q5 c w ((id,o)::g)) (a:lk os id=some o) (b:∀i x,lk g i=some x->lk os i=some x):Q5 c w g :=
 h.sub fun i x hl=>by
  rw[l8];split
  ·rename_i e;subst e;rw[<-a,b _ _ hl]
  ·exact hl
def JJ {c:Ctx} {os g:Os} {id:Nat} {o:Obj} (a:lk os id=some o) (j:∀i x,lk g i=some x->lk os i=some x):∀b,ck c g b->ck c ((id,o)::g) b:=by
 rintro b (d|⟨i,x,h,f⟩)
 ·exact .inl d
 ·refine .inr ⟨i,x,?_,f⟩;rw[l8];split
  ·rename_i e;subst e;rw[<-a,j _ _ h]
  ·exact h
def Kr {os:Os}:∀{a_ r:List AV} {g:Os},tW os a_=some (r,g)->Hk os a_ r g:=by
 intro a_
 fun_induction tW os a_ with
 |case1=>intro r g h;cases h;exact⟨fun _ _ h=>(by cases h),fun _ _ h=>(by cases h),rfl,fun h=>h,fun c w us _ h=>by cases h;exact .nil⟩
 |case2 id l sz ls e d z u m ih =>
  intro r g h;cases h;have H:=ih m;refine⟨fun i o h=>?_,fun i o h=>?_,by simp[H.len],fun h=>?_,fun c w us aO h=>?_⟩
  ·rw[l8] at h;split at h
   ·rename_i e1;subst e1;cases h;exact d
   ·exact H.sub i o h
  ·rw[l8] at h;split at h
   ·cases h;rfl
   ·exact H.ids i o h
  ·simp only[List.all_cons,IT] at h⊢;exact⟨rfl,H.one h.2⟩
  ·cases h with|cons h t =>
    have k:=aO.tail d H.sub;have p:=aO.rep id _ (j5 _ _ _);obtain⟨css,v,x,y⟩:=p;obtain⟨A,n,cap,e1,s,_⟩:=h.bF;refine .cons ?_ ((H.run c w _ k t).mono (fun _ _=>rfl) (JJ d H.sub));rw[e1,<-s];exact v.rf x y (fun b q=>.inl q) fun b q=>.inr ⟨id,_,j5 _ _ _,q⟩
 |case3 id l sz ls e d m ih=>intro r g h;cases h
 |case4 id l d=>intro r g h;cases h
 |case5 a l j f z u m ih =>
  intro r g h;cases h;have H:=ih m;refine⟨H.sub,H.ids,by simp[H.len],fun h=>?_,fun c w us aO h=>?_⟩
  ·simp only[List.all_cons,IT] at h⊢;exact⟨h.1,H.one h.2⟩
  ·cases h with|cons h t=>exact .cons ((h.rf f).mono (fun _ _=>rfl) fun _ h=>.inl h) (H.run c w _ aO t)
 |case6 a l j f m ih=>intro r g h;cases h
 |case7 a l j f=>intro r g h;cases h
theorem aS.gZ {c c':Ctx} {w w':World} {g need upd:Os} {news:List Nat} (h:aS c w c' w' g upd news) (l:∀id o,lk g id=some o->lk need id=some o):aS c w c' w' need upd news:=by
 have d:∀b,Touch c g upd b->Touch c need upd b:=fun b ⟨id,o,e,f,i⟩=>⟨id,o,l id o e,f,i⟩;exact⟨h.cX,h.tape,h.output,h.size,h.aq,fun b a=>(h.ak b a).imp (fun h=>h) (.imp (fun h=>h) (d b)),fun b a k=>h.ab b a fun h=>k (d b h),h.ctx,h.aO,fun id o b hl j=>(h.az id o b hl j).imp (fun h=>h) (d b)⟩
theorem aS.tV {c:Ctx} {w:World} {g:Os} (aO:Q5 c w g) (f:∀id o,lk g id=some o->o.ids=[]) (d:Nat) {sz:Nat} {css:List (List Value)} {ls:List (List AV)} (e:TypeId) (hl:css.length=ls.length)
  (r:∀(i:Nat) (us:List Value) (l:List AV),css[i]?=some us->ls[i]?=some l->H5 (c.fz g).Φ w us l) (j:∀us∈css,us.length=sz) (n:∀us∈css,∀u∈us,u.oneCell'=true) (q:css.length<=maxLen) :
  aS c w ((c.fz g).aN d (.slice (some ⟨w.heap.size,0,none⟩) css.length css.length)) (w.alloc (.cells css.flatten.toArray e)) g ((d,.row sz ls e)::I7 g) [d]:=by
 have m:=aS.freeze aO;have s:=aS.newRow (c:=c.fz g) (w:=w) (fun b p=>m.aO.aq b p) d e hl r j n q;have:=aS.trans aO m s (fun _ h=>(by cases h)) (fun id a=>(by simp at a;subst a;rw[j5];rfl)) (fun _ _ h=>(by cases h)) (fun _ _ _ _ _ h=>(by cases h)) (fun id o h _ x _=>by
  rw[J7] at h;cases k:lk (I7 g) id with
  |some y =>
   rw[k] at h;simp at h;subst h;rw[lq k];simp[Obj.ids]
  |none =>
   rw[k] at h;simp at h;rw[f id o h];simp)
 simpa using this
section
variable {P:Program} {tab:R9} {o:Oper} {ev:Ev} {os:Os} {K:Kt}
def sj (os:Os) (sz:Nat):List (List AV)->List (Nat×AV)->Option (List (List AV)×Os)
 |ls,[]=>some (ls,[])
 |ls,(i,a)::rest=>match a.cells? with
  |some vs=>match AT vs.length sz with
   |true=>match tW os vs with
    |some (r,g)=>match X9 i [r] ls with
     |some b=>match sj os sz b rest with
      |some (q,c)=>some (q,g++c)
      |none=>none
     |none=>none
    |none=>none
   |false=>none
  |none=>none
def pM {os g c:Os} (e:∀id o,lk g id=some o->lk os id=some o) (f:∀id o,lk c id=some o->lk os id=some o):(∀id o,lk (g++c) id=some o->lk os id=some o)/\(∀id o,lk c id=some o->lk (g++c) id=some o)/\(∀id o,lk g id=some o->lk (g++c) id=some o):=by
 refine⟨fun id o h=>?_,fun id o h=>?_,fun id o h=>?_⟩
 ·rw[J7] at h;cases d:lk g id with
  |some x=>rw[d] at h;simp at h;subst h;exact e id x d
  |none=>rw[d] at h;simp at h;exact f id o h
 ·rw[J7];cases d:lk g id with
  |some x =>
   have a:=e id x d;have b:=f id o h;rw[a] at b;simpa using b
  |none=>simpa using h
 ·rw[J7,h];rfl
def vK {c:Ctx} {g a:Os} (h:∀id o,lk g id=some o->lk a id=some o):∀b,ck c g b->ck c a b:=by
 rintro b (e|⟨i,x,d,f⟩)
 ·exact .inl e
 ·exact .inr ⟨i,x,h i x d,f⟩
structure L2 (os:Os) (sz:Nat) (ls:List (List AV)) (parts:List (Nat×AV)) (ls':List (List AV)) (g:Os):Prop where
 sub:∀id o,lk g id=some o->lk os id=some o
 ids:∀id o,lk g id=some o->o.ids=[]
 len:ls'.length=ls.length
 run:∀(c:Ctx) (w:World) (Φ:Nat->Prop) (vparts:List (Nat×Value)) (css:List (List Value)),Q5 c w g->(∀b,ck c g b->Φ b)->vparts.length=parts.length ->
  (∀(k:Nat) (p:Nat×Value) (q:Nat×AV),vparts[k]?=some p->parts[k]?=some q->p.1=q.1/\Rd c w p.2 q.2)->css.length=ls.length->(∀us∈css,us.length=sz)->(∀us∈css,∀u∈us,u.oneCell'=true) ->
  (∀(i:Nat) (us:List Value) (cs:List AV),css[i]?=some us->ls[i]?=some cs->H5 Φ w us cs) ->
  ∃css':List (List Value),Instr.fill (fun i=>some (i*sz,sz)) css.flatten.toArray vparts=some css'.flatten.toArray/\css'.length=ls'.length/\(∀us∈css',us.length=sz)/\(∀us∈css',∀u∈us,u.oneCell'=true) /\
   (∀(i:Nat) (us:List Value) (cs:List AV),css'[i]?=some us->ls'[i]?=some cs->H5 Φ w us cs)
theorem CC {os:Os} {sz:Nat}:∀{s:List (Nat×AV)} {ls z:List (List AV)} {g:Os},sj os sz ls s=some (z,g)->L2 os sz ls s z g
 |[],ls,z,g,h=>by
  cases h;refine⟨fun _ _ h=>(by cases h),fun _ _ h=>(by cases h),rfl,fun c w Φ vparts css _ _ f _ hl E Q S=>?_⟩;have:vparts=[]:=Mk f;subst this;exact⟨css,rfl,hl,E,Q,S⟩
 |(i,a)::rest,ls,z,g,h=>by
  unfold sj at h;split at h
  ·rename_i vs X;split at h
   ·rename_i C;have C:=MN C;split at h
    ·rename_i r g1 hr;split at h
     ·rename_i Y n;split at h
      ·rename_i q g2 hq;cases h;have F:=Kr hr;have R:=CC hq;obtain⟨s1,s2,s3⟩:=pM F.sub R.sub;refine⟨s1,fun id o h=>?_,by rw[R.len,(fS n).1],fun c w Φ vparts css aO M f hp hl E Q S=>?_⟩
       ·rw[J7] at h;cases V:lk g1 id with
        |some x=>rw[V] at h;simp at h;subst h;exact F.ids id x V
        |none=>rw[V] at h;simp at h;exact R.ids id o h
       ·cases vparts with
        |nil=>simp at f
        |cons pv D =>
         obtain⟨l,v⟩:=pv;obtain⟨e,hv⟩:=hp 0 _ _ rfl rfl;simp only at e hv;subst e;obtain⟨rv,O⟩:=kG hv X;have U:=F.run c w _ (aO.sub s3) rv;have I:H5 Φ w v.cells.toList r:=U.mono (fun _ _=>rfl) fun b T=>M b (vK s3 b T);have J:=(fS n).2;simp only[ML,Ms] at J;have u:l<css.length:=d9;have d:v.cells.toList.length=sz:=by rw[rv.length];exact C
         have B:X9 0 v.cells.toList css[l]=some v.cells.toList:=by
          obtain⟨x,hx⟩:=iu 0 v.cells.toList css[l] (by rw[d,E _ (List.getElem_mem u)];omega);rw[hx];congr 1;apply Mn;intro j;rw[Y2 hx j];by_cases W:j<v.cells.toList.length
          ·rw[N2 d9];simp
          ·rw[N1 d9,Md (by rw[E _ (List.getElem_mem u)];omega),Md d9]
         have m:=xC css l 0 css[l] v.cells.toList v.cells.toList E (IS u) B;rw[Nat.add_zero] at m;have L:Y=ls.set l r:=by
          apply Mn;intro j;rw[Y2 n j,MY];by_cases W:l=j
          ·subst W;rw[N2 l9,N2 rfl,N2 d9];simp
          ·rw[N1 L6,N1 W]
         obtain⟨css',q1,q2,q3,q4,q5⟩:=R.run c w Φ D (css.set l v.cells.toList) (aO.sub s2) (fun b T=>M b (vK s2 b T)) (by simpa using f) (fun k p q a b=>hp (k+1) p q (by simpa using a) (by simpa using b)) (by rw[Mc,hl,L,Mc])
          (fun us y=>by
           rcases List.mem_or_eq_of_mem_set y with h|h
           ·exact E us h
           ·rw[h];exact d) (fun us y=>by
           rcases List.mem_or_eq_of_mem_set y with h|h
           ·exact Q us h
           ·rw[h];exact O) (fun k us N y G=>by
           rw[L] at G;rw[MY] at y G;by_cases Z:l=k
           ·subst Z;rw[N2 rfl,N2 u] at y;rw[N2 rfl,N2 d9] at G;cases y;cases G;exact I
           ·rw[N1 Z] at y G;exact S k us N y G)
         refine⟨css',?_,q2,q3,q4,q5⟩;have f:v.cells.size=sz:=by simpa using d
         have A:=bo (l*sz) v.cells.toList 0 css.flatten _ (by simpa using m);have t:v.cells.zipIdx.foldl (fun(N:Array Value) (c,j)=>N.setIfInBounds (l*sz+j) c) css.flatten.toArray=(css.set l v.cells.toList).flatten.toArray:=by
          rw[<-A,<-Array.foldl_toList];simp
         have H:=(fS m).2;unfold Instr.fill;simp only;rw[N1 (by simp only[ne_eq,f,not_true_eq_false,N4,Bool.false_or,NA,List.size_toArray];rw[d] at H;omega),t];exact q1
      ·cases h
     ·cases h
    ·cases h
   ·cases h
  ·cases h
def wi (z:List Value) (m:Nat):(madeCells z.toArray (m*z.length)).toList=(MI m z).flatten:=by
 have e:(MI m z).flatten.length=m*z.length:=by
  have:=fC z.length (MI m z) (fun c d=>by rw[List.eq_of_mem_replicate d])
  rwa [List.length_replicate] at this
 apply Mn;intro j;by_cases f:j<m*z.length
 ·have b:0<z.length:=by rcases Nat.eq_zero_or_pos z.length with h|h;rw[h] at f;omega;exact h
  have hd:j / z.length<m:=Nat.div_lt_of_lt_mul (by rwa [Nat.mul_comm] at f);have a:j % z.length<z.length:=Nat.mod_lt _ b;have h:=b9 z.length (MI m z) (fun c d=>by rw[List.eq_of_mem_replicate d]) (j / z.length) (j % z.length) z (by simp[hd]) a;have g:j / z.length*z.length+j % z.length=j:=by rw[Nat.mul_comm];exact Nat.div_add_mod j z.length
  rw[g] at h;rw[h];simp[madeCells,f,IS a]
 ·rw[Md (by simp[madeCells];omega),Md (by rw[e];omega)]
def uf (tab:R9) (os:Os) (ev:Ev) (d:Nat) (t:TypeId) (n:Nat) (a:Array (Nat×Operand)) (K:Kt):Prop :=
 match lk tab t with
 |some ti=>match ti.kind,lk tab ti.elem with
  |2,some te=>match IN (n*te.size) 1000000,IN 1 te.size,sj os te.size (MI n te.zero) (nk ev a.toList) with
   |true,true,some (ls,g)=>∃q,bt ls q/\K (.aK d) (g.map (·.1)) [d] ((d,.row te.size q ti.elem)::I7 g)
   |_,_,_=>False
  |_,_=>False
 |none=>False
def An (V:M9 P tab) (d:Nat) {t:TypeId} {n:Nat} {e:Array (Nat×Operand)} (L:o.op=.buildSlice t n e) (h:uf tab os ev d t n e K):Y6 P o ev os K:=by
 unfold uf at h;split at h
 ·rename_i ti S;split at h
  ·rename_i te hk R;split at h
   ·rename_i ls g A j f;have A:=MZ A;have j:=MZ j;have Z:=(V t ti S).af hk;have C:=V _ te R;rw[AQ] at f;have F:=CC f;obtain⟨q0,Q,h⟩:=h;refine fun _=>⟨_,g,_,[d],fun c w G aO hr=>?_,F.sub,fun id v=>(by simp at v;subst v;rw[j5];rfl),h⟩;obtain⟨z,hz,T,hza⟩:=C.bm w;have u:=lQ (c.fz g).Φ w _ _ T;have B:z.cells.toList.length=te.size:=by rw[u.1.length,C.zl]
    obtain⟨css',q1,q2,q3,q4,q5⟩:=F.run c w (c.fz g).Φ (e.toList.map fun p=>(p.1,G p.2)) (MI n z.cells.toList) aO (fun b h=>h) l9 (fun k p q E Y=>by
      simp only[Mj,MM] at E Y;obtain⟨a,W,rfl⟩:=E;obtain⟨b,X,rfl⟩:=Y;rw[W] at X;cases X;refine⟨rfl,hr a.2 ?_⟩;rw[L];simp only[Op.operands,MU];exact⟨a,MP W,rfl⟩) l9 (fun us s=>by rw[List.eq_of_mem_replicate s];exact B) (fun us s=>by rw[List.eq_of_mem_replicate s];exact u.2) (fun i us cs s H=>by
      rw[List.getElem?_replicate] at s H;split at s
      ·rename_i hi;rw[N2 hi] at H;cases s;cases H;exact u.1
      ·cases s)
    have D:css'.length=n:=(by rw[q2,F.len,List.length_replicate]);have hnm:n<=n*te.size:=Nat.le_mul_of_pos_right n j;have E:=aS.tV aO F.ids d ti.elem q2 q5 q3 q4 (by rw[D];simp only[maxLen];omega);have m:(Array.range (n*te.size)).map (z.cells[· % z.cells.size]!)=(MI n z.cells.toList).flatten.toArray:=by
     have:=wi z.cells.toList n;rw[B] at this;apply Array.toList_inj.1;simpa[madeCells] using this
    have hvp:(e.map fun(p:Nat×Operand)=>(p.1,G p.2)).toList=e.toList.map fun p=>(p.1,G p.2):=l9;have y:(execOp G o).run P w=.ok (.value (.slice (some ⟨w.heap.size,0,none⟩) n n)) (w.alloc (.cells css'.flatten.toArray ti.elem)):=by
     have x:¬(n*te.size > 2 ^ 24):=d9;by_cases U:n*te.size=0
     ·have J:n=0:=by rcases Nat.mul_eq_zero.1 U with h|h;exact h;omega
      subst J;have M:e.toList=[]:=by
       cases O:e.toList with
       |nil=>rfl
       |cons a l =>
        rw[O] at f;simp only[MS,sj,List.replicate_zero] at f;split at f
        ·split at f
         ·split at f
          ·have:∀(i:Nat) (r:List AV),X9 i [r] ([]:List (List AV))=none:=fun i r=>by cases i<;>rfl
           rw[this] at f;cases f
          ·cases f
         ·cases f
        ·cases f
      have N:e=#[]:=(by simpa using M);have I:css'=[]:=Mk D;subst N I;simp[execOp,L,Instr.buildSlice,run_underlying Z,C.ax,Instr.fill,newRow];rw[show(Array.map (fun _=>(default:Value)) (Array.range 0))=#[] from Array.eq_empty_of_size_eq_zero l9]
     ·simp only[execOp,L,Instr.buildSlice,Sem.run_bind,run_underlying Z,C.ax,Result.andThen_ok,N1 x,N1 U,hz,Sem.run_pure,m];simp[q1,newRow]
    rw[y];refine⟨_,aS.bl E Q,?_⟩;rw[<-D];exact .aK (by simp[Ctx.aN]) (It _) (by rw[D];simp only[maxLen];omega)
   ·exact h.elim
  ·exact h.elim
 ·exact h.elim
def yb (tab:R9) (d:Nat) (t:TypeId) (x y:AV) (K:Kt):Prop :=
 match lk tab t,x,y with
 |some ti,.int a,.int b=>match ti.kind,lk tab ti.elem with
  |2,some te=>a=b/\0<=a/\a<=140737488355328/\a*te.bytes<=140737488355328/\∃q,bt (MI a.toNat te.zero) q/\K (.aK d) [] [d] [(d,.row te.size q ti.elem)]
  |_,_=>False
 |_,_,_=>False
def K2 (D:M9 P tab) (d:Nat) {t:TypeId} {x y:Operand} (r:o.op=.makeSlice t x y) (h:yb tab d t (ev x) (ev y) K):Y6 P o ev os K:=by
 unfold yb at h;split at h
 ·rename_i ti a b A M N;split at h
  ·rename_i te J v;obtain⟨rfl,I,T,U,V,s,h⟩:=h;have L:=(D t ti A).af J;have C:=D _ te v;refine fun _=>⟨_,[],_,[d],fun c w R aO F=>?_,fun _ _ h=>(by cases h),fun id j=>(by simp at j;subst j;rw[j5];rfl),h⟩;obtain⟨i,z,hi,u,p,O,B,Q⟩:=C.info;have g:=lQ c.Φ w _ _ B;have n:z.cells.toList.length=te.size:=by rw[g.1.length,C.zl]
   have G:=F x (by simp[r,Op.operands]);have H:=F y (by simp[r,Op.operands]);rw[M] at G;rw[N] at H;have l:=run_make (P:=P) w t ti.elem i z L hi O .i64 .i64 a a I (MO _) (by rw[p,Int.mul_comm];omega) d9;have e:madeCells z.cells (a.toNat*i.size)=(MI a.toNat z.cells.toList).flatten.toArray:=by
    have:=wi z.cells.toList a.toNat;rw[n] at this;apply Array.toList_inj.1;rw[u];simpa using this
   rw[e] at l;have E:=aS.newRow (c:=c) (w:=w) aO.aq d (sz:=te.size) (css:=MI a.toNat z.cells.toList) (ls:=MI a.toNat te.zero) ti.elem l9 (fun k us S f q=>by
    rw[List.getElem?_replicate] at f q;split at f
    ·rename_i hi;rw[N2 hi] at q;cases f;cases q;exact g.1
    ·cases f) (fun us f=>by rw[List.eq_of_mem_replicate f];exact n) (fun us f=>by rw[List.eq_of_mem_replicate f];exact g.2) (by rw[List.length_replicate];simp only[maxLen];omega)
   have m:(execOp R o).run P w=.ok (.value (.slice (some ⟨w.heap.size,0,none⟩) a.toNat a.toNat)) (w.alloc (.cells (MI a.toNat z.cells.toList).flatten.toArray ti.elem)):=by
    simp[execOp,r,G.ah.1,H.ah.1,l]
   rw[m];simp only[List.length_replicate] at E;exact⟨_,aS.bl E s,.aK (by simp[Ctx.aN]) (It _) (by simp only[maxLen];omega)⟩
  ·exact h.elim
 ·exact h.elim
end
section
variable {P:Program} {tab:R9} {o:Oper} {ev:Ev} {os:Os} {K:Kt}
def vj (os:Os) (sz e:Nat) (x:AV):Option (List (List AV)×Os) :=
 match x with
 |.aJ=>some ([],[])
 |.aK id=>match lk os id with
  |some (.row a ls b)=>match AT sz a,AT e b with
   |true,true=>some (ls,[(id,.row a ls b)])
   |_,_=>none
  |_=>none
 |.dW id n=>match lk os id with
  |some (.row a ls b)=>match AT sz a,AT e b with
   |true,true=>some (ls.take n,[(id,.row a ls b)])
   |_,_=>none
  |_=>none
 |_=>none
def d18 (os:Os) (sz:Nat) (x:AV):Option (List (List AV)×Os) :=
 match x with
 |.aJ=>some ([],[])
 |.sl a ls=>match AT sz a with
  |true=>some (ls,[])
  |false=>none
 |.aK id=>match lk os id with
  |some (.row a ls e)=>match AT sz a with
   |true=>some (ls,[(id,.row a ls e)])
   |false=>none
  |_=>none
 |.dQ id n b=>match lk os id with
  |some (.row a ls e)=>match AT sz a,AT sz b with
   |true,true=>some (ls.drop n,[(id,.row a ls e)])
   |_,_=>none
  |_=>none
 |_=>none
structure Ld (os:Os) (sz e:Nat) (x:AV) (ls:List (List AV)) (g:Os):Prop where
 sub:∀id o,lk g id=some o->lk os id=some o
 run:∀(c:Ctx) (w:World) (v:Value),Q5 c w g->Rd c w v x->(∀b,v.ownBlock=some b↔∃id o,lk g id=some o/\aW c id o b) /\
  ∃css,K5 w v sz e css/\css.length=ls.length/\∀(i:Nat) (us:List Value) (cs:List AV),css[i]?=some us->ls[i]?=some cs->H5 c.Φ w us cs
def tH {id:Nat} {ob:Obj} {c:Ctx} {b:Nat}:(∃i o,lk [(id,ob)] i=some o/\aW c i o b)↔aW c id ob b:=by
 refine⟨fun⟨i,o,a,d⟩=>?_,fun h=>⟨id,ob,j5 _ _ _,h⟩⟩;rw[l8] at a;split at a
 ·rename_i e;subst e;cases a;exact d
 ·cases a
def Dp {sz e:Nat} {x:AV} {ls:List (List AV)} {g:Os} (h:vj os sz e x=some (ls,g)):Ld os sz e x ls g:=by
 unfold vj at h;split at h
 ·cases h;refine⟨fun _ _ h=>(by cases h),fun c w v aO d=>⟨fun b=>⟨fun h=>?_,fun⟨_,_,h,_⟩=>(by cases h)⟩,[],⟨.inl ⟨d.bH,rfl⟩,l9,l9⟩,rfl,fun i us z h=>by simp at h⟩⟩;rw[d.bH] at h;cases h
 ·rename_i id;split at h
  ·rename_i y s D a;split at h
   ·rename_i p q;obtain rfl:=MN p;obtain rfl:=MN q;cases h;refine⟨fun i o h=>fY h a,fun c w v aO d=>?_⟩;obtain⟨A,n,cap,e1,j,B,E⟩:=d.bF;obtain⟨css,l,t,u⟩:=aO.rep id _ (j5 _ _ _);have C:v=c.hd id:=e1.trans j.symm;refine⟨fun b=>by rw[tH,C];rfl,css,by rw[C];exact l,t,u⟩
   ·cases h
  ·cases h
 ·rename_i id n;split at h
  ·rename_i y s D a;split at h
   ·rename_i p q;obtain rfl:=MN p;obtain rfl:=MN q;cases h;refine⟨fun i o h=>fY h a,fun c w v aO d=>?_⟩;obtain⟨A,m,cap,e1,j,B,E,F⟩:=d.hZ;obtain⟨css,l,t,u⟩:=aO.rep id _ (j5 _ _ _);rw[j] at l;have f:v.ownBlock=(c.hd id).ownBlock:=by rw[e1,j];cases A<;>rfl
    refine⟨fun b=>by rw[tH,f];rfl,css.take n,by rw[e1];exact l.take B,by simp[t],fun i us z k r=>?_⟩;rw[Mu] at k r;split at k
    ·rename_i hi;rw[N2 hi] at r;exact u i us z k r
    ·cases k
   ·cases h
  ·cases h
 ·cases h
structure Lf (os:Os) (sz:Nat) (x:AV) (ls:List (List AV)) (g:Os):Prop where
 sub:∀id o,lk g id=some o->lk os id=some o
 run:∀(c:Ctx) (w:World) (v:Value),Q5 c w g->Rd c w v x->Src c.Φ w sz v ls
def oZ {sz:Nat} {x:AV} {ls:List (List AV)} {g:Os} (h:d18 os sz x=some (ls,g)):Lf os sz x ls g:=by
 unfold d18 at h;split at h
 ·cases h;exact⟨fun _ _ h=>(by cases h),fun c w v aO b=>by rw[b.bH];exact Src.nil sz⟩
 ·split at h
  ·rename_i d;obtain rfl:=MN d;cases h;exact⟨fun _ _ h=>(by cases h),fun c w v aO b=>Src.th b⟩
  ·cases h
 ·rename_i id;split at h
  ·rename_i j f s a;split at h
   ·rename_i d;obtain rfl:=MN d;cases h;refine⟨fun i o h=>fY h a,fun c w v aO b=>?_⟩;obtain⟨A,n,cap,e1,e,k,t⟩:=b.bF;rw[e1.trans e.symm];exact Src.jM (aO.rep id _ (j5 _ _ _))
   ·cases h
  ·cases h
 ·rename_i id n B;split at h
  ·rename_i j f s a;split at h
   ·rename_i d u;obtain rfl:=MN d;obtain rfl:=MN u;cases h;refine⟨fun i o h=>fY h a,fun c w v aO b=>?_⟩;obtain⟨A,m,cap,e1,e,k,t,C⟩:=b.oU;obtain⟨css,q,y,z⟩:=aO.rep id _ (j5 _ _ _);rw[e] at q;rw[e1];refine Src.er (q.drop k) (by simp[y]) fun i us r p l=>?_;rw[Mm] at p l;exact z _ us r p l
   ·cases h
  ·cases h
 ·cases h
def xw (tab:R9) (os:Os) (d:Nat) (t c:TypeId) (x y:AV) (K:Kt):Prop :=
 match lk tab t,AT t c with
 |some ti,true=>match ti.kind,lk tab ti.elem with
  |2,some te=>match IN 1 te.size,IN 1 te.bytes,vj os te.size ti.elem x,d18 os te.size y with
   |true,true,some (ls,g),some (a,b)=>match lk g d with
    |none=>(ls.length+a.length)*te.bytes<=140737488355328/\∃q,bt (ls++a) q/\K (.aK d) ((g++b).map (·.1)) [d] ((d,.row te.size q ti.elem)::I7 g)
    |some _=>False
   |_,_,_,_=>False
  |_,_=>False
 |_,_=>False
def IC (H:M9 P tab) (d:Nat) {t L:TypeId} {x y:Operand} (s:o.op=.call { callee:=.builtin .append,args:=#[x,y],argTypes:=#[t,L] }) (h:xw tab os d t L (ev x) (ev y) K):Y6 P o ev os K:=by
 unfold xw at h;split at h
 ·rename_i ti C D;obtain rfl:=MN D;split at h
  ·rename_i te R z;split at h
   ·rename_i ls g b O a e B v;have a:=MZ a;have e:=MZ e;split at h
    ·rename_i r;obtain⟨Q,q0,u,h⟩:=h;have T:=Dp B;have S:=oZ v;obtain⟨s1,s2,s3⟩:=pM T.sub S.sub;refine fun _=>⟨_,g++O,_,[d],fun c w ρ aO I=>?_,s1,fun id j=>(by simp at j;subst j;rw[j5];rfl),h⟩;have r1:=I x (by simp[s,Op.operands,Go.Call.operands]);have r2:=I y (by simp[s,Op.operands,Go.Call.operands]);obtain⟨q,css,Z,E,q3⟩:=T.run c w _ (aO.sub s3) r1;have l:=S.run c w _ (aO.sub s2) r2;have hl:css.length+b.length<=maxLen:=by
      have:(ls.length+b.length)*1<=(ls.length+b.length)*te.bytes:=Nat.mul_le_mul_left _ e;simp only[maxLen];omega
     obtain⟨v',w',G,k,V,J,W,X,Y⟩:=Af (P:=P) (H t ti C) R (H _ te z) a o.type Z l (by rw[E];exact Q) hl;have f:=aS.append (d:=d) (ls:=ls++b) (aO.sub s3) q r W X J (by simp[E,V]) (fun i us F n m=>by
      by_cases hi:i<css.length
      ·rw[Mp hi] at n;rw[Mp d9] at m;exact q3 i us F n m
      ·rw[Ma d9] at n;rw[Ma d9,<-E] at m;exact Y _ us F n m)
     have p:(execOp ρ o).run P w=.ok (.value v') w':=by
      simp[execOp,s,resolve,invoke,builtin,k]
     rw[p];refine⟨_,(f.bl u).gZ s3,?_⟩;obtain⟨A,cap,U,M,N⟩:=J.head;rw[U];exact .aK (by simp[Ctx.aN]) M N
    ·exact h.elim
   ·exact h.elim
  ·exact h.elim
 ·exact h.elim
def eX (s:ByteArray):List Int:=s.data.toList.map fun b=>(b.toNat:Int)
def GV {t u:TypeId} {ti te:TI} (hT:X4 P t ti) (Q:ti.kind=2) (hE:X4 P ti.elem te) (h1:te.size=1) (Y:te.bytes=1) (f:P.underlying u=some .string) (ty:TypeId) {w:World} {hdv:Value} {css:List (List Value)}
  (h:K5 w hdv 1 ti.elem css) (s:ByteArray) (hl:css.length+s.size<=140737488355328) :
  ∃W w',(Builtin.append_ #[t,u] ty #[hdv,.string s]).run P w=.ok W w'/\K5 w' W 1 ti.elem (css++(Lib.strCells s).map fun x=>[x])/\w.grownBy w' hdv.ownBlock/\(W.ownBlock=hdv.ownBlock\/∀b,W.ownBlock=some b->w.heap.size<=b):=by
 obtain⟨i,z,hi,B,G,hz,hzo,hza⟩:=hE.info;rw[h1] at B;rw[Y] at G
 have R:=hT.af Q;have hzs:z.cells.size=1:=by
  have:=(lQ (fun _=>False) w _ _ hzo).1.length;rw[<-h1,<-hE.zl,<-this];simp
 have d:=Lib.strCells_length s;have c:=fC 1 css h.len;have m:∀us∈css++(Lib.strCells s).map (fun x=>[x]),us.length=1:=fun us f=>by
  rcases MT.1 f with f|f
  ·exact h.len us f
  ·obtain⟨x,_,rfl⟩:=MU.1 f;rfl
 have n:∀us∈css++(Lib.strCells s).map (fun x=>[x]),∀u∈us,u.oneCell'=true:=fun us f=>by
  rcases MT.1 f with f|f
  ·exact h.one us f
  ·obtain⟨x,T,rfl⟩:=MU.1 f;intro u S;simp only[Mh] at S;subst S;exact Lib.strCells_oneCell s u T
 have O:∀l:List Value,(l.map fun x=>[x]).flatten=l:=fun l=>by induction l with
  |nil=>rfl
  |cons a l ih=>simp[ih]
 have q:(css++(Lib.strCells s).map (fun x=>[x])).length=css.length+s.size:=by simp[d]
 have F:∀cap:Nat,css.length+s.size<=cap->cap<=maxLen->∀C:List Value,C=css.flatten ->
   K5 (w.drew.alloc (.cells (C.toArray++(Lib.strCells s).toArray++Builtin.zeroCells z.cells (cap-(css.length+s.size))) ti.elem)) (.slice (some ⟨w.heap.size,0,none⟩) (css.length+s.size) cap) 1 ti.elem (css++(Lib.strCells s).map fun x=>[x]):=by
  rintro cap Z hc2 C rfl;refine⟨.inr ⟨w.heap.size,0,0,cap,_,by rw[q],uP w.drew _,by rw[q];exact Z,d9,?_,fun _=>l9,?_⟩,m,n⟩
  ·simp only[Array.size_append,List.size_toArray,size_zeroCells,hzs,c,d];omega
  ·have e1:(css++(Lib.strCells s).map fun x=>[x]).flatten=css.flatten++Lib.strCells s:=(by rw[List.flatten_append,O]);rw[q,e1];simp only[Array.toList_append,MV,Nat.zero_mul,List.drop_zero,Nat.mul_one];rw[<-MV];have:css.length+s.size=(css.flatten++Lib.strCells s).length:=by rw[MK,c,d];omega
   rw[this];exact List.take_left
 have r:∀o:Go.Obj,w.grownBy (w.drew.alloc o) hdv.ownBlock:=fun o=>⟨rfl,rfl,rfl,l9,fun k Q _=>alloc_old w.drew o Q⟩;have N:=Lib.run_firstCells_string (P:=P) w 1 s;have M:css.length+s.size<=maxLen:=by simp only[maxLen];omega
 rcases h.bV with⟨rfl,hn⟩|⟨g,x,p,D,E,rfl,hg,a1,a2,a3,T,a4⟩
 ·have e0:css=[]:=Mk hn;subst e0;rcases Nat.eq_zero_or_pos s.size with L|hp
  ·have A:Lib.strCells s=[]:=Mk d9;refine⟨.slice none 0 0,w,?_,by rw[A];exact h,World.grownBy.refl w _,.inl rfl⟩;rw[L,A] at N;simp[Builtin.append_,run_underlying R,run_underlying f,sizeOf,typeInfo,hi,B,Builtin.lenOf,L,N,storeCells]
  ·have V:=run_append_nil_string (P:=P) w t u ty ti.elem i z R f hi hz s d9 d9 (by rw[G];omega);have e1:(s.data.map fun b=>Value.int .u8 b.toNat)=(Lib.strCells s).toArray:=by
    apply Array.ext';simp[Lib.strCells]
   rw[e1] at V;have:=F (grownCap w s.size 0 ti.elem) (by simpa using grownCap_ge w s.size 0 ti.elem) (grownCap_le_maxLen w s.size 0 ti.elem (by simpa using M)) [] rfl;simp only[Ms,Mi,Array.empty_append] at this;exact⟨_,_,V,this,r _,.inr fun b X=>by simp[Value.ownBlock] at X;omega⟩
 ·have hcs:E.toList.length=(p+D)*1:=by rw[<-a3];simp
  by_cases y:css.length+s.size<=D
  ·rcases Nat.eq_zero_or_pos D with hc0|hcp
   ·have L:s.size=0:=d9;have A:Lib.strCells s=[]:=Mk d9;refine⟨_,w,?_,by rw[A];simpa using h,World.grownBy.refl w _,.inl rfl⟩;rw[L,A] at N;simp[Builtin.append_,run_underlying R,run_underlying f,sizeOf,typeInfo,hi,B,Builtin.lenOf,L,N,storeCells,a1]
   ·have J:=T hcp;obtain⟨rs,I⟩:=iu (p*1+css.length*1+0) (Lib.strCells s) E.toList (by rw[d];omega);have hg':w.heap[g]?=some (.cells E.toList.toArray ti.elem):=by simpa using hg
    obtain⟨w',q1,q2,q3,q4,q5,q6,q7⟩:=ub (P:=P) g (p*1+css.length*1) ti.elem (Lib.strCells s) 0 E.toList rs w hg' (Lib.strCells_oneCell s) I;refine⟨.slice (some ⟨g,x,none⟩) (css.length+s.size) D,w',?_,⟨.inr ⟨g,x,p,D,rs.toArray,by rw[q],q2,by rw[q];exact y,a2,by rw[List.size_toArray,(fS I).1];exact hcs,T,?_⟩,m,n⟩,⟨q5,q6,q7,d9,fun k _ Q=>q3 k fun e=>Q (by simp[Value.ownBlock,e])⟩,.inl rfl⟩
    ·simp[Builtin.append_,run_underlying R,run_underlying f,sizeOf,typeInfo,hi,Builtin.lenOf,y,B,N,fv,J];simp only[Nat.mul_one,Nat.add_zero] at q1;rw[q1];rfl
    ·rw[q,List.flatten_append,O];apply Mn;intro j;simp only[Nat.mul_one];rw[Mu];split
     ·rename_i U;rw[Mm];show rs[p+j]?=_;rw[Y2 I];by_cases hjl:j<css.length
      ·rw[N1 d9,Mp d9,<-a4,List.getElem?_take_of_lt d9,Mm];simp
      ·rw[N2 d9,Ma d9,c];congr 1;omega
     ·rw[Md];rw[MK,c,d];omega
  ·have H:∀j v,css.flatten[j]?=some v->w.cell? ((⟨g,x,none⟩:Addr).add j)=some v:=fun j v U=>by
    have hlt:j<css.length*1:=by
     have:=(ME.1 U).1
     rwa [c] at this
    have J:=T d9;rw[<-a4,List.getElem?_take_of_lt hlt,Mm] at U;rw[fv,J];unfold World.cell?;rw[hg];simpa using U
   have V:=Lib.run_append_grow_string (P:=P) w t u ty ti.elem i z R f hi hz ⟨g,x,none⟩ css.length D css.flatten (by rw[B];exact c) H s d9 d9 (by rw[G];exact growslice_fits d9 d9);have:=F (grownCap w (css.length+s.size) D ti.elem) (grownCap_ge w _ D ti.elem) (grownCap_le_maxLen w _ D ti.elem M) _ rfl;exact⟨_,_,V,this,r _,.inr fun b X=>by simp[Value.ownBlock] at X;omega⟩
def LI : AV->Bool
 |.str _=>true
 |_=>false
def xR (tab:R9) (os:Os) (d:Nat) (t a:TypeId) (x y:AV) (K:Kt):Prop :=
 match y,lk tab t,lk tab a with
 |.str s,some ti,some ts=>match ti.kind,ts.kind,lk tab ti.elem,vj os 1 ti.elem x with
  |2,4,some te,some (ls,g)=>match AT te.size 1,AT te.bytes 1,lk g d with
   |true,true,none=>ls.length+s.size<=140737488355328/\∃q,bt (ls++(eX s).map fun n=>[AV.ik .u8 n]) q/\K (.aK d) (g.map (·.1)) [d] ((d,.row 1 q ti.elem)::I7 g)
   |_,_,_=>False
  |_,_,_,_=>False
 |_,_,_=>False
def d48 (p:M9 P tab) (d:Nat) {t H:TypeId} {x y:Operand} (z:o.op=.call { callee:=.builtin .append,args:=#[x,y],argTypes:=#[t,H] }) (h:xR tab os d t H (ev x) (ev y) K):Y6 P o ev os K:=by
 unfold xR at h;split at h
 ·rename_i s ti ts W E F;split at h
  ·rename_i te ls g U v C D;split at h
   ·rename_i m a u;have m:=MN m;have a:=MN a;obtain⟨S,q0,B,h⟩:=h;have T:=Dp D;refine fun _=>⟨_,g,_,[d],fun c w ρ aO J=>?_,T.sub,fun id j=>(by simp at j;subst j;rw[j5];rfl),h⟩;have r1:=J x (by simp[z,Op.operands,Go.Call.operands]);have M:=J y (by simp[z,Op.operands,Go.Call.operands]);rw[W] at M;obtain⟨r,css,Z,G,q3⟩:=T.run c w _ aO r1;obtain⟨v',w',k,L,X,Y⟩:=GV (P:=P) (p t ti E) U (p _ te C) m a ((p H ts F).bZ v) o.type Z s (by rw[G];exact S);have e:=aS.append (d:=d) (ls:=ls++(eX s).map fun n=>[AV.ik .u8 n]) aO r u X Y L (by simp[G,eX,Lib.strCells]) (fun i us R l f=>by
     by_cases hi:i<css.length
     ·rw[Mp hi] at l;rw[Mp d9] at f;exact q3 i us R l f
     ·rw[Ma d9] at l;rw[Ma d9,<-G] at f;simp only[Lib.strCells,eX,List.map_map,Mj,MM] at l f;obtain⟨b,N,rfl⟩:=l;obtain⟨b',I,rfl⟩:=f;rw[N] at I;cases I;exact .cons (.ik _ _) .nil)
    have q:(execOp ρ o).run P w=.ok (.value v') w':=by
     simp[execOp,z,resolve,invoke,builtin,M.bY.1,k]
    rw[q];refine⟨_,e.bl B,?_⟩;obtain⟨A,cap,V,O,Q⟩:=L.head;rw[V];exact .aK (by simp[Ctx.aN]) O Q
   ·exact h.elim
  ·exact h.elim
 ·exact h.elim
end
section
variable {P:Program} {tab:R9} {o:Oper} {ev:Ev} {os:Os} {K:Kt}
def cB (ev:Ev):Option Operand->Option AV
 |none=>none
 |some x=>some (ev x)
def yU (tab:R9) (os:Os) (d:Nat) (t:TypeId) (x:AV) (c hi:Option AV) (K:Kt):Prop :=
 match lk tab t with
 |some ti=>match x,c,hi with
  |.sl sz ls,none,some (.int b)=>ti.kind=2/\(lk tab ti.elem).isSome=true/\0<=b/\b<=ls.length/\∀q,q=ls.take b.toNat->K (.sl sz q) [] [] []
  |.sl sz ls,some (.int a),none=>match lk tab ti.elem with
   |some te=>ti.kind=2/\te.size=sz/\0<=a/\a<=ls.length/\∀q,q=ls.drop a.toNat->K (.sl sz q) [] [] []
   |none=>False
  |.aK id,none,some (.int b)=>match lk os id with
   |some (.row sz ls e)=>match AT id d with
    |false=>ti.kind=2/\(lk tab ti.elem).isSome=true/\0<=b/\b<=ls.length/\∀q,q=ls.take b.toNat->K (.aK d) [id] [d] [(d,.row sz q e),(id,.aF)]
    |true=>False
   |_=>False
  |.dW id n,none,some (.int b)=>ti.kind=2/\(lk tab ti.elem).isSome=true/\0<=b/\b<=n/\K (.dW id b.toNat) [] [] []
  |.aK id,some (.int a),none=>match lk os id,lk tab ti.elem,AT id d with
   |some (.row sz ls e),some te,false=>ti.kind=2/\te.size=sz/\0<=a/\a<=ls.length/\(K (.dQ id a.toNat sz) [id] [] []\/∀q,q=ls.drop a.toNat->K (.aK d) [id] [d] [(d,.row sz q e),(id,.aF)])
   |_,_,_=>False
  |.str s,some (.int a),some (.int b)=>ti.kind=4/\0<=a/\a<=b/\b<=s.size/\K (.str (s.extract a.toNat b.toNat)) [] [] []
  |_,_,_=>False
 |none=>False
def eT (A:Option Addr) (k cap:Nat):(if cap=0 then A else A.map (·.add (0*k)))=A:=by
 split
 ·rfl
 ·cases A<;>simp[Addr.add]
def um {t e:TypeId} {te:TI} (f:P.underlying t=some (.slice e)) (d:X4 P e te) {w:World} {A:Option Addr} {n cap:Nat} {b:Int} (a:0<=b) (c:b<=cap) :
  (Instr.sliceAt t (.slice A n cap) none (some (.int .i64 b)) none).run P w=.ok (.slice A b.toNat cap) w:=by
 have e:=eT A te.size cap;simp only[Nat.zero_mul] at e;simp[Instr.sliceAt,run_underlying f,Instr.slice,Instr.sliceBounds,Instr.sliceBound,asIntOf,a,c,d.ax,e]
theorem Rd.cut {c:Ctx} {w:World} {v:Value} {sz:Nat} {ls:List (List AV)} (h:Rd c w v (.sl sz ls)) {b:Nat} (r:b<=ls.length):∃A n cap,v=.slice A n cap/\ls.length<=cap/\Rd c w (.slice A b cap) (.sl sz (ls.take b)):=by
 obtain⟨A,k,us,g,p,e,g1,d,f,j,l,m,q⟩:=h.jx;have hl:(ls.take b).length=b:=by rw[Mq];omega
 refine⟨A,ls.length,k,e,g1,.fz ?_⟩;have key:∀i a,(ls.take b)[i]?=some a->ls[i]?=some a:=fun i a hi=>by
  rw[Mu] at hi;split at hi
  ·exact hi
  ·cases hi
 have:=Rf.sl (Φ:=c.Φ) (w:=w) (A:=A) (c:=k) (sz:=sz) (ls:=ls.take b) us g p (by rw[hl];omega) d (fun s=>f d9) (fun i a hi=>j i a (key i a hi)) (fun i a hi=>l i a (key i a hi)) (fun i a hi=>m i a (key i a hi)) (fun i a hi=>q i a (key i a hi))
 rwa [hl] at this
theorem Rd.off {c:Ctx} {w:World} {v:Value} {sz:Nat} {ls:List (List AV)} (h:Rd c w v (.sl sz ls)) {a:Nat} (t:a<=ls.length):∃A cap,v=.slice A ls.length cap/\ls.length<=cap/\Rd c w (.slice (if cap=a then A else A.map (·.add (a*sz))) (ls.length-a) (cap-a)) (.sl sz (ls.drop a)):=by
 obtain⟨A,k,us,g,p,e,g1,s,d,f,l,m,n⟩:=h.jx;have hl:(ls.drop a).length=ls.length-a:=by rw[List.length_drop]
 refine⟨A,k,e,g1,.fz ?_⟩;have key:∀i b,(ls.drop a)[i]?=some b->ls[a+i]?=some b:=fun i b hi=>by rwa [Mm] at hi
 have:=Rf.sl (Φ:=c.Φ) (w:=w) (A:=if k=a then A else A.map (·.add (a*sz))) (c:=k-a) (sz:=sz) (ls:=ls.drop a) (fun i=>us (a+i)) g (p+a*sz) (by rw[hl];omega) d9 (fun x=>by
   obtain⟨rfl,q⟩:=d d9;rw[N1 d9];exact⟨by simp[fv],q⟩) (fun i b hi=>f _ b (key i b hi)) (fun i b hi j u r=>by
   have:=l _ b (key i b hi) j u r;rw[Nat.add_mul] at this
   rwa [show p+a*sz+i*sz+j=p+(a*sz+i*sz)+j by omega]) (fun i b hi=>m _ b (key i b hi)) (fun i b hi=>n _ b (key i b hi))
 rwa [hl] at this
def wB {t e:TypeId} {te:TI} (f:P.underlying t=some (.slice e)) (d:X4 P e te) {w:World} {A:Option Addr} {n cap:Nat} {a:Int} (b:0<=a) (c:a<=n) :
  (Instr.sliceAt t (.slice A n cap) (some (.int .i64 a)) none none).run P w=.ok (.slice (if cap=a.toNat then A else A.map (·.add (a.toNat*te.size))) (n-a.toNat) (cap-a.toNat)) w:=by
 simp[Instr.sliceAt,run_underlying f,Instr.slice,Instr.sliceBounds,Instr.sliceBound,asIntOf,b,c,d.ax]
def Iy (F:M9 P tab) (d:Nat) {t:TypeId} {x:Operand} {D hi:Option Operand} (ho:o.op=.slice t x D hi none) (h:yU tab os d t (ev x) (cB ev D) (cB ev hi) K):Y6 P o ev os K:=by
 have B:∀{c:Ctx} {w:World} {k:Operand->Value},(∀z∈o.op.operands.toList,Rd c w (k z) (ev z))->Rd c w (k x) (ev x)/\(∀l,D=some l->Rd c w (k l) (ev l))/\(∀l,hi=some l->Rd c w (k l) (ev l)):=fun y =>
  ⟨y x (by simp[ho,Op.operands]),fun l hl=>y l (by simp[ho,Op.operands,hl]),fun l hl=>y l (by simp[ho,Op.operands,hl])⟩
 have run:∀(k:Operand->Value) (w:World) (v:Value),(Instr.sliceAt t (k x) (D.map k) (hi.map k) none).run P w=.ok v w->(execOp k o).run P w=.ok (.value v) w:=fun k w v h=>by simp[execOp,ho,h]
 unfold yU at h;split at h
 ·rename_i ti C;split at h
  ·rename_i sz ls b H j f;obtain⟨L,q,E,W,h⟩:=h;obtain⟨te,r⟩:=Option.isSome_iff_exists.1 q;have G:=(F t ti C).af L;obtain⟨rfl⟩:D=none:=by cases D<;>simp_all [cB]
   cases hi with
   |none=>simp[cB] at f
   |some l =>
    simp only[cB,Option.some.injEq] at f;refine .pure (fun c w k y=>?_) (h _ rfl);obtain⟨u,_,g⟩:=B y;have g:=g l rfl;rw[H] at u;rw[f] at g;obtain⟨A,n,cap,e,N,S⟩:=u.cut (b:=b.toNat) d9;refine⟨_,run k w _ ?_,S⟩;rw[e];simp only[Option.map_none,Mf,g.ah.1];exact um G (F _ te r) E d9
  ·rename_i sz ls a H j f;split at h
   ·rename_i te r;obtain⟨L,rfl,E,W,h⟩:=h;have G:=(F t ti C).af L;obtain⟨rfl⟩:hi=none:=by cases hi<;>simp_all [cB]
    cases D with
    |none=>simp[cB] at j
    |some l =>
     simp only[cB,Option.some.injEq] at j;refine .pure (fun c w k y=>?_) (h _ rfl);obtain⟨u,g,_⟩:=B y;have g:=g l rfl;rw[H] at u;rw[j] at g;obtain⟨A,cap,e,N,S⟩:=u.off (a:=a.toNat) d9;refine⟨_,run k w _ ?_,S⟩;rw[e];simp only[Option.map_none,Mf,g.ah.1];exact wB G (F _ te r) E d9
   ·exact h.elim
  ·rename_i id b H j f;split at h
   ·rename_i sz ls e O;split at h
    ·rename_i p;obtain⟨L,q,E,W,h⟩:=h;have p:id≠d:=fun e=>by subst e;simp at p
     obtain⟨te,r⟩:=Option.isSome_iff_exists.1 q;have G:=(F t ti C).af L;obtain⟨rfl⟩:D=none:=by cases D<;>simp_all [cB]
     cases hi with
     |none=>simp[cB] at f
     |some l =>
      simp only[cB,Option.some.injEq] at f;refine fun _=>⟨_,[(id,.row sz ls e)],_,[d],fun c w k aO y=>?_,fun i ob h=>fY h O,fun i hi=>(by simp at hi;subst hi;rw[j5];rfl),h _ rfl⟩;obtain⟨u,_,g⟩:=B y;have g:=g l rfl;rw[H] at u;rw[f] at g;obtain⟨A,n,cap,e1,I,Z,V⟩:=u.bF;obtain⟨css,Q,q2,q3⟩:=aO.rep id _ (j5 _ _ _);rw[I] at Q;have hn:n=css.length:=by
       obtain⟨A',R,U,_,_⟩:=Q.head;injection U with _ a _
      have hd:=Q.take (n:=b.toNat) d9;have M:(execOp k o).run P w=.ok (.value (.slice A b.toNat cap)) w:=by
       refine run k w _ ?_;rw[e1];simp only[Option.map_none,Mf,g.ah.1];exact um G (F _ te r) E d9
      have J:(Value.slice A b.toNat cap).ownBlock=(c.hd id).ownBlock:=by
       rw[I];cases A<;>simp[Value.ownBlock]
      have hp:=aS.append (d:=d) (w':=w) (hdv:=c.hd id) (ls:=ls.take b.toNat) aO (fun b=>by rw[tH];rfl) (by rw[E8 _ _ p];rfl) (World.grownBy.refl w _) (.inl J) hd (by simp[q2]) (fun i us cs T N=>by
       rw[Mu] at T N;split at T
       ·rename_i X;rw[N2 X] at N;exact q3 _ us cs T N
       ·cases T)
      rw[M];exact⟨_,hp,.aK (by simp[Ctx.aN]) d9 d9⟩
    ·exact h.elim
   ·exact h.elim
  ·rename_i id n b H j f;obtain⟨L,q,E,W,h⟩:=h;obtain⟨te,r⟩:=Option.isSome_iff_exists.1 q;have G:=(F t ti C).af L;obtain⟨rfl⟩:D=none:=by cases D<;>simp_all [cB]
   cases hi with
   |none=>simp[cB] at f
   |some l =>
    simp only[cB,Option.some.injEq] at f;refine .pure (fun c w k y=>?_) h;obtain⟨u,_,g⟩:=B y;have g:=g l rfl;rw[H] at u;rw[f] at g;obtain⟨A,m,cap,e1,I,Z,V,e5⟩:=u.hZ;refine⟨.slice A b.toNat cap,run k w _ ?_,.dW I d9 V e5⟩;rw[e1];simp only[Option.map_none,Mf,g.ah.1];exact um G (F _ te r) E d9
  ·rename_i id a H j f;split at h
   ·rename_i sz ls e te O r p;obtain⟨L,rfl,E,W,h⟩:=h;have p:id≠d:=fun e=>by subst e;simp at p
    have G:=(F t ti C).af L;obtain⟨rfl⟩:hi=none:=by cases hi<;>simp_all [cB]
    cases D with
    |none=>simp[cB] at j
    |some l =>
     simp only[cB,Option.some.injEq] at j;rcases h with h|h
     ·refine .read O (fun c w k Y y=>?_) h;obtain⟨u,g,_⟩:=B y;have g:=g l rfl;rw[H] at u;rw[j] at g;obtain⟨A,n,cap,e1,I,Z,V⟩:=u.bF;obtain⟨css,Q,q2,q3⟩:=Y;obtain⟨A',R,U,_,_⟩:=Q.head;rw[I] at U;injection U with a1 a2 a3
      refine⟨_,run k w _ ?_,.dQ I d9 Z V⟩;rw[e1];simp only[Option.map_none,Mf,g.ah.1];exact wB G (F _ te r) E d9
     refine fun _=>⟨_,[(id,.row te.size ls e)],_,[d],fun c w k aO y=>?_,fun i ob h=>fY h O,fun i hi=>(by simp at hi;subst hi;rw[j5];rfl),h _ rfl⟩;obtain⟨u,g,_⟩:=B y;have g:=g l rfl;rw[H] at u;rw[j] at g;obtain⟨A,n,cap,e1,I,Z,V⟩:=u.bF;obtain⟨css,Q,q2,q3⟩:=aO.rep id _ (j5 _ _ _);rw[I] at Q;have hn:n=css.length:=by
      obtain⟨A',R,U,_,_⟩:=Q.head;injection U with _ a _
     have hd:=Q.drop (n:=a.toNat) d9;have M:(execOp k o).run P w=.ok (.value (.slice (if cap=a.toNat then A else A.map (·.add (a.toNat*te.size))) (n-a.toNat) (cap-a.toNat))) w:=by
      refine run k w _ ?_;rw[e1];simp only[Option.map_none,Mf,g.ah.1];rw[wB G (F _ te r) E d9]
     have J:(Value.slice (if cap=a.toNat then A else A.map (·.add (a.toNat*te.size))) (n-a.toNat) (cap-a.toNat)).ownBlock=(c.hd id).ownBlock:=by
      rw[I];cases A<;>by_cases N:cap=a.toNat<;>simp[Value.ownBlock,N,Addr.add];split<;>rfl
     have hp:=aS.append (d:=d) (w':=w) (hdv:=c.hd id) (ls:=ls.drop a.toNat) aO (fun b=>by rw[tH];rfl) (by rw[E8 _ _ p];rfl) (World.grownBy.refl w _) (.inl J) hd (by simp[q2]) (fun i us cs T N=>by
      rw[Mm] at T N;exact q3 _ us cs T N)
     rw[M];exact⟨_,hp,.aK (by simp[Ctx.aN]) d9 d9⟩
   ·exact h.elim
  ·rename_i s a b H j f;obtain⟨L,E,W,h2,h⟩:=h;have G:=(F t ti C).bZ L;cases D with
   |none=>simp[cB] at j
   |some l1 =>
    cases hi with
    |none=>simp[cB] at f
    |some l2 =>
     simp only[cB,Option.some.injEq] at j f;refine .pure (fun c w k y=>?_) h;obtain⟨u,g,r3⟩:=B y;have g:=g l1 rfl;have r3:=r3 l2 rfl;rw[H] at u;rw[j] at g;rw[f] at r3;refine⟨.string (s.extract a.toNat b.toNat),run k w _ ?_,.fz (.str ?_)⟩
     ·rw[u.bY.1];simp only[Mf,g.ah.1,r3.ah.1];have e1:(0:Int)<=b:=d9;have I:a.toNat<=b.toNat:=d9;simp[Instr.sliceAt,run_underlying G,Instr.slice,Instr.sliceBounds,Instr.sliceBound,asIntOf,E,e1,h2];intro X;omega
     ·have:=u.bY.2;rw[ByteArray.size_extract];omega
  ·exact h.elim
 ·exact h.elim
def yH (x y:AV) (K:Kt):Prop :=
 match x,y with
 |.int a,.int b=>K (.int (min a b)) [] [] []
 |_,_=>False
def d14 (x y:AV) (K:Kt):Prop :=
 match x,y with
 |.int a,.int b=>K (.int (max a b)) [] [] []
 |_,_=>False
def Kx {x y:Operand} {ts:Array TypeId} (d:o.op=.call { callee:=.builtin .min,args:=#[x,y],argTypes:=ts }) (h:yH (ev x) (ev y) K):Y6 P o ev os K:=by
 unfold yH at h;split at h
 ·rename_i a b j k;refine .pure (fun c w n i=>?_) h;have f:=i x (by simp[d,Op.operands,Go.Call.operands]);have g:=i y (by simp[d,Op.operands,Go.Call.operands]);rw[j] at f;rw[k] at g;refine⟨.int .i64 (min a b),?_,.fz (.int ?_)⟩
  ·have e:(if b<a then b else a)=min a b:=by split<;>omega
   simp[execOp,d,resolve,invoke,builtin,Builtin.min_,Builtin.min2,f.ah.1,g.ah.1,e]
  ·have l:=f.ah.2;have m:=g.ah.2;unfold I5 at *;omega
 ·exact h.elim
def Kj {x y:Operand} {ts:Array TypeId} (d:o.op=.call { callee:=.builtin .max,args:=#[x,y],argTypes:=ts }) (h:d14 (ev x) (ev y) K):Y6 P o ev os K:=by
 unfold d14 at h;split at h
 ·rename_i a b j k;refine .pure (fun c w n i=>?_) h;have f:=i x (by simp[d,Op.operands,Go.Call.operands]);have g:=i y (by simp[d,Op.operands,Go.Call.operands]);rw[j] at f;rw[k] at g;refine⟨.int .i64 (max a b),?_,.fz (.int ?_)⟩
  ·have e:(if a<b then b else a)=max a b:=by split<;>omega
   simp[execOp,d,resolve,invoke,builtin,Builtin.max_,Builtin.max2,f.ah.1,g.ah.1,e]
  ·have l:=f.ah.2;have m:=g.ah.2;unfold I5 at *;omega
 ·exact h.elim
def oD (tab:R9) (ti:TI):Bool:=AT ti.kind 2 && match lk tab ti.elem with
 |some te=>AT te.kind 5 && match te.ik with
  |.u8=>true
  |_=>false
 |none=>false
theorem oD.fq {P:Program} {tab:R9} (f:M9 P tab) {t:TypeId} {ti:TI} (c:X4 P t ti) (h:oD tab ti=true):P.underlying t=some (.slice ti.elem)/\P.underlying ti.elem=some (.int .u8):=by
 unfold oD at h;simp only[IT] at h;obtain⟨e,a⟩:=h;split at a
 ·rename_i te b;simp only[IT] at a;have:=(f _ te b).ah (MN a.1);have d:te.ik=.u8:=by
   have:=a.2;split at this
   ·assumption
   ·cases this
  rw[d] at this;exact⟨c.af (MN e),this⟩
 ·cases a
def GX {P:Program} {c:Ctx} {w:World} {d dst e:TypeId} (j:P.underlying d=some (.slice e)) (f:P.underlying e=some (.int .u8)) (hd:P.underlying dst=some .string) {v:Value} {sz:Nat} {l:List Int}
  (D:Rd c w v (.sl sz (l.map fun n=>[AV.ik .u8 n]))):(convert d dst v).run P w=.ok (.string (strOfNums l)) w/\(strOfNums l).size<=maxLen:=by
 obtain⟨A,k,us,b,o,rfl,E,F,x,y,z,B,G⟩:=D.jx;simp only[MW] at *;refine⟨?_,by rw[strOfNums_size];omega⟩;rcases Nat.eq_zero_or_pos l.length with s|C
 ·have e0:l=[]:=Mk s;subst e0;cases A with
  |none=>exact run_convert_bytes_nil (P:=P) w d e j f _ _ dst hd
  |some a =>
   rw[run_convert_bytes_string (P:=P) w d dst e _ _ _ j f hd,run_bytesToString (P:=P) w a _ k [] (by simp[loadCells,loadCellsFrom])];rfl
 ·obtain⟨rfl,_⟩:=x C;refine run_convert_bytes_arg (P:=P) w d e j f b o _ k l rfl (fun i hi=>?_) dst hd;have g:(l.map fun n=>[AV.ik .u8 n])[i]?=some [AV.ik .u8 l[i]]:=by simp[hi]
  have p:=y i _ g;have r:=B i _ g;have q:=z i _ g;have:us i=[.int .u8 l[i]]:=by
   generalize us i=u at r;cases r with|cons h t=>cases t with|nil=>cases h with|ik=>rfl
  rw[this] at p q;have m:sz=1:=by simpa using p.symm
  subst m;have:=q 0 _ rfl;simpa[List.getD,hi] using this
theorem aS.bytes {c:Ctx} {w:World} (d:∀b,c.Φ b->b<w.heap.size) (e:TypeId) (s:ByteArray):aS c w { c with Φ:=fun b=>c.Φ b\/b=w.heap.size } (Lib.bytesWorld w e s) [] [] []:=by
 have f:=Lib.bytesWorld_size w e s;refine⟨rfl,rfl,rfl,d9,fun b a=>.inl a,fun b a=>a.imp (fun h=>h) (fun h=>.inl d9),fun b a _=>Lib.bytesWorld_at_old w e s b a,fun _ _=>⟨rfl,rfl⟩,⟨fun _ _ h=>(by cases h),fun _ _ _ h=>(by cases h),fun _ _ _ _ _ _ h=>(by cases h),fun b a=>?_⟩,fun _ _ _ h=>(by cases h)⟩;rcases a with a|rfl
 ·have:=d b a;omega
 ·omega
def JB {c:Ctx} {w:World} (e:TypeId) (s:ByteArray) (l:s.size<=maxLen) (k:grownCap w s.size 0 e<=maxLen):Rd { c with Φ:=fun b=>c.Φ b\/b=w.heap.size } (Lib.bytesWorld w e s) (.slice (some ⟨w.heap.size,0,none⟩) s.size (grownCap w s.size 0 e)) (.sl 1 ((eX s).map fun n=>[AV.ik .u8 n])):=by
 have hl:((eX s).map fun n=>[AV.ik .u8 n]).length=s.size:=by
  simp only[eX,MW,Array.length_toList];rfl
 have aH:∀(i:Nat) (a:List AV),((eX s).map fun n=>[AV.ik .u8 n])[i]?=some a->i<s.size/\a=[AV.ik .u8 ((s.data.toList.getD i 0).toNat:Int)]:=fun i a h=>by
  have hi:=(ME.1 h).1;rw[hl] at hi;refine⟨hi,?_⟩;have d:i<s.data.toList.length:=by rw[Array.length_toList];exact hi
  simp only[eX,List.map_map,Mj,IS d,Mf,Option.some.injEq] at h;rw[<-h,List.getD_eq_getElem?_getD,IS d];rfl
 have key:=Rf.sl (Φ:=fun b=>c.Φ b\/b=w.heap.size) (w:=Lib.bytesWorld w e s) (A:=some ⟨w.heap.size,0,none⟩) (c:=grownCap w s.size 0 e) (sz:=1) (ls:=(eX s).map fun n=>[AV.ik .u8 n])
  (fun i=>[.int .u8 ((s.data.toList.getD i 0).toNat:Int)]) w.heap.size 0 (by rw[hl];exact grownCap_ge w s.size 0 e) k (fun _=>⟨rfl,.inr rfl⟩) (fun i a h=>rfl) (fun i a h j u f=>by
   obtain⟨hi,_⟩:=aH i a h
   match j,f with
   |0,f =>
    simp only[My,Option.some.injEq] at f;subst f;simpa using Lib.bytesWorld_cell w e s i hi) (fun i a h=>by
   obtain⟨_,rfl⟩:=aH i a h
   exact .cons (.ik _ _) .nil) (fun i a h u g=>by
   simp only[Mh] at g;subst g;rfl)
 rw[hl] at key;exact .fz key
def ym (tab:R9) (a dst:TypeId) (x:AV) (K:Kt):Prop :=
 match lk tab a,lk tab dst with
 |some c,some b=>match b.kind,b.ik,x with
  |5,.i64,.int n=>K (.int n) [] [] []
  |5,.i64,.ik _ n=>I5 n/\K (.int n) [] [] []
  |5,.u64,.int n=>0<=n/\K (.ik .u64 n) [] [] []
  |4,_,.str s=>K (.str s) [] [] []
  |4,_,.sl _ ls=>match oD tab c with
   |true=>∃l:List Int,ls=l.map (fun n=>[AV.ik .u8 n])/\K (.str (strOfNums l)) [] [] []
   |false=>False
  |2,_,.str s=>match oD tab b with
   |true=>K (.sl 1 ((eX s).map fun n=>[AV.ik .u8 n])) [] [] []
   |false=>False
  |_,_,_=>False
 |_,_=>False
def KL (hT:M9 P tab) {src dst:TypeId} {x:Operand} (ho:o.op=.convert src dst x) (h:ym tab src dst (ev x) K):Y6 P o ev os K:=by
 unfold ym at h;split at h
 ·rename_i tsr td hs hd;obtain⟨ds,hds,_⟩:=(hT src _ hs).fq;split at h
  ·rename_i n hk hik hx;have hu:=(hT dst _ hd).ah hk;rw[hik] at hu;refine .pure (fun c w ρ hr=>?_) h;have r1:=hr x (by simp[ho,Op.operands]);rw[hx] at r1;exact⟨_,by simp[execOp,ho,convert,run_underlying hds,run_underlying hu,r1.ah.1,Conv.intToInt,IntWalk.i64_in _ r1.ah.2],.fz (.int r1.ah.2)⟩
  ·rename_i k n hk hik hx;have hu:=(hT dst _ hd).ah hk;rw[hik] at hu;refine .pure (fun c w ρ hr=>?_) h.2;have r1:=hr x (by simp[ho,Op.operands]);rw[hx] at r1;exact⟨_,by simp[execOp,ho,convert,run_underlying hds,run_underlying hu,r1.kf,Conv.intToInt,IntWalk.i64_in _ h.1],.fz (.int h.1)⟩
  ·rename_i n hk hik hx;have hu:=(hT dst _ hd).ah hk;rw[hik] at hu;refine .pure (fun c w ρ hr=>?_) h.2;have r1:=hr x (by simp[ho,Op.operands]);rw[hx] at r1;have h2:=r1.ah.2;have hw:IntKind.u64.wrap n=n:=by
    unfold I5 at h2;have h0:=h.1;simp[IntKind.wrap,IntKind.bits,IntKind.signed];omega
   exact⟨_,by simp[execOp,ho,convert,run_underlying hds,run_underlying hu,r1.ah.1,Conv.intToInt,hw],.fz (.ik _ _)⟩
  ·rename_i s hk hx;have hu:=(hT dst _ hd).bZ hk;refine .pure (fun c w ρ hr=>?_) h;have r1:=hr x (by simp[ho,Op.operands]);rw[hx] at r1;exact⟨.string s,by simp[execOp,ho,convert,run_underlying hds,run_underlying hu,r1.bY.1],.fz (.str r1.bY.2)⟩
  ·rename_i sz ls hk hx;have hu:=(hT dst _ hd).bZ hk;split at h
   case h_2=>exact h.elim
   rename_i h8;obtain⟨l,rfl,h⟩:=h;obtain⟨u1,u2⟩:=oD.fq hT (hT src _ hs) h8;refine .pure (fun c w ρ hr=>?_) h;have r1:=hr x (by simp[ho,Op.operands]);rw[hx] at r1;obtain⟨e1,e2⟩:=GX (P:=P) u1 u2 hu r1;exact⟨_,by simp[execOp,ho,e1],.fz (.str e2)⟩
  ·rename_i s hk hx;split at h
   case h_2=>exact h.elim
   rename_i h8;obtain⟨u1,u2⟩:=oD.fq hT (hT dst _ hd) h8;refine fun _=>⟨_,[],[],[],fun c w ρ aO hr=>?_,fun _ _ h=>(by cases h),fun id hid=>(by cases hid),h⟩;have r1:=hr x (by simp[ho,Op.operands]);rw[hx] at r1;have e1:=Lib.run_convert_string_bytes (P:=P) w src dst td.elem s hds u1 u2;have hex:(execOp ρ o).run P w=.ok (.value (.slice (some ⟨w.heap.size,0,none⟩) s.size (grownCap w s.size 0 td.elem))) (Lib.bytesWorld w td.elem s):=by
    simp[execOp,ho,r1.bY.1,e1]
   rw[hex];exact⟨_,aS.bytes aO.aq td.elem s,JB td.elem s r1.bY.2 (grownCap_le_maxLen w s.size 0 td.elem r1.bY.2)⟩
  ·exact h.elim
 ·exact h.elim
def bg (P:Program) (f:Nat):Bool :=
 match P.funcs[f]? with
 | some fn => fn.body.isSome && !(fn.name == "runtime.NumGoroutine")
 |none=>false
def Spec (P:Program) (f:Nat) (need:Os) (ins:List AV) (av:AV) (upd:Os) (news:List Nat):Prop :=
 bg P f=true/\(∀id∈news,(lk upd id).isSome=true)/\∀(c:Ctx) (w:World) (args:Array Value),Q5 c w need->w9 c w args.toList ins ->
  Calls P f args w fun e w'=>∃v c',e=.returned v/\aS c w c' w' need upd news/\Rd c' w' v av
def fJ (os:Os):List AV->List AV×Os
 |[]=>([],[])
 |.aK id::l=>match lk os id with
  |some (.row sz ls e)=>(.sl sz ls::(fJ os l).1,(id,.row sz ls e)::(fJ os l).2)
  |_=>(.aK id::(fJ os l).1,(fJ os l).2)
 |.cI id::l=>match lk os id with
  |some (.nest sz e isz ie z)=>(.sl sz (du isz z)::(fJ os l).1,(id,.nest sz e isz ie z)::(fJ os l).2)
  |_=>(.cI id::(fJ os l).1,(fJ os l).2)
 |a::l=>(a::(fJ os l).1,(fJ os l).2)
def ch (os:Os):List AV->List AV×Os
 |[]=>([],[])
 |.aK id::l=>match lk os id with
  |some (.row sz ls e)=>(.sl sz ls::(ch os l).1,(id,.row sz ls e)::(ch os l).2)
  |_=>(.aK id::(ch os l).1,(ch os l).2)
 |.cI id::l=>match lk os id with
  |some (.nest sz e isz ie z)=>(.sl sz (du isz z)::(ch os l).1,(id,.nest sz e isz ie z)::(ch os l).2)
  |_=>(.cI id::(ch os l).1,(ch os l).2)
 |.agg cs::l=>(.agg (fJ os cs).1::(ch os l).1,(fJ os cs).2++(ch os l).2)
 |a::l=>(a::(ch os l).1,(ch os l).2)
structure gJ (os:Os) (a_ r:List AV) (g:Os):Prop where
 sub:∀id o,lk g id=some o->lk os id=some o
 ids:∀id o,lk g id=some o->o.ids=[]
 run:∀(c:Ctx) (w:World) (us:List Value),Q5 c w g->w9 c w us a_->w9 (c.fz g) w us r
theorem Rd.bu {c:Ctx} {w:World} {g b:Os} (h:∀id o,lk g id=some o->lk b id=some o) {v:Value} {a:AV} (d:Rd (c.fz g) w v a):Rd (c.fz b) w v a :=
 Rd.mono (c:=c.fz g) (c':=c.fz b) (fun _ _=>rfl) (vK (c:=c) h) (fun _ _=>⟨rfl,rfl⟩) d
theorem w9.bu {c:Ctx} {w:World} {g b:Os} (h:∀id o,lk g id=some o->lk b id=some o) {v:List Value} {a:List AV} (d:w9 (c.fz g) w v a):w9 (c.fz b) w v a :=
 w9.mono (c:=c.fz g) (c':=c.fz b) (fun _ _=>rfl) (vK (c:=c) h) (fun _ _=>⟨rfl,rfl⟩) d
theorem Rd.EP {c:Ctx} {w:World} (g:Os) {v:Value} {a:AV} (b:Rd c w v a):Rd (c.fz g) w v a :=
 Rd.mono (c:=c) (c':=c.fz g) (fun _ _=>rfl) (fun _ h=>MF h) (fun _ _=>⟨rfl,rfl⟩) b
def nr {c:Ctx} {w:World} {g:Os} {id sz e:Nat} {ls:List (List AV)} {v:Value} (aO:Q5 c w g) (d:lk g id=some (.row sz ls e)) (h:Rd c w v (.aK id)):Rd (c.fz g) w v (.sl sz ls):=by
 obtain⟨css,i,j,k⟩:=aO.rep id _ d;obtain⟨A,n,cap,e1,f,_⟩:=h.bF;refine .fz ?_;rw[e1,<-f];exact i.rf j k (fun b a=>.inl a) fun b a=>.inr ⟨id,_,d,a⟩
theorem gJ.cG {id:Nat} {a b:AV} {o:Obj} {l r:List AV} {g:Os} (e:lk os id=some o) (j:o.ids=[]) (f:∀(c:Ctx) (w:World) (v:Value) (g:Os),Q5 c w g->lk g id=some o->Rd c w v a->Rd (c.fz g) w v b) (H:gJ os l r g):gJ os (a::l) (b::r) ((id,o)::g):=by
 have k:∀i x,lk ((id,o)::g) i=some x->lk os i=some x:=fun i x h=>by
  rw[l8] at h;split at h
  ·rename_i e1;subst e1;cases h;exact e
  ·exact H.sub i x h
 refine⟨k,fun i x h=>?_,fun c w us aO h=>?_⟩
 ·rw[l8] at h;split at h
  ·cases h;exact j
  ·exact H.ids i x h
 ·cases h with|cons h t =>
   have d:∀i x,lk g i=some x->lk ((id,o)::g) i=some x:=fun i x hi=>by
    rw[l8];split
    ·rename_i e1;subst e1;rw[<-e,H.sub _ _ hi]
    ·exact hi
   exact .cons (f c w _ _ aO (j5 _ _ _) h) ((H.run c w _ (aO.sub d) t).bu d)
theorem gJ.cons {id sz e:Nat} {ls:List (List AV)} {l r:List AV} {g:Os} (a:lk os id=some (.row sz ls e)) (H:gJ os l r g):gJ os (.aK id::l) (.sl sz ls::r) ((id,.row sz ls e)::g) :=
 .cG a rfl (fun c w v g aO b h=>nr aO b h) H
theorem O7.rf {Φ a:Nat->Prop} {w:World} {hdv:Value} {sz e:Nat} {ls:List (List AV)} (h:O7 Φ w hdv sz ls e) (c:∀b,Φ b->a b) (d:∀b,hdv.ownBlock=some b->a b):Rf a w hdv (.sl sz ls):=by
 obtain⟨css,f,g,i⟩:=h;exact f.rf g i c d
theorem H5.jQ {Φ:Nat->Prop} {w:World}:∀{us:List Value} {a_:List AV} {a:AV},H5 Φ w us (a_++[a])->∃us' v,us=us'++[v]/\H5 Φ w us' a_/\Rf Φ w v a
 |_,[],_,.cons h .nil=>⟨[],_,rfl,.nil,h⟩
 |_,_::a_,a,.cons h t=>by
  obtain⟨us',v,e1,b,c⟩:=H5.jQ (a_:=a_) (a:=a) t;exact⟨_::us',v,by rw[e1];rfl,.cons h b,c⟩
def d63 {c:Ctx} {w:World} {g:Os} {id sz e isz ie:Nat} {l:List (List AV×List (List AV))} {v:Value} (aO:Q5 c w g) (r:lk g id=some (.nest sz e isz ie l)) (u:Rd c w v (.cI id)):Rd (c.fz g) w v (.sl sz (du isz l)):=by
 obtain⟨h,z,e0,e1,⟨css,E,F,G⟩,H,L⟩:=aO.rep id _ r;obtain⟨A,n,cap,vs,t,m,_⟩:=u.kl;have j:v=h.v:=by
  rw[e0] at m;have:h.v::z.map (·.1.v)=Value.slice A n cap::vs:=by simpa using m
  rw[t];exact(List.cons.inj this).1.symm
 have d:∀x∈eZ (c.hd id),∀b,x.ownBlock=some b->ck c g b:=fun x B b a=>.inr ⟨id,_,r,x,B,a⟩;rw[e0] at d;subst e1;refine .fz ?_;rw[j];refine E.rf (Φ:=ck c g) (by simpa[q8,du] using F) (fun i us J y q=>?_) (fun _ h=>h) fun b a=>d h.v (by simp[eZ]) b a;simp only[du,List.map_map,Mj,MM] at q;obtain⟨p,s,rfl⟩:=q;have:=G i us (p.2.1++[.aU p.1.v]) y (by simp[q8,s]);obtain⟨us',I,rfl,C,D⟩:=this.jQ;have k:I=p.1.v:=by cases D;rfl
 subst k;have f:=MP s;exact(H5.mono (fun _ _=>rfl) (fun b a=>.inl a) C).append (.cons ((H.1 (p.1,p.2.2) (MU.2 ⟨p,f,rfl⟩)).rf (fun b a=>.inl a) fun b a=>d p.1.v (by show _∈(h.v::z.map (·.1.v)).toArray.toList;exact Mr _ (MU.2 ⟨p,f,rfl⟩)) b a) .nil)
theorem gJ.skip {a:AV} {l r:List AV} {g:Os} (H:gJ os l r g):gJ os (a::l) (a::r) g :=
 ⟨H.sub,H.ids,fun c w us aO h=>by cases h with|cons h t=>exact .cons (h.EP g) (H.run c w _ aO t)⟩
def L5 : ∀a_:List AV,gJ os a_ (fJ os a_).1 (fJ os a_).2:=by
 intro a_
 fun_induction fJ os a_ with
 |case1=>exact⟨fun _ _ h=>(by cases h),fun _ _ h=>(by cases h),fun c w us _ h=>by cases h;exact .nil⟩
 |case2 id l sz ls e b ih=>exact .cons b ih
 |case3 id l b ih=>exact .skip ih
 |case4 id l sz e isz ie z b ih=>exact .cG b rfl (fun c w v g aO f h=>d63 aO f h) ih
 |case5 id l b ih=>exact .skip ih
 |case6 a l i d ih=>exact .skip ih
def Bk : ∀a_:List AV,gJ os a_ (ch os a_).1 (ch os a_).2:=by
 intro a_
 fun_induction ch os a_ with
 |case1=>exact⟨fun _ _ h=>(by cases h),fun _ _ h=>(by cases h),fun c w us _ h=>by cases h;exact .nil⟩
 |case2 id l sz ls e b ih=>exact .cons b ih
 |case3 id l b ih=>exact .skip ih
 |case4 id l sz e isz ie z b ih=>exact .cG b rfl (fun c w v g aO d h=>d63 aO d h) ih
 |case5 id l b ih=>exact .skip ih
 |case6 f l ih =>
  have C:=L5 (os:=os) f;obtain⟨s1,i,s3⟩:=pM C.sub ih.sub;refine⟨s1,fun id o h=>?_,fun c w us aO h=>?_⟩
  ·rw[J7] at h;cases d:lk (fJ os f).2 id with
   |some x=>rw[d] at h;simp at h;subst h;exact C.ids id x d
   |none=>rw[d] at h;simp at h;exact ih.ids id o h
  ·cases h with|cons h t =>
    obtain⟨vs,rfl,j⟩:=h.cU;exact .cons (.agg ((C.run c w _ (aO.sub s3) j).bu s3)) ((ih.run c w _ (aO.sub i) t).bu i)
 |case7 a l k m n ih=>exact .skip ih
def tb : AV->AV->Prop
 |.agg c,.agg d=>iQ c d
 |a,b=>kh a b
def d51 : List AV->List AV->Prop
 |[],[]=>True
 |a::a_,b::bs=>tb a b/\d51 a_ bs
 |_,_=>False
def mN : AV->AV->Prop
 |.agg c,.agg d=>iQ c d
 |.aZ c,.aZ d=>d51 c d
 |.aa,.np _=>True
 |a,b=>kh a b
def dU : List AV->List AV->Prop
 |[],[]=>True
 |a::a_,b::bs=>mN a b/\dU a_ bs
 |_,_=>False
def yj {c:Ctx} {w:World} {v:Value} {a b:AV} (h:kh a b) (e:Rd c w v a):Rd c w v b:=by
 unfold kh at h;split at h
 ·exact Rd.dM v
 ·rename_i sz ls;subst h;rw[e.bH];exact .fz (.sl (ls:=[]) (fun _=>[]) 0 0 (It _) (by simp[maxLen]) (fun h=>absurd h l9) (fun i d h=>by simp at h) (fun i d h=>by simp at h) (fun i d h=>by simp at h) (fun i d h=>by simp at h))
 ·exact h▸e
theorem xY {c:Ctx} {w:World}:∀{us:List Value} {a_ a:List AV},iQ a_ a->w9 c w us a_->w9 c w us a
 |_,[],[],_,.nil=>.nil
 |_,_::_,_::_,h,.cons x t=>.cons (yj h.1 x) (xY h.2 t)
def Kv {c:Ctx} {w:World} {v:Value} {a b:AV} (h:tb a b) (d:Rd c w v a):Rd c w v b:=by
 unfold tb at h;split at h
 ·obtain⟨us,rfl,e⟩:=d.cU;exact .agg (xY h e)
 ·exact yj h d
theorem CE {c:Ctx} {w:World}:∀{us:List Value} {b a:List AV},d51 b a->w9 c w us b->w9 c w us a
 |_,[],[],_,.nil=>.nil
 |_,_::_,_::_,h,.cons x t=>.cons (Kv h.1 x) (CE h.2 t)
def ye {c:Ctx} {w:World} {v:Value} {a b:AV} (h:mN a b) (d:Rd c w v a):Rd c w v b:=by
 unfold mN at h;split at h
 ·obtain⟨us,rfl,e⟩:=d.cU;exact .agg (xY h e)
 ·obtain⟨us,rfl,e⟩:=d.fo;exact .aZ (CE h e)
 ·rw[d.gU];exact .qg
 ·exact yj h d
theorem sP {c:Ctx} {w:World}:∀{us:List Value} {a_ a:List AV},dU a_ a->w9 c w us a_->w9 c w us a
 |_,[],[],_,.nil=>.nil
 |_,_::_,_::_,h,.cons x t=>.cons (ye h.1 x) (sP h.2 t)
end
def qJ (all:Os):Os->Option (Nat×Nat×Value×Obj)
 |[]=>none
 |(k,.eqv j v)::r=>match lk all k,lk all j with
  |some (.eqv a b),some (.row sz ls e)=>match AT j a with
   |true=>some (k,j,b,.row sz ls e)
   |false=>qJ all r
  |_,_=>qJ all r
 |_::r=>qJ all r
def d39 {all:Os}:∀{l:Os} {k j:Nat} {v:Value} {o:Obj},qJ all l=some (k,j,v,o)->lk all k=some (.eqv j v)/\lk all j=some o/\∃sz ls e,o=.row sz ls e:=by
 intro l
 fun_induction qJ all l with
 |case1=>intro k j v o h;cases h
 |case2 k j v r f g sz ls e a b c =>
  intro i j' m o h;cases h;obtain rfl:=MN c;exact⟨b,a,_,_,_,rfl⟩
 |case3 k j v r f g sz ls e a b c ih=>exact ih
 |case4 k j v r d ih=>exact ih
 |case5 p r d ih=>exact ih
def yq (os:Os) (K:Kt):Kt:=fun av rd b c =>
 match av with
 |.aU v=>match qJ os os with
  |some (k,j,d,_)=>match b,c with
   |[],[]=>v=d/\K (.aK j) (rd++[k,j]) [] []
   |_,_=>False
  |none=>K (.aU v) rd b c
 |a=>K a rd b c
section
variable {P:Program} {tab:R9} {et:eK} {o:Oper} {ev:Ev} {os:Os} {K:Kt}
theorem cR.mono {r:Result Next} {R S:Value->World->Prop} (h:cR P r R) (a:∀v w,R v w->S v w):cR P r S:=by
 unfold cR at h⊢;split at h
 ·exact a _ _ h
 ·exact a _ _ h
 ·exact h.mono fun e w' ⟨v,b,c⟩=>⟨v,b,a _ _ c⟩
 ·exact h
theorem Y6.res (h:Y6 P o ev os (yq os K)):Y6 P o ev os K:=by
 intro hi;obtain⟨av,need,upd,news,htri,hneed,hnews,hK⟩:=h hi;unfold yq at hK;split at hK
 ·rename_i v;split at hK
  ·rename_i k j v' x hf;split at hK
   case h_2=>exact hK.elim
   obtain⟨rfl,hK⟩:=hK;obtain⟨f1,f2,sz,ls,e,rfl⟩:=d39 hf;have hsub2:∀id ob,lk [(k,Obj.eqv j v),(j,.row sz ls e)] id=some ob->lk os id=some ob:=fun id ob hl=>by
    rw[l8] at hl;split at hl
    ·rename_i e1;cases hl;rw[<-e1];exact f1
    ·exact fY hl f2
   obtain⟨s1,s2,s3⟩:=pM hneed hsub2;have hl1:lk (need++[(k,Obj.eqv j v),(j,.row sz ls e)]) k=some (.eqv j v):=by
    rw[J7];cases hq:lk need k with
    |none=>rw[j5];rfl
    |some y=>have:=(hneed k y hq).symm.trans f1;simpa using this
   have hl2:lk (need++[(k,Obj.eqv j v),(j,.row sz ls e)]) j=some (.row sz ls e):=by
    rw[J7];cases hq:lk need j with
    |none =>
     rw[Option.none_or,l8];split
     ·rename_i e1;subst e1;rw[f1] at f2;cases f2
     ·exact j5 _ _ _
    |some y=>have:=(hneed j y hq).symm.trans f2;simpa using this
   refine⟨.aK j,need++[(k,.eqv j v),(j,.row sz ls e)],[],[],fun c w ρ aO hr=>?_,s1,hnews,by simpa using hK⟩;have hgo:=htri c w ρ (aO.sub s3) hr;refine cR.mono hgo fun u w' ⟨c',hp,hv⟩=>⟨c',hp.gZ s3,?_⟩;have e1:c.hd j=v:=aO.rep k _ hl1;obtain⟨css,q1,q2,q3⟩:=aO.rep j _ hl2;obtain⟨A,cap,g1,g2,g3⟩:=q1.head;rw[hv.jE,<-e1,g1];exact .aK (((hp.ctx j l9).2).trans g1) g2 g3
  ·exact⟨_,need,_,_,htri,hneed,hnews,hK⟩
 ·exact⟨_,need,_,_,htri,hneed,hnews,hK⟩
def xo (tab:R9) (os:Os) (t:TypeId) (x y:AV) (K:Kt):Prop :=
 match x,y with
 |.ep id i sz off,.aK z=>match lk os id,lk tab t with
  |some (.row a ls e),some ti=>match AT sz a,AT 1 ti.size with
   |true,true=>i<ls.length/\(∀b,ls[i]?=some b->off<b.length)/\K .any [id] [] [(id,.bR a ls e i off z)]
   |_,_=>False
  |_,_=>False
 |_,_=>sr tab os t x y K
def JA {d:Type} {off:Nat} {a:d} {b:List d} (h:off<b.length):X9 off [a] b=some (b.set off a):=by
 obtain⟨r,c⟩:=iu off [a] b L6;rw[c];congr 1;apply Mn;intro j;rw[Y2 c j,MY];by_cases e:off=j
 ·subst e;rw[N2 l9,N2 rfl,N2 h];simp
 ·rw[N1 L6,N1 e]
def d94 (V:M9 P tab) {t:TypeId} {x y:Operand} (O:o.op=.store t x y) (h:xo tab os t (ev x) (ev y) K):Y6 P o ev os K:=by
 unfold xo at h;split at h
 ·rename_i id i sz off z S X;split at h
  ·rename_i sz' ls e ti L R;split at h
   ·rename_i I r;obtain rfl:=MN I;have hsz:=MN r;obtain⟨U,h2,h3⟩:=h;have j:ls[i]?=some ls[i]:=IS U;refine fun _=>⟨.any,[(id,.row sz ls e)],[(id,.bR sz ls e i off z)],[],fun c w E aO W=>?_,fun k ob hl=>fY hl L,fun _ h=>(by cases h),h3⟩;have Y:=W y (by simp[O,Op.operands]);rw[X] at Y;obtain⟨A,n,cap,e1,Z,e3,e4⟩:=Y.bF;have N:x≠y:=fun q=>by rw[q,X] at S;cases S
    have Q:sr tab [(id,.row sz ls e)] t (.ep id i sz off) (.aU (.slice A n cap)) fun av rd nw up=>av=.any/\rd=[id]/\nw=[]/\up=[(id,.row sz (gv ls i off (.aU (.slice A n cap))) e)]:=by
     unfold sr;simp only[R];have D:(AV.aU (.slice A n cap)).cells?=some [.aU (.slice A n cap)]:=rfl;simp only[D,Mx,r,j5,AV.au,AV.ids,List.append_nil,Nat.beq_refl];refine⟨U,fun cs D=>?_⟩;rw[j] at D;cases D;rw[JA (h2 _ j)];refine⟨_,O4 _,?_⟩;exact⟨trivial,trivial,trivial,by unfold gv;rw[j]⟩
    classical
    let g:Ev:=fun u=>if u=y then .aU (.slice A n cap) else ev u
    have F:g x=.ep id i sz off:=by show(if x=y then _ else _)=_;rw[N1 N,S]
    have G:g y=.aU (.slice A n cap):=N2 rfl;have B:∀u∈o.op.operands.toList,Rd c w (E u) (g u):=fun u hu=>by
     show Rd c w (E u) (if u=y then _ else _);split
     ·rename_i q;rw[q,e1];exact .fz (.aU _)
     ·exact W u hu
    obtain⟨av,need,upd,news,C,p,_,rfl,hrd,rfl,rfl⟩:=CI V O (ev:=g) (by rw[F,G];exact Q) ⟨c,w,E,aO,B⟩;have s:∀k ob,lk need k=some ob->lk [(id,Obj.row sz ls e)] k=some ob:=p;refine cR.mono (C c w E (aO.sub s) B) fun v w' ⟨c',a,_⟩=>⟨c',?_,Rd.dM _⟩;have a:=a.gZ s;have l:∀k,(lk [(id,Obj.bR sz ls e i off z)] k).isSome=(lk [(id,Obj.row sz (gv ls i off (.aU (.slice A n cap))) e)] k).isSome:=fun k=>by rw[l8,l8];split<;>rfl
    have d:∀b,Touch c [(id,.row sz ls e)] [(id,.row sz (gv ls i off (.aU (.slice A n cap))) e)] b↔Touch c [(id,.row sz ls e)] [(id,.bR sz ls e i off z)] b:=fun b=>by
     unfold Touch;simp only[l]
    have f:∀k ob,lk [(id,Obj.bR sz ls e i off z)] k=some ob->k=id/\ob=.bR sz ls e i off z:=fun k ob hl=>by
     rw[l8] at hl;split at hl
     ·rename_i q;cases hl;exact⟨q.symm,rfl⟩
     ·cases hl
    have m:=j5 id (Obj.row sz (gv ls i off (.aU (.slice A n cap))) e) [];refine⟨a.cX,a.tape,a.output,a.size,a.aq,fun b H=>(a.ak b H).imp (fun h=>h) (.imp (fun h=>h) (d b).1),fun b H hn=>a.ab b H fun h=>hn ((d b).1 h),a.ctx,⟨fun k ob hl=>?_,fun k ob b hl J=>?_,fun k k' ob T b hd hl M=>?_,a.aO.aq⟩,fun k ob b hl J=>?_⟩
    ·obtain⟨rfl,rfl⟩:=f k ob hl;exact⟨.slice A n cap,.aK (((a.ctx z l9).2).trans Z) e3 e4,a.aO.rep k _ m⟩
    ·obtain⟨rfl,rfl⟩:=f k ob hl;exact a.aO.lt k _ b m J
    ·obtain⟨rfl,rfl⟩:=f k ob hl;obtain⟨rfl,rfl⟩:=f k' T M;exact absurd rfl hd
    ·obtain⟨rfl,rfl⟩:=f k ob hl;exact(a.az k _ b m J).imp (fun h=>h) (d b).1
   ·exact h.elim
  ·exact h.elim
 ·exact CI V O h
end
def fD {a t:Nat} {x y:Obj} (h:lk [(a,x)] t=some y):t=a/\y=x:=by
 rw[l8] at h;split at h
 ·rename_i e;cases h;exact⟨e.symm,rfl⟩
 ·cases h
def qM : AV->AV->Option Bool
 |.int a,.int b=>some (decide (a=b))
 |.str a,.str b=>some (decide (a=b))
 |_,_=>none
def iy : AV->List (AV×AV)->Nat->Option (Option (Nat×AV))
 |_,[],_=>some none
 |k,(k',v)::l,i=>match qM k k' with
  |some true=>some (some (i,v))
  |some false=>iy k l (i+1)
  |none=>none
def qZ (n:Nat):AV->Bool
 |.int _=>AT n 5
 |.str _=>AT n 4
 |_=>false
section
variable {P:Program} {tab:R9} {o:Oper} {ev:Ev} {os:Os} {K:Kt}
theorem xM {Φ:Nat->Prop} {w:World} {d:TypeDesc} {f:Value} {k:AV} (hd:(∃n,k=.int n/\∃q,d=.int q)\/(∃s,k=.str s/\d=.string)) (g:Rf Φ w f k):∀{es:List MapEntry} {l:List (AV×AV)} (i:Nat) {r:Option (Nat×AV)},
  dJ Φ w es l->iy k l i=some r->(r=none/\Instr.findNow d f es i=some none)\/∃j v e,r=some (j,v)/\i<=j/\es[j-i]?=some e/\Instr.findNow d f es i=some (some (j,e.val))/\Rf Φ w e.val v/\e.key=f
 |_,_,i,r,.nil,h=>by
  simp only[iy,Option.some.injEq] at h;exact .inl ⟨h.symm,rfl⟩
 |_,_,i,r,.cons (e:=e) (k:=k') (v:=v') (es:=es) (l:=l) h1 h2 t,h=>by
  rw[iy] at h;have same:∀b,qM k k'=some b->Instr.sameNow d f e.key=some b/\(b=true->e.key=f):=by
   intro b c;rcases hd with⟨n,rfl,q,rfl⟩|⟨s,rfl,rfl⟩
   ·cases k'<;>simp only[qM] at c<;>try cases c
    rename_i m;cases g with|int g =>
    have e1:e.key=.int .i64 m:=by
     generalize e.key=x at h1;cases h1;rfl
    rw[e1];refine⟨?_,fun y=>by have:=of_decide_eq_true y;rw[this]⟩;simp only[Instr.sameNow,if_true];by_cases a:n=m<;>simp[a]
   ·cases k'<;>simp only[qM] at c<;>try cases c
    rename_i m;cases g with|str g =>
    have e1:e.key=.string m:=by
     generalize e.key=x at h1;cases h1;rfl
    rw[e1];refine⟨?_,fun y=>by have:=of_decide_eq_true y;rw[this]⟩;simp only[Instr.sameNow];have c:=MapKept.bytes_beq s m;by_cases a:s=m
    ·rw[c.2 a];simp[a]
    ·cases p:s == m
     ·simp[a]
     ·exact absurd (c.1 p) a
  cases p:qM k k' with
  |none=>rw[p] at h;cases h
  |some b =>
   obtain⟨s1,F⟩:=same b p;rw[p] at h;cases b with
   |true =>
    simp only[Option.some.injEq] at h;exact .inr ⟨i,v',e,h.symm,It _,l9,by simp[Instr.findNow,s1],h2,F rfl⟩
   |false =>
    simp only at h;rcases xM hd g (i+1) t h with⟨u,z⟩|⟨j,v,E,u,z,A,B,C,D⟩
    ·exact .inl ⟨u,by simp[Instr.findNow,s1,z]⟩
    ·refine .inr ⟨j,v,E,u,d9,?_,by simp[Instr.findNow,s1,B],C,D⟩;rw[show j-i=(j-(i+1))+1 by omega,Mw];exact A
def D4 {t:TypeId} {ti:TI} (a:X4 P t ti) {k:AV} (h:qZ ti.kind k=true):∃d,P.underlying t=some d/\((∃n,k=.int n/\∃q,d=.int q)\/(∃s,k=.str s/\d=.string)):=by
 unfold qZ at h;split at h
 ·exact⟨_,a.ah (MN h),.inl ⟨_,rfl,_,rfl⟩⟩
 ·exact⟨_,a.bZ (MN h),.inr ⟨_,rfl,rfl⟩⟩
 ·cases h
def uu {w:World} {Φ:Nat->Prop} {t:TypeId} {d:TypeDesc} {k:AV} {e:Value} (c:P.underlying t=some d) (hd:(∃n,k=.int n/\∃q,d=.int q)\/(∃s,k=.str s/\d=.string)) (a:Rf Φ w e k) (b:Bool) (n:Nat) :
  (Instr.checkKey b (n+1) t e).run P w=.ok () w:=by
 rcases hd with⟨n,rfl,q,rfl⟩|⟨s,rfl,rfl⟩
 ·cases a;simp[Instr.checkKey,run_underlying c]
 ·cases a;simp[Instr.checkKey,run_underlying c]
def Dv {c:Ctx} {w:World} {v:Value} {n:Nat} {k:AV} (h:Rd c w v k) (a:qZ n k=true):Rf c.Φ w v k:=by
 cases k<;>simp only[qZ] at a<;>first|cases a;done|exact Rd.rf (by simp[AV.ids]) h
def Bx (d:Nat) (K:Kt):Prop:=K (.mp d) [] [d] [(d,.bc [])]
theorem aS.oP {c:Ctx} {w:World} (f:∀b,c.Φ b->b<w.heap.size) (d:Nat):aS c w (c.bD d w.heap.size) (w.alloc (.map #[] 0)) [] [(d,.bc [])] [d]:=by
 have m:(w.alloc (.map #[] 0)).heap.size=w.heap.size+1:=l9;have j:∀b,b<w.heap.size->(w.alloc (.map #[] 0)).heap[b]?=w.heap[b]?:=fun b g=>alloc_old w _ g;refine⟨rfl,rfl,rfl,d9,fun _ h=>h,fun _ h=>.inl h,fun b g _=>j b g,fun i hi=>⟨by have:i≠d:=(by simpa using hi);simp[Ctx.bD,this],rfl⟩,⟨fun i o hl=>?_,fun i o b hl a=>?_,fun i p o q b l hl k a=>?_,fun b g=>by have:=f b g;omega⟩,fun i o b hl a=>?_⟩
 ·obtain⟨rfl,rfl⟩:=fD hl;exact⟨#[],0,by simp only[Ctx.bD,if_true];exact uP w _,.nil,l9,fun x n=>(by cases n),l9⟩
 ·obtain⟨e1,rfl⟩:=fD hl;subst e1;have a:b=(c.bD _ w.heap.size).μ _:=a;simp only[Ctx.bD,if_true] at a;subst a;exact⟨d9,fun h=>by have:=f _ h;omega⟩
 ·obtain⟨rfl,rfl⟩:=fD hl;obtain⟨e,_⟩:=fD k;exact absurd e.symm l
 ·obtain⟨e1,rfl⟩:=fD hl;subst e1;have a:b=(c.bD _ w.heap.size).μ _:=a;simp only[Ctx.bD,if_true] at a;exact .inl d9
def d15 (d:Nat) {t:TypeId} (e:o.op=.makeMap t none) (h:Bx d K):Y6 P o ev os K:=by
 refine fun _=>⟨_,[],_,[d],fun c w f aO g=>?_,fun _ _ h=>(by cases h),fun id a=>(by simp at a;subst a;rw[j5];rfl),h⟩;have b:(execOp f o).run P w=.ok (.value (.map (some w.heap.size))) (w.alloc (.map #[] 0)):=by
  simp[execOp,e,Instr.makeMap]
 rw[b];exact⟨_,aS.oP aO.aq d,.mp (by simp[Ctx.bD])⟩
def y6 (tab:R9) (os:Os) (t:TypeId) (x k:AV) (K:Kt):Prop :=
 match lk tab t,x with
 |some ti,.mp id=>match lk tab ti.len,lk tab ti.elem,lk os id with
  |some tk,some te,some (.bc l)=>ti.kind=8/\qZ tk.kind k=true/\te.kind=6/\te.zero=[.bool false]/\∃r,iy k l 0=some r/\∀q,q=(match r with|none=>.bool false|some p=>p.2)->K q [id] [] []
  |_,_,_=>False
 |_,_=>False
def IL (m:M9 P tab) {t:TypeId} {x k:Operand} (f:o.op=.lookup t x k false) (h:y6 tab os t (ev x) (ev k) K):Y6 P o ev os K:=by
 unfold y6 at h;split at h
 ·rename_i ti id s L;split at h
  ·rename_i tk te l u q n;obtain⟨J,a,I,M,r,p,h⟩:=h;replace h:=h _ rfl;refine .read n (fun c w R b E=>?_) h;have A:=E x (by simp[f,Op.operands]);have B:=Dv (E k (by simp[f,Op.operands])) a;rw[L] at A;obtain⟨es,i,g1,H,Q⟩:=b;obtain⟨d,g,hd⟩:=D4 (m _ tk u) a;have D:=(m t ti s).oO J;obtain⟨z,z1,z2,z3⟩:=(m _ te q).bm w;have y:z=.bool false:=by
    rw[M] at z2;cases z<;>simp[Value.cells,ed,uz,TI.agg,I] at z2 z3⊢<;>first|exact z2|skip
   rcases xM hd B 0 H p with⟨rfl,C⟩|⟨j,v,e,rfl,C,N,F,G,O⟩
   ·exact⟨.bool false,by simp[execOp,f,Instr.lookup,run_underlying D,A.qf,MapKept.run_getObj_map g1,uu g hd B,MapKept.run_findKey g C,z1,y],.fz (.bool false)⟩
   ·exact⟨e.val,by simp[execOp,f,Instr.lookup,run_underlying D,A.qf,MapKept.run_getObj_map g1,uu g hd B,MapKept.run_findKey g F],.fz G⟩
  ·exact h.elim
 ·exact h.elim
def mC (k v:AV) (l:List (AV×AV)):Option (Nat×AV)->List (AV×AV)
 |none=>l++[(k,v)]
 |some p=>l.set p.1 (k,v)
def wI (tab:R9) (os:Os) (t:TypeId) (x k v:AV) (K:Kt):Prop :=
 match lk tab t,x,v with
 |some ti,.mp id,.bool b=>match lk tab ti.len,lk os id with
  |some tk,some (.bc l)=>ti.kind=8/\qZ tk.kind k=true/\∃r,iy k l 0=some r/\(mC k (.bool b) l r).length<=maxLen/\∀q,q=mC k (.bool b) l r->K .any [id] [] [(id,.bc q)]
  |_,_=>False
 |_,_,_=>False
theorem dJ.append {Φ:Nat->Prop} {w:World}:∀{es a:List MapEntry} {l l':List (AV×AV)},dJ Φ w es l->dJ Φ w a l'->dJ Φ w (es++a) (l++l')
 |_,_,_,_,.nil,h=>h
 |_,_,_,_,.cons b c t,h=>.cons b c (dJ.append t h)
theorem dJ.set {Φ:Nat->Prop} {w:World} {e:MapEntry} {k v:AV} (c:Rf Φ w e.key k) (d:Rf Φ w e.val v):∀{es:List MapEntry} {l:List (AV×AV)} (i:Nat),dJ Φ w es l->dJ Φ w (es.set i e) (l.set i (k,v))
 |_,_,_,.nil=>by simpa using .nil
 |_,_,0,.cons a b t=>.cons c d t
 |_,_,i+1,.cons a b t=>.cons a b (dJ.set c d i t)
theorem aS.jK {c:Ctx} {w:World} {id:Nat} {l l':List (AV×AV)} {f:Array MapEntry} {a:Nat} (h:Q5 c w [(id,.bc l)]) (t:dJ c.Φ w f.toList l') (hl:l'.length<=maxLen) (p:d90 f.toList a) :
  aS c w c { w with heap:=w.heap.setIfInBounds (c.μ id) (.map f a) } [(id,.bc l)] [(id,.bc l')] []:=by
 obtain⟨g,k⟩:=h.lt id _ (c.μ id) (j5 _ _ _) rfl;have n:∀b,b≠c.μ id->(w.heap.setIfInBounds (c.μ id) (.map f a))[b]?=w.heap[b]?:=fun b g=>by simp[Ne.symm g]
 have q:∀b,c.Φ b->(w.heap.setIfInBounds (c.μ id) (.map f a))[b]?=w.heap[b]?:=fun b g=>n b fun e=>k (e▸g);have r:Touch c [(id,.bc l)] [(id,.bc l')] (c.μ id):=⟨id,.bc l,j5 _ _ _,by rw[j5];rfl,rfl⟩;refine⟨rfl,rfl,rfl,l9,fun _ h=>h,fun _ h=>.inl h,fun b _ s=>n b fun e=>s (e▸r),fun _ _=>⟨rfl,rfl⟩,⟨fun i o d=>?_,fun i o b d j=>?_,fun i u o v b m hl d j=>?_,fun b g=>by simpa using h.aq b g⟩,fun i o b d j=>?_⟩
 ·obtain⟨rfl,rfl⟩:=fD d;exact⟨f,a,by simp[g],t.mono q (fun _ h=>h),hl,p⟩
 ·obtain⟨rfl,rfl⟩:=fD d;have j:b=c.μ _:=j;subst j;exact⟨by simpa using g,k⟩
 ·obtain⟨rfl,rfl⟩:=fD hl;obtain⟨e,_⟩:=fD d;exact absurd e.symm m
 ·obtain⟨rfl,rfl⟩:=fD d;have j:b=c.μ _:=j;subst j;exact .inr r
def HN (hT:M9 P tab) {t:TypeId} {x k v:Operand} (E:o.op=.mapUpdate t x k v) (h:wI tab os t (ev x) (ev k) (ev v) K):Y6 P o ev os K:=by
 unfold wI at h;split at h
 ·rename_i ti id b T g hv;split at h
  ·rename_i tk l U L;obtain⟨h8,D,r,S,p,h⟩:=h;replace h:=h _ rfl;refine fun _=>⟨_,[(id,.bc l)],_,[],fun c w a aO R=>?_,fun i ob h=>fY h L,fun _ h=>(by cases h),h⟩;have Y:=R x (by simp[E,Op.operands]);have u:=Dv (R k (by simp[E,Op.operands])) D;have B:=R v (by simp[E,Op.operands]);rw[g] at Y;rw[hv] at B;have B:Rf c.Φ w (a v) (.bool b):=Rd.rf (by simp[AV.ids]) B;have hvv:a v=.bool b:=by
    generalize a v=y at B;cases B;rfl
   obtain⟨es,f,g1,I,g3,J,gn⟩:=aO.rep id _ (j5 _ _ _);obtain⟨d,G,hd⟩:=D4 (hT _ tk U) D;have hm:=(hT t ti T).oO h8;rcases xM hd u 0 I S with⟨rfl,Z⟩|⟨j,v',e,rfl,Z,a3,a4,a5,a6⟩
   ·have m:(execOp a o).run P w=.ok .skip { w with heap:=w.heap.setIfInBounds (c.μ id) (.map (es.push { key:=a k,val:=a v,born:=f }) (f+1)) }:=by
     simp[execOp,E,Instr.mapUpdate,run_underlying hm,Y.qf,MapKept.run_getObj_map g1,uu G hd u,MapKept.run_findKey G Z,MapKept.run_setObj_map _ g1]
    rw[m];refine⟨c,aS.jK aO (by rw[Array.toList_push];exact I.append (.cons u B .nil)) p ⟨fun x g=>?_,?_⟩,.fz (.any _)⟩
    ·rw[Array.toList_push] at g;rcases MT.1 g with g|g
     ·have:=J x g;omega
     ·obtain rfl:=Mh.1 g;exact Nat.lt_succ_self _
    ·rw[Array.toList_push,List.map_append,List.nodup_append];refine⟨gn,l9,fun y W z hz=>?_⟩;obtain⟨x,g,rfl⟩:=MU.1 W;have:=J x g;simp at hz;omega
   ·have F:es[j]?=some e:=(by simpa using a3);have O:(Instr.keyThatStays (a k) (a k)).run P w=.ok (a k) w:=by
     rcases hd with⟨n,e1,q,rfl⟩|⟨s,e1,rfl⟩<;>rw[e1] at u<;>generalize a k=y at u<;>cases u
     ·exact MapKept.run_keyThatStays (d:=.int .i64) rfl
     ·exact MapKept.run_keyThatStays (d:=.string) trivial
    have m:(execOp a o).run P w=.ok .skip { w with heap:=w.heap.setIfInBounds (c.μ id) (.map (es.modify j fun e=>{ e with key:=a k,val:=a v }) f) }:=by
     simp[execOp,E,Instr.mapUpdate,run_underlying hm,Y.qf,MapKept.run_getObj_map g1,uu G hd u,MapKept.run_findKey G a4,F,a6,O,MapKept.run_setObj_map _ g1]
    rw[m];have H:(es.modify j fun e=>{ e with key:=a k,val:=a v }).toList=es.toList.set j { e with key:=a k,val:=a v }:=by
     rw[Array.toList_modify];apply Mn;intro i;rw[List.getElem?_modify,MY];have M:j<es.toList.length:=by have:=(Array.getElem?_eq_some_iff.1 F).1;simpa using this
     by_cases C:j=i
     ·subst C;have A:es.toList[j]?=some e:=by simpa using F
      rw[N2 rfl,N2 M,A];simp
     ·simp[C]
    have A:es.toList[j]?=some e:=(by simpa using F);have e3:(es.toList.set j { e with key:=a k,val:=a v }).map (·.born)=es.toList.map (·.born):=by
     rw[List.map_set];have N:(es.toList.map (·.born))[j]?=some e.born:=by rw[Mj,A];rfl
     obtain⟨Q,he⟩:=ME.1 N;show(es.toList.map (·.born)).set j e.born=_
     conv=>lhs;arg 3;rw[<-he]
     exact List.set_getElem_self Q
    refine⟨c,aS.jK aO ?_ p ⟨fun x g=>?_,?_⟩,.fz (.any _)⟩
    ·rw[H];exact dJ.set u B j I
    ·rw[H] at g;have V:x.born∈es.toList.map (·.born):=by rw[<-e3];exact List.mem_map_of_mem g
     obtain⟨y,W,X⟩:=MU.1 V;rw[<-X];exact J y W
    ·rw[H,e3];exact gn
  ·exact h.elim
 ·exact h.elim
end
end Go.Proofs.YtibjcppjfkamhaaGreatDoor
