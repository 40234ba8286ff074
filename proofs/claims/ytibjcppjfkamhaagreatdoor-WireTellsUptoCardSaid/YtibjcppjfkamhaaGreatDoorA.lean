import Derived.WalkKit
import Derived.ProofKit
import Derived.OpenShut
import Derived.Below
import Derived.ChangeSame
import Derived.BigQuiet
import Derived.Deep.QuietTactic
import Derived.WalkSpells
import Derived.WalkLawsBesides
import Derived.Maps.AppendAt
import Derived.Laws.OwnMore
import Derived.ChangeKeysEq
import Derived.Stop.IfaceNil
import Derived.Laws.StructEq
import Derived.ArgAppend
import Derived.IntWalk
import Derived.Laws.Cover3
import Derived.MapKept
import Derived.Lib.AppendStr
import Derived.Lib.ConvBytes
import Derived.Laws.BytesArg
set_option linter.unusedVariables false
set_option linter.defProp false
set_option linter.unusedSimpArgs false
namespace Go.Proofs.YtibjcppjfkamhaaGreatDoor
open Go.RowKit
open _root_.Bool renaming and_eq_true->A7
open _root_.ByteArray renaming empty->AE
open _root_.List renaming length_append->A6,getElem?_eq_getElem->A8,getElem?_eq_some_iff->AF,replicate->AG,all_eq_true->AH,mem_cons->AJ,append_assoc->AK,mem_map->AL,mem_of_getElem?->AO,length_cons->AP,map_cons->AQ,length_map->AR,getElem?_set->AS,mem_append->AT,getElem?_eq_none->AW,eq_nil_of_length_eq_zero->AX,ext_getElem?->AY,getElem?_map->Aa,getElem?_drop->Ac,length_singleton->Ad
open _root_.Nat renaming beq->A4,le_refl->AA,eq_of_beq_eq_true->AB,ble->AD,blt->AM,le_of_ble_eq_true->AU
open _root_.Option renaming map_eq_some_iff->AZ,map_some->Ab
open _root_.Or renaming inl->A9
theorem Ae {α:Type} (a b:α):cond true a b=a:=rfl
theorem Af {α:Type} (a b:α):cond false a b=b:=rfl
def Ag:=@if_neg
def Ah:=@if_pos
def Ai:=@decide_true
def Aj:=@decide_false
def Ak:=@decide_eq_false
def Al:=@decide_eq_true
def Am:=@decide_eq_true_eq
section
open Go.ChangeShapes Go.WideShapes Go.ChangeAt Go.RowKit
def d9 {P:Prop} (h:P:=by omega):P:=h
def o7 {P:Prop} (h:P:=by kernel_rfl):P:=h
def G7 {P:Prop} (h:P:=by decide):P:=h
def o5 {P:Prop} (h:P:=by simp):P:=h
def bG {P:Prop} (h:P:=by simp;omega):P:=h
def ino {P:Prop} (h:P:=by unfold D8;omega):P:=h
section
variable {H:Type} {enc:TypeId×Value->H} {P:Program}
def tt {f:Func} {s:ChangeSpec} {apart m c l:Bool} {W o:World} {args:Array Value} {v:Value} {q u:List (DataW H)} {a y pv:List MemPlace}
  (z:DataW.Whole enc P f.params.toList s.vars apart W args.toList q u a)
  (k:∀(b:Nat) (n:Nat->Bool) (hd:Bool),DataW.TrodAll enc P o b n hd f.resultTypes.toList (v.resultList f.resultTypes.size) (s.fn H (q++u)).results [])
  (d:∀n:Nat->Bool,(∀p∈a,n p.block=true)->DataW.TrodAll enc P o 0 n true f.params.toList args.toList (s.fn H (q++u)).args y)
  (g:∀n:Nat->Bool,(∀p∈a,n p.block=true)->DataW.TrodVars enc P o n s.vars (s.fn H (q++u)).vars pv)
  (h:a=y++pv) (A:Below W.heap.size W o)
  (aD:∀(j:Nat) (t:TypeId) (r:Value),f.resultTypes[j]?=some t->(v.resultList f.resultTypes.size)[j]?=some r->Value.okWide P o .any 0 t r) :
  s.post enc P f apart m c l W args v o:=by
 have x:∀p∈a,p.block<W.heap.size:=fun p e=>z.lt p e;have i:∀p∈a,(fun b=>decide (b<W.heap.size)) p.block=true:=fun p e=>by simpa using x p e
 refine⟨q,u,a,[],y,pv,z,k _ _ _,d _ i,g _ i,World.keptBut_mono (fun p e=>⟨e,?_⟩) (A.frame (·∈a)),fun _=>?_⟩
 ·rw[h,AT] at e;exact Or.inr e
 ·obtain⟨_,_,_,_,_,D,C⟩:=z;refine⟨aD,_,_,([]++y)++pv,⟨[]++y,pv,trodAll_append (d _ (fun _ _=>rfl)) (k _ _ _),g _ (fun _ _=>rfl),rfl,?_,?_⟩,?_⟩
  ·intro b off e;have w:MemPlace.cell b off∈a:=by rw[h];simpa using e
   rw[A.frozen (x _ w)];exact D b off w
  ·intro B;have:=C B;rw[h] at this;simpa using this
  ·intro p e _;rw[h];simpa using e
end
theorem qI {H:Type} {enc:TypeId×Value->H} {P:Program} (i:laidOutB P=true) {W f:World} (g:Below W.heap.size W f) (e:Nat->Bool) :
  ∀{ts:List TypeId} {vs:List Value} {c:List (DataW H)} {b:List MemPlace},(∀t∈ts,P.readableRec t=true/\t<P.types.size)->DataW.TrodAll enc P W 0 (fun _=>true) true ts vs c b ->
   (∀p∈b,p.block<W.heap.size)->(∀p∈b,e p.block=true)->DataW.TrodAll enc P f 0 e true ts vs c b
 |[],[],[],_,_,h,_,_=>h
 |t::ts,v::vs,d::c,b,hr,h,hlt,hsp=>by
  obtain⟨p,q,j,k,rfl⟩:=h;refine⟨p,q,?_,?_,rfl⟩
  ·exact WideElems.Trod_stays i (hr t o5).1 (hr t o5).2 j (fun x a=>g.same (hlt x (by simp[a]))) (fun x a=>hsp x (by simp[a]))
  ·exact qI i g e (fun t l=>hr t (by simp[l])) k (fun x a=>hlt x (by simp[a])) (fun x a=>hsp x (by simp[a]))
 |[],_::_,_,_,_,h,_,_=>h.elim
 |[],[],_::_,_,_,h,_,_=>h.elim
 |_::_,[],_,_,_,h,_,_=>h.elim
 |_::_,_::_,[],_,_,h,_,_=>h.elim
end
abbrev D8 (n:Int):Prop:=-9223372036854775808<=n/\n<=9223372036854775807
inductive AV : Type where
 |any
 |int (n:Int)
 |ik (k:IntKind) (n:Int)
 |bool (b:Bool)
 |str (s:ByteArray)
 |sl (sz:Nat) (ls:List (List AV))
 |ptr (id off:Nat)
 |fp (cs:List AV)
 |aG (id:Nat)
 |bo (id n:Nat)
 |cI (id n sz:Nat)
 |ep (id i sz off:Nat)
 |fn (f:Nat) (caps:List AV)
 |agg (cs:List AV)
 |aS (l:List AV)
 |a8
  |cz (b:Bool)
 |aL
 |aA
 |mp (id:Nat)
 |bL (id:Nat)
  |np (id:Nat)
  |br (b:Bool)
 |aU (v:Value)
 deriving Inhabited
mutual
inductive Rf (Φ:Nat->Prop) (w:World):Value->AV->Prop
 |any (v:Value):Rf Φ w v .any
 |int {n:Int}:D8 n->Rf Φ w (.int .i64 n) (.int n)
 |ik (k:IntKind) (n:Int):Rf Φ w (.int k n) (.ik k n)
 |bool (b:Bool):Rf Φ w (.bool b) (.bool b)
 |str {s:ByteArray}:s.size<=maxLen->Rf Φ w (.string s) (.str s)
 |sl {A:Option Addr} {c sz:Nat} {ls:List (List AV)} (us:Nat->List Value) (b o:Nat):ls.length<=c->c<=maxLen->(0<ls.length->A=some ⟨b,o,none⟩/\Φ b) ->
   (∀i cs,ls[i]?=some cs->(us i).length=sz)->(∀i cs,ls[i]?=some cs->∀j u,(us i)[j]?=some u->w.cell? ⟨b,o+i*sz+j,none⟩=some u) ->
   (∀i cs,ls[i]?=some cs->p8 Φ w (us i) cs)->(∀i cs,ls[i]?=some cs->∀u∈us i,u.oneCell'=true)->Rf Φ w (.slice A ls.length c) (.sl sz ls)
 |fp {b o:Nat} {us:List Value} {cs:List AV}:Φ b->(∀j u,us[j]?=some u->w.cell? ⟨b,o+j,none⟩=some u)->p8 Φ w us cs->Rf Φ w (.pointer (some ⟨b,o,none⟩)) (.fp cs)
 |fn {f:Nat} {us:List Value} {cs:List AV}:p8 Φ w us cs->Rf Φ w (.func (.func f) #[] us.toArray) (.fn f cs)
 |agg {us:List Value} {cs:List AV}:p8 Φ w us cs->Rf Φ w (.agg us.toArray) (.agg cs)
 |aS {us:List Value} {cs:List AV}:p8 Φ w us cs->Rf Φ w (.tuple us.toArray) (.aS cs)
 |a8:Rf Φ w (.slice none 0 0) .a8
 |cz (A:Option Addr) (n c:Nat):Rf Φ w (.slice A n c) (.cz A.isNone)
 |aL:Rf Φ w (.pointer none) .aL
 |aA:Rf Φ w .nilFunc .aA
 |cB:Rf Φ w .nilIface (.br true)
 |cY (t:TypeId) (p:Value):Rf Φ w (.iface t p) (.br false)
 |aU (v:Value):Rf Φ w v (.aU v)
inductive p8 (Φ:Nat->Prop) (w:World):List Value->List AV->Prop
 |nil:p8 Φ w [] []
 |cons {v:Value} {a:AV} {vs:List Value} {a_:List AV}:Rf Φ w v a->p8 Φ w vs a_->p8 Φ w (v::vs) (a::a_)
end
mutual
theorem Rf.mono {Φ f:Nat->Prop} {w w':World} (e:∀b,Φ b->w'.heap[b]?=w.heap[b]?) (d:∀b,Φ b->f b):∀{v:Value} {a:AV},Rf Φ w v a->Rf f w' v a
 |_,_,.any v=>.any v
 |_,_,.int h=>.int h
 |_,_,.ik k n=>.ik k n
 |_,_,.bool b=>.bool b
 |_,_,.str h=>.str h
 |_,_,.sl us b o r s l x y z B=>.sl us b o r s (fun h=>⟨(l h).1,d b (l h).2⟩) x
   (fun i g h j u m=>(World.cell?_of_block (w:=w) (a:=⟨b,o+i*_+j,none⟩) (e b (l (by have:=(AF.1 h).1;omega)).2)).trans (y i g h j u m))
   (fun i g h=>p8.mono e d (z i g h)) B
 |_,_,.fp q C D=>.fp (d _ q) (fun j u m=>(World.cell?_of_block (w:=w) (e _ q)).trans (C j u m)) (p8.mono e d D)
 |_,_,.fn h=>.fn (p8.mono e d h)
 |_,_,.agg h=>.agg (p8.mono e d h)
 |_,_,.aS h=>.aS (p8.mono e d h)
 |_,_,.a8=>.a8
 |_,_,.cz A n c=>.cz A n c
 |_,_,.aL=>.aL
 |_,_,.aA=>.aA
 |_,_,.cB=>.cB
 |_,_,.cY t p=>.cY t p
 |_,_,.aU v=>.aU v
theorem p8.mono {Φ d:Nat->Prop} {w w':World} (e:∀b,Φ b->w'.heap[b]?=w.heap[b]?) (a:∀b,Φ b->d b):∀{vs:List Value} {a_:List AV},p8 Φ w vs a_->p8 d w' vs a_
 |_,_,.nil=>.nil
 |_,_,.cons h t=>.cons (Rf.mono e a h) (p8.mono e a t)
end
section
variable {Φ:Nat->Prop} {w:World}
theorem p8.length : ∀{vs:List Value} {a_:List AV},p8 Φ w vs a_->vs.length=a_.length
 |_,_,.nil=>rfl
 |_,_,.cons _ t=>by simp[p8.length t]
theorem p8.get : ∀{vs:List Value} {a_:List AV},p8 Φ w vs a_->∀{i:Nat} {a:AV},a_[i]?=some a->∃v,vs[i]?=some v/\Rf Φ w v a
 |_,_,.cons (v:=v) h t,0,a,e=>⟨v,rfl,by simp at e;exact e▸h⟩
 |_,_,.cons h t,i+1,a,e=>by simpa using p8.get t (by simpa using e)
theorem p8.append : ∀{vs:List Value} {a_:List AV} {us:List Value} {a:List AV},p8 Φ w vs a_->p8 Φ w us a->p8 Φ w (vs++us) (a_++a)
 |_,_,_,_,.nil,h=>h
 |_,_,_,_,.cons x t,h=>.cons x (p8.append t h)
theorem p8.take (n:Nat):∀{vs:List Value} {a_:List AV},p8 Φ w vs a_->∀n,p8 Φ w (vs.take n) (a_.take n)
 |_,_,.nil,n=>by simpa using .nil
 |_,_,.cons h t,0=>by simpa using .nil
 |_,_,.cons h t,n+1=>.cons h (p8.take n t n)
theorem p8.drop : ∀{vs:List Value} {a_:List AV},p8 Φ w vs a_->∀n,p8 Φ w (vs.drop n) (a_.drop n)
 |_,_,.nil,n=>by simpa using .nil
 |_,_,.cons h t,0=>.cons h t
 |_,_,.cons h t,n+1=>by simpa using p8.drop t n
end
structure Ctx where
 Φ:Nat->Prop
 μ:Nat->Nat
 hd:Nat->Value
mutual
inductive Rd (c:Ctx) (w:World):Value->AV->Prop
 |fz {v:Value} {a:AV}:Rf c.Φ w v a->Rd c w v a
 |ptr {id off b:Nat}:c.μ id=b->Rd c w (.pointer (some ⟨b,off,none⟩)) (.ptr id off)
 |aG {id n cap:Nat} {A:Option Addr}:c.hd id=.slice A n cap->n<=cap->cap<=maxLen->Rd c w (.slice A n cap) (.aG id)
 |bo {id n m cap:Nat} {A:Option Addr}:c.hd id=.slice A m cap->n<=m->m<=cap->cap<=maxLen->Rd c w (.slice A n cap) (.bo id n)
 |cI {id n sz m cap:Nat} {A:Option Addr}:c.hd id=.slice A m cap->n<=m->m<=cap->cap<=maxLen->Rd c w (.slice (if cap=n then A else A.map (·.add (n*sz))) (m-n) (cap-n)) (.cI id n sz)
 |ep {id i sz off m cap g x:Nat}:c.hd id=.slice (some ⟨g,x,none⟩) m cap->Rd c w (.pointer (some ⟨g,x+i*sz+off,none⟩)) (.ep id i sz off)
 |fn {f:Nat} {us:List Value} {cs:List AV}:l8 c w us cs->Rd c w (.func (.func f) #[] us.toArray) (.fn f cs)
 |agg {us:List Value} {cs:List AV}:l8 c w us cs->Rd c w (.agg us.toArray) (.agg cs)
 |aS {us:List Value} {cs:List AV}:l8 c w us cs->Rd c w (.tuple us.toArray) (.aS cs)
 |mp {id b:Nat}:c.μ id=b->Rd c w (.map (some b)) (.mp id)
 |bL {id n cap:Nat} {A:Option Addr} {vs:List Value}:c.hd id=.tuple (.slice A n cap::vs).toArray->n<=cap->cap<=maxLen->Rd c w (.slice A n cap) (.bL id)
 |iu {id:Nat}:Rd c w (.pointer none) (.np id)
 |iv {id b:Nat}:c.μ id=b->Rd c w (.pointer (some ⟨b,0,none⟩)) (.np id)
inductive l8 (c:Ctx) (w:World):List Value->List AV->Prop
 |nil:l8 c w [] []
 |cons {v:Value} {a:AV} {vs:List Value} {a_:List AV}:Rd c w v a->l8 c w vs a_->l8 c w (v::vs) (a::a_)
end
mutual
def AV.ids : AV->List Nat
 |.ptr id _=>[id]
 |.aG id=>[id]
 |.bo id _=>[id]
 |.cI id _ _=>[id]
 |.ep id _ _ _=>[id]
 |.mp id=>[id]
 |.bL id=>[id]
 |.np id=>[id]
 |.fn _ a=>AV.aY a
 |.agg a=>AV.aY a
 |.aS a=>AV.aY a
 |_=>[]
def AV.aY : List AV->List Nat
 |[]=>[]
 |a::l=>a.ids++AV.aY l
end
mutual
theorem Rd.mono {c c':Ctx} {w w':World} (i:∀b,c.Φ b->w'.heap[b]?=w.heap[b]?) (e:∀b,c.Φ b->c'.Φ b):∀{v:Value} {a:AV},(∀id∈a.ids,c'.μ id=c.μ id/\c'.hd id=c.hd id)->Rd c w v a->Rd c' w' v a
 |_,_,_,.fz h=>.fz (h.mono i e)
 |_,_,d,.ptr h=>.ptr ((d _ (by simp[AV.ids])).1.trans h)
 |_,_,d,.aG h f g=>.aG ((d _ (by simp[AV.ids])).2.trans h) f g
 |_,_,d,.bo h f g j=>.bo ((d _ (by simp[AV.ids])).2.trans h) f g j
 |_,_,d,.cI h f g j=>.cI ((d _ (by simp[AV.ids])).2.trans h) f g j
 |_,_,d,.ep h=>.ep ((d _ (by simp[AV.ids])).2.trans h)
 |_,_,d,.fn h=>.fn (l8.mono i e (by simpa only[AV.ids] using d) h)
 |_,_,d,.agg h=>.agg (l8.mono i e (by simpa only[AV.ids] using d) h)
 |_,_,d,.aS h=>.aS (l8.mono i e (by simpa only[AV.ids] using d) h)
 |_,_,d,.mp h=>.mp ((d _ (by simp[AV.ids])).1.trans h)
 |_,_,d,.bL h f g=>.bL ((d _ (by simp[AV.ids])).2.trans h) f g
 |_,_,d,.iu=>.iu
 |_,_,d,.iv h=>.iv ((d _ (by simp[AV.ids])).1.trans h)
theorem l8.mono {c c':Ctx} {w w':World} (e:∀b,c.Φ b->w'.heap[b]?=w.heap[b]?) (a:∀b,c.Φ b->c'.Φ b):∀{vs:List Value} {a_:List AV},(∀id∈AV.aY a_,c'.μ id=c.μ id/\c'.hd id=c.hd id)->l8 c w vs a_->l8 c' w' vs a_
 |_,_,_,.nil=>.nil
 |_,_,d,.cons h t=>.cons (Rd.mono e a (fun id h=>d id (by simp[AV.aY,h])) h) (l8.mono e a (fun id h=>d id (by simp[AV.aY,h])) t)
end
section
variable {c:Ctx} {w:World}
theorem l8.length : ∀{vs:List Value} {a_:List AV},l8 c w vs a_->vs.length=a_.length
 |_,_,.nil=>rfl
 |_,_,.cons _ t=>by simp[l8.length t]
theorem l8.get : ∀{vs:List Value} {a_:List AV},l8 c w vs a_->∀{i:Nat} {a:AV},a_[i]?=some a->∃v,vs[i]?=some v/\Rd c w v a
 |_,_,.cons (v:=v) h t,0,a,e=>⟨v,rfl,by simp at e;exact e▸h⟩
 |_,_,.cons h t,i+1,a,e=>by simpa using l8.get t (by simpa using e)
theorem l8.append : ∀{vs:List Value} {a_:List AV} {us:List Value} {a:List AV},l8 c w vs a_->l8 c w us a->l8 c w (vs++us) (a_++a)
 |_,_,_,_,.nil,h=>h
 |_,_,_,_,.cons x t,h=>.cons x (l8.append t h)
theorem l8.take : ∀{vs:List Value} {a_:List AV},l8 c w vs a_->∀n,l8 c w (vs.take n) (a_.take n)
 |_,_,.nil,n=>by simpa using .nil
 |_,_,.cons h t,0=>by simpa using .nil
 |_,_,.cons h t,n+1=>.cons h (l8.take t n)
theorem l8.drop : ∀{vs:List Value} {a_:List AV},l8 c w vs a_->∀n,l8 c w (vs.drop n) (a_.drop n)
 |_,_,.nil,n=>by simpa using .nil
 |_,_,.cons h t,0=>.cons h t
 |_,_,.cons h t,n+1=>by simpa using l8.drop t n
theorem l8.set : ∀{vs:List Value} {a_:List AV},l8 c w vs a_->∀(n:Nat) {v:Value} {a:AV},Rd c w v a->l8 c w (vs.set n v) (a_.set n a)
 |_,_,.nil,n,_,_,_=>by simpa using .nil
 |_,_,.cons h t,0,_,_,k=>.cons k t
 |_,_,.cons h t,n+1,_,_,k=>.cons h (l8.set t n k)
theorem l8.af : ∀{vs:List Value} {a_:List AV},p8 c.Φ w vs a_->l8 c w vs a_
 |_,_,.nil=>.nil
 |_,_,.cons h t=>.cons (.fz h) (l8.af t)
theorem Rd.bM {v:Value} {a:List AV} (h:Rd c w v (.agg a)):∃us,v=.agg us.toArray/\l8 c w us a:=by
 cases h with
 |fz h=>cases h with|agg h=>exact⟨_,rfl,.af h⟩
 |agg h=>exact⟨_,rfl,h⟩
theorem Rd.dJ {v:Value} {a:List AV} (h:Rd c w v (.aS a)):∃us,v=.tuple us.toArray/\l8 c w us a:=by
 cases h with
 |fz h=>cases h with|aS h=>exact⟨_,rfl,.af h⟩
 |aS h=>exact⟨_,rfl,h⟩
theorem Rd.il {v:Value} {f:Nat} {a:List AV} (h:Rd c w v (.fn f a)):∃us,v=.func (.func f) #[] us.toArray/\l8 c w us a:=by
 cases h with
 |fz h=>cases h with|fn h=>exact⟨_,rfl,.af h⟩
 |fn h=>exact⟨_,rfl,h⟩
theorem Rd.aR {v:Value} {n:Int} (h:Rd c w v (.int n)):v=.int .i64 n/\D8 n:=by
 cases h with|fz h=>cases h with|int h=>exact⟨rfl,h⟩
theorem Rd.fY {v:Value} {k:IntKind} {n:Int} (h:Rd c w v (.ik k n)):v=.int k n:=by
 cases h with|fz h=>cases h with|ik=>rfl
theorem Rd.ai {v:Value} {b:Bool} (h:Rd c w v (.bool b)):v=.bool b:=by
 cases h with|fz h=>cases h with|bool=>rfl
theorem Rd.aq {v:Value} {s:ByteArray} (h:Rd c w v (.str s)):v=.string s/\s.size<=maxLen:=by
 cases h with|fz h=>cases h with|str h=>exact⟨rfl,h⟩
theorem Rd.ah {v:Value} (h:Rd c w v .a8):v=.slice none 0 0:=by
 cases h with|fz h=>cases h with|a8=>rfl
theorem Rd.oo {v:Value} {b:Bool} (h:Rd c w v (.cz b)):∃A n k,v=.slice A n k/\b=A.isNone:=by
 cases h with|fz h=>cases h with|cz A n k=>exact⟨_,_,_,rfl,rfl⟩
theorem Rd.dW {v:Value} (h:Rd c w v .aL):v=.pointer none:=by
 cases h with|fz h=>cases h with|aL=>rfl
theorem Rd.gi {v u:Value} (h:Rd c w v (.aU u)):v=u:=by
 cases h with|fz h=>cases h with|aU=>rfl
theorem Rd.bR {v:Value} {id off:Nat} (h:Rd c w v (.ptr id off)):v=.pointer (some ⟨c.μ id,off,none⟩):=by
 cases h with
 |fz h=>cases h
 |ptr h=>rw[h]
theorem Rd.ir {v:Value} {id:Nat} (h:Rd c w v (.mp id)):v=.map (some (c.μ id)):=by
 cases h with
 |fz h=>cases h
 |mp h=>rw[h]
theorem Rd.fb {v:Value} {id:Nat} (h:Rd c w v (.bL id)):∃A n cap vs,v=.slice A n cap/\c.hd id=.tuple (.slice A n cap::vs).toArray/\n<=cap/\cap<=maxLen:=by
 cases h with
 |fz h=>cases h
 |bL h a b=>exact⟨_,_,_,_,rfl,h,a,b⟩
theorem Rd.sB {v:Value} {id:Nat} (h:Rd c w v (.np id)):v=.pointer none\/v=.pointer (some ⟨c.μ id,0,none⟩):=by
 cases h with
 |fz h=>cases h
 |iu=>exact .inl rfl
 |iv h=>exact .inr (by rw[h])
theorem Rd.gm {v:Value} {b:Bool} (h:Rd c w v (.br b)):(v=.nilIface/\b=true)\/∃t p,v=.iface t p/\b=false:=by
 cases h with|fz h=>cases h with
  |cB=>exact .inl ⟨rfl,rfl⟩
  |cY t p=>exact .inr ⟨t,p,rfl,rfl⟩
theorem Rd.ld {v:Value} {a:List AV} (h:Rd c w v (.fp a)):∃b o us,v=.pointer (some ⟨b,o,none⟩)/\c.Φ b/\(∀j u,us[j]?=some u->w.cell? ⟨b,o+j,none⟩=some u)/\p8 c.Φ w us a:=by
 cases h with|fz h=>cases h with|fp d e f=>exact⟨_,_,_,rfl,d,e,f⟩
theorem Rd.ff {v:Value} {sz:Nat} {ls:List (List AV)} (h:Rd c w v (.sl sz ls)):∃(A:Option Addr) (k:Nat) (us:Nat->List Value) (b o:Nat),v=.slice A ls.length k/\ls.length<=k/\k<=maxLen/\(0<ls.length->A=some ⟨b,o,none⟩/\c.Φ b) /\
  (∀i a,ls[i]?=some a->(us i).length=sz)/\(∀i a,ls[i]?=some a->∀j u,(us i)[j]?=some u->w.cell? ⟨b,o+i*sz+j,none⟩=some u)/\(∀(i:Nat) (a:List AV),ls[i]?=some a->p8 c.Φ w (us i:List Value) a)/\(∀i a,ls[i]?=some a->∀u∈us i,u.oneCell'=true):=by
 cases h with|fz h=>cases h with|sl us b o d e f g l m n=>exact⟨_,_,us,b,o,rfl,d,e,f,g,l,m,n⟩
theorem Rd.aj {v:Value} {id:Nat} (h:Rd c w v (.aG id)):∃A n cap,v=.slice A n cap/\c.hd id=.slice A n cap/\n<=cap/\cap<=maxLen:=by
 cases h with
 |fz h=>cases h
 |aG h a b=>exact⟨_,_,_,rfl,h,a,b⟩
theorem Rd.dj {v:Value} {id n:Nat} (h:Rd c w v (.bo id n)):∃A m cap,v=.slice A n cap/\c.hd id=.slice A m cap/\n<=m/\m<=cap/\cap<=maxLen:=by
 cases h with
 |fz h=>cases h
 |bo h a b d=>exact⟨_,_,_,rfl,h,a,b,d⟩
theorem Rd.jx {v:Value} {id n sz:Nat} (h:Rd c w v (.cI id n sz)):∃A m cap,v=.slice (if cap=n then A else A.map (·.add (n*sz))) (m-n) (cap-n)/\c.hd id=.slice A m cap/\n<=m/\m<=cap/\cap<=maxLen:=by
 cases h with
 |fz h=>cases h
 |cI h a b d=>exact⟨_,_,_,rfl,h,a,b,d⟩
theorem Rd.gj {v:Value} {id i sz off:Nat} (h:Rd c w v (.ep id i sz off)):∃g x m cap,v=.pointer (some ⟨g,x+i*sz+off,none⟩)/\c.hd id=.slice (some ⟨g,x,none⟩) m cap:=by
 cases h with
 |fz h=>cases h
 |ep h=>exact⟨_,_,_,_,rfl,h⟩
def iT : AV->Bool
 |.any=>false
 |.agg _=>false
 |.aS _=>false
 |.aU v=>v.oneCell'
 |_=>true
theorem Rd.one {v:Value} {a:AV} (h:Rd c w v a) (b:iT a=true):v.oneCell'=true:=by
 cases h with
 |fz h=>cases h<;>first|rfl|cases b|exact b
 |_=>first|rfl|cases b
theorem l8.one : ∀{vs:List Value} {a_:List AV},l8 c w vs a_->a_.all iT=true->∀u∈vs,u.oneCell'=true
 |_,_,.nil,_=>o5
 |_,_,.cons h t,a=>by
  simp only[List.all_cons,A7] at a;intro u b;rcases AJ.1 b with rfl|b
  ·exact h.one a.1
  ·exact l8.one t a.2 u b
mutual
theorem Rd.rf : ∀{v:Value} {a:AV},a.ids=[]->Rd c w v a->Rf c.Φ w v a
 |_,_,_,.fz h=>h
 |_,_,b,.ptr _=>by simp[AV.ids] at b
 |_,_,b,.aG _ _ _=>by simp[AV.ids] at b
 |_,_,b,.bo _ _ _ _=>by simp[AV.ids] at b
 |_,_,b,.cI _ _ _ _=>by simp[AV.ids] at b
 |_,_,b,.ep _=>by simp[AV.ids] at b
 |_,_,b,.mp _=>by simp[AV.ids] at b
 |_,_,b,.bL _ _ _=>by simp[AV.ids] at b
 |_,_,b,.iu=>by simp[AV.ids] at b
 |_,_,b,.iv _=>by simp[AV.ids] at b
 |_,_,b,.fn h=>.fn (l8.ew (by simpa only[AV.ids] using b) h)
 |_,_,b,.agg h=>.agg (l8.ew (by simpa only[AV.ids] using b) h)
 |_,_,b,.aS h=>.aS (l8.ew (by simpa only[AV.ids] using b) h)
theorem l8.ew : ∀{vs:List Value} {a_:List AV},AV.aY a_=[]->l8 c w vs a_->p8 c.Φ w vs a_
 |_,_,_,.nil=>.nil
 |_,_,a,.cons h t=>by
  simp only[AV.aY,List.append_eq_nil_iff] at a;exact .cons (Rd.rf a.1 h) (l8.ew a.2 t)
end
theorem Rd.bZ (v:Value):Rd c w v .any:=.fz (.any v)
end
structure Hd where
 A:Option Addr
 n:Nat
 c:Nat
def Hd.v (h:Hd):Value:=.slice h.A h.n h.c
inductive Obj : Type where
 |aI
 |box (cs:List AV) (e:TypeId)
 |row (sz:Nat) (ls:List (List AV)) (e:TypeId)
  |pins (sz:Nat) (l:List (Hd×List (List AV))) (e:TypeId)
  |nest (sz:Nat) (e:TypeId) (isz:Nat) (ie:TypeId) (l:List (List AV×List (List AV)))
  |ay (sz:Nat) (ls:List (List AV)) (e:TypeId) (i off x:Nat)
  |deep (sz:Nat) (e:TypeId) (cols:List (Nat×Nat×TypeId)) (l:List (List AV)) (hs:List (Nat×Nat×Nat)) (sh:Nat)
  |ax (l:List (AV×AV))
  |eqv (j:Nat) (v:Value)
  |js (bs:List Nat) (G:World->Prop)
 deriving Inhabited
abbrev Ts := List (Nat×AV)
abbrev Os := List (Nat×Obj)
def lk {a:Type}:List (Nat×a)->Nat->Option a
 |[],_=>none
 |(k,v)::r,n=>bif A4 k n then some v else lk r n
def j5 {a:Type} (k:Nat) (v:a) (r:List (Nat×a)) (n:Nat):lk ((k,v)::r) n=if k=n then some v else lk r n:=by
 show(bif A4 k n then some v else lk r n)=_;by_cases h:k=n
 ·subst h;simp
 ·have:A4 k n=false:=by cases e:A4 k n;rfl;exact absurd (AB e) h
  simp[this,h]
def j3 {a:Type} (k:Nat) (v:a) (r:List (Nat×a)):lk ((k,v)::r) k=some v:=by rw[j5,Ah rfl]
def G5 {a:Type} {k n:Nat} (v:a) (r:List (Nat×a)) (h:k≠n):lk ((k,v)::r) n=lk r n:=by rw[j5,Ag h]
theorem C9 {a:Type} (n:Nat) (r:List (Nat×a)):∀l:List (Nat×a),lk (l++r) n=(lk l n).or (lk r n)
 |[]=>rfl
 |(k,v)::l=>by
  rw[List.cons_append,j5,j5,C9 n r l];split<;>simp
theorem O1 {a:Type} {n:Nat} {v:a}:∀{l:List (Nat×a)},lk l n=some v->(n,v)∈l
 |(k,u)::l,h=>by
  rw[j5] at h;split at h
  ·rename_i e;subst e;cases h;simp
  ·exact List.mem_cons_of_mem _ (O1 h)
def Obj.ids : Obj->List Nat
 |.box a _=>AV.aY a
 |.eqv j _=>[j]
 |.ay _ _ _ _ _ x=>[x]
 |.deep _ _ _ _ b sh=>sh::b.map (·.2.2)
 |_=>[]
def cm : Value->List Value
 |.tuple a=>a.toList
 |_=>[]
def aK (c:Ctx) (id:Nat):Obj->Nat->Prop
 |.aI,_=>False
 |.js _ _,_=>False
 |.box _ _,b=>b=c.μ id
 |.ax _,b=>b=c.μ id
 |.row _ _ _,b=>(c.hd id).ownBlock=some b
 |.pins _ l _,b=>∃p∈l,p.1.v.ownBlock=some b
 |.nest _ _ _ _ _,b=>∃v∈cm (c.hd id),v.ownBlock=some b
 |.ay _ _ _ _ _ _,b=>(c.hd id).ownBlock=some b
 |.deep _ _ _ _ _ sh,b=>(c.hd id).ownBlock=some b\/∃v∈cm (c.hd sh),v.ownBlock=some b
 |.eqv _ _,_=>False
structure y7 (w:World) (hdv:Value) (sz e:Nat) (css:List (List Value)):Prop where
 b9:(hdv=.slice none 0 0/\css.length=0)\/∃g x p cap cur,hdv=.slice (some ⟨g,x,none⟩) css.length cap/\w.heap[g]?=some (.cells cur e)/\css.length<=cap/\p+cap<=maxLen/\cur.size=(p+cap)*sz/\(0<cap->x=p*sz)/\(cur.toList.drop (p*sz)).take (css.length*sz)=css.flatten
 len:∀us∈css,us.length=sz
 one:∀us∈css,∀u∈us,u.oneCell'=true
def I5 (Φ:Nat->Prop) (w:World) (hdv:Value) (sz:Nat) (ls:List (List AV)) (e:TypeId):Prop :=
 ∃css,y7 w hdv sz e css/\css.length=ls.length/\∀(i:Nat) (us:List Value) (a:List AV),css[i]?=some us->ls[i]?=some a->p8 Φ w us a
def eb (Φ:Nat->Prop) (w:World) (sz:Nat) (l:List (Hd×List (List AV))) (e:TypeId):Prop :=
 (∀p∈l,I5 Φ w p.1.v sz p.2 e)/\l.Pairwise fun p q=>∀b,p.1.v.ownBlock=some b->q.1.v.ownBlock=some b->False
def cS (z:List (Hd×List AV×List (List AV))):List (List AV):=z.map fun p=>p.2.1++[.aU p.1.v]
def dI (z:List (Hd×List AV×List (List AV))):List (Hd×List (List AV)):=z.map fun p=>(p.1,p.2.2)
def dP (isz:Nat) (l:List (List AV×List (List AV))):List (List AV):=l.map fun p=>p.1++[.sl isz p.2]
def gU (Φ:Nat->Prop) (w:World) (hd:Value) (sz:Nat) (e:TypeId) (isz:Nat) (ie:TypeId) (l:List (List AV×List (List AV))):Prop :=
 ∃(h:Hd) (z:List (Hd×List AV×List (List AV))),hd=.tuple (h.v::z.map (·.1.v)).toArray/\z.map (·.2)=l/\I5 Φ w h.v sz (cS z) e/\eb Φ w isz (dI z) ie/\∀b p,h.v.ownBlock=some b->p∈z->p.1.v.ownBlock=some b->False
def fV (ls:List (List AV)) (i off:Nat) (a:AV):List (List AV):=match ls[i]? with
 |some b=>ls.set i (b.set off a)
 |none=>ls
def X6 (a:List (Nat×Nat×Nat)) (i off:Nat):Prop:=∃x,(i,off,x)∈a
def X0 (css:List (List Value)) (a:List (Nat×Nat×TypeId)) (b:List (Nat×Nat×Nat)) (i off:Nat) (v:Value):Prop:=∃us p,css[i]?=some us/\lk a off=some p/\us[off]?=some v/\¬X6 b i off
structure O8 (Φ:Nat->Prop) (hd:Nat->Value) (w:World) (cols:List (Nat×Nat×TypeId)) (hs:List (Nat×Nat×Nat)) (l:List (List AV)) (css:List (List Value)):Prop where
 len:css.length=l.length
 cell:∀(i:Nat) (us:List Value) (cs:List AV),css[i]?=some us->l[i]?=some cs->us.length=cs.length/\∀(off:Nat) (u:Value) (a:AV),us[off]?=some u->cs[off]?=some a->lk cols off=none->Rf Φ w u a
 inner:∀(i:Nat) (us:List Value) (cs:List AV) (off isz:Nat) (ie:TypeId) (u:Value),css[i]?=some us->l[i]?=some cs->lk cols off=some (isz,ie)->us[off]?=some u->¬X6 hs i off->∃ls,cs[off]?=some (.sl isz ls)/\I5 Φ w u isz ls ie
 hole:∀(i off x:Nat) (us:List Value) (u:Value),(i,off,x)∈hs->css[i]?=some us->us[off]?=some u->u=hd x/\∃A n cap,u=.slice A n cap/\n<=cap/\cap<=maxLen
 apart:∀(i off:Nat) (v:Value) (i' off':Nat) (v':Value) (b:Nat),X0 css cols hs i off v->X0 css cols hs i' off' v'->v.ownBlock=some b->v'.ownBlock=some b->i=i'/\off=off'
def iz (Φ:Nat->Prop) (hd:Nat->Value) (w:World) (id:Nat) (sz:Nat) (e:TypeId) (a:List (Nat×Nat×TypeId)) (l:List (List AV)) (c:List (Nat×Nat×Nat)) (sh:Nat):Prop :=
 ∃css,y7 w (hd id) sz e css/\O8 Φ hd w a c l css/\(∀v,v∈cm (hd sh)↔∃i off,X0 css a c i off v)/\∀i off v b,X0 css a c i off v->(hd id).ownBlock=some b->v.ownBlock=some b->False
inductive bY (Φ:Nat->Prop) (w:World):List MapEntry->List (AV×AV)->Prop
 |nil:bY Φ w [] []
 |cons {e:MapEntry} {k v:AV} {es:List MapEntry} {l:List (AV×AV)}:Rf Φ w e.key k->Rf Φ w e.val v->bY Φ w es l->bY Φ w (e::es) ((k,v)::l)
theorem bY.mono {Φ c:Nat->Prop} {w w':World} (d:∀b,Φ b->w'.heap[b]?=w.heap[b]?) (a:∀b,Φ b->c b):∀{es:List MapEntry} {l:List (AV×AV)},bY Φ w es l->bY c w' es l
 |_,_,.nil=>.nil
 |_,_,.cons e f t=>.cons (e.mono d a) (f.mono d a) (bY.mono d a t)
def rJ (es:List MapEntry) (a:Nat):Prop:=(∀x∈es,x.born<a)/\(es.map (·.born)).Nodup
def xS (Φ:Nat->Prop) (w:World) (b:Nat) (l:List (AV×AV)):Prop:=∃(es:Array MapEntry) (a:Nat),w.heap[b]?=some (.map es a)/\bY Φ w es.toList l/\l.length<=maxLen/\rJ es.toList a
def bm (c:Ctx) (w:World) (id:Nat):Obj->Prop
 |.aI=>True
 |.js d G=>(∀b∈d,c.Φ b)/\∃f:World,G f/\∀b∈d,w.heap[b]?=f.heap[b]?
 |.box g e=>∃us,w.heap[c.μ id]?=some (.cells us.toArray e)/\l8 c w us g
 |.ax l=>xS c.Φ w (c.μ id) l
 |.deep sz e a l h sh=>iz c.Φ c.hd w id sz e a l h sh
 |.row sz ls e=>I5 c.Φ w (c.hd id) sz ls e
 |.pins sz l e=>eb c.Φ w sz l e
 |.nest sz e isz ie l=>gU c.Φ w (c.hd id) sz e isz ie l
 |.ay sz ls e i off x=>∃v,Rd c w v (.aG x)/\I5 c.Φ w (c.hd id) sz (fV ls i off (.aU v)) e
 |.eqv j v=>c.hd j=v
structure H7 (c:Ctx) (w:World) (os:Os):Prop where
 rep:∀id o,lk os id=some o->bm c w id o
 lt:∀id o b,lk os id=some o->aK c id o b->b<w.heap.size/\¬c.Φ b
 sep:∀id id' o o' b,id≠id'->lk os id=some o->lk os id'=some o'->aK c id o b->¬aK c id' o' b
 aX:∀b,c.Φ b->b<w.heap.size
theorem H7.sub {c:Ctx} {w:World} {os need:Os} (h:H7 c w os) (d:∀id o,lk need id=some o->lk os id=some o):H7 c w need :=
 ⟨fun id o e=>h.rep id o (d id o e),fun id o b e=>h.lt id o b (d id o e),fun id a o g b f i j=>h.sep id a o g b f (d id o i) (d a g j),h.aX⟩
def Touch (c:Ctx) (need upd:Os) (b:Nat):Prop:=∃id o,lk need id=some o/\(lk upd id).isSome=true/\aK c id o b
structure aF (c:Ctx) (w:World) (c':Ctx) (w':World) (need upd:Os) (news:List Nat):Prop where
 bV:w'.os=w.os
 tape:w'.tape=w.tape
 output:w'.output=w.output
 size:w.heap.size<=w'.heap.size
 aX:∀b,c.Φ b->c'.Φ b
 aV:∀b,c'.Φ b->c.Φ b\/w.heap.size<=b\/Touch c need upd b
 aP:∀b,b<w.heap.size->¬Touch c need upd b->w'.heap[b]?=w.heap[b]?
 ctx:∀id,id ∉ news->c'.μ id=c.μ id/\c'.hd id=c.hd id
 aD:H7 c' w' upd
 ab:∀id o b,lk upd id=some o->aK c' id o b->w.heap.size<=b\/Touch c need upd b
theorem aF.frozen {c c':Ctx} {w w':World} {need upd:Os} {news:List Nat} (h:aF c w c' w' need upd news) (d:H7 c w need):∀b,c.Φ b->w'.heap[b]?=w.heap[b]? :=
 fun b a=>h.aP b (d.aX b a) fun⟨id,o,e,_,f⟩=>(d.lt id o b e f).2 a
theorem Rd.post {c c':Ctx} {w w':World} {need upd:Os} {news:List Nat} (h:aF c w c' w' need upd news) (f:H7 c w need) {v:Value} {a:AV} (g:Rd c w v a) (b:∀id∈news,id ∉ a.ids):Rd c' w' v a :=
 g.mono (h.frozen f) h.aX fun id d=>h.ctx id fun e=>b id e d
theorem l8.post {c c':Ctx} {w w':World} {need upd:Os} {news:List Nat} (h:aF c w c' w' need upd news) (f:H7 c w need) {v:List Value} {a:List AV} (g:l8 c w v a) (b:∀id∈news,id ∉ AV.aY a):l8 c' w' v a :=
 g.mono (h.frozen f) h.aX fun id d=>h.ctx id fun e=>b id e d
def jP {c c':Ctx} {id:Nat} {o:Obj} {b:Nat} (h:c'.μ id=c.μ id/\c'.hd id=c.hd id) (hi:∀x∈o.ids,c'.μ x=c.μ x/\c'.hd x=c.hd x):aK c' id o b↔aK c id o b:=by
 cases o
 case deep sz e cols l hs sh=>simp only[aK,h.2,(hi sh (by simp[Obj.ids])).2]
 all_goals simp[aK,h.1,h.2]
theorem y7.aP {w w':World} {hdv:Value} {sz e:Nat} {css:List (List Value)} (h:y7 w hdv sz e css) (d:∀b,hdv.ownBlock=some b->w'.heap[b]?=w.heap[b]?):y7 w' hdv sz e css:=by
 refine⟨?_,h.len,h.one⟩;rcases h.b9 with h|⟨g,x,p,cap,a,rfl,c,h⟩
 ·exact .inl h
 ·exact .inr ⟨g,x,p,cap,a,rfl,(d g rfl).trans c,h⟩
theorem I5.aP {Φ a:Nat->Prop} {w w':World} {hdv:Value} {sz e:Nat} {ls:List (List AV)} (h:I5 Φ w hdv sz ls e) (c:∀b,Φ b->w'.heap[b]?=w.heap[b]?) (d:∀b,Φ b->a b)
  (l:∀b,hdv.ownBlock=some b->w'.heap[b]?=w.heap[b]?):I5 a w' hdv sz ls e:=by
 obtain⟨css,g,j,k⟩:=h;exact⟨css,g.aP l,j,fun i us f n m=>(k i us f n m).mono c d⟩
theorem O8.aP {Φ m:Nat->Prop} {hd g:Nat->Value} {w w':World} {c:List (Nat×Nat×TypeId)} {q:List (Nat×Nat×Nat)} {l:List (List AV)} {css:List (List Value)} (h:O8 Φ hd w c q l css) (j:∀b,Φ b->w'.heap[b]?=w.heap[b]?) (k:∀b,Φ b->m b)
  (z:∀i off x,(i,off,x)∈q->g x=hd x) (y:∀i off v b,X0 css c q i off v->v.ownBlock=some b->w'.heap[b]?=w.heap[b]?):O8 m g w' c q l css :=
 ⟨h.len,fun i us n d e=>⟨(h.cell i us n d e).1,fun off u a f o p=>((h.cell i us n d e).2 off u a f o p).mono j k⟩,
  fun i us n off isz ie u d e f o p=>let ⟨ls,r,s⟩:=h.inner i us n off isz ie u d e f o p;⟨ls,r,I5.aP s j k fun b t=>y i off u b ⟨us,_,d,f,o,p⟩ t⟩,
  fun i off x us u d e f=>by rw[z i off x d];exact h.hole i off x us u d e f,h.apart⟩
theorem eb.aP {Φ a:Nat->Prop} {w w':World} {sz e:Nat} {l:List (Hd×List (List AV))} (h:eb Φ w sz l e) (c:∀b,Φ b->w'.heap[b]?=w.heap[b]?) (d:∀b,Φ b->a b)
  (i:∀b,(∃p∈l,p.1.v.ownBlock=some b)->w'.heap[b]?=w.heap[b]?):eb a w' sz l e :=
 ⟨fun p f=>(h.1 p f).aP c d fun b g=>i b ⟨p,f,g⟩,h.2⟩
theorem gU.aP {Φ d:Nat->Prop} {w w':World} {hd:Value} {sz e isz ie:Nat} {l:List (List AV×List (List AV))} (h:gU Φ w hd sz e isz ie l) (a:∀b,Φ b->w'.heap[b]?=w.heap[b]?) (c:∀b,Φ b->d b)
  (g:∀b,(∃v∈cm hd,v.ownBlock=some b)->w'.heap[b]?=w.heap[b]?):gU d w' hd sz e isz ie l:=by
 obtain⟨hdv,z,rfl,i,j,k,m⟩:=h;exact⟨hdv,z,rfl,i,j.aP a c fun b f=>g b ⟨hdv.v,by simp[cm],f⟩,k.aP a c fun b ⟨p,n,f⟩=>g b ⟨p.1.v,by
  obtain⟨q,o,rfl⟩:=AL.1 n;simpa[cm] using .inr ⟨q.1,⟨q.2.1,q.2.2,o⟩,rfl⟩,f⟩,m⟩
theorem bm.aP {c c':Ctx} {w w':World} {id:Nat} {o:Obj} (h:bm c w id o) (p:c'.μ id=c.μ id/\c'.hd id=c.hd id) (a:∀b,c.Φ b->w'.heap[b]?=w.heap[b]?) (d:∀b,c.Φ b->c'.Φ b)
  (m:∀b,aK c id o b->w'.heap[b]?=w.heap[b]?) (r:∀x∈o.ids,c'.μ x=c.μ x/\c'.hd x=c.hd x):bm c' w' id o:=by
 cases o with
 |aI=>trivial
 |js C G=>obtain⟨f,B,g,q⟩:=h;exact⟨fun b k=>d b (f b k),B,g,fun b k=>(a b (f b k)).trans (q b k)⟩
 |box D e =>
  obtain⟨us,f,g⟩:=h;exact⟨us,by rw[p.1,m _ rfl,f],g.mono a d r⟩
 |deep sz e t l E sh =>
  obtain⟨css,f,g,q,u⟩:=h;have es:c'.hd sh=c.hd sh:=(r sh (by simp[Obj.ids])).2;refine⟨css,by rw[p.2];exact f.aP fun b k=>m b (.inl k),g.aP a d (fun i off x A=>(r x (by simp[Obj.ids];exact .inr ⟨i,off,A⟩)).2) (fun i off v b s k=>m b (.inr ⟨v,(q v).2 ⟨i,off,s⟩,k⟩)),fun v=>by rw[es];exact q v,fun i off v b s y z=>u i off v b s (by rw[<-p.2];exact y) z⟩
 |ax l =>
  obtain⟨es,n,f,g,q⟩:=h;exact⟨es,n,by rw[p.1,m _ rfl,f],g.mono a d,q⟩
 |row sz ls e =>
  show I5 c'.Φ w' (c'.hd id) sz ls e;rw[p.2];exact I5.aP h a d m
 |pins sz l e=>exact eb.aP h a d m
 |nest sz e isz ie l =>
  show gU c'.Φ w' (c'.hd id) sz e isz ie l;rw[p.2];exact gU.aP h a d m
 |ay sz ls e i off x =>
  obtain⟨v,f,g⟩:=h;refine⟨v,f.mono a d r,?_⟩;rw[p.2];exact I5.aP g a d m
 |eqv j v=>exact((r j (by simp[Obj.ids])).2).trans h
def fJ (news:List Nat) (l:List Nat):Bool:=l.all fun i=>!(news.elem i)
def hQ {news l:List Nat} (h:fJ news l=true):∀id∈news,id ∉ l:=by
 intro id b a;have:=AH.1 h id a;simp at this;exact this b
theorem H7.frame {c c':Ctx} {w w':World} {os need upd:Os} {news:List Nat} (h:H7 c w os) (H:∀id o,lk need id=some o->lk os id=some o) (i:aF c w c' w' need upd news)
  (z:∀id∈news,(lk upd id).isSome=true) (g:∀id o,lk os id=some o->lk upd id=none->∀x∈news,x ∉ o.ids):H7 c' w' (upd++os):=by
 have D:=h.sub H;have B:=i.frozen D;have k:∀id o,lk upd id=none->lk os id=some o->bm c' w' id o/\(∀b,aK c' id o b->aK c id o b/\b<w.heap.size/\¬c'.Φ b/\¬Touch c need upd b):=by
  intro id o d a;have C:id ∉ news:=fun v=>by have:=z id v;rw[d] at this;cases this
  have G:=i.ctx id C;have t:∀b,aK c id o b->¬Touch c need upd b:=by
   rintro b f ⟨E,J,r,F,I⟩;refine h.sep E id J o b ?_ (H _ _ r) a I f;rintro rfl;rw[d] at F;cases F
  refine⟨(h.rep id o a).aP G B i.aX (fun b f=>i.aP b (h.lt id o b a f).1 (t b f)) fun x e=>i.ctx x fun v=>g id o a d x v e,fun b f=>?_⟩;have p:=(jP G fun x e=>i.ctx x fun v=>g id o a d x v e).1 f;have s:=h.lt id o b a p;refine⟨p,s.1,fun A=>?_,t b p⟩;rcases i.aV b A with e|e|e
  ·exact s.2 e
  ·exact absurd s.1 (Nat.not_lt.2 e)
  ·exact t b p e
 have q:∀id o,lk (upd++os) id=some o->lk upd id=some o\/(lk upd id=none/\lk os id=some o):=by
  intro id o a;rw[C9] at a;cases d:lk upd id with
  |none=>rw[d] at a;exact .inr ⟨rfl,by simpa using a⟩
  |some x=>rw[d] at a;exact .inl (by simpa using a)
 refine⟨fun id o a=>?_,fun id o b a f=>?_,fun id j o u b y a l f n=>?_,i.aD.aX⟩
 ·rcases q id o a with d|⟨d,a⟩
  ·exact i.aD.rep id o d
  ·exact(k id o d a).1
 ·rcases q id o a with d|⟨d,a⟩
  ·exact i.aD.lt id o b d f
  ·have:=(k id o d a).2 b f;exact⟨Nat.lt_of_lt_of_le this.2.1 i.size,this.2.2.1⟩
 ·rcases q id o a with d|⟨d,a⟩<;>rcases q j u l with m|⟨m,l⟩
  ·exact i.aD.sep id j o u b y d m f n
  ·have r:=(k j u m l).2 b n;rcases i.ab id o b d f with e|e
   ·exact absurd r.2.1 (Nat.not_lt.2 e)
   ·exact r.2.2.2 e
  ·have r:=(k id o d a).2 b f;rcases i.ab j u b m n with e|e
   ·exact absurd r.2.1 (Nat.not_lt.2 e)
   ·exact r.2.2.2 e
  ·exact h.sep id j o u b y a l ((k id o d a).2 b f).1 ((k j u m l).2 b n).1
structure K5 where
 c:Ctx
 w:World
 need:Os
 n:Nat
def K5.aG (a:K5) (b:Nat):Prop:=a.w.heap.size<=b\/∃id o,lk a.need id=some o/\aK a.c id o b
structure Inv (Γ:K5) (c:Ctx) (w:World) (os:Os):Prop where
 bV:w.os=Γ.w.os
 tape:w.tape=Γ.w.tape
 output:w.output=Γ.w.output
 size:Γ.w.heap.size<=w.heap.size
 aX:∀b,Γ.c.Φ b->c.Φ b
 aV:∀b,c.Φ b->Γ.c.Φ b\/Γ.aG b
 aP:∀b,¬Γ.aG b->w.heap[b]?=Γ.w.heap[b]?
 ab:∀id o b,lk os id=some o->aK c id o b->Γ.aG b
theorem Inv.post {n:K5} {c c':Ctx} {w w':World} {os need upd:Os} {news:List Nat} (h:Inv n c w os) (aD:H7 c w os) (y:∀id o,lk need id=some o->lk os id=some o) (d:aF c w c' w' need upd news)
  (l:∀id∈news,(lk upd id).isSome=true) (f:∀id o,lk os id=some o->lk upd id=none->∀x∈news,x ∉ o.ids):Inv n c' w' (upd++os):=by
 have i:∀b,Touch c need upd b->n.aG b:=fun b ⟨id,o,u,_,v⟩=>h.ab id o b (y _ _ u) v;have g:∀b,w.heap.size<=b->n.aG b:=fun b e=>.inl (Nat.le_trans h.size e);refine⟨d.bV.trans h.bV,d.tape.trans h.tape,d.output.trans h.output,Nat.le_trans h.size d.size,fun b e=>d.aX b (h.aX b e),fun b e=>?_,fun b e=>?_,fun id o b j t=>?_⟩
 ·rcases d.aV b e with a|a|a
  ·exact h.aV b a
  ·exact .inr (g b a)
  ·exact .inr (i b a)
 ·rcases Nat.lt_or_ge b w.heap.size with r|p
  ·exact(d.aP b r fun z=>e (i b z)).trans (h.aP b e)
  ·exact absurd (g b p) e
 ·rw[C9] at j;cases m:lk upd id with
  |none =>
   rw[m] at j;have q:id ∉ news:=fun s=>by have:=l id s;rw[m] at this;cases this
   have k:lk os id=some o:=(by simpa using j);exact h.ab id o b k ((jP (d.ctx id q) fun x a=>d.ctx x fun s=>f id o k m x s a).1 t)
  |some x =>
   rw[m] at j;simp at j;subst j;rcases d.ab id x b m t with a|a
   ·exact g b a
   ·exact i b a
def dS (c:Ctx) (w:World) (ts:Ts) (a:Act):Prop:=∀t av,lk ts t=some av->∃v,a.tmps[t]?=some v/\Rd c w v av
structure uH (Γ:K5) (ts:Ts) (os:Os) (c:Ctx) (a:Act) (w:World):Prop where
 defers:a.defers=[]
 n:a.tmps.size=Γ.n
 ts:dS c w ts a
 aD:H7 c w os
 inv:Inv Γ c w os
structure TI where
 kind:Nat
 size:Nat
 bytes:Nat
 zero:List AV
 fields:List (Nat×Nat×Bool)
 elem:Nat
 len:Nat
 ik:IntKind
abbrev F7 := List (Nat×TI)
def TI.agg (ti:TI):Bool:=match ti.kind with|1=>true|3=>true|_=>false
def Z0 : TypeDesc->Bool|.struct _=>true|.array _ _=>true|_=>false
def X8 : List Value->List AV->Bool
 |[],[]=>true
 |.int k n::vs,.int m::a_=>decide (k=.i64) && decide (n=0) && decide (m=0) && X8 vs a_
 |.int k n::vs,.ik k' m::a_=>decide (k=k') && decide (n=m) && X8 vs a_
 |.bool b::vs,.bool b'::a_=>decide (b=b') && X8 vs a_
 |.string s::vs,.str s'::a_=>decide (s.size=0) && decide (s'.size=0) && X8 vs a_
 |.slice none 0 0::vs,.a8::a_=>X8 vs a_
 |.pointer none::vs,.aL::a_=>X8 vs a_
 |.nilFunc::vs,.aA::a_=>X8 vs a_
 |.map none::vs,.any::a_=>X8 vs a_
 |.nilIface::vs,.br true::a_=>X8 vs a_
 |_,_=>false
def qq {s:ByteArray} (h:s.size=0):s=AE:=by
 obtain⟨⟨l⟩⟩:=s;have:l=[]:=AX h;subst this;rfl
def Z5 (Φ:Nat->Prop) (w:World):∀(vs:List Value) (a_:List AV),X8 vs a_=true->p8 Φ w vs a_/\∀u∈vs,u.oneCell'=true:=by
 intro vs a_
 fun_induction X8 vs a_ with
 |case1=>exact fun _=>⟨.nil,o5⟩
 |case2 k n vs m a_ ih =>
  intro h;simp only[A7,Am] at h;obtain⟨⟨⟨rfl,rfl⟩,rfl⟩,h⟩:=h;exact⟨.cons (.int (by simp[D8])) (ih h).1,by simpa[Value.oneCell'] using(ih h).2⟩
 |case3 k n vs g m a_ ih =>
  intro h;simp only[A7,Am] at h;obtain⟨⟨rfl,rfl⟩,h⟩:=h;exact⟨.cons (.ik _ _) (ih h).1,by simpa[Value.oneCell'] using(ih h).2⟩
 |case4 b vs f a_ ih =>
  intro h;simp only[A7,Am] at h;obtain⟨rfl,h⟩:=h;exact⟨.cons (.bool _) (ih h).1,by simpa[Value.oneCell'] using(ih h).2⟩
 |case5 s vs d a_ ih =>
  intro h;simp only[A7,Am] at h;obtain⟨⟨a,c⟩,h⟩:=h;have e:s=d:=(qq a).trans (qq c).symm;subst e;exact⟨.cons (.str d9) (ih h).1,by simpa[Value.oneCell'] using(ih h).2⟩
 |case6 vs a_ ih=>exact fun h=>⟨.cons .a8 (ih h).1,by simpa[Value.oneCell'] using(ih h).2⟩
 |case7 vs a_ ih=>exact fun h=>⟨.cons .aL (ih h).1,by simpa[Value.oneCell'] using(ih h).2⟩
 |case8 vs a_ ih=>exact fun h=>⟨.cons .aA (ih h).1,by simpa[Value.oneCell'] using(ih h).2⟩
 |case9 vs a_ ih=>exact fun h=>⟨.cons (.any _) (ih h).1,by simpa[Value.oneCell'] using(ih h).2⟩
 |case10 vs a_ ih=>exact fun h=>⟨.cons .cB (ih h).1,by simpa[Value.oneCell'] using(ih h).2⟩
 |case11=>intro h;cases h
def eA (P:Program):List Field->List (Nat×Nat×Bool)->Bool
 |[],[]=>true
 |f::fs,(o,s,a)::l=>decide (f.offset=o) && decide ((P.info? f.type).map (·.size)=some s) && decide ((P.underlying f.type).map Z0=some a) && eA P fs l
 |_,_=>false
def dU (P:Program) (ti:TI):TypeDesc->Bool
 |.struct a=>decide (ti.kind=1) && eA P a.toList ti.fields
 |.slice e=>decide (ti.kind=2) && decide (e=ti.elem)
 |.array n e=>decide (ti.kind=3) && decide (n=ti.len) && decide (e=ti.elem)
 |.string=>decide (ti.kind=4)
 |.int k=>decide (ti.kind=5) && decide (k=ti.ik)
 |.bool=>decide (ti.kind=6)
 |.pointer _=>decide (ti.kind=7)
 |.interface _=>decide (ti.kind=9)
 |.map k e=>decide (ti.kind=8) && decide (e=ti.elem) && decide (k=ti.len)
 |_=>decide (ti.kind=0)
def lA : Value->Bool|.agg _=>true|_=>false
def oS (P:Program) (t:TypeId) (ti:TI):Bool :=
 match P.info? t,P.underlying t with
 |some i,some d=>decide (i.size=ti.size) && decide (i.bytes=ti.bytes) && decide (ti.zero.length=ti.size) && dU P ti d &&
   match i.zero with
   |some z=>X8 z.cells.toList ti.zero && decide (lA z=ti.agg)
   |none=>false
 |_,_=>false
structure I4 (P:Program) (t:TypeId) (ti:TI):Prop where
 info:∃i z,P.info? t=some i/\i.size=ti.size/\i.bytes=ti.bytes/\i.zero=some z/\X8 z.cells.toList ti.zero=true/\lA z=ti.agg
 dK:∃d,P.underlying t=some d/\dU P ti d=true
 zl:ti.zero.length=ti.size
theorem I4.of {P:Program} {t:TypeId} {ti:TI} (h:oS P t ti=true):I4 P t ti:=by
 unfold oS at h;split at h
 ·rename_i i d k hd;cases a:i.zero with
  |none=>rw[a] at h;simp at h
  |some z =>
   rw[a] at h;simp only[A7,Am] at h;obtain⟨⟨⟨⟨b,c⟩,e⟩,f⟩,g,j⟩:=h;exact⟨⟨i,z,k,b,c,a,g,j⟩,⟨d,hd,f⟩,e⟩
 ·cases h
def E5 (P:Program) (tab:F7):Prop:=∀t ti,lk tab t=some ti->I4 P t ti
def xF (P:Program) (tab:F7):Bool:=tab.all fun p=>oS P p.1 p.2
theorem E5.of {P:Program} {tab:F7} (h:xF P tab=true):E5 P tab:=fun t ti a=>I4.of (AH.1 h (t,ti) (O1 a))
section
variable {P:Program} {t:TypeId} {ti:TI} (w:World)
def uX {d:TypeDesc} (h:dU P ti d=true):Z0 d=ti.agg:=by
 cases d<;>simp only[dU,A7,Am] at h<;>simp[Z0,TI.agg,h]
theorem I4.dX (h:I4 P t ti):(isAgg t).run P w=.ok ti.agg w:=by
 obtain⟨d,hd,a⟩:=h.dK;rw[<-uX a];cases d<;>simp[isAgg,run_underlying hd,Z0]
theorem I4.aZ (h:I4 P t ti):(sizeOf t).run P w=.ok ti.size w:=by
 obtain⟨i,z,a,b,_⟩:=h.info;simp[sizeOf,typeInfo,a,b]
theorem I4.bA (h:I4 P t ti):∃z,(zeroValue t).run P w=.ok z w/\X8 z.cells.toList ti.zero=true/\lA z=ti.agg:=by
 obtain⟨i,z,c,_,_,d,a,b⟩:=h.info;exact⟨z,by simp[zeroValue,typeInfo,c,d],a,b⟩
theorem I4.bU (h:I4 P t ti) (c:ti.kind=1):∃b,P.underlying t=some (.struct b)/\eA P b.toList ti.fields=true:=by
 obtain⟨d,hd,a⟩:=h.dK;cases d<;>simp only[dU,A7,Am,c] at a<;>first|omega|exact⟨_,hd,a.2⟩
theorem I4.aQ (h:I4 P t ti) (b:ti.kind=2):P.underlying t=some (.slice ti.elem):=by
 obtain⟨d,hd,a⟩:=h.dK;cases d<;>simp only[dU,A7,Am,b] at a<;>first|omega|(rw[hd,a.2])
theorem I4.bR (h:I4 P t ti) (b:ti.kind=7):∃e,P.underlying t=some (.pointer e):=by
 obtain⟨d,hd,a⟩:=h.dK;cases d<;>simp only[dU,A7,Am,b] at a<;>first|omega|exact⟨_,hd⟩
theorem I4.gq (h:I4 P t ti) (b:ti.kind=8):P.underlying t=some (.map ti.len ti.elem):=by
 obtain⟨d,hd,a⟩:=h.dK;cases d<;>simp only[dU,A7,Am,b] at a<;>first|omega|(rw[hd,a.1.2,a.2])
theorem I4.gl (h:I4 P t ti) (b:ti.kind=9):P.isIface t=true:=by
 obtain⟨d,hd,a⟩:=h.dK;cases d<;>simp only[dU,A7,Am,b] at a<;>first|omega|(unfold Program.isIface;rw[hd])
theorem I4.ai (h:I4 P t ti) (b:ti.kind=6):P.underlying t=some .bool:=by
 obtain⟨d,hd,a⟩:=h.dK;cases d<;>simp only[dU,A7,Am,b] at a<;>first|omega|exact hd
theorem I4.eN (h:I4 P t ti) (b:ti.kind=3):P.underlying t=some (.array ti.len ti.elem):=by
 obtain⟨d,hd,a⟩:=h.dK;cases d<;>simp only[dU,A7,Am,b] at a<;>first|omega|(rw[hd,a.1.2,a.2])
theorem I4.ar (h:I4 P t ti) (b:ti.kind=4):P.underlying t=some .string:=by
 obtain⟨d,hd,a⟩:=h.dK;cases d<;>simp only[dU,A7,Am,b] at a<;>first|omega|(rw[hd])
theorem I4.aR (h:I4 P t ti) (b:ti.kind=5):P.underlying t=some (.int ti.ik):=by
 obtain⟨d,hd,a⟩:=h.dK;cases d<;>simp only[dU,A7,Am,b] at a<;>first|omega|(rw[hd,a.2])
theorem kJ : ∀(b:List Field) (l:List (Nat×Nat×Bool)),eA P b l=true->∀(i o s:Nat) (a:Bool),l[i]?=some (o,s,a) ->
  ∃f,b[i]?=some f/\f.offset=o/\(∃x,P.info? f.type=some x/\x.size=s)/\∃d,P.underlying f.type=some d/\Z0 d=a
 |[],[],_,i,o,s,a,h=>by simp at h
 |f::b,(o',s',a')::l,h,0,o,s,a,hi=>by
  simp only[eA,A7,Am] at h;simp at hi;obtain⟨rfl,rfl,rfl⟩:=hi;obtain⟨⟨⟨g,c⟩,e⟩,_⟩:=h;simp only[AZ] at c e;exact⟨f,rfl,g,c,e⟩
 |f::b,(o',s',a')::l,h,i+1,o,s,a,hi=>by
  simp only[eA,A7,Am] at h;simpa using kJ b l h.2 i o s a (by simpa using hi)
end
inductive CK : Type where
 |int (k:IntKind)
 |str
 |bool
 deriving DecidableEq,Inhabited
def iH (P:Program) (b:TypeId->Option (List CK)):List Field->Nat->Option (List CK)
 |[],_=>some []
 |f::fs,o =>
  if f.name = "_" \/ f.offset ≠ o then none else
  match b f.type with
  |none=>none
  |some a=>if(P.info? f.type).map (·.size)=some a.length then
    match iH P b fs (o+a.length) with
    |none=>none
    |some r=>some (a++r)
   else none
def flatK (P:Program):Nat->TypeId->Option (List CK)
 |0,_=>none
 |n+1,t =>
  match P.underlying t with
  |some (.int k)=>some [.int k]
  |some .string=>some [.str]
  |some .bool=>some [.bool]
  |some (.struct a)=>if P.stoodInHeld t=true then none else iH P (flatK P n) a.toList 0
  |_=>none
inductive bl : List CK->List Value->Prop
 |nil:bl [] []
 |int (k:IntKind) (n:Int) {ks:List CK} {vs:List Value}:bl ks vs->bl (.int k::ks) (.int k n::vs)
 |str (s:ByteArray) {ks:List CK} {vs:List Value}:bl ks vs->bl (.str::ks) (.string s::vs)
 |bool (b:Bool) {ks:List CK} {vs:List Value}:bl ks vs->bl (.bool::ks) (.bool b::vs)
theorem bl.length {a:List CK} {vs:List Value} (h:bl a vs):vs.length=a.length:=by
 induction h<;>simp_all
theorem bl.split {a c:List CK}:∀{vs:List Value},bl (a++c) vs->bl a (vs.take a.length)/\bl c (vs.drop a.length):=by
 induction a with
 |nil=>intro vs h;exact⟨.nil,h⟩
 |cons k a ih =>
  intro vs h;cases h with
  |int k n h=>exact⟨.int k n (ih h).1,(ih h).2⟩
  |str s h=>exact⟨.str s (ih h).1,(ih h).2⟩
  |bool b h=>exact⟨.bool b (ih h).1,(ih h).2⟩
def jz : Value->Value->Bool
 |.int _ a,.int _ b=>decide (a=b)
 |.string a,.string b=>decide (a=b)
 |.bool a,.bool b=>decide (a=b)
 |_,_=>true
def cv : List Value->List Value->Bool
 |u::us,v::vs=>jz u v && cv us vs
 |_,_=>true
theorem qh : ∀(n:Nat) (us vs:List Value),n<=us.length->us.length=vs.length->cv us vs=(cv (us.take n) (vs.take n) && cv (us.drop n) (vs.drop n))
 |0,us,vs,_,_=>by simp[cv]
 |n+1,[],vs,h,_=>by simp at h
 |n+1,u::us,[],_,h=>by simp at h
 |n+1,u::us,v::vs,h,h2=>by
  have:=qh n us vs (by simpa using h) (by simpa using h2);simp[cv,this,Bool.and_assoc]
def jC (a b:ByteArray):(a.toList == b.toList)=decide (a=b):=by
 rw[<-beq_toListBytes];by_cases h:a=b
 ·subst h;rw[beq_toListBytes];simp
 ·rw[Ak h];have:(a == b)≠true:=by
   intro d;apply h;have c:a.data=b.data:=by
    obtain⟨⟨x⟩⟩:=a;obtain⟨⟨y⟩⟩:=b;have:((⟨x⟩:Array UInt8) == ⟨y⟩)=true:=d;simpa using this
   obtain⟨x⟩:=a;obtain⟨y⟩:=b;simp at c;rw[c]
  simpa using this
def dh : Bool->List Value->Value
 |true,us=>.agg us.toArray
 |false,us=>us.headD undef
section
variable {P:Program} (w:World)
def nf {t:TypeId} {d:TypeDesc} {s:Nat} (hd:P.underlying t=some d) (e:(P.info? t).map (·.size)=some s) (us:List Value) (o:Nat) (h:Z0 d=true\/o<us.length) (f:Z0 d=true\/s=1) :
  (part t us.toArray o).run P w=.ok (dh (Z0 d) ((us.drop o).take s)) w:=by
 simp only[AZ] at e;obtain⟨i,g,rfl⟩:=e;have c:(isAgg t).run P w=.ok (Z0 d) w:=by cases d<;>simp[isAgg,run_underlying hd,Z0]
 cases a:Z0 d with
 |true =>
  simp only[part,Sem.run_bind,c,a,Result.andThen_ok,if_true];simp only[sizeOf,typeInfo,Sem.run_bind,run_program,Result.andThen_ok,g,Sem.run_pure];congr 2;simp[List.take_drop]
 |false =>
  have j:o<us.length:=by simpa[a] using h
  have b:i.size=1:=by simpa[a] using f
  simp only[part,Sem.run_bind,c,a,Result.andThen_ok,Bool.false_eq_true,if_false];simp[j,dh,b,List.take_one,List.head?_drop]
def ue : ∀(n:Nat) (t:TypeId) (a:List CK),flatK P n t=some a->∃d,P.underlying t=some d/\(Z0 d=true\/a.length=1):=by
 intro n t a h;cases n with
 |zero=>simp[flatK] at h
 |succ n =>
  unfold flatK at h;split at h<;>first|(rename_i e;refine⟨_,e,?_⟩;simp at h;first|(subst h;simp)|(simp[Z0]))|(rename_i e;exact⟨_,e,.inl rfl⟩)|cases h
def tN : ∀(n:Nat) (t:TypeId) (u:List CK) (d:TypeDesc) (m:Nat),flatK P n t=some u->P.underlying t=some d->n<=m->∀us vs:List Value,bl u us->bl u vs ->
  (Op.equalIn m t (dh (Z0 d) us) (dh (Z0 d) vs)).run P w=.ok (cv us vs) w:=by
 intro n
 induction n with
 |zero=>intro t u d m h;simp[flatK] at h
 |succ n ih =>
  intro t u d m h hd Y us vs j p;obtain⟨m,rfl⟩:∃k,m=k+1:=⟨m-1,d9⟩;unfold flatK at h;rw[hd] at h;cases d with
  |int k =>
   simp at h;subst h;cases j with|int k a j=>cases j;cases p with|int k b p =>
    cases p;simp[dh,Z0,run_equalIn_int w m t k k a b hd,cv,jz];exact Bool.beq_eq_decide_eq a b
  |string =>
   simp at h;subst h;cases j with|str a j=>cases j;cases p with|str b p =>
    cases p;simp[dh,Z0,run_equalIn_string w m t a b hd,cv,jz,jC]
  |bool =>
   simp at h;subst h;cases j with|bool a j=>cases j;cases p with|bool b p =>
    cases p;simp[dh,Z0,run_equalIn_bool' w m t a b hd,cv,jz];exact Bool.beq_eq_decide_eq a b
  |struct K =>
   simp only at h;split at h
   ·cases h
   ·rename_i F;have L:P.fieldsOf t=K:=by simp[Program.fieldsOf,hd]
    simp only[dh,Z0];rw[run_equalIn_struct w m t _ _ (by rw[L];exact hd) (by simpa using F),L];have key:∀(l:List Field) (o:Nat) (i:List CK),iH P (flatK P n) l o=some i->o+i.length=us.length->bl i (us.drop o)->bl i (vs.drop o)->us.length=vs.length ->
      (Op.eqFields m us.toArray vs.toArray l).run P w=.ok (cv (us.drop o) (vs.drop o)) w:=by
     intro l
     induction l with
     |nil =>
      intro o i h O A B M;simp[iH] at h;subst h;have e1:us.drop o=[]:=AX (by simpa using A.length);have S:vs.drop o=[]:=AX (by simpa using B.length);simp[Op.eqFields,e1,S,cv]
     |cons f l G =>
      intro o i h O A B M;unfold iH at h;split at h
      ·cases h
      ·rename_i N;have C : f.name ≠ "_" := fun e => N (.inl e);have D:f.offset=o:=Classical.byContradiction fun e=>N (.inr e);cases q:flatK P n f.type with
       |none=>rw[q] at h;simp at h
       |some c =>
        rw[q] at h;simp only at h;split at h
        ·rename_i x;cases E:iH P (flatK P n) l (o+c.length) with
         |none=>rw[E] at h;simp at h
         |some H =>
          rw[E] at h;simp at h;subst h;obtain⟨z,r,g⟩:=ue n f.type c q;obtain⟨Q,I⟩:=A.split;obtain⟨R,J⟩:=B.split;rw[List.drop_drop] at I J;simp only[A6] at O;have v:Z0 z=true\/o<us.length:=g.imp id fun e=>d9;have s:Z0 z=true\/o<vs.length:=g.imp id fun e=>d9;have W:=nf (P:=P) w r x us o v g;have py:=nf (P:=P) w r x vs o s g;have V:=ih f.type c z m q r d9 _ _ Q R;have y:=G (o+c.length) H E d9 I J M;simp only[Op.eqFields,Ah C,Sem.run_bind,D,W,py,V,Result.andThen_ok];rw[qh c.length (us.drop o) (vs.drop o) bG bG,List.drop_drop,List.drop_drop];cases X:cv ((us.drop o).take c.length) ((vs.drop o).take c.length)
          ·simp
          ·simpa using y
        ·cases h
    have T:=j.length;have U:=p.length;simpa using key K.toList 0 u h d9 (by simpa using j) (by simpa using p) d9
  |_=>simp at h
end
abbrev Y9 := List (Nat×List CK)
def rX (P:Program) (t:TypeId) (a:List CK):Bool:=decide (flatK P 8 t=some a) && !P.eqGuardType P.depth t && ((P.underlying t).map Z0 == some true)
structure oZ (P:Program) (t:TypeId) (ks:List CK):Prop where
 flat:flatK P 8 t=some ks
 guard:P.eqGuardType P.depth t=false
 agg:∃d,P.underlying t=some d/\Z0 d=true
def Z6 (P:Program) (b:Y9):Prop:=∀t a,lk b t=some a->oZ P t a
theorem Z6.of {P:Program} {a:Y9} (h:(a.all fun p=>rX P p.1 p.2)=true):Z6 P a:=fun t c b=>by
 have:=AH.1 h (t,c) (O1 b);simp only[rX,A7,Am,Bool.not_eq_true',beq_iff_eq,AZ] at this;exact⟨this.1.1,this.1.2,this.2⟩
theorem oZ.run {P:Program} {t:TypeId} {a:List CK} (h:oZ P t a) (w:World) {us vs:List Value} (c:bl a us) (e:bl a vs):(Op.equalIn 10000 t (.agg us.toArray) (.agg vs.toArray)).run P w=.ok (cv us vs) w:=by
 obtain⟨d,hd,b⟩:=h.agg;have:=tN (P:=P) w 8 t a d 10000 h.flat hd d9 us vs c e;simpa[b,dh] using this
def fC : CK->AV->Bool
 |.int k,.int _=>decide (k=.i64)
 |.int k,.ik a _=>decide (k=a)
 |.str,.str _=>true
 |.bool,.bool _=>true
 |_,_=>false
def eh : List CK->List AV->Bool
 |[],[]=>true
 |k::ks,a::a_=>fC k a && eh ks a_
 |_,_=>false
def ij : AV->AV->Bool
 |.int a,.int b=>decide (a=b)
 |.ik _ a,.ik _ b=>decide (a=b)
 |.int a,.ik _ b=>decide (a=b)
 |.ik _ a,.int b=>decide (a=b)
 |.str a,.str b=>decide (a=b)
 |.bool a,.bool b=>decide (a=b)
 |_,_=>true
def cO : List AV->List AV->Bool
 |a::xs,b::ys=>ij a b && cO xs ys
 |_,_=>true
def vj {c:Ctx} {w:World} {k:CK} {a b:AV} {u v:Value} (d:fC k a=true) (g:fC k b=true) (e:Rd c w u a) (f:Rd c w v b) :
  jz u v=ij a b/\∀{i:List CK} {us:List Value},bl i us->bl (k::i) (u::us):=by
 cases k with
 |int k =>
  cases a<;>simp only[fC,Am,Bool.false_eq_true] at d<;>cases b<;>simp only[fC,Am,Bool.false_eq_true] at g
  ·obtain⟨rfl,_⟩:=e.aR;obtain⟨rfl,_⟩:=f.aR;subst d;exact⟨rfl,fun h=>.int _ _ h⟩
  ·obtain⟨rfl,_⟩:=e.aR;obtain rfl:=f.fY;subst d;exact⟨rfl,fun h=>.int _ _ h⟩
  ·obtain rfl:=e.fY;obtain⟨rfl,_⟩:=f.aR;subst d;exact⟨rfl,fun h=>.int _ _ h⟩
  ·obtain rfl:=e.fY;obtain rfl:=f.fY;subst d;exact⟨rfl,fun h=>.int _ _ h⟩
 |str =>
  cases a<;>simp only[fC,Bool.false_eq_true] at d<;>cases b<;>simp only[fC,Bool.false_eq_true] at g;obtain⟨rfl,_⟩:=e.aq;obtain⟨rfl,_⟩:=f.aq;exact⟨rfl,fun h=>.str _ h⟩
 |bool =>
  cases a<;>simp only[fC,Bool.false_eq_true] at d<;>cases b<;>simp only[fC,Bool.false_eq_true] at g;obtain rfl:=e.ai;obtain rfl:=f.ai;exact⟨rfl,fun h=>.bool _ h⟩
theorem nP {c:Ctx} {w:World}:∀{e:List CK} {a_ d:List AV} {us vs:List Value},eh e a_=true->eh e d=true->l8 c w us a_->l8 c w vs d->bl e us/\cv us vs=cO a_ d
 |[],[],[],_,_,_,_,.nil,.nil=>⟨.nil,rfl⟩
 |[],[],_::_,_,_,_,h,_,_=>by simp[eh] at h
 |[],_::_,_,_,_,h,_,_,_=>by simp[eh] at h
 |_::_,[],_,_,_,h,_,_,_=>by simp[eh] at h
 |_::_,_::_,[],_,_,_,h,_,_=>by simp[eh] at h
 |k::e,a::a_,b::d,_,_,ha,hb,.cons h1 h2,.cons k1 k2=>by
  simp only[eh,A7] at ha hb;have r:=nP ha.2 hb.2 h2 k2;have f:=vj ha.1 hb.1 h1 k1;exact⟨f.2 r.1,by simp[cv,cO,f.1,r.2]⟩
def X9 (b o j:Nat):(⟨b,o,none⟩:Addr).add j=⟨b,o+j,none⟩:=by
 unfold Addr.add;by_cases h:j=0<;>simp[h]
def ae {b:Type}:Nat->Nat->List b->Option (List b)
 |0,0,_=>some []
 |0,n+1,a::l=>match ae 0 n l with
  |some r=>some (a::r)
  |none=>none
 |o+1,n,_::l=>ae o n l
 |_,_,[]=>none
def jE {c:Type}:∀{o n:Nat} {l r:List c},ae o n l=some r->r=(l.drop o).take n/\o+n<=l.length:=by
 intro o n l
 fun_induction ae o n l with
 |case1 l=>intro r h;cases h;simp
 |case2 n a l d b ih =>
  intro r h;cases h;have:=ih b;exact⟨by rw[this.1];simp,bG⟩
 |case3 n a l b ih=>intro r h;cases h
 |case4 o n a l ih =>
  intro r h;have:=ih h;exact⟨by simp[this.1],bG⟩
 |case5=>intro r h;cases h
def po {b:Type} {o n:Nat} {l r:List b} (h:ae o n l=some r) {j:Nat} (a:j<n):r[j]?=l[o+j]?:=by
 rw[(jE h).1,List.getElem?_take,Ah a,Ac]
def J2 {b:Type}:Nat->List b->List b->Option (List b)
 |0,[],a=>some a
 |0,v::vs,_::a=>match J2 0 vs a with
  |some r=>some (v::r)
  |none=>none
 |o+1,vs,c::a=>match J2 o vs a with
  |some r=>some (c::r)
  |none=>none
 |_,_,[]=>none
def nO {c:Ctx} {w:World}:∀{o:Nat} {a_ b d:List AV},J2 o a_ b=some d->∀{vs us:List Value},l8 c w vs a_->l8 c w us b->∃r,J2 o vs us=some r/\l8 c w r d:=by
 intro o a_ b
 fun_induction J2 o a_ b with
 |case1 b=>intro d h vs us g i;cases h;cases g;exact⟨us,by simp[J2],i⟩
 |case2 a a_ x b r j ih =>
  intro d h vs us g i;cases h;cases g with|cons m n=>cases i with|cons l k =>
   obtain⟨p,e,f⟩:=ih j n k;exact⟨_,by simp[J2,e],.cons m f⟩
 |case3 a a_ x b j ih=>intro d h;cases h
 |case4 o a_ x b r j ih =>
  intro d h vs us g i;cases h;cases i with|cons l k =>
   obtain⟨p,e,f⟩:=ih j g k;exact⟨_,by simp[J2,e],.cons l f⟩
 |case5 o a_ x b j ih=>intro d h;cases h
 |case6=>intro d h;cases h
theorem eB {b:Type}:∀(p:Nat) (vs l:List b),p+vs.length<=l.length->∃r,J2 p vs l=some r
 |0,[],l,_=>⟨l,by simp[J2]⟩
 |0,v::vs,[],h=>by simp at h
 |0,v::vs,x::l,h=>by
  obtain⟨r,a⟩:=eB 0 vs l (by simp at h⊢;omega);exact⟨v::r,by simp[J2,a]⟩
 |p+1,vs,[],h=>by simp at h
 |p+1,vs,x::l,h=>by
  obtain⟨r,a⟩:=eB p vs l (by simp at h⊢;omega);exact⟨x::r,by simp[J2,a]⟩
def P8 {e:Type}:∀{o:Nat} {a_ c b:List e},J2 o a_ c=some b->b.length=c.length/\o+a_.length<=c.length:=by
 intro o a_ c
 fun_induction J2 o a_ c with
 |case1=>intro b h;cases h;simp
 |case2 a a_ x c r d ih=>intro b h;cases h;have:=ih d;simp;omega
 |case3=>intro b h;cases h
 |case4 o a_ x c r d ih=>intro b h;cases h;have:=ih d;simp;omega
 |case5=>intro b h;cases h
 |case6=>intro b h;cases h
def k4 {f:Type}:∀{o:Nat} {a_ c b:List f},J2 o a_ c=some b->∀x∈b,x∈a_\/x∈c:=by
 intro o a_ c
 fun_induction J2 o a_ c with
 |case1=>intro b h;cases h;simp
 |case2 a a_ x c r d ih=>intro b h;cases h;have:=ih d;simp;intro y e;rcases this y e with h|h<;>simp[h]
 |case3=>intro b h;cases h
 |case4 o a_ x c r d ih=>intro b h;cases h;have:=ih d;simp;intro y e;rcases this y e with h|h<;>simp[h]
 |case5=>intro b h;cases h
 |case6=>intro b h;cases h
def J4 {f:Type}:∀{o:Nat} {a_ c b:List f},J2 o a_ c=some b->∀j,b[j]?=if o<=j/\j<o+a_.length then a_[j-o]? else c[j]?:=by
 intro o a_ c
 fun_induction J2 o a_ c with
 |case1=>intro b h j;cases h;rw[Ag o5]
 |case2 a a_ x c r d ih =>
  intro b h j;cases h;cases j with
  |zero=>simp
  |succ j =>
   have:=ih d j;simp only[Nat.zero_le,true_and,List.getElem?_cons_succ,AP,Nat.zero_add,Nat.add_lt_add_iff_right,Nat.sub_zero] at this⊢;exact this
 |case3=>intro b h;cases h
 |case4 o a_ x c r d ih =>
  intro b h j;cases h;cases j with
  |zero=>simp
  |succ j =>
   have:=ih d j;simp only[List.getElem?_cons_succ];rw[this];by_cases e:o<=j/\j<o+a_.length
   ·rw[Ah e,Ah d9];congr 1;omega
   ·rw[Ag e,Ag d9]
 |case5=>intro b h;cases h
 |case6=>intro b h;cases h
section
variable {P:Program} (w:World)
theorem run_loadCellsFrom (b o:Nat):∀(us:List Value) (i:Nat) (a:Array Value),(∀j u,us[j]?=some u->w.cell? ⟨b,o+(i+j),none⟩=some u)->(loadCellsFrom ⟨b,o,none⟩ i us.length a).run P w=.ok (a++us.toArray) w
 |[],i,a,_=>by simp[loadCellsFrom]
 |u::us,i,a,h=>by
  have c:=h 0 u rfl;have ih:=run_loadCellsFrom b o us (i+1) (a.push u) fun j v d=>by
   have:=h (j+1) v (by simpa using d)
   rwa [show i+(j+1)=i+1+j by omega] at this
  simp only[Nat.add_zero] at c;simp only[AP,loadCellsFrom,Sem.run_bind,run_load,X9,c,Result.andThen_ok,ih];simp
def run_loadCells (b o:Nat) (us:List Value) (h:∀j u,us[j]?=some u->w.cell? ⟨b,o+j,none⟩=some u):(loadCells ⟨b,o,none⟩ us.length).run P w=.ok us.toArray w:=by
 unfold loadCells;rw[run_loadCellsFrom w b o us 0 #[] (by simpa using h)];simp
theorem I4.run_load {t:TypeId} {ti:TI} (a:I4 P t ti) (b o:Nat) (us:List Value) (g:us.length=ti.size) (f:ti.agg=true\/us.length=1) (h:∀j u,us[j]?=some u->w.cell? ⟨b,o+j,none⟩=some u) :
  (Instr.loadAt t (.pointer (some ⟨b,o,none⟩))).run P w=.ok (dh ti.agg us) w:=by
 cases c:ti.agg with
 |true =>
  have e:=run_loadCells (P:=P) w b o us h;rw[g] at e;simp[Instr.loadAt,Instr.sureAddr,loadVar,a.dX,c,a.aZ,e,dh]
 |false =>
  obtain⟨u,rfl⟩:=List.length_eq_one_iff.1 (by simpa[c] using f);have d:=h 0 u rfl;simp only[Nat.add_zero] at d;simp[Instr.loadAt,Instr.sureAddr,loadVar,a.dX,c,d,dh]
end
def heap_setCell (w:World) (b o:Nat) (v:Value) (us:Array Value) (e:TypeId) (h:w.heap[b]?=some (.cells us e)) :
  (w.setCell ⟨b,o,none⟩ v).heap[b]?=some (.cells (us.setIfInBounds o v) e)/\(∀k,k≠b->(w.setCell ⟨b,o,none⟩ v).heap[k]?=w.heap[k]?)/\(w.setCell ⟨b,o,none⟩ v).heap.size=w.heap.size:=by
 unfold World.setCell;refine⟨?_,fun k a=>?_,o5⟩
 ·simp only[Array.getElem?_modify,h];simp
 ·simp only[Array.getElem?_modify];rw[Ag (fun e=>a e.symm)]
theorem kG {P:Program} (b o:Nat) (e:TypeId):∀(vs:List Value) (i:Nat) (us a:List Value) (w:World),w.heap[b]?=some (.cells us.toArray e)->(∀v∈vs,v.oneCell'=true)->J2 (o+i) vs us=some a ->
  ∃w',(storeCells ⟨b,o,none⟩ vs i).run P w=.ok () w'/\w'.heap[b]?=some (.cells a.toArray e)/\(∀k,k≠b->w'.heap[k]?=w.heap[k]?)/\w'.heap.size=w.heap.size/\w'.os=w.os/\w'.tape=w.tape/\w'.output=w.output
 |[],i,us,a,w,h,_,d=>by
  have e1:us=a:=by
   apply AY;intro j;rw[J4 d j,Ag (by simp only[List.length_nil];omega)]
  subst e1;exact⟨w,rfl,h,fun _ _=>rfl,rfl,rfl,rfl,rfl⟩
 |v::vs,i,us,a,w,h,h1,d=>by
  obtain⟨p,g⟩:=P8 d;simp only[AP] at g;have f:∃u,w.cell? ⟨b,o+i,none⟩=some u:=by
   unfold World.cell?;rw[h];exact⟨us[o+i],o5⟩
  obtain⟨u,f⟩:=f;have s:w.frozen? ⟨b,o+i,none⟩=false:=by
   unfold World.frozen?;rw[h];simp
  obtain⟨F,G,s3⟩:=heap_setCell w b (o+i) v us.toArray e h;have l:J2 (o+(i+1)) vs (us.set (o+i) v)=some a:=by
   obtain⟨r,q⟩:=eB (o+(i+1)) vs (us.set (o+i) v) (by rw[List.length_set];omega);rw[q];congr 1;apply AY;intro j;rw[J4 q j,J4 d j,AS];by_cases m:j=o+i
   ·subst m;rw[Ag d9,Ah rfl,Ah d9,Ah o5];simp
   ·by_cases c:o+i<=j/\j<o+i+(vs.length+1)
    ·rw[Ah d9,Ah (by simpa using c)];obtain⟨k,rfl⟩:∃k,j=o+i+1+k:=⟨j-(o+i+1),d9⟩;rw[show o+i+1+k-(o+(i+1))=k by omega,show o+i+1+k-(o+i)=k+1 by omega];simp
    ·rw[Ag d9,Ag (fun e=>m e.symm),Ag (by simpa using c)]
  obtain⟨w',y,z,A,B,C,D,E⟩:=kG (P:=P) b o e vs (i+1) (us.set (o+i) v) a (w.setCell ⟨b,o+i,none⟩ v) (by rw[F];simp) (fun x t=>h1 x (by simp[t])) l;refine⟨w',?_,z,fun k n=>(A k n).trans (G k n),B.trans s3,C,D,E⟩;simp only[storeCells,Sem.run_bind,X9,run_store P w ⟨b,o+i,none⟩ v .plain (h1 v o5),f,s,Bool.false_eq_true,if_false,Result.andThen_ok,y]
def bK (P:Program) (r:Result Next) (R:Value->World->Prop):Prop :=
 match r with
 |.ok (.value v) w'=>R v w'
 |.ok .skip w'=>R undef w'
 |.ok (.enter f args) w'=>Calls P f args w' fun e a=>∃v,e=.returned v/\R v a
 |_=>False
theorem bK.upon {P:Program} {o:Oper} {a:Act} {r:Result Next} {R:Value->World->Prop} {K:Act->World->Prop} {Q:Exit->Act->World->Prop} (h:bK P r R) (b:∀v w',R v w'->K (a.put o.dst v) w'):o.upon P a K Q r:=by
 unfold bK at h;split at h
 ·exact b _ _ h
 ·exact b _ _ h
 ·exact h.mono fun e f ⟨v,c,d⟩=>by subst c;exact b _ _ d
 ·exact h.elim
abbrev Ev := Operand->AV
def iw (P:Program) (o:Oper) (ev:Ev) (av:AV) (need upd:Os) (news:List Nat):Prop :=
 ∀(c:Ctx) (w:World) (a:Operand->Value),H7 c w need->(∀x∈o.op.operands.toList,Rd c w (a x) (ev x)) ->
  bK P ((execOp a o).run P w) fun v w'=>∃c',aF c w c' w' need upd news/\Rd c' w' v av
abbrev Kt := AV->List Nat->List Nat->Os->Prop
def uF (o:Oper) (ev:Ev) (os:Os):Prop:=∃(c:Ctx) (w:World) (a:Operand->Value),H7 c w os/\∀x∈o.op.operands.toList,Rd c w (a x) (ev x)
def J5 (P:Program) (o:Oper) (ev:Ev) (os:Os) (K:Kt):Prop :=
 uF o ev os->∃av need upd news,iw P o ev av need upd news/\(∀id ob,lk need id=some ob->lk os id=some ob)/\(∀id∈news,(lk upd id).isSome=true)/\K av (need.map (·.1)) news upd
theorem J5.have {P:Program} {o:Oper} {ev:Ev} {os:Os} {K:Kt} {p:Prop} (f:∀(c:Ctx) (w:World) (a:Operand->Value),H7 c w os->(∀x∈o.op.operands.toList,Rd c w (a x) (ev x))->p) (h:p->J5 P o ev os K):J5 P o ev os K :=
 fun b=>h (b.elim fun c ⟨w,a,d,e⟩=>f c w a d e) b
def bC : List AV->Prop
 |[]=>True
 |.int n::l=>D8 n/\bC l
 |.str s::l=>s.size<=maxLen/\bC l
 |.sl _ ls::l=>ls.length<=maxLen/\bC l
 |_::l=>bC l
theorem p8.bC {Φ:Nat->Prop} {w:World}:∀{us:List Value} {b:List AV},p8 Φ w us b->Go.Proofs.YtibjcppjfkamhaaGreatDoor.bC b
 |_,_,.nil=>trivial
 |_,_,.cons (a:=a) h t=>by
  have ih:=p8.bC t;cases h<;>first|exact ih|(simp only[Go.Proofs.YtibjcppjfkamhaaGreatDoor.bC];refine⟨?_,ih⟩;first|assumption|omega)
theorem aF.refl {c:Ctx} {w:World} {need:Os} (a:∀b,c.Φ b->b<w.heap.size):aF c w c w need [] [] :=
 ⟨rfl,rfl,rfl,AA _,fun _ h=>h,fun _ h=>.inl h,fun _ _ _=>rfl,fun _ _=>⟨rfl,rfl⟩,⟨fun _ _ h=>(by cases h),fun _ _ _ h=>(by cases h),fun _ _ _ _ _ _ h=>(by cases h),a⟩,fun _ _ _ h=>(by cases h)⟩
theorem J5.pure {P:Program} {o:Oper} {ev:Ev} {os:Os} {K:Kt} {av:AV} (h:∀(c:Ctx) (w:World) (a:Operand->Value),(∀x∈o.op.operands.toList,Rd c w (a x) (ev x))->∃v,(execOp a o).run P w=.ok (.value v) w/\Rd c w v av)
  (e:K av [] [] []):J5 P o ev os K :=
 fun _=>⟨av,[],[],[],fun c w a aD f=>by
  obtain⟨v,b,d⟩:=h c w a f;rw[b];exact⟨c,aF.refl aD.aX,d⟩,fun _ _ h=>(by cases h),fun _ h=>(by cases h),e⟩
def dB {id i:Nat} {ob o:Obj} {os:Os} (h:lk [(id,ob)] i=some o) (a:lk os id=some ob):lk os i=some o:=by
 rw[j5] at h;split at h
 ·rename_i e;subst e;cases h;exact a
 ·cases h
theorem J5.read {P:Program} {o:Oper} {ev:Ev} {os:Os} {K:Kt} {av:AV} {id:Nat} {ob:Obj} (f:lk os id=some ob)
  (h:∀(c:Ctx) (w:World) (a:Operand->Value),bm c w id ob->(∀x∈o.op.operands.toList,Rd c w (a x) (ev x))->∃v,(execOp a o).run P w=.ok (.value v) w/\Rd c w v av)
  (e:K av [id] [] []):J5 P o ev os K :=
 fun _=>⟨av,[(id,ob)],[],[],fun c w a aD g=>by
  obtain⟨v,b,d⟩:=h c w a (aD.rep id ob (j3 _ _ _)) g;rw[b];exact⟨c,aF.refl aD.aX,d⟩,fun i o h=>dB h f,fun _ h=>(by cases h),e⟩
theorem qG {a b:Type} (f:a->b) (id:Nat):∀l:List (Nat×a),(lk (l.map fun p=>(p.1,f p.2)) id).isSome=(lk l id).isSome
 |[]=>rfl
 |(k,v)::l=>by
  rw[AQ,j5,j5];split
  ·rfl
  ·exact qG f id l
def w7 {l:Os} {id:Nat} {o:Obj} (h:lk (l.map fun p=>(p.1,Obj.aI)) id=some o):o=.aI:=by
 have:=O1 h;simp only[AL,Prod.mk.injEq] at this;obtain⟨a,_,_,h⟩:=this;exact h.symm
theorem aF.trans {c C G:Ctx} {w M N:World} {need j d e:Os} {f g:List Nat} (aD:H7 c w need) (i:aF c w C M need d f) (m:aF C M G N j e g)
  (z:∀id∈f,(lk d id).isSome=true) (A:∀id∈g,(lk e id).isSome=true)
  (n:∀id o,lk j id=some o->lk (d++need) id=some o) (v:∀id o,lk need id=some o->lk d id=none->∀x∈f,x ∉ o.ids)
  (y:∀id o,lk (d++need) id=some o->lk e id=none->∀x∈g,x ∉ o.ids):aF c w G N need (e++d) (g++f):=by
 have J:H7 C M (d++need):=aD.frame (fun _ _ h=>h) i z v;have K:H7 G N (e++(d++need)):=J.frame n m A y;have q:∀id,(lk (e++d) id).isSome=true↔(lk e id).isSome=true\/(lk d id).isSome=true:=fun id=>by
  rw[C9];cases lk e id<;>cases lk d id<;>simp
 have D:∀b,Touch c need d b->Touch c need (e++d) b:=fun b ⟨id,o,E,F,B⟩=>⟨id,o,E,(q id).2 (.inr F),B⟩;have L:∀b,Touch C j e b->w.heap.size<=b\/Touch c need (e++d) b:=by
  rintro b ⟨id,o,E,F,B⟩;have l:=n id o E;rw[C9] at l;cases k:lk d id with
  |some x =>
   rw[k] at l;simp at l;subst l;exact(i.ab id x b k B).imp (fun h=>h) (D b)
  |none =>
   rw[k] at l;have p:id ∉ f:=fun u=>by have:=z id u;rw[k] at this;cases this
   have r:lk need id=some o:=(by simpa using l);exact .inr ⟨id,o,r,(q id).2 (.inl F),(jP (i.ctx id p) fun x I=>i.ctx x fun u=>v id o r k x u I).1 B⟩
 refine⟨m.bV.trans i.bV,m.tape.trans i.tape,m.output.trans i.output,Nat.le_trans i.size m.size,fun b h=>m.aX b (i.aX b h),fun b h=>?_,fun b H P=>?_,fun id t=>?_,?_,fun id o b s O=>?_⟩
 ·rcases m.aV b h with h|h|h
  ·exact(i.aV b h).imp (fun h=>h) (.imp (fun h=>h) (D b))
  ·exact .inr (.inl (Nat.le_trans i.size h))
  ·exact .inr (L b h)
 ·refine(m.aP b (Nat.lt_of_lt_of_le H i.size) fun h=>?_).trans (i.aP b H fun h=>P (D b h));rcases L b h with h|h
  ·exact absurd H (Nat.not_lt.2 h)
  ·exact P h
 ·simp only[AT] at t;have a:=i.ctx id fun h=>t (.inr h);have b:=m.ctx id fun h=>t (.inl h);exact⟨b.1.trans a.1,b.2.trans a.2⟩
 ·refine K.sub fun id o h=>?_;rw[C9] at h⊢;cases k:lk e id with
  |some x=>rw[k] at h;simpa using h
  |none =>
   rw[k] at h;rw[C9];simp at h;simp[h]
 ·rw[C9] at s;cases k:lk e id with
  |some x =>
   rw[k] at s;simp at s;subst s;rcases m.ab id x b k O with h|h
   ·exact .inl (Nat.le_trans i.size h)
   ·exact L b h
  |none =>
   rw[k] at s;simp at s;have p:id ∉ g:=fun u=>by have:=A id u;rw[k] at this;cases this
   exact(i.ab id o b s ((jP (m.ctx id p) fun x I=>m.ctx x fun u=>y id o (by rw[C9,s];rfl) k x u I).1 O)).imp (fun h=>h) (D b)
theorem ad {b:Type} (n:Nat):∀(css:List (List b)),(∀a∈css,a.length=n)->∀(i j:Nat) (a:List b),css[i]?=some a->j<n->css.flatten[i*n+j]?=a[j]?
 |[],_,i,j,a,h,_=>by simp at h
 |c::css,hl,0,j,a,h,hj=>by
  simp at h;subst h;have:c.length=n:=hl c o5;simp[List.getElem?_append_left,this,hj]
 |c::css,hl,i+1,j,a,h,hj=>by
  have d:c.length=n:=hl c o5;have ih:=ad n css (fun x f=>hl x (by simp[f])) i j a (by simpa using h) hj;have e:(i+1)*n+j=c.length+(i*n+j):=by rw[d,Nat.succ_mul];omega
  rw[List.flatten_cons,e,List.getElem?_append_right d9];simpa using ih
theorem P7 {d:Type} (n:Nat):∀(css:List (List d)),(∀a∈css,a.length=n)->css.flatten.length=css.length*n
 |[],_=>o5
 |c::css,hl=>by
  have ih:=P7 n css (fun x b=>hl x (by simp[b]));rw[List.flatten_cons,A6,hl c o5,ih,AP,Nat.succ_mul];omega
theorem y7.head {w:World} {hdv:Value} {sz e:Nat} {css:List (List Value)} (h:y7 w hdv sz e css):∃A cap,hdv=.slice A css.length cap/\css.length<=cap/\cap<=maxLen:=by
 rcases h.b9 with⟨rfl,c⟩|⟨g,x,p,cap,a,rfl,f,b,d,_⟩
 ·exact⟨none,0,by rw[c],d9,by simp[maxLen]⟩
 ·exact⟨_,cap,rfl,b,d9⟩
theorem y7.cells {w:World} {hdv:Value} {sz e:Nat} {css:List (List Value)} (h:y7 w hdv sz e css) {i:Nat} {us:List Value} (c:css[i]?=some us) :
  ∃g x cap,hdv=.slice (some ⟨g,x,none⟩) css.length cap/\hdv.ownBlock=some g/\∀j u,us[j]?=some u->w.cell? ⟨g,x+i*sz+j,none⟩=some u:=by
 have q:i<css.length:=(AF.1 c).1;rcases h.b9 with⟨rfl,z⟩|⟨g,x,p,cap,l,rfl,o,t,v,y,s,m⟩
 ·omega
 ·obtain rfl:=s d9;refine⟨g,p*sz,cap,rfl,rfl,fun j u k=>?_⟩;have r:us∈css:=AO c;have f:=h.len us r;have d:j<sz:=by rw[<-f];exact(AF.1 k).1
  have b:=ad sz css h.len i j us c d;have a:i*sz+j<css.length*sz:=by
   calc i*sz+j<i*sz+sz:=d9
    _=(i+1)*sz:=by rw[Nat.succ_mul]
    _<=css.length*sz:=Nat.mul_le_mul_right _ d9
  have n:w.cell? ⟨g,p*sz+i*sz+j,none⟩=css.flatten[i*sz+j]?:=by
   rw[<-m];unfold World.cell?;rw[o];simp[a,Nat.add_assoc]
  rw[n,b,k]
theorem y7.rf {w:World} {hdv:Value} {sz e:Nat} {css:List (List Value)} {ls:List (List AV)} {Φ m:Nat->Prop} (h:y7 w hdv sz e css) (z:css.length=ls.length)
  (K:∀(i:Nat) (us:List Value) (c:List AV),css[i]?=some us->ls[i]?=some c->p8 Φ w us c) (s:∀b,Φ b->m b) (F:∀b,hdv.ownBlock=some b->m b):Rf m w hdv (.sl sz ls):=by
 obtain⟨A,cap,r,E,v⟩:=h.head;have key:∀i c,ls[i]?=some c->∃us,css[i]?=some us:=fun i c k=>by
  have:=(AF.1 k).1;exact⟨css[i],A8 d9⟩
 rcases Nat.eq_zero_or_pos ls.length with D|J
 ·have:ls=[]:=AX D;subst this;rw[r,show css.length=([]:List (List AV)).length by simpa using z];exact .sl (fun _=>[]) 0 0 o5 v (fun h=>absurd h o5) (fun i c h=>by simp at h) (fun i c h=>by simp at h) (fun i c h=>by simp at h) (fun i c h=>by simp at h)
 ·obtain⟨M,q⟩:=key 0 ls[0] (A8 J);obtain⟨g,x,f,l,H,_⟩:=h.cells q;rw[l,z];have o:css.length<=f/\f<=maxLen:=by rw[l] at r;injection r with _ _ e;subst e;exact⟨E,v⟩
  have d:∀i us,css[i]?=some us->css.getD i []=us:=fun i us h=>by simp[List.getD_eq_getElem?_getD,h]
  refine .sl (fun i=>css.getD i []) g x d9 o.2 (fun _=>⟨rfl,F g H⟩) (fun i c k=>?_) (fun i c k j u y=>?_) (fun i c k=>?_) (fun i c k u B=>?_)<;>obtain⟨us,a⟩:=key i c k
  ·rw[d i us a];exact h.len us (AO a)
  ·rw[d i us a] at y;obtain⟨L,N,t,p,I,G⟩:=h.cells a;rw[l] at p;injection p with n _ _
   injection n with n
   injection n with n C _
   subst n C;exact G j u y
  ·rw[d i us a];exact(K i us c a k).mono (fun _ _=>rfl) s
  ·rw[d i us a] at B;exact h.one us (AO a) u B
def cU (c:Ctx) (g:Os) (b:Nat):Prop:=c.Φ b\/∃id o,lk g id=some o/\aK c id o b
def Ctx.fz (c:Ctx) (g:Os):Ctx:={ c with Φ:=cU c g }
def D7 : Os->Os
 |[]=>[]
 |(k,_)::r=>(k,.aI)::D7 r
def r7 (g:Os):D7 g=g.map fun p=>(p.1,.aI):=by
 induction g with
 |nil=>rfl
 |cons p r ih=>simp[D7,ih]
def jA (g:Os) (id:Nat):(lk (D7 g) id).isSome=(lk g id).isSome:=by rw[r7];exact qG (fun _=>Obj.aI) id g
def fh {l:Os} {id:Nat} {o:Obj} (h:lk (D7 l) id=some o):o=.aI:=w7 (by rwa [r7] at h)
theorem aF.freeze {c:Ctx} {w:World} {g:Os} (h:H7 c w g):aF c w (c.fz g) w g (D7 g) []:=by
 have j:∀id,(lk (D7 g) id).isSome=(lk g id).isSome:=jA g;refine⟨rfl,rfl,rfl,AA _,fun b a=>.inl a,fun b a=>?_,fun _ _ _=>rfl,fun _ _=>⟨rfl,rfl⟩,⟨fun id o d=>?_,fun id o b d e=>?_,fun id k o l b _ d _ e=>?_,fun b a=>?_⟩,fun id o b d e=>?_⟩
 ·rcases a with a|⟨id,o,f,i⟩
  ·exact .inl a
  ·exact .inr (.inr ⟨id,o,f,by rw[j,f];rfl,i⟩)
 ·cases fh d;trivial
 ·cases fh d;exact e.elim
 ·cases fh d;exact e.elim
 ·rcases a with a|⟨id,o,f,i⟩
  ·exact h.aX b a
  ·exact(h.lt id o b f i).1
 ·cases fh d;exact e.elim
def Ctx.ag (c:Ctx) (d b:Nat):Ctx:={ c with μ:=fun i=>if i=d then b else c.μ i }
def Ctx.aE (c:Ctx) (d:Nat) (v:Value):Ctx:={ c with hd:=fun i=>if i=d then v else c.hd i }
def alloc_old (w:World) (o:Go.Obj) {b:Nat} (h:b<w.heap.size):(w.alloc o).heap[b]?=w.heap[b]?:=by
 show(w.heap.push o)[b]?=_;rw[Array.getElem?_push];rw[Ag d9]
def kg (w:World) (o:Go.Obj):(w.alloc o).heap[w.heap.size]?=some o:=by
 show(w.heap.push o)[w.heap.size]?=_;simp
def gR (w:World) (o:Go.Obj):(w.alloc o).heap.size=w.heap.size+1:=by
 show(w.heap.push o).size=_;simp
theorem aF.eS {c:Ctx} {w:World} (f:∀b,c.Φ b->b<w.heap.size) (d:Nat) {us:List Value} {m:List AV} (e:TypeId) (r:l8 c w us m) (hd:d ∉ AV.aY m) :
  aF c w (c.ag d w.heap.size) (w.alloc (.cells us.toArray e)) [] [(d,.box m e)] [d]:=by
 have p:(c.ag d w.heap.size).μ d=w.heap.size:=by simp[Ctx.ag]
 have k:∀id,id≠d->(c.ag d w.heap.size).μ id=c.μ id:=fun id h=>by simp[Ctx.ag,h]
 refine⟨rfl,rfl,rfl,by rw[gR];omega,fun b a=>a,fun b a=>.inl a,fun b a _=>alloc_old w _ a,fun id n=>⟨k id (by simpa using n),rfl⟩,⟨fun id o g=>?_,fun id o b g l=>?_,fun id s o t b i g j l=>?_,fun b a=>by rw[gR];have:=f b a;omega⟩,fun id o b g l=>?_⟩<;>rw[j5] at g<;>split at g<;>first|(rename_i e1;subst e1;cases g)|cases g
 ·exact⟨us,by rw[p];exact kg w _,r.mono (c':=c.ag d w.heap.size) (fun b a=>alloc_old w _ (f b a)) (fun _ h=>h) fun id q=>⟨k id fun e1=>hd (by rw[<-e1];exact q),rfl⟩⟩
 ·have a:b=w.heap.size:=l.trans p;exact⟨by rw[gR];omega,fun h=>by have:=f b h;omega⟩
 ·rw[G5 _ _ i] at j;cases j
 ·exact .inl (by have a:b=w.heap.size:=l.trans p;omega)
theorem y7.made {w:World} {sz e:Nat} {css:List (List Value)} (b:∀us∈css,us.length=sz) (c:∀us∈css,∀u∈us,u.oneCell'=true) (d:css.length<=maxLen) :
  y7 (w.alloc (.cells css.flatten.toArray e)) (.slice (some ⟨w.heap.size,0,none⟩) css.length css.length) sz e css :=
 have a:=P7 sz css b
 ⟨.inr ⟨w.heap.size,0,0,css.length,css.flatten.toArray,rfl,kg w _,AA _,d9,by simpa using a,fun _=>o5,by simpa using List.take_of_length_le (Nat.le_of_eq a)⟩,b,c⟩
theorem aF.newRow {c:Ctx} {w:World} (f:∀b,c.Φ b->b<w.heap.size) (d:Nat) {sz:Nat} {css:List (List Value)} {ls:List (List AV)} (e:TypeId) (j:css.length=ls.length)
  (y:∀(i:Nat) (us:List Value) (q:List AV),css[i]?=some us->ls[i]?=some q->p8 c.Φ w us q) (n:∀us∈css,us.length=sz) (t:∀us∈css,∀u∈us,u.oneCell'=true) (x:css.length<=maxLen) :
  aF c w (c.aE d (.slice (some ⟨w.heap.size,0,none⟩) css.length css.length)) (w.alloc (.cells css.flatten.toArray e)) [] [(d,.row sz ls e)] [d]:=by
 have p:(c.aE d (.slice (some ⟨w.heap.size,0,none⟩) css.length css.length)).hd d=.slice (some ⟨w.heap.size,0,none⟩) css.length css.length:=by simp[Ctx.aE]
 have s:∀id,id≠d->(c.aE d (.slice (some ⟨w.heap.size,0,none⟩) css.length css.length)).hd id=c.hd id:=fun id h=>by simp[Ctx.aE,h]
 have a:∀b,aK (c.aE d (.slice (some ⟨w.heap.size,0,none⟩) css.length css.length)) d (.row sz ls e) b->b=w.heap.size:=fun b k=>by
  simp only[aK,p,Value.ownBlock,Option.some.injEq] at k;exact k.symm
 refine⟨rfl,rfl,rfl,by rw[gR];omega,fun b g=>g,fun b g=>.inl g,fun b g _=>alloc_old w _ g,fun id r=>⟨rfl,s id (by simpa using r)⟩,⟨fun id o j=>?_,fun id o b j k=>?_,fun id A o B b l j m k=>?_,fun b g=>by rw[gR];have:=f b g;omega⟩,fun id o b j k=>?_⟩<;>rw[j5] at j<;>split at j<;>first|(rename_i e1;subst e1;cases j)|cases j
 ·refine⟨css,by rw[p];exact y7.made n t x,by assumption,fun i us q z v=>(y i us q z v).mono (fun b g=>alloc_old w _ (f b g)) fun _ h=>h⟩
 ·have g:=a b k;exact⟨by rw[gR];omega,fun h=>by have:=f b h;omega⟩
 ·rw[G5 _ _ l] at m;cases m
 ·exact .inl (by have:=a b k;omega)
theorem aF.write {c:Ctx} {w w':World} {id:Nat} {n d:List AV} {e:TypeId} {us':List Value} (h:H7 c w [(id,.box n e)]) (a:w'.heap[c.μ id]?=some (.cells us'.toArray e)) (v:l8 c w us' d) (p:∀k,k≠c.μ id->w'.heap[k]?=w.heap[k]?)
  (x:w'.heap.size=w.heap.size) (r:w'.os=w.os) (s:w'.tape=w.tape) (t:w'.output=w.output):aF c w c w' [(id,.box n e)] [(id,.box d e)] []:=by
 have g:=h.lt id _ (c.μ id) (j3 _ _ _) rfl;have q:∀b,b=c.μ id->Touch c [(id,.box n e)] [(id,.box d e)] b:=fun b a=>⟨id,_,j3 _ _ _,by rw[j3];rfl,a⟩;refine⟨r,s,t,d9,fun b a=>a,fun b a=>.inl a,fun b a u=>p b fun e=>u (q b e),fun _ _=>⟨rfl,rfl⟩,⟨fun i o f=>?_,fun i o b f l=>?_,fun i y o z b j f m l=>?_,fun b a=>by have:=h.aX b a;omega⟩,fun i o b f l=>?_⟩<;>rw[j5] at f<;>split at f<;>first|(rename_i e1;subst e1;cases f)|cases f
 ·exact⟨us',a,v.mono (fun b a=>p b fun e=>g.2 (e▸a)) (fun _ h=>h) fun _ _=>⟨rfl,rfl⟩⟩
 ·exact⟨by rw[x];rw[show b=_ from l];exact g.1,by rw[show b=_ from l];exact g.2⟩
 ·rw[G5 _ _ j] at m;cases m
 ·exact .inr (q b l)
def fa : AV->AV->Prop
 |_,.any=>True
 |.a8,.sl _ ls=>ls=[]
 |a,b=>a=b
def dw : List AV->List AV->Prop
 |[],[]=>True
 |a::a_,b::bs=>fa a b/\dw a_ bs
 |_,_=>False
def S9 : List (List AV)->List (List AV)->Prop
 |[],[]=>True
 |a::a_,b::bs=>dw a b/\S9 a_ bs
 |_,_=>False
def xV {Φ:Nat->Prop} {w:World} {v:Value} {a b:AV} (h:fa a b) (e:Rf Φ w v a):Rf Φ w v b:=by
 unfold fa at h;split at h
 ·exact .any _
 ·subst h;cases e;exact Rf.sl (A:=none) (c:=0) (sz:=_) (ls:=[]) (fun _=>[]) 0 0 o5 (by simp[maxLen]) (fun h=>absurd h o5) (fun i d h=>by simp at h) (fun i d h=>by simp at h) (fun i d h=>by simp at h) (fun i d h=>by simp at h)
 ·subst h;exact e
theorem pS {Φ:Nat->Prop} {w:World}:∀{vs:List Value} {a_ a:List AV},dw a_ a->p8 Φ w vs a_->p8 Φ w vs a
 |_,[],[],_,.nil=>.nil
 |_,_::_,_::_,h,.cons x t=>.cons (xV h.1 x) (pS h.2 t)
 |_,[],_::_,h,_=>h.elim
 |_,_::_,[],h,_=>h.elim
theorem nu : ∀{ls q:List (List AV)},S9 ls q->ls.length=q.length/\∀(i:Nat) (c:List AV),q[i]?=some c->∃e,ls[i]?=some e/\dw e c
 |[],[],_=>⟨rfl,fun i c h=>by simp at h⟩
 |[],_::_,h=>h.elim
 |_::_,[],h=>h.elim
 |a::ls,b::q,h=>by
  obtain⟨f,g⟩:=nu h.2;refine⟨by simp[f],fun i c d=>?_⟩;cases i with
  |zero=>simp at d;subst d;exact⟨a,rfl,h.1⟩
  |succ i=>simpa using g i c (by simpa using d)
theorem I5.le {Φ:Nat->Prop} {w:World} {v:Value} {sz e:Nat} {ls q:List (List AV)} (h:I5 Φ w v sz ls e) (k:S9 ls q):I5 Φ w v sz q e:=by
 obtain⟨css,d,f,g⟩:=h;obtain⟨m,l2⟩:=nu k;refine⟨css,d,f.trans m,fun i us b l j=>?_⟩;obtain⟨c,hd,a⟩:=l2 i b j;exact pS a (g i us c l hd)
theorem aF.b8 {c c':Ctx} {w w':World} {need U:Os} {news:List Nat} {d sz e:Nat} {ls q:List (List AV)} (h:aF c w c' w' need ((d,.row sz ls e)::U) news) (A:S9 ls q):aF c w c' w' need ((d,.row sz q e)::U) news:=by
 have y:∀id,(lk ((d,Obj.row sz q e)::U) id).isSome=(lk ((d,Obj.row sz ls e)::U) id).isSome:=fun id=>by
  rw[j5,j5];split<;>rfl
 have x:∀b,Touch c need ((d,.row sz ls e)::U) b->Touch c need ((d,.row sz q e)::U) b:=fun b ⟨id,o,m,n,r⟩=>⟨id,o,m,by rw[y];exact n,r⟩;have C:∀b,Touch c need ((d,.row sz q e)::U) b->Touch c need ((d,.row sz ls e)::U) b:=fun b ⟨id,o,m,n,r⟩=>⟨id,o,m,by rw[<-y];exact n,r⟩;have g:∀id o,lk ((d,Obj.row sz q e)::U) id=some o->∃f,lk ((d,Obj.row sz ls e)::U) id=some f/\(∀b,aK c' id o b↔aK c' id f b)/\(bm c' w' id f->bm c' w' id o):=fun id o a=>by
  rw[j5] at a;split at a
  ·rename_i e1;subst e1;cases a;exact⟨.row sz ls e,j3 _ _ _,fun b=>Iff.rfl,fun v=>I5.le v A⟩
  ·rename_i e1;exact⟨o,by rw[G5 _ _ e1];exact a,fun b=>Iff.rfl,fun v=>v⟩
 refine⟨h.bV,h.tape,h.output,h.size,h.aX,fun b s=>(h.aV b s).imp (fun h=>h) (.imp (fun h=>h) (x b)),fun b s B=>h.aP b s fun j=>B (x b j),h.ctx,⟨fun id o a=>?_,fun id o b a k=>?_,fun id l o f b u i j k t=>?_,h.aD.aX⟩,fun id o b a k=>?_⟩
 ·obtain⟨f,i,_,z⟩:=g id o a;exact z (h.aD.rep id f i)
 ·obtain⟨f,i,j,_⟩:=g id o a;exact h.aD.lt id f b i ((j b).1 k)
 ·obtain⟨p,E,F,_⟩:=g id o i;obtain⟨D,G,H,_⟩:=g l f j;exact h.aD.sep id l p D b u E G ((F b).1 k) ((H b).1 t)
 ·obtain⟨f,i,j,_⟩:=g id o a;exact(h.ab id f b i ((j b).1 k)).imp (fun h=>h) (x b)
def vu (a:AV):fa a a:=by
 unfold fa;split<;>first|trivial|rfl|(rename_i b c;simp_all)
theorem nD : ∀l:List AV,dw l l
 |[]=>trivial
 |a::l=>⟨vu a,nD l⟩
theorem fG : ∀l:List (List AV),S9 l l
 |[]=>trivial
 |a::l=>⟨nD a,fG l⟩
def Src (Φ:Nat->Prop) (w:World) (sz:Nat) (x:Value) (ls:List (List AV)):Prop :=
 ∃(A:Option Addr) (cap:Nat) (css:List (List Value)),x=.slice A ls.length cap/\css.length=ls.length/\(∀us∈css,us.length=sz)/\(∀us∈css,∀u∈us,u.oneCell'=true) /\
  (∀(i:Nat) (us:List Value) (a:List AV),css[i]?=some us->ls[i]?=some a->p8 Φ w us a) /\
  (0<ls.length->∃b o,A=some ⟨b,o,none⟩/\∀i us,css[i]?=some us->∀j u,us[j]?=some u->w.cell? ⟨b,o+i*sz+j,none⟩=some u)
theorem Src.jv {c:Ctx} {w:World} {sz:Nat} {x:Value} {ls:List (List AV)} (h:Rd c w x (.sl sz ls)):Src c.Φ w sz x ls:=by
 obtain⟨A,k,us,b,o,rfl,B,C,l,m,n,p,q⟩:=h.ff;have ga:∀(i:Nat) (u:List Value),((List.range ls.length).map us)[i]?=some u->i<ls.length/\u=us i:=fun i u d=>by
  simp only[Aa,AZ] at d;obtain⟨a,r,rfl⟩:=d;have:=AF.1 r;simp at this;exact⟨d9,by rw[<-this.2]⟩
 have f:∀u∈(List.range ls.length).map us,∃i,i<ls.length/\u=us i:=fun u e=>by
  simp only[AL,List.mem_range] at e;obtain⟨i,d,rfl⟩:=e;exact⟨i,d,rfl⟩
 refine⟨A,k,(List.range ls.length).map us,rfl,o5,fun u e=>?_,fun u e=>?_,fun i u g e s=>?_,fun y=>?_⟩
 ·obtain⟨i,d,rfl⟩:=f u e;exact m i ls[i] (A8 d)
 ·obtain⟨i,d,rfl⟩:=f u e;exact q i ls[i] (A8 d)
 ·obtain⟨d,rfl⟩:=ga i u e
  exact p i g s
 ·refine⟨b,o,(l y).1,fun i u e j v z=>?_⟩;obtain⟨d,rfl⟩:=ga i u e
  exact n i ls[i] (A8 d) j v z
theorem Src.cd {Φ:Nat->Prop} {w:World} {v:Value} {sz e:Nat} {css:List (List Value)} {ls:List (List AV)} (b:y7 w v sz e css) (n:css.length=ls.length)
  (p:∀(i:Nat) (us:List Value) (m:List AV),css[i]?=some us->ls[i]?=some m->p8 Φ w us m):Src Φ w sz v ls:=by
 obtain⟨A,cap,h,D,E⟩:=b.head;refine⟨A,cap,css,by rw[h,n],n,b.len,b.one,p,fun G=>?_⟩;have f:0<css.length:=d9;obtain⟨g,x,k,c,F,_⟩:=b.cells (A8 f);rw[h] at c;injection c with e1 z B
 refine⟨g,x,e1,fun i us s j u y=>?_⟩;obtain⟨C,H,l,d,r,q⟩:=b.cells s;rw[h,e1] at d;injection d with a _ _
 injection a with a
 injection a with a o _
 subst a o;exact q j u y
theorem Src.eT {c:Ctx} {w:World} {id sz e:Nat} {ls:List (List AV)} (h:bm c w id (.row sz ls e)):Src c.Φ w sz (c.hd id) ls:=by
 obtain⟨css,a,b,d⟩:=h;exact Src.cd a b d
theorem Src.nil {Φ:Nat->Prop} {w:World} (sz:Nat):Src Φ w sz (.slice none 0 0) [] :=
 ⟨none,0,[],rfl,rfl,o5,o5,fun i us a h=>by simp at h,fun h=>absurd h o5⟩
theorem y7.take {w:World} {A:Option Addr} {m cap sz e n:Nat} {css:List (List Value)} (h:y7 w (.slice A m cap) sz e css) (D:n<=m):y7 w (.slice A n cap) sz e (css.take n):=by
 have C:css.length=m:=by
  obtain⟨y,c,f,_,_⟩:=h.head;injection f with _ i _
  exact i.symm
 have a:(css.take n).length=n:=by rw[List.length_take];omega
 have o:∀us∈css.take n,us.length=sz:=fun us l=>h.len us (List.mem_of_mem_take l);have k:=P7 sz _ o;refine⟨?_,o,fun us l=>h.one us (List.mem_of_mem_take l)⟩;rcases h.b9 with⟨f,B⟩|⟨g,x,p,c,d,f,u,z,q,r,v,s⟩
 ·injection f with e1 i j
  subst e1 j;exact .inl ⟨by rw[show n=0 by omega],d9⟩
 ·injection f with e1 i j
  subst e1 j;refine .inr ⟨g,x,p,cap,d,by rw[a],u,d9,q,r,v,?_⟩;have e:(d.toList.drop (p*sz)).take (n*sz)=css.flatten.take (n*sz):=by
   rw[<-s,List.take_take];congr 1;have:n*sz<=css.length*sz:=Nat.mul_le_mul_right _ d9;omega
  rw[a,e];have b:css.flatten=(css.take n).flatten++(css.drop n).flatten:=by rw[<-List.flatten_append,List.take_append_drop]
  rw[b,List.take_left' (by rw[k,a])]
theorem y7.drop {w:World} {A:Option Addr} {m cap sz e n:Nat} {css:List (List Value)} (h:y7 w (.slice A m cap) sz e css) (E:n<=m):y7 w (.slice (if cap=n then A else A.map (·.add (n*sz))) (m-n) (cap-n)) sz e (css.drop n):=by
 have v:css.length=m:=by
  obtain⟨z,d,i,_,_⟩:=h.head;injection i with _ j _
  exact j.symm
 have a:(css.drop n).length=m-n:=by rw[List.length_drop];omega
 refine⟨?_,fun us f=>h.len us (List.mem_of_mem_drop f),fun us f=>h.one us (List.mem_of_mem_drop f)⟩;rcases h.b9 with⟨i,D⟩|⟨g,x,p,d,c,i,q,B,C,o,y,r⟩
 ·injection i with e1 j k
  subst e1 k;exact .inl ⟨by rw[show m-n=0 by omega];simp,d9⟩
 ·injection i with e1 j k
  subst e1 k;have hd:(c.toList.drop ((p+n)*sz)).take ((m-n)*sz)=(css.drop n).flatten:=by
   have u:(css.take n).flatten.length=n*sz:=by rw[P7 sz _ fun us f=>h.len us (List.mem_of_mem_take f),List.length_take];congr 1;omega
   have b:css.flatten=(css.take n).flatten++(css.drop n).flatten:=(by rw[<-List.flatten_append,List.take_append_drop]);have s:(css.drop n).flatten=css.flatten.drop (n*sz):=by rw[b,List.drop_left' u]
   rw[s,<-r,List.drop_take,List.drop_drop,Nat.add_mul,v,<-Nat.sub_mul]
  by_cases l:cap=n
  ·refine .inr ⟨g,x,p+n,0,c,by rw[Ah l,a,l];simp,q,d9,d9,by rw[o];congr 1;omega,fun h=>absurd h d9,by rw[a];exact hd⟩
  ·refine .inr ⟨g,x+n*sz,p+n,cap-n,c,by rw[Ag l,a];simp[X9],q,d9,d9,by rw[o];congr 1;omega,fun h=>by rw[y d9,Nat.add_mul],by rw[a];exact hd⟩
section
variable {P:Program} {tab:F7} {t:TypeId} {ti te:TI}
def tF (s:I4 P t ti) (u:ti.kind=2) (r:I4 P ti.elem te) (v:TypeId) {w:World} {hdv:Value} {sz e c:Nat} {a:Option Addr} {css:List (List Value)} (h:y7 w hdv sz e css) :
  (Builtin.append_ #[t,t] v #[hdv,.slice a 0 c]).run P w=.ok hdv w:=by
 obtain⟨i,z,f,_⟩:=r.info;have j:=s.aQ u;obtain⟨A,cap,rfl,q,B⟩:=h.head;have d:(Builtin.firstCells i.size 0 (.slice a 0 c)).run P w=.ok #[] w:=by
  cases a with
  |none=>simp[Builtin.firstCells]
  |some l=>exact run_firstCells_some (P:=P) w i.size 0 l 0 c [] o5 o5
 rcases h.b9 with⟨k,C⟩|⟨g,x,p,b,m,k,_⟩<;>injection k with e1 y n<;>subst e1
 ·subst n;have o:css.length=0:=d9;simp[Builtin.append_,run_underlying j,sizeOf,typeInfo,f,Builtin.lenOf,d,o,storeCells]
 ·simp[Builtin.append_,run_underlying j,sizeOf,typeInfo,f,Builtin.lenOf,d,q,storeCells]
def ou (Y:I4 P t ti) (N:ti.kind=2) (hE:I4 P ti.elem te) (C:0<te.size) (ty:TypeId) {Φ:Nat->Prop} {w:World} {hdv x:Value} {css:List (List Value)} {c:List (List AV)}
  (h:y7 w hdv te.size ti.elem css) (hs:Src Φ w te.size x c) (K:(css.length+c.length)*te.bytes<=140737488355328) (hl:css.length+c.length<=maxLen) :
  ∃s w' a,(Builtin.append_ #[t,t] ty #[hdv,x]).run P w=.ok s w'/\a.length=c.length/\y7 w' s te.size ti.elem (css++a)/\w.grownBy w' hdv.ownBlock/\(s.ownBlock=hdv.ownBlock\/∀b,s.ownBlock=some b->w.heap.size<=b) /\
   (∀(i:Nat) (us:List Value) (cs:List AV),a[i]?=some us->c[i]?=some cs->p8 Φ w us cs):=by
 obtain⟨A,cap,a,rfl,v,h2,h3,S,h5⟩:=hs;obtain⟨i,z,hi,R,T,hz,hzo,hza⟩:=hE.info;have X:z.cells.size=te.size:=by
  have:=(Z5 (fun _=>False) w _ _ hzo).1.length;rw[<-hE.zl,<-this];simp
 rcases Nat.eq_zero_or_pos c.length with h0|hp
 ·have e2:c=[]:=AX h0;have e3:a=[]:=AX d9;subst e2 e3;exact⟨hdv,w,[],tF Y N hE ty h,rfl,by simpa using h,World.grownBy.refl w _,.inl rfl,fun i us cs h=>by simp at h⟩
 ·obtain⟨b,o,rfl,hc⟩:=h5 hp;have G:=P7 te.size a h2;have q:∀us∈css++a,us.length=te.size:=fun us m=>by
   rcases AT.1 m with m|m
   ·exact h.len us m
   ·exact h2 us m
  have r:∀us∈css++a,∀u∈us,u.oneCell'=true:=fun us m=>by
   rcases AT.1 m with m|m
   ·exact h.one us m
   ·exact h3 us m
  have f:∀(j:Nat) (u:Value),a.flatten[j]?=some u->w.cell? ((⟨b,o,none⟩:Addr).add j)=some u:=by
   intro j u F;have M:j<a.length*te.size:=by
    have:=(AF.1 F).1
    rwa [G] at this
   have hd:j / te.size<a.length:=Nat.div_lt_of_lt_mul (by rwa [Nat.mul_comm] at M);have hm:j % te.size<te.size:=Nat.mod_lt _ C;have hf:=ad te.size a h2 (j / te.size) (j % te.size) a[j / te.size] (A8 hd) hm;have ej:j / te.size*te.size+j % te.size=j:=by rw[Nat.mul_comm];exact Nat.div_add_mod j te.size
   rw[ej,F] at hf;have:=hc (j / te.size) _ (A8 hd) (j % te.size) u hf.symm;rw[X9,<-this];simp only[Nat.add_assoc,ej]
  have I:∀u∈a.flatten,u.oneCell'=true:=by
   intro u m;obtain⟨us,hus,m⟩:=List.mem_flatten.1 m;exact h3 us hus u m
  have n:=P7 te.size css h.len;have J:∀{w':World} {s:Value} {y:Nat},w'.ownsRow y ti.elem te.size s (css.length+c.length) (css.flatten++a.flatten)->y7 w' s te.size ti.elem (css++a)/\∀b,s.ownBlock=some b->y<=b:=fun {w' s y} ho=>by
   refine⟨⟨?_,q,r⟩,fun b K=>?_⟩
   ·rcases ho.2 with⟨e,_⟩|⟨g,H,d,e,_,b2,b3,b4,b5,b6⟩
    ·omega
    ·exact .inr ⟨g,0,0,H,d,by rw[e,A6,v],b2,by rw[A6,v];exact b3,d9,by simpa using b5,fun _=>o5,by simpa[v] using b6⟩
   ·rcases ho.2 with⟨e,_⟩|⟨g,H,d,e,b1,_⟩
    ·rw[e] at K;cases K
    ·rw[e] at K;cases K;exact b1
  have V:∀j u,css.flatten[j]?=some u->∀(g x p:Nat) (d:Array Value),w.heap[g]?=some (.cells d ti.elem)->x=p*te.size->(d.toList.drop (p*te.size)).take (css.length*te.size)=css.flatten->w.cell? ((⟨g,x,none⟩:Addr).add j)=some u:=fun j u F g x p d Z W S=>by
   have hlt:j<css.length*te.size:=by
    have:=(AF.1 F).1
    rwa [n] at this
   rw[<-S,List.getElem?_take_of_lt hlt,Ac] at F;rw[X9,W];unfold World.cell?;rw[Z];simpa using F
  rcases h.b9 with⟨rfl,hn⟩|⟨g,x,p,H,d,rfl,Z,a1,a2,a3,W,a4⟩
  ·have e0:css=[]:=AX hn;subst e0;obtain⟨s,w',E,B,l,_,hat⟩:=run_append_own_at (P:=P) w w.heap.size t ty ti.elem i z te.size te.bytes (Y.aQ N) hi hz R T X C (.slice none 0 0) 0 [] (World.ownsRow_nil w _ _ _) ⟨b,o,none⟩ c.length cap a.flatten (by rw[G,v]) f I (by simpa using hl) (by simpa using K) (AA _);have:=J (by simpa using B);exact⟨s,w',a,E,v,this.1,l,.inr this.2,S⟩
  ·rcases Nat.lt_or_ge H (css.length+c.length) with L|D
   ·obtain⟨s,w',E,B,l⟩:=run_append_arg_grows (P:=P) w t ty ti.elem i z te.size te.bytes (Y.aQ N) hi hz R T X C ⟨g,x,none⟩ css.length H css.flatten n (fun j u F=>by
      have:0<css.length:=by
       rcases Nat.eq_zero_or_pos css.length with e|e
       ·have:css=[]:=AX e;subst this;simp at F
       ·exact e
      exact V j u F g x p d Z (W d9) a4) ⟨b,o,none⟩ c.length cap a.flatten (by rw[G,v]) f L hl K
    have:=J B;exact⟨s,w',a,E,v,this.1,⟨l.os,l.tape,l.output,l.size,fun k N _=>l.block k N o5⟩,.inr this.2,S⟩
   ·have hxp:=W d9;have Q:a.flatten.length=c.length*te.size:=by rw[G,v]
    have U:d.toList.length=(p+H)*te.size:=by rw[<-a3];simp
    have hroom2:p*te.size+css.length*te.size+c.length*te.size<=d.toList.length:=by
     rw[U,<-Nat.add_mul,<-Nat.add_mul];exact Nat.mul_le_mul_right _ d9
    obtain⟨rs,O⟩:=eB (p*te.size+css.length*te.size+0) a.flatten d.toList (by rw[Q];omega);have hg':w.heap[g]?=some (.cells d.toList.toArray ti.elem):=by simpa using Z
    obtain⟨w',q1,q2,q3,q4,q5,q6,q7⟩:=kG (P:=P) g (p*te.size+css.length*te.size) ti.elem a.flatten 0 d.toList rs w hg' I O;have hfc:=run_firstCells_some (P:=P) w te.size c.length ⟨b,o,none⟩ c.length cap a.flatten Q f;refine⟨.slice (some ⟨g,x,none⟩) (css.length+c.length) H,w',a,?_,v,⟨.inr ⟨g,x,p,H,rs.toArray,by rw[A6,v],q2,by rw[A6,v];exact D,a2,by rw[List.size_toArray,(P8 O).1,U],W,?_⟩,q,r⟩,⟨q5,q6,q7,d9,fun k N hn=>q3 k fun e=>hn (by rw[e];rfl)⟩,.inl rfl,S⟩
    ·simp[Builtin.append_,run_underlying (Y.aQ N),sizeOf,typeInfo,hi,Builtin.lenOf,D,R,hfc,X9,hxp,q1]
    ·rw[A6,v,List.flatten_append];apply AY;intro j;simp only[Nat.add_mul];rw[List.getElem?_take];split
     ·rename_i F;rw[Ac];show rs[p*te.size+j]?=_;rw[J4 O];by_cases M:j<css.length*te.size
      ·rw[Ag d9,List.getElem?_append_left d9,<-a4,List.getElem?_take_of_lt M,Ac]
      ·rw[Ah d9,List.getElem?_append_right d9,n];congr 1;omega
     ·rw[AW];rw[A6,n,Q];omega
end
theorem aF.append {c:Ctx} {w w':World} {n hdv:Value} {g:Os} {d sz e:Nat} {css:List (List Value)} {ls:List (List AV)} (aD:H7 c w g) (r:∀b,hdv.ownBlock=some b↔∃id o,lk g id=some o/\aK c id o b) (hd:lk g d=none)
  (q:w.grownBy w' hdv.ownBlock) (x:n.ownBlock=hdv.ownBlock\/∀b,n.ownBlock=some b->w.heap.size<=b) (I:y7 w' n sz e css) (j:css.length=ls.length)
  (M:∀(i:Nat) (us:List Value) (v:List AV),css[i]?=some us->ls[i]?=some v->p8 c.Φ w us v) :
  aF c w (c.aE d n) w' g ((d,.row sz ls e)::D7 g) [d]:=by
 have E:(c.aE d n).hd d=n:=by simp[Ctx.aE]
 have N:∀id,(lk (D7 g) id).isSome=(lk g id).isSome:=jA g;have l:∀b,hdv.ownBlock=some b->Touch c g ((d,.row sz ls e)::D7 g) b:=fun b f=>by
  obtain⟨id,o,p,s⟩:=(r b).1 f;refine⟨id,o,p,?_,s⟩;have F:d≠id:=fun e=>by rw[e,p] at hd;cases hd
  rw[G5 _ _ F,N,p];rfl
 have z:∀b,c.Φ b->w'.heap[b]?=w.heap[b]?:=fun b f=>q.block b (aD.aX b f) fun e=>by
  obtain⟨id,o,p,s⟩:=(r b).1 e.symm;exact(aD.lt id o b p s).2 f
 have k:∀b,aK (c.aE d n) d (.row sz ls e) b->w.heap.size<=b\/hdv.ownBlock=some b:=fun b a=>by
  simp only[aK,E] at a;rcases x with h|h
  ·exact .inr (h▸a)
  ·exact .inl (h b a)
 have D:∀b,aK (c.aE d n) d (.row sz ls e) b->b<w'.heap.size/\¬c.Φ b:=fun b a=>by
  refine⟨?_,fun f=>?_⟩
  ·simp only[aK,E] at a;rcases I.b9 with⟨e1,_⟩|⟨R,T,S,J,H,e1,A,_⟩
   ·rw[e1] at a;cases a
   ·rw[e1] at a;injection a with a
    subst a;exact(Array.getElem?_eq_some_iff.1 A).1
  ·rcases k b a with h|h
   ·have:=aD.aX b f;omega
   ·obtain⟨id,o,p,s⟩:=(r b).1 h;exact(aD.lt id o b p s).2 f
 have m:∀id o,lk ((d,Obj.row sz ls e)::D7 g) id=some o->(id=d/\o=.row sz ls e)\/(id≠d/\o=.aI):=fun id o j=>by
  rw[j5] at j;split at j
  ·rename_i e;cases j;exact .inl ⟨e.symm,rfl⟩
  ·rename_i e;exact .inr ⟨fun h=>e h.symm,fh j⟩
 refine⟨q.os,q.tape,q.output,q.size,fun b f=>f,fun b f=>.inl f,fun b f L=>q.block b f fun e=>L (l b e.symm),fun id B=>⟨rfl,by have:id≠d:=(by simpa using B);simp[Ctx.aE,this]⟩,
  ⟨fun id o j=>?_,fun id o b j a=>?_,fun id G o Q b u j C a y=>?_,fun b f=>Nat.lt_of_lt_of_le (aD.aX b f) q.size⟩,fun id o b j a=>?_⟩
 ·rcases m id o j with⟨rfl,rfl⟩|⟨_,rfl⟩
  ·exact⟨css,by rw[E];exact I,by assumption,fun i us v O K=>(M i us v O K).mono z fun _ h=>h⟩
  ·trivial
 ·rcases m id o j with⟨rfl,rfl⟩|⟨_,rfl⟩
  ·exact D b a
  ·exact a.elim
 ·rcases m id o j with⟨rfl,rfl⟩|⟨_,rfl⟩
  ·rcases m G Q C with⟨rfl,rfl⟩|⟨_,rfl⟩
   ·exact u rfl
   ·exact y.elim
  ·exact a.elim
 ·rcases m id o j with⟨rfl,rfl⟩|⟨_,rfl⟩
  ·exact(k b a).imp (fun h=>h) (l b)
  ·exact a.elim
def oH : Value->AV
 |.int .i64 n=>bif AM n.natAbs 4611686018427387904 then .int n else .any
 |.int k n=>.ik k n
 |.bool b=>.bool b
 |.string s=>bif AD s.size 4294967296 then .str s else .any
 |.slice none 0 0=>.a8
 |.pointer none=>.aL
 |.nilFunc=>.aA
 |.nilIface=>.br true
 |v=>.aU v
def xH (c:Ctx) (w:World) (v:Value):Rd c w v (oH v):=by
 unfold oH;split
 ·rename_i n;cases h:AM n.natAbs 4611686018427387904
  ·exact .fz (.any _)
  ·refine .fz (.int ?_);have:=AU h;unfold D8;omega
 ·exact .fz (.ik _ _)
 ·exact .fz (.bool _)
 ·rename_i s;cases h:AD s.size 4294967296
  ·exact .fz (.any _)
  ·refine .fz (.str ?_);have:=AU h;simp only[maxLen];omega
 ·exact .fz .a8
 ·exact .fz .aL
 ·exact .fz .aA
 ·exact .fz .cB
 ·exact .fz (.aU _)
def bJ (ts:Ts):Ev
 |.tmp t=>match lk ts t with
  |some a=>a
  |none=>.any
 |.const v=>oH v
 |.global _=>.any
 |.func f=>.fn f []
def hJ {c:Ctx} {w:World} {ts:Ts} {a:Act} (h:dS c w ts a) (x:Operand):Rd c w (a.eval x) (bJ ts x):=by
 cases x with
 |tmp t =>
  unfold bJ Act.eval;simp only;cases e:lk ts t with
  |none=>exact Rd.bZ _
  |some av =>
   obtain⟨v,b,d⟩:=h t av e;simp only[Array.getD_eq_getD_getElem?,b,Option.getD_some];exact d
 |const v=>exact xH c w v
 |global g=>exact Rd.bZ _
 |func f =>
  have:=Rd.fn (c:=c) (w:=w) (f:=f) .nil;exact this
def AV.cells? : AV->Option (List AV)
 |.agg b=>match b.all iT with
  |true=>some b
  |false=>none
 |.any=>none
 |.aS _=>none
 |.aU v=>match v.oneCell' with
  |true=>some [.aU v]
  |false=>none
 |a=>some [a]
def fH {c:Ctx} {w:World} {v:Value} {a:AV} {g:List AV} (h:Rd c w v a) (d:a.cells?=some g):l8 c w v.cells.toList g/\∀u∈v.cells.toList,u.oneCell'=true:=by
 have b:iT a=true->g=[a]->l8 c w v.cells.toList g/\∀u∈v.cells.toList,u.oneCell'=true:=fun f k=>by
  have j:=h.one f;have e:v.cells=#[v]:=by cases v<;>first|rfl|cases j
  rw[e,k];exact⟨.cons h .nil,by simpa using j⟩
 cases a<;>simp only[AV.cells?,Option.some.injEq] at d<;>first|(exact b rfl d.symm)|cases d|skip
 split at d
 ·rename_i f;cases d;obtain⟨us,rfl,i⟩:=h.bM;exact⟨by simpa[Value.cells] using i,by simpa[Value.cells] using i.one f⟩
 ·cases d
 ·split at d
  ·rename_i f;exact b f (by injection d with e;exact e.symm)
  ·cases d
section
variable {P:Program} {tab:F7} {o:Oper} {ev:Ev} {os:Os} {K:Kt}
def qD {x:Operand} (a:o.op=.move x\/o.op=.assign x) (h:K (ev x) [] [] []):J5 P o ev os K :=
 .pure (fun c w d b=>⟨d x,by rcases a with a|a<;>simp[execOp,a],b x (by rcases a with a|a<;>simp[a,Op.operands])⟩) h
def eK : Bool->Prop->Prop->Prop
 |true,X,_=>X
 |false,_,Y=>Y
def mi (ev:Ev) (c a b:Operand) (K:Kt):Prop :=
 match ev c with
 |.bool y=>eK y (K (ev a) [] [] []) (K (ev b) [] [] [])
 |_=>False
def wZ {x a b:Operand} (d:o.op=.pick x a b) (h:mi ev x a b K):J5 P o ev os K:=by
 unfold mi at h;split at h
 ·rename_i y i;cases y
  ·refine .pure (av:=ev b) (fun c w g f=>?_) h;have e:=f x (by simp[d,Op.operands]);rw[i] at e;exact⟨g b,by simp[execOp,d,e.ai,asBool],f b (by simp[d,Op.operands])⟩
  ·refine .pure (av:=ev a) (fun c w g f=>?_) h;have e:=f x (by simp[d,Op.operands]);rw[i] at e;exact⟨g a,by simp[execOp,d,e.ai,asBool],f a (by simp[d,Op.operands])⟩
 ·exact h.elim
def oR (op:BinOp) (a b:Int) (K:AV->Prop):Prop :=
 match op with
 |.add=>(D8 (a+b)/\K (.int (a+b)))\/K (.int (IntKind.i64.wrap (a+b)))
 |.sub=>(D8 (a-b)/\K (.int (a-b)))\/K (.int (IntKind.i64.wrap (a-b)))
 |.mul=>(D8 (a*b)/\K (.int (a*b)))\/K (.int (IntKind.i64.wrap (a*b)))
 |.quo=>b≠0/\D8 (a.tdiv b)/\K (.int (a.tdiv b))
 |.rem=>b≠0/\D8 (a.tmod b)/\K (.int (a.tmod b))
 |.eql=>K (.bool (decide (a=b)))
 |.neq=>K (.bool (!decide (a=b)))
 |.lss=>K (.bool (decide (a<b)))
 |.leq=>K (.bool (decide (a<=b)))
 |.gtr=>K (.bool (decide (b<a)))
 |.geq=>K (.bool (decide (b<=a)))
 |_=>False
def oa (op:BinOp) (k:IntKind) (a b:Int) (K:AV->Prop):Prop :=
 match op with
 |.eql=>K (.bool (decide (a=b)))
 |.neq=>K (.bool (!decide (a=b)))
 |.lss=>K (.bool (decide (a<b)))
 |.leq=>K (.bool (decide (a<=b)))
 |.gtr=>K (.bool (decide (b<a)))
 |.geq=>K (.bool (decide (b<=a)))
 |.shr=>b=1/\K (.ik k (a / 2))
 |_=>False
def V7 (a b:ByteArray):Bool:=Op.bytesLess a.toList b.toList
def oQ (op:BinOp) (a b:ByteArray) (K:AV->Prop):Prop :=
 match op with
 |.add=>a.size+b.size<=4611686018427387904/\K (.str (a++b))
 |.eql=>K (.bool (decide (a=b)))
 |.neq=>K (.bool (!decide (a=b)))
 |.lss=>K (.bool (V7 a b))
 |.leq=>K (.bool (V7 a b || decide (a=b)))
 |.gtr=>K (.bool (!(V7 a b || decide (a=b))))
 |.geq=>K (.bool (!V7 a b))
 |_=>False
def fP (op:BinOp) (r:Bool) (K:AV->Prop):Prop :=
 match op with
 |.eql=>K (.bool r)
 |.neq=>K (.bool (!r))
 |_=>False
def oK (tab:F7) (f:Y9) (op:BinOp) (t:TypeId) (x y:AV) (K:AV->Prop):Prop :=
 match x,y with
 |.int a,.int b=>oR op a b K
 |.ik k a,.ik g b=>k=g/\oa op k a b K
 |.str a,.str b=>oQ op a b K
 |.bool a,.bool b=>match lk tab t with
  |some ti=>match ti.kind with
   |6=>fP op (decide (a=b)) K
   |_=>False
  |none=>False
 |.agg d,.agg e=>match lk f t with
  |some c=>match eh c d && eh c e with
   |true=>fP op (cO d e) K
   |false=>False
  |none=>False
 |.ik k a,.int b=>match op with
  |.shr=>b=1/\K (.ik k (a / 2))
  |_=>False
 |.cz b,.a8=>match lk tab t with
  |some ti=>match ti.kind with
   |2=>fP op b K
   |_=>False
  |none=>False
 |.a8,.a8=>match lk tab t with
  |some ti=>match ti.kind with
   |2=>fP op true K
   |_=>False
  |none=>False
 |.fp _,.aL=>match lk tab t with
  |some ti=>match ti.kind with
   |7=>fP op false K
   |_=>False
  |none=>False
 |.aL,.aL=>match lk tab t with
  |some ti=>match ti.kind with
   |7=>fP op true K
   |_=>False
  |none=>False
 |_,_=>False
def sf (w:World) (d:Nat) (t e:TypeId) (a:Option Addr) (h:P.underlying t=some (.pointer e)):(Op.equalIn (d+1) t (.pointer a) (.pointer none)).run P w=.ok a.isNone w:=by
 cases a<;>simp[Op.equalIn,run_underlying h]
def pD (w:World) (t e:TypeId) (a:Option Addr) (h:P.underlying t=some (.pointer e)):(Op.equal t (.pointer a) (.pointer none)).run P w=.ok a.isNone w:=sf w 9999 t e a h
def nk (n:Int):D8 (IntKind.i64.wrap n):=by
 have a:IntKind.i64.bits=64:=rfl;have b:IntKind.i64.signed=true:=rfl;unfold D8 IntKind.wrap;rw[a,b];simp only[Bool.true_and,Am];split<;>omega
def vr {op:BinOp} {t:TypeId} {x y:Operand} {a b:Int} {K:AV->Prop} (h:oR op a b K) :
  ∃v av,K av/\∀(w:World) (Φ:Nat->Prop),(do eqGuard op t x y (.int .i64 a) (.int .i64 b);binOp op t (.int .i64 a) (.int .i64 b):Sem Value).run P w=.ok v w/\Rf Φ w v av:=by
 have wr:∀n,D8 n->IntKind.i64.wrap n=n:=fun n hn=>IntWalk.i64_in n hn;cases op<;>simp only[oR] at h
 case add =>
  rcases h with h|h
  ·exact⟨.int .i64 (a+b),_,h.2,fun w Φ=>⟨by simp[eqGuard,binOp,Op.intArith,wr _ h.1],.int h.1⟩⟩
  ·exact⟨.int .i64 (IntKind.i64.wrap (a+b)),_,h,fun w Φ=>⟨by simp[eqGuard,binOp,Op.intArith],.int (nk _)⟩⟩
 case sub =>
  rcases h with h|h
  ·exact⟨.int .i64 (a-b),_,h.2,fun w Φ=>⟨by simp[eqGuard,binOp,Op.intArith,wr _ h.1],.int h.1⟩⟩
  ·exact⟨.int .i64 (IntKind.i64.wrap (a-b)),_,h,fun w Φ=>⟨by simp[eqGuard,binOp,Op.intArith],.int (nk _)⟩⟩
 case mul =>
  rcases h with h|h
  ·exact⟨.int .i64 (a*b),_,h.2,fun w Φ=>⟨by simp[eqGuard,binOp,Op.intArith,wr _ h.1],.int h.1⟩⟩
  ·exact⟨.int .i64 (IntKind.i64.wrap (a*b)),_,h,fun w Φ=>⟨by simp[eqGuard,binOp,Op.intArith],.int (nk _)⟩⟩
 case quo=>exact⟨.int .i64 (a.tdiv b),_,h.2.2,fun w Φ=>⟨by simp[eqGuard,binOp,Op.intDiv,h.1,wr _ h.2.1],.int h.2.1⟩⟩
 case rem=>exact⟨.int .i64 (a.tmod b),_,h.2.2,fun w Φ=>⟨by simp[eqGuard,binOp,Op.intDiv,h.1],.int h.2.1⟩⟩
 case eql=>exact⟨.bool (decide (a=b)),_,h,fun w Φ=>⟨by simp[eqGuard,binOp,Op.intCmp,Bool.beq_eq_decide_eq],.bool _⟩⟩
 case neq=>exact⟨.bool (!decide (a=b)),_,h,fun w Φ=>⟨by simp[eqGuard,binOp,Op.intCmp,bne,Bool.beq_eq_decide_eq],.bool _⟩⟩
 case lss=>exact⟨.bool (decide (a<b)),_,h,fun w Φ=>⟨by simp[eqGuard,binOp,Op.intCmp],.bool _⟩⟩
 case leq=>exact⟨.bool (decide (a<=b)),_,h,fun w Φ=>⟨by simp[eqGuard,binOp,Op.intCmp],.bool _⟩⟩
 case gtr=>exact⟨.bool (decide (b<a)),_,h,fun w Φ=>⟨by simp[eqGuard,binOp,Op.intCmp],.bool _⟩⟩
 case geq=>exact⟨.bool (decide (b<=a)),_,h,fun w Φ=>⟨by simp[eqGuard,binOp,Op.intCmp],.bool _⟩⟩
def uz {w:World} {P:Program} {t:TypeId} {x y:Operand} {k:IntKind} {a:Int}:(do eqGuard .shr t x y (.int k a) (.int k 1);binOp .shr t (.int k a) (.int k 1):Sem Value).run P w=.ok (.int k (a / 2)) w:=by
 have b:min (1:Int).toNat k.bits=1:=by cases k<;>rfl
 simp only[eqGuard,binOp,Op.shift,b];simp[Int.fdiv_eq_ediv_of_nonneg]
def wP {op:BinOp} {t:TypeId} {x y:Operand} {k:IntKind} {a b:Int} {K:AV->Prop} (h:oa op k a b K) :
  ∃v av,K av/\∀(w:World) (Φ:Nat->Prop),(do eqGuard op t x y (.int k a) (.int k b);binOp op t (.int k a) (.int k b):Sem Value).run P w=.ok v w/\Rf Φ w v av:=by
 cases op<;>simp only[oa] at h
 case shr=>obtain⟨rfl,h⟩:=h;exact⟨.int k (a / 2),_,h,fun w Φ=>⟨uz,.ik _ _⟩⟩
 case eql=>exact⟨.bool (decide (a=b)),_,h,fun w Φ=>⟨by simp[eqGuard,binOp,Op.intCmp,Bool.beq_eq_decide_eq],.bool _⟩⟩
 case neq=>exact⟨.bool (!decide (a=b)),_,h,fun w Φ=>⟨by simp[eqGuard,binOp,Op.intCmp,bne,Bool.beq_eq_decide_eq],.bool _⟩⟩
 case lss=>exact⟨.bool (decide (a<b)),_,h,fun w Φ=>⟨by simp[eqGuard,binOp,Op.intCmp],.bool _⟩⟩
 case leq=>exact⟨.bool (decide (a<=b)),_,h,fun w Φ=>⟨by simp[eqGuard,binOp,Op.intCmp],.bool _⟩⟩
 case gtr=>exact⟨.bool (decide (b<a)),_,h,fun w Φ=>⟨by simp[eqGuard,binOp,Op.intCmp],.bool _⟩⟩
 case geq=>exact⟨.bool (decide (b<=a)),_,h,fun w Φ=>⟨by simp[eqGuard,binOp,Op.intCmp],.bool _⟩⟩
def vM {op:BinOp} {t:TypeId} {x y:Operand} {a b:ByteArray} {K:AV->Prop} (h:oQ op a b K) :
  ∃v av,K av/\∀(w:World) (Φ:Nat->Prop),(do eqGuard op t x y (.string a) (.string b);binOp op t (.string a) (.string b):Sem Value).run P w=.ok v w/\Rf Φ w v av:=by
 cases op<;>simp only[oQ] at h
 case add =>
  have hn:¬(((a.size+b.size:Nat):Int) > IntKind.i64.max):=by
   have:IntKind.i64.max=9223372036854775807:=G7;rw[this];omega
  exact⟨.string (a++b),_,h.2,fun w Φ=>⟨by simp only[eqGuard,binOp,Op.stringOp];rw[Ag hn];simp,.str (by rw[ByteArray.size_append];simp only[maxLen];omega)⟩⟩
 case eql=>exact⟨.bool (decide (a=b)),_,h,fun w Φ=>⟨by simp[eqGuard,binOp,Op.stringOp,jC],.bool _⟩⟩
 case neq=>exact⟨.bool (!decide (a=b)),_,h,fun w Φ=>⟨by simp[eqGuard,binOp,Op.stringOp,jC],.bool _⟩⟩
 case lss=>exact⟨.bool (V7 a b),_,h,fun w Φ=>⟨by simp[eqGuard,binOp,Op.stringOp,V7],.bool _⟩⟩
 case leq=>exact⟨.bool (V7 a b || decide (a=b)),_,h,fun w Φ=>⟨by simp[eqGuard,binOp,Op.stringOp,V7,jC],.bool _⟩⟩
 case gtr=>exact⟨.bool (!(V7 a b || decide (a=b))),_,h,fun w Φ=>⟨by simp[eqGuard,binOp,Op.stringOp,V7,jC],.bool _⟩⟩
 case geq=>exact⟨.bool (!V7 a b),_,h,fun w Φ=>⟨by simp[eqGuard,binOp,Op.stringOp,V7],.bool _⟩⟩
def gS {op:BinOp} {r:Bool} {K:AV->Prop} (h:fP op r K):∃b,(op=.eql/\b=r\/op=.neq/\b=!r)/\K (.bool b):=by
 cases op<;>simp only[fP] at h
 ·exact⟨r,.inl ⟨rfl,rfl⟩,h⟩
 ·exact⟨!r,.inr ⟨rfl,rfl⟩,h⟩
def xO {N:Y9} (E:E5 P tab) (O:Z6 P N) {op:BinOp} {t Z:TypeId} {x y:Operand} (M:o.op=.binOp op t x y Z) (h:oK tab N op t (ev x) (ev y) (fun av=>K av [] [] [])):J5 P o ev os K:=by
 have H:∀{c:Ctx} {w:World} {f:Operand->Value},(∀z∈o.op.operands.toList,Rd c w (f z) (ev z))->Rd c w (f x) (ev x)/\Rd c w (f y) (ev y):=fun m=>⟨m x (by simp[M,Op.operands]),m y (by simp[M,Op.operands])⟩;have run:∀(f:Operand->Value) (w:World),(execOp f o).run P w=((do eqGuard op t x y (f x) (f y);binOp op t (f x) (f y):Sem Value).run P w).andThen fun v w'=>.ok (.value v) w':=fun f w=>by
  simp only[execOp,M,Sem.run_bind];simp
 have close:∀av:AV,K av [] [] []->(∀(c:Ctx) (w:World) (f:Operand->Value),Rd c w (f x) (ev x)->Rd c w (f y) (ev y)->∃v,(do eqGuard op t x y (f x) (f y);binOp op t (f x) (f y):Sem Value).run P w=.ok v w/\Rd c w v av)->J5 P o ev os K:=fun av V X =>
  .pure (fun c w f m=>by
   obtain⟨v,l,u⟩:=X c w f (H m).1 (H m).2;exact⟨v,by rw[run,l];rfl,u⟩) V
 unfold oK at h;split at h
 ·rename_i a b q s;obtain⟨v,av,l,u⟩:=vr (P:=P) (t:=t) (x:=x) (y:=y) h;refine close av l fun c w f i j=>?_;rw[q] at i;rw[s] at j;rw[i.aR.1,j.aR.1];exact⟨v,(u w c.Φ).1,.fz (u w c.Φ).2⟩
 ·rename_i k a k' b q s;obtain⟨rfl,h⟩:=h;obtain⟨v,av,l,u⟩:=wP (P:=P) (t:=t) (x:=x) (y:=y) h;refine close av l fun c w f i j=>?_;rw[q] at i;rw[s] at j;rw[i.fY,j.fY];exact⟨v,(u w c.Φ).1,.fz (u w c.Φ).2⟩
 ·rename_i a b q s;obtain⟨v,av,l,u⟩:=vM (P:=P) (t:=t) (x:=x) (y:=y) h;refine close av l fun c w f i j=>?_;rw[q] at i;rw[s] at j;rw[i.aq.1,j.aq.1];exact⟨v,(u w c.Φ).1,.fz (u w c.Φ).2⟩
 ·rename_i a b q s;split at h
  ·rename_i ti p;split at h
   ·rename_i B;obtain⟨d,hd,L⟩:=(E t ti p).dK;have J:P.underlying t=some .bool:=by
     cases d<;>simp only[dU,B,A7,Am] at L<;>first|omega|exact hd
    obtain⟨r,m,l⟩:=gS h;refine close _ l fun c w f i j=>?_;rw[q] at i;rw[s] at j;rw[i.ai,j.ai];have e:=run_equalIn_bool' (P:=P) w 9999 t a b J;refine⟨.bool r,?_,.fz (.bool _)⟩;rcases m with⟨rfl,rfl⟩|⟨rfl,rfl⟩
    ·simp[eqGuard,binOp,Op.equal,Op.maxDepth,e,Bool.beq_eq_decide_eq]
    ·simp[eqGuard,binOp,Op.equal,Op.maxDepth,e,Bool.beq_eq_decide_eq]
   ·exact h.elim
  ·exact h.elim
 ·rename_i xs ys q s;split at h
  ·rename_i Q G;split at h
   ·rename_i F;simp only[A7] at F;obtain⟨r,m,l⟩:=gS h;refine close _ l fun c w f i j=>?_;rw[q] at i;rw[s] at j;obtain⟨us,e1,R⟩:=i.bM;obtain⟨vs,D,S⟩:=j.bM;have f1:=nP F.1 F.2 R S;have U:=nP F.2 F.1 S R;have e:=(O t Q G).run w f1.1 U.1;have g:=run_eqGuard_agg (P:=P) w op t x y us.toArray vs.toArray (O t Q G).guard;refine⟨.bool r,?_,.fz (.bool _)⟩;rw[e1,D];rcases m with⟨rfl,rfl⟩|⟨rfl,rfl⟩
    ·simp[g,run_eql_struct,e,f1.2]
    ·simp[g,run_neq_struct,e,f1.2]
   ·exact h.elim
  ·exact h.elim
 ·rename_i k a b q s;split at h
  ·obtain⟨rfl,h⟩:=h;refine close _ h fun c w f i j=>?_;rw[q] at i;rw[s] at j;rw[i.fY,j.aR.1];refine⟨.int k (a / 2),?_,.fz (.ik _ _)⟩;have W:min (1:Int).toNat k.bits=1:=by cases k<;>rfl
   simp only[eqGuard,binOp,Op.shift,W];simp[Int.fdiv_eq_ediv_of_nonneg]
  ·exact h.elim
 ·rename_i b q s;split at h
  ·rename_i ti p;split at h
   ·rename_i B;have C:=(E t ti p).aQ B;obtain⟨r,m,l⟩:=gS h;refine close _ l fun c w f i j=>?_;rw[q] at i;rw[s] at j;obtain⟨A,n,k,e1,D⟩:∃A n k,f x=.slice A n k/\b=A.isNone:=i.oo;rw[e1,j.ah];have e:=run_equal_slice_nil (P:=P) w t ti.elem A n k C;refine⟨.bool r,?_,.fz (.bool _)⟩;rw[D] at m;rcases m with⟨rfl,rfl⟩|⟨rfl,rfl⟩
    ·simp[eqGuard,binOp,e]
    ·simp[eqGuard,binOp,e]
   ·exact h.elim
  ·exact h.elim
 ·rename_i q s;split at h
  ·rename_i ti p;split at h
   ·rename_i B;have C:=(E t ti p).aQ B;obtain⟨r,m,l⟩:=gS h;refine close _ l fun c w f i j=>?_;rw[q] at i;rw[s] at j;obtain⟨A,n,k,e1,D⟩:∃A n k,f x=.slice A n k/\true=A.isNone:=⟨none,0,0,i.ah,rfl⟩;rw[e1,j.ah];have e:=run_equal_slice_nil (P:=P) w t ti.elem A n k C;refine⟨.bool r,?_,.fz (.bool _)⟩;rw[D] at m;rcases m with⟨rfl,rfl⟩|⟨rfl,rfl⟩
    ·simp[eqGuard,binOp,e]
    ·simp[eqGuard,binOp,e]
   ·exact h.elim
  ·exact h.elim
 ·rename_i cs q s;split at h
  ·rename_i ti p;split at h
   ·rename_i B;obtain⟨I,C⟩:=(E t ti p).bR B;obtain⟨r,m,l⟩:=gS h;refine close _ l fun c w f i j=>?_;rw[q] at i;rw[s] at j;obtain⟨T,Y,us0,e1,-,-,-⟩:=i.ld;rw[e1,j.dW];have e:=pD (P:=P) w t I (some ⟨T,Y,none⟩) C;refine⟨.bool r,?_,.fz (.bool _)⟩;rcases m with⟨rfl,rfl⟩|⟨rfl,rfl⟩
    ·simp[eqGuard,binOp,e]
    ·simp[eqGuard,binOp,e]
   ·exact h.elim
  ·exact h.elim
 ·rename_i q s;split at h
  ·rename_i ti p;split at h
   ·rename_i B;obtain⟨I,C⟩:=(E t ti p).bR B;obtain⟨r,m,l⟩:=gS h;refine close _ l fun c w f i j=>?_;rw[q] at i;rw[s] at j;rw[i.dW,j.dW];have e:=pD (P:=P) w t I none C;refine⟨.bool r,?_,.fz (.bool _)⟩;rcases m with⟨rfl,rfl⟩|⟨rfl,rfl⟩
    ·simp[eqGuard,binOp,e]
    ·simp[eqGuard,binOp,e]
   ·exact h.elim
  ·exact h.elim
 ·exact h.elim
def oU : Operand->Bool
 |.const .nilIface=>true
 |_=>false
def mr (tab:F7) (op:BinOp) (t:TypeId) (x y:AV) (K:Kt):Prop :=
 match x,y,lk tab t with
 |.br a,.br true,some ti=>ti.kind=9/\fP op a fun av=>K av [] [] []
 |_,_,_=>False
def xN (q:E5 P tab) {op:BinOp} {t v:TypeId} {x y:Operand} (b:o.op=.binOp op t x y v) (f:oU y=true) (h:mr tab op t (ev x) (ev y) K):J5 P o ev os K:=by
 unfold oU at f;split at f
 ·unfold mr at h;split at h
  ·rename_i a ti u f j;obtain⟨s,h⟩:=h;have g:=(q t ti j).gl s;obtain⟨r,k,n⟩:=gS h;refine .pure (fun c w z d=>⟨.bool r,?_,.fz (.bool _)⟩) n;have l:=d x (by simp[b,Op.operands]);rw[u] at l;have m:=d _ (by simp[b,Op.operands];exact .inr rfl);rw[f] at m;have i:z (.const .nilIface)=.nilIface:=by
    rcases m.gm with⟨e,_⟩|⟨_,_,_,e⟩
    ·exact e
    ·cases e
   rcases l.gm with⟨e1,rfl⟩|⟨A,p,e1,rfl⟩
   ·rcases k with⟨rfl,rfl⟩|⟨rfl,rfl⟩<;>cases x<;>first
     |(simp[execOp,b,eqGuard,e1,i,run_eql_nil_nil_at (P:=P) w t g,run_neq_nil_nil_at (P:=P) w t g];done)
   ·rcases k with⟨rfl,rfl⟩|⟨rfl,rfl⟩
    ·simp[execOp,b,eqGuard,e1,i,run_eql_iface_nil (P:=P) w t g]
    ·simp[execOp,b,eqGuard,e1,i,run_neq_iface_nil (P:=P) w t g]
  ·exact h.elim
 ·cases f
end
section
variable {P:Program} {tab:F7} {o:Oper} {ev:Ev} {os:Os} {K:Kt}
def oc (op:UnOp) (x:AV) (K:Kt):Prop :=
 match op,x with
 |.not,.bool b=>K (.bool (!b)) [] [] []
 |.neg,.int n=>D8 (-n)/\K (.int (-n)) [] [] []
 |_,_=>False
def xh {op:UnOp} {t:TypeId} {x:Operand} (a:o.op=.unOp op t x) (h:oc op (ev x) K):J5 P o ev os K:=by
 unfold oc at h;split at h
 ·rename_i b e;refine .pure (fun c w f d=>⟨.bool (!b),?_,.fz (.bool _)⟩) h;have:=d x (by simp[a,Op.operands]);rw[e] at this;simp[execOp,a,this.ai,Op.unary]
 ·rename_i n e;refine .pure (fun c w f d=>⟨.int .i64 (-n),?_,.fz (.int h.1)⟩) h.2;have:=d x (by simp[a,Op.operands]);rw[e] at this;simp[execOp,a,this.aR.1,Op.unary,Op.intArith,IntWalk.i64_in _ h.1]
 ·exact h.elim
def oL (x:AV) (K:Kt):Prop :=
 match x with
 |.ptr _ _=>K x [] [] []
 |.fp _=>K x [] [] []
 |.ep _ _ _ _=>K x [] [] []
 |_=>False
def xR {x:Operand} (j:o.op=.nilCheck x) (h:oL (ev x) K):J5 P o ev os K:=by
 have key:(∀(c:Ctx) (w:World) (v:Value),Rd c w v (ev x)->∃a,v=.pointer (some a))->K (ev x) [] [] []->J5 P o ev os K:=fun n k =>
  .pure (fun c w q p=>by
   have i:=p x (by simp[j,Op.operands]);obtain⟨a,l⟩:=n c w _ i;exact⟨q x,by simp[execOp,j,l],i⟩) k
 unfold oL at h;split at h
 ·rename_i f;exact key (fun c w v d=>by rw[f] at d;exact⟨_,d.bR⟩) h
 ·rename_i f;exact key (fun c w v d=>by rw[f] at d;obtain⟨b,o,us,e,_⟩:=d.ld;exact⟨_,e⟩) h
 ·rename_i f;exact key (fun c w v d=>by rw[f] at d;obtain⟨g,x,m,cap,e,_⟩:=d.gj;exact⟨_,e⟩) h
 ·exact h.elim
def nF (x:AV) (i:Nat) (K:Kt):Prop :=
 match x with
 |.aS l=>match ae i 1 l with
  |some [a]=>K a [] [] []
  |_=>False
 |_=>False
def rG {b:Type} {i:Nat} {l:List b} {a:b} (h:ae i 1 l=some [a]):l[i]?=some a:=by
 have:=po h (show 0<1 by omega);simpa using this.symm
def ua {x:Operand} {i:Nat} (d:o.op=.extract x i) (h:nF (ev x) i K):J5 P o ev os K:=by
 unfold nF at h;split at h
 ·rename_i l n;split at h
  ·rename_i a j;refine .pure (fun c w p k=>?_) h;have b:=k x (by simp[d,Op.operands]);rw[n] at b;obtain⟨us,e,f⟩:=b.dJ;obtain⟨v,m,g⟩:=f.get (rG j);exact⟨v,by simp[execOp,d,e,Instr.extract,m],g⟩
  ·exact h.elim
 ·exact h.elim
theorem jX {c:Ctx} {w:World} {b:Operand->Value}:∀{a:List Operand},(∀x∈a,Rd c w (b x) (ev x))->l8 c w (a.map b) (a.map ev)
 |[],_=>.nil
 |x::a,h=>.cons (h x o5) (jX fun y d=>h y (by simp[d]))
def mb (ev:Ev) (fn:Fn) (first a:Array Operand) (K:Kt):Prop :=
 match fn,first.toList with
 |.func f,[]=>K (.fn f (a.toList.map ev)) [] [] []
 |_,_=>False
def wT {fn:Fn} {first a:Array Operand} (e:o.op=.makeFunc fn first a) (h:mb ev fn first a K):J5 P o ev os K:=by
 unfold mb at h;split at h
 ·rename_i f d;refine .pure (fun c w b i=>⟨.func (.func f) #[] (a.toList.map b).toArray,?_,.fn (jX fun x j=>i x (by simp[e,Op.operands,d];simpa using j))⟩) h;have:first=#[]:=by simpa using d
  have g:a.map b=(a.toList.map b).toArray:=by apply Array.toList_inj.1;simp
  simp[execOp,e,Instr.makeFunc,this,g]
 ·exact h.elim
def mu {a:Type}:Nat->List a->Option (List a)
 |0,l=>some l
 |n+1,_::l=>mu n l
 |_+1,[]=>none
theorem qk {a:Type}:∀{n:Nat} {l r:List a},mu n l=some r->r=l.drop n
 |0,l,r,h=>by cases h;rfl
 |n+1,_::l,r,h=>by simpa using qk (n:=n) (l:=l) h
 |n+1,[],r,h=>by cases h
def ic : Nat->List (Nat×Nat×Bool)->Option (Nat×Nat×Bool)
 |0,a::_=>some a
 |n+1,_::l=>ic n l
 |_,[]=>none
theorem kc : ∀{n:Nat} {l:List (Nat×Nat×Bool)} {a:Nat×Nat×Bool},ic n l=some a->l[n]?=some a
 |0,a::l,b,h=>by cases h;rfl
 |n+1,_::l,a,h=>by simpa using kc (n:=n) (l:=l) h
 |0,[],a,h=>by cases h
 |n+1,[],a,h=>by cases h
def lZ (x:AV) (n:Nat):Option AV :=
 match x with
 |.ptr id off=>some (.ptr id (off+n))
 |.ep id i sz off=>some (.ep id i sz (off+n))
 |.fp a=>match mu n a with
  |some r=>some (.fp r)
  |none=>none
 |_=>none
def ph {c:Ctx} {w:World} {v:Value} {x y:AV} {n:Nat} (h:Rd c w v x) (a:lZ x n=some y):∃b p,v=.pointer (some ⟨b,p,none⟩)/\Rd c w (.pointer (some ⟨b,p+n,none⟩)) y:=by
 unfold lZ at a;split at a
 ·cases a;rw[h.bR];exact⟨_,_,rfl,.ptr rfl⟩
 ·cases a;obtain⟨g,x,m,cap,e,l⟩:=h.gj;rw[e];refine⟨_,_,rfl,?_⟩;rw[Nat.add_assoc];exact .ep l
 ·rename_i s;split at a
  ·rename_i r q;cases a;obtain⟨b,p,us,e,f,i,k⟩:=h.ld;rw[e,qk q];refine⟨b,p,rfl,.fz (.fp (us:=us.drop n) f (fun j u d=>?_) ?_)⟩
   ·rw[Ac] at d;have:=i (n+j) u d
    rwa [show p+n+j=p+(n+j) by omega]
   ·exact p8.drop k n
  ·cases a
 ·cases a
def mV (tab:F7) (s:TypeId) (x:AV) (f:Nat) (K:Kt):Prop :=
 match lk tab s with
 |some ti=>match ti.kind,ic f ti.fields with
  |1,some (off,sz,_)=>match sz,lZ x off with
   |0,_=>False
   |_+1,some y=>K y [] [] []
   |_,none=>False
  |_,_=>False
 |none=>False
def sO (z:E5 P tab) {s:TypeId} {x:Operand} {f:Nat} (m:o.op=.fieldAddr s x f) (h:mV tab s (ev x) f K):J5 P o ev os K:=by
 unfold mV at h;split at h
 ·rename_i ti k;split at h
  ·rename_i off sz n B A;split at h
   ·exact h.elim
   ·rename_i I y D F;obtain⟨l,E,g⟩:=(z s ti k).bU B;obtain⟨q,r,t,⟨i,u,v⟩,d,G,H⟩:=kJ l.toList ti.fields g f off _ n (kc A);refine .pure (fun c w J C=>?_) h;obtain⟨b,p,e,j⟩:=ph (C x (by simp[m,Op.operands])) F;refine⟨_,?_,j⟩;have a:l[f]?=some q:=by simpa using r
    simp[execOp,m,Instr.fieldAt,run_underlying E,a,Instr.sureAddr,e,fieldPlace,sizeOf,typeInfo,u,v,X9,t]
   ·exact h.elim
  ·exact h.elim
 ·exact h.elim
def fM (ti:TI) (b:List AV) (off:Nat):Option AV :=
 match ti.agg with
 |true=>match ae off ti.size b with
  |some l=>some (.agg l)
  |none=>none
 |false=>match ae off 1 b with
  |some [a]=>some a
  |_=>none
def wM {c:Type} {o n:Nat} {l:List c} (h:o+n<=l.length):∃r,ae o n l=some r:=by
 induction o generalizing l with
 |zero =>
  induction n generalizing l with
  |zero=>exact⟨[],by cases l<;>simp[ae]⟩
  |succ n ih =>
   cases l with
   |nil=>simp at h
   |cons a l =>
    obtain⟨r,b⟩:=ih (l:=l) (by simp at h⊢;omega);exact⟨a::r,by simp[ae,b]⟩
 |succ o ih =>
  cases l with
  |nil=>simp at h
  |cons a l =>
   obtain⟨r,b⟩:=ih (l:=l) (by simp at h⊢;omega);exact⟨r,by simpa[ae] using b⟩
theorem l8.ae {c:Ctx} {w:World} {vs:List Value} {a_ r:List AV} (h:l8 c w vs a_) {o n:Nat} (f:ae o n a_=some r):∃us,Go.Proofs.YtibjcppjfkamhaaGreatDoor.ae o n vs=some us/\l8 c w us r/\us.length=n:=by
 obtain⟨d,e⟩:=jE f;obtain⟨us,a⟩:=wM (o:=o) (n:=n) (l:=vs) (by rw[h.length];exact e);obtain⟨b,g⟩:=jE a;refine⟨us,a,?_,?_⟩
 ·rw[d,b];exact(h.drop o).take n
 ·rw[b,List.length_take,List.length_drop];omega
def hY {t:TypeId} {ti:TI} (k:I4 P t ti) {c:Ctx} {w:World} {us:List Value} {D:List AV} {off b p:Nat} {av:AV} (d:fM ti D off=some av) (E:l8 c w us D)
  (F:∀j u,us[j]?=some u->w.cell? ⟨b,p+j,none⟩=some u):∃v,(Instr.loadAt t (.pointer (some ⟨b,p+off,none⟩))).run P w=.ok v w/\Rd c w v av:=by
 have cells:∀{n:Nat} {r:List Value},Go.Proofs.YtibjcppjfkamhaaGreatDoor.ae off n us=some r->∀j u,r[j]?=some u->w.cell? ⟨b,p+off+j,none⟩=some u:=by
  intro n r e j u x;have y:j<n:=by
   have:=(AF.1 x).1;rw[(jE e).1,List.length_take] at this;omega
  rw[po e y] at x;rw[Nat.add_assoc];exact F _ u x
 unfold fM at d;split at d
 ·rename_i f;split at d
  ·rename_i l e;cases d;obtain⟨r,m,q,s⟩:=E.ae e;refine⟨_,k.run_load w b (p+off) r s (.inl f) (cells m),?_⟩;rw[f];exact .agg q
  ·cases d
 ·rename_i f;split at d
  ·rename_i a e;cases d;obtain⟨r,m,q,s⟩:=E.ae e;obtain⟨u,rfl⟩:=List.length_eq_one_iff.1 s;have A:ti.size=1:=by
    obtain⟨i,z,H,I,G,J,C,g⟩:=k.info;have B:=(Z5 (fun _=>False) w _ _ C).1.length;rw[<-k.zl,<-B];rw[f] at g;cases z<;>first|rfl|cases g
   refine⟨_,k.run_load w b (p+off) [u] (by rw[A];rfl) (.inr rfl) (cells m),?_⟩;rw[f];cases q with|cons h _=>exact h
  ·cases d
def mc (tab:F7) (os:Os) (t:TypeId) (x:AV) (K:Kt):Prop :=
 match lk tab t with
 |some ti=>match x with
  |.fp a=>match fM ti a 0 with
   |some av=>K av [] [] []
   |none=>False
  |.ptr id off=>match lk os id with
   |some (.box a _)=>match fM ti a off with
    |some av=>K av [id] [] []
    |none=>False
   |_=>False
  |.ep id i sz off=>match lk os id with
   |some (.row b ls _)=>match A4 sz b with
    |true=>i<ls.length/\∀a,ls[i]?=some a->match fM ti a off with
     |some av=>K av [id] [] []
     |none=>False
    |false=>False
   |_=>False
  |_=>False
 |none=>False
def wV (Q:E5 P tab) {t:TypeId} {x:Operand} (D:o.op=.load t x) (h:mc tab os t (ev x) K):J5 P o ev os K:=by
 have run:∀(r:Operand->Value) (w:World),(execOp r o).run P w=((Instr.loadAt t (r x)).run P w).andThen fun v w'=>.ok (.value v) w':=fun r w=>by simp[execOp,D]
 unfold mc at h;split at h
 ·rename_i ti G;have n:=Q t ti G;split at h
  ·rename_i M A;split at h
   ·rename_i av a;refine .pure (fun c w r z=>?_) h;have f:=z x (by simp[D,Op.operands]);rw[A] at f;obtain⟨b,p,us,e,B,C,E⟩:=f.ld;obtain⟨v,l,s⟩:=hY n a (.af E) C;exact⟨v,by rw[run,e];simp only[Nat.add_zero] at l;rw[l];rfl,s⟩
   ·exact h.elim
  ·rename_i id off A;split at h
   ·rename_i M e q;split at h
    ·rename_i av a;refine .read q (fun c w r d z=>?_) h;have f:=z x (by simp[D,Op.operands]);rw[A] at f;obtain⟨us,B,C⟩:=d;obtain⟨v,l,s⟩:=hY (b:=c.μ id) (p:=0) n a C (fun j u U=>by
      unfold World.cell?;simp only[Nat.zero_add,B];simpa using U)
     rw[Nat.zero_add] at l;exact⟨v,by rw[run,f.bR,l];rfl,s⟩
    ·exact h.elim
   ·exact h.elim
  ·rename_i id i sz off A;split at h
   ·rename_i V ls e q;split at h
    ·rename_i F;obtain rfl:=AB F;obtain⟨T,h⟩:=h;have y:ls[i]?=some ls[i]:=A8 T;have h:=h _ y;split at h
     ·rename_i av a;refine .read q (fun c w r d z=>?_) h;have f:=z x (by simp[D,Op.operands]);rw[A] at f;obtain⟨g,W,m,cap,e1,S⟩:=f.gj;obtain⟨css,B,C,E⟩:=d;have k:css[i]?=some (css[i]' d9):=A8 d9;obtain⟨I,L,H,J,X,R⟩:=B.cells k;have O:I=g/\L=W:=by rw[S] at J;injection J with e _ _;injection e with e;injection e with e N _;exact⟨e.symm,N.symm⟩
      obtain⟨rfl,rfl⟩:=O;obtain⟨v,l,s⟩:=hY (b:=I) (p:=L+i*sz) n a (.af (E i _ _ k y)) R;exact⟨v,by rw[run,e1,l];rfl,s⟩
     ·exact h.elim
    ·exact h.elim
   ·exact h.elim
  ·exact h.elim
 ·exact h.elim
def oA (tab:F7) (s:TypeId) (x:AV) (f:Nat) (K:Kt):Prop :=
 match lk tab s with
 |some ti=>match ti.kind,ic f ti.fields,x with
  |1,some (off,sz,true),.agg b=>match ae off sz b with
   |some l=>K (.agg l) [] [] []
   |none=>False
  |1,some (off,_,false),.agg b=>match ae off 1 b with
   |some [a]=>K a [] [] []
   |_=>False
  |_,_,_=>False
 |none=>False
def vK (M:E5 P tab) {s:TypeId} {x:Operand} {f:Nat} (t:o.op=.field s x f) (h:oA tab s (ev x) f K):J5 P o ev os K:=by
 unfold oA at h;split at h
 ·rename_i ti p;split at h
  ·rename_i off sz O E D I;split at h
   ·rename_i l F;obtain⟨m,H,j⟩:=(M s ti p).bU E;obtain⟨q,z,A,⟨i,J,L⟩,d,B,n⟩:=kJ m.toList ti.fields j f off _ _ (kc D);refine .pure (fun c w Q G=>?_) h;have b:=G x (by simp[t,Op.operands]);rw[I] at b;obtain⟨us,e,k⟩:=b.bM;obtain⟨r,u,y,R⟩:=k.ae F;have g:m[f]?=some q:=by simpa using z
    have N:=nf (P:=P) (s:=sz) w B (by rw[J];simp[L]) us off (.inl n) (.inl n);rw[n] at N;refine⟨.agg r.toArray,?_,.agg y⟩;simp[execOp,t,Instr.field,run_underlying H,g,e,asAgg,A,N,dh,(jE u).1]
   ·exact h.elim
  ·rename_i off sz O E D I;split at h
   ·rename_i a F;obtain⟨m,H,j⟩:=(M s ti p).bU E;obtain⟨q,z,A,⟨i,J,L⟩,d,B,n⟩:=kJ m.toList ti.fields j f off _ _ (kc D);refine .pure (fun c w Q G=>?_) h;have b:=G x (by simp[t,Op.operands]);rw[I] at b;obtain⟨us,e,k⟩:=b.bM;obtain⟨v,u,y⟩:=k.get (rG F);have g:m[f]?=some q:=by simpa using z
    refine⟨v,?_,y⟩;have C:(isAgg q.type).run P w=.ok false w:=by rw[<-n];cases d<;>simp[isAgg,run_underlying B,Z0]
    simp[execOp,t,Instr.field,run_underlying H,g,e,asAgg,part,C,A,u]
   ·exact h.elim
  ·exact h.elim
 ·exact h.elim
end
section
variable {P:Program} {tab:F7} {o:Oper} {ev:Ev} {os:Os} {K:Kt}
def mY (tab:F7) (os:Os) (t:TypeId) (x b:AV) (K:Kt):Prop :=
 match lk tab t,b with
 |some ti,.int i=>match ti.kind,lk tab ti.elem with
  |2,some te=>match x with
   |.sl sz ls=>match A4 sz te.size with
    |true=>0<=i/\i<ls.length/\∀a,ls[i.toNat]?=some a->bC a->K (.fp a) [] [] []
    |false=>False
   |.aG id=>match lk os id with
    |some (.row sz ls _)=>match A4 sz te.size with
     |true=>0<=i/\i<ls.length/\K (.ep id i.toNat sz 0) [id] [] []
     |false=>False
    |_=>False
   |.bo id n=>match lk os id with
    |some (.row sz ls _)=>match A4 sz te.size with
     |true=>0<=i/\i<n/\n<=ls.length/\K (.ep id i.toNat sz 0) [id] [] []
     |false=>False
    |_=>False
   |_=>False
  |3,some te=>match lZ x (i.toNat*te.size) with
   |some y=>0<=i/\i<ti.len/\K y [] [] []
   |none=>False
  |_,_=>False
 |_,_=>False
def run_indexAt_slice {t e:TypeId} {te:TI} (f:P.underlying t=some (.slice e)) (d:I4 P e te) {w:World} {b p n cap:Nat} {i:Int} (a:0<=i) (c:i<n) :
  (Instr.indexAt t (.slice (some ⟨b,p,none⟩) n cap) (.int .i64 i)).run P w=.ok (.pointer (some ⟨b,p+i.toNat*te.size,none⟩)) w:=by
 simp[Instr.indexAt,asIntOf,run_underlying f,a,c,d.aZ,X9]
def sT (R:E5 P tab) {t:TypeId} {x I:Operand} (Z:o.op=.indexAddr t x I) (h:mY tab os t (ev x) (ev I) K):J5 P o ev os K:=by
 have run:∀(d:Operand->Value) (w:World),(execOp d o).run P w=((Instr.indexAt t (d x) (d I)).run P w).andThen fun v w'=>.ok (.value v) w':=fun d w=>by simp[execOp,Z]
 have s:∀{c:Ctx} {w:World} {d:Operand->Value},(∀z∈o.op.operands.toList,Rd c w (d z) (ev z))->Rd c w (d x) (ev x)/\Rd c w (d I) (ev I):=fun f=>⟨f x (by simp[Z,Op.operands]),f I (by simp[Z,Op.operands])⟩;unfold mY at h;split at h
 ·rename_i ti i O S;split at h
  ·rename_i te Y F;have N:=(R t ti O).aQ Y;have X:=R _ te F;split at h
   ·rename_i sz ls H;split at h
    ·rename_i r;obtain rfl:=AB r;obtain⟨D,G,h⟩:=h;have l:i.toNat<ls.length:=d9;have C:ls[i.toNat]?=some ls[i.toNat]:=A8 l;refine .have (p:=bC ls[i.toNat]) (fun c w d aD f=>?_) fun M=>.pure (fun c w d f=>?_) (h _ C M)
     ·have a:=(s f).1;rw[H] at a;obtain⟨A,k,us,b,p,e,g1,g2,g3,g4,g5,W,g7⟩:=a.ff;exact(W _ _ C).bC
     obtain⟨a,B⟩:=s f;rw[H] at a;rw[S] at B;obtain⟨A,k,us,b,p,e,g1,g2,g3,g4,g5,W,g7⟩:=a.ff;obtain⟨rfl,hb⟩:=g3 d9;refine⟨_,by rw[run,e,B.aR.1,run_indexAt_slice N X D G];rfl,.fz (.fp hb (fun j u hj=>?_) (W _ _ C))⟩;exact g5 _ _ C j u hj
    ·exact h.elim
   ·rename_i id H;split at h
    ·rename_i sz ls e E;split at h
     ·rename_i r;obtain rfl:=AB r;obtain⟨D,G,h⟩:=h;refine .read E (fun c w d q f=>?_) h;obtain⟨a,B⟩:=s f;rw[H] at a;rw[S] at B;obtain⟨A,n,cap,e1,L,_,_⟩:=a.aj;obtain⟨css,q1,q2,q3⟩:=q;have l:0<css.length:=d9;obtain⟨g,x',J,Q,hg,_⟩:=q1.cells (A8 l);rw[L] at Q;injection Q with T U V
      subst T U V;refine⟨_,by rw[run,e1,B.aR.1,run_indexAt_slice N X D d9];rfl,?_⟩;exact .ep (off:=0) L
     ·exact h.elim
    ·exact h.elim
   ·rename_i id n H;split at h
    ·rename_i sz ls e E;split at h
     ·rename_i r;obtain rfl:=AB r;obtain⟨D,G,h2,h⟩:=h;refine .read E (fun c w d q f=>?_) h;obtain⟨a,B⟩:=s f;rw[H] at a;rw[S] at B;obtain⟨A,m,cap,e1,L,_,_⟩:=a.dj;obtain⟨css,q1,q2,q3⟩:=q;have l:0<css.length:=d9;obtain⟨g,x',J,Q,hg,_⟩:=q1.cells (A8 l);rw[L] at Q;injection Q with T U V
      subst T U V;refine⟨_,by rw[run,e1,B.aR.1,run_indexAt_slice N X D G];rfl,?_⟩;exact .ep (off:=0) L
     ·exact h.elim
    ·exact h.elim
   ·exact h.elim
  ·rename_i te Y F;split at h
   ·rename_i y hy;obtain⟨D,G,h⟩:=h;have N:=(R t ti O).eN Y;refine .pure (fun c w d f=>?_) h;obtain⟨a,B⟩:=s f;rw[S] at B;obtain⟨b,p,e,hrd⟩:=ph a hy;refine⟨_,?_,hrd⟩;rw[run,e,B.aR.1];simp[Instr.indexAt,asIntOf,run_underlying N,Instr.sureAddr,D,G,(R _ te F).aZ,X9]
   ·exact h.elim
  ·exact h.elim
 ·exact h.elim
def nr (tab:F7) (t:TypeId) (x a:AV) (K:Kt):Prop :=
 match lk tab t,x,a with
 |some ti,.str s,.int i=>match ti.kind with
  |4=>0<=i/\i<s.size/\∀u,s[i.toNat]?=some u->K (.ik .u8 u.toNat) [] [] []
  |_=>False
 |_,_,_=>False
def vG (m:E5 P tab) {t:TypeId} {x e:Operand} (b:o.op=.index t x e) (h:nr tab t (ev x) (ev e) K):J5 P o ev os K:=by
 unfold nr at h;split at h
 ·rename_i ti s i d r n;split at h
  ·rename_i p;obtain⟨l,q,h⟩:=h;have a:i.toNat<s.size:=d9;have g:s[i.toNat]?=some s[i.toNat]:=by simp[a]
   refine .pure (fun c w u f=>?_) (h _ g);have j:=f x (by simp[b,Op.operands]);have k:=f e (by simp[b,Op.operands]);rw[r] at j;rw[n] at k;refine⟨.int .u8 s[i.toNat].toNat,?_,.fz (.ik _ _)⟩;simp[execOp,b,Instr.index,asIntOf,j.aq.1,k.aR.1,run_underlying ((m t ti d).ar p),l,g]
  ·exact h.elim
 ·exact h.elim
def mo (os:Os) (x:AV) (K:Kt):Prop :=
 match x with
 |.sl _ ls=>∀n:Nat,n=ls.length->n<=maxLen->K (.int n) [] [] []
 |.a8=>K (.int 0) [] [] []
 |.str s=>s.size<=maxLen->K (.int s.size) [] [] []
 |.aG id=>match lk os id with
  |some (.row _ ls _)=>∀n:Nat,n=ls.length->n<=maxLen->K (.int n) [id] [] []
  |_=>False
 |.bo _ n=>n<=maxLen->K (.int n) [] [] []
 |.mp id=>match lk os id with
  |some (.ax l)=>∀n:Nat,n=l.length->n<=maxLen->K (.int n) [id] [] []
  |_=>False
 |_=>False
theorem bY.length {Φ:Nat->Prop} {w:World}:∀{es:List MapEntry} {l:List (AV×AV)},bY Φ w es l->es.length=l.length
 |_,_,.nil=>rfl
 |_,_,.cons _ _ t=>by simp[bY.length t]
def iF {n:Nat} (h:n<=maxLen):D8 n:=by unfold D8;simp only[maxLen] at h;omega
def xA (F:E5 P tab) {x:Operand} {t:TypeId} (H:o.op=.call { callee:=.builtin .len,args:=#[x],argTypes:=#[t] })
  (u:match lk tab t,ev x with|some ti,.str _=>ti.kind=4|some ti,.mp _=>ti.kind=8|some ti,_=>ti.kind=2|_,_=>False) (h:mo os (ev x) K):J5 P o ev os K:=by
 have g:∀{c:Ctx} {w:World} {a:Operand->Value},(∀z∈o.op.operands.toList,Rd c w (a z) (ev z))->Rd c w (a x) (ev x):=fun f=>f x (by simp[H,Op.operands,Go.Call.operands]);have i:∀(a:Operand->Value) (w:World) {A:Option Addr} {n cap:Nat} {e:TypeId},P.underlying t=some (.slice e)->a x=.slice A n cap->(execOp a o).run P w=.ok (.value (.int .i64 n)) w:=fun a w A n cap e v d=>by
  simp[execOp,H,resolve,invoke,builtin,Builtin.len_,run_underlying v,d,goInt]
 unfold mo at h;cases B:lk tab t with
 |none=>rw[B] at u;exact u.elim
 |some ti =>
  rw[B] at u;split at h
  ·rename_i sz ls d;rw[d] at u;have v:=(F t ti B).aQ u;refine .have (p:=ls.length<=maxLen) (fun c w a aD f=>?_) fun j=>.pure (fun c w a f=>?_) (h _ rfl j)
   ·have r:=g f;rw[d] at r;obtain⟨A,k,us,b,p,e,D,E,_⟩:=r.ff;omega
   ·have r:=g f;rw[d] at r;obtain⟨A,k,us,b,p,e,D,E,_⟩:=r.ff;exact⟨_,i a w v e,.fz (.int (iF j))⟩
  ·rename_i d;rw[d] at u;have v:=(F t ti B).aQ u;refine .pure (fun c w a f=>?_) h;have r:=g f;rw[d] at r;exact⟨_,i a w v r.ah,.fz (.int (by simp[D8]))⟩
  ·rename_i s d;rw[d] at u;have v:=(F t ti B).ar u;refine .have (p:=s.size<=maxLen) (fun c w a aD f=>?_) fun j=>.pure (fun c w a f=>?_) (h j)
   ·have r:=g f;rw[d] at r;exact r.aq.2
   ·have r:=g f;rw[d] at r;exact⟨_,by simp[execOp,H,resolve,invoke,builtin,Builtin.len_,run_underlying v,r.aq.1,goInt],.fz (.int (iF j))⟩
  ·rename_i id d;rw[d] at u;have v:=(F t ti B).aQ u;split at h
   ·rename_i sz ls e y;have len_:∀(c:Ctx) (w:World) (a:Operand->Value),bm c w id (.row sz ls e)->Rd c w (a x) (.aG id)->∃A cap,a x=.slice A ls.length cap/\ls.length<=maxLen:=fun c w a q r=>by
     obtain⟨A,n,cap,e1,M,U,V⟩:=r.aj;obtain⟨css,O,Q,Y⟩:=q;obtain⟨R,I,J,W,X⟩:=O.head;rw[M] at J;injection J with S L T
     exact⟨A,cap,by rw[e1,L,Q],d9⟩
    refine .have (p:=ls.length<=maxLen) (fun c w a aD f=>?_) fun j=>.read y (fun c w a q f=>?_) (h _ rfl j)
    ·have r:=g f;rw[d] at r;obtain⟨A,cap,e1,j⟩:=len_ c w a (aD.rep id _ y) r;exact j
    ·have r:=g f;rw[d] at r;obtain⟨A,cap,e1,j⟩:=len_ c w a q r;exact⟨_,i a w v e1,.fz (.int (iF j))⟩
   ·exact h.elim
  ·rename_i id n d;rw[d] at u;have v:=(F t ti B).aQ u;refine .have (p:=n<=maxLen) (fun c w a aD f=>?_) fun j=>.pure (fun c w a f=>?_) (h j)
   ·have r:=g f;rw[d] at r;obtain⟨A,m,cap,e,_,D,E,G⟩:=r.dj;omega
   ·have r:=g f;rw[d] at r;obtain⟨A,m,cap,e,_,D,E,G⟩:=r.dj;exact⟨_,i a w v e,.fz (.int (iF j))⟩
  ·rename_i id d;rw[d] at u;have v:=(F t ti B).gq u;split at h
   ·rename_i l y;refine .have (p:=l.length<=maxLen) (fun c w a aD f=>?_) fun j=>.read y (fun c w a q f=>?_) (h _ rfl j)
    ·obtain⟨es,C,D,E,G,_⟩:=aD.rep id _ y;exact G
    ·have r:=g f;rw[d] at r;obtain⟨es,C,D,E,G⟩:=q;have N:es.size=l.length:=by rw[<-E.length];simp
     refine⟨_,?_,.fz (.int (iF j))⟩;simp[execOp,H,resolve,invoke,builtin,Builtin.len_,run_underlying v,r.ir,MapKept.run_getObj_map D,goInt,N]
   ·exact h.elim
  ·exact h.elim
end
section
variable {P:Program} {tab:F7} {o:Oper} {ev:Ev} {os:Os} {K:Kt}
def nn (tab:F7) (d:Nat) (t:TypeId) (K:Kt):Prop :=
 match lk tab t with
 |some ti=>K (.ptr d 0) [] [d] [(d,.box ti.zero t)]
 |none=>False
def vH {Φ:Nat->Prop} {w:World}:∀{us:List Value} {a:List AV},X8 us a=true->AV.aY a=[]:=by
 intro us a
 fun_induction X8 us a<;>intro h<;>simp_all [AV.aY,AV.ids]
def vo (k:E5 P tab) (d:Nat) {t:TypeId} (l:o.op=.alloc t) (h:nn tab d t K):J5 P o ev os K:=by
 unfold nn at h;split at h
 ·rename_i ti g;refine fun _=>⟨_,[],_,[d],fun c w n aD p=>?_,fun _ _ h=>(by cases h),fun id a=>(by simp at a;subst a;rw[j3];rfl),h⟩;obtain⟨z,m,f,_⟩:=(k t ti g).bA w;have i:=Z5 c.Φ w _ _ f;have j:=aF.eS (c:=c) (w:=w) aD.aX d t (.af i.1) (by rw[vH (Φ:=c.Φ) (w:=w) f];simp);have e:z.cells.toList.toArray=z.cells:=o5;rw[e] at j;have b:(execOp n o).run P w=.ok (.value (.pointer (some ⟨w.heap.size,0,none⟩))) (w.alloc (.cells z.cells t)):=by
   simp[execOp,l,Instr.alloc,m,newVar,newRow]
  rw[b];exact⟨_,j,.ptr (by simp[Ctx.ag])⟩
 ·exact h.elim
def oN (d:Nat) (t:TypeId) (x:AV) (K:Kt):Prop :=
 match x.cells? with
 |some a=>match fJ [d] (AV.aY a) with
  |true=>K (.ptr d 0) [] [d] [(d,.box a t)]
  |false=>False
 |none=>False
def xL (d:Nat) {t:TypeId} {x:Operand} (i:o.op=.box t x) (h:oN d t (ev x) K):J5 P o ev os K:=by
 unfold oN at h;split at h
 ·rename_i m g;split at h
  ·rename_i k;refine fun _=>⟨_,[],_,[d],fun c w f aD l=>?_,fun _ _ h=>(by cases h),fun id a=>(by simp at a;subst a;rw[j3];rfl),h⟩;obtain⟨r,_⟩:=fH (l x (by simp[i,Op.operands])) g;have j:=aF.eS (c:=c) (w:=w) aD.aX d t r (hQ k d o5);have e:(f x).cells.toList.toArray=(f x).cells:=o5;rw[e] at j;have b:(execOp f o).run P w=.ok (.value (.pointer (some ⟨w.heap.size,0,none⟩))) (w.alloc (.cells (f x).cells t)):=by
    simp[execOp,i,Instr.box,newVar,newRow]
   rw[b];exact⟨_,j,.ptr (by simp[Ctx.ag])⟩
  ·exact h.elim
 ·exact h.elim
mutual
theorem Rf.ids {Φ:Nat->Prop} {w:World}:∀{v:Value} {a:AV},Rf Φ w v a->a.ids=[]
 |_,_,.any _=>rfl
 |_,_,.int _=>rfl
 |_,_,.ik _ _=>rfl
 |_,_,.bool _=>rfl
 |_,_,.str _=>rfl
 |_,_,.sl _ _ _ _ _ _ _ _ _ _=>rfl
 |_,_,.fp _ _ _=>rfl
 |_,_,.fn h=>p8.ids h
 |_,_,.agg h=>p8.ids h
 |_,_,.aS h=>p8.ids h
 |_,_,.a8=>rfl
 |_,_,.cz _ _ _=>rfl
 |_,_,.aL=>rfl
 |_,_,.aA=>rfl
 |_,_,.cB=>rfl
 |_,_,.cY _ _=>rfl
 |_,_,.aU _=>rfl
theorem p8.ids {Φ:Nat->Prop} {w:World}:∀{vs:List Value} {a_:List AV},p8 Φ w vs a_->AV.aY a_=[]
 |_,_,.nil=>rfl
 |_,_,.cons h t=>by simp[AV.aY,Rf.ids h,p8.ids t]
end
def jN {l:List AV}:AV.aY l=[]↔∀a∈l,a.ids=[]:=by
 induction l with
 |nil=>simp[AV.aY]
 |cons a l ih=>simp[AV.aY,ih]
def qX {f:Type}:∀{o:Nat} {a_ d c:List f} (b:List f),J2 o a_ d=some c->J2 o a_ (d++b)=some (c++b):=by
 intro o a_ d
 fun_induction J2 o a_ d with
 |case1=>intro c b h;cases h;simp[J2]
 |case2 a a_ x d r e ih=>intro c b h;cases h;simp[J2,ih b e]
 |case3=>intro c b h;cases h
 |case4 o a_ x d r e ih=>intro c b h;cases h;simp[J2,ih b e]
 |case5=>intro c b h;cases h
 |case6=>intro c b h;cases h
theorem mQ {c:Type} {a_ a b:List c}:∀(pre:List c) {o:Nat},J2 o a_ a=some b->J2 (pre.length+o) a_ (pre++a)=some (pre++b)
 |[],o,h=>by simpa using h
 |x::pre,o,h=>by
  have ih:=mQ pre h;rw[AP,Nat.succ_add];simp[J2,ih]
theorem aF.eZ {c:Ctx} {w w':World} {id sz e:Nat} {ls d:List (List AV)} {css':List (List Value)} {b:Nat} (h:H7 c w [(id,.row sz ls e)]) (f:(c.hd id).ownBlock=some b) (z:y7 w' (c.hd id) sz e css') (g:css'.length=d.length)
  (C:∀(i:Nat) (us:List Value) (p:List AV),css'[i]?=some us->d[i]?=some p->p8 c.Φ w us p) (s:∀k,k≠b->w'.heap[k]?=w.heap[k]?)
  (E:w'.heap.size=w.heap.size) (u:w'.os=w.os) (v:w'.tape=w.tape) (y:w'.output=w.output):aF c w c w' [(id,.row sz ls e)] [(id,.row sz d e)] []:=by
 have n:=h.lt id _ b (j3 _ _ _) f;have t:∀x,x=b->Touch c [(id,.row sz ls e)] [(id,.row sz d e)] x:=fun x j=>⟨id,_,j3 _ _ _,by rw[j3];rfl,by rw[j];exact f⟩;have r:∀x,c.Φ x->w'.heap[x]?=w.heap[x]?:=fun x j=>s x fun e=>n.2 (e▸j);refine⟨u,v,y,d9,fun b f=>f,fun b f=>.inl f,fun x j B=>s x fun e=>B (t x e),fun _ _=>⟨rfl,rfl⟩,⟨fun i o g=>?_,fun i o x g q=>?_,fun i F o G x l g m q=>?_,fun x j=>by have:=h.aX x j;omega⟩,fun i o x g q=>?_⟩<;>rw[j5] at g<;>split at g<;>first|(rename_i e1;subst e1;cases g)|cases g
 ·exact⟨css',z,by assumption,fun i us p D A=>(C i us p D A).mono r fun _ h=>h⟩
 ·have:x=b:=by have a:(c.hd id).ownBlock=some x:=q;rw[f] at a;injection a with e;exact e.symm
  rw[this];exact⟨d9,n.2⟩
 ·rw[G5 _ _ l] at m;cases m
 ·have:x=b:=by have a:(c.hd id).ownBlock=some x:=q;rw[f] at a;injection a with e;exact e.symm
  exact .inr (t x this)
def j1 (tab:F7) (os:Os) (t:TypeId) (x y:AV) (K:Kt):Prop :=
 match lk tab t,y.cells? with
 |some ti,some vs=>match A4 vs.length ti.size with
  |true=>match x with
   |.ptr id off=>match lk os id with
    |some (.box c e)=>match J2 off vs c with
     |some a=>K .any [id] [] [(id,.box a e)]
     |none=>False
    |_=>False
   |.ep id i sz off=>match lk os id,AV.aY vs with
    |some (.row b ls e),[]=>match A4 sz b with
     |true=>i<ls.length/\∀c,ls[i]?=some c->match J2 off vs c with
      |some a=>∃q,S9 (ls.set i a) q/\K .any [id] [] [(id,.row b q e)]
      |none=>False
     |false=>False
    |_,_=>False
   |_=>False
  |false=>False
 |_,_=>False
def mZ {t:TypeId} {ti:TI} (h:I4 P t ti) {w:World} {b p:Nat} {v:Value} (l:v.cells.toList.length=ti.size) {e:TypeId} {us c:List Value} (i:w.heap[b]?=some (.cells us.toArray e)) (d:∀u∈v.cells.toList,u.oneCell'=true)
  (j:J2 p v.cells.toList us=some c):∃w',(Instr.storeAt t (.pointer (some ⟨b,p,none⟩)) v).run P w=.ok () w'/\w'.heap[b]?=some (.cells c.toArray e)/\(∀k,k≠b->w'.heap[k]?=w.heap[k]?)/\w'.heap.size=w.heap.size/\w'.os=w.os/\w'.tape=w.tape/\w'.output=w.output:=by
 obtain⟨w',f,g⟩:=kG (P:=P) b p e v.cells.toList 0 us c w i d (by simpa using j);refine⟨w',?_,g⟩;have a:v.cells.size=ti.size:=by simpa using l
 simp[Instr.storeAt,Instr.sureAddr,storeVar,h.aZ,a,f]
def mA {sz:Nat}:∀(css:List (List Value)) (i off:Nat) (us vs b:List Value),(∀x∈css,x.length=sz)->css[i]?=some us->J2 off vs us=some b->J2 (i*sz+off) vs css.flatten=some (css.set i b).flatten:=by
 intro css i off us vs b m p v;obtain⟨D,l2⟩:=P8 v;have A:us.length=sz:=m us (AO p);have g:i<css.length:=(AF.1 p).1;have e:=P7 sz css m;have C:i*sz+sz<=css.length*sz:=by
  have:(i+1)*sz<=css.length*sz:=Nat.mul_le_mul_right _ g
  rwa [Nat.succ_mul] at this
 obtain⟨r,u⟩:=eB (i*sz+off) vs css.flatten (by rw[e];omega);rw[u];congr 1;have c:∀x∈css.set i b,x.length=sz:=fun x B=>by
  rcases List.mem_or_eq_of_mem_set B with h|h
  ·exact m x h
  ·rw[h];omega
 apply AY;intro j;rw[J4 u j];have f:=P7 sz (css.set i b) c;by_cases y:j<css.length*sz
 ·have k:0<sz:=by rcases Nat.eq_zero_or_pos sz with h|h;subst h;omega;exact h
  have hd:j / sz<css.length:=Nat.div_lt_of_lt_mul (by rwa [Nat.mul_comm] at y);have q:j % sz<sz:=Nat.mod_lt _ k;have l:j / sz*sz+j % sz=j:=by rw[Nat.mul_comm];exact Nat.div_add_mod j sz
  have f1:=ad sz css m (j / sz) (j % sz) css[j / sz] (A8 hd) q;rw[l] at f1;by_cases a:i=j / sz
  ·have d:=ad sz (css.set i b) c (j / sz) (j % sz) b (by rw[AS,Ah a,Ah g]) q;rw[l] at d;have e1:css[j / sz]=us:=by
    have s:=A8 hd;have n:css[j / sz]?=some us:=by rw[<-a];exact p
    rw[s] at n;injection n
   rw[d,f1,e1,J4 v];have z:j=i*sz+j % sz:=by rw[a];exact l.symm
   by_cases t:off<=j % sz/\j % sz<off+vs.length
   ·rw[Ah t,Ah d9];congr 1;omega
   ·rw[Ag t,Ag d9]
  ·have d:=ad sz (css.set i b) c (j / sz) (j % sz) css[j / sz] (by rw[AS,Ag a];exact A8 hd) q;rw[l] at d;rw[d,f1,Ag];rintro⟨s,n⟩;apply a;have:i*sz<=j/\j<i*sz+sz:=d9;exact(Nat.div_eq_of_lt_le d9 (by rw[Nat.succ_mul];omega)).symm
 ·have e1:css.flatten[j]?=none:=AW (by rw[e];omega);have w:(css.set i b).flatten[j]?=none:=AW (by rw[f,List.length_set];omega);rw[e1,w,Ag d9]
def rE (hT:E5 P tab) {t:TypeId} {x y:Operand} (ho:o.op=.store t x y) (h:j1 tab os t (ev x) (ev y) K):J5 P o ev os K:=by
 have Z:∀{c:Ctx} {w:World} {l:Operand->Value},(∀z∈o.op.operands.toList,Rd c w (l z) (ev z))->Rd c w (l x) (ev x)/\Rd c w (l y) (ev y):=fun G=>⟨G x (by simp[ho,Op.operands]),G y (by simp[ho,Op.operands])⟩;have run:∀(l:Operand->Value) (w w':World),(Instr.storeAt t (l x) (l y)).run P w=.ok () w'->(execOp l o).run P w=.ok .skip w':=fun l w w' h=>by simp[execOp,ho,h]
 unfold j1 at h;split at h
 ·rename_i ti vs X Y;split at h
  ·rename_i r;have r:=AB r;split at h
   ·rename_i id off hx;split at h
    ·rename_i cs e C;split at h
     ·rename_i I f;refine fun _=>⟨_,[(id,.box cs e)],_,[],fun c w l aD G=>?_,fun i ob h=>dB h C,fun _ h=>(by cases h),h⟩;obtain⟨r1,r2⟩:=Z G;rw[hx] at r1;obtain⟨us,hb,hus⟩:=aD.rep id _ (j3 _ _ _);obtain⟨rv,h1⟩:=fH r2 Y;obtain⟨rs,V,E⟩:=nO f rv hus;obtain⟨w',q1,q2,q3,q4,q5,q6,q7⟩:=mZ (P:=P) (hT t ti X) (by rw[rv.length];exact r) hb h1 V;rw[run l w w' (by rw[r1.bR];exact q1)];exact⟨c,aF.write aD q2 E q3 q4 q5 q6 q7,Rd.bZ _⟩
     ·exact h.elim
    ·exact h.elim
   ·rename_i id i sz off hx;split at h
    ·rename_i sz' ls e C S;split at h
     ·rename_i W;obtain rfl:=AB W;obtain⟨hi,h⟩:=h;have Q:ls[i]?=some ls[i]:=A8 hi;have h:=h _ Q;split at h
      ·rename_i I f;obtain⟨q0,hq0,h⟩:=h;refine fun _=>⟨_,[(id,.row sz ls e)],_,[],fun c w l aD G=>?_,fun i ob h=>dB h C,fun _ h=>(by cases h),h⟩;obtain⟨r1,r2⟩:=Z G;rw[hx] at r1;obtain⟨css,F,p2,p3⟩:=aD.rep id _ (j3 _ _ _);obtain⟨g,x0,m,cap,e1,hh⟩:=r1.gj;obtain⟨rv,h1⟩:=fH r2 Y;have j:i<css.length:=d9;have N:css[i]?=some css[i]:=A8 j;have A:=p3 i _ _ N Q;obtain⟨rs,V,E⟩:=nO f rv (.af A);have D:AV.aY I=[]:=jN.2 fun a ha=>by
        rcases k4 f a ha with h|h
        ·exact jN.1 S a h
        ·exact jN.1 A.ids a h
       rcases F.b9 with⟨hv,hn⟩|⟨g',x',p,cap',d,hv,hgb,c1,c2,c3,cx,c4⟩
       ·omega
       ·rw[hh] at hv;injection hv with H a2 a3
        injection H with H
        injection H with H a1x
        subst H a1x a3;have hx0:=cx d9;have L:=mA css i off css[i] (l y).cells.toList rs F.len N V;have hfl:=P7 sz css F.len;have O:d.toList.length=(p+cap)*sz:=by rw[<-c3];simp
        have hple:p*sz<=d.toList.length:=by rw[O];exact Nat.mul_le_mul_right _ d9
        have T:(d.toList.take (p*sz)).length=p*sz:=by rw[List.length_take];omega
        have s:d.toList=d.toList.take (p*sz)++(css.flatten++(d.toList.drop (p*sz)).drop (css.length*sz)):=by
         rw[<-c4,List.take_append_drop,List.take_append_drop]
        have B:=mQ (d.toList.take (p*sz)) (qX ((d.toList.drop (p*sz)).drop (css.length*sz)) L);rw[<-s,T] at B;have R:w.heap[g]?=some (.cells d.toList.toArray e):=by simpa using hgb
        obtain⟨w',q1,q2,q3,q4,q5,q6,q7⟩:=mZ (P:=P) (hT t ti X) (by rw[rv.length];exact r) R h1 B;rw[run l w w' (by rw[e1,hx0,Nat.add_assoc];exact q1)];have n:∀us∈css.set i rs,us.length=sz:=fun us q=>by
         rcases List.mem_or_eq_of_mem_set q with h|h
         ·exact F.len us h
         ·rw[h,(P8 V).1];exact F.len _ (List.getElem_mem j)
        have v:=P7 sz (css.set i rs) n;have J:y7 w' (c.hd id) sz e (css.set i rs):=by
         refine⟨.inr ⟨g,x0,p,cap,_,by rw[hh,List.length_set,a2],q2,by rw[List.length_set];exact c1,c2,?_,cx,?_⟩,n,fun us q=>?_⟩
         ·have e5:d.toList.length=(p+cap)*sz:=O;rw[s,A6,A6,hfl] at e5;rw[List.size_toArray,A6,A6,v,List.length_set];exact e5
         ·rw[List.toList_toArray,List.drop_left' T,List.take_left' (by rw[v])]
         ·rcases List.mem_or_eq_of_mem_set q with h|h
          ·exact F.one us h
          ·rw[h];intro u q;rcases k4 V u q with h|h
           ·exact h1 u h
           ·exact F.one _ (List.getElem_mem j) u h
        refine⟨c,aF.b8 (U:=[]) (aF.eZ aD (b:=g) (by rw[hh];rfl) J (by simpa using p2) (fun k us cs q M=>?_) q3 q4 q5 q6 q7) hq0,Rd.bZ _⟩;rw[AS] at q M;by_cases hk:i=k
        ·subst hk;rw[Ah rfl,Ah j] at q;rw[Ah rfl,Ah hi] at M;cases q;cases M;exact E.ew D
        ·rw[Ag hk] at q M;exact p3 k us cs q M
      ·exact h.elim
     ·exact h.elim
    ·exact h.elim
   ·exact h.elim
  ·exact h.elim
 ·exact h.elim
end
section
variable {P:Program} {tab:F7} {o:Oper} {ev:Ev} {os:Os} {K:Kt}
theorem bB (off:Nat):∀(vs:List Value) (k:Nat) (cells a:List Value),J2 (off+k) vs cells=some a ->
  (vs.zipIdx k).foldl (fun(m:Array Value) (c,j)=>m.setIfInBounds (off+j) c) cells.toArray=a.toArray
 |[],k,cells,a,h=>by
  have e1:cells=a:=by
   apply AY;intro j;rw[J4 h j,Ag (by simp only[List.length_nil];omega)]
  simp[e1]
 |v::vs,k,cells,a,h=>by
  obtain⟨g,d⟩:=P8 h;simp only[AP] at d;obtain⟨r,l⟩:=eB (off+(k+1)) vs (cells.set (off+k) v) (by rw[List.length_set];omega);have:r=a:=by
   apply AY;intro j;rw[J4 l j,J4 h j,AS];by_cases f:j=off+k
   ·subst f;rw[Ag d9,Ah rfl,Ah d9,Ah o5];simp
   ·by_cases b:off+k<=j/\j<off+k+(vs.length+1)
    ·rw[Ah d9,Ah (by simpa using b)];obtain⟨i,rfl⟩:∃i,j=off+k+1+i:=⟨j-(off+k+1),d9⟩;rw[show off+k+1+i-(off+(k+1))=i by omega,show off+k+1+i-(off+k)=i+1 by omega];simp
    ·rw[Ag d9,Ag (fun e=>f e.symm),Ag (by simpa using b)]
  subst this;have ih:=bB off vs (k+1) (cells.set (off+k) v) r l;simpa using ih
def iM (b:Nat->Option (Nat×Nat)):List AV->List (Nat×AV)->Option (List AV)
 |cells,[]=>some cells
 |cells,(i,a)::rest=>match b i,a.cells? with
  |some (off,size),some vs=>match A4 vs.length size with
   |true=>match J2 off vs cells with
    |some r=>iM b r rest
    |none=>none
   |false=>none
  |_,_=>none
theorem qz {c:Ctx} {w:World} {f:Nat->Option (Nat×Nat)}:∀{d:List (Nat×AV)} {cells t:List AV},iM f cells d=some t->∀{vparts:List (Nat×Value)} {us:List Value},
  vparts.length=d.length->(∀(k:Nat) (p:Nat×Value) (q:Nat×AV),vparts[k]?=some p->d[k]?=some q->p.1=q.1/\Rd c w p.2 q.2)->l8 c w us cells->(∀u∈us,u.oneCell'=true) ->
  ∃r,Instr.fill f us.toArray vparts=some r.toArray/\l8 c w r t/\∀u∈r,u.oneCell'=true
 |[],cells,t,h,vparts,us,n,_,B,x=>by
  have:vparts=[]:=AX n;subst this;cases h;exact⟨us,rfl,B,x⟩
 |(i,a)::rest,cells,t,h,[],us,n,_,_,_=>by simp at n
 |(i,a)::rest,cells,t,h,(i',v)::vrest,us,n,hp,B,x=>by
  obtain⟨e,H⟩:=hp 0 _ _ rfl rfl;simp only at e H;subst e;unfold iM at h;split at h
  ·rename_i off size vs A E;split at h
   ·rename_i m;have m:=AB m;split at h
    ·rename_i r s;obtain⟨I,y⟩:=fH H E;obtain⟨F,e1,C⟩:=nO s I B;have z:=P8 e1;obtain⟨q,M,N,O⟩:=qz h (vparts:=vrest) (us:=F) (by simpa using n) (fun k p q a b=>hp (k+1) p q (by simpa using a) (by simpa using b)) C (fun u L=>by
      rcases k4 e1 u L with h|h
      ·exact y u h
      ·exact x u h)
     refine⟨q,?_,N,O⟩;have D:v.cells.size=size:=by rw[<-m,<-I.length];simp
     have G:off+v.cells.size<=us.length:=by have:=z.2;simpa using this
     have l:=bB off v.cells.toList 0 us F (by simpa using e1);have g:v.cells.zipIdx.foldl (fun(J:Array Value) (c,j)=>J.setIfInBounds (off+j) c) us.toArray=F.toArray:=by
      rw[<-l,<-Array.foldl_toList];simp
     unfold Instr.fill;simp only[A];rw[Ag (by simp[D];omega),g];exact M
    ·cases h
   ·cases h
  ·cases h
def jg (l:List (Nat×Nat×Bool)) (i:Nat):Option (Nat×Nat) :=
 match ic i l with
 |some (off,sz,_)=>some (off,sz)
 |none=>none
def rK (size:Nat) (i:Nat):Option (Nat×Nat):=some (i*size,size)
def gW (ev:Ev):List (Nat×Operand)->List (Nat×AV)
 |[]=>[]
 |(i,x)::l=>(i,ev x)::gW ev l
def nz (tab:F7) (ev:Ev) (t:TypeId) (a:Array (Nat×Operand)) (K:Kt):Prop :=
 match lk tab t with
 |some ti=>match ti.kind,lk tab ti.elem with
  |1,_=>match iM (jg ti.fields) ti.zero (gW ev a.toList) with
   |some b=>K (.agg b) [] [] []
   |none=>False
  |3,some te=>match iM (rK te.size) ti.zero (gW ev a.toList) with
   |some b=>K (.agg b) [] [] []
   |none=>False
  |_,_=>False
 |none=>False
def qj (l:List (Nat×Operand)):gW ev l=l.map fun p=>(p.1,ev p.2):=by
 induction l with
 |nil=>rfl
 |cons p l ih=>simp[gW,ih]
def tC {w:World} (c:Array Field) (l:List (Nat×Nat×Bool)) (e:eA P c.toList l=true):(c.mapM (fun f=>do pure (f.offset,<-sizeOf f.type)):Sem (Array (Nat×Nat))).run P w=.ok (l.map fun x=>(x.1,x.2.1)).toArray w:=by
 have h:∀(c:List Field) (l:List (Nat×Nat×Bool)) (b:Array (Nat×Nat)),eA P c l=true->(c.foldlM (fun(n:Array (Nat×Nat)) (a:Field)=>Functor.map n.push (do pure (a.offset,<-sizeOf a.type))) b:Sem (Array (Nat×Nat))).run P w=.ok (b++(l.map fun x=>(x.1,x.2.1)).toArray) w:=by
  intro c
  induction c with
  |nil =>
   intro l b d;cases l with
   |nil=>simp
   |cons a l=>simp[eA] at d
  |cons f c ih =>
   intro l b d;cases l with
   |nil=>simp[eA] at d
   |cons a l =>
    obtain⟨r,m,s⟩:=a;simp only[eA,A7,Am] at d;obtain⟨⟨⟨f1,k⟩,t⟩,p⟩:=d;simp only[AZ] at k;obtain⟨i,q,g⟩:=k;have j:(sizeOf f.type).run P w=.ok m w:=by simp[sizeOf,typeInfo,q,g]
    simp only[List.foldlM_cons,Sem.run_bind,Sem.run_map,j,Result.andThen_ok,Sem.run_pure,f1,ih l _ p];simp
 rw[Array.mapM_eq_foldlM,<-Array.foldlM_toList];have:=h c.toList l #[] e;rw[this];simp
def uT (l:List (Nat×Nat×Bool)) (i:Nat):((l.map fun x=>(x.1,x.2.1)).toArray)[i]?=jg l i:=by
 have:∀(l:List (Nat×Nat×Bool)) (i:Nat),(l.map fun x=>(x.1,x.2.1))[i]?=jg l i:=by
  intro l
  induction l with
  |nil=>intro i;cases i<;>rfl
  |cons a l ih =>
   intro i;cases i with
   |zero=>rfl
   |succ i=>simpa[jg,ic] using ih i
 simpa using this l i
def w1 (H:E5 P tab) {t:TypeId} {d:Array (Nat×Operand)} (L:o.op=.build t d) (h:nz tab ev t d K):J5 P o ev os K:=by
 unfold nz at h;split at h
 ·rename_i ti C;have m:=H t ti C;have close:∀(f:Nat->Option (Nat×Nat)) (l:List AV),iM f ti.zero (gW ev d.toList)=some l->K (.agg l) [] [] [] ->
    (∀(w:World) (j:Operand->Value) (z:Value) (r:List Value),(zeroValue t).run P w=.ok z w->Instr.fill f z.cells (d.toList.map fun p=>(p.1,j p.2))=some r.toArray->(Instr.build t (d.map fun(i,x)=>(i,j x))).run P w=.ok (.agg r.toArray) w)->J5 P o ev os K:=by
   intro f l g R s;refine .pure (fun c w j S=>?_) R;obtain⟨z,u,F,T⟩:=m.bA w;have v:=Z5 c.Φ w _ _ F;rw[qj] at g;obtain⟨r,G,Q,U⟩:=qz (c:=c) (w:=w) g (vparts:=d.toList.map fun p=>(p.1,j p.2)) (us:=z.cells.toList) o5 (fun k p q M N=>by
    simp only[Aa,AZ] at M N;obtain⟨a,I,rfl⟩:=M;obtain⟨b,J,rfl⟩:=N;rw[I] at J;cases J;refine⟨rfl,S a.2 ?_⟩;rw[L];simp only[Op.operands,AL];exact⟨a,AO I,rfl⟩) (.af v.1) v.2
   have E:z.cells.toList.toArray=z.cells:=o5;rw[E] at G;exact⟨.agg r.toArray,by simp[execOp,L,s w j z r u G],.agg Q⟩
  split at h
  ·rename_i A;split at h
   ·rename_i l g;obtain⟨O,D,y⟩:=m.bU A;refine close _ l g h fun w j z r u e=>?_;rw[show jg ti.fields=(fun i=>((ti.fields.map fun x=>(x.1,x.2.1)).toArray)[i]?) from funext fun i=>(uT ti.fields i).symm] at e;have n:(d.map fun(p:Nat×Operand)=>(p.1,j p.2)).toList=d.toList.map fun p=>(p.1,j p.2):=o5;simp only[Instr.build,Sem.run_bind,u,Result.andThen_ok,run_underlying D,tC O ti.fields y];rw[n,e];simp
   ·exact h.elim
  ·rename_i te A B;split at h
   ·rename_i l g;have D:=m.eN A;refine close _ l g h fun w j z r u e=>?_;have n:(d.map fun(p:Nat×Operand)=>(p.1,j p.2)).toList=d.toList.map fun p=>(p.1,j p.2):=o5;simp only[Instr.build,Sem.run_bind,u,Result.andThen_ok,run_underlying D,(H _ te B).aZ];rw[n];rw[show rK te.size=(fun i=>some (i*te.size,te.size)) from rfl] at e;rw[e];simp
   ·exact h.elim
  ·exact h.elim
 ·exact h.elim
end
def jr (os:Os):List AV->Option (List AV×Os)
 |[]=>some ([],[])
 |.aG id::l=>match lk os id with
  |some (.row sz ls e)=>match jr os l with
   |some (r,g)=>some (.sl sz ls::r,(id,.row sz ls e)::g)
   |none=>none
  |_=>none
 |a::l=>match a.ids with
  |[]=>match jr os l with
   |some (r,g)=>some (a::r,g)
   |none=>none
  |_=>none
structure uB (os:Os) (a_ r:List AV) (g:Os):Prop where
 sub:∀id o,lk g id=some o->lk os id=some o
 ids:∀id o,lk g id=some o->o.ids=[]
 len:r.length=a_.length
 one:a_.all iT=true->r.all iT=true
 run:∀(c:Ctx) (w:World) (us:List Value),H7 c w g->l8 c w us a_->p8 (c.fz g).Φ w us r
theorem H7.tail {c:Ctx} {w:World} {os g:Os} {id:Nat} {o:Obj} (h:H7 c w ((id,o)::g)) (b:lk os id=some o) (d:∀i x,lk g i=some x->lk os i=some x):H7 c w g :=
 h.sub fun i x a=>by
  rw[j5];split
  ·rename_i e;subst e;rw[<-b,d _ _ a]
  ·exact a
def vk {c:Ctx} {os g:Os} {id:Nat} {o:Obj} (a:lk os id=some o) (j:∀i x,lk g i=some x->lk os i=some x):∀b,cU c g b->cU c ((id,o)::g) b:=by
 rintro b (d|⟨i,x,h,f⟩)
 ·exact .inl d
 ·refine .inr ⟨i,x,?_,f⟩;rw[j5];split
  ·rename_i e;subst e;rw[<-a,j _ _ h]
  ·exact h
def xD {os:Os}:∀{a_ r:List AV} {g:Os},jr os a_=some (r,g)->uB os a_ r g:=by
 intro a_
 fun_induction jr os a_ with
 |case1=>intro r g h;cases h;exact⟨fun _ _ h=>(by cases h),fun _ _ h=>(by cases h),rfl,fun h=>h,fun c w us _ h=>by cases h;exact .nil⟩
 |case2 id l sz ls e d z u m ih =>
  intro r g h;cases h;have H:=ih m;refine⟨fun i o h=>?_,fun i o h=>?_,by simp[H.len],fun h=>?_,fun c w us aD h=>?_⟩
  ·rw[j5] at h;split at h
   ·rename_i e1;subst e1;cases h;exact d
   ·exact H.sub i o h
  ·rw[j5] at h;split at h
   ·cases h;rfl
   ·exact H.ids i o h
  ·simp only[List.all_cons,A7] at h⊢;exact⟨rfl,H.one h.2⟩
  ·cases h with|cons h t =>
    have k:=aD.tail d H.sub;have p:=aD.rep id _ (j3 _ _ _);obtain⟨css,v,x,y⟩:=p;obtain⟨A,n,cap,e1,s,_⟩:=h.aj;refine .cons ?_ ((H.run c w _ k t).mono (fun _ _=>rfl) (vk d H.sub));rw[e1,<-s];exact v.rf x y (fun b q=>.inl q) fun b q=>.inr ⟨id,_,j3 _ _ _,q⟩
 |case3 id l sz ls e d m ih=>intro r g h;cases h
 |case4 id l d=>intro r g h;cases h
 |case5 a l j f z u m ih =>
  intro r g h;cases h;have H:=ih m;refine⟨H.sub,H.ids,by simp[H.len],fun h=>?_,fun c w us aD h=>?_⟩
  ·simp only[List.all_cons,A7] at h⊢;exact⟨h.1,H.one h.2⟩
  ·cases h with|cons h t=>exact .cons ((h.rf f).mono (fun _ _=>rfl) fun _ h=>.inl h) (H.run c w _ aD t)
 |case6 a l j f m ih=>intro r g h;cases h
 |case7 a l j f=>intro r g h;cases h
theorem aF.dY {c c':Ctx} {w w':World} {g need upd:Os} {news:List Nat} (h:aF c w c' w' g upd news) (m:∀id o,lk g id=some o->lk need id=some o):aF c w c' w' need upd news:=by
 have d:∀b,Touch c g upd b->Touch c need upd b:=fun b ⟨id,o,e,f,i⟩=>⟨id,o,m id o e,f,i⟩;exact⟨h.bV,h.tape,h.output,h.size,h.aX,fun b a=>(h.aV b a).imp (fun h=>h) (.imp (fun h=>h) (d b)),fun b a l=>h.aP b a fun h=>l (d b h),h.ctx,h.aD,fun id o b k j=>(h.ab id o b k j).imp (fun h=>h) (d b)⟩
theorem aF.jq {c:Ctx} {w:World} {g:Os} (aD:H7 c w g) (f:∀id o,lk g id=some o->o.ids=[]) (d:Nat) {sz:Nat} {css:List (List Value)} {ls:List (List AV)} (e:TypeId) (q:css.length=ls.length)
  (s:∀(i:Nat) (us:List Value) (l:List AV),css[i]?=some us->ls[i]?=some l->p8 (c.fz g).Φ w us l) (j:∀us∈css,us.length=sz) (n:∀us∈css,∀u∈us,u.oneCell'=true) (r:css.length<=maxLen) :
  aF c w ((c.fz g).aE d (.slice (some ⟨w.heap.size,0,none⟩) css.length css.length)) (w.alloc (.cells css.flatten.toArray e)) g ((d,.row sz ls e)::D7 g) [d]:=by
 have m:=aF.freeze aD;have t:=aF.newRow (c:=c.fz g) (w:=w) (fun b p=>m.aD.aX b p) d e q s j n r;have:=aF.trans aD m t (fun _ h=>(by cases h)) (fun id a=>(by simp at a;subst a;rw[j3];rfl)) (fun _ _ h=>(by cases h)) (fun _ _ _ _ _ h=>(by cases h)) (fun id o h _ x _=>by
  rw[C9] at h;cases k:lk (D7 g) id with
  |some y =>
   rw[k] at h;simp at h;subst h;rw[fh k];simp[Obj.ids]
  |none =>
   rw[k] at h;simp at h;rw[f id o h];simp)
 simpa using this
section
variable {P:Program} {tab:F7} {o:Oper} {ev:Ev} {os:Os} {K:Kt}
def ji (os:Os) (sz:Nat):List (List AV)->List (Nat×AV)->Option (List (List AV)×Os)
 |ls,[]=>some (ls,[])
 |ls,(i,a)::rest=>match a.cells? with
  |some vs=>match A4 vs.length sz with
   |true=>match jr os vs with
    |some (r,g)=>match J2 i [r] ls with
     |some b=>match ji os sz b rest with
      |some (q,c)=>some (q,g++c)
      |none=>none
     |none=>none
    |none=>none
   |false=>none
  |none=>none
def jB {os g c:Os} (e:∀id o,lk g id=some o->lk os id=some o) (f:∀id o,lk c id=some o->lk os id=some o):(∀id o,lk (g++c) id=some o->lk os id=some o)/\(∀id o,lk c id=some o->lk (g++c) id=some o)/\(∀id o,lk g id=some o->lk (g++c) id=some o):=by
 refine⟨fun id o h=>?_,fun id o h=>?_,fun id o h=>?_⟩
 ·rw[C9] at h;cases d:lk g id with
  |some x=>rw[d] at h;simp at h;subst h;exact e id x d
  |none=>rw[d] at h;simp at h;exact f id o h
 ·rw[C9];cases d:lk g id with
  |some x =>
   have a:=e id x d;have b:=f id o h;rw[a] at b;simpa using b
  |none=>simpa using h
 ·rw[C9,h];rfl
def ko {c:Ctx} {g a:Os} (h:∀id o,lk g id=some o->lk a id=some o):∀b,cU c g b->cU c a b:=by
 rintro b (e|⟨i,x,d,f⟩)
 ·exact .inl e
 ·exact .inr ⟨i,x,h i x d,f⟩
structure xB (os:Os) (sz:Nat) (ls:List (List AV)) (parts:List (Nat×AV)) (ls':List (List AV)) (g:Os):Prop where
 sub:∀id o,lk g id=some o->lk os id=some o
 ids:∀id o,lk g id=some o->o.ids=[]
 len:ls'.length=ls.length
 run:∀(c:Ctx) (w:World) (Φ:Nat->Prop) (vparts:List (Nat×Value)) (css:List (List Value)),H7 c w g->(∀b,cU c g b->Φ b)->vparts.length=parts.length ->
  (∀(k:Nat) (p:Nat×Value) (q:Nat×AV),vparts[k]?=some p->parts[k]?=some q->p.1=q.1/\Rd c w p.2 q.2)->css.length=ls.length->(∀us∈css,us.length=sz)->(∀us∈css,∀u∈us,u.oneCell'=true) ->
  (∀(i:Nat) (us:List Value) (cs:List AV),css[i]?=some us->ls[i]?=some cs->p8 Φ w us cs) ->
  ∃css':List (List Value),Instr.fill (fun i=>some (i*sz,sz)) css.flatten.toArray vparts=some css'.flatten.toArray/\css'.length=ls'.length/\(∀us∈css',us.length=sz)/\(∀us∈css',∀u∈us,u.oneCell'=true) /\
   (∀(i:Nat) (us:List Value) (cs:List AV),css'[i]?=some us->ls'[i]?=some cs->p8 Φ w us cs)
theorem pK {os:Os} {sz:Nat}:∀{s:List (Nat×AV)} {ls z:List (List AV)} {g:Os},ji os sz ls s=some (z,g)->xB os sz ls s z g
 |[],ls,z,g,h=>by
  cases h;refine⟨fun _ _ h=>(by cases h),fun _ _ h=>(by cases h),rfl,fun c w Φ vparts css _ _ f _ X E Q S=>?_⟩;have:vparts=[]:=AX f;subst this;exact⟨css,rfl,X,E,Q,S⟩
 |(i,a)::rest,ls,z,g,h=>by
  unfold ji at h;split at h
  ·rename_i vs Y;split at h
   ·rename_i C;have C:=AB C;split at h
    ·rename_i r g1 hr;split at h
     ·rename_i Z n;split at h
      ·rename_i q g2 hq;cases h;have F:=xD hr;have R:=pK hq;obtain⟨s1,s2,s3⟩:=jB F.sub R.sub;refine⟨s1,fun id o h=>?_,by rw[R.len,(P8 n).1],fun c w Φ vparts css aD M f hp X E Q S=>?_⟩
       ·rw[C9] at h;cases V:lk g1 id with
        |some x=>rw[V] at h;simp at h;subst h;exact F.ids id x V
        |none=>rw[V] at h;simp at h;exact R.ids id o h
       ·cases vparts with
        |nil=>simp at f
        |cons pv D =>
         obtain⟨l,v⟩:=pv;obtain⟨e,hv⟩:=hp 0 _ _ rfl rfl;simp only at e hv;subst e;obtain⟨rv,O⟩:=fH hv Y;have U:=F.run c w _ (aD.sub s3) rv;have I:p8 Φ w v.cells.toList r:=U.mono (fun _ _=>rfl) fun b T=>M b (ko s3 b T);have J:=(P8 n).2;simp only[AP,List.length_nil] at J;have u:l<css.length:=d9;have d:v.cells.toList.length=sz:=by rw[rv.length];exact C
         have B:J2 0 v.cells.toList css[l]=some v.cells.toList:=by
          obtain⟨x,hx⟩:=eB 0 v.cells.toList css[l] (by rw[d,E _ (List.getElem_mem u)];omega);rw[hx];congr 1;apply AY;intro j;rw[J4 hx j];by_cases W:j<v.cells.toList.length
          ·rw[Ah d9];simp
          ·rw[Ag d9,AW (by rw[E _ (List.getElem_mem u)];omega),AW d9]
         have m:=mA css l 0 css[l] v.cells.toList v.cells.toList E (A8 u) B;rw[Nat.add_zero] at m;have L:Z=ls.set l r:=by
          apply AY;intro j;rw[J4 n j,AS];by_cases W:l=j
          ·subst W;rw[Ah o5,Ah rfl,Ah d9];simp
          ·rw[Ag bG,Ag W]
         obtain⟨css',q1,q2,q3,q4,q5⟩:=R.run c w Φ D (css.set l v.cells.toList) (aD.sub s2) (fun b T=>M b (ko s2 b T)) (by simpa using f) (fun k p q a b=>hp (k+1) p q (by simpa using a) (by simpa using b)) (by rw[List.length_set,X,L,List.length_set])
          (fun us y=>by
           rcases List.mem_or_eq_of_mem_set y with h|h
           ·exact E us h
           ·rw[h];exact d) (fun us y=>by
           rcases List.mem_or_eq_of_mem_set y with h|h
           ·exact Q us h
           ·rw[h];exact O) (fun k us N y G=>by
           rw[L] at G;rw[AS] at y G;by_cases hk:l=k
           ·subst hk;rw[Ah rfl,Ah u] at y;rw[Ah rfl,Ah d9] at G;cases y;cases G;exact I
           ·rw[Ag hk] at y G;exact S k us N y G)
         refine⟨css',?_,q2,q3,q4,q5⟩;have f:v.cells.size=sz:=by simpa using d
         have A:=bB (l*sz) v.cells.toList 0 css.flatten _ (by simpa using m);have t:v.cells.zipIdx.foldl (fun(N:Array Value) (c,j)=>N.setIfInBounds (l*sz+j) c) css.flatten.toArray=(css.set l v.cells.toList).flatten.toArray:=by
          rw[<-A,<-Array.foldl_toList];simp
         have H:=(P8 m).2;unfold Instr.fill;simp only;rw[Ag (by simp only[ne_eq,f,not_true_eq_false,Aj,Bool.false_or,Am,List.size_toArray];rw[d] at H;omega),t];exact q1
      ·cases h
     ·cases h
    ·cases h
   ·cases h
  ·cases h
def mP (z:List Value) (m:Nat):(madeCells z.toArray (m*z.length)).toList=(AG m z).flatten:=by
 have e:(AG m z).flatten.length=m*z.length:=by
  have:=P7 z.length (AG m z) (fun c d=>by rw[List.eq_of_mem_replicate d])
  rwa [List.length_replicate] at this
 apply AY;intro j;by_cases f:j<m*z.length
 ·have b:0<z.length:=by rcases Nat.eq_zero_or_pos z.length with h|h;rw[h] at f;omega;exact h
  have hd:j / z.length<m:=Nat.div_lt_of_lt_mul (by rwa [Nat.mul_comm] at f);have a:j % z.length<z.length:=Nat.mod_lt _ b;have h:=ad z.length (AG m z) (fun c d=>by rw[List.eq_of_mem_replicate d]) (j / z.length) (j % z.length) z (by simp[hd]) a;have g:j / z.length*z.length+j % z.length=j:=by rw[Nat.mul_comm];exact Nat.div_add_mod j z.length
  rw[g] at h;rw[h];simp[madeCells,f,A8 a]
 ·rw[AW (by simp[madeCells];omega),AW (by rw[e];omega)]
def kI (tab:F7) (os:Os) (ev:Ev) (d:Nat) (t:TypeId) (n:Nat) (a:Array (Nat×Operand)) (K:Kt):Prop :=
 match lk tab t with
 |some ti=>match ti.kind,lk tab ti.elem with
  |2,some te=>match AD (n*te.size) 1000000,AD 1 te.size,ji os te.size (AG n te.zero) (gW ev a.toList) with
   |true,true,some (ls,g)=>∃q,S9 ls q/\K (.aG d) (g.map (·.1)) [d] ((d,.row te.size q ti.elem)::D7 g)
   |_,_,_=>False
  |_,_=>False
 |none=>False
def qE (V:E5 P tab) (d:Nat) {t:TypeId} {n:Nat} {e:Array (Nat×Operand)} (L:o.op=.buildSlice t n e) (h:kI tab os ev d t n e K):J5 P o ev os K:=by
 unfold kI at h;split at h
 ·rename_i ti S;split at h
  ·rename_i te hk R;split at h
   ·rename_i ls g A j f;have A:=AU A;have j:=AU j;have Z:=(V t ti S).aQ hk;have C:=V _ te R;rw[qj] at f;have F:=pK f;obtain⟨q0,Q,h⟩:=h;refine fun _=>⟨_,g,_,[d],fun c w G aD hr=>?_,F.sub,fun id v=>(by simp at v;subst v;rw[j3];rfl),h⟩;obtain⟨z,hz,T,hza⟩:=C.bA w;have u:=Z5 (c.fz g).Φ w _ _ T;have B:z.cells.toList.length=te.size:=by rw[u.1.length,C.zl]
    obtain⟨css',q1,q2,q3,q4,q5⟩:=F.run c w (c.fz g).Φ (e.toList.map fun p=>(p.1,G p.2)) (AG n z.cells.toList) aD (fun b h=>h) o5 (fun k p q E Y=>by
      simp only[Aa,AZ] at E Y;obtain⟨a,W,rfl⟩:=E;obtain⟨b,X,rfl⟩:=Y;rw[W] at X;cases X;refine⟨rfl,hr a.2 ?_⟩;rw[L];simp only[Op.operands,AL];exact⟨a,AO W,rfl⟩) o5 (fun us s=>by rw[List.eq_of_mem_replicate s];exact B) (fun us s=>by rw[List.eq_of_mem_replicate s];exact u.2) (fun i us cs s H=>by
      rw[List.getElem?_replicate] at s H;split at s
      ·rename_i hi;rw[Ah hi] at H;cases s;cases H;exact u.1
      ·cases s)
    have D:css'.length=n:=(by rw[q2,F.len,List.length_replicate]);have hnm:n<=n*te.size:=Nat.le_mul_of_pos_right n j;have E:=aF.jq aD F.ids d ti.elem q2 q5 q3 q4 (by rw[D];simp only[maxLen];omega);have m:(Array.range (n*te.size)).map (z.cells[· % z.cells.size]!)=(AG n z.cells.toList).flatten.toArray:=by
     have:=mP z.cells.toList n;rw[B] at this;apply Array.toList_inj.1;simpa[madeCells] using this
    have hvp:(e.map fun(p:Nat×Operand)=>(p.1,G p.2)).toList=e.toList.map fun p=>(p.1,G p.2):=o5;have y:(execOp G o).run P w=.ok (.value (.slice (some ⟨w.heap.size,0,none⟩) n n)) (w.alloc (.cells css'.flatten.toArray ti.elem)):=by
     have x:¬(n*te.size > 2 ^ 24):=d9;by_cases U:n*te.size=0
     ·have J:n=0:=by rcases Nat.mul_eq_zero.1 U with h|h;exact h;omega
      subst J;have M:e.toList=[]:=by
       cases O:e.toList with
       |nil=>rfl
       |cons a l =>
        rw[O] at f;simp only[AQ,ji,List.replicate_zero] at f;split at f
        ·split at f
         ·split at f
          ·have:∀(i:Nat) (r:List AV),J2 i [r] ([]:List (List AV))=none:=fun i r=>by cases i<;>rfl
           rw[this] at f;cases f
          ·cases f
         ·cases f
        ·cases f
      have N:e=#[]:=(by simpa using M);have I:css'=[]:=AX D;subst N I;simp[execOp,L,Instr.buildSlice,run_underlying Z,C.aZ,Instr.fill,newRow];rw[show(Array.map (fun _=>(default:Value)) (Array.range 0))=#[] from Array.eq_empty_of_size_eq_zero o5]
     ·simp only[execOp,L,Instr.buildSlice,Sem.run_bind,run_underlying Z,C.aZ,Result.andThen_ok,Ag x,Ag U,hz,Sem.run_pure,m];simp[q1,newRow]
    rw[y];refine⟨_,aF.b8 E Q,?_⟩;rw[<-D];exact .aG (by simp[Ctx.aE]) (AA _) (by rw[D];simp only[maxLen];omega)
   ·exact h.elim
  ·exact h.elim
 ·exact h.elim
def ml (tab:F7) (d:Nat) (t:TypeId) (x y:AV) (K:Kt):Prop :=
 match lk tab t,x,y with
 |some ti,.int a,.int b=>match ti.kind,lk tab ti.elem with
  |2,some te=>a=b/\0<=a/\a<=140737488355328/\a*te.bytes<=140737488355328/\∃q,S9 (AG a.toNat te.zero) q/\K (.aG d) [] [d] [(d,.row te.size q ti.elem)]
  |_,_=>False
 |_,_,_=>False
def wG (E:E5 P tab) (d:Nat) {t:TypeId} {x y:Operand} (s:o.op=.makeSlice t x y) (h:ml tab d t (ev x) (ev y) K):J5 P o ev os K:=by
 unfold ml at h;split at h
 ·rename_i ti a b B N O;split at h
  ·rename_i te L A;obtain⟨rfl,J,U,V,W,u,h⟩:=h;have M:=(E t ti B).aQ L;have D:=E _ te A;refine fun _=>⟨_,[],_,[d],fun c w S aD G=>?_,fun _ _ h=>(by cases h),fun id j=>(by simp at j;subst j;rw[j3];rfl),h⟩;obtain⟨i,z,r,v,p,Q,C,R⟩:=D.info;have g:=Z5 c.Φ w _ _ C;have n:z.cells.toList.length=te.size:=by rw[g.1.length,D.zl]
   have H:=G x (by simp[s,Op.operands]);have I:=G y (by simp[s,Op.operands]);rw[N] at H;rw[O] at I;have l:=run_make (P:=P) w t ti.elem i z M r Q .i64 .i64 a a J (Int.le_refl _) (by rw[p,Int.mul_comm];omega) d9;have e:madeCells z.cells (a.toNat*i.size)=(AG a.toNat z.cells.toList).flatten.toArray:=by
    have:=mP z.cells.toList a.toNat;rw[n] at this;apply Array.toList_inj.1;rw[v];simpa using this
   rw[e] at l;have F:=aF.newRow (c:=c) (w:=w) aD.aX d (sz:=te.size) (css:=AG a.toNat z.cells.toList) (ls:=AG a.toNat te.zero) ti.elem o5 (fun k us T f q=>by
    rw[List.getElem?_replicate] at f q;split at f
    ·rename_i r;rw[Ah r] at q;cases f;cases q;exact g.1
    ·cases f) (fun us f=>by rw[List.eq_of_mem_replicate f];exact n) (fun us f=>by rw[List.eq_of_mem_replicate f];exact g.2) (by rw[List.length_replicate];simp only[maxLen];omega)
   have m:(execOp S o).run P w=.ok (.value (.slice (some ⟨w.heap.size,0,none⟩) a.toNat a.toNat)) (w.alloc (.cells (AG a.toNat z.cells.toList).flatten.toArray ti.elem)):=by
    simp[execOp,s,H.aR.1,I.aR.1,l]
   rw[m];simp only[List.length_replicate] at F;exact⟨_,aF.b8 F u,.aG (by simp[Ctx.aE]) (AA _) (by simp only[maxLen];omega)⟩
  ·exact h.elim
 ·exact h.elim
end
section
variable {P:Program} {tab:F7} {o:Oper} {ev:Ev} {os:Os} {K:Kt}
def lO (os:Os) (sz e:Nat) (x:AV):Option (List (List AV)×Os) :=
 match x with
 |.a8=>some ([],[])
 |.aG id=>match lk os id with
  |some (.row a ls b)=>match A4 sz a,A4 e b with
   |true,true=>some (ls,[(id,.row a ls b)])
   |_,_=>none
  |_=>none
 |.bo id n=>match lk os id with
  |some (.row a ls b)=>match A4 sz a,A4 e b with
   |true,true=>some (ls.take n,[(id,.row a ls b)])
   |_,_=>none
  |_=>none
 |_=>none
def oD (os:Os) (sz:Nat) (x:AV):Option (List (List AV)×Os) :=
 match x with
 |.a8=>some ([],[])
 |.sl a ls=>match A4 sz a with
  |true=>some (ls,[])
  |false=>none
 |.aG id=>match lk os id with
  |some (.row a ls e)=>match A4 sz a with
   |true=>some (ls,[(id,.row a ls e)])
   |false=>none
  |_=>none
 |.cI id n b=>match lk os id with
  |some (.row a ls e)=>match A4 sz a,A4 sz b with
   |true,true=>some (ls.drop n,[(id,.row a ls e)])
   |_,_=>none
  |_=>none
 |_=>none
structure xb (os:Os) (sz e:Nat) (x:AV) (ls:List (List AV)) (g:Os):Prop where
 sub:∀id o,lk g id=some o->lk os id=some o
 run:∀(c:Ctx) (w:World) (v:Value),H7 c w g->Rd c w v x->(∀b,v.ownBlock=some b↔∃id o,lk g id=some o/\aK c id o b) /\
  ∃css,y7 w v sz e css/\css.length=ls.length/\∀(i:Nat) (us:List Value) (cs:List AV),css[i]?=some us->ls[i]?=some cs->p8 c.Φ w us cs
def jf {id:Nat} {ob:Obj} {c:Ctx} {b:Nat}:(∃i o,lk [(id,ob)] i=some o/\aK c i o b)↔aK c id ob b:=by
 refine⟨fun⟨i,o,a,d⟩=>?_,fun h=>⟨id,ob,j3 _ _ _,h⟩⟩;rw[j5] at a;split at a
 ·rename_i e;subst e;cases a;exact d
 ·cases a
def rV {sz e:Nat} {x:AV} {ls:List (List AV)} {g:Os} (h:lO os sz e x=some (ls,g)):xb os sz e x ls g:=by
 unfold lO at h;split at h
 ·cases h;refine⟨fun _ _ h=>(by cases h),fun c w v aD d=>⟨fun b=>⟨fun h=>?_,fun⟨_,_,h,_⟩=>(by cases h)⟩,[],⟨.inl ⟨d.ah,rfl⟩,o5,o5⟩,rfl,fun i us z h=>by simp at h⟩⟩;rw[d.ah] at h;cases h
 ·rename_i id;split at h
  ·rename_i y s D a;split at h
   ·rename_i p q;obtain rfl:=AB p;obtain rfl:=AB q;cases h;refine⟨fun i o h=>dB h a,fun c w v aD d=>?_⟩;obtain⟨A,n,cap,e1,j,B,E⟩:=d.aj;obtain⟨css,l,t,u⟩:=aD.rep id _ (j3 _ _ _);have C:v=c.hd id:=e1.trans j.symm;refine⟨fun b=>by rw[jf,C];rfl,css,by rw[C];exact l,t,u⟩
   ·cases h
  ·cases h
 ·rename_i id n;split at h
  ·rename_i y s D a;split at h
   ·rename_i p q;obtain rfl:=AB p;obtain rfl:=AB q;cases h;refine⟨fun i o h=>dB h a,fun c w v aD d=>?_⟩;obtain⟨A,m,cap,e1,j,B,E,G⟩:=d.dj;obtain⟨css,l,t,u⟩:=aD.rep id _ (j3 _ _ _);rw[j] at l;have f:v.ownBlock=(c.hd id).ownBlock:=by rw[e1,j];cases A<;>rfl
    refine⟨fun b=>by rw[jf,f];rfl,css.take n,by rw[e1];exact l.take B,by simp[t],fun i us z k r=>?_⟩;rw[List.getElem?_take] at k r;split at k
    ·rename_i F;rw[Ah F] at r;exact u i us z k r
    ·cases k
   ·cases h
  ·cases h
 ·cases h
structure xc (os:Os) (sz:Nat) (x:AV) (ls:List (List AV)) (g:Os):Prop where
 sub:∀id o,lk g id=some o->lk os id=some o
 run:∀(c:Ctx) (w:World) (v:Value),H7 c w g->Rd c w v x->Src c.Φ w sz v ls
def gx {sz:Nat} {x:AV} {ls:List (List AV)} {g:Os} (h:oD os sz x=some (ls,g)):xc os sz x ls g:=by
 unfold oD at h;split at h
 ·cases h;exact⟨fun _ _ h=>(by cases h),fun c w v aD b=>by rw[b.ah];exact Src.nil sz⟩
 ·split at h
  ·rename_i d;obtain rfl:=AB d;cases h;exact⟨fun _ _ h=>(by cases h),fun c w v aD b=>Src.jv b⟩
  ·cases h
 ·rename_i id;split at h
  ·rename_i j f s a;split at h
   ·rename_i d;obtain rfl:=AB d;cases h;refine⟨fun i o h=>dB h a,fun c w v aD b=>?_⟩;obtain⟨A,n,cap,e1,e,k,t⟩:=b.aj;rw[e1.trans e.symm];exact Src.eT (aD.rep id _ (j3 _ _ _))
   ·cases h
  ·cases h
 ·rename_i id n B;split at h
  ·rename_i j f s a;split at h
   ·rename_i d u;obtain rfl:=AB d;obtain rfl:=AB u;cases h;refine⟨fun i o h=>dB h a,fun c w v aD b=>?_⟩;obtain⟨A,m,cap,e1,e,k,t,C⟩:=b.jx;obtain⟨css,q,y,z⟩:=aD.rep id _ (j3 _ _ _);rw[e] at q;rw[e1];refine Src.cd (q.drop k) (by simp[y]) fun i us r p l=>?_;rw[Ac] at p l;exact z _ us r p l
   ·cases h
  ·cases h
 ·cases h
def nc (tab:F7) (os:Os) (d:Nat) (t c:TypeId) (x y:AV) (K:Kt):Prop :=
 match lk tab t,A4 t c with
 |some ti,true=>match ti.kind,lk tab ti.elem with
  |2,some te=>match AD 1 te.size,AD 1 te.bytes,lO os te.size ti.elem x,oD os te.size y with
   |true,true,some (ls,g),some (a,b)=>match lk g d with
    |none=>(ls.length+a.length)*te.bytes<=140737488355328/\∃q,S9 (ls++a) q/\K (.aG d) ((g++b).map (·.1)) [d] ((d,.row te.size q ti.elem)::D7 g)
    |some _=>False
   |_,_,_,_=>False
  |_,_=>False
 |_,_=>False
def ub (H:E5 P tab) (d:Nat) {t L:TypeId} {x y:Operand} (s:o.op=.call { callee:=.builtin .append,args:=#[x,y],argTypes:=#[t,L] }) (h:nc tab os d t L (ev x) (ev y) K):J5 P o ev os K:=by
 unfold nc at h;split at h
 ·rename_i ti C D;obtain rfl:=AB D;split at h
  ·rename_i te U z;split at h
   ·rename_i ls g b O a e B v;have a:=AU a;have e:=AU e;split at h
    ·rename_i r;obtain⟨Q,q0,u,h⟩:=h;have T:=rV B;have S:=gx v;obtain⟨s1,s2,s3⟩:=jB T.sub S.sub;refine fun _=>⟨_,g++O,_,[d],fun c w ρ aD I=>?_,s1,fun id j=>(by simp at j;subst j;rw[j3];rfl),h⟩;have r1:=I x (by simp[s,Op.operands,Go.Call.operands]);have r2:=I y (by simp[s,Op.operands,Go.Call.operands]);obtain⟨q,css,q1,E,q3⟩:=T.run c w _ (aD.sub s3) r1;have l:=S.run c w _ (aD.sub s2) r2;have V:css.length+b.length<=maxLen:=by
      have:(ls.length+b.length)*1<=(ls.length+b.length)*te.bytes:=Nat.mul_le_mul_left _ e;simp only[maxLen];omega
     obtain⟨v',w',G,k,X,J,Y,Z,p5⟩:=ou (P:=P) (H t ti C) U (H _ te z) a o.type q1 l (by rw[E];exact Q) V;have f:=aF.append (d:=d) (ls:=ls++b) (aD.sub s3) q r Y Z J (by simp[E,X]) (fun i us F n m=>by
      by_cases R:i<css.length
      ·rw[List.getElem?_append_left R] at n;rw[List.getElem?_append_left d9] at m;exact q3 i us F n m
      ·rw[List.getElem?_append_right d9] at n;rw[List.getElem?_append_right d9,<-E] at m;exact p5 _ us F n m)
     have p:(execOp ρ o).run P w=.ok (.value v') w':=by
      simp[execOp,s,resolve,invoke,builtin,k]
     rw[p];refine⟨_,(f.b8 u).dY s3,?_⟩;obtain⟨A,cap,W,M,N⟩:=J.head;rw[W];exact .aG (by simp[Ctx.aE]) M N
    ·exact h.elim
   ·exact h.elim
  ·exact h.elim
 ·exact h.elim
def V3 (s:ByteArray):List Int:=s.data.toList.map fun b=>(b.toNat:Int)
def tV {t u:TypeId} {ti te:TI} (hT:I4 P t ti) (R:ti.kind=2) (hE:I4 P ti.elem te) (h1:te.size=1) (Z:te.bytes=1) (f:P.underlying u=some .string) (ty:TypeId) {w:World} {hdv:Value} {css:List (List Value)}
  (h:y7 w hdv 1 ti.elem css) (s:ByteArray) (hl:css.length+s.size<=140737488355328) :
  ∃X w',(Builtin.append_ #[t,u] ty #[hdv,.string s]).run P w=.ok X w'/\y7 w' X 1 ti.elem (css++(Lib.strCells s).map fun x=>[x])/\w.grownBy w' hdv.ownBlock/\(X.ownBlock=hdv.ownBlock\/∀b,X.ownBlock=some b->w.heap.size<=b):=by
 obtain⟨i,z,Q,B,G,hz,hzo,hza⟩:=hE.info;rw[h1] at B;rw[Z] at G
 have S:=hT.aQ R;have hzs:z.cells.size=1:=by
  have:=(Z5 (fun _=>False) w _ _ hzo).1.length;rw[<-h1,<-hE.zl,<-this];simp
 have d:=Lib.strCells_length s;have c:=P7 1 css h.len;have m:∀us∈css++(Lib.strCells s).map (fun x=>[x]),us.length=1:=fun us f=>by
  rcases AT.1 f with f|f
  ·exact h.len us f
  ·obtain⟨x,_,rfl⟩:=AL.1 f;rfl
 have n:∀us∈css++(Lib.strCells s).map (fun x=>[x]),∀u∈us,u.oneCell'=true:=fun us f=>by
  rcases AT.1 f with f|f
  ·exact h.one us f
  ·obtain⟨x,U,rfl⟩:=AL.1 f;intro u T;simp only[List.mem_singleton] at T;subst T;exact Lib.strCells_oneCell s u U
 have O:∀l:List Value,(l.map fun x=>[x]).flatten=l:=fun l=>by induction l with
  |nil=>rfl
  |cons a l ih=>simp[ih]
 have q:(css++(Lib.strCells s).map (fun x=>[x])).length=css.length+s.size:=by simp[d]
 have F:∀cap:Nat,css.length+s.size<=cap->cap<=maxLen->∀C:List Value,C=css.flatten ->
   y7 (w.drew.alloc (.cells (C.toArray++(Lib.strCells s).toArray++Builtin.zeroCells z.cells (cap-(css.length+s.size))) ti.elem)) (.slice (some ⟨w.heap.size,0,none⟩) (css.length+s.size) cap) 1 ti.elem (css++(Lib.strCells s).map fun x=>[x]):=by
  rintro cap hc1 hc2 C rfl;refine⟨.inr ⟨w.heap.size,0,0,cap,_,by rw[q],kg w.drew _,by rw[q];exact hc1,d9,?_,fun _=>o5,?_⟩,m,n⟩
  ·simp only[Array.size_append,List.size_toArray,size_zeroCells,hzs,c,d];omega
  ·have e1:(css++(Lib.strCells s).map fun x=>[x]).flatten=css.flatten++Lib.strCells s:=(by rw[List.flatten_append,O]);rw[q,e1];simp only[Array.toList_append,AK,Nat.zero_mul,List.drop_zero,Nat.mul_one];rw[<-AK];have:css.length+s.size=(css.flatten++Lib.strCells s).length:=by rw[A6,c,d];omega
   rw[this];exact List.take_left
 have r:∀o:Go.Obj,w.grownBy (w.drew.alloc o) hdv.ownBlock:=fun o=>⟨rfl,rfl,rfl,o5,fun k R _=>alloc_old w.drew o R⟩;have N:=Lib.run_firstCells_string (P:=P) w 1 s;have M:css.length+s.size<=maxLen:=by simp only[maxLen];omega
 rcases h.b9 with⟨rfl,hn⟩|⟨g,x,p,D,E,rfl,hg,a1,a2,a3,U,a4⟩
 ·have e0:css=[]:=AX hn;subst e0;rcases Nat.eq_zero_or_pos s.size with L|hp
  ·have A:Lib.strCells s=[]:=AX d9;refine⟨.slice none 0 0,w,?_,by rw[A];exact h,World.grownBy.refl w _,.inl rfl⟩;rw[L,A] at N;simp[Builtin.append_,run_underlying S,run_underlying f,sizeOf,typeInfo,Q,B,Builtin.lenOf,L,N,storeCells]
  ·have W:=run_append_nil_string (P:=P) w t u ty ti.elem i z S f Q hz s d9 d9 (by rw[G];omega);have e1:(s.data.map fun b=>Value.int .u8 b.toNat)=(Lib.strCells s).toArray:=by
    apply Array.ext';simp[Lib.strCells]
   rw[e1] at W;have:=F (grownCap w s.size 0 ti.elem) (by simpa using grownCap_ge w s.size 0 ti.elem) (grownCap_le_maxLen w s.size 0 ti.elem (by simpa using M)) [] rfl;simp only[List.length_nil,Nat.zero_add,Array.empty_append] at this;exact⟨_,_,W,this,r _,.inr fun b Y=>by simp[Value.ownBlock] at Y;omega⟩
 ·have hcs:E.toList.length=(p+D)*1:=by rw[<-a3];simp
  by_cases y:css.length+s.size<=D
  ·rcases Nat.eq_zero_or_pos D with hc0|hcp
   ·have L:s.size=0:=d9;have A:Lib.strCells s=[]:=AX d9;refine⟨_,w,?_,by rw[A];simpa using h,World.grownBy.refl w _,.inl rfl⟩;rw[L,A] at N;simp[Builtin.append_,run_underlying S,run_underlying f,sizeOf,typeInfo,Q,B,Builtin.lenOf,L,N,storeCells,a1]
   ·have J:=U hcp;obtain⟨rs,I⟩:=eB (p*1+css.length*1+0) (Lib.strCells s) E.toList (by rw[d];omega);have hg':w.heap[g]?=some (.cells E.toList.toArray ti.elem):=by simpa using hg
    obtain⟨w',q1,q2,q3,q4,q5,q6,q7⟩:=kG (P:=P) g (p*1+css.length*1) ti.elem (Lib.strCells s) 0 E.toList rs w hg' (Lib.strCells_oneCell s) I;refine⟨.slice (some ⟨g,x,none⟩) (css.length+s.size) D,w',?_,⟨.inr ⟨g,x,p,D,rs.toArray,by rw[q],q2,by rw[q];exact y,a2,by rw[List.size_toArray,(P8 I).1];exact hcs,U,?_⟩,m,n⟩,⟨q5,q6,q7,d9,fun k _ R=>q3 k fun e=>R (by simp[Value.ownBlock,e])⟩,.inl rfl⟩
    ·simp[Builtin.append_,run_underlying S,run_underlying f,sizeOf,typeInfo,Q,Builtin.lenOf,y,B,N,X9,J];simp only[Nat.mul_one,Nat.add_zero] at q1;rw[q1];rfl
    ·rw[q,List.flatten_append,O];apply AY;intro j;simp only[Nat.mul_one];rw[List.getElem?_take];split
     ·rename_i V;rw[Ac];show rs[p+j]?=_;rw[J4 I];by_cases hjl:j<css.length
      ·rw[Ag d9,List.getElem?_append_left d9,<-a4,List.getElem?_take_of_lt d9,Ac];simp
      ·rw[Ah d9,List.getElem?_append_right d9,c];congr 1;omega
     ·rw[AW];rw[A6,c,d];omega
  ·have H:∀j v,css.flatten[j]?=some v->w.cell? ((⟨g,x,none⟩:Addr).add j)=some v:=fun j v V=>by
    have hlt:j<css.length*1:=by
     have:=(AF.1 V).1
     rwa [c] at this
    have J:=U d9;rw[<-a4,List.getElem?_take_of_lt hlt,Ac] at V;rw[X9,J];unfold World.cell?;rw[hg];simpa using V
   have W:=Lib.run_append_grow_string (P:=P) w t u ty ti.elem i z S f Q hz ⟨g,x,none⟩ css.length D css.flatten (by rw[B];exact c) H s d9 d9 (by rw[G];exact growslice_fits d9 d9);have:=F (grownCap w (css.length+s.size) D ti.elem) (grownCap_ge w _ D ti.elem) (grownCap_le_maxLen w _ D ti.elem M) _ rfl;exact⟨_,_,W,this,r _,.inr fun b Y=>by simp[Value.ownBlock] at Y;omega⟩
def xC : AV->Bool
 |.str _=>true
 |_=>false
def n0 (tab:F7) (os:Os) (d:Nat) (t a:TypeId) (x y:AV) (K:Kt):Prop :=
 match y,lk tab t,lk tab a with
 |.str s,some ti,some ts=>match ti.kind,ts.kind,lk tab ti.elem,lO os 1 ti.elem x with
  |2,4,some te,some (ls,g)=>match A4 te.size 1,A4 te.bytes 1,lk g d with
   |true,true,none=>ls.length+s.size<=140737488355328/\∃q,S9 (ls++(V3 s).map fun n=>[AV.ik .u8 n]) q/\K (.aG d) (g.map (·.1)) [d] ((d,.row 1 q ti.elem)::D7 g)
   |_,_,_=>False
  |_,_,_,_=>False
 |_,_,_=>False
def sd (p:E5 P tab) (d:Nat) {t H:TypeId} {x y:Operand} (z:o.op=.call { callee:=.builtin .append,args:=#[x,y],argTypes:=#[t,H] }) (h:n0 tab os d t H (ev x) (ev y) K):J5 P o ev os K:=by
 unfold n0 at h;split at h
 ·rename_i s ti ts X E F;split at h
  ·rename_i te ls g V v C D;split at h
   ·rename_i m a u;have m:=AB m;have a:=AB a;obtain⟨S,q0,B,h⟩:=h;have T:=rV D;refine fun _=>⟨_,g,_,[d],fun c w ρ aD J=>?_,T.sub,fun id j=>(by simp at j;subst j;rw[j3];rfl),h⟩;have r1:=J x (by simp[z,Op.operands,Go.Call.operands]);have M:=J y (by simp[z,Op.operands,Go.Call.operands]);rw[X] at M;obtain⟨r,css,q1,G,q3⟩:=T.run c w _ aD r1;obtain⟨v',w',k,L,Y,Z⟩:=tV (P:=P) (p t ti E) V (p _ te C) m a ((p H ts F).ar v) o.type q1 s (by rw[G];exact S);have e:=aF.append (d:=d) (ls:=ls++(V3 s).map fun n=>[AV.ik .u8 n]) aD r u Y Z L (by simp[G,V3,Lib.strCells]) (fun i us R l f=>by
     by_cases U:i<css.length
     ·rw[List.getElem?_append_left U] at l;rw[List.getElem?_append_left d9] at f;exact q3 i us R l f
     ·rw[List.getElem?_append_right d9] at l;rw[List.getElem?_append_right d9,<-G] at f;simp only[Lib.strCells,V3,List.map_map,Aa,AZ] at l f;obtain⟨b,N,rfl⟩:=l;obtain⟨b',I,rfl⟩:=f;rw[N] at I;cases I;exact .cons (.ik _ _) .nil)
    have q:(execOp ρ o).run P w=.ok (.value v') w':=by
     simp[execOp,z,resolve,invoke,builtin,M.aq.1,k]
    rw[q];refine⟨_,e.b8 B,?_⟩;obtain⟨A,cap,W,O,Q⟩:=L.head;rw[W];exact .aG (by simp[Ctx.aE]) O Q
   ·exact h.elim
  ·exact h.elim
 ·exact h.elim
end
section
variable {P:Program} {tab:F7} {o:Oper} {ev:Ev} {os:Os} {K:Kt}
def M7 (ev:Ev):Option Operand->Option AV
 |none=>none
 |some x=>some (ev x)
def o0 (tab:F7) (os:Os) (d:Nat) (t:TypeId) (x:AV) (f c:Option AV) (K:Kt):Prop :=
 match lk tab t with
 |some ti=>match x,f,c with
  |.sl sz ls,none,some (.int b)=>ti.kind=2/\(lk tab ti.elem).isSome=true/\0<=b/\b<=ls.length/\∀q,q=ls.take b.toNat->K (.sl sz q) [] [] []
  |.sl sz ls,some (.int a),none=>match lk tab ti.elem with
   |some te=>ti.kind=2/\te.size=sz/\0<=a/\a<=ls.length/\∀q,q=ls.drop a.toNat->K (.sl sz q) [] [] []
   |none=>False
  |.aG id,none,some (.int b)=>match lk os id with
   |some (.row sz ls e)=>match A4 id d with
    |false=>ti.kind=2/\(lk tab ti.elem).isSome=true/\0<=b/\b<=ls.length/\∀q,q=ls.take b.toNat->K (.aG d) [id] [d] [(d,.row sz q e),(id,.aI)]
    |true=>False
   |_=>False
  |.bo id n,none,some (.int b)=>ti.kind=2/\(lk tab ti.elem).isSome=true/\0<=b/\b<=n/\K (.bo id b.toNat) [] [] []
  |.aG id,some (.int a),none=>match lk os id,lk tab ti.elem,A4 id d with
   |some (.row sz ls e),some te,false=>ti.kind=2/\te.size=sz/\0<=a/\a<=ls.length/\(K (.cI id a.toNat sz) [id] [] []\/∀q,q=ls.drop a.toNat->K (.aG d) [id] [d] [(d,.row sz q e),(id,.aI)])
   |_,_,_=>False
  |.str s,some (.int a),some (.int b)=>ti.kind=4/\0<=a/\a<=b/\b<=s.size/\K (.str (s.extract a.toNat b.toNat)) [] [] []
  |_,_,_=>False
 |none=>False
def cE (A:Option Addr) (k cap:Nat):(if cap=0 then A else A.map (·.add (0*k)))=A:=by
 split
 ·rfl
 ·cases A<;>simp[Addr.add]
def kO {t e:TypeId} {te:TI} (f:P.underlying t=some (.slice e)) (d:I4 P e te) {w:World} {A:Option Addr} {n cap:Nat} {b:Int} (a:0<=b) (c:b<=cap) :
  (Instr.sliceAt t (.slice A n cap) none (some (.int .i64 b)) none).run P w=.ok (.slice A b.toNat cap) w:=by
 have e:=cE A te.size cap;simp only[Nat.zero_mul] at e;simp[Instr.sliceAt,run_underlying f,Instr.slice,Instr.sliceBounds,Instr.sliceBound,asIntOf,a,c,d.aZ,e]
theorem Rd.cut {c:Ctx} {w:World} {v:Value} {sz:Nat} {ls:List (List AV)} (h:Rd c w v (.sl sz ls)) {b:Nat} (u:b<=ls.length):∃A n cap,v=.slice A n cap/\ls.length<=cap/\Rd c w (.slice A b cap) (.sl sz (ls.take b)):=by
 obtain⟨A,k,us,g,p,e,j,l,m,q,r,s,t⟩:=h.ff;have f:(ls.take b).length=b:=by rw[List.length_take];omega
 refine⟨A,ls.length,k,e,j,.fz ?_⟩;have key:∀i a,(ls.take b)[i]?=some a->ls[i]?=some a:=fun i a d=>by
  rw[List.getElem?_take] at d;split at d
  ·exact d
  ·cases d
 have:=Rf.sl (Φ:=c.Φ) (w:=w) (A:=A) (c:=k) (sz:=sz) (ls:=ls.take b) us g p (by rw[f];omega) l (fun x=>m d9) (fun i a d=>q i a (key i a d)) (fun i a d=>r i a (key i a d)) (fun i a d=>s i a (key i a d)) (fun i a d=>t i a (key i a d))
 rwa [f] at this
theorem Rd.off {c:Ctx} {w:World} {v:Value} {sz:Nat} {ls:List (List AV)} (h:Rd c w v (.sl sz ls)) {a:Nat} (z:a<=ls.length):∃A cap,v=.slice A ls.length cap/\ls.length<=cap/\Rd c w (.slice (if cap=a then A else A.map (·.add (a*sz))) (ls.length-a) (cap-a)) (.sl sz (ls.drop a)):=by
 obtain⟨A,k,us,g,p,e,l,y,m,n,q,r,s⟩:=h.ff;have f:(ls.drop a).length=ls.length-a:=by rw[List.length_drop]
 refine⟨A,k,e,l,.fz ?_⟩;have key:∀i b,(ls.drop a)[i]?=some b->ls[a+i]?=some b:=fun i b d=>by rwa [Ac] at d
 have:=Rf.sl (Φ:=c.Φ) (w:=w) (A:=if k=a then A else A.map (·.add (a*sz))) (c:=k-a) (sz:=sz) (ls:=ls.drop a) (fun i=>us (a+i)) g (p+a*sz) (by rw[f];omega) d9 (fun B=>by
   obtain⟨rfl,t⟩:=m d9;rw[Ag d9];exact⟨by simp[X9],t⟩) (fun i b d=>n _ b (key i b d)) (fun i b d j u x=>by
   have:=q _ b (key i b d) j u x;rw[Nat.add_mul] at this
   rwa [show p+a*sz+i*sz+j=p+(a*sz+i*sz)+j by omega]) (fun i b d=>r _ b (key i b d)) (fun i b d=>s _ b (key i b d))
 rwa [f] at this
def mR {t e:TypeId} {te:TI} (f:P.underlying t=some (.slice e)) (d:I4 P e te) {w:World} {A:Option Addr} {n cap:Nat} {a:Int} (b:0<=a) (c:a<=n) :
  (Instr.sliceAt t (.slice A n cap) (some (.int .i64 a)) none none).run P w=.ok (.slice (if cap=a.toNat then A else A.map (·.add (a.toNat*te.size))) (n-a.toNat) (cap-a.toNat)) w:=by
 simp[Instr.sliceAt,run_underlying f,Instr.slice,Instr.sliceBounds,Instr.sliceBound,asIntOf,b,c,d.aZ]
def vQ (G:E5 P tab) (d:Nat) {t:TypeId} {x:Operand} {E y:Option Operand} (ho:o.op=.slice t x E y none) (h:o0 tab os d t (ev x) (M7 ev E) (M7 ev y) K):J5 P o ev os K:=by
 have C:∀{c:Ctx} {w:World} {k:Operand->Value},(∀z∈o.op.operands.toList,Rd c w (k z) (ev z))->Rd c w (k x) (ev x)/\(∀l,E=some l->Rd c w (k l) (ev l))/\(∀l,y=some l->Rd c w (k l) (ev l)):=fun B =>
  ⟨B x (by simp[ho,Op.operands]),fun l hl=>B l (by simp[ho,Op.operands,hl]),fun l hl=>B l (by simp[ho,Op.operands,hl])⟩
 have run:∀(k:Operand->Value) (w:World) (v:Value),(Instr.sliceAt t (k x) (E.map k) (y.map k) none).run P w=.ok v w->(execOp k o).run P w=.ok (.value v) w:=fun k w v h=>by simp[execOp,ho,h]
 unfold o0 at h;split at h
 ·rename_i ti D;split at h
  ·rename_i sz ls b I j f;obtain⟨M,q,F,X,h⟩:=h;obtain⟨te,r⟩:=Option.isSome_iff_exists.1 q;have H:=(G t ti D).aQ M;obtain⟨rfl⟩:E=none:=by cases E<;>simp_all [M7]
   cases y with
   |none=>simp[M7] at f
   |some l =>
    simp only[M7,Option.some.injEq] at f;refine .pure (fun c w k B=>?_) (h _ rfl);obtain⟨u,_,g⟩:=C B;have g:=g l rfl;rw[I] at u;rw[f] at g;obtain⟨A,n,cap,e,O,T⟩:=u.cut (b:=b.toNat) d9;refine⟨_,run k w _ ?_,T⟩;rw[e];simp only[Option.map_none,Ab,g.aR.1];exact kO H (G _ te r) F d9
  ·rename_i sz ls a I j f;split at h
   ·rename_i te r;obtain⟨M,rfl,F,X,h⟩:=h;have H:=(G t ti D).aQ M;obtain⟨rfl⟩:y=none:=by cases y<;>simp_all [M7]
    cases E with
    |none=>simp[M7] at j
    |some l =>
     simp only[M7,Option.some.injEq] at j;refine .pure (fun c w k B=>?_) (h _ rfl);obtain⟨u,g,_⟩:=C B;have g:=g l rfl;rw[I] at u;rw[j] at g;obtain⟨A,cap,e,O,T⟩:=u.off (a:=a.toNat) d9;refine⟨_,run k w _ ?_,T⟩;rw[e];simp only[Option.map_none,Ab,g.aR.1];exact mR H (G _ te r) F d9
   ·exact h.elim
  ·rename_i id b I j f;split at h
   ·rename_i sz ls e Q;split at h
    ·rename_i p;obtain⟨M,q,F,X,h⟩:=h;have p:id≠d:=fun e=>by subst e;simp at p
     obtain⟨te,r⟩:=Option.isSome_iff_exists.1 q;have H:=(G t ti D).aQ M;obtain⟨rfl⟩:E=none:=by cases E<;>simp_all [M7]
     cases y with
     |none=>simp[M7] at f
     |some l =>
      simp only[M7,Option.some.injEq] at f;refine fun _=>⟨_,[(id,.row sz ls e)],_,[d],fun c w k aD B=>?_,fun i ob h=>dB h Q,fun i y=>(by simp at y;subst y;rw[j3];rfl),h _ rfl⟩;obtain⟨u,_,g⟩:=C B;have g:=g l rfl;rw[I] at u;rw[f] at g;obtain⟨A,n,cap,e1,J,e3,W⟩:=u.aj;obtain⟨css,R,q2,q3⟩:=aD.rep id _ (j3 _ _ _);rw[J] at R;have hn:n=css.length:=by
       obtain⟨A',S,V,_,_⟩:=R.head;injection V with _ a _
      have hd:=R.take (n:=b.toNat) d9;have N:(execOp k o).run P w=.ok (.value (.slice A b.toNat cap)) w:=by
       refine run k w _ ?_;rw[e1];simp only[Option.map_none,Ab,g.aR.1];exact kO H (G _ te r) F d9
      have L:(Value.slice A b.toNat cap).ownBlock=(c.hd id).ownBlock:=by
       rw[J];cases A<;>simp[Value.ownBlock]
      have hp:=aF.append (d:=d) (w':=w) (hdv:=c.hd id) (ls:=ls.take b.toNat) aD (fun b=>by rw[jf];rfl) (by rw[G5 _ _ p];rfl) (World.grownBy.refl w _) (.inl L) hd (by simp[q2]) (fun i us cs U O=>by
       rw[List.getElem?_take] at U O;split at U
       ·rename_i Y;rw[Ah Y] at O;exact q3 _ us cs U O
       ·cases U)
      rw[N];exact⟨_,hp,.aG (by simp[Ctx.aE]) d9 d9⟩
    ·exact h.elim
   ·exact h.elim
  ·rename_i id n b I j f;obtain⟨M,q,F,X,h⟩:=h;obtain⟨te,r⟩:=Option.isSome_iff_exists.1 q;have H:=(G t ti D).aQ M;obtain⟨rfl⟩:E=none:=by cases E<;>simp_all [M7]
   cases y with
   |none=>simp[M7] at f
   |some l =>
    simp only[M7,Option.some.injEq] at f;refine .pure (fun c w k B=>?_) h;obtain⟨u,_,g⟩:=C B;have g:=g l rfl;rw[I] at u;rw[f] at g;obtain⟨A,m,cap,e1,J,e3,W,e5⟩:=u.dj;refine⟨.slice A b.toNat cap,run k w _ ?_,.bo J d9 W e5⟩;rw[e1];simp only[Option.map_none,Ab,g.aR.1];exact kO H (G _ te r) F d9
  ·rename_i id a I j f;split at h
   ·rename_i sz ls e te Q r p;obtain⟨M,rfl,F,X,h⟩:=h;have p:id≠d:=fun e=>by subst e;simp at p
    have H:=(G t ti D).aQ M;obtain⟨rfl⟩:y=none:=by cases y<;>simp_all [M7]
    cases E with
    |none=>simp[M7] at j
    |some l =>
     simp only[M7,Option.some.injEq] at j;rcases h with h|h
     ·refine .read Q (fun c w k Z B=>?_) h;obtain⟨u,g,_⟩:=C B;have g:=g l rfl;rw[I] at u;rw[j] at g;obtain⟨A,n,cap,e1,J,e3,W⟩:=u.aj;obtain⟨css,R,q2,q3⟩:=Z;obtain⟨A',S,V,_,_⟩:=R.head;rw[J] at V;injection V with a1 a2 a3
      refine⟨_,run k w _ ?_,.cI J d9 e3 W⟩;rw[e1];simp only[Option.map_none,Ab,g.aR.1];exact mR H (G _ te r) F d9
     refine fun _=>⟨_,[(id,.row te.size ls e)],_,[d],fun c w k aD B=>?_,fun i ob h=>dB h Q,fun i y=>(by simp at y;subst y;rw[j3];rfl),h _ rfl⟩;obtain⟨u,g,_⟩:=C B;have g:=g l rfl;rw[I] at u;rw[j] at g;obtain⟨A,n,cap,e1,J,e3,W⟩:=u.aj;obtain⟨css,R,q2,q3⟩:=aD.rep id _ (j3 _ _ _);rw[J] at R;have hn:n=css.length:=by
      obtain⟨A',S,V,_,_⟩:=R.head;injection V with _ a _
     have hd:=R.drop (n:=a.toNat) d9;have N:(execOp k o).run P w=.ok (.value (.slice (if cap=a.toNat then A else A.map (·.add (a.toNat*te.size))) (n-a.toNat) (cap-a.toNat))) w:=by
      refine run k w _ ?_;rw[e1];simp only[Option.map_none,Ab,g.aR.1];rw[mR H (G _ te r) F d9]
     have L:(Value.slice (if cap=a.toNat then A else A.map (·.add (a.toNat*te.size))) (n-a.toNat) (cap-a.toNat)).ownBlock=(c.hd id).ownBlock:=by
      rw[J];cases A<;>by_cases O:cap=a.toNat<;>simp[Value.ownBlock,O,Addr.add];split<;>rfl
     have hp:=aF.append (d:=d) (w':=w) (hdv:=c.hd id) (ls:=ls.drop a.toNat) aD (fun b=>by rw[jf];rfl) (by rw[G5 _ _ p];rfl) (World.grownBy.refl w _) (.inl L) hd (by simp[q2]) (fun i us cs U O=>by
      rw[Ac] at U O;exact q3 _ us cs U O)
     rw[N];exact⟨_,hp,.aG (by simp[Ctx.aE]) d9 d9⟩
   ·exact h.elim
  ·rename_i s a b I j f;obtain⟨M,F,X,h2,h⟩:=h;have H:=(G t ti D).ar M;cases E with
   |none=>simp[M7] at j
   |some l1 =>
    cases y with
    |none=>simp[M7] at f
    |some l2 =>
     simp only[M7,Option.some.injEq] at j f;refine .pure (fun c w k B=>?_) h;obtain⟨u,g,r3⟩:=C B;have g:=g l1 rfl;have r3:=r3 l2 rfl;rw[I] at u;rw[j] at g;rw[f] at r3;refine⟨.string (s.extract a.toNat b.toNat),run k w _ ?_,.fz (.str ?_)⟩
     ·rw[u.aq.1];simp only[Ab,g.aR.1,r3.aR.1];have e1:(0:Int)<=b:=d9;have J:a.toNat<=b.toNat:=d9;simp[Instr.sliceAt,run_underlying H,Instr.slice,Instr.sliceBounds,Instr.sliceBound,asIntOf,F,e1,h2];intro Y;omega
     ·have:=u.aq.2;rw[ByteArray.size_extract];omega
  ·exact h.elim
 ·exact h.elim
def oF (x y:AV) (K:Kt):Prop :=
 match x,y with
 |.int a,.int b=>K (.int (min a b)) [] [] []
 |_,_=>False
def oE (x y:AV) (K:Kt):Prop :=
 match x,y with
 |.int a,.int b=>K (.int (max a b)) [] [] []
 |_,_=>False
def xW {x y:Operand} {ts:Array TypeId} (d:o.op=.call { callee:=.builtin .min,args:=#[x,y],argTypes:=ts }) (h:oF (ev x) (ev y) K):J5 P o ev os K:=by
 unfold oF at h;split at h
 ·rename_i a b j k;refine .pure (fun c w n i=>?_) h;have f:=i x (by simp[d,Op.operands,Go.Call.operands]);have g:=i y (by simp[d,Op.operands,Go.Call.operands]);rw[j] at f;rw[k] at g;refine⟨.int .i64 (min a b),?_,.fz (.int ?_)⟩
  ·have e:(if b<a then b else a)=min a b:=by split<;>omega
   simp[execOp,d,resolve,invoke,builtin,Builtin.min_,Builtin.min2,f.aR.1,g.aR.1,e]
  ·have l:=f.aR.2;have m:=g.aR.2;unfold D8 at *;omega
 ·exact h.elim
def xJ {x y:Operand} {ts:Array TypeId} (d:o.op=.call { callee:=.builtin .max,args:=#[x,y],argTypes:=ts }) (h:oE (ev x) (ev y) K):J5 P o ev os K:=by
 unfold oE at h;split at h
 ·rename_i a b j k;refine .pure (fun c w n i=>?_) h;have f:=i x (by simp[d,Op.operands,Go.Call.operands]);have g:=i y (by simp[d,Op.operands,Go.Call.operands]);rw[j] at f;rw[k] at g;refine⟨.int .i64 (max a b),?_,.fz (.int ?_)⟩
  ·have e:(if a<b then b else a)=max a b:=by split<;>omega
   simp[execOp,d,resolve,invoke,builtin,Builtin.max_,Builtin.max2,f.aR.1,g.aR.1,e]
  ·have l:=f.aR.2;have m:=g.aR.2;unfold D8 at *;omega
 ·exact h.elim
def gd (tab:F7) (ti:TI):Bool:=A4 ti.kind 2 && match lk tab ti.elem with
 |some te=>A4 te.kind 5 && match te.ik with
  |.u8=>true
  |_=>false
 |none=>false
theorem gd.dK {P:Program} {tab:F7} (f:E5 P tab) {t:TypeId} {ti:TI} (c:I4 P t ti) (h:gd tab ti=true):P.underlying t=some (.slice ti.elem)/\P.underlying ti.elem=some (.int .u8):=by
 unfold gd at h;simp only[A7] at h;obtain⟨e,a⟩:=h;split at a
 ·rename_i te b;simp only[A7] at a;have:=(f _ te b).aR (AB a.1);have d:te.ik=.u8:=by
   have:=a.2;split at this
   ·assumption
   ·cases this
  rw[d] at this;exact⟨c.aQ (AB e),this⟩
 ·cases a
def tT {P:Program} {c:Ctx} {w:World} {d dst e:TypeId} (j:P.underlying d=some (.slice e)) (f:P.underlying e=some (.int .u8)) (hd:P.underlying dst=some .string) {v:Value} {sz:Nat} {l:List Int}
  (E:Rd c w v (.sl sz (l.map fun n=>[AV.ik .u8 n]))):(convert d dst v).run P w=.ok (.string (strOfNums l)) w/\(strOfNums l).size<=maxLen:=by
 obtain⟨A,k,us,b,o,rfl,F,G,y,z,B,C,H⟩:=E.ff;simp only[AR] at *;refine⟨?_,by rw[strOfNums_size];omega⟩;rcases Nat.eq_zero_or_pos l.length with x|D
 ·have e0:l=[]:=AX x;subst e0;cases A with
  |none=>exact run_convert_bytes_nil (P:=P) w d e j f _ _ dst hd
  |some a =>
   rw[run_convert_bytes_string (P:=P) w d dst e _ _ _ j f hd,run_bytesToString (P:=P) w a _ k [] (by simp[loadCells,loadCellsFrom])];rfl
 ·obtain⟨rfl,_⟩:=y D;refine run_convert_bytes_arg (P:=P) w d e j f b o _ k l rfl (fun i p=>?_) dst hd;have g:(l.map fun n=>[AV.ik .u8 n])[i]?=some [AV.ik .u8 l[i]]:=by simp[p]
  have q:=z i _ g;have s:=C i _ g;have r:=B i _ g;have:us i=[.int .u8 l[i]]:=by
   generalize us i=u at s;cases s with|cons h t=>cases t with|nil=>cases h with|ik=>rfl
  rw[this] at q r;have m:sz=1:=by simpa using q.symm
  subst m;have:=r 0 _ rfl;simpa[List.getD,p] using this
theorem aF.bytes {c:Ctx} {w:World} (d:∀b,c.Φ b->b<w.heap.size) (e:TypeId) (s:ByteArray):aF c w { c with Φ:=fun b=>c.Φ b\/b=w.heap.size } (Lib.bytesWorld w e s) [] [] []:=by
 have f:=Lib.bytesWorld_size w e s;refine⟨rfl,rfl,rfl,d9,fun b a=>.inl a,fun b a=>a.imp (fun h=>h) (fun h=>.inl d9),fun b a _=>Lib.bytesWorld_at_old w e s b a,fun _ _=>⟨rfl,rfl⟩,⟨fun _ _ h=>(by cases h),fun _ _ _ h=>(by cases h),fun _ _ _ _ _ _ h=>(by cases h),fun b a=>?_⟩,fun _ _ _ h=>(by cases h)⟩;rcases a with a|rfl
 ·have:=d b a;omega
 ·omega
def vX {c:Ctx} {w:World} (e:TypeId) (s:ByteArray) (p:s.size<=maxLen) (m:grownCap w s.size 0 e<=maxLen):Rd { c with Φ:=fun b=>c.Φ b\/b=w.heap.size } (Lib.bytesWorld w e s) (.slice (some ⟨w.heap.size,0,none⟩) s.size (grownCap w s.size 0 e)) (.sl 1 ((V3 s).map fun n=>[AV.ik .u8 n])):=by
 have k:((V3 s).map fun n=>[AV.ik .u8 n]).length=s.size:=by
  simp only[V3,AR,Array.length_toList];rfl
 have ga:∀(i:Nat) (a:List AV),((V3 s).map fun n=>[AV.ik .u8 n])[i]?=some a->i<s.size/\a=[AV.ik .u8 ((s.data.toList.getD i 0).toNat:Int)]:=fun i a h=>by
  have d:=(AF.1 h).1;rw[k] at d;refine⟨d,?_⟩;have f:i<s.data.toList.length:=by rw[Array.length_toList];exact d
  simp only[V3,List.map_map,Aa,A8 f,Ab,Option.some.injEq] at h;rw[<-h,List.getD_eq_getElem?_getD,A8 f];rfl
 have key:=Rf.sl (Φ:=fun b=>c.Φ b\/b=w.heap.size) (w:=Lib.bytesWorld w e s) (A:=some ⟨w.heap.size,0,none⟩) (c:=grownCap w s.size 0 e) (sz:=1) (ls:=(V3 s).map fun n=>[AV.ik .u8 n])
  (fun i=>[.int .u8 ((s.data.toList.getD i 0).toNat:Int)]) w.heap.size 0 (by rw[k];exact grownCap_ge w s.size 0 e) m (fun _=>⟨rfl,.inr rfl⟩) (fun i a h=>rfl) (fun i a h j u g=>by
   obtain⟨d,_⟩:=ga i a h
   match j,g with
   |0,g =>
    simp only[List.getElem?_cons_zero,Option.some.injEq] at g;subst g;simpa using Lib.bytesWorld_cell w e s i d) (fun i a h=>by
   obtain⟨_,rfl⟩:=ga i a h
   exact .cons (.ik _ _) .nil) (fun i a h u l=>by
   simp only[List.mem_singleton] at l;subst l;rfl)
 rw[k] at key;exact .fz key
def mm (tab:F7) (a dst:TypeId) (x:AV) (K:Kt):Prop :=
 match lk tab a,lk tab dst with
 |some c,some b=>match b.kind,b.ik,x with
  |5,.i64,.int n=>K (.int n) [] [] []
  |5,.i64,.ik _ n=>D8 n/\K (.int n) [] [] []
  |5,.u64,.int n=>0<=n/\K (.ik .u64 n) [] [] []
  |4,_,.str s=>K (.str s) [] [] []
  |4,_,.sl _ ls=>match gd tab c with
   |true=>∃l:List Int,ls=l.map (fun n=>[AV.ik .u8 n])/\K (.str (strOfNums l)) [] [] []
   |false=>False
  |2,_,.str s=>match gd tab b with
   |true=>K (.sl 1 ((V3 s).map fun n=>[AV.ik .u8 n])) [] [] []
   |false=>False
  |_,_,_=>False
 |_,_=>False
def wx (hT:E5 P tab) {src dst:TypeId} {x:Operand} (ho:o.op=.convert src dst x) (h:mm tab src dst (ev x) K):J5 P o ev os K:=by
 unfold mm at h;split at h
 ·rename_i tsr td hs hd;obtain⟨ds,hds,_⟩:=(hT src _ hs).dK;split at h
  ·rename_i n hk hik hx;have hu:=(hT dst _ hd).aR hk;rw[hik] at hu;refine .pure (fun c w ρ hr=>?_) h;have r1:=hr x (by simp[ho,Op.operands]);rw[hx] at r1;exact⟨_,by simp[execOp,ho,convert,run_underlying hds,run_underlying hu,r1.aR.1,Conv.intToInt,IntWalk.i64_in _ r1.aR.2],.fz (.int r1.aR.2)⟩
  ·rename_i k n hk hik hx;have hu:=(hT dst _ hd).aR hk;rw[hik] at hu;refine .pure (fun c w ρ hr=>?_) h.2;have r1:=hr x (by simp[ho,Op.operands]);rw[hx] at r1;exact⟨_,by simp[execOp,ho,convert,run_underlying hds,run_underlying hu,r1.fY,Conv.intToInt,IntWalk.i64_in _ h.1],.fz (.int h.1)⟩
  ·rename_i n hk hik hx;have hu:=(hT dst _ hd).aR hk;rw[hik] at hu;refine .pure (fun c w ρ hr=>?_) h.2;have r1:=hr x (by simp[ho,Op.operands]);rw[hx] at r1;have h2:=r1.aR.2;have hw:IntKind.u64.wrap n=n:=by
    unfold D8 at h2;have h0:=h.1;simp[IntKind.wrap,IntKind.bits,IntKind.signed];omega
   exact⟨_,by simp[execOp,ho,convert,run_underlying hds,run_underlying hu,r1.aR.1,Conv.intToInt,hw],.fz (.ik _ _)⟩
  ·rename_i s hk hx;have hu:=(hT dst _ hd).ar hk;refine .pure (fun c w ρ hr=>?_) h;have r1:=hr x (by simp[ho,Op.operands]);rw[hx] at r1;exact⟨.string s,by simp[execOp,ho,convert,run_underlying hds,run_underlying hu,r1.aq.1],.fz (.str r1.aq.2)⟩
  ·rename_i sz ls hk hx;have hu:=(hT dst _ hd).ar hk;split at h
   case h_2=>exact h.elim
   rename_i h8;obtain⟨l,rfl,h⟩:=h;obtain⟨u1,u2⟩:=gd.dK hT (hT src _ hs) h8;refine .pure (fun c w ρ hr=>?_) h;have r1:=hr x (by simp[ho,Op.operands]);rw[hx] at r1;obtain⟨e1,e2⟩:=tT (P:=P) u1 u2 hu r1;exact⟨_,by simp[execOp,ho,e1],.fz (.str e2)⟩
  ·rename_i s hk hx;split at h
   case h_2=>exact h.elim
   rename_i h8;obtain⟨u1,u2⟩:=gd.dK hT (hT dst _ hd) h8;refine fun _=>⟨_,[],[],[],fun c w ρ aD hr=>?_,fun _ _ h=>(by cases h),fun id hid=>(by cases hid),h⟩;have r1:=hr x (by simp[ho,Op.operands]);rw[hx] at r1;have e1:=Lib.run_convert_string_bytes (P:=P) w src dst td.elem s hds u1 u2;have hex:(execOp ρ o).run P w=.ok (.value (.slice (some ⟨w.heap.size,0,none⟩) s.size (grownCap w s.size 0 td.elem))) (Lib.bytesWorld w td.elem s):=by
    simp[execOp,ho,r1.aq.1,e1]
   rw[hex];exact⟨_,aF.bytes aD.aX td.elem s,vX td.elem s r1.aq.2 (grownCap_le_maxLen w s.size 0 td.elem r1.aq.2)⟩
  ·exact h.elim
 ·exact h.elim
def b7 (P:Program) (f:Nat):Bool :=
 match P.funcs[f]? with
 | some fn => fn.body.isSome && !(fn.name == "runtime.NumGoroutine")
 |none=>false
def Spec (P:Program) (f:Nat) (need:Os) (ins:List AV) (av:AV) (upd:Os) (news:List Nat):Prop :=
 b7 P f=true/\(∀id∈news,(lk upd id).isSome=true)/\∀(c:Ctx) (w:World) (args:Array Value),H7 c w need->l8 c w args.toList ins ->
  Calls P f args w fun e w'=>∃v c',e=.returned v/\aF c w c' w' need upd news/\Rd c' w' v av
def cw (os:Os):List AV->List AV×Os
 |[]=>([],[])
 |.aG id::l=>match lk os id with
  |some (.row sz ls e)=>(.sl sz ls::(cw os l).1,(id,.row sz ls e)::(cw os l).2)
  |_=>(.aG id::(cw os l).1,(cw os l).2)
 |.bL id::l=>match lk os id with
  |some (.nest sz e isz ie z)=>(.sl sz (dP isz z)::(cw os l).1,(id,.nest sz e isz ie z)::(cw os l).2)
  |_=>(.bL id::(cw os l).1,(cw os l).2)
 |a::l=>(a::(cw os l).1,(cw os l).2)
def J9 (os:Os):List AV->List AV×Os
 |[]=>([],[])
 |.aG id::l=>match lk os id with
  |some (.row sz ls e)=>(.sl sz ls::(J9 os l).1,(id,.row sz ls e)::(J9 os l).2)
  |_=>(.aG id::(J9 os l).1,(J9 os l).2)
 |.bL id::l=>match lk os id with
  |some (.nest sz e isz ie z)=>(.sl sz (dP isz z)::(J9 os l).1,(id,.nest sz e isz ie z)::(J9 os l).2)
  |_=>(.bL id::(J9 os l).1,(J9 os l).2)
 |.agg cs::l=>(.agg (cw os cs).1::(J9 os l).1,(cw os cs).2++(J9 os l).2)
 |a::l=>(a::(J9 os l).1,(J9 os l).2)
structure dN (os:Os) (a_ r:List AV) (g:Os):Prop where
 sub:∀id o,lk g id=some o->lk os id=some o
 ids:∀id o,lk g id=some o->o.ids=[]
 run:∀(c:Ctx) (w:World) (us:List Value),H7 c w g->l8 c w us a_->l8 (c.fz g) w us r
theorem Rd.bb {c:Ctx} {w:World} {g b:Os} (h:∀id o,lk g id=some o->lk b id=some o) {v:Value} {a:AV} (d:Rd (c.fz g) w v a):Rd (c.fz b) w v a :=
 Rd.mono (c:=c.fz g) (c':=c.fz b) (fun _ _=>rfl) (ko (c:=c) h) (fun _ _=>⟨rfl,rfl⟩) d
theorem l8.bb {c:Ctx} {w:World} {g b:Os} (h:∀id o,lk g id=some o->lk b id=some o) {v:List Value} {a:List AV} (d:l8 (c.fz g) w v a):l8 (c.fz b) w v a :=
 l8.mono (c:=c.fz g) (c':=c.fz b) (fun _ _=>rfl) (ko (c:=c) h) (fun _ _=>⟨rfl,rfl⟩) d
theorem Rd.ry {c:Ctx} {w:World} (g:Os) {v:Value} {a:AV} (b:Rd c w v a):Rd (c.fz g) w v a :=
 Rd.mono (c:=c) (c':=c.fz g) (fun _ _=>rfl) (fun _ h=>A9 h) (fun _ _=>⟨rfl,rfl⟩) b
def lB {c:Ctx} {w:World} {g:Os} {id sz e:Nat} {ls:List (List AV)} {v:Value} (aD:H7 c w g) (d:lk g id=some (.row sz ls e)) (h:Rd c w v (.aG id)):Rd (c.fz g) w v (.sl sz ls):=by
 obtain⟨css,i,j,k⟩:=aD.rep id _ d;obtain⟨A,n,cap,e1,f,_⟩:=h.aj;refine .fz ?_;rw[e1,<-f];exact i.rf j k (fun b a=>.inl a) fun b a=>.inr ⟨id,_,d,a⟩
theorem dN.dT {id:Nat} {a b:AV} {o:Obj} {l r:List AV} {g:Os} (e:lk os id=some o) (k:o.ids=[]) (f:∀(c:Ctx) (w:World) (v:Value) (g:Os),H7 c w g->lk g id=some o->Rd c w v a->Rd (c.fz g) w v b) (H:dN os l r g):dN os (a::l) (b::r) ((id,o)::g):=by
 have m:∀i x,lk ((id,o)::g) i=some x->lk os i=some x:=fun i x h=>by
  rw[j5] at h;split at h
  ·rename_i e1;subst e1;cases h;exact e
  ·exact H.sub i x h
 refine⟨m,fun i x h=>?_,fun c w us aD h=>?_⟩
 ·rw[j5] at h;split at h
  ·cases h;exact k
  ·exact H.ids i x h
 ·cases h with|cons h t =>
   have d:∀i x,lk g i=some x->lk ((id,o)::g) i=some x:=fun i x j=>by
    rw[j5];split
    ·rename_i e1;subst e1;rw[<-e,H.sub _ _ j]
    ·exact j
   exact .cons (f c w _ _ aD (j3 _ _ _) h) ((H.run c w _ (aD.sub d) t).bb d)
theorem dN.cons {id sz e:Nat} {ls:List (List AV)} {l r:List AV} {g:Os} (a:lk os id=some (.row sz ls e)) (H:dN os l r g):dN os (.aG id::l) (.sl sz ls::r) ((id,.row sz ls e)::g) :=
 .dT a rfl (fun c w v g aD b h=>lB aD b h) H
theorem I5.rf {Φ a:Nat->Prop} {w:World} {hdv:Value} {sz e:Nat} {ls:List (List AV)} (h:I5 Φ w hdv sz ls e) (c:∀b,Φ b->a b) (d:∀b,hdv.ownBlock=some b->a b):Rf a w hdv (.sl sz ls):=by
 obtain⟨css,f,g,i⟩:=h;exact f.rf g i c d
theorem p8.eX {Φ:Nat->Prop} {w:World}:∀{us:List Value} {a_:List AV} {a:AV},p8 Φ w us (a_++[a])->∃us' v,us=us'++[v]/\p8 Φ w us' a_/\Rf Φ w v a
 |_,[],_,.cons h .nil=>⟨[],_,rfl,.nil,h⟩
 |_,_::a_,a,.cons h t=>by
  obtain⟨us',v,e1,b,c⟩:=p8.eX (a_:=a_) (a:=a) t;exact⟨_::us',v,by rw[e1];rfl,.cons h b,c⟩
def rW {c:Ctx} {w:World} {g:Os} {id sz e isz ie:Nat} {l:List (List AV×List (List AV))} {v:Value} (aD:H7 c w g) (r:lk g id=some (.nest sz e isz ie l)) (u:Rd c w v (.bL id)):Rd (c.fz g) w v (.sl sz (dP isz l)):=by
 obtain⟨h,z,e0,e1,⟨css,E,F,G⟩,H,L⟩:=aD.rep id _ r;obtain⟨A,n,cap,vs,t,m,_⟩:=u.fb;have j:v=h.v:=by
  rw[e0] at m;have:h.v::z.map (·.1.v)=Value.slice A n cap::vs:=by simpa using m
  rw[t];exact(List.cons.inj this).1.symm
 have d:∀x∈cm (c.hd id),∀b,x.ownBlock=some b->cU c g b:=fun x B b a=>.inr ⟨id,_,r,x,B,a⟩;rw[e0] at d;subst e1;refine .fz ?_;rw[j];refine E.rf (Φ:=cU c g) (by simpa[cS,dP] using F) (fun i us J y q=>?_) (fun _ h=>h) fun b a=>d h.v (by simp[cm]) b a;simp only[dP,List.map_map,Aa,AZ] at q;obtain⟨p,s,rfl⟩:=q;have:=G i us (p.2.1++[.aU p.1.v]) y (by simp[cS,s]);obtain⟨us',I,rfl,C,D⟩:=this.eX;have k:I=p.1.v:=by cases D;rfl
 subst k;have f:=AO s;exact(p8.mono (fun _ _=>rfl) (fun b a=>.inl a) C).append (.cons ((H.1 (p.1,p.2.2) (AL.2 ⟨p,f,rfl⟩)).rf (fun b a=>.inl a) fun b a=>d p.1.v (by show _∈(h.v::z.map (·.1.v)).toArray.toList;exact List.mem_cons_of_mem _ (AL.2 ⟨p,f,rfl⟩)) b a) .nil)
theorem dN.skip {a:AV} {l r:List AV} {g:Os} (H:dN os l r g):dN os (a::l) (a::r) g :=
 ⟨H.sub,H.ids,fun c w us aD h=>by cases h with|cons h t=>exact .cons (h.ry g) (H.run c w _ aD t)⟩
def xP : ∀a_:List AV,dN os a_ (cw os a_).1 (cw os a_).2:=by
 intro a_
 fun_induction cw os a_ with
 |case1=>exact⟨fun _ _ h=>(by cases h),fun _ _ h=>(by cases h),fun c w us _ h=>by cases h;exact .nil⟩
 |case2 id l sz ls e b ih=>exact .cons b ih
 |case3 id l b ih=>exact .skip ih
 |case4 id l sz e isz ie z b ih=>exact .dT b rfl (fun c w v g aD f h=>rW aD f h) ih
 |case5 id l b ih=>exact .skip ih
 |case6 a l i d ih=>exact .skip ih
def qm : ∀a_:List AV,dN os a_ (J9 os a_).1 (J9 os a_).2:=by
 intro a_
 fun_induction J9 os a_ with
 |case1=>exact⟨fun _ _ h=>(by cases h),fun _ _ h=>(by cases h),fun c w us _ h=>by cases h;exact .nil⟩
 |case2 id l sz ls e b ih=>exact .cons b ih
 |case3 id l b ih=>exact .skip ih
 |case4 id l sz e isz ie z b ih=>exact .dT b rfl (fun c w v g aD d h=>rW aD d h) ih
 |case5 id l b ih=>exact .skip ih
 |case6 f l ih =>
  have C:=xP (os:=os) f;obtain⟨k,i,s3⟩:=jB C.sub ih.sub;refine⟨k,fun id o h=>?_,fun c w us aD h=>?_⟩
  ·rw[C9] at h;cases d:lk (cw os f).2 id with
   |some x=>rw[d] at h;simp at h;subst h;exact C.ids id x d
   |none=>rw[d] at h;simp at h;exact ih.ids id o h
  ·cases h with|cons h t =>
    obtain⟨vs,rfl,j⟩:=h.bM;exact .cons (.agg ((C.run c w _ (aD.sub s3) j).bb s3)) ((ih.run c w _ (aD.sub i) t).bb i)
 |case7 a l m n p ih=>exact .skip ih
def oj : AV->AV->Prop
 |.agg c,.agg d=>dw c d
 |a,b=>fa a b
def oX : List AV->List AV->Prop
 |[],[]=>True
 |a::a_,b::bs=>oj a b/\oX a_ bs
 |_,_=>False
def iq : AV->AV->Prop
 |.agg c,.agg d=>dw c d
 |.aS c,.aS d=>oX c d
 |.aL,.np _=>True
 |a,b=>fa a b
def cu : List AV->List AV->Prop
 |[],[]=>True
 |a::a_,b::bs=>iq a b/\cu a_ bs
 |_,_=>False
def ma {c:Ctx} {w:World} {v:Value} {a b:AV} (h:fa a b) (e:Rd c w v a):Rd c w v b:=by
 unfold fa at h;split at h
 ·exact Rd.bZ v
 ·rename_i sz ls;subst h;rw[e.ah];exact .fz (.sl (ls:=[]) (fun _=>[]) 0 0 (AA _) (by simp[maxLen]) (fun h=>absurd h o5) (fun i d h=>by simp at h) (fun i d h=>by simp at h) (fun i d h=>by simp at h) (fun i d h=>by simp at h))
 ·exact h▸e
theorem nT {c:Ctx} {w:World}:∀{us:List Value} {a_ a:List AV},dw a_ a->l8 c w us a_->l8 c w us a
 |_,[],[],_,.nil=>.nil
 |_,_::_,_::_,h,.cons x t=>.cons (ma h.1 x) (nT h.2 t)
def xT {c:Ctx} {w:World} {v:Value} {a b:AV} (h:oj a b) (d:Rd c w v a):Rd c w v b:=by
 unfold oj at h;split at h
 ·obtain⟨us,rfl,e⟩:=d.bM;exact .agg (nT h e)
 ·exact ma h d
theorem rA {c:Ctx} {w:World}:∀{us:List Value} {b a:List AV},oX b a->l8 c w us b->l8 c w us a
 |_,[],[],_,.nil=>.nil
 |_,_::_,_::_,h,.cons x t=>.cons (xT h.1 x) (rA h.2 t)
def mj {c:Ctx} {w:World} {v:Value} {a b:AV} (h:iq a b) (d:Rd c w v a):Rd c w v b:=by
 unfold iq at h;split at h
 ·obtain⟨us,rfl,e⟩:=d.bM;exact .agg (nT h e)
 ·obtain⟨us,rfl,e⟩:=d.dJ;exact .aS (rA h e)
 ·rw[d.dW];exact .iu
 ·exact ma h d
theorem jR {c:Ctx} {w:World}:∀{us:List Value} {a_ a:List AV},cu a_ a->l8 c w us a_->l8 c w us a
 |_,[],[],_,.nil=>.nil
 |_,_::_,_::_,h,.cons x t=>.cons (mj h.1 x) (jR h.2 t)
end
def iS (all:Os):Os->Option (Nat×Nat×Value×Obj)
 |[]=>none
 |(k,.eqv j v)::r=>match lk all k,lk all j with
  |some (.eqv a b),some (.row sz ls e)=>match A4 j a with
   |true=>some (k,j,b,.row sz ls e)
   |false=>iS all r
  |_,_=>iS all r
 |_::r=>iS all r
def uV {all:Os}:∀{l:Os} {k j:Nat} {v:Value} {o:Obj},iS all l=some (k,j,v,o)->lk all k=some (.eqv j v)/\lk all j=some o/\∃sz ls e,o=.row sz ls e:=by
 intro l
 fun_induction iS all l with
 |case1=>intro k j v o h;cases h
 |case2 k j v r f g sz ls e a b c =>
  intro i j' m o h;cases h;obtain rfl:=AB c;exact⟨b,a,_,_,_,rfl⟩
 |case3 k j v r f g sz ls e a b c ih=>exact ih
 |case4 k j v r d ih=>exact ih
 |case5 p r d ih=>exact ih
def oY (os:Os) (K:Kt):Kt:=fun av rd b c =>
 match av with
 |.aU v=>match iS os os with
  |some (k,j,d,_)=>match b,c with
   |[],[]=>v=d/\K (.aG j) (rd++[k,j]) [] []
   |_,_=>False
  |none=>K (.aU v) rd b c
 |a=>K a rd b c
section
variable {P:Program} {tab:F7} {et:Y9} {o:Oper} {ev:Ev} {os:Os} {K:Kt}
theorem bK.mono {r:Result Next} {R S:Value->World->Prop} (h:bK P r R) (a:∀v w,R v w->S v w):bK P r S:=by
 unfold bK at h⊢;split at h
 ·exact a _ _ h
 ·exact a _ _ h
 ·exact h.mono fun e w' ⟨v,b,c⟩=>⟨v,b,a _ _ c⟩
 ·exact h
theorem J5.res (h:J5 P o ev os (oY os K)):J5 P o ev os K:=by
 intro hi;obtain⟨av,need,upd,news,htri,hneed,hnews,hK⟩:=h hi;unfold oY at hK;split at hK
 ·rename_i v;split at hK
  ·rename_i k j v' x hf;split at hK
   case h_2=>exact hK.elim
   obtain⟨rfl,hK⟩:=hK;obtain⟨f1,f2,sz,ls,e,rfl⟩:=uV hf;have hsub2:∀id ob,lk [(k,Obj.eqv j v),(j,.row sz ls e)] id=some ob->lk os id=some ob:=fun id ob hl=>by
    rw[j5] at hl;split at hl
    ·rename_i e1;cases hl;rw[<-e1];exact f1
    ·exact dB hl f2
   obtain⟨s1,s2,s3⟩:=jB hneed hsub2;have hl1:lk (need++[(k,Obj.eqv j v),(j,.row sz ls e)]) k=some (.eqv j v):=by
    rw[C9];cases hq:lk need k with
    |none=>rw[j3];rfl
    |some y=>have:=(hneed k y hq).symm.trans f1;simpa using this
   have hl2:lk (need++[(k,Obj.eqv j v),(j,.row sz ls e)]) j=some (.row sz ls e):=by
    rw[C9];cases hq:lk need j with
    |none =>
     rw[Option.none_or,j5];split
     ·rename_i e1;subst e1;rw[f1] at f2;cases f2
     ·exact j3 _ _ _
    |some y=>have:=(hneed j y hq).symm.trans f2;simpa using this
   refine⟨.aG j,need++[(k,.eqv j v),(j,.row sz ls e)],[],[],fun c w ρ aD hr=>?_,s1,hnews,by simpa using hK⟩;have hgo:=htri c w ρ (aD.sub s3) hr;refine bK.mono hgo fun u w' ⟨c',hp,hv⟩=>⟨c',hp.dY s3,?_⟩;have e1:c.hd j=v:=aD.rep k _ hl1;obtain⟨css,q1,q2,q3⟩:=aD.rep j _ hl2;obtain⟨A,cap,g1,g2,g3⟩:=q1.head;rw[hv.gi,<-e1,g1];exact .aG (((hp.ctx j o5).2).trans g1) g2 g3
  ·exact⟨_,need,_,_,htri,hneed,hnews,hK⟩
 ·exact⟨_,need,_,_,htri,hneed,hnews,hK⟩
def nS (tab:F7) (os:Os) (t:TypeId) (x y:AV) (K:Kt):Prop :=
 match x,y with
 |.ep id i sz off,.aG z=>match lk os id,lk tab t with
  |some (.row a ls e),some ti=>match A4 sz a,A4 1 ti.size with
   |true,true=>i<ls.length/\(∀b,ls[i]?=some b->off<b.length)/\K .any [id] [] [(id,.ay a ls e i off z)]
   |_,_=>False
  |_,_=>False
 |_,_=>j1 tab os t x y K
def vU {d:Type} {off:Nat} {a:d} {b:List d} (h:off<b.length):J2 off [a] b=some (b.set off a):=by
 obtain⟨r,c⟩:=eB off [a] b bG;rw[c];congr 1;apply AY;intro j;rw[J4 c j,AS];by_cases e:off=j
 ·subst e;rw[Ah o5,Ah rfl,Ah h];simp
 ·rw[Ag bG,Ag e]
def vC (W:E5 P tab) {t:TypeId} {x y:Operand} (Q:o.op=.store t x y) (h:nS tab os t (ev x) (ev y) K):J5 P o ev os K:=by
 unfold nS at h;split at h
 ·rename_i id i sz off z T Y;split at h
  ·rename_i sz' ls e ti M S;split at h
   ·rename_i J s;obtain rfl:=AB J;have hsz:=AB s;obtain⟨V,h2,h3⟩:=h;have l:ls[i]?=some ls[i]:=A8 V;refine fun _=>⟨.any,[(id,.row sz ls e)],[(id,.ay sz ls e i off z)],[],fun c w F aD X=>?_,fun k ob d=>dB d M,fun _ h=>(by cases h),h3⟩;have Z:=X y (by simp[Q,Op.operands]);rw[Y] at Z;obtain⟨A,n,cap,e1,e2,e3,e4⟩:=Z.aj;have O:x≠y:=fun r=>by rw[r,Y] at T;cases T
    have R:j1 tab [(id,.row sz ls e)] t (.ep id i sz off) (.aU (.slice A n cap)) fun av rd nw up=>av=.any/\rd=[id]/\nw=[]/\up=[(id,.row sz (fV ls i off (.aU (.slice A n cap))) e)]:=by
     unfold j1;simp only[S];have E:(AV.aU (.slice A n cap)).cells?=some [.aU (.slice A n cap)]:=rfl;simp only[E,Ad,s,j3,AV.aY,AV.ids,List.append_nil,Nat.beq_refl];refine⟨V,fun cs E=>?_⟩;rw[l] at E;cases E;rw[vU (h2 _ l)];refine⟨_,fG _,?_⟩;exact⟨trivial,trivial,trivial,by unfold fV;rw[l]⟩
    classical
    let j:Ev:=fun u=>if u=y then .aU (.slice A n cap) else ev u
    have G:j x=.ep id i sz off:=by show(if x=y then _ else _)=_;rw[Ag O,T]
    have H:j y=.aU (.slice A n cap):=Ah rfl;have C:∀u∈o.op.operands.toList,Rd c w (F u) (j u):=fun u hu=>by
     show Rd c w (F u) (if u=y then _ else _);split
     ·rename_i r;rw[r,e1];exact .fz (.aU _)
     ·exact X u hu
    obtain⟨av,need,upd,news,D,q,_,rfl,hrd,rfl,rfl⟩:=rE W Q (ev:=j) (by rw[G,H];exact R) ⟨c,w,F,aD,C⟩;have B:∀k ob,lk need k=some ob->lk [(id,Obj.row sz ls e)] k=some ob:=q;refine bK.mono (D c w F (aD.sub B) C) fun v w' ⟨c',a,_⟩=>⟨c',?_,Rd.bZ _⟩;have a:=a.dY B;have m:∀k,(lk [(id,Obj.ay sz ls e i off z)] k).isSome=(lk [(id,Obj.row sz (fV ls i off (.aU (.slice A n cap))) e)] k).isSome:=fun k=>by rw[j5,j5];split<;>rfl
    have f:∀b,Touch c [(id,.row sz ls e)] [(id,.row sz (fV ls i off (.aU (.slice A n cap))) e)] b↔Touch c [(id,.row sz ls e)] [(id,.ay sz ls e i off z)] b:=fun b=>by
     unfold Touch;simp only[m]
    have g:∀k ob,lk [(id,Obj.ay sz ls e i off z)] k=some ob->k=id/\ob=.ay sz ls e i off z:=fun k ob d=>by
     rw[j5] at d;split at d
     ·rename_i r;cases d;exact⟨r.symm,rfl⟩
     ·cases d
    have p:=j3 id (Obj.row sz (fV ls i off (.aU (.slice A n cap))) e) [];refine⟨a.bV,a.tape,a.output,a.size,a.aX,fun b I=>(a.aV b I).imp (fun h=>h) (.imp (fun h=>h) (f b).1),fun b I hn=>a.aP b I fun h=>hn ((f b).1 h),a.ctx,⟨fun k ob d=>?_,fun k ob b d L=>?_,fun k k' ob U b hd d N=>?_,a.aD.aX⟩,fun k ob b d L=>?_⟩
    ·obtain⟨rfl,rfl⟩:=g k ob d;exact⟨.slice A n cap,.aG (((a.ctx z o5).2).trans e2) e3 e4,a.aD.rep k _ p⟩
    ·obtain⟨rfl,rfl⟩:=g k ob d;exact a.aD.lt k _ b p L
    ·obtain⟨rfl,rfl⟩:=g k ob d;obtain⟨rfl,rfl⟩:=g k' U N;exact absurd rfl hd
    ·obtain⟨rfl,rfl⟩:=g k ob d;exact(a.ab k _ b p L).imp (fun h=>h) (f b).1
   ·exact h.elim
  ·exact h.elim
 ·exact rE W Q h
end
def U4 {a t:Nat} {x y:Obj} (h:lk [(a,x)] t=some y):t=a/\y=x:=by
 rw[j5] at h;split at h
 ·rename_i e;cases h;exact⟨e.symm,rfl⟩
 ·cases h
def iP : AV->AV->Option Bool
 |.int a,.int b=>some (decide (a=b))
 |.str a,.str b=>some (decide (a=b))
 |_,_=>none
def eJ : AV->List (AV×AV)->Nat->Option (Option (Nat×AV))
 |_,[],_=>some none
 |k,(k',v)::l,i=>match iP k k' with
  |some true=>some (some (i,v))
  |some false=>eJ k l (i+1)
  |none=>none
def iW (n:Nat):AV->Bool
 |.int _=>A4 n 5
 |.str _=>A4 n 4
 |_=>false
section
variable {P:Program} {tab:F7} {o:Oper} {ev:Ev} {os:Os} {K:Kt}
theorem n5 {Φ:Nat->Prop} {w:World} {d:TypeDesc} {f:Value} {k:AV} (hd:(∃n,k=.int n/\∃q,d=.int q)\/(∃s,k=.str s/\d=.string)) (g:Rf Φ w f k):∀{es:List MapEntry} {l:List (AV×AV)} (i:Nat) {r:Option (Nat×AV)},
  bY Φ w es l->eJ k l i=some r->(r=none/\Instr.findNow d f es i=some none)\/∃j v e,r=some (j,v)/\i<=j/\es[j-i]?=some e/\Instr.findNow d f es i=some (some (j,e.val))/\Rf Φ w e.val v/\e.key=f
 |_,_,i,r,.nil,h=>by
  simp only[eJ,Option.some.injEq] at h;exact .inl ⟨h.symm,rfl⟩
 |_,_,i,r,.cons (e:=e) (k:=k') (v:=v') (es:=es) (l:=l) h1 h2 t,h=>by
  rw[eJ] at h;have same:∀b,iP k k'=some b->Instr.sameNow d f e.key=some b/\(b=true->e.key=f):=by
   intro b c;rcases hd with⟨n,rfl,q,rfl⟩|⟨s,rfl,rfl⟩
   ·cases k'<;>simp only[iP] at c<;>try cases c
    rename_i m;cases g with|int g =>
    have e1:e.key=.int .i64 m:=by
     generalize e.key=x at h1;cases h1;rfl
    rw[e1];refine⟨?_,fun y=>by have:=of_decide_eq_true y;rw[this]⟩;simp only[Instr.sameNow,if_true];by_cases a:n=m<;>simp[a]
   ·cases k'<;>simp only[iP] at c<;>try cases c
    rename_i m;cases g with|str g =>
    have e1:e.key=.string m:=by
     generalize e.key=x at h1;cases h1;rfl
    rw[e1];refine⟨?_,fun y=>by have:=of_decide_eq_true y;rw[this]⟩;simp only[Instr.sameNow];have c:=MapKept.bytes_beq s m;by_cases a:s=m
    ·rw[c.2 a];simp[a]
    ·cases p:s == m
     ·simp[a]
     ·exact absurd (c.1 p) a
  cases p:iP k k' with
  |none=>rw[p] at h;cases h
  |some b =>
   obtain⟨z,G⟩:=same b p;rw[p] at h;cases b with
   |true =>
    simp only[Option.some.injEq] at h;exact .inr ⟨i,v',e,h.symm,AA _,o5,by simp[Instr.findNow,z],h2,G rfl⟩
   |false =>
    simp only at h;rcases n5 hd g (i+1) t h with⟨u,A⟩|⟨j,v,F,u,A,B,C,D,E⟩
    ·exact .inl ⟨u,by simp[Instr.findNow,z,A]⟩
    ·refine .inr ⟨j,v,F,u,d9,?_,by simp[Instr.findNow,z,C],D,E⟩;rw[show j-i=(j-(i+1))+1 by omega,List.getElem?_cons_succ];exact B
def pJ {t:TypeId} {ti:TI} (a:I4 P t ti) {k:AV} (h:iW ti.kind k=true):∃d,P.underlying t=some d/\((∃n,k=.int n/\∃q,d=.int q)\/(∃s,k=.str s/\d=.string)):=by
 unfold iW at h;split at h
 ·exact⟨_,a.aR (AB h),.inl ⟨_,rfl,_,rfl⟩⟩
 ·exact⟨_,a.ar (AB h),.inr ⟨_,rfl,rfl⟩⟩
 ·cases h
def kW {w:World} {Φ:Nat->Prop} {t:TypeId} {d:TypeDesc} {k:AV} {e:Value} (c:P.underlying t=some d) (hd:(∃n,k=.int n/\∃q,d=.int q)\/(∃s,k=.str s/\d=.string)) (a:Rf Φ w e k) (b:Bool) (n:Nat) :
  (Instr.checkKey b (n+1) t e).run P w=.ok () w:=by
 rcases hd with⟨n,rfl,q,rfl⟩|⟨s,rfl,rfl⟩
 ·cases a;simp[Instr.checkKey,run_underlying c]
 ·cases a;simp[Instr.checkKey,run_underlying c]
def rO {c:Ctx} {w:World} {v:Value} {n:Nat} {k:AV} (h:Rd c w v k) (a:iW n k=true):Rf c.Φ w v k:=by
 cases k<;>simp only[iW] at a<;>first|cases a;done|exact Rd.rf (by simp[AV.ids]) h
def r8 (d:Nat) (K:Kt):Prop:=K (.mp d) [] [d] [(d,.ax [])]
theorem aF.gr {c:Ctx} {w:World} (f:∀b,c.Φ b->b<w.heap.size) (d:Nat):aF c w (c.ag d w.heap.size) (w.alloc (.map #[] 0)) [] [(d,.ax [])] [d]:=by
 have p:(w.alloc (.map #[] 0)).heap.size=w.heap.size+1:=o5;have k:∀b,b<w.heap.size->(w.alloc (.map #[] 0)).heap[b]?=w.heap[b]?:=fun b j=>alloc_old w _ j;refine⟨rfl,rfl,rfl,d9,fun _ h=>h,fun _ h=>.inl h,fun b j _=>k b j,fun i n=>⟨by have:i≠d:=(by simpa using n);simp[Ctx.ag,this],rfl⟩,⟨fun i o g=>?_,fun i o b g a=>?_,fun i r o s b m g l a=>?_,fun b j=>by have:=f b j;omega⟩,fun i o b g a=>?_⟩
 ·obtain⟨rfl,rfl⟩:=U4 g;exact⟨#[],0,by simp only[Ctx.ag,if_true];exact kg w _,.nil,o5,fun x q=>(by cases q),o5⟩
 ·obtain⟨e1,rfl⟩:=U4 g;subst e1;have a:b=(c.ag _ w.heap.size).μ _:=a;simp only[Ctx.ag,if_true] at a;subst a;exact⟨d9,fun h=>by have:=f _ h;omega⟩
 ·obtain⟨rfl,rfl⟩:=U4 g;obtain⟨e,_⟩:=U4 l;exact absurd e.symm m
 ·obtain⟨e1,rfl⟩:=U4 g;subst e1;have a:b=(c.ag _ w.heap.size).μ _:=a;simp only[Ctx.ag,if_true] at a;exact .inl d9
def uU (d:Nat) {t:TypeId} (e:o.op=.makeMap t none) (h:r8 d K):J5 P o ev os K:=by
 refine fun _=>⟨_,[],_,[d],fun c w f aD g=>?_,fun _ _ h=>(by cases h),fun id a=>(by simp at a;subst a;rw[j3];rfl),h⟩;have b:(execOp f o).run P w=.ok (.value (.map (some w.heap.size))) (w.alloc (.map #[] 0)):=by
  simp[execOp,e,Instr.makeMap]
 rw[b];exact⟨_,aF.gr aD.aX d,.mp (by simp[Ctx.ag])⟩
def nN (tab:F7) (os:Os) (t:TypeId) (x k:AV) (K:Kt):Prop :=
 match lk tab t,x with
 |some ti,.mp id=>match lk tab ti.len,lk tab ti.elem,lk os id with
  |some a,some te,some (.ax l)=>ti.kind=8/\iW a.kind k=true/\te.kind=6/\te.zero=[.bool false]/\∃r,eJ k l 0=some r/\∀q,q=(match r with|none=>.bool false|some p=>p.2)->K q [id] [] []
  |_,_,_=>False
 |_,_=>False
def uj (m:E5 P tab) {t:TypeId} {x k:Operand} (f:o.op=.lookup t x k false) (h:nN tab os t (ev x) (ev k) K):J5 P o ev os K:=by
 unfold nN at h;split at h
 ·rename_i ti id s M;split at h
  ·rename_i O te l u q n;obtain⟨L,a,J,N,r,p,h⟩:=h;replace h:=h _ rfl;refine .read n (fun c w T b F=>?_) h;have A:=F x (by simp[f,Op.operands]);have B:=rO (F k (by simp[f,Op.operands])) a;rw[M] at A;obtain⟨es,i,D,I,S⟩:=b;obtain⟨d,g,hd⟩:=pJ (m _ O u) a;have E:=(m t ti s).gq L;obtain⟨z,z1,z2,z3⟩:=(m _ te q).bA w;have y:z=.bool false:=by
    rw[N] at z2;cases z<;>simp[Value.cells,X8,lA,TI.agg,J] at z2 z3⊢<;>first|exact z2|skip
   rcases n5 hd B 0 I p with⟨rfl,C⟩|⟨j,v,e,rfl,C,Q,G,H,R⟩
   ·exact⟨.bool false,by simp[execOp,f,Instr.lookup,run_underlying E,A.ir,MapKept.run_getObj_map D,kW g hd B,MapKept.run_findKey g C,z1,y],.fz (.bool false)⟩
   ·exact⟨e.val,by simp[execOp,f,Instr.lookup,run_underlying E,A.ir,MapKept.run_getObj_map D,kW g hd B,MapKept.run_findKey g G],.fz H⟩
  ·exact h.elim
 ·exact h.elim
def fu (k v:AV) (l:List (AV×AV)):Option (Nat×AV)->List (AV×AV)
 |none=>l++[(k,v)]
 |some p=>l.set p.1 (k,v)
def mX (tab:F7) (os:Os) (t:TypeId) (x k v:AV) (K:Kt):Prop :=
 match lk tab t,x,v with
 |some ti,.mp id,.bool b=>match lk tab ti.len,lk os id with
  |some a,some (.ax l)=>ti.kind=8/\iW a.kind k=true/\∃r,eJ k l 0=some r/\(fu k (.bool b) l r).length<=maxLen/\∀q,q=fu k (.bool b) l r->K .any [id] [] [(id,.ax q)]
  |_,_=>False
 |_,_,_=>False
theorem bY.append {Φ:Nat->Prop} {w:World}:∀{es a:List MapEntry} {l b:List (AV×AV)},bY Φ w es l->bY Φ w a b->bY Φ w (es++a) (l++b)
 |_,_,_,_,.nil,h=>h
 |_,_,_,_,.cons c d t,h=>.cons c d (bY.append t h)
theorem bY.set {Φ:Nat->Prop} {w:World} {e:MapEntry} {k v:AV} (c:Rf Φ w e.key k) (d:Rf Φ w e.val v):∀{es:List MapEntry} {l:List (AV×AV)} (i:Nat),bY Φ w es l->bY Φ w (es.set i e) (l.set i (k,v))
 |_,_,_,.nil=>by simpa using .nil
 |_,_,0,.cons a b t=>.cons c d t
 |_,_,i+1,.cons a b t=>.cons a b (bY.set c d i t)
theorem aF.eR {c:Ctx} {w:World} {id:Nat} {l p:List (AV×AV)} {f:Array MapEntry} {a:Nat} (h:H7 c w [(id,.ax l)]) (v:bY c.Φ w f.toList p) (s:p.length<=maxLen) (q:rJ f.toList a) :
  aF c w c { w with heap:=w.heap.setIfInBounds (c.μ id) (.map f a) } [(id,.ax l)] [(id,.ax p)] []:=by
 obtain⟨g,k⟩:=h.lt id _ (c.μ id) (j3 _ _ _) rfl;have n:∀b,b≠c.μ id->(w.heap.setIfInBounds (c.μ id) (.map f a))[b]?=w.heap[b]?:=fun b g=>by simp[Ne.symm g]
 have r:∀b,c.Φ b->(w.heap.setIfInBounds (c.μ id) (.map f a))[b]?=w.heap[b]?:=fun b g=>n b fun e=>k (e▸g);have t:Touch c [(id,.ax l)] [(id,.ax p)] (c.μ id):=⟨id,.ax l,j3 _ _ _,by rw[j3];rfl,rfl⟩;refine⟨rfl,rfl,rfl,o5,fun _ h=>h,fun _ h=>.inl h,fun b _ u=>n b fun e=>u (e▸t),fun _ _=>⟨rfl,rfl⟩,⟨fun i o d=>?_,fun i o b d j=>?_,fun i x o y b m s d j=>?_,fun b g=>by simpa using h.aX b g⟩,fun i o b d j=>?_⟩
 ·obtain⟨rfl,rfl⟩:=U4 d;exact⟨f,a,by simp[g],v.mono r (fun _ h=>h),s,q⟩
 ·obtain⟨rfl,rfl⟩:=U4 d;have j:b=c.μ _:=j;subst j;exact⟨by simpa using g,k⟩
 ·obtain⟨rfl,rfl⟩:=U4 s;obtain⟨e,_⟩:=U4 d;exact absurd e.symm m
 ·obtain⟨rfl,rfl⟩:=U4 d;have j:b=c.μ _:=j;subst j;exact .inr t
def sN (hT:E5 P tab) {t:TypeId} {x k v:Operand} (E:o.op=.mapUpdate t x k v) (h:mX tab os t (ev x) (ev k) (ev v) K):J5 P o ev os K:=by
 unfold mX at h;split at h
 ·rename_i ti id b U g hv;split at h
  ·rename_i tk l V M;obtain⟨h8,D,r,T,p,h⟩:=h;replace h:=h _ rfl;refine fun _=>⟨_,[(id,.ax l)],_,[],fun c w a aD S=>?_,fun i ob h=>dB h M,fun _ h=>(by cases h),h⟩;have Z:=S x (by simp[E,Op.operands]);have u:=rO (S k (by simp[E,Op.operands])) D;have B:=S v (by simp[E,Op.operands]);rw[g] at Z;rw[hv] at B;have B:Rf c.Φ w (a v) (.bool b):=Rd.rf (by simp[AV.ids]) B;have hvv:a v=.bool b:=by
    generalize a v=y at B;cases B;rfl
   obtain⟨es,f,F,J,g3,L,gn⟩:=aD.rep id _ (j3 _ _ _);obtain⟨d,H,hd⟩:=pJ (hT _ tk V) D;have hm:=(hT t ti U).gq h8;rcases n5 hd u 0 J T with⟨rfl,a2⟩|⟨j,v',e,rfl,a2,a3,a4,a5,a6⟩
   ·have m:(execOp a o).run P w=.ok .skip { w with heap:=w.heap.setIfInBounds (c.μ id) (.map (es.push { key:=a k,val:=a v,born:=f }) (f+1)) }:=by
     simp[execOp,E,Instr.mapUpdate,run_underlying hm,Z.ir,MapKept.run_getObj_map F,kW H hd u,MapKept.run_findKey H a2,MapKept.run_setObj_map _ F]
    rw[m];refine⟨c,aF.eR aD (by rw[Array.toList_push];exact J.append (.cons u B .nil)) p ⟨fun x g=>?_,?_⟩,.fz (.any _)⟩
    ·rw[Array.toList_push] at g;rcases AT.1 g with g|g
     ·have:=L x g;omega
     ·obtain rfl:=List.mem_singleton.1 g;exact Nat.lt_succ_self _
    ·rw[Array.toList_push,List.map_append,List.nodup_append];refine⟨gn,o5,fun y X z hz=>?_⟩;obtain⟨x,g,rfl⟩:=AL.1 X;have:=L x g;simp at hz;omega
   ·have G:es[j]?=some e:=(by simpa using a3);have Q:(Instr.keyThatStays (a k) (a k)).run P w=.ok (a k) w:=by
     rcases hd with⟨n,e1,q,rfl⟩|⟨s,e1,rfl⟩<;>rw[e1] at u<;>generalize a k=y at u<;>cases u
     ·exact MapKept.run_keyThatStays (d:=.int .i64) rfl
     ·exact MapKept.run_keyThatStays (d:=.string) trivial
    have m:(execOp a o).run P w=.ok .skip { w with heap:=w.heap.setIfInBounds (c.μ id) (.map (es.modify j fun e=>{ e with key:=a k,val:=a v }) f) }:=by
     simp[execOp,E,Instr.mapUpdate,run_underlying hm,Z.ir,MapKept.run_getObj_map F,kW H hd u,MapKept.run_findKey H a4,G,a6,Q,MapKept.run_setObj_map _ F]
    rw[m];have I:(es.modify j fun e=>{ e with key:=a k,val:=a v }).toList=es.toList.set j { e with key:=a k,val:=a v }:=by
     rw[Array.toList_modify];apply AY;intro i;rw[List.getElem?_modify,AS];have N:j<es.toList.length:=by have:=(Array.getElem?_eq_some_iff.1 G).1;simpa using this
     by_cases C:j=i
     ·subst C;have A:es.toList[j]?=some e:=by simpa using G
      rw[Ah rfl,Ah N,A];simp
     ·simp[C]
    have A:es.toList[j]?=some e:=(by simpa using G);have e3:(es.toList.set j { e with key:=a k,val:=a v }).map (·.born)=es.toList.map (·.born):=by
     rw[List.map_set];have O:(es.toList.map (·.born))[j]?=some e.born:=by rw[Aa,A];rfl
     obtain⟨R,he⟩:=AF.1 O;show(es.toList.map (·.born)).set j e.born=_
     conv=>lhs;arg 3;rw[<-he]
     exact List.set_getElem_self R
    refine⟨c,aF.eR aD ?_ p ⟨fun x g=>?_,?_⟩,.fz (.any _)⟩
    ·rw[I];exact bY.set u B j J
    ·rw[I] at g;have W:x.born∈es.toList.map (·.born):=by rw[<-e3];exact List.mem_map_of_mem g
     obtain⟨y,X,Y⟩:=AL.1 W;rw[<-Y];exact L y X
    ·rw[I,e3];exact gn
  ·exact h.elim
 ·exact h.elim
end
abbrev cr := List (Nat×Nat×TypeId)
abbrev Hs := List (Nat×Nat×Nat)
theorem aF.mk' {c c':Ctx} {w w':World} {need upd:Os} {news:List Nat} (aD:H7 c w need) (d:c'.Φ=c.Φ) (bV:w'.os=w.os) (tape:w'.tape=w.tape) (output:w'.output=w.output) (size:w.heap.size<=w'.heap.size)
  (aP:∀b,b<w.heap.size->¬Touch c need upd b->w'.heap[b]?=w.heap[b]?) (ctx:∀id,id ∉ news->c'.μ id=c.μ id/\c'.hd id=c.hd id) (rep:∀id o,lk upd id=some o->bm c' w' id o)
  (ab:∀id o b,lk upd id=some o->aK c' id o b->(w.heap.size<=b/\b<w'.heap.size)\/Touch c need upd b)
  (sep:∀id e o f b,id≠e->lk upd id=some o->lk upd e=some f->aK c' id o b->¬aK c' e f b):aF c w c' w' need upd news:=by
 refine⟨bV,tape,output,size,fun b a=>by rw[d];exact a,fun b a=>.inl (by rw[d] at a;exact a),aP,ctx,⟨rep,fun id o b j g=>?_,sep,fun b a=>?_⟩,fun id o b j g=>(ab id o b j g).imp (·.1) (fun h=>h)⟩
 ·rw[d];rcases ab id o b j g with h|⟨i,f,k,_,l⟩
  ·exact⟨h.2,fun a=>by have:=aD.aX b a;omega⟩
  ·have:=aD.lt i f b k l;exact⟨d9,this.2⟩
 ·rw[d] at a;have:=aD.aX b a;omega
def en : Hs->Nat->Option (Nat×Nat)
 |[],_=>none
 |(i,o,x)::r,off=>bif A4 o off then some (i,x) else en r off
def fy : Hs->Nat->Hs
 |[],_=>[]
 |(i,o,x)::r,off=>bif A4 o off then fy r off else(i,o,x)::fy r off
def lI : Hs->Bool
 |[]=>true
 |(_,o,_)::r=>(en r o).isNone && lI r
def w0 {d:Hs} {off:Nat} (h:en d off=none):∀i,¬X6 d i off:=by
 rintro i ⟨x,b⟩
 induction d with
 |nil=>cases b
 |cons p r ih =>
  obtain⟨a,o,y⟩:=p;rw[en] at h;cases c:A4 o off with
  |true=>rw[c] at h;cases h
  |false =>
   rw[c] at h;rcases AJ.1 b with e|b
   ·cases e;simp at c
   ·exact ih h b
def pR {c:Hs} {off i x:Nat} (h:en c off=some (i,x)):(i,off,x)∈c:=by
 induction c with
 |nil=>cases h
 |cons p r ih =>
  obtain⟨a,o,y⟩:=p;rw[en] at h;cases b:A4 o off with
  |true=>rw[b] at h;cases h;rw[AB b];simp
  |false=>rw[b] at h;exact List.mem_cons_of_mem _ (ih h)
def jK {g:Hs} {off i o x:Nat}:(i,o,x)∈fy g off↔(i,o,x)∈g/\o≠off:=by
 induction g with
 |nil=>simp[fy]
 |cons p r ih =>
  obtain⟨a,h,y⟩:=p;rw[fy];cases d:A4 h off with
  |true =>
   have:=AB d;subst this;simp only[Ae,ih,AJ,Prod.mk.injEq];constructor
   ·exact fun⟨b,c⟩=>⟨.inr b,c⟩
   ·rintro⟨⟨_,b,_⟩|b,c⟩
    ·exact absurd b c
    ·exact⟨b,c⟩
  |false =>
   have f:h≠off:=fun e=>by rw[e] at d;simp at d
   simp only[Af,AJ,ih,Prod.mk.injEq];constructor
   ·rintro(⟨rfl,rfl,rfl⟩|⟨b,c⟩)
    ·exact⟨.inl ⟨rfl,rfl,rfl⟩,f⟩
    ·exact⟨.inr b,c⟩
   ·rintro⟨b|b,c⟩
    ·exact .inl b
    ·exact .inr ⟨b,c⟩
def vF {d:Hs} (f:lI d=true) {off i x g j:Nat} (h:en d off=some (i,x)) (b:(g,off,j)∈d):g=i/\j=x:=by
 induction d with
 |nil=>cases b
 |cons p r ih =>
  obtain⟨a,o,y⟩:=p;simp only[lI,A7] at f;rw[en] at h;cases c:A4 o off with
  |true =>
   rw[c] at h;cases h;have:=AB c;subst this;rcases AJ.1 b with e|b
   ·cases e;exact⟨rfl,rfl⟩
   ·have:=w0 (by simpa using f.1) g ⟨j,b⟩;exact this.elim
  |false =>
   rw[c] at h;rcases AJ.1 b with e|b
   ·cases e;simp at c
   ·exact ih f.2 h b
def vR (css:List (List Value)) (a:cr) (b:Hs):∃L:List Value,∀v,v∈L↔∃i off,X0 css a b i off v:=by
 classical
 refine⟨css.flatten.filter fun v=>decide (∃i off,X0 css a b i off v),fun v=>?_⟩;rw[List.mem_filter,Am];refine⟨fun h=>h.2,fun h=>⟨?_,h⟩⟩;obtain⟨i,off,us,p,c,_,d,_⟩:=h;exact List.mem_flatten.2 ⟨us,AO c,AO d⟩
def pf (L:List Value):cm (.tuple L.toArray)=L:=by simp[cm]
def dC (b:cr):List AV->Nat->List AV
 |[],_=>[]
 |a::l,o=>(match lk b o with|some _=>AV.any|none=>a)::dC b l (o+1)
theorem rU {Φ:Nat->Prop} {w:World} {b:cr}:∀{c:List AV} {us:List Value} (o:Nat),us.length=c.length->(∀off u a,us[off]?=some u->c[off]?=some a->lk b (o+off)=none->Rf Φ w u a)->p8 Φ w us (dC b c o)
 |[],[],_,_,_=>.nil
 |a::c,u::us,o,hl,h=>by
  rw[dC];refine .cons ?_ (rU (o+1) (by simpa using hl) fun off u a d e f=>h (off+1) u a (by simpa using d) (by simpa using e) (by rw[<-f];congr 1;omega));split
  ·exact .any u
  ·rename_i g;exact h 0 u a rfl rfl (by simpa using g)
 |[],_::_,_,h,_=>by cases h
 |_::_,[],_,h,_=>by cases h
theorem O8.ew {Φ:Nat->Prop} {hd:Nat->Value} {w:World} {b:cr} {k:Hs} {l:List (List AV)} {css:List (List Value)} (h:O8 Φ hd w b k l css) {i:Nat} {us:List Value} {c:List AV} (d:css[i]?=some us) (e:l[i]?=some c):p8 Φ w us (dC b c 0) :=
 rU 0 (h.cell i us c d e).1 fun off u a f g j=>(h.cell i us c d e).2 off u a f g (by simpa using j)
section
variable {P:Program} {tab:F7} {o:Oper} {ev:Ev} {os:Os} {K:Kt}
def mf (os:Os) (x:AV) (K:Kt):Prop :=
 match x with
 |.aG id=>match lk os id with
  |some (.deep _ _ _ l _ _)=>∀n:Nat,n=l.length->n<=maxLen->K (.int n) [id] [] []
  |_=>False
 |_=>False
def jI {c:Ctx} {w:World} {id sz e sh:Nat} {a:cr} {l:List (List AV)} {k:Hs} {v:Value} (b:bm c w id (.deep sz e a l k sh)) (r:Rd c w v (.aG id)):∃A cap,v=.slice A l.length cap/\c.hd id=.slice A l.length cap/\l.length<=cap/\cap<=maxLen:=by
 obtain⟨A,n,cap,e1,f,i,j⟩:=r.aj;obtain⟨css,m,p,y,z⟩:=b;obtain⟨q,d,g,u,x⟩:=m.head;rw[f] at g;injection g with s h t
 have:n=l.length:=by rw[h,p.len]
 subst this;exact⟨A,cap,e1,f,i,j⟩
def x5 (k:E5 P tab) {x:Operand} {t:TypeId} {ti:TI} (n:lk tab t=some ti) (m:ti.kind=2) (j:o.op=.call { callee:=.builtin .len,args:=#[x],argTypes:=#[t] }) (h:mf os (ev x) K):J5 P o ev os K:=by
 unfold mf at h;split at h
 ·rename_i id u;split at h
  ·rename_i sz e d l q sh f;have s:=(k t ti n).aQ m;have get:∀(c:Ctx) (w:World) (b:Operand->Value),bm c w id (.deep sz e d l q sh)->(∀z∈o.op.operands.toList,Rd c w (b z) (ev z))->∃A cap,b x=.slice A l.length cap/\l.length<=maxLen:=fun c w b a g=>by
    have r:=g x (by simp[j,Op.operands,Go.Call.operands]);rw[u] at r;obtain⟨A,cap,e1,_,v,y⟩:=jI a r;exact⟨A,cap,e1,d9⟩
   refine .have (p:=l.length<=maxLen) (fun c w b aD g=>?_) fun i=>.read f (fun c w b a g=>?_) (h _ rfl i)
   ·obtain⟨A,cap,_,i⟩:=get c w b (aD.rep id _ f) g;exact i
   ·obtain⟨A,cap,e1,_⟩:=get c w b a g;exact⟨_,by simp[execOp,j,resolve,invoke,builtin,Builtin.len_,run_underlying s,e1,goInt],.fz (.int (iF i))⟩
  ·exact h.elim
 ·exact h.elim
def mO (tab:F7) (os:Os) (t:TypeId) (x i:AV) (K:Kt):Prop :=
 match lk tab t,x,i with
 |some ti,.aG id,.int i=>match lk os id,lk tab ti.elem with
  |some (.deep sz _ _ l _ _),some te=>ti.kind=2/\te.size=sz/\0<=i/\i<(l.length:Int)/\K (.ep id i.toNat sz 0) [id] [] []
  |_,_=>False
 |_,_,_=>False
def tl (q:E5 P tab) {t:TypeId} {x m:Operand} (f:o.op=.indexAddr t x m) (h:mO tab os t (ev x) (ev m) K):J5 P o ev os K:=by
 unfold mO at h;split at h
 ·rename_i ti id i k I F;split at h
  ·rename_i sz e p l R sh te b j;obtain⟨G,rfl,C,D,h⟩:=h;have H:=(q t ti k).aQ G;have E:=q _ te j;refine .read b (fun c w V a s=>?_) h;have v:=s x (by simp[f,Op.operands]);have y:=s m (by simp[f,Op.operands]);rw[I] at v;rw[F] at y;obtain⟨A,cap,e1,r,N,O⟩:=jI a v;obtain⟨css,J,L,S,T⟩:=a;have d:0<css.length:=by rw[L.len];omega
   obtain⟨g,U,n,u,Q,_⟩:=J.cells (A8 d);rw[r] at u;injection u with z M B
   subst z B;refine⟨_,by simp only[execOp,f];rw[e1,y.aR.1,Sem.run_bind,run_indexAt_slice H E C D];rfl,.ep (off:=0) r⟩
  ·exact h.elim
 ·exact h.elim
def nj (tab:F7) (os:Os) (t:TypeId) (x:AV) (K:Kt):Prop :=
 match lk tab t,x with
 |some ti,.ep id i sz off=>match lk os id with
  |some (.deep b _ a l d sh)=>match A4 sz b with
   |true=>match lk a off with
    |none=>i<l.length/\∀c,l[i]?=some c->match fM ti (dC a c 0) off with
     |some av=>K av [id] [] []
     |none=>False
    |some (isz,ie)=>match en d off with
     |some (j,y)=>ti.kind=2/\j=i/\i<l.length/\off<sz/\ti.size=1/\K (.aG y) [id] [] []
     |none=>False
   |false=>False
  |_=>False
 |_,_=>False
theorem qB {c:Type}:∀{off:Nat} {l:List c} {a:c},l[off]?=some a->ae off 1 l=some [a]
 |0,b::l,a,h=>by simp at h;subst h;simp[ae]
 |off+1,b::l,a,h=>by rw[ae];exact qB (by simpa using h)
 |_,[],a,h=>by simp at h
theorem ni {Φ:Nat->Prop} {w:World}:∀us:List Value,p8 Φ w us (us.map .aU)
 |[]=>.nil
 |u::us=>.cons (.aU u) (ni us)
def vp (hT:E5 P tab) {t:TypeId} {x:Operand} (M:o.op=.load t x) (h:nj tab os t (ev x) K):J5 P o ev os K:=by
 have run:∀(k:Operand->Value) (w:World),(execOp k o).run P w=((Instr.loadAt t (k x)).run P w).andThen fun v w'=>.ok (.value v) w':=fun k w=>by simp[execOp,M]
 unfold nj at h;split at h
 ·rename_i ti id i sz off Q Y;have C:=hT t ti Q;split at h
  ·rename_i sz' e B l hs sh H;split at h
   ·rename_i O;obtain rfl:=AB O;have get:∀(c:Ctx) (w:World) (k:Operand->Value) (us:List Value),bm c w id (.deep sz e B l hs sh)->Rd c w (k x) (.ep id i sz off)->(∃css,y7 w (c.hd id) sz e css/\css[i]?=some us) ->
      ∃g p,k x=.pointer (some ⟨g,p+off,none⟩)/\∀j u,us[j]?=some u->w.cell? ⟨g,p+j,none⟩=some u:=fun c w k us d q ⟨css,s,a⟩=>by
     obtain⟨g,x0,m,cap,e1,hh⟩:=q.gj;obtain⟨V,Z,T,X,hg,D⟩:=s.cells a;have e2:V=g/\Z=x0:=by rw[hh] at X;injection X with e _ _;injection e with e;injection e with e e' _;exact⟨e.symm,e'.symm⟩
     obtain⟨rfl,rfl⟩:=e2;exact⟨V,Z+i*sz,e1,D⟩
    split at h
    ·rename_i E;obtain⟨G,h⟩:=h;have F:l[i]?=some l[i]:=A8 G;have h:=h _ F;split at h
     ·rename_i av r;refine .read H (fun c w k d N=>?_) h;have q:=N x (by simp[M,Op.operands]);rw[Y] at q;have f:=d;obtain⟨css,s,z,h4,h5⟩:=d;have a:css[i]?=some (css[i]'(by rw[z.len];exact G)):=A8 _;obtain⟨g,p,e1,D⟩:=get c w k _ f q ⟨css,s,a⟩;obtain⟨v,I,J⟩:=hY (b:=g) (p:=p) C r (.af (z.ew a F)) D;exact⟨v,by rw[run,e1,I];rfl,J⟩
     ·exact h.elim
    ·rename_i isz ie E;split at h
     ·rename_i j y L;obtain⟨hk,rfl,G,W,hs1,h⟩:=h;refine .read H (fun c w k d N=>?_) h;have q:=N x (by simp[M,Op.operands]);rw[Y] at q;have f:=d;obtain⟨css,s,z,h4,h5⟩:=d;have a:css[j]?=some (css[j]'(by rw[z.len];exact G)):=A8 _;generalize css[j]'(by rw[z.len];exact G)=us at a;have hul:=s.len us (AO a);have R:us[off]?=some (us[off]' d9):=A8 _;generalize us[off]' d9=u at R;obtain⟨g,p,e1,D⟩:=get c w k _ f q ⟨css,s,a⟩;have r:fM ti (us.map AV.aU) off=some (.aU u):=by
       have ha:ti.agg=false:=(by simp[TI.agg,hk]);have:(us.map AV.aU)[off]?=some (.aU u):=by rw[Aa,R];rfl
       unfold fM;rw[ha,qB this]
      obtain⟨v,I,J⟩:=hY (b:=g) (p:=p) C r (.af (ni (Φ:=c.Φ) (w:=w) us)) D;have S:=J.gi;subst S;obtain⟨e3,A,n,cap,U,b1,b2⟩:=z.hole j off y us v (pR L) a R;refine⟨v,by rw[run,e1,I];rfl,?_⟩;rw[U];exact .aG (by rw[<-e3,U]) b1 b2
     ·exact h.elim
   ·exact h.elim
  ·exact h.elim
 ·exact h.elim
theorem y7.write {t:TypeId} {ti:TI} (X:I4 P t ti) {w:World} {hdv:Value} {sz e i off:Nat} {css:List (List Value)} {us A:List Value} (n:y7 w hdv sz e css) {g I m cap:Nat} (O:hdv=.slice (some ⟨g,I,none⟩) m cap)
  (l:css[i]?=some us) {v:Value} (G:v.cells.toList.length=ti.size) (N:∀u∈v.cells.toList,u.oneCell'=true) (E:J2 off v.cells.toList us=some A) :
  ∃w',(Instr.storeAt t (.pointer (some ⟨g,I+i*sz+off,none⟩)) v).run P w=.ok () w'/\y7 w' hdv sz e (css.set i A)/\(∀k,k≠g->w'.heap[k]?=w.heap[k]?)/\w'.heap.size=w.heap.size/\w'.os=w.os/\w'.tape=w.tape/\w'.output=w.output:=by
 have Q:i<css.length:=(AF.1 l).1;rcases n.b9 with⟨F,hn⟩|⟨g',x',p,J,a,F,D,U,V,c3,L,W⟩
 ·omega
 ·rw[O] at F;injection F with q S T
  injection q with q
  injection q with q B
  subst q B T;have H:=L d9;have r:=mA css i off us v.cells.toList A n.len l E;have C:=P7 sz css n.len;have s:a.toList.length=(p+cap)*sz:=by rw[<-c3];simp
  have R:p*sz<=a.toList.length:=by rw[s];exact Nat.mul_le_mul_right _ d9
  have y:(a.toList.take (p*sz)).length=p*sz:=by rw[List.length_take];omega
  have c:a.toList=a.toList.take (p*sz)++(css.flatten++(a.toList.drop (p*sz)).drop (css.length*sz)):=by
   rw[<-W,List.take_append_drop,List.take_append_drop]
  have j:=mQ (a.toList.take (p*sz)) (qX ((a.toList.drop (p*sz)).drop (css.length*sz)) r);rw[<-c,y] at j;have x:w.heap[g]?=some (.cells a.toList.toArray e):=by simpa using D
  obtain⟨w',Y,Z,q3,q4,q5,q6,q7⟩:=mZ (P:=P) X G x N j;have f:us∈css:=AO l;have b:∀us∈css.set i A,us.length=sz:=fun us' z=>by
   rcases List.mem_or_eq_of_mem_set z with h|h
   ·exact n.len us' h
   ·rw[h,(P8 E).1];exact n.len _ f
  have d:=P7 sz (css.set i A) b;refine⟨w',by rw[H,Nat.add_assoc];exact Y,⟨.inr ⟨g,I,p,cap,_,by rw[O,List.length_set,S],Z,by rw[List.length_set];exact U,V,?_,L,?_⟩,b,fun us' z=>?_⟩,q3,q4,q5,q6,q7⟩
  ·have M:a.toList.length=(p+cap)*sz:=s;rw[c,A6,A6,C] at M;rw[List.size_toArray,A6,A6,d,List.length_set];exact M
  ·rw[List.toList_toArray,List.drop_left' y,List.take_left' (by rw[d])]
  ·rcases List.mem_or_eq_of_mem_set z with h|h
   ·exact n.one us' h
   ·rw[h];intro u z;rcases k4 E u z with h|h
    ·exact N u h
    ·exact n.one _ f u h
theorem X0.set {css:List (List Value)} {a:cr} {s c:Hs} {i:Nat} {us r:List Value} (k:css[i]?=some us) (b:∀off p,lk a off=some p->¬X6 c i off->r[off]?=us[off]?) (q:∀j off,X6 c j off↔X6 s j off) {j off:Nat} {v:Value} :
  X0 (css.set i r) a c j off v↔X0 css a s j off v:=by
 have n:i<css.length:=(AF.1 k).1;constructor
 ·rintro⟨us',p,d,f,l,m⟩;rw[AS] at d;split at d
  ·rename_i e;subst e;cases d;exact⟨us,p,k,f,by rw[<-b off p f m];exact l,fun h=>m ((q _ _).2 h)⟩
  ·exact⟨us',p,d,f,l,fun h=>m ((q _ _).2 h)⟩
 ·rintro⟨us',p,d,f,l,m⟩;have g:¬X6 c j off:=fun h=>m ((q _ _).1 h);by_cases e:i=j
  ·subst e;rw[k] at d;cases d;exact⟨r,p,by rw[AS,Ah rfl,Ah n],f,by rw[b off p f g];exact l,g⟩
  ·exact⟨us',p,by rw[AS,Ag e];exact d,f,l,g⟩
theorem aF.c6 {c:Ctx} {w w':World} {id sz e sh i g:Nat} {a:cr} {l G:List (List AV)} {f d:Hs} {css:List (List Value)} {us r:List Value} (aD:H7 c w [(id,.deep sz e a l f sh)]) (V:O8 c.Φ c.hd w a f l css)
  (T:∀v,v∈cm (c.hd sh)↔∃i off,X0 css a f i off v) (I:∀i off v b,X0 css a f i off v->(c.hd id).ownBlock=some b->v.ownBlock=some b->False) (t:(c.hd id).ownBlock=some g) (x:css[i]?=some us)
  (N:y7 w' (c.hd id) sz e (css.set i r)) (D:∀k,k≠g->w'.heap[k]?=w.heap[k]?) (R:w'.heap.size=w.heap.size) (J:w'.os=w.os) (L:w'.tape=w.tape) (M:w'.output=w.output)
  (m:∀off p,lk a off=some p->¬X6 d i off->r[off]?=us[off]?) (O:∀j off,X6 d j off↔X6 f j off)
  (hD:(∀v j off,X0 (css.set i r) a d j off v↔X0 css a f j off v)->O8 c.Φ c.hd w a d G (css.set i r)) :
  aF c w c w' [(id,.deep sz e a l f sh)] [(id,.deep sz e a G d sh)] []:=by
 have B:=aD.lt id _ g (j3 _ _ _) (.inl t);have n:∀v j off,X0 (css.set i r) a d j off v↔X0 css a f j off v:=fun v j off=>X0.set x m O;have z:∀b,c.Φ b->w'.heap[b]?=w.heap[b]?:=fun b u=>D b fun e=>B.2 (e▸u);have s:∀b,aK c id (.deep sz e a l f sh) b->Touch c [(id,.deep sz e a l f sh)] [(id,.deep sz e a G d sh)] b:=fun b y=>⟨id,_,j3 _ _ _,by rw[j3];rfl,y⟩;refine aF.mk' aD rfl J L M d9 (fun b _ Q=>D b fun e=>Q (s b (.inl (by rw[t,e])))) (fun _ _=>⟨rfl,rfl⟩) (fun H o q=>?_) (fun H o b q y=>?_) (fun H S o U b C q A=>?_)
 ·obtain⟨rfl,rfl⟩:=U4 q;refine⟨_,N,(hD n).aP z (fun _ h=>h) (fun _ _ _ _=>rfl) (fun j off v b E F=>D b fun e=>?_),fun v=>?_,fun j off v b E=>I j off v b ((n v j off).1 E)⟩
  ·exact I j off v b ((n v j off).1 E) (by rw[t,e]) F
  ·rw[T v];exact⟨fun⟨j,off,h⟩=>⟨j,off,(n v j off).2 h⟩,fun⟨j,off,h⟩=>⟨j,off,(n v j off).1 h⟩⟩
 ·obtain⟨rfl,rfl⟩:=U4 q;exact .inr (s b y)
 ·obtain⟨rfl,rfl⟩:=U4 q;obtain⟨e,_⟩:=U4 A;exact absurd e.symm C
def nb (tab:F7) (os:Os) (t:TypeId) (x y:AV) (K:Kt):Prop :=
 match lk tab t,y.cells?,x with
 |some ti,some vs,.ep id i sz off=>match lk os id with
  |some (.deep b e a l c sh)=>match A4 sz b,A4 vs.length ti.size with
   |true,true=>match lk a off with
    |none=>AV.aY vs=[]/\(a.all fun p=>AM p.1 off || AD (off+vs.length) p.1)=true/\(c.all fun p=>(lk a p.2.1).isSome)=true/\i<l.length/\∀f,l[i]?=some f->match J2 off vs f with
     |some d=>∃q,q=l.set i d/\K .any [id] [] [(id,.deep b e a q c sh)]
     |none=>False
    |some _=>match vs,en c off with
     |[.aG y],some (j,_)=>lI c=true/\j=i/\i<l.length/\off<b/\K .any [id] [] [(id,.deep b e a l ((i,off,y)::fy c off) sh)]
     |_,_=>False
   |_,_=>False
  |_=>False
 |_,_,_=>False
def vA (hT:E5 P tab) {t:TypeId} {x y:Operand} (ho:o.op=.store t x y) (h:nb tab os t (ev x) (ev y) K):J5 P o ev os K:=by
 have run:∀(H:Operand->Value) (w w':World),(Instr.storeAt t (H x) (H y)).run P w=.ok () w'->(execOp H o).run P w=.ok .skip w':=fun H w w' h=>by simp[execOp,ho,h]
 unfold nb at h;split at h
 ·rename_i ti vs id i sz off hti hvs hx;have hTi:=hT t ti hti;split at h
  ·rename_i sz' e D l Y sh hid;split at h
   ·rename_i hsz hvl;obtain rfl:=AB hsz;have hvl:=AB hvl;have base:∀(c:Ctx) (w:World) (H:Operand->Value),H7 c w [(id,.deep sz e D l Y sh)]->(∀z∈o.op.operands.toList,Rd c w (H z) (ev z))->i<l.length->off+ti.size<=sz ->
      ∃css us rs g w',O8 c.Φ c.hd w D Y l css/\y7 w (c.hd id) sz e css/\(∀v,v∈cm (c.hd sh)↔∃i off,X0 css D Y i off v)/\(∀i off v b,X0 css D Y i off v->(c.hd id).ownBlock=some b->v.ownBlock=some b->False)/\(c.hd id).ownBlock=some g/\css[i]?=some us /\
       J2 off (H y).cells.toList us=some rs/\(execOp H o).run P w=.ok .skip w'/\y7 w' (c.hd id) sz e (css.set i rs)/\(∀k,k≠g->w'.heap[k]?=w.heap[k]?)/\w'.heap.size=w.heap.size/\w'.os=w.os/\w'.tape=w.tape/\w'.output=w.output/\us.length=sz:=fun c w H aD hr X hoff=>by
     have r1:=hr x (by simp[ho,Op.operands]);have r2:=hr y (by simp[ho,Op.operands]);rw[hx] at r1;obtain⟨css,p1,C,p3,p4⟩:=aD.rep id _ (j3 _ _ _);obtain⟨g,x0,m,cap,e1,hh⟩:=r1.gj;obtain⟨rv,h1⟩:=fH r2 hvs;have f:css[i]?=some (css[i]'(by rw[C.len];exact X)):=A8 _;generalize css[i]'(by rw[C.len];exact X)=us at f;have Z:=p1.len us (AO f);have E:(H y).cells.toList.length=ti.size:=by rw[rv.length];exact hvl
     obtain⟨rs,s⟩:=eB off (H y).cells.toList us (by rw[E,Z];exact hoff);obtain⟨w',q1,q2,q3,q4,q5,q6,q7⟩:=y7.write (P:=P) hTi p1 hh f E h1 s;exact⟨css,us,rs,g,w',C,p1,p3,p4,by rw[hh];rfl,f,s,run H w w' (by rw[e1];exact q1),q2,q3,q4,q5,q6,q7,Z⟩
    split at h
    ·obtain⟨hids,hcols,hhc,X,h⟩:=h;have S:l[i]?=some l[i]:=A8 X;have h:=h _ S;generalize l[i]=cs at S h;split at h
     ·rename_i cs' O;obtain⟨q,rfl,h⟩:=h;refine fun _=>⟨_,[(id,.deep sz e D l Y sh)],_,[],fun c w H aD hr=>?_,fun i ob h=>dB h hid,fun _ h=>(by cases h),h⟩;have hlen:off+ti.size<=sz:=by
       obtain⟨css,p1,C,_⟩:=aD.rep id _ (j3 _ _ _);have f:css[i]?=some (css[i]'(by rw[C.len];exact X)):=A8 _;have h1:=(C.cell i _ _ f S).1;have h2:=p1.len _ (AO f);have h3:=(P8 O).2;omega
      obtain⟨css,us,rs,g,w',C,p1,p3,p4,hb,f,s,V,hR,ho',hs',k1,k2,k3,Z⟩:=base c w H aD hr X hlen;rw[V];obtain⟨rv,h1⟩:=fH (hr y (by simp[ho,Op.operands])) hvs;have rf:=rv.ew hids;have E:(H y).cells.toList.length=vs.length:=rv.length;have Q:∀d p,lk D d=some p->¬(off<=d/\d<off+vs.length):=fun d p hp=>by
       have:=AH.1 hcols _ (O1 hp);simp only[Bool.or_eq_true] at this;rcases this with h|h
       ·have:=AU h;omega
       ·have:=AU h;omega
      refine⟨c,aF.c6 aD C p3 p4 hb f hR ho' hs' k1 k2 k3 (fun d p hp _=>?_) (fun _ _=>Iff.rfl) (fun hI=>⟨by simp[C.len],fun k us' F G J=>?_,fun k us' F d isz ie u G J L B N=>?_,fun k d x us' u R G B=>?_,fun a1 a2 a3 a4 a5 a6 b i1 i2=>C.apart a1 a2 a3 a4 a5 a6 b ((hI _ _ _).1 i1) ((hI _ _ _).1 i2)⟩),Rd.bZ _⟩
      ·rw[J4 s,Ag (by rw[E];exact Q d p hp)]
      ·rw[AS] at G J;by_cases I:i=k
       ·subst I;rw[Ah rfl,Ah (AF.1 f).1] at G;rw[Ah rfl,Ah X] at J;cases G;cases J;have W:=C.cell i us cs f S;refine⟨by rw[(P8 s).1,(P8 O).1];exact W.1,fun d u a B M hn=>?_⟩;rw[J4 s,E] at B;rw[J4 O] at M;by_cases hin:off<=d/\d<off+vs.length
        ·rw[Ah hin] at B M;obtain⟨v,hv,hva⟩:=rf.get M;rw[B] at hv;cases hv;exact hva
        ·rw[Ag hin] at B M;exact W.2 d u a B M hn
       ·rw[Ag I] at G J;exact C.cell k us' F G J
      ·rw[AS] at G J;by_cases I:i=k
       ·subst I;rw[Ah rfl,Ah (AF.1 f).1] at G;rw[Ah rfl,Ah X] at J;cases G;cases J;rw[J4 s,E,Ag (Q d _ L)] at B;rw[J4 O,Ag (Q d _ L)];exact C.inner i us cs d isz ie u f S L B N
       ·rw[Ag I] at G J;exact C.inner k us' F d isz ie u G J L B N
      ·rw[AS] at G;by_cases I:i=k
       ·subst I;rw[Ah rfl,Ah (AF.1 f).1] at G;cases G;have L:=AH.1 hhc _ R;obtain⟨p,hp⟩:=Option.isSome_iff_exists.1 L;rw[J4 s,E,Ag (Q d p hp)] at B;exact C.hole i d x us u R f B
       ·rw[Ag I] at G;exact C.hole k d x us' u R G B
     ·exact h.elim
    ·rename_i p L;split at h
     ·rename_i y' j x' hat hvb;obtain⟨G,rfl,X,hoff,h⟩:=h;refine fun _=>⟨_,[(id,.deep sz e D l Y sh)],_,[],fun c w H aD hr=>?_,fun i ob h=>dB h hid,fun _ h=>(by cases h),h⟩;have h1s:ti.size=1:=by rw[<-hvl];rfl
      obtain⟨css,us,rs,g,w',C,p1,p3,p4,hb,f,s,V,hR,ho',hs',k1,k2,k3,Z⟩:=base c w H aD hr X d9;rw[V];obtain⟨rv,h1⟩:=fH (hr y (by simp[ho,Op.operands])) hvs;have T:∀k d,X6 ((j,off,y')::fy Y off) k d↔X6 Y k d:=fun k d=>by
       constructor
       ·rintro⟨z,hz⟩;rcases AJ.1 hz with e|hz
        ·cases e;exact⟨_,pR hat⟩
        ·exact⟨z,(jK.1 hz).1⟩
       ·rintro⟨z,hz⟩;by_cases e:d=off
        ·subst e;obtain⟨rfl,rfl⟩:=vF G hat hz;exact⟨y',o5⟩
        ·exact⟨z,List.mem_cons_of_mem _ (jK.2 ⟨hz,e⟩)⟩
      obtain⟨v,hvv,hrv⟩:∃v,(H y).cells.toList=[v]/\Rd c w v (.aG y'):=by
       revert rv;generalize (H y).cells.toList=vl;intro rv;cases rv with|cons a b=>cases b;exact⟨_,rfl,a⟩
      rw[hvv] at s;obtain⟨A,n,cap,e1,e2,e3,e4⟩:=hrv.aj;have hjo:X6 ((j,off,y')::fy Y off) j off:=⟨y',o5⟩;refine⟨c,aF.c6 aD C p3 p4 hb f hR ho' hs' k1 k2 k3 (fun d p hp N=>?_) T (fun hI=>⟨by simp[C.len],fun k us' F r J=>?_,fun k us' F d isz ie u r J hcl' B N=>?_,fun k d x us' u R r B=>?_,fun a1 a2 a3 a4 a5 a6 b i1 i2=>C.apart a1 a2 a3 a4 a5 a6 b ((hI _ _ _).1 i1) ((hI _ _ _).1 i2)⟩),Rd.bZ _⟩
      ·have U:¬(off<=d/\d<off+[v].length):=by
        simp only[Ad];intro h';have:d=off:=d9;subst this;exact N hjo
       rw[J4 s,Ag U]
      ·rw[AS] at r;by_cases I:j=k
       ·subst I;rw[Ah rfl,Ah (AF.1 f).1] at r;cases r;have W:=C.cell j us F f J;refine⟨by rw[(P8 s).1];exact W.1,fun d u a B M hn=>?_⟩;have U:¬(off<=d/\d<off+[v].length):=by
         simp only[Ad];intro h';have:d=off:=d9;subst this;rw[L] at hn;cases hn
        rw[J4 s,Ag U] at B;exact W.2 d u a B M hn
       ·rw[Ag I] at r;exact C.cell k us' F r J
      ·have hno':¬X6 Y k d:=fun h'=>N ((T _ _).2 h');rw[AS] at r;by_cases I:j=k
       ·subst I;rw[Ah rfl,Ah (AF.1 f).1] at r;cases r;have U:¬(off<=d/\d<off+[v].length):=by
         simp only[Ad];intro h';have:d=off:=d9;subst this;exact N hjo
        rw[J4 s,Ag U] at B;exact C.inner j us F d isz ie u f J hcl' B hno'
       ·rw[Ag I] at r;exact C.inner k us' F d isz ie u r J hcl' B hno'
      ·rw[AS] at r;by_cases I:j=k
       ·subst I;rw[Ah rfl,Ah (AF.1 f).1] at r;cases r;rw[J4 s] at B;by_cases e:d=off
        ·subst e;rw[Ah o5] at B;simp only[Nat.sub_self,List.getElem?_cons_zero,Option.some.injEq] at B;subst B;have hx':x=y':=by
          rcases AJ.1 R with e'|R
          ·cases e';rfl
          ·exact absurd rfl (jK.1 R).2
         subst hx';exact⟨by rw[e1,e2],A,n,cap,e1,e3,e4⟩
        ·rw[Ag (by simp only[Ad];omega)] at B;rcases AJ.1 R with e'|R
         ·cases e';exact absurd rfl e
         ·exact C.hole j d x us u (jK.1 R).1 f B
       ·rw[Ag I] at r;rcases AJ.1 R with e'|R
        ·cases e';exact absurd rfl I
        ·exact C.hole k d x us' u (jK.1 R).1 r B
     ·exact h.elim
   ·exact h.elim
  ·exact h.elim
 ·exact h.elim
theorem aF.deep {c:Ctx} {w w':World} {need:Os} {d sh sz e:Nat} {a:cr} {l:List (List AV)} {css:List (List Value)} {q:Value} (aD:H7 c w need) (F:d≠sh) (y:lk need d=none) (z:lk need sh=none)
  (bV:w'.os=w.os) (tape:w'.tape=w.tape) (output:w'.output=w.output) (size:w.heap.size<=w'.heap.size) (j:Nat->Prop) (n:∀b,j b↔∃id o,lk need id=some o/\aK c id o b)
  (aP:∀b,b<w.heap.size->¬j b->w'.heap[b]?=w.heap[b]?) (Q:y7 w' q sz e css)
  (hD:O8 c.Φ c.hd w' a [] l css) (m:∀b,q.ownBlock=some b->w.heap.size<=b\/j b) (S:∀i off v b,X0 css a [] i off v->v.ownBlock=some b->(w.heap.size<=b/\b<w'.heap.size)\/j b)
  (U:∀i off v b,X0 css a [] i off v->q.ownBlock=some b->v.ownBlock=some b->False) :
  ∃L:List Value,aF c w ((c.aE d q).aE sh (.tuple L.toArray)) w' need ((d,.deep sz e a l [] sh)::(sh,.aI)::D7 need) [d,sh]:=by
 obtain⟨L,O⟩:=vR css a [];refine⟨L,?_⟩;have D:((c.aE d q).aE sh (.tuple L.toArray)).hd d=q:=by simp[Ctx.aE,F]
 have N:((c.aE d q).aE sh (.tuple L.toArray)).hd sh=.tuple L.toArray:=by simp[Ctx.aE]
 have hs:∀id,(lk (D7 need) id).isSome=(lk need id).isSome:=jA need;have T:∀b,j b->Touch c need ((d,.deep sz e a l [] sh)::(sh,.aI)::D7 need) b:=fun b m=>by
  obtain⟨id,o,t,B⟩:=(n b).1 m;refine⟨id,o,t,?_,B⟩;have n1:d≠id:=fun e=>by rw[e,t] at y;cases y
  have n2:sh≠id:=fun e=>by rw[e,t] at z;cases z
  rw[G5 _ _ n1,G5 _ _ n2,hs,t];rfl
 have k:∀id o,lk ((d,Obj.deep sz e a l [] sh)::(sh,.aI)::D7 need) id=some o->(id=d/\o=.deep sz e a l [] sh)\/(id≠d/\o=.aI):=fun id o f=>by
  rw[j5] at f;split at f
  ·rename_i e1;cases f;exact .inl ⟨e1.symm,rfl⟩
  ·rename_i e1;rw[j5] at f;split at f
   ·cases f;exact .inr ⟨fun h=>e1 h.symm,rfl⟩
   ·exact .inr ⟨fun h=>e1 h.symm,fh f⟩
 have V:∀b,c.Φ b->w'.heap[b]?=w.heap[b]?:=fun b m=>aP b (aD.aX b m) fun ht=>by
  obtain⟨id,o,t,B⟩:=(n b).1 ht;exact(aD.lt id o b t B).2 m
 have vb:∀b,q.ownBlock=some b->(w.heap.size<=b/\b<w'.heap.size)\/j b:=fun b h=>by
  rcases m b h with C|C
  ·refine .inl ⟨C,?_⟩;rcases Q.b9 with⟨e1,_⟩|⟨g,x,p,cp,R,e1,W,_⟩
   ·rw[e1] at h;cases h
   ·rw[e1] at h;injection h with h
    subst h;exact(Array.getElem?_eq_some_iff.1 W).1
  ·exact .inr C
 refine aF.mk' aD rfl bV tape output size (fun b m Z=>aP b m fun h=>Z (T b h)) (fun id s=>⟨rfl,?_⟩) (fun id o f=>?_) (fun id o b f r=>?_) (fun id M o o' b I f H r G=>?_)
 ·simp only[AJ,List.not_mem_nil,or_false,not_or] at s;simp[Ctx.aE,s.1,s.2]
 ·rcases k id o f with⟨rfl,rfl⟩|⟨_,rfl⟩
  ·refine⟨css,by rw[D];exact Q,⟨hD.len,hD.cell,hD.inner,fun i off x us u Y=>(by cases Y),hD.apart⟩,fun v=>by rw[N,pf];exact O v,fun i off v b A E=>U i off v b A (by rwa [D] at E)⟩
  ·trivial
 ·rcases k id o f with⟨rfl,rfl⟩|⟨_,rfl⟩
  ·rcases r with r|⟨v,A,J⟩
   ·rw[D] at r;exact(vb b r).imp (fun h=>h) (T b)
   ·rw[N,pf] at A;obtain⟨i,off,X⟩:=(O v).1 A;exact(S i off v b X J).imp (fun h=>h) (T b)
  ·exact r.elim
 ·rcases k id o f with⟨rfl,rfl⟩|⟨_,rfl⟩<;>rcases k M o' H with⟨rfl,rfl⟩|⟨_,rfl⟩<;>first|exact I rfl|exact r.elim|exact G.elim
def my {c:Ctx} {w:World} {need:Os} {id sz e sh:Nat} {a:cr} {l:List (List AV)} (aD:H7 c w need) (d:lk need id=some (.deep sz e a l [] sh)):∃css,y7 w (c.hd id) sz e css/\O8 c.Φ c.hd w a [] l css /\
  (∀i off v b,X0 css a [] i off v->(c.hd id).ownBlock=some b->v.ownBlock=some b->False)/\(∀i off v b,X0 css a [] i off v->v.ownBlock=some b->aK c id (.deep sz e a l [] sh) b):=by
 obtain⟨css,f,g,h,j⟩:=aD.rep id _ d;exact⟨css,f,g,j,fun i off v b m k=>.inr ⟨v,(h v).2 ⟨i,off,m⟩,k⟩⟩
def jc {i off:Nat}:¬X6 [] i off:=fun⟨_,h⟩=>by cases h
theorem X0.take {css:List (List Value)} {a:cr} {n i off:Nat} {v:Value} (h:X0 (css.take n) a [] i off v):X0 css a [] i off v:=by
 obtain⟨us,p,b,c,d,e⟩:=h;rw[List.getElem?_take] at b;split at b
 ·exact⟨us,p,b,c,d,jc⟩
 ·cases b
theorem O8.take {Φ:Nat->Prop} {hd:Nat->Value} {w:World} {e:cr} {l:List (List AV)} {css:List (List Value)} (h:O8 Φ hd w e [] l css) (n:Nat):O8 Φ hd w e [] (l.take n) (css.take n):=by
 have k:∀(i:Nat) us,(css.take n)[i]?=some us->css[i]?=some us:=fun i us c=>by
  rw[List.getElem?_take] at c;split at c
  ·exact c
  ·cases c
 have m:∀(i:Nat) f,(l.take n)[i]?=some f->l[i]?=some f:=fun i us c=>by
  rw[List.getElem?_take] at c;split at c
  ·exact c
  ·cases c
 exact⟨by simp[h.len],fun i us f c j=>h.cell i us f (k i us c) (m i f j),fun i us f off isz ie u c j a b d=>h.inner i us f off isz ie u (k i us c) (m i f j) a b d,fun i off x us u r=>(by cases r),
  fun i off v s g t b p q=>h.apart i off v s g t b p.take q.take⟩
def nV (tab:F7) (os:Os) (d:Nat) (t:TypeId) (x:AV) (f c:Option AV) (K:Kt):Prop :=
 match lk tab t,x,f,c with
 |some ti,.aG id,none,some (.int b)=>match lk os id,lk tab ti.elem with
  |some (.deep sz e a l [] _),some te=>match A4 id d,A4 id (d+700) with
   |false,false=>ti.kind=2/\te.size=sz/\0<=b/\b<=(l.length:Int)/\∀q,q=l.take b.toNat->K (.aG d) [id] [d,d+700] [(d,.deep sz e a q [] (d+700)),(d+700,.aI),(id,.aI)]
   |_,_=>False
  |_,_=>False
 |_,_,_,_=>False
def uf (E:E5 P tab) (d:Nat) {t:TypeId} {x:Operand} {r n:Option Operand} (y:o.op=.slice t x r n none) (h:nV tab os d t (ev x) (M7 ev r) (M7 ev n) K):J5 P o ev os K:=by
 have run:∀(j:Operand->Value) (w:World) (v:Value),(Instr.sliceAt t (j x) (r.map j) (n.map j) none).run P w=.ok v w->(execOp j o).run P w=.ok (.value v) w:=fun j w v h=>by simp[execOp,y,h]
 unfold nV at h;split at h
 ·rename_i ti id b C T Q m;split at h
  ·rename_i sz e g l sh te u B;split at h
   ·rename_i k f;obtain⟨O,rfl,M,Z,h⟩:=h;have k:id≠d:=fun e=>by subst e;simp at k
    have f:id≠d+700:=fun e=>by rw[<-e] at f;simp at f
    have S:=(E t ti C).aQ O;obtain⟨rfl⟩:r=none:=by cases r<;>simp_all [M7]
    cases n with
    |none=>simp[M7] at m
    |some z =>
     simp only[M7,Option.some.injEq] at m;refine fun _=>⟨_,[(id,.deep te.size e g l [] sh)],_,[d,d+700],fun c w j aD G=>?_,fun i ob h=>dB h u,fun i n=>?_,h _ rfl⟩
     ·have H:=G x (by simp[y,Op.operands]);have I:=G z (by simp[y,Op.operands]);rw[T] at H;rw[m] at I;obtain⟨A,cap,e1,F,Y,J⟩:=jI (aD.rep id _ (j3 _ _ _)) H;obtain⟨css,U,V,W,X⟩:=my aD (j3 _ _ _);have q:(execOp j o).run P w=.ok (.value (.slice A b.toNat cap)) w:=by
       refine run j w _ ?_;rw[e1];simp only[Option.map_none,Ab,I.aR.1];exact kO S (E _ te B) M d9
      have N:y7 w (.slice A b.toNat cap) te.size e (css.take b.toNat):=y7.take (by rw[<-F];exact U) d9;have p:(Value.slice A b.toNat cap).ownBlock=(c.hd id).ownBlock:=by rw[F];cases A<;>rfl
      obtain⟨L,R⟩:=aF.deep (w':=w) (l:=l.take b.toNat) (sh:=d+700) aD (by omega:d≠d+700) (by rw[G5 _ _ k];rfl) (by rw[G5 _ _ f];rfl) rfl rfl rfl (AA _) (aK c id (.deep te.size e g l [] sh)) (fun b=>by rw[jf]) (fun _ _ _=>rfl) N (V.take b.toNat)
       (fun s a=>.inr (.inl (by rw[<-p];exact a))) (fun i off v s D a=>.inr (X i off v s D.take a)) (fun i off v s D a=>W i off v s D.take (by rw[<-p];exact a))
      rw[q];exact⟨_,R,.aG (by simp[Ctx.aE]) d9 J⟩
     ·simp only[AJ,List.not_mem_nil,or_false] at n;rcases n with rfl|rfl
      ·rw[j3];rfl
      ·rw[G5 _ _ d9,j3];rfl
   ·exact h.elim
  ·exact h.elim
 ·exact h.elim
theorem X0.app {css b:List (List Value)} {a:cr} {i off:Nat} {v:Value} (h:X0 (css++b) a [] i off v):(i<css.length/\X0 css a [] i off v)\/(css.length<=i/\X0 b a [] (i-css.length) off v):=by
 obtain⟨us,p,c,d,e,g⟩:=h;by_cases f:i<css.length
 ·rw[List.getElem?_append_left f] at c;exact .inl ⟨f,us,p,c,d,e,jc⟩
 ·rw[List.getElem?_append_right d9] at c;exact .inr ⟨d9,us,p,c,d,e,jc⟩
theorem O8.append {Φ:Nat->Prop} {hd:Nat->Value} {w:World} {c:cr} {l l2:List (List AV)} {css e:List (List Value)} (h:O8 Φ hd w c [] l css) (z:O8 Φ hd w c [] l2 e)
  (C:∀i off v A f r b,X0 css c [] i off v->X0 e c [] A f r->v.ownBlock=some b->r.ownBlock=some b->False):O8 Φ hd w c [] (l++l2) (css++e):=by
 have s:∀(i:Nat) us g,(css++e)[i]?=some us->(l++l2)[i]?=some g->(css[i]?=some us/\l[i]?=some g)\/(e[i-css.length]?=some us/\l2[i-css.length]?=some g):=fun i us g k j=>by
  by_cases B:i<css.length
  ·rw[List.getElem?_append_left B] at k;rw[List.getElem?_append_left (by rw[<-h.len];exact B)] at j;exact .inl ⟨k,j⟩
  ·rw[List.getElem?_append_right d9] at k;rw[List.getElem?_append_right (by rw[<-h.len];omega),<-h.len] at j;exact .inr ⟨k,j⟩
 refine⟨by simp[h.len,z.len],fun i us g k j=>?_,fun i us g off isz ie u k j a b d=>?_,fun i off x us u H=>(by cases H),fun i off v A f r b D E t y=>?_⟩
 ·rcases s i us g k j with⟨m,n⟩|⟨m,n⟩
  ·exact h.cell i us g m n
  ·exact z.cell _ us g m n
 ·rcases s i us g k j with⟨m,n⟩|⟨m,n⟩
  ·exact h.inner i us g off isz ie u m n a b jc
  ·exact z.inner _ us g off isz ie u m n a b jc
 ·rcases D.app with⟨F,p⟩|⟨F,p⟩<;>rcases E.app with⟨G,q⟩|⟨G,q⟩
  ·exact h.apart i off v A f r b p q t y
  ·exact(C _ _ _ _ _ _ b p q t y).elim
  ·exact(C _ _ _ _ _ _ b q p y t).elim
  ·have:=z.apart _ off v _ f r b p q t y;exact⟨d9,this.2⟩
def nI (tab:F7) (os:Os) (d:Nat) (t g:TypeId) (x y:AV) (K:Kt):Prop :=
 match lk tab t,A4 t g,x,y with
 |some ti,true,.aG id,.aG a=>match lk os id,lk os a,lk tab ti.elem with
  |some (.deep sz e b l [] _),some (.deep f h c l2 [] _),some te=>match A4 id a,A4 id d,A4 a d,A4 id (d+700),A4 a (d+700) with
   |false,false,false,false,false=>ti.kind=2/\te.size=sz/\f=sz/\e=ti.elem/\c=b/\0<sz/\1<=te.bytes/\(l.length+l2.length)*te.bytes<=140737488355328/\∀q,q=l++l2->K (.aG d) [id,a] [d,d+700] [(d,.deep sz e b q [] (d+700)),(d+700,.aI),(id,.aI),(a,.aI)]
   |_,_,_,_,_=>False
  |_,_,_=>False
 |_,_,_,_=>False
def uW (hT:E5 P tab) (d:Nat) {t t':TypeId} {x y:Operand} (ho:o.op=.call { callee:=.builtin .append,args:=#[x,y],argTypes:=#[t,t'] }) (h:nI tab os d t t' (ev x) (ev y) K):J5 P o ev os K:=by
 unfold nI at h;split at h
 ·rename_i ti id g hti htt hx hy;obtain rfl:=AB htt;split at h
  ·rename_i sz e cols1 l sh sz2 B f l2 n te hid O hte;split at h
   ·rename_i W n2 n3 X Y;have W:id≠g:=fun e=>by subst e;simp at W
    have n2:id≠d:=fun e=>by subst e;simp at n2
    have n3:g≠d:=fun e=>by subst e;simp at n3
    have X:id≠d+700:=fun e=>by rw[<-e] at X;simp at X
    have Y:g≠d+700:=fun e=>by rw[<-e] at Y;simp at Y
    obtain⟨hk,rfl,rfl,rfl,rfl,Q,hpb,p,h⟩:=h;refine fun _=>⟨_,[(id,.deep te.size ti.elem f l [] sh),(g,.deep te.size B f l2 [] n)],_,[d,d+700],fun c w ρ aD hr=>?_,fun i ob h=>?_,fun i V=>?_,h _ rfl⟩
    ·have H:lk [(id,Obj.deep te.size ti.elem f l [] sh),(g,.deep te.size B f l2 [] n)] id=some (.deep te.size ti.elem f l [] sh):=j3 _ _ _;have J:lk [(id,Obj.deep te.size ti.elem f l [] sh),(g,.deep te.size B f l2 [] n)] g=some (.deep te.size B f l2 [] n):=by rw[G5 _ _ W,j3]
     have r1:=hr x (by simp[ho,Op.operands,Go.Call.operands]);have r2:=hr y (by simp[ho,Op.operands,Go.Call.operands]);rw[hx] at r1;rw[hy] at r2;obtain⟨A,cap,e1,hh,b1,b2⟩:=jI (aD.rep id _ H) r1;obtain⟨A2,cap2,e1',hh',b1',b2'⟩:=jI (aD.rep g _ J) r2;obtain⟨css,p1,p2,p3,p4⟩:=my aD H;obtain⟨j,s1,s2,s3,I⟩:=my aD J;have S:Src c.Φ w te.size (c.hd g) (j.map fun us=>us.map AV.aU):=Src.eT (e:=B) ⟨j,s1,o5,fun i us cs hu hc=>by
      rw[Aa,hu] at hc;cases hc;exact ni us⟩
     have hl:css.length+(j.map fun us=>us.map AV.aU).length<=maxLen:=by
      have:(l.length+l2.length)*1<=(l.length+l2.length)*te.bytes:=Nat.mul_le_mul_left _ hpb;rw[AR,p2.len,s2.len];simp only[maxLen];omega
     obtain⟨v',w',q,R,q1,q2,E,q4,q5⟩:=ou (P:=P) (hT t ti hti) hk (hT _ te hte) Q o.type p1 S (by rw[AR,p2.len,s2.len];exact p) hl;have hcc:q=j:=by
      have F:∀(a b:List Value),p8 c.Φ w a (b.map AV.aU)->a=b:=by
       intro a b
       induction b generalizing a with
       |nil=>intro h;cases h;rfl
       |cons x b ih =>
        intro h;cases h with|cons r s =>
        cases r;rw[ih _ s]
      apply AY;intro i;rw[AR] at q1;by_cases V:i<j.length
      ·have r:j[i]?=some j[i]:=A8 V;have h3:q[i]?=some (q[i]' d9):=A8 d9;rw[r,h3,F _ j[i] (q5 i _ _ h3 (by rw[Aa,r];rfl))]
      ·rw[AW d9,AW d9]
     subst hcc;have G:(execOp ρ o).run P w=.ok (.value v') w':=by
      simp[execOp,ho,resolve,invoke,builtin,e1,e1',<-hh,<-hh',R]
     have z:∀b,aK c id (.deep te.size ti.elem f l [] sh) b->aK c g (.deep te.size B f l2 [] n) b->False:=fun b r s=>aD.sep id g _ _ b W H J r s;have k:∀b,(c.hd id).ownBlock=some b->aK c id (.deep te.size ti.elem f l [] sh) b:=fun b p=>.inl p;have Z:∀b,(c.hd g).ownBlock=some b->aK c g (.deep te.size B f l2 [] n) b:=fun b p=>.inl p;have T:∀b,aK c id (.deep te.size ti.elem f l [] sh) b->b<w.heap.size:=fun b h=>(aD.lt id _ b H h).1;have D:∀b,aK c g (.deep te.size B f l2 [] n) b->b<w.heap.size:=fun b h=>(aD.lt g _ b J h).1;have N:∀b,c.Φ b->w'.heap[b]?=w.heap[b]?:=fun b p=>E.block b (aD.aX b p) fun e=>(aD.lt id _ b H (k b e.symm)).2 p;have k1:O8 c.Φ c.hd w' f [] l css:=p2.aP N (fun _ h=>h) (fun _ _ _ h=>(by cases h)) fun i off v b C m=>E.block b (T b (p4 i off v b C m)) fun e=>p3 i off v b C e.symm m;have k2:O8 c.Φ c.hd w' f [] l2 q:=s2.aP N (fun _ h=>h) (fun _ _ _ h=>(by cases h)) fun i off v b C m=>E.block b (D b (I i off v b C m)) fun e=>z b (k b e.symm) (I i off v b C m);have u:∀b,v'.ownBlock=some b->w.heap.size<=b\/(c.hd id).ownBlock=some b:=fun b p=>by
      rcases q4 with h|h
      ·exact .inr (h▸p)
      ·exact .inl (h b p)
     obtain⟨L,hp⟩:=aF.deep (w':=w') (l:=l++l2) (sh:=d+700) (d:=d) aD (by omega:d≠d+700) (by rw[G5 _ _ n2,G5 _ _ n3];rfl) (by rw[G5 _ _ X,G5 _ _ Y];rfl) E.os E.tape E.output E.size
      (fun b=>aK c id (.deep te.size ti.elem f l [] sh) b\/aK c g (.deep te.size B f l2 [] n) b) (fun b=>⟨fun h=>by
       rcases h with h|h
       ·exact⟨id,_,H,h⟩
       ·exact⟨g,_,J,h⟩,fun⟨i,o',r,s⟩=>by
       rw[j5] at r;split at r
       ·rename_i e;subst e;cases r;exact .inl s
       ·obtain⟨rfl,rfl⟩:=U4 r;exact .inr s⟩) (fun b p hn=>E.block b p fun e=>hn (.inl (k b e.symm))) q2
      (k1.append k2 fun i off v i' U v2 b a1 a2 c1 c2=>z b (p4 i off v b a1 c1) (I i' U v2 b a2 c2))
      (fun b p=>(u b p).imp (fun h=>h) fun h=>.inl (k b h)) (fun i off v b C m=>by
       rcases C.app with⟨_,h⟩|⟨_,h⟩
       ·exact .inr (.inl (p4 i off v b h m))
       ·exact .inr (.inr (I _ off v b h m))) (fun i off v b C r s=>by
       rcases C.app with⟨_,h⟩|⟨_,h⟩
       ·rcases u b r with M|M
        ·have:=T b (p4 i off v b h s);omega
        ·exact p3 i off v b h M s
       ·rcases u b r with M|M
        ·have:=D b (I _ off v b h s);omega
        ·exact z b (k b M) (I _ off v b h s))
     rw[G];refine⟨_,hp,?_⟩;obtain⟨A3,cap3,hv3,c1,c2⟩:=q2.head;rw[hv3];exact .aG (by simp[Ctx.aE]) c1 c2
    ·rw[j5] at h;split at h
     ·rename_i e;subst e;cases h;exact hid
     ·obtain⟨rfl,rfl⟩:=U4 h;exact O
    ·simp only[AJ,List.not_mem_nil,or_false] at V;rcases V with rfl|rfl
     ·rw[j3];rfl
     ·rw[G5 _ _ d9,j3];rfl
   ·exact h.elim
  ·exact h.elim
 ·exact h.elim
def iN (os:Os) (b:cr):List AV->Nat->Option (List AV×Os)
 |[],_=>some ([],[])
 |a::r,o=>match iN os b r (o+1) with
  |some (e,g)=>match lk b o with
   |none=>match a.ids with
    |[]=>some (a::e,g)
    |_=>none
   |some (isz,ie)=>match a with
    |.a8=>some (.sl isz []::e,g)
    |.aG y=>match lk os y with
     |some (.row c ls d)=>match A4 isz c,A4 ie d,lk g y with
      |true,true,none=>some (.sl isz ls::e,(y,.row c ls d)::g)
      |_,_,_=>none
     |_=>none
    |_=>none
  |none=>none
structure wK (os:Os) (cols:cr) (a_ cs:List AV) (o:Nat) (g:Os):Prop where
 len:cs.length=a_.length
 sub:∀id ob,lk g id=some ob->lk os id=some ob
 cell:∀off a,cs[off]?=some a->lk cols (o+off)=none->a_[off]?=some a/\a.ids=[]
 jn:∀off isz ie,off<cs.length->lk cols (o+off)=some (isz,ie)->(a_[off]?=some .a8/\cs[off]?=some (.sl isz []))\/∃y ls,a_[off]?=some (.aG y)/\lk g y=some (.row isz ls ie)/\cs[off]?=some (.sl isz ls)
 one:∀off off' y p p',lk cols (o+off)=some p->lk cols (o+off')=some p'->a_[off]?=some (.aG y)->a_[off']?=some (.aG y)->off=off'
 from_:∀id ob,lk g id=some ob->∃off p isz ls ie,lk cols (o+off)=some p/\a_[off]?=some (.aG id)/\ob=.row isz ls ie
theorem rF {os:Os} {n:cr}:∀{a_ D:List AV} {o:Nat} {g:Os},iN os n a_ o=some (D,g)->wK os n a_ D o g
 |[],D,o,g,h=>by
  simp only[iN,Option.some.injEq,Prod.mk.injEq] at h;obtain⟨rfl,rfl⟩:=h;exact⟨rfl,fun _ _ h=>(by cases h),fun off a h=>by simp at h,fun off isz ie h=>by simp at h,fun off c y p B _ _ h=>by simp at h,fun _ _ h=>(by cases h)⟩
 |a::r,D,o,g,h=>by
  rw[iN] at h;cases F:iN os n r (o+1) with
  |none=>rw[F] at h;cases h
  |some q =>
   obtain⟨E,G⟩:=q;rw[F] at h;have ih:=rF F;have sh:∀off,o+(off+1)=o+1+off:=fun off=>d9;simp only at h;split at h
   ·rename_i d;split at h
    ·rename_i C;simp only[Option.some.injEq,Prod.mk.injEq] at h;obtain⟨rfl,rfl⟩:=h;refine⟨by simp[ih.len],ih.sub,fun off b w t=>?_,fun off isz ie A l=>?_,fun off c y p B k i j s=>?_,fun id ob u=>?_⟩
     ·cases off with
      |zero=>simp at w;subst w;exact⟨rfl,C⟩
      |succ off=>rw[sh] at t;simpa using ih.cell off b (by simpa using w) t
     ·cases off with
      |zero=>simp only[Nat.add_zero] at l;rw[d] at l;cases l
      |succ off=>rw[sh] at l;simpa using ih.jn off isz ie (by simpa using A) l
     ·cases off with
      |zero=>simp only[Nat.add_zero] at k;rw[d] at k;cases k
      |succ off=>cases c with
       |zero=>simp only[Nat.add_zero] at i;rw[d] at i;cases i
       |succ c=>rw[sh] at k i;rw[ih.one off c y p B k i (by simpa using j) (by simpa using s)]
     ·obtain⟨off,p,isz,ls,ie,k,i,j⟩:=ih.from_ id ob u;exact⟨off+1,p,isz,ls,ie,by rw[sh];exact k,by simpa using i,j⟩
    ·cases h
   ·rename_i isz ie d;split at h
    ·simp only[Option.some.injEq,Prod.mk.injEq] at h;obtain⟨rfl,rfl⟩:=h;refine⟨by simp[ih.len],ih.sub,fun off b w t=>?_,fun off f m A l=>?_,fun off c y p B k i j s=>?_,fun id ob u=>?_⟩
     ·cases off with
      |zero=>simp only[Nat.add_zero] at t;rw[d] at t;cases t
      |succ off=>rw[sh] at t;simpa using ih.cell off b (by simpa using w) t
     ·cases off with
      |zero=>simp only[Nat.add_zero] at l;rw[d] at l;cases l;exact .inl ⟨rfl,rfl⟩
      |succ off=>rw[sh] at l;simpa using ih.jn off f m (by simpa using A) l
     ·cases off with
      |zero=>simp at j
      |succ off=>cases c with
       |zero=>simp at s
       |succ c=>rw[sh] at k i;rw[ih.one off c y p B k i (by simpa using j) (by simpa using s)]
     ·obtain⟨off,p,f,ls,m,k,i,j⟩:=ih.from_ id ob u;exact⟨off+1,p,f,ls,m,by rw[sh];exact k,by simpa using i,j⟩
    ·rename_i y;split at h
     ·rename_i f ls m N;split at h
      ·rename_i J L x;obtain rfl:=AB J;obtain rfl:=AB L;simp only[Option.some.injEq,Prod.mk.injEq] at h;obtain⟨rfl,rfl⟩:=h;have O:∀z ob,lk G z=some ob->lk ((y,Obj.row isz ls ie)::G) z=some ob:=fun z ob H=>by
        rw[G5 _ _ (fun e=>by rw[e,H] at x;cases x)];exact H
       have other:∀off p,lk n (o+1+off)=some p->r[off]?=some (.aG y)->False:=fun off p k i=>by
        have A:off<E.length:=by rw[ih.len];exact(AF.1 i).1
        rcases ih.jn off p.1 p.2 A k with⟨j,_⟩|⟨I,v,j,s,_⟩
        ·rw[i] at j;cases j
        ·rw[i] at j;cases j;rw[x] at s;cases s
       refine⟨by simp[ih.len],fun id ob u=>?_,fun off b w t=>?_,fun off f m A l=>?_,fun off c z p B k i j s=>?_,fun id ob u=>?_⟩
       ·rw[j5] at u;split at u
        ·rename_i e;subst e;cases u;exact N
        ·exact ih.sub id ob u
       ·cases off with
        |zero=>simp only[Nat.add_zero] at t;rw[d] at t;cases t
        |succ off=>rw[sh] at t;simpa using ih.cell off b (by simpa using w) t
       ·cases off with
        |zero=>simp only[Nat.add_zero] at l;rw[d] at l;cases l;exact .inr ⟨y,ls,rfl,j3 _ _ _,rfl⟩
        |succ off =>
         rw[sh] at l;rcases ih.jn off f m (by simpa using A) l with h|⟨I,v,j,s,M⟩
         ·exact .inl (by simpa using h)
         ·exact .inr ⟨I,v,by simpa using j,O _ _ s,by simpa using M⟩
       ·cases off with
        |zero=>cases c with
         |zero=>rfl
         |succ c =>
          simp only[List.getElem?_cons_zero,Option.some.injEq,AV.aG.injEq] at j;subst j;rw[sh] at i;exact(other c B i (by simpa using s)).elim
        |succ off=>cases c with
         |zero =>
          simp only[List.getElem?_cons_zero,Option.some.injEq,AV.aG.injEq] at s;subst s;rw[sh] at k;exact(other off p k (by simpa using j)).elim
         |succ c=>rw[sh] at k i;rw[ih.one off c z p B k i (by simpa using j) (by simpa using s)]
       ·rw[j5] at u;split at u
        ·rename_i e;subst e;cases u;exact⟨0,(isz,ie),isz,ls,ie,by simpa using d,rfl,rfl⟩
        ·obtain⟨off,p,f,v,m,k,i,j⟩:=ih.from_ id ob u;exact⟨off+1,p,f,v,m,by rw[sh];exact k,by simpa using i,j⟩
      ·cases h
     ·cases h
    ·cases h
def na (tab:F7) (os:Os) (ev:Ev) (d:Nat) (t:TypeId) (n:Nat) (b:Array (Nat×Operand)) (K:Kt):Prop :=
 match lk tab t,n,b.toList with
 |some ti,1,[(0,x)]=>match lk tab ti.elem,(ev x).cells? with
  |some te,some a_=>∃a c g,iN os a a_ 0=some (c,g)/\ti.kind=2/\te.size=a_.length/\te.size<=16777216/\0<te.size/\lk g d=none/\lk g (d+700)=none/\K (.aG d) (g.map (·.1)) [d,d+700] ((d,.deep te.size ti.elem a [c] [] (d+700))::(d+700,.aI)::D7 g)
  |_,_=>False
 |_,_,_=>False
def gV {c:Type} {a b:c} {i:Nat} (h:[a][i]?=some b):i=0/\b=a:=by
 cases i with
 |zero=>simp at h;exact⟨rfl,h.symm⟩
 |succ i=>simp at h
def ux (hT:E5 P tab) (d:Nat) {t:TypeId} {n:Nat} {q:Array (Nat×Operand)} (ho:o.op=.buildSlice t n q) (h:na tab os ev d t n q K):J5 P o ev os K:=by
 unfold na at h;split at h
 ·rename_i ti x hti J;split at h
  ·rename_i te a_ hte hcs;obtain⟨r,M,g,hdc,hk,V,hmax,hpos,hgd,hgs,h⟩:=h;have D:=rF hdc;have ht:=(hT t ti hti).aQ hk;have hE:=hT _ te hte;have hpa:q=#[(0,x)]:=by simpa using congrArg List.toArray J
   subst hpa;refine fun _=>⟨_,g,_,[d,d+700],fun c w R aD hr=>?_,D.sub,fun i hi=>?_,h⟩
   ·have r1:=hr x (by simp[ho,Op.operands]);obtain⟨rv,h1⟩:=fH r1 hcs;obtain⟨z,hz,hzo,hza⟩:=hE.bA w;have hzr:=Z5 c.Φ w _ _ hzo;have hzl:z.cells.toList.length=te.size:=by rw[hzr.1.length,hE.zl]
    have G:(R x).cells.toList.length=te.size:=(by rw[rv.length,V]);generalize hus:(R x).cells.toList=us at rv h1 G;have hrun:(execOp R o).run P w=.ok (.value (.slice (some ⟨w.heap.size,0,none⟩) 1 1)) (w.alloc (.cells us.toArray ti.elem)):=by
     have Z:¬(1*te.size > 2 ^ 24):=d9;have h0:¬(1*te.size=0):=d9;have H:(Array.range (1*te.size)).map (z.cells[· % z.cells.size]!)=z.cells.toList.toArray:=by
      have:=mP z.cells.toList 1;rw[hzl] at this;apply Array.toList_inj.1;simpa[madeCells] using this
     obtain⟨rs,hrs⟩:=eB 0 us z.cells.toList d9;have hrs':rs=us:=by
      apply AY;intro j;rw[J4 hrs];by_cases hj:j<us.length
      ·rw[Ah d9];simp
      ·rw[Ag d9,AW d9,AW d9]
     have U:=bB 0 us 0 z.cells.toList rs (by simpa using hrs);have I:(R x).cells.zipIdx.foldl (fun(M:Array Value) (c,j)=>M.setIfInBounds (0+j) c) z.cells.toList.toArray=us.toArray:=by
      rw[<-hrs',<-U,<-hus,<-Array.foldl_toList];simp
     have hsz1:(R x).cells.size=te.size:=by rw[<-G,<-hus];simp
     have hsz2:z.cells.toList.toArray.size=te.size:=(by simpa using hzl);simp only[execOp,ho,Instr.buildSlice,Sem.run_bind,run_underlying ht,hE.aZ,Result.andThen_ok,Ag Z,Ag h0,hz,Sem.run_pure,H];have T:Instr.fill (fun i=>some (i*te.size,te.size)) z.cells.toList.toArray [(0,R x)]=some us.toArray:=by
      simp only[Instr.fill,Nat.zero_mul];rw[Ag (by rw[hsz1,hsz2];simp)];exact congrArg some I
     have hpl:(Array.map (fun(p:Nat×Operand)=>(p.1,R p.2)) #[(0,x)]).toList=[(0,R x)]:=o5;simp[hpl,T,newRow]
    have s:∀b,b<w.heap.size->(w.alloc (.cells us.toArray ti.elem)).heap[b]?=w.heap[b]?:=fun b f=>alloc_old w _ f;have hR:y7 (w.alloc (.cells us.toArray ti.elem)) (.slice (some ⟨w.heap.size,0,none⟩) 1 1) te.size ti.elem [us]:=by
     have:=y7.made (w:=w) (sz:=te.size) (e:=ti.elem) (css:=[us]) (fun v k=>by rw[List.mem_singleton.1 k];exact G) (fun v k u E=>by rw[List.mem_singleton.1 k] at E;exact h1 u E) (by simp[maxLen]);simpa using this
    have N:∀off isz ie u,us[off]?=some u->lk r off=some (isz,ie)->(M[off]?=some (.sl isz [])/\u=.slice none 0 0)\/∃y ls,a_[off]?=some (.aG y)/\lk g y=some (.row isz ls ie)/\M[off]?=some (.sl isz ls)/\u=c.hd y:=fun off isz ie u E S=>by
     have hlt:off<M.length:=by rw[D.len,<-V,<-G];exact(AF.1 E).1
     rcases D.jn off isz ie hlt (by simpa using S) with⟨B,C⟩|⟨y,ls,B,C,X⟩
     ·obtain⟨v,k,hr⟩:=rv.get B;rw[E] at k;cases k;exact .inl ⟨C,hr.ah⟩
     ·obtain⟨v,k,hr⟩:=rv.get B;rw[E] at k;cases k;obtain⟨A,m,cap,e1,e2,_⟩:=hr.aj;exact .inr ⟨y,ls,B,C,X,by rw[e1,e2]⟩
    have F:∀off p u b,us[off]?=some u->lk r off=some p->u.ownBlock=some b->∃y ob,a_[off]?=some (.aG y)/\lk g y=some ob/\aK c y ob b:=fun off p u b E S f=>by
     rcases N off p.1 p.2 u E S with⟨_,rfl⟩|⟨y,ls,B,C,_,rfl⟩
     ·cases f
     ·exact⟨y,_,B,C,f⟩
    have hD:O8 c.Φ c.hd (w.alloc (.cells us.toArray ti.elem)) r [] [M] [us]:=by
     refine⟨rfl,fun i us' cs' E S=>?_,fun i us' cs' off isz ie u E S a b _=>?_,fun i off x us u hm=>(by cases hm),fun i off v i' Q v' b Y W h4 h5=>?_⟩
     ·obtain⟨rfl,rfl⟩:=gV E;obtain⟨_,rfl⟩:=gV S;refine⟨by rw[G,D.len,V],fun off u a hu' ha hn=>?_⟩;obtain⟨B,C⟩:=D.cell off a ha (by simpa using hn);obtain⟨v,k,hr'⟩:=rv.get B;rw[hu'] at k;cases k;exact(Rd.rf C hr').mono (fun b f=>s b (aD.aX b f)) fun _ h=>h
     ·obtain⟨rfl,rfl⟩:=gV E;obtain⟨_,rfl⟩:=gV S;rcases N off isz ie u b a with⟨Y,rfl⟩|⟨y,ls,_,W,h4,rfl⟩
      ·exact⟨[],Y,[],⟨.inl ⟨rfl,rfl⟩,o5,o5⟩,rfl,fun i us M h=>by simp at h⟩
      ·exact⟨ls,h4,I5.aP (aD.rep y _ W) (fun b f=>s b (aD.aX b f)) (fun _ h=>h) fun b f=>s b (aD.lt y _ b W f).1⟩
     ·obtain⟨us1,p1,B,C,X,_⟩:=Y;obtain⟨us2,p2,b1,b2,b3,_⟩:=W;obtain⟨rfl,rfl⟩:=gV B;obtain⟨rfl,rfl⟩:=gV b1;obtain⟨y1,o1,c1,c2,c3⟩:=F off p1 v b X C h4;obtain⟨y2,o2,d1,d2,d3⟩:=F Q p2 v' b b3 b2 h5;refine⟨rfl,?_⟩;by_cases hy:y1=y2
      ·subst hy;exact D.one off Q y1 p1 p2 (by simpa using C) (by simpa using b2) c1 d1
      ·exact(aD.sep y1 y2 o1 o2 b hy c2 d2 c3 d3).elim
    have O:∀i off v b,X0 [us] r [] i off v->v.ownBlock=some b->∃y ob,lk g y=some ob/\aK c y ob b:=fun i off v b k f=>by
     obtain⟨us1,p1,B,C,X,_⟩:=k;obtain⟨rfl,rfl⟩:=gV B;obtain⟨y1,o1,_,c2,c3⟩:=F off p1 v b X C f;exact⟨y1,o1,c2,c3⟩
    obtain⟨L,hp⟩:=aF.deep (w':=w.alloc (.cells us.toArray ti.elem)) (l:=[M]) (d:=d) (sh:=d+700) aD d9 hgd hgs rfl rfl rfl (by rw[gR];omega) (fun b=>∃id o,lk g id=some o/\aK c id o b) (fun b=>Iff.rfl) (fun b f _=>s b f) hR hD
     (fun b f=>.inl (by have f:some w.heap.size=some b:=f;cases f;exact AA _)) (fun i off v b k f=>.inr (O i off v b k f)) (fun i off v b k f hb'=>by
      have f:some w.heap.size=some b:=f;cases f;obtain⟨y,ob,Y,W⟩:=O i off v _ k hb';have:=(aD.lt y ob _ Y W).1;omega)
    rw[hrun];exact⟨_,hp,.aG (by simp[Ctx.aE]) (AA _) (by simp[maxLen])⟩
   ·simp only[AJ,List.not_mem_nil,or_false] at hi;rcases hi with rfl|rfl
    ·rw[j3];rfl
    ·rw[G5 _ _ d9,j3];rfl
  ·exact h.elim
 ·exact h.elim
structure eF (os:Os) (a_ r:List AV) (g:Os):Prop where
 sub:∀id o,lk g id=some o->lk os id=some o
 run:∀(c:Ctx) (w:World) (us:List Value),H7 c w g->l8 c w us a_->l8 (c.fz g) w us r
theorem dN.gp {a_ r:List AV} {g:Os} (h:dN os a_ r g):eF os a_ r g:=⟨h.sub,h.run⟩
theorem eF.dT {id:Nat} {a b:AV} {o:Obj} {l r:List AV} {g:Os} (e:lk os id=some o) (f:∀(c:Ctx) (w:World) (v:Value) (g:Os),H7 c w g->lk g id=some o->Rd c w v a->Rd (c.fz g) w v b) (H:eF os l r g):eF os (a::l) (b::r) ((id,o)::g):=by
 have k:∀i x,lk ((id,o)::g) i=some x->lk os i=some x:=fun i x h=>by
  rw[j5] at h;split at h
  ·rename_i e1;subst e1;cases h;exact e
  ·exact H.sub i x h
 refine⟨k,fun c w us aD h=>?_⟩;cases h with|cons h t =>
  have d:∀i x,lk g i=some x->lk ((id,o)::g) i=some x:=fun i x j=>by
   rw[j5];split
   ·rename_i e1;subst e1;rw[<-e,H.sub _ _ j]
   ·exact j
  exact .cons (f c w _ _ aD (j3 _ _ _) h) ((H.run c w _ (aD.sub d) t).bb d)
theorem eF.skip {a:AV} {l r:List AV} {g:Os} (H:eF os l r g):eF os (a::l) (a::r) g :=
 ⟨H.sub,fun c w us aD h=>by cases h with|cons h t=>exact .cons (h.ry g) (H.run c w _ aD t)⟩
end
end Go.Proofs.YtibjcppjfkamhaaGreatDoor
