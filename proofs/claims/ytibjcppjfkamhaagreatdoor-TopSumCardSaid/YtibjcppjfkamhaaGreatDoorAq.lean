/- '==' between structs of plain cells, of whatever type. No conditions but a closed one on the type. -/
import Derived.Test.YtibjcppjfkamhaaGreatDoorAt
import Derived.Laws.StructEq
namespace Go.Proofs.YtibjcppjfkamhaaGreatDoor
open Go.RowKit
set_option linter.unusedVariables false
inductive CK : Type where
 |int (k:IntKind)
 |str
 |bool
 deriving DecidableEq,Inhabited
def bK9 (P:Program) (fl:TypeId→Option (List CK)):List Field→Nat→Option (List CK)
 |[],_=>some []
 |f::fs,o =>
  if f.name = "_" ∨ f.offset ≠ o then none else
  match fl f.type with
  |none=>none
  |some ks=>if (P.info? f.type).map (·.size)=some ks.length then
    match bK9 P fl fs (o+ks.length) with
    |none=>none
    |some r=>some (ks++r)
   else none
def flatK (P:Program):Nat→TypeId→Option (List CK)
 |0,_=>none
 |n+1,t =>
  match P.underlying t with
  |some (.int k)=>some [.int k]
  |some .string=>some [.str]
  |some .bool=>some [.bool]
  |some (.struct fs)=>if P.stoodInHeld t=true then none else bK9 P (flatK P n) fs.toList 0
  |_=>none
inductive aJ7 : List CK→List Value→Prop
 |nil:aJ7 [] []
 |int (k:IntKind) (n:Int) {ks:List CK} {vs:List Value}:aJ7 ks vs→aJ7 (.int k::ks) (.int k n::vs)
 |str (s:ByteArray) {ks:List CK} {vs:List Value}:aJ7 ks vs→aJ7 (.str::ks) (.string s::vs)
 |bool (b:Bool) {ks:List CK} {vs:List Value}:aJ7 ks vs→aJ7 (.bool::ks) (.bool b::vs)
theorem aJ7.length {ks:List CK} {vs:List Value} (h:aJ7 ks vs):vs.length=ks.length:=by
 induction h<;>simp_all
theorem aJ7.split {ks ks':List CK}:∀{vs:List Value},aJ7 (ks++ks') vs→aJ7 ks (vs.take ks.length)∧aJ7 ks' (vs.drop ks.length):=by
 induction ks with
 |nil=>intro vs h; exact ⟨.nil,h⟩
 |cons k ks ih =>
  intro vs h
  cases h with
  |int k n h=>exact ⟨.int k n (ih h).1,(ih h).2⟩
  |str s h=>exact ⟨.str s (ih h).1,(ih h).2⟩
  |bool b h=>exact ⟨.bool b (ih h).1,(ih h).2⟩
def veq : Value→Value→Bool
 |.int _ a,.int _ b=>decide (a=b)
 |.string a,.string b=>decide (a=b)
 |.bool a,.bool b=>decide (a=b)
 |_,_=>true
def aW9 : List Value→List Value→Bool
 |u::us,v::vs=>veq u v && aW9 us vs
 |_,_=>true
theorem b09 : ∀(n:Nat) (us vs:List Value),n≤us.length→us.length=vs.length→aW9 us vs=(aW9 (us.take n) (vs.take n) && aW9 (us.drop n) (vs.drop n))
 |0,us,vs,_,_=>by simp [aW9]
 |n+1,[],vs,h,_=>by simp at h
 |n+1,u::us,[],_,h=>by simp at h
 |n+1,u::us,v::vs,h,h2=>by
  have:=b09 n us vs (by simpa using h) (by simpa using h2)
  simp [aW9,this,Bool.and_assoc]
theorem bA6 (a b:ByteArray):(a.toList == b.toList)=decide (a=b):=by
 rw [←beq_toListBytes]
 by_cases h:a=b
 ·subst h
  rw [beq_toListBytes]
  simp
 ·rw [decide_eq_false h]
  have:(a == b)≠true:=by
   intro hh
   apply h
   have h2:a.data=b.data:=by
    obtain ⟨⟨x⟩⟩:=a
    obtain ⟨⟨y⟩⟩:=b
    have:((⟨x⟩:Array UInt8) == ⟨y⟩)=true:=hh
    simpa using this
   obtain ⟨x⟩:=a
   obtain ⟨y⟩:=b
   simp at h2
   rw [h2]
  simpa using this
def mkV : Bool→List Value→Value
 |true,us=>.agg us.toArray
 |false,us=>us.headD undef
section
variable {P:Program} (w:World)
theorem bW7 {t:TypeId} {d:TypeDesc} {s:Nat} (hd:P.underlying t=some d) (hs:(P.info? t).map (·.size)=some s) (us:List Value) (o:Nat) (h:aG7 d=true∨o < us.length) (h1:aG7 d=true∨s=1) :
  (part t us.toArray o).run P w=.ok (mkV (aG7 d) ((us.drop o).take s)) w:=by
 simp only [Option.map_eq_some_iff] at hs
 obtain ⟨i,hi,rfl⟩:=hs
 have ha:(isAgg t).run P w=.ok (aG7 d) w:=by cases d<;>simp [isAgg,run_underlying hd,aG7]
 cases hagg:aG7 d with
 |true =>
  simp only [part,Sem.run_bind,ha,hagg,Result.andThen_ok,if_true]
  simp only [sizeOf,typeInfo,Sem.run_bind,run_program,Result.andThen_ok,hi,Sem.run_pure]
  congr 2
  simp [List.take_drop]
 |false =>
  have ho:o < us.length:=by simpa [hagg] using h
  have h1':i.size=1:=by simpa [hagg] using h1
  simp only [part,Sem.run_bind,ha,hagg,Result.andThen_ok,Bool.false_eq_true,if_false]
  simp [ho,mkV,h1',List.take_one,List.head?_drop]
theorem cM6 : ∀(n:Nat) (t:TypeId) (ks:List CK),flatK P n t=some ks→∃d,P.underlying t=some d∧(aG7 d=true∨ks.length=1):=by
 intro n t ks h
 cases n with
 |zero=>simp [flatK] at h
 |succ n =>
  unfold flatK at h
  split at h<;>first|(rename_i e; refine ⟨_,e,?_⟩; simp at h; first|(subst h; simp)|(simp [aG7]))|(rename_i e; exact ⟨_,e,.inl rfl⟩)|cases h
theorem b28 : ∀(n:Nat) (t:TypeId) (ks:List CK) (d:TypeDesc) (m:Nat),flatK P n t=some ks→P.underlying t=some d→n≤m→∀us vs:List Value,aJ7 ks us→aJ7 ks vs →
  (Op.equalIn m t (mkV (aG7 d) us) (mkV (aG7 d) vs)).run P w=.ok (aW9 us vs) w:=by
 intro n
 induction n with
 |zero=>intro t ks d m h; simp [flatK] at h
 |succ n ih =>
  intro t ks d m h hd hm us vs hu hv
  obtain ⟨m,rfl⟩:∃k,m=k+1:=⟨m - 1,by omega⟩
  unfold flatK at h
  rw [hd] at h
  cases d with
  |int k =>
   simp at h
   subst h
   cases hu with|int k a hu=>cases hu; cases hv with|int k b hv =>
    cases hv
    simp [mkV,aG7,run_equalIn_int w m t k k a b hd,aW9,veq]
    exact Bool.beq_eq_decide_eq a b
  |string =>
   simp at h
   subst h
   cases hu with|str a hu=>cases hu; cases hv with|str b hv =>
    cases hv
    simp [mkV,aG7,run_equalIn_string w m t a b hd,aW9,veq,bA6]
  |bool =>
   simp at h
   subst h
   cases hu with|bool a hu=>cases hu; cases hv with|bool b hv =>
    cases hv
    simp [mkV,aG7,run_equalIn_bool' w m t a b hd,aW9,veq]
    exact Bool.beq_eq_decide_eq a b
  |struct fs =>
   simp only at h
   split at h
   ·cases h
   ·rename_i hst
    have hf:P.fieldsOf t=fs:=by simp [Program.fieldsOf,hd]
    simp only [mkV,aG7]
    rw [run_equalIn_struct w m t _ _ (by rw [hf]; exact hd) (by simpa using hst),hf]
    have key:∀(l:List Field) (o:Nat) (ks':List CK),bK9 P (flatK P n) l o=some ks'→o+ks'.length=us.length→aJ7 ks' (us.drop o)→aJ7 ks' (vs.drop o)→us.length=vs.length →
      (Op.eqFields m us.toArray vs.toArray l).run P w=.ok (aW9 (us.drop o) (vs.drop o)) w:=by
     intro l
     induction l with
     |nil =>
      intro o ks' h ho h1 h2 hl
      simp [bK9] at h
      subst h
      have e1:us.drop o=[]:=List.eq_nil_of_length_eq_zero (by simpa using h1.length)
      have e2:vs.drop o=[]:=List.eq_nil_of_length_eq_zero (by simpa using h2.length)
      simp [Op.eqFields,e1,e2,aW9]
     |cons f l ihl =>
      intro o ks' h ho h1 h2 hl
      unfold bK9 at h
      split at h
      ·cases h
      ·rename_i hn
       have hn1 : f.name ≠ "_" := fun e => hn (.inl e)
       have hn2:f.offset=o:=Classical.byContradiction fun e=>hn (.inr e)
       cases hfk:flatK P n f.type with
       |none=>rw [hfk] at h; simp at h
       |some ks1 =>
        rw [hfk] at h
        simp only at h
        split at h
        ·rename_i hsz
         cases hr:bK9 P (flatK P n) l (o+ks1.length) with
         |none=>rw [hr] at h; simp at h
         |some ks2 =>
          rw [hr] at h
          simp at h
          subst h
          obtain ⟨fd,hfd,hone⟩:=cM6 n f.type ks1 hfk
          obtain ⟨a1,a2⟩:=h1.split
          obtain ⟨b1,b2⟩:=h2.split
          rw [List.drop_drop] at a2 b2
          simp only [List.length_append] at ho
          have hpos:aG7 fd=true∨o < us.length:=hone.imp id fun e=>by omega
          have hpos':aG7 fd=true∨o < vs.length:=hone.imp id fun e=>by omega
          have px:=bW7 (P:=P) w hfd hsz us o hpos hone
          have py:=bW7 (P:=P) w hfd hsz vs o hpos' hone
          have pe:=ih f.type ks1 fd m hfk hfd (by omega) _ _ a1 b1
          have rest:=ihl (o+ks1.length) ks2 hr (by omega) a2 b2 hl
          simp only [Op.eqFields,if_pos hn1,Sem.run_bind,hn2,px,py,pe,Result.andThen_ok]
          rw [b09 ks1.length (us.drop o) (vs.drop o) (by simp; omega) (by simp; omega),List.drop_drop,List.drop_drop]
          cases hc:aW9 ((us.drop o).take ks1.length) ((vs.drop o).take ks1.length)
          ·simp
          ·simpa using rest
        ·cases h
    have hul:=hu.length
    have hvl:=hv.length
    simpa using key fs.toList 0 ks h (by omega) (by simpa using hu) (by simpa using hv) (by omega)
  |_=>simp at h
end
abbrev aG9 := List (Nat×List CK)
def cU1 (P:Program) (t:TypeId) (ks:List CK):Bool:=decide (flatK P 8 t=some ks) && !P.eqGuardType P.depth t && ((P.underlying t).map aG7 == some true)
structure cP9 (P:Program) (t:TypeId) (ks:List CK):Prop where
 flat:flatK P 8 t=some ks
 guard:P.eqGuardType P.depth t=false
 agg:∃d,P.underlying t=some d∧aG7 d=true
def aF3 (P:Program) (et:aG9):Prop:=∀t ks,lk et t=some ks→cP9 P t ks
theorem aF3.of {P:Program} {et:aG9} (h:(et.all fun p=>cU1 P p.1 p.2)=true):aF3 P et:=fun t ks hl=>by
 have:=List.all_eq_true.1 h (t,ks) (aA5 hl)
 simp only [cU1,Bool.and_eq_true,decide_eq_true_eq,Bool.not_eq_true',beq_iff_eq,Option.map_eq_some_iff] at this
 exact ⟨this.1.1,this.1.2,this.2⟩
theorem cP9.run {P:Program} {t:TypeId} {ks:List CK} (h:cP9 P t ks) (w:World) {us vs:List Value} (hu:aJ7 ks us) (hv:aJ7 ks vs):(Op.equalIn 10000 t (.agg us.toArray) (.agg vs.toArray)).run P w=.ok (aW9 us vs) w:=by
 obtain ⟨d,hd,ha⟩:=h.agg
 have:=b28 (P:=P) w 8 t ks d 10000 h.flat hd (by omega) us vs hu hv
 simpa [ha,mkV] using this
def bO4 : CK→AV→Bool
 |.int k,.int _=>decide (k=.i64)
 |.int k,.ik k' _=>decide (k=k')
 |.str,.str _=>true
 |.bool,.bool _=>true
 |_,_=>false
def bJ3 : List CK→List AV→Bool
 |[],[]=>true
 |k::ks,a::as=>bO4 k a && bJ3 ks as
 |_,_=>false
def eq1 : AV→AV→Bool
 |.int a,.int b=>decide (a=b)
 |.ik _ a,.ik _ b=>decide (a=b)
 |.int a,.ik _ b=>decide (a=b)
 |.ik _ a,.int b=>decide (a=b)
 |.str a,.str b=>decide (a=b)
 |.bool a,.bool b=>decide (a=b)
 |_,_=>true
def aC6 : List AV→List AV→Bool
 |a::xs,b::ys=>eq1 a b && aC6 xs ys
 |_,_=>true
theorem cS4 {c:Ctx} {w:World} {k:CK} {a b:AV} {u v:Value} (ha:bO4 k a=true) (hb:bO4 k b=true) (hu:Rd c w u a) (hv:Rd c w v b) :
  veq u v=eq1 a b∧∀{ks:List CK} {us:List Value},aJ7 ks us→aJ7 (k::ks) (u::us):=by
 cases k with
 |int k =>
  cases a<;>simp only [bO4,decide_eq_true_eq,Bool.false_eq_true] at ha<;>cases b<;>simp only [bO4,decide_eq_true_eq,Bool.false_eq_true] at hb
  ·obtain ⟨rfl,_⟩:=hu.int_
   obtain ⟨rfl,_⟩:=hv.int_
   subst ha
   exact ⟨rfl,fun h=>.int _ _ h⟩
  ·obtain ⟨rfl,_⟩:=hu.int_
   obtain rfl:=hv.ik_
   subst ha
   exact ⟨rfl,fun h=>.int _ _ h⟩
  ·obtain rfl:=hu.ik_
   obtain ⟨rfl,_⟩:=hv.int_
   subst ha
   exact ⟨rfl,fun h=>.int _ _ h⟩
  ·obtain rfl:=hu.ik_
   obtain rfl:=hv.ik_
   subst ha
   exact ⟨rfl,fun h=>.int _ _ h⟩
 |str =>
  cases a<;>simp only [bO4,Bool.false_eq_true] at ha<;>cases b<;>simp only [bO4,Bool.false_eq_true] at hb
  obtain ⟨rfl,_⟩:=hu.str_
  obtain ⟨rfl,_⟩:=hv.str_
  exact ⟨rfl,fun h=>.str _ h⟩
 |bool =>
  cases a<;>simp only [bO4,Bool.false_eq_true] at ha<;>cases b<;>simp only [bO4,Bool.false_eq_true] at hb
  obtain rfl:=hu.bool_
  obtain rfl:=hv.bool_
  exact ⟨rfl,fun h=>.bool _ h⟩
theorem bX6 {c:Ctx} {w:World}:∀{ks:List CK} {as bs:List AV} {us vs:List Value},bJ3 ks as=true→bJ3 ks bs=true→F6 c w us as→F6 c w vs bs→aJ7 ks us∧aW9 us vs=aC6 as bs
 |[],[],[],_,_,_,_,.nil,.nil=>⟨.nil,rfl⟩
 |[],[],_::_,_,_,_,h,_,_=>by simp [bJ3] at h
 |[],_::_,_,_,_,h,_,_,_=>by simp [bJ3] at h
 |_::_,[],_,_,_,h,_,_,_=>by simp [bJ3] at h
 |_::_,_::_,[],_,_,_,h,_,_=>by simp [bJ3] at h
 |k::ks,a::as,b::bs,_,_,ha,hb,.cons h1 h2,.cons k1 k2=>by
  simp only [bJ3,Bool.and_eq_true] at ha hb
  have r:=bX6 ha.2 hb.2 h2 k2
  have r1:=cS4 ha.1 hb.1 h1 k1
  exact ⟨r1.2 r.1,by simp [aW9,aC6,r1.1,r.2]⟩
end Go.Proofs.YtibjcppjfkamhaaGreatDoor
