import Derived.Test.YtibjcppjfkamhaaGreatDoorAa
import Derived.IntWalk
import Derived.Laws.Cover3
import Derived.MapKept
import Derived.Stop.IfaceNil
/- Operations over readings, one by one: what must hold, and what they then answer. No program in sight; types are told by the table. -/
namespace Go.Proofs.YtibjcppjfkamhaaGreatDoor
open Go.RowKit
set_option linter.unusedVariables false
def cAV : Value→AV
 |.int .i64 n=>bif Nat.blt n.natAbs 4611686018427387904 then .int n else .any
 |.int k n=>.ik k n
 |.bool b=>.bool b
 |.string s=>bif Nat.ble s.size 4294967296 then .str s else .any
 |.slice none 0 0=>.nilsl
 |.pointer none=>.nilp
 |.nilFunc=>.nilf
 |.nilIface=>.ifc true
 |v=>.con v
theorem c56 (c:Ctx) (w:World) (v:Value):Rd c w v (cAV v):=by
 unfold cAV
 split
 ·rename_i n
  cases h:Nat.blt n.natAbs 4611686018427387904
  ·exact .fz (.any _)
  ·refine .fz (.int ?_)
   have:=Nat.le_of_ble_eq_true h
   unfold Z8
   omega
 ·exact .fz (.ik _ _)
 ·exact .fz (.bool _)
 ·rename_i s
  cases h:Nat.ble s.size 4294967296
  ·exact .fz (.any _)
  ·refine .fz (.str ?_)
   have:=Nat.le_of_ble_eq_true h
   simp only [maxLen]
   omega
 ·exact .fz .nilsl
 ·exact .fz .nilp
 ·exact .fz .nilf
 ·exact .fz .ifcn
 ·exact .fz (.con _)
def evO (ts:Ts):Ev
 |.tmp t=>match lk ts t with
  |some a=>a
  |none=>.any
 |.const v=>cAV v
 |.global _=>.any
 |.func f=>.fn f []
theorem bL9 {c:Ctx} {w:World} {ts:Ts} {a:Act} (h:aZ5 c w ts a) (x:Operand):Rd c w (a.eval x) (evO ts x):=by
 cases x with
 |tmp t =>
  unfold evO Act.eval
  simp only
  cases hl:lk ts t with
  |none=>exact Rd.any_ _
  |some av =>
   obtain ⟨v,h1,h2⟩:=h t av hl
   simp only [Array.getD_eq_getD_getElem?,h1,Option.getD_some]
   exact h2
 |const v=>exact c56 c w v
 |global g=>exact Rd.any_ _
 |func f =>
  have:=Rd.fn (c:=c) (w:=w) (f:=f) .nil
  exact this
def AV.cells? : AV→Option (List AV)
 |.agg cs=>match cs.all b61 with
  |true=>some cs
  |false=>none
 |.any=>none
 |.tup _=>none
 |.con v=>match v.oneCell' with
  |true=>some [.con v]
  |false=>none
 |a=>some [a]
theorem aK4 {c:Ctx} {w:World} {v:Value} {a:AV} {cs:List AV} (h:Rd c w v a) (hc:a.cells?=some cs):F6 c w v.cells.toList cs∧∀u∈v.cells.toList,u.oneCell'=true:=by
 have single:b61 a=true→cs=[a]→F6 c w v.cells.toList cs∧∀u∈v.cells.toList,u.oneCell'=true:=fun h1 h2=>by
  have hv:=h.one h1
  have e:v.cells=#[v]:=by cases v<;>first|rfl|cases hv
  rw [e,h2]
  exact ⟨.cons h .nil,by simpa using hv⟩
 cases a<;>simp only [AV.cells?,Option.some.injEq] at hc<;>first|(exact single rfl hc.symm)|cases hc|skip
 split at hc
 ·rename_i h1
  cases hc
  obtain ⟨us,rfl,hr⟩:=h.agg_
  exact ⟨by simpa [Value.cells] using hr,by simpa [Value.cells] using hr.one h1⟩
 ·cases hc
 ·split at hc
  ·rename_i h1
   exact single h1 (by injection hc with e; exact e.symm)
  ·cases hc
section
variable {P:Program} {tab:Q6} {o:Oper} {ev:Ev} {os:Os} {K:Kt}
theorem cH6 {x:Operand} (ho:o.op=.move x∨o.op=.assign x) (h:K (ev x) [] [] []):U8 P o ev os K :=
 .pure (fun c w ρ hr=>⟨ρ x,by rcases ho with ho|ho<;>simp [execOp,ho],hr x (by rcases ho with ho|ho<;>simp [ho,Op.operands])⟩) h
def bM6 : Bool→Prop→Prop→Prop
 |true,X,_=>X
 |false,_,Y=>Y
def cD0 (ev:Ev) (c a b:Operand) (K:Kt):Prop :=
 match ev c with
 |.bool y=>bM6 y (K (ev a) [] [] []) (K (ev b) [] [] [])
 |_=>False
theorem cV6 {x a b:Operand} (ho:o.op=.pick x a b) (h:cD0 ev x a b K):U8 P o ev os K:=by
 unfold cD0 at h
 split at h
 ·rename_i y hy
  cases y
  ·refine .pure (av:=ev b) (fun c w ρ hr=>?_) h
   have h1:=hr x (by simp [ho,Op.operands])
   rw [hy] at h1
   exact ⟨ρ b,by simp [execOp,ho,h1.bool_,asBool],hr b (by simp [ho,Op.operands])⟩
  ·refine .pure (av:=ev a) (fun c w ρ hr=>?_) h
   have h1:=hr x (by simp [ho,Op.operands])
   rw [hy] at h1
   exact ⟨ρ a,by simp [execOp,ho,h1.bool_,asBool],hr a (by simp [ho,Op.operands])⟩
 ·exact h.elim
def cL8 (op:BinOp) (a b:Int) (K:AV→Prop):Prop :=
 match op with
 |.add=>(Z8 (a+b)∧K (.int (a+b)))∨K (.int (IntKind.i64.wrap (a+b)))
 |.sub=>(Z8 (a - b)∧K (.int (a - b)))∨K (.int (IntKind.i64.wrap (a - b)))
 |.mul=>(Z8 (a*b)∧K (.int (a*b)))∨K (.int (IntKind.i64.wrap (a*b)))
 |.quo=>b≠0∧Z8 (a.tdiv b)∧K (.int (a.tdiv b))
 |.rem=>b≠0∧Z8 (a.tmod b)∧K (.int (a.tmod b))
 |.eql=>K (.bool (decide (a=b)))
 |.neq=>K (.bool (!decide (a=b)))
 |.lss=>K (.bool (decide (a < b)))
 |.leq=>K (.bool (decide (a≤b)))
 |.gtr=>K (.bool (decide (b < a)))
 |.geq=>K (.bool (decide (b≤a)))
 |_=>False
def cP6 (op:BinOp) (k:IntKind) (a b:Int) (K:AV→Prop):Prop :=
 match op with
 |.eql=>K (.bool (decide (a=b)))
 |.neq=>K (.bool (!decide (a=b)))
 |.lss=>K (.bool (decide (a < b)))
 |.leq=>K (.bool (decide (a≤b)))
 |.gtr=>K (.bool (decide (b < a)))
 |.geq=>K (.bool (decide (b≤a)))
 |.shr=>b=1∧K (.ik k (a / 2))
 |_=>False
def ltS (a b:ByteArray):Bool:=Op.bytesLess a.toList b.toList
def cI9 (op:BinOp) (a b:ByteArray) (K:AV→Prop):Prop :=
 match op with
 |.add=>a.size+b.size≤4611686018427387904∧K (.str (a++b))
 |.eql=>K (.bool (decide (a=b)))
 |.neq=>K (.bool (!decide (a=b)))
 |.lss=>K (.bool (ltS a b))
 |.leq=>K (.bool (ltS a b || decide (a=b)))
 |.gtr=>K (.bool (!(ltS a b || decide (a=b))))
 |.geq=>K (.bool (!ltS a b))
 |_=>False
def bB9 (op:BinOp) (r:Bool) (K:AV→Prop):Prop :=
 match op with
 |.eql=>K (.bool r)
 |.neq=>K (.bool (!r))
 |_=>False
def cJ0 (tab:Q6) (et:aG9) (op:BinOp) (t:TypeId) (x y:AV) (K:AV→Prop):Prop :=
 match x,y with
 |.int a,.int b=>cL8 op a b K
 |.ik k a,.ik k' b=>k=k'∧cP6 op k a b K
 |.str a,.str b=>cI9 op a b K
 |.bool a,.bool b=>match lk tab t with
  |some ti=>match ti.kind with
   |6=>bB9 op (decide (a=b)) K
   |_=>False
  |none=>False
 |.agg xs,.agg ys=>match lk et t with
  |some ks=>match bJ3 ks xs && bJ3 ks ys with
   |true=>bB9 op (aC6 xs ys) K
   |false=>False
  |none=>False
 |.ik k a,.int b=>match op with
  |.shr=>b=1∧K (.ik k (a / 2))
  |_=>False
 |.slb b,.nilsl=>match lk tab t with
  |some ti=>match ti.kind with
   |2=>bB9 op b K
   |_=>False
  |none=>False
 |.nilsl,.nilsl=>match lk tab t with
  |some ti=>match ti.kind with
   |2=>bB9 op true K
   |_=>False
  |none=>False
 |.fp _,.nilp=>match lk tab t with
  |some ti=>match ti.kind with
   |7=>bB9 op false K
   |_=>False
  |none=>False
 |.nilp,.nilp=>match lk tab t with
  |some ti=>match ti.kind with
   |7=>bB9 op true K
   |_=>False
  |none=>False
 |_,_=>False
theorem bP7 (w:World) (d:Nat) (t e:TypeId) (a:Option Addr) (h:P.underlying t=some (.pointer e)):(Op.equalIn (d+1) t (.pointer a) (.pointer none)).run P w=.ok a.isNone w:=by
 cases a<;>simp [Op.equalIn,run_underlying h]
theorem bB8 (w:World) (t e:TypeId) (a:Option Addr) (h:P.underlying t=some (.pointer e)):(Op.equal t (.pointer a) (.pointer none)).run P w=.ok a.isNone w:=bP7 w 9999 t e a h
theorem b35 (n:Int):Z8 (IntKind.i64.wrap n):=by
 have hb:IntKind.i64.bits=64:=rfl
 have hs:IntKind.i64.signed=true:=rfl
 unfold Z8 IntKind.wrap
 rw [hb,hs]
 simp only [Bool.true_and,decide_eq_true_eq]
 split<;>omega
theorem cT1 {op:BinOp} {t:TypeId} {x y:Operand} {a b:Int} {K:AV→Prop} (h:cL8 op a b K) :
  ∃v av,K av∧∀(w:World) (Φ:Nat→Prop),(do eqGuard op t x y (.int .i64 a) (.int .i64 b); binOp op t (.int .i64 a) (.int .i64 b):Sem Value).run P w=.ok v w∧Rf Φ w v av:=by
 have wr:∀n,Z8 n→IntKind.i64.wrap n=n:=fun n hn=>IntWalk.i64_in n hn
 cases op<;>simp only [cL8] at h
 case add =>
  rcases h with h|h
  ·exact ⟨.int .i64 (a+b),_,h.2,fun w Φ=>⟨by simp [eqGuard,binOp,Op.intArith,wr _ h.1],.int h.1⟩⟩
  ·exact ⟨.int .i64 (IntKind.i64.wrap (a+b)),_,h,fun w Φ=>⟨by simp [eqGuard,binOp,Op.intArith],.int (b35 _)⟩⟩
 case sub =>
  rcases h with h|h
  ·exact ⟨.int .i64 (a - b),_,h.2,fun w Φ=>⟨by simp [eqGuard,binOp,Op.intArith,wr _ h.1],.int h.1⟩⟩
  ·exact ⟨.int .i64 (IntKind.i64.wrap (a - b)),_,h,fun w Φ=>⟨by simp [eqGuard,binOp,Op.intArith],.int (b35 _)⟩⟩
 case mul =>
  rcases h with h|h
  ·exact ⟨.int .i64 (a*b),_,h.2,fun w Φ=>⟨by simp [eqGuard,binOp,Op.intArith,wr _ h.1],.int h.1⟩⟩
  ·exact ⟨.int .i64 (IntKind.i64.wrap (a*b)),_,h,fun w Φ=>⟨by simp [eqGuard,binOp,Op.intArith],.int (b35 _)⟩⟩
 case quo=>exact ⟨.int .i64 (a.tdiv b),_,h.2.2,fun w Φ=>⟨by simp [eqGuard,binOp,Op.intDiv,h.1,wr _ h.2.1],.int h.2.1⟩⟩
 case rem=>exact ⟨.int .i64 (a.tmod b),_,h.2.2,fun w Φ=>⟨by simp [eqGuard,binOp,Op.intDiv,h.1],.int h.2.1⟩⟩
 case eql=>exact ⟨.bool (decide (a=b)),_,h,fun w Φ=>⟨by simp [eqGuard,binOp,Op.intCmp,Bool.beq_eq_decide_eq],.bool _⟩⟩
 case neq=>exact ⟨.bool (!decide (a=b)),_,h,fun w Φ=>⟨by simp [eqGuard,binOp,Op.intCmp,bne,Bool.beq_eq_decide_eq],.bool _⟩⟩
 case lss=>exact ⟨.bool (decide (a < b)),_,h,fun w Φ=>⟨by simp [eqGuard,binOp,Op.intCmp],.bool _⟩⟩
 case leq=>exact ⟨.bool (decide (a≤b)),_,h,fun w Φ=>⟨by simp [eqGuard,binOp,Op.intCmp],.bool _⟩⟩
 case gtr=>exact ⟨.bool (decide (b < a)),_,h,fun w Φ=>⟨by simp [eqGuard,binOp,Op.intCmp],.bool _⟩⟩
 case geq=>exact ⟨.bool (decide (b≤a)),_,h,fun w Φ=>⟨by simp [eqGuard,binOp,Op.intCmp],.bool _⟩⟩
theorem cO6 {w:World} {P:Program} {t:TypeId} {x y:Operand} {k:IntKind} {a:Int}:(do eqGuard .shr t x y (.int k a) (.int k 1); binOp .shr t (.int k a) (.int k 1):Sem Value).run P w=.ok (.int k (a / 2)) w:=by
 have hb:min (1:Int).toNat k.bits=1:=by cases k<;>rfl
 simp only [eqGuard,binOp,Op.shift,hb]
 simp [Int.fdiv_eq_ediv_of_nonneg]
theorem cX0 {op:BinOp} {t:TypeId} {x y:Operand} {k:IntKind} {a b:Int} {K:AV→Prop} (h:cP6 op k a b K) :
  ∃v av,K av∧∀(w:World) (Φ:Nat→Prop),(do eqGuard op t x y (.int k a) (.int k b); binOp op t (.int k a) (.int k b):Sem Value).run P w=.ok v w∧Rf Φ w v av:=by
 cases op<;>simp only [cP6] at h
 case shr=>obtain ⟨rfl,h⟩:=h; exact ⟨.int k (a / 2),_,h,fun w Φ=>⟨cO6,.ik _ _⟩⟩
 case eql=>exact ⟨.bool (decide (a=b)),_,h,fun w Φ=>⟨by simp [eqGuard,binOp,Op.intCmp,Bool.beq_eq_decide_eq],.bool _⟩⟩
 case neq=>exact ⟨.bool (!decide (a=b)),_,h,fun w Φ=>⟨by simp [eqGuard,binOp,Op.intCmp,bne,Bool.beq_eq_decide_eq],.bool _⟩⟩
 case lss=>exact ⟨.bool (decide (a < b)),_,h,fun w Φ=>⟨by simp [eqGuard,binOp,Op.intCmp],.bool _⟩⟩
 case leq=>exact ⟨.bool (decide (a≤b)),_,h,fun w Φ=>⟨by simp [eqGuard,binOp,Op.intCmp],.bool _⟩⟩
 case gtr=>exact ⟨.bool (decide (b < a)),_,h,fun w Φ=>⟨by simp [eqGuard,binOp,Op.intCmp],.bool _⟩⟩
 case geq=>exact ⟨.bool (decide (b≤a)),_,h,fun w Φ=>⟨by simp [eqGuard,binOp,Op.intCmp],.bool _⟩⟩
theorem cR3 {op:BinOp} {t:TypeId} {x y:Operand} {a b:ByteArray} {K:AV→Prop} (h:cI9 op a b K) :
  ∃v av,K av∧∀(w:World) (Φ:Nat→Prop),(do eqGuard op t x y (.string a) (.string b); binOp op t (.string a) (.string b):Sem Value).run P w=.ok v w∧Rf Φ w v av:=by
 cases op<;>simp only [cI9] at h
 case add =>
  have hn:¬(((a.size+b.size:Nat):Int) > IntKind.i64.max):=by
   have:IntKind.i64.max=9223372036854775807:=by decide
   rw [this]; omega
  exact ⟨.string (a++b),_,h.2,fun w Φ=>⟨by simp only [eqGuard,binOp,Op.stringOp]; rw [if_neg hn]; simp,.str (by rw [ByteArray.size_append]; simp only [maxLen]; omega)⟩⟩
 case eql=>exact ⟨.bool (decide (a=b)),_,h,fun w Φ=>⟨by simp [eqGuard,binOp,Op.stringOp,bA6],.bool _⟩⟩
 case neq=>exact ⟨.bool (!decide (a=b)),_,h,fun w Φ=>⟨by simp [eqGuard,binOp,Op.stringOp,bA6],.bool _⟩⟩
 case lss=>exact ⟨.bool (ltS a b),_,h,fun w Φ=>⟨by simp [eqGuard,binOp,Op.stringOp,ltS],.bool _⟩⟩
 case leq=>exact ⟨.bool (ltS a b || decide (a=b)),_,h,fun w Φ=>⟨by simp [eqGuard,binOp,Op.stringOp,ltS,bA6],.bool _⟩⟩
 case gtr=>exact ⟨.bool (!(ltS a b || decide (a=b))),_,h,fun w Φ=>⟨by simp [eqGuard,binOp,Op.stringOp,ltS,bA6],.bool _⟩⟩
 case geq=>exact ⟨.bool (!ltS a b),_,h,fun w Φ=>⟨by simp [eqGuard,binOp,Op.stringOp,ltS],.bool _⟩⟩
theorem aY7 {op:BinOp} {r:Bool} {K:AV→Prop} (h:bB9 op r K):∃b,(op=.eql∧b=r∨op=.neq∧b=!r)∧K (.bool b):=by
 cases op<;>simp only [bB9] at h
 ·exact ⟨r,.inl ⟨rfl,rfl⟩,h⟩
 ·exact ⟨!r,.inr ⟨rfl,rfl⟩,h⟩
theorem c55 {et:aG9} (hT:O3 P tab) (hE:aF3 P et) {op:BinOp} {t ty:TypeId} {x y:Operand} (ho:o.op=.binOp op t x y ty) (h:cJ0 tab et op t (ev x) (ev y) (fun av=>K av [] [] [])):U8 P o ev os K:=by
 have opx:∀{c:Ctx} {w:World} {ρ:Operand→Value},(∀z∈o.op.operands.toList,Rd c w (ρ z) (ev z))→Rd c w (ρ x) (ev x)∧Rd c w (ρ y) (ev y):=fun hr=>⟨hr x (by simp [ho,Op.operands]),hr y (by simp [ho,Op.operands])⟩
 have run:∀(ρ:Operand→Value) (w:World),(execOp ρ o).run P w=((do eqGuard op t x y (ρ x) (ρ y); binOp op t (ρ x) (ρ y):Sem Value).run P w).andThen fun v w'=>.ok (.value v) w':=fun ρ w=>by
  simp only [execOp,ho,Sem.run_bind]
  simp
 have close:∀av:AV,K av [] [] []→(∀(c:Ctx) (w:World) (ρ:Operand→Value),Rd c w (ρ x) (ev x)→Rd c w (ρ y) (ev y)→∃v,(do eqGuard op t x y (ρ x) (ρ y); binOp op t (ρ x) (ρ y):Sem Value).run P w=.ok v w∧Rd c w v av)→U8 P o ev os K:=fun av hK hh =>
  .pure (fun c w ρ hr=>by
   obtain ⟨v,h1,h2⟩:=hh c w ρ (opx hr).1 (opx hr).2
   exact ⟨v,by rw [run,h1]; rfl,h2⟩) hK
 unfold cJ0 at h
 split at h
 ·rename_i a b hx hy
  obtain ⟨v,av,h1,h2⟩:=cT1 (P:=P) (t:=t) (x:=x) (y:=y) h
  refine close av h1 fun c w ρ r1 r2=>?_
  rw [hx] at r1
  rw [hy] at r2
  rw [r1.int_.1,r2.int_.1]
  exact ⟨v,(h2 w c.Φ).1,.fz (h2 w c.Φ).2⟩
 ·rename_i k a k' b hx hy
  obtain ⟨rfl,h⟩:=h
  obtain ⟨v,av,h1,h2⟩:=cX0 (P:=P) (t:=t) (x:=x) (y:=y) h
  refine close av h1 fun c w ρ r1 r2=>?_
  rw [hx] at r1
  rw [hy] at r2
  rw [r1.ik_,r2.ik_]
  exact ⟨v,(h2 w c.Φ).1,.fz (h2 w c.Φ).2⟩
 ·rename_i a b hx hy
  obtain ⟨v,av,h1,h2⟩:=cR3 (P:=P) (t:=t) (x:=x) (y:=y) h
  refine close av h1 fun c w ρ r1 r2=>?_
  rw [hx] at r1
  rw [hy] at r2
  rw [r1.str_.1,r2.str_.1]
  exact ⟨v,(h2 w c.Φ).1,.fz (h2 w c.Φ).2⟩
 ·rename_i a b hx hy
  split at h
  ·rename_i ti hti
   split at h
   ·rename_i hk
    obtain ⟨d,hd,hdk⟩:=(hT t ti hti).und
    have hd':P.underlying t=some .bool:=by
     cases d<;>simp only [dOk,hk,Bool.and_eq_true,decide_eq_true_eq] at hdk<;>first|omega|exact hd
    obtain ⟨r,hr,h1⟩:=aY7 h
    refine close _ h1 fun c w ρ r1 r2=>?_
    rw [hx] at r1
    rw [hy] at r2
    rw [r1.bool_,r2.bool_]
    have e:=run_equalIn_bool' (P:=P) w 9999 t a b hd'
    refine ⟨.bool r,?_,.fz (.bool _)⟩
    rcases hr with ⟨rfl,rfl⟩|⟨rfl,rfl⟩
    ·simp [eqGuard,binOp,Op.equal,Op.maxDepth,e,Bool.beq_eq_decide_eq]
    ·simp [eqGuard,binOp,Op.equal,Op.maxDepth,e,Bool.beq_eq_decide_eq]
   ·exact h.elim
  ·exact h.elim
 ·rename_i xs ys hx hy
  split at h
  ·rename_i ks hks
   split at h
   ·rename_i hf
    simp only [Bool.and_eq_true] at hf
    obtain ⟨r,hr,h1⟩:=aY7 h
    refine close _ h1 fun c w ρ r1 r2=>?_
    rw [hx] at r1
    rw [hy] at r2
    obtain ⟨us,e1,q1⟩:=r1.agg_
    obtain ⟨vs,e2,q2⟩:=r2.agg_
    have f1:=bX6 hf.1 hf.2 q1 q2
    have f2:=bX6 hf.2 hf.1 q2 q1
    have e:=(hE t ks hks).run w f1.1 f2.1
    have g:=run_eqGuard_agg (P:=P) w op t x y us.toArray vs.toArray (hE t ks hks).guard
    refine ⟨.bool r,?_,.fz (.bool _)⟩
    rw [e1,e2]
    rcases hr with ⟨rfl,rfl⟩|⟨rfl,rfl⟩
    ·simp [g,run_eql_struct,e,f1.2]
    ·simp [g,run_neq_struct,e,f1.2]
   ·exact h.elim
  ·exact h.elim
 ·rename_i k a b hx hy
  split at h
  ·obtain ⟨rfl,h⟩:=h
   refine close _ h fun c w ρ r1 r2=>?_
   rw [hx] at r1
   rw [hy] at r2
   rw [r1.ik_,r2.int_.1]
   refine ⟨.int k (a / 2),?_,.fz (.ik _ _)⟩
   have hb:min (1:Int).toNat k.bits=1:=by cases k<;>rfl
   simp only [eqGuard,binOp,Op.shift,hb]
   simp [Int.fdiv_eq_ediv_of_nonneg]
  ·exact h.elim
 ·rename_i b hx hy
  split at h
  ·rename_i ti hti
   split at h
   ·rename_i hk
    have hu:=(hT t ti hti).slice_ hk
    obtain ⟨r,hr,h1⟩:=aY7 h
    refine close _ h1 fun c w ρ r1 r2=>?_
    rw [hx] at r1
    rw [hy] at r2
    obtain ⟨A,n,k,e1,e2⟩:∃A n k,ρ x=.slice A n k∧b=A.isNone:=r1.slb_
    rw [e1,r2.nilsl_]
    have e:=run_equal_slice_nil (P:=P) w t ti.elem A n k hu
    refine ⟨.bool r,?_,.fz (.bool _)⟩
    rw [e2] at hr
    rcases hr with ⟨rfl,rfl⟩|⟨rfl,rfl⟩
    ·simp [eqGuard,binOp,e]
    ·simp [eqGuard,binOp,e]
   ·exact h.elim
  ·exact h.elim
 ·rename_i hx hy
  split at h
  ·rename_i ti hti
   split at h
   ·rename_i hk
    have hu:=(hT t ti hti).slice_ hk
    obtain ⟨r,hr,h1⟩:=aY7 h
    refine close _ h1 fun c w ρ r1 r2=>?_
    rw [hx] at r1
    rw [hy] at r2
    obtain ⟨A,n,k,e1,e2⟩:∃A n k,ρ x=.slice A n k∧true=A.isNone:=⟨none,0,0,r1.nilsl_,rfl⟩
    rw [e1,r2.nilsl_]
    have e:=run_equal_slice_nil (P:=P) w t ti.elem A n k hu
    refine ⟨.bool r,?_,.fz (.bool _)⟩
    rw [e2] at hr
    rcases hr with ⟨rfl,rfl⟩|⟨rfl,rfl⟩
    ·simp [eqGuard,binOp,e]
    ·simp [eqGuard,binOp,e]
   ·exact h.elim
  ·exact h.elim
 ·rename_i cs hx hy
  split at h
  ·rename_i ti hti
   split at h
   ·rename_i hk
    obtain ⟨el,hu⟩:=(hT t ti hti).ptr_ hk
    obtain ⟨r,hr,h1⟩:=aY7 h
    refine close _ h1 fun c w ρ r1 r2=>?_
    rw [hx] at r1
    rw [hy] at r2
    obtain ⟨b0,o0,us0,e1,-,-,-⟩:=r1.fp_
    rw [e1,r2.nilp_]
    have e:=bB8 (P:=P) w t el (some ⟨b0,o0,none⟩) hu
    refine ⟨.bool r,?_,.fz (.bool _)⟩
    rcases hr with ⟨rfl,rfl⟩|⟨rfl,rfl⟩
    ·simp [eqGuard,binOp,e]
    ·simp [eqGuard,binOp,e]
   ·exact h.elim
  ·exact h.elim
 ·rename_i hx hy
  split at h
  ·rename_i ti hti
   split at h
   ·rename_i hk
    obtain ⟨el,hu⟩:=(hT t ti hti).ptr_ hk
    obtain ⟨r,hr,h1⟩:=aY7 h
    refine close _ h1 fun c w ρ r1 r2=>?_
    rw [hx] at r1
    rw [hy] at r2
    rw [r1.nilp_,r2.nilp_]
    have e:=bB8 (P:=P) w t el none hu
    refine ⟨.bool r,?_,.fz (.bool _)⟩
    rcases hr with ⟨rfl,rfl⟩|⟨rfl,rfl⟩
    ·simp [eqGuard,binOp,e]
    ·simp [eqGuard,binOp,e]
   ·exact h.elim
  ·exact h.elim
 ·exact h.elim
def cT5 : Operand→Bool
 |.const .nilIface=>true
 |_=>false
def cK8 (tab:Q6) (op:BinOp) (t:TypeId) (x y:AV) (K:Kt):Prop :=
 match x,y,lk tab t with
 |.ifc a,.ifc true,some ti=>ti.kind=9∧bB9 op a fun av=>K av [] [] []
 |_,_,_=>False
theorem c04 (hT:O3 P tab) {op:BinOp} {t ty:TypeId} {x y:Operand} (ho:o.op=.binOp op t x y ty) (hy:cT5 y=true) (h:cK8 tab op t (ev x) (ev y) K):U8 P o ev os K:=by
 unfold cT5 at hy
 split at hy
 ·unfold cK8 at h
  split at h
  ·rename_i a ti hx hy hti
   obtain ⟨hk,h⟩:=h
   have hu:=(hT t ti hti).iface_ hk
   obtain ⟨r,hr,h1⟩:=aY7 h
   refine .pure (fun c w ρ hrd=>⟨.bool r,?_,.fz (.bool _)⟩) h1
   have r1:=hrd x (by simp [ho,Op.operands])
   rw [hx] at r1
   have r2:=hrd _ (by simp [ho,Op.operands]; exact .inr rfl)
   rw [hy] at r2
   have e2:ρ (.const .nilIface)=.nilIface:=by
    rcases r2.ifc_ with ⟨e,_⟩|⟨_,_,_,e⟩
    ·exact e
    ·cases e
   rcases r1.ifc_ with ⟨e1,rfl⟩|⟨tt,p,e1,rfl⟩
   ·rcases hr with ⟨rfl,rfl⟩|⟨rfl,rfl⟩<;>cases x<;>first
     |(simp [execOp,ho,eqGuard,e1,e2,run_eql_nil_nil_at (P:=P) w t hu,run_neq_nil_nil_at (P:=P) w t hu]; done)
   ·rcases hr with ⟨rfl,rfl⟩|⟨rfl,rfl⟩
    ·simp [execOp,ho,eqGuard,e1,e2,run_eql_iface_nil (P:=P) w t hu]
    ·simp [execOp,ho,eqGuard,e1,e2,run_neq_iface_nil (P:=P) w t hu]
  ·exact h.elim
 ·cases hy
end
end Go.Proofs.YtibjcppjfkamhaaGreatDoor
namespace Go.Proofs.YtibjcppjfkamhaaGreatDoor
open Go.RowKit
set_option linter.unusedVariables false
section
variable {P:Program} {tab:Q6} {o:Oper} {ev:Ev} {os:Os} {K:Kt}
def cT3 (op:UnOp) (x:AV) (K:Kt):Prop :=
 match op,x with
 |.not,.bool b=>K (.bool (!b)) [] [] []
 |.neg,.int n=>Z8 (-n)∧K (.int (-n)) [] [] []
 |_,_=>False
theorem c95 {op:UnOp} {t:TypeId} {x:Operand} (ho:o.op=.unOp op t x) (h:cT3 op (ev x) K):U8 P o ev os K:=by
 unfold cT3 at h
 split at h
 ·rename_i b hx
  refine .pure (fun c w ρ hr=>⟨.bool (!b),?_,.fz (.bool _)⟩) h
  have:=hr x (by simp [ho,Op.operands])
  rw [hx] at this
  simp [execOp,ho,this.bool_,Op.unary]
 ·rename_i n hx
  refine .pure (fun c w ρ hr=>⟨.int .i64 (-n),?_,.fz (.int h.1)⟩) h.2
  have:=hr x (by simp [ho,Op.operands])
  rw [hx] at this
  simp [execOp,ho,this.int_.1,Op.unary,Op.intArith,IntWalk.i64_in _ h.1]
 ·exact h.elim
def cM2 (x:AV) (K:Kt):Prop :=
 match x with
 |.ptr _ _=>K x [] [] []
 |.fp _=>K x [] [] []
 |.ep _ _ _ _=>K x [] [] []
 |_=>False
theorem c44 {x:Operand} (ho:o.op=.nilCheck x) (h:cM2 (ev x) K):U8 P o ev os K:=by
 have key:(∀(c:Ctx) (w:World) (v:Value),Rd c w v (ev x)→∃a,v=.pointer (some a))→K (ev x) [] [] []→U8 P o ev os K:=fun hp hK =>
  .pure (fun c w ρ hr=>by
   have h1:=hr x (by simp [ho,Op.operands])
   obtain ⟨a,ha⟩:=hp c w _ h1
   exact ⟨ρ x,by simp [execOp,ho,ha],h1⟩) hK
 unfold cM2 at h
 split at h
 ·rename_i hx
  exact key (fun c w v hv=>by rw [hx] at hv; exact ⟨_,hv.ptr_⟩) h
 ·rename_i hx
  exact key (fun c w v hv=>by rw [hx] at hv; obtain ⟨b,o,us,e,_⟩:=hv.fp_; exact ⟨_,e⟩) h
 ·rename_i hx
  exact key (fun c w v hv=>by rw [hx] at hv; obtain ⟨g,x,m,cap,e,_⟩:=hv.ep_; exact ⟨_,e⟩) h
 ·exact h.elim
def bT5 (x:AV) (i:Nat) (K:Kt):Prop :=
 match x with
 |.tup l=>match getN i 1 l with
  |some [a]=>K a [] [] []
  |_=>False
 |_=>False
theorem cF7 {β:Type} {i:Nat} {l:List β} {a:β} (h:getN i 1 l=some [a]):l[i]?=some a:=by
 have:=cI2 h (show 0 < 1 by omega)
 simpa using this.symm
theorem cL3 {x:Operand} {i:Nat} (ho:o.op=.extract x i) (h:bT5 (ev x) i K):U8 P o ev os K:=by
 unfold bT5 at h
 split at h
 ·rename_i l hx
  split at h
  ·rename_i a ha
   refine .pure (fun c w ρ hr=>?_) h
   have h1:=hr x (by simp [ho,Op.operands])
   rw [hx] at h1
   obtain ⟨us,e,h2⟩:=h1.tup_
   obtain ⟨v,hv,h3⟩:=h2.get (cF7 ha)
   exact ⟨v,by simp [execOp,ho,e,Instr.extract,hv],h3⟩
  ·exact h.elim
 ·exact h.elim
theorem bK2 {c:Ctx} {w:World} {ρ:Operand→Value}:∀{xs:List Operand},(∀x∈xs,Rd c w (ρ x) (ev x))→F6 c w (xs.map ρ) (xs.map ev)
 |[],_=>.nil
 |x::xs,h=>.cons (h x (by simp)) (bK2 fun y hy=>h y (by simp [hy]))
def cE2 (ev:Ev) (fn:Fn) (first captured:Array Operand) (K:Kt):Prop :=
 match fn,first.toList with
 |.func f,[]=>K (.fn f (captured.toList.map ev)) [] [] []
 |_,_=>False
theorem cW9 {fn:Fn} {first captured:Array Operand} (ho:o.op=.makeFunc fn first captured) (h:cE2 ev fn first captured K):U8 P o ev os K:=by
 unfold cE2 at h
 split at h
 ·rename_i f hf
  refine .pure (fun c w ρ hr=>⟨.func (.func f) #[] (captured.toList.map ρ).toArray,?_,.fn (bK2 fun x hx=>hr x (by simp [ho,Op.operands,hf]; simpa using hx))⟩) h
  have:first=#[]:=by simpa using hf
  have hm:captured.map ρ=(captured.toList.map ρ).toArray:=by apply Array.toList_inj.1; simp
  simp [execOp,ho,Instr.makeFunc,this,hm]
 ·exact h.elim
def cK1 {β:Type}:Nat→List β→Option (List β)
 |0,l=>some l
 |n+1,_::l=>cK1 n l
 |_+1,[]=>none
theorem b06 {β:Type}:∀{n:Nat} {l r:List β},cK1 n l=some r→r=l.drop n
 |0,l,r,h=>by cases h; rfl
 |n+1,_::l,r,h=>by simpa using b06 (n:=n) (l:=l) h
 |n+1,[],r,h=>by cases h
def b37 : Nat→List (Nat×Nat×Bool)→Option (Nat×Nat×Bool)
 |0,a::_=>some a
 |n+1,_::l=>b37 n l
 |_,[]=>none
theorem bH4 : ∀{n:Nat} {l:List (Nat×Nat×Bool)} {a:Nat×Nat×Bool},b37 n l=some a→l[n]?=some a
 |0,a::l,b,h=>by cases h; rfl
 |n+1,_::l,a,h=>by simpa using bH4 (n:=n) (l:=l) h
 |0,[],a,h=>by cases h
 |n+1,[],a,h=>by cases h
def cJ7 (x:AV) (n:Nat):Option AV :=
 match x with
 |.ptr id off=>some (.ptr id (off+n))
 |.ep id i sz off=>some (.ep id i sz (off+n))
 |.fp cs=>match cK1 n cs with
  |some r=>some (.fp r)
  |none=>none
 |_=>none
theorem cI3 {c:Ctx} {w:World} {v:Value} {x y:AV} {n:Nat} (h:Rd c w v x) (hm:cJ7 x n=some y):∃b p,v=.pointer (some ⟨b,p,none⟩)∧Rd c w (.pointer (some ⟨b,p+n,none⟩)) y:=by
 unfold cJ7 at hm
 split at hm
 ·cases hm
  rw [h.ptr_]
  exact ⟨_,_,rfl,.ptr rfl⟩
 ·cases hm
  obtain ⟨g,x,m,cap,e,hh⟩:=h.ep_
  rw [e]
  refine ⟨_,_,rfl,?_⟩
  rw [Nat.add_assoc]
  exact .ep hh
 ·rename_i cs
  split at hm
  ·rename_i r hr
   cases hm
   obtain ⟨b,p,us,e,h1,h2,h3⟩:=h.fp_
   rw [e,b06 hr]
   refine ⟨b,p,rfl,.fz (.fp (us:=us.drop n) h1 (fun j u hj=>?_) ?_)⟩
   ·rw [List.getElem?_drop] at hj
    have:=h2 (n+j) u hj
    rwa [show p+n+j=p+(n+j) by omega]
   ·exact J4.drop h3 n
  ·cases hm
 ·cases hm
def bJ4 (tab:Q6) (s:TypeId) (x:AV) (f:Nat) (K:Kt):Prop :=
 match lk tab s with
 |some ti=>match ti.kind,b37 f ti.fields with
  |1,some (off,sz,_)=>match sz,cJ7 x off with
   |0,_=>False
   |_+1,some y=>K y [] [] []
   |_,none=>False
  |_,_=>False
 |none=>False
theorem cC4 (hT:O3 P tab) {s:TypeId} {x:Operand} {f:Nat} (ho:o.op=.fieldAddr s x f) (h:bJ4 tab s (ev x) f K):U8 P o ev os K:=by
 unfold bJ4 at h
 split at h
 ·rename_i ti hti
  split at h
  ·rename_i off sz ag hk hf
   split at h
   ·exact h.elim
   ·rename_i s' y hsz hy
    obtain ⟨fs,hu,hfs⟩:=(hT s ti hti).struct_ hk
    obtain ⟨fd,h1,h2,⟨i,h3,h4⟩,d,h5,h6⟩:=a00 fs.toList ti.fields hfs f off _ ag (bH4 hf)
    refine .pure (fun c w ρ hr=>?_) h
    obtain ⟨b,p,e,hrd⟩:=cI3 (hr x (by simp [ho,Op.operands])) hy
    refine ⟨_,?_,hrd⟩
    have h1':fs[f]?=some fd:=by simpa using h1
    simp [execOp,ho,Instr.fieldAt,run_underlying hu,h1',Instr.sureAddr,e,fieldPlace,sizeOf,typeInfo,h3,h4,aF4,h2]
   ·exact h.elim
  ·exact h.elim
 ·exact h.elim
def a11 (ti:TI) (cs:List AV) (off:Nat):Option AV :=
 match ti.agg with
 |true=>match getN off ti.size cs with
  |some l=>some (.agg l)
  |none=>none
 |false=>match getN off 1 cs with
  |some [a]=>some a
  |_=>none
theorem cX2 {β:Type} {o n:Nat} {l:List β} (h:o+n≤l.length):∃r,getN o n l=some r:=by
 induction o generalizing l with
 |zero =>
  induction n generalizing l with
  |zero=>exact ⟨[],by cases l<;>simp [getN]⟩
  |succ n ih =>
   cases l with
   |nil=>simp at h
   |cons a l =>
    obtain ⟨r,hr⟩:=ih (l:=l) (by simp at h ⊢; omega)
    exact ⟨a::r,by simp [getN,hr]⟩
 |succ o ih =>
  cases l with
  |nil=>simp at h
  |cons a l =>
   obtain ⟨r,hr⟩:=ih (l:=l) (by simp at h ⊢; omega)
   exact ⟨r,by simpa [getN] using hr⟩
theorem F6.getN {c:Ctx} {w:World} {vs:List Value} {as r:List AV} (h:F6 c w vs as) {o n:Nat} (hg:getN o n as=some r):∃us,Go.Proofs.YtibjcppjfkamhaaGreatDoor.getN o n vs=some us∧F6 c w us r∧us.length=n:=by
 obtain ⟨h1,h2⟩:=bA7 hg
 obtain ⟨us,hus⟩:=cX2 (o:=o) (n:=n) (l:=vs) (by rw [h.length]; exact h2)
 obtain ⟨h3,h4⟩:=bA7 hus
 refine ⟨us,hus,?_,?_⟩
 ·rw [h1,h3]
  exact (h.drop o).take n
 ·rw [h3,List.length_take,List.length_drop]
  omega
theorem aV6 {t:TypeId} {ti:TI} (hT:U4 P t ti) {c:Ctx} {w:World} {us:List Value} {cs:List AV} {off b p:Nat} {av:AV} (hl:a11 ti cs off=some av) (hr:F6 c w us cs)
  (hc:∀j u,us[j]?=some u→w.cell? ⟨b,p+j,none⟩=some u):∃v,(Instr.loadAt t (.pointer (some ⟨b,p+off,none⟩))).run P w=.ok v w∧Rd c w v av:=by
 have cells:∀{n:Nat} {r:List Value},Go.Proofs.YtibjcppjfkamhaaGreatDoor.getN off n us=some r→∀j u,r[j]?=some u→w.cell? ⟨b,p+off+j,none⟩=some u:=by
  intro n r hg j u hj
  have hlt:j < n:=by
   have:=(List.getElem?_eq_some_iff.1 hj).1
   rw [(bA7 hg).1,List.length_take] at this
   omega
  rw [cI2 hg hlt] at hj
  rw [Nat.add_assoc]
  exact hc _ u hj
 unfold a11 at hl
 split at hl
 ·rename_i ha
  split at hl
  ·rename_i l hg
   cases hl
   obtain ⟨r,h1,h2,h3⟩:=hr.getN hg
   refine ⟨_,hT.run_load w b (p+off) r h3 (.inl ha) (cells h1),?_⟩
   rw [ha]
   exact .agg h2
  ·cases hl
 ·rename_i ha
  split at hl
  ·rename_i a hg
   cases hl
   obtain ⟨r,h1,h2,h3⟩:=hr.getN hg
   obtain ⟨u,rfl⟩:=List.length_eq_one_iff.1 h3
   have hz1:ti.size=1:=by
    obtain ⟨i,z,hi,hs,hb,hz,hzo,hza⟩:=hT.info
    have hzl:=(aH3 (fun _=>False) w _ _ hzo).1.length
    rw [←hT.zl,←hzl]
    rw [ha] at hza
    cases z<;>first|rfl|cases hza
   refine ⟨_,hT.run_load w b (p+off) [u] (by rw [hz1]; rfl) (.inr rfl) (cells h1),?_⟩
   rw [ha]
   cases h2 with|cons h _=>exact h
  ·cases hl
def cE6 (tab:Q6) (os:Os) (t:TypeId) (x:AV) (K:Kt):Prop :=
 match lk tab t with
 |some ti=>match x with
  |.fp cs=>match a11 ti cs 0 with
   |some av=>K av [] [] []
   |none=>False
  |.ptr id off=>match lk os id with
   |some (.box cs _)=>match a11 ti cs off with
    |some av=>K av [id] [] []
    |none=>False
   |_=>False
  |.ep id i sz off=>match lk os id with
   |some (.row sz' ls _)=>match Nat.beq sz sz' with
    |true=>i < ls.length∧∀cs,ls[i]?=some cs→match a11 ti cs off with
     |some av=>K av [id] [] []
     |none=>False
    |false=>False
   |_=>False
  |_=>False
 |none=>False
theorem cX6 (hT:O3 P tab) {t:TypeId} {x:Operand} (ho:o.op=.load t x) (h:cE6 tab os t (ev x) K):U8 P o ev os K:=by
 have run:∀(ρ:Operand→Value) (w:World),(execOp ρ o).run P w=((Instr.loadAt t (ρ x)).run P w).andThen fun v w'=>.ok (.value v) w':=fun ρ w=>by simp [execOp,ho]
 unfold cE6 at h
 split at h
 ·rename_i ti hti
  have hTi:=hT t ti hti
  split at h
  ·rename_i cs hx
   split at h
   ·rename_i av hav
    refine .pure (fun c w ρ hr=>?_) h
    have h1:=hr x (by simp [ho,Op.operands])
    rw [hx] at h1
    obtain ⟨b,p,us,e,h2,h3,h4⟩:=h1.fp_
    obtain ⟨v,h5,h6⟩:=aV6 hTi hav (.of_rfs h4) h3
    exact ⟨v,by rw [run,e]; simp only [Nat.add_zero] at h5; rw [h5]; rfl,h6⟩
   ·exact h.elim
  ·rename_i id off hx
   split at h
   ·rename_i cs e hid
    split at h
    ·rename_i av hav
     refine .read hid (fun c w ρ hrep hr=>?_) h
     have h1:=hr x (by simp [ho,Op.operands])
     rw [hx] at h1
     obtain ⟨us,h2,h3⟩:=hrep
     obtain ⟨v,h5,h6⟩:=aV6 (b:=c.μ id) (p:=0) hTi hav h3 (fun j u hj=>by
      unfold World.cell?
      simp only [Nat.zero_add,h2]
      simpa using hj)
     rw [Nat.zero_add] at h5
     exact ⟨v,by rw [run,h1.ptr_,h5]; rfl,h6⟩
    ·exact h.elim
   ·exact h.elim
  ·rename_i id i sz off hx
   split at h
   ·rename_i sz' ls e hid
    split at h
    ·rename_i hsz
     obtain rfl:=Nat.eq_of_beq_eq_true hsz
     obtain ⟨hi,h⟩:=h
     have hcs:ls[i]?=some ls[i]:=List.getElem?_eq_getElem hi
     have h:=h _ hcs
     split at h
     ·rename_i av hav
      refine .read hid (fun c w ρ hrep hr=>?_) h
      have h1:=hr x (by simp [ho,Op.operands])
      rw [hx] at h1
      obtain ⟨g,x0,m,cap,e1,hh⟩:=h1.ep_
      obtain ⟨css,h2,h3,h4⟩:=hrep
      have hcs':css[i]?=some (css[i]'(by omega)):=List.getElem?_eq_getElem (by omega)
      obtain ⟨g',x',cap',hv,hg,hc⟩:=h2.cells hcs'
      have e2:g'=g∧x'=x0:=by rw [hh] at hv; injection hv with e _ _; injection e with e; injection e with e e' _; exact ⟨e.symm,e'.symm⟩
      obtain ⟨rfl,rfl⟩:=e2
      obtain ⟨v,h5,h6⟩:=aV6 (b:=g') (p:=x'+i*sz) hTi hav (.of_rfs (h4 i _ _ hcs' hcs)) hc
      exact ⟨v,by rw [run,e1,h5]; rfl,h6⟩
     ·exact h.elim
    ·exact h.elim
   ·exact h.elim
  ·exact h.elim
 ·exact h.elim
def b52 (tab:Q6) (s:TypeId) (x:AV) (f:Nat) (K:Kt):Prop :=
 match lk tab s with
 |some ti=>match ti.kind,b37 f ti.fields,x with
  |1,some (off,sz,true),.agg cs=>match getN off sz cs with
   |some l=>K (.agg l) [] [] []
   |none=>False
  |1,some (off,_,false),.agg cs=>match getN off 1 cs with
   |some [a]=>K a [] [] []
   |_=>False
  |_,_,_=>False
 |none=>False
theorem cR5 (hT:O3 P tab) {s:TypeId} {x:Operand} {f:Nat} (ho:o.op=.field s x f) (h:b52 tab s (ev x) f K):U8 P o ev os K:=by
 unfold b52 at h
 split at h
 ·rename_i ti hti
  split at h
  ·rename_i off sz cs hk hf hx
   split at h
   ·rename_i l hl
    obtain ⟨fs,hu,hfs⟩:=(hT s ti hti).struct_ hk
    obtain ⟨fd,h1,h2,⟨i,h3,h4⟩,d,h5,h6⟩:=a00 fs.toList ti.fields hfs f off _ _ (bH4 hf)
    refine .pure (fun c w ρ hr=>?_) h
    have hx1:=hr x (by simp [ho,Op.operands])
    rw [hx] at hx1
    obtain ⟨us,e,hus⟩:=hx1.agg_
    obtain ⟨r,g1,g2,g3⟩:=hus.getN hl
    have h1':fs[f]?=some fd:=by simpa using h1
    have hp:=bW7 (P:=P) (s:=sz) w h5 (by rw [h3]; simp [h4]) us off (.inl h6) (.inl h6)
    rw [h6] at hp
    refine ⟨.agg r.toArray,?_,.agg g2⟩
    simp [execOp,ho,Instr.field,run_underlying hu,h1',e,asAgg,h2,hp,mkV,(bA7 g1).1]
   ·exact h.elim
  ·rename_i off sz cs hk hf hx
   split at h
   ·rename_i a hl
    obtain ⟨fs,hu,hfs⟩:=(hT s ti hti).struct_ hk
    obtain ⟨fd,h1,h2,⟨i,h3,h4⟩,d,h5,h6⟩:=a00 fs.toList ti.fields hfs f off _ _ (bH4 hf)
    refine .pure (fun c w ρ hr=>?_) h
    have hx1:=hr x (by simp [ho,Op.operands])
    rw [hx] at hx1
    obtain ⟨us,e,hus⟩:=hx1.agg_
    obtain ⟨v,g1,g2⟩:=hus.get (cF7 hl)
    have h1':fs[f]?=some fd:=by simpa using h1
    refine ⟨v,?_,g2⟩
    have hag:(isAgg fd.type).run P w=.ok false w:=by rw [←h6]; cases d<;>simp [isAgg,run_underlying h5,aG7]
    simp [execOp,ho,Instr.field,run_underlying hu,h1',e,asAgg,part,hag,h2,g1]
   ·exact h.elim
  ·exact h.elim
 ·exact h.elim
end
end Go.Proofs.YtibjcppjfkamhaaGreatDoor
namespace Go.Proofs.YtibjcppjfkamhaaGreatDoor
open Go.RowKit
set_option linter.unusedVariables false
section
variable {P:Program} {tab:Q6} {o:Oper} {ev:Ev} {os:Os} {K:Kt}
def bJ5 (tab:Q6) (os:Os) (t:TypeId) (x ix:AV) (K:Kt):Prop :=
 match lk tab t,ix with
 |some ti,.int i=>match ti.kind,lk tab ti.elem with
  |2,some te=>match x with
   |.sl sz ls=>match Nat.beq sz te.size with
    |true=>0≤i∧i < ls.length∧∀cs,ls[i.toNat]?=some cs→rng cs→K (.fp cs) [] [] []
    |false=>False
   |.own id=>match lk os id with
    |some (.row sz ls _)=>match Nat.beq sz te.size with
     |true=>0≤i∧i < ls.length∧K (.ep id i.toNat sz 0) [id] [] []
     |false=>False
    |_=>False
   |.osl id n=>match lk os id with
    |some (.row sz ls _)=>match Nat.beq sz te.size with
     |true=>0≤i∧i < n∧n≤ls.length∧K (.ep id i.toNat sz 0) [id] [] []
     |false=>False
    |_=>False
   |_=>False
  |3,some te=>match cJ7 x (i.toNat*te.size) with
   |some y=>0≤i∧i < ti.len∧K y [] [] []
   |none=>False
  |_,_=>False
 |_,_=>False
theorem run_indexAt_slice {t e:TypeId} {te:TI} (ht:P.underlying t=some (.slice e)) (hE:U4 P e te) {w:World} {b p n cap:Nat} {i:Int} (h0:0≤i) (h1:i < n) :
  (Instr.indexAt t (.slice (some ⟨b,p,none⟩) n cap) (.int .i64 i)).run P w=.ok (.pointer (some ⟨b,p+i.toNat*te.size,none⟩)) w:=by
 simp [Instr.indexAt,asIntOf,run_underlying ht,h0,h1,hE.run_size,aF4]
theorem cC2 (hT:O3 P tab) {t:TypeId} {x ix:Operand} (ho:o.op=.indexAddr t x ix) (h:bJ5 tab os t (ev x) (ev ix) K):U8 P o ev os K:=by
 have run:∀(ρ:Operand→Value) (w:World),(execOp ρ o).run P w=((Instr.indexAt t (ρ x) (ρ ix)).run P w).andThen fun v w'=>.ok (.value v) w':=fun ρ w=>by simp [execOp,ho]
 have opx:∀{c:Ctx} {w:World} {ρ:Operand→Value},(∀z∈o.op.operands.toList,Rd c w (ρ z) (ev z))→Rd c w (ρ x) (ev x)∧Rd c w (ρ ix) (ev ix):=fun hr=>⟨hr x (by simp [ho,Op.operands]),hr ix (by simp [ho,Op.operands])⟩
 unfold bJ5 at h
 split at h
 ·rename_i ti i hti hi
  split at h
  ·rename_i te hk hte
   have ht:=(hT t ti hti).slice_ hk
   have hE:=hT _ te hte
   split at h
   ·rename_i sz ls hx
    split at h
    ·rename_i hsz
     obtain rfl:=Nat.eq_of_beq_eq_true hsz
     obtain ⟨h0,h1,h⟩:=h
     have hlt:i.toNat < ls.length:=by omega
     have hcs:ls[i.toNat]?=some ls[i.toNat]:=List.getElem?_eq_getElem hlt
     refine .have (p:=rng ls[i.toNat]) (fun c w ρ hok hr=>?_) fun hrng=>.pure (fun c w ρ hr=>?_) (h _ hcs hrng)
     ·have r1:=(opx hr).1
      rw [hx] at r1
      obtain ⟨A,k,us,b,p,e,g1,g2,g3,g4,g5,g6,g7⟩:=r1.sl_
      exact (g6 _ _ hcs).rng
     obtain ⟨r1,r2⟩:=opx hr
     rw [hx] at r1
     rw [hi] at r2
     obtain ⟨A,k,us,b,p,e,g1,g2,g3,g4,g5,g6,g7⟩:=r1.sl_
     obtain ⟨rfl,hb⟩:=g3 (by omega)
     refine ⟨_,by rw [run,e,r2.int_.1,run_indexAt_slice ht hE h0 h1]; rfl,.fz (.fp hb (fun j u hj=>?_) (g6 _ _ hcs))⟩
     exact g5 _ _ hcs j u hj
    ·exact h.elim
   ·rename_i id hx
    split at h
    ·rename_i sz ls e hid
     split at h
     ·rename_i hsz
      obtain rfl:=Nat.eq_of_beq_eq_true hsz
      obtain ⟨h0,h1,h⟩:=h
      refine .read hid (fun c w ρ hrep hr=>?_) h
      obtain ⟨r1,r2⟩:=opx hr
      rw [hx] at r1
      rw [hi] at r2
      obtain ⟨A,n,cap,e1,hh,_,_⟩:=r1.own_
      obtain ⟨css,q1,q2,q3⟩:=hrep
      have hlt:0 < css.length:=by omega
      obtain ⟨g,x',cap',hv,hg,_⟩:=q1.cells (List.getElem?_eq_getElem hlt)
      rw [hh] at hv
      injection hv with a1 a2 a3
      subst a1 a2 a3
      refine ⟨_,by rw [run,e1,r2.int_.1,run_indexAt_slice ht hE h0 (by omega)]; rfl,?_⟩
      exact .ep (off:=0) hh
     ·exact h.elim
    ·exact h.elim
   ·rename_i id n hx
    split at h
    ·rename_i sz ls e hid
     split at h
     ·rename_i hsz
      obtain rfl:=Nat.eq_of_beq_eq_true hsz
      obtain ⟨h0,h1,h2,h⟩:=h
      refine .read hid (fun c w ρ hrep hr=>?_) h
      obtain ⟨r1,r2⟩:=opx hr
      rw [hx] at r1
      rw [hi] at r2
      obtain ⟨A,m,cap,e1,hh,_,_⟩:=r1.osl_
      obtain ⟨css,q1,q2,q3⟩:=hrep
      have hlt:0 < css.length:=by omega
      obtain ⟨g,x',cap',hv,hg,_⟩:=q1.cells (List.getElem?_eq_getElem hlt)
      rw [hh] at hv
      injection hv with a1 a2 a3
      subst a1 a2 a3
      refine ⟨_,by rw [run,e1,r2.int_.1,run_indexAt_slice ht hE h0 h1]; rfl,?_⟩
      exact .ep (off:=0) hh
     ·exact h.elim
    ·exact h.elim
   ·exact h.elim
  ·rename_i te hk hte
   split at h
   ·rename_i y hy
    obtain ⟨h0,h1,h⟩:=h
    have ht:=(hT t ti hti).array_ hk
    refine .pure (fun c w ρ hr=>?_) h
    obtain ⟨r1,r2⟩:=opx hr
    rw [hi] at r2
    obtain ⟨b,p,e,hrd⟩:=cI3 r1 hy
    refine ⟨_,?_,hrd⟩
    rw [run,e,r2.int_.1]
    simp [Instr.indexAt,asIntOf,run_underlying ht,Instr.sureAddr,h0,h1,(hT _ te hte).run_size,aF4]
   ·exact h.elim
  ·exact h.elim
 ·exact h.elim
def b43 (tab:Q6) (t:TypeId) (x ix:AV) (K:Kt):Prop :=
 match lk tab t,x,ix with
 |some ti,.str s,.int i=>match ti.kind with
  |4=>0≤i∧i < s.size∧∀u,s[i.toNat]?=some u→K (.ik .u8 u.toNat) [] [] []
  |_=>False
 |_,_,_=>False
theorem cR2 (hT:O3 P tab) {t:TypeId} {x ix:Operand} (ho:o.op=.index t x ix) (h:b43 tab t (ev x) (ev ix) K):U8 P o ev os K:=by
 unfold b43 at h
 split at h
 ·rename_i ti s i hti hx hi
  split at h
  ·rename_i hk
   obtain ⟨h0,hlt,h⟩:=h
   have hlt':i.toNat < s.size:=by omega
   have hu:s[i.toNat]?=some s[i.toNat]:=by simp [hlt']
   refine .pure (fun c w ρ hr=>?_) (h _ hu)
   have r1:=hr x (by simp [ho,Op.operands])
   have r2:=hr ix (by simp [ho,Op.operands])
   rw [hx] at r1
   rw [hi] at r2
   refine ⟨.int .u8 s[i.toNat].toNat,?_,.fz (.ik _ _)⟩
   simp [execOp,ho,Instr.index,asIntOf,r1.str_.1,r2.int_.1,run_underlying ((hT t ti hti).string_ hk),h0,hu]
  ·exact h.elim
 ·exact h.elim
def cL9 (os:Os) (x:AV) (K:Kt):Prop :=
 match x with
 |.sl _ ls=>∀n:Nat,n=ls.length→n≤maxLen→K (.int n) [] [] []
 |.nilsl=>K (.int 0) [] [] []
 |.str s=>s.size≤maxLen→K (.int s.size) [] [] []
 |.own id=>match lk os id with
  |some (.row _ ls _)=>∀n:Nat,n=ls.length→n≤maxLen→K (.int n) [id] [] []
  |_=>False
 |.osl _ n=>n≤maxLen→K (.int n) [] [] []
 |.mp id=>match lk os id with
  |some (.mapo l)=>∀n:Nat,n=l.length→n≤maxLen→K (.int n) [id] [] []
  |_=>False
 |_=>False
theorem aI3.length {Φ:Nat→Prop} {w:World}:∀{es:List MapEntry} {l:List (AV×AV)},aI3 Φ w es l→es.length=l.length
 |_,_,.nil=>rfl
 |_,_,.cons _ _ t=>by simp [aI3.length t]
theorem bD1 {n:Nat} (h:n≤maxLen):Z8 n:=by unfold Z8; simp only [maxLen] at h; omega
theorem c84 (hT:O3 P tab) {x:Operand} {t:TypeId} (ho:o.op=.call { callee:=.builtin .len,args:=#[x],argTypes:=#[t] })
  (hk:match lk tab t,ev x with|some ti,.str _=>ti.kind=4|some ti,.mp _=>ti.kind=8|some ti,_=>ti.kind=2|_,_=>False) (h:cL9 os (ev x) K):U8 P o ev os K:=by
 have opx:∀{c:Ctx} {w:World} {ρ:Operand→Value},(∀z∈o.op.operands.toList,Rd c w (ρ z) (ev z))→Rd c w (ρ x) (ev x):=fun hr=>hr x (by simp [ho,Op.operands,Go.Call.operands])
 have runsl:∀(ρ:Operand→Value) (w:World) {A:Option Addr} {n cap:Nat} {e:TypeId},P.underlying t=some (.slice e)→ρ x=.slice A n cap→(execOp ρ o).run P w=.ok (.value (.int .i64 n)) w:=fun ρ w A n cap e ht hx=>by
  simp [execOp,ho,resolve,invoke,builtin,Builtin.len_,run_underlying ht,hx,goInt]
 unfold cL9 at h
 cases hl:lk tab t with
 |none=>rw [hl] at hk; exact hk.elim
 |some ti =>
  rw [hl] at hk
  split at h
  ·rename_i sz ls hx
   rw [hx] at hk
   have ht:=(hT t ti hl).slice_ hk
   refine .have (p:=ls.length≤maxLen) (fun c w ρ hok hr=>?_) fun hm=>.pure (fun c w ρ hr=>?_) (h _ rfl hm)
   ·have r:=opx hr
    rw [hx] at r
    obtain ⟨A,k,us,b,p,e,g1,g2,_⟩:=r.sl_
    omega
   ·have r:=opx hr
    rw [hx] at r
    obtain ⟨A,k,us,b,p,e,g1,g2,_⟩:=r.sl_
    exact ⟨_,runsl ρ w ht e,.fz (.int (bD1 hm))⟩
  ·rename_i hx
   rw [hx] at hk
   have ht:=(hT t ti hl).slice_ hk
   refine .pure (fun c w ρ hr=>?_) h
   have r:=opx hr
   rw [hx] at r
   exact ⟨_,runsl ρ w ht r.nilsl_,.fz (.int (by simp [Z8]))⟩
  ·rename_i s hx
   rw [hx] at hk
   have ht:=(hT t ti hl).string_ hk
   refine .have (p:=s.size≤maxLen) (fun c w ρ hok hr=>?_) fun hm=>.pure (fun c w ρ hr=>?_) (h hm)
   ·have r:=opx hr
    rw [hx] at r
    exact r.str_.2
   ·have r:=opx hr
    rw [hx] at r
    exact ⟨_,by simp [execOp,ho,resolve,invoke,builtin,Builtin.len_,run_underlying ht,r.str_.1,goInt],.fz (.int (bD1 hm))⟩
  ·rename_i id hx
   rw [hx] at hk
   have ht:=(hT t ti hl).slice_ hk
   split at h
   ·rename_i sz ls e hid
    have len_:∀(c:Ctx) (w:World) (ρ:Operand→Value),aH8 c w id (.row sz ls e)→Rd c w (ρ x) (.own id)→∃A cap,ρ x=.slice A ls.length cap∧ls.length≤maxLen:=fun c w ρ hrep r=>by
     obtain ⟨A,n,cap,e1,hh,b1,b2⟩:=r.own_
     obtain ⟨css,q1,q2,q3⟩:=hrep
     obtain ⟨A',cap',hv,b3,b4⟩:=q1.head
     rw [hh] at hv
     injection hv with a1 a2 a3
     exact ⟨A,cap,by rw [e1,a2,q2],by omega⟩
    refine .have (p:=ls.length≤maxLen) (fun c w ρ hok hr=>?_) fun hm=>.read hid (fun c w ρ hrep hr=>?_) (h _ rfl hm)
    ·have r:=opx hr
     rw [hx] at r
     obtain ⟨A,cap,e1,hm⟩:=len_ c w ρ (hok.rep id _ hid) r
     exact hm
    ·have r:=opx hr
     rw [hx] at r
     obtain ⟨A,cap,e1,hm⟩:=len_ c w ρ hrep r
     exact ⟨_,runsl ρ w ht e1,.fz (.int (bD1 hm))⟩
   ·exact h.elim
  ·rename_i id n hx
   rw [hx] at hk
   have ht:=(hT t ti hl).slice_ hk
   refine .have (p:=n≤maxLen) (fun c w ρ hok hr=>?_) fun hm=>.pure (fun c w ρ hr=>?_) (h hm)
   ·have r:=opx hr
    rw [hx] at r
    obtain ⟨A,m,cap,e,_,g1,g2,g3⟩:=r.osl_
    omega
   ·have r:=opx hr
    rw [hx] at r
    obtain ⟨A,m,cap,e,_,g1,g2,g3⟩:=r.osl_
    exact ⟨_,runsl ρ w ht e,.fz (.int (bD1 hm))⟩
  ·rename_i id hx
   rw [hx] at hk
   have ht:=(hT t ti hl).map_ hk
   split at h
   ·rename_i l hid
    refine .have (p:=l.length≤maxLen) (fun c w ρ hok hr=>?_) fun hm=>.read hid (fun c w ρ hrep hr=>?_) (h _ rfl hm)
    ·obtain ⟨es,clock,g1,g2,g3,_⟩:=hok.rep id _ hid
     exact g3
    ·have r:=opx hr
     rw [hx] at r
     obtain ⟨es,clock,g1,g2,g3⟩:=hrep
     have hn:es.size=l.length:=by rw [←g2.length]; simp
     refine ⟨_,?_,.fz (.int (bD1 hm))⟩
     simp [execOp,ho,resolve,invoke,builtin,Builtin.len_,run_underlying ht,r.mp_,MapKept.run_getObj_map g1,goInt,hn]
   ·exact h.elim
  ·exact h.elim
end
end Go.Proofs.YtibjcppjfkamhaaGreatDoor
namespace Go.Proofs.YtibjcppjfkamhaaGreatDoor
open Go.RowKit
set_option linter.unusedVariables false
section
variable {P:Program} {tab:Q6} {o:Oper} {ev:Ev} {os:Os} {K:Kt}
def b42 (tab:Q6) (d:Nat) (t:TypeId) (K:Kt):Prop :=
 match lk tab t with
 |some ti=>K (.ptr d 0) [] [d] [(d,.box ti.zero t)]
 |none=>False
theorem cT2 {Φ:Nat→Prop} {w:World}:∀{us:List Value} {cs:List AV},aF0 us cs=true→AV.idss cs=[]:=by
 intro us cs
 fun_induction aF0 us cs<;>intro h<;>simp_all [AV.idss,AV.ids]
theorem cS9 (hT:O3 P tab) (d:Nat) {t:TypeId} (ho:o.op=.alloc t) (h:b42 tab d t K):U8 P o ev os K:=by
 unfold b42 at h
 split at h
 ·rename_i ti hti
  refine fun _=>⟨_,[],_,[d],fun c w ρ hok hr=>?_,fun _ _ h=>(by cases h),fun id hid=>(by simp at hid; subst hid; rw [p9]; rfl),h⟩
  obtain ⟨z,hz,hzo,_⟩:=(hT t ti hti).run_zero w
  have hzr:=aH3 c.Φ w _ _ hzo
  have hp:=Post.newBox (c:=c) (w:=w) hok.phi d t (.of_rfs hzr.1) (by rw [cT2 (Φ:=c.Φ) (w:=w) hzo]; simp)
  have e:z.cells.toList.toArray=z.cells:=by simp
  rw [e] at hp
  have hrun:(execOp ρ o).run P w=.ok (.value (.pointer (some ⟨w.heap.size,0,none⟩))) (w.alloc (.cells z.cells t)):=by
   simp [execOp,ho,Instr.alloc,hz,newVar,newRow]
  rw [hrun]
  exact ⟨_,hp,.ptr (by simp [Ctx.setμ])⟩
 ·exact h.elim
def cJ5 (d:Nat) (t:TypeId) (x:AV) (K:Kt):Prop :=
 match x.cells? with
 |some cs=>match aW0 [d] (AV.idss cs) with
  |true=>K (.ptr d 0) [] [d] [(d,.box cs t)]
  |false=>False
 |none=>False
theorem c57 (d:Nat) {t:TypeId} {x:Operand} (ho:o.op=.box t x) (h:cJ5 d t (ev x) K):U8 P o ev os K:=by
 unfold cJ5 at h
 split at h
 ·rename_i cs hcs
  split at h
  ·rename_i hf
   refine fun _=>⟨_,[],_,[d],fun c w ρ hok hr=>?_,fun _ _ h=>(by cases h),fun id hid=>(by simp at hid; subst hid; rw [p9]; rfl),h⟩
   obtain ⟨r,_⟩:=aK4 (hr x (by simp [ho,Op.operands])) hcs
   have hp:=Post.newBox (c:=c) (w:=w) hok.phi d t r (aL9 hf d (by simp))
   have e:(ρ x).cells.toList.toArray=(ρ x).cells:=by simp
   rw [e] at hp
   have hrun:(execOp ρ o).run P w=.ok (.value (.pointer (some ⟨w.heap.size,0,none⟩))) (w.alloc (.cells (ρ x).cells t)):=by
    simp [execOp,ho,Instr.box,newVar,newRow]
   rw [hrun]
   exact ⟨_,hp,.ptr (by simp [Ctx.setμ])⟩
  ·exact h.elim
 ·exact h.elim
mutual
theorem Rf.ids {Φ:Nat→Prop} {w:World}:∀{v:Value} {a:AV},Rf Φ w v a→a.ids=[]
 |_,_,.any _=>rfl
 |_,_,.int _=>rfl
 |_,_,.ik _ _=>rfl
 |_,_,.bool _=>rfl
 |_,_,.str _=>rfl
 |_,_,.sl _ _ _ _ _ _ _ _ _ _=>rfl
 |_,_,.fp _ _ _=>rfl
 |_,_,.fn h=>J4.ids h
 |_,_,.agg h=>J4.ids h
 |_,_,.tup h=>J4.ids h
 |_,_,.nilsl=>rfl
 |_,_,.slb _ _ _=>rfl
 |_,_,.nilp=>rfl
 |_,_,.nilf=>rfl
 |_,_,.ifcn=>rfl
 |_,_,.ifcs _ _=>rfl
 |_,_,.con _=>rfl
theorem J4.ids {Φ:Nat→Prop} {w:World}:∀{vs:List Value} {as:List AV},J4 Φ w vs as→AV.idss as=[]
 |_,_,.nil=>rfl
 |_,_,.cons h t=>by simp [AV.idss,Rf.ids h,J4.ids t]
end
theorem bE7 {l:List AV}:AV.idss l=[]↔∀a∈l,a.ids=[]:=by
 induction l with
 |nil=>simp [AV.idss]
 |cons a l ih=>simp [AV.idss,ih]
theorem bV1 {β:Type}:∀{o:Nat} {as cs rs:List β} (bs:List β),U6 o as cs=some rs→U6 o as (cs++bs)=some (rs++bs):=by
 intro o as cs
 fun_induction U6 o as cs with
 |case1=>intro rs bs h; cases h; simp [U6]
 |case2 a as x cs r hr ih=>intro rs bs h; cases h; simp [U6,ih bs hr]
 |case3=>intro rs bs h; cases h
 |case4 o as x cs r hr ih=>intro rs bs h; cases h; simp [U6,ih bs hr]
 |case5=>intro rs bs h; cases h
 |case6=>intro rs bs h; cases h
theorem bG5 {β:Type} {as cs rs:List β}:∀(pre:List β) {o:Nat},U6 o as cs=some rs→U6 (pre.length+o) as (pre++cs)=some (pre++rs)
 |[],o,h=>by simpa using h
 |x::pre,o,h=>by
  have ih:=bG5 pre h
  rw [List.length_cons,Nat.succ_add]
  simp [U6,ih]
theorem Post.writeRow {c:Ctx} {w w':World} {id sz e:Nat} {ls ls':List (List AV)} {css':List (List Value)} {b:Nat} (h:P9 c w [(id,.row sz ls e)]) (hb:(c.hd id).ownBlock=some b) (hR:M7 w' (c.hd id) sz e css') (hl:css'.length=ls'.length)
  (hr:∀(i:Nat) (us:List Value) (cs:List AV),css'[i]?=some us→ls'[i]?=some cs→J4 c.Φ w us cs) (ho:∀k,k≠b→w'.heap[k]?=w.heap[k]?)
  (hs:w'.heap.size=w.heap.size) (h1:w'.os=w.os) (h2:w'.tape=w.tape) (h3:w'.output=w.output):Post c w c w' [(id,.row sz ls e)] [(id,.row sz ls' e)] []:=by
 have hlt:=h.lt id _ b (p9 _ _ _) hb
 have ht:∀x,x=b→Touch c [(id,.row sz ls e)] [(id,.row sz ls' e)] x:=fun x hx=>⟨id,_,p9 _ _ _,by rw [p9]; rfl,by rw [hx]; exact hb⟩
 have hfr:∀x,c.Φ x→w'.heap[x]?=w.heap[x]?:=fun x hx=>ho x fun e=>hlt.2 (e▸hx)
 refine ⟨h1,h2,h3,by omega,fun b hb=>hb,fun b hb=>.inl hb,fun x hx hn=>ho x fun e=>hn (ht x e),fun _ _=>⟨rfl,rfl⟩,⟨fun i o hl=>?_,fun i o x hl hf=>?_,fun i i' o o' x hdis hl hl' hf=>?_,fun x hx=>by have:=h.phi x hx; omega⟩,fun i o x hl hf=>?_⟩<;>rw [y7] at hl<;>split at hl<;>first|(rename_i e1; subst e1; cases hl)|cases hl
 ·exact ⟨css',hR,by assumption,fun i us cs hu hc=>(hr i us cs hu hc).mono hfr fun _ h=>h⟩
 ·have:x=b:=by have hf':(c.hd id).ownBlock=some x:=hf; rw [hb] at hf'; injection hf' with e; exact e.symm
  rw [this]
  exact ⟨by omega,hlt.2⟩
 ·rw [G9 _ _ hdis] at hl'
  cases hl'
 ·have:x=b:=by have hf':(c.hd id).ownBlock=some x:=hf; rw [hb] at hf'; injection hf' with e; exact e.symm
  exact .inr (ht x this)
def bM1 (tab:Q6) (os:Os) (t:TypeId) (x y:AV) (K:Kt):Prop :=
 match lk tab t,y.cells? with
 |some ti,some vs=>match Nat.beq vs.length ti.size with
  |true=>match x with
   |.ptr id off=>match lk os id with
    |some (.box cs e)=>match U6 off vs cs with
     |some cs'=>K .any [id] [] [(id,.box cs' e)]
     |none=>False
    |_=>False
   |.ep id i sz off=>match lk os id,AV.idss vs with
    |some (.row sz' ls e),[]=>match Nat.beq sz sz' with
     |true=>i < ls.length∧∀cs,ls[i]?=some cs→match U6 off vs cs with
      |some cs'=>∃q,aF9 (ls.set i cs') q∧K .any [id] [] [(id,.row sz' q e)]
      |none=>False
     |false=>False
    |_,_=>False
   |_=>False
  |false=>False
 |_,_=>False
theorem bJ6 {t:TypeId} {ti:TI} (hT:U4 P t ti) {w:World} {b p:Nat} {v:Value} (hv:v.cells.toList.length=ti.size) {e:TypeId} {us rs:List Value} (hb:w.heap[b]?=some (.cells us.toArray e)) (h1:∀u∈v.cells.toList,u.oneCell'=true)
  (hs:U6 p v.cells.toList us=some rs):∃w',(Instr.storeAt t (.pointer (some ⟨b,p,none⟩)) v).run P w=.ok () w'∧w'.heap[b]?=some (.cells rs.toArray e)∧(∀k,k≠b→w'.heap[k]?=w.heap[k]?)∧w'.heap.size=w.heap.size∧w'.os=w.os∧w'.tape=w.tape∧w'.output=w.output:=by
 obtain ⟨w',h2,h3⟩:=aW2 (P:=P) b p e v.cells.toList 0 us rs w hb h1 (by simpa using hs)
 refine ⟨w',?_,h3⟩
 have hv':v.cells.size=ti.size:=by simpa using hv
 simp [Instr.storeAt,Instr.sureAddr,storeVar,hT.run_size,hv',h2]
theorem bO7 {sz:Nat}:∀(css:List (List Value)) (i off:Nat) (us vs rs:List Value),(∀x∈css,x.length=sz)→css[i]?=some us→U6 off vs us=some rs→U6 (i*sz+off) vs css.flatten=some (css.set i rs).flatten:=by
 intro css i off us vs rs hl hi hs
 obtain ⟨l1,l2⟩:=aB6 hs
 have hus:us.length=sz:=hl us (List.mem_of_getElem? hi)
 have hil:i < css.length:=(List.getElem?_eq_some_iff.1 hi).1
 have hfl:=aA6 sz css hl
 have hb:i*sz+sz≤css.length*sz:=by
  have:(i+1)*sz≤css.length*sz:=Nat.mul_le_mul_right _ hil
  rwa [Nat.succ_mul] at this
 obtain ⟨r,hr⟩:=aN3 (i*sz+off) vs css.flatten (by rw [hfl]; omega)
 rw [hr]
 congr 1
 have hl':∀x∈css.set i rs,x.length=sz:=fun x hx=>by
  rcases List.mem_or_eq_of_mem_set hx with h|h
  ·exact hl x h
  ·rw [h]; omega
 apply List.ext_getElem?
 intro j
 rw [U7 hr j]
 have hfl':=aA6 sz (css.set i rs) hl'
 by_cases hj:j < css.length*sz
 ·have hpos:0 < sz:=by rcases Nat.eq_zero_or_pos sz with h|h; subst h; omega; exact h
  have hd:j / sz < css.length:=Nat.div_lt_of_lt_mul (by rwa [Nat.mul_comm] at hj)
  have hm:j % sz < sz:=Nat.mod_lt _ hpos
  have ej:j / sz*sz+j % sz=j:=by rw [Nat.mul_comm]; exact Nat.div_add_mod j sz
  have f1:=flat_get sz css hl (j / sz) (j % sz) css[j / sz] (List.getElem?_eq_getElem hd) hm
  rw [ej] at f1
  by_cases hij:i=j / sz
  ·have f2:=flat_get sz (css.set i rs) hl' (j / sz) (j % sz) rs (by rw [List.getElem?_set,if_pos hij,if_pos hil]) hm
   rw [ej] at f2
   have e1:css[j / sz]=us:=by
    have h1:=List.getElem?_eq_getElem hd
    have h2:css[j / sz]?=some us:=by rw [←hij]; exact hi
    rw [h1] at h2
    injection h2
   rw [f2,f1,e1,U7 hs]
   have hja:j=i*sz+j % sz:=by rw [hij]; exact ej.symm
   by_cases hc:off≤j % sz∧j % sz < off+vs.length
   ·rw [if_pos hc,if_pos (by omega)]
    congr 1
    omega
   ·rw [if_neg hc,if_neg (by omega)]
  ·have f2:=flat_get sz (css.set i rs) hl' (j / sz) (j % sz) css[j / sz] (by rw [List.getElem?_set,if_neg hij]; exact List.getElem?_eq_getElem hd) hm
   rw [ej] at f2
   rw [f2,f1,if_neg]
   rintro ⟨h1,h2⟩
   apply hij
   have:i*sz≤j∧j < i*sz+sz:=by omega
   exact (Nat.div_eq_of_lt_le (by omega) (by rw [Nat.succ_mul]; omega)).symm
 ·have e1:css.flatten[j]?=none:=List.getElem?_eq_none (by rw [hfl]; omega)
  have e2:(css.set i rs).flatten[j]?=none:=List.getElem?_eq_none (by rw [hfl',List.length_set]; omega)
  rw [e1,e2,if_neg (by omega)]
theorem cC5 (hT:O3 P tab) {t:TypeId} {x y:Operand} (ho:o.op=.store t x y) (h:bM1 tab os t (ev x) (ev y) K):U8 P o ev os K:=by
 have opx:∀{c:Ctx} {w:World} {ρ:Operand→Value},(∀z∈o.op.operands.toList,Rd c w (ρ z) (ev z))→Rd c w (ρ x) (ev x)∧Rd c w (ρ y) (ev y):=fun hr=>⟨hr x (by simp [ho,Op.operands]),hr y (by simp [ho,Op.operands])⟩
 have run:∀(ρ:Operand→Value) (w w':World),(Instr.storeAt t (ρ x) (ρ y)).run P w=.ok () w'→(execOp ρ o).run P w=.ok .skip w':=fun ρ w w' h=>by simp [execOp,ho,h]
 unfold bM1 at h
 split at h
 ·rename_i ti vs hti hvs
  split at h
  ·rename_i hsz
   have hsz:=Nat.eq_of_beq_eq_true hsz
   split at h
   ·rename_i id off hx
    split at h
    ·rename_i cs e hid
     split at h
     ·rename_i cs' hcs'
      refine fun _=>⟨_,[(id,.box cs e)],_,[],fun c w ρ hok hr=>?_,fun i ob h=>aH7 h hid,fun _ h=>(by cases h),h⟩
      obtain ⟨r1,r2⟩:=opx hr
      rw [hx] at r1
      obtain ⟨us,hb,hus⟩:=hok.rep id _ (p9 _ _ _)
      obtain ⟨rv,h1⟩:=aK4 r2 hvs
      obtain ⟨rs,hs,hrs⟩:=bW8 hcs' rv hus
      obtain ⟨w',q1,q2,q3,q4,q5,q6,q7⟩:=bJ6 (P:=P) (hT t ti hti) (by rw [rv.length]; exact hsz) hb h1 hs
      rw [run ρ w w' (by rw [r1.ptr_]; exact q1)]
      exact ⟨c,Post.write hok q2 hrs q3 q4 q5 q6 q7,Rd.any_ _⟩
     ·exact h.elim
    ·exact h.elim
   ·rename_i id i sz off hx
    split at h
    ·rename_i sz' ls e hid hids
     split at h
     ·rename_i hsz2
      obtain rfl:=Nat.eq_of_beq_eq_true hsz2
      obtain ⟨hi,h⟩:=h
      have hcs:ls[i]?=some ls[i]:=List.getElem?_eq_getElem hi
      have h:=h _ hcs
      split at h
      ·rename_i cs' hcs'
       obtain ⟨q0,hq0,h⟩:=h
       refine fun _=>⟨_,[(id,.row sz ls e)],_,[],fun c w ρ hok hr=>?_,fun i ob h=>aH7 h hid,fun _ h=>(by cases h),h⟩
       obtain ⟨r1,r2⟩:=opx hr
       rw [hx] at r1
       obtain ⟨css,p1,p2,p3⟩:=hok.rep id _ (p9 _ _ _)
       obtain ⟨g,x0,m,cap,e1,hh⟩:=r1.ep_
       obtain ⟨rv,h1⟩:=aK4 r2 hvs
       have hilt:i < css.length:=by omega
       have hci:css[i]?=some css[i]:=List.getElem?_eq_getElem hilt
       have hrow:=p3 i _ _ hci hcs
       obtain ⟨rs,hs,hrs⟩:=bW8 hcs' rv (.of_rfs hrow)
       have hrids:AV.idss cs'=[]:=bE7.2 fun a ha=>by
        rcases bO6 hcs' a ha with h|h
        ·exact bE7.1 hids a h
        ·exact bE7.1 hrow.ids a h
       rcases p1.lies with ⟨hv,hn⟩|⟨g',x',p,cap',cur,hv,hgb,c1,c2,c3,cx,c4⟩
       ·omega
       ·rw [hh] at hv
        injection hv with a1 a2 a3
        injection a1 with a1
        injection a1 with a1 a1x
        subst a1 a1x a3
        have hx0:=cx (by omega)
        have hblk:=bO7 css i off css[i] (ρ y).cells.toList rs p1.len hci hs
        have hfl:=aA6 sz css p1.len
        have hcl:cur.toList.length=(p+cap)*sz:=by rw [←c3]; simp
        have hple:p*sz≤cur.toList.length:=by rw [hcl]; exact Nat.mul_le_mul_right _ (by omega)
        have hpl:(cur.toList.take (p*sz)).length=p*sz:=by rw [List.length_take]; omega
        have hcur:cur.toList=cur.toList.take (p*sz)++(css.flatten++(cur.toList.drop (p*sz)).drop (css.length*sz)):=by
         rw [←c4,List.take_append_drop,List.take_append_drop]
        have hset:=bG5 (cur.toList.take (p*sz)) (bV1 ((cur.toList.drop (p*sz)).drop (css.length*sz)) hblk)
        rw [←hcur,hpl] at hset
        have hgb':w.heap[g]?=some (.cells cur.toList.toArray e):=by simpa using hgb
        obtain ⟨w',q1,q2,q3,q4,q5,q6,q7⟩:=bJ6 (P:=P) (hT t ti hti) (by rw [rv.length]; exact hsz) hgb' h1 hset
        rw [run ρ w w' (by rw [e1,hx0,Nat.add_assoc]; exact q1)]
        have hlen':∀us∈css.set i rs,us.length=sz:=fun us hu=>by
         rcases List.mem_or_eq_of_mem_set hu with h|h
         ·exact p1.len us h
         ·rw [h,(aB6 hs).1]; exact p1.len _ (List.getElem_mem hilt)
        have hfl':=aA6 sz (css.set i rs) hlen'
        have hRow:M7 w' (c.hd id) sz e (css.set i rs):=by
         refine ⟨.inr ⟨g,x0,p,cap,_,by rw [hh,List.length_set,a2],q2,by rw [List.length_set]; exact c1,c2,?_,cx,?_⟩,hlen',fun us hu=>?_⟩
         ·have e5:cur.toList.length=(p+cap)*sz:=hcl
          rw [hcur,List.length_append,List.length_append,hfl] at e5
          rw [List.size_toArray,List.length_append,List.length_append,hfl',List.length_set]
          exact e5
         ·rw [List.toList_toArray,List.drop_left' hpl,List.take_left' (by rw [hfl'])]
         ·rcases List.mem_or_eq_of_mem_set hu with h|h
          ·exact p1.one us h
          ·rw [h]
           intro u hu
           rcases bO6 hs u hu with h|h
           ·exact h1 u h
           ·exact p1.one _ (List.getElem_mem hilt) u h
        refine ⟨c,Post.leRow (U:=[]) (Post.writeRow hok (b:=g) (by rw [hh]; rfl) hRow (by simpa using p2) (fun k us cs hu hc=>?_) q3 q4 q5 q6 q7) hq0,Rd.any_ _⟩
        rw [List.getElem?_set] at hu hc
        by_cases hk:i=k
        ·subst hk
         rw [if_pos rfl,if_pos hilt] at hu
         rw [if_pos rfl,if_pos hi] at hc
         cases hu
         cases hc
         exact hrs.rfs hrids
        ·rw [if_neg hk] at hu hc
         exact p3 k us cs hu hc
      ·exact h.elim
     ·exact h.elim
    ·exact h.elim
   ·exact h.elim
  ·exact h.elim
 ·exact h.elim
end
end Go.Proofs.YtibjcppjfkamhaaGreatDoor
