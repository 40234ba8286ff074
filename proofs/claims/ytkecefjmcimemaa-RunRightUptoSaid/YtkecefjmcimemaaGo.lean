/- This program's types in the walk over readings. -/
import Derived.Test.YtkecefjmcimemaaDat
import Derived.Test.YtkecefjmcimemaaAk
import Derived.Test.YtkecefjmcimemaaTab
namespace Go.Proofs.Ytkecefjmcimemaa
open Go.RowKit
def etab : EqTab :=
 (56,[.int .i64,.str,.int .i64]) ::
 (127,[.int .i64,.int .i64]) ::
 (27,[.int .i64,.int .i64]) ::
 (94,[.int .i64,.int .i64]) ::
 (34,[.int .i64,.int .i64,.int .i64,.int .i64]) ::
 (60,[.int .i64,.int .i64,.int .i64,.int .i64,.str]) ::
 []
theorem etabOk : EqTabOk Try.prog etab:=EqTabOk.of (by kernel_rfl)
theorem mixed : Try.prog.follows .mixedOrders=true:=by kernel_rfl
theorem go {Γ:Fun} {n:Nat} (hn:Γ.n=n) {c:Code} {ts:Ts} {os:Os} {Q:Qt} (h:vcC Try.prog tab etab Γ n c ts os Q):COk Try.prog Γ c ts os Q:=by
 subst hn
 exact vcC_ok tabOk etabOk c ts os Q h
theorem gos {Γ:Fun} {n:Nat} (hn:Γ.n=n) {x y:Code} {ts:Ts} {os:Os} {Q:Qt} (h:vcC Try.prog tab etab Γ n (.seq x y) ts os Q):COk Try.prog Γ (.seq x y) ts os Q:=go hn h
theorem gor {Γ:Fun} {n:Nat} (hn:Γ.n=n) {id:Nat} {l:Array Oper} {ts:Ts} {os:Os} {Q:Qt} (h:vcC Try.prog tab etab Γ n (.region id l false) ts os Q):COk Try.prog Γ (.region id l false) ts os Q:=go hn h
theorem gob {Γ:Fun} {n:Nat} (hn:Γ.n=n) {id:Nat} {x:Code} {ts:Ts} {os:Os} {Q:Qt} (h:vcC Try.prog tab etab Γ n (.block id x) ts os Q):COk Try.prog Γ (.block id x) ts os Q:=go hn h
theorem goc {Γ:Fun} {n:Nat} (hn:Γ.n=n) {c:Operand} {x y:Code} {ts:Ts} {os:Os} {Q:Qt} (h:vcC Try.prog tab etab Γ n (.cond c x y) ts os Q):COk Try.prog Γ (.cond c x y) ts os Q:=go hn h
theorem goe {Γ:Fun} {n:Nat} (hn:Γ.n=n) {id:Nat} {ts:Ts} {os:Os} {Q:Qt} (h:vcC Try.prog tab etab Γ n (.exit id) ts os Q):COk Try.prog Γ (.exit id) ts os Q:=go hn h
theorem gok {Γ:Fun} {n:Nat} (hn:Γ.n=n) {ts:Ts} {os:Os} {Q:Qt} (h:vcC Try.prog tab etab Γ n .skip ts os Q):COk Try.prog Γ .skip ts os Q:=go hn h
theorem got {Γ:Fun} {n:Nat} (hn:Γ.n=n) {ts:Ts} {os:Os} {Q:Qt} (h:vcC Try.prog tab etab Γ n .ret ts os Q):COk Try.prog Γ .ret ts os Q:=go hn h
theorem god {Γ:Fun} {n:Nat} (hn:Γ.n=n) {id:Nat} {l:Array Oper} (hd:drawOk l.toList=true) {ts:Ts} {os:Os} {Q:Qt} (h:forceT ts fun ts=>vcD Try.prog tab etab n l.toList 0 l.toList ts os [] (Q .normal)):COk Try.prog Γ (.region id l true) ts os Q :=
 COk.draw tabOk etabOk hn mixed hd h
theorem god2 (ks ms:Nat) {Γ:Fun} {n:Nat} (hn:Γ.n=n) {id:Nat} {l:Array Oper} (hd:drawOk l.toList=true) {ts:Ts} {os:Os} {Q:Qt} (h:forceT ts fun ts=>vcE Try.prog tab etab n l.toList ks ms 0 l.toList ts os [] none (Q .normal)):COk Try.prog Γ (.region id l true) ts os Q :=
 COk.draw2 tabOk etabOk hn mixed hd ks ms h
theorem goo {Γ:Fun} {n:Nat} (hn:Γ.n=n) (k:Nat) {ops l:List Oper} {ts:Ts} {os:Os} {Q:Qt} (h:forceT ts fun ts=>vcOps Try.prog tab etab n ops (l.take k) ts os fun ts os=>OOk Try.prog Γ ops (l.drop k) ts os Q):OOk Try.prog Γ ops l ts os Q :=
 OOk.chunk tabOk etabOk hn k h
theorem inr_succ {k n:Nat} (h:k < n) (hn:n≤maxLen):InR ((k:Int)+1):=by simp only [maxLen] at hn; exact ⟨by omega,by omega⟩
theorem inr_nat' {n:Nat} (h:n≤maxLen):InR (n:Int):=by simp only [maxLen] at h; exact ⟨by omega,by omega⟩
abbrev Fit (n B:Nat):Prop:=n*B≤140737488355328
abbrev wr (n:Int):Int:=IntKind.i64.wrap n
theorem wr_in {n:Int} (h:InR n):wr n=n:=IntWalk.i64_in n h
theorem leB_refl (a:AV):leB a a:=by
 cases a<;>simp only [leB]<;>first|exact leCs_refl _|exact leC_refl _
theorem leTs_refl : ∀l:List AV,leTs l l
 |[]=>trivial
 |a::l=>⟨leB_refl a,leTs_refl l⟩
theorem leA_refl (a:AV):leA a a:=by
 cases a<;>simp only [leA]<;>first|exact leCs_refl _|exact leTs_refl _|exact leC_refl _
theorem leAs_of_eq : ∀{l l':List AV},l=l'→leAs l l'
 |[],_,rfl=>trivial
 |a::l,_,rfl=>⟨leA_refl a,leAs_of_eq rfl⟩
theorem bsel_t {p:Prop} [Decidable p] (h:p) {X Y:Prop} (hx:X):bsel (decide p) X Y:=by
 rw [decide_eq_true h]; exact hx
theorem bsel_f {p:Prop} [Decidable p] (h:¬p) {X Y:Prop} (hy:Y):bsel (decide p) X Y:=by
 rw [decide_eq_false h]; exact hy
theorem bsel_is {b:Bool} {p:Prop} [Decidable p] (h:b=decide p) {X Y:Prop} (h1:p→X) (h2:¬p→Y):bsel b X Y:=by
 rw [h]; exact bsel_dec h1 h2
theorem bsel_not {b:Bool} {p:Prop} [Decidable p] (h:b=decide p) {X Y:Prop} (h1:¬p→X) (h2:p→Y):bsel (!b) X Y:=by
 rw [h]; exact bsel_ndec h1 h2
theorem eqSt (a b:St):eqAs [.int a.cls,.str a.name,.int a.pos] [.int b.cls,.str b.name,.int b.pos]=decide (a=b):=by
 obtain ⟨a1,a2,a3⟩:=a
 obtain ⟨b1,b2,b3⟩:=b
 by_cases h1:a1=b1<;>by_cases h2:a2=b2<;>by_cases h3:a3=b3<;>simp [eqAs,eq1,h1,h2,h3]
theorem eqLn (a b:Ln):eqAs [.int a.cls,.int a.found] [.int b.cls,.int b.found]=decide (a=b):=by
 obtain ⟨a1,a2⟩:=a
 obtain ⟨b1,b2⟩:=b
 by_cases h1:a1=b1<;>by_cases h2:a2=b2<;>simp [eqAs,eq1,h1,h2]
theorem eqV (a b:V):eqAs [.int a.k,.int a.n] [.int b.k,.int b.n]=decide (a=b):=by
 obtain ⟨a1,a2⟩:=a
 obtain ⟨b1,b2⟩:=b
 by_cases h1:a1=b1<;>by_cases h2:a2=b2<;>simp [eqAs,eq1,h1,h2]
theorem eqIns (a b:Ins):eqAs [.int a.op,.int a.a,.int a.b,.int a.c,.str a.name] [.int b.op,.int b.a,.int b.b,.int b.c,.str b.name]=decide (a=b):=by
 obtain ⟨a1,a2,a3,a4,a5⟩:=a
 obtain ⟨b1,b2,b3,b4,b5⟩:=b
 by_cases h1:a1=b1<;>by_cases h2:a2=b2<;>by_cases h3:a3=b3<;>by_cases h4:a4=b4<;>by_cases h5:a5=b5<;>simp [eqAs,eq1,h1,h2,h3,h4,h5]
end Go.Proofs.Ytkecefjmcimemaa
