/- This program's types in the walk over readings. -/
import Derived.Test.YtahmeibkdhbngaaDat
import Derived.Test.YtahmeibkdhbngaaAk
import Derived.Test.YtahmeibkdhbngaaTab
namespace Go.Proofs.Ytahmeibkdhbngaa
open Go.RowKit
def aM2 : W9 :=
 (23,[.int .i64,.str,.int .i64]) ::
 (91,[.int .i64,.int .i64]) ::
 (39,[.int .i64,.int .i64]) ::
 (94,[.int .i64,.int .i64]) ::
 (48,[.int .i64,.int .i64,.int .i64,.int .i64]) ::
 (100,[.int .i64,.int .i64,.int .i64,.int .i64,.str]) ::
 []
theorem bH7 : V5 Try.prog aM2:=V5.of (by kernel_rfl)
theorem mixed : Try.prog.follows .mixedOrders=true:=by kernel_rfl
theorem go {Γ:M3} {n:Nat} (hn:Γ.n=n) {c:Code} {ts:Ts} {os:Os} {Q:Qt} (h:vcC Try.prog tab aM2 Γ n c ts os Q):j4 Try.prog Γ c ts os Q:=by
 subst hn
 exact bH4 G5 bH7 c ts os Q h
theorem j5 {Γ:M3} {n:Nat} (hn:Γ.n=n) {x y:Code} {ts:Ts} {os:Os} {Q:Qt} (h:vcC Try.prog tab aM2 Γ n (.seq x y) ts os Q):j4 Try.prog Γ (.seq x y) ts os Q:=go hn h
theorem w9 {Γ:M3} {n:Nat} (hn:Γ.n=n) {id:Nat} {l:Array Oper} {ts:Ts} {os:Os} {Q:Qt} (h:vcC Try.prog tab aM2 Γ n (.region id l false) ts os Q):j4 Try.prog Γ (.region id l false) ts os Q:=go hn h
theorem gob {Γ:M3} {n:Nat} (hn:Γ.n=n) {id:Nat} {x:Code} {ts:Ts} {os:Os} {Q:Qt} (h:vcC Try.prog tab aM2 Γ n (.block id x) ts os Q):j4 Try.prog Γ (.block id x) ts os Q:=go hn h
theorem q8 {Γ:M3} {n:Nat} (hn:Γ.n=n) {c:Operand} {x y:Code} {ts:Ts} {os:Os} {Q:Qt} (h:vcC Try.prog tab aM2 Γ n (.cond c x y) ts os Q):j4 Try.prog Γ (.cond c x y) ts os Q:=go hn h
theorem I4 {Γ:M3} {n:Nat} (hn:Γ.n=n) {id:Nat} {ts:Ts} {os:Os} {Q:Qt} (h:vcC Try.prog tab aM2 Γ n (.exit id) ts os Q):j4 Try.prog Γ (.exit id) ts os Q:=go hn h
theorem x9 {Γ:M3} {n:Nat} (hn:Γ.n=n) {ts:Ts} {os:Os} {Q:Qt} (h:vcC Try.prog tab aM2 Γ n .skip ts os Q):j4 Try.prog Γ .skip ts os Q:=go hn h
theorem got {Γ:M3} {n:Nat} (hn:Γ.n=n) {ts:Ts} {os:Os} {Q:Qt} (h:vcC Try.prog tab aM2 Γ n .ret ts os Q):j4 Try.prog Γ .ret ts os Q:=go hn h
theorem god {Γ:M3} {n:Nat} (hn:Γ.n=n) {id:Nat} {l:Array Oper} (hd:aA1 l.toList=true) {ts:Ts} {os:Os} {Q:Qt} (h:aH5 ts fun ts=>vcD Try.prog tab aM2 n l.toList 0 l.toList ts os [] (Q .normal)):j4 Try.prog Γ (.region id l true) ts os Q :=
 j4.draw G5 bH7 hn mixed hd h
theorem goo {Γ:M3} {n:Nat} (hn:Γ.n=n) (k:Nat) {ops l:List Oper} {ts:Ts} {os:Os} {Q:Qt} (h:aH5 ts fun ts=>aH0 Try.prog tab aM2 n ops (l.take k) ts os fun ts os=>OOk Try.prog Γ ops (l.drop k) ts os Q):OOk Try.prog Γ ops l ts os Q :=
 OOk.chunk G5 bH7 hn k h
theorem bW9 {k n:Nat} (h:k < n) (hn:n≤maxLen):M9 ((k:Int)+1):=by simp only [maxLen] at hn; exact ⟨by omega,by omega⟩
abbrev wr (n:Int):Int:=IntKind.i64.wrap n
theorem aO4 {n:Int} (h:M9 n):wr n=n:=IntWalk.i64_in n h
theorem b86 (a b:St):aA6 [.int a.cls,.str a.name,.int a.pos] [.int b.cls,.str b.name,.int b.pos]=decide (a=b):=by
 obtain ⟨a1,a2,a3⟩:=a
 obtain ⟨b1,b2,b3⟩:=b
 by_cases h1:a1=b1<;>by_cases h2:a2=b2<;>by_cases h3:a3=b3<;>simp [aA6,eq1,h1,h2,h3]
theorem b85 (a b:Ln):aA6 [.int a.cls,.int a.found] [.int b.cls,.int b.found]=decide (a=b):=by
 obtain ⟨a1,a2⟩:=a
 obtain ⟨b1,b2⟩:=b
 by_cases h1:a1=b1<;>by_cases h2:a2=b2<;>simp [aA6,eq1,h1,h2]
theorem eqV (a b:V):aA6 [.int a.k,.int a.n] [.int b.k,.int b.n]=decide (a=b):=by
 obtain ⟨a1,a2⟩:=a
 obtain ⟨b1,b2⟩:=b
 by_cases h1:a1=b1<;>by_cases h2:a2=b2<;>simp [aA6,eq1,h1,h2]
theorem b72 (a b:Ins):aA6 [.int a.op,.int a.a,.int a.b,.int a.c,.str a.name] [.int b.op,.int b.a,.int b.b,.int b.c,.str b.name]=decide (a=b):=by
 obtain ⟨a1,a2,a3,a4,a5⟩:=a
 obtain ⟨b1,b2,b3,b4,b5⟩:=b
 by_cases h1:a1=b1<;>by_cases h2:a2=b2<;>by_cases h3:a3=b3<;>by_cases h4:a4=b4<;>by_cases h5:a5=b5<;>simp [aA6,eq1,h1,h2,h3,h4,h5]
end Go.Proofs.Ytahmeibkdhbngaa
