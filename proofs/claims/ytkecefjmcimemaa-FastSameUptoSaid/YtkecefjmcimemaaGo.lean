/- This program's types in the walk over readings. -/
import Derived.Test.YtkecefjmcimemaaDat
import Derived.Test.YtkecefjmcimemaaAk
import Derived.Test.YtkecefjmcimemaaTab
namespace Go.Proofs.Ytkecefjmcimemaa
open Go.RowKit
def bD1 : aH5 :=
 (56,[.int .i64,.str,.int .i64]) ::
 (127,[.int .i64,.int .i64]) ::
 (27,[.int .i64,.int .i64]) ::
 (94,[.int .i64,.int .i64]) ::
 (34,[.int .i64,.int .i64,.int .i64,.int .i64]) ::
 (60,[.int .i64,.int .i64,.int .i64,.int .i64,.str]) ::
 []
theorem b98 : aF8 Try.prog bD1:=aF8.of (by kernel_rfl)
theorem mixed : Try.prog.follows .mixedOrders=true:=by kernel_rfl
theorem go {Γ:Fun} {n:Nat} (hn:Γ.n=n) {c:Code} {ts:Ts} {os:Os} {Q:Qt} (h:vcC Try.prog tab bD1 Γ n c ts os Q):j5 Try.prog Γ c ts os Q:=by
 subst hn
 exact cP3 D5 b98 c ts os Q h
theorem j6 {Γ:Fun} {n:Nat} (hn:Γ.n=n) {x y:Code} {ts:Ts} {os:Os} {Q:Qt} (h:vcC Try.prog tab bD1 Γ n (.seq x y) ts os Q):j5 Try.prog Γ (.seq x y) ts os Q:=go hn h
theorem q9 {Γ:Fun} {n:Nat} (hn:Γ.n=n) {id:Nat} {l:Array Oper} {ts:Ts} {os:Os} {Q:Qt} (h:vcC Try.prog tab bD1 Γ n (.region id l false) ts os Q):j5 Try.prog Γ (.region id l false) ts os Q:=go hn h
theorem gob {Γ:Fun} {n:Nat} (hn:Γ.n=n) {id:Nat} {x:Code} {ts:Ts} {os:Os} {Q:Qt} (h:vcC Try.prog tab bD1 Γ n (.block id x) ts os Q):j5 Try.prog Γ (.block id x) ts os Q:=go hn h
theorem l8 {Γ:Fun} {n:Nat} (hn:Γ.n=n) {c:Operand} {x y:Code} {ts:Ts} {os:Os} {Q:Qt} (h:vcC Try.prog tab bD1 Γ n (.cond c x y) ts os Q):j5 Try.prog Γ (.cond c x y) ts os Q:=go hn h
theorem K8 {Γ:Fun} {n:Nat} (hn:Γ.n=n) {id:Nat} {ts:Ts} {os:Os} {Q:Qt} (h:vcC Try.prog tab bD1 Γ n (.exit id) ts os Q):j5 Try.prog Γ (.exit id) ts os Q:=go hn h
theorem q8 {Γ:Fun} {n:Nat} (hn:Γ.n=n) {ts:Ts} {os:Os} {Q:Qt} (h:vcC Try.prog tab bD1 Γ n .skip ts os Q):j5 Try.prog Γ .skip ts os Q:=go hn h
theorem got {Γ:Fun} {n:Nat} (hn:Γ.n=n) {ts:Ts} {os:Os} {Q:Qt} (h:vcC Try.prog tab bD1 Γ n .ret ts os Q):j5 Try.prog Γ .ret ts os Q:=go hn h
theorem H7 {Γ:Fun} {n:Nat} (hn:Γ.n=n) {id:Nat} {l:Array Oper} (hd:aL4 l.toList=true) {ts:Ts} {os:Os} {Q:Qt} (h:aV7 ts fun ts=>vcD Try.prog tab bD1 n l.toList 0 l.toList ts os [] (Q .normal)):j5 Try.prog Γ (.region id l true) ts os Q :=
 j5.draw D5 b98 hn mixed hd h
theorem c94 (ks ms:Nat) {Γ:Fun} {n:Nat} (hn:Γ.n=n) {id:Nat} {l:Array Oper} (hd:aL4 l.toList=true) {ts:Ts} {os:Os} {Q:Qt} (h:aV7 ts fun ts=>vcE Try.prog tab bD1 n l.toList ks ms 0 l.toList ts os [] none (Q .normal)):j5 Try.prog Γ (.region id l true) ts os Q :=
 j5.draw2 D5 b98 hn mixed hd ks ms h
theorem goo {Γ:Fun} {n:Nat} (hn:Γ.n=n) (k:Nat) {ops l:List Oper} {ts:Ts} {os:Os} {Q:Qt} (h:aV7 ts fun ts=>bB2 Try.prog tab bD1 n ops (l.take k) ts os fun ts os=>OOk Try.prog Γ ops (l.drop k) ts os Q):OOk Try.prog Γ ops l ts os Q :=
 OOk.chunk D5 b98 hn k h
theorem c56 {k n:Nat} (h:k < n) (hn:n≤maxLen):D6 ((k:Int)+1):=by simp only [maxLen] at hn; exact ⟨by omega,by omega⟩
abbrev wr (n:Int):Int:=IntKind.i64.wrap n
theorem D8 {n:Int} (h:D6 n):wr n=n:=IntWalk.i64_in n h
theorem dO3 (a b:St):aH4 [.int a.cls,.str a.name,.int a.pos] [.int b.cls,.str b.name,.int b.pos]=decide (a=b):=by
 obtain ⟨a1,a2,a3⟩:=a
 obtain ⟨b1,b2,b3⟩:=b
 by_cases h1:a1=b1<;>by_cases h2:a2=b2<;>by_cases h3:a3=b3<;>simp [aH4,eq1,h1,h2,h3]
theorem dO7 (a b:Ln):aH4 [.int a.cls,.int a.found] [.int b.cls,.int b.found]=decide (a=b):=by
 obtain ⟨a1,a2⟩:=a
 obtain ⟨b1,b2⟩:=b
 by_cases h1:a1=b1<;>by_cases h2:a2=b2<;>simp [aH4,eq1,h1,h2]
theorem eqV (a b:V):aH4 [.int a.k,.int a.n] [.int b.k,.int b.n]=decide (a=b):=by
 obtain ⟨a1,a2⟩:=a
 obtain ⟨b1,b2⟩:=b
 by_cases h1:a1=b1<;>by_cases h2:a2=b2<;>simp [aH4,eq1,h1,h2]
theorem dN5 (a b:Ins):aH4 [.int a.op,.int a.a,.int a.b,.int a.c,.str a.name] [.int b.op,.int b.a,.int b.b,.int b.c,.str b.name]=decide (a=b):=by
 obtain ⟨a1,a2,a3,a4,a5⟩:=a
 obtain ⟨b1,b2,b3,b4,b5⟩:=b
 by_cases h1:a1=b1<;>by_cases h2:a2=b2<;>by_cases h3:a3=b3<;>by_cases h4:a4=b4<;>by_cases h5:a5=b5<;>simp [aH4,eq1,h1,h2,h3,h4,h5]
end Go.Proofs.Ytkecefjmcimemaa
