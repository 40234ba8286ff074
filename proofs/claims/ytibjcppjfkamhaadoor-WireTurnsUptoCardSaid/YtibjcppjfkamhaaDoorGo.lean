/- This program's types in the walk over readings. -/
import Derived.Test.YtibjcppjfkamhaaDoorDat
import Derived.Test.YtibjcppjfkamhaaDoorAk
import Derived.Test.YtibjcppjfkamhaaDoorTab
namespace Go.Proofs.YtibjcppjfkamhaaDoor
open Go.RowKit
def aT3 : aB3 :=
 (70,[.int .i64,.int .i64]) ::
 (51,[.int .i64,.int .i64]) ::
 (77,[.int .i64,.int .i64,.int .i64,.int .i64,.str]) ::
 []
theorem b89 : aC3 Tryd.prog aT3:=aC3.of (by kernel_rfl)
theorem mixed : Tryd.prog.follows .mixedOrders=true:=by kernel_rfl
theorem go {Γ:Q4} {n:Nat} (hn:Γ.n=n) {c:Code} {ts:Ts} {os:Os} {Q:Qt} (h:vcC Tryd.prog tab aT3 Γ n c ts os Q):j4 Tryd.prog Γ c ts os Q:=by
 subst hn
 exact bT3 G7 b89 c ts os Q h
theorem j6 {Γ:Q4} {n:Nat} (hn:Γ.n=n) {x y:Code} {ts:Ts} {os:Os} {Q:Qt} (h:vcC Tryd.prog tab aT3 Γ n (.seq x y) ts os Q):j4 Tryd.prog Γ (.seq x y) ts os Q:=go hn h
theorem y8 {Γ:Q4} {n:Nat} (hn:Γ.n=n) {id:Nat} {l:Array Oper} {ts:Ts} {os:Os} {Q:Qt} (h:vcC Tryd.prog tab aT3 Γ n (.region id l false) ts os Q):j4 Tryd.prog Γ (.region id l false) ts os Q:=go hn h
theorem gob {Γ:Q4} {n:Nat} (hn:Γ.n=n) {id:Nat} {x:Code} {ts:Ts} {os:Os} {Q:Qt} (h:vcC Tryd.prog tab aT3 Γ n (.block id x) ts os Q):j4 Tryd.prog Γ (.block id x) ts os Q:=go hn h
theorem l9 {Γ:Q4} {n:Nat} (hn:Γ.n=n) {c:Operand} {x y:Code} {ts:Ts} {os:Os} {Q:Qt} (h:vcC Tryd.prog tab aT3 Γ n (.cond c x y) ts os Q):j4 Tryd.prog Γ (.cond c x y) ts os Q:=go hn h
theorem K4 {Γ:Q4} {n:Nat} (hn:Γ.n=n) {id:Nat} {ts:Ts} {os:Os} {Q:Qt} (h:vcC Tryd.prog tab aT3 Γ n (.exit id) ts os Q):j4 Tryd.prog Γ (.exit id) ts os Q:=go hn h
theorem u7 {Γ:Q4} {n:Nat} (hn:Γ.n=n) {ts:Ts} {os:Os} {Q:Qt} (h:vcC Tryd.prog tab aT3 Γ n .skip ts os Q):j4 Tryd.prog Γ .skip ts os Q:=go hn h
theorem got {Γ:Q4} {n:Nat} (hn:Γ.n=n) {ts:Ts} {os:Os} {Q:Qt} (h:vcC Tryd.prog tab aT3 Γ n .ret ts os Q):j4 Tryd.prog Γ .ret ts os Q:=go hn h
theorem god {Γ:Q4} {n:Nat} (hn:Γ.n=n) {id:Nat} {l:Array Oper} (hd:aD8 l.toList=true) {ts:Ts} {os:Os} {Q:Qt} (h:aW4 ts fun ts=>vcD Tryd.prog tab aT3 n l.toList 0 l.toList ts os [] (Q .normal)):j4 Tryd.prog Γ (.region id l true) ts os Q :=
 j4.draw G7 b89 hn mixed hd h
theorem cE0 {k n:Nat} (h:k < n) (hn:n≤maxLen):C8 ((k:Int)+1):=by simp only [maxLen] at hn; exact ⟨by omega,by omega⟩
abbrev wr (n:Int):Int:=IntKind.i64.wrap n
theorem U4 {n:Int} (h:C8 n):wr n=n:=IntWalk.i64_in n h
theorem cQ3 (a b:St):aE2 [.int a.cls,.str a.name,.int a.pos] [.int b.cls,.str b.name,.int b.pos]=decide (a=b):=by
 obtain ⟨a1,a2,a3⟩:=a
 obtain ⟨b1,b2,b3⟩:=b
 by_cases h1:a1=b1<;>by_cases h2:a2=b2<;>by_cases h3:a3=b3<;>simp [aE2,eq1,h1,h2,h3]
theorem cQ0 (a b:Ln):aE2 [.int a.cls,.int a.found] [.int b.cls,.int b.found]=decide (a=b):=by
 obtain ⟨a1,a2⟩:=a
 obtain ⟨b1,b2⟩:=b
 by_cases h1:a1=b1<;>by_cases h2:a2=b2<;>simp [aE2,eq1,h1,h2]
theorem eqV (a b:V):aE2 [.int a.k,.int a.n] [.int b.k,.int b.n]=decide (a=b):=by
 obtain ⟨a1,a2⟩:=a
 obtain ⟨b1,b2⟩:=b
 by_cases h1:a1=b1<;>by_cases h2:a2=b2<;>simp [aE2,eq1,h1,h2]
theorem cO3 (a b:Ins):aE2 [.int a.op,.int a.a,.int a.b,.int a.c,.str a.name] [.int b.op,.int b.a,.int b.b,.int b.c,.str b.name]=decide (a=b):=by
 obtain ⟨a1,a2,a3,a4,a5⟩:=a
 obtain ⟨b1,b2,b3,b4,b5⟩:=b
 by_cases h1:a1=b1<;>by_cases h2:a2=b2<;>by_cases h3:a3=b3<;>by_cases h4:a4=b4<;>by_cases h5:a5=b5<;>simp [aE2,eq1,h1,h2,h3,h4,h5]
end Go.Proofs.YtibjcppjfkamhaaDoor
