/- This program's types in the walk over readings. -/
import Derived.Test.YtibjcppjfkamhaaGreatDoorDat
import Derived.Test.YtibjcppjfkamhaaGreatDoorAk
import Derived.Test.YtibjcppjfkamhaaGreatDoorTab
namespace Go.Proofs.YtibjcppjfkamhaaGreatDoor
open Go.RowKit
def a00 : aF5 :=
 (156,[.int .i64,.str,.int .i64]) ::
 (167,[.int .i64,.int .i64]) ::
 (29,[.int .i64,.int .i64]) ::
 (88,[.int .i64,.int .i64]) ::
 (151,[.int .i64,.int .i64,.int .i64,.int .i64]) ::
 (51,[.int .i64,.int .i64,.int .i64,.int .i64]) ::
 (55,[.int .i64,.int .i64,.int .i64,.int .i64,.str]) ::
 []
theorem cF6 : aG1 Tryz.prog a00:=aG1.of (by kernel_rfl)
theorem mixed : Tryz.prog.follows .mixedOrders=true:=by kernel_rfl
theorem go {Γ:V7} {n:Nat} (hn:Γ.n=n) {c:Code} {ts:Ts} {os:Os} {Q:Qt} (h:vcC Tryz.prog tab a00 Γ n c ts os Q):j4 Tryz.prog Γ c ts os Q:=by
 subst hn
 exact b21 F3 cF6 c ts os Q h
theorem j6 {Γ:V7} {n:Nat} (hn:Γ.n=n) {x y:Code} {ts:Ts} {os:Os} {Q:Qt} (h:vcC Tryz.prog tab a00 Γ n (.seq x y) ts os Q):j4 Tryz.prog Γ (.seq x y) ts os Q:=go hn h
theorem p9 {Γ:V7} {n:Nat} (hn:Γ.n=n) {id:Nat} {l:Array Oper} {ts:Ts} {os:Os} {Q:Qt} (h:vcC Tryz.prog tab a00 Γ n (.region id l false) ts os Q):j4 Tryz.prog Γ (.region id l false) ts os Q:=go hn h
theorem gob {Γ:V7} {n:Nat} (hn:Γ.n=n) {id:Nat} {x:Code} {ts:Ts} {os:Os} {Q:Qt} (h:vcC Tryz.prog tab a00 Γ n (.block id x) ts os Q):j4 Tryz.prog Γ (.block id x) ts os Q:=go hn h
theorem l7 {Γ:V7} {n:Nat} (hn:Γ.n=n) {c:Operand} {x y:Code} {ts:Ts} {os:Os} {Q:Qt} (h:vcC Tryz.prog tab a00 Γ n (.cond c x y) ts os Q):j4 Tryz.prog Γ (.cond c x y) ts os Q:=go hn h
theorem H8 {Γ:V7} {n:Nat} (hn:Γ.n=n) {id:Nat} {ts:Ts} {os:Os} {Q:Qt} (h:vcC Tryz.prog tab a00 Γ n (.exit id) ts os Q):j4 Tryz.prog Γ (.exit id) ts os Q:=go hn h
theorem l9 {Γ:V7} {n:Nat} (hn:Γ.n=n) {ts:Ts} {os:Os} {Q:Qt} (h:vcC Tryz.prog tab a00 Γ n .skip ts os Q):j4 Tryz.prog Γ .skip ts os Q:=go hn h
theorem got {Γ:V7} {n:Nat} (hn:Γ.n=n) {ts:Ts} {os:Os} {Q:Qt} (h:vcC Tryz.prog tab a00 Γ n .ret ts os Q):j4 Tryz.prog Γ .ret ts os Q:=go hn h
theorem god {Γ:V7} {n:Nat} (hn:Γ.n=n) {id:Nat} {l:Array Oper} (hd:aH8 l.toList=true) {ts:Ts} {os:Os} {Q:Qt} (h:a18 ts fun ts=>vcD Tryz.prog tab a00 n l.toList 0 l.toList ts os [] (Q .normal)):j4 Tryz.prog Γ (.region id l true) ts os Q :=
 j4.draw F3 cF6 hn mixed hd h
theorem cM1 {k n:Nat} (h:k < n) (hn:n≤maxLen):D6 ((k:Int)+1):=by simp only [maxLen] at hn; exact ⟨by omega,by omega⟩
abbrev wr (n:Int):Int:=IntKind.i64.wrap n
theorem O3 {n:Int} (h:D6 n):wr n=n:=IntWalk.i64_in n h
theorem c05 (a b:St):aI1 [.int a.cls,.str a.name,.int a.pos] [.int b.cls,.str b.name,.int b.pos]=decide (a=b):=by
 obtain ⟨a1,a2,a3⟩:=a
 obtain ⟨b1,b2,b3⟩:=b
 by_cases h1:a1=b1<;>by_cases h2:a2=b2<;>by_cases h3:a3=b3<;>simp [aI1,eq1,h1,h2,h3]
theorem cZ3 (a b:Ln):aI1 [.int a.cls,.int a.found] [.int b.cls,.int b.found]=decide (a=b):=by
 obtain ⟨a1,a2⟩:=a
 obtain ⟨b1,b2⟩:=b
 by_cases h1:a1=b1<;>by_cases h2:a2=b2<;>simp [aI1,eq1,h1,h2]
theorem eqV (a b:V):aI1 [.int a.k,.int a.n] [.int b.k,.int b.n]=decide (a=b):=by
 obtain ⟨a1,a2⟩:=a
 obtain ⟨b1,b2⟩:=b
 by_cases h1:a1=b1<;>by_cases h2:a2=b2<;>simp [aI1,eq1,h1,h2]
theorem cY2 (a b:Ins):aI1 [.int a.op,.int a.a,.int a.b,.int a.c,.str a.name] [.int b.op,.int b.a,.int b.b,.int b.c,.str b.name]=decide (a=b):=by
 obtain ⟨a1,a2,a3,a4,a5⟩:=a
 obtain ⟨b1,b2,b3,b4,b5⟩:=b
 by_cases h1:a1=b1<;>by_cases h2:a2=b2<;>by_cases h3:a3=b3<;>by_cases h4:a4=b4<;>by_cases h5:a5=b5<;>simp [aI1,eq1,h1,h2,h3,h4,h5]
end Go.Proofs.YtibjcppjfkamhaaGreatDoor
