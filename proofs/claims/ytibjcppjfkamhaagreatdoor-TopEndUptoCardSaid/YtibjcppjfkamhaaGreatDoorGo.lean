/- This program's types in the walk over readings. -/
import Derived.Test.YtibjcppjfkamhaaGreatDoorDat
import Derived.Test.YtibjcppjfkamhaaGreatDoorAk
import Derived.Test.YtibjcppjfkamhaaGreatDoorTab
namespace Go.Proofs.YtibjcppjfkamhaaGreatDoor
open Go.RowKit
def aZ7 : aE2 :=
 (156,[.int .i64,.str,.int .i64]) ::
 (167,[.int .i64,.int .i64]) ::
 (29,[.int .i64,.int .i64]) ::
 (88,[.int .i64,.int .i64]) ::
 (151,[.int .i64,.int .i64,.int .i64,.int .i64]) ::
 (51,[.int .i64,.int .i64,.int .i64,.int .i64]) ::
 (55,[.int .i64,.int .i64,.int .i64,.int .i64,.str]) ::
 []
theorem bW7 : aD0 Tryz.prog aZ7:=aD0.of (by kernel_rfl)
theorem mixed : Tryz.prog.follows .mixedOrders=true:=by kernel_rfl
theorem go {Γ:Y7} {n:Nat} (hn:Γ.n=n) {c:Code} {ts:Ts} {os:Os} {Q:Qt} (h:vcC Tryz.prog tab aZ7 Γ n c ts os Q):j5 Tryz.prog Γ c ts os Q:=by
 subst hn
 exact b69 u7 bW7 c ts os Q h
theorem j6 {Γ:Y7} {n:Nat} (hn:Γ.n=n) {x y:Code} {ts:Ts} {os:Os} {Q:Qt} (h:vcC Tryz.prog tab aZ7 Γ n (.seq x y) ts os Q):j5 Tryz.prog Γ (.seq x y) ts os Q:=go hn h
theorem q8 {Γ:Y7} {n:Nat} (hn:Γ.n=n) {id:Nat} {l:Array Oper} {ts:Ts} {os:Os} {Q:Qt} (h:vcC Tryz.prog tab aZ7 Γ n (.region id l false) ts os Q):j5 Tryz.prog Γ (.region id l false) ts os Q:=go hn h
theorem M7 {Γ:Y7} {n:Nat} (hn:Γ.n=n) {id:Nat} {x:Code} {ts:Ts} {os:Os} {Q:Qt} (h:vcC Tryz.prog tab aZ7 Γ n (.block id x) ts os Q):j5 Tryz.prog Γ (.block id x) ts os Q:=go hn h
theorem l8 {Γ:Y7} {n:Nat} (hn:Γ.n=n) {c:Operand} {x y:Code} {ts:Ts} {os:Os} {Q:Qt} (h:vcC Tryz.prog tab aZ7 Γ n (.cond c x y) ts os Q):j5 Tryz.prog Γ (.cond c x y) ts os Q:=go hn h
theorem D9 {Γ:Y7} {n:Nat} (hn:Γ.n=n) {id:Nat} {ts:Ts} {os:Os} {Q:Qt} (h:vcC Tryz.prog tab aZ7 Γ n (.exit id) ts os Q):j5 Tryz.prog Γ (.exit id) ts os Q:=go hn h
theorem q9 {Γ:Y7} {n:Nat} (hn:Γ.n=n) {ts:Ts} {os:Os} {Q:Qt} (h:vcC Tryz.prog tab aZ7 Γ n .skip ts os Q):j5 Tryz.prog Γ .skip ts os Q:=go hn h
theorem got {Γ:Y7} {n:Nat} (hn:Γ.n=n) {ts:Ts} {os:Os} {Q:Qt} (h:vcC Tryz.prog tab aZ7 Γ n .ret ts os Q):j5 Tryz.prog Γ .ret ts os Q:=go hn h
theorem z8 {Γ:Y7} {n:Nat} (hn:Γ.n=n) {id:Nat} {l:Array Oper} (hd:aH5 l.toList=true) {ts:Ts} {os:Os} {Q:Qt} (h:aS7 ts fun ts=>vcD Tryz.prog tab aZ7 n l.toList 0 l.toList ts os [] (Q .normal)):j5 Tryz.prog Γ (.region id l true) ts os Q :=
 j5.draw u7 bW7 hn mixed hd h
theorem bL3 (ks ms:Nat) {Γ:Y7} {n:Nat} (hn:Γ.n=n) {id:Nat} {l:Array Oper} (hd:aH5 l.toList=true) {ts:Ts} {os:Os} {Q:Qt} (h:aS7 ts fun ts=>vcE Tryz.prog tab aZ7 n l.toList ks ms 0 l.toList ts os [] none (Q .normal)):j5 Tryz.prog Γ (.region id l true) ts os Q :=
 j5.draw2 u7 bW7 hn mixed hd ks ms h
theorem goo {Γ:Y7} {n:Nat} (hn:Γ.n=n) (k:Nat) {ops l:List Oper} {ts:Ts} {os:Os} {Q:Qt} (h:aS7 ts fun ts=>aY4 Tryz.prog tab aZ7 n ops (l.take k) ts os fun ts os=>OOk Tryz.prog Γ ops (l.drop k) ts os Q):OOk Tryz.prog Γ ops l ts os Q :=
 OOk.chunk u7 bW7 hn k h
theorem bU5 {k n:Nat} (h:k < n) (hn:n≤maxLen):InR ((k:Int)+1):=by simp only [maxLen] at hn; exact ⟨by omega,by omega⟩
abbrev Fit (n B:Nat):Prop:=n*B≤140737488355328
abbrev wr (n:Int):Int:=IntKind.i64.wrap n
theorem cK6 (a:AV):leB a a:=by
 cases a<;>simp only [leB]<;>first|exact aY6 _|exact bU0 _
theorem b40 : ∀l:List AV,cE7 l l
 |[]=>trivial
 |a::l=>⟨cK6 a,b40 l⟩
theorem cM7 (a:AV):leA a a:=by
 cases a<;>simp only [leA]<;>first|exact aY6 _|exact b40 _|exact bU0 _
theorem aD9 : ∀{l l':List AV},l=l'→aG9 l l'
 |[],_,rfl=>trivial
 |a::l,_,rfl=>⟨cM7 a,aD9 rfl⟩
theorem cT4 (a b:St):aU8 [.int a.cls,.str a.name,.int a.pos] [.int b.cls,.str b.name,.int b.pos]=decide (a=b):=by
 obtain ⟨a1,a2,a3⟩:=a
 obtain ⟨b1,b2,b3⟩:=b
 by_cases h1:a1=b1<;>by_cases h2:a2=b2<;>by_cases h3:a3=b3<;>simp [aU8,eq1,h1,h2,h3]
end Go.Proofs.YtibjcppjfkamhaaGreatDoor
