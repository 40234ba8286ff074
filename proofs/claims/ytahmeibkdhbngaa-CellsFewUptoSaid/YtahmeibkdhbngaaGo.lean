/- This program's types in the walk over readings. -/
import Derived.Test.YtahmeibkdhbngaaDat
import Derived.Test.YtahmeibkdhbngaaAk
import Derived.Test.YtahmeibkdhbngaaTab
namespace Go.Proofs.Ytahmeibkdhbngaa
open Go.RowKit
def aD8 : O5 :=
 (23,[.int .i64,.str,.int .i64]) ::
 (91,[.int .i64,.int .i64]) ::
 (39,[.int .i64,.int .i64]) ::
 (94,[.int .i64,.int .i64]) ::
 (48,[.int .i64,.int .i64,.int .i64,.int .i64]) ::
 (100,[.int .i64,.int .i64,.int .i64,.int .i64,.str]) ::
 []
theorem aZ1 : N8 Try.prog aD8:=N8.of (by kernel_rfl)
theorem mixed : Try.prog.follows .mixedOrders=true:=by kernel_rfl
theorem go {Γ:H7} {n:Nat} (hn:Γ.n=n) {c:Code} {ts:Ts} {os:Os} {Q:Qt} (h:vcC Try.prog tab aD8 Γ n c ts os Q):j3 Try.prog Γ c ts os Q:=by
 subst hn
 exact aY0 J2 aZ1 c ts os Q h
theorem j5 {Γ:H7} {n:Nat} (hn:Γ.n=n) {x y:Code} {ts:Ts} {os:Os} {Q:Qt} (h:vcC Try.prog tab aD8 Γ n (.seq x y) ts os Q):j3 Try.prog Γ (.seq x y) ts os Q:=go hn h
theorem G5 {Γ:H7} {n:Nat} (hn:Γ.n=n) {id:Nat} {l:Array Oper} {ts:Ts} {os:Os} {Q:Qt} (h:vcC Try.prog tab aD8 Γ n (.region id l false) ts os Q):j3 Try.prog Γ (.region id l false) ts os Q:=go hn h
theorem K6 {Γ:H7} {n:Nat} (hn:Γ.n=n) {id:Nat} {x:Code} {ts:Ts} {os:Os} {Q:Qt} (h:vcC Try.prog tab aD8 Γ n (.block id x) ts os Q):j3 Try.prog Γ (.block id x) ts os Q:=go hn h
theorem C8 {Γ:H7} {n:Nat} (hn:Γ.n=n) {c:Operand} {x y:Code} {ts:Ts} {os:Os} {Q:Qt} (h:vcC Try.prog tab aD8 Γ n (.cond c x y) ts os Q):j3 Try.prog Γ (.cond c x y) ts os Q:=go hn h
theorem I6 {Γ:H7} {n:Nat} (hn:Γ.n=n) {id:Nat} {ts:Ts} {os:Os} {Q:Qt} (h:vcC Try.prog tab aD8 Γ n (.exit id) ts os Q):j3 Try.prog Γ (.exit id) ts os Q:=go hn h
theorem D7 {Γ:H7} {n:Nat} (hn:Γ.n=n) {ts:Ts} {os:Os} {Q:Qt} (h:vcC Try.prog tab aD8 Γ n .skip ts os Q):j3 Try.prog Γ .skip ts os Q:=go hn h
theorem got {Γ:H7} {n:Nat} (hn:Γ.n=n) {ts:Ts} {os:Os} {Q:Qt} (h:vcC Try.prog tab aD8 Γ n .ret ts os Q):j3 Try.prog Γ .ret ts os Q:=go hn h
theorem god {Γ:H7} {n:Nat} (hn:Γ.n=n) {id:Nat} {l:Array Oper} (hd:Q9 l.toList=true) {ts:Ts} {os:Os} {Q:Qt} (h:aB8 ts fun ts=>vcD Try.prog tab aD8 n l.toList 0 l.toList ts os [] (Q .normal)):j3 Try.prog Γ (.region id l true) ts os Q :=
 j3.draw J2 aZ1 hn mixed hd h
theorem goo {Γ:H7} {n:Nat} (hn:Γ.n=n) (k:Nat) {ops l:List Oper} {ts:Ts} {os:Os} {Q:Qt} (h:aB8 ts fun ts=>aA9 Try.prog tab aD8 n ops (l.take k) ts os fun ts os=>OOk Try.prog Γ ops (l.drop k) ts os Q):OOk Try.prog Γ ops l ts os Q :=
 OOk.chunk J2 aZ1 hn k h
theorem a04 {k n:Nat} (h:k < n) (hn:n≤maxLen):P8 ((k:Int)+1):=by simp only [maxLen] at hn; exact ⟨by omega,by omega⟩
abbrev Fit (n B:Nat):Prop:=n*B≤140737488355328
abbrev wr (n:Int):Int:=IntKind.i64.wrap n
theorem bJ2 (a:AV):leB a a:=by
 cases a<;>simp only [leB]<;>first|exact aF7 _|exact aP3 _
theorem aV7 : ∀l:List AV,bD4 l l
 |[]=>trivial
 |a::l=>⟨bJ2 a,aV7 l⟩
theorem bH0 (a:AV):leA a a:=by
 cases a<;>simp only [leA]<;>first|exact aF7 _|exact aV7 _|exact aP3 _
theorem Y7 : ∀{l l':List AV},l=l'→Y5 l l'
 |[],_,rfl=>trivial
 |a::l,_,rfl=>⟨bH0 a,Y7 rfl⟩
theorem bO1 (a b:St):aK5 [.int a.cls,.str a.name,.int a.pos] [.int b.cls,.str b.name,.int b.pos]=decide (a=b):=by
 obtain ⟨a1,a2,a3⟩:=a
 obtain ⟨b1,b2,b3⟩:=b
 by_cases h1:a1=b1<;>by_cases h2:a2=b2<;>by_cases h3:a3=b3<;>simp [aK5,eq1,h1,h2,h3]
end Go.Proofs.Ytahmeibkdhbngaa
