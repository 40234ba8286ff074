/- This program's types in the walk over readings. -/
import Derived.Test.YtibjcppjfkamhaaGreatDoorDat
import Derived.Test.YtibjcppjfkamhaaGreatDoorAk
import Derived.Test.YtibjcppjfkamhaaGreatDoorTab
namespace Go.Proofs.YtibjcppjfkamhaaGreatDoor
open Go.RowKit
def bB4 : aG9 :=
 (156,[.int .i64,.str,.int .i64]) ::
 (167,[.int .i64,.int .i64]) ::
 (29,[.int .i64,.int .i64]) ::
 (88,[.int .i64,.int .i64]) ::
 (151,[.int .i64,.int .i64,.int .i64,.int .i64]) ::
 (51,[.int .i64,.int .i64,.int .i64,.int .i64]) ::
 (55,[.int .i64,.int .i64,.int .i64,.int .i64,.str]) ::
 []
theorem b03 : aF3 Tryz.prog bB4:=aF3.of (by kernel_rfl)
theorem mixed : Tryz.prog.follows .mixedOrders=true:=by kernel_rfl
theorem go {Γ:Fun} {n:Nat} (hn:Γ.n=n) {c:Code} {ts:Ts} {os:Os} {Q:Qt} (h:vcC Tryz.prog tab bB4 Γ n c ts os Q):j5 Tryz.prog Γ c ts os Q:=by
 subst hn
 exact cG2 u7 b03 c ts os Q h
theorem j6 {Γ:Fun} {n:Nat} (hn:Γ.n=n) {x y:Code} {ts:Ts} {os:Os} {Q:Qt} (h:vcC Tryz.prog tab bB4 Γ n (.seq x y) ts os Q):j5 Tryz.prog Γ (.seq x y) ts os Q:=go hn h
theorem q8 {Γ:Fun} {n:Nat} (hn:Γ.n=n) {id:Nat} {l:Array Oper} {ts:Ts} {os:Os} {Q:Qt} (h:vcC Tryz.prog tab bB4 Γ n (.region id l false) ts os Q):j5 Tryz.prog Γ (.region id l false) ts os Q:=go hn h
theorem P7 {Γ:Fun} {n:Nat} (hn:Γ.n=n) {id:Nat} {x:Code} {ts:Ts} {os:Os} {Q:Qt} (h:vcC Tryz.prog tab bB4 Γ n (.block id x) ts os Q):j5 Tryz.prog Γ (.block id x) ts os Q:=go hn h
theorem l8 {Γ:Fun} {n:Nat} (hn:Γ.n=n) {c:Operand} {x y:Code} {ts:Ts} {os:Os} {Q:Qt} (h:vcC Tryz.prog tab bB4 Γ n (.cond c x y) ts os Q):j5 Tryz.prog Γ (.cond c x y) ts os Q:=go hn h
theorem F8 {Γ:Fun} {n:Nat} (hn:Γ.n=n) {id:Nat} {ts:Ts} {os:Os} {Q:Qt} (h:vcC Tryz.prog tab bB4 Γ n (.exit id) ts os Q):j5 Tryz.prog Γ (.exit id) ts os Q:=go hn h
theorem q9 {Γ:Fun} {n:Nat} (hn:Γ.n=n) {ts:Ts} {os:Os} {Q:Qt} (h:vcC Tryz.prog tab bB4 Γ n .skip ts os Q):j5 Tryz.prog Γ .skip ts os Q:=go hn h
theorem got {Γ:Fun} {n:Nat} (hn:Γ.n=n) {ts:Ts} {os:Os} {Q:Qt} (h:vcC Tryz.prog tab bB4 Γ n .ret ts os Q):j5 Tryz.prog Γ .ret ts os Q:=go hn h
theorem C9 {Γ:Fun} {n:Nat} (hn:Γ.n=n) {id:Nat} {l:Array Oper} (hd:aK0 l.toList=true) {ts:Ts} {os:Os} {Q:Qt} (h:aX2 ts fun ts=>vcD Tryz.prog tab bB4 n l.toList 0 l.toList ts os [] (Q .normal)):j5 Tryz.prog Γ (.region id l true) ts os Q :=
 j5.draw u7 b03 hn mixed hd h
theorem bM8 (ks ms:Nat) {Γ:Fun} {n:Nat} (hn:Γ.n=n) {id:Nat} {l:Array Oper} (hd:aK0 l.toList=true) {ts:Ts} {os:Os} {Q:Qt} (h:aX2 ts fun ts=>vcE Tryz.prog tab bB4 n l.toList ks ms 0 l.toList ts os [] none (Q .normal)):j5 Tryz.prog Γ (.region id l true) ts os Q :=
 j5.draw2 u7 b03 hn mixed hd ks ms h
theorem goo {Γ:Fun} {n:Nat} (hn:Γ.n=n) (k:Nat) {ops l:List Oper} {ts:Ts} {os:Os} {Q:Qt} (h:aX2 ts fun ts=>a97 Tryz.prog tab bB4 n ops (l.take k) ts os fun ts os=>OOk Tryz.prog Γ ops (l.drop k) ts os Q):OOk Tryz.prog Γ ops l ts os Q :=
 OOk.chunk u7 b03 hn k h
theorem bW6 {k n:Nat} (h:k < n) (hn:n≤maxLen):Z8 ((k:Int)+1):=by simp only [maxLen] at hn; exact ⟨by omega,by omega⟩
abbrev Fit (n B:Nat):Prop:=n*B≤140737488355328
abbrev wr (n:Int):Int:=IntKind.i64.wrap n
theorem aY0 {n:Int} (h:Z8 n):wr n=n:=IntWalk.i64_in n h
theorem cT7 (a:AV):leB a a:=by
 cases a<;>simp only [leB]<;>first|exact bA9 _|exact bY5 _
theorem b74 : ∀l:List AV,cL7 l l
 |[]=>trivial
 |a::l=>⟨cT7 a,b74 l⟩
theorem cQ9 (a:AV):leA a a:=by
 cases a<;>simp only [leA]<;>first|exact bA9 _|exact b74 _|exact bY5 _
theorem aG1 : ∀{l l':List AV},l=l'→aJ4 l l'
 |[],_,rfl=>trivial
 |a::l,_,rfl=>⟨cQ9 a,aG1 rfl⟩
theorem cZ5 (a b:St):aC6 [.int a.cls,.str a.name,.int a.pos] [.int b.cls,.str b.name,.int b.pos]=decide (a=b):=by
 obtain ⟨a1,a2,a3⟩:=a
 obtain ⟨b1,b2,b3⟩:=b
 by_cases h1:a1=b1<;>by_cases h2:a2=b2<;>by_cases h3:a3=b3<;>simp [aC6,eq1,h1,h2,h3]
theorem eqV (a b:V):aC6 [.int a.k,.int a.n] [.int b.k,.int b.n]=decide (a=b):=by
 obtain ⟨a1,a2⟩:=a
 obtain ⟨b1,b2⟩:=b
 by_cases h1:a1=b1<;>by_cases h2:a2=b2<;>simp [aC6,eq1,h1,h2]
end Go.Proofs.YtibjcppjfkamhaaGreatDoor
