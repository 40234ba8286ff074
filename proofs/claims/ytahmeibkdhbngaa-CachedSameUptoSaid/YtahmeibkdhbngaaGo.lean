/- This program's types in the walk over readings. -/
import Derived.Test.YtahmeibkdhbngaaDat
import Derived.Test.YtahmeibkdhbngaaAk
import Derived.Test.YtahmeibkdhbngaaTab
namespace Go.Proofs.Ytahmeibkdhbngaa
open Go.RowKit
def bA7 : aG2 :=
 (23,[.int .i64,.str,.int .i64]) ::
 (91,[.int .i64,.int .i64]) ::
 (39,[.int .i64,.int .i64]) ::
 (94,[.int .i64,.int .i64]) ::
 (48,[.int .i64,.int .i64,.int .i64,.int .i64]) ::
 (100,[.int .i64,.int .i64,.int .i64,.int .i64,.str]) ::
 []
theorem b38 : aE9 Try.prog bA7:=aE9.of (by kernel_rfl)
theorem mixed : Try.prog.follows .mixedOrders=true:=by kernel_rfl
theorem go {Γ:Y9} {n:Nat} (hn:Γ.n=n) {c:Code} {ts:Ts} {os:Os} {Q:Qt} (h:vcC Try.prog tab bA7 Γ n c ts os Q):j5 Try.prog Γ c ts os Q:=by
 subst hn
 exact cI1 C9 b38 c ts os Q h
theorem j6 {Γ:Y9} {n:Nat} (hn:Γ.n=n) {x y:Code} {ts:Ts} {os:Os} {Q:Qt} (h:vcC Try.prog tab bA7 Γ n (.seq x y) ts os Q):j5 Try.prog Γ (.seq x y) ts os Q:=go hn h
theorem q8 {Γ:Y9} {n:Nat} (hn:Γ.n=n) {id:Nat} {l:Array Oper} {ts:Ts} {os:Os} {Q:Qt} (h:vcC Try.prog tab bA7 Γ n (.region id l false) ts os Q):j5 Try.prog Γ (.region id l false) ts os Q:=go hn h
theorem O3 {Γ:Y9} {n:Nat} (hn:Γ.n=n) {id:Nat} {x:Code} {ts:Ts} {os:Os} {Q:Qt} (h:vcC Try.prog tab bA7 Γ n (.block id x) ts os Q):j5 Try.prog Γ (.block id x) ts os Q:=go hn h
theorem l8 {Γ:Y9} {n:Nat} (hn:Γ.n=n) {c:Operand} {x y:Code} {ts:Ts} {os:Os} {Q:Qt} (h:vcC Try.prog tab bA7 Γ n (.cond c x y) ts os Q):j5 Try.prog Γ (.cond c x y) ts os Q:=go hn h
theorem F7 {Γ:Y9} {n:Nat} (hn:Γ.n=n) {id:Nat} {ts:Ts} {os:Os} {Q:Qt} (h:vcC Try.prog tab bA7 Γ n (.exit id) ts os Q):j5 Try.prog Γ (.exit id) ts os Q:=go hn h
theorem p9 {Γ:Y9} {n:Nat} (hn:Γ.n=n) {ts:Ts} {os:Os} {Q:Qt} (h:vcC Try.prog tab bA7 Γ n .skip ts os Q):j5 Try.prog Γ .skip ts os Q:=go hn h
theorem got {Γ:Y9} {n:Nat} (hn:Γ.n=n) {ts:Ts} {os:Os} {Q:Qt} (h:vcC Try.prog tab bA7 Γ n .ret ts os Q):j5 Try.prog Γ .ret ts os Q:=go hn h
theorem J7 {Γ:Y9} {n:Nat} (hn:Γ.n=n) {id:Nat} {l:Array Oper} (hd:aJ5 l.toList=true) {ts:Ts} {os:Os} {Q:Qt} (h:aT5 ts fun ts=>vcD Try.prog tab bA7 n l.toList 0 l.toList ts os [] (Q .normal)):j5 Try.prog Γ (.region id l true) ts os Q :=
 j5.draw C9 b38 hn mixed hd h
theorem c07 (ks ms:Nat) {Γ:Y9} {n:Nat} (hn:Γ.n=n) {id:Nat} {l:Array Oper} (hd:aJ5 l.toList=true) {ts:Ts} {os:Os} {Q:Qt} (h:aT5 ts fun ts=>vcE Try.prog tab bA7 n l.toList ks ms 0 l.toList ts os [] none (Q .normal)):j5 Try.prog Γ (.region id l true) ts os Q :=
 j5.draw2 C9 b38 hn mixed hd ks ms h
theorem goo {Γ:Y9} {n:Nat} (hn:Γ.n=n) (k:Nat) {ops l:List Oper} {ts:Ts} {os:Os} {Q:Qt} (h:aT5 ts fun ts=>a07 Try.prog tab bA7 n ops (l.take k) ts os fun ts os=>OOk Try.prog Γ ops (l.drop k) ts os Q):OOk Try.prog Γ ops l ts os Q :=
 OOk.chunk C9 b38 hn k h
theorem bZ6 {k n:Nat} (h:k < n) (hn:n≤maxLen):F5 ((k:Int)+1):=by simp only [maxLen] at hn; exact ⟨by omega,by omega⟩
abbrev Fit (n B:Nat):Prop:=n*B≤140737488355328
abbrev wr (n:Int):Int:=IntKind.i64.wrap n
theorem H5 {n:Int} (h:F5 n):wr n=n:=IntWalk.i64_in n h
theorem c52 (a:AV):leB a a:=by
 cases a<;>simp only [leB]<;>first|exact a10 _|exact bZ5 _
theorem cD8 : ∀l:List AV,cS7 l l
 |[]=>trivial
 |a::l=>⟨c52 a,cD8 l⟩
theorem c69 (a:AV):leA a a:=by
 cases a<;>simp only [leA]<;>first|exact a10 _|exact cD8 _|exact bZ5 _
theorem aG1 : ∀{l l':List AV},l=l'→aI7 l l'
 |[],_,rfl=>trivial
 |a::l,_,rfl=>⟨c69 a,aG1 rfl⟩
theorem c62 (a b:St):aF5 [.int a.cls,.str a.name,.int a.pos] [.int b.cls,.str b.name,.int b.pos]=decide (a=b):=by
 obtain ⟨a1,a2,a3⟩:=a
 obtain ⟨b1,b2,b3⟩:=b
 by_cases h1:a1=b1<;>by_cases h2:a2=b2<;>by_cases h3:a3=b3<;>simp [aF5,eq1,h1,h2,h3]
theorem dI7 (a b:Ln):aF5 [.int a.cls,.int a.found] [.int b.cls,.int b.found]=decide (a=b):=by
 obtain ⟨a1,a2⟩:=a
 obtain ⟨b1,b2⟩:=b
 by_cases h1:a1=b1<;>by_cases h2:a2=b2<;>simp [aF5,eq1,h1,h2]
theorem eqV (a b:V):aF5 [.int a.k,.int a.n] [.int b.k,.int b.n]=decide (a=b):=by
 obtain ⟨a1,a2⟩:=a
 obtain ⟨b1,b2⟩:=b
 by_cases h1:a1=b1<;>by_cases h2:a2=b2<;>simp [aF5,eq1,h1,h2]
theorem dH2 (a b:Ins):aF5 [.int a.op,.int a.a,.int a.b,.int a.c,.str a.name] [.int b.op,.int b.a,.int b.b,.int b.c,.str b.name]=decide (a=b):=by
 obtain ⟨a1,a2,a3,a4,a5⟩:=a
 obtain ⟨b1,b2,b3,b4,b5⟩:=b
 by_cases h1:a1=b1<;>by_cases h2:a2=b2<;>by_cases h3:a3=b3<;>by_cases h4:a4=b4<;>by_cases h5:a5=b5<;>simp [aF5,eq1,h1,h2,h3,h4,h5]
end Go.Proofs.Ytahmeibkdhbngaa
