/- This program's types in the walk over readings. -/
import Derived.Test.YtahmeibkdhbngaaDat
import Derived.Test.YtahmeibkdhbngaaAk
import Derived.Test.YtahmeibkdhbngaaTab
namespace Go.Proofs.Ytahmeibkdhbngaa
open Go.RowKit
def a00 : aD2 :=
 (23,[.int .i64,.str,.int .i64]) ::
 (91,[.int .i64,.int .i64]) ::
 (39,[.int .i64,.int .i64]) ::
 (94,[.int .i64,.int .i64]) ::
 (48,[.int .i64,.int .i64,.int .i64,.int .i64]) ::
 (100,[.int .i64,.int .i64,.int .i64,.int .i64,.str]) ::
 []
theorem bX2 : aC4 Try.prog a00:=aC4.of (by kernel_rfl)
theorem mixed : Try.prog.follows .mixedOrders=true:=by kernel_rfl
theorem go {Γ:U9} {n:Nat} (hn:Γ.n=n) {c:Code} {ts:Ts} {os:Os} {Q:Qt} (h:vcC Try.prog tab a00 Γ n c ts os Q):j5 Try.prog Γ c ts os Q:=by
 subst hn
 exact cA4 z8 bX2 c ts os Q h
theorem j6 {Γ:U9} {n:Nat} (hn:Γ.n=n) {x y:Code} {ts:Ts} {os:Os} {Q:Qt} (h:vcC Try.prog tab a00 Γ n (.seq x y) ts os Q):j5 Try.prog Γ (.seq x y) ts os Q:=go hn h
theorem q8 {Γ:U9} {n:Nat} (hn:Γ.n=n) {id:Nat} {l:Array Oper} {ts:Ts} {os:Os} {Q:Qt} (h:vcC Try.prog tab a00 Γ n (.region id l false) ts os Q):j5 Try.prog Γ (.region id l false) ts os Q:=go hn h
theorem L8 {Γ:U9} {n:Nat} (hn:Γ.n=n) {id:Nat} {x:Code} {ts:Ts} {os:Os} {Q:Qt} (h:vcC Try.prog tab a00 Γ n (.block id x) ts os Q):j5 Try.prog Γ (.block id x) ts os Q:=go hn h
theorem p8 {Γ:U9} {n:Nat} (hn:Γ.n=n) {c:Operand} {x y:Code} {ts:Ts} {os:Os} {Q:Qt} (h:vcC Try.prog tab a00 Γ n (.cond c x y) ts os Q):j5 Try.prog Γ (.cond c x y) ts os Q:=go hn h
theorem F6 {Γ:U9} {n:Nat} (hn:Γ.n=n) {id:Nat} {ts:Ts} {os:Os} {Q:Qt} (h:vcC Try.prog tab a00 Γ n (.exit id) ts os Q):j5 Try.prog Γ (.exit id) ts os Q:=go hn h
theorem p9 {Γ:U9} {n:Nat} (hn:Γ.n=n) {ts:Ts} {os:Os} {Q:Qt} (h:vcC Try.prog tab a00 Γ n .skip ts os Q):j5 Try.prog Γ .skip ts os Q:=go hn h
theorem got {Γ:U9} {n:Nat} (hn:Γ.n=n) {ts:Ts} {os:Os} {Q:Qt} (h:vcC Try.prog tab a00 Γ n .ret ts os Q):j5 Try.prog Γ .ret ts os Q:=go hn h
theorem P5 {Γ:U9} {n:Nat} (hn:Γ.n=n) {id:Nat} {l:Array Oper} (hd:aH1 l.toList=true) {ts:Ts} {os:Os} {Q:Qt} (h:aQ2 ts fun ts=>vcD Try.prog tab a00 n l.toList 0 l.toList ts os [] (Q .normal)):j5 Try.prog Γ (.region id l true) ts os Q :=
 j5.draw z8 bX2 hn mixed hd h
theorem cU9 (ks ms:Nat) {Γ:U9} {n:Nat} (hn:Γ.n=n) {id:Nat} {l:Array Oper} (hd:aH1 l.toList=true) {ts:Ts} {os:Os} {Q:Qt} (h:aQ2 ts fun ts=>vcE Try.prog tab a00 n l.toList ks ms 0 l.toList ts os [] none (Q .normal)):j5 Try.prog Γ (.region id l true) ts os Q :=
 j5.draw2 z8 bX2 hn mixed hd ks ms h
theorem goo {Γ:U9} {n:Nat} (hn:Γ.n=n) (k:Nat) {ops l:List Oper} {ts:Ts} {os:Os} {Q:Qt} (h:aQ2 ts fun ts=>aX4 Try.prog tab a00 n ops (l.take k) ts os fun ts os=>OOk Try.prog Γ ops (l.drop k) ts os Q):OOk Try.prog Γ ops l ts os Q :=
 OOk.chunk z8 bX2 hn k h
theorem bT9 {k n:Nat} (h:k < n) (hn:n≤maxLen):F9 ((k:Int)+1):=by simp only [maxLen] at hn; exact ⟨by omega,by omega⟩
abbrev Fit (n B:Nat):Prop:=n*B≤140737488355328
abbrev wr (n:Int):Int:=IntKind.i64.wrap n
theorem I4 {n:Int} (h:F9 n):wr n=n:=IntWalk.i64_in n h
theorem cY0 (a:AV):leB a a:=by
 cases a<;>simp only [leB]<;>first|exact aY2 _|exact bS8 _
theorem b52 : ∀l:List AV,cL5 l l
 |[]=>trivial
 |a::l=>⟨cY0 a,b52 l⟩
theorem cT9 (a:AV):leA a a:=by
 cases a<;>simp only [leA]<;>first|exact aY2 _|exact b52 _|exact bS8 _
theorem aD5 : ∀{l l':List AV},l=l'→aG1 l l'
 |[],_,rfl=>trivial
 |a::l,_,rfl=>⟨cT9 a,aD5 rfl⟩
theorem cS3 (a b:St):aF1 [.int a.cls,.str a.name,.int a.pos] [.int b.cls,.str b.name,.int b.pos]=decide (a=b):=by
 obtain ⟨a1,a2,a3⟩:=a
 obtain ⟨b1,b2,b3⟩:=b
 by_cases h1:a1=b1<;>by_cases h2:a2=b2<;>by_cases h3:a3=b3<;>simp [aF1,eq1,h1,h2,h3]
theorem dB8 (a b:Ln):aF1 [.int a.cls,.int a.found] [.int b.cls,.int b.found]=decide (a=b):=by
 obtain ⟨a1,a2⟩:=a
 obtain ⟨b1,b2⟩:=b
 by_cases h1:a1=b1<;>by_cases h2:a2=b2<;>simp [aF1,eq1,h1,h2]
theorem eqV (a b:V):aF1 [.int a.k,.int a.n] [.int b.k,.int b.n]=decide (a=b):=by
 obtain ⟨a1,a2⟩:=a
 obtain ⟨b1,b2⟩:=b
 by_cases h1:a1=b1<;>by_cases h2:a2=b2<;>simp [aF1,eq1,h1,h2]
theorem dA6 (a b:Ins):aF1 [.int a.op,.int a.a,.int a.b,.int a.c,.str a.name] [.int b.op,.int b.a,.int b.b,.int b.c,.str b.name]=decide (a=b):=by
 obtain ⟨a1,a2,a3,a4,a5⟩:=a
 obtain ⟨b1,b2,b3,b4,b5⟩:=b
 by_cases h1:a1=b1<;>by_cases h2:a2=b2<;>by_cases h3:a3=b3<;>by_cases h4:a4=b4<;>by_cases h5:a5=b5<;>simp [aF1,eq1,h1,h2,h3,h4,h5]
end Go.Proofs.Ytahmeibkdhbngaa
