/- This program's types in the walk over readings. -/
import Derived.Test.YtahmeibkdhbngaaDat
import Derived.Test.YtahmeibkdhbngaaAk
import Derived.Test.YtahmeibkdhbngaaTab
namespace Go.Proofs.Ytahmeibkdhbngaa
open Go.RowKit
def aJ6 : U1 :=
 (23,[.int .i64,.str,.int .i64]) ::
 (91,[.int .i64,.int .i64]) ::
 (39,[.int .i64,.int .i64]) ::
 (94,[.int .i64,.int .i64]) ::
 (48,[.int .i64,.int .i64,.int .i64,.int .i64]) ::
 (100,[.int .i64,.int .i64,.int .i64,.int .i64,.str]) ::
 []
theorem bH5 : T9 Try.prog aJ6:=T9.of (by kernel_rfl)
theorem mixed : Try.prog.follows .mixedOrders=true:=by kernel_rfl
theorem go {Γ:L6} {n:Nat} (hn:Γ.n=n) {c:Code} {ts:Ts} {os:Os} {Q:Qt} (h:vcC Try.prog tab aJ6 Γ n c ts os Q):j4 Try.prog Γ c ts os Q:=by
 subst hn
 exact bH1 F4 bH5 c ts os Q h
theorem j5 {Γ:L6} {n:Nat} (hn:Γ.n=n) {x y:Code} {ts:Ts} {os:Os} {Q:Qt} (h:vcC Try.prog tab aJ6 Γ n (.seq x y) ts os Q):j4 Try.prog Γ (.seq x y) ts os Q:=go hn h
theorem u6 {Γ:L6} {n:Nat} (hn:Γ.n=n) {id:Nat} {l:Array Oper} {ts:Ts} {os:Os} {Q:Qt} (h:vcC Try.prog tab aJ6 Γ n (.region id l false) ts os Q):j4 Try.prog Γ (.region id l false) ts os Q:=go hn h
theorem Z5 {Γ:L6} {n:Nat} (hn:Γ.n=n) {id:Nat} {x:Code} {ts:Ts} {os:Os} {Q:Qt} (h:vcC Try.prog tab aJ6 Γ n (.block id x) ts os Q):j4 Try.prog Γ (.block id x) ts os Q:=go hn h
theorem l9 {Γ:L6} {n:Nat} (hn:Γ.n=n) {c:Operand} {x y:Code} {ts:Ts} {os:Os} {Q:Qt} (h:vcC Try.prog tab aJ6 Γ n (.cond c x y) ts os Q):j4 Try.prog Γ (.cond c x y) ts os Q:=go hn h
theorem H7 {Γ:L6} {n:Nat} (hn:Γ.n=n) {id:Nat} {ts:Ts} {os:Os} {Q:Qt} (h:vcC Try.prog tab aJ6 Γ n (.exit id) ts os Q):j4 Try.prog Γ (.exit id) ts os Q:=go hn h
theorem q9 {Γ:L6} {n:Nat} (hn:Γ.n=n) {ts:Ts} {os:Os} {Q:Qt} (h:vcC Try.prog tab aJ6 Γ n .skip ts os Q):j4 Try.prog Γ .skip ts os Q:=go hn h
theorem got {Γ:L6} {n:Nat} (hn:Γ.n=n) {ts:Ts} {os:Os} {Q:Qt} (h:vcC Try.prog tab aJ6 Γ n .ret ts os Q):j4 Try.prog Γ .ret ts os Q:=go hn h
theorem god {Γ:L6} {n:Nat} (hn:Γ.n=n) {id:Nat} {l:Array Oper} (hd:Y7 l.toList=true) {ts:Ts} {os:Os} {Q:Qt} (h:aH5 ts fun ts=>vcD Try.prog tab aJ6 n l.toList 0 l.toList ts os [] (Q .normal)):j4 Try.prog Γ (.region id l true) ts os Q :=
 j4.draw F4 bH5 hn mixed hd h
theorem goo {Γ:L6} {n:Nat} (hn:Γ.n=n) (k:Nat) {ops l:List Oper} {ts:Ts} {os:Os} {Q:Qt} (h:aH5 ts fun ts=>aG4 Try.prog tab aJ6 n ops (l.take k) ts os fun ts os=>OOk Try.prog Γ ops (l.drop k) ts os Q):OOk Try.prog Γ ops l ts os Q :=
 OOk.chunk F4 bH5 hn k h
theorem bS6 {k n:Nat} (h:k < n) (hn:n≤maxLen):J5 ((k:Int)+1):=by simp only [maxLen] at hn; exact ⟨by omega,by omega⟩
abbrev wr (n:Int):Int:=IntKind.i64.wrap n
theorem aC2 {n:Int} (h:J5 n):wr n=n:=IntWalk.i64_in n h
end Go.Proofs.Ytahmeibkdhbngaa
