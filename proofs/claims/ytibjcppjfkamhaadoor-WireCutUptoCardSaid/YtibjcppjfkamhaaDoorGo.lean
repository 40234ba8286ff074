/- This program's types in the walk over readings. -/
import Derived.Test.YtibjcppjfkamhaaDoorDat
import Derived.Test.YtibjcppjfkamhaaDoorAk
import Derived.Test.YtibjcppjfkamhaaDoorTab
namespace Go.Proofs.YtibjcppjfkamhaaDoor
open Go.RowKit
def aR7 : aA2 :=
 (70,[.int .i64,.int .i64]) ::
 (51,[.int .i64,.int .i64]) ::
 (77,[.int .i64,.int .i64,.int .i64,.int .i64,.str]) ::
 []
theorem b40 : aB5 Tryd.prog aR7:=aB5.of (by kernel_rfl)
theorem mixed : Tryd.prog.follows .mixedOrders=true:=by kernel_rfl
theorem go {Γ:O9} {n:Nat} (hn:Γ.n=n) {c:Code} {ts:Ts} {os:Os} {Q:Qt} (h:vcC Tryd.prog tab aR7 Γ n c ts os Q):j4 Tryd.prog Γ c ts os Q:=by
 subst hn
 exact bP0 G9 b40 c ts os Q h
theorem j6 {Γ:O9} {n:Nat} (hn:Γ.n=n) {x y:Code} {ts:Ts} {os:Os} {Q:Qt} (h:vcC Tryd.prog tab aR7 Γ n (.seq x y) ts os Q):j4 Tryd.prog Γ (.seq x y) ts os Q:=go hn h
theorem y7 {Γ:O9} {n:Nat} (hn:Γ.n=n) {id:Nat} {l:Array Oper} {ts:Ts} {os:Os} {Q:Qt} (h:vcC Tryd.prog tab aR7 Γ n (.region id l false) ts os Q):j4 Tryd.prog Γ (.region id l false) ts os Q:=go hn h
theorem gob {Γ:O9} {n:Nat} (hn:Γ.n=n) {id:Nat} {x:Code} {ts:Ts} {os:Os} {Q:Qt} (h:vcC Tryd.prog tab aR7 Γ n (.block id x) ts os Q):j4 Tryd.prog Γ (.block id x) ts os Q:=go hn h
theorem q8 {Γ:O9} {n:Nat} (hn:Γ.n=n) {c:Operand} {x y:Code} {ts:Ts} {os:Os} {Q:Qt} (h:vcC Tryd.prog tab aR7 Γ n (.cond c x y) ts os Q):j4 Tryd.prog Γ (.cond c x y) ts os Q:=go hn h
theorem K9 {Γ:O9} {n:Nat} (hn:Γ.n=n) {id:Nat} {ts:Ts} {os:Os} {Q:Qt} (h:vcC Tryd.prog tab aR7 Γ n (.exit id) ts os Q):j4 Tryd.prog Γ (.exit id) ts os Q:=go hn h
theorem y5 {Γ:O9} {n:Nat} (hn:Γ.n=n) {ts:Ts} {os:Os} {Q:Qt} (h:vcC Tryd.prog tab aR7 Γ n .skip ts os Q):j4 Tryd.prog Γ .skip ts os Q:=go hn h
theorem got {Γ:O9} {n:Nat} (hn:Γ.n=n) {ts:Ts} {os:Os} {Q:Qt} (h:vcC Tryd.prog tab aR7 Γ n .ret ts os Q):j4 Tryd.prog Γ .ret ts os Q:=go hn h
theorem god {Γ:O9} {n:Nat} (hn:Γ.n=n) {id:Nat} {l:Array Oper} (hd:aC5 l.toList=true) {ts:Ts} {os:Os} {Q:Qt} (h:aT4 ts fun ts=>vcD Tryd.prog tab aR7 n l.toList 0 l.toList ts os [] (Q .normal)):j4 Tryd.prog Γ (.region id l true) ts os Q :=
 j4.draw G9 b40 hn mixed hd h
theorem cA2 {k n:Nat} (h:k < n) (hn:n≤maxLen):z8 ((k:Int)+1):=by simp only [maxLen] at hn; exact ⟨by omega,by omega⟩
abbrev wr (n:Int):Int:=IntKind.i64.wrap n
theorem Q9 {n:Int} (h:z8 n):wr n=n:=IntWalk.i64_in n h
end Go.Proofs.YtibjcppjfkamhaaDoor
