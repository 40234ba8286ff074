/- A region that draws its order, whose operations read and whose callees make memory at most: one walk in the text's order serves every order. No program in sight. -/
import Derived.Test.YtioalgofaiideaaStruct
import Derived.BigQuiet
import Derived.Deep.QuietTactic
namespace Go.Proofs.Ytioalgofaiideaa
open Go.RowKit

/-- a later world: all that stood in W stands -/
structure Later (W : World) where
  val : World
  ok : Below W.heap.size W val
instance later_nonempty (W : World) : Nonempty (Later W) := ⟨⟨W, Below.refl _ _⟩⟩
theorem Later.cell {W : World} {b o : Nat} {v : Value} (h : W.cell? ⟨b, o, none⟩ = some v) (hb : b < W.heap.size) : ∀ x : Later W, x.val.cell? ⟨b, o, none⟩ = some v := fun x => (x.ok.cell (p := ⟨b, o, none⟩) hb).trans h

theorem wp_region_later {P : Program} {id : Nat} {Q : Exit → Act → World → Prop} {a : Act} {w : World} {l : List Oper} (hm : P.follows .mixedOrders = true) (hB : Region.lexB .any l.toArray = true)
    (h : wpQuiet P l.toArray (fun w' => ∃ x : Later w, w' = x.val) (fun a' => ∀ x : Later w, Q .normal a' x.val) l a) : (Code.region id l.toArray true).wp P Q a w :=
  wp_region_quiet (C := fun w' => ∃ x : Later w, w' = x.val) hm hB ⟨⟨_, (Below.refl _ w).drew⟩, rfl⟩ (by
    have e : (fun a' => ∀ w', (∃ x : Later w, w' = x.val) → Q .normal a' w') = (fun a' => ∀ x : Later w, Q .normal a' x.val) := by
      funext a'
      simp
    rw [e]
    simpa using h)

theorem Calls.later {P : Program} {f : FuncId} {args : Array Value} {W : World} {x : Later W} {v : Value} (h : Calls P f args x.val (Ret v x.val)) :
    Calls P f args x.val fun e w' => e = .returned v ∧ ∃ y : Later W, w' = y.val :=
  h.mono fun _ w' ⟨he, hb⟩ => ⟨he, ⟨w', x.ok.trans (hb.mono x.ok.size)⟩, rfl⟩
end Go.Proofs.Ytioalgofaiideaa
