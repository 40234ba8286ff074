/-
  No cell of these rows narrows 'for every input' (looked for: loops, veiled, ifaces, maps, wideKeys, modest, calm, conditions, laid).
  DERIVED. THE GIVEN ROWS OF THIS SEAT. 10 by the template 'for every input the law returns true; each argument reads behind the call as it read before'; 0 by the template 'total and deterministic' (their statements: YtoceeiamcfdnlaaTotals.lean).
  GIVEN WITH THE SEED: the statements are not yours to turn. If you find one false, say at which input.
  Laid BY PROGRAM, IN A SANDBOX (cutbox-rows.mjs): the forced cells as the released guide's own fill.sh prints them over the translation 3096a619c349fd7f… (all of the seat's roots in one cut). By AI agents, Wed Nov 11 2026. No macro, syntax, notation, axiom, sorry.
-/
import Derived.Test.YtoceeiamcfdnlaaChecked
import GoSem.Claim
import GoSem.ClaimJoined
import GoSem.ClaimMapViews
import Derived.JoinedTies
import Derived.KernelRfl
namespace Go.Proofs.Ytoceeiamcfdnlaa
/- THE CELL 'sum', in the pinned program and in every row, IS THE sha256 OF THE DUMP (.gsa) THAT YtoceeiamcfdnlaaProg.lean LOADS. Nothing in Lean hashes anything: it is a label: what it is worth is what the hold of that sum in a sandbox is worth. -/
noncomputable def Try.pinned : Pinned := { name := "ytoceeiamcfdnlaa", sum := "3096a619c349fd7f7ed8489aa811c67f98261d8d8b098ebe85904b8d3da58925", checked := Try.checked }
namespace Rows
def none {H : Type} : Left H := { results := [], args := [] }

/-- 'qclaw6.CellsTells': WHATEVER THE INPUT: true; the input reads as it did. -/
def cellsTellsSpec : ChangeSpec := { name := "cellsTells", fn := fun _ => fun
  | [d1, d2, d3, d4, d5, d6, d7] => { results := [.lit (.bool true)], args := [d1, d2, d3, d4, d5, d6, d7] }
  | _ => none }
def cellsTellsRow : OpenClaim := { program := "ytoceeiamcfdnlaa", sum := "3096a619c349fd7f7ed8489aa811c67f98261d8d8b098ebe85904b8d3da58925", func := "quickchange/qclaw6.CellsTells", spec := "cellsTells", unfollowed := true, recurses := true, apart := false }
def CellsTellsSaid : Prop := cellsTellsRow.holds Try.pinned (OpenSpec.ofChange cellsTellsSpec)

/-- ITS FALSE NEIGHBOUR: 'it returns false'. Refute it at one input. -/
def cellsTellsWrong : ChangeSpec := { name := "cellsTells", fn := fun _ => fun
  | [d1, d2, d3, d4, d5, d6, d7] => { results := [.lit (.bool false)], args := [d1, d2, d3, d4, d5, d6, d7] }
  | _ => none }
def CellsTellsWrongFalsely : Prop := cellsTellsRow.holds Try.pinned (OpenSpec.ofChange cellsTellsWrong)

/-- 'qclaw6.CellsTrue': WHATEVER THE INPUT: true; the input reads as it did. -/
def cellsTrueSpec : ChangeSpec := { name := "cellsTrue", fn := fun _ => fun
  | [d1, d2, d3, d4] => { results := [.lit (.bool true)], args := [d1, d2, d3, d4] }
  | _ => none }
def cellsTrueRow : OpenClaim := { program := "ytoceeiamcfdnlaa", sum := "3096a619c349fd7f7ed8489aa811c67f98261d8d8b098ebe85904b8d3da58925", func := "quickchange/qclaw6.CellsTrue", spec := "cellsTrue", unfollowed := true, recurses := true, apart := false }
def CellsTrueSaid : Prop := cellsTrueRow.holds Try.pinned (OpenSpec.ofChange cellsTrueSpec)

/-- ITS FALSE NEIGHBOUR: 'it returns false'. Refute it at one input. -/
def cellsTrueWrong : ChangeSpec := { name := "cellsTrue", fn := fun _ => fun
  | [d1, d2, d3, d4] => { results := [.lit (.bool false)], args := [d1, d2, d3, d4] }
  | _ => none }
def CellsTrueWrongFalsely : Prop := cellsTrueRow.holds Try.pinned (OpenSpec.ofChange cellsTrueWrong)

/-- 'qclaw6.CellsOld': WHATEVER THE INPUT: true; the input reads as it did. -/
def cellsOldSpec : ChangeSpec := { name := "cellsOld", fn := fun _ => fun
  | [d1, d2, d3, d4] => { results := [.lit (.bool true)], args := [d1, d2, d3, d4] }
  | _ => none }
def cellsOldRow : OpenClaim := { program := "ytoceeiamcfdnlaa", sum := "3096a619c349fd7f7ed8489aa811c67f98261d8d8b098ebe85904b8d3da58925", func := "quickchange/qclaw6.CellsOld", spec := "cellsOld", unfollowed := true, recurses := true, apart := false }
def CellsOldSaid : Prop := cellsOldRow.holds Try.pinned (OpenSpec.ofChange cellsOldSpec)

/-- ITS FALSE NEIGHBOUR: 'it returns false'. Refute it at one input. -/
def cellsOldWrong : ChangeSpec := { name := "cellsOld", fn := fun _ => fun
  | [d1, d2, d3, d4] => { results := [.lit (.bool false)], args := [d1, d2, d3, d4] }
  | _ => none }
def CellsOldWrongFalsely : Prop := cellsOldRow.holds Try.pinned (OpenSpec.ofChange cellsOldWrong)

/-- 'qclaw6.CellsFew': WHATEVER THE INPUT: true; the input reads as it did. -/
def cellsFewSpec : ChangeSpec := { name := "cellsFew", fn := fun _ => fun
  | [d1, d2, d3] => { results := [.lit (.bool true)], args := [d1, d2, d3] }
  | _ => none }
def cellsFewRow : OpenClaim := { program := "ytoceeiamcfdnlaa", sum := "3096a619c349fd7f7ed8489aa811c67f98261d8d8b098ebe85904b8d3da58925", func := "quickchange/qclaw6.CellsFew", spec := "cellsFew", unfollowed := true, recurses := true, apart := false }
def CellsFewSaid : Prop := cellsFewRow.holds Try.pinned (OpenSpec.ofChange cellsFewSpec)

/-- ITS FALSE NEIGHBOUR: 'it returns false'. Refute it at one input. -/
def cellsFewWrong : ChangeSpec := { name := "cellsFew", fn := fun _ => fun
  | [d1, d2, d3] => { results := [.lit (.bool false)], args := [d1, d2, d3] }
  | _ => none }
def CellsFewWrongFalsely : Prop := cellsFewRow.holds Try.pinned (OpenSpec.ofChange cellsFewWrong)

/-- 'qclaw10.InlineTells': WHATEVER THE INPUT: true; the input reads as it did. -/
def inlineTellsSpec : ChangeSpec := { name := "inlineTells", fn := fun _ => fun
  | [d1, d2, d3, d4] => { results := [.lit (.bool true)], args := [d1, d2, d3, d4] }
  | _ => none }
def inlineTellsRow : OpenClaim := { program := "ytoceeiamcfdnlaa", sum := "3096a619c349fd7f7ed8489aa811c67f98261d8d8b098ebe85904b8d3da58925", func := "quickchange/qclaw10.InlineTells", spec := "inlineTells", unfollowed := true, recurses := true, apart := false }
def InlineTellsSaid : Prop := inlineTellsRow.holds Try.pinned (OpenSpec.ofChange inlineTellsSpec)

/-- ITS FALSE NEIGHBOUR: 'it returns false'. Refute it at one input. -/
def inlineTellsWrong : ChangeSpec := { name := "inlineTells", fn := fun _ => fun
  | [d1, d2, d3, d4] => { results := [.lit (.bool false)], args := [d1, d2, d3, d4] }
  | _ => none }
def InlineTellsWrongFalsely : Prop := inlineTellsRow.holds Try.pinned (OpenSpec.ofChange inlineTellsWrong)

/-- 'qclaw10.InlineRoom': WHATEVER THE INPUT: true; the input reads as it did. -/
def inlineRoomSpec : ChangeSpec := { name := "inlineRoom", fn := fun _ => fun
  | [d1, d2, d3, d4] => { results := [.lit (.bool true)], args := [d1, d2, d3, d4] }
  | _ => none }
def inlineRoomRow : OpenClaim := { program := "ytoceeiamcfdnlaa", sum := "3096a619c349fd7f7ed8489aa811c67f98261d8d8b098ebe85904b8d3da58925", func := "quickchange/qclaw10.InlineRoom", spec := "inlineRoom", unfollowed := true, recurses := true, apart := false }
def InlineRoomSaid : Prop := inlineRoomRow.holds Try.pinned (OpenSpec.ofChange inlineRoomSpec)

/-- ITS FALSE NEIGHBOUR: 'it returns false'. Refute it at one input. -/
def inlineRoomWrong : ChangeSpec := { name := "inlineRoom", fn := fun _ => fun
  | [d1, d2, d3, d4] => { results := [.lit (.bool false)], args := [d1, d2, d3, d4] }
  | _ => none }
def InlineRoomWrongFalsely : Prop := inlineRoomRow.holds Try.pinned (OpenSpec.ofChange inlineRoomWrong)

/-- 'qclaw11.FastTells': WHATEVER THE INPUT: true; the input reads as it did. -/
def fastTellsSpec : ChangeSpec := { name := "fastTells", fn := fun _ => fun
  | [d1, d2] => { results := [.lit (.bool true)], args := [d1, d2] }
  | _ => none }
def fastTellsRow : OpenClaim := { program := "ytoceeiamcfdnlaa", sum := "3096a619c349fd7f7ed8489aa811c67f98261d8d8b098ebe85904b8d3da58925", func := "quickchange/qclaw11.FastTells", spec := "fastTells", unfollowed := true, recurses := true, apart := false }
def FastTellsSaid : Prop := fastTellsRow.holds Try.pinned (OpenSpec.ofChange fastTellsSpec)

/-- ITS FALSE NEIGHBOUR: 'it returns false'. Refute it at one input. -/
def fastTellsWrong : ChangeSpec := { name := "fastTells", fn := fun _ => fun
  | [d1, d2] => { results := [.lit (.bool false)], args := [d1, d2] }
  | _ => none }
def FastTellsWrongFalsely : Prop := fastTellsRow.holds Try.pinned (OpenSpec.ofChange fastTellsWrong)

/-- 'qclaw2.ClassTells': WHATEVER THE INPUT: true; the input reads as it did. -/
def classTellsSpec : ChangeSpec := { name := "classTells", fn := fun _ => fun
  | [d1, d2, d3, d4, d5] => { results := [.lit (.bool true)], args := [d1, d2, d3, d4, d5] }
  | _ => none }
def classTellsRow : OpenClaim := { program := "ytoceeiamcfdnlaa", sum := "3096a619c349fd7f7ed8489aa811c67f98261d8d8b098ebe85904b8d3da58925", func := "quickchange/qclaw2.ClassTells", spec := "classTells", inPlace := ["slices.overlaps[quickchange/api.Method]"], unfollowed := true, recurses := true, apart := false }
def ClassTellsSaid : Prop := classTellsRow.holds Try.pinned (OpenSpec.ofChange classTellsSpec)

/-- ITS FALSE NEIGHBOUR: 'it returns false'. Refute it at one input. -/
def classTellsWrong : ChangeSpec := { name := "classTells", fn := fun _ => fun
  | [d1, d2, d3, d4, d5] => { results := [.lit (.bool false)], args := [d1, d2, d3, d4, d5] }
  | _ => none }
def ClassTellsWrongFalsely : Prop := classTellsRow.holds Try.pinned (OpenSpec.ofChange classTellsWrong)

/-- 'qclaw2.ClassNearest': WHATEVER THE INPUT: true; the input reads as it did. -/
def classNearestSpec : ChangeSpec := { name := "classNearest", fn := fun _ => fun
  | [d1, d2, d3] => { results := [.lit (.bool true)], args := [d1, d2, d3] }
  | _ => none }
def classNearestRow : OpenClaim := { program := "ytoceeiamcfdnlaa", sum := "3096a619c349fd7f7ed8489aa811c67f98261d8d8b098ebe85904b8d3da58925", func := "quickchange/qclaw2.ClassNearest", spec := "classNearest", inPlace := ["slices.overlaps[quickchange/api.Method]"], unfollowed := true, recurses := true, apart := false }
def ClassNearestSaid : Prop := classNearestRow.holds Try.pinned (OpenSpec.ofChange classNearestSpec)

/-- ITS FALSE NEIGHBOUR: 'it returns false'. Refute it at one input. -/
def classNearestWrong : ChangeSpec := { name := "classNearest", fn := fun _ => fun
  | [d1, d2, d3] => { results := [.lit (.bool false)], args := [d1, d2, d3] }
  | _ => none }
def ClassNearestWrongFalsely : Prop := classNearestRow.holds Try.pinned (OpenSpec.ofChange classNearestWrong)

/-- 'qclaw2.ClassInstalled': WHATEVER THE INPUT: true; the input reads as it did. -/
def classInstalledSpec : ChangeSpec := { name := "classInstalled", fn := fun _ => fun
  | [d1, d2, d3, d4, d5] => { results := [.lit (.bool true)], args := [d1, d2, d3, d4, d5] }
  | _ => none }
def classInstalledRow : OpenClaim := { program := "ytoceeiamcfdnlaa", sum := "3096a619c349fd7f7ed8489aa811c67f98261d8d8b098ebe85904b8d3da58925", func := "quickchange/qclaw2.ClassInstalled", spec := "classInstalled", inPlace := ["slices.overlaps[quickchange/api.Method]"], unfollowed := true, recurses := true, apart := false }
def ClassInstalledSaid : Prop := classInstalledRow.holds Try.pinned (OpenSpec.ofChange classInstalledSpec)

/-- ITS FALSE NEIGHBOUR: 'it returns false'. Refute it at one input. -/
def classInstalledWrong : ChangeSpec := { name := "classInstalled", fn := fun _ => fun
  | [d1, d2, d3, d4, d5] => { results := [.lit (.bool false)], args := [d1, d2, d3, d4, d5] }
  | _ => none }
def ClassInstalledWrongFalsely : Prop := classInstalledRow.holds Try.pinned (OpenSpec.ofChange classInstalledWrong)

/- THE SECOND FORM. 'bulk': how many values and letters a reading holds, each counted each time it is reached (what is shared counts as often as it is met; a slice's spare places count too). A statement '..UptoSaid' is the law's where the arguments, and the package variables that the reading takes, are together of bulk at most 1048576: NARROWER than '..Said'. Prove '..Said' where nothing that the law and all that it calls make is longer than what came in: it says more and counts as full. Else prove '..UptoSaid'. A law counts once. -/
mutual
def uptoBulk {H : Type} : DataW H → Nat
  | .lit (.string bytes) => bytes.length + 1
  | .lit _ => 1
  | .nil => 1
  | .ptr d => uptoBulk d + 1
  | .slice elems spare => uptoBulkAll elems + uptoBulkAll spare + 1
  | .agg parts => uptoBulkAll parts + 1
  | .iface _ d => uptoBulk d + 1
  | .map entries => uptoBulkEntries entries + 1
  | .held _ => 1
def uptoBulkAll {H : Type} : List (DataW H) → Nat
  | [] => 0
  | d :: r => uptoBulk d + uptoBulkAll r
def uptoBulkEntries {H : Type} : List (Lit × DataW H) → Nat
  | [] => 0
  | x :: r => uptoBulkEntry x + uptoBulkEntries r
def uptoBulkEntry {H : Type} : Lit × DataW H → Nat
  | (.string bytes, d) => bytes.length + uptoBulk d + 1
  | (_, d) => uptoBulk d + 1
 end
def uptoSmall : (H : Type) → List (DataW H) → Bool := fun _ ds => decide (uptoBulkAll ds ≤ 1048576)
def OpenSpec.upto (s : _root_.Go.ChangeSpec) : _root_.Go.OpenSpec := { _root_.Go.OpenSpec.ofChange s with cond := some uptoSmall }

/-- 'qclaw6.CellsTells', WHERE WHAT IT READS IS OF BULK AT MOST 1048576: true; the input reads as it did. -/
def cellsTellsUptoRow : OpenClaim := { program := "ytoceeiamcfdnlaa", sum := "3096a619c349fd7f7ed8489aa811c67f98261d8d8b098ebe85904b8d3da58925", func := "quickchange/qclaw6.CellsTells", spec := "cellsTells", unfollowed := true, recurses := true, apart := false, narrowed := true }
def CellsTellsUptoSaid : Prop := cellsTellsUptoRow.holds Try.pinned (OpenSpec.upto cellsTellsSpec)

/-- 'qclaw6.CellsTrue', WHERE WHAT IT READS IS OF BULK AT MOST 1048576: true; the input reads as it did. -/
def cellsTrueUptoRow : OpenClaim := { program := "ytoceeiamcfdnlaa", sum := "3096a619c349fd7f7ed8489aa811c67f98261d8d8b098ebe85904b8d3da58925", func := "quickchange/qclaw6.CellsTrue", spec := "cellsTrue", unfollowed := true, recurses := true, apart := false, narrowed := true }
def CellsTrueUptoSaid : Prop := cellsTrueUptoRow.holds Try.pinned (OpenSpec.upto cellsTrueSpec)

/-- 'qclaw6.CellsOld', WHERE WHAT IT READS IS OF BULK AT MOST 1048576: true; the input reads as it did. -/
def cellsOldUptoRow : OpenClaim := { program := "ytoceeiamcfdnlaa", sum := "3096a619c349fd7f7ed8489aa811c67f98261d8d8b098ebe85904b8d3da58925", func := "quickchange/qclaw6.CellsOld", spec := "cellsOld", unfollowed := true, recurses := true, apart := false, narrowed := true }
def CellsOldUptoSaid : Prop := cellsOldUptoRow.holds Try.pinned (OpenSpec.upto cellsOldSpec)

/-- 'qclaw6.CellsFew', WHERE WHAT IT READS IS OF BULK AT MOST 1048576: true; the input reads as it did. -/
def cellsFewUptoRow : OpenClaim := { program := "ytoceeiamcfdnlaa", sum := "3096a619c349fd7f7ed8489aa811c67f98261d8d8b098ebe85904b8d3da58925", func := "quickchange/qclaw6.CellsFew", spec := "cellsFew", unfollowed := true, recurses := true, apart := false, narrowed := true }
def CellsFewUptoSaid : Prop := cellsFewUptoRow.holds Try.pinned (OpenSpec.upto cellsFewSpec)

/-- 'qclaw10.InlineTells', WHERE WHAT IT READS IS OF BULK AT MOST 1048576: true; the input reads as it did. -/
def inlineTellsUptoRow : OpenClaim := { program := "ytoceeiamcfdnlaa", sum := "3096a619c349fd7f7ed8489aa811c67f98261d8d8b098ebe85904b8d3da58925", func := "quickchange/qclaw10.InlineTells", spec := "inlineTells", unfollowed := true, recurses := true, apart := false, narrowed := true }
def InlineTellsUptoSaid : Prop := inlineTellsUptoRow.holds Try.pinned (OpenSpec.upto inlineTellsSpec)

/-- 'qclaw10.InlineRoom', WHERE WHAT IT READS IS OF BULK AT MOST 1048576: true; the input reads as it did. -/
def inlineRoomUptoRow : OpenClaim := { program := "ytoceeiamcfdnlaa", sum := "3096a619c349fd7f7ed8489aa811c67f98261d8d8b098ebe85904b8d3da58925", func := "quickchange/qclaw10.InlineRoom", spec := "inlineRoom", unfollowed := true, recurses := true, apart := false, narrowed := true }
def InlineRoomUptoSaid : Prop := inlineRoomUptoRow.holds Try.pinned (OpenSpec.upto inlineRoomSpec)

/-- 'qclaw11.FastTells', WHERE WHAT IT READS IS OF BULK AT MOST 1048576: true; the input reads as it did. -/
def fastTellsUptoRow : OpenClaim := { program := "ytoceeiamcfdnlaa", sum := "3096a619c349fd7f7ed8489aa811c67f98261d8d8b098ebe85904b8d3da58925", func := "quickchange/qclaw11.FastTells", spec := "fastTells", unfollowed := true, recurses := true, apart := false, narrowed := true }
def FastTellsUptoSaid : Prop := fastTellsUptoRow.holds Try.pinned (OpenSpec.upto fastTellsSpec)

/-- 'qclaw2.ClassTells', WHERE WHAT IT READS IS OF BULK AT MOST 1048576: true; the input reads as it did. -/
def classTellsUptoRow : OpenClaim := { program := "ytoceeiamcfdnlaa", sum := "3096a619c349fd7f7ed8489aa811c67f98261d8d8b098ebe85904b8d3da58925", func := "quickchange/qclaw2.ClassTells", spec := "classTells", inPlace := ["slices.overlaps[quickchange/api.Method]"], unfollowed := true, recurses := true, apart := false, narrowed := true }
def ClassTellsUptoSaid : Prop := classTellsUptoRow.holds Try.pinned (OpenSpec.upto classTellsSpec)

/-- 'qclaw2.ClassNearest', WHERE WHAT IT READS IS OF BULK AT MOST 1048576: true; the input reads as it did. -/
def classNearestUptoRow : OpenClaim := { program := "ytoceeiamcfdnlaa", sum := "3096a619c349fd7f7ed8489aa811c67f98261d8d8b098ebe85904b8d3da58925", func := "quickchange/qclaw2.ClassNearest", spec := "classNearest", inPlace := ["slices.overlaps[quickchange/api.Method]"], unfollowed := true, recurses := true, apart := false, narrowed := true }
def ClassNearestUptoSaid : Prop := classNearestUptoRow.holds Try.pinned (OpenSpec.upto classNearestSpec)

/-- 'qclaw2.ClassInstalled', WHERE WHAT IT READS IS OF BULK AT MOST 1048576: true; the input reads as it did. -/
def classInstalledUptoRow : OpenClaim := { program := "ytoceeiamcfdnlaa", sum := "3096a619c349fd7f7ed8489aa811c67f98261d8d8b098ebe85904b8d3da58925", func := "quickchange/qclaw2.ClassInstalled", spec := "classInstalled", inPlace := ["slices.overlaps[quickchange/api.Method]"], unfollowed := true, recurses := true, apart := false, narrowed := true }
def ClassInstalledUptoSaid : Prop := classInstalledUptoRow.holds Try.pinned (OpenSpec.upto classInstalledSpec)

end Rows
end Go.Proofs.Ytoceeiamcfdnlaa
