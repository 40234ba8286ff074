/-
  No cell of these rows narrows 'for every input' (looked for: loops, veiled, ifaces, maps, wideKeys, modest, calm, conditions, laid).
  DERIVED. THE GIVEN ROWS OF THIS SEAT. 7 by the template 'for every input the law returns true; each argument reads behind the call as it read before'; 0 by the template 'total and deterministic' (their statements: YtahmeibkdhbngaaTotals.lean).
  GIVEN WITH THE SEED: the statements are not yours to turn. If you find one false, say at which input.
  Laid BY PROGRAM, IN A SANDBOX (cutbox-rows.mjs): the forced cells as the released guide's own fill.sh prints them over the translation 3f47c522509bdf87… (all of the seat's roots in one cut). By AI agents, Wed Nov 11 2026. No macro, syntax, notation, axiom, sorry.
-/
import Derived.Test.YtahmeibkdhbngaaChecked
import GoSem.Claim
import GoSem.ClaimJoined
import GoSem.ClaimMapViews
import Derived.JoinedTies
import Derived.KernelRfl
namespace Go.Proofs.Ytahmeibkdhbngaa
/- THE CELL 'sum', in the pinned program and in every row, IS THE sha256 OF THE DUMP (.gsa) THAT YtahmeibkdhbngaaProg.lean LOADS. Nothing in Lean hashes anything: it is a label: what it is worth is what the hold of that sum in a sandbox is worth. -/
noncomputable def Try.pinned : Pinned := { name := "ytahmeibkdhbngaa", sum := "3f47c522509bdf87e53b2eaf391ebfe9b792b02290db030e73e1ae591811d278", checked := Try.checked }
namespace Rows
def none {H : Type} : Left H := { results := [], args := [] }

/-- 'qclaw6.CellsFew': WHATEVER THE INPUT: true; the input reads as it did. -/
def cellsFewSpec : ChangeSpec := { name := "cellsFew", fn := fun _ => fun
  | [d1, d2, d3] => { results := [.lit (.bool true)], args := [d1, d2, d3] }
  | _ => none }
def cellsFewRow : OpenClaim := { program := "ytahmeibkdhbngaa", sum := "3f47c522509bdf87e53b2eaf391ebfe9b792b02290db030e73e1ae591811d278", func := "quickchange/qclaw6.CellsFew", spec := "cellsFew", unfollowed := true, recurses := true, apart := false }
def CellsFewSaid : Prop := cellsFewRow.holds Try.pinned (OpenSpec.ofChange cellsFewSpec)

/-- ITS FALSE NEIGHBOUR: 'it returns false'. Refute it at one input. -/
def cellsFewWrong : ChangeSpec := { name := "cellsFew", fn := fun _ => fun
  | [d1, d2, d3] => { results := [.lit (.bool false)], args := [d1, d2, d3] }
  | _ => none }
def CellsFewWrongFalsely : Prop := cellsFewRow.holds Try.pinned (OpenSpec.ofChange cellsFewWrong)

/-- 'qclaw8.CachedTells': WHATEVER THE INPUT: true; the input reads as it did. -/
def cachedTellsSpec : ChangeSpec := { name := "cachedTells", fn := fun _ => fun
  | [d1, d2, d3, d4, d5] => { results := [.lit (.bool true)], args := [d1, d2, d3, d4, d5] }
  | _ => none }
def cachedTellsRow : OpenClaim := { program := "ytahmeibkdhbngaa", sum := "3f47c522509bdf87e53b2eaf391ebfe9b792b02290db030e73e1ae591811d278", func := "quickchange/qclaw8.CachedTells", spec := "cachedTells", unfollowed := true, recurses := true, apart := false }
def CachedTellsSaid : Prop := cachedTellsRow.holds Try.pinned (OpenSpec.ofChange cachedTellsSpec)

/-- ITS FALSE NEIGHBOUR: 'it returns false'. Refute it at one input. -/
def cachedTellsWrong : ChangeSpec := { name := "cachedTells", fn := fun _ => fun
  | [d1, d2, d3, d4, d5] => { results := [.lit (.bool false)], args := [d1, d2, d3, d4, d5] }
  | _ => none }
def CachedTellsWrongFalsely : Prop := cachedTellsRow.holds Try.pinned (OpenSpec.ofChange cachedTellsWrong)

/-- 'qclaw8.CachedSame': WHATEVER THE INPUT: true; the input reads as it did. -/
def cachedSameSpec : ChangeSpec := { name := "cachedSame", fn := fun _ => fun
  | [d1, d2] => { results := [.lit (.bool true)], args := [d1, d2] }
  | _ => none }
def cachedSameRow : OpenClaim := { program := "ytahmeibkdhbngaa", sum := "3f47c522509bdf87e53b2eaf391ebfe9b792b02290db030e73e1ae591811d278", func := "quickchange/qclaw8.CachedSame", spec := "cachedSame", unfollowed := true, recurses := true, apart := false }
def CachedSameSaid : Prop := cachedSameRow.holds Try.pinned (OpenSpec.ofChange cachedSameSpec)

/-- ITS FALSE NEIGHBOUR: 'it returns false'. Refute it at one input. -/
def cachedSameWrong : ChangeSpec := { name := "cachedSame", fn := fun _ => fun
  | [d1, d2] => { results := [.lit (.bool false)], args := [d1, d2] }
  | _ => none }
def CachedSameWrongFalsely : Prop := cachedSameRow.holds Try.pinned (OpenSpec.ofChange cachedSameWrong)

/-- 'qclaw8.CachedAgain': WHATEVER THE INPUT: true; the input reads as it did. -/
def cachedAgainSpec : ChangeSpec := { name := "cachedAgain", fn := fun _ => fun
  | [d1, d2] => { results := [.lit (.bool true)], args := [d1, d2] }
  | _ => none }
def cachedAgainRow : OpenClaim := { program := "ytahmeibkdhbngaa", sum := "3f47c522509bdf87e53b2eaf391ebfe9b792b02290db030e73e1ae591811d278", func := "quickchange/qclaw8.CachedAgain", spec := "cachedAgain", unfollowed := true, recurses := true, apart := false }
def CachedAgainSaid : Prop := cachedAgainRow.holds Try.pinned (OpenSpec.ofChange cachedAgainSpec)

/-- ITS FALSE NEIGHBOUR: 'it returns false'. Refute it at one input. -/
def cachedAgainWrong : ChangeSpec := { name := "cachedAgain", fn := fun _ => fun
  | [d1, d2] => { results := [.lit (.bool false)], args := [d1, d2] }
  | _ => none }
def CachedAgainWrongFalsely : Prop := cachedAgainRow.holds Try.pinned (OpenSpec.ofChange cachedAgainWrong)

/-- 'qclaw2.ClassTells': WHATEVER THE INPUT: true; the input reads as it did. -/
def classTellsSpec : ChangeSpec := { name := "classTells", fn := fun _ => fun
  | [d1, d2, d3, d4, d5] => { results := [.lit (.bool true)], args := [d1, d2, d3, d4, d5] }
  | _ => none }
def classTellsRow : OpenClaim := { program := "ytahmeibkdhbngaa", sum := "3f47c522509bdf87e53b2eaf391ebfe9b792b02290db030e73e1ae591811d278", func := "quickchange/qclaw2.ClassTells", spec := "classTells", inPlace := ["slices.overlaps[quickchange/api.Method]"], unfollowed := true, recurses := true, apart := false }
def ClassTellsSaid : Prop := classTellsRow.holds Try.pinned (OpenSpec.ofChange classTellsSpec)

/-- ITS FALSE NEIGHBOUR: 'it returns false'. Refute it at one input. -/
def classTellsWrong : ChangeSpec := { name := "classTells", fn := fun _ => fun
  | [d1, d2, d3, d4, d5] => { results := [.lit (.bool false)], args := [d1, d2, d3, d4, d5] }
  | _ => none }
def ClassTellsWrongFalsely : Prop := classTellsRow.holds Try.pinned (OpenSpec.ofChange classTellsWrong)

/-- 'qclaw2.ClassNearest': WHATEVER THE INPUT: true; the input reads as it did. -/
def classNearestSpec : ChangeSpec := { name := "classNearest", fn := fun _ => fun
  | [d1, d2, d3] => { results := [.lit (.bool true)], args := [d1, d2, d3] }
  | _ => none }
def classNearestRow : OpenClaim := { program := "ytahmeibkdhbngaa", sum := "3f47c522509bdf87e53b2eaf391ebfe9b792b02290db030e73e1ae591811d278", func := "quickchange/qclaw2.ClassNearest", spec := "classNearest", inPlace := ["slices.overlaps[quickchange/api.Method]"], unfollowed := true, recurses := true, apart := false }
def ClassNearestSaid : Prop := classNearestRow.holds Try.pinned (OpenSpec.ofChange classNearestSpec)

/-- ITS FALSE NEIGHBOUR: 'it returns false'. Refute it at one input. -/
def classNearestWrong : ChangeSpec := { name := "classNearest", fn := fun _ => fun
  | [d1, d2, d3] => { results := [.lit (.bool false)], args := [d1, d2, d3] }
  | _ => none }
def ClassNearestWrongFalsely : Prop := classNearestRow.holds Try.pinned (OpenSpec.ofChange classNearestWrong)

/-- 'qclaw2.ClassInstalled': WHATEVER THE INPUT: true; the input reads as it did. -/
def classInstalledSpec : ChangeSpec := { name := "classInstalled", fn := fun _ => fun
  | [d1, d2, d3, d4, d5] => { results := [.lit (.bool true)], args := [d1, d2, d3, d4, d5] }
  | _ => none }
def classInstalledRow : OpenClaim := { program := "ytahmeibkdhbngaa", sum := "3f47c522509bdf87e53b2eaf391ebfe9b792b02290db030e73e1ae591811d278", func := "quickchange/qclaw2.ClassInstalled", spec := "classInstalled", inPlace := ["slices.overlaps[quickchange/api.Method]"], unfollowed := true, recurses := true, apart := false }
def ClassInstalledSaid : Prop := classInstalledRow.holds Try.pinned (OpenSpec.ofChange classInstalledSpec)

/-- ITS FALSE NEIGHBOUR: 'it returns false'. Refute it at one input. -/
def classInstalledWrong : ChangeSpec := { name := "classInstalled", fn := fun _ => fun
  | [d1, d2, d3, d4, d5] => { results := [.lit (.bool false)], args := [d1, d2, d3, d4, d5] }
  | _ => none }
def ClassInstalledWrongFalsely : Prop := classInstalledRow.holds Try.pinned (OpenSpec.ofChange classInstalledWrong)

/- THE SECOND FORM. 'bulk': how many values and letters a reading holds, each counted each time it is reached (what is shared counts as often as it is met; a slice's spare places count too). A statement '..UptoSaid' is the law's where the arguments, and the package variables that the reading takes, are together of bulk at most 1048576: NARROWER than '..Said'. Prove '..Said' where nothing that the law and all that it calls make is longer than what came in: it says more and counts as full. Else prove '..UptoSaid'. A law counts once. -/
mutual
def uptoBulk {H : Type} : DataW H → Nat
  | .lit (.string bytes) => bytes.length + 1
  | .lit _ => 1
  | .nil => 1
  | .ptr d => uptoBulk d + 1
  | .slice elems spare => uptoBulkAll elems + uptoBulkAll spare + 1
  | .agg parts => uptoBulkAll parts + 1
  | .iface _ d => uptoBulk d + 1
  | .map entries => uptoBulkEntries entries + 1
  | .held _ => 1
def uptoBulkAll {H : Type} : List (DataW H) → Nat
  | [] => 0
  | d :: r => uptoBulk d + uptoBulkAll r
def uptoBulkEntries {H : Type} : List (Lit × DataW H) → Nat
  | [] => 0
  | x :: r => uptoBulkEntry x + uptoBulkEntries r
def uptoBulkEntry {H : Type} : Lit × DataW H → Nat
  | (.string bytes, d) => bytes.length + uptoBulk d + 1
  | (_, d) => uptoBulk d + 1
 end
def uptoSmall : (H : Type) → List (DataW H) → Bool := fun _ ds => decide (uptoBulkAll ds ≤ 1048576)
def OpenSpec.upto (s : _root_.Go.ChangeSpec) : _root_.Go.OpenSpec := { _root_.Go.OpenSpec.ofChange s with cond := some uptoSmall }

/-- 'qclaw6.CellsFew', WHERE WHAT IT READS IS OF BULK AT MOST 1048576: true; the input reads as it did. -/
def cellsFewUptoRow : OpenClaim := { program := "ytahmeibkdhbngaa", sum := "3f47c522509bdf87e53b2eaf391ebfe9b792b02290db030e73e1ae591811d278", func := "quickchange/qclaw6.CellsFew", spec := "cellsFew", unfollowed := true, recurses := true, apart := false, narrowed := true }
def CellsFewUptoSaid : Prop := cellsFewUptoRow.holds Try.pinned (OpenSpec.upto cellsFewSpec)

/-- 'qclaw8.CachedTells', WHERE WHAT IT READS IS OF BULK AT MOST 1048576: true; the input reads as it did. -/
def cachedTellsUptoRow : OpenClaim := { program := "ytahmeibkdhbngaa", sum := "3f47c522509bdf87e53b2eaf391ebfe9b792b02290db030e73e1ae591811d278", func := "quickchange/qclaw8.CachedTells", spec := "cachedTells", unfollowed := true, recurses := true, apart := false, narrowed := true }
def CachedTellsUptoSaid : Prop := cachedTellsUptoRow.holds Try.pinned (OpenSpec.upto cachedTellsSpec)

/-- 'qclaw8.CachedSame', WHERE WHAT IT READS IS OF BULK AT MOST 1048576: true; the input reads as it did. -/
def cachedSameUptoRow : OpenClaim := { program := "ytahmeibkdhbngaa", sum := "3f47c522509bdf87e53b2eaf391ebfe9b792b02290db030e73e1ae591811d278", func := "quickchange/qclaw8.CachedSame", spec := "cachedSame", unfollowed := true, recurses := true, apart := false, narrowed := true }
def CachedSameUptoSaid : Prop := cachedSameUptoRow.holds Try.pinned (OpenSpec.upto cachedSameSpec)

/-- 'qclaw8.CachedAgain', WHERE WHAT IT READS IS OF BULK AT MOST 1048576: true; the input reads as it did. -/
def cachedAgainUptoRow : OpenClaim := { program := "ytahmeibkdhbngaa", sum := "3f47c522509bdf87e53b2eaf391ebfe9b792b02290db030e73e1ae591811d278", func := "quickchange/qclaw8.CachedAgain", spec := "cachedAgain", unfollowed := true, recurses := true, apart := false, narrowed := true }
def CachedAgainUptoSaid : Prop := cachedAgainUptoRow.holds Try.pinned (OpenSpec.upto cachedAgainSpec)

/-- 'qclaw2.ClassTells', WHERE WHAT IT READS IS OF BULK AT MOST 1048576: true; the input reads as it did. -/
def classTellsUptoRow : OpenClaim := { program := "ytahmeibkdhbngaa", sum := "3f47c522509bdf87e53b2eaf391ebfe9b792b02290db030e73e1ae591811d278", func := "quickchange/qclaw2.ClassTells", spec := "classTells", inPlace := ["slices.overlaps[quickchange/api.Method]"], unfollowed := true, recurses := true, apart := false, narrowed := true }
def ClassTellsUptoSaid : Prop := classTellsUptoRow.holds Try.pinned (OpenSpec.upto classTellsSpec)

/-- 'qclaw2.ClassNearest', WHERE WHAT IT READS IS OF BULK AT MOST 1048576: true; the input reads as it did. -/
def classNearestUptoRow : OpenClaim := { program := "ytahmeibkdhbngaa", sum := "3f47c522509bdf87e53b2eaf391ebfe9b792b02290db030e73e1ae591811d278", func := "quickchange/qclaw2.ClassNearest", spec := "classNearest", inPlace := ["slices.overlaps[quickchange/api.Method]"], unfollowed := true, recurses := true, apart := false, narrowed := true }
def ClassNearestUptoSaid : Prop := classNearestUptoRow.holds Try.pinned (OpenSpec.upto classNearestSpec)

/-- 'qclaw2.ClassInstalled', WHERE WHAT IT READS IS OF BULK AT MOST 1048576: true; the input reads as it did. -/
def classInstalledUptoRow : OpenClaim := { program := "ytahmeibkdhbngaa", sum := "3f47c522509bdf87e53b2eaf391ebfe9b792b02290db030e73e1ae591811d278", func := "quickchange/qclaw2.ClassInstalled", spec := "classInstalled", inPlace := ["slices.overlaps[quickchange/api.Method]"], unfollowed := true, recurses := true, apart := false, narrowed := true }
def ClassInstalledUptoSaid : Prop := classInstalledUptoRow.holds Try.pinned (OpenSpec.upto classInstalledSpec)

end Rows
end Go.Proofs.Ytahmeibkdhbngaa
