/-
  No cell of these rows narrows 'for every input' (looked for: loops, veiled, ifaces, maps, wideKeys, modest, calm, conditions, laid).
  DERIVED. THE GIVEN ROWS OF THIS SEAT. 10 by the template 'for every input the law returns true; each argument reads behind the call as it read before'; 0 by the template 'total and deterministic' (their statements: YtkecefjmcimemaaTotals.lean).
  GIVEN WITH THE SEED: the statements are not yours to turn. If you find one false, say at which input.
  Laid BY PROGRAM, IN A SANDBOX (cutbox-rows.mjs): the forced cells as the released guide's own fill.sh prints them over the translation 736eb5e26ad9c1f2… (all of the seat's roots in one cut). By AI agents, Wed Nov 11 2026. No macro, syntax, notation, axiom, sorry.
-/
import Derived.Test.YtkecefjmcimemaaChecked
import GoSem.Claim
import GoSem.ClaimJoined
import GoSem.ClaimMapViews
import Derived.JoinedTies
import Derived.KernelRfl
namespace Go.Proofs.Ytkecefjmcimemaa
/- THE CELL 'sum', in the pinned program and in every row, IS THE sha256 OF THE DUMP (.gsa) THAT YtkecefjmcimemaaProg.lean LOADS. Nothing in Lean hashes anything: it is a label: what it is worth is what the hold of that sum in a sandbox is worth. -/
noncomputable def Try.pinned : Pinned := { name := "ytkecefjmcimemaa", sum := "736eb5e26ad9c1f29805d30215cea0409ec4b5f278ff2f9620cf0a699f3053ab", checked := Try.checked }
namespace Rows
def none {H : Type} : Left H := { results := [], args := [] }

/-- 'qclaw5.RunTells': WHATEVER THE INPUT: true; the input reads as it did. -/
def runTellsSpec : ChangeSpec := { name := "runTells", fn := fun _ => fun
  | [d1, d2, d3] => { results := [.lit (.bool true)], args := [d1, d2, d3] }
  | _ => none }
def runTellsRow : OpenClaim := { program := "ytkecefjmcimemaa", sum := "736eb5e26ad9c1f29805d30215cea0409ec4b5f278ff2f9620cf0a699f3053ab", func := "quickchange/qclaw5.RunTells", spec := "runTells", unfollowed := true, recurses := true, apart := false }
def RunTellsSaid : Prop := runTellsRow.holds Try.pinned (OpenSpec.ofChange runTellsSpec)

/-- ITS FALSE NEIGHBOUR: 'it returns false'. Refute it at one input. -/
def runTellsWrong : ChangeSpec := { name := "runTells", fn := fun _ => fun
  | [d1, d2, d3] => { results := [.lit (.bool false)], args := [d1, d2, d3] }
  | _ => none }
def RunTellsWrongFalsely : Prop := runTellsRow.holds Try.pinned (OpenSpec.ofChange runTellsWrong)

/-- 'qclaw5.RunFuel': WHATEVER THE INPUT: true; the input reads as it did. -/
def runFuelSpec : ChangeSpec := { name := "runFuel", fn := fun _ => fun
  | [d1, d2, d3, d4] => { results := [.lit (.bool true)], args := [d1, d2, d3, d4] }
  | _ => none }
def runFuelRow : OpenClaim := { program := "ytkecefjmcimemaa", sum := "736eb5e26ad9c1f29805d30215cea0409ec4b5f278ff2f9620cf0a699f3053ab", func := "quickchange/qclaw5.RunFuel", spec := "runFuel", unfollowed := true, recurses := true, apart := false }
def RunFuelSaid : Prop := runFuelRow.holds Try.pinned (OpenSpec.ofChange runFuelSpec)

/-- ITS FALSE NEIGHBOUR: 'it returns false'. Refute it at one input. -/
def runFuelWrong : ChangeSpec := { name := "runFuel", fn := fun _ => fun
  | [d1, d2, d3, d4] => { results := [.lit (.bool false)], args := [d1, d2, d3, d4] }
  | _ => none }
def RunFuelWrongFalsely : Prop := runFuelRow.holds Try.pinned (OpenSpec.ofChange runFuelWrong)

/-- 'qclaw5.RunFails': WHATEVER THE INPUT: true; the input reads as it did. -/
def runFailsSpec : ChangeSpec := { name := "runFails", fn := fun _ => fun
  | [d1, d2, d3] => { results := [.lit (.bool true)], args := [d1, d2, d3] }
  | _ => none }
def runFailsRow : OpenClaim := { program := "ytkecefjmcimemaa", sum := "736eb5e26ad9c1f29805d30215cea0409ec4b5f278ff2f9620cf0a699f3053ab", func := "quickchange/qclaw5.RunFails", spec := "runFails", unfollowed := true, recurses := true, apart := false }
def RunFailsSaid : Prop := runFailsRow.holds Try.pinned (OpenSpec.ofChange runFailsSpec)

/-- ITS FALSE NEIGHBOUR: 'it returns false'. Refute it at one input. -/
def runFailsWrong : ChangeSpec := { name := "runFails", fn := fun _ => fun
  | [d1, d2, d3] => { results := [.lit (.bool false)], args := [d1, d2, d3] }
  | _ => none }
def RunFailsWrongFalsely : Prop := runFailsRow.holds Try.pinned (OpenSpec.ofChange runFailsWrong)

/-- 'qclaw5.RunRight': WHATEVER THE INPUT: true; the input reads as it did. -/
def runRightSpec : ChangeSpec := { name := "runRight", fn := fun _ => fun
  | [d1, d2, d3] => { results := [.lit (.bool true)], args := [d1, d2, d3] }
  | _ => none }
def runRightRow : OpenClaim := { program := "ytkecefjmcimemaa", sum := "736eb5e26ad9c1f29805d30215cea0409ec4b5f278ff2f9620cf0a699f3053ab", func := "quickchange/qclaw5.RunRight", spec := "runRight", unfollowed := true, recurses := true, apart := false }
def RunRightSaid : Prop := runRightRow.holds Try.pinned (OpenSpec.ofChange runRightSpec)

/-- ITS FALSE NEIGHBOUR: 'it returns false'. Refute it at one input. -/
def runRightWrong : ChangeSpec := { name := "runRight", fn := fun _ => fun
  | [d1, d2, d3] => { results := [.lit (.bool false)], args := [d1, d2, d3] }
  | _ => none }
def RunRightWrongFalsely : Prop := runRightRow.holds Try.pinned (OpenSpec.ofChange runRightWrong)

/-- 'qclaw10.InlineSame': WHATEVER THE INPUT: true; the input reads as it did. -/
def inlineSameSpec : ChangeSpec := { name := "inlineSame", fn := fun _ => fun
  | [d1, d2, d3, d4, d5] => { results := [.lit (.bool true)], args := [d1, d2, d3, d4, d5] }
  | _ => none }
def inlineSameRow : OpenClaim := { program := "ytkecefjmcimemaa", sum := "736eb5e26ad9c1f29805d30215cea0409ec4b5f278ff2f9620cf0a699f3053ab", func := "quickchange/qclaw10.InlineSame", spec := "inlineSame", unfollowed := true, recurses := true, apart := false }
def InlineSameSaid : Prop := inlineSameRow.holds Try.pinned (OpenSpec.ofChange inlineSameSpec)

/-- ITS FALSE NEIGHBOUR: 'it returns false'. Refute it at one input. -/
def inlineSameWrong : ChangeSpec := { name := "inlineSame", fn := fun _ => fun
  | [d1, d2, d3, d4, d5] => { results := [.lit (.bool false)], args := [d1, d2, d3, d4, d5] }
  | _ => none }
def InlineSameWrongFalsely : Prop := inlineSameRow.holds Try.pinned (OpenSpec.ofChange inlineSameWrong)

/-- 'qclaw8.CachedTells': WHATEVER THE INPUT: true; the input reads as it did. -/
def cachedTellsSpec : ChangeSpec := { name := "cachedTells", fn := fun _ => fun
  | [d1, d2, d3, d4, d5] => { results := [.lit (.bool true)], args := [d1, d2, d3, d4, d5] }
  | _ => none }
def cachedTellsRow : OpenClaim := { program := "ytkecefjmcimemaa", sum := "736eb5e26ad9c1f29805d30215cea0409ec4b5f278ff2f9620cf0a699f3053ab", func := "quickchange/qclaw8.CachedTells", spec := "cachedTells", unfollowed := true, recurses := true, apart := false }
def CachedTellsSaid : Prop := cachedTellsRow.holds Try.pinned (OpenSpec.ofChange cachedTellsSpec)

/-- ITS FALSE NEIGHBOUR: 'it returns false'. Refute it at one input. -/
def cachedTellsWrong : ChangeSpec := { name := "cachedTells", fn := fun _ => fun
  | [d1, d2, d3, d4, d5] => { results := [.lit (.bool false)], args := [d1, d2, d3, d4, d5] }
  | _ => none }
def CachedTellsWrongFalsely : Prop := cachedTellsRow.holds Try.pinned (OpenSpec.ofChange cachedTellsWrong)

/-- 'qclaw8.CachedSame': WHATEVER THE INPUT: true; the input reads as it did. -/
def cachedSameSpec : ChangeSpec := { name := "cachedSame", fn := fun _ => fun
  | [d1, d2] => { results := [.lit (.bool true)], args := [d1, d2] }
  | _ => none }
def cachedSameRow : OpenClaim := { program := "ytkecefjmcimemaa", sum := "736eb5e26ad9c1f29805d30215cea0409ec4b5f278ff2f9620cf0a699f3053ab", func := "quickchange/qclaw8.CachedSame", spec := "cachedSame", unfollowed := true, recurses := true, apart := false }
def CachedSameSaid : Prop := cachedSameRow.holds Try.pinned (OpenSpec.ofChange cachedSameSpec)

/-- ITS FALSE NEIGHBOUR: 'it returns false'. Refute it at one input. -/
def cachedSameWrong : ChangeSpec := { name := "cachedSame", fn := fun _ => fun
  | [d1, d2] => { results := [.lit (.bool false)], args := [d1, d2] }
  | _ => none }
def CachedSameWrongFalsely : Prop := cachedSameRow.holds Try.pinned (OpenSpec.ofChange cachedSameWrong)

/-- 'qclaw8.CachedAgain': WHATEVER THE INPUT: true; the input reads as it did. -/
def cachedAgainSpec : ChangeSpec := { name := "cachedAgain", fn := fun _ => fun
  | [d1, d2] => { results := [.lit (.bool true)], args := [d1, d2] }
  | _ => none }
def cachedAgainRow : OpenClaim := { program := "ytkecefjmcimemaa", sum := "736eb5e26ad9c1f29805d30215cea0409ec4b5f278ff2f9620cf0a699f3053ab", func := "quickchange/qclaw8.CachedAgain", spec := "cachedAgain", unfollowed := true, recurses := true, apart := false }
def CachedAgainSaid : Prop := cachedAgainRow.holds Try.pinned (OpenSpec.ofChange cachedAgainSpec)

/-- ITS FALSE NEIGHBOUR: 'it returns false'. Refute it at one input. -/
def cachedAgainWrong : ChangeSpec := { name := "cachedAgain", fn := fun _ => fun
  | [d1, d2] => { results := [.lit (.bool false)], args := [d1, d2] }
  | _ => none }
def CachedAgainWrongFalsely : Prop := cachedAgainRow.holds Try.pinned (OpenSpec.ofChange cachedAgainWrong)

/-- 'qclaw11.FastSame': WHATEVER THE INPUT: true; the input reads as it did. -/
def fastSameSpec : ChangeSpec := { name := "fastSame", fn := fun _ => fun
  | [d1, d2, d3, d4] => { results := [.lit (.bool true)], args := [d1, d2, d3, d4] }
  | _ => none }
def fastSameRow : OpenClaim := { program := "ytkecefjmcimemaa", sum := "736eb5e26ad9c1f29805d30215cea0409ec4b5f278ff2f9620cf0a699f3053ab", func := "quickchange/qclaw11.FastSame", spec := "fastSame", unfollowed := true, recurses := true, apart := false }
def FastSameSaid : Prop := fastSameRow.holds Try.pinned (OpenSpec.ofChange fastSameSpec)

/-- ITS FALSE NEIGHBOUR: 'it returns false'. Refute it at one input. -/
def fastSameWrong : ChangeSpec := { name := "fastSame", fn := fun _ => fun
  | [d1, d2, d3, d4] => { results := [.lit (.bool false)], args := [d1, d2, d3, d4] }
  | _ => none }
def FastSameWrongFalsely : Prop := fastSameRow.holds Try.pinned (OpenSpec.ofChange fastSameWrong)

/-- 'qclaw11.FastOld': WHATEVER THE INPUT: true; the input reads as it did. -/
def fastOldSpec : ChangeSpec := { name := "fastOld", fn := fun _ => fun
  | [d1, d2, d3, d4] => { results := [.lit (.bool true)], args := [d1, d2, d3, d4] }
  | _ => none }
def fastOldRow : OpenClaim := { program := "ytkecefjmcimemaa", sum := "736eb5e26ad9c1f29805d30215cea0409ec4b5f278ff2f9620cf0a699f3053ab", func := "quickchange/qclaw11.FastOld", spec := "fastOld", unfollowed := true, recurses := true, apart := false }
def FastOldSaid : Prop := fastOldRow.holds Try.pinned (OpenSpec.ofChange fastOldSpec)

/-- ITS FALSE NEIGHBOUR: 'it returns false'. Refute it at one input. -/
def fastOldWrong : ChangeSpec := { name := "fastOld", fn := fun _ => fun
  | [d1, d2, d3, d4] => { results := [.lit (.bool false)], args := [d1, d2, d3, d4] }
  | _ => none }
def FastOldWrongFalsely : Prop := fastOldRow.holds Try.pinned (OpenSpec.ofChange fastOldWrong)

/- THE SECOND FORM. 'bulk': how many values and letters a reading holds, each counted each time it is reached (what is shared counts as often as it is met; a slice's spare places count too). A statement '..UptoSaid' is the law's where the arguments, and the package variables that the reading takes, are together of bulk at most 1048576: NARROWER than '..Said'. Prove '..Said' where nothing that the law and all that it calls make is longer than what came in: it says more and counts as full. Else prove '..UptoSaid'. A law counts once. -/
mutual
def uptoBulk {H : Type} : DataW H → Nat
  | .lit (.string bytes) => bytes.length + 1
  | .lit _ => 1
  | .nil => 1
  | .ptr d => uptoBulk d + 1
  | .slice elems spare => uptoBulkAll elems + uptoBulkAll spare + 1
  | .agg parts => uptoBulkAll parts + 1
  | .iface _ d => uptoBulk d + 1
  | .map entries => uptoBulkEntries entries + 1
  | .held _ => 1
def uptoBulkAll {H : Type} : List (DataW H) → Nat
  | [] => 0
  | d :: r => uptoBulk d + uptoBulkAll r
def uptoBulkEntries {H : Type} : List (Lit × DataW H) → Nat
  | [] => 0
  | x :: r => uptoBulkEntry x + uptoBulkEntries r
def uptoBulkEntry {H : Type} : Lit × DataW H → Nat
  | (.string bytes, d) => bytes.length + uptoBulk d + 1
  | (_, d) => uptoBulk d + 1
 end
def uptoSmall : (H : Type) → List (DataW H) → Bool := fun _ ds => decide (uptoBulkAll ds ≤ 1048576)
def OpenSpec.upto (s : _root_.Go.ChangeSpec) : _root_.Go.OpenSpec := { _root_.Go.OpenSpec.ofChange s with cond := some uptoSmall }

/-- 'qclaw5.RunTells', WHERE WHAT IT READS IS OF BULK AT MOST 1048576: true; the input reads as it did. -/
def runTellsUptoRow : OpenClaim := { program := "ytkecefjmcimemaa", sum := "736eb5e26ad9c1f29805d30215cea0409ec4b5f278ff2f9620cf0a699f3053ab", func := "quickchange/qclaw5.RunTells", spec := "runTells", unfollowed := true, recurses := true, apart := false, narrowed := true }
def RunTellsUptoSaid : Prop := runTellsUptoRow.holds Try.pinned (OpenSpec.upto runTellsSpec)

/-- 'qclaw5.RunFuel', WHERE WHAT IT READS IS OF BULK AT MOST 1048576: true; the input reads as it did. -/
def runFuelUptoRow : OpenClaim := { program := "ytkecefjmcimemaa", sum := "736eb5e26ad9c1f29805d30215cea0409ec4b5f278ff2f9620cf0a699f3053ab", func := "quickchange/qclaw5.RunFuel", spec := "runFuel", unfollowed := true, recurses := true, apart := false, narrowed := true }
def RunFuelUptoSaid : Prop := runFuelUptoRow.holds Try.pinned (OpenSpec.upto runFuelSpec)

/-- 'qclaw5.RunFails', WHERE WHAT IT READS IS OF BULK AT MOST 1048576: true; the input reads as it did. -/
def runFailsUptoRow : OpenClaim := { program := "ytkecefjmcimemaa", sum := "736eb5e26ad9c1f29805d30215cea0409ec4b5f278ff2f9620cf0a699f3053ab", func := "quickchange/qclaw5.RunFails", spec := "runFails", unfollowed := true, recurses := true, apart := false, narrowed := true }
def RunFailsUptoSaid : Prop := runFailsUptoRow.holds Try.pinned (OpenSpec.upto runFailsSpec)

/-- 'qclaw5.RunRight', WHERE WHAT IT READS IS OF BULK AT MOST 1048576: true; the input reads as it did. -/
def runRightUptoRow : OpenClaim := { program := "ytkecefjmcimemaa", sum := "736eb5e26ad9c1f29805d30215cea0409ec4b5f278ff2f9620cf0a699f3053ab", func := "quickchange/qclaw5.RunRight", spec := "runRight", unfollowed := true, recurses := true, apart := false, narrowed := true }
def RunRightUptoSaid : Prop := runRightUptoRow.holds Try.pinned (OpenSpec.upto runRightSpec)

/-- 'qclaw10.InlineSame', WHERE WHAT IT READS IS OF BULK AT MOST 1048576: true; the input reads as it did. -/
def inlineSameUptoRow : OpenClaim := { program := "ytkecefjmcimemaa", sum := "736eb5e26ad9c1f29805d30215cea0409ec4b5f278ff2f9620cf0a699f3053ab", func := "quickchange/qclaw10.InlineSame", spec := "inlineSame", unfollowed := true, recurses := true, apart := false, narrowed := true }
def InlineSameUptoSaid : Prop := inlineSameUptoRow.holds Try.pinned (OpenSpec.upto inlineSameSpec)

/-- 'qclaw8.CachedTells', WHERE WHAT IT READS IS OF BULK AT MOST 1048576: true; the input reads as it did. -/
def cachedTellsUptoRow : OpenClaim := { program := "ytkecefjmcimemaa", sum := "736eb5e26ad9c1f29805d30215cea0409ec4b5f278ff2f9620cf0a699f3053ab", func := "quickchange/qclaw8.CachedTells", spec := "cachedTells", unfollowed := true, recurses := true, apart := false, narrowed := true }
def CachedTellsUptoSaid : Prop := cachedTellsUptoRow.holds Try.pinned (OpenSpec.upto cachedTellsSpec)

/-- 'qclaw8.CachedSame', WHERE WHAT IT READS IS OF BULK AT MOST 1048576: true; the input reads as it did. -/
def cachedSameUptoRow : OpenClaim := { program := "ytkecefjmcimemaa", sum := "736eb5e26ad9c1f29805d30215cea0409ec4b5f278ff2f9620cf0a699f3053ab", func := "quickchange/qclaw8.CachedSame", spec := "cachedSame", unfollowed := true, recurses := true, apart := false, narrowed := true }
def CachedSameUptoSaid : Prop := cachedSameUptoRow.holds Try.pinned (OpenSpec.upto cachedSameSpec)

/-- 'qclaw8.CachedAgain', WHERE WHAT IT READS IS OF BULK AT MOST 1048576: true; the input reads as it did. -/
def cachedAgainUptoRow : OpenClaim := { program := "ytkecefjmcimemaa", sum := "736eb5e26ad9c1f29805d30215cea0409ec4b5f278ff2f9620cf0a699f3053ab", func := "quickchange/qclaw8.CachedAgain", spec := "cachedAgain", unfollowed := true, recurses := true, apart := false, narrowed := true }
def CachedAgainUptoSaid : Prop := cachedAgainUptoRow.holds Try.pinned (OpenSpec.upto cachedAgainSpec)

/-- 'qclaw11.FastSame', WHERE WHAT IT READS IS OF BULK AT MOST 1048576: true; the input reads as it did. -/
def fastSameUptoRow : OpenClaim := { program := "ytkecefjmcimemaa", sum := "736eb5e26ad9c1f29805d30215cea0409ec4b5f278ff2f9620cf0a699f3053ab", func := "quickchange/qclaw11.FastSame", spec := "fastSame", unfollowed := true, recurses := true, apart := false, narrowed := true }
def FastSameUptoSaid : Prop := fastSameUptoRow.holds Try.pinned (OpenSpec.upto fastSameSpec)

/-- 'qclaw11.FastOld', WHERE WHAT IT READS IS OF BULK AT MOST 1048576: true; the input reads as it did. -/
def fastOldUptoRow : OpenClaim := { program := "ytkecefjmcimemaa", sum := "736eb5e26ad9c1f29805d30215cea0409ec4b5f278ff2f9620cf0a699f3053ab", func := "quickchange/qclaw11.FastOld", spec := "fastOld", unfollowed := true, recurses := true, apart := false, narrowed := true }
def FastOldUptoSaid : Prop := fastOldUptoRow.holds Try.pinned (OpenSpec.upto fastOldSpec)

end Rows
end Go.Proofs.Ytkecefjmcimemaa
