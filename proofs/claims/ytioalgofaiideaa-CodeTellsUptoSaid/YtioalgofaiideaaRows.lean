/-
  No cell of these rows narrows 'for every input' (looked for: loops, veiled, ifaces, maps, wideKeys, modest, calm, conditions, laid).
  DERIVED. THE GIVEN ROWS OF THIS SEAT. 11 by the template 'for every input the law returns true; each argument reads behind the call as it read before'; 0 by the template 'total and deterministic' (their statements: YtioalgofaiideaaTotals.lean).
  GIVEN WITH THE SEED: the statements are not yours to turn. If you find one false, say at which input.
  Laid BY PROGRAM, IN A SANDBOX (cutbox-rows.mjs): the forced cells as the released guide's own fill.sh prints them over the translation 3247df9f18eb43d6… (all of the seat's roots in one cut). By AI agents, Wed Nov 11 2026. No macro, syntax, notation, axiom, sorry.
-/
import Derived.Test.YtioalgofaiideaaChecked
import GoSem.Claim
import GoSem.ClaimJoined
import GoSem.ClaimMapViews
import Derived.JoinedTies
import Derived.KernelRfl
namespace Go.Proofs.Ytioalgofaiideaa
/- THE CELL 'sum', in the pinned program and in every row, IS THE sha256 OF THE DUMP (.gsa) THAT YtioalgofaiideaaProg.lean LOADS. Nothing in Lean hashes anything: it is a label: what it is worth is what the hold of that sum in a sandbox is worth. -/
noncomputable def Try.pinned : Pinned := { name := "ytioalgofaiideaa", sum := "3247df9f18eb43d6371567aca3f542d755bbab5e10db73873af1170db7fde6b7", checked := Try.checked }
namespace Rows
def none {H : Type} : Left H := { results := [], args := [] }

/-- 'qclaw7.TallyTells': WHATEVER THE INPUT: true; the input reads as it did. -/
def tallyTellsSpec : ChangeSpec := { name := "tallyTells", fn := fun _ => fun
  | [d1, d2, d3] => { results := [.lit (.bool true)], args := [d1, d2, d3] }
  | _ => none }
def tallyTellsRow : OpenClaim := { program := "ytioalgofaiideaa", sum := "3247df9f18eb43d6371567aca3f542d755bbab5e10db73873af1170db7fde6b7", func := "quickchange/qclaw7.TallyTells", spec := "tallyTells", unfollowed := true, recurses := true, apart := false }
def TallyTellsSaid : Prop := tallyTellsRow.holds Try.pinned (OpenSpec.ofChange tallyTellsSpec)

/-- ITS FALSE NEIGHBOUR: 'it returns false'. Refute it at one input. -/
def tallyTellsWrong : ChangeSpec := { name := "tallyTells", fn := fun _ => fun
  | [d1, d2, d3] => { results := [.lit (.bool false)], args := [d1, d2, d3] }
  | _ => none }
def TallyTellsWrongFalsely : Prop := tallyTellsRow.holds Try.pinned (OpenSpec.ofChange tallyTellsWrong)

/-- 'qclaw7.TallyTurned': WHATEVER THE INPUT: true; the input reads as it did. -/
def tallyTurnedSpec : ChangeSpec := { name := "tallyTurned", fn := fun _ => fun
  | [d1, d2, d3] => { results := [.lit (.bool true)], args := [d1, d2, d3] }
  | _ => none }
def tallyTurnedRow : OpenClaim := { program := "ytioalgofaiideaa", sum := "3247df9f18eb43d6371567aca3f542d755bbab5e10db73873af1170db7fde6b7", func := "quickchange/qclaw7.TallyTurned", spec := "tallyTurned", unfollowed := true, recurses := true, apart := false }
def TallyTurnedSaid : Prop := tallyTurnedRow.holds Try.pinned (OpenSpec.ofChange tallyTurnedSpec)

/-- ITS FALSE NEIGHBOUR: 'it returns false'. Refute it at one input. -/
def tallyTurnedWrong : ChangeSpec := { name := "tallyTurned", fn := fun _ => fun
  | [d1, d2, d3] => { results := [.lit (.bool false)], args := [d1, d2, d3] }
  | _ => none }
def TallyTurnedWrongFalsely : Prop := tallyTurnedRow.holds Try.pinned (OpenSpec.ofChange tallyTurnedWrong)

/-- 'qclaw1.ValueTells': WHATEVER THE INPUT: true; the input reads as it did. -/
def valueTellsSpec : ChangeSpec := { name := "valueTells", fn := fun _ => fun
  | [d1, d2, d3, d4, d5, d6, d7, d8] => { results := [.lit (.bool true)], args := [d1, d2, d3, d4, d5, d6, d7, d8] }
  | _ => none }
def valueTellsRow : OpenClaim := { program := "ytioalgofaiideaa", sum := "3247df9f18eb43d6371567aca3f542d755bbab5e10db73873af1170db7fde6b7", func := "quickchange/qclaw1.ValueTells", spec := "valueTells", unfollowed := true, recurses := true, apart := false }
def ValueTellsSaid : Prop := valueTellsRow.holds Try.pinned (OpenSpec.ofChange valueTellsSpec)

/-- ITS FALSE NEIGHBOUR: 'it returns false'. Refute it at one input. -/
def valueTellsWrong : ChangeSpec := { name := "valueTells", fn := fun _ => fun
  | [d1, d2, d3, d4, d5, d6, d7, d8] => { results := [.lit (.bool false)], args := [d1, d2, d3, d4, d5, d6, d7, d8] }
  | _ => none }
def ValueTellsWrongFalsely : Prop := valueTellsRow.holds Try.pinned (OpenSpec.ofChange valueTellsWrong)

/-- 'qclaw1.ValueNew': WHATEVER THE INPUT: true; the input reads as it did. -/
def valueNewSpec : ChangeSpec := { name := "valueNew", fn := fun _ => fun
  | [d1, d2, d3] => { results := [.lit (.bool true)], args := [d1, d2, d3] }
  | _ => none }
def valueNewRow : OpenClaim := { program := "ytioalgofaiideaa", sum := "3247df9f18eb43d6371567aca3f542d755bbab5e10db73873af1170db7fde6b7", func := "quickchange/qclaw1.ValueNew", spec := "valueNew", unfollowed := true, recurses := true, apart := false }
def ValueNewSaid : Prop := valueNewRow.holds Try.pinned (OpenSpec.ofChange valueNewSpec)

/-- ITS FALSE NEIGHBOUR: 'it returns false'. Refute it at one input. -/
def valueNewWrong : ChangeSpec := { name := "valueNew", fn := fun _ => fun
  | [d1, d2, d3] => { results := [.lit (.bool false)], args := [d1, d2, d3] }
  | _ => none }
def ValueNewWrongFalsely : Prop := valueNewRow.holds Try.pinned (OpenSpec.ofChange valueNewWrong)

/-- 'qclaw1.ValuePrim': WHATEVER THE INPUT: true; the input reads as it did. -/
def valuePrimSpec : ChangeSpec := { name := "valuePrim", fn := fun _ => fun
  | [d1, d2, d3] => { results := [.lit (.bool true)], args := [d1, d2, d3] }
  | _ => none }
def valuePrimRow : OpenClaim := { program := "ytioalgofaiideaa", sum := "3247df9f18eb43d6371567aca3f542d755bbab5e10db73873af1170db7fde6b7", func := "quickchange/qclaw1.ValuePrim", spec := "valuePrim", unfollowed := true, recurses := true, apart := false }
def ValuePrimSaid : Prop := valuePrimRow.holds Try.pinned (OpenSpec.ofChange valuePrimSpec)

/-- ITS FALSE NEIGHBOUR: 'it returns false'. Refute it at one input. -/
def valuePrimWrong : ChangeSpec := { name := "valuePrim", fn := fun _ => fun
  | [d1, d2, d3] => { results := [.lit (.bool false)], args := [d1, d2, d3] }
  | _ => none }
def ValuePrimWrongFalsely : Prop := valuePrimRow.holds Try.pinned (OpenSpec.ofChange valuePrimWrong)

/-- 'qclaw9.ChooseTells': WHATEVER THE INPUT: true; the input reads as it did. -/
def chooseTellsSpec : ChangeSpec := { name := "chooseTells", fn := fun _ => fun
  | [d1, d2, d3, d4, d5, d6, d7] => { results := [.lit (.bool true)], args := [d1, d2, d3, d4, d5, d6, d7] }
  | _ => none }
def chooseTellsRow : OpenClaim := { program := "ytioalgofaiideaa", sum := "3247df9f18eb43d6371567aca3f542d755bbab5e10db73873af1170db7fde6b7", func := "quickchange/qclaw9.ChooseTells", spec := "chooseTells", unfollowed := true, recurses := true, apart := false }
def ChooseTellsSaid : Prop := chooseTellsRow.holds Try.pinned (OpenSpec.ofChange chooseTellsSpec)

/-- ITS FALSE NEIGHBOUR: 'it returns false'. Refute it at one input. -/
def chooseTellsWrong : ChangeSpec := { name := "chooseTells", fn := fun _ => fun
  | [d1, d2, d3, d4, d5, d6, d7] => { results := [.lit (.bool false)], args := [d1, d2, d3, d4, d5, d6, d7] }
  | _ => none }
def ChooseTellsWrongFalsely : Prop := chooseTellsRow.holds Try.pinned (OpenSpec.ofChange chooseTellsWrong)

/-- 'qclaw9.ChooseMost': WHATEVER THE INPUT: true; the input reads as it did. -/
def chooseMostSpec : ChangeSpec := { name := "chooseMost", fn := fun _ => fun
  | [d1, d2, d3, d4, d5] => { results := [.lit (.bool true)], args := [d1, d2, d3, d4, d5] }
  | _ => none }
def chooseMostRow : OpenClaim := { program := "ytioalgofaiideaa", sum := "3247df9f18eb43d6371567aca3f542d755bbab5e10db73873af1170db7fde6b7", func := "quickchange/qclaw9.ChooseMost", spec := "chooseMost", unfollowed := true, recurses := true, apart := false }
def ChooseMostSaid : Prop := chooseMostRow.holds Try.pinned (OpenSpec.ofChange chooseMostSpec)

/-- ITS FALSE NEIGHBOUR: 'it returns false'. Refute it at one input. -/
def chooseMostWrong : ChangeSpec := { name := "chooseMost", fn := fun _ => fun
  | [d1, d2, d3, d4, d5] => { results := [.lit (.bool false)], args := [d1, d2, d3, d4, d5] }
  | _ => none }
def ChooseMostWrongFalsely : Prop := chooseMostRow.holds Try.pinned (OpenSpec.ofChange chooseMostWrong)

/-- 'qclaw3.CodeTells': WHATEVER THE INPUT: true; the input reads as it did. -/
def codeTellsSpec : ChangeSpec := { name := "codeTells", fn := fun _ => fun
  | [d1, d2, d3] => { results := [.lit (.bool true)], args := [d1, d2, d3] }
  | _ => none }
def codeTellsRow : OpenClaim := { program := "ytioalgofaiideaa", sum := "3247df9f18eb43d6371567aca3f542d755bbab5e10db73873af1170db7fde6b7", func := "quickchange/qclaw3.CodeTells", spec := "codeTells", unfollowed := true, recurses := true, apart := false }
def CodeTellsSaid : Prop := codeTellsRow.holds Try.pinned (OpenSpec.ofChange codeTellsSpec)

/-- ITS FALSE NEIGHBOUR: 'it returns false'. Refute it at one input. -/
def codeTellsWrong : ChangeSpec := { name := "codeTells", fn := fun _ => fun
  | [d1, d2, d3] => { results := [.lit (.bool false)], args := [d1, d2, d3] }
  | _ => none }
def CodeTellsWrongFalsely : Prop := codeTellsRow.holds Try.pinned (OpenSpec.ofChange codeTellsWrong)

/-- 'qclaw3.CodeWays': WHATEVER THE INPUT: true; the input reads as it did. -/
def codeWaysSpec : ChangeSpec := { name := "codeWays", fn := fun _ => fun
  | [d1, d2, d3] => { results := [.lit (.bool true)], args := [d1, d2, d3] }
  | _ => none }
def codeWaysRow : OpenClaim := { program := "ytioalgofaiideaa", sum := "3247df9f18eb43d6371567aca3f542d755bbab5e10db73873af1170db7fde6b7", func := "quickchange/qclaw3.CodeWays", spec := "codeWays", unfollowed := true, recurses := true, apart := false }
def CodeWaysSaid : Prop := codeWaysRow.holds Try.pinned (OpenSpec.ofChange codeWaysSpec)

/-- ITS FALSE NEIGHBOUR: 'it returns false'. Refute it at one input. -/
def codeWaysWrong : ChangeSpec := { name := "codeWays", fn := fun _ => fun
  | [d1, d2, d3] => { results := [.lit (.bool false)], args := [d1, d2, d3] }
  | _ => none }
def CodeWaysWrongFalsely : Prop := codeWaysRow.holds Try.pinned (OpenSpec.ofChange codeWaysWrong)

/-- 'qclaw3.CodeCut': WHATEVER THE INPUT: true; the input reads as it did. -/
def codeCutSpec : ChangeSpec := { name := "codeCut", fn := fun _ => fun
  | [d1, d2, d3] => { results := [.lit (.bool true)], args := [d1, d2, d3] }
  | _ => none }
def codeCutRow : OpenClaim := { program := "ytioalgofaiideaa", sum := "3247df9f18eb43d6371567aca3f542d755bbab5e10db73873af1170db7fde6b7", func := "quickchange/qclaw3.CodeCut", spec := "codeCut", unfollowed := true, recurses := true, apart := false }
def CodeCutSaid : Prop := codeCutRow.holds Try.pinned (OpenSpec.ofChange codeCutSpec)

/-- ITS FALSE NEIGHBOUR: 'it returns false'. Refute it at one input. -/
def codeCutWrong : ChangeSpec := { name := "codeCut", fn := fun _ => fun
  | [d1, d2, d3] => { results := [.lit (.bool false)], args := [d1, d2, d3] }
  | _ => none }
def CodeCutWrongFalsely : Prop := codeCutRow.holds Try.pinned (OpenSpec.ofChange codeCutWrong)

/-- 'qctop.Names': WHATEVER THE INPUT: true; the input reads as it did. -/
def namesSpec : ChangeSpec := { name := "names", fn := fun _ => fun
  | [] => { results := [.lit (.bool true)], args := [] }
  | _ => none }
def namesRow : OpenClaim := { program := "ytioalgofaiideaa", sum := "3247df9f18eb43d6371567aca3f542d755bbab5e10db73873af1170db7fde6b7", func := "quickchange/qctop.Names", spec := "names", apart := false }
def NamesSaid : Prop := namesRow.holds Try.pinned (OpenSpec.ofChange namesSpec)

/-- ITS FALSE NEIGHBOUR: 'it returns false'. Refute it at one input. -/
def namesWrong : ChangeSpec := { name := "names", fn := fun _ => fun
  | [] => { results := [.lit (.bool false)], args := [] }
  | _ => none }
def NamesWrongFalsely : Prop := namesRow.holds Try.pinned (OpenSpec.ofChange namesWrong)

/- THE SECOND FORM. 'bulk': how many values and letters a reading holds, each counted each time it is reached (what is shared counts as often as it is met; a slice's spare places count too). A statement '..UptoSaid' is the law's where the arguments, and the package variables that the reading takes, are together of bulk at most 1048576: NARROWER than '..Said'. Prove '..Said' where nothing that the law and all that it calls make is longer than what came in: it says more and counts as full. Else prove '..UptoSaid'. A law counts once. -/
mutual
def uptoBulk {H : Type} : DataW H → Nat
  | .lit (.string bytes) => bytes.length + 1
  | .lit _ => 1
  | .nil => 1
  | .ptr d => uptoBulk d + 1
  | .slice elems spare => uptoBulkAll elems + uptoBulkAll spare + 1
  | .agg parts => uptoBulkAll parts + 1
  | .iface _ d => uptoBulk d + 1
  | .map entries => uptoBulkEntries entries + 1
  | .held _ => 1
def uptoBulkAll {H : Type} : List (DataW H) → Nat
  | [] => 0
  | d :: r => uptoBulk d + uptoBulkAll r
def uptoBulkEntries {H : Type} : List (Lit × DataW H) → Nat
  | [] => 0
  | x :: r => uptoBulkEntry x + uptoBulkEntries r
def uptoBulkEntry {H : Type} : Lit × DataW H → Nat
  | (.string bytes, d) => bytes.length + uptoBulk d + 1
  | (_, d) => uptoBulk d + 1
 end
def uptoSmall : (H : Type) → List (DataW H) → Bool := fun _ ds => decide (uptoBulkAll ds ≤ 1048576)
def OpenSpec.upto (s : _root_.Go.ChangeSpec) : _root_.Go.OpenSpec := { _root_.Go.OpenSpec.ofChange s with cond := some uptoSmall }

/-- 'qclaw7.TallyTells', WHERE WHAT IT READS IS OF BULK AT MOST 1048576: true; the input reads as it did. -/
def tallyTellsUptoRow : OpenClaim := { program := "ytioalgofaiideaa", sum := "3247df9f18eb43d6371567aca3f542d755bbab5e10db73873af1170db7fde6b7", func := "quickchange/qclaw7.TallyTells", spec := "tallyTells", unfollowed := true, recurses := true, apart := false, narrowed := true }
def TallyTellsUptoSaid : Prop := tallyTellsUptoRow.holds Try.pinned (OpenSpec.upto tallyTellsSpec)

/-- 'qclaw7.TallyTurned', WHERE WHAT IT READS IS OF BULK AT MOST 1048576: true; the input reads as it did. -/
def tallyTurnedUptoRow : OpenClaim := { program := "ytioalgofaiideaa", sum := "3247df9f18eb43d6371567aca3f542d755bbab5e10db73873af1170db7fde6b7", func := "quickchange/qclaw7.TallyTurned", spec := "tallyTurned", unfollowed := true, recurses := true, apart := false, narrowed := true }
def TallyTurnedUptoSaid : Prop := tallyTurnedUptoRow.holds Try.pinned (OpenSpec.upto tallyTurnedSpec)

/-- 'qclaw1.ValueTells', WHERE WHAT IT READS IS OF BULK AT MOST 1048576: true; the input reads as it did. -/
def valueTellsUptoRow : OpenClaim := { program := "ytioalgofaiideaa", sum := "3247df9f18eb43d6371567aca3f542d755bbab5e10db73873af1170db7fde6b7", func := "quickchange/qclaw1.ValueTells", spec := "valueTells", unfollowed := true, recurses := true, apart := false, narrowed := true }
def ValueTellsUptoSaid : Prop := valueTellsUptoRow.holds Try.pinned (OpenSpec.upto valueTellsSpec)

/-- 'qclaw1.ValueNew', WHERE WHAT IT READS IS OF BULK AT MOST 1048576: true; the input reads as it did. -/
def valueNewUptoRow : OpenClaim := { program := "ytioalgofaiideaa", sum := "3247df9f18eb43d6371567aca3f542d755bbab5e10db73873af1170db7fde6b7", func := "quickchange/qclaw1.ValueNew", spec := "valueNew", unfollowed := true, recurses := true, apart := false, narrowed := true }
def ValueNewUptoSaid : Prop := valueNewUptoRow.holds Try.pinned (OpenSpec.upto valueNewSpec)

/-- 'qclaw1.ValuePrim', WHERE WHAT IT READS IS OF BULK AT MOST 1048576: true; the input reads as it did. -/
def valuePrimUptoRow : OpenClaim := { program := "ytioalgofaiideaa", sum := "3247df9f18eb43d6371567aca3f542d755bbab5e10db73873af1170db7fde6b7", func := "quickchange/qclaw1.ValuePrim", spec := "valuePrim", unfollowed := true, recurses := true, apart := false, narrowed := true }
def ValuePrimUptoSaid : Prop := valuePrimUptoRow.holds Try.pinned (OpenSpec.upto valuePrimSpec)

/-- 'qclaw9.ChooseTells', WHERE WHAT IT READS IS OF BULK AT MOST 1048576: true; the input reads as it did. -/
def chooseTellsUptoRow : OpenClaim := { program := "ytioalgofaiideaa", sum := "3247df9f18eb43d6371567aca3f542d755bbab5e10db73873af1170db7fde6b7", func := "quickchange/qclaw9.ChooseTells", spec := "chooseTells", unfollowed := true, recurses := true, apart := false, narrowed := true }
def ChooseTellsUptoSaid : Prop := chooseTellsUptoRow.holds Try.pinned (OpenSpec.upto chooseTellsSpec)

/-- 'qclaw9.ChooseMost', WHERE WHAT IT READS IS OF BULK AT MOST 1048576: true; the input reads as it did. -/
def chooseMostUptoRow : OpenClaim := { program := "ytioalgofaiideaa", sum := "3247df9f18eb43d6371567aca3f542d755bbab5e10db73873af1170db7fde6b7", func := "quickchange/qclaw9.ChooseMost", spec := "chooseMost", unfollowed := true, recurses := true, apart := false, narrowed := true }
def ChooseMostUptoSaid : Prop := chooseMostUptoRow.holds Try.pinned (OpenSpec.upto chooseMostSpec)

/-- 'qclaw3.CodeTells', WHERE WHAT IT READS IS OF BULK AT MOST 1048576: true; the input reads as it did. -/
def codeTellsUptoRow : OpenClaim := { program := "ytioalgofaiideaa", sum := "3247df9f18eb43d6371567aca3f542d755bbab5e10db73873af1170db7fde6b7", func := "quickchange/qclaw3.CodeTells", spec := "codeTells", unfollowed := true, recurses := true, apart := false, narrowed := true }
def CodeTellsUptoSaid : Prop := codeTellsUptoRow.holds Try.pinned (OpenSpec.upto codeTellsSpec)

/-- 'qclaw3.CodeWays', WHERE WHAT IT READS IS OF BULK AT MOST 1048576: true; the input reads as it did. -/
def codeWaysUptoRow : OpenClaim := { program := "ytioalgofaiideaa", sum := "3247df9f18eb43d6371567aca3f542d755bbab5e10db73873af1170db7fde6b7", func := "quickchange/qclaw3.CodeWays", spec := "codeWays", unfollowed := true, recurses := true, apart := false, narrowed := true }
def CodeWaysUptoSaid : Prop := codeWaysUptoRow.holds Try.pinned (OpenSpec.upto codeWaysSpec)

/-- 'qclaw3.CodeCut', WHERE WHAT IT READS IS OF BULK AT MOST 1048576: true; the input reads as it did. -/
def codeCutUptoRow : OpenClaim := { program := "ytioalgofaiideaa", sum := "3247df9f18eb43d6371567aca3f542d755bbab5e10db73873af1170db7fde6b7", func := "quickchange/qclaw3.CodeCut", spec := "codeCut", unfollowed := true, recurses := true, apart := false, narrowed := true }
def CodeCutUptoSaid : Prop := codeCutUptoRow.holds Try.pinned (OpenSpec.upto codeCutSpec)

/-- 'qctop.Names', WHERE WHAT IT READS IS OF BULK AT MOST 1048576: true; the input reads as it did. -/
def namesUptoRow : OpenClaim := { program := "ytioalgofaiideaa", sum := "3247df9f18eb43d6371567aca3f542d755bbab5e10db73873af1170db7fde6b7", func := "quickchange/qctop.Names", spec := "names", apart := false, narrowed := true }
def NamesUptoSaid : Prop := namesUptoRow.holds Try.pinned (OpenSpec.upto namesSpec)

end Rows
end Go.Proofs.Ytioalgofaiideaa
