/-
  NARROWER THAN 'FOR EVERY INPUT', by the rows' own cells (each row's printed sentence says how): TopSum: laid · TopChanged: laid · WireTells: laid · SessionTells: laid · SessionWays: laid · SessionRight: laid · SessionBack: laid · TopOther: laid · TopEnd: laid.
  DERIVED. THE GIVEN ROWS OF THIS SEAT. 9 by the template 'for every input the law returns true; each argument reads behind the call as it read before'; 0 by the template 'total and deterministic' (their statements: YtibjcppjfkamhaaGreatDoorTotals.lean).
  GIVEN WITH THE SEED: the statements are not yours to turn. If you find one false, say at which input.
  Laid BY PROGRAM, IN A SANDBOX (cutbox-rows.mjs): the forced cells as the released guide's own fill.sh prints them over the translation 69eef78e364731f8… (all of the seat's roots in one cut). By AI agents, Wed Nov 11 2026. No macro, syntax, notation, axiom, sorry.
-/
import Derived.Test.YtibjcppjfkamhaaGreatDoorChecked
import GoSem.Claim
import GoSem.ClaimJoined
import GoSem.ClaimMapViews
import Derived.JoinedTies
import Derived.KernelRfl
namespace Go.Proofs.YtibjcppjfkamhaaGreatDoor
/- THE CELL 'sum', in the pinned program and in every row, IS THE sha256 OF THE DUMP (.gsa) THAT YtibjcppjfkamhaaGreatDoorProg.lean LOADS. Nothing in Lean hashes anything: it is a label: what it is worth is what the hold of that sum in a sandbox is worth. -/
noncomputable def Tryz.pinned : Pinned := { name := "ytibjcppjfkamhaagreatdoor", sum := "69eef78e364731f83a7780c1adf2ca3b5f338d32b5a4d30db55d0e49eab053b0", checked := Tryz.checked }
namespace Rows
def none {H : Type} : Left H := { results := [], args := [] }

/- WHAT THE LISTED PACKAGE-LEVEL VARIABLES READ AS WHEN THE CALL BEGINS. Each datum BY PROGRAM (the guide's laid-datum.mjs) off the statement by which the dump's own 'gosem.cut.vars' lays the variable. In a bare row this is a premise. The card (YtibjcppjfkamhaaGreatDoorCards.lean) ties it to the program's text. -/
def laid_math_bits_deBruijn32tab {H : Type} : DataW H := .agg [.lit (.int .u8 0), .lit (.int .u8 1), .lit (.int .u8 28), .lit (.int .u8 2), .lit (.int .u8 29), .lit (.int .u8 14), .lit (.int .u8 24), .lit (.int .u8 3), .lit (.int .u8 30), .lit (.int .u8 22), .lit (.int .u8 20), .lit (.int .u8 15), .lit (.int .u8 25), .lit (.int .u8 17), .lit (.int .u8 4), .lit (.int .u8 8), .lit (.int .u8 31), .lit (.int .u8 27), .lit (.int .u8 13), .lit (.int .u8 23), .lit (.int .u8 21), .lit (.int .u8 19), .lit (.int .u8 16), .lit (.int .u8 7), .lit (.int .u8 26), .lit (.int .u8 12), .lit (.int .u8 18), .lit (.int .u8 6), .lit (.int .u8 11), .lit (.int .u8 5), .lit (.int .u8 10), .lit (.int .u8 9)]
def laid_math_bits_deBruijn64tab {H : Type} : DataW H := .agg [.lit (.int .u8 0), .lit (.int .u8 1), .lit (.int .u8 56), .lit (.int .u8 2), .lit (.int .u8 57), .lit (.int .u8 49), .lit (.int .u8 28), .lit (.int .u8 3), .lit (.int .u8 61), .lit (.int .u8 58), .lit (.int .u8 42), .lit (.int .u8 50), .lit (.int .u8 38), .lit (.int .u8 29), .lit (.int .u8 17), .lit (.int .u8 4), .lit (.int .u8 62), .lit (.int .u8 47), .lit (.int .u8 59), .lit (.int .u8 36), .lit (.int .u8 45), .lit (.int .u8 43), .lit (.int .u8 51), .lit (.int .u8 22), .lit (.int .u8 53), .lit (.int .u8 39), .lit (.int .u8 33), .lit (.int .u8 30), .lit (.int .u8 24), .lit (.int .u8 18), .lit (.int .u8 12), .lit (.int .u8 5), .lit (.int .u8 63), .lit (.int .u8 55), .lit (.int .u8 48), .lit (.int .u8 27), .lit (.int .u8 60), .lit (.int .u8 41), .lit (.int .u8 37), .lit (.int .u8 16), .lit (.int .u8 46), .lit (.int .u8 35), .lit (.int .u8 44), .lit (.int .u8 21), .lit (.int .u8 52), .lit (.int .u8 32), .lit (.int .u8 23), .lit (.int .u8 11), .lit (.int .u8 54), .lit (.int .u8 26), .lit (.int .u8 40), .lit (.int .u8 15), .lit (.int .u8 34), .lit (.int .u8 20), .lit (.int .u8 31), .lit (.int .u8 10), .lit (.int .u8 25), .lit (.int .u8 14), .lit (.int .u8 19), .lit (.int .u8 9), .lit (.int .u8 13), .lit (.int .u8 8), .lit (.int .u8 7), .lit (.int .u8 6)]
def laid_internal_strconv_uint64pow10 {H : Type} : DataW H := .agg [.lit (.int .u64 1), .lit (.int .u64 10), .lit (.int .u64 100), .lit (.int .u64 1000), .lit (.int .u64 10000), .lit (.int .u64 100000), .lit (.int .u64 1000000), .lit (.int .u64 10000000), .lit (.int .u64 100000000), .lit (.int .u64 1000000000), .lit (.int .u64 10000000000), .lit (.int .u64 100000000000), .lit (.int .u64 1000000000000), .lit (.int .u64 10000000000000), .lit (.int .u64 100000000000000), .lit (.int .u64 1000000000000000), .lit (.int .u64 10000000000000000), .lit (.int .u64 100000000000000000), .lit (.int .u64 1000000000000000000), .lit (.int .u64 10000000000000000000)]
def laid_strconv_ErrRange {H : Type} : DataW H := .iface "*errors.errorString" (.ptr (.agg [.lit (.string [118, 97, 108, 117, 101, 32, 111, 117, 116, 32, 111, 102, 32, 114, 97, 110, 103, 101])]))
def laid_strconv_ErrSyntax {H : Type} : DataW H := .iface "*errors.errorString" (.ptr (.agg [.lit (.string [105, 110, 118, 97, 108, 105, 100, 32, 115, 121, 110, 116, 97, 120])]))

/-- 'qctop.TopSum': WHATEVER THE INPUT: true; the input reads as it did. -/
def topSumSpec : ChangeSpec := { name := "topSum", fn := fun _ => fun
  | [d1, d2, d3] => { results := [.lit (.bool true)], args := [d1, d2, d3] }
  | _ => none }
def topSumRow : OpenClaim := { program := "ytibjcppjfkamhaagreatdoor", sum := "69eef78e364731f83a7780c1adf2ca3b5f338d32b5a4d30db55d0e49eab053b0", func := "quickchange/qctop.TopSum", spec := "topSum", inPlace := ["slices.overlaps[quickchange/api.Method]", "internal/abi.NoEscape", "internal/bytealg.IndexByteString", "internal/bytealg.IndexString"], unfollowed := true, recurses := true, named := ["internal/strconv.uint64pow10", "math/bits.deBruijn32tab", "math/bits.deBruijn64tab", "internal/bytealg.MaxLen", "strconv.ErrSyntax", "strconv.ErrRange"], apart := false, laid := [("math/bits.deBruijn32tab", laid_math_bits_deBruijn32tab), ("math/bits.deBruijn64tab", laid_math_bits_deBruijn64tab), ("internal/strconv.uint64pow10", laid_internal_strconv_uint64pow10), ("strconv.ErrRange", laid_strconv_ErrRange), ("strconv.ErrSyntax", laid_strconv_ErrSyntax)] }
def TopSumSaid : Prop := topSumRow.holds Tryz.pinned (OpenSpec.ofChange topSumSpec)

/-- ITS FALSE NEIGHBOUR: 'it returns false'. Refute it at one input. -/
def topSumWrong : ChangeSpec := { name := "topSum", fn := fun _ => fun
  | [d1, d2, d3] => { results := [.lit (.bool false)], args := [d1, d2, d3] }
  | _ => none }
def TopSumWrongFalsely : Prop := topSumRow.holds Tryz.pinned (OpenSpec.ofChange topSumWrong)

/-- 'qctop.TopChanged': WHATEVER THE INPUT: true; the input reads as it did. -/
def topChangedSpec : ChangeSpec := { name := "topChanged", fn := fun _ => fun
  | [d1, d2, d3] => { results := [.lit (.bool true)], args := [d1, d2, d3] }
  | _ => none }
def topChangedRow : OpenClaim := { program := "ytibjcppjfkamhaagreatdoor", sum := "69eef78e364731f83a7780c1adf2ca3b5f338d32b5a4d30db55d0e49eab053b0", func := "quickchange/qctop.TopChanged", spec := "topChanged", inPlace := ["slices.overlaps[quickchange/api.Method]", "internal/abi.NoEscape", "internal/bytealg.IndexByteString", "internal/bytealg.IndexString"], unfollowed := true, recurses := true, named := ["internal/strconv.uint64pow10", "math/bits.deBruijn32tab", "math/bits.deBruijn64tab", "internal/bytealg.MaxLen", "strconv.ErrSyntax", "strconv.ErrRange"], apart := false, laid := [("math/bits.deBruijn32tab", laid_math_bits_deBruijn32tab), ("math/bits.deBruijn64tab", laid_math_bits_deBruijn64tab), ("internal/strconv.uint64pow10", laid_internal_strconv_uint64pow10), ("strconv.ErrRange", laid_strconv_ErrRange), ("strconv.ErrSyntax", laid_strconv_ErrSyntax)] }
def TopChangedSaid : Prop := topChangedRow.holds Tryz.pinned (OpenSpec.ofChange topChangedSpec)

/-- ITS FALSE NEIGHBOUR: 'it returns false'. Refute it at one input. -/
def topChangedWrong : ChangeSpec := { name := "topChanged", fn := fun _ => fun
  | [d1, d2, d3] => { results := [.lit (.bool false)], args := [d1, d2, d3] }
  | _ => none }
def TopChangedWrongFalsely : Prop := topChangedRow.holds Tryz.pinned (OpenSpec.ofChange topChangedWrong)

/-- 'qclaw4.WireTells': WHATEVER THE INPUT: true; the input reads as it did. -/
def wireTellsSpec : ChangeSpec := { name := "wireTells", fn := fun _ => fun
  | [d1, d2] => { results := [.lit (.bool true)], args := [d1, d2] }
  | _ => none }
def wireTellsRow : OpenClaim := { program := "ytibjcppjfkamhaagreatdoor", sum := "69eef78e364731f83a7780c1adf2ca3b5f338d32b5a4d30db55d0e49eab053b0", func := "quickchange/qclaw4.WireTells", spec := "wireTells", inPlace := ["internal/abi.NoEscape", "internal/bytealg.IndexByteString", "internal/bytealg.IndexString"], unfollowed := true, recurses := true, named := ["internal/strconv.uint64pow10", "math/bits.deBruijn32tab", "math/bits.deBruijn64tab", "internal/bytealg.MaxLen", "strconv.ErrSyntax", "strconv.ErrRange"], apart := false, laid := [("math/bits.deBruijn32tab", laid_math_bits_deBruijn32tab), ("math/bits.deBruijn64tab", laid_math_bits_deBruijn64tab), ("internal/strconv.uint64pow10", laid_internal_strconv_uint64pow10), ("strconv.ErrRange", laid_strconv_ErrRange), ("strconv.ErrSyntax", laid_strconv_ErrSyntax)] }
def WireTellsSaid : Prop := wireTellsRow.holds Tryz.pinned (OpenSpec.ofChange wireTellsSpec)

/-- ITS FALSE NEIGHBOUR: 'it returns false'. Refute it at one input. -/
def wireTellsWrong : ChangeSpec := { name := "wireTells", fn := fun _ => fun
  | [d1, d2] => { results := [.lit (.bool false)], args := [d1, d2] }
  | _ => none }
def WireTellsWrongFalsely : Prop := wireTellsRow.holds Tryz.pinned (OpenSpec.ofChange wireTellsWrong)

/-- 'qclaw12.SessionTells': WHATEVER THE INPUT: true; the input reads as it did. -/
def sessionTellsSpec : ChangeSpec := { name := "sessionTells", fn := fun _ => fun
  | [d] => { results := [.lit (.bool true)], args := [d] }
  | _ => none }
def sessionTellsRow : OpenClaim := { program := "ytibjcppjfkamhaagreatdoor", sum := "69eef78e364731f83a7780c1adf2ca3b5f338d32b5a4d30db55d0e49eab053b0", func := "quickchange/qclaw12.SessionTells", spec := "sessionTells", inPlace := ["slices.overlaps[quickchange/api.Method]", "internal/abi.NoEscape", "internal/bytealg.IndexByteString", "internal/bytealg.IndexString"], unfollowed := true, recurses := true, named := ["internal/strconv.uint64pow10", "math/bits.deBruijn32tab", "math/bits.deBruijn64tab", "internal/bytealg.MaxLen", "strconv.ErrSyntax", "strconv.ErrRange"], apart := false, laid := [("math/bits.deBruijn32tab", laid_math_bits_deBruijn32tab), ("math/bits.deBruijn64tab", laid_math_bits_deBruijn64tab), ("internal/strconv.uint64pow10", laid_internal_strconv_uint64pow10), ("strconv.ErrRange", laid_strconv_ErrRange), ("strconv.ErrSyntax", laid_strconv_ErrSyntax)] }
def SessionTellsSaid : Prop := sessionTellsRow.holds Tryz.pinned (OpenSpec.ofChange sessionTellsSpec)

/-- ITS FALSE NEIGHBOUR: 'it returns false'. Refute it at one input. -/
def sessionTellsWrong : ChangeSpec := { name := "sessionTells", fn := fun _ => fun
  | [d] => { results := [.lit (.bool false)], args := [d] }
  | _ => none }
def SessionTellsWrongFalsely : Prop := sessionTellsRow.holds Tryz.pinned (OpenSpec.ofChange sessionTellsWrong)

/-- 'qclaw12.SessionWays': WHATEVER THE INPUT: true; the input reads as it did. -/
def sessionWaysSpec : ChangeSpec := { name := "sessionWays", fn := fun _ => fun
  | [d1, d2] => { results := [.lit (.bool true)], args := [d1, d2] }
  | _ => none }
def sessionWaysRow : OpenClaim := { program := "ytibjcppjfkamhaagreatdoor", sum := "69eef78e364731f83a7780c1adf2ca3b5f338d32b5a4d30db55d0e49eab053b0", func := "quickchange/qclaw12.SessionWays", spec := "sessionWays", inPlace := ["slices.overlaps[quickchange/api.Method]", "internal/abi.NoEscape", "internal/bytealg.IndexByteString", "internal/bytealg.IndexString"], unfollowed := true, recurses := true, named := ["internal/strconv.uint64pow10", "math/bits.deBruijn32tab", "math/bits.deBruijn64tab", "internal/bytealg.MaxLen", "strconv.ErrSyntax", "strconv.ErrRange"], apart := false, laid := [("math/bits.deBruijn32tab", laid_math_bits_deBruijn32tab), ("math/bits.deBruijn64tab", laid_math_bits_deBruijn64tab), ("internal/strconv.uint64pow10", laid_internal_strconv_uint64pow10), ("strconv.ErrRange", laid_strconv_ErrRange), ("strconv.ErrSyntax", laid_strconv_ErrSyntax)] }
def SessionWaysSaid : Prop := sessionWaysRow.holds Tryz.pinned (OpenSpec.ofChange sessionWaysSpec)

/-- ITS FALSE NEIGHBOUR: 'it returns false'. Refute it at one input. -/
def sessionWaysWrong : ChangeSpec := { name := "sessionWays", fn := fun _ => fun
  | [d1, d2] => { results := [.lit (.bool false)], args := [d1, d2] }
  | _ => none }
def SessionWaysWrongFalsely : Prop := sessionWaysRow.holds Tryz.pinned (OpenSpec.ofChange sessionWaysWrong)

/-- 'qclaw12.SessionRight': WHATEVER THE INPUT: true; the input reads as it did. -/
def sessionRightSpec : ChangeSpec := { name := "sessionRight", fn := fun _ => fun
  | [d] => { results := [.lit (.bool true)], args := [d] }
  | _ => none }
def sessionRightRow : OpenClaim := { program := "ytibjcppjfkamhaagreatdoor", sum := "69eef78e364731f83a7780c1adf2ca3b5f338d32b5a4d30db55d0e49eab053b0", func := "quickchange/qclaw12.SessionRight", spec := "sessionRight", inPlace := ["slices.overlaps[quickchange/api.Method]", "internal/abi.NoEscape", "internal/bytealg.IndexByteString", "internal/bytealg.IndexString"], unfollowed := true, recurses := true, named := ["internal/strconv.uint64pow10", "math/bits.deBruijn32tab", "math/bits.deBruijn64tab", "internal/bytealg.MaxLen", "strconv.ErrSyntax", "strconv.ErrRange"], apart := false, laid := [("math/bits.deBruijn32tab", laid_math_bits_deBruijn32tab), ("math/bits.deBruijn64tab", laid_math_bits_deBruijn64tab), ("internal/strconv.uint64pow10", laid_internal_strconv_uint64pow10), ("strconv.ErrRange", laid_strconv_ErrRange), ("strconv.ErrSyntax", laid_strconv_ErrSyntax)] }
def SessionRightSaid : Prop := sessionRightRow.holds Tryz.pinned (OpenSpec.ofChange sessionRightSpec)

/-- ITS FALSE NEIGHBOUR: 'it returns false'. Refute it at one input. -/
def sessionRightWrong : ChangeSpec := { name := "sessionRight", fn := fun _ => fun
  | [d] => { results := [.lit (.bool false)], args := [d] }
  | _ => none }
def SessionRightWrongFalsely : Prop := sessionRightRow.holds Tryz.pinned (OpenSpec.ofChange sessionRightWrong)

/-- 'qclaw12.SessionBack': WHATEVER THE INPUT: true; the input reads as it did. -/
def sessionBackSpec : ChangeSpec := { name := "sessionBack", fn := fun _ => fun
  | [d1, d2] => { results := [.lit (.bool true)], args := [d1, d2] }
  | _ => none }
def sessionBackRow : OpenClaim := { program := "ytibjcppjfkamhaagreatdoor", sum := "69eef78e364731f83a7780c1adf2ca3b5f338d32b5a4d30db55d0e49eab053b0", func := "quickchange/qclaw12.SessionBack", spec := "sessionBack", inPlace := ["slices.overlaps[quickchange/api.Method]", "internal/abi.NoEscape", "internal/bytealg.IndexByteString", "internal/bytealg.IndexString"], unfollowed := true, recurses := true, named := ["internal/strconv.uint64pow10", "math/bits.deBruijn32tab", "math/bits.deBruijn64tab", "internal/bytealg.MaxLen", "strconv.ErrSyntax", "strconv.ErrRange"], apart := false, laid := [("math/bits.deBruijn32tab", laid_math_bits_deBruijn32tab), ("math/bits.deBruijn64tab", laid_math_bits_deBruijn64tab), ("internal/strconv.uint64pow10", laid_internal_strconv_uint64pow10), ("strconv.ErrRange", laid_strconv_ErrRange), ("strconv.ErrSyntax", laid_strconv_ErrSyntax)] }
def SessionBackSaid : Prop := sessionBackRow.holds Tryz.pinned (OpenSpec.ofChange sessionBackSpec)

/-- ITS FALSE NEIGHBOUR: 'it returns false'. Refute it at one input. -/
def sessionBackWrong : ChangeSpec := { name := "sessionBack", fn := fun _ => fun
  | [d1, d2] => { results := [.lit (.bool false)], args := [d1, d2] }
  | _ => none }
def SessionBackWrongFalsely : Prop := sessionBackRow.holds Tryz.pinned (OpenSpec.ofChange sessionBackWrong)

/-- 'qctop.TopOther': WHATEVER THE INPUT: true; the input reads as it did. -/
def topOtherSpec : ChangeSpec := { name := "topOther", fn := fun _ => fun
  | [d1, d2, d3] => { results := [.lit (.bool true)], args := [d1, d2, d3] }
  | _ => none }
def topOtherRow : OpenClaim := { program := "ytibjcppjfkamhaagreatdoor", sum := "69eef78e364731f83a7780c1adf2ca3b5f338d32b5a4d30db55d0e49eab053b0", func := "quickchange/qctop.TopOther", spec := "topOther", inPlace := ["slices.overlaps[quickchange/api.Method]", "internal/abi.NoEscape", "internal/bytealg.IndexByteString", "internal/bytealg.IndexString"], unfollowed := true, recurses := true, named := ["internal/strconv.uint64pow10", "math/bits.deBruijn32tab", "math/bits.deBruijn64tab", "internal/bytealg.MaxLen", "strconv.ErrSyntax", "strconv.ErrRange"], apart := false, laid := [("math/bits.deBruijn32tab", laid_math_bits_deBruijn32tab), ("math/bits.deBruijn64tab", laid_math_bits_deBruijn64tab), ("internal/strconv.uint64pow10", laid_internal_strconv_uint64pow10), ("strconv.ErrRange", laid_strconv_ErrRange), ("strconv.ErrSyntax", laid_strconv_ErrSyntax)] }
def TopOtherSaid : Prop := topOtherRow.holds Tryz.pinned (OpenSpec.ofChange topOtherSpec)

/-- ITS FALSE NEIGHBOUR: 'it returns false'. Refute it at one input. -/
def topOtherWrong : ChangeSpec := { name := "topOther", fn := fun _ => fun
  | [d1, d2, d3] => { results := [.lit (.bool false)], args := [d1, d2, d3] }
  | _ => none }
def TopOtherWrongFalsely : Prop := topOtherRow.holds Tryz.pinned (OpenSpec.ofChange topOtherWrong)

/-- 'qctop.TopEnd': WHATEVER THE INPUT: true; the input reads as it did. -/
def topEndSpec : ChangeSpec := { name := "topEnd", fn := fun _ => fun
  | [d1, d2] => { results := [.lit (.bool true)], args := [d1, d2] }
  | _ => none }
def topEndRow : OpenClaim := { program := "ytibjcppjfkamhaagreatdoor", sum := "69eef78e364731f83a7780c1adf2ca3b5f338d32b5a4d30db55d0e49eab053b0", func := "quickchange/qctop.TopEnd", spec := "topEnd", inPlace := ["slices.overlaps[quickchange/api.Method]", "internal/abi.NoEscape", "internal/bytealg.IndexByteString", "internal/bytealg.IndexString"], unfollowed := true, recurses := true, named := ["internal/strconv.uint64pow10", "math/bits.deBruijn32tab", "math/bits.deBruijn64tab", "internal/bytealg.MaxLen", "strconv.ErrSyntax", "strconv.ErrRange"], apart := false, laid := [("math/bits.deBruijn32tab", laid_math_bits_deBruijn32tab), ("math/bits.deBruijn64tab", laid_math_bits_deBruijn64tab), ("internal/strconv.uint64pow10", laid_internal_strconv_uint64pow10), ("strconv.ErrRange", laid_strconv_ErrRange), ("strconv.ErrSyntax", laid_strconv_ErrSyntax)] }
def TopEndSaid : Prop := topEndRow.holds Tryz.pinned (OpenSpec.ofChange topEndSpec)

/-- ITS FALSE NEIGHBOUR: 'it returns false'. Refute it at one input. -/
def topEndWrong : ChangeSpec := { name := "topEnd", fn := fun _ => fun
  | [d1, d2] => { results := [.lit (.bool false)], args := [d1, d2] }
  | _ => none }
def TopEndWrongFalsely : Prop := topEndRow.holds Tryz.pinned (OpenSpec.ofChange topEndWrong)

/- THE SECOND FORM. 'bulk': how many values and letters a reading holds, each counted each time it is reached (what is shared counts as often as it is met; a slice's spare places count too). A statement '..UptoSaid' is the law's where the arguments, and the package variables that the reading takes, are together of bulk at most 1048576: NARROWER than '..Said'. Prove '..Said' where nothing that the law and all that it calls make is longer than what came in: it says more and counts as full. Else prove '..UptoSaid'. A law counts once. -/
mutual
def uptoBulk {H : Type} : DataW H → Nat
  | .lit (.string bytes) => bytes.length + 1
  | .lit _ => 1
  | .nil => 1
  | .ptr d => uptoBulk d + 1
  | .slice elems spare => uptoBulkAll elems + uptoBulkAll spare + 1
  | .agg parts => uptoBulkAll parts + 1
  | .iface _ d => uptoBulk d + 1
  | .map entries => uptoBulkEntries entries + 1
  | .held _ => 1
def uptoBulkAll {H : Type} : List (DataW H) → Nat
  | [] => 0
  | d :: r => uptoBulk d + uptoBulkAll r
def uptoBulkEntries {H : Type} : List (Lit × DataW H) → Nat
  | [] => 0
  | x :: r => uptoBulkEntry x + uptoBulkEntries r
def uptoBulkEntry {H : Type} : Lit × DataW H → Nat
  | (.string bytes, d) => bytes.length + uptoBulk d + 1
  | (_, d) => uptoBulk d + 1
 end
def uptoSmall : (H : Type) → List (DataW H) → Bool := fun _ ds => decide (uptoBulkAll ds ≤ 1048576)
def OpenSpec.upto (s : _root_.Go.ChangeSpec) : _root_.Go.OpenSpec := { _root_.Go.OpenSpec.ofChange s with cond := some uptoSmall }

/-- 'qctop.TopSum', WHERE WHAT IT READS IS OF BULK AT MOST 1048576: true; the input reads as it did. -/
def topSumUptoRow : OpenClaim := { program := "ytibjcppjfkamhaagreatdoor", sum := "69eef78e364731f83a7780c1adf2ca3b5f338d32b5a4d30db55d0e49eab053b0", func := "quickchange/qctop.TopSum", spec := "topSum", inPlace := ["slices.overlaps[quickchange/api.Method]", "internal/abi.NoEscape", "internal/bytealg.IndexByteString", "internal/bytealg.IndexString"], unfollowed := true, recurses := true, named := ["internal/strconv.uint64pow10", "math/bits.deBruijn32tab", "math/bits.deBruijn64tab", "internal/bytealg.MaxLen", "strconv.ErrSyntax", "strconv.ErrRange"], apart := false, laid := [("math/bits.deBruijn32tab", laid_math_bits_deBruijn32tab), ("math/bits.deBruijn64tab", laid_math_bits_deBruijn64tab), ("internal/strconv.uint64pow10", laid_internal_strconv_uint64pow10), ("strconv.ErrRange", laid_strconv_ErrRange), ("strconv.ErrSyntax", laid_strconv_ErrSyntax)], narrowed := true }
def TopSumUptoSaid : Prop := topSumUptoRow.holds Tryz.pinned (OpenSpec.upto topSumSpec)

/-- 'qctop.TopChanged', WHERE WHAT IT READS IS OF BULK AT MOST 1048576: true; the input reads as it did. -/
def topChangedUptoRow : OpenClaim := { program := "ytibjcppjfkamhaagreatdoor", sum := "69eef78e364731f83a7780c1adf2ca3b5f338d32b5a4d30db55d0e49eab053b0", func := "quickchange/qctop.TopChanged", spec := "topChanged", inPlace := ["slices.overlaps[quickchange/api.Method]", "internal/abi.NoEscape", "internal/bytealg.IndexByteString", "internal/bytealg.IndexString"], unfollowed := true, recurses := true, named := ["internal/strconv.uint64pow10", "math/bits.deBruijn32tab", "math/bits.deBruijn64tab", "internal/bytealg.MaxLen", "strconv.ErrSyntax", "strconv.ErrRange"], apart := false, laid := [("math/bits.deBruijn32tab", laid_math_bits_deBruijn32tab), ("math/bits.deBruijn64tab", laid_math_bits_deBruijn64tab), ("internal/strconv.uint64pow10", laid_internal_strconv_uint64pow10), ("strconv.ErrRange", laid_strconv_ErrRange), ("strconv.ErrSyntax", laid_strconv_ErrSyntax)], narrowed := true }
def TopChangedUptoSaid : Prop := topChangedUptoRow.holds Tryz.pinned (OpenSpec.upto topChangedSpec)

/-- 'qclaw4.WireTells', WHERE WHAT IT READS IS OF BULK AT MOST 1048576: true; the input reads as it did. -/
def wireTellsUptoRow : OpenClaim := { program := "ytibjcppjfkamhaagreatdoor", sum := "69eef78e364731f83a7780c1adf2ca3b5f338d32b5a4d30db55d0e49eab053b0", func := "quickchange/qclaw4.WireTells", spec := "wireTells", inPlace := ["internal/abi.NoEscape", "internal/bytealg.IndexByteString", "internal/bytealg.IndexString"], unfollowed := true, recurses := true, named := ["internal/strconv.uint64pow10", "math/bits.deBruijn32tab", "math/bits.deBruijn64tab", "internal/bytealg.MaxLen", "strconv.ErrSyntax", "strconv.ErrRange"], apart := false, laid := [("math/bits.deBruijn32tab", laid_math_bits_deBruijn32tab), ("math/bits.deBruijn64tab", laid_math_bits_deBruijn64tab), ("internal/strconv.uint64pow10", laid_internal_strconv_uint64pow10), ("strconv.ErrRange", laid_strconv_ErrRange), ("strconv.ErrSyntax", laid_strconv_ErrSyntax)], narrowed := true }
def WireTellsUptoSaid : Prop := wireTellsUptoRow.holds Tryz.pinned (OpenSpec.upto wireTellsSpec)

/-- 'qclaw12.SessionTells', WHERE WHAT IT READS IS OF BULK AT MOST 1048576: true; the input reads as it did. -/
def sessionTellsUptoRow : OpenClaim := { program := "ytibjcppjfkamhaagreatdoor", sum := "69eef78e364731f83a7780c1adf2ca3b5f338d32b5a4d30db55d0e49eab053b0", func := "quickchange/qclaw12.SessionTells", spec := "sessionTells", inPlace := ["slices.overlaps[quickchange/api.Method]", "internal/abi.NoEscape", "internal/bytealg.IndexByteString", "internal/bytealg.IndexString"], unfollowed := true, recurses := true, named := ["internal/strconv.uint64pow10", "math/bits.deBruijn32tab", "math/bits.deBruijn64tab", "internal/bytealg.MaxLen", "strconv.ErrSyntax", "strconv.ErrRange"], apart := false, laid := [("math/bits.deBruijn32tab", laid_math_bits_deBruijn32tab), ("math/bits.deBruijn64tab", laid_math_bits_deBruijn64tab), ("internal/strconv.uint64pow10", laid_internal_strconv_uint64pow10), ("strconv.ErrRange", laid_strconv_ErrRange), ("strconv.ErrSyntax", laid_strconv_ErrSyntax)], narrowed := true }
def SessionTellsUptoSaid : Prop := sessionTellsUptoRow.holds Tryz.pinned (OpenSpec.upto sessionTellsSpec)

/-- 'qclaw12.SessionWays', WHERE WHAT IT READS IS OF BULK AT MOST 1048576: true; the input reads as it did. -/
def sessionWaysUptoRow : OpenClaim := { program := "ytibjcppjfkamhaagreatdoor", sum := "69eef78e364731f83a7780c1adf2ca3b5f338d32b5a4d30db55d0e49eab053b0", func := "quickchange/qclaw12.SessionWays", spec := "sessionWays", inPlace := ["slices.overlaps[quickchange/api.Method]", "internal/abi.NoEscape", "internal/bytealg.IndexByteString", "internal/bytealg.IndexString"], unfollowed := true, recurses := true, named := ["internal/strconv.uint64pow10", "math/bits.deBruijn32tab", "math/bits.deBruijn64tab", "internal/bytealg.MaxLen", "strconv.ErrSyntax", "strconv.ErrRange"], apart := false, laid := [("math/bits.deBruijn32tab", laid_math_bits_deBruijn32tab), ("math/bits.deBruijn64tab", laid_math_bits_deBruijn64tab), ("internal/strconv.uint64pow10", laid_internal_strconv_uint64pow10), ("strconv.ErrRange", laid_strconv_ErrRange), ("strconv.ErrSyntax", laid_strconv_ErrSyntax)], narrowed := true }
def SessionWaysUptoSaid : Prop := sessionWaysUptoRow.holds Tryz.pinned (OpenSpec.upto sessionWaysSpec)

/-- 'qclaw12.SessionRight', WHERE WHAT IT READS IS OF BULK AT MOST 1048576: true; the input reads as it did. -/
def sessionRightUptoRow : OpenClaim := { program := "ytibjcppjfkamhaagreatdoor", sum := "69eef78e364731f83a7780c1adf2ca3b5f338d32b5a4d30db55d0e49eab053b0", func := "quickchange/qclaw12.SessionRight", spec := "sessionRight", inPlace := ["slices.overlaps[quickchange/api.Method]", "internal/abi.NoEscape", "internal/bytealg.IndexByteString", "internal/bytealg.IndexString"], unfollowed := true, recurses := true, named := ["internal/strconv.uint64pow10", "math/bits.deBruijn32tab", "math/bits.deBruijn64tab", "internal/bytealg.MaxLen", "strconv.ErrSyntax", "strconv.ErrRange"], apart := false, laid := [("math/bits.deBruijn32tab", laid_math_bits_deBruijn32tab), ("math/bits.deBruijn64tab", laid_math_bits_deBruijn64tab), ("internal/strconv.uint64pow10", laid_internal_strconv_uint64pow10), ("strconv.ErrRange", laid_strconv_ErrRange), ("strconv.ErrSyntax", laid_strconv_ErrSyntax)], narrowed := true }
def SessionRightUptoSaid : Prop := sessionRightUptoRow.holds Tryz.pinned (OpenSpec.upto sessionRightSpec)

/-- 'qclaw12.SessionBack', WHERE WHAT IT READS IS OF BULK AT MOST 1048576: true; the input reads as it did. -/
def sessionBackUptoRow : OpenClaim := { program := "ytibjcppjfkamhaagreatdoor", sum := "69eef78e364731f83a7780c1adf2ca3b5f338d32b5a4d30db55d0e49eab053b0", func := "quickchange/qclaw12.SessionBack", spec := "sessionBack", inPlace := ["slices.overlaps[quickchange/api.Method]", "internal/abi.NoEscape", "internal/bytealg.IndexByteString", "internal/bytealg.IndexString"], unfollowed := true, recurses := true, named := ["internal/strconv.uint64pow10", "math/bits.deBruijn32tab", "math/bits.deBruijn64tab", "internal/bytealg.MaxLen", "strconv.ErrSyntax", "strconv.ErrRange"], apart := false, laid := [("math/bits.deBruijn32tab", laid_math_bits_deBruijn32tab), ("math/bits.deBruijn64tab", laid_math_bits_deBruijn64tab), ("internal/strconv.uint64pow10", laid_internal_strconv_uint64pow10), ("strconv.ErrRange", laid_strconv_ErrRange), ("strconv.ErrSyntax", laid_strconv_ErrSyntax)], narrowed := true }
def SessionBackUptoSaid : Prop := sessionBackUptoRow.holds Tryz.pinned (OpenSpec.upto sessionBackSpec)

/-- 'qctop.TopOther', WHERE WHAT IT READS IS OF BULK AT MOST 1048576: true; the input reads as it did. -/
def topOtherUptoRow : OpenClaim := { program := "ytibjcppjfkamhaagreatdoor", sum := "69eef78e364731f83a7780c1adf2ca3b5f338d32b5a4d30db55d0e49eab053b0", func := "quickchange/qctop.TopOther", spec := "topOther", inPlace := ["slices.overlaps[quickchange/api.Method]", "internal/abi.NoEscape", "internal/bytealg.IndexByteString", "internal/bytealg.IndexString"], unfollowed := true, recurses := true, named := ["internal/strconv.uint64pow10", "math/bits.deBruijn32tab", "math/bits.deBruijn64tab", "internal/bytealg.MaxLen", "strconv.ErrSyntax", "strconv.ErrRange"], apart := false, laid := [("math/bits.deBruijn32tab", laid_math_bits_deBruijn32tab), ("math/bits.deBruijn64tab", laid_math_bits_deBruijn64tab), ("internal/strconv.uint64pow10", laid_internal_strconv_uint64pow10), ("strconv.ErrRange", laid_strconv_ErrRange), ("strconv.ErrSyntax", laid_strconv_ErrSyntax)], narrowed := true }
def TopOtherUptoSaid : Prop := topOtherUptoRow.holds Tryz.pinned (OpenSpec.upto topOtherSpec)

/-- 'qctop.TopEnd', WHERE WHAT IT READS IS OF BULK AT MOST 1048576: true; the input reads as it did. -/
def topEndUptoRow : OpenClaim := { program := "ytibjcppjfkamhaagreatdoor", sum := "69eef78e364731f83a7780c1adf2ca3b5f338d32b5a4d30db55d0e49eab053b0", func := "quickchange/qctop.TopEnd", spec := "topEnd", inPlace := ["slices.overlaps[quickchange/api.Method]", "internal/abi.NoEscape", "internal/bytealg.IndexByteString", "internal/bytealg.IndexString"], unfollowed := true, recurses := true, named := ["internal/strconv.uint64pow10", "math/bits.deBruijn32tab", "math/bits.deBruijn64tab", "internal/bytealg.MaxLen", "strconv.ErrSyntax", "strconv.ErrRange"], apart := false, laid := [("math/bits.deBruijn32tab", laid_math_bits_deBruijn32tab), ("math/bits.deBruijn64tab", laid_math_bits_deBruijn64tab), ("internal/strconv.uint64pow10", laid_internal_strconv_uint64pow10), ("strconv.ErrRange", laid_strconv_ErrRange), ("strconv.ErrSyntax", laid_strconv_ErrSyntax)], narrowed := true }
def TopEndUptoSaid : Prop := topEndUptoRow.holds Tryz.pinned (OpenSpec.upto topEndSpec)

end Rows
end Go.Proofs.YtibjcppjfkamhaaGreatDoor
