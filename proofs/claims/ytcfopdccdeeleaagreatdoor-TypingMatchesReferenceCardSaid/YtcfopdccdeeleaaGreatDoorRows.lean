/-
  NARROWER THAN 'FOR EVERY INPUT', by the rows' own cells (each row's printed sentence says how): TypingMatchesReference: loops, laid · TypingTypesAreSorted: loops, laid · TypingRenaming: loops, laid · TypingUnusedVariables: loops, laid · TypingConnectives: loops, laid · TypingInlineResult: loops, laid · TypingMonotone: loops, laid · TypingFacts: loops, laid.
  DERIVED. THE GIVEN ROWS OF THIS SEAT. 8 by the template 'for every input the law returns true; each argument reads behind the call as it read before'; 0 by the template 'total and deterministic' (their statements: YtcfopdccdeeleaaGreatDoorTotals.lean).
  GIVEN WITH THE SEED: the statements are not yours to turn. If you find one false, say at which input.
  Laid BY PROGRAM, IN A SANDBOX (cutbox-rows.mjs): the forced cells as the released guide's own fill.sh prints them over the translation c0d0c037df6726dd… (all of the seat's roots in one cut). By AI agents, Wed Nov 11 2026. No macro, syntax, notation, axiom, sorry.
-/
import Derived.Test.YtcfopdccdeeleaaGreatDoorChecked
import GoSem.Claim
import GoSem.ClaimJoined
import GoSem.ClaimMapViews
import Derived.JoinedTies
import Derived.KernelRfl
namespace Go.Proofs.YtcfopdccdeeleaaGreatDoor
/- THE CELL 'sum', in the pinned program and in every row, IS THE sha256 OF THE DUMP (.gsa) THAT YtcfopdccdeeleaaGreatDoorProg.lean LOADS. Nothing in Lean hashes anything: it is a label: what it is worth is what the hold of that sum in a sandbox is worth. -/
noncomputable def Tryz.pinned : Pinned := { name := "ytcfopdccdeeleaagreatdoor", sum := "c0d0c037df6726dd8b80aaafc838685e633ce7bc6de4e30df9cdc2575c0e6d7e", checked := Tryz.checked }
namespace Rows
def none {H : Type} : Left H := { results := [], args := [] }

/- WHAT THE LISTED PACKAGE-LEVEL VARIABLES READ AS WHEN THE CALL BEGINS. Each datum BY PROGRAM (the guide's laid-datum.mjs) off the statement by which the dump's own 'gosem.cut.vars' lays the variable. In a bare row this is a premise. The card (YtcfopdccdeeleaaGreatDoorCards.lean) ties it to the program's text. -/
def laid_math_bits_deBruijn32tab {H : Type} : DataW H := .agg [.lit (.int .u8 0), .lit (.int .u8 1), .lit (.int .u8 28), .lit (.int .u8 2), .lit (.int .u8 29), .lit (.int .u8 14), .lit (.int .u8 24), .lit (.int .u8 3), .lit (.int .u8 30), .lit (.int .u8 22), .lit (.int .u8 20), .lit (.int .u8 15), .lit (.int .u8 25), .lit (.int .u8 17), .lit (.int .u8 4), .lit (.int .u8 8), .lit (.int .u8 31), .lit (.int .u8 27), .lit (.int .u8 13), .lit (.int .u8 23), .lit (.int .u8 21), .lit (.int .u8 19), .lit (.int .u8 16), .lit (.int .u8 7), .lit (.int .u8 26), .lit (.int .u8 12), .lit (.int .u8 18), .lit (.int .u8 6), .lit (.int .u8 11), .lit (.int .u8 5), .lit (.int .u8 10), .lit (.int .u8 9)]
def laid_math_bits_deBruijn64tab {H : Type} : DataW H := .agg [.lit (.int .u8 0), .lit (.int .u8 1), .lit (.int .u8 56), .lit (.int .u8 2), .lit (.int .u8 57), .lit (.int .u8 49), .lit (.int .u8 28), .lit (.int .u8 3), .lit (.int .u8 61), .lit (.int .u8 58), .lit (.int .u8 42), .lit (.int .u8 50), .lit (.int .u8 38), .lit (.int .u8 29), .lit (.int .u8 17), .lit (.int .u8 4), .lit (.int .u8 62), .lit (.int .u8 47), .lit (.int .u8 59), .lit (.int .u8 36), .lit (.int .u8 45), .lit (.int .u8 43), .lit (.int .u8 51), .lit (.int .u8 22), .lit (.int .u8 53), .lit (.int .u8 39), .lit (.int .u8 33), .lit (.int .u8 30), .lit (.int .u8 24), .lit (.int .u8 18), .lit (.int .u8 12), .lit (.int .u8 5), .lit (.int .u8 63), .lit (.int .u8 55), .lit (.int .u8 48), .lit (.int .u8 27), .lit (.int .u8 60), .lit (.int .u8 41), .lit (.int .u8 37), .lit (.int .u8 16), .lit (.int .u8 46), .lit (.int .u8 35), .lit (.int .u8 44), .lit (.int .u8 21), .lit (.int .u8 52), .lit (.int .u8 32), .lit (.int .u8 23), .lit (.int .u8 11), .lit (.int .u8 54), .lit (.int .u8 26), .lit (.int .u8 40), .lit (.int .u8 15), .lit (.int .u8 34), .lit (.int .u8 20), .lit (.int .u8 31), .lit (.int .u8 10), .lit (.int .u8 25), .lit (.int .u8 14), .lit (.int .u8 19), .lit (.int .u8 9), .lit (.int .u8 13), .lit (.int .u8 8), .lit (.int .u8 7), .lit (.int .u8 6)]
def laid_internal_strconv_uint64pow10 {H : Type} : DataW H := .agg [.lit (.int .u64 1), .lit (.int .u64 10), .lit (.int .u64 100), .lit (.int .u64 1000), .lit (.int .u64 10000), .lit (.int .u64 100000), .lit (.int .u64 1000000), .lit (.int .u64 10000000), .lit (.int .u64 100000000), .lit (.int .u64 1000000000), .lit (.int .u64 10000000000), .lit (.int .u64 100000000000), .lit (.int .u64 1000000000000), .lit (.int .u64 10000000000000), .lit (.int .u64 100000000000000), .lit (.int .u64 1000000000000000), .lit (.int .u64 10000000000000000), .lit (.int .u64 100000000000000000), .lit (.int .u64 1000000000000000000), .lit (.int .u64 10000000000000000000)]

/-- 'armaturelaw04.TypingMatchesReference': WHATEVER THE INPUT: true; the input reads as it did. -/
def typingMatchesReferenceSpec : ChangeSpec := { name := "typingMatchesReference", fn := fun _ => fun
  | [d1, d2, d3] => { results := [.lit (.bool true)], args := [d1, d2, d3] }
  | _ => none }
def typingMatchesReferenceRow : OpenClaim := { program := "ytcfopdccdeeleaagreatdoor", sum := "c0d0c037df6726dd8b80aaafc838685e633ce7bc6de4e30df9cdc2575c0e6d7e", func := "armature/armaturelaw04.TypingMatchesReference", spec := "typingMatchesReference", unfollowed := true, recurses := true, named := ["internal/strconv.uint64pow10", "math/bits.deBruijn32tab", "math/bits.deBruijn64tab"], loops := true, plainKeys := false, apart := false, laid := [("math/bits.deBruijn32tab", laid_math_bits_deBruijn32tab), ("math/bits.deBruijn64tab", laid_math_bits_deBruijn64tab), ("internal/strconv.uint64pow10", laid_internal_strconv_uint64pow10)] }
def TypingMatchesReferenceSaid : Prop := typingMatchesReferenceRow.holds Tryz.pinned (OpenSpec.ofChange typingMatchesReferenceSpec)

/-- ITS FALSE NEIGHBOUR: 'it returns false'. Refute it at one input. -/
def typingMatchesReferenceWrong : ChangeSpec := { name := "typingMatchesReference", fn := fun _ => fun
  | [d1, d2, d3] => { results := [.lit (.bool false)], args := [d1, d2, d3] }
  | _ => none }
def TypingMatchesReferenceWrongFalsely : Prop := typingMatchesReferenceRow.holds Tryz.pinned (OpenSpec.ofChange typingMatchesReferenceWrong)

/-- 'armaturelaw04.TypingTypesAreSorted': WHATEVER THE INPUT: true; the input reads as it did. -/
def typingTypesAreSortedSpec : ChangeSpec := { name := "typingTypesAreSorted", fn := fun _ => fun
  | [d1, d2, d3] => { results := [.lit (.bool true)], args := [d1, d2, d3] }
  | _ => none }
def typingTypesAreSortedRow : OpenClaim := { program := "ytcfopdccdeeleaagreatdoor", sum := "c0d0c037df6726dd8b80aaafc838685e633ce7bc6de4e30df9cdc2575c0e6d7e", func := "armature/armaturelaw04.TypingTypesAreSorted", spec := "typingTypesAreSorted", unfollowed := true, recurses := true, named := ["internal/strconv.uint64pow10", "math/bits.deBruijn32tab", "math/bits.deBruijn64tab"], loops := true, plainKeys := false, apart := false, laid := [("math/bits.deBruijn32tab", laid_math_bits_deBruijn32tab), ("math/bits.deBruijn64tab", laid_math_bits_deBruijn64tab), ("internal/strconv.uint64pow10", laid_internal_strconv_uint64pow10)] }
def TypingTypesAreSortedSaid : Prop := typingTypesAreSortedRow.holds Tryz.pinned (OpenSpec.ofChange typingTypesAreSortedSpec)

/-- ITS FALSE NEIGHBOUR: 'it returns false'. Refute it at one input. -/
def typingTypesAreSortedWrong : ChangeSpec := { name := "typingTypesAreSorted", fn := fun _ => fun
  | [d1, d2, d3] => { results := [.lit (.bool false)], args := [d1, d2, d3] }
  | _ => none }
def TypingTypesAreSortedWrongFalsely : Prop := typingTypesAreSortedRow.holds Tryz.pinned (OpenSpec.ofChange typingTypesAreSortedWrong)

/-- 'armaturelaw04.TypingRenaming': WHATEVER THE INPUT: true; the input reads as it did. -/
def typingRenamingSpec : ChangeSpec := { name := "typingRenaming", fn := fun _ => fun
  | [d1, d2, d3] => { results := [.lit (.bool true)], args := [d1, d2, d3] }
  | _ => none }
def typingRenamingRow : OpenClaim := { program := "ytcfopdccdeeleaagreatdoor", sum := "c0d0c037df6726dd8b80aaafc838685e633ce7bc6de4e30df9cdc2575c0e6d7e", func := "armature/armaturelaw04.TypingRenaming", spec := "typingRenaming", unfollowed := true, recurses := true, named := ["internal/strconv.uint64pow10", "math/bits.deBruijn32tab", "math/bits.deBruijn64tab"], loops := true, plainKeys := false, apart := false, laid := [("math/bits.deBruijn32tab", laid_math_bits_deBruijn32tab), ("math/bits.deBruijn64tab", laid_math_bits_deBruijn64tab), ("internal/strconv.uint64pow10", laid_internal_strconv_uint64pow10)] }
def TypingRenamingSaid : Prop := typingRenamingRow.holds Tryz.pinned (OpenSpec.ofChange typingRenamingSpec)

/-- ITS FALSE NEIGHBOUR: 'it returns false'. Refute it at one input. -/
def typingRenamingWrong : ChangeSpec := { name := "typingRenaming", fn := fun _ => fun
  | [d1, d2, d3] => { results := [.lit (.bool false)], args := [d1, d2, d3] }
  | _ => none }
def TypingRenamingWrongFalsely : Prop := typingRenamingRow.holds Tryz.pinned (OpenSpec.ofChange typingRenamingWrong)

/-- 'armaturelaw04.TypingUnusedVariables': WHATEVER THE INPUT: true; the input reads as it did. -/
def typingUnusedVariablesSpec : ChangeSpec := { name := "typingUnusedVariables", fn := fun _ => fun
  | [d1, d2, d3, d4, d5] => { results := [.lit (.bool true)], args := [d1, d2, d3, d4, d5] }
  | _ => none }
def typingUnusedVariablesRow : OpenClaim := { program := "ytcfopdccdeeleaagreatdoor", sum := "c0d0c037df6726dd8b80aaafc838685e633ce7bc6de4e30df9cdc2575c0e6d7e", func := "armature/armaturelaw04.TypingUnusedVariables", spec := "typingUnusedVariables", unfollowed := true, recurses := true, named := ["internal/strconv.uint64pow10", "math/bits.deBruijn32tab", "math/bits.deBruijn64tab"], loops := true, plainKeys := false, apart := false, laid := [("math/bits.deBruijn32tab", laid_math_bits_deBruijn32tab), ("math/bits.deBruijn64tab", laid_math_bits_deBruijn64tab), ("internal/strconv.uint64pow10", laid_internal_strconv_uint64pow10)] }
def TypingUnusedVariablesSaid : Prop := typingUnusedVariablesRow.holds Tryz.pinned (OpenSpec.ofChange typingUnusedVariablesSpec)

/-- ITS FALSE NEIGHBOUR: 'it returns false'. Refute it at one input. -/
def typingUnusedVariablesWrong : ChangeSpec := { name := "typingUnusedVariables", fn := fun _ => fun
  | [d1, d2, d3, d4, d5] => { results := [.lit (.bool false)], args := [d1, d2, d3, d4, d5] }
  | _ => none }
def TypingUnusedVariablesWrongFalsely : Prop := typingUnusedVariablesRow.holds Tryz.pinned (OpenSpec.ofChange typingUnusedVariablesWrong)

/-- 'armaturelaw04.TypingConnectives': WHATEVER THE INPUT: true; the input reads as it did. -/
def typingConnectivesSpec : ChangeSpec := { name := "typingConnectives", fn := fun _ => fun
  | [d1, d2, d3, d4, d5] => { results := [.lit (.bool true)], args := [d1, d2, d3, d4, d5] }
  | _ => none }
def typingConnectivesRow : OpenClaim := { program := "ytcfopdccdeeleaagreatdoor", sum := "c0d0c037df6726dd8b80aaafc838685e633ce7bc6de4e30df9cdc2575c0e6d7e", func := "armature/armaturelaw04.TypingConnectives", spec := "typingConnectives", unfollowed := true, recurses := true, named := ["internal/strconv.uint64pow10", "math/bits.deBruijn32tab", "math/bits.deBruijn64tab"], loops := true, plainKeys := false, apart := false, laid := [("math/bits.deBruijn32tab", laid_math_bits_deBruijn32tab), ("math/bits.deBruijn64tab", laid_math_bits_deBruijn64tab), ("internal/strconv.uint64pow10", laid_internal_strconv_uint64pow10)] }
def TypingConnectivesSaid : Prop := typingConnectivesRow.holds Tryz.pinned (OpenSpec.ofChange typingConnectivesSpec)

/-- ITS FALSE NEIGHBOUR: 'it returns false'. Refute it at one input. -/
def typingConnectivesWrong : ChangeSpec := { name := "typingConnectives", fn := fun _ => fun
  | [d1, d2, d3, d4, d5] => { results := [.lit (.bool false)], args := [d1, d2, d3, d4, d5] }
  | _ => none }
def TypingConnectivesWrongFalsely : Prop := typingConnectivesRow.holds Tryz.pinned (OpenSpec.ofChange typingConnectivesWrong)

/-- 'armaturelaw04.TypingInlineResult': WHATEVER THE INPUT: true; the input reads as it did. -/
def typingInlineResultSpec : ChangeSpec := { name := "typingInlineResult", fn := fun _ => fun
  | [d1, d2] => { results := [.lit (.bool true)], args := [d1, d2] }
  | _ => none }
def typingInlineResultRow : OpenClaim := { program := "ytcfopdccdeeleaagreatdoor", sum := "c0d0c037df6726dd8b80aaafc838685e633ce7bc6de4e30df9cdc2575c0e6d7e", func := "armature/armaturelaw04.TypingInlineResult", spec := "typingInlineResult", unfollowed := true, recurses := true, named := ["internal/strconv.uint64pow10", "math/bits.deBruijn32tab", "math/bits.deBruijn64tab"], loops := true, plainKeys := false, apart := false, laid := [("math/bits.deBruijn32tab", laid_math_bits_deBruijn32tab), ("math/bits.deBruijn64tab", laid_math_bits_deBruijn64tab), ("internal/strconv.uint64pow10", laid_internal_strconv_uint64pow10)] }
def TypingInlineResultSaid : Prop := typingInlineResultRow.holds Tryz.pinned (OpenSpec.ofChange typingInlineResultSpec)

/-- ITS FALSE NEIGHBOUR: 'it returns false'. Refute it at one input. -/
def typingInlineResultWrong : ChangeSpec := { name := "typingInlineResult", fn := fun _ => fun
  | [d1, d2] => { results := [.lit (.bool false)], args := [d1, d2] }
  | _ => none }
def TypingInlineResultWrongFalsely : Prop := typingInlineResultRow.holds Tryz.pinned (OpenSpec.ofChange typingInlineResultWrong)

/-- 'armaturelaw04.TypingMonotone': WHATEVER THE INPUT: true; the input reads as it did. -/
def typingMonotoneSpec : ChangeSpec := { name := "typingMonotone", fn := fun _ => fun
  | [d1, d2, d3, d4] => { results := [.lit (.bool true)], args := [d1, d2, d3, d4] }
  | _ => none }
def typingMonotoneRow : OpenClaim := { program := "ytcfopdccdeeleaagreatdoor", sum := "c0d0c037df6726dd8b80aaafc838685e633ce7bc6de4e30df9cdc2575c0e6d7e", func := "armature/armaturelaw04.TypingMonotone", spec := "typingMonotone", unfollowed := true, recurses := true, named := ["internal/strconv.uint64pow10", "math/bits.deBruijn32tab", "math/bits.deBruijn64tab"], loops := true, plainKeys := false, apart := false, laid := [("math/bits.deBruijn32tab", laid_math_bits_deBruijn32tab), ("math/bits.deBruijn64tab", laid_math_bits_deBruijn64tab), ("internal/strconv.uint64pow10", laid_internal_strconv_uint64pow10)] }
def TypingMonotoneSaid : Prop := typingMonotoneRow.holds Tryz.pinned (OpenSpec.ofChange typingMonotoneSpec)

/-- ITS FALSE NEIGHBOUR: 'it returns false'. Refute it at one input. -/
def typingMonotoneWrong : ChangeSpec := { name := "typingMonotone", fn := fun _ => fun
  | [d1, d2, d3, d4] => { results := [.lit (.bool false)], args := [d1, d2, d3, d4] }
  | _ => none }
def TypingMonotoneWrongFalsely : Prop := typingMonotoneRow.holds Tryz.pinned (OpenSpec.ofChange typingMonotoneWrong)

/-- 'armaturelaw04.TypingFacts': WHATEVER THE INPUT: true; the input reads as it did. -/
def typingFactsSpec : ChangeSpec := { name := "typingFacts", fn := fun _ => fun
  | [d1, d2, d3] => { results := [.lit (.bool true)], args := [d1, d2, d3] }
  | _ => none }
def typingFactsRow : OpenClaim := { program := "ytcfopdccdeeleaagreatdoor", sum := "c0d0c037df6726dd8b80aaafc838685e633ce7bc6de4e30df9cdc2575c0e6d7e", func := "armature/armaturelaw04.TypingFacts", spec := "typingFacts", unfollowed := true, recurses := true, named := ["internal/strconv.uint64pow10", "math/bits.deBruijn32tab", "math/bits.deBruijn64tab"], loops := true, plainKeys := false, apart := false, laid := [("math/bits.deBruijn32tab", laid_math_bits_deBruijn32tab), ("math/bits.deBruijn64tab", laid_math_bits_deBruijn64tab), ("internal/strconv.uint64pow10", laid_internal_strconv_uint64pow10)] }
def TypingFactsSaid : Prop := typingFactsRow.holds Tryz.pinned (OpenSpec.ofChange typingFactsSpec)

/-- ITS FALSE NEIGHBOUR: 'it returns false'. Refute it at one input. -/
def typingFactsWrong : ChangeSpec := { name := "typingFacts", fn := fun _ => fun
  | [d1, d2, d3] => { results := [.lit (.bool false)], args := [d1, d2, d3] }
  | _ => none }
def TypingFactsWrongFalsely : Prop := typingFactsRow.holds Tryz.pinned (OpenSpec.ofChange typingFactsWrong)

/- THE SECOND FORM. 'bulk': how many values and letters a reading holds, each counted each time it is reached (what is shared counts as often as it is met; a slice's spare places count too). A statement '..UptoSaid' is the law's where the arguments, and the package variables that the reading takes, are together of bulk at most 1048576: NARROWER than '..Said'. Prove '..Said' where nothing that the law and all that it calls make is longer than what came in: it says more and counts as full. Else prove '..UptoSaid'. A law counts once. -/
mutual
def uptoBulk {H : Type} : DataW H → Nat
  | .lit (.string bytes) => bytes.length + 1
  | .lit _ => 1
  | .nil => 1
  | .ptr d => uptoBulk d + 1
  | .slice elems spare => uptoBulkAll elems + uptoBulkAll spare + 1
  | .agg parts => uptoBulkAll parts + 1
  | .iface _ d => uptoBulk d + 1
  | .map entries => uptoBulkEntries entries + 1
  | .held _ => 1
def uptoBulkAll {H : Type} : List (DataW H) → Nat
  | [] => 0
  | d :: r => uptoBulk d + uptoBulkAll r
def uptoBulkEntries {H : Type} : List (Lit × DataW H) → Nat
  | [] => 0
  | x :: r => uptoBulkEntry x + uptoBulkEntries r
def uptoBulkEntry {H : Type} : Lit × DataW H → Nat
  | (.string bytes, d) => bytes.length + uptoBulk d + 1
  | (_, d) => uptoBulk d + 1
 end
def uptoSmall : (H : Type) → List (DataW H) → Bool := fun _ ds => decide (uptoBulkAll ds ≤ 1048576)
def OpenSpec.upto (s : _root_.Go.ChangeSpec) : _root_.Go.OpenSpec := { _root_.Go.OpenSpec.ofChange s with cond := some uptoSmall }

/-- 'armaturelaw04.TypingMatchesReference', WHERE WHAT IT READS IS OF BULK AT MOST 1048576: true; the input reads as it did. -/
def typingMatchesReferenceUptoRow : OpenClaim := { program := "ytcfopdccdeeleaagreatdoor", sum := "c0d0c037df6726dd8b80aaafc838685e633ce7bc6de4e30df9cdc2575c0e6d7e", func := "armature/armaturelaw04.TypingMatchesReference", spec := "typingMatchesReference", unfollowed := true, recurses := true, named := ["internal/strconv.uint64pow10", "math/bits.deBruijn32tab", "math/bits.deBruijn64tab"], loops := true, plainKeys := false, apart := false, laid := [("math/bits.deBruijn32tab", laid_math_bits_deBruijn32tab), ("math/bits.deBruijn64tab", laid_math_bits_deBruijn64tab), ("internal/strconv.uint64pow10", laid_internal_strconv_uint64pow10)], narrowed := true }
def TypingMatchesReferenceUptoSaid : Prop := typingMatchesReferenceUptoRow.holds Tryz.pinned (OpenSpec.upto typingMatchesReferenceSpec)

/-- 'armaturelaw04.TypingTypesAreSorted', WHERE WHAT IT READS IS OF BULK AT MOST 1048576: true; the input reads as it did. -/
def typingTypesAreSortedUptoRow : OpenClaim := { program := "ytcfopdccdeeleaagreatdoor", sum := "c0d0c037df6726dd8b80aaafc838685e633ce7bc6de4e30df9cdc2575c0e6d7e", func := "armature/armaturelaw04.TypingTypesAreSorted", spec := "typingTypesAreSorted", unfollowed := true, recurses := true, named := ["internal/strconv.uint64pow10", "math/bits.deBruijn32tab", "math/bits.deBruijn64tab"], loops := true, plainKeys := false, apart := false, laid := [("math/bits.deBruijn32tab", laid_math_bits_deBruijn32tab), ("math/bits.deBruijn64tab", laid_math_bits_deBruijn64tab), ("internal/strconv.uint64pow10", laid_internal_strconv_uint64pow10)], narrowed := true }
def TypingTypesAreSortedUptoSaid : Prop := typingTypesAreSortedUptoRow.holds Tryz.pinned (OpenSpec.upto typingTypesAreSortedSpec)

/-- 'armaturelaw04.TypingRenaming', WHERE WHAT IT READS IS OF BULK AT MOST 1048576: true; the input reads as it did. -/
def typingRenamingUptoRow : OpenClaim := { program := "ytcfopdccdeeleaagreatdoor", sum := "c0d0c037df6726dd8b80aaafc838685e633ce7bc6de4e30df9cdc2575c0e6d7e", func := "armature/armaturelaw04.TypingRenaming", spec := "typingRenaming", unfollowed := true, recurses := true, named := ["internal/strconv.uint64pow10", "math/bits.deBruijn32tab", "math/bits.deBruijn64tab"], loops := true, plainKeys := false, apart := false, laid := [("math/bits.deBruijn32tab", laid_math_bits_deBruijn32tab), ("math/bits.deBruijn64tab", laid_math_bits_deBruijn64tab), ("internal/strconv.uint64pow10", laid_internal_strconv_uint64pow10)], narrowed := true }
def TypingRenamingUptoSaid : Prop := typingRenamingUptoRow.holds Tryz.pinned (OpenSpec.upto typingRenamingSpec)

/-- 'armaturelaw04.TypingUnusedVariables', WHERE WHAT IT READS IS OF BULK AT MOST 1048576: true; the input reads as it did. -/
def typingUnusedVariablesUptoRow : OpenClaim := { program := "ytcfopdccdeeleaagreatdoor", sum := "c0d0c037df6726dd8b80aaafc838685e633ce7bc6de4e30df9cdc2575c0e6d7e", func := "armature/armaturelaw04.TypingUnusedVariables", spec := "typingUnusedVariables", unfollowed := true, recurses := true, named := ["internal/strconv.uint64pow10", "math/bits.deBruijn32tab", "math/bits.deBruijn64tab"], loops := true, plainKeys := false, apart := false, laid := [("math/bits.deBruijn32tab", laid_math_bits_deBruijn32tab), ("math/bits.deBruijn64tab", laid_math_bits_deBruijn64tab), ("internal/strconv.uint64pow10", laid_internal_strconv_uint64pow10)], narrowed := true }
def TypingUnusedVariablesUptoSaid : Prop := typingUnusedVariablesUptoRow.holds Tryz.pinned (OpenSpec.upto typingUnusedVariablesSpec)

/-- 'armaturelaw04.TypingConnectives', WHERE WHAT IT READS IS OF BULK AT MOST 1048576: true; the input reads as it did. -/
def typingConnectivesUptoRow : OpenClaim := { program := "ytcfopdccdeeleaagreatdoor", sum := "c0d0c037df6726dd8b80aaafc838685e633ce7bc6de4e30df9cdc2575c0e6d7e", func := "armature/armaturelaw04.TypingConnectives", spec := "typingConnectives", unfollowed := true, recurses := true, named := ["internal/strconv.uint64pow10", "math/bits.deBruijn32tab", "math/bits.deBruijn64tab"], loops := true, plainKeys := false, apart := false, laid := [("math/bits.deBruijn32tab", laid_math_bits_deBruijn32tab), ("math/bits.deBruijn64tab", laid_math_bits_deBruijn64tab), ("internal/strconv.uint64pow10", laid_internal_strconv_uint64pow10)], narrowed := true }
def TypingConnectivesUptoSaid : Prop := typingConnectivesUptoRow.holds Tryz.pinned (OpenSpec.upto typingConnectivesSpec)

/-- 'armaturelaw04.TypingInlineResult', WHERE WHAT IT READS IS OF BULK AT MOST 1048576: true; the input reads as it did. -/
def typingInlineResultUptoRow : OpenClaim := { program := "ytcfopdccdeeleaagreatdoor", sum := "c0d0c037df6726dd8b80aaafc838685e633ce7bc6de4e30df9cdc2575c0e6d7e", func := "armature/armaturelaw04.TypingInlineResult", spec := "typingInlineResult", unfollowed := true, recurses := true, named := ["internal/strconv.uint64pow10", "math/bits.deBruijn32tab", "math/bits.deBruijn64tab"], loops := true, plainKeys := false, apart := false, laid := [("math/bits.deBruijn32tab", laid_math_bits_deBruijn32tab), ("math/bits.deBruijn64tab", laid_math_bits_deBruijn64tab), ("internal/strconv.uint64pow10", laid_internal_strconv_uint64pow10)], narrowed := true }
def TypingInlineResultUptoSaid : Prop := typingInlineResultUptoRow.holds Tryz.pinned (OpenSpec.upto typingInlineResultSpec)

/-- 'armaturelaw04.TypingMonotone', WHERE WHAT IT READS IS OF BULK AT MOST 1048576: true; the input reads as it did. -/
def typingMonotoneUptoRow : OpenClaim := { program := "ytcfopdccdeeleaagreatdoor", sum := "c0d0c037df6726dd8b80aaafc838685e633ce7bc6de4e30df9cdc2575c0e6d7e", func := "armature/armaturelaw04.TypingMonotone", spec := "typingMonotone", unfollowed := true, recurses := true, named := ["internal/strconv.uint64pow10", "math/bits.deBruijn32tab", "math/bits.deBruijn64tab"], loops := true, plainKeys := false, apart := false, laid := [("math/bits.deBruijn32tab", laid_math_bits_deBruijn32tab), ("math/bits.deBruijn64tab", laid_math_bits_deBruijn64tab), ("internal/strconv.uint64pow10", laid_internal_strconv_uint64pow10)], narrowed := true }
def TypingMonotoneUptoSaid : Prop := typingMonotoneUptoRow.holds Tryz.pinned (OpenSpec.upto typingMonotoneSpec)

/-- 'armaturelaw04.TypingFacts', WHERE WHAT IT READS IS OF BULK AT MOST 1048576: true; the input reads as it did. -/
def typingFactsUptoRow : OpenClaim := { program := "ytcfopdccdeeleaagreatdoor", sum := "c0d0c037df6726dd8b80aaafc838685e633ce7bc6de4e30df9cdc2575c0e6d7e", func := "armature/armaturelaw04.TypingFacts", spec := "typingFacts", unfollowed := true, recurses := true, named := ["internal/strconv.uint64pow10", "math/bits.deBruijn32tab", "math/bits.deBruijn64tab"], loops := true, plainKeys := false, apart := false, laid := [("math/bits.deBruijn32tab", laid_math_bits_deBruijn32tab), ("math/bits.deBruijn64tab", laid_math_bits_deBruijn64tab), ("internal/strconv.uint64pow10", laid_internal_strconv_uint64pow10)], narrowed := true }
def TypingFactsUptoSaid : Prop := typingFactsUptoRow.holds Tryz.pinned (OpenSpec.upto typingFactsSpec)

end Rows
end Go.Proofs.YtcfopdccdeeleaaGreatDoor
