/-
  NARROWER THAN 'FOR EVERY INPUT', by the rows' own cells (each row's printed sentence says how): EvalMatchesReference: loops, laid · EvalDualities: loops, laid · EvalOperators: loops, laid · EvalInstances: loops, laid · EvalUnfolds: loops, laid · EvalBindings: loops, laid · EvalHolds: loops, laid · EvalTraces: loops, laid.
  DERIVED. THE GIVEN ROWS OF THIS SEAT. 8 by the template 'for every input the law returns true; each argument reads behind the call as it read before'; 0 by the template 'total and deterministic' (their statements: YtkglmpmlfjogkaaGreatDoorTotals.lean).
  GIVEN WITH THE SEED: the statements are not yours to turn. If you find one false, say at which input.
  Laid BY PROGRAM, IN A SANDBOX (cutbox-rows.mjs): the forced cells as the released guide's own fill.sh prints them over the translation 350cd07737353541… (all of the seat's roots in one cut). By AI agents, Wed Nov 11 2026. No macro, syntax, notation, axiom, sorry.
-/
import Derived.Test.YtkglmpmlfjogkaaGreatDoorChecked
import GoSem.Claim
import GoSem.ClaimJoined
import GoSem.ClaimMapViews
import Derived.JoinedTies
import Derived.KernelRfl
namespace Go.Proofs.YtkglmpmlfjogkaaGreatDoor
/- THE CELL 'sum', in the pinned program and in every row, IS THE sha256 OF THE DUMP (.gsa) THAT YtkglmpmlfjogkaaGreatDoorProg.lean LOADS. Nothing in Lean hashes anything: it is a label: what it is worth is what the hold of that sum in a sandbox is worth. -/
noncomputable def Tryz.pinned : Pinned := { name := "ytkglmpmlfjogkaagreatdoor", sum := "350cd0773735354114c7b0e6d00d1b13e2b75ba7ea6deb3ce5308cb7db4b798b", checked := Tryz.checked }
namespace Rows
def none {H : Type} : Left H := { results := [], args := [] }

/- WHAT THE LISTED PACKAGE-LEVEL VARIABLES READ AS WHEN THE CALL BEGINS. Each datum BY PROGRAM (the guide's laid-datum.mjs) off the statement by which the dump's own 'gosem.cut.vars' lays the variable. In a bare row this is a premise. The card (YtkglmpmlfjogkaaGreatDoorCards.lean) ties it to the program's text. -/
def laid_math_bits_deBruijn32tab {H : Type} : DataW H := .agg [.lit (.int .u8 0), .lit (.int .u8 1), .lit (.int .u8 28), .lit (.int .u8 2), .lit (.int .u8 29), .lit (.int .u8 14), .lit (.int .u8 24), .lit (.int .u8 3), .lit (.int .u8 30), .lit (.int .u8 22), .lit (.int .u8 20), .lit (.int .u8 15), .lit (.int .u8 25), .lit (.int .u8 17), .lit (.int .u8 4), .lit (.int .u8 8), .lit (.int .u8 31), .lit (.int .u8 27), .lit (.int .u8 13), .lit (.int .u8 23), .lit (.int .u8 21), .lit (.int .u8 19), .lit (.int .u8 16), .lit (.int .u8 7), .lit (.int .u8 26), .lit (.int .u8 12), .lit (.int .u8 18), .lit (.int .u8 6), .lit (.int .u8 11), .lit (.int .u8 5), .lit (.int .u8 10), .lit (.int .u8 9)]
def laid_math_bits_deBruijn64tab {H : Type} : DataW H := .agg [.lit (.int .u8 0), .lit (.int .u8 1), .lit (.int .u8 56), .lit (.int .u8 2), .lit (.int .u8 57), .lit (.int .u8 49), .lit (.int .u8 28), .lit (.int .u8 3), .lit (.int .u8 61), .lit (.int .u8 58), .lit (.int .u8 42), .lit (.int .u8 50), .lit (.int .u8 38), .lit (.int .u8 29), .lit (.int .u8 17), .lit (.int .u8 4), .lit (.int .u8 62), .lit (.int .u8 47), .lit (.int .u8 59), .lit (.int .u8 36), .lit (.int .u8 45), .lit (.int .u8 43), .lit (.int .u8 51), .lit (.int .u8 22), .lit (.int .u8 53), .lit (.int .u8 39), .lit (.int .u8 33), .lit (.int .u8 30), .lit (.int .u8 24), .lit (.int .u8 18), .lit (.int .u8 12), .lit (.int .u8 5), .lit (.int .u8 63), .lit (.int .u8 55), .lit (.int .u8 48), .lit (.int .u8 27), .lit (.int .u8 60), .lit (.int .u8 41), .lit (.int .u8 37), .lit (.int .u8 16), .lit (.int .u8 46), .lit (.int .u8 35), .lit (.int .u8 44), .lit (.int .u8 21), .lit (.int .u8 52), .lit (.int .u8 32), .lit (.int .u8 23), .lit (.int .u8 11), .lit (.int .u8 54), .lit (.int .u8 26), .lit (.int .u8 40), .lit (.int .u8 15), .lit (.int .u8 34), .lit (.int .u8 20), .lit (.int .u8 31), .lit (.int .u8 10), .lit (.int .u8 25), .lit (.int .u8 14), .lit (.int .u8 19), .lit (.int .u8 9), .lit (.int .u8 13), .lit (.int .u8 8), .lit (.int .u8 7), .lit (.int .u8 6)]
def laid_internal_strconv_uint64pow10 {H : Type} : DataW H := .agg [.lit (.int .u64 1), .lit (.int .u64 10), .lit (.int .u64 100), .lit (.int .u64 1000), .lit (.int .u64 10000), .lit (.int .u64 100000), .lit (.int .u64 1000000), .lit (.int .u64 10000000), .lit (.int .u64 100000000), .lit (.int .u64 1000000000), .lit (.int .u64 10000000000), .lit (.int .u64 100000000000), .lit (.int .u64 1000000000000), .lit (.int .u64 10000000000000), .lit (.int .u64 100000000000000), .lit (.int .u64 1000000000000000), .lit (.int .u64 10000000000000000), .lit (.int .u64 100000000000000000), .lit (.int .u64 1000000000000000000), .lit (.int .u64 10000000000000000000)]

/-- 'armaturelaw08.EvalMatchesReference': WHATEVER THE INPUT: true; the input reads as it did. -/
def evalMatchesReferenceSpec : ChangeSpec := { name := "evalMatchesReference", fn := fun _ => fun
  | [d1, d2, d3, d4, d5] => { results := [.lit (.bool true)], args := [d1, d2, d3, d4, d5] }
  | _ => none }
def evalMatchesReferenceRow : OpenClaim := { program := "ytkglmpmlfjogkaagreatdoor", sum := "350cd0773735354114c7b0e6d00d1b13e2b75ba7ea6deb3ce5308cb7db4b798b", func := "armature/armaturelaw08.EvalMatchesReference", spec := "evalMatchesReference", unfollowed := true, recurses := true, named := ["internal/strconv.uint64pow10", "math/bits.deBruijn32tab", "math/bits.deBruijn64tab"], loops := true, plainKeys := false, apart := false, laid := [("math/bits.deBruijn32tab", laid_math_bits_deBruijn32tab), ("math/bits.deBruijn64tab", laid_math_bits_deBruijn64tab), ("internal/strconv.uint64pow10", laid_internal_strconv_uint64pow10)] }
def EvalMatchesReferenceSaid : Prop := evalMatchesReferenceRow.holds Tryz.pinned (OpenSpec.ofChange evalMatchesReferenceSpec)

/-- ITS FALSE NEIGHBOUR: 'it returns false'. Refute it at one input. -/
def evalMatchesReferenceWrong : ChangeSpec := { name := "evalMatchesReference", fn := fun _ => fun
  | [d1, d2, d3, d4, d5] => { results := [.lit (.bool false)], args := [d1, d2, d3, d4, d5] }
  | _ => none }
def EvalMatchesReferenceWrongFalsely : Prop := evalMatchesReferenceRow.holds Tryz.pinned (OpenSpec.ofChange evalMatchesReferenceWrong)

/-- 'armaturelaw08.EvalDualities': WHATEVER THE INPUT: true; the input reads as it did. -/
def evalDualitiesSpec : ChangeSpec := { name := "evalDualities", fn := fun _ => fun
  | [d1, d2, d3, d4, d5, d6, d7, d8] => { results := [.lit (.bool true)], args := [d1, d2, d3, d4, d5, d6, d7, d8] }
  | _ => none }
def evalDualitiesRow : OpenClaim := { program := "ytkglmpmlfjogkaagreatdoor", sum := "350cd0773735354114c7b0e6d00d1b13e2b75ba7ea6deb3ce5308cb7db4b798b", func := "armature/armaturelaw08.EvalDualities", spec := "evalDualities", unfollowed := true, recurses := true, named := ["internal/strconv.uint64pow10", "math/bits.deBruijn32tab", "math/bits.deBruijn64tab"], loops := true, plainKeys := false, apart := false, laid := [("math/bits.deBruijn32tab", laid_math_bits_deBruijn32tab), ("math/bits.deBruijn64tab", laid_math_bits_deBruijn64tab), ("internal/strconv.uint64pow10", laid_internal_strconv_uint64pow10)] }
def EvalDualitiesSaid : Prop := evalDualitiesRow.holds Tryz.pinned (OpenSpec.ofChange evalDualitiesSpec)

/-- ITS FALSE NEIGHBOUR: 'it returns false'. Refute it at one input. -/
def evalDualitiesWrong : ChangeSpec := { name := "evalDualities", fn := fun _ => fun
  | [d1, d2, d3, d4, d5, d6, d7, d8] => { results := [.lit (.bool false)], args := [d1, d2, d3, d4, d5, d6, d7, d8] }
  | _ => none }
def EvalDualitiesWrongFalsely : Prop := evalDualitiesRow.holds Tryz.pinned (OpenSpec.ofChange evalDualitiesWrong)

/-- 'armaturelaw08.EvalOperators': WHATEVER THE INPUT: true; the input reads as it did. -/
def evalOperatorsSpec : ChangeSpec := { name := "evalOperators", fn := fun _ => fun
  | [d1, d2, d3, d4, d5, d6] => { results := [.lit (.bool true)], args := [d1, d2, d3, d4, d5, d6] }
  | _ => none }
def evalOperatorsRow : OpenClaim := { program := "ytkglmpmlfjogkaagreatdoor", sum := "350cd0773735354114c7b0e6d00d1b13e2b75ba7ea6deb3ce5308cb7db4b798b", func := "armature/armaturelaw08.EvalOperators", spec := "evalOperators", unfollowed := true, recurses := true, named := ["internal/strconv.uint64pow10", "math/bits.deBruijn32tab", "math/bits.deBruijn64tab"], loops := true, plainKeys := false, apart := false, laid := [("math/bits.deBruijn32tab", laid_math_bits_deBruijn32tab), ("math/bits.deBruijn64tab", laid_math_bits_deBruijn64tab), ("internal/strconv.uint64pow10", laid_internal_strconv_uint64pow10)] }
def EvalOperatorsSaid : Prop := evalOperatorsRow.holds Tryz.pinned (OpenSpec.ofChange evalOperatorsSpec)

/-- ITS FALSE NEIGHBOUR: 'it returns false'. Refute it at one input. -/
def evalOperatorsWrong : ChangeSpec := { name := "evalOperators", fn := fun _ => fun
  | [d1, d2, d3, d4, d5, d6] => { results := [.lit (.bool false)], args := [d1, d2, d3, d4, d5, d6] }
  | _ => none }
def EvalOperatorsWrongFalsely : Prop := evalOperatorsRow.holds Tryz.pinned (OpenSpec.ofChange evalOperatorsWrong)

/-- 'armaturelaw08.EvalInstances': WHATEVER THE INPUT: true; the input reads as it did. -/
def evalInstancesSpec : ChangeSpec := { name := "evalInstances", fn := fun _ => fun
  | [d1, d2, d3, d4, d5, d6, d7] => { results := [.lit (.bool true)], args := [d1, d2, d3, d4, d5, d6, d7] }
  | _ => none }
def evalInstancesRow : OpenClaim := { program := "ytkglmpmlfjogkaagreatdoor", sum := "350cd0773735354114c7b0e6d00d1b13e2b75ba7ea6deb3ce5308cb7db4b798b", func := "armature/armaturelaw08.EvalInstances", spec := "evalInstances", unfollowed := true, recurses := true, named := ["internal/strconv.uint64pow10", "math/bits.deBruijn32tab", "math/bits.deBruijn64tab"], loops := true, plainKeys := false, apart := false, laid := [("math/bits.deBruijn32tab", laid_math_bits_deBruijn32tab), ("math/bits.deBruijn64tab", laid_math_bits_deBruijn64tab), ("internal/strconv.uint64pow10", laid_internal_strconv_uint64pow10)] }
def EvalInstancesSaid : Prop := evalInstancesRow.holds Tryz.pinned (OpenSpec.ofChange evalInstancesSpec)

/-- ITS FALSE NEIGHBOUR: 'it returns false'. Refute it at one input. -/
def evalInstancesWrong : ChangeSpec := { name := "evalInstances", fn := fun _ => fun
  | [d1, d2, d3, d4, d5, d6, d7] => { results := [.lit (.bool false)], args := [d1, d2, d3, d4, d5, d6, d7] }
  | _ => none }
def EvalInstancesWrongFalsely : Prop := evalInstancesRow.holds Tryz.pinned (OpenSpec.ofChange evalInstancesWrong)

/-- 'armaturelaw08.EvalUnfolds': WHATEVER THE INPUT: true; the input reads as it did. -/
def evalUnfoldsSpec : ChangeSpec := { name := "evalUnfolds", fn := fun _ => fun
  | [d1, d2, d3, d4, d5, d6, d7] => { results := [.lit (.bool true)], args := [d1, d2, d3, d4, d5, d6, d7] }
  | _ => none }
def evalUnfoldsRow : OpenClaim := { program := "ytkglmpmlfjogkaagreatdoor", sum := "350cd0773735354114c7b0e6d00d1b13e2b75ba7ea6deb3ce5308cb7db4b798b", func := "armature/armaturelaw08.EvalUnfolds", spec := "evalUnfolds", unfollowed := true, recurses := true, named := ["internal/strconv.uint64pow10", "math/bits.deBruijn32tab", "math/bits.deBruijn64tab"], loops := true, plainKeys := false, apart := false, laid := [("math/bits.deBruijn32tab", laid_math_bits_deBruijn32tab), ("math/bits.deBruijn64tab", laid_math_bits_deBruijn64tab), ("internal/strconv.uint64pow10", laid_internal_strconv_uint64pow10)] }
def EvalUnfoldsSaid : Prop := evalUnfoldsRow.holds Tryz.pinned (OpenSpec.ofChange evalUnfoldsSpec)

/-- ITS FALSE NEIGHBOUR: 'it returns false'. Refute it at one input. -/
def evalUnfoldsWrong : ChangeSpec := { name := "evalUnfolds", fn := fun _ => fun
  | [d1, d2, d3, d4, d5, d6, d7] => { results := [.lit (.bool false)], args := [d1, d2, d3, d4, d5, d6, d7] }
  | _ => none }
def EvalUnfoldsWrongFalsely : Prop := evalUnfoldsRow.holds Tryz.pinned (OpenSpec.ofChange evalUnfoldsWrong)

/-- 'armaturelaw08.EvalBindings': WHATEVER THE INPUT: true; the input reads as it did. -/
def evalBindingsSpec : ChangeSpec := { name := "evalBindings", fn := fun _ => fun
  | [d1, d2, d3, d4, d5, d6, d7] => { results := [.lit (.bool true)], args := [d1, d2, d3, d4, d5, d6, d7] }
  | _ => none }
def evalBindingsRow : OpenClaim := { program := "ytkglmpmlfjogkaagreatdoor", sum := "350cd0773735354114c7b0e6d00d1b13e2b75ba7ea6deb3ce5308cb7db4b798b", func := "armature/armaturelaw08.EvalBindings", spec := "evalBindings", unfollowed := true, recurses := true, named := ["internal/strconv.uint64pow10", "math/bits.deBruijn32tab", "math/bits.deBruijn64tab"], loops := true, plainKeys := false, apart := false, laid := [("math/bits.deBruijn32tab", laid_math_bits_deBruijn32tab), ("math/bits.deBruijn64tab", laid_math_bits_deBruijn64tab), ("internal/strconv.uint64pow10", laid_internal_strconv_uint64pow10)] }
def EvalBindingsSaid : Prop := evalBindingsRow.holds Tryz.pinned (OpenSpec.ofChange evalBindingsSpec)

/-- ITS FALSE NEIGHBOUR: 'it returns false'. Refute it at one input. -/
def evalBindingsWrong : ChangeSpec := { name := "evalBindings", fn := fun _ => fun
  | [d1, d2, d3, d4, d5, d6, d7] => { results := [.lit (.bool false)], args := [d1, d2, d3, d4, d5, d6, d7] }
  | _ => none }
def EvalBindingsWrongFalsely : Prop := evalBindingsRow.holds Tryz.pinned (OpenSpec.ofChange evalBindingsWrong)

/-- 'armaturelaw08.EvalHolds': WHATEVER THE INPUT: true; the input reads as it did. -/
def evalHoldsSpec : ChangeSpec := { name := "evalHolds", fn := fun _ => fun
  | [d1, d2, d3, d4] => { results := [.lit (.bool true)], args := [d1, d2, d3, d4] }
  | _ => none }
def evalHoldsRow : OpenClaim := { program := "ytkglmpmlfjogkaagreatdoor", sum := "350cd0773735354114c7b0e6d00d1b13e2b75ba7ea6deb3ce5308cb7db4b798b", func := "armature/armaturelaw08.EvalHolds", spec := "evalHolds", unfollowed := true, recurses := true, named := ["internal/strconv.uint64pow10", "math/bits.deBruijn32tab", "math/bits.deBruijn64tab"], loops := true, plainKeys := false, apart := false, laid := [("math/bits.deBruijn32tab", laid_math_bits_deBruijn32tab), ("math/bits.deBruijn64tab", laid_math_bits_deBruijn64tab), ("internal/strconv.uint64pow10", laid_internal_strconv_uint64pow10)] }
def EvalHoldsSaid : Prop := evalHoldsRow.holds Tryz.pinned (OpenSpec.ofChange evalHoldsSpec)

/-- ITS FALSE NEIGHBOUR: 'it returns false'. Refute it at one input. -/
def evalHoldsWrong : ChangeSpec := { name := "evalHolds", fn := fun _ => fun
  | [d1, d2, d3, d4] => { results := [.lit (.bool false)], args := [d1, d2, d3, d4] }
  | _ => none }
def EvalHoldsWrongFalsely : Prop := evalHoldsRow.holds Tryz.pinned (OpenSpec.ofChange evalHoldsWrong)

/-- 'armaturelaw08.EvalTraces': WHATEVER THE INPUT: true; the input reads as it did. -/
def evalTracesSpec : ChangeSpec := { name := "evalTraces", fn := fun _ => fun
  | [d1, d2, d3, d4] => { results := [.lit (.bool true)], args := [d1, d2, d3, d4] }
  | _ => none }
def evalTracesRow : OpenClaim := { program := "ytkglmpmlfjogkaagreatdoor", sum := "350cd0773735354114c7b0e6d00d1b13e2b75ba7ea6deb3ce5308cb7db4b798b", func := "armature/armaturelaw08.EvalTraces", spec := "evalTraces", unfollowed := true, recurses := true, named := ["internal/strconv.uint64pow10", "math/bits.deBruijn32tab", "math/bits.deBruijn64tab"], loops := true, plainKeys := false, apart := false, laid := [("math/bits.deBruijn32tab", laid_math_bits_deBruijn32tab), ("math/bits.deBruijn64tab", laid_math_bits_deBruijn64tab), ("internal/strconv.uint64pow10", laid_internal_strconv_uint64pow10)] }
def EvalTracesSaid : Prop := evalTracesRow.holds Tryz.pinned (OpenSpec.ofChange evalTracesSpec)

/-- ITS FALSE NEIGHBOUR: 'it returns false'. Refute it at one input. -/
def evalTracesWrong : ChangeSpec := { name := "evalTraces", fn := fun _ => fun
  | [d1, d2, d3, d4] => { results := [.lit (.bool false)], args := [d1, d2, d3, d4] }
  | _ => none }
def EvalTracesWrongFalsely : Prop := evalTracesRow.holds Tryz.pinned (OpenSpec.ofChange evalTracesWrong)

/- THE SECOND FORM. 'bulk': how many values and letters a reading holds, each counted each time it is reached (what is shared counts as often as it is met; a slice's spare places count too). A statement '..UptoSaid' is the law's where the arguments, and the package variables that the reading takes, are together of bulk at most 1048576: NARROWER than '..Said'. Prove '..Said' where nothing that the law and all that it calls make is longer than what came in: it says more and counts as full. Else prove '..UptoSaid'. A law counts once. -/
mutual
def uptoBulk {H : Type} : DataW H → Nat
  | .lit (.string bytes) => bytes.length + 1
  | .lit _ => 1
  | .nil => 1
  | .ptr d => uptoBulk d + 1
  | .slice elems spare => uptoBulkAll elems + uptoBulkAll spare + 1
  | .agg parts => uptoBulkAll parts + 1
  | .iface _ d => uptoBulk d + 1
  | .map entries => uptoBulkEntries entries + 1
  | .held _ => 1
def uptoBulkAll {H : Type} : List (DataW H) → Nat
  | [] => 0
  | d :: r => uptoBulk d + uptoBulkAll r
def uptoBulkEntries {H : Type} : List (Lit × DataW H) → Nat
  | [] => 0
  | x :: r => uptoBulkEntry x + uptoBulkEntries r
def uptoBulkEntry {H : Type} : Lit × DataW H → Nat
  | (.string bytes, d) => bytes.length + uptoBulk d + 1
  | (_, d) => uptoBulk d + 1
 end
def uptoSmall : (H : Type) → List (DataW H) → Bool := fun _ ds => decide (uptoBulkAll ds ≤ 1048576)
def OpenSpec.upto (s : _root_.Go.ChangeSpec) : _root_.Go.OpenSpec := { _root_.Go.OpenSpec.ofChange s with cond := some uptoSmall }

/-- 'armaturelaw08.EvalMatchesReference', WHERE WHAT IT READS IS OF BULK AT MOST 1048576: true; the input reads as it did. -/
def evalMatchesReferenceUptoRow : OpenClaim := { program := "ytkglmpmlfjogkaagreatdoor", sum := "350cd0773735354114c7b0e6d00d1b13e2b75ba7ea6deb3ce5308cb7db4b798b", func := "armature/armaturelaw08.EvalMatchesReference", spec := "evalMatchesReference", unfollowed := true, recurses := true, named := ["internal/strconv.uint64pow10", "math/bits.deBruijn32tab", "math/bits.deBruijn64tab"], loops := true, plainKeys := false, apart := false, laid := [("math/bits.deBruijn32tab", laid_math_bits_deBruijn32tab), ("math/bits.deBruijn64tab", laid_math_bits_deBruijn64tab), ("internal/strconv.uint64pow10", laid_internal_strconv_uint64pow10)], narrowed := true }
def EvalMatchesReferenceUptoSaid : Prop := evalMatchesReferenceUptoRow.holds Tryz.pinned (OpenSpec.upto evalMatchesReferenceSpec)

/-- 'armaturelaw08.EvalDualities', WHERE WHAT IT READS IS OF BULK AT MOST 1048576: true; the input reads as it did. -/
def evalDualitiesUptoRow : OpenClaim := { program := "ytkglmpmlfjogkaagreatdoor", sum := "350cd0773735354114c7b0e6d00d1b13e2b75ba7ea6deb3ce5308cb7db4b798b", func := "armature/armaturelaw08.EvalDualities", spec := "evalDualities", unfollowed := true, recurses := true, named := ["internal/strconv.uint64pow10", "math/bits.deBruijn32tab", "math/bits.deBruijn64tab"], loops := true, plainKeys := false, apart := false, laid := [("math/bits.deBruijn32tab", laid_math_bits_deBruijn32tab), ("math/bits.deBruijn64tab", laid_math_bits_deBruijn64tab), ("internal/strconv.uint64pow10", laid_internal_strconv_uint64pow10)], narrowed := true }
def EvalDualitiesUptoSaid : Prop := evalDualitiesUptoRow.holds Tryz.pinned (OpenSpec.upto evalDualitiesSpec)

/-- 'armaturelaw08.EvalOperators', WHERE WHAT IT READS IS OF BULK AT MOST 1048576: true; the input reads as it did. -/
def evalOperatorsUptoRow : OpenClaim := { program := "ytkglmpmlfjogkaagreatdoor", sum := "350cd0773735354114c7b0e6d00d1b13e2b75ba7ea6deb3ce5308cb7db4b798b", func := "armature/armaturelaw08.EvalOperators", spec := "evalOperators", unfollowed := true, recurses := true, named := ["internal/strconv.uint64pow10", "math/bits.deBruijn32tab", "math/bits.deBruijn64tab"], loops := true, plainKeys := false, apart := false, laid := [("math/bits.deBruijn32tab", laid_math_bits_deBruijn32tab), ("math/bits.deBruijn64tab", laid_math_bits_deBruijn64tab), ("internal/strconv.uint64pow10", laid_internal_strconv_uint64pow10)], narrowed := true }
def EvalOperatorsUptoSaid : Prop := evalOperatorsUptoRow.holds Tryz.pinned (OpenSpec.upto evalOperatorsSpec)

/-- 'armaturelaw08.EvalInstances', WHERE WHAT IT READS IS OF BULK AT MOST 1048576: true; the input reads as it did. -/
def evalInstancesUptoRow : OpenClaim := { program := "ytkglmpmlfjogkaagreatdoor", sum := "350cd0773735354114c7b0e6d00d1b13e2b75ba7ea6deb3ce5308cb7db4b798b", func := "armature/armaturelaw08.EvalInstances", spec := "evalInstances", unfollowed := true, recurses := true, named := ["internal/strconv.uint64pow10", "math/bits.deBruijn32tab", "math/bits.deBruijn64tab"], loops := true, plainKeys := false, apart := false, laid := [("math/bits.deBruijn32tab", laid_math_bits_deBruijn32tab), ("math/bits.deBruijn64tab", laid_math_bits_deBruijn64tab), ("internal/strconv.uint64pow10", laid_internal_strconv_uint64pow10)], narrowed := true }
def EvalInstancesUptoSaid : Prop := evalInstancesUptoRow.holds Tryz.pinned (OpenSpec.upto evalInstancesSpec)

/-- 'armaturelaw08.EvalUnfolds', WHERE WHAT IT READS IS OF BULK AT MOST 1048576: true; the input reads as it did. -/
def evalUnfoldsUptoRow : OpenClaim := { program := "ytkglmpmlfjogkaagreatdoor", sum := "350cd0773735354114c7b0e6d00d1b13e2b75ba7ea6deb3ce5308cb7db4b798b", func := "armature/armaturelaw08.EvalUnfolds", spec := "evalUnfolds", unfollowed := true, recurses := true, named := ["internal/strconv.uint64pow10", "math/bits.deBruijn32tab", "math/bits.deBruijn64tab"], loops := true, plainKeys := false, apart := false, laid := [("math/bits.deBruijn32tab", laid_math_bits_deBruijn32tab), ("math/bits.deBruijn64tab", laid_math_bits_deBruijn64tab), ("internal/strconv.uint64pow10", laid_internal_strconv_uint64pow10)], narrowed := true }
def EvalUnfoldsUptoSaid : Prop := evalUnfoldsUptoRow.holds Tryz.pinned (OpenSpec.upto evalUnfoldsSpec)

/-- 'armaturelaw08.EvalBindings', WHERE WHAT IT READS IS OF BULK AT MOST 1048576: true; the input reads as it did. -/
def evalBindingsUptoRow : OpenClaim := { program := "ytkglmpmlfjogkaagreatdoor", sum := "350cd0773735354114c7b0e6d00d1b13e2b75ba7ea6deb3ce5308cb7db4b798b", func := "armature/armaturelaw08.EvalBindings", spec := "evalBindings", unfollowed := true, recurses := true, named := ["internal/strconv.uint64pow10", "math/bits.deBruijn32tab", "math/bits.deBruijn64tab"], loops := true, plainKeys := false, apart := false, laid := [("math/bits.deBruijn32tab", laid_math_bits_deBruijn32tab), ("math/bits.deBruijn64tab", laid_math_bits_deBruijn64tab), ("internal/strconv.uint64pow10", laid_internal_strconv_uint64pow10)], narrowed := true }
def EvalBindingsUptoSaid : Prop := evalBindingsUptoRow.holds Tryz.pinned (OpenSpec.upto evalBindingsSpec)

/-- 'armaturelaw08.EvalHolds', WHERE WHAT IT READS IS OF BULK AT MOST 1048576: true; the input reads as it did. -/
def evalHoldsUptoRow : OpenClaim := { program := "ytkglmpmlfjogkaagreatdoor", sum := "350cd0773735354114c7b0e6d00d1b13e2b75ba7ea6deb3ce5308cb7db4b798b", func := "armature/armaturelaw08.EvalHolds", spec := "evalHolds", unfollowed := true, recurses := true, named := ["internal/strconv.uint64pow10", "math/bits.deBruijn32tab", "math/bits.deBruijn64tab"], loops := true, plainKeys := false, apart := false, laid := [("math/bits.deBruijn32tab", laid_math_bits_deBruijn32tab), ("math/bits.deBruijn64tab", laid_math_bits_deBruijn64tab), ("internal/strconv.uint64pow10", laid_internal_strconv_uint64pow10)], narrowed := true }
def EvalHoldsUptoSaid : Prop := evalHoldsUptoRow.holds Tryz.pinned (OpenSpec.upto evalHoldsSpec)

/-- 'armaturelaw08.EvalTraces', WHERE WHAT IT READS IS OF BULK AT MOST 1048576: true; the input reads as it did. -/
def evalTracesUptoRow : OpenClaim := { program := "ytkglmpmlfjogkaagreatdoor", sum := "350cd0773735354114c7b0e6d00d1b13e2b75ba7ea6deb3ce5308cb7db4b798b", func := "armature/armaturelaw08.EvalTraces", spec := "evalTraces", unfollowed := true, recurses := true, named := ["internal/strconv.uint64pow10", "math/bits.deBruijn32tab", "math/bits.deBruijn64tab"], loops := true, plainKeys := false, apart := false, laid := [("math/bits.deBruijn32tab", laid_math_bits_deBruijn32tab), ("math/bits.deBruijn64tab", laid_math_bits_deBruijn64tab), ("internal/strconv.uint64pow10", laid_internal_strconv_uint64pow10)], narrowed := true }
def EvalTracesUptoSaid : Prop := evalTracesUptoRow.holds Tryz.pinned (OpenSpec.upto evalTracesSpec)

end Rows
end Go.Proofs.YtkglmpmlfjogkaaGreatDoor
