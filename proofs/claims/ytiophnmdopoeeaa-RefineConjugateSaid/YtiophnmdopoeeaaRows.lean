/-
  NARROWER THAN 'FOR EVERY INPUT', by the rows' own cells (each row's printed sentence says how): RefinePartition: loops · RefineRespected: loops · RefineSwaps: loops · RefineMonotonic: loops · RefineGroup: loops · RefineComplete: loops · RefineConjugate: loops.
  DERIVED. THE GIVEN ROWS OF THIS SEAT. 7 by the template 'for every input the law returns true; each argument reads behind the call as it read before'; 0 by the template 'total and deterministic' (their statements: YtiophnmdopoeeaaTotals.lean).
  GIVEN WITH THE SEED: the statements are not yours to turn. If you find one false, say at which input.
  Laid BY PROGRAM, IN A SANDBOX (cutbox-rows.mjs): the forced cells as the released guide's own fill.sh prints them over the translation e511fb5fcdaf6e7d… (all of the seat's roots in one cut). By AI agents, Wed Nov 11 2026. No macro, syntax, notation, axiom, sorry.
-/
import Derived.Test.YtiophnmdopoeeaaChecked
import GoSem.Claim
import GoSem.ClaimJoined
import GoSem.ClaimMapViews
import Derived.JoinedTies
import Derived.KernelRfl
namespace Go.Proofs.Ytiophnmdopoeeaa
/- THE CELL 'sum', in the pinned program and in every row, IS THE sha256 OF THE DUMP (.gsa) THAT YtiophnmdopoeeaaProg.lean LOADS. Nothing in Lean hashes anything: it is a label: what it is worth is what the hold of that sum in a sandbox is worth. -/
noncomputable def Try.pinned : Pinned := { name := "ytiophnmdopoeeaa", sum := "e511fb5fcdaf6e7d2e7c091c2d717a57f3cbb16f8c69ca3a779a00babd46bf17", checked := Try.checked }
namespace Rows
def none {H : Type} : Left H := { results := [], args := [] }

/-- 'armaturelaw12.RefinePartition': WHATEVER THE INPUT: true; the input reads as it did. -/
def refinePartitionSpec : ChangeSpec := { name := "refinePartition", fn := fun _ => fun
  | [d1, d2, d3] => { results := [.lit (.bool true)], args := [d1, d2, d3] }
  | _ => none }
def refinePartitionRow : OpenClaim := { program := "ytiophnmdopoeeaa", sum := "e511fb5fcdaf6e7d2e7c091c2d717a57f3cbb16f8c69ca3a779a00babd46bf17", func := "armature/armaturelaw12.RefinePartition", spec := "refinePartition", unfollowed := true, recurses := true, loops := true, plainKeys := false, apart := false }
def RefinePartitionSaid : Prop := refinePartitionRow.holds Try.pinned (OpenSpec.ofChange refinePartitionSpec)

/-- ITS FALSE NEIGHBOUR: 'it returns false'. Refute it at one input. -/
def refinePartitionWrong : ChangeSpec := { name := "refinePartition", fn := fun _ => fun
  | [d1, d2, d3] => { results := [.lit (.bool false)], args := [d1, d2, d3] }
  | _ => none }
def RefinePartitionWrongFalsely : Prop := refinePartitionRow.holds Try.pinned (OpenSpec.ofChange refinePartitionWrong)

/-- 'armaturelaw12.RefineRespected': WHATEVER THE INPUT: true; the input reads as it did. -/
def refineRespectedSpec : ChangeSpec := { name := "refineRespected", fn := fun _ => fun
  | [d1, d2, d3] => { results := [.lit (.bool true)], args := [d1, d2, d3] }
  | _ => none }
def refineRespectedRow : OpenClaim := { program := "ytiophnmdopoeeaa", sum := "e511fb5fcdaf6e7d2e7c091c2d717a57f3cbb16f8c69ca3a779a00babd46bf17", func := "armature/armaturelaw12.RefineRespected", spec := "refineRespected", unfollowed := true, recurses := true, loops := true, plainKeys := false, apart := false }
def RefineRespectedSaid : Prop := refineRespectedRow.holds Try.pinned (OpenSpec.ofChange refineRespectedSpec)

/-- ITS FALSE NEIGHBOUR: 'it returns false'. Refute it at one input. -/
def refineRespectedWrong : ChangeSpec := { name := "refineRespected", fn := fun _ => fun
  | [d1, d2, d3] => { results := [.lit (.bool false)], args := [d1, d2, d3] }
  | _ => none }
def RefineRespectedWrongFalsely : Prop := refineRespectedRow.holds Try.pinned (OpenSpec.ofChange refineRespectedWrong)

/-- 'armaturelaw12.RefineSwaps': WHATEVER THE INPUT: true; the input reads as it did. -/
def refineSwapsSpec : ChangeSpec := { name := "refineSwaps", fn := fun _ => fun
  | [d1, d2, d3] => { results := [.lit (.bool true)], args := [d1, d2, d3] }
  | _ => none }
def refineSwapsRow : OpenClaim := { program := "ytiophnmdopoeeaa", sum := "e511fb5fcdaf6e7d2e7c091c2d717a57f3cbb16f8c69ca3a779a00babd46bf17", func := "armature/armaturelaw12.RefineSwaps", spec := "refineSwaps", unfollowed := true, recurses := true, loops := true, plainKeys := false, apart := false }
def RefineSwapsSaid : Prop := refineSwapsRow.holds Try.pinned (OpenSpec.ofChange refineSwapsSpec)

/-- ITS FALSE NEIGHBOUR: 'it returns false'. Refute it at one input. -/
def refineSwapsWrong : ChangeSpec := { name := "refineSwaps", fn := fun _ => fun
  | [d1, d2, d3] => { results := [.lit (.bool false)], args := [d1, d2, d3] }
  | _ => none }
def RefineSwapsWrongFalsely : Prop := refineSwapsRow.holds Try.pinned (OpenSpec.ofChange refineSwapsWrong)

/-- 'armaturelaw12.RefineMonotonic': WHATEVER THE INPUT: true; the input reads as it did. -/
def refineMonotonicSpec : ChangeSpec := { name := "refineMonotonic", fn := fun _ => fun
  | [d1, d2, d3] => { results := [.lit (.bool true)], args := [d1, d2, d3] }
  | _ => none }
def refineMonotonicRow : OpenClaim := { program := "ytiophnmdopoeeaa", sum := "e511fb5fcdaf6e7d2e7c091c2d717a57f3cbb16f8c69ca3a779a00babd46bf17", func := "armature/armaturelaw12.RefineMonotonic", spec := "refineMonotonic", unfollowed := true, recurses := true, loops := true, plainKeys := false, apart := false }
def RefineMonotonicSaid : Prop := refineMonotonicRow.holds Try.pinned (OpenSpec.ofChange refineMonotonicSpec)

/-- ITS FALSE NEIGHBOUR: 'it returns false'. Refute it at one input. -/
def refineMonotonicWrong : ChangeSpec := { name := "refineMonotonic", fn := fun _ => fun
  | [d1, d2, d3] => { results := [.lit (.bool false)], args := [d1, d2, d3] }
  | _ => none }
def RefineMonotonicWrongFalsely : Prop := refineMonotonicRow.holds Try.pinned (OpenSpec.ofChange refineMonotonicWrong)

/-- 'armaturelaw12.RefineGroup': WHATEVER THE INPUT: true; the input reads as it did. -/
def refineGroupSpec : ChangeSpec := { name := "refineGroup", fn := fun _ => fun
  | [d1, d2, d3, d4, d5] => { results := [.lit (.bool true)], args := [d1, d2, d3, d4, d5] }
  | _ => none }
def refineGroupRow : OpenClaim := { program := "ytiophnmdopoeeaa", sum := "e511fb5fcdaf6e7d2e7c091c2d717a57f3cbb16f8c69ca3a779a00babd46bf17", func := "armature/armaturelaw12.RefineGroup", spec := "refineGroup", unfollowed := true, recurses := true, loops := true, plainKeys := false, apart := false }
def RefineGroupSaid : Prop := refineGroupRow.holds Try.pinned (OpenSpec.ofChange refineGroupSpec)

/-- ITS FALSE NEIGHBOUR: 'it returns false'. Refute it at one input. -/
def refineGroupWrong : ChangeSpec := { name := "refineGroup", fn := fun _ => fun
  | [d1, d2, d3, d4, d5] => { results := [.lit (.bool false)], args := [d1, d2, d3, d4, d5] }
  | _ => none }
def RefineGroupWrongFalsely : Prop := refineGroupRow.holds Try.pinned (OpenSpec.ofChange refineGroupWrong)

/-- 'armaturelaw12.RefineComplete': WHATEVER THE INPUT: true; the input reads as it did. -/
def refineCompleteSpec : ChangeSpec := { name := "refineComplete", fn := fun _ => fun
  | [d1, d2, d3] => { results := [.lit (.bool true)], args := [d1, d2, d3] }
  | _ => none }
def refineCompleteRow : OpenClaim := { program := "ytiophnmdopoeeaa", sum := "e511fb5fcdaf6e7d2e7c091c2d717a57f3cbb16f8c69ca3a779a00babd46bf17", func := "armature/armaturelaw12.RefineComplete", spec := "refineComplete", unfollowed := true, recurses := true, loops := true, plainKeys := false, apart := false }
def RefineCompleteSaid : Prop := refineCompleteRow.holds Try.pinned (OpenSpec.ofChange refineCompleteSpec)

/-- ITS FALSE NEIGHBOUR: 'it returns false'. Refute it at one input. -/
def refineCompleteWrong : ChangeSpec := { name := "refineComplete", fn := fun _ => fun
  | [d1, d2, d3] => { results := [.lit (.bool false)], args := [d1, d2, d3] }
  | _ => none }
def RefineCompleteWrongFalsely : Prop := refineCompleteRow.holds Try.pinned (OpenSpec.ofChange refineCompleteWrong)

/-- 'armaturelaw12.RefineConjugate': WHATEVER THE INPUT: true; the input reads as it did. -/
def refineConjugateSpec : ChangeSpec := { name := "refineConjugate", fn := fun _ => fun
  | [d1, d2, d3, d4] => { results := [.lit (.bool true)], args := [d1, d2, d3, d4] }
  | _ => none }
def refineConjugateRow : OpenClaim := { program := "ytiophnmdopoeeaa", sum := "e511fb5fcdaf6e7d2e7c091c2d717a57f3cbb16f8c69ca3a779a00babd46bf17", func := "armature/armaturelaw12.RefineConjugate", spec := "refineConjugate", unfollowed := true, recurses := true, loops := true, plainKeys := false, apart := false }
def RefineConjugateSaid : Prop := refineConjugateRow.holds Try.pinned (OpenSpec.ofChange refineConjugateSpec)

/-- ITS FALSE NEIGHBOUR: 'it returns false'. Refute it at one input. -/
def refineConjugateWrong : ChangeSpec := { name := "refineConjugate", fn := fun _ => fun
  | [d1, d2, d3, d4] => { results := [.lit (.bool false)], args := [d1, d2, d3, d4] }
  | _ => none }
def RefineConjugateWrongFalsely : Prop := refineConjugateRow.holds Try.pinned (OpenSpec.ofChange refineConjugateWrong)

/- THE SECOND FORM. 'bulk': how many values and letters a reading holds, each counted each time it is reached (what is shared counts as often as it is met; a slice's spare places count too). A statement '..UptoSaid' is the law's where the arguments, and the package variables that the reading takes, are together of bulk at most 1048576: NARROWER than '..Said'. Prove '..Said' where nothing that the law and all that it calls make is longer than what came in: it says more and counts as full. Else prove '..UptoSaid'. A law counts once. -/
mutual
def uptoBulk {H : Type} : DataW H → Nat
  | .lit (.string bytes) => bytes.length + 1
  | .lit _ => 1
  | .nil => 1
  | .ptr d => uptoBulk d + 1
  | .slice elems spare => uptoBulkAll elems + uptoBulkAll spare + 1
  | .agg parts => uptoBulkAll parts + 1
  | .iface _ d => uptoBulk d + 1
  | .map entries => uptoBulkEntries entries + 1
  | .held _ => 1
def uptoBulkAll {H : Type} : List (DataW H) → Nat
  | [] => 0
  | d :: r => uptoBulk d + uptoBulkAll r
def uptoBulkEntries {H : Type} : List (Lit × DataW H) → Nat
  | [] => 0
  | x :: r => uptoBulkEntry x + uptoBulkEntries r
def uptoBulkEntry {H : Type} : Lit × DataW H → Nat
  | (.string bytes, d) => bytes.length + uptoBulk d + 1
  | (_, d) => uptoBulk d + 1
 end
def uptoSmall : (H : Type) → List (DataW H) → Bool := fun _ ds => decide (uptoBulkAll ds ≤ 1048576)
def OpenSpec.upto (s : _root_.Go.ChangeSpec) : _root_.Go.OpenSpec := { _root_.Go.OpenSpec.ofChange s with cond := some uptoSmall }

/-- 'armaturelaw12.RefinePartition', WHERE WHAT IT READS IS OF BULK AT MOST 1048576: true; the input reads as it did. -/
def refinePartitionUptoRow : OpenClaim := { program := "ytiophnmdopoeeaa", sum := "e511fb5fcdaf6e7d2e7c091c2d717a57f3cbb16f8c69ca3a779a00babd46bf17", func := "armature/armaturelaw12.RefinePartition", spec := "refinePartition", unfollowed := true, recurses := true, loops := true, plainKeys := false, apart := false, narrowed := true }
def RefinePartitionUptoSaid : Prop := refinePartitionUptoRow.holds Try.pinned (OpenSpec.upto refinePartitionSpec)

/-- 'armaturelaw12.RefineRespected', WHERE WHAT IT READS IS OF BULK AT MOST 1048576: true; the input reads as it did. -/
def refineRespectedUptoRow : OpenClaim := { program := "ytiophnmdopoeeaa", sum := "e511fb5fcdaf6e7d2e7c091c2d717a57f3cbb16f8c69ca3a779a00babd46bf17", func := "armature/armaturelaw12.RefineRespected", spec := "refineRespected", unfollowed := true, recurses := true, loops := true, plainKeys := false, apart := false, narrowed := true }
def RefineRespectedUptoSaid : Prop := refineRespectedUptoRow.holds Try.pinned (OpenSpec.upto refineRespectedSpec)

/-- 'armaturelaw12.RefineSwaps', WHERE WHAT IT READS IS OF BULK AT MOST 1048576: true; the input reads as it did. -/
def refineSwapsUptoRow : OpenClaim := { program := "ytiophnmdopoeeaa", sum := "e511fb5fcdaf6e7d2e7c091c2d717a57f3cbb16f8c69ca3a779a00babd46bf17", func := "armature/armaturelaw12.RefineSwaps", spec := "refineSwaps", unfollowed := true, recurses := true, loops := true, plainKeys := false, apart := false, narrowed := true }
def RefineSwapsUptoSaid : Prop := refineSwapsUptoRow.holds Try.pinned (OpenSpec.upto refineSwapsSpec)

/-- 'armaturelaw12.RefineMonotonic', WHERE WHAT IT READS IS OF BULK AT MOST 1048576: true; the input reads as it did. -/
def refineMonotonicUptoRow : OpenClaim := { program := "ytiophnmdopoeeaa", sum := "e511fb5fcdaf6e7d2e7c091c2d717a57f3cbb16f8c69ca3a779a00babd46bf17", func := "armature/armaturelaw12.RefineMonotonic", spec := "refineMonotonic", unfollowed := true, recurses := true, loops := true, plainKeys := false, apart := false, narrowed := true }
def RefineMonotonicUptoSaid : Prop := refineMonotonicUptoRow.holds Try.pinned (OpenSpec.upto refineMonotonicSpec)

/-- 'armaturelaw12.RefineGroup', WHERE WHAT IT READS IS OF BULK AT MOST 1048576: true; the input reads as it did. -/
def refineGroupUptoRow : OpenClaim := { program := "ytiophnmdopoeeaa", sum := "e511fb5fcdaf6e7d2e7c091c2d717a57f3cbb16f8c69ca3a779a00babd46bf17", func := "armature/armaturelaw12.RefineGroup", spec := "refineGroup", unfollowed := true, recurses := true, loops := true, plainKeys := false, apart := false, narrowed := true }
def RefineGroupUptoSaid : Prop := refineGroupUptoRow.holds Try.pinned (OpenSpec.upto refineGroupSpec)

/-- 'armaturelaw12.RefineComplete', WHERE WHAT IT READS IS OF BULK AT MOST 1048576: true; the input reads as it did. -/
def refineCompleteUptoRow : OpenClaim := { program := "ytiophnmdopoeeaa", sum := "e511fb5fcdaf6e7d2e7c091c2d717a57f3cbb16f8c69ca3a779a00babd46bf17", func := "armature/armaturelaw12.RefineComplete", spec := "refineComplete", unfollowed := true, recurses := true, loops := true, plainKeys := false, apart := false, narrowed := true }
def RefineCompleteUptoSaid : Prop := refineCompleteUptoRow.holds Try.pinned (OpenSpec.upto refineCompleteSpec)

/-- 'armaturelaw12.RefineConjugate', WHERE WHAT IT READS IS OF BULK AT MOST 1048576: true; the input reads as it did. -/
def refineConjugateUptoRow : OpenClaim := { program := "ytiophnmdopoeeaa", sum := "e511fb5fcdaf6e7d2e7c091c2d717a57f3cbb16f8c69ca3a779a00babd46bf17", func := "armature/armaturelaw12.RefineConjugate", spec := "refineConjugate", unfollowed := true, recurses := true, loops := true, plainKeys := false, apart := false, narrowed := true }
def RefineConjugateUptoSaid : Prop := refineConjugateUptoRow.holds Try.pinned (OpenSpec.upto refineConjugateSpec)

end Rows
end Go.Proofs.Ytiophnmdopoeeaa
