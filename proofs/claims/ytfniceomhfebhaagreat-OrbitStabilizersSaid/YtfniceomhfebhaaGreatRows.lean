/-
  NARROWER THAN 'FOR EVERY INPUT', by the rows' own cells (each row's printed sentence says how): OrbitMatchesReference: loops · OrbitCanonical: loops · OrbitEquivalence: loops · OrbitCounts: loops · OrbitSorted: loops · OrbitStabilizers: loops.
  DERIVED. THE GIVEN ROWS OF THIS SEAT. 6 by the template 'for every input the law returns true; each argument reads behind the call as it read before'; 0 by the template 'total and deterministic' (their statements: YtfniceomhfebhaaGreatTotals.lean).
  GIVEN WITH THE SEED: the statements are not yours to turn. If you find one false, say at which input.
  Laid BY PROGRAM, IN A SANDBOX (cutbox-rows.mjs): the forced cells as the released guide's own fill.sh prints them over the translation a202883a2f9a042c… (all of the seat's roots in one cut). By AI agents, Wed Nov 11 2026. No macro, syntax, notation, axiom, sorry.
-/
import Derived.Test.YtfniceomhfebhaaGreatChecked
import GoSem.Claim
import GoSem.ClaimJoined
import GoSem.ClaimMapViews
import Derived.JoinedTies
import Derived.KernelRfl
namespace Go.Proofs.YtfniceomhfebhaaGreat
/- THE CELL 'sum', in the pinned program and in every row, IS THE sha256 OF THE DUMP (.gsa) THAT YtfniceomhfebhaaGreatProg.lean LOADS. Nothing in Lean hashes anything: it is a label: what it is worth is what the hold of that sum in a sandbox is worth. -/
noncomputable def Tryz.pinned : Pinned := { name := "ytfniceomhfebhaagreat", sum := "a202883a2f9a042c8614bea6c9b1d343bb5461ed685507406612d1f64d95cff4", checked := Tryz.checked }
namespace Rows
def none {H : Type} : Left H := { results := [], args := [] }

/-- 'armaturelaw26.OrbitMatchesReference': WHATEVER THE INPUT: true; the input reads as it did. -/
def orbitMatchesReferenceSpec : ChangeSpec := { name := "orbitMatchesReference", fn := fun _ => fun
  | [d1, d2, d3, d4] => { results := [.lit (.bool true)], args := [d1, d2, d3, d4] }
  | _ => none }
def orbitMatchesReferenceRow : OpenClaim := { program := "ytfniceomhfebhaagreat", sum := "a202883a2f9a042c8614bea6c9b1d343bb5461ed685507406612d1f64d95cff4", func := "armature/armaturelaw26.OrbitMatchesReference", spec := "orbitMatchesReference", unfollowed := true, recurses := true, loops := true, plainKeys := false, apart := false }
def OrbitMatchesReferenceSaid : Prop := orbitMatchesReferenceRow.holds Tryz.pinned (OpenSpec.ofChange orbitMatchesReferenceSpec)

/-- ITS FALSE NEIGHBOUR: 'it returns false'. Refute it at one input. -/
def orbitMatchesReferenceWrong : ChangeSpec := { name := "orbitMatchesReference", fn := fun _ => fun
  | [d1, d2, d3, d4] => { results := [.lit (.bool false)], args := [d1, d2, d3, d4] }
  | _ => none }
def OrbitMatchesReferenceWrongFalsely : Prop := orbitMatchesReferenceRow.holds Tryz.pinned (OpenSpec.ofChange orbitMatchesReferenceWrong)

/-- 'armaturelaw26.OrbitCanonical': WHATEVER THE INPUT: true; the input reads as it did. -/
def orbitCanonicalSpec : ChangeSpec := { name := "orbitCanonical", fn := fun _ => fun
  | [d1, d2, d3, d4] => { results := [.lit (.bool true)], args := [d1, d2, d3, d4] }
  | _ => none }
def orbitCanonicalRow : OpenClaim := { program := "ytfniceomhfebhaagreat", sum := "a202883a2f9a042c8614bea6c9b1d343bb5461ed685507406612d1f64d95cff4", func := "armature/armaturelaw26.OrbitCanonical", spec := "orbitCanonical", unfollowed := true, recurses := true, loops := true, plainKeys := false, apart := false }
def OrbitCanonicalSaid : Prop := orbitCanonicalRow.holds Tryz.pinned (OpenSpec.ofChange orbitCanonicalSpec)

/-- ITS FALSE NEIGHBOUR: 'it returns false'. Refute it at one input. -/
def orbitCanonicalWrong : ChangeSpec := { name := "orbitCanonical", fn := fun _ => fun
  | [d1, d2, d3, d4] => { results := [.lit (.bool false)], args := [d1, d2, d3, d4] }
  | _ => none }
def OrbitCanonicalWrongFalsely : Prop := orbitCanonicalRow.holds Tryz.pinned (OpenSpec.ofChange orbitCanonicalWrong)

/-- 'armaturelaw26.OrbitEquivalence': WHATEVER THE INPUT: true; the input reads as it did. -/
def orbitEquivalenceSpec : ChangeSpec := { name := "orbitEquivalence", fn := fun _ => fun
  | [d1, d2, d3, d4, d5] => { results := [.lit (.bool true)], args := [d1, d2, d3, d4, d5] }
  | _ => none }
def orbitEquivalenceRow : OpenClaim := { program := "ytfniceomhfebhaagreat", sum := "a202883a2f9a042c8614bea6c9b1d343bb5461ed685507406612d1f64d95cff4", func := "armature/armaturelaw26.OrbitEquivalence", spec := "orbitEquivalence", unfollowed := true, recurses := true, loops := true, plainKeys := false, apart := false }
def OrbitEquivalenceSaid : Prop := orbitEquivalenceRow.holds Tryz.pinned (OpenSpec.ofChange orbitEquivalenceSpec)

/-- ITS FALSE NEIGHBOUR: 'it returns false'. Refute it at one input. -/
def orbitEquivalenceWrong : ChangeSpec := { name := "orbitEquivalence", fn := fun _ => fun
  | [d1, d2, d3, d4, d5] => { results := [.lit (.bool false)], args := [d1, d2, d3, d4, d5] }
  | _ => none }
def OrbitEquivalenceWrongFalsely : Prop := orbitEquivalenceRow.holds Tryz.pinned (OpenSpec.ofChange orbitEquivalenceWrong)

/-- 'armaturelaw26.OrbitCounts': WHATEVER THE INPUT: true; the input reads as it did. -/
def orbitCountsSpec : ChangeSpec := { name := "orbitCounts", fn := fun _ => fun
  | [d1, d2, d3] => { results := [.lit (.bool true)], args := [d1, d2, d3] }
  | _ => none }
def orbitCountsRow : OpenClaim := { program := "ytfniceomhfebhaagreat", sum := "a202883a2f9a042c8614bea6c9b1d343bb5461ed685507406612d1f64d95cff4", func := "armature/armaturelaw26.OrbitCounts", spec := "orbitCounts", unfollowed := true, recurses := true, loops := true, plainKeys := false, apart := false }
def OrbitCountsSaid : Prop := orbitCountsRow.holds Tryz.pinned (OpenSpec.ofChange orbitCountsSpec)

/-- ITS FALSE NEIGHBOUR: 'it returns false'. Refute it at one input. -/
def orbitCountsWrong : ChangeSpec := { name := "orbitCounts", fn := fun _ => fun
  | [d1, d2, d3] => { results := [.lit (.bool false)], args := [d1, d2, d3] }
  | _ => none }
def OrbitCountsWrongFalsely : Prop := orbitCountsRow.holds Tryz.pinned (OpenSpec.ofChange orbitCountsWrong)

/-- 'armaturelaw26.OrbitSorted': WHATEVER THE INPUT: true; the input reads as it did. -/
def orbitSortedSpec : ChangeSpec := { name := "orbitSorted", fn := fun _ => fun
  | [d1, d2, d3, d4, d5] => { results := [.lit (.bool true)], args := [d1, d2, d3, d4, d5] }
  | _ => none }
def orbitSortedRow : OpenClaim := { program := "ytfniceomhfebhaagreat", sum := "a202883a2f9a042c8614bea6c9b1d343bb5461ed685507406612d1f64d95cff4", func := "armature/armaturelaw26.OrbitSorted", spec := "orbitSorted", unfollowed := true, recurses := true, loops := true, plainKeys := false, apart := false }
def OrbitSortedSaid : Prop := orbitSortedRow.holds Tryz.pinned (OpenSpec.ofChange orbitSortedSpec)

/-- ITS FALSE NEIGHBOUR: 'it returns false'. Refute it at one input. -/
def orbitSortedWrong : ChangeSpec := { name := "orbitSorted", fn := fun _ => fun
  | [d1, d2, d3, d4, d5] => { results := [.lit (.bool false)], args := [d1, d2, d3, d4, d5] }
  | _ => none }
def OrbitSortedWrongFalsely : Prop := orbitSortedRow.holds Tryz.pinned (OpenSpec.ofChange orbitSortedWrong)

/-- 'armaturelaw26.OrbitStabilizers': WHATEVER THE INPUT: true; the input reads as it did. -/
def orbitStabilizersSpec : ChangeSpec := { name := "orbitStabilizers", fn := fun _ => fun
  | [d1, d2, d3, d4, d5, d6] => { results := [.lit (.bool true)], args := [d1, d2, d3, d4, d5, d6] }
  | _ => none }
def orbitStabilizersRow : OpenClaim := { program := "ytfniceomhfebhaagreat", sum := "a202883a2f9a042c8614bea6c9b1d343bb5461ed685507406612d1f64d95cff4", func := "armature/armaturelaw26.OrbitStabilizers", spec := "orbitStabilizers", unfollowed := true, recurses := true, loops := true, plainKeys := false, apart := false }
def OrbitStabilizersSaid : Prop := orbitStabilizersRow.holds Tryz.pinned (OpenSpec.ofChange orbitStabilizersSpec)

/-- ITS FALSE NEIGHBOUR: 'it returns false'. Refute it at one input. -/
def orbitStabilizersWrong : ChangeSpec := { name := "orbitStabilizers", fn := fun _ => fun
  | [d1, d2, d3, d4, d5, d6] => { results := [.lit (.bool false)], args := [d1, d2, d3, d4, d5, d6] }
  | _ => none }
def OrbitStabilizersWrongFalsely : Prop := orbitStabilizersRow.holds Tryz.pinned (OpenSpec.ofChange orbitStabilizersWrong)

/- THE SECOND FORM. 'bulk': how many values and letters a reading holds, each counted each time it is reached (what is shared counts as often as it is met; a slice's spare places count too). A statement '..UptoSaid' is the law's where the arguments, and the package variables that the reading takes, are together of bulk at most 1048576: NARROWER than '..Said'. Prove '..Said' where nothing that the law and all that it calls make is longer than what came in: it says more and counts as full. Else prove '..UptoSaid'. A law counts once. -/
mutual
def uptoBulk {H : Type} : DataW H → Nat
  | .lit (.string bytes) => bytes.length + 1
  | .lit _ => 1
  | .nil => 1
  | .ptr d => uptoBulk d + 1
  | .slice elems spare => uptoBulkAll elems + uptoBulkAll spare + 1
  | .agg parts => uptoBulkAll parts + 1
  | .iface _ d => uptoBulk d + 1
  | .map entries => uptoBulkEntries entries + 1
  | .held _ => 1
def uptoBulkAll {H : Type} : List (DataW H) → Nat
  | [] => 0
  | d :: r => uptoBulk d + uptoBulkAll r
def uptoBulkEntries {H : Type} : List (Lit × DataW H) → Nat
  | [] => 0
  | x :: r => uptoBulkEntry x + uptoBulkEntries r
def uptoBulkEntry {H : Type} : Lit × DataW H → Nat
  | (.string bytes, d) => bytes.length + uptoBulk d + 1
  | (_, d) => uptoBulk d + 1
 end
def uptoSmall : (H : Type) → List (DataW H) → Bool := fun _ ds => decide (uptoBulkAll ds ≤ 1048576)
def OpenSpec.upto (s : _root_.Go.ChangeSpec) : _root_.Go.OpenSpec := { _root_.Go.OpenSpec.ofChange s with cond := some uptoSmall }

/-- 'armaturelaw26.OrbitMatchesReference', WHERE WHAT IT READS IS OF BULK AT MOST 1048576: true; the input reads as it did. -/
def orbitMatchesReferenceUptoRow : OpenClaim := { program := "ytfniceomhfebhaagreat", sum := "a202883a2f9a042c8614bea6c9b1d343bb5461ed685507406612d1f64d95cff4", func := "armature/armaturelaw26.OrbitMatchesReference", spec := "orbitMatchesReference", unfollowed := true, recurses := true, loops := true, plainKeys := false, apart := false, narrowed := true }
def OrbitMatchesReferenceUptoSaid : Prop := orbitMatchesReferenceUptoRow.holds Tryz.pinned (OpenSpec.upto orbitMatchesReferenceSpec)

/-- 'armaturelaw26.OrbitCanonical', WHERE WHAT IT READS IS OF BULK AT MOST 1048576: true; the input reads as it did. -/
def orbitCanonicalUptoRow : OpenClaim := { program := "ytfniceomhfebhaagreat", sum := "a202883a2f9a042c8614bea6c9b1d343bb5461ed685507406612d1f64d95cff4", func := "armature/armaturelaw26.OrbitCanonical", spec := "orbitCanonical", unfollowed := true, recurses := true, loops := true, plainKeys := false, apart := false, narrowed := true }
def OrbitCanonicalUptoSaid : Prop := orbitCanonicalUptoRow.holds Tryz.pinned (OpenSpec.upto orbitCanonicalSpec)

/-- 'armaturelaw26.OrbitEquivalence', WHERE WHAT IT READS IS OF BULK AT MOST 1048576: true; the input reads as it did. -/
def orbitEquivalenceUptoRow : OpenClaim := { program := "ytfniceomhfebhaagreat", sum := "a202883a2f9a042c8614bea6c9b1d343bb5461ed685507406612d1f64d95cff4", func := "armature/armaturelaw26.OrbitEquivalence", spec := "orbitEquivalence", unfollowed := true, recurses := true, loops := true, plainKeys := false, apart := false, narrowed := true }
def OrbitEquivalenceUptoSaid : Prop := orbitEquivalenceUptoRow.holds Tryz.pinned (OpenSpec.upto orbitEquivalenceSpec)

/-- 'armaturelaw26.OrbitCounts', WHERE WHAT IT READS IS OF BULK AT MOST 1048576: true; the input reads as it did. -/
def orbitCountsUptoRow : OpenClaim := { program := "ytfniceomhfebhaagreat", sum := "a202883a2f9a042c8614bea6c9b1d343bb5461ed685507406612d1f64d95cff4", func := "armature/armaturelaw26.OrbitCounts", spec := "orbitCounts", unfollowed := true, recurses := true, loops := true, plainKeys := false, apart := false, narrowed := true }
def OrbitCountsUptoSaid : Prop := orbitCountsUptoRow.holds Tryz.pinned (OpenSpec.upto orbitCountsSpec)

/-- 'armaturelaw26.OrbitSorted', WHERE WHAT IT READS IS OF BULK AT MOST 1048576: true; the input reads as it did. -/
def orbitSortedUptoRow : OpenClaim := { program := "ytfniceomhfebhaagreat", sum := "a202883a2f9a042c8614bea6c9b1d343bb5461ed685507406612d1f64d95cff4", func := "armature/armaturelaw26.OrbitSorted", spec := "orbitSorted", unfollowed := true, recurses := true, loops := true, plainKeys := false, apart := false, narrowed := true }
def OrbitSortedUptoSaid : Prop := orbitSortedUptoRow.holds Tryz.pinned (OpenSpec.upto orbitSortedSpec)

/-- 'armaturelaw26.OrbitStabilizers', WHERE WHAT IT READS IS OF BULK AT MOST 1048576: true; the input reads as it did. -/
def orbitStabilizersUptoRow : OpenClaim := { program := "ytfniceomhfebhaagreat", sum := "a202883a2f9a042c8614bea6c9b1d343bb5461ed685507406612d1f64d95cff4", func := "armature/armaturelaw26.OrbitStabilizers", spec := "orbitStabilizers", unfollowed := true, recurses := true, loops := true, plainKeys := false, apart := false, narrowed := true }
def OrbitStabilizersUptoSaid : Prop := orbitStabilizersUptoRow.holds Tryz.pinned (OpenSpec.upto orbitStabilizersSpec)

end Rows
end Go.Proofs.YtfniceomhfebhaaGreat
