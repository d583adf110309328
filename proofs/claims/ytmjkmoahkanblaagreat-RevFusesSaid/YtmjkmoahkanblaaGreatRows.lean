/-
  No cell of these rows narrows 'for every input' (looked for: loops, veiled, ifaces, maps, wideKeys, modest, calm, conditions, laid).
  DERIVED. THE GIVEN ROWS OF THIS SEAT. 8 by the template 'for every input the law returns true; each argument reads behind the call as it read before'; 0 by the template 'total and deterministic' (their statements: YtmjkmoahkanblaaGreatTotals.lean).
  GIVEN WITH THE SEED: the statements are not yours to turn. If you find one false, say at which input.
  Laid BY PROGRAM, IN A SANDBOX (cutbox-rows.mjs): the forced cells as the released guide's own fill.sh prints them over the translation 4500fa80a1707ef8… (all of the seat's roots in one cut). By AI agents, Wed Nov 11 2026. No macro, syntax, notation, axiom, sorry.
-/
import Derived.Test.YtmjkmoahkanblaaGreatChecked
import GoSem.Claim
import GoSem.ClaimJoined
import GoSem.ClaimMapViews
import Derived.JoinedTies
import Derived.KernelRfl
namespace Go.Proofs.YtmjkmoahkanblaaGreat
/- THE CELL 'sum', in the pinned program and in every row, IS THE sha256 OF THE DUMP (.gsa) THAT YtmjkmoahkanblaaGreatProg.lean LOADS. Nothing in Lean hashes anything: it is a label: what it is worth is what the hold of that sum in a sandbox is worth. -/
noncomputable def Tryz.pinned : Pinned := { name := "ytmjkmoahkanblaagreat", sum := "4500fa80a1707ef8cf928bd1d7e509f574278143b3572c4dcfad3fb978f5dae8", checked := Tryz.checked }
namespace Rows
def none {H : Type} : Left H := { results := [], args := [] }

/-- 'vergelaw10.RevAdds': WHATEVER THE INPUT: true; the input reads as it did. -/
def revAddsSpec : ChangeSpec := { name := "revAdds", fn := fun _ => fun
  | [d] => { results := [.lit (.bool true)], args := [d] }
  | _ => none }
def revAddsRow : OpenClaim := { program := "ytmjkmoahkanblaagreat", sum := "4500fa80a1707ef8cf928bd1d7e509f574278143b3572c4dcfad3fb978f5dae8", func := "verge/vergelaw10.RevAdds", spec := "revAdds", inPlace := ["math.Float64frombits", "math.Float64bits"], apart := false }
def RevAddsSaid : Prop := revAddsRow.holds Tryz.pinned (OpenSpec.ofChange revAddsSpec)

/-- ITS FALSE NEIGHBOUR: 'it returns false'. Refute it at one input. -/
def revAddsWrong : ChangeSpec := { name := "revAdds", fn := fun _ => fun
  | [d] => { results := [.lit (.bool false)], args := [d] }
  | _ => none }
def RevAddsWrongFalsely : Prop := revAddsRow.holds Tryz.pinned (OpenSpec.ofChange revAddsWrong)

/-- 'vergelaw10.RevCancels': WHATEVER THE INPUT: true; the input reads as it did. -/
def revCancelsSpec : ChangeSpec := { name := "revCancels", fn := fun _ => fun
  | [d1, d2] => { results := [.lit (.bool true)], args := [d1, d2] }
  | _ => none }
def revCancelsRow : OpenClaim := { program := "ytmjkmoahkanblaagreat", sum := "4500fa80a1707ef8cf928bd1d7e509f574278143b3572c4dcfad3fb978f5dae8", func := "verge/vergelaw10.RevCancels", spec := "revCancels", inPlace := ["math.Float64frombits", "math.Float64bits", "math.Float32bits"], apart := false }
def RevCancelsSaid : Prop := revCancelsRow.holds Tryz.pinned (OpenSpec.ofChange revCancelsSpec)

/-- ITS FALSE NEIGHBOUR: 'it returns false'. Refute it at one input. -/
def revCancelsWrong : ChangeSpec := { name := "revCancels", fn := fun _ => fun
  | [d1, d2] => { results := [.lit (.bool false)], args := [d1, d2] }
  | _ => none }
def RevCancelsWrongFalsely : Prop := revCancelsRow.holds Tryz.pinned (OpenSpec.ofChange revCancelsWrong)

/-- 'vergelaw10.RevPlain': WHATEVER THE INPUT: true; the input reads as it did. -/
def revPlainSpec : ChangeSpec := { name := "revPlain", fn := fun _ => fun
  | [d1, d2] => { results := [.lit (.bool true)], args := [d1, d2] }
  | _ => none }
def revPlainRow : OpenClaim := { program := "ytmjkmoahkanblaagreat", sum := "4500fa80a1707ef8cf928bd1d7e509f574278143b3572c4dcfad3fb978f5dae8", func := "verge/vergelaw10.RevPlain", spec := "revPlain", inPlace := ["math.Float64frombits", "math.Float64bits", "math.Float32bits"], apart := false }
def RevPlainSaid : Prop := revPlainRow.holds Tryz.pinned (OpenSpec.ofChange revPlainSpec)

/-- ITS FALSE NEIGHBOUR: 'it returns false'. Refute it at one input. -/
def revPlainWrong : ChangeSpec := { name := "revPlain", fn := fun _ => fun
  | [d1, d2] => { results := [.lit (.bool false)], args := [d1, d2] }
  | _ => none }
def RevPlainWrongFalsely : Prop := revPlainRow.holds Tryz.pinned (OpenSpec.ofChange revPlainWrong)

/-- 'vergelaw10.RevMuls': WHATEVER THE INPUT: true; the input reads as it did. -/
def revMulsSpec : ChangeSpec := { name := "revMuls", fn := fun _ => fun
  | [d] => { results := [.lit (.bool true)], args := [d] }
  | _ => none }
def revMulsRow : OpenClaim := { program := "ytmjkmoahkanblaagreat", sum := "4500fa80a1707ef8cf928bd1d7e509f574278143b3572c4dcfad3fb978f5dae8", func := "verge/vergelaw10.RevMuls", spec := "revMuls", inPlace := ["math.Float64frombits", "math.Float64bits", "math.Float32bits"], apart := false }
def RevMulsSaid : Prop := revMulsRow.holds Tryz.pinned (OpenSpec.ofChange revMulsSpec)

/-- ITS FALSE NEIGHBOUR: 'it returns false'. Refute it at one input. -/
def revMulsWrong : ChangeSpec := { name := "revMuls", fn := fun _ => fun
  | [d] => { results := [.lit (.bool false)], args := [d] }
  | _ => none }
def RevMulsWrongFalsely : Prop := revMulsRow.holds Tryz.pinned (OpenSpec.ofChange revMulsWrong)

/-- 'vergelaw10.RevPairs': WHATEVER THE INPUT: true; the input reads as it did. -/
def revPairsSpec : ChangeSpec := { name := "revPairs", fn := fun _ => fun
  | [d1, d2] => { results := [.lit (.bool true)], args := [d1, d2] }
  | _ => none }
def revPairsRow : OpenClaim := { program := "ytmjkmoahkanblaagreat", sum := "4500fa80a1707ef8cf928bd1d7e509f574278143b3572c4dcfad3fb978f5dae8", func := "verge/vergelaw10.RevPairs", spec := "revPairs", inPlace := ["math.Float64frombits", "math.Float64bits", "math.Float32bits"], apart := false }
def RevPairsSaid : Prop := revPairsRow.holds Tryz.pinned (OpenSpec.ofChange revPairsSpec)

/-- ITS FALSE NEIGHBOUR: 'it returns false'. Refute it at one input. -/
def revPairsWrong : ChangeSpec := { name := "revPairs", fn := fun _ => fun
  | [d1, d2] => { results := [.lit (.bool false)], args := [d1, d2] }
  | _ => none }
def RevPairsWrongFalsely : Prop := revPairsRow.holds Tryz.pinned (OpenSpec.ofChange revPairsWrong)

/-- 'vergelaw10.RevSteps': WHATEVER THE INPUT: true; the input reads as it did. -/
def revStepsSpec : ChangeSpec := { name := "revSteps", fn := fun _ => fun
  | [d1, d2] => { results := [.lit (.bool true)], args := [d1, d2] }
  | _ => none }
def revStepsRow : OpenClaim := { program := "ytmjkmoahkanblaagreat", sum := "4500fa80a1707ef8cf928bd1d7e509f574278143b3572c4dcfad3fb978f5dae8", func := "verge/vergelaw10.RevSteps", spec := "revSteps", inPlace := ["math.Float64frombits", "math.archCeil", "math.archFloor", "math.Float64bits", "math.archTrunc", "math.RoundToEven"], unfollowed := true, recurses := true, apart := false }
def RevStepsSaid : Prop := revStepsRow.holds Tryz.pinned (OpenSpec.ofChange revStepsSpec)

/-- ITS FALSE NEIGHBOUR: 'it returns false'. Refute it at one input. -/
def revStepsWrong : ChangeSpec := { name := "revSteps", fn := fun _ => fun
  | [d1, d2] => { results := [.lit (.bool false)], args := [d1, d2] }
  | _ => none }
def RevStepsWrongFalsely : Prop := revStepsRow.holds Tryz.pinned (OpenSpec.ofChange revStepsWrong)

/-- 'vergelaw10.RevDivs': WHATEVER THE INPUT: true; the input reads as it did. -/
def revDivsSpec : ChangeSpec := { name := "revDivs", fn := fun _ => fun
  | [d] => { results := [.lit (.bool true)], args := [d] }
  | _ => none }
def revDivsRow : OpenClaim := { program := "ytmjkmoahkanblaagreat", sum := "4500fa80a1707ef8cf928bd1d7e509f574278143b3572c4dcfad3fb978f5dae8", func := "verge/vergelaw10.RevDivs", spec := "revDivs", inPlace := ["math.Float64frombits", "math.Float64bits", "math.Float32bits"], apart := false }
def RevDivsSaid : Prop := revDivsRow.holds Tryz.pinned (OpenSpec.ofChange revDivsSpec)

/-- ITS FALSE NEIGHBOUR: 'it returns false'. Refute it at one input. -/
def revDivsWrong : ChangeSpec := { name := "revDivs", fn := fun _ => fun
  | [d] => { results := [.lit (.bool false)], args := [d] }
  | _ => none }
def RevDivsWrongFalsely : Prop := revDivsRow.holds Tryz.pinned (OpenSpec.ofChange revDivsWrong)

/-- 'vergelaw10.RevFuses': WHATEVER THE INPUT: true; the input reads as it did. -/
def revFusesSpec : ChangeSpec := { name := "revFuses", fn := fun _ => fun
  | [d] => { results := [.lit (.bool true)], args := [d] }
  | _ => none }
def revFusesRow : OpenClaim := { program := "ytmjkmoahkanblaagreat", sum := "4500fa80a1707ef8cf928bd1d7e509f574278143b3572c4dcfad3fb978f5dae8", func := "verge/vergelaw10.RevFuses", spec := "revFuses", inPlace := ["math.Float64frombits", "math.Float64bits", "math.Float32bits"], apart := false }
def RevFusesSaid : Prop := revFusesRow.holds Tryz.pinned (OpenSpec.ofChange revFusesSpec)

/-- ITS FALSE NEIGHBOUR: 'it returns false'. Refute it at one input. -/
def revFusesWrong : ChangeSpec := { name := "revFuses", fn := fun _ => fun
  | [d] => { results := [.lit (.bool false)], args := [d] }
  | _ => none }
def RevFusesWrongFalsely : Prop := revFusesRow.holds Tryz.pinned (OpenSpec.ofChange revFusesWrong)

/- THE SECOND FORM. 'bulk': how many values and letters a reading holds, each counted each time it is reached (what is shared counts as often as it is met; a slice's spare places count too). A statement '..UptoSaid' is the law's where the arguments, and the package variables that the reading takes, are together of bulk at most 1048576: NARROWER than '..Said'. Prove '..Said' where nothing that the law and all that it calls make is longer than what came in: it says more and counts as full. Else prove '..UptoSaid'. A law counts once. -/
mutual
def uptoBulk {H : Type} : DataW H → Nat
  | .lit (.string bytes) => bytes.length + 1
  | .lit _ => 1
  | .nil => 1
  | .ptr d => uptoBulk d + 1
  | .slice elems spare => uptoBulkAll elems + uptoBulkAll spare + 1
  | .agg parts => uptoBulkAll parts + 1
  | .iface _ d => uptoBulk d + 1
  | .map entries => uptoBulkEntries entries + 1
  | .held _ => 1
def uptoBulkAll {H : Type} : List (DataW H) → Nat
  | [] => 0
  | d :: r => uptoBulk d + uptoBulkAll r
def uptoBulkEntries {H : Type} : List (Lit × DataW H) → Nat
  | [] => 0
  | x :: r => uptoBulkEntry x + uptoBulkEntries r
def uptoBulkEntry {H : Type} : Lit × DataW H → Nat
  | (.string bytes, d) => bytes.length + uptoBulk d + 1
  | (_, d) => uptoBulk d + 1
 end
def uptoSmall : (H : Type) → List (DataW H) → Bool := fun _ ds => decide (uptoBulkAll ds ≤ 1048576)
def OpenSpec.upto (s : _root_.Go.ChangeSpec) : _root_.Go.OpenSpec := { _root_.Go.OpenSpec.ofChange s with cond := some uptoSmall }

/-- 'vergelaw10.RevAdds', WHERE WHAT IT READS IS OF BULK AT MOST 1048576: true; the input reads as it did. -/
def revAddsUptoRow : OpenClaim := { program := "ytmjkmoahkanblaagreat", sum := "4500fa80a1707ef8cf928bd1d7e509f574278143b3572c4dcfad3fb978f5dae8", func := "verge/vergelaw10.RevAdds", spec := "revAdds", inPlace := ["math.Float64frombits", "math.Float64bits"], apart := false, narrowed := true }
def RevAddsUptoSaid : Prop := revAddsUptoRow.holds Tryz.pinned (OpenSpec.upto revAddsSpec)

/-- 'vergelaw10.RevCancels', WHERE WHAT IT READS IS OF BULK AT MOST 1048576: true; the input reads as it did. -/
def revCancelsUptoRow : OpenClaim := { program := "ytmjkmoahkanblaagreat", sum := "4500fa80a1707ef8cf928bd1d7e509f574278143b3572c4dcfad3fb978f5dae8", func := "verge/vergelaw10.RevCancels", spec := "revCancels", inPlace := ["math.Float64frombits", "math.Float64bits", "math.Float32bits"], apart := false, narrowed := true }
def RevCancelsUptoSaid : Prop := revCancelsUptoRow.holds Tryz.pinned (OpenSpec.upto revCancelsSpec)

/-- 'vergelaw10.RevPlain', WHERE WHAT IT READS IS OF BULK AT MOST 1048576: true; the input reads as it did. -/
def revPlainUptoRow : OpenClaim := { program := "ytmjkmoahkanblaagreat", sum := "4500fa80a1707ef8cf928bd1d7e509f574278143b3572c4dcfad3fb978f5dae8", func := "verge/vergelaw10.RevPlain", spec := "revPlain", inPlace := ["math.Float64frombits", "math.Float64bits", "math.Float32bits"], apart := false, narrowed := true }
def RevPlainUptoSaid : Prop := revPlainUptoRow.holds Tryz.pinned (OpenSpec.upto revPlainSpec)

/-- 'vergelaw10.RevMuls', WHERE WHAT IT READS IS OF BULK AT MOST 1048576: true; the input reads as it did. -/
def revMulsUptoRow : OpenClaim := { program := "ytmjkmoahkanblaagreat", sum := "4500fa80a1707ef8cf928bd1d7e509f574278143b3572c4dcfad3fb978f5dae8", func := "verge/vergelaw10.RevMuls", spec := "revMuls", inPlace := ["math.Float64frombits", "math.Float64bits", "math.Float32bits"], apart := false, narrowed := true }
def RevMulsUptoSaid : Prop := revMulsUptoRow.holds Tryz.pinned (OpenSpec.upto revMulsSpec)

/-- 'vergelaw10.RevPairs', WHERE WHAT IT READS IS OF BULK AT MOST 1048576: true; the input reads as it did. -/
def revPairsUptoRow : OpenClaim := { program := "ytmjkmoahkanblaagreat", sum := "4500fa80a1707ef8cf928bd1d7e509f574278143b3572c4dcfad3fb978f5dae8", func := "verge/vergelaw10.RevPairs", spec := "revPairs", inPlace := ["math.Float64frombits", "math.Float64bits", "math.Float32bits"], apart := false, narrowed := true }
def RevPairsUptoSaid : Prop := revPairsUptoRow.holds Tryz.pinned (OpenSpec.upto revPairsSpec)

/-- 'vergelaw10.RevSteps', WHERE WHAT IT READS IS OF BULK AT MOST 1048576: true; the input reads as it did. -/
def revStepsUptoRow : OpenClaim := { program := "ytmjkmoahkanblaagreat", sum := "4500fa80a1707ef8cf928bd1d7e509f574278143b3572c4dcfad3fb978f5dae8", func := "verge/vergelaw10.RevSteps", spec := "revSteps", inPlace := ["math.Float64frombits", "math.archCeil", "math.archFloor", "math.Float64bits", "math.archTrunc", "math.RoundToEven"], unfollowed := true, recurses := true, apart := false, narrowed := true }
def RevStepsUptoSaid : Prop := revStepsUptoRow.holds Tryz.pinned (OpenSpec.upto revStepsSpec)

/-- 'vergelaw10.RevDivs', WHERE WHAT IT READS IS OF BULK AT MOST 1048576: true; the input reads as it did. -/
def revDivsUptoRow : OpenClaim := { program := "ytmjkmoahkanblaagreat", sum := "4500fa80a1707ef8cf928bd1d7e509f574278143b3572c4dcfad3fb978f5dae8", func := "verge/vergelaw10.RevDivs", spec := "revDivs", inPlace := ["math.Float64frombits", "math.Float64bits", "math.Float32bits"], apart := false, narrowed := true }
def RevDivsUptoSaid : Prop := revDivsUptoRow.holds Tryz.pinned (OpenSpec.upto revDivsSpec)

/-- 'vergelaw10.RevFuses', WHERE WHAT IT READS IS OF BULK AT MOST 1048576: true; the input reads as it did. -/
def revFusesUptoRow : OpenClaim := { program := "ytmjkmoahkanblaagreat", sum := "4500fa80a1707ef8cf928bd1d7e509f574278143b3572c4dcfad3fb978f5dae8", func := "verge/vergelaw10.RevFuses", spec := "revFuses", inPlace := ["math.Float64frombits", "math.Float64bits", "math.Float32bits"], apart := false, narrowed := true }
def RevFusesUptoSaid : Prop := revFusesUptoRow.holds Tryz.pinned (OpenSpec.upto revFusesSpec)

end Rows
end Go.Proofs.YtmjkmoahkanblaaGreat
