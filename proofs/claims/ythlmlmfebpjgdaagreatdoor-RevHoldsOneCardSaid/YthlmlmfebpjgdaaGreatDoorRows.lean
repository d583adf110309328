/-
  NARROWER THAN 'FOR EVERY INPUT', by the rows' own cells (each row's printed sentence says how): RevRoots: laid · RevKnown: laid · RevThrough: laid · RevPowers: laid · RevHolds: laid · RevHoldsOne: laid · RevAgrees: laid · RevTold: laid · RevAgain: laid · RevGrows: laid.
  DERIVED. THE GIVEN ROWS OF THIS SEAT. 10 by the template 'for every input the law returns true; each argument reads behind the call as it read before'; 0 by the template 'total and deterministic' (their statements: YthlmlmfebpjgdaaGreatDoorTotals.lean).
  GIVEN WITH THE SEED: the statements are not yours to turn. If you find one false, say at which input.
  Laid BY PROGRAM, IN A SANDBOX (cutbox-rows.mjs): the forced cells as the released guide's own fill.sh prints them over the translation 45d0bff08f7d6387… (all of the seat's roots in one cut). By AI agents, Wed Nov 11 2026. No macro, syntax, notation, axiom, sorry.
-/
import Derived.Test.YthlmlmfebpjgdaaGreatDoorChecked
import GoSem.Claim
import GoSem.ClaimJoined
import GoSem.ClaimMapViews
import Derived.JoinedTies
import Derived.KernelRfl
namespace Go.Proofs.YthlmlmfebpjgdaaGreatDoor
/- THE CELL 'sum', in the pinned program and in every row, IS THE sha256 OF THE DUMP (.gsa) THAT YthlmlmfebpjgdaaGreatDoorProg.lean LOADS. Nothing in Lean hashes anything: it is a label: what it is worth is what the hold of that sum in a sandbox is worth. -/
noncomputable def Tryz.pinned : Pinned := { name := "ythlmlmfebpjgdaagreatdoor", sum := "45d0bff08f7d6387f32901afba74055f2d69df4121b15407df225f59483c0872", checked := Tryz.checked }
namespace Rows
def none {H : Type} : Left H := { results := [], args := [] }

/- WHAT THE LISTED PACKAGE-LEVEL VARIABLES READ AS WHEN THE CALL BEGINS. Each datum BY PROGRAM (the guide's laid-datum.mjs) off the statement by which the dump's own 'gosem.cut.vars' lays the variable. In a bare row this is a premise. The card (YthlmlmfebpjgdaaGreatDoorCards.lean) ties it to the program's text. -/
def laid_math_bits_deBruijn32tab {H : Type} : DataW H := .agg [.lit (.int .u8 0), .lit (.int .u8 1), .lit (.int .u8 28), .lit (.int .u8 2), .lit (.int .u8 29), .lit (.int .u8 14), .lit (.int .u8 24), .lit (.int .u8 3), .lit (.int .u8 30), .lit (.int .u8 22), .lit (.int .u8 20), .lit (.int .u8 15), .lit (.int .u8 25), .lit (.int .u8 17), .lit (.int .u8 4), .lit (.int .u8 8), .lit (.int .u8 31), .lit (.int .u8 27), .lit (.int .u8 13), .lit (.int .u8 23), .lit (.int .u8 21), .lit (.int .u8 19), .lit (.int .u8 16), .lit (.int .u8 7), .lit (.int .u8 26), .lit (.int .u8 12), .lit (.int .u8 18), .lit (.int .u8 6), .lit (.int .u8 11), .lit (.int .u8 5), .lit (.int .u8 10), .lit (.int .u8 9)]

/-- 'vergelaw10.RevRoots': WHATEVER THE INPUT: true; the input reads as it did. -/
def revRootsSpec : ChangeSpec := { name := "revRoots", fn := fun _ => fun
  | [d1, d2] => { results := [.lit (.bool true)], args := [d1, d2] }
  | _ => none }
def revRootsRow : OpenClaim := { program := "ythlmlmfebpjgdaagreatdoor", sum := "45d0bff08f7d6387f32901afba74055f2d69df4121b15407df225f59483c0872", func := "verge/vergelaw10.RevRoots", spec := "revRoots", inPlace := ["math.Float64frombits", "math.Float64bits", "math.Float32frombits", "math.Float32bits"], unfollowed := true, recurses := true, named := ["math/bits.deBruijn32tab"], apart := false, laid := [("math/bits.deBruijn32tab", laid_math_bits_deBruijn32tab)] }
def RevRootsSaid : Prop := revRootsRow.holds Tryz.pinned (OpenSpec.ofChange revRootsSpec)

/-- ITS FALSE NEIGHBOUR: 'it returns false'. Refute it at one input. -/
def revRootsWrong : ChangeSpec := { name := "revRoots", fn := fun _ => fun
  | [d1, d2] => { results := [.lit (.bool false)], args := [d1, d2] }
  | _ => none }
def RevRootsWrongFalsely : Prop := revRootsRow.holds Tryz.pinned (OpenSpec.ofChange revRootsWrong)

/-- 'vergelaw10.RevKnown': WHATEVER THE INPUT: true; the input reads as it did. -/
def revKnownSpec : ChangeSpec := { name := "revKnown", fn := fun _ => fun
  | [] => { results := [.lit (.bool true)], args := [] }
  | _ => none }
def revKnownRow : OpenClaim := { program := "ythlmlmfebpjgdaagreatdoor", sum := "45d0bff08f7d6387f32901afba74055f2d69df4121b15407df225f59483c0872", func := "verge/vergelaw10.RevKnown", spec := "revKnown", inPlace := ["math.Float64frombits", "math.Float64bits", "math.Float32frombits", "math.Float32bits"], unfollowed := true, recurses := true, named := ["math/bits.deBruijn32tab"], apart := false, laid := [("math/bits.deBruijn32tab", laid_math_bits_deBruijn32tab)] }
def RevKnownSaid : Prop := revKnownRow.holds Tryz.pinned (OpenSpec.ofChange revKnownSpec)

/-- ITS FALSE NEIGHBOUR: 'it returns false'. Refute it at one input. -/
def revKnownWrong : ChangeSpec := { name := "revKnown", fn := fun _ => fun
  | [] => { results := [.lit (.bool false)], args := [] }
  | _ => none }
def RevKnownWrongFalsely : Prop := revKnownRow.holds Tryz.pinned (OpenSpec.ofChange revKnownWrong)

/-- 'vergelaw10.RevThrough': WHATEVER THE INPUT: true; the input reads as it did. -/
def revThroughSpec : ChangeSpec := { name := "revThrough", fn := fun _ => fun
  | [d1, d2] => { results := [.lit (.bool true)], args := [d1, d2] }
  | _ => none }
def revThroughRow : OpenClaim := { program := "ythlmlmfebpjgdaagreatdoor", sum := "45d0bff08f7d6387f32901afba74055f2d69df4121b15407df225f59483c0872", func := "verge/vergelaw10.RevThrough", spec := "revThrough", inPlace := ["math.Float64frombits", "math.Float64bits", "math.Float32frombits", "math.Float32bits"], unfollowed := true, recurses := true, named := ["math/bits.deBruijn32tab"], apart := false, laid := [("math/bits.deBruijn32tab", laid_math_bits_deBruijn32tab)] }
def RevThroughSaid : Prop := revThroughRow.holds Tryz.pinned (OpenSpec.ofChange revThroughSpec)

/-- ITS FALSE NEIGHBOUR: 'it returns false'. Refute it at one input. -/
def revThroughWrong : ChangeSpec := { name := "revThrough", fn := fun _ => fun
  | [d1, d2] => { results := [.lit (.bool false)], args := [d1, d2] }
  | _ => none }
def RevThroughWrongFalsely : Prop := revThroughRow.holds Tryz.pinned (OpenSpec.ofChange revThroughWrong)

/-- 'vergelaw10.RevPowers': WHATEVER THE INPUT: true; the input reads as it did. -/
def revPowersSpec : ChangeSpec := { name := "revPowers", fn := fun _ => fun
  | [d1, d2, d3] => { results := [.lit (.bool true)], args := [d1, d2, d3] }
  | _ => none }
def revPowersRow : OpenClaim := { program := "ythlmlmfebpjgdaagreatdoor", sum := "45d0bff08f7d6387f32901afba74055f2d69df4121b15407df225f59483c0872", func := "verge/vergelaw10.RevPowers", spec := "revPowers", inPlace := ["math.Float64frombits", "math.Float64bits", "math.Float32frombits", "math.Float32bits"], unfollowed := true, recurses := true, named := ["math/bits.deBruijn32tab"], apart := false, laid := [("math/bits.deBruijn32tab", laid_math_bits_deBruijn32tab)] }
def RevPowersSaid : Prop := revPowersRow.holds Tryz.pinned (OpenSpec.ofChange revPowersSpec)

/-- ITS FALSE NEIGHBOUR: 'it returns false'. Refute it at one input. -/
def revPowersWrong : ChangeSpec := { name := "revPowers", fn := fun _ => fun
  | [d1, d2, d3] => { results := [.lit (.bool false)], args := [d1, d2, d3] }
  | _ => none }
def RevPowersWrongFalsely : Prop := revPowersRow.holds Tryz.pinned (OpenSpec.ofChange revPowersWrong)

/-- 'vergelaw10.RevHolds': WHATEVER THE INPUT: true; the input reads as it did. -/
def revHoldsSpec : ChangeSpec := { name := "revHolds", fn := fun _ => fun
  | [d1, d2, d3] => { results := [.lit (.bool true)], args := [d1, d2, d3] }
  | _ => none }
def revHoldsRow : OpenClaim := { program := "ythlmlmfebpjgdaagreatdoor", sum := "45d0bff08f7d6387f32901afba74055f2d69df4121b15407df225f59483c0872", func := "verge/vergelaw10.RevHolds", spec := "revHolds", inPlace := ["math.Float64frombits", "math.Float64bits", "math.Float32frombits", "math.Float32bits"], unfollowed := true, recurses := true, named := ["math/bits.deBruijn32tab"], apart := false, laid := [("math/bits.deBruijn32tab", laid_math_bits_deBruijn32tab)] }
def RevHoldsSaid : Prop := revHoldsRow.holds Tryz.pinned (OpenSpec.ofChange revHoldsSpec)

/-- ITS FALSE NEIGHBOUR: 'it returns false'. Refute it at one input. -/
def revHoldsWrong : ChangeSpec := { name := "revHolds", fn := fun _ => fun
  | [d1, d2, d3] => { results := [.lit (.bool false)], args := [d1, d2, d3] }
  | _ => none }
def RevHoldsWrongFalsely : Prop := revHoldsRow.holds Tryz.pinned (OpenSpec.ofChange revHoldsWrong)

/-- 'vergelaw10.RevHoldsOne': WHATEVER THE INPUT: true; the input reads as it did. -/
def revHoldsOneSpec : ChangeSpec := { name := "revHoldsOne", fn := fun _ => fun
  | [d1, d2, d3, d4] => { results := [.lit (.bool true)], args := [d1, d2, d3, d4] }
  | _ => none }
def revHoldsOneRow : OpenClaim := { program := "ythlmlmfebpjgdaagreatdoor", sum := "45d0bff08f7d6387f32901afba74055f2d69df4121b15407df225f59483c0872", func := "verge/vergelaw10.RevHoldsOne", spec := "revHoldsOne", inPlace := ["math.Float64frombits", "math.Float64bits", "math.Float32frombits", "math.Float32bits", "math.archCeil", "math.archFloor", "math.archTrunc", "math.RoundToEven"], unfollowed := true, recurses := true, named := ["math/bits.deBruijn32tab"], apart := false, laid := [("math/bits.deBruijn32tab", laid_math_bits_deBruijn32tab)] }
def RevHoldsOneSaid : Prop := revHoldsOneRow.holds Tryz.pinned (OpenSpec.ofChange revHoldsOneSpec)

/-- ITS FALSE NEIGHBOUR: 'it returns false'. Refute it at one input. -/
def revHoldsOneWrong : ChangeSpec := { name := "revHoldsOne", fn := fun _ => fun
  | [d1, d2, d3, d4] => { results := [.lit (.bool false)], args := [d1, d2, d3, d4] }
  | _ => none }
def RevHoldsOneWrongFalsely : Prop := revHoldsOneRow.holds Tryz.pinned (OpenSpec.ofChange revHoldsOneWrong)

/-- 'vergelaw10.RevAgrees': WHATEVER THE INPUT: true; the input reads as it did. -/
def revAgreesSpec : ChangeSpec := { name := "revAgrees", fn := fun _ => fun
  | [d] => { results := [.lit (.bool true)], args := [d] }
  | _ => none }
def revAgreesRow : OpenClaim := { program := "ythlmlmfebpjgdaagreatdoor", sum := "45d0bff08f7d6387f32901afba74055f2d69df4121b15407df225f59483c0872", func := "verge/vergelaw10.RevAgrees", spec := "revAgrees", inPlace := ["math.Float64frombits", "math.Float64bits", "math.Float32frombits", "math.Float32bits", "math.archCeil", "math.archFloor", "math.archTrunc"], unfollowed := true, recurses := true, named := ["math/bits.deBruijn32tab"], apart := false, laid := [("math/bits.deBruijn32tab", laid_math_bits_deBruijn32tab)] }
def RevAgreesSaid : Prop := revAgreesRow.holds Tryz.pinned (OpenSpec.ofChange revAgreesSpec)

/-- ITS FALSE NEIGHBOUR: 'it returns false'. Refute it at one input. -/
def revAgreesWrong : ChangeSpec := { name := "revAgrees", fn := fun _ => fun
  | [d] => { results := [.lit (.bool false)], args := [d] }
  | _ => none }
def RevAgreesWrongFalsely : Prop := revAgreesRow.holds Tryz.pinned (OpenSpec.ofChange revAgreesWrong)

/-- 'vergelaw10.RevTold': WHATEVER THE INPUT: true; the input reads as it did. -/
def revToldSpec : ChangeSpec := { name := "revTold", fn := fun _ => fun
  | [] => { results := [.lit (.bool true)], args := [] }
  | _ => none }
def revToldRow : OpenClaim := { program := "ythlmlmfebpjgdaagreatdoor", sum := "45d0bff08f7d6387f32901afba74055f2d69df4121b15407df225f59483c0872", func := "verge/vergelaw10.RevTold", spec := "revTold", inPlace := ["math.Float64frombits", "math.Float64bits", "math.Float32frombits", "math.Float32bits", "math.archCeil", "math.archFloor", "math.archTrunc", "math.RoundToEven"], unfollowed := true, recurses := true, named := ["math/bits.deBruijn32tab"], apart := false, laid := [("math/bits.deBruijn32tab", laid_math_bits_deBruijn32tab)] }
def RevToldSaid : Prop := revToldRow.holds Tryz.pinned (OpenSpec.ofChange revToldSpec)

/-- ITS FALSE NEIGHBOUR: 'it returns false'. Refute it at one input. -/
def revToldWrong : ChangeSpec := { name := "revTold", fn := fun _ => fun
  | [] => { results := [.lit (.bool false)], args := [] }
  | _ => none }
def RevToldWrongFalsely : Prop := revToldRow.holds Tryz.pinned (OpenSpec.ofChange revToldWrong)

/-- 'vergelaw10.RevAgain': WHATEVER THE INPUT: true; the input reads as it did. -/
def revAgainSpec : ChangeSpec := { name := "revAgain", fn := fun _ => fun
  | [d] => { results := [.lit (.bool true)], args := [d] }
  | _ => none }
def revAgainRow : OpenClaim := { program := "ythlmlmfebpjgdaagreatdoor", sum := "45d0bff08f7d6387f32901afba74055f2d69df4121b15407df225f59483c0872", func := "verge/vergelaw10.RevAgain", spec := "revAgain", inPlace := ["math.Float64frombits", "math.Float64bits", "math.Float32frombits", "math.Float32bits", "math.archCeil", "math.archFloor", "math.archTrunc", "math.RoundToEven"], unfollowed := true, recurses := true, named := ["math/bits.deBruijn32tab"], apart := false, laid := [("math/bits.deBruijn32tab", laid_math_bits_deBruijn32tab)] }
def RevAgainSaid : Prop := revAgainRow.holds Tryz.pinned (OpenSpec.ofChange revAgainSpec)

/-- ITS FALSE NEIGHBOUR: 'it returns false'. Refute it at one input. -/
def revAgainWrong : ChangeSpec := { name := "revAgain", fn := fun _ => fun
  | [d] => { results := [.lit (.bool false)], args := [d] }
  | _ => none }
def RevAgainWrongFalsely : Prop := revAgainRow.holds Tryz.pinned (OpenSpec.ofChange revAgainWrong)

/-- 'vergelaw10.RevGrows': WHATEVER THE INPUT: true; the input reads as it did. -/
def revGrowsSpec : ChangeSpec := { name := "revGrows", fn := fun _ => fun
  | [d1, d2] => { results := [.lit (.bool true)], args := [d1, d2] }
  | _ => none }
def revGrowsRow : OpenClaim := { program := "ythlmlmfebpjgdaagreatdoor", sum := "45d0bff08f7d6387f32901afba74055f2d69df4121b15407df225f59483c0872", func := "verge/vergelaw10.RevGrows", spec := "revGrows", inPlace := ["math.Float64frombits", "math.Float64bits", "math.Float32frombits", "math.Float32bits", "math.archCeil", "math.archFloor", "math.archTrunc", "math.RoundToEven"], unfollowed := true, recurses := true, named := ["math/bits.deBruijn32tab"], apart := false, laid := [("math/bits.deBruijn32tab", laid_math_bits_deBruijn32tab)] }
def RevGrowsSaid : Prop := revGrowsRow.holds Tryz.pinned (OpenSpec.ofChange revGrowsSpec)

/-- ITS FALSE NEIGHBOUR: 'it returns false'. Refute it at one input. -/
def revGrowsWrong : ChangeSpec := { name := "revGrows", fn := fun _ => fun
  | [d1, d2] => { results := [.lit (.bool false)], args := [d1, d2] }
  | _ => none }
def RevGrowsWrongFalsely : Prop := revGrowsRow.holds Tryz.pinned (OpenSpec.ofChange revGrowsWrong)

/- THE SECOND FORM. 'bulk': how many values and letters a reading holds, each counted each time it is reached (what is shared counts as often as it is met; a slice's spare places count too). A statement '..UptoSaid' is the law's where the arguments, and the package variables that the reading takes, are together of bulk at most 1048576: NARROWER than '..Said'. Prove '..Said' where nothing that the law and all that it calls make is longer than what came in: it says more and counts as full. Else prove '..UptoSaid'. A law counts once. -/
mutual
def uptoBulk {H : Type} : DataW H → Nat
  | .lit (.string bytes) => bytes.length + 1
  | .lit _ => 1
  | .nil => 1
  | .ptr d => uptoBulk d + 1
  | .slice elems spare => uptoBulkAll elems + uptoBulkAll spare + 1
  | .agg parts => uptoBulkAll parts + 1
  | .iface _ d => uptoBulk d + 1
  | .map entries => uptoBulkEntries entries + 1
  | .held _ => 1
def uptoBulkAll {H : Type} : List (DataW H) → Nat
  | [] => 0
  | d :: r => uptoBulk d + uptoBulkAll r
def uptoBulkEntries {H : Type} : List (Lit × DataW H) → Nat
  | [] => 0
  | x :: r => uptoBulkEntry x + uptoBulkEntries r
def uptoBulkEntry {H : Type} : Lit × DataW H → Nat
  | (.string bytes, d) => bytes.length + uptoBulk d + 1
  | (_, d) => uptoBulk d + 1
 end
def uptoSmall : (H : Type) → List (DataW H) → Bool := fun _ ds => decide (uptoBulkAll ds ≤ 1048576)
def OpenSpec.upto (s : _root_.Go.ChangeSpec) : _root_.Go.OpenSpec := { _root_.Go.OpenSpec.ofChange s with cond := some uptoSmall }

/-- 'vergelaw10.RevRoots', WHERE WHAT IT READS IS OF BULK AT MOST 1048576: true; the input reads as it did. -/
def revRootsUptoRow : OpenClaim := { program := "ythlmlmfebpjgdaagreatdoor", sum := "45d0bff08f7d6387f32901afba74055f2d69df4121b15407df225f59483c0872", func := "verge/vergelaw10.RevRoots", spec := "revRoots", inPlace := ["math.Float64frombits", "math.Float64bits", "math.Float32frombits", "math.Float32bits"], unfollowed := true, recurses := true, named := ["math/bits.deBruijn32tab"], apart := false, laid := [("math/bits.deBruijn32tab", laid_math_bits_deBruijn32tab)], narrowed := true }
def RevRootsUptoSaid : Prop := revRootsUptoRow.holds Tryz.pinned (OpenSpec.upto revRootsSpec)

/-- 'vergelaw10.RevKnown', WHERE WHAT IT READS IS OF BULK AT MOST 1048576: true; the input reads as it did. -/
def revKnownUptoRow : OpenClaim := { program := "ythlmlmfebpjgdaagreatdoor", sum := "45d0bff08f7d6387f32901afba74055f2d69df4121b15407df225f59483c0872", func := "verge/vergelaw10.RevKnown", spec := "revKnown", inPlace := ["math.Float64frombits", "math.Float64bits", "math.Float32frombits", "math.Float32bits"], unfollowed := true, recurses := true, named := ["math/bits.deBruijn32tab"], apart := false, laid := [("math/bits.deBruijn32tab", laid_math_bits_deBruijn32tab)], narrowed := true }
def RevKnownUptoSaid : Prop := revKnownUptoRow.holds Tryz.pinned (OpenSpec.upto revKnownSpec)

/-- 'vergelaw10.RevThrough', WHERE WHAT IT READS IS OF BULK AT MOST 1048576: true; the input reads as it did. -/
def revThroughUptoRow : OpenClaim := { program := "ythlmlmfebpjgdaagreatdoor", sum := "45d0bff08f7d6387f32901afba74055f2d69df4121b15407df225f59483c0872", func := "verge/vergelaw10.RevThrough", spec := "revThrough", inPlace := ["math.Float64frombits", "math.Float64bits", "math.Float32frombits", "math.Float32bits"], unfollowed := true, recurses := true, named := ["math/bits.deBruijn32tab"], apart := false, laid := [("math/bits.deBruijn32tab", laid_math_bits_deBruijn32tab)], narrowed := true }
def RevThroughUptoSaid : Prop := revThroughUptoRow.holds Tryz.pinned (OpenSpec.upto revThroughSpec)

/-- 'vergelaw10.RevPowers', WHERE WHAT IT READS IS OF BULK AT MOST 1048576: true; the input reads as it did. -/
def revPowersUptoRow : OpenClaim := { program := "ythlmlmfebpjgdaagreatdoor", sum := "45d0bff08f7d6387f32901afba74055f2d69df4121b15407df225f59483c0872", func := "verge/vergelaw10.RevPowers", spec := "revPowers", inPlace := ["math.Float64frombits", "math.Float64bits", "math.Float32frombits", "math.Float32bits"], unfollowed := true, recurses := true, named := ["math/bits.deBruijn32tab"], apart := false, laid := [("math/bits.deBruijn32tab", laid_math_bits_deBruijn32tab)], narrowed := true }
def RevPowersUptoSaid : Prop := revPowersUptoRow.holds Tryz.pinned (OpenSpec.upto revPowersSpec)

/-- 'vergelaw10.RevHolds', WHERE WHAT IT READS IS OF BULK AT MOST 1048576: true; the input reads as it did. -/
def revHoldsUptoRow : OpenClaim := { program := "ythlmlmfebpjgdaagreatdoor", sum := "45d0bff08f7d6387f32901afba74055f2d69df4121b15407df225f59483c0872", func := "verge/vergelaw10.RevHolds", spec := "revHolds", inPlace := ["math.Float64frombits", "math.Float64bits", "math.Float32frombits", "math.Float32bits"], unfollowed := true, recurses := true, named := ["math/bits.deBruijn32tab"], apart := false, laid := [("math/bits.deBruijn32tab", laid_math_bits_deBruijn32tab)], narrowed := true }
def RevHoldsUptoSaid : Prop := revHoldsUptoRow.holds Tryz.pinned (OpenSpec.upto revHoldsSpec)

/-- 'vergelaw10.RevHoldsOne', WHERE WHAT IT READS IS OF BULK AT MOST 1048576: true; the input reads as it did. -/
def revHoldsOneUptoRow : OpenClaim := { program := "ythlmlmfebpjgdaagreatdoor", sum := "45d0bff08f7d6387f32901afba74055f2d69df4121b15407df225f59483c0872", func := "verge/vergelaw10.RevHoldsOne", spec := "revHoldsOne", inPlace := ["math.Float64frombits", "math.Float64bits", "math.Float32frombits", "math.Float32bits", "math.archCeil", "math.archFloor", "math.archTrunc", "math.RoundToEven"], unfollowed := true, recurses := true, named := ["math/bits.deBruijn32tab"], apart := false, laid := [("math/bits.deBruijn32tab", laid_math_bits_deBruijn32tab)], narrowed := true }
def RevHoldsOneUptoSaid : Prop := revHoldsOneUptoRow.holds Tryz.pinned (OpenSpec.upto revHoldsOneSpec)

/-- 'vergelaw10.RevAgrees', WHERE WHAT IT READS IS OF BULK AT MOST 1048576: true; the input reads as it did. -/
def revAgreesUptoRow : OpenClaim := { program := "ythlmlmfebpjgdaagreatdoor", sum := "45d0bff08f7d6387f32901afba74055f2d69df4121b15407df225f59483c0872", func := "verge/vergelaw10.RevAgrees", spec := "revAgrees", inPlace := ["math.Float64frombits", "math.Float64bits", "math.Float32frombits", "math.Float32bits", "math.archCeil", "math.archFloor", "math.archTrunc"], unfollowed := true, recurses := true, named := ["math/bits.deBruijn32tab"], apart := false, laid := [("math/bits.deBruijn32tab", laid_math_bits_deBruijn32tab)], narrowed := true }
def RevAgreesUptoSaid : Prop := revAgreesUptoRow.holds Tryz.pinned (OpenSpec.upto revAgreesSpec)

/-- 'vergelaw10.RevTold', WHERE WHAT IT READS IS OF BULK AT MOST 1048576: true; the input reads as it did. -/
def revToldUptoRow : OpenClaim := { program := "ythlmlmfebpjgdaagreatdoor", sum := "45d0bff08f7d6387f32901afba74055f2d69df4121b15407df225f59483c0872", func := "verge/vergelaw10.RevTold", spec := "revTold", inPlace := ["math.Float64frombits", "math.Float64bits", "math.Float32frombits", "math.Float32bits", "math.archCeil", "math.archFloor", "math.archTrunc", "math.RoundToEven"], unfollowed := true, recurses := true, named := ["math/bits.deBruijn32tab"], apart := false, laid := [("math/bits.deBruijn32tab", laid_math_bits_deBruijn32tab)], narrowed := true }
def RevToldUptoSaid : Prop := revToldUptoRow.holds Tryz.pinned (OpenSpec.upto revToldSpec)

/-- 'vergelaw10.RevAgain', WHERE WHAT IT READS IS OF BULK AT MOST 1048576: true; the input reads as it did. -/
def revAgainUptoRow : OpenClaim := { program := "ythlmlmfebpjgdaagreatdoor", sum := "45d0bff08f7d6387f32901afba74055f2d69df4121b15407df225f59483c0872", func := "verge/vergelaw10.RevAgain", spec := "revAgain", inPlace := ["math.Float64frombits", "math.Float64bits", "math.Float32frombits", "math.Float32bits", "math.archCeil", "math.archFloor", "math.archTrunc", "math.RoundToEven"], unfollowed := true, recurses := true, named := ["math/bits.deBruijn32tab"], apart := false, laid := [("math/bits.deBruijn32tab", laid_math_bits_deBruijn32tab)], narrowed := true }
def RevAgainUptoSaid : Prop := revAgainUptoRow.holds Tryz.pinned (OpenSpec.upto revAgainSpec)

/-- 'vergelaw10.RevGrows', WHERE WHAT IT READS IS OF BULK AT MOST 1048576: true; the input reads as it did. -/
def revGrowsUptoRow : OpenClaim := { program := "ythlmlmfebpjgdaagreatdoor", sum := "45d0bff08f7d6387f32901afba74055f2d69df4121b15407df225f59483c0872", func := "verge/vergelaw10.RevGrows", spec := "revGrows", inPlace := ["math.Float64frombits", "math.Float64bits", "math.Float32frombits", "math.Float32bits", "math.archCeil", "math.archFloor", "math.archTrunc", "math.RoundToEven"], unfollowed := true, recurses := true, named := ["math/bits.deBruijn32tab"], apart := false, laid := [("math/bits.deBruijn32tab", laid_math_bits_deBruijn32tab)], narrowed := true }
def RevGrowsUptoSaid : Prop := revGrowsUptoRow.holds Tryz.pinned (OpenSpec.upto revGrowsSpec)

end Rows
end Go.Proofs.YthlmlmfebpjgdaaGreatDoor
