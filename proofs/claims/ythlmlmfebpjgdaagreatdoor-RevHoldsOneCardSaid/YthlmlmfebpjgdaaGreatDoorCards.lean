/-
  DERIVED. GIVEN WITH THE SEED: THE CARDS: each row of YthlmlmfebpjgdaaGreatDoorRows.lean that lists a variable, with what it lists TIED to the program's text (the seventh form; the later family's looks); each row that meets fmt, with fmt's text TOLD by the authors' own Lean function (tested against real Go, not proved from fmt's source: count such statements apart). THE CARD IS WHAT COUNTS. Prove the row's statement (the work); the ties are given (YthlmlmfebpjgdaaGreatDoorTie.lean); close each card by the builder's one call (the guide's Derived/Test/ToyasCard.lean, 'card_holds'). Laid BY PROGRAM, IN A SANDBOX (cutbox-door.mjs). By AI agents, Wed Nov 11 2026. No macro, syntax, notation, axiom, sorry.
-/
import Derived.Test.YthlmlmfebpjgdaaGreatDoorRows
import GoSem.ClaimSeven
namespace Go.Proofs.YthlmlmfebpjgdaaGreatDoor
namespace Rows

/-- THE TIED CARD OF 'vergelaw10.RevRoots'. -/
def revRootsCard : Claim7 := { stood := { row := revRootsRow, standIns := [], harness := (true, "61ef237ff37b31c34a8bdfa5e2f37c57f5a342fb520db1bf31263ed6e9a53d21"), looks := false }, kinds := [], alts := [], laidByText := true, laidKinds := [.data], laidTests := true, laidLooks := .later }
def RevRootsCardSaid : Prop := Claim7.holds Tryz.pinned (.plain (OpenSpec.ofChange revRootsSpec)) revRootsCard

/-- THE TIED CARD OF 'vergelaw10.RevKnown'. -/
def revKnownCard : Claim7 := { stood := { row := revKnownRow, standIns := [], harness := (true, "61ef237ff37b31c34a8bdfa5e2f37c57f5a342fb520db1bf31263ed6e9a53d21"), looks := false }, kinds := [], alts := [], laidByText := true, laidKinds := [.data], laidTests := true, laidLooks := .later }
def RevKnownCardSaid : Prop := Claim7.holds Tryz.pinned (.plain (OpenSpec.ofChange revKnownSpec)) revKnownCard

/-- THE TIED CARD OF 'vergelaw10.RevThrough'. -/
def revThroughCard : Claim7 := { stood := { row := revThroughRow, standIns := [], harness := (true, "61ef237ff37b31c34a8bdfa5e2f37c57f5a342fb520db1bf31263ed6e9a53d21"), looks := false }, kinds := [], alts := [], laidByText := true, laidKinds := [.data], laidTests := true, laidLooks := .later }
def RevThroughCardSaid : Prop := Claim7.holds Tryz.pinned (.plain (OpenSpec.ofChange revThroughSpec)) revThroughCard

/-- THE TIED CARD OF 'vergelaw10.RevPowers'. -/
def revPowersCard : Claim7 := { stood := { row := revPowersRow, standIns := [], harness := (true, "61ef237ff37b31c34a8bdfa5e2f37c57f5a342fb520db1bf31263ed6e9a53d21"), looks := false }, kinds := [], alts := [], laidByText := true, laidKinds := [.data], laidTests := true, laidLooks := .later }
def RevPowersCardSaid : Prop := Claim7.holds Tryz.pinned (.plain (OpenSpec.ofChange revPowersSpec)) revPowersCard

/-- THE TIED CARD OF 'vergelaw10.RevHolds'. -/
def revHoldsCard : Claim7 := { stood := { row := revHoldsRow, standIns := [], harness := (true, "61ef237ff37b31c34a8bdfa5e2f37c57f5a342fb520db1bf31263ed6e9a53d21"), looks := false }, kinds := [], alts := [], laidByText := true, laidKinds := [.data], laidTests := true, laidLooks := .later }
def RevHoldsCardSaid : Prop := Claim7.holds Tryz.pinned (.plain (OpenSpec.ofChange revHoldsSpec)) revHoldsCard

/-- THE TIED CARD OF 'vergelaw10.RevHoldsOne'. -/
def revHoldsOneCard : Claim7 := { stood := { row := revHoldsOneRow, standIns := [], harness := (true, "61ef237ff37b31c34a8bdfa5e2f37c57f5a342fb520db1bf31263ed6e9a53d21"), looks := false }, kinds := [], alts := [], laidByText := true, laidKinds := [.data], laidTests := true, laidLooks := .later }
def RevHoldsOneCardSaid : Prop := Claim7.holds Tryz.pinned (.plain (OpenSpec.ofChange revHoldsOneSpec)) revHoldsOneCard

/-- THE TIED CARD OF 'vergelaw10.RevAgrees'. -/
def revAgreesCard : Claim7 := { stood := { row := revAgreesRow, standIns := [], harness := (true, "61ef237ff37b31c34a8bdfa5e2f37c57f5a342fb520db1bf31263ed6e9a53d21"), looks := false }, kinds := [], alts := [], laidByText := true, laidKinds := [.data], laidTests := true, laidLooks := .later }
def RevAgreesCardSaid : Prop := Claim7.holds Tryz.pinned (.plain (OpenSpec.ofChange revAgreesSpec)) revAgreesCard

/-- THE TIED CARD OF 'vergelaw10.RevTold'. -/
def revToldCard : Claim7 := { stood := { row := revToldRow, standIns := [], harness := (true, "61ef237ff37b31c34a8bdfa5e2f37c57f5a342fb520db1bf31263ed6e9a53d21"), looks := false }, kinds := [], alts := [], laidByText := true, laidKinds := [.data], laidTests := true, laidLooks := .later }
def RevToldCardSaid : Prop := Claim7.holds Tryz.pinned (.plain (OpenSpec.ofChange revToldSpec)) revToldCard

/-- THE TIED CARD OF 'vergelaw10.RevAgain'. -/
def revAgainCard : Claim7 := { stood := { row := revAgainRow, standIns := [], harness := (true, "61ef237ff37b31c34a8bdfa5e2f37c57f5a342fb520db1bf31263ed6e9a53d21"), looks := false }, kinds := [], alts := [], laidByText := true, laidKinds := [.data], laidTests := true, laidLooks := .later }
def RevAgainCardSaid : Prop := Claim7.holds Tryz.pinned (.plain (OpenSpec.ofChange revAgainSpec)) revAgainCard

/-- THE TIED CARD OF 'vergelaw10.RevGrows'. -/
def revGrowsCard : Claim7 := { stood := { row := revGrowsRow, standIns := [], harness := (true, "61ef237ff37b31c34a8bdfa5e2f37c57f5a342fb520db1bf31263ed6e9a53d21"), looks := false }, kinds := [], alts := [], laidByText := true, laidKinds := [.data], laidTests := true, laidLooks := .later }
def RevGrowsCardSaid : Prop := Claim7.holds Tryz.pinned (.plain (OpenSpec.ofChange revGrowsSpec)) revGrowsCard

/-- THE SECOND FORM's CARD OF 'vergelaw10.RevRoots'. -/
def revRootsUptoCard : Claim7 := { stood := { row := revRootsUptoRow, standIns := [], harness := (true, "61ef237ff37b31c34a8bdfa5e2f37c57f5a342fb520db1bf31263ed6e9a53d21"), looks := false }, kinds := [], alts := [], laidByText := true, laidKinds := [.data], laidTests := true, laidLooks := .later }
def RevRootsUptoCardSaid : Prop := Claim7.holds Tryz.pinned (.plain (OpenSpec.upto revRootsSpec)) revRootsUptoCard

/-- THE SECOND FORM's CARD OF 'vergelaw10.RevKnown'. -/
def revKnownUptoCard : Claim7 := { stood := { row := revKnownUptoRow, standIns := [], harness := (true, "61ef237ff37b31c34a8bdfa5e2f37c57f5a342fb520db1bf31263ed6e9a53d21"), looks := false }, kinds := [], alts := [], laidByText := true, laidKinds := [.data], laidTests := true, laidLooks := .later }
def RevKnownUptoCardSaid : Prop := Claim7.holds Tryz.pinned (.plain (OpenSpec.upto revKnownSpec)) revKnownUptoCard

/-- THE SECOND FORM's CARD OF 'vergelaw10.RevThrough'. -/
def revThroughUptoCard : Claim7 := { stood := { row := revThroughUptoRow, standIns := [], harness := (true, "61ef237ff37b31c34a8bdfa5e2f37c57f5a342fb520db1bf31263ed6e9a53d21"), looks := false }, kinds := [], alts := [], laidByText := true, laidKinds := [.data], laidTests := true, laidLooks := .later }
def RevThroughUptoCardSaid : Prop := Claim7.holds Tryz.pinned (.plain (OpenSpec.upto revThroughSpec)) revThroughUptoCard

/-- THE SECOND FORM's CARD OF 'vergelaw10.RevPowers'. -/
def revPowersUptoCard : Claim7 := { stood := { row := revPowersUptoRow, standIns := [], harness := (true, "61ef237ff37b31c34a8bdfa5e2f37c57f5a342fb520db1bf31263ed6e9a53d21"), looks := false }, kinds := [], alts := [], laidByText := true, laidKinds := [.data], laidTests := true, laidLooks := .later }
def RevPowersUptoCardSaid : Prop := Claim7.holds Tryz.pinned (.plain (OpenSpec.upto revPowersSpec)) revPowersUptoCard

/-- THE SECOND FORM's CARD OF 'vergelaw10.RevHolds'. -/
def revHoldsUptoCard : Claim7 := { stood := { row := revHoldsUptoRow, standIns := [], harness := (true, "61ef237ff37b31c34a8bdfa5e2f37c57f5a342fb520db1bf31263ed6e9a53d21"), looks := false }, kinds := [], alts := [], laidByText := true, laidKinds := [.data], laidTests := true, laidLooks := .later }
def RevHoldsUptoCardSaid : Prop := Claim7.holds Tryz.pinned (.plain (OpenSpec.upto revHoldsSpec)) revHoldsUptoCard

/-- THE SECOND FORM's CARD OF 'vergelaw10.RevHoldsOne'. -/
def revHoldsOneUptoCard : Claim7 := { stood := { row := revHoldsOneUptoRow, standIns := [], harness := (true, "61ef237ff37b31c34a8bdfa5e2f37c57f5a342fb520db1bf31263ed6e9a53d21"), looks := false }, kinds := [], alts := [], laidByText := true, laidKinds := [.data], laidTests := true, laidLooks := .later }
def RevHoldsOneUptoCardSaid : Prop := Claim7.holds Tryz.pinned (.plain (OpenSpec.upto revHoldsOneSpec)) revHoldsOneUptoCard

/-- THE SECOND FORM's CARD OF 'vergelaw10.RevAgrees'. -/
def revAgreesUptoCard : Claim7 := { stood := { row := revAgreesUptoRow, standIns := [], harness := (true, "61ef237ff37b31c34a8bdfa5e2f37c57f5a342fb520db1bf31263ed6e9a53d21"), looks := false }, kinds := [], alts := [], laidByText := true, laidKinds := [.data], laidTests := true, laidLooks := .later }
def RevAgreesUptoCardSaid : Prop := Claim7.holds Tryz.pinned (.plain (OpenSpec.upto revAgreesSpec)) revAgreesUptoCard

/-- THE SECOND FORM's CARD OF 'vergelaw10.RevTold'. -/
def revToldUptoCard : Claim7 := { stood := { row := revToldUptoRow, standIns := [], harness := (true, "61ef237ff37b31c34a8bdfa5e2f37c57f5a342fb520db1bf31263ed6e9a53d21"), looks := false }, kinds := [], alts := [], laidByText := true, laidKinds := [.data], laidTests := true, laidLooks := .later }
def RevToldUptoCardSaid : Prop := Claim7.holds Tryz.pinned (.plain (OpenSpec.upto revToldSpec)) revToldUptoCard

/-- THE SECOND FORM's CARD OF 'vergelaw10.RevAgain'. -/
def revAgainUptoCard : Claim7 := { stood := { row := revAgainUptoRow, standIns := [], harness := (true, "61ef237ff37b31c34a8bdfa5e2f37c57f5a342fb520db1bf31263ed6e9a53d21"), looks := false }, kinds := [], alts := [], laidByText := true, laidKinds := [.data], laidTests := true, laidLooks := .later }
def RevAgainUptoCardSaid : Prop := Claim7.holds Tryz.pinned (.plain (OpenSpec.upto revAgainSpec)) revAgainUptoCard

/-- THE SECOND FORM's CARD OF 'vergelaw10.RevGrows'. -/
def revGrowsUptoCard : Claim7 := { stood := { row := revGrowsUptoRow, standIns := [], harness := (true, "61ef237ff37b31c34a8bdfa5e2f37c57f5a342fb520db1bf31263ed6e9a53d21"), looks := false }, kinds := [], alts := [], laidByText := true, laidKinds := [.data], laidTests := true, laidLooks := .later }
def RevGrowsUptoCardSaid : Prop := Claim7.holds Tryz.pinned (.plain (OpenSpec.upto revGrowsSpec)) revGrowsUptoCard
end Rows
end Go.Proofs.YthlmlmfebpjgdaaGreatDoor
