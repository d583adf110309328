/-
Walks: package rev, MulPair.
-/
import Derived.Test.YthlmlmfebpjgdaaGreatDoorM04
import Derived.Test.YthlmlmfebpjgdaaGreatDoorPLessT
import Derived.Test.YthlmlmfebpjgdaaGreatDoorM23
import Derived.Deep.DeepCutAuto
set_option linter.unusedSimpArgs false
set_option linter.unusedVariables false
set_option maxHeartbeats 12800000

namespace Go.Proofs.YthlmlmfebpjgdaaGreatDoor
open Go.RowKit
attribute [local go_sem] run_store_float
theorem KeepN.blk {G n r : Nat} {t : TypeId} {cs : Array Value} {w w' : World} (h : KeepN G n w w') (hr : Blk w r t cs) (h0 : r < G ∨ G + n ≤ r) : Blk w' r t cs := (h.block r hr.lt h0).trans hr
end Go.Proofs.YthlmlmfebpjgdaaGreatDoor
