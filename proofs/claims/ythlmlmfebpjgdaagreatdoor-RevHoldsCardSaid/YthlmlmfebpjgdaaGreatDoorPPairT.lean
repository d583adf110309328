/-
Walks: package rev, MulPair.
-/
import Derived.Test.YthlmlmfebpjgdaaGreatDoorM15
import Derived.Test.YthlmlmfebpjgdaaGreatDoorM22
import Derived.Test.YthlmlmfebpjgdaaGreatDoorPAddT
import Derived.Deep.DeepCutAuto
set_option linter.unusedSimpArgs false
set_option linter.unusedVariables false
set_option maxHeartbeats 12800000
namespace Go.Proofs.YthlmlmfebpjgdaaGreatDoor
open Go.RowKit
attribute [local go_sem] run_store_float
theorem ExI.setB{w:World}{s:Int}{g:Bool}{A:Option Addr}{n c:Nat}{E:Int}{x:Rat}(h:ExI w s g A n c E x){r:Nat}{t:TypeId}{cs:Array Value}(hb:Blk w r t cs)(hc:NoWd cs)(i:Nat)(vs:List Value):ExI (Proofs.YthlmlmfebpjgdaaGreatDoor.sets w r i vs) s g A n c E x:=
 h.keep fun _ hu=>hu.sets hb hc i vs
theorem ExI.setsE{w W':World}{s:Int}{g:Bool}{A:Option Addr}{n c:Nat}{E:Int}{x:Rat}(h:ExI w s g A n c E x){r:Nat}{t:TypeId}{cs:Array Value}{i:Nat}{vs:List Value}(hb:Blk w r t cs)(hc:NoWd cs)(e:Proofs.YthlmlmfebpjgdaaGreatDoor.sets w r i vs=W'):ExI W' s g A n c E x:=e ▸ h.setB hb hc i vs
theorem KeepN.blk{G n r:Nat}{t:TypeId}{cs:Array Value}{w w':World}(h:KeepN G n w w')(hr:Blk w r t cs)(h0:r<G∨G+n≤r):Blk w' r t cs:=(h.block r hr.lt h0).trans hr
end Go.Proofs.YthlmlmfebpjgdaaGreatDoor
