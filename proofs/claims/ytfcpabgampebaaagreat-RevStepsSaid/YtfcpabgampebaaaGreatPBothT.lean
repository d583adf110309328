/-
Walks: package rel, both, Intersect.
-/
import Derived.Test.YtfcpabgampebaaaGreatM03
import Derived.Test.YtfcpabgampebaaaGreatPGoA
import Derived.Deep.DeepCutAuto
set_option linter.unusedSimpArgs false
set_option linter.unusedVariables false
set_option maxHeartbeats 12800000
namespace Go.Proofs.YtfcpabgampebaaaGreat
open Go.RowKit
attribute [local go_sem] run_store_float
theorem run_eqf(p q:Nat)(W:World):(Op.equalIn 9999 25 (.float .f64 p) (.float .f64 q)).run Tryz.prog W=.ok (FloatKind.f64.format.order p q == some .eq) W:=by
 rw [show (9999:Nat)=9998+1 from rfl,Op.equalIn]
 simp only [Sem.run_bind,run_underlying Tryz.underlying25,Result.andThen_ok,if_true,Sem.run_pure]
 rfl
attribute [local go_sem] run_eqf
theorem readf_idx(i j:Int)(w:World)(h:Iv i j):Calls Tryz.prog 71 #[.agg #[.float .f64 (pat i),.float .f64 (pat j)]] w fun e w'=>e=.returned (.agg #[.float .f64 (pat i),.float .f64 (pat j)])∧Below w.heap.size w w':=by
 have h2:=readf (pat i) (pat j) w (pat_lt h.lo.1 h.lo.2) (pat_lt h.hi.1 h.hi.2);rw [rd_pat h] at h2
 exact h2
def Em(a:Bool)(p1 p2:Nat):Prop:=(a=true→FloatKind.f64.format.order p1 9218868437227405312=some .eq∧FloatKind.f64.format.order p2 18442240474082181120=some .eq)∧(a=false→FloatKind.f64.format.order p1 9218868437227405312=some .lt)
end Go.Proofs.YtfcpabgampebaaaGreat
