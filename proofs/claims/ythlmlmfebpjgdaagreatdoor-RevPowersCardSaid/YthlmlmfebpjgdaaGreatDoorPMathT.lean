/-
Lemmas for the statement: MathT SplitT.
-/
import Derived.Test.YthlmlmfebpjgdaaGreatDoorPGoA
import Derived.Test.YthlmlmfebpjgdaaGreatDoorM05
import Derived.Test.YthlmlmfebpjgdaaGreatDoorM09
import Derived.Test.YthlmlmfebpjgdaaGreatDoorM04
import Derived.Test.YthlmlmfebpjgdaaGreatDoorM03
import Derived.Laws.FloatArith
set_option linter.unusedSimpArgs false
set_option linter.unusedVariables false
set_option maxHeartbeats 12800000
namespace Go.Proofs.YthlmlmfebpjgdaaGreatDoor
section
open Go.RowKit
attribute [local go_sem] run_store_float run_frombits run_bitsof run_negf
theorem ord_lt{a b:Nat}(ha:rungOf a≤M)(hb:rungOf b≤M)(h:idx a<idx b):FloatKind.f64.format.order a b=some .lt:=by
 have:=order_real ha hb;rw [Int.compare_eq_lt.2 h] at this;exact this
theorem ord_eq{a b:Nat}(ha:rungOf a≤M)(hb:rungOf b≤M)(h:idx a=idx b):FloatKind.f64.format.order a b=some .eq:=by
 have:=order_real ha hb;rw [Int.compare_eq_eq.2 h] at this;exact this
theorem ord_gt{a b:Nat}(ha:rungOf a≤M)(hb:rungOf b≤M)(h:idx b<idx a):FloatKind.f64.format.order a b=some .gt:=by
 have:=order_real ha hb;rw [Int.compare_eq_gt.2 h] at this;exact this
theorem real_zero:rungOf 0≤M:=by decide
theorem idx_zero:idx 0=0:=by decide
theorem real_max:rungOf 9218868437227405312≤M:=by decide
theorem real_min:rungOf 18442240474082181120≤M:=by decide
theorem idx_max:idx 9218868437227405312=M:=by decide
theorem idx_min:idx 18442240474082181120=-(M:Int):=by decide
theorem real_top:rungOf 9218868437227405311≤M:=by decide
theorem idx_top:idx 9218868437227405311=(M:Int) - 1:=by decide
theorem abs_any(b:Nat)(w:World)(hb:b<18446744073709551616):Calls Tryz.prog 117 #[.float .f64 b] w fun e w'=>e=.returned (.float .f64 (rungOf b))∧w=w':=by
 have h:=size_i hb;have hf:=fun W=>run_frombits (rungOf b) W
 go_enter Tryz.func117,Tryz.ntmps117
 go_wp2
 go_ret
 exact⟨rfl,rfl⟩
theorem isnanf(b:Nat)(w:World)(hr:rungOf b≤M):Calls Tryz.prog 221 #[.float .f64 b] w fun e w'=>e=.returned (.bool false)∧w=w':=by
 have h:=ord_eq hr hr rfl
 go_enter Tryz.func221,Tryz.ntmps221
 go_wp2
 go_ret
 exact⟨rfl,rfl⟩
theorem rung_idx{b:Nat}(h:b<9223372036854775808):rungOf b=b∧idx b=(b:Int):=by
 have:=pat_cases (b:=b) (by omega)
 omega
theorem isinff(b:Nat)(w:World)(hb:b<18446744073709551616)(hr:rungOf b≤M):Calls Tryz.prog 161 #[.float .f64 b,.int .i64 0] w fun e w'=>e=.returned (.bool (decide (rungOf b=M)))∧w=w':=by
 have HA:=Hd (abs_any b w hb);have hM:M=9218868437227405312:=rfl
 obtain⟨r,hrr⟩:∃ r,rungOf b=r:=⟨_,rfl⟩
 rw [hrr] at HA hr ⊢;have h1:=rung_idx (b:=r) (by omega)
 by_cases h:r=M
 ·have ho:=ord_gt (a:=r) (b:=9218868437227405311) (by omega) real_top (by rw [h1.2,idx_top];omega);rw [decide_eq_true h];clear h1 h hrr hr hM
  go_enter Tryz.func161,Tryz.ntmps161
  go_wp2_with fail;refine HA.out.mono ?_;rintro e w' ⟨rfl,rfl⟩;go_wp2
  go_ret
  exact⟨rfl,rfl⟩
 ·have ho:FloatKind.f64.format.order r 9218868437227405311=some .lt∨FloatKind.f64.format.order r 9218868437227405311=some .eq:=by
   by_cases h2:r=M - 1
   ·exact .inr (ord_eq (by omega) real_top (by rw [h1.2,idx_top];omega))
   ·exact .inl (ord_lt (by omega) real_top (by rw [h1.2,idx_top];omega))
  rw [decide_eq_false h];clear h1 h hrr hr hM
  rcases ho with ho | ho
  all_goals
   go_enter Tryz.func161,Tryz.ntmps161
   go_wp2_with fail;refine HA.out.mono ?_;rintro e w' ⟨rfl,rfl⟩;go_wp2
   go_ret
   exact⟨rfl,rfl⟩
theorem rplain(b:Nat)(w:World)(hb:b<18446744073709551616)(hr:rungOf b≤M):Calls Tryz.prog 184 #[.float .f64 b] w fun e w'=>e=.returned (.float .f64 (pat (idx b)))∧w=w':=by
 have hp:=pl_real hb hr
 by_cases h:idx b=0
 ·have ho:=ord_eq hr real_zero (by rw [idx_zero];exact h);rw [h,pat_zero];clear hp h hr
  go_enter Tryz.func184,Tryz.ntmps184
  go_wp2
  go_ret
  exact⟨rfl,rfl⟩
 ·have ho:FloatKind.f64.format.order b 0=some .lt∨FloatKind.f64.format.order b 0=some .gt:=by
   rcases Int.lt_trichotomy (idx b) 0 with h1 | h1 | h1
   ·exact .inl (ord_lt hr real_zero (by rw [idx_zero];exact h1))
   ·exact absurd h1 h
   ·exact .inr (ord_gt hr real_zero (by rw [idx_zero];exact h1))
  have e:pat (idx b)=b:=by
   rw [← hp];unfold pl;have:=pat_cases hb;rw [if_neg (by omega),if_neg (by omega)]
  rw [e];clear hp h hr e
  rcases ho with ho | ho
  all_goals
   go_enter Tryz.func184,Tryz.ntmps184
   go_wp2
   go_ret
   exact⟨rfl,rfl⟩
def NextTo(w:World)(k:Int)(e:Ending)(w':World):Prop:=∃ r,e=.returned (.float .f64 r)∧r<18446744073709551616∧rungOf r≤M∧idx r=k∧w=w'
theorem copy_pos(w:World):Calls Tryz.prog 167 #[.float .f64 1,.float .f64 9218868437227405312] w fun e w'=>e=.returned (.float .f64 1)∧w=w':=by
 have h1:bits .andNot .u64 (1:Int) 9223372036854775808=1:=by decide
 have h2:bits .and .u64 (9218868437227405312:Int) 9223372036854775808=0:=by decide
 have h3:bits .or .u64 (1:Int) 0=1:=by decide
 have f1:∀ W:World,(callFunc 73 #[.float .f64 1]).run Tryz.prog W=.ok (.value (.int .u64 1)) W:=fun W=>run_bitsof 1 W;have f2:∀ W:World,(callFunc 73 #[.float .f64 9218868437227405312]).run Tryz.prog W=.ok (.value (.int .u64 9218868437227405312)) W:=fun W=>run_bitsof 9218868437227405312 W;have f3:∀ W:World,(callFunc 74 #[.int .u64 1]).run Tryz.prog W=.ok (.value (.float .f64 1)) W:=fun W=>run_frombits 1 W
 go_enter Tryz.func167,Tryz.ntmps167
 go_wp2
 go_ret
 exact⟨rfl,rfl⟩
theorem copy_neg(w:World):Calls Tryz.prog 167 #[.float .f64 1,.float .f64 18442240474082181120] w fun e w'=>e=.returned (.float .f64 9223372036854775809)∧w=w':=by
 have h1:bits .andNot .u64 (1:Int) 9223372036854775808=1:=by decide
 have h2:bits .and .u64 (18442240474082181120:Int) 9223372036854775808=9223372036854775808:=by decide
 have h3:bits .or .u64 (1:Int) 9223372036854775808=9223372036854775809:=by decide
 have f1:∀ W:World,(callFunc 73 #[.float .f64 1]).run Tryz.prog W=.ok (.value (.int .u64 1)) W:=fun W=>run_bitsof 1 W;have f2:∀ W:World,(callFunc 73 #[.float .f64 18442240474082181120]).run Tryz.prog W=.ok (.value (.int .u64 18442240474082181120)) W:=fun W=>run_bitsof 18442240474082181120 W;have f3:∀ W:World,(callFunc 74 #[.int .u64 9223372036854775809]).run Tryz.prog W=.ok (.value (.float .f64 9223372036854775809)) W:=fun W=>run_frombits 9223372036854775809 W
 go_enter Tryz.func167,Tryz.ntmps167
 go_wp2
 go_ret
 exact⟨rfl,rfl⟩
end
section
open Go.RowKit Ieee
attribute [local go_sem] run_store_float run_frombits run_bitsof run_negf
theorem fsmall(w:World):Calls Tryz.prog 243 #[] w fun e w'=>e=.returned (.bool false)∧w=w':=by
 have h1:floatOfInt .f64 16777216=4715268809856909312:=by kernel_rfl
 have h2:=fun W=>run_float_arith (P:=Tryz.prog) W .add 26 .f64 4715268809856909312 4607182418800017408 4715268810125344768 (by kernel_rfl)
 have h3:FloatKind.f64.format.order 4715268810125344768 4715268809856909312=some .gt:=by kernel_rfl
 go_enter Tryz.func243,Tryz.ntmps243
 go_wp2
 go_ret
 exact⟨rfl,rfl⟩
theorem pattern_any(b:Nat)(w:World):Calls Tryz.prog 218 #[.float .f64 b] w fun e w'=>e=.returned (.int .u64 (b:Int))∧w=w':=by
 have HS:=Hd fsmall;have ff:=fun W=>run_bitsof b W
 go_enter Tryz.func218,Tryz.ntmps218
 go_wp2_with fail;refine (HS.out _).mono ?_;rintro e w' ⟨rfl,rfl⟩;go_wp2
 go_ret
 exact⟨rfl,rfl⟩
theorem format_any(w:World):Calls Tryz.prog 217 #[] w fun e w'=>e=.returned (.agg #[.int .i64 52,.int .i64 (-1074),.int .i64 971,.int .u64 9218868437227405312,.int .u64 9223372036854775808])∧Below w.heap.size w w':=by
 have HS:=Hd fsmall;have HB:=Hd (below_alloc w (.cells #[.int .i64 52,.int .i64 (-1074),.int .i64 971,.int .u64 9218868437227405312,.int .u64 9223372036854775808] 185))
 go_enter Tryz.func217,Tryz.ntmps217
 go_wp2_with fail;refine (HS.out _).mono ?_;rintro e w' ⟨rfl,rfl⟩;go_wp2;refine bodyPost_ret (v:=.agg #[.int .i64 52,.int .i64 (-1074),.int .i64 971,.int .u64 9218868437227405312,.int .u64 9223372036854775808]) (by simp [results,Tryz.results217,go_sem]) rfl ?_
 exact⟨rfl,HB.out⟩
end
end Go.Proofs.YthlmlmfebpjgdaaGreatDoor
