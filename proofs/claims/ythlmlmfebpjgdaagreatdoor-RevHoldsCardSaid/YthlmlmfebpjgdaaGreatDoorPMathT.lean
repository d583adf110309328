/-
Walks: package math: Abs, IsNaN, IsInf, Copysign, Nextafter; package round: plain, odd, nudge.
Walks: package fbit, Split of a finite float; what stands below it.
-/
import Derived.Test.YthlmlmfebpjgdaaGreatDoorPGoA
import Derived.Test.YthlmlmfebpjgdaaGreatDoorPMinusT
import Derived.Test.YthlmlmfebpjgdaaGreatDoorM07
import Derived.Test.YthlmlmfebpjgdaaGreatDoorM03
import Derived.Laws.FloatArith
set_option linter.unusedSimpArgs false
set_option linter.unusedVariables false
set_option maxHeartbeats 12800000
namespace Go.Proofs.YthlmlmfebpjgdaaGreatDoor
open Go.RowKit
attribute [local go_sem] run_store_float run_frombits run_bitsof run_negf
theorem ord_lt{a b:Nat}(ha:rungOf a≤M)(hb:rungOf b≤M)(h:idx a<idx b):FloatKind.f64.format.order a b=some .lt:=by
 have:=order_real ha hb;rw [Int.compare_eq_lt.2 h] at this;exact this
theorem ord_eq{a b:Nat}(ha:rungOf a≤M)(hb:rungOf b≤M)(h:idx a=idx b):FloatKind.f64.format.order a b=some .eq:=by
 have:=order_real ha hb;rw [Int.compare_eq_eq.2 h] at this;exact this
theorem ord_gt{a b:Nat}(ha:rungOf a≤M)(hb:rungOf b≤M)(h:idx b<idx a):FloatKind.f64.format.order a b=some .gt:=by
 have:=order_real ha hb;rw [Int.compare_eq_gt.2 h] at this;exact this
theorem real_zero:rungOf 0≤M:=by decide
theorem idx_zero:idx 0=0:=by decide
theorem real_max:rungOf 9218868437227405312≤M:=by decide
theorem real_min:rungOf 18442240474082181120≤M:=by decide
theorem idx_max:idx 9218868437227405312=M:=by decide
theorem idx_min:idx 18442240474082181120=-(M:Int):=by decide
theorem real_top:rungOf 9218868437227405311≤M:=by decide
theorem idx_top:idx 9218868437227405311=(M:Int) - 1:=by decide
theorem abs_any(b:Nat)(w:World)(hb:b<18446744073709551616):Calls Tryz.prog 117 #[.float .f64 b] w fun e w'=>e=.returned (.float .f64 (rungOf b))∧w=w':=by
 have h:=size_i hb;have hf:=fun W=>run_frombits (rungOf b) W
 go_enter Tryz.func117,Tryz.ntmps117
 go_wp2
 go_ret
 exact⟨rfl,rfl⟩
theorem isnanf(b:Nat)(w:World)(hr:rungOf b≤M):Calls Tryz.prog 221 #[.float .f64 b] w fun e w'=>e=.returned (.bool false)∧w=w':=by
 have h:=ord_eq hr hr rfl
 go_enter Tryz.func221,Tryz.ntmps221
 go_wp2
 go_ret
 exact⟨rfl,rfl⟩
theorem rung_idx{b:Nat}(h:b<9223372036854775808):rungOf b=b∧idx b=(b:Int):=by
 have:=pat_cases (b:=b) (by omega)
 omega
theorem isinff(b:Nat)(w:World)(hb:b<18446744073709551616)(hr:rungOf b≤M):Calls Tryz.prog 161 #[.float .f64 b,.int .i64 0] w fun e w'=>e=.returned (.bool (decide (rungOf b=M)))∧w=w':=by
 have HA:=Hd (abs_any b w hb);have hM:M=9218868437227405312:=rfl
 obtain⟨r,hrr⟩:∃ r,rungOf b=r:=⟨_,rfl⟩
 rw [hrr] at HA hr ⊢;have h1:=rung_idx (b:=r) (by omega)
 by_cases h:r=M
 ·have ho:=ord_gt (a:=r) (b:=9218868437227405311) (by omega) real_top (by rw [h1.2,idx_top];omega);rw [decide_eq_true h];clear h1 h hrr hr hM
  go_enter Tryz.func161,Tryz.ntmps161
  go_wp2_with fail;refine HA.out.mono ?_;rintro e w' ⟨rfl,rfl⟩;go_wp2
  go_ret
  exact⟨rfl,rfl⟩
 ·have ho:FloatKind.f64.format.order r 9218868437227405311=some .lt∨FloatKind.f64.format.order r 9218868437227405311=some .eq:=by
   by_cases h2:r=M - 1
   ·exact .inr (ord_eq (by omega) real_top (by rw [h1.2,idx_top];omega))
   ·exact .inl (ord_lt (by omega) real_top (by rw [h1.2,idx_top];omega))
  rw [decide_eq_false h];clear h1 h hrr hr hM
  rcases ho with ho | ho
  all_goals
   go_enter Tryz.func161,Tryz.ntmps161
   go_wp2_with fail;refine HA.out.mono ?_;rintro e w' ⟨rfl,rfl⟩;go_wp2
   go_ret
   exact⟨rfl,rfl⟩
theorem rplain(b:Nat)(w:World)(hb:b<18446744073709551616)(hr:rungOf b≤M):Calls Tryz.prog 184 #[.float .f64 b] w fun e w'=>e=.returned (.float .f64 (pat (idx b)))∧w=w':=by
 have hp:=pl_real hb hr
 by_cases h:idx b=0
 ·have ho:=ord_eq hr real_zero (by rw [idx_zero];exact h);rw [h,pat_zero];clear hp h hr
  go_enter Tryz.func184,Tryz.ntmps184
  go_wp2
  go_ret
  exact⟨rfl,rfl⟩
 ·have ho:FloatKind.f64.format.order b 0=some .lt∨FloatKind.f64.format.order b 0=some .gt:=by
   rcases Int.lt_trichotomy (idx b) 0 with h1 | h1 | h1
   ·exact .inl (ord_lt hr real_zero (by rw [idx_zero];exact h1))
   ·exact absurd h1 h
   ·exact .inr (ord_gt hr real_zero (by rw [idx_zero];exact h1))
  have e:pat (idx b)=b:=by
   rw [← hp];unfold pl;have:=pat_cases hb;rw [if_neg (by omega),if_neg (by omega)]
  rw [e];clear hp h hr e
  rcases ho with ho | ho
  all_goals
   go_enter Tryz.func184,Tryz.ntmps184
   go_wp2
   go_ret
   exact⟨rfl,rfl⟩
def NextTo(w:World)(k:Int)(e:Ending)(w':World):Prop:=∃ r,e=.returned (.float .f64 r)∧r<18446744073709551616∧rungOf r≤M∧idx r=k∧w=w'
theorem copy_pos(w:World):Calls Tryz.prog 167 #[.float .f64 1,.float .f64 9218868437227405312] w fun e w'=>e=.returned (.float .f64 1)∧w=w':=by
 have h1:bits .andNot .u64 (1:Int) 9223372036854775808=1:=by decide
 have h2:bits .and .u64 (9218868437227405312:Int) 9223372036854775808=0:=by decide
 have h3:bits .or .u64 (1:Int) 0=1:=by decide
 have f1:∀ W:World,(callFunc 73 #[.float .f64 1]).run Tryz.prog W=.ok (.value (.int .u64 1)) W:=fun W=>run_bitsof 1 W;have f2:∀ W:World,(callFunc 73 #[.float .f64 9218868437227405312]).run Tryz.prog W=.ok (.value (.int .u64 9218868437227405312)) W:=fun W=>run_bitsof 9218868437227405312 W;have f3:∀ W:World,(callFunc 74 #[.int .u64 1]).run Tryz.prog W=.ok (.value (.float .f64 1)) W:=fun W=>run_frombits 1 W
 go_enter Tryz.func167,Tryz.ntmps167
 go_wp2
 go_ret
 exact⟨rfl,rfl⟩
theorem copy_neg(w:World):Calls Tryz.prog 167 #[.float .f64 1,.float .f64 18442240474082181120] w fun e w'=>e=.returned (.float .f64 9223372036854775809)∧w=w':=by
 have h1:bits .andNot .u64 (1:Int) 9223372036854775808=1:=by decide
 have h2:bits .and .u64 (18442240474082181120:Int) 9223372036854775808=9223372036854775808:=by decide
 have h3:bits .or .u64 (1:Int) 9223372036854775808=9223372036854775809:=by decide
 have f1:∀ W:World,(callFunc 73 #[.float .f64 1]).run Tryz.prog W=.ok (.value (.int .u64 1)) W:=fun W=>run_bitsof 1 W;have f2:∀ W:World,(callFunc 73 #[.float .f64 18442240474082181120]).run Tryz.prog W=.ok (.value (.int .u64 18442240474082181120)) W:=fun W=>run_bitsof 18442240474082181120 W;have f3:∀ W:World,(callFunc 74 #[.int .u64 9223372036854775809]).run Tryz.prog W=.ok (.value (.float .f64 9223372036854775809)) W:=fun W=>run_frombits 9223372036854775809 W
 go_enter Tryz.func167,Tryz.ntmps167
 go_wp2
 go_ret
 exact⟨rfl,rfl⟩
end Go.Proofs.YthlmlmfebpjgdaaGreatDoor
namespace Go.Proofs.YthlmlmfebpjgdaaGreatDoor
open Go.RowKit Ieee
attribute [local go_sem] run_store_float run_frombits run_bitsof run_negf
theorem fsmall(w:World):Calls Tryz.prog 243 #[] w fun e w'=>e=.returned (.bool false)∧w=w':=by
 have h1:floatOfInt .f64 16777216=4715268809856909312:=by kernel_rfl
 have h2:=fun W=>run_float_arith (P:=Tryz.prog) W .add 26 .f64 4715268809856909312 4607182418800017408 4715268810125344768 (by kernel_rfl)
 have h3:FloatKind.f64.format.order 4715268810125344768 4715268809856909312=some .gt:=by kernel_rfl
 go_enter Tryz.func243,Tryz.ntmps243
 go_wp2
 go_ret
 exact⟨rfl,rfl⟩
theorem pattern_any(b:Nat)(w:World):Calls Tryz.prog 218 #[.float .f64 b] w fun e w'=>e=.returned (.int .u64 (b:Int))∧w=w':=by
 have HS:=Hd fsmall;have ff:=fun W=>run_bitsof b W
 go_enter Tryz.func218,Tryz.ntmps218
 go_wp2_with fail;refine (HS.out _).mono ?_;rintro e w' ⟨rfl,rfl⟩;go_wp2
 go_ret
 exact⟨rfl,rfl⟩
theorem format_any(w:World):Calls Tryz.prog 217 #[] w fun e w'=>e=.returned (.agg #[.int .i64 52,.int .i64 (-1074),.int .i64 971,.int .u64 9218868437227405312,.int .u64 9223372036854775808])∧Below w.heap.size w w':=by
 have HS:=Hd fsmall;have HB:=Hd (below_alloc w (.cells #[.int .i64 52,.int .i64 (-1074),.int .i64 971,.int .u64 9218868437227405312,.int .u64 9223372036854775808] 185))
 go_enter Tryz.func217,Tryz.ntmps217
 go_wp2_with fail;refine (HS.out _).mono ?_;rintro e w' ⟨rfl,rfl⟩;go_wp2;refine bodyPost_ret (v:=.agg #[.int .i64 52,.int .i64 (-1074),.int .i64 971,.int .u64 9218868437227405312,.int .u64 9223372036854775808]) (by simp [results,Tryz.results217,go_sem]) rfl ?_
 exact⟨rfl,HB.out⟩
def SplitTo(w:World)(neg:Bool)(S:Nat)(x:Int)(e:Ending)(w':World):Prop:=
 e=.returned (.tuple #[.bool neg,.int .u64 (S:Int),.int .i64 x,.bool true])∧Below w.heap.size w w'
set_option maxRecDepth 100000 in
theorem split_walk(b m e f S:Nat)(neg:Bool)(w:World)(hb:b<18446744073709551616)(hm:rungOf b=m)(hm2:m<9218868437227405312)(he:m / 4503599627370496=e)(hff:m % 4503599627370496=f)(hn:(FloatKind.f64.format.order b 0 == some Ordering.lt)=neg)(hS:S=if e=0 then f else f+4503599627370496):
  Calls Tryz.prog 168 #[.float .f64 b] w (SplitTo w neg S (if e=0 then -1074 else -1074+((e:Int) - 1))):=by
 have hsz:=size_i hb;rw [hm] at hsz;have m1:=mask52_u64 (x:=m) (by omega);rw [hff] at m1
 have m2:(m:Int) / 4503599627370496=(e:Int):=by omega
 have hf2:f<4503599627370496:=by omega
 have he2:e<2047:=by omega
 have hge:¬ (9218868437227405312:Int)≤(m:Int):=by omega
 have hor:=or_join' (i:=52) (x:=1) (y:=f) (by omega) (by omega) (by omega);rw [show ((1*2^52:Nat):Int)=4503599627370496 from rfl,show (f+1*2^52:Nat)=f+4503599627370496 from rfl] at hor;have HF0:=format_any
 obtain⟨I,hI⟩:∃ I:Int,I=9218868437227405312:=⟨_,rfl⟩
 rw [← hI] at HF0 hge;have HF:=Hd HF0;clear hI HF0
 have HP:=Hd fun W=>(pattern_any b W).mono (R':=fun e w'=>e=.returned (.int .u64 (b:Int))∧w'=W) fun _ _ h=>⟨h.1,h.2.symm⟩
 obtain⟨bi,hbi⟩:∃ z:Int,z=(b:Int):=⟨_,rfl⟩
 rw [← hbi] at hsz HP;clear hff he hb hm hbi hm2
 by_cases h0:e=0
 ·subst h0;rw [if_pos rfl] at hS ⊢;subst hS;rw [show ((0:Nat):Int)=0 from rfl] at m2;clear hor he2
  go_enter Tryz.func168,Tryz.ntmps168
  go_wp2_with fail;refine (HF.out _).mono ?_;rintro e' w1 ⟨rfl,hb1⟩;have LB1:=Hd (hb1.alloc hb1.size (.cells #[.int .i64 52,.int .i64 (-1074),.int .i64 971,.int .u64 I,.int .u64 9223372036854775808] 185));clear hb1 HF;go_wp2_with fail
  go_quiet ((first | (go_at_call 218;exact Calls.quiet_of_same (HP.out _))))
  have LB2:=Hd (below_drewN LB1.out nq);have BK2:=Hd ((Blk.new w1 185 #[.int .i64 52,.int .i64 (-1074),.int .i64 971,.int .u64 I,.int .u64 9223372036854775808]).drewN nq)
  obtain⟨g,hg⟩:∃ g,w1.heap.size=g:=⟨_,rfl⟩
  rw [hg] at BK2
  obtain⟨W2,hW2⟩:∃ W,(w1.alloc (.cells #[.int .i64 52,.int .i64 (-1074),.int .i64 971,.int .u64 I,.int .u64 9223372036854775808] 185)).drewN nq=W:=⟨_,rfl⟩
  rw [hW2] at LB2 BK2;rw [hg,hW2];clear hg hW2 LB1 HP hsz;have q0:=BK2.out.cell 0;have q1:=BK2.out.cell 1;have q3:=BK2.out.cell 3
  simp at q0 q1 q3
  go_wp2_with fail
  go_quiet (fail)
  obtain⟨nr,hnr⟩:∃ n,nq=n:=⟨_,rfl⟩
  clear q0 q1 q3 m1;have LB3:=Hd (below_drewN LB2.out nq);have BK3:=Hd (BK2.out.drewN nq)
  obtain⟨W3,hW3⟩:∃ W,W2.drewN nq=W:=⟨_,rfl⟩
  rw [hW3] at LB3 BK3;rw [hW3];clear hW3 LB2 BK2 hnr;have q0:=BK3.out.cell 0
  simp at q0
  go_wp2;refine bodyPost_ret (v:=.tuple #[.bool neg,.int .u64 (S:Int),.int .i64 (-1074),.bool true]) (by simp [results,Tryz.results168,go_sem]) rfl ?_
  exact⟨rfl,LB3.out⟩
 ·rw [if_neg h0] at hS ⊢
  obtain⟨S',hS'⟩:∃ z,f+4503599627370496=z:=⟨_,rfl⟩
  rw [hS'] at hS hor;subst hS
  have hei:(0:Int)<(e:Int):=by omega
  clear h0 hS'
  go_enter Tryz.func168,Tryz.ntmps168
  go_wp2_with fail;refine (HF.out _).mono ?_;rintro e' w1 ⟨rfl,hb1⟩;have LB1:=Hd (hb1.alloc hb1.size (.cells #[.int .i64 52,.int .i64 (-1074),.int .i64 971,.int .u64 I,.int .u64 9223372036854775808] 185));clear hb1 HF;go_wp2_with fail
  go_quiet ((first | (go_at_call 218;exact Calls.quiet_of_same (HP.out _))))
  have LB2:=Hd (below_drewN LB1.out nq);have BK2:=Hd ((Blk.new w1 185 #[.int .i64 52,.int .i64 (-1074),.int .i64 971,.int .u64 I,.int .u64 9223372036854775808]).drewN nq)
  obtain⟨g,hg⟩:∃ g,w1.heap.size=g:=⟨_,rfl⟩
  rw [hg] at BK2
  obtain⟨W2,hW2⟩:∃ W,(w1.alloc (.cells #[.int .i64 52,.int .i64 (-1074),.int .i64 971,.int .u64 I,.int .u64 9223372036854775808] 185)).drewN nq=W:=⟨_,rfl⟩
  rw [hW2] at LB2 BK2;rw [hg,hW2];clear hg hW2 LB1 HP hsz;have q0:=BK2.out.cell 0;have q1:=BK2.out.cell 1;have q3:=BK2.out.cell 3
  simp at q0 q1 q3
  go_wp2_with fail
  go_quiet (fail)
  obtain⟨nr,hnr⟩:∃ n,nq=n:=⟨_,rfl⟩
  clear q0 q1 q3 m1;have LB3:=Hd (below_drewN LB2.out nq);have BK3:=Hd (BK2.out.drewN nq)
  obtain⟨W3,hW3⟩:∃ W,W2.drewN nq=W:=⟨_,rfl⟩
  rw [hW3] at LB3 BK3;rw [hW3];clear hW3 LB2 BK2 hnr;have q0:=BK3.out.cell 0
  simp at q0
  go_wp2;refine bodyPost_ret (v:=.tuple #[.bool neg,.int .u64 (S:Int),.int .i64 (-1074+((e:Int) - 1)),.bool true]) (by simp [results,Tryz.results168,go_sem]) rfl ?_
  exact⟨rfl,LB3.out⟩
theorem split_any(b:Nat)(hb:b<18446744073709551616)(hf:fin b):∃ (S:Nat) (x:Int),S<9007199254740992∧-1074≤x∧x≤971∧fl (idx b)=rv (decide (idx b<0)) S 1*2^x∧∀ w,Calls Tryz.prog 168 #[.float .f64 b] w (SplitTo w (decide (idx b<0)) S x):=by
 have hr:rungOf b≤M:=Nat.le_of_lt hf;have hM:M=9218868437227405312:=rfl;have hm2:rungOf b<9218868437227405312:=hf;have hp:=fl_parts (b:=b) hf rfl rfl rfl;have hc:=pat_cases hb
 have e1:rungOf b / 4503599627370496=b / 4503599627370496 % 2048:=by omega
 have e2:rungOf b % 4503599627370496=b % 4503599627370496:=by omega
 have hn:(FloatKind.f64.format.order b 0 == some Ordering.lt)=decide (idx b<0):=by
  rcases Int.lt_trichotomy (idx b) 0 with h | h | h
  ·rw [ord_lt hr real_zero (by rw [idx_zero];exact h),decide_eq_true h];rfl
  ·rw [ord_eq hr real_zero (by rw [idx_zero];exact h),decide_eq_false (by omega)];rfl
  ·rw [ord_gt hr real_zero (by rw [idx_zero];exact h),decide_eq_false (by omega)];rfl
 refine⟨_,_,?_,?_,?_,?_,fun w=>split_walk b _ _ _ _ _ w hb rfl hm2 e1 e2 hn rfl⟩
 ·split<;>omega
 ·split<;>omega
 ·split<;>omega
 ·have hs:∀ (S:Nat) (x:Int),(S=0∨sgn b=decide (idx b<0))→rv (sgn b) S 1*2^x=rv (decide (idx b<0)) S 1*2^x:=by
   rintro S x (rfl | h)
   ·rw [rv_zero,rv_zero]
   ·rw [h]
  have hsd:rungOf b=0∨sgn b=decide (idx b<0):=by
   rcases hc with ⟨a,h1,h2,h3⟩ | ⟨a,h1,h2,h3⟩
   ·right;rw [h2,decide_eq_false (by omega)]
   ·by_cases h0:rungOf b=0
    ·exact .inl h0
    ·right;rw [h2,decide_eq_true (by omega)]
  by_cases h0:b / 4503599627370496 % 2048=0
  ·rw [if_pos h0,if_pos h0,← hs _ _ (hsd.imp (fun h=>by omega) id)];have:=hp.2.2.2 h0;rw [this,h0];rfl
  ·rw [if_neg h0,if_neg h0,← hs _ _ (hsd.imp (fun h=>by omega) id)];rw [hp.2.2.1 (by omega)]
   congr 2;omega
end Go.Proofs.YthlmlmfebpjgdaaGreatDoor
