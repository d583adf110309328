/-
Walks: math.Nextafter; package round, nudge.
Walks: math.Ldexp of a whole number below 2^53 and an exponent at which it is a float.
Walks: package nat, down, Shr.
Walks: package round, beyond, of.
Plain: the digits of a quotient; what is too small for the least number.
-/
import Derived.Test.YthlmlmfebpjgdaaGreatDoorPMathT
import Derived.Test.YthlmlmfebpjgdaaGreatDoorPGoA
import Derived.Test.YthlmlmfebpjgdaaGreatDoorM02
import Derived.Laws.FloatArith
import Derived.Laws.Bits128
import Derived.Test.YthlmlmfebpjgdaaGreatDoorM11
import Derived.Outline
import Derived.Deep.DeepCutAuto
import Derived.Deep.CutBlock
import Derived.Test.YthlmlmfebpjgdaaGreatDoorM07
set_option linter.unusedSimpArgs false
set_option linter.unusedVariables false
set_option maxHeartbeats 12800000
namespace Go.Proofs.YthlmlmfebpjgdaaGreatDoor
open Go.RowKit
attribute [local go_sem] run_store_float run_frombits run_bitsof run_negf
theorem next_up(s:Nat)(w:World)(hs:s<18446744073709551616)(hf:rungOf s<M):Calls Tryz.prog 227 #[.float .f64 s,.float .f64 9218868437227405312] w (NextTo w (idx s+1)):=by
 have hM:M=9218868437227405312:=rfl
 have hr:rungOf s≤M:=by omega
 have hc:=pat_cases hs;have hb:=idx_bounds hr;have N1:=Hd (isnanf s w hr);have N2:=Hd (isnanf 9218868437227405312 w real_max);have o1:=ord_lt hr real_max (by rw [idx_max];omega);have o2:=ord_gt real_max hr (by rw [idx_max];omega)
 rcases Int.lt_trichotomy (idx s) 0 with h | h | h
 ·have o3:=ord_lt hr real_zero (by rw [idx_zero];exact h);have hc2:=pat_cases (b:=s - 1) (by omega);have H:=Hd (show s - 1<18446744073709551616∧rungOf (s - 1)≤M∧idx (s - 1)=idx s+1 from by omega)
  have e1:(s:Int) - 1=((s - 1:Nat):Int):=by omega
  have f1:∀ W:World,(callFunc 74 #[.int .u64 ((s:Int) - 1)]).run Tryz.prog W=.ok (.value (.float .f64 (s - 1))) W:=fun W=>by rw [e1];exact run_frombits (s - 1) W
  have b1:0≤(s:Int) - 1∧(s:Int) - 1<18446744073709551616:=by omega
  clear hc hc2 hb h hM e1 hr hf
  go_enter Tryz.func227,Tryz.ntmps227
  go_wp2_with fail;refine N1.out.mono ?_;rintro e w' ⟨rfl,rfl⟩;go_wp2_with fail;refine N2.out.mono ?_;rintro e w' ⟨rfl,rfl⟩;go_wp2
  go_ret
  exact⟨_,rfl,H.out.1,H.out.2.1,H.out.2.2,rfl⟩
 ·have o3:=ord_eq hr real_zero (by rw [idx_zero];exact h);have HC:=Hd (copy_pos w);have f1:∀ W:World,(callFunc 74 #[.int .u64 1]).run Tryz.prog W=.ok (.value (.float .f64 1)) W:=fun W=>run_frombits 1 W;have H:=Hd (show rungOf 1≤M∧idx 1=idx s+1 from⟨by decide,by rw [h];decide⟩);clear hc hb h hM hr hf
  go_enter Tryz.func227,Tryz.ntmps227
  go_wp2_with fail;refine N1.out.mono ?_;rintro e w' ⟨rfl,rfl⟩;go_wp2_with fail;refine N2.out.mono ?_;rintro e w' ⟨rfl,rfl⟩;go_wp2_with fail;refine HC.out.mono ?_;rintro e w' ⟨rfl,rfl⟩;go_wp2
  go_ret
  exact⟨_,rfl,by decide,H.out.1,H.out.2,rfl⟩
 ·have o3:=ord_gt hr real_zero (by rw [idx_zero];exact h);have hc2:=pat_cases (b:=s+1) (by omega);have H:=Hd (show s+1<18446744073709551616∧rungOf (s+1)≤M∧idx (s+1)=idx s+1 from by omega)
  have e1:(s:Int)+1=((s+1:Nat):Int):=by omega
  have f1:∀ W:World,(callFunc 74 #[.int .u64 ((s:Int)+1)]).run Tryz.prog W=.ok (.value (.float .f64 (s+1))) W:=fun W=>by rw [e1];exact run_frombits (s+1) W
  have b1:0≤(s:Int)+1∧(s:Int)+1<18446744073709551616:=by omega
  clear hc hc2 hb h hM e1 hr hf
  go_enter Tryz.func227,Tryz.ntmps227
  go_wp2_with fail;refine N1.out.mono ?_;rintro e w' ⟨rfl,rfl⟩;go_wp2_with fail;refine N2.out.mono ?_;rintro e w' ⟨rfl,rfl⟩;go_wp2
  go_ret
  exact⟨_,rfl,H.out.1,H.out.2.1,H.out.2.2,rfl⟩
theorem next_down(s:Nat)(w:World)(hs:s<18446744073709551616)(hf:rungOf s<M):Calls Tryz.prog 227 #[.float .f64 s,.float .f64 18442240474082181120] w (NextTo w (idx s - 1)):=by
 have hM:M=9218868437227405312:=rfl
 have hr:rungOf s≤M:=by omega
 have hc:=pat_cases hs;have hb:=idx_bounds hr;have N1:=Hd (isnanf s w hr);have N2:=Hd (isnanf 18442240474082181120 w real_min);have o1:=ord_gt hr real_min (by rw [idx_min];omega);have o2:=ord_lt real_min hr (by rw [idx_min];omega)
 rcases Int.lt_trichotomy (idx s) 0 with h | h | h
 ·have o3:=ord_lt hr real_zero (by rw [idx_zero];exact h);have hc2:=pat_cases (b:=s+1) (by omega);have H:=Hd (show s+1<18446744073709551616∧rungOf (s+1)≤M∧idx (s+1)=idx s - 1 from by omega)
  have e1:(s:Int)+1=((s+1:Nat):Int):=by omega
  have f1:∀ W:World,(callFunc 74 #[.int .u64 ((s:Int)+1)]).run Tryz.prog W=.ok (.value (.float .f64 (s+1))) W:=fun W=>by rw [e1];exact run_frombits (s+1) W
  have b1:0≤(s:Int)+1∧(s:Int)+1<18446744073709551616:=by omega
  clear hc hc2 hb h hM e1 hr hf
  go_enter Tryz.func227,Tryz.ntmps227
  go_wp2_with fail;refine N1.out.mono ?_;rintro e w' ⟨rfl,rfl⟩;go_wp2_with fail;refine N2.out.mono ?_;rintro e w' ⟨rfl,rfl⟩;go_wp2
  go_ret
  exact⟨_,rfl,H.out.1,H.out.2.1,H.out.2.2,rfl⟩
 ·have o3:=ord_eq hr real_zero (by rw [idx_zero];exact h);have HC:=Hd (copy_neg w);have f1:∀ W:World,(callFunc 74 #[.int .u64 1]).run Tryz.prog W=.ok (.value (.float .f64 1)) W:=fun W=>run_frombits 1 W;have H:=Hd (show rungOf 9223372036854775809≤M∧idx 9223372036854775809=idx s - 1 from⟨by decide,by rw [h];decide⟩);clear hc hb h hM hr hf
  go_enter Tryz.func227,Tryz.ntmps227
  go_wp2_with fail;refine N1.out.mono ?_;rintro e w' ⟨rfl,rfl⟩;go_wp2_with fail;refine N2.out.mono ?_;rintro e w' ⟨rfl,rfl⟩;go_wp2_with fail;refine HC.out.mono ?_;rintro e w' ⟨rfl,rfl⟩;go_wp2
  go_ret
  exact⟨_,rfl,by decide,H.out.1,H.out.2,rfl⟩
 ·have o3:=ord_gt hr real_zero (by rw [idx_zero];exact h);have hc2:=pat_cases (b:=s - 1) (by omega);have H:=Hd (show s - 1<18446744073709551616∧rungOf (s - 1)≤M∧idx (s - 1)=idx s - 1 from by omega)
  have e1:(s:Int) - 1=((s - 1:Nat):Int):=by omega
  have f1:∀ W:World,(callFunc 74 #[.int .u64 ((s:Int) - 1)]).run Tryz.prog W=.ok (.value (.float .f64 (s - 1))) W:=fun W=>by rw [e1];exact run_frombits (s - 1) W
  have b1:0≤(s:Int) - 1∧(s:Int) - 1<18446744073709551616:=by omega
  clear hc hc2 hb h hM e1 hr hf
  go_enter Tryz.func227,Tryz.ntmps227
  go_wp2_with fail;refine N1.out.mono ?_;rintro e w' ⟨rfl,rfl⟩;go_wp2_with fail;refine N2.out.mono ?_;rintro e w' ⟨rfl,rfl⟩;go_wp2
  go_ret
  exact⟨_,rfl,H.out.1,H.out.2.1,H.out.2.2,rfl⟩
def nud(d k e:Int):Int:=if d=-1∧e<0 then k - 1 else if d=1∧0<e then k+1 else k
theorem nudge_any(d:Int)(s e:Nat)(w:World)(hd:d=-1∨d=1)(hs:s<18446744073709551616)(hf:rungOf s<M)(he:rungOf e≤M):
  Calls Tryz.prog 186 #[.int .i64 d,.float .f64 s,.float .f64 e] w fun e' w'=>e'=.returned (.float .f64 (pat (nud d (idx s) (idx e))))∧w=w':=by
 have H1:=Hd (inf_pos w);have H2:=Hd (inf_neg w);have HU:=Hd (next_up s w hs hf);have HD:=Hd (next_down s w hs hf);have HP:=Hd (rplain s w hs (by omega))
 have ho:(idx e<0∧FloatKind.f64.format.order e 0=some .lt)∨(idx e=0∧FloatKind.f64.format.order e 0=some .eq)∨(0<idx e∧FloatKind.f64.format.order e 0=some .gt):=by
  rcases Int.lt_trichotomy (idx e) 0 with h1 | h1 | h1
  ·exact .inl ⟨h1,ord_lt he real_zero (by rw [idx_zero];exact h1)⟩
  ·exact .inr (.inl ⟨h1,ord_eq he real_zero (by rw [idx_zero];exact h1)⟩)
  ·exact .inr (.inr ⟨h1,ord_gt he real_zero (by rw [idx_zero];exact h1)⟩)
 unfold nud;clear he hs hf
 rcases hd with rfl | rfl<;>rcases ho with ⟨h,o1⟩ | ⟨h,o1⟩ | ⟨h,o1⟩
 ·rw [if_pos ⟨rfl,h⟩];clear h
  go_enter Tryz.func186,Tryz.ntmps186
  go_wp2_with fail;refine H2.out.mono ?_;rintro e' w' ⟨rfl,rfl⟩;go_wp2_with fail;refine HD.out.mono ?_;rintro e' w' ⟨r,rfl,r1,r2,r3,rfl⟩;have HQ:=Hd (rplain r w r1 r2);rw [r3] at HQ;clear r1 r2 r3;go_wp2_with fail;refine HQ.out.mono ?_;rintro e' w' ⟨rfl,rfl⟩;go_wp2
  go_ret
  exact⟨rfl,rfl⟩
 ·rw [if_neg (by omega),if_neg (by omega)];clear h
  go_enter Tryz.func186,Tryz.ntmps186
  go_wp2_with fail;refine HP.out.mono ?_;rintro e' w' ⟨rfl,rfl⟩;go_wp2
  go_ret
  exact⟨rfl,rfl⟩
 ·rw [if_neg (by omega),if_neg (by omega)];clear h
  go_enter Tryz.func186,Tryz.ntmps186
  go_wp2_with fail;refine HP.out.mono ?_;rintro e' w' ⟨rfl,rfl⟩;go_wp2
  go_ret
  exact⟨rfl,rfl⟩
 ·rw [if_neg (by omega),if_neg (by omega)];clear h
  go_enter Tryz.func186,Tryz.ntmps186
  go_wp2_with fail;refine HP.out.mono ?_;rintro e' w' ⟨rfl,rfl⟩;go_wp2
  go_ret
  exact⟨rfl,rfl⟩
 ·rw [if_neg (by omega),if_neg (by omega)];clear h
  go_enter Tryz.func186,Tryz.ntmps186
  go_wp2_with fail;refine HP.out.mono ?_;rintro e' w' ⟨rfl,rfl⟩;go_wp2
  go_ret
  exact⟨rfl,rfl⟩
 ·rw [if_neg (by omega),if_pos ⟨rfl,h⟩];clear h
  go_enter Tryz.func186,Tryz.ntmps186
  go_wp2_with fail;refine H1.out.mono ?_;rintro e' w' ⟨rfl,rfl⟩;go_wp2_with fail;refine HU.out.mono ?_;rintro e' w' ⟨r,rfl,r1,r2,r3,rfl⟩;have HQ:=Hd (rplain r w r1 r2);rw [r3] at HQ;clear r1 r2 r3;go_wp2_with fail;refine HQ.out.mono ?_;rintro e' w' ⟨rfl,rfl⟩;go_wp2
  go_ret
  exact⟨rfl,rfl⟩
end Go.Proofs.YthlmlmfebpjgdaaGreatDoor
namespace Go.Proofs.YthlmlmfebpjgdaaGreatDoor
open Go.RowKit Ieee
attribute [local go_sem] run_store_float run_frombits run_bitsof run_negf
theorem and_frac{a:Nat}(ha:a<9223372036854775808):bits .andNot .u64 (a:Int) 9218868437227405312=((a % 4503599627370496:Nat):Int):=by
 have h:=u64_andNot_nat a 9218868437227405312 (by omega) (by omega)
 have e:a &&& (18446744073709551615 - 9218868437227405312)=a % 4503599627370496:=by
  have e1:(18446744073709551615 - 9218868437227405312:Nat)=2^63 ||| (2^52 - 1):=by decide
  rw [e1]
  apply Nat.eq_of_testBit_eq
  intro i;rw [Nat.testBit_and,Nat.testBit_or,Nat.testBit_two_pow,Nat.testBit_two_pow_sub_one,show (4503599627370496:Nat)=2^52 from rfl,Nat.testBit_mod_two_pow]
  by_cases h1:i<52
  ·have h2:¬ 63=i:=by omega
   simp [h1,h2]
  ·by_cases h2:63=i
   ·subst h2;have h3:a.testBit 63=false:=Nat.testBit_lt_two_pow (by omega)
    simp [h3]
   ·simp [h1,h2]
 rw [e] at h
 exact h
theorem i64_and2047{n:Nat}(hn:n<2048):bits .and .i64 (n:Int) 2047=(n:Int):=by
 have h1:(BitVec.ofInt 64 2047).toNat=2 ^ 11 - 1:=by decide
 have key:(BitVec.ofInt 64 (n:Int) &&& BitVec.ofInt 64 2047).toNat=((n:Int) % ((2 ^ 64:Nat):Int)).toNat % 2 ^ 11:=by
  rw [BitVec.toNat_and,BitVec.toNat_ofInt,h1,Nat.and_two_pow_sub_one_eq_mod]
 show IntKind.i64.wrap ((BitVec.ofInt 64 (n:Int) &&& BitVec.ofInt 64 2047).toNat:Nat)=(n:Int)
 rw [key,IntKind.wrap_i64]
 omega
theorem float_of_nat{s r:Nat}(h:mag r=s*2^1074)(hr:r≤M):floatOfInt .f64 (s:Int)=r:=by
 have h1:floatOfInt .f64 (s:Int)=double.nearest false s 0:=by
  show FloatKind.f64.nearest (s:Int)=_
  unfold FloatKind.nearest FloatKind.encode;have:decide ((s:Int)<0)=false:=decide_eq_false (by omega);rw [this,Int.natAbs_natCast]
  exact write_num false s 0
 have h2:=nearest_high false s 1074;rw [show (-1074:Int)+((1074:Nat):Int)=0 from rfl] at h2;rw [h1,h2,← h,word_false];have h3:=nearRung_mag r 0;rw [Nat.pow_zero,Nat.mul_one] at h3;rw [h3];omega
theorem float_of_zero:floatOfInt .f64 ((0:Nat):Int)=0:=by
 obtain⟨U,hU⟩:∃ U,U=1074:=⟨_,rfl⟩
 have h:=float_of_nat (s:=0) (r:=0);rw [← hU,mag_zero,Nat.zero_mul] at h
 exact h rfl (Nat.zero_le _)
theorem float_of_shift{s r j J:Nat}(h:mag r=s*2^j*2^J)(hj:j+J=1074)(hr:r≤M):floatOfInt .f64 (s:Int)=r:=by
 refine float_of_nat ?_ hr;rw [h,Nat.mul_assoc,← Nat.pow_add,hj]
theorem mul_bits{x y k:Nat}(hx:fin x)(hy:fin y)(hk:near (val (idx x)*val (idx y)) 1074=(k:Int))(hk0:0<k):floatBits .mul .f64 x y=some k:=by
 obtain⟨r,h1,h2⟩:=mul_fin hx hy;rw [hk] at h2;have h3:=pat_cases h2.lt;have h4:=h2.idx
 have:r=k:=by omega
 subst this
 exact h1
theorem val_two_pow{t U:Nat}{k:Int}(hk:k=(((t+1)*2^52:Nat):Int))(hU:U=52+t):val k=(2:Int)^U:=by
 subst hk hU;rw [val_nat,mag_two_pow,← Nat.pow_add,Int.natCast_pow];rfl
theorem pow_join_nat{s A B C:Nat}(h:A+B=C):s*2^A*2^B=s*2^C:=by rw [Nat.mul_assoc,← Nat.pow_add,h]
theorem pow_join{s A B C:Nat}(h:A+B=C):(2:Int)^A*((s*2^B:Nat):Int)=(s:Int)*2^C:=by
 rw [Int.natCast_mul,Int.natCast_pow,← h,Int.pow_add];have:((2:Nat):Int)=2:=rfl;rw [this];ac_rfl
def LdPre(r F m:Nat):Prop:=r=F*4503599627370496+m∧m<4503599627370496∧1≤F∧F≤2046
theorem ldexp_norm(r F m X:Nat)(e:Int)(w:World)(h:LdPre r F m)(he:-5000≤e∧e≤5000)(hX:(X:Int)=e+F)(h1:1≤X)(h2:X≤2046):
  Calls Tryz.prog 256 #[.float .f64 r,.int .i64 e] w fun e' w'=>e'=.returned (.float .f64 (X*4503599627370496+m))∧w=w':=by
 obtain⟨hr,hm,hF1,hF2⟩:=h;have hM:M=9218868437227405312:=rfl
 have hb:r<18446744073709551616:=by omega
 have hrr:=rung_idx (b:=r) (by omega)
 have hfr:rungOf r<M:=by omega
 have HN:=Hd (isnanf r w (by omega));have HI:=Hd (isinff r w hb (by omega));rw [decide_eq_false (by omega)] at HI;have HA:=Hd (abs_any r w hb);rw [hrr.1] at HA;have o1:=ord_gt (a:=r) (b:=0) (by omega) real_zero (by rw [idx_zero];omega);have hn1:=rung_idx (b:=4503599627370496) (by omega)
 have o2:FloatKind.f64.format.order r 4503599627370496=some .gt∨FloatKind.f64.format.order r 4503599627370496=some .eq:=by
  by_cases h3:r=4503599627370496
  ·exact .inr (ord_eq (by omega) (by omega) (by omega))
  ·exact .inl (ord_gt (by omega) (by omega) (by omega))
 have b1:(r:Int) / 4503599627370496=(F:Int):=by omega
 have b2:=i64_and2047 (n:=F) (by omega);have b3:=and_frac (a:=r) (by omega);rw [show r % 4503599627370496=m from by omega] at b3;have b4:=or_join' (i:=52) (x:=X) (y:=m) (by omega) (by omega) (by omega);rw [show (2:Nat)^52=4503599627370496 from rfl,show ((X*4503599627370496:Nat):Int)=(X:Int)*4503599627370496 from by omega] at b4
 obtain⟨x,hx⟩:∃ x,m+X*4503599627370496=x:=⟨_,rfl⟩
 rw [show X*4503599627370496+m=x from by omega];rw [hx] at b4;have hxr:=rung_idx (b:=x) (by omega)
 have hmul:floatBits .mul .f64 4607182418800017408 x=some x:=by
  have i1:idx 4607182418800017408=4607182418800017408:=by decide
  have v1:val 4607182418800017408=(2:Int)^1074:=val_two_pow (t:=1022) (by decide) (by decide);refine mul_bits (by show rungOf _<M;decide) (by show rungOf _<M;omega) ?_ (by omega);rw [i1,v1,hxr.2,Int.mul_comm,near_val (by omega) (by omega)]
 have HM:=fun W=>run_float_arith (P:=Tryz.prog) W .mul 26 .f64 _ _ _ hmul;have ff:=fun W=>run_frombits x W;have eX:e+(F:Int)=(X:Int):=hX.symm
 have e1:e+((F:Int) - 1023)=(X:Int) - 1023:=by omega
 clear hmul hxr hx hr hrr hn1 hfr hb eX hX
 rcases o2 with o2 | o2
 all_goals
  go_enter Tryz.func256,Tryz.ntmps256
  go_wp2_with (first | (go_at_call 161;refine HI.out.mono ?_;rintro e w' ⟨rfl,rfl⟩) | (go_at_call 221;refine HN.out.mono ?_;rintro e w' ⟨rfl,rfl⟩) | (go_at_call 117;refine HA.out.mono ?_;rintro e w' ⟨rfl,rfl⟩) | go_in)
  go_ret
  exact⟨rfl,rfl⟩
theorem ldexp_over(r F m:Nat)(e:Int)(w:World)(h:LdPre r F m)(he:-5000≤e∧e≤5000)(hX:2046<e+F):
  Calls Tryz.prog 256 #[.float .f64 r,.int .i64 e] w fun e' w'=>e'=.returned (.float .f64 9218868437227405312)∧w=w':=by
 obtain⟨hr,hm,hF1,hF2⟩:=h;have hM:M=9218868437227405312:=rfl
 have hb:r<18446744073709551616:=by omega
 have hrr:=rung_idx (b:=r) (by omega)
 have hfr:rungOf r<M:=by omega
 have HN:=Hd (isnanf r w (by omega));have HI:=Hd (isinff r w hb (by omega));rw [decide_eq_false (by omega)] at HI;have HA:=Hd (abs_any r w hb);rw [hrr.1] at HA;have o1:=ord_gt (a:=r) (b:=0) (by omega) real_zero (by rw [idx_zero];omega);have hn1:=rung_idx (b:=4503599627370496) (by omega)
 have o2:FloatKind.f64.format.order r 4503599627370496=some .gt∨FloatKind.f64.format.order r 4503599627370496=some .eq:=by
  by_cases h3:r=4503599627370496
  ·exact .inr (ord_eq (by omega) (by omega) (by omega))
  ·exact .inl (ord_gt (by omega) (by omega) (by omega))
 have b1:(r:Int) / 4503599627370496=(F:Int):=by omega
 have b2:=i64_and2047 (n:=F) (by omega);have b3:=and_frac (a:=r) (by omega);rw [show r % 4503599627370496=m from by omega] at b3;have HP:=Hd (inf_pos w);have o3:=ord_gt (a:=r) (b:=0) (by omega) real_zero (by rw [idx_zero];omega)
 obtain⟨X,hX2⟩:∃ X:Int,e+(F:Int)=X:=⟨_,rfl⟩
 have e1:e+((F:Int) - 1023)=X - 1023:=by omega
 have hX3:1023<X - 1023:=by omega
 have hX4:X≤7046:=by omega
 clear hr hrr hn1 hfr hb hX hX2
 rcases o2 with o2 | o2
 all_goals
  go_enter Tryz.func256,Tryz.ntmps256
  go_wp2_with (first | (go_at_call 161;refine HI.out.mono ?_;rintro e w' ⟨rfl,rfl⟩) | (go_at_call 221;refine HN.out.mono ?_;rintro e w' ⟨rfl,rfl⟩) | (go_at_call 19;refine HP.out.mono ?_;rintro e w' ⟨rfl,rfl⟩) | (go_at_call 117;refine HA.out.mono ?_;rintro e w' ⟨rfl,rfl⟩) | go_in)
  go_ret
  exact⟨rfl,rfl⟩
theorem ldexp_den(r F m k s:Nat)(e:Int)(w:World)(h:LdPre r F m)(he:-5000≤e∧e≤5000)(hX:e+F=-(k:Int))(hk:k≤52)(hs:(4503599627370496+m)*2^(52 - k)=s*2^53)(hs0:0<s)(hs1:s<4503599627370496):
  Calls Tryz.prog 256 #[.float .f64 r,.int .i64 e] w fun e' w'=>e'=.returned (.float .f64 s)∧w=w':=by
 obtain⟨hr,hm,hF1,hF2⟩:=h;have hM:M=9218868437227405312:=rfl
 have hb:r<18446744073709551616:=by omega
 have hrr:=rung_idx (b:=r) (by omega)
 have hfr:rungOf r<M:=by omega
 have HN:=Hd (isnanf r w (by omega));have HI:=Hd (isinff r w hb (by omega));rw [decide_eq_false (by omega)] at HI;have HA:=Hd (abs_any r w hb);rw [hrr.1] at HA;have o1:=ord_gt (a:=r) (b:=0) (by omega) real_zero (by rw [idx_zero];omega);have hn1:=rung_idx (b:=4503599627370496) (by omega)
 have o2:FloatKind.f64.format.order r 4503599627370496=some .gt∨FloatKind.f64.format.order r 4503599627370496=some .eq:=by
  by_cases h3:r=4503599627370496
  ·exact .inr (ord_eq (by omega) (by omega) (by omega))
  ·exact .inl (ord_gt (by omega) (by omega) (by omega))
 have b1:(r:Int) / 4503599627370496=(F:Int):=by omega
 have b2:=i64_and2047 (n:=F) (by omega);have b3:=and_frac (a:=r) (by omega);rw [show r % 4503599627370496=m from by omega] at b3
 obtain⟨Y,hY⟩:∃ Y,53 - k=Y:=⟨_,rfl⟩
 have b4:=or_join' (i:=52) (x:=Y) (y:=m) (by omega) (by omega) (by omega);rw [show (2:Nat)^52=4503599627370496 from rfl,show ((Y*4503599627370496:Nat):Int)=(Y:Int)*4503599627370496 from by omega] at b4
 obtain⟨x,hx⟩:∃ x,m+Y*4503599627370496=x:=⟨_,rfl⟩
 rw [hx] at b4;have hxr:=rung_idx (b:=x) (by omega)
 have hmul:floatBits .mul .f64 4368491638549381120 x=some s:=by
  have i1:idx 4368491638549381120=4368491638549381120:=by decide
  have v1:val 4368491638549381120=(2:Int)^1021:=val_two_pow (t:=969) (by decide) (by decide)
  have v2:mag x=s*2^53:=by
   have h6:=mag_form (52 - k) (4503599627370496+m) (.inr (by omega)) (by omega);rw [hs] at h6;rw [← h6];congr 1
   have:Y=52 - k+1:=by omega
   rw [← hx,this,Nat.add_mul,show (2:Nat)^52=4503599627370496 from rfl,Nat.one_mul];generalize (52 - k)*4503599627370496=P
   omega
  have v3:val (x:Int)=((s*2^53:Nat):Int):=by rw [val_nat,v2]
  refine mul_bits (by show rungOf _<M;decide) (by show rungOf _<M;omega) ?_ hs0;rw [i1,v1,hxr.2,v3,pow_join (s:=s) (A:=1021) (B:=53) (C:=1074) (by decide)]
  have h7:val (s:Int)=(s:Int):=by rw [val_nat,mag_small (show s<2^52 from hs1)]
  have h8:=near_val (i:=(s:Int)) (by omega) (by omega) 1074;rw [h7] at h8
  exact h8
 have HM:=fun W=>run_float_arith (P:=Tryz.prog) W .mul 26 .f64 _ _ _ hmul;have ff:=fun W=>run_frombits x W
 have e1:e+((F:Int) - 1023)=-(k:Int) - 1023:=by omega
 have e2:-(k:Int) - 1023+53+1023=(Y:Int):=by omega
 have e3:-(k:Int) - 1023 < -1022:=by omega
 have hY1:Y≤53:=by omega
 clear hmul hxr hx hr hrr hn1 hfr hb hX hY hs
 rcases o2 with o2 | o2
 all_goals
  go_enter Tryz.func256,Tryz.ntmps256
  go_wp2_with (first | (go_at_call 161;refine HI.out.mono ?_;rintro e w' ⟨rfl,rfl⟩) | (go_at_call 221;refine HN.out.mono ?_;rintro e w' ⟨rfl,rfl⟩) | (go_at_call 117;refine HA.out.mono ?_;rintro e w' ⟨rfl,rfl⟩) | go_in)
  go_ret
  exact⟨rfl,rfl⟩
theorem ldexp_zero(e:Int)(w:World):Calls Tryz.prog 256 #[.float .f64 0,.int .i64 e] w fun e' w'=>e'=.returned (.float .f64 0)∧w=w':=by
 have o1:=ord_eq (a:=0) (b:=0) real_zero real_zero rfl
 go_enter Tryz.func256,Tryz.ntmps256
 go_wp2
 go_ret
 exact⟨rfl,rfl⟩
theorem ldexp_any(s:Nat)(e:Int)(w:World)(hs:s≤9007199254740992)(he:-1074≤e∧e≤971)(hd:e=-1074∨4503599627370496≤s):
  Calls Tryz.prog 256 #[.float .f64 (floatOfInt .f64 (s:Int)),.int .i64 e] w fun e' w'=>e'=.returned (.float .f64 ((e+1074).toNat*4503599627370496+s))∧w=w':=by
 have hM:M=9218868437227405312:=rfl
 by_cases h1:4503599627370496≤s
 ·have hm:=mag_form 1074 s (.inr h1) hs;have hf:floatOfInt .f64 (s:Int)=1074*2^52+s:=float_of_nat hm (by omega);rw [hf,show (1074*2^52+s:Nat)=4836865999795912704+s from rfl]
  by_cases h2:s<9007199254740992
  ·have h:=ldexp_norm (4836865999795912704+s) 1075 (s - 4503599627370496) (e+1075).toNat e w ⟨by omega,by omega,by omega,by omega⟩ (by omega) (by omega) (by omega) (by omega)
   rw [show (e+1075).toNat*4503599627370496+(s - 4503599627370496)=(e+1074).toNat*4503599627370496+s from by
    rw [show (e+1075).toNat=(e+1074).toNat+1 from by omega,Nat.add_mul];omega] at h
   exact h
  ·obtain rfl:s=9007199254740992:=by omega
   by_cases h3:e=971
   ·subst h3
    exact ldexp_over (4836865999795912704+9007199254740992) 1076 0 971 w ⟨by omega,by omega,by omega,by omega⟩ (by omega) (by omega)
   ·have h:=ldexp_norm (4836865999795912704+9007199254740992) 1076 0 (e+1076).toNat e w ⟨by omega,by omega,by omega,by omega⟩ (by omega) (by omega) (by omega) (by omega)
    rw [show (e+1076).toNat*4503599627370496+0=(e+1074).toNat*4503599627370496+9007199254740992 from by
     rw [show (e+1076).toNat=(e+1074).toNat+2 from by omega,Nat.add_mul]] at h
    exact h
 ·obtain rfl:e=-1074:=by omega
  rw [show ((-1074:Int)+1074).toNat=0 from rfl,Nat.zero_mul,Nat.zero_add]
  rcases Nat.eq_zero_or_pos s with h0 | h0
  ·subst h0;rw [float_of_zero]
   exact ldexp_zero _ w
  ·obtain⟨L,b1,b2,b3⟩:=blen_bounds h0;have hL:L<52:=(Nat.pow_lt_pow_iff_right (a:=2) (by omega)).1 (Nat.lt_of_le_of_lt b2 (by omega))
   obtain⟨j,hj⟩:∃ j,L+j=52:=⟨52 - L,by omega⟩
   have c1:4503599627370496≤s*2^j:=by
    rw [show (4503599627370496:Nat)=2^(L+j) from by rw [hj],Nat.pow_add];exact Nat.mul_le_mul_right _ b2
   have c2:s*2^j<9007199254740992:=by
    rw [show (9007199254740992:Nat)=2^(L+1+j) from by rw [show L+1+j=53 from by omega],Nat.pow_add];exact Nat.mul_lt_mul_of_pos_right b3 (Nat.two_pow_pos j)
   have hm:=mag_form (1074 - j) (s*2^j) (.inr c1) (by omega);have hf:floatOfInt .f64 (s:Int)=(1074 - j)*2^52+s*2^j:=float_of_shift hm (show j+(1074 - j)=1074 by omega) (Nat.le_trans (Nat.add_le_add (Nat.mul_le_mul_right (k:=2^52) (show 1074 - j≤1074 by omega)) (Nat.le_of_lt c2)) (by rw [hM];decide));rw [hf];have hs3:s*2^j*2^(52 - (j - 1))=s*2^53:=pow_join_nat (by omega);refine ldexp_den _ (1075 - j) (s*2^j - 4503599627370496) (j - 1) s (-1074) w ⟨?_,by omega,by omega,by omega⟩ (by omega) (by omega) (by omega) ?_ h0 (by omega)
   ·rw [show 1075 - j=1074 - j+1 from by omega,Nat.add_mul,show (2:Nat)^52=4503599627370496 from rfl];omega
   ·rw [show 4503599627370496+(s*2^j - 4503599627370496)=s*2^j from by omega];exact hs3
end Go.Proofs.YthlmlmfebpjgdaaGreatDoor
namespace Go.Proofs.YthlmlmfebpjgdaaGreatDoor
open Go.RowKit
theorem low_mask{x s:Nat}(hx:x<4294967296)(hs:s<32):bits .and .u32 (x:Int) ((2^s - 1:Nat):Int)=((x % 2^s:Nat):Int):=by
 have h:=Nat.two_pow_pos s;have h2:2^s≤2^31:=Nat.pow_le_pow_right (by omega) (by omega);rw [u32_and_nat _ _ hx (by omega),Nat.and_two_pow_sub_one_eq_mod]
theorem U32s.dropped{w:World}{ad:Addr}{n c q:Nat}{xs:List Nat}(h:U32s w (some ad) n c xs)(hq:q<n):U32s w (some (ad.add q)) (n - q) (c - q) (xs.drop q):=
 ⟨by rw [List.length_drop,h.len],by have:=h.cap;omega,by have:=h.small;omega,h.w32.drop q,fun hn=>by
   obtain⟨ad',e,hb,hc⟩:=h.at_ (by omega)
   cases e
   refine⟨_,rfl,by rw [block_of_add];exact hb,fun j hj=>?_⟩
   rw [add_of_add,hc _ (by omega),List.getElem?_drop]⟩
def LostInv(us:List Nat)(q s i:Nat)(L:Bool):Prop:=L=decide (num (us.take i)+us[q]?.getD 0 % 2^s≠0)
theorem LostInv.step{us:List Nat}{q s i:Nat}(h:LostInv us q s i false){x:Nat}(hx:us[i]?.getD 0=x):LostInv us q s (i+1) (decide (x≠0)):=by
 unfold LostInv at *;have h1:=of_decide_eq_false h.symm
 have h2:num (us.take i)=0∧us[q]?.getD 0 % 2^s=0:=by omega
 rw [num_take_next,hx,h2.1,h2.2,Nat.zero_add,Nat.add_zero];have hp:=Nat.two_pow_pos (32*i)
 congr 1
 apply propext
 constructor
 ·intro h h3
  rcases Nat.mul_eq_zero.1 h3 with h4 | h4<;>omega
 ·intro h h3;exact h (by rw [h3,Nat.mul_zero])
theorem LostInv.more{us:List Nat}{q s i j:Nat}(h:LostInv us q s i true)(hj:i≤j):LostInv us q s j true:=by
 unfold LostInv at *;have h1:=of_decide_eq_true h.symm;refine (decide_eq_true ?_).symm;intro h2
 apply h1
 have e:=num_take_drop (us.take j) i;rw [List.take_take,Nat.min_eq_left hj] at e
 have h3:num (us.take j)=0:=by omega
 have h4:us[q]?.getD 0 % 2^s=0:=by omega
 rw [h3] at e
 omega
theorem LostInv.done{us:List Nat}{q s k:Nat}{L:Bool}(h:LostInv us q s q L)(hw:W32 us)(hs:s<32)(hk:k=32*q+s):L=decide (num us % 2^k≠0):=by
 unfold LostInv at h;rw [h,hk,right_lost hw q s hs];have hp:=Nat.two_pow_pos (32*q)
 congr 1
 apply propext
 constructor
 ·intro h h3
  apply h
  have h4:2^(32*q)*(us[q]?.getD 0 % 2^s)=0:=by omega
  rcases Nat.mul_eq_zero.1 h4 with h5 | h5<;>omega
 ·intro h h3
  apply h
  have h4:us[q]?.getD 0 % 2^s=0:=by omega
  rw [h4,Nat.mul_zero];omega
theorem down_any(A:Option Addr)(n c k:Nat)(xs:List Nat)(w:World)(hx:U32s w A n c xs)(hl:wlen xs≤16384)(hk:k≤1073741824):
  Calls Tryz.prog 270 #[.slice A n c,.int .i64 (k:Int)] w (NewU32B w (digs (num xs / 2^k)) (decide (num xs % 2^k≠0))):=by
 have HW:=Hd (nwords_any A n c xs w hx);have n1:=hx.small;have c1:=hx.cap;have l1:=wlen_le xs;rw [hx.len] at l1;have e1:=num_trim xs;rw [trim_eq_take] at e1;have h0:=wlen_eq_zero (l:=xs);have hlt:=num_lt_wlen hx.w32;have HX0:=hx.take l1
 obtain⟨p,hp⟩:∃ p,wlen xs=p:=⟨_,rfl⟩
 rw [hp] at HW l1 hl e1 HX0 h0 hlt
 obtain⟨us,hus⟩:∃ l,xs.take p=l:=⟨_,rfl⟩
 rw [hus] at e1 HX0;rw [← e1] at h0 hlt ⊢
 obtain⟨q,hq⟩:∃ q,k / 32=q:=⟨_,rfl⟩
 obtain⟨s,hs⟩:∃ s,k % 32=s:=⟨_,rfl⟩
 have d1:(k:Int) / 32=(q:Int):=by omega
 have d2:(k:Int) % 32=(s:Int):=by omega
 have ek:k=32*q+s:=by omega
 have hs1:s<32:=by omega
 have hq1:q≤1073741824:=by omega
 have HX:=Hd HX0;have EK:=Hd ek;have HLT:=Hd hlt;have H0:=Hd h0;clear hx hp hus e1 HX0 hq hs ek hlt h0
 by_cases hqp:p≤q
 ·have hz:num us / 2^k=0∧num us % 2^k=num us:=by
   have h1:num us<2^k:=Nat.lt_of_lt_of_le HLT.out (Nat.pow_le_pow_right (by omega) (by have:=EK.out;omega))
   exact⟨Nat.div_eq_of_lt h1,Nat.mod_eq_of_lt h1⟩
  rw [hz.1,hz.2,digs_zero]
  have hb:decide (num us≠0)=decide (0<p):=by
   congr 1
   apply propext
   have:=H0.out
   omega
  rw [hb];clear hz hb
  go_enter Tryz.func270,Tryz.ntmps270
  go_wp2_with fail
  go_step3
  go_wp2_with fail;refine HW.out.mono ?_;rintro e w' ⟨rfl,rfl⟩;go_wp2
  go_ret2
  exact⟨none,0,0,rfl,U32s.nil _ _ _,Below.refl _ _⟩
 ·obtain⟨LF,hLF⟩:∃ L,decide (num us % 2^k≠0)=L:=⟨_,rfl⟩
  rw [hLF];have HLF:=Hd hLF;clear hLF
  have hqp2:¬ (p:Int)≤(q:Int):=by omega
  obtain⟨ad,rfl,hc⟩:=HX.out.cell (j:=q) (by omega);have hx1:=HX.out.lt q
  obtain⟨x,hxx⟩:∃ r,us[q]?.getD 0=r:=⟨_,rfl⟩
  rw [hxx] at hc hx1;have hm:=low_mask hx1 hs1;have hp:=Nat.two_pow_pos s;have hp2:2^s≤2147483648:=Nat.pow_le_pow_right (n:=2) (by omega) (show s≤31 by omega)
  have hL0:LostInv us q s 0 (decide (x % 2^s≠0)):=by
   unfold LostInv;rw [hxx];simp [num]
  have e5:((2:Int)^s)=((2^s:Nat):Int):=by rw [Int.natCast_pow];rfl
  obtain⟨P,hP⟩:∃ P,2^s=P:=⟨_,rfl⟩
  rw [hP] at hm hp hp2 hL0 e5;rw [show ((P - 1:Nat):Int)=(P:Int) - 1 from by omega] at hm
  obtain⟨y,hy⟩:∃ y,x % P=y:=⟨_,rfl⟩
  rw [hy] at hm hL0
  have hw1:IntKind.u32.wrap ((P:Int) - 1)=(P:Int) - 1:=by rw [IntKind.wrap_u32];omega
  have HL0:=Hd hL0;clear hP hL0 hy
  have hi1:(q:Int)<(n:Int):=by omega
  have hi2:(q:Int)<(p:Int):=by omega
  clear hxx
  go_enter Tryz.func270,Tryz.ntmps270
  go_wp2_with fail
  go_step3
  go_wp2_with fail;refine HW.out.mono ?_;rintro e w' ⟨rfl,rfl⟩;go_wp2_with fail
  go_quiet (fail)
  obtain⟨L0,hL0⟩:∃ L,((y:Int) != 0)=L:=⟨_,rfl⟩
  have HLL:=Hd (show LostInv us q s 0 L0 from by
   have h1:=HL0.out;rw [← hL0]
   have e:decide (y≠0)=((y:Int) != 0):=by
    by_cases h0:y=0
    ·subst h0;rfl
    ·have h2:((y:Int) == 0)=false:=by simp;omega
     simp [h0,bne,h2]
   rwa [e] at h1)
  rw [hL0]
  obtain⟨w1,hw1⟩:∃ w1,w.drewN nq=w1:=⟨_,rfl⟩
  have HB1:=Hd (show Below w.heap.size w w1 from by rw [← hw1];exact below_drewN (Below.refl _ _) nq);rw [hw1];clear hL0 HL0 hm hw1 e5 hp2 hp hc hx1;go_wp2
  go_step3
  go_wp2
  go_loop [6,7,33,36,38] (fun lv _ iv _ _=>∃ (i:Nat) (L:Bool),iv=.int .i64 i∧lv=.bool L∧i≤q∧LostInv us q s i L) (fun _ _ iv _ _=>q - (intOf iv).toNat)
  case atStart=>exact⟨0,L0,rfl,rfl,Nat.zero_le _,HLL.out⟩
  case round=>
   obtain⟨i,L,rfl,rfl,hi,hinv⟩:=hrel;have HI:=Hd hinv;clear hinv HLL
   by_cases hlt:i<q
   ·cases L
    ·obtain⟨ad',e,hc⟩:=(HX.out.below HB1.out).cell (j:=i) (by omega)
     cases e
     obtain⟨x,hxx⟩:∃ r,us[i]?.getD 0=r:=⟨_,rfl⟩
     rw [hxx] at hc;have HST:=Hd (HI.out.step hxx)
     have hip:(i:Int)<(p:Int):=by omega
     clear hxx HI
     by_cases hx0:x=0
     ·subst hx0;go_wp2
      go_round
      case rel=>exact⟨i+1,false,by go_num,rfl,by omega,HST.out⟩
      case measure=>simp [intOf];omega
     ·have hq:((x:Int) != 0)=true:=by simp;omega
      go_wp2
      go_round
      case rel=>
       refine⟨i+1,true,by go_num,rfl,by omega,?_⟩;have:=HST.out
       rwa [decide_eq_true hx0] at this
      case measure=>simp [intOf];omega
    ·have HDN:=Hd ((HI.out.more (show i≤q by omega)).done HX.out.w32 hs1 EK.out);have HD:=Hd ((HX.out.below HB1.out).dropped (q:=q) (by omega));have HN:=Hd (nnorm_any _ _ _ _ _ HD.out)
     have hlen:(digs (num (us.drop q))).length≤16384:=by
      rw [← trim_eq_digs HD.out.w32];have h1:=wlen_le (us.drop q);rw [HD.out.len] at h1;have h2:wlen (us.drop q)=(trim (us.drop q)).length:=rfl
      omega
     have hval:num (us.drop q) / 2^s=num us / 2^k:=by
      rw [num_drop HX.out.w32,Nat.div_div_eq_div_mul,← Nat.pow_add,EK.out]
     have HLEN:=Hd hlen;have HVAL:=Hd hval;clear hlen hval;go_wp2_with fail;refine HN.out.mono ?_;rintro e w2 ⟨g,m,rfl,hm,hA,hg,hb⟩;have hbk:=back_any g m s _ w2 hA (W32.digs _) hm hs1 (by rw [← hm];have:=HLEN.out;omega);rw [num_digs,HVAL.out] at hbk;have HBK:=Hd hbk;have HB2:=Hd (HB1.out.trans (hb.mono HB1.out.size));have hg2:w.heap.size≤g:=Nat.le_trans HB1.out.size hg;clear hbk hb hm hA hg;go_wp2_with fail;refine HBK.out.mono ?_;rintro e w3 ⟨kk,rfl,hu,hgr⟩;have HU:=Hd hu;have HB3:=Hd (below_grown HB2.out hgr hg2 HB2.out.size);clear hu hgr;go_wp2
     try rw [Exit.noGoto_ret]
     go_ret2
     exact⟨_,kk,kk,by rw [← HLF.out,← HDN.out];rfl,HU.out,HB3.out⟩
   ·obtain rfl:i=q:=by omega
    have HDN:=Hd (HI.out.done HX.out.w32 hs1 EK.out);have HD:=Hd ((HX.out.below HB1.out).dropped (q:=i) (by omega));have HN:=Hd (nnorm_any _ _ _ _ _ HD.out)
    have hlen:(digs (num (us.drop i))).length≤16384:=by
     rw [← trim_eq_digs HD.out.w32];have h1:=wlen_le (us.drop i);rw [HD.out.len] at h1;have h2:wlen (us.drop i)=(trim (us.drop i)).length:=rfl
     omega
    have hval:num (us.drop i) / 2^s=num us / 2^k:=by
     rw [num_drop HX.out.w32,Nat.div_div_eq_div_mul,← Nat.pow_add,EK.out]
    have HLEN:=Hd hlen;have HVAL:=Hd hval;clear hlen hval;go_wp2_with fail;refine HN.out.mono ?_;rintro e w2 ⟨g,m,rfl,hm,hA,hg,hb⟩;have hbk:=back_any g m s _ w2 hA (W32.digs _) hm hs1 (by rw [← hm];have:=HLEN.out;omega);rw [num_digs,HVAL.out] at hbk;have HBK:=Hd hbk;have HB2:=Hd (HB1.out.trans (hb.mono HB1.out.size));have hg2:w.heap.size≤g:=Nat.le_trans HB1.out.size hg;clear hbk hb hm hA hg;go_wp2_with fail;refine HBK.out.mono ?_;rintro e w3 ⟨kk,rfl,hu,hgr⟩;have HU:=Hd hu;have HB3:=Hd (below_grown HB2.out hgr hg2 HB2.out.size);clear hu hgr;go_wp2
    try rw [Exit.noGoto_ret]
    go_ret2
    exact⟨_,kk,kk,by rw [← HLF.out,← HDN.out];rfl,HU.out,HB3.out⟩
theorem nshr_any(A:Option Addr)(n c k:Nat)(xs:List Nat)(w:World)(hx:U32s w A n c xs)(hl:wlen xs≤16384)(hk:k≤1073741824):
  Calls Tryz.prog 254 #[.slice A n c,.int .i64 (k:Int)] w fun e w'=>
   ∃ A2 n2 c2,e=.returned (.tuple #[.slice A2 n2 c2,.bool (decide (num xs % 2^k≠0)),.int .i64 0])∧U32s w' A2 n2 c2 (digs (num xs / 2^k))∧Below w.heap.size w w':=by
 have HLG:=Hd (long_one w.heap.size A n c xs (w.alloc (.cells #[.slice A n c] 40)) (hx.alloc _) (by simp [World.cell?_alloc_new]) hl);have HD:=Hd (down_any A n c k xs (w.alloc (.cells #[.slice A n c] 40)) (hx.alloc _) hl hk)
 obtain⟨L,hL⟩:∃ L,decide (num xs % 2^k≠0)=L:=⟨_,rfl⟩
 rw [hL] at HD ⊢;clear hx hL
 go_enter Tryz.func254,Tryz.ntmps254
 go_wp2_with fail;refine HLG.out.mono ?_;rintro e w' ⟨rfl,rfl⟩;go_wp2_with fail;refine HD.out.mono ?_;rintro e w2 ⟨A2,n2,c2,rfl,hu,hb⟩;have HU:=Hd hu;have HB:=Hd ((below_alloc w _).trans (hb.mono (below_alloc w _).size));clear hu hb;go_wp2
 go_ret3
 exact⟨A2,n2,c2,rfl,HU.out,HB.out⟩
end Go.Proofs.YthlmlmfebpjgdaaGreatDoor
namespace Go.Proofs.YthlmlmfebpjgdaaGreatDoor
open Go.RowKit Ieee
attribute [local go_sem] run_store_float run_frombits run_bitsof run_negf
theorem neg_pat{i:Int}(h0:-(M:Int)≤i)(h1:i≤M)(hi:i≠0):Op.negFloat .f64 (pat i)=pat (-i):=by
 have h:=negFloat_val (pat_lt h0 h1);rw [idx_pat h0 h1,rung_pat h0 h1] at h;have hM:M=9218868437227405312:=rfl;have h2:=pl_real h.1 (by omega);rw [h.2.2] at h2;have hc:=pat_cases h.1;unfold pl at h2;rw [if_neg (by omega),if_neg (by omega)] at h2
 exact h2
theorem beyond_any(d:Int)(neg:Bool)(w:World)(hd:d=-1∨d=1):
  Calls Tryz.prog 253 #[.int .i64 d,.bool neg] w fun e w'=>e=.returned (.float .f64 (pat (sg neg (if (decide (d=1) != neg) then M else M - 1))))∧w=w':=by
 have HP:=Hd (inf_pos w)
 have n1:Op.negFloat .f64 9218868437227405312=18442240474082181120:=by decide
 have n2:Op.negFloat .f64 9218868437227405311=18442240474082181119:=by decide
 rcases hd with rfl | rfl<;>cases neg
 ·rw [show pat (sg false (if (decide ((-1:Int)=1) != false) then M else M - 1))=9218868437227405311 from by decide]
  go_enter Tryz.func253,Tryz.ntmps253
  go_wp2_with fail;refine HP.out.mono ?_;rintro e w' ⟨rfl,rfl⟩;go_wp2
  go_ret
  exact⟨rfl,rfl⟩
 ·rw [show pat (sg true (if (decide ((-1:Int)=1) != true) then M else M - 1))=18442240474082181120 from by decide]
  go_enter Tryz.func253,Tryz.ntmps253
  go_wp2_with fail;refine HP.out.mono ?_;rintro e w' ⟨rfl,rfl⟩;go_wp2
  go_ret
  exact⟨rfl,rfl⟩
 ·rw [show pat (sg false (if (decide ((1:Int)=1) != false) then M else M - 1))=9218868437227405312 from by decide]
  go_enter Tryz.func253,Tryz.ntmps253
  go_wp2_with fail;refine HP.out.mono ?_;rintro e w' ⟨rfl,rfl⟩;go_wp2
  go_ret
  exact⟨rfl,rfl⟩
 ·rw [show pat (sg true (if (decide ((1:Int)=1) != true) then M else M - 1))=18442240474082181119 from by decide]
  go_enter Tryz.func253,Tryz.ntmps253
  go_wp2_with fail;refine HP.out.mono ?_;rintro e w' ⟨rfl,rfl⟩;go_wp2
  go_ret
  exact⟨rfl,rfl⟩
theorem of_nought(d:Int)(neg more:Bool)(A:Option Addr)(n c:Nat)(xs:List Nat)(exp:Int)(w:World)(hx:U32s w A n c xs)(h0:num xs=0):
  Calls Tryz.prog 230 #[.int .i64 d,.bool neg,.slice A n c,.int .i64 exp,.bool more] w fun e w'=>e=.returned (.float .f64 0)∧w=w':=by
 have HL:=Hd (nlen_any A n c xs w hx);rw [h0,blen_zero] at HL
 go_enter Tryz.func230,Tryz.ntmps230
 go_wp2_with fail;refine HL.out.mono ?_;rintro e w' ⟨rfl,rfl⟩;go_wp2
 go_ret
 exact⟨rfl,rfl⟩
def Cutd(S:Nat)(exp E:Int)(v:Nat)(lost more:Bool):Prop:=
 (0≤E - 2 - exp→v=S / 2^(E - 2 - exp).toNat∧(lost=true↔S % 2^(E - 2 - exp).toNat≠0))∧(E - 2 - exp<0→v=S*2^(-(E - 2 - exp)).toNat∧lost=false∧more=false)
theorem of_pos(d:Int)(neg more:Bool)(A:Option Addr)(n c S p q:Nat)(xs:List Nat)(exp:Int)(w:World)(hx:U32s w A n c xs)(hS:num xs=S)(hS0:0<S)(hl:wlen xs≤16384)(hd:d=-1∨d=1)
  (hD:Dg S p q exp more)(hq:0<q)(hmore:more=true→55≤blen S)(he1:-1000000≤exp)(he2:exp≤1099511627776):
  Calls Tryz.prog 230 #[.int .i64 d,.bool neg,.slice A n c,.int .i64 exp,.bool more] w fun e w'=>e=.returned (.float .f64 (pat (rndI d (rv neg p q))))∧Below w.heap.size w w':=by
 have hL:=nlen_any A n c xs w hx;rw [hS] at hL;have hsc:=hD.sc hS0
 have hp:0<p:=by
  obtain⟨U,h1,h2,h3,h4,-⟩:=hD
  rcases Nat.eq_zero_or_pos p with h | h
  ·subst h;have:0<S*2^(exp+U).toNat*q:=Nat.mul_pos (Nat.mul_pos hS0 (Nat.two_pow_pos _)) hq
   omega
  ·exact h
 have hrnd:=(rnd_ans (neg:=neg) hp hq hsc hd).eq;rw [← hrnd]
 have hbl:blen S≤524288:=by
  obtain⟨K,hK⟩:∃ K,K=524288:=⟨_,rfl⟩
  have h1:=num_lt_wlen hx.w32;rw [hS] at h1;rw [← hK]
  exact blen_le_iff.2 (Nat.lt_of_lt_of_le h1 (Nat.pow_le_pow_right (by omega) (by omega)))
 have hb0:0<blen S:=by
  rcases Nat.eq_zero_or_pos (blen S) with h | h
  ·rw [blen_eq_zero] at h;omega
  ·exact h
 obtain⟨b,hb⟩:∃ b,blen S=b:=⟨_,rfl⟩
 obtain⟨f,hf⟩:∃ f:Int,(b:Int) - 1+exp=f:=⟨_,rfl⟩
 rw [hb] at hL hsc hmore hbl hb0 hrnd ⊢;rw [hf] at hsc hrnd ⊢
 obtain⟨away,haw⟩:∃ a,(decide (d=1) != neg)=a:=⟨_,rfl⟩
 have HBY:=Hd (beyond_any d neg w hd);rw [haw] at HBY ⊢;have HL:=Hd hL;have HSC:=Hd hsc;have HX:=Hd hx;have HD:=Hd hD;have HAW:=Hd haw;have HS:=Hd hS;have HHD:=Hd hd
 have hqe:((b:Int) == 0)=false:=by simp;omega
 clear hL hsc hx hD haw hS hd hrnd hp
 by_cases hov:1023<f
 ·have hP:ansT p q f away=if away then M else M - 1:=by unfold ansT;rw [if_pos hov]
  rw [← hP] at HBY
  obtain⟨T,hT⟩:∃ T,pat (sg neg (ansT p q f away))=T:=⟨_,rfl⟩
  rw [hT] at HBY ⊢;clear hP hT
  go_enter Tryz.func230,Tryz.ntmps230
  go_wp2_with fail;refine HL.out.mono ?_;rintro e w' ⟨rfl,rfl⟩;go_wp2_with fail;refine HBY.out.mono ?_;rintro e w' ⟨rfl,rfl⟩;go_wp2
  go_ret
  exact⟨rfl,Below.refl _ _⟩
 ·have hfe:=lastBit_bounds (f:=f) (by omega);have hwlt:=w_lt hq HSC.out;have hwge:=w_ge hq HSC.out
  have hP:ansT p q f away=if away then capT p q (lastBit f) else cutT p q (lastBit f):=by unfold ansT;rw [if_neg hov]
  obtain⟨E,hE⟩:∃ E,lastBit f=E:=⟨_,rfl⟩
  rw [hE] at hfe hwlt hwge hP
  have hE2:max ((b:Int) - 53+exp) (-1074)=E:=by unfold lastBit at hE;split at hE<;>omega
  have HP:=Hd hP
  obtain⟨C,hC⟩:∃ C,E - 2 - exp=C:=⟨_,rfl⟩
  have HC:=Hd hC
  obtain⟨AA,hAA⟩:∃ AA,pat (sg neg (ansT p q f away))=AA:=⟨_,rfl⟩
  rw [hAA];have HAA:=Hd hAA;clear hP hE hAA
  go_enter Tryz.func230,Tryz.ntmps230
  go_wp2_with fail;refine HL.out.mono ?_;rintro e w' ⟨rfl,rfl⟩
  go_upto_if 44 with fail
  clear hC
  obtain⟨cb,hcb⟩:∃ x,decide (0<C)=x:=⟨_,rfl⟩
  rw [hcb];have HCB:=Hd hcb;clear hcb
  go_cut [14,15] from 45 to 58 (fun s14 s15 wx=>∃ A1 n1 c1 lost v,s14=.slice A1 n1 c1∧s15=.bool lost∧U32s wx A1 n1 c1 (digs v)∧Cutd S exp E v lost more∧Below w.heap.size w wx)
  case first=>
   have hC:=HC.out
   by_cases hc:0<C
   ·obtain⟨k,hk⟩:∃ k:Nat,E - 2 - exp=k:=⟨(E - 2 - exp).toNat,by omega⟩
    obtain rfl:C=k:=by omega
    obtain rfl:cb=true:=by rw [← HCB.out];exact decide_eq_true hc
    have HSH:=Hd (nshr_any A n c k xs w HX.out hl (by omega));rw [HS.out] at HSH;have HCU:=Hd (show Cutd S exp E (S / 2^k) (decide (S % 2^k≠0)) more from⟨fun _=>by rw [hk,Int.toNat_natCast];exact⟨rfl,by simp⟩,fun h=>by omega⟩)
    obtain⟨lost,hlo⟩:∃ l,decide (S % 2^k≠0)=l:=⟨_,rfl⟩
    obtain⟨v,hv⟩:∃ l,S / 2^k=l:=⟨_,rfl⟩
    rw [hlo,hv] at HSH HCU;clear hc HCB hk hC HC hlo hv hE2 hfe hwlt hwge hf hov hmore he1 he2;go_wp2_with fail;refine HSH.out.mono ?_;rintro e w1 ⟨A2,n2,c2,rfl,hu,hb⟩;have HU:=Hd hu;have HB:=Hd hb;clear hu hb;go_wp2_with fail
    go_meet
    exact⟨A2,n2,c2,lost,v,rfl,rfl,HU.out,HCU.out,HB.out⟩
   ·obtain⟨k,hk⟩:∃ k:Nat,-(E - 2 - exp)=k:=⟨(-(E - 2 - exp)).toNat,by omega⟩
    have hmf:E - 2 - exp<0→more=false:=by
     intro h
     cases more with
     | false=>rfl
     | true=>have:=hmore rfl;omega
    have HSH:=Hd (nshl_any A n c k xs w HX.out hl (by rw [HS.out,hb];omega));rw [HS.out] at HSH
    have HCU:=Hd (show Cutd S exp E (S*2^k) false more from⟨fun h=>by
     have hk0:k=0:=by omega
     rw [show (E - 2 - exp).toNat=0 from by omega,hk0]
     simp [Nat.mod_one],fun h=>⟨by rw [hk,Int.toNat_natCast],rfl,hmf h⟩⟩)
    obtain⟨v,hv⟩:∃ l,S*2^k=l:=⟨_,rfl⟩
    rw [hv] at HSH HCU
    have hkb:k≤2000:=by omega
    obtain rfl:C=-(k:Int):=by omega
    obtain rfl:cb=false:=by rw [← HCB.out];exact decide_eq_false hc
    clear hc;clear HCB hk hC HC hv hmf hE2 hfe hwlt hwge hf hov hmore he1 he2;go_wp2_with fail;refine HSH.out.mono ?_;rintro e w1 ⟨A2,n2,c2,rfl,hu,hb⟩;have HU:=Hd hu;have HB:=Hd hb;clear hu hb;go_wp2_with fail
    go_meet
    exact⟨A2,n2,c2,false,v,rfl,rfl,HU.out,HCU.out,HB.out⟩
  case rest=>
  obtain⟨A1,n1,c1,lost,v,rfl,rfl,hu,hcu,hb1⟩:=hcut;have hda:=digits_at HD.out hq hfe.1 hcu.1 hcu.2
  obtain⟨V,hV⟩:∃ V,marked v (lost || more)=V:=⟨_,rfl⟩
  have hvv:v / 4=V / 4:=by rw [← hV,marked_div]
  rw [hV] at hda
  have hv64:v<18446744073709551616:=by have:=hda.1;omega
  have hV64:V<18446744073709551616:=by have:=hda.1;omega
  have HWD:=Hd (nword_any A1 n1 c1 (digs v) wc hu (by
   rw [wlen_digs];exact digs_length_le (k:=2) (by omega)))
  rw [num_digs] at HWD;have HB1:=Hd hb1;have HV:=Hd hV;have HDA:=Hd hda;clear hu hcu hb1 hV hda;go_wp2_with fail;refine HWD.out.mono ?_;rintro e w2 ⟨rfl,z,hz⟩;have HB2:=Hd (show Below w.heap.size w w2 from by rw [hz];exact below_drewN HB1.out z);clear hz HB1 HWD
  go_upto_region 13 with fail
  go_cut [67] from 64 to 66 (fun s67 wx=>s67=.bool (lost || more)∧wx=w2)
  case first=>
   cases lost<;>cases more<;>(go_wp2_with fail;go_meet;exact⟨rfl,rfl⟩)
  case rest=>
  obtain⟨rfl,rfl⟩:=hcut
  obtain⟨L,hL⟩:∃ L,(lost || more)=L:=⟨_,rfl⟩
  rw [hL] at HV ⊢;clear hL
  go_upto_if 67 with fail
  go_cut [16] from 68 to 69 (fun s16 wx=>s16=.int .u64 (V:Int)∧wc=wx)
  case first=>
   have hor:bits .or .u64 (v:Int) 1=((2*(v / 2)+1:Nat):Int):=by
    have h:=u64_or_nat v 1 hv64 (by omega);rw [or_one] at h;exact h
   have hv:=HV.out
   cases L
   ·have e:v=V:=by rw [← hv];rfl
    subst e;go_wp2_with fail
    go_meet
    exact⟨rfl,rfl⟩
   ·have e:2*(v / 2)+1=V:=by rw [← hv];rfl
    rw [e] at hor;go_wp2_with fail
    go_meet
    exact⟨rfl,rfl⟩
  case rest=>
  obtain⟨rfl,rfl⟩:=hcut
  have h3:bits .and .u64 (V:Int) 3=((V % 4:Nat):Int):=by
   have h:=u64_and_nat V 3 hV64 (by omega);rw [show (3:Nat)=2^2 - 1 from rfl,Nat.and_two_pow_sub_one_eq_mod] at h
   exact h
  obtain⟨R,hR⟩:∃ R,V % 4=R:=⟨_,rfl⟩
  obtain⟨W,hW⟩:∃ W,V / 4=W:=⟨_,rfl⟩
  rw [hR] at h3;have hda:=HDA.out;rw [hR,hW] at hda;rw [← hda.1] at hwlt hwge
  have h4:(V:Int) / 4=(W:Int):=by omega
  obtain⟨Z,hZ⟩:∃ Z,W+(if away=true∧R≠0 then 1 else 0)=Z:=⟨_,rfl⟩
  have hT:ansT p q f away=(E+1074).toNat*4503599627370496+Z:=by
   rw [HP.out,← hZ,hda.1];unfold capT cutT
   by_cases hr:R=0
   ·have h5:=hda.2.1 hr;rw [if_pos h5]
    cases away<;>simp [hr]
   ·have h5:¬ upN p E % upM q E=0:=fun h=>hr (hda.2.2 h);rw [if_neg h5]
    cases away<;>simp [hr]
  have hZ1:Z≤9007199254740992:=by rw [← hZ];split<;>omega
  have hZ2:E=-1074∨4503599627370496≤Z:=by
   by_cases h:-1074<E
   ·right
    have h6:=hwge h
    rw [← hZ];split<;>omega
   ·left;omega
  have HLD:=Hd fun W'=>ldexp_any Z E W' hZ1 hfe hZ2
  obtain⟨T,hTT⟩:∃ T,(E+1074).toNat*4503599627370496+Z=T:=⟨_,rfl⟩
  have hTM:T≤M:=by
   have hM:M=2045*4503599627370496+9007199254740992:=rfl;rw [← hTT,hM]
   exact Nat.add_le_add (Nat.mul_le_mul_right _ (by omega)) hZ1
  rw [hTT] at HLD hT;have HT:=Hd hT;have HZ:=Hd hZ;have hWb:W<9007199254740992:=hwlt;clear hT hZ hTT hda hR hW hwlt hwge hZ2 hvv HV hfe HDA HP
  go_upto_block 0 with fail
  go_cut [18] from 74 to 104 (fun s18 wx=>s18=.int .u64 (Z:Int)∧wc=wx)
  case first=>
   have haw:=HAW.out;have hz:=HZ.out
   rcases Nat.eq_zero_or_pos R with hr | hr
   ·subst hr
    have hz2:Z=W:=by rw [← hz];simp
    subst hz2;clear haw hz
    rcases HHD.out with rfl | rfl<;>cases neg<;>(go_wp2_with fail;go_meet;exact⟨rfl,rfl⟩)
   ·have hr2:¬ R=0:=by omega
    rcases HHD.out with rfl | rfl<;>cases neg<;>simp at haw<;>subst haw<;>simp [hr2] at hz<;>subst hz<;>clear hr2<;>(go_wp2_with fail;go_meet;exact⟨rfl,rfl⟩)
  case rest=>
  obtain⟨rfl,rfl⟩:=hcut;clear HZ HAW;go_wp2_with fail;refine (HLD.out _).mono ?_;rintro e w3 ⟨rfl,rfl⟩;have hTr:=rung_idx (b:=T) (by have hM:M=9218868437227405312:=rfl;omega)
  have hpt:pat (T:Int)=T:=by rw [pat_nn (by omega)];rfl
  have haa:=HAA.out;rw [HT.out] at haa
  cases neg
  ·have e:=Hd (show T=AA by rw [← haa];exact hpt.symm);clear haa hpt hTr hTM;go_wp2
   go_ret
   exact⟨by rw [← e.out];rfl,HB2.out⟩
  ·rcases Nat.eq_zero_or_pos T with h0 | h0
   ·subst h0;have ho:=ord_eq (a:=0) (b:=0) real_zero real_zero rfl;have e:=Hd (show 0=AA by rw [← haa];rfl)
    have hqz:(FloatKind.f64.format.order 0 0 != some Ordering.eq)=false:=by rw [ho];rfl
    clear haa hpt hTr hTM ho;go_wp2
    go_ret
    exact⟨by rw [← e.out];rfl,HB2.out⟩
   ·have ho:=ord_gt (a:=T) (b:=0) (by omega) real_zero (by rw [idx_zero];omega);have hn:=neg_pat (i:=(T:Int)) (by omega) (by omega) (by omega);rw [hpt] at hn;have e:=Hd (show Op.negFloat .f64 T=AA by rw [← haa];exact hn);clear hn hpt hTr h0 hTM haa;go_wp2
    go_ret
    exact⟨by rw [← e.out];rfl,HB2.out⟩
end Go.Proofs.YthlmlmfebpjgdaaGreatDoor
namespace Go.Proofs.YthlmlmfebpjgdaaGreatDoor
open Go.RowKit
theorem Dg.quo{N D k:Nat}{exp:Int}(hD:0<D):Dg (N*2^k / D) (N*2^exp.toNat) (D*2^(-exp).toNat) (exp - k) (decide (0<N*2^k % D)):=by
 obtain⟨U,hU⟩:∃ U,3000+exp.natAbs+k=U:=⟨_,rfl⟩
 refine⟨U,by omega,by omega,?_⟩
 obtain⟨E,hE⟩:∃ E,(exp - k+U).toNat=E:=⟨_,rfl⟩
 have e1:N*2^exp.toNat*2^U=N*2^k*(2^E*2^(-exp).toNat):=by
  rw [Nat.mul_assoc,Nat.mul_assoc,← Nat.pow_add,← Nat.pow_add,← Nat.pow_add];congr 2;omega
 have e2:∀ s:Nat,s*2^E*(D*2^(-exp).toNat)=s*D*(2^E*2^(-exp).toNat):=fun s=>by ac_rfl
 have hc:0<2^E*2^(-exp).toNat:=Nat.mul_pos (Nat.two_pow_pos _) (Nat.two_pow_pos _);rw [hE,e1,e2,e2];have h1:=Nat.div_add_mod (N*2^k) D;have h2:=Nat.mod_lt (N*2^k) hD;rw [Nat.mul_comm] at h1;refine⟨Nat.mul_le_mul_right _ (by omega),(Nat.mul_lt_mul_right hc).2 (by rw [Nat.add_mul];omega),?_⟩;rw [Nat.mul_left_inj (by omega)]
 simp only [decide_eq_false_iff_not]
 omega
theorem quo_blen{N D k n m t:Nat}(hN:0<N)(hD:0<D)(hn:blen N=n)(hm:blen D=m)(h:m+t≤n+k)(ht:0<t):t≤blen (N*2^k / D):=by
 have h1:=pow_blen_le hN;have h2:=lt_pow_blen D;rw [hn] at h1;rw [hm] at h2
 have hn0:0<n:=by
  rcases Nat.eq_zero_or_pos n with h0 | h0
  ·rw [h0,blen_eq_zero] at hn;omega
  ·exact h0
 have h3:2^(t - 1)*D≤N*2^k:=by
  have a1:2^(t - 1)*D≤2^(t - 1)*2^m:=Nat.mul_le_mul_left _ (by omega);have a2:2^(n - 1)*2^k≤N*2^k:=Nat.mul_le_mul_right _ h1
  have a3:2^(t - 1)*2^m≤2^(n - 1)*2^k:=by
   rw [← Nat.pow_add,← Nat.pow_add];exact Nat.pow_le_pow_right (by omega) (by omega)
  omega
 have h4:2^(t - 1)≤N*2^k / D:=(Nat.le_div_iff_mul_le hD).2 h3
 rcases Nat.lt_or_ge (blen (N*2^k / D)) t with h5 | h5
 ·exfalso
  have h6:=lt_pow_blen (N*2^k / D);have h7:2^blen (N*2^k / D)≤2^(t - 1):=Nat.pow_le_pow_right (by omega) (by omega)
  omega
 ·exact h5
theorem quo_blen_le{N D k n b:Nat}(hn:blen N=n)(h:n+k≤b):blen (N*2^k / D)≤b:=by
 rw [blen_le_iff];have h1:=lt_pow_blen N;rw [hn] at h1;have h2:N*2^k / D≤N*2^k:=Nat.div_le_self _ _;have h3:N*2^k<2^n*2^k:=(Nat.mul_lt_mul_right (Nat.two_pow_pos _)).2 h1;rw [← Nat.pow_add] at h3;have h4:2^(n+k)≤2^b:=Nat.pow_le_pow_right (by omega) h
 omega
theorem rndI_tiny_pos{p q U:Nat}(hU:U=1074)(hp:0<p)(hq:0<q)(h:p*2^U<q):rndI (-1) (rv false p q)=0∧rndI 1 (rv false p q)=1:=by
 have hx:0<rv false p q:=by
  have h1:=mt (rv_le_false (p:=p) (p':=0) hq (q':=1) (by omega)).1 (by omega);rw [rv_zero] at h1
  grind
 have e1:fl (1:Int)=rv false 1 (2^U):=by
  have:=fl_nat 1 hU
  rwa [mag_small (by decide)] at this
 have hlt:¬ rv false 1 (2^U)≤rv false p q:=by
  rw [rv_le_false (Nat.two_pow_pos _) hq];omega
 have hM:(M:Int)=9218868437227405312:=rfl
 constructor
 ·have h1:=rndI_down (rv false p q);have h2:=(h1.2.2 0 (by omega) (by omega)).2 (by rw [fl_zero];grind);have h3:=mt (h1.2.2 1 (by omega) (by omega)).1 (by rw [e1];exact hlt)
  omega
 ·have h1:=rndI_up (rv false p q);have h2:=(h1.2.2 1 (by omega) (by omega)).2 (by rw [e1];exact (rv_le_false hq (Nat.two_pow_pos _)).2 (by omega));have h3:=mt (h1.2.2 0 (by omega) (by omega)).1 (by rw [fl_zero];grind)
  omega
theorem rndI_tiny{d:Int}{neg:Bool}{p q p' q' U:Nat}(hd:d=-1∨d=1)(hU:U=1074)(hp:0<p)(hq:0<q)(h:p*2^U<q)(hp':0<p')(hq':0<q')(h':p'*2^U<q'):
  rndI d (rv neg p q)=rndI d (rv neg p' q'):=by
 have a:=rndI_tiny_pos hU hp hq h;have b:=rndI_tiny_pos hU hp' hq' h'
 cases neg
 ·rcases hd with rfl | rfl
  ·rw [a.1,b.1]
  ·rw [a.2,b.2]
 ·rw [rv_true,rv_true]
  rcases hd with rfl | rfl
  ·have h1:=rndI_neg (d:=1) (.inr rfl) (rv false p q);have h2:=rndI_neg (d:=1) (.inr rfl) (rv false p' q');rw [show ((-1:Int))=-1 from rfl,h1,h2,a.2,b.2]
  ·have h1:=rndI_neg (d:=-1) (.inl rfl) (rv false p q);have h2:=rndI_neg (d:=-1) (.inl rfl) (rv false p' q');rw [show ((1:Int))=- -1 from rfl,h1,h2,a.1,b.1]
theorem tiny_of{N D n m U:Nat}{exp:Int}(hU:U=1074)(hD:0<D)(hn:blen N=n)(hm:blen D=m)(h:(n:Int) - m+exp < -1100):N*2^exp.toNat*2^U<D*2^(-exp).toNat:=by
 have h1:=lt_pow_blen N;have h2:=pow_blen_le hD;rw [hn] at h1;rw [hm] at h2
 have hm0:0<m:=by
  rcases Nat.eq_zero_or_pos m with h0 | h0
  ·rw [h0,blen_eq_zero] at hm;omega
  ·exact h0
 have a1:N*(2^exp.toNat*2^U)<2^n*(2^exp.toNat*2^U):=(Nat.mul_lt_mul_right (Nat.mul_pos (Nat.two_pow_pos _) (Nat.two_pow_pos _))).2 h1;have a2:2^(m - 1)*2^(-exp).toNat≤D*2^(-exp).toNat:=Nat.mul_le_mul_right _ h2
 have a3:2^n*(2^exp.toNat*2^U)≤2^(m - 1)*2^(-exp).toNat:=by
  rw [← Nat.pow_add,← Nat.pow_add,← Nat.pow_add];exact Nat.pow_le_pow_right (by omega) (by omega)
 rw [Nat.mul_assoc];omega
end Go.Proofs.YthlmlmfebpjgdaaGreatDoor
