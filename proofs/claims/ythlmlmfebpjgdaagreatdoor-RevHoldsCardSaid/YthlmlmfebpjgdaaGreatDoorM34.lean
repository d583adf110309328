/-
Walks: package round, Mul and what it calls.
Walks: package rev, product, dividend, DivRev1.
-/
import Derived.Test.YthlmlmfebpjgdaaGreatDoorM33
import Derived.Test.YthlmlmfebpjgdaaGreatDoorPAddT
import Derived.Test.YthlmlmfebpjgdaaGreatDoorPAbT
import Derived.Test.YthlmlmfebpjgdaaGreatDoorM15
import Derived.Test.YthlmlmfebpjgdaaGreatDoorM13
import Derived.Test.YthlmlmfebpjgdaaGreatDoorPPairT
import Derived.Deep.DeepCutAuto
import Derived.Deep.CutBlock
set_option linter.unusedSimpArgs false
set_option linter.unusedVariables false
set_option maxHeartbeats 12800000
namespace Go.Proofs.YthlmlmfebpjgdaaGreatDoor
open Go.RowKit
theorem middle_walk(b r:Nat)(o1 o2:Ordering)(m:Bool)(w:World)(ha:∀ W,Calls Tryz.prog 117 #[.float .f64 b] W fun e w'=>e=.returned (.float .f64 r)∧W=w')
  (h1:FloatKind.f64.format.order r 553942754166571008=some o1)(h2:FloatKind.f64.format.order r 8660422083433463808=some o2)(hm:((o1 == .gt) && (o2 == .lt))=m):
  Calls Tryz.prog 185 #[.float .f64 b] w fun e w'=>e=.returned (.bool m)∧w=w':=by
 have HA:=Hd ha;have HM:=Hd hm;clear ha hm
 cases o1<;>cases o2
 all_goals
  go_enter Tryz.func185,Tryz.ntmps185
  go_wp2_with fail;refine (HA.out _).mono ?_;rintro e w' ⟨rfl,rfl⟩;go_wp2
  go_ret
  refine⟨?_,rfl⟩;rw [← HM.out]
  rfl
theorem middle_any(b:Nat)(w:World)(hb:b<18446744073709551616)(hr:rungOf b≤M):Calls Tryz.prog 185 #[.float .f64 b] w fun e w'=>e=.returned (.bool (mid b))∧w=w':=by
 have hM:M=9218868437227405312:=rfl;have r0:=rung_idx (b:=rungOf b) (by omega);have r1:rungOf 553942754166571008=553942754166571008∧idx 553942754166571008=((553942754166571008:Nat):Int):=rung_idx (by decide);have r2:rungOf 8660422083433463808=8660422083433463808∧idx 8660422083433463808=((8660422083433463808:Nat):Int):=rung_idx (by decide)
 have o1:FloatKind.f64.format.order (rungOf b) 553942754166571008=some (compare ((rungOf b:Nat):Int) ((553942754166571008:Nat):Int)):=by
  have h:=order_real (x:=rungOf b) (y:=553942754166571008) (show rungOf (rungOf b)≤M by rw [r0.1];exact hr) (show rungOf 553942754166571008≤M by rw [r1.1];omega);rw [r0.2,r1.2] at h;exact h
 have o2:FloatKind.f64.format.order (rungOf b) 8660422083433463808=some (compare ((rungOf b:Nat):Int) ((8660422083433463808:Nat):Int)):=by
  have h:=order_real (x:=rungOf b) (y:=8660422083433463808) (show rungOf (rungOf b)≤M by rw [r0.1];exact hr) (show rungOf 8660422083433463808≤M by rw [r2.1];omega);rw [r0.2,r2.2] at h;exact h
 refine middle_walk b _ _ _ _ w (fun W=>abs_any b W hb) o1 o2 ?_;unfold mid
 obtain⟨R,hR⟩:∃ R,rungOf b=R:=⟨_,rfl⟩
 rw [hR]
 obtain⟨c1,hc1⟩:∃ c,compare ((R:Nat):Int) ((553942754166571008:Nat):Int)=c:=⟨_,rfl⟩
 obtain⟨c2,hc2⟩:∃ c,compare ((R:Nat):Int) ((8660422083433463808:Nat):Int)=c:=⟨_,rfl⟩
 rw [hc1,hc2]
 have e1:(c1 == .gt)=decide (553942754166571008<R):=by
  by_cases h:553942754166571008<R
  ·rw [decide_eq_true h,← hc1,Int.compare_eq_gt.2 (by omega)];rfl
  ·rw [decide_eq_false h,← hc1]
   rcases Int.lt_or_eq_of_le (show ((R:Nat):Int)≤((553942754166571008:Nat):Int) by omega) with k | k
   ·rw [Int.compare_eq_lt.2 k];rfl
   ·rw [Int.compare_eq_eq.2 k];rfl
 have e2:(c2 == .lt)=decide (R<8660422083433463808):=by
  by_cases h:R<8660422083433463808
  ·rw [decide_eq_true h,← hc2,Int.compare_eq_lt.2 (by omega)];rfl
  ·rw [decide_eq_false h,← hc2]
   rcases Int.lt_or_eq_of_le (show ((8660422083433463808:Nat):Int)≤((R:Nat):Int) by omega) with k | k
   ·rw [Int.compare_eq_gt.2 k];rfl
   ·rw [Int.compare_eq_eq.2 k.symm];rfl
 rw [e1,e2]
theorem halves_walk(x t u h l:Nat)(w:World)(q1:FloatKind.f64.format.mul 4728779608772575232 x=some t)(q2:FloatKind.f64.format.sub t x=some u)(q3:FloatKind.f64.format.sub t u=some h)(q4:FloatKind.f64.format.sub x h=some l):
  Calls Tryz.prog 228 #[.float .f64 x] w fun e w'=>e=.returned (.tuple #[.float .f64 h,.float .f64 l])∧w=w':=by
 have A1:=fun W=>run_float_arith (P:=Tryz.prog) W .mul 26 .f64 4728779608772575232 x t q1;have A2:=fun W=>run_float_arith (P:=Tryz.prog) W .sub 26 .f64 t x u q2;have A3:=fun W=>run_float_arith (P:=Tryz.prog) W .sub 26 .f64 t u h q3;have A4:=fun W=>run_float_arith (P:=Tryz.prog) W .sub 26 .f64 x h l q4;clear q1 q2 q3 q4
 go_enter Tryz.func228,Tryz.ntmps228
 go_wp2
 go_ret2
 exact⟨rfl,rfl⟩
theorem missed_walk(x y p xh xl yh yl z1 e0 z2 e1 z3 e2 z4 e:Nat)(w:World)(hx:∀ W,Calls Tryz.prog 228 #[.float .f64 x] W fun e w'=>e=.returned (.tuple #[.float .f64 xh,.float .f64 xl])∧W=w')
  (hy:∀ W,Calls Tryz.prog 228 #[.float .f64 y] W fun e w'=>e=.returned (.tuple #[.float .f64 yh,.float .f64 yl])∧W=w')
  (q1:FloatKind.f64.format.mul xh yh=some z1)(q2:FloatKind.f64.format.sub z1 p=some e0)(q3:FloatKind.f64.format.mul xh yl=some z2)(q4:FloatKind.f64.format.add e0 z2=some e1)
  (q5:FloatKind.f64.format.mul xl yh=some z3)(q6:FloatKind.f64.format.add e1 z3=some e2)(q7:FloatKind.f64.format.mul xl yl=some z4)(q8:FloatKind.f64.format.add e2 z4=some e):
  Calls Tryz.prog 187 #[.float .f64 x,.float .f64 y,.float .f64 p] w fun e' w'=>e'=.returned (.float .f64 e)∧w=w':=by
 have A1:=fun W=>run_float_arith (P:=Tryz.prog) W .mul 26 .f64 _ _ _ q1;have A2:=fun W=>run_float_arith (P:=Tryz.prog) W .sub 26 .f64 _ _ _ q2;have A3:=fun W=>run_float_arith (P:=Tryz.prog) W .mul 26 .f64 _ _ _ q3;have A4:=fun W=>run_float_arith (P:=Tryz.prog) W .add 26 .f64 _ _ _ q4;have A5:=fun W=>run_float_arith (P:=Tryz.prog) W .mul 26 .f64 _ _ _ q5;have A6:=fun W=>run_float_arith (P:=Tryz.prog) W .add 26 .f64 _ _ _ q6;have A7:=fun W=>run_float_arith (P:=Tryz.prog) W .mul 26 .f64 _ _ _ q7;have A8:=fun W=>run_float_arith (P:=Tryz.prog) W .add 26 .f64 _ _ _ q8;have HX:=Hd hx;have HY:=Hd hy;clear q1 q2 q3 q4 q5 q6 q7 q8 hx hy
 go_enter Tryz.func187,Tryz.ntmps187
 go_wp2_with fail;refine (HX.out _).mono ?_;rintro e w' ⟨rfl,rfl⟩;go_wp2_with fail;refine (HY.out _).mono ?_;rintro e w' ⟨rfl,rfl⟩;go_wp2
 go_ret
 exact⟨rfl,rfl⟩
theorem rmul_quick(d:Int)(x y p:Nat)(w:World)(hd:d=-1∨d=1)(hx:x<18446744073709551616)(hy:y<18446744073709551616)(rx:rungOf x<M)(ry:rungOf y<M)(hp:FloatKind.f64.format.mul x y=some p)(mx:mid x=true)(my:mid y=true)(mp:mid p=true):
  Calls Tryz.prog 119 #[.int .i64 d,.float .f64 x,.float .f64 y] w fun e w'=>e=.returned (.float .f64 (pat (rndI d (fl (idx x)*fl (idx y)))))∧Below w.heap.size w w':=by
 have hM:M=9218868437227405312:=rfl;obtain⟨xt,xu,xh,xl,yt,yu,yh,yl,z1,e0,z2,e1,z3,e2,z4,e,q1,q2,q3,q4,q5,q6,q7,q8,q9,q10,q11,q12,q13,q14,q15,q16,p1,p2,p3,hn⟩:=quick_prod hd hx hy mx my hp mp;have HMI:=Hd fun W=>missed_walk x y p xh xl yh yl z1 e0 z2 e1 z3 e2 z4 e W (fun W=>halves_walk x xt xu xh xl W q1 q2 q3 q4) (fun W=>halves_walk y yt yu yh yl W q5 q6 q7 q8) q9 q10 q11 q12 q13 q14 q15 q16;have HN0:=fun W=>nudge_any d p e W hd p1 p2 p3;rw [hn] at HN0;have HN:=Hd HN0;have A1:=fun W=>run_float_arith (P:=Tryz.prog) W .mul 26 .f64 x y p hp;have HX0:=fun W=>middle_any x W hx (by omega);have HY0:=fun W=>middle_any y W hy (by omega);have HP0:=fun W=>middle_any p W p1 (by omega);rw [mx] at HX0;rw [my] at HY0;rw [mp] at HP0;have HX:=Hd HX0;have HY:=Hd HY0;have HP:=Hd HP0
 have ho:(decide (rungOf x=M) || decide (rungOf y=M))=false:=by
  rw [decide_eq_false (by omega),decide_eq_false (by omega)];rfl
 have HO0:=fun (W:World) (hb:Below w.heap.size w W)=>odd_two W.heap.size x y (W.alloc (.cells #[.float .f64 x,.float .f64 y] 26)) hx hy (by omega) (by omega) (by simp [World.cell?_alloc_new]) (by simp [World.cell?_alloc_new]);rw [ho] at HO0;have HO:=Hd HO0;have LB:=Hd (below_alloc w (.cells #[.float .f64 x,.float .f64 y] 26))
 obtain⟨r,hr⟩:∃ r,pat (rndI d (fl (idx x)*fl (idx y)))=r:=⟨_,rfl⟩
 rw [hr] at HN ⊢;clear HO0 ho hn HN0 q1 q2 q3 q4 q5 q6 q7 q8 q9 q10 q11 q12 q13 q14 q15 q16 hr rx ry hx hy hd hM p1 p2 p3 mx my mp hp HX0 HY0 HP0
 go_enter Tryz.func119,Tryz.ntmps119
 go_wp2_with fail
 go_step3
 go_wp2_with fail;refine (HO.out _ (Below.refl _ _)).mono ?_;rintro e w' ⟨rfl,rfl⟩;go_wp2_with fail;refine (HX.out _).mono ?_;rintro e w' ⟨rfl,rfl⟩;go_wp2_with fail;refine (HY.out _).mono ?_;rintro e w' ⟨rfl,rfl⟩;go_wp2_with fail;refine (HP.out _).mono ?_;rintro e w' ⟨rfl,rfl⟩;go_wp2_with fail;refine (HMI.out _).mono ?_;rintro e w' ⟨rfl,rfl⟩;go_wp2_with fail;refine (HN.out _).mono ?_;rintro e w' ⟨rfl,rfl⟩;go_wp2
 try rw [Exit.noGoto_ret]
 go_ret
 exact⟨rfl,LB.out⟩
theorem rmul_inf(d:Int)(x y r q:Nat)(w:World)(hx:x<18446744073709551616)(hy:y<18446744073709551616)(rx:rungOf x≤M)(ry:rungOf y≤M)(ho:(decide (rungOf x=M) || decide (rungOf y=M))=true)(hr:floatBits .mul .f64 x y=some r)
  (hpl:∀ W,Calls Tryz.prog 184 #[.float .f64 r] W fun e w'=>e=.returned (.float .f64 q)∧W=w'):
  Calls Tryz.prog 119 #[.int .i64 d,.float .f64 x,.float .f64 y] w fun e w'=>e=.returned (.float .f64 q)∧Below w.heap.size w w':=by
 have HA:=fun W=>run_float_arith (P:=Tryz.prog) W .mul 26 .f64 _ _ _ hr;have HPL:=Hd hpl;have HO0:=fun (W:World) (hb:Below w.heap.size w W)=>odd_two W.heap.size x y (W.alloc (.cells #[.float .f64 x,.float .f64 y] 26)) hx hy rx ry (by simp [World.cell?_alloc_new]) (by simp [World.cell?_alloc_new]);rw [ho] at HO0;have HO:=Hd HO0;have LB:=Hd (below_alloc w (.cells #[.float .f64 x,.float .f64 y] 26));clear HO0 ho hr rx ry hx hy hpl
 go_enter Tryz.func119,Tryz.ntmps119
 go_wp2_with fail
 go_step3
 go_wp2_with fail;refine (HO.out _ (Below.refl _ _)).mono ?_;rintro e w' ⟨rfl,rfl⟩;go_wp2_with fail;refine (HPL.out _).mono ?_;rintro e w' ⟨rfl,rfl⟩;go_wp2
 try rw [Exit.noGoto_ret]
 go_ret
 exact⟨rfl,LB.out⟩
theorem HasBlk.u32{W:World}{A:Option Addr}{k c:Nat}{xs:List Nat}{r:Nat}{t:TypeId}{n:Nat}(h:HasBlk W r t n)(hr:U32s W A k c xs)(vs:List Value):U32s (Proofs.YthlmlmfebpjgdaaGreatDoor.sets W r 0 vs) A k c xs:=by
 obtain⟨cs,h1,-,h2⟩:=h
 exact hr.sets h1 h2 0 vs
theorem digs_two2{S:Nat}(h:S<18446744073709551616):wlen (digs S)≤2:=wlen_lt (W32.digs S) (K:=2) (by rw [num_digs];exact h)
theorem rprod_any(n1:Bool)(A1:Option Addr)(m1 c1 S1:Nat)(e1:Int)(n2:Bool)(A2:Option Addr)(m2 c2 S2:Nat)(e2:Int)(w:World)(hu1:U32s w A1 m1 c1 (digs S1))(hu2:U32s w A2 m2 c2 (digs S2))(h1:S1<9007199254740992)(h2:S2<9007199254740992)(b1:-1074≤e1∧e1≤971)(b2:-1074≤e2∧e2≤971):
  Calls Tryz.prog 188 #[.agg #[.bool n1,.slice A1 m1 c1,.int .i64 e1],.agg #[.bool n2,.slice A2 m2 c2,.int .i64 e2]] w (NewDy w (n1 != n2) (S1*S2) (e1+e2)):=by
 have k1:=digs_two2 (S:=S1) (by omega);have k2:=digs_two2 (S:=S2) (by omega);have k3:blen S1≤53:=blen_le_iff.2 (show S1<2^53 from h1);have k4:blen S2≤53:=blen_le_iff.2 (show S2<2^53 from h2)
 have HM:=Hd fun W (a:U32s W A1 m1 c1 (digs S1)) (b:U32s W A2 m2 c2 (digs S2))=>by
  have h:=nmul_any A1 A2 m1 c1 m2 c2 (digs S1) (digs S2) W a b (by omega) (by rw [num_digs,num_digs];omega);rw [num_digs,num_digs] at h
  exact h
 obtain⟨P,hP⟩:∃ P,S1*S2=P:=⟨_,rfl⟩
 obtain⟨n3,hn3⟩:∃ z,(n1 != n2)=z:=⟨_,rfl⟩
 rw [hP] at HM ⊢;rw [hn3];have hne:(!n1 == n2)=n3:=hn3;clear hn3 hP k1 k2 k3 k4 h1 h2;have LL:=li3 w #[.bool n1,.slice A1 m1 c1,.int .i64 e1] 168 #[.bool n2,.slice A2 m2 c2,.int .i64 e2] 168 #[.bool false,.slice none 0 0,.int .i64 0] 168;have HU1:=Hd (hu1.below LL.out.b);have HU2:=Hd (hu2.below LL.out.b);clear hu1 hu2
 go_enter Tryz.func188,Tryz.ntmps188
 obtain⟨q1_0,q1_1,q1_2⟩:=(LL.out.blk 0 rfl).c3;obtain⟨q2_0,q2_1,q2_2⟩:=(LL.out.blk 1 rfl).c3;go_wp2_with fail;refine (HM.out _ HU1.out HU2.out).mono ?_;rintro e wk ⟨A3,m3,c3,rfl,hu3,hb⟩;replace LL:=stL LL hb;replace HU1:=Hd (HU1.out.below hb);replace HU2:=Hd (HU2.out.below hb);clear hb q1_0 q1_1 q1_2 q2_0 q2_1 q2_2;have HU3:=Hd hu3;clear hu3;obtain⟨q3_0,q3_1,q3_2⟩:=(LL.out.blk 0 rfl).c3;obtain⟨q4_0,q4_1,q4_2⟩:=(LL.out.blk 1 rfl).c3;replace LL:=Hd (LL.out.loose 2 rfl rfl)
 simp only [List.eraseIdx,List.size_toArray,List.length_cons,List.length_nil,Nat.zero_add,Nat.reduceAdd] at LL
 obtain⟨ha4_0,hf4_0,ha4_1,hf4_1,ha4_2,hf4_2⟩:=(LL.out.has 0 rfl).sf3;have LF:=Hd (LL.out.write [.bool n3,.slice A3 m3 c3,.int .i64 (e1+e2)] rfl (by omega) (by simp<;>omega) (by simp<;>omega));obtain⟨hk4_0,hk4_1,hk4_2⟩:=(LF.out.blk 2 rfl).c3
 simp [sets] at hk4_0 hk4_1 hk4_2
 have LL3:=LL;clear LL;go_wp2;refine bodyPost_ret (v:=.agg #[.bool n3,.slice A3 m3 c3,.int .i64 (e1+e2)]) (by simp [results,Tryz.results188,go_sem,hk4_0,hk4_1,hk4_2]) rfl ?_
 exact⟨A3,m3,c3,rfl,(LL3.out.has 0 rfl).u32 HU3.out [.bool n3,.slice A3 m3 c3,.int .i64 (e1+e2)],LF.out.b⟩
theorem rmul_exact(d:Int)(x y p:Nat)(w:World)(hd:d=-1∨d=1)(hx:x<18446744073709551616)(hy:y<18446744073709551616)(rx:rungOf x<M)(ry:rungOf y<M)(hp:FloatKind.f64.format.mul x y=some p)(hp1:p<18446744073709551616)(hp2:rungOf p≤M)(hm:¬ (mid x=true∧mid y=true∧mid p=true)):
  Calls Tryz.prog 119 #[.int .i64 d,.float .f64 x,.float .f64 y] w fun e w'=>e=.returned (.float .f64 (pat (rndI d (fl (idx x)*fl (idx y)))))∧Below w.heap.size w w':=by
 have hM:M=9218868437227405312:=rfl;have A1:=fun W=>run_float_arith (P:=Tryz.prog) W .mul 26 .f64 x y p hp;obtain⟨S1,e1,b1,l1,u1,v1,HP1⟩:=part_any x hx rx;obtain⟨S2,e2,b2,l2,u2,v2,HP2⟩:=part_any y hy ry;have k1:blen S1≤53:=blen_le_iff.2 (show S1<2^53 from b1);have k2:blen S2≤53:=blen_le_iff.2 (show S2<2^53 from b2)
 have kb:blen (S1*S2)≤106:=blen_le_iff.2 (by
  refine Nat.lt_of_le_of_lt (Nat.mul_le_mul_left S1 (Nat.le_of_lt b2)) ?_;rw [show (2:Nat)^106=2^53*2^53 from by rw [← Nat.pow_add]]
  exact (Nat.mul_lt_mul_right (by omega)).2 b1)
 have hV:rv (sgn x != sgn y) (S1*S2) 1*2^(e1+e2)=fl (idx x)*fl (idx y):=by
  have hm:=rv_mul (sgn x) (sgn y) S1 1 S2 1;rw [Nat.mul_one] at hm;rw [v1,v2,zpow_add,← hm]
  grind
 have HS0:=fun (A1:Option Addr) (m1 c1:Nat) (A2:Option Addr) (m2 c2:Nat) (W:World) (h1:U32s W A1 m1 c1 (digs S1)) (h2:U32s W A2 m2 c2 (digs S2))=>rprod_any (sgn x) A1 m1 c1 S1 e1 (sgn y) A2 m2 c2 S2 e2 W h1 h2 b1 b2 (by omega) (by omega);have HT0:=fun (A:Option Addr) (m c:Nat) (W:World) (h:U32s W A m c (digs (S1*S2)))=>to_any d (sgn x != sgn y) A m c (S1*S2) (e1+e2) W h hd (by omega) (by omega) (by omega);rw [hV] at HT0;have HS:=Hd HS0;have HT:=Hd HT0;have HX1:=Hd HP1;have HX2:=Hd HP2
 obtain⟨n1,hn1⟩:∃ z,sgn x=z:=⟨_,rfl⟩
 obtain⟨n2,hn2⟩:∃ z,sgn y=z:=⟨_,rfl⟩
 rw [hn1] at HX1 HS HT;rw [hn2] at HX2 HS HT
 obtain⟨n3,hn3⟩:∃ z,(n1 != n2)=z:=⟨_,rfl⟩
 obtain⟨S,hS⟩:∃ z,S1*S2=z:=⟨_,rfl⟩
 obtain⟨E,hE⟩:∃ z,e1+e2=z:=⟨_,rfl⟩
 rw [hn3,hS,hE] at HS HT;clear HP1 HP2 HS0 HT0 hS hE hV kb k1 k2 b1 b2 l1 l2 u1 u2 v1 v2 hn1 hn2 hn3 hp
 have ho:(decide (rungOf x=M) || decide (rungOf y=M))=false:=by
  rw [decide_eq_false (by omega),decide_eq_false (by omega)];rfl
 have HO0:=fun (W:World) (hb:Below w.heap.size w W)=>odd_two W.heap.size x y (W.alloc (.cells #[.float .f64 x,.float .f64 y] 26)) hx hy (by omega) (by omega) (by simp [World.cell?_alloc_new]) (by simp [World.cell?_alloc_new]);rw [ho] at HO0;have HO:=Hd HO0;have HX0:=fun W=>middle_any x W hx (by omega);have HY0:=fun W=>middle_any y W hy (by omega);have HQ0:=fun W=>middle_any p W hp1 hp2
 obtain⟨mx,ex⟩:∃ z,mid x=z:=⟨_,rfl⟩
 obtain⟨my,ey⟩:∃ z,mid y=z:=⟨_,rfl⟩
 obtain⟨mp,ep⟩:∃ z,mid p=z:=⟨_,rfl⟩
 rw [ex] at HX0 hm;rw [ey] at HY0 hm;rw [ep] at HQ0 hm;have HX:=Hd HX0;have HY:=Hd HY0;have HQ:=Hd HQ0;have LB:=Hd (below_alloc w (.cells #[.float .f64 x,.float .f64 y] 26))
 have hc:mx=false∨(mx=true∧my=false)∨(mx=true∧my=true∧mp=false):=by
  cases mx
  ·exact .inl rfl
  ·cases my
   ·exact .inr (.inl ⟨rfl,rfl⟩)
   ·cases mp
    ·exact .inr (.inr ⟨rfl,rfl,rfl⟩)
    ·exact absurd ⟨rfl,rfl,rfl⟩ hm
 obtain⟨r,hr⟩:∃ r,pat (rndI d (fl (idx x)*fl (idx y)))=r:=⟨_,rfl⟩
 rw [hr] at HT ⊢;clear HO0 ho hr rx ry hx hy hd hM hm ex ey ep HX0 HY0 HQ0 hp1 hp2
 rcases hc with rfl | ⟨rfl,rfl⟩ | ⟨rfl,rfl,rfl⟩
 all_goals
  go_enter Tryz.func119,Tryz.ntmps119
  go_wp2_with fail
  apply scope_once 0 _ _ rfl
  focus
   go_wp2_with fail;refine (HO.out _ (Below.refl _ _)).mono ?_;rintro e w' ⟨rfl,rfl⟩;go_wp2_with fail;refine (HX.out _).mono ?_;rintro e w' ⟨rfl,rfl⟩;go_wp2_with fail
   try (refine (HY.out _).mono ?_;rintro e w' ⟨rfl,rfl⟩;go_wp2_with fail)
   try (refine (HQ.out _).mono ?_;rintro e w' ⟨rfl,rfl⟩;go_wp2_with fail)
   try go_step3
   exact⟨rfl,rfl,rfl⟩
  clear HO HX HY HQ;generalize w.alloc (.cells #[.float .f64 x,.float .f64 y] 26)=wa at LB ⊢;go_wp2_with fail;refine (HX1.out _).mono ?_;rintro e w1 ⟨A1,m1,c1,rfl,hu1,hb1⟩;have LB1:=Hd (LB.out.trans (hb1.mono LB.out.size));have U1:=Hd hu1;clear hu1 hb1 LB;go_wp2_with fail;refine (HX2.out _).mono ?_;rintro e w2 ⟨A2,m2,c2,rfl,hu2,hb2⟩;have LB2:=stB LB1 hb2 LB1.out.size;have V1:=Hd (U1.out.below hb2);have V2:=Hd hu2;clear hu2 hb2 LB1 U1;go_wp2_with fail;refine (HS.out _ _ _ _ _ _ _ V1.out V2.out).mono ?_;rintro e w3 ⟨A3,m3,c3,rfl,hu3,hb3⟩;have LB3:=stB LB2 hb3 LB2.out.size;have V3:=Hd hu3;clear hu3 hb3 LB2 V1 V2;go_wp2_with fail;refine (HT.out _ _ _ _ V3.out).mono ?_;rintro e w4 ⟨rfl,hb4⟩;have LB4:=stB LB3 hb4 LB3.out.size;clear hb4 LB3 V3;go_wp2
  simp only [Exit.jump]
  go_ret
  exact⟨rfl,LB4.out⟩
theorem sgn_pat{i:Int}(h:-(M:Int)≤i∧i≤M)(h0:i≠0):sgn (pat i)=decide (i<0):=by
 have c:=pat_cases (pat_lt h.1 h.2);rw [idx_pat h.1 h.2] at c
 rcases c with ⟨c1,c2,c3,c4⟩ | ⟨c1,c2,c3,c4⟩
 ·rw [c3,decide_eq_false (by omega)]
 ·rw [c3,decide_eq_true (by omega)]
def mu(d i j:Int):Int:=if i=M∨i=-(M:Int)∨j=M∨j=-(M:Int) then (if (decide (i<0) ^^ decide (j<0))=true then -(M:Int) else M) else rndI d (fl i*fl j)
theorem rmul_pat(d i j:Int)(w:World)(hd:d=-1∨d=1)(hi:-(M:Int)≤i∧i≤M)(hj:-(M:Int)≤j∧j≤M)(ni:i≠0)(nj:j≠0):
  Calls Tryz.prog 119 #[.int .i64 d,.float .f64 (pat i),.float .f64 (pat j)] w fun e w'=>e=.returned (.float .f64 (pat (mu d i j)))∧Below w.heap.size w w':=by
 have hM:M=9218868437227405312:=rfl;have px:=pat_lt hi.1 hi.2;have py:=pat_lt hj.1 hj.2;have rx:=rung_pat hi.1 hi.2;have ry:=rung_pat hj.1 hj.2;unfold mu
 by_cases h:i=M∨i=-(M:Int)∨j=M∨j=-(M:Int)
 ·rw [if_pos h];have hm:=mul_inf (x:=pat i) (y:=pat j) (by omega) (by omega) (by omega) (by omega) (by omega);rw [sgn_pat hi ni,sgn_pat hj nj] at hm
  obtain⟨k,hk⟩:∃ k:Int,(if (decide (i<0) ^^ decide (j<0))=true then -(M:Int) else M)=k:=⟨_,rfl⟩
  have hk2:-(M:Int)≤k∧k≤M:=by rw [← hk];split<;>omega
  rw [hk] at hm ⊢;have hp:=fun W=>rplain (pat k) W (pat_lt hk2.1 hk2.2) (by rw [rung_pat hk2.1 hk2.2];omega);rw [idx_pat hk2.1 hk2.2] at hp;refine rmul_inf d (pat i) (pat j) (pat k) (pat k) w px py (by omega) (by omega) ?_ hm hp
  by_cases h2:rungOf (pat i)=M
  ·rw [decide_eq_true h2];rfl
  ·rw [decide_eq_true (show rungOf (pat j)=M by omega),Bool.or_true]
 ·rw [if_neg h];obtain⟨p,hp,his⟩:=mul_fin (show fin (pat i) by unfold fin;omega) (show fin (pat j) by unfold fin;omega);have hr:=near_range (val (idx (pat i))*val (idx (pat j))) 1074;have hn:=idx_natAbs p;rw [his.idx] at hn
  have hp2:rungOf p≤M:=by omega
  have e:rndI d (fl i*fl j)=rndI d (fl (idx (pat i))*fl (idx (pat j))):=by rw [idx_pat hi.1 hi.2,idx_pat hj.1 hj.2]
  rw [e]
  by_cases hm:mid (pat i)=true∧mid (pat j)=true∧mid p=true
  ·exact rmul_quick d (pat i) (pat j) p w hd px py (by omega) (by omega) hp hm.1 hm.2.1 hm.2.2
  ·exact rmul_exact d (pat i) (pat j) p w hd px py (by omega) (by omega) hp his.lt hp2 hm
end Go.Proofs.YthlmlmfebpjgdaaGreatDoor
namespace Go.Proofs.YthlmlmfebpjgdaaGreatDoor
open Go.RowKit
attribute [local go_sem] run_store_float
set_option maxRecDepth 8000 in
theorem product_walk(x y p1 p2:Nat)(w:World)(h1:∀ W,Calls Tryz.prog 119 #[.int .i64 (-1),.float .f64 x,.float .f64 y] W fun e w'=>e=.returned (.float .f64 p1)∧Below W.heap.size W w')(h2:∀ W,Calls Tryz.prog 119 #[.int .i64 1,.float .f64 x,.float .f64 y] W fun e w'=>e=.returned (.float .f64 p2)∧Below W.heap.size W w'):
  Calls Tryz.prog 78 #[.float .f64 x,.float .f64 y] w fun e w'=>e=.returned (.agg #[.float .f64 p1,.float .f64 p2])∧Below w.heap.size w w':=by
 have H1:=Hd h1;have H2:=Hd h2;clear h1 h2;have LL:=li1 w #[.float .f64 0,.float .f64 0] 78
 go_enter Tryz.func78,Tryz.ntmps78
 go_wp2_with fail;refine (H1.out _).mono ?_;rintro e wk ⟨rfl,hb⟩;replace LL:=stL LL hb;clear hb;go_wp2_with fail;refine (H2.out _).mono ?_;rintro e wk ⟨rfl,hb⟩;replace LL:=stL LL hb;clear hb;replace LL:=Hd (LL.out.loose 0 rfl rfl)
 simp only [List.eraseIdx,List.size_toArray,List.length_cons,List.length_nil,Nat.zero_add,Nat.reduceAdd] at LL
 obtain⟨ha4_0,hf4_0,ha4_1,hf4_1⟩:=(LL.out.has 0 rfl).sf2;have LF:=Hd (LL.out.write [.float .f64 p1,.float .f64 p2] rfl (by omega) (by simp<;>omega) (by simp<;>omega));obtain⟨hk4_0,hk4_1⟩:=(LF.out.blk 0 rfl).c2
 simp [sets] at hk4_0 hk4_1
 clear LL;go_wp2;refine bodyPost_ret (v:=.agg #[.float .f64 p1,.float .f64 p2]) (by simp [results,Tryz.results78,go_sem,hk4_0,hk4_1]) rfl ?_
 exact⟨rfl,LF.out.b⟩
set_option maxRecDepth 8000 in
theorem dividend_none(B1 B2 C1 C2 x1 x2:Nat)(w:World)(h:FloatKind.f64.format.order B2 0=some .eq∨FloatKind.f64.format.order B2 0=some .lt):
  Calls Tryz.prog 86 #[.agg #[.float .f64 B1,.float .f64 B2],.agg #[.float .f64 C1,.float .f64 C2],.agg #[.float .f64 x1,.float .f64 x2]] w fun e w'=>e=.returned (.agg #[.float .f64 9218868437227405312,.float .f64 18442240474082181120])∧Below w.heap.size w w':=by
 have HE:=Hd emptyf
 rcases h with h | h
 all_goals
  have LL:=li4 w #[.float .f64 B1,.float .f64 B2] 28 #[.float .f64 C1,.float .f64 C2] 28 #[.float .f64 x1,.float .f64 x2] 28 #[.float .f64 0,.float .f64 0] 28
  go_enter Tryz.func86,Tryz.ntmps86
  obtain⟨q1_0,q1_1⟩:=(LL.out.blk 0 rfl).c2;go_wp2_with fail;refine (HE.out _).mono ?_;rintro e wk ⟨rfl,hb⟩;replace LL:=stL LL hb;clear hb q1_0 q1_1 h;replace LL:=Hd (LL.out.loose 3 rfl rfl)
  simp only [List.eraseIdx,List.size_toArray,List.length_cons,List.length_nil,Nat.zero_add,Nat.reduceAdd] at LL
  obtain⟨ha6_0,hf6_0,ha6_1,hf6_1⟩:=(LL.out.has 0 rfl).sf2;have LF:=Hd (LL.out.write [.float .f64 9218868437227405312,.float .f64 18442240474082181120] rfl (by omega) (by simp<;>omega) (by simp<;>omega));obtain⟨hk6_0,hk6_1⟩:=(LF.out.blk 3 rfl).c2
  simp [sets] at hk6_0 hk6_1
  clear LL;go_wp2;refine bodyPost_ret (v:=.agg #[.float .f64 9218868437227405312,.float .f64 18442240474082181120]) (by simp [results,Tryz.results86,go_sem,hk6_0,hk6_1]) rfl ?_
  exact⟨rfl,LF.out.b⟩
set_option maxRecDepth 8000 in
theorem dividend_walk(B1 B2 C1 C2 x1 x2 F P1 P2 Q1 Q2 r1 r2:Nat)(oF o1 o2:Ordering)(hz:Bool)(w:World)(h1:FloatKind.f64.format.order B2 0=some .gt)(hm:∀ W ts t,(Builtin.max_ ts t #[.float .f64 B1,.float .f64 0]).run Tryz.prog W=.ok (.float .f64 F) W)
  (hf:FloatKind.f64.format.order F 0=some oF)(hc1:FloatKind.f64.format.order C1 0=some o1)(hc2:FloatKind.f64.format.order C2 0=some o2)
  (hp:(o1=.lt∧∀ W,Calls Tryz.prog 78 #[.float .f64 C1,.float .f64 B2] W fun e w'=>e=.returned (.agg #[.float .f64 P1,.float .f64 P2])∧Below W.heap.size W w')∨(o1=.gt∧oF=.gt∧∀ W,Calls Tryz.prog 78 #[.float .f64 C1,.float .f64 F] W fun e w'=>e=.returned (.agg #[.float .f64 P1,.float .f64 P2])∧Below W.heap.size W w')∨((o1=.eq∨o1=.gt∧oF=.eq)∧P1=0∧P2=0))
  (hq:(o2=.gt∧∀ W,Calls Tryz.prog 78 #[.float .f64 C2,.float .f64 B2] W fun e w'=>e=.returned (.agg #[.float .f64 Q1,.float .f64 Q2])∧Below W.heap.size W w')∨(o2=.lt∧oF=.gt∧∀ W,Calls Tryz.prog 78 #[.float .f64 C2,.float .f64 F] W fun e w'=>e=.returned (.agg #[.float .f64 Q1,.float .f64 Q2])∧Below W.heap.size W w')∨((o2=.eq∨o2=.lt∧oF=.eq)∧Q1=0∧Q2=0))
  (hh:∀ W,Calls Tryz.prog 87 #[.agg #[.float .f64 C1,.float .f64 C2]] W fun e w'=>e=.returned (.bool hz)∧Below W.heap.size W w')(hcut:∀ W,Calls Tryz.prog 77 #[.agg #[.float .f64 x1,.float .f64 x2],.agg #[.float .f64 P1,.float .f64 P2],.agg #[.float .f64 Q1,.float .f64 Q2],.bool (!hz)] W fun e w'=>e=.returned (.agg #[.float .f64 r1,.float .f64 r2])∧Below W.heap.size W w'):
  Calls Tryz.prog 86 #[.agg #[.float .f64 B1,.float .f64 B2],.agg #[.float .f64 C1,.float .f64 C2],.agg #[.float .f64 x1,.float .f64 x2]] w fun e w'=>e=.returned (.agg #[.float .f64 r1,.float .f64 r2])∧Below w.heap.size w w':=by
 have HZ:=Hd fun W=>at_any 0 W;have H1:=Hd h1;have HM:=Hd hm;have HF:=Hd hf;have HC1:=Hd hc1;have HC2:=Hd hc2;have HP:=Hd hp;have HQ:=Hd hq;have HH:=Hd hh;have HCUT:=Hd hcut;clear h1 hm hf hc1 hc2 hp hq hh hcut;have LL:=li4 w #[.float .f64 B1,.float .f64 B2] 28 #[.float .f64 C1,.float .f64 C2] 28 #[.float .f64 x1,.float .f64 x2] 28 #[.float .f64 0,.float .f64 0] 28
 go_enter Tryz.func86,Tryz.ntmps86
 obtain⟨q1_0,q1_1⟩:=(LL.out.blk 0 rfl).c2;have h1:=H1.out
 go_upto_region 3 with fail
 clear h1 H1 q1_0 q1_1;have hm:=HM.out;refine regL LL (fun hHeld=>?_);clear LL;generalize World.drew _=wk at hHeld  ⊢;refine tk 0 ?_;(try simp only [Act.put,lay]);refine tk 1 ?_ (hv:=by intro W2 hSw;obtain⟨q0,q1⟩:=(hSw.blk 0 rfl).c2;go_simp;(try with_reducible rfl));(try simp only [Act.put,lay]);refine tk 3 ?_;(try simp only [Act.put,lay]);refine tk 4 ?_ (hv:=by intro W2 hSw;obtain⟨q0,q1⟩:=(hSw.blk 0 rfl).c2;go_simp;(try with_reducible rfl));(try simp only [Act.put,lay]);refine rdy 2 (fun KK hKK=>?_);go_simp;refine hKK.out _ _ hHeld (fun _=>?_);clear hKK KK hHeld;rename_i hHeld;(try simp only [Act.put,lay]);refine tk 5 ?_;(try simp only [Act.put,lay]);refine tk 6 ?_;(try simp only [Act.put,lay]);refine wpAnyH_done (by kernel_rfl) ?_ _;have LL:=Hd hHeld;clear hHeld;clear hm HM;go_wp2_with fail;refine (HZ.out _).mono ?_;rintro e wk ⟨rfl,hb⟩;replace LL:=stL LL hb;clear hb;go_wp2_with fail;refine (HZ.out _).mono ?_;rintro e wk ⟨rfl,hb⟩;replace LL:=stL LL hb;clear hb
 go_upto_block 0 with fail
 have hl_j9:=LL.out.lts;generalize hwm:World.alloc wk _=wm;replace LL:=Hd (LL.out.newE hwm)
 have hz:wm.heap.size=wk.heap.size+1:=by rw [← hwm];simp
 clear hwm;generalize hwn:World.alloc wm _=wn;replace LL:=Hd (LL.out.newE hwn);rw [hz] at LL
 simp only [List.cons_append,List.nil_append] at LL
 simp only [List.mem_cons,List.not_mem_nil,or_false,forall_eq_or_imp,forall_eq,false_imp_iff,implies_true,and_true] at hl_j9
 clear hwn hz;generalize wk.heap.size=j9 at LL hl_j9 ⊢
 go_cut [] (fun wx=>Lies w wx [(w.heap.size,28,#[.float .f64 B1,.float .f64 B2]),((w.heap.size+1),28,#[.float .f64 C1,.float .f64 C2]),((w.heap.size+2),28,#[.float .f64 x1,.float .f64 x2]),((w.heap.size+3),28,#[.float .f64 0,.float .f64 0]),((j9+1),78,#[.float .f64 0,.float .f64 0]),(j9,78,#[.float .f64 P1,.float .f64 P2])] [])
 case first=>
  rcases HP.out with ⟨e,k⟩ | ⟨e,e2,k⟩ | ⟨e | ⟨e,e2⟩,e3,e4⟩
  ·skip;subst e;have oc:=HC1.out;obtain⟨q2_0,q2_1⟩:=(LL.out.blk 1 rfl).c2;have K:=Hd k;clear k;go_wp2_with fail;refine (K.out _).mono ?_;rintro e wk ⟨rfl,hb⟩;replace LL:=stL LL hb;clear hb q2_0 q2_1 oc K;obtain⟨q3_0,q3_1⟩:=(LL.out.blk 4 rfl).c2;have fz0:=(LL.out.blk 4 rfl).frozen 0;have fz1:=(LL.out.blk 4 rfl).frozen 1;go_wp2_with fail;clear q3_0 q3_1 fz0 fz1;replace LL:=Hd (LL.out.part 4 rfl 0 [.float .f64 P1,.float .f64 P2] (by omega) (by simp<;>omega) (by simp<;>omega))
   simp only [List.eraseIdx,laid,List.cons_append,List.nil_append,List.setIfInBounds_toArray,List.set_cons_zero,List.set_cons_succ,Nat.zero_add,Nat.reduceAdd] at LL
   obtain⟨wn,hwn⟩:∃ X,(sets wk j9 0 [.float .f64 P1,.float .f64 P2])=X:=⟨_,rfl⟩
   rw [hwn] at LL
   simp only [sets,Nat.reduceAdd] at hwn
   rw [hwn];clear hwn
   go_meet
   case rel=>exact LL.out.perm (by simp) (by simp)
  ·skip;subst e;subst e2;have oc:=HC1.out;have of:=HF.out;obtain⟨q2_0,q2_1⟩:=(LL.out.blk 1 rfl).c2;have K:=Hd k;clear k;go_wp2_with fail;refine (K.out _).mono ?_;rintro e wk ⟨rfl,hb⟩;replace LL:=stL LL hb;clear hb q2_0 q2_1 oc K of;obtain⟨q3_0,q3_1⟩:=(LL.out.blk 4 rfl).c2;have fz0:=(LL.out.blk 4 rfl).frozen 0;have fz1:=(LL.out.blk 4 rfl).frozen 1;go_wp2_with fail;clear q3_0 q3_1 fz0 fz1;replace LL:=Hd (LL.out.part 4 rfl 0 [.float .f64 P1,.float .f64 P2] (by omega) (by simp<;>omega) (by simp<;>omega))
   simp only [List.eraseIdx,laid,List.cons_append,List.nil_append,List.setIfInBounds_toArray,List.set_cons_zero,List.set_cons_succ,Nat.zero_add,Nat.reduceAdd] at LL
   obtain⟨wn,hwn⟩:∃ X,(sets wk j9 0 [.float .f64 P1,.float .f64 P2])=X:=⟨_,rfl⟩
   rw [hwn] at LL
   simp only [sets,Nat.reduceAdd] at hwn
   rw [hwn];clear hwn
   go_meet
   case rel=>exact LL.out.perm (by simp) (by simp)
  ·skip;subst e;subst e3;subst e4;have oc:=HC1.out;obtain⟨q2_0,q2_1⟩:=(LL.out.blk 1 rfl).c2;go_wp2_with fail
   go_meet
   case rel=>exact LL.out.perm (by simp) (by simp)
  ·skip;subst e;subst e2;subst e3;subst e4;have oc:=HC1.out;have of:=HF.out;obtain⟨q2_0,q2_1⟩:=(LL.out.blk 1 rfl).c2;go_wp2_with fail
   go_meet
   case rel=>exact LL.out.perm (by simp) (by simp)
 case rest=>
 have hcl:=hcut;rename World=>wx;clear hcut LL HP HC1;have LL:=Hd hcl;clear hcl
 go_upto_block 1 with fail
 go_cut [] (fun wx=>Lies w wx [(w.heap.size,28,#[.float .f64 B1,.float .f64 B2]),((w.heap.size+1),28,#[.float .f64 C1,.float .f64 C2]),((w.heap.size+2),28,#[.float .f64 x1,.float .f64 x2]),((w.heap.size+3),28,#[.float .f64 0,.float .f64 0]),(j9,78,#[.float .f64 P1,.float .f64 P2]),((j9+1),78,#[.float .f64 Q1,.float .f64 Q2])] [])
 case first=>
  rcases HQ.out with ⟨e,k⟩ | ⟨e,e2,k⟩ | ⟨e | ⟨e,e2⟩,e3,e4⟩
  ·skip;subst e;have oc:=HC2.out;obtain⟨q2_0,q2_1⟩:=(LL.out.blk 1 rfl).c2;have K:=Hd k;clear k;go_wp2_with fail;refine (K.out _).mono ?_;rintro e wk ⟨rfl,hb⟩;replace LL:=stL LL hb;clear hb q2_0 q2_1 oc K;obtain⟨q3_0,q3_1⟩:=(LL.out.blk 4 rfl).c2;have fz0:=(LL.out.blk 4 rfl).frozen 0;have fz1:=(LL.out.blk 4 rfl).frozen 1;go_wp2_with fail;clear q3_0 q3_1 fz0 fz1;replace LL:=Hd (LL.out.part 4 rfl 0 [.float .f64 Q1,.float .f64 Q2] (by omega) (by simp<;>omega) (by simp<;>omega))
   simp only [List.eraseIdx,laid,List.cons_append,List.nil_append,List.setIfInBounds_toArray,List.set_cons_zero,List.set_cons_succ,Nat.zero_add,Nat.reduceAdd] at LL
   obtain⟨wn,hwn⟩:∃ X,(sets wk (j9+1) 0 [.float .f64 Q1,.float .f64 Q2])=X:=⟨_,rfl⟩
   rw [hwn] at LL
   simp only [sets,Nat.reduceAdd] at hwn
   rw [hwn];clear hwn
   go_meet
   case rel=>exact LL.out.perm (by simp) (by simp)
  ·skip;subst e;subst e2;have oc:=HC2.out;have of:=HF.out;obtain⟨q2_0,q2_1⟩:=(LL.out.blk 1 rfl).c2;have K:=Hd k;clear k;go_wp2_with fail;refine (K.out _).mono ?_;rintro e wk ⟨rfl,hb⟩;replace LL:=stL LL hb;clear hb q2_0 q2_1 oc K of;obtain⟨q3_0,q3_1⟩:=(LL.out.blk 4 rfl).c2;have fz0:=(LL.out.blk 4 rfl).frozen 0;have fz1:=(LL.out.blk 4 rfl).frozen 1;go_wp2_with fail;clear q3_0 q3_1 fz0 fz1;replace LL:=Hd (LL.out.part 4 rfl 0 [.float .f64 Q1,.float .f64 Q2] (by omega) (by simp<;>omega) (by simp<;>omega))
   simp only [List.eraseIdx,laid,List.cons_append,List.nil_append,List.setIfInBounds_toArray,List.set_cons_zero,List.set_cons_succ,Nat.zero_add,Nat.reduceAdd] at LL
   obtain⟨wn,hwn⟩:∃ X,(sets wk (j9+1) 0 [.float .f64 Q1,.float .f64 Q2])=X:=⟨_,rfl⟩
   rw [hwn] at LL
   simp only [sets,Nat.reduceAdd] at hwn
   rw [hwn];clear hwn
   go_meet
   case rel=>exact LL.out.perm (by simp) (by simp)
  ·skip;subst e;subst e3;subst e4;have oc:=HC2.out;obtain⟨q2_0,q2_1⟩:=(LL.out.blk 1 rfl).c2;go_wp2_with fail
   go_meet
   case rel=>exact LL.out.perm (by simp) (by simp)
  ·skip;subst e;subst e2;subst e3;subst e4;have oc:=HC2.out;have of:=HF.out;obtain⟨q2_0,q2_1⟩:=(LL.out.blk 1 rfl).c2;go_wp2_with fail
   go_meet
   case rel=>exact LL.out.perm (by simp) (by simp)
 case rest=>
 have hcl:=hcut;rename World=>wx;clear hcut LL HQ HC2;have LL:=Hd hcl;clear hcl;clear HF;go_wp2_with fail;replace LL:=Hd (LL.out.loose 3 rfl rfl)
 simp only [List.eraseIdx,List.size_toArray,List.length_cons,List.length_nil,Nat.zero_add,Nat.reduceAdd] at LL
 refine regL LL (fun hHeld=>?_);clear LL;generalize World.drew _=wk at hHeld  ⊢;refine tk 0 ?_ (hv:=by intro W2 hSw;obtain⟨q0,q1⟩:=(hSw.blk 2 rfl).c2;go_simp;(try with_reducible rfl));(try simp only [Act.put,lay]);refine tk 1 ?_ (hv:=by intro W2 hSw;obtain⟨q0,q1⟩:=(hSw.blk 3 rfl).c2;go_simp;(try with_reducible rfl));(try simp only [Act.put,lay]);refine tk 2 ?_ (hv:=by intro W2 hSw;obtain⟨q0,q1⟩:=(hSw.blk 4 rfl).c2;go_simp;(try with_reducible rfl));(try simp only [Act.put,lay]);refine tk 3 ?_ (hv:=by intro W2 hSw;obtain⟨q0,q1⟩:=(hSw.blk 1 rfl).c2;go_simp;(try with_reducible rfl));(try simp only [Act.put,lay]);refine rdy 4 (fun KK hKK=>?_);go_simp;refine (HH.out _).mono ?_;rintro e wk ⟨rfl,hb1⟩;go_wp2_with fail;refine hKK.out _ _ (hHeld.keep hb1) (fun _=>?_);clear hKK KK hHeld;rename_i hHeld;(try simp only [Act.put,lay]);clear hb1;refine tk 5 ?_;(try simp only [Act.put,lay]);refine rdy 6 (fun KK hKK=>?_);go_simp;refine (HCUT.out _).mono ?_;rintro e wk ⟨rfl,hb2⟩;go_wp2_with fail;refine hKK.out _ _ (hHeld.keep hb2) (fun _=>?_);clear hKK KK hHeld;rename_i hHeld;(try simp only [Act.put,lay]);clear hb2;refine rdy 7 (fun KK hKK=>?_);obtain⟨ha0,hf0,ha1,hf1⟩:=(hHeld.has 0 rfl).sf2;go_simp;have HS_0:=(hHeld.has 0 rfl).laid [.float .f64 r1,.float .f64 r2] rfl;refine hKK.out _ _ (hHeld.over 0 rfl [.float .f64 r1,.float .f64 r2] rfl rfl (by first | omega | exact hHeld.le_of 0 rfl) (by simp<;>omega) (by simp<;>omega)) (fun _=>?_);clear hKK KK hHeld;rename_i hHeld;(try simp only [Act.put,lay])
 refine wpAnyH_done (by kernel_rfl) ?_ _;have LB:=Hd hHeld.b;clear hHeld;obtain⟨hk6_0,hk6_1⟩:=HS_0.c2;clear HS_0
 simp [sets] at hk6_0 hk6_1
 go_wp2;refine bodyPost_ret (v:=.agg #[.float .f64 r1,.float .f64 r2]) (by simp [results,Tryz.results86,go_sem,hk6_0,hk6_1]) rfl ?_
 exact⟨rfl,LB.out⟩
set_option maxRecDepth 8000 in
theorem divrev1_none(b1 b2 c1 c2 y1 y2 A1 A2 C1 C2 x1 x2:Nat)(d1 d2 d3:Bool)(w:World)(t1:∀ W,Calls Tryz.prog 102 #[.agg #[.float .f64 b1,.float .f64 b2]] W fun e w'=>e=.returned (.agg #[.float .f64 A1,.float .f64 A2])∧Below W.heap.size W w')(m1:Em d1 A1 A2)(t2:∀ W,Calls Tryz.prog 102 #[.agg #[.float .f64 c1,.float .f64 c2]] W fun e w'=>e=.returned (.agg #[.float .f64 C1,.float .f64 C2])∧Below W.heap.size W w')(m2:Em d2 C1 C2)(t3:∀ W,Calls Tryz.prog 102 #[.agg #[.float .f64 y1,.float .f64 y2]] W fun e w'=>e=.returned (.agg #[.float .f64 x1,.float .f64 x2])∧Below W.heap.size W w')(m3:Em d3 x1 x2)(hnn:(d1 || d2 || d3)=true):
  Calls Tryz.prog 26 #[.agg #[.float .f64 b1,.float .f64 b2],.agg #[.float .f64 c1,.float .f64 c2],.agg #[.float .f64 y1,.float .f64 y2]] w fun e w'=>e=.returned (.agg #[.float .f64 9218868437227405312,.float .f64 18442240474082181120])∧Below w.heap.size w w':=by
 have HE:=Hd emptyf;have LL:=li4 w #[.float .f64 b1,.float .f64 b2] 28 #[.float .f64 c1,.float .f64 c2] 28 #[.float .f64 y1,.float .f64 y2] 28 #[.float .f64 0,.float .f64 0] 28;have hrow:=Blk.at (W:=((((w.alloc (.cells #[.float .f64 b1,.float .f64 b2] 28)).alloc (.cells #[.float .f64 c1,.float .f64 c2] 28)).alloc (.cells #[.float .f64 y1,.float .f64 y2] 28)).alloc (.cells #[.float .f64 0,.float .f64 0] 28))) (g:=w.heap.size+1+1+1+1) (by simp) 75 #[.pointer (some ⟨w.heap.size,0,none⟩),.pointer (some ⟨w.heap.size+1,0,none⟩),.pointer (some ⟨w.heap.size+1+1,0,none⟩)]
 have HRD:=Hd (read_n w.heap.size 3 (w.heap.size+1+1+1+1) 3 (fun k:Nat=>if k=0 then (b1,b2) else if k=1 then (c1,c2) else (y1,y2)) (fun k:Nat=>if k=0 then (A1,A2) else if k=1 then (C1,C2) else (x1,x2)) (fun k:Nat=>if k=0 then d1 else if k=1 then d2 else d3) _ (by omega) (by omega)
  (fun k hk=>by match k,hk with | 0,_=>exact hrow.cell 0 | 1,_=>exact hrow.cell 1 | 2,_=>exact hrow.cell 2) (fun k hk=>by match k,hk with | 0,_=>exact (LL.out.blk 0 rfl).alloc (.cells #[.pointer (some ⟨w.heap.size,0,none⟩),.pointer (some ⟨w.heap.size+1,0,none⟩),.pointer (some ⟨w.heap.size+1+1,0,none⟩)] 75) | 1,_=>exact (LL.out.blk 1 rfl).alloc (.cells #[.pointer (some ⟨w.heap.size,0,none⟩),.pointer (some ⟨w.heap.size+1,0,none⟩),.pointer (some ⟨w.heap.size+1+1,0,none⟩)] 75) | 2,_=>exact (LL.out.blk 2 rfl).alloc (.cells #[.pointer (some ⟨w.heap.size,0,none⟩),.pointer (some ⟨w.heap.size+1,0,none⟩),.pointer (some ⟨w.heap.size+1+1,0,none⟩)] 75)) (fun k hk=>by match k,hk with | 0,_=>exact t1 | 1,_=>exact t2 | 2,_=>exact t3) (fun k hk=>by match k,hk with | 0,_=>exact m1 | 1,_=>exact m2 | 2,_=>exact m3))
 rw [show anyB (fun k:Nat=>if k=0 then d1 else if k=1 then d2 else d3) 3=(d1 || d2 || d3) from by simp [anyB],hnn] at HRD;have LLR:=Hd (LL.out.alloc (.cells #[.pointer (some ⟨w.heap.size,0,none⟩),.pointer (some ⟨w.heap.size+1,0,none⟩),.pointer (some ⟨w.heap.size+1+1,0,none⟩)] 75));have HSZ:=Hd (show w.heap.size≤((((((w.alloc (.cells #[.float .f64 b1,.float .f64 b2] 28)).alloc (.cells #[.float .f64 c1,.float .f64 c2] 28)).alloc (.cells #[.float .f64 y1,.float .f64 y2] 28)).alloc (.cells #[.float .f64 0,.float .f64 0] 28))).alloc (.cells #[.pointer (some ⟨w.heap.size,0,none⟩),.pointer (some ⟨w.heap.size+1,0,none⟩),.pointer (some ⟨w.heap.size+1+1,0,none⟩)] 75)).heap.size by simp;omega);clear t1 m1 t2 m2 t3 m3 hrow hnn LL
 go_enter Tryz.func26,Tryz.ntmps26
 go_wp2_with fail;refine HRD.out.mono ?_;rintro e wk ⟨rfl,hd,kp⟩;have LL:=Hd (show Lies w wk [(w.heap.size,28,#[.float .f64 A1,.float .f64 A2]),((w.heap.size+1),28,#[.float .f64 C1,.float .f64 C2]),((w.heap.size+2),28,#[.float .f64 x1,.float .f64 x2]),((w.heap.size+3),28,#[.float .f64 0,.float .f64 0])] [] from⟨kp.toBl LLR.out.b HSZ.out (Nat.le_refl _),by simp only [List.mem_cons,List.not_mem_nil,or_false,forall_eq_or_imp,forall_eq];exact⟨show Blk wk w.heap.size 28 #[.float .f64 A1,.float .f64 A2] from hd 0 (by omega),show Blk wk (w.heap.size+1) 28 #[.float .f64 C1,.float .f64 C2] from hd 1 (by omega),show Blk wk (w.heap.size+2) 28 #[.float .f64 x1,.float .f64 x2] from hd 2 (by omega),kp.blk (LLR.out.blk 3 rfl) (by omega)⟩,by simp⟩);clear hd kp LLR HSZ HRD;go_wp2_with fail;refine (HE.out _).mono ?_;rintro e wk ⟨rfl,hb⟩;replace LL:=stL LL hb;clear hb;replace LL:=Hd (LL.out.loose 3 rfl rfl)
 simp only [List.eraseIdx,List.size_toArray,List.length_cons,List.length_nil,Nat.zero_add,Nat.reduceAdd] at LL
 obtain⟨ha6_0,hf6_0,ha6_1,hf6_1⟩:=(LL.out.has 0 rfl).sf2;have LF:=Hd (LL.out.write [.float .f64 9218868437227405312,.float .f64 18442240474082181120] rfl (by omega) (by simp<;>omega) (by simp<;>omega));obtain⟨hk6_0,hk6_1⟩:=(LF.out.blk 3 rfl).c2
 simp [sets] at hk6_0 hk6_1
 clear LL;go_wp2;refine bodyPost_ret (v:=.agg #[.float .f64 9218868437227405312,.float .f64 18442240474082181120]) (by simp [results,Tryz.results26,go_sem,hk6_0,hk6_1]) rfl ?_
 exact⟨rfl,LF.out.b⟩
set_option maxRecDepth 8000 in
theorem divrev1_some(b1 b2 c1 c2 y1 y2 A1 A2 C1 C2 x1 x2 a1 a2 z1 z2 p1 q1 p2 q2 p3 q3 p4 q4:Nat)(d1 d2 d3:Bool)(w:World)(t1:∀ W,Calls Tryz.prog 102 #[.agg #[.float .f64 b1,.float .f64 b2]] W fun e w'=>e=.returned (.agg #[.float .f64 A1,.float .f64 A2])∧Below W.heap.size W w')(m1:Em d1 A1 A2)(t2:∀ W,Calls Tryz.prog 102 #[.agg #[.float .f64 c1,.float .f64 c2]] W fun e w'=>e=.returned (.agg #[.float .f64 C1,.float .f64 C2])∧Below W.heap.size W w')(m2:Em d2 C1 C2)(t3:∀ W,Calls Tryz.prog 102 #[.agg #[.float .f64 y1,.float .f64 y2]] W fun e w'=>e=.returned (.agg #[.float .f64 x1,.float .f64 x2])∧Below W.heap.size W w')(m3:Em d3 x1 x2)(hnn:(d1 || d2 || d3)=false)
  (hd1:∀ W,Calls Tryz.prog 86 #[.agg #[.float .f64 A1,.float .f64 A2],.agg #[.float .f64 C1,.float .f64 C2],.agg #[.float .f64 x1,.float .f64 x2]] W fun e w'=>e=.returned (.agg #[.float .f64 p1,.float .f64 q1])∧Below W.heap.size W w')(hm1:∀ W,Calls Tryz.prog 85 #[.agg #[.float .f64 A1,.float .f64 A2]] W fun e w'=>e=.returned (.agg #[.float .f64 a1,.float .f64 a2])∧Below W.heap.size W w')(hm2:∀ W,Calls Tryz.prog 85 #[.agg #[.float .f64 x1,.float .f64 x2]] W fun e w'=>e=.returned (.agg #[.float .f64 z1,.float .f64 z2])∧Below W.heap.size W w')(hd2:∀ W,Calls Tryz.prog 86 #[.agg #[.float .f64 a1,.float .f64 a2],.agg #[.float .f64 C1,.float .f64 C2],.agg #[.float .f64 z1,.float .f64 z2]] W fun e w'=>e=.returned (.agg #[.float .f64 p2,.float .f64 q2])∧Below W.heap.size W w')(hm3:∀ W,Calls Tryz.prog 85 #[.agg #[.float .f64 p2,.float .f64 q2]] W fun e w'=>e=.returned (.agg #[.float .f64 p3,.float .f64 q3])∧Below W.heap.size W w')(hu:∀ W,Calls Tryz.prog 63 #[.agg #[.float .f64 p1,.float .f64 q1],.agg #[.float .f64 p3,.float .f64 q3]] W fun e w'=>e=.returned (.agg #[.float .f64 p4,.float .f64 q4])∧Below W.heap.size W w'):
  Calls Tryz.prog 26 #[.agg #[.float .f64 b1,.float .f64 b2],.agg #[.float .f64 c1,.float .f64 c2],.agg #[.float .f64 y1,.float .f64 y2]] w fun e w'=>e=.returned (.agg #[.float .f64 p4,.float .f64 q4])∧Below w.heap.size w w':=by
 have HD1:=Hd hd1;have HM1:=Hd hm1;have HM2:=Hd hm2;have HD2:=Hd hd2;have HM3:=Hd hm3;have HU:=Hd hu;clear hd1 hm1 hm2 hd2 hm3 hu;have LL:=li4 w #[.float .f64 b1,.float .f64 b2] 28 #[.float .f64 c1,.float .f64 c2] 28 #[.float .f64 y1,.float .f64 y2] 28 #[.float .f64 0,.float .f64 0] 28;have hrow:=Blk.at (W:=((((w.alloc (.cells #[.float .f64 b1,.float .f64 b2] 28)).alloc (.cells #[.float .f64 c1,.float .f64 c2] 28)).alloc (.cells #[.float .f64 y1,.float .f64 y2] 28)).alloc (.cells #[.float .f64 0,.float .f64 0] 28))) (g:=w.heap.size+1+1+1+1) (by simp) 75 #[.pointer (some ⟨w.heap.size,0,none⟩),.pointer (some ⟨w.heap.size+1,0,none⟩),.pointer (some ⟨w.heap.size+1+1,0,none⟩)]
 have HRD:=Hd (read_n w.heap.size 3 (w.heap.size+1+1+1+1) 3 (fun k:Nat=>if k=0 then (b1,b2) else if k=1 then (c1,c2) else (y1,y2)) (fun k:Nat=>if k=0 then (A1,A2) else if k=1 then (C1,C2) else (x1,x2)) (fun k:Nat=>if k=0 then d1 else if k=1 then d2 else d3) _ (by omega) (by omega)
  (fun k hk=>by match k,hk with | 0,_=>exact hrow.cell 0 | 1,_=>exact hrow.cell 1 | 2,_=>exact hrow.cell 2) (fun k hk=>by match k,hk with | 0,_=>exact (LL.out.blk 0 rfl).alloc (.cells #[.pointer (some ⟨w.heap.size,0,none⟩),.pointer (some ⟨w.heap.size+1,0,none⟩),.pointer (some ⟨w.heap.size+1+1,0,none⟩)] 75) | 1,_=>exact (LL.out.blk 1 rfl).alloc (.cells #[.pointer (some ⟨w.heap.size,0,none⟩),.pointer (some ⟨w.heap.size+1,0,none⟩),.pointer (some ⟨w.heap.size+1+1,0,none⟩)] 75) | 2,_=>exact (LL.out.blk 2 rfl).alloc (.cells #[.pointer (some ⟨w.heap.size,0,none⟩),.pointer (some ⟨w.heap.size+1,0,none⟩),.pointer (some ⟨w.heap.size+1+1,0,none⟩)] 75)) (fun k hk=>by match k,hk with | 0,_=>exact t1 | 1,_=>exact t2 | 2,_=>exact t3) (fun k hk=>by match k,hk with | 0,_=>exact m1 | 1,_=>exact m2 | 2,_=>exact m3))
 rw [show anyB (fun k:Nat=>if k=0 then d1 else if k=1 then d2 else d3) 3=(d1 || d2 || d3) from by simp [anyB],hnn] at HRD;have LLR:=Hd (LL.out.alloc (.cells #[.pointer (some ⟨w.heap.size,0,none⟩),.pointer (some ⟨w.heap.size+1,0,none⟩),.pointer (some ⟨w.heap.size+1+1,0,none⟩)] 75));have HSZ:=Hd (show w.heap.size≤((((((w.alloc (.cells #[.float .f64 b1,.float .f64 b2] 28)).alloc (.cells #[.float .f64 c1,.float .f64 c2] 28)).alloc (.cells #[.float .f64 y1,.float .f64 y2] 28)).alloc (.cells #[.float .f64 0,.float .f64 0] 28))).alloc (.cells #[.pointer (some ⟨w.heap.size,0,none⟩),.pointer (some ⟨w.heap.size+1,0,none⟩),.pointer (some ⟨w.heap.size+1+1,0,none⟩)] 75)).heap.size by simp;omega);clear t1 m1 t2 m2 t3 m3 hrow hnn LL
 go_enter Tryz.func26,Tryz.ntmps26
 go_wp2_with fail;refine HRD.out.mono ?_;rintro e wk ⟨rfl,hd,kp⟩;have LL:=Hd (show Lies w wk [(w.heap.size,28,#[.float .f64 A1,.float .f64 A2]),((w.heap.size+1),28,#[.float .f64 C1,.float .f64 C2]),((w.heap.size+2),28,#[.float .f64 x1,.float .f64 x2]),((w.heap.size+3),28,#[.float .f64 0,.float .f64 0])] [] from⟨kp.toBl LLR.out.b HSZ.out (Nat.le_refl _),by simp only [List.mem_cons,List.not_mem_nil,or_false,forall_eq_or_imp,forall_eq];exact⟨show Blk wk w.heap.size 28 #[.float .f64 A1,.float .f64 A2] from hd 0 (by omega),show Blk wk (w.heap.size+1) 28 #[.float .f64 C1,.float .f64 C2] from hd 1 (by omega),show Blk wk (w.heap.size+2) 28 #[.float .f64 x1,.float .f64 x2] from hd 2 (by omega),kp.blk (LLR.out.blk 3 rfl) (by omega)⟩,by simp⟩);clear hd kp LLR HSZ HRD;go_wp2_with fail;replace LL:=Hd (LL.out.loose 3 rfl rfl)
 simp only [List.eraseIdx,List.size_toArray,List.length_cons,List.length_nil,Nat.zero_add,Nat.reduceAdd] at LL
 refine regL LL (fun hHeld=>?_);clear LL;generalize World.drew _=wk at hHeld  ⊢;refine tk 0 ?_ (hv:=by intro W2 hSw;obtain⟨q0,q1⟩:=(hSw.blk 0 rfl).c2;go_simp;(try with_reducible rfl));(try simp only [Act.put,lay]);refine tk 1 ?_ (hv:=by intro W2 hSw;obtain⟨q0,q1⟩:=(hSw.blk 1 rfl).c2;go_simp;(try with_reducible rfl));(try simp only [Act.put,lay]);refine tk 2 ?_ (hv:=by intro W2 hSw;obtain⟨q0,q1⟩:=(hSw.blk 2 rfl).c2;go_simp;(try with_reducible rfl));(try simp only [Act.put,lay]);refine tk 4 ?_ (hv:=by intro W2 hSw;obtain⟨q0,q1⟩:=(hSw.blk 0 rfl).c2;go_simp;(try with_reducible rfl));(try simp only [Act.put,lay]);refine tk 6 ?_ (hv:=by intro W2 hSw;obtain⟨q0,q1⟩:=(hSw.blk 1 rfl).c2;go_simp;(try with_reducible rfl));(try simp only [Act.put,lay]);refine tk 7 ?_ (hv:=by intro W2 hSw;obtain⟨q0,q1⟩:=(hSw.blk 2 rfl).c2;go_simp;(try with_reducible rfl));(try simp only [Act.put,lay]);refine rdy 3 (fun KK hKK=>?_);go_simp;refine (HD1.out _).mono ?_;rintro e wk ⟨rfl,hb1⟩;go_wp2_with fail;refine hKK.out _ _ (hHeld.keep hb1) (fun _=>?_);clear hKK KK hHeld;rename_i hHeld;(try simp only [Act.put,lay]);clear hb1;refine rdy 5 (fun KK hKK=>?_);go_simp;refine (HM1.out _).mono ?_;rintro e wk ⟨rfl,hb2⟩;go_wp2_with fail;refine hKK.out _ _ (hHeld.keep hb2) (fun _=>?_);clear hKK KK hHeld;rename_i hHeld;(try simp only [Act.put,lay]);clear hb2;refine rdy 8 (fun KK hKK=>?_);go_simp;refine (HM2.out _).mono ?_;rintro e wk ⟨rfl,hb3⟩;go_wp2_with fail;refine hKK.out _ _ (hHeld.keep hb3) (fun _=>?_);clear hKK KK hHeld
 rename_i hHeld;(try simp only [Act.put,lay]);clear hb3;refine rdy 9 (fun KK hKK=>?_);go_simp;refine (HD2.out _).mono ?_;rintro e wk ⟨rfl,hb4⟩;go_wp2_with fail;refine hKK.out _ _ (hHeld.keep hb4) (fun _=>?_);clear hKK KK hHeld;rename_i hHeld;(try simp only [Act.put,lay]);clear hb4;refine rdy 10 (fun KK hKK=>?_);go_simp;refine (HM3.out _).mono ?_;rintro e wk ⟨rfl,hb5⟩;go_wp2_with fail;refine hKK.out _ _ (hHeld.keep hb5) (fun _=>?_);clear hKK KK hHeld;rename_i hHeld;(try simp only [Act.put,lay]);clear hb5;refine rdy 11 (fun KK hKK=>?_);go_simp;refine (HU.out _).mono ?_;rintro e wk ⟨rfl,hb6⟩;go_wp2_with fail;refine hKK.out _ _ (hHeld.keep hb6) (fun _=>?_);clear hKK KK hHeld;rename_i hHeld;(try simp only [Act.put,lay]);clear hb6;refine rdy 12 (fun KK hKK=>?_);obtain⟨ha0,hf0,ha1,hf1⟩:=(hHeld.has 0 rfl).sf2;go_simp;have HS_0:=(hHeld.has 0 rfl).laid [.float .f64 p4,.float .f64 q4] rfl;refine hKK.out _ _ (hHeld.over 0 rfl [.float .f64 p4,.float .f64 q4] rfl rfl (by first | omega | exact hHeld.le_of 0 rfl) (by simp<;>omega) (by simp<;>omega)) (fun _=>?_);clear hKK KK hHeld;rename_i hHeld;(try simp only [Act.put,lay]);refine wpAnyH_done (by kernel_rfl) ?_ _;have LB:=Hd hHeld.b;clear hHeld;obtain⟨hk6_0,hk6_1⟩:=HS_0.c2;clear HS_0
 simp [sets] at hk6_0 hk6_1
 go_wp2;refine bodyPost_ret (v:=.agg #[.float .f64 p4,.float .f64 q4]) (by simp [results,Tryz.results26,go_sem,hk6_0,hk6_1]) rfl ?_
 exact⟨rfl,LB.out⟩
end Go.Proofs.YthlmlmfebpjgdaaGreatDoor
