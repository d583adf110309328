/-
Lemmas for the statement: RmT RwT RngT Hd3P ClO FplT AbT SqT NpowT Irt WholeP.
-/
import Derived.Test.YthlmlmfebpjgdaaGreatDoorM01
import Derived.Test.YthlmlmfebpjgdaaGreatDoorM07
import Derived.Test.YthlmlmfebpjgdaaGreatDoorM11
import Derived.Test.YthlmlmfebpjgdaaGreatDoorM08
import Derived.Deep.DeepCutAuto
import Derived.Test.YthlmlmfebpjgdaaGreatDoorM03
import Derived.Test.YthlmlmfebpjgdaaGreatDoorM06
import Derived.Test.YthlmlmfebpjgdaaGreatDoorM02
import Derived.Test.YthlmlmfebpjgdaaGreatDoorM10
import Derived.Test.YthlmlmfebpjgdaaGreatDoorM12
import Derived.Test.YthlmlmfebpjgdaaGreatDoorM09
import Derived.Lib.RabinKarpLaws
import Derived.Test.YthlmlmfebpjgdaaGreatDoorM05
set_option linter.unusedSimpArgs false
set_option linter.unusedVariables false
set_option maxHeartbeats 12800000
namespace Go.Proofs.YthlmlmfebpjgdaaGreatDoor
section
open Go.RowKit
attribute [local go_sem] run_store_float
def rmr(i1 j1 i2 j2 i3 j3:Int):Int × Int:=if j1<i1\/j2<i2\/j3<i3\/j1<i2 then ((M:Int),-(M:Int)) else it i2 (if i1<=j2 then (M:Int) else j2) i3 j3
theorem revmin_none(b1 b2 c1 c2 x y:Nat)(i1 j1 i2 j2 i3 j3:Int)(w:World)(hb1:b1<18446744073709551616)(hb2:b2<18446744073709551616)(hc1:c1<18446744073709551616)(hc2:c2<18446744073709551616)(hx:x<18446744073709551616)(hy:y<18446744073709551616)(r1:rd b1 b2=(i1,j1))(r2:rd c1 c2=(i2,j2))(r3:rd x y=(i3,j3))(hno:j1<i1\/j2<i2\/j3<i3):
  Rt 29 #[Zf b1 b2,Zf c1 c2,Zf x y] (Zf (pat (((M:Int),-(M:Int))).1) (pat (((M:Int),-(M:Int))).2)) w:=by
 have v1:=rd_iv b1 b2;have v2:=rd_iv c1 c2;have v3:=rd_iv x y;rw [r1] at v1;rw [r2] at v2;rw [r3] at v3
 dsimp only at v1 v2 v3
 have hM:M=9218868437227405312:=rfl;have t1:=fun W=>readf b1 b2 W hb1 hb2;have t2:=fun W=>readf c1 c2 W hc1 hc2;have t3:=fun W=>readf x y W hx hy;rw [r1] at t1;rw [r2] at t2;rw [r3] at t3
 dsimp only at t1 t2 t3
 have m1:=em_idx v1;have m2:=em_idx v2;have m3:=em_idx v3;have o1:=order_pat v2.lo.1 v2.lo.2 v1.hi.1 v1.hi.2;have o2:=order_pat v2.hi.1 v2.hi.2 v1.lo.1 v1.lo.2
 have hnn:(decide (j1<i1) || decide (j2<i2) || decide (j3<i3))=true:=by simp;omega
 rw [pat_max,pat_min];have HE:=Hd emptyf
 obtain⟨P1,hP1⟩:∃ z,pat i1=z:=⟨_,rfl⟩
 obtain⟨Q1,hQ1⟩:∃ z,pat j1=z:=⟨_,rfl⟩
 obtain⟨P2,hP2⟩:∃ z,pat i2=z:=⟨_,rfl⟩
 obtain⟨Q2,hQ2⟩:∃ z,pat j2=z:=⟨_,rfl⟩
 obtain⟨P3,hP3⟩:∃ z,pat i3=z:=⟨_,rfl⟩
 obtain⟨Q3,hQ3⟩:∃ z,pat j3=z:=⟨_,rfl⟩
 rw [hP1,hQ1] at t1 m1;rw [hP2,hQ2] at t2 m2;rw [hP3,hQ3] at t3 m3;have HRD:=readL43 w (Zv 0 0) 28 t1 m1 t2 m2 t3 m3 hnn;clear t1 t2 t3 m1 m2 m3 hnn hno v1 v2 v3 hM hP1 hQ1 hP2 hQ2 hP3 hQ3 r1 r2 r3 o1 o2
 go_enter Tryz.func29,Tryz.ntmps29
 go_wp2_with fail;refine HRD.out.mono ?_;rintro e w1 ⟨rfl,hl⟩;have LB1:=Hd hl.b;have LR1:=Hd (HasBlk.of (n:=2) (hl.blk 3 rfl) rfl rfl);have LG0_1:=Hd (hl.blk 0 rfl);have LG1_1:=Hd (hl.blk 1 rfl);have LG2_1:=Hd (hl.blk 2 rfl);clear hl HRD;obtain⟨q0_0,q0_1⟩:=LG0_1.out.c2;obtain⟨q1_0,q1_1⟩:=LG1_1.out.c2;go_wp2_with fail;refine cx (HE.out _) fun w2 hbx=>?_;have LB2:=stB LB1 hbx LB1.out.size;have LR2:=stR LR1 hbx;have LG0_2:=stG LG0_1 hbx;have LG1_2:=stG LG1_1 hbx;have LG2_2:=stG LG2_1 hbx;clear LB1 LR1 LG0_1 LG1_1 LG2_1;clear hbx q0_0 q0_1 q1_0 q1_1;obtain⟨ha0,hf0,ha1,hf1⟩:=LR2.out.sf2;obtain⟨hk0,hk1⟩:=LR2.out.sc2 (.float .f64 9218868437227405312) (.float .f64 18442240474082181120);have F:=Hd (below_sets (w0:=w) (r:=(w.heap.size+3)) (by omega) [.float .f64 9218868437227405312,.float .f64 18442240474082181120] 0 _ LB2.out)
 simp [sets] at hk0 hk1
 go_wp2;refine bodyPost_ret (v:=Zf 9218868437227405312 18442240474082181120) (by simp [results,Tryz.results29,go_sem,hk0,hk1]) rfl ?_
 exact⟨rfl,F.out⟩
theorem revmin_gt(b1 b2 c1 c2 x y:Nat)(i1 j1 i2 j2 i3 j3:Int)(w:World)(hb1:b1<18446744073709551616)(hb2:b2<18446744073709551616)(hc1:c1<18446744073709551616)(hc2:c2<18446744073709551616)(hx:x<18446744073709551616)(hy:y<18446744073709551616)(r1:rd b1 b2=(i1,j1))(r2:rd c1 c2=(i2,j2))(r3:rd x y=(i3,j3))(hno:¬ (j1<i1\/j2<i2\/j3<i3))(hgt:j1<i2):
  Rt 29 #[Zf b1 b2,Zf c1 c2,Zf x y] (Zf (pat (((M:Int),-(M:Int))).1) (pat (((M:Int),-(M:Int))).2)) w:=by
 have v1:=rd_iv b1 b2;have v2:=rd_iv c1 c2;have v3:=rd_iv x y;rw [r1] at v1;rw [r2] at v2;rw [r3] at v3
 dsimp only at v1 v2 v3
 have hM:M=9218868437227405312:=rfl;have t1:=fun W=>readf b1 b2 W hb1 hb2;have t2:=fun W=>readf c1 c2 W hc1 hc2;have t3:=fun W=>readf x y W hx hy;rw [r1] at t1;rw [r2] at t2;rw [r3] at t3
 dsimp only at t1 t2 t3
 have m1:=em_idx v1;have m2:=em_idx v2;have m3:=em_idx v3;have o1:=order_pat v2.lo.1 v2.lo.2 v1.hi.1 v1.hi.2;have o2:=order_pat v2.hi.1 v2.hi.2 v1.lo.1 v1.lo.2
 have hnn:(decide (j1<i1) || decide (j2<i2) || decide (j3<i3))=false:=by simp;omega
 rw [show compare i2 j1=.gt from Int.compare_eq_gt.2 hgt] at o1;rw [pat_max,pat_min];have HE:=Hd emptyf
 obtain⟨P1,hP1⟩:∃ z,pat i1=z:=⟨_,rfl⟩
 obtain⟨Q1,hQ1⟩:∃ z,pat j1=z:=⟨_,rfl⟩
 obtain⟨P2,hP2⟩:∃ z,pat i2=z:=⟨_,rfl⟩
 obtain⟨Q2,hQ2⟩:∃ z,pat j2=z:=⟨_,rfl⟩
 obtain⟨P3,hP3⟩:∃ z,pat i3=z:=⟨_,rfl⟩
 obtain⟨Q3,hQ3⟩:∃ z,pat j3=z:=⟨_,rfl⟩
 rw [hP1,hQ1] at t1 m1;rw [hP2,hQ2] at t2 m2;rw [hP3,hQ3] at t3 m3;rw [hP2,hQ1] at o1;have HRD:=readL43 w (Zv 0 0) 28 t1 m1 t2 m2 t3 m3 hnn;clear t1 t2 t3 m1 m2 m3 hnn hno v1 v2 v3 hM hP1 hQ1 hP2 hQ2 hP3 hQ3 r1 r2 r3 hgt o2
 go_enter Tryz.func29,Tryz.ntmps29
 go_wp2_with fail;refine HRD.out.mono ?_;rintro e w1 ⟨rfl,hl⟩;have LB1:=Hd hl.b;have LR1:=Hd (HasBlk.of (n:=2) (hl.blk 3 rfl) rfl rfl);have LG0_1:=Hd (hl.blk 0 rfl);have LG1_1:=Hd (hl.blk 1 rfl);have LG2_1:=Hd (hl.blk 2 rfl);clear hl HRD;obtain⟨q0_0,q0_1⟩:=LG0_1.out.c2;obtain⟨q1_0,q1_1⟩:=LG1_1.out.c2;go_wp2_with fail;refine cx (HE.out _) fun w2 hbx=>?_;have LB2:=stB LB1 hbx LB1.out.size;have LR2:=stR LR1 hbx;have LG0_2:=stG LG0_1 hbx;have LG1_2:=stG LG1_1 hbx;have LG2_2:=stG LG2_1 hbx;clear LB1 LR1 LG0_1 LG1_1 LG2_1;clear hbx q0_0 q0_1 q1_0 q1_1;obtain⟨ha0,hf0,ha1,hf1⟩:=LR2.out.sf2;obtain⟨hk0,hk1⟩:=LR2.out.sc2 (.float .f64 9218868437227405312) (.float .f64 18442240474082181120);have F:=Hd (below_sets (w0:=w) (r:=(w.heap.size+3)) (by omega) [.float .f64 9218868437227405312,.float .f64 18442240474082181120] 0 _ LB2.out)
 simp [sets] at hk0 hk1
 go_wp2;refine bodyPost_ret (v:=Zf 9218868437227405312 18442240474082181120) (by simp [results,Tryz.results29,go_sem,hk0,hk1]) rfl ?_
 exact⟨rfl,F.out⟩
theorem revmin_ge(b1 b2 c1 c2 x y:Nat)(i1 j1 i2 j2 i3 j3:Int)(w:World)(hb1:b1<18446744073709551616)(hb2:b2<18446744073709551616)(hc1:c1<18446744073709551616)(hc2:c2<18446744073709551616)(hx:x<18446744073709551616)(hy:y<18446744073709551616)(r1:rd b1 b2=(i1,j1))(r2:rd c1 c2=(i2,j2))(r3:rd x y=(i3,j3))(hno:¬ (j1<i1\/j2<i2\/j3<i3))(hgt:¬ j1<i2)(hge:i1<=j2):
  Rt 29 #[Zf b1 b2,Zf c1 c2,Zf x y] (Zf (pat (it i2 M i3 j3).1) (pat (it i2 M i3 j3).2)) w:=by
 have v1:=rd_iv b1 b2;have v2:=rd_iv c1 c2;have v3:=rd_iv x y;rw [r1] at v1;rw [r2] at v2;rw [r3] at v3
 dsimp only at v1 v2 v3
 have hM:M=9218868437227405312:=rfl;have t1:=fun W=>readf b1 b2 W hb1 hb2;have t2:=fun W=>readf c1 c2 W hc1 hc2;have t3:=fun W=>readf x y W hx hy;rw [r1] at t1;rw [r2] at t2;rw [r3] at t3
 dsimp only at t1 t2 t3
 have m1:=em_idx v1;have m2:=em_idx v2;have m3:=em_idx v3;have o1:=order_pat v2.lo.1 v2.lo.2 v1.hi.1 v1.hi.2;have o2:=order_pat v2.hi.1 v2.hi.2 v1.lo.1 v1.lo.2
 have hnn:(decide (j1<i1) || decide (j2<i2) || decide (j3<i3))=false:=by simp;omega
 have w2:Iv i2 M:=by unfold Iv at *;omega
 have HI:=Hd fun W=>inter_idx i2 M i3 j3 W w2 v3;rw [pat_max] at HI
 have ho1:(FloatKind.f64.format.order (pat i2) (pat j1) == some Ordering.gt)=false:=by
  rw [o1]
  rcases Int.lt_trichotomy i2 j1 with h | h | h
  ·rw [show compare i2 j1=.lt from Int.compare_eq_lt.2 h];rfl
  ·rw [show compare i2 j1=.eq from Int.compare_eq_eq.2 h];rfl
  ·exact absurd h hgt
 clear o1
 have hge2:compare j2 i1=.gt\/compare j2 i1=.eq:=by
  rcases Int.lt_trichotomy i1 j2 with h | h | h
  ·exact .inl (Int.compare_eq_gt.2 h)
  ·exact .inr (Int.compare_eq_eq.2 h.symm)
  ·omega
 obtain⟨z1,hz1⟩:∃ z,pat (it i2 M i3 j3).1=z:=⟨_,rfl⟩
 obtain⟨z2,hz2⟩:∃ z,pat (it i2 M i3 j3).2=z:=⟨_,rfl⟩
 rw [hz1,hz2] at HI ⊢;clear hz1 hz2
 obtain⟨P1,hP1⟩:∃ z,pat i1=z:=⟨_,rfl⟩
 obtain⟨Q1,hQ1⟩:∃ z,pat j1=z:=⟨_,rfl⟩
 obtain⟨P2,hP2⟩:∃ z,pat i2=z:=⟨_,rfl⟩
 obtain⟨Q2,hQ2⟩:∃ z,pat j2=z:=⟨_,rfl⟩
 obtain⟨P3,hP3⟩:∃ z,pat i3=z:=⟨_,rfl⟩
 obtain⟨Q3,hQ3⟩:∃ z,pat j3=z:=⟨_,rfl⟩
 rw [hP1,hQ1] at t1 m1;rw [hP2,hQ2] at t2 m2;rw [hP3,hQ3] at t3 m3;rw [hP2,hQ1] at ho1;rw [hQ2,hP1] at o2;rw [hP2,hP3,hQ3] at HI;have HRD:=readL43 w (Zv 0 0) 28 t1 m1 t2 m2 t3 m3 hnn;clear t1 t2 t3 m1 m2 m3 hnn hno v1 v2 v3 hM hP1 hQ1 hP2 hQ2 hP3 hQ3 r1 r2 r3 hgt hge
 go_enter Tryz.func29,Tryz.ntmps29
 go_wp2_with fail;refine HRD.out.mono ?_;rintro e w1 ⟨rfl,hl⟩;have LB1:=Hd hl.b;have LR1:=Hd (HasBlk.of (n:=2) (hl.blk 3 rfl) rfl rfl);have LG0_1:=Hd (hl.blk 0 rfl);have LG1_1:=Hd (hl.blk 1 rfl);have LG2_1:=Hd (hl.blk 2 rfl);clear hl HRD;obtain⟨q0_0,q0_1⟩:=LG0_1.out.c2;obtain⟨q1_0,q1_1⟩:=LG1_1.out.c2;have HP:=Hd inf_pos
 have hge3:(FloatKind.f64.format.order Q2 P1 == some Ordering.gt || FloatKind.f64.format.order Q2 P1 == some Ordering.eq)=true:=by
  rw [o2];rcases hge2 with e | e<;>rw [e]<;>rfl
 have hf1:=LG1_1.out.frozen 1
 rcases hge2 with e | e<;>rw [e] at o2<;>clear e
 all_goals
  go_wp2_with fail;refine (HP.out _).mono ?_;rintro e w2 ⟨rfl,rfl⟩
  go_upto_region 5 with fail
  clear hf1 q0_0 q0_1 q1_0 q1_1;have LB2:=Hd (below_sets (w0:=w) (show w.heap.size<=(w.heap.size+1) by omega) [.float .f64 9218868437227405312] 1 w1 LB1.out);have LR2:=Hd (LR1.out.other (r:=(w.heap.size+1)) (by omega) 1 [.float .f64 9218868437227405312]);have LG0_2:=Hd (LG0_1.out.other (r:=(w.heap.size+1)) (by omega) 1 [.float .f64 9218868437227405312]);have LG1_2:=Hd (show Blk (sets w1 (w.heap.size+1) 1 [.float .f64 9218868437227405312]) (w.heap.size+1) 28 (Zv P2 9218868437227405312) from by have hbs:=Blk.sets [.float .f64 9218868437227405312] 1 w1 _ LG1_1.out;simpa [laid] using hbs);have LG2_2:=Hd (LG2_1.out.other (r:=(w.heap.size+1)) (by omega) 1 [.float .f64 9218868437227405312]);clear LB1 LR1 LG0_1 LG1_1 LG2_1
  obtain⟨V1,hV1⟩:∃ X,(sets w1 (w.heap.size+1) 1 [.float .f64 9218868437227405312])=X:=⟨_,rfl⟩
  rw [hV1] at LB2 LR2 LG0_2 LG1_2 LG2_2;rw [show (w1.setCell ⟨(w.heap.size+1),1,none⟩ (.float .f64 9218868437227405312))=V1 from hV1];clear hV1;obtain⟨q1_0,q1_1⟩:=LG1_2.out.c2;obtain⟨q2_0,q2_1⟩:=LG2_2.out.c2;go_wp2_with fail;refine cx (HI.out _) fun w3 hbx=>?_;have LB3:=stB LB2 hbx LB2.out.size;have LR3:=stR LR2 hbx;have LG0_3:=stG LG0_2 hbx;have LG1_3:=stG LG1_2 hbx;have LG2_3:=stG LG2_2 hbx;clear LB2 LR2 LG0_2 LG1_2 LG2_2;clear hbx q1_0 q1_1 q2_0 q2_1;obtain⟨ha0,hf0,ha1,hf1⟩:=LR3.out.sf2;obtain⟨hk0,hk1⟩:=LR3.out.sc2 (.float .f64 z1) (.float .f64 z2);have F:=Hd (below_sets (w0:=w) (r:=(w.heap.size+3)) (by omega) [.float .f64 z1,.float .f64 z2] 0 _ LB3.out)
  simp [sets] at hk0 hk1
  go_wp2;refine bodyPost_ret (v:=Zf z1 z2) (by simp [results,Tryz.results29,go_sem,hk0,hk1]) rfl ?_
  exact⟨rfl,F.out⟩
theorem revmin_lt(b1 b2 c1 c2 x y:Nat)(i1 j1 i2 j2 i3 j3:Int)(w:World)(hb1:b1<18446744073709551616)(hb2:b2<18446744073709551616)(hc1:c1<18446744073709551616)(hc2:c2<18446744073709551616)(hx:x<18446744073709551616)(hy:y<18446744073709551616)(r1:rd b1 b2=(i1,j1))(r2:rd c1 c2=(i2,j2))(r3:rd x y=(i3,j3))(hno:¬ (j1<i1\/j2<i2\/j3<i3))(hgt:¬ j1<i2)(hge:¬ i1<=j2):
  Rt 29 #[Zf b1 b2,Zf c1 c2,Zf x y] (Zf (pat (it i2 j2 i3 j3).1) (pat (it i2 j2 i3 j3).2)) w:=by
 have v1:=rd_iv b1 b2;have v2:=rd_iv c1 c2;have v3:=rd_iv x y;rw [r1] at v1;rw [r2] at v2;rw [r3] at v3
 dsimp only at v1 v2 v3
 have hM:M=9218868437227405312:=rfl;have t1:=fun W=>readf b1 b2 W hb1 hb2;have t2:=fun W=>readf c1 c2 W hc1 hc2;have t3:=fun W=>readf x y W hx hy;rw [r1] at t1;rw [r2] at t2;rw [r3] at t3
 dsimp only at t1 t2 t3
 have m1:=em_idx v1;have m2:=em_idx v2;have m3:=em_idx v3;have o1:=order_pat v2.lo.1 v2.lo.2 v1.hi.1 v1.hi.2;have o2:=order_pat v2.hi.1 v2.hi.2 v1.lo.1 v1.lo.2
 have hnn:(decide (j1<i1) || decide (j2<i2) || decide (j3<i3))=false:=by simp;omega
 have w2:Iv i2 j2:=by unfold Iv at *;omega
 have HI:=Hd fun W=>inter_idx i2 j2 i3 j3 W w2 v3
 have ho1:(FloatKind.f64.format.order (pat i2) (pat j1) == some Ordering.gt)=false:=by
  rw [o1]
  rcases Int.lt_trichotomy i2 j1 with h | h | h
  ·rw [show compare i2 j1=.lt from Int.compare_eq_lt.2 h];rfl
  ·rw [show compare i2 j1=.eq from Int.compare_eq_eq.2 h];rfl
  ·exact absurd h hgt
 clear o1;rw [show compare j2 i1=.lt from Int.compare_eq_lt.2 (by omega)] at o2
 obtain⟨z1,hz1⟩:∃ z,pat (it i2 j2 i3 j3).1=z:=⟨_,rfl⟩
 obtain⟨z2,hz2⟩:∃ z,pat (it i2 j2 i3 j3).2=z:=⟨_,rfl⟩
 rw [hz1,hz2] at HI ⊢;clear hz1 hz2
 obtain⟨P1,hP1⟩:∃ z,pat i1=z:=⟨_,rfl⟩
 obtain⟨Q1,hQ1⟩:∃ z,pat j1=z:=⟨_,rfl⟩
 obtain⟨P2,hP2⟩:∃ z,pat i2=z:=⟨_,rfl⟩
 obtain⟨Q2,hQ2⟩:∃ z,pat j2=z:=⟨_,rfl⟩
 obtain⟨P3,hP3⟩:∃ z,pat i3=z:=⟨_,rfl⟩
 obtain⟨Q3,hQ3⟩:∃ z,pat j3=z:=⟨_,rfl⟩
 rw [hP1,hQ1] at t1 m1;rw [hP2,hQ2] at t2 m2;rw [hP3,hQ3] at t3 m3;rw [hP2,hQ1] at ho1;rw [hQ2,hP1] at o2;rw [hP2,hQ2,hP3,hQ3] at HI;have HRD:=readL43 w (Zv 0 0) 28 t1 m1 t2 m2 t3 m3 hnn;clear t1 t2 t3 m1 m2 m3 hnn hno v1 v2 v3 hM hP1 hQ1 hP2 hQ2 hP3 hQ3 r1 r2 r3 hgt hge
 go_enter Tryz.func29,Tryz.ntmps29
 go_wp2_with fail;refine HRD.out.mono ?_;rintro e w1 ⟨rfl,hl⟩;have LB1:=Hd hl.b;have LR1:=Hd (HasBlk.of (n:=2) (hl.blk 3 rfl) rfl rfl);have LG0_1:=Hd (hl.blk 0 rfl);have LG1_1:=Hd (hl.blk 1 rfl);have LG2_1:=Hd (hl.blk 2 rfl);clear hl HRD;obtain⟨q0_0,q0_1⟩:=LG0_1.out.c2;obtain⟨q1_0,q1_1⟩:=LG1_1.out.c2;obtain⟨q2_0,q2_1⟩:=LG2_1.out.c2;go_wp2_with fail;refine cx (HI.out _) fun w3 hbx=>?_;have LB2:=stB LB1 hbx LB1.out.size;have LR2:=stR LR1 hbx;have LG0_2:=stG LG0_1 hbx;have LG1_2:=stG LG1_1 hbx;have LG2_2:=stG LG2_1 hbx;clear LB1 LR1 LG0_1 LG1_1 LG2_1;clear hbx q0_0 q0_1 q1_0 q1_1 q2_0 q2_1;obtain⟨ha0,hf0,ha1,hf1⟩:=LR2.out.sf2;obtain⟨hk0,hk1⟩:=LR2.out.sc2 (.float .f64 z1) (.float .f64 z2);have F:=Hd (below_sets (w0:=w) (r:=(w.heap.size+3)) (by omega) [.float .f64 z1,.float .f64 z2] 0 _ LB2.out)
 simp [sets] at hk0 hk1
 go_wp2;refine bodyPost_ret (v:=Zf z1 z2) (by simp [results,Tryz.results29,go_sem,hk0,hk1]) rfl ?_
 exact⟨rfl,F.out⟩
theorem revmin_any(b1 b2 c1 c2 x y:Nat)(w:World)(hb1:b1<18446744073709551616)(hb2:b2<18446744073709551616)(hc1:c1<18446744073709551616)(hc2:c2<18446744073709551616)(hx:x<18446744073709551616)(hy:y<18446744073709551616):
  Rt 29 #[Zf b1 b2,Zf c1 c2,Zf x y] (Zf (pat (rmr (rd b1 b2).1 (rd b1 b2).2 (rd c1 c2).1 (rd c1 c2).2 (rd x y).1 (rd x y).2).1) (pat (rmr (rd b1 b2).1 (rd b1 b2).2 (rd c1 c2).1 (rd c1 c2).2 (rd x y).1 (rd x y).2).2)) w:=by
 obtain⟨i1,hi1⟩:∃ z,(rd b1 b2).1=z:=⟨_,rfl⟩
 obtain⟨j1,hj1⟩:∃ z,(rd b1 b2).2=z:=⟨_,rfl⟩
 obtain⟨i2,hi2⟩:∃ z,(rd c1 c2).1=z:=⟨_,rfl⟩
 obtain⟨j2,hj2⟩:∃ z,(rd c1 c2).2=z:=⟨_,rfl⟩
 obtain⟨i3,hi3⟩:∃ z,(rd x y).1=z:=⟨_,rfl⟩
 obtain⟨j3,hj3⟩:∃ z,(rd x y).2=z:=⟨_,rfl⟩
 have r1:rd b1 b2=(i1,j1):=by rw [<- hi1,<- hj1]
 have r2:rd c1 c2=(i2,j2):=by rw [<- hi2,<- hj2]
 have r3:rd x y=(i3,j3):=by rw [<- hi3,<- hj3]
 rw [hi1,hj1,hi2,hj2,hi3,hj3];unfold rmr
 by_cases hno:j1<i1\/j2<i2\/j3<i3
 ·rw [if_pos (by omega)]
  exact revmin_none b1 b2 c1 c2 x y i1 j1 i2 j2 i3 j3 w hb1 hb2 hc1 hc2 hx hy r1 r2 r3 hno
 ·by_cases hgt:j1<i2
  ·rw [if_pos (by omega)]
   exact revmin_gt b1 b2 c1 c2 x y i1 j1 i2 j2 i3 j3 w hb1 hb2 hc1 hc2 hx hy r1 r2 r3 hno hgt
  ·rw [if_neg (by omega)]
   by_cases hge:i1<=j2
   ·rw [if_pos hge]
    exact revmin_ge b1 b2 c1 c2 x y i1 j1 i2 j2 i3 j3 w hb1 hb2 hc1 hc2 hx hy r1 r2 r3 hno hgt hge
   ·rw [if_neg hge]
    exact revmin_lt b1 b2 c1 c2 x y i1 j1 i2 j2 i3 j3 w hb1 hb2 hc1 hc2 hx hy r1 r2 r3 hno hgt hge
def rmx(b c x:Int × Int):Int × Int:=(-(rmr (-b.2) (-b.1) (-c.2) (-c.1) (-x.2) (-x.1)).2,-(rmr (-b.2) (-b.1) (-c.2) (-c.1) (-x.2) (-x.1)).1)
theorem Iv.negf{i j:Int}(h:Iv i j):Iv (-j) (-i):=by
 unfold Iv at *;rw [M_val] at *
 omega
theorem rmr_iv{i1 j1 i2 j2 i3 j3:Int}(h1:Iv i1 j1)(h2:Iv i2 j2)(h3:Iv i3 j3):Iv (rmr i1 j1 i2 j2 i3 j3).1 (rmr i1 j1 i2 j2 i3 j3).2:=by
 unfold rmr
 split
 ·exact Iv.none
 ·rename_i h;have hM:M=9218868437227405312:=rfl;refine it_iv ?_ h3;unfold Iv at *
  split<;>omega
theorem revmin_idx(i1 i2 i3 i4 i5 i6:Int)(w:World)(hb:Iv i1 i2)(hc:Iv i3 i4)(hx:Iv i5 i6):
  Calls Tryz.prog 29 #[Zf (pat i1) (pat i2),Zf (pat i3) (pat i4),Zf (pat i5) (pat i6)] w
   fun e w'=>e=.returned (Zf (pat (rmr i1 i2 i3 i4 i5 i6).1) (pat (rmr i1 i2 i3 i4 i5 i6).2))/\Below w.heap.size w w':=by
 have h:=revmin_any (pat i1) (pat i2) (pat i3) (pat i4) (pat i5) (pat i6) w (pat_lt hb.lo.1 hb.lo.2) (pat_lt hb.hi.1 hb.hi.2) (pat_lt hc.lo.1 hc.lo.2) (pat_lt hc.hi.1 hc.hi.2) (pat_lt hx.lo.1 hx.lo.2) (pat_lt hx.hi.1 hx.hi.2);rw [rd_pat hb,rd_pat hc,rd_pat hx] at h
 exact h
theorem mirror_idxm(i j:Int)(w:World)(h:Iv i j):
  Rt 85 #[Zf (pat i) (pat j)] (Zf (pat (-j)) (pat (-i))) w:=by
 have h2:=mirrorf (pat i) (pat j) w (pat_lt h.lo.1 h.lo.2) (pat_lt h.hi.1 h.hi.2);rw [rd_pat h] at h2
 exact h2
theorem revmax_any(b1 b2 c1 c2 x y:Nat)(w:World)(hb1:b1<18446744073709551616)(hb2:b2<18446744073709551616)(hc1:c1<18446744073709551616)(hc2:c2<18446744073709551616)(hx:x<18446744073709551616)(hy:y<18446744073709551616):
  Rt 30 #[Zf b1 b2,Zf c1 c2,Zf x y] (Zf (pat (rmx (rd b1 b2) (rd c1 c2) (rd x y)).1) (pat (rmx (rd b1 b2) (rd c1 c2) (rd x y)).2)) w:=by
 have HN1:=Hd fun W=>mirrorf b1 b2 W hb1 hb2;have HN2:=Hd fun W=>mirrorf c1 c2 W hc1 hc2;have HN3:=Hd fun W=>mirrorf x y W hx hy;have v1:=(rd_iv b1 b2).negf;have v2:=(rd_iv c1 c2).negf;have v3:=(rd_iv x y).negf;have vm:=rmr_iv v1 v2 v3;have HM:=Hd fun W=>revmin_idx _ _ _ _ _ _ W v1 v2 v3;have HN4:=Hd fun W=>mirror_idxm _ _ W vm;unfold rmx
 obtain⟨z1,hz1⟩:∃ z,(rmr (-(rd b1 b2).2) (-(rd b1 b2).1) (-(rd c1 c2).2) (-(rd c1 c2).1) (-(rd x y).2) (-(rd x y).1)).1=z:=⟨_,rfl⟩
 obtain⟨z2,hz2⟩:∃ z,(rmr (-(rd b1 b2).2) (-(rd b1 b2).1) (-(rd c1 c2).2) (-(rd c1 c2).1) (-(rd x y).2) (-(rd x y).1)).2=z:=⟨_,rfl⟩
 rw [hz1,hz2] at HM HN4 ⊢
 obtain⟨p1,e1⟩:∃ z,pat (-(rd b1 b2).2)=z:=⟨_,rfl⟩
 obtain⟨p2,e2⟩:∃ z,pat (-(rd b1 b2).1)=z:=⟨_,rfl⟩
 obtain⟨p3,e3⟩:∃ z,pat (-(rd c1 c2).2)=z:=⟨_,rfl⟩
 obtain⟨p4,e4⟩:∃ z,pat (-(rd c1 c2).1)=z:=⟨_,rfl⟩
 obtain⟨p5,e5⟩:∃ z,pat (-(rd x y).2)=z:=⟨_,rfl⟩
 obtain⟨p6,e6⟩:∃ z,pat (-(rd x y).1)=z:=⟨_,rfl⟩
 obtain⟨p7,e7⟩:∃ z,pat z1=z:=⟨_,rfl⟩
 obtain⟨p8,e8⟩:∃ z,pat z2=z:=⟨_,rfl⟩
 obtain⟨q1,f1⟩:∃ z,pat (-z2)=z:=⟨_,rfl⟩
 obtain⟨q2,f2⟩:∃ z,pat (-z1)=z:=⟨_,rfl⟩
 rw [e1,e2] at HN1;rw [e3,e4] at HN2;rw [e5,e6] at HN3;rw [e1,e2,e3,e4,e5,e6,e7,e8] at HM;rw [e7,e8,f1,f2] at HN4
 dsimp only
 rw [f1,f2];clear v1 v2 v3 vm hz1 hz2 e1 e2 e3 e4 e5 e6 e7 e8 f1 f2;obtain⟨LB0,LG0_0,LG1_0,LG2_0,LR⟩:=bx4 w (Zv b1 b2) 28 (Zv c1 c2) 28 (Zv x y) 28 (Zv 0 0) 28;have LR0:=Hd (HasBlk.of (n:=2) LR.out rfl rfl);clear LR
 go_enter Tryz.func30,Tryz.ntmps30
 go_wp2_with fail;refine wp_region_held_drew (S:=fun W'=>Blk W' w.heap.size 28 (Zv b1 b2)/\Blk W' (w.heap.size+1) 28 (Zv c1 c2)/\Blk W' (w.heap.size+2) 28 (Zv x y)/\HasBlk W' (w.heap.size+3) 28 2/\Below w.heap.size w W') (by kernel_rfl) (by exact⟨LG0_0.out.drew,LG1_0.out.drew,LG2_0.out.drew,LR0.out.drew,LB0.out.drew⟩) (fun hHeld=>?_);refine tkb 0 (fun _ h=>h.1.c2) ?_;refine tkb 2 (fun _ h=>h.2.1.c2) ?_;refine tkb 4 (fun _ h=>h.2.2.1.c2) ?_;refine rdy 1 fun KK hKK=>?_;go_simp;refine cx (HN1.out _) fun w1 hbA=>?_;go_wp2_with fail;refine hKK.out _ _ (⟨hHeld.1.keep hbA,hHeld.2.1.keep hbA,hHeld.2.2.1.keep hbA,hHeld.2.2.2.1.keep hbA,hHeld.2.2.2.2.trans (hbA.mono hHeld.2.2.2.2.size)⟩) (fun _=>?_);clear hKK KK hHeld;rename_i hHeld;(try simp only [Act.put,lay]);refine rdy 3 fun KK hKK=>?_;go_simp;refine cx (HN2.out _) fun w2 hbB=>?_;go_wp2_with fail;refine hKK.out _ _ (⟨hHeld.1.keep hbB,hHeld.2.1.keep hbB,hHeld.2.2.1.keep hbB,hHeld.2.2.2.1.keep hbB,hHeld.2.2.2.2.trans (hbB.mono hHeld.2.2.2.2.size)⟩) (fun _=>?_);clear hKK KK hHeld;rename_i hHeld;(try simp only [Act.put,lay]);refine rdy 5 fun KK hKK=>?_;go_simp;refine cx (HN3.out _) fun w3 hbC=>?_;go_wp2_with fail;refine hKK.out _ _ (⟨hHeld.1.keep hbC,hHeld.2.1.keep hbC,hHeld.2.2.1.keep hbC,hHeld.2.2.2.1.keep hbC,hHeld.2.2.2.2.trans (hbC.mono hHeld.2.2.2.2.size)⟩) (fun _=>?_);clear hKK KK hHeld;rename_i hHeld;(try simp only [Act.put,lay]);refine rdy 6 fun KK hKK=>?_;go_simp;refine cx (HM.out _) fun w4 hbD=>?_;go_wp2_with fail;refine hKK.out _ _ (⟨hHeld.1.keep hbD,hHeld.2.1.keep hbD,hHeld.2.2.1.keep hbD,hHeld.2.2.2.1.keep hbD,hHeld.2.2.2.2.trans (hbD.mono hHeld.2.2.2.2.size)⟩) (fun _=>?_)
 clear hKK KK hHeld;rename_i hHeld;(try simp only [Act.put,lay]);refine rdy 7 fun KK hKK=>?_;go_simp;refine cx (HN4.out _) fun w5 hbE=>?_;go_wp2_with fail;refine hKK.out _ _ (⟨hHeld.1.keep hbE,hHeld.2.1.keep hbE,hHeld.2.2.1.keep hbE,hHeld.2.2.2.1.keep hbE,hHeld.2.2.2.2.trans (hbE.mono hHeld.2.2.2.2.size)⟩) (fun _=>?_);clear hKK KK hHeld;rename_i hHeld;(try simp only [Act.put,lay]);refine rdy 8 fun KK hKK=>?_;have ha0:=hHeld.2.2.2.1.someCell 0 (by decide);have hf0:=hHeld.2.2.2.1.frozen 0;have ha1:=hHeld.2.2.2.1.someCell 1 (by decide);have hf1:=hHeld.2.2.2.1.frozen 1;have HK:=Hd (hHeld.2.2.2.1.setCell [.float .f64 q1,.float .f64 q2] rfl);have F:=Hd (below_sets (w0:=w) (r:=(w.heap.size+3)) (by omega) [.float .f64 q1,.float .f64 q2] 0 _ hHeld.2.2.2.2);go_simp;refine hKK.out _ _ (⟨hHeld.1.other (by omega) 0 [.float .f64 q1,.float .f64 q2],hHeld.2.1.other (by omega) 0 [.float .f64 q1,.float .f64 q2],hHeld.2.2.1.other (by omega) 0 [.float .f64 q1,.float .f64 q2],hHeld.2.2.2.1.sets [.float .f64 q1,.float .f64 q2] rfl rfl,below_sets (by omega) [.float .f64 q1,.float .f64 q2] 0 _ hHeld.2.2.2.2⟩) (fun _=>?_);clear hKK KK hHeld;rename_i hHeld;(try simp only [Act.put,lay]);refine wpAnyH_done (by kernel_rfl) ?_ _;have hk0:=HK.out 0 (by decide);have hk1:=HK.out 1 (by decide)
 simp [sets] at hk0 hk1
 clear hHeld HK hbA hbB hbC hbD hbE;clear LB0 LR0 LG0_0 LG1_0 LG2_0;go_wp2;refine bodyPost_ret (v:=Zf q1 q2) (by simp [results,Tryz.results30,go_sem,hk0,hk1]) rfl ?_
 exact⟨rfl,F.out⟩
end
section
open Go.RowKit
def U32n(w:World)(A:Option Addr)(n c a:Nat):Prop:=∃ xs,U32s w A n c xs/\num xs=a
theorem U32n.below{w w':World}{A:Option Addr}{n c a:Nat}(h:U32n w A n c a)(hb:Below w.heap.size w w'):U32n w' A n c a:=by
 obtain⟨xs,h1,h2⟩:=h
 exact⟨xs,h1.below hb,h2⟩
def RatW(w:World)(K:Nat)(neg:Bool)(vn vd:Value)(x:Rat):Prop:=
 ∃ (p q:Nat) (A:Option Addr) (n c:Nat) (B:Option Addr) (m d:Nat),vn=.slice A n c/\vd=.slice B m d/\U32n w A n c p/\U32n w B m d q /\
  0<q/\(n<=K/\m<=K)/\p<2^(32*K)/\q<2^(32*K)/\x=rv neg p q
theorem RatW.below{w w':World}{K:Nat}{neg:Bool}{vn vd:Value}{x:Rat}(h:RatW w K neg vn vd x)(hb:Below w.heap.size w w'):RatW w' K neg vn vd x:=by
 obtain⟨p,q,A,n,c,B,m,d,h1,h2,h3,h4,h5⟩:=h
 exact⟨p,q,A,n,c,B,m,d,h1,h2,h3.below hb,h4.below hb,h5⟩
theorem RatW.mono{w:World}{K K':Nat}{neg:Bool}{vn vd:Value}{x:Rat}(h:RatW w K neg vn vd x)(hk:K<=K'):RatW w K' neg vn vd x:=by
 obtain⟨p,q,A,n,c,B,m,d,h1,h2,h3,h4,h5,h6,h7,h8,h9⟩:=h;have:=Nat.pow_le_pow_right (n:=2) (by omega) (show 32*K<=32*K' by omega)
 exact⟨p,q,A,n,c,B,m,d,h1,h2,h3,h4,h5,by omega,by omega,by omega,h9⟩
end
section
open Go.RowKit
section
variable {w W W':World} {g n:Nat} {t:TypeId} {cs:Array Value} {B:Nat}
theorem U32n.setB{A:Option Addr}{m c a:Nat}(h:U32n W A m c a)(hb:Blk W g t cs)(hc:NoWd cs)(i:Nat)(vs:List Value):U32n (Proofs.YthlmlmfebpjgdaaGreatDoor.sets W g i vs) A m c a:=by
 obtain⟨xs,h1,h2⟩:=h
 exact⟨xs,h1.setsE hb hc rfl,h2⟩
theorem U32n.sets{A:Option Addr}{m c a:Nat}(h:U32n W A m c a)(hb:Blk W g t cs)(hc:NoWd cs)(i:Nat)(vs:List Value):U32n (Proofs.YthlmlmfebpjgdaaGreatDoor.sets W g i vs) A m c a:=h.setB hb hc i vs
theorem RatW.sets{K:Nat}{neg:Bool}{vn vd:Value}{x:Rat}(h:RatW W K neg vn vd x)(hb:Blk W g t cs)(hc:NoWd cs)(i:Nat)(vs:List Value):RatW (Proofs.YthlmlmfebpjgdaaGreatDoor.sets W g i vs) K neg vn vd x:=by
 obtain⟨p,q,A,n,c,B,m,d,h1,h2,h3,h4,h5⟩:=h
 exact⟨p,q,A,n,c,B,m,d,h1,h2,h3.setB hb hc i vs,h4.setB hb hc i vs,h5⟩
end
end
section
open Go.RowKit
theorem ad_lo{i2 j1:Int}{v q:Rat}(h2:-(M:Int)<=i2/\i2<M)(h1:-(M:Int)<j1/\j1<=M)(hl:-(M:Int)<i2->fl i2<=v+q)(hu:j1<M->q<=fl j1):ad (-1) i2 (-j1)<=rndI (-1) v/\ad 1 i2 (-j1)<=rndI 1 v:=by
 have hM:=M_val;have a:=rndI_down v;have b:=rndI_up v;unfold ad
 by_cases c1:i2=M\/i2=-(M:Int)
 ·rw [if_pos c1,if_pos c1];omega
 ·rw [if_neg c1,if_neg c1]
  by_cases c2:-j1=M\/-j1=-(M:Int)
  ·rw [if_pos c2,if_pos c2];omega
  ·rw [if_neg c2,if_neg c2,fl_neg];have e1:=hl (by omega);have e2:=hu (by omega)
   have e:fl i2+-fl j1<=v:=by grind
   exact⟨rndI_mono (.inl rfl) e,rndI_mono (.inr rfl) e⟩
theorem ad_hi{j2 i1:Int}{v q:Rat}(h2:-(M:Int)<j2/\j2<=M)(h1:-(M:Int)<=i1/\i1<M)(hl:j2<M->v+q<=fl j2)(hu:-(M:Int)<i1->fl i1<=q):rndI (-1) v<=ad (-1) j2 (-i1)/\rndI 1 v<=ad 1 j2 (-i1):=by
 have hM:=M_val;have a:=rndI_down v;have b:=rndI_up v;unfold ad
 by_cases c1:j2=M\/j2=-(M:Int)
 ·rw [if_pos c1,if_pos c1];omega
 ·rw [if_neg c1,if_neg c1]
  by_cases c2:-i1=M\/-i1=-(M:Int)
  ·rw [if_pos c2,if_pos c2];omega
  ·rw [if_neg c2,if_neg c2,fl_neg];have e1:=hl (by omega);have e2:=hu (by omega)
   have e:v<=fl j2+-fl i1:=by grind
   exact⟨rndI_mono (.inl rfl) e,rndI_mono (.inr rfl) e⟩
theorem In.zero{i j:Int}(h:In i j 0):i<=0/\0<=j:=by
 have a:=h.1;have b:=h.2;rw [rndI_zero (.inl rfl)] at a;rw [rndI_zero (.inr rfl)] at b
 exact⟨a,b⟩
end
theorem Cl.it{a b:Int}(h:Iv a b):Cl fun i j=>Go.Proofs.YthlmlmfebpjgdaaGreatDoor.it a b i j:=by
 have hM:=M_val
 rcases h with h | ⟨rfl,rfl⟩
 ·refine (Cl.ct (pd:=a) (pu:=a) (qd:=b) (qu:=b) (by omega) (by omega) (by omega) (by omega) (by omega) (by omega)).cut (fun i j n=>?_) (fun i j c=>?_)
  ·unfold Ne at n;unfold Go.Proofs.YthlmlmfebpjgdaaGreatDoor.it Go.Proofs.YthlmlmfebpjgdaaGreatDoor.ct
   by_cases c:b<i\/j<a
   ·rw [if_pos c,if_pos (by omega)]
   ·rw [if_neg c,if_neg (by omega)]
    exact Prod.ext (by dsimp only;omega) (by dsimp only;omega)
  ·unfold Go.Proofs.YthlmlmfebpjgdaaGreatDoor.it;rw [if_pos (by omega)]
 ·have e:(fun i j=>Go.Proofs.YthlmlmfebpjgdaaGreatDoor.it (M:Int) (-(M:Int)) i j)=fun _ _=>((M:Int),-(M:Int)):=by
   funext i j
   unfold Go.Proofs.YthlmlmfebpjgdaaGreatDoor.it;rw [if_pos (by omega)]
  rw [e];exact Cl.none
theorem in_some{i j:Int}(h:Ne i j):∃ v:Rat,In i j v:=by
 have hM:=M_val;unfold Ne at h
 by_cases h1:-(M:Int)<i
 ·refine⟨fl i,?_,?_⟩
  ·rw [rndI_fl (.inl rfl) h1 (by omega)];omega
  ·rw [rndI_fl (.inr rfl) h1 (by omega)];omega
 ·by_cases h2:j<M
  ·refine⟨fl j,?_,?_⟩
   ·rw [rndI_fl (.inl rfl) (by omega) h2];omega
   ·rw [rndI_fl (.inr rfl) (by omega) h2];omega
  ·refine⟨0,?_,?_⟩
   ·rw [rndI_zero (.inl rfl)];omega
   ·rw [rndI_zero (.inr rfl)];omega
theorem ad_pair(i j:Int):ad (-1) i j<=ad 1 i j:=by
 unfold ad
 split
 ·omega
 ·split
  ·omega
  ·exact rndI_le _
theorem Cl.rar{i1 j1 i2 j2:Int}(h1:Iv i1 j1)(h2:Iv i2 j2):Cl fun i j=>Go.Proofs.YthlmlmfebpjgdaaGreatDoor.rar i1 j1 i2 j2 i j:=by
 have hM:=M_val
 by_cases e:j1<i1\/j2<i2
 ·refine Cl.none.congr fun i j _=>?_;unfold Go.Proofs.YthlmlmfebpjgdaaGreatDoor.rar;rw [if_pos (by omega)]
 ·have n1:=ne_or h1 (by omega);have n2:=ne_or h2 (by omega);obtain⟨q,hq⟩:=in_some n1;obtain⟨c,hc⟩:=in_some n2;unfold Ne at n1 n2
  have ec:c - q+q=c:=by grind
  have L:=ad_lo (i2:=i2) (j1:=j1) (v:=c - q) (q:=q) (by omega) (by omega) (fun z=>by rw [ec];exact hc.lo z) (fun z=>hq.hi z);have U:=ad_hi (j2:=j2) (i1:=i1) (v:=c - q) (q:=q) (by omega) (by omega) (fun z=>by rw [ec];exact hc.hi z) (fun z=>hq.lo z);have b1:=ad_bounds (d:=-1) (i:=i2) (j:=-j1) (.inl rfl) (by omega) (by omega);have b2:=ad_bounds (d:=1) (i:=j2) (j:=-i1) (.inr rfl) (by omega) (by omega);have r1:=rndI_down (c - q);have r2:=rndI_up (c - q);have p1:=ad_pair i2 (-j1);have p2:=ad_pair j2 (-i1);refine (Cl.ct (by omega) (by omega) p1 p2 (by omega) (by omega)).cut (fun i j n=>?_) (fun i j k=>?_)
  ·unfold Ne at n;unfold Go.Proofs.YthlmlmfebpjgdaaGreatDoor.rar;rw [if_neg (by omega)]
  ·unfold Go.Proofs.YthlmlmfebpjgdaaGreatDoor.rar;rw [if_pos (by omega)]
theorem Cl.mlr{i1 j1 i2 j2:Int}(h1:Iv i1 j1)(h2:Iv i2 j2):Cl fun i j=>Go.Proofs.YthlmlmfebpjgdaaGreatDoor.mlr i1 j1 i2 j2 i j:=by
 by_cases e:j1<i1\/j2<i2
 ·refine Cl.none.congr fun i j _=>?_;unfold Go.Proofs.YthlmlmfebpjgdaaGreatDoor.mlr;rw [if_pos (by omega)]
 ·have n1:=ne_or h1 (by omega);have n2:=ne_or h2 (by omega);refine (Cl.fa (numok_idx n2) n1).cut (fun i j n=>?_) (fun i j k=>?_)
  ·unfold Ne at n;unfold Go.Proofs.YthlmlmfebpjgdaaGreatDoor.mlr;rw [if_neg (by omega)]
  ·unfold Go.Proofs.YthlmlmfebpjgdaaGreatDoor.mlr;rw [if_pos (by omega)]
theorem Cl.fmr{i1 j1 iz jz i2 j2:Int}(h1:Iv i1 j1)(hz:Iv iz jz)(h2:Iv i2 j2):Cl fun i j=>Go.Proofs.YthlmlmfebpjgdaaGreatDoor.fmr i1 j1 iz jz i2 j2 i j:=by
 by_cases e:j1<i1\/jz<iz\/j2<i2
 ·refine Cl.none.congr fun i j _=>?_;unfold Go.Proofs.YthlmlmfebpjgdaaGreatDoor.fmr;rw [if_pos (by omega)]
 ·have n1:=ne_or h1 (by omega);have n2:=ne_or h2 (by omega);have nz:=ne_or hz (by omega);refine (Cl.fa (numok_sum n2 nz.neg) n1).cut (fun i j n=>?_) (fun i j k=>?_)
  ·unfold Ne at n;unfold Go.Proofs.YthlmlmfebpjgdaaGreatDoor.fmr;rw [if_neg (by omega)]
  ·unfold Go.Proofs.YthlmlmfebpjgdaaGreatDoor.fmr;rw [if_pos (by omega)]
theorem Cl.dr1{i1 j1 i2 j2:Int}(h1:Iv i1 j1)(h2:Iv i2 j2):Cl fun i j=>Go.Proofs.YthlmlmfebpjgdaaGreatDoor.dr1 i1 j1 i2 j2 i j:=by
 by_cases e:j1<i1\/j2<i2
 ·refine Cl.none.congr fun i j _=>?_;unfold Go.Proofs.YthlmlmfebpjgdaaGreatDoor.dr1;rw [if_pos (by omega)]
 ·have n1:=ne_or h1 (by omega);have n2:=ne_or h2 (by omega);refine ((Cl.FV n1 n2).hull (Cl.FV n1.neg n2).ng).cut (fun i j n=>?_) (fun i j k=>?_)
  ·unfold Ne at n;unfold Go.Proofs.YthlmlmfebpjgdaaGreatDoor.dr1;rw [if_neg (by omega)]
  ·unfold Go.Proofs.YthlmlmfebpjgdaaGreatDoor.dr1;rw [if_pos (by omega)]
theorem Cl.dr2{i1 j1 i2 j2:Int}(h1:Iv i1 j1)(h2:Iv i2 j2):Cl fun i j=>Go.Proofs.YthlmlmfebpjgdaaGreatDoor.dr2 i1 j1 i2 j2 i j:=by
 by_cases e:j1<i1\/j2<i2
 ·refine Cl.none.congr fun i j _=>?_;unfold Go.Proofs.YthlmlmfebpjgdaaGreatDoor.dr2;rw [if_pos (by omega)]
 ·by_cases z:(i1<=0/\0<=j1)/\(i2<=0/\0<=j2)
  ·refine ((Cl.pf (s1:=-1) (x1:=0) (o1:=true) (s2:=0) (x2:=0) (o2:=true) (.inr rfl) (.inl rfl) (fun h=>by omega)).hull (Cl.pf (s1:=0) (x1:=0) (o1:=true) (s2:=1) (x2:=0) (o2:=true) (.inl rfl) (.inr rfl) (fun _ h=>by omega))).cut (fun i j n=>?_) (fun i j k=>?_)
   ·unfold Ne at n;unfold Go.Proofs.YthlmlmfebpjgdaaGreatDoor.dr2;rw [if_neg (by omega),if_pos z]
   ·unfold Go.Proofs.YthlmlmfebpjgdaaGreatDoor.dr2;rw [if_pos (by omega)]
  ·refine (((Cl.FD (show i1<=j1 by omega) (show i2<=j2 by omega)).hull (Cl.FD (show -j1<=-i1 by omega) (show -j2<=-i2 by omega))).hull ((Cl.FD (show -j1<=-i1 by omega) (show i2<=j2 by omega)).hull (Cl.FD (show i1<=j1 by omega) (show -j2<=-i2 by omega))).ng).cut (fun i j n=>?_) (fun i j k=>?_)
   ·unfold Ne at n;unfold Go.Proofs.YthlmlmfebpjgdaaGreatDoor.dr2;rw [if_neg (by omega),if_neg z]
   ·unfold Go.Proofs.YthlmlmfebpjgdaaGreatDoor.dr2;rw [if_pos (by omega)]
theorem Cl.rmr{i1 j1 i2 j2:Int}(h1:Iv i1 j1)(h2:Iv i2 j2):Cl fun i j=>Go.Proofs.YthlmlmfebpjgdaaGreatDoor.rmr i1 j1 i2 j2 i j:=by
 have hM:=M_val
 by_cases e:j1<i1\/j2<i2\/j1<i2
 ·refine Cl.none.congr fun i j _=>?_;unfold Go.Proofs.YthlmlmfebpjgdaaGreatDoor.rmr;rw [if_pos (by omega)]
 ·have n1:=ne_or h1 (by omega);have n2:=ne_or h2 (by omega);unfold Ne at n1 n2;refine (Cl.it (a:=i2) (b:=if i1<=j2 then (M:Int) else j2) (.inl (by split<;>omega))).cut (fun i j n=>?_) (fun i j k=>?_)
  ·unfold Ne at n;unfold Go.Proofs.YthlmlmfebpjgdaaGreatDoor.rmr;rw [if_neg (by omega)]
  ·unfold Go.Proofs.YthlmlmfebpjgdaaGreatDoor.rmr;rw [if_pos (by omega)]
theorem Cl.rmx{b c:Int × Int}(h1:Iv b.1 b.2)(h2:Iv c.1 c.2):Cl fun i j=>Go.Proofs.YthlmlmfebpjgdaaGreatDoor.rmx b c (i,j):=
 (Cl.rmr h1.ng h2.ng).ng
theorem fm_pair(a b c:Int):fm (-1) a b c<=fm 1 a b c:=by
 unfold fm
 (repeat' split)<;>first | omega | exact rndI_le _
theorem wt_pair(c u v:Int):(wt c u v).1<=(wt c u v).2:=by
 unfold wt
 split
 ·exact Int.le_refl _
 ·exact fm_pair _ _ _
theorem min5_le{m a1 a2 a3 a4 b1 b2 b3 b4:Int}(h1:a1<=b1)(h2:a2<=b2)(h3:a3<=b3)(h4:a4<=b4):min (min (min (min m a1) a2) a3) a4<=min (min (min (min m b1) b2) b3) b4:=by omega
theorem max5_le{m a1 a2 a3 a4 b1 b2 b3 b4:Int}(h1:a1<=b1)(h2:a2<=b2)(h3:a3<=b3)(h4:a4<=b4):max (max (max (max m a1) a2) a3) a4<=max (max (max (max m b1) b2) b3) b4:=by omega
theorem le_min5{l m a1 a2 a3 a4:Int}(h0:l<=m)(h1:l<=a1)(h2:l<=a2)(h3:l<=a3)(h4:l<=a4):l<=min (min (min (min m a1) a2) a3) a4:=by omega
theorem max5_le'{l m a1 a2 a3 a4:Int}(h0:m<=l)(h1:a1<=l)(h2:a2<=l)(h3:a3<=l)(h4:a4<=l):max (max (max (max m a1) a2) a3) a4<=l:=by omega
theorem Cl.fad{i1 j1 i2 j2 c1 c2:Int}(h1:Iv i1 j1)(h2:Iv i2 j2)(hc:Iv c1 c2):Cl fun i j=>Go.Proofs.YthlmlmfebpjgdaaGreatDoor.fad i1 j1 i2 j2 c1 c2 i j:=by
 have hM:=M_val
 by_cases e:j1<i1\/j2<i2\/c2<c1
 ·refine Cl.none.congr fun i j _=>?_;unfold Go.Proofs.YthlmlmfebpjgdaaGreatDoor.fad;rw [if_pos (by omega)]
 ·have n1:=ne_or h1 (by omega);have n2:=ne_or h2 (by omega);have n3:=ne_or hc (by omega);obtain⟨a,ha⟩:=in_some n1;obtain⟨b,hb⟩:=in_some n2;obtain⟨c,hc'⟩:=in_some n3
  obtain⟨v,hv⟩:∃ v:Rat,v+a*b=c:=⟨c - a*b,by grind⟩
  rw [<- hv] at hc';have hl:=fun z=>hc'.lo (i:=c1) z;have hu:=fun z=>hc'.hi (j:=c2) z
  have L:min (min (min (min (M:Int) (wt c1 i1 i2).1) (wt c1 i1 j2).1) (wt c1 j1 i2).1) (wt c1 j1 j2).1<=rndI (-1) v/\min (min (min (min (M:Int) (wt c1 i1 i2).2) (wt c1 i1 j2).2) (wt c1 j1 i2).2) (wt c1 j1 j2).2<=rndI 1 v:=by
   obtain⟨u,w,hu',hw',hp⟩:=corner n1 n2 ha hb;unfold Ne at n1 n2 n3;have k:=wt_lo (c:=c1) (u:=u) (w:=w) (v:=v) (t:=a*b) (by omega) (by omega) (by omega) hl hp
   rcases hu' with rfl | rfl<;>rcases hw' with rfl | rfl<;>omega
  have U:rndI (-1) v<=max (max (max (max (-(M:Int)) (wt c2 i1 i2).1) (wt c2 i1 j2).1) (wt c2 j1 i2).1) (wt c2 j1 j2).1/\rndI 1 v<=max (max (max (max (-(M:Int)) (wt c2 i1 i2).2) (wt c2 i1 j2).2) (wt c2 j1 i2).2) (wt c2 j1 j2).2:=by
   obtain⟨u,w,hu',hw',hp⟩:=corner n1.neg n2 ha.neg hb;unfold Ne at n1 n2 n3;rw [show -a*b=-(a*b) by grind] at hp;have k:=wt_hi (c:=c2) (u:=-u) (w:=w) (v:=v) (t:=a*b) (by omega) (by omega) (by omega) hu (by rw [Int.neg_neg];exact hp)
   rcases hu' with rfl | rfl<;>rw [Int.neg_neg] at k<;>rcases hw' with rfl | rfl<;>omega
  unfold Ne at n1 n2 n3;have r1:=rndI_down v;have r2:=rndI_up v;have g:=fun u w=>wt_rng (c:=c1) (u:=u) (v:=w) (by omega);have g':=fun u w=>wt_rng (c:=c2) (u:=u) (v:=w) (by omega);have P0:=le_min5 (l:=-(M:Int)) (m:=M) (by omega) (g i1 i2).1.1 (g i1 j2).1.1 (g j1 i2).1.1 (g j1 j2).1.1;have Q0:=max5_le' (l:=(M:Int)) (m:=-(M:Int)) (by omega) (g' i1 i2).2.2 (g' i1 j2).2.2 (g' j1 i2).2.2 (g' j1 j2).2.2;have PP:=min5_le (m:=(M:Int)) (wt_pair c1 i1 i2) (wt_pair c1 i1 j2) (wt_pair c1 j1 i2) (wt_pair c1 j1 j2);have QQ:=max5_le (m:=-(M:Int)) (wt_pair c2 i1 i2) (wt_pair c2 i1 j2) (wt_pair c2 j1 i2) (wt_pair c2 j1 j2);clear g g' hl hu
  obtain⟨pd,epd⟩:∃ z,min (min (min (min (M:Int) (wt c1 i1 i2).1) (wt c1 i1 j2).1) (wt c1 j1 i2).1) (wt c1 j1 j2).1=z:=⟨_,rfl⟩
  obtain⟨pu,epu⟩:∃ z,min (min (min (min (M:Int) (wt c1 i1 i2).2) (wt c1 i1 j2).2) (wt c1 j1 i2).2) (wt c1 j1 j2).2=z:=⟨_,rfl⟩
  obtain⟨qd,eqd⟩:∃ z,max (max (max (max (-(M:Int)) (wt c2 i1 i2).1) (wt c2 i1 j2).1) (wt c2 j1 i2).1) (wt c2 j1 j2).1=z:=⟨_,rfl⟩
  obtain⟨qu,equ⟩:∃ z,max (max (max (max (-(M:Int)) (wt c2 i1 i2).2) (wt c2 i1 j2).2) (wt c2 j1 i2).2) (wt c2 j1 j2).2=z:=⟨_,rfl⟩
  rw [epd,epu] at L;rw [eqd,equ] at U;rw [epd] at P0;rw [equ] at Q0;rw [epd,epu] at PP;rw [eqd,equ] at QQ;have K:=Cl.ct (pd:=pd) (pu:=pu) (qd:=qd) (qu:=qu) ⟨P0,by omega⟩ ⟨by omega,Q0⟩ PP QQ (by omega) (by omega);refine K.cut (fun i j n=>?_) (fun i j k=>?_)
  ·unfold Ne at n;unfold Go.Proofs.YthlmlmfebpjgdaaGreatDoor.fad;rw [if_neg (by omega),epd,epu,eqd,equ]
  ·unfold Go.Proofs.YthlmlmfebpjgdaaGreatDoor.fad;rw [if_pos (by omega)]
section
open Go.RowKit
attribute [local go_sem] run_store_float
theorem fplainf(b:Nat)(w:World)(hb:b<18446744073709551616)(hr:rungOf b<=M):Calls Tryz.prog 191 #[.float .f64 b] w fun e w'=>e=.returned (.float .f64 (pat (idx b)))/\w=w':=by
 have ho:FloatKind.f64.format.order b 0=some (compare (idx b) (idx 0)):=order_real hr (by show rungOf 0<=M;decide);rw [show idx 0=0 from by decide] at ho;have hp:=pl_real hb hr
 by_cases h:idx b=0
 ·have hq:(FloatKind.f64.format.order b 0 == some Ordering.eq)=true:=by rw [ho,h];rfl
  rw [h,pat_zero];clear ho hp h hr
  go_enter Tryz.func191,Tryz.ntmps191
  go_wp2
  go_ret
  exact⟨rfl,rfl⟩
 ·have hq:(FloatKind.f64.format.order b 0 == some Ordering.eq)=false:=by
   rw [ho]
   rcases Int.lt_trichotomy (idx b) 0 with h1 | h1 | h1
   ·rw [show compare (idx b) 0=.lt from Int.compare_eq_lt.2 h1];rfl
   ·exact absurd h1 h
   ·rw [show compare (idx b) 0=.gt from Int.compare_eq_gt.2 h1];rfl
  have e:pat (idx b)=b:=by
   rw [<- hp];unfold pl;have:=pat_cases hb;rw [if_neg (by omega),if_neg (by omega)]
  rw [e];clear ho hp h hr e
  go_enter Tryz.func191,Tryz.ntmps191
  go_wp2
  go_ret
  exact⟨rfl,rfl⟩
end
section
open Go.RowKit
attribute [local go_sem] run_store_float
attribute [local go_sem] run_negf
set_option maxRecDepth 8000 in
theorem turned_walk(b1 b2 r1 r2:Nat)(w:World)(h1:∀ W,Rt 191 #[.float .f64 (Op.negFloat .f64 b2)] (.float .f64 r1) W)(h2:∀ W,Rt 191 #[.float .f64 (Op.negFloat .f64 b1)] (.float .f64 r2) W):
  Rt 173 #[Zf b1 b2] (Zf r1 r2) w:=by
 have H1:=Hd h1;have H2:=Hd h2;clear h1 h2;have LL:=li2 w (Zv b1 b2) 78 (Zv 0 0) 78
 go_enter Tryz.func173,Tryz.ntmps173
 go_wp2_with fail;replace LL:=Hd (LL.out.loose1 rfl);refine regL LL (fun hHeld=>?_);clear LL;generalize World.drew _=wk at hHeld  ⊢;refine tks 0 ?_;refine tkb 1 (fun _ h=>(h.blk 0 rfl).c2) ?_;refine tks 2 ?_;refine tks 4 ?_;refine tkb 5 (fun _ h=>(h.blk 0 rfl).c2) ?_;refine tks 6 ?_;refine rdy 3 fun KK hKK=>?_;go_simp;refine cs (H1.out _) ?_;clear hKK KK hHeld;intro wk hb1 hHeld;clear hb1;refine rdy 7 fun KK hKK=>?_;go_simp;refine cs (H2.out _) ?_;clear hKK KK hHeld;intro wk hb2 hHeld;clear hb2;refine tks 8 ?_;refine rdy 9 fun KK hKK=>?_;obtain⟨ha0,hf0,ha1,hf1⟩:=(hHeld.has 0 rfl).sf2;go_simp;have HS_0:=(hHeld.has 0 rfl).laid [.float .f64 r1,.float .f64 r2] rfl;refine hKK.out _ _ (hHeld.over 0 rfl [.float .f64 r1,.float .f64 r2] rfl rfl (by first | omega | exact hHeld.le_of 0 rfl) (by simp<;>omega) (by simp<;>omega)) (fun _=>?_);clear hKK KK hHeld;rename_i hHeld;(try simp only [Act.put,lay]);refine wpAnyH_done (by kernel_rfl) ?_ _;have LB:=Hd hHeld.b;clear hHeld;obtain⟨hk2_0,hk2_1⟩:=HS_0.c2;clear HS_0
 simp [sets] at hk2_0 hk2_1
 go_wp2;refine bodyPost_ret (v:=Zf r1 r2) (by simp [results,Tryz.results173,go_sem,hk2_0,hk2_1]) rfl ?_
 exact⟨rfl,LB.out⟩
theorem turned_idx(k l:Int)(w:World)(hk:-(M:Int)<=k/\k<=M)(hl:-(M:Int)<=l/\l<=M):Rt 173 #[Zf (pat k) (pat l)] (Zf (pat (-l)) (pat (-k))) w:=by
 have n1:=negFloat_val (pat_lt hk.1 hk.2);have n2:=negFloat_val (pat_lt hl.1 hl.2);rw [idx_pat hk.1 hk.2,rung_pat hk.1 hk.2] at n1;rw [idx_pat hl.1 hl.2,rung_pat hl.1 hl.2] at n2;have p1:=fun W=>fplainf _ W n1.1 (by omega);have p2:=fun W=>fplainf _ W n2.1 (by omega);rw [n1.2.2] at p1;rw [n2.2.2] at p2
 exact turned_walk _ _ _ _ w (fun W=>(p2 W).mono fun e w' h=>⟨h.1,h.2 ▸ Below.refl _ _⟩) (fun W=>(p1 W).mono fun e w' h=>⟨h.1,h.2 ▸ Below.refl _ _⟩)
set_option maxRecDepth 8000 in
theorem twice_walk(x1 x2 p1 p2 q1 q2 s1 s2 t1 t2 l1 l2 u1 u2 r1 r2:Nat)(op:Bool)(w:World)(hc1:∀ W,Rt 77 #[Zf x1 x2,Zf p1 p2,Zf q1 q2,.bool op] (Zf l1 l2) W)(ht1:∀ W,Rt 173 #[Zf q1 q2] (Zf t1 t2) W)(ht2:∀ W,Rt 173 #[Zf p1 p2] (Zf s1 s2) W)(hc2:∀ W,Rt 77 #[Zf x1 x2,Zf t1 t2,Zf s1 s2,.bool op] (Zf u1 u2) W)
  (hu:∀ W,Rt 63 #[Zf l1 l2,Zf u1 u2] (Zf r1 r2) W):
  Rt 104 #[Zf x1 x2,Zf p1 p2,Zf q1 q2,.bool op] (Zf r1 r2) w:=by
 have HC1:=Hd hc1;have HT1:=Hd ht1;have HT2:=Hd ht2;have HC2:=Hd hc2;have HU:=Hd hu;clear hc1 ht1 ht2 hc2 hu;have LL:=li4 w (Zv x1 x2) 28 (Zv p1 p2) 78 (Zv q1 q2) 78 (Zv 0 0) 28
 go_enter Tryz.func104,Tryz.ntmps104
 go_wp2_with fail;replace LL:=Hd (LL.out.loose3 rfl);refine regL LL (fun hHeld=>?_);clear LL;generalize World.drew _=wk at hHeld  ⊢;refine tkb 0 (fun _ h=>(h.blk 0 rfl).c2) ?_;refine tkb 1 (fun _ h=>(h.blk 1 rfl).c2) ?_;refine tkb 2 (fun _ h=>(h.blk 2 rfl).c2) ?_;refine tks 3 ?_;refine tkb 5 (fun _ h=>(h.blk 0 rfl).c2) ?_;refine tkb 6 (fun _ h=>(h.blk 2 rfl).c2) ?_;refine tkb 8 (fun _ h=>(h.blk 1 rfl).c2) ?_;refine tks 10 ?_;refine rdy 4 fun KK hKK=>?_;go_simp;refine cs (HC1.out _) ?_;clear hKK KK hHeld;intro wk hb1 hHeld;clear hb1;refine rdy 7 fun KK hKK=>?_;go_simp;refine cs (HT1.out _) ?_;clear hKK KK hHeld;intro wk hb2 hHeld;clear hb2;refine rdy 9 fun KK hKK=>?_;go_simp;refine cs (HT2.out _) ?_;clear hKK KK hHeld;intro wk hb3 hHeld;clear hb3;refine rdy 11 fun KK hKK=>?_;go_simp;refine cs (HC2.out _) ?_;clear hKK KK hHeld;intro wk hb4 hHeld;clear hb4;refine rdy 12 fun KK hKK=>?_;go_simp;refine cs (HU.out _) ?_;clear hKK KK hHeld;intro wk hb5 hHeld;clear hb5;refine rdy 13 fun KK hKK=>?_;obtain⟨ha0,hf0,ha1,hf1⟩:=(hHeld.has 0 rfl).sf2;go_simp;have HS_0:=(hHeld.has 0 rfl).laid [.float .f64 r1,.float .f64 r2] rfl;refine hKK.out _ _ (hHeld.over 0 rfl [.float .f64 r1,.float .f64 r2] rfl rfl (by first | omega | exact hHeld.le_of 0 rfl) (by simp<;>omega) (by simp<;>omega)) (fun _=>?_);clear hKK KK hHeld;rename_i hHeld;(try simp only [Act.put,lay]);refine wpAnyH_done (by kernel_rfl) ?_ _;have LB:=Hd hHeld.b;clear hHeld;obtain⟨hk8_0,hk8_1⟩:=HS_0.c2;clear HS_0
 simp [sets] at hk8_0 hk8_1
 go_wp2;refine bodyPost_ret (v:=Zf r1 r2) (by simp [results,Tryz.results104,go_sem,hk8_0,hk8_1]) rfl ?_
 exact⟨rfl,LB.out⟩
set_option maxRecDepth 8000 in
theorem negrev_walk(c1 c2 x1 x2 m1 m2 r1 r2:Nat)(w:World)(hm:∀ W,Rt 85 #[Zf c1 c2] (Zf m1 m2) W)(hi:∀ W,Rt 62 #[Zf m1 m2,Zf x1 x2] (Zf r1 r2) W):
  Rt 49 #[Zf c1 c2,Zf x1 x2] (Zf r1 r2) w:=by
 have HM:=Hd hm;have HI:=Hd hi;clear hm hi;have LL:=li3 w (Zv c1 c2) 28 (Zv x1 x2) 28 (Zv 0 0) 28
 go_enter Tryz.func49,Tryz.ntmps49
 go_wp2_with fail;replace LL:=Hd (LL.out.loose2 rfl);refine regL LL (fun hHeld=>?_);clear LL;generalize World.drew _=wk at hHeld  ⊢;refine tkb 0 (fun _ h=>(h.blk 0 rfl).c2) ?_;refine tkb 2 (fun _ h=>(h.blk 1 rfl).c2) ?_;refine rdy 1 fun KK hKK=>?_;go_simp;refine cs (HM.out _) ?_;clear hKK KK hHeld;intro wk hb1 hHeld;clear hb1;refine rdy 3 fun KK hKK=>?_;go_simp;refine cs (HI.out _) ?_;clear hKK KK hHeld;intro wk hb2 hHeld;clear hb2;refine rdy 4 fun KK hKK=>?_;obtain⟨ha0,hf0,ha1,hf1⟩:=(hHeld.has 0 rfl).sf2;go_simp;have HS_0:=(hHeld.has 0 rfl).laid [.float .f64 r1,.float .f64 r2] rfl;refine hKK.out _ _ (hHeld.over 0 rfl [.float .f64 r1,.float .f64 r2] rfl rfl (by first | omega | exact hHeld.le_of 0 rfl) (by simp<;>omega) (by simp<;>omega)) (fun _=>?_);clear hKK KK hHeld;rename_i hHeld;(try simp only [Act.put,lay]);refine wpAnyH_done (by kernel_rfl) ?_ _;have LB:=Hd hHeld.b;clear hHeld;obtain⟨hk4_0,hk4_1⟩:=HS_0.c2;clear HS_0
 simp [sets] at hk4_0 hk4_1
 go_wp2;refine bodyPost_ret (v:=Zf r1 r2) (by simp [results,Tryz.results49,go_sem,hk4_0,hk4_1]) rfl ?_
 exact⟨rfl,LB.out⟩
set_option maxRecDepth 8000 in
theorem absrev_none(b1 b2 c1 c2 A1 A2 x1 x2:Nat)(d1 d2:Bool)(w:World)(t1:∀ W,Rt 102 #[Zf b1 b2] (Zf A1 A2) W)(m1:Em d1 A1 A2)(t2:∀ W,Rt 102 #[Zf c1 c2] (Zf x1 x2) W)(m2:Em d2 x1 x2)(hnn:(d1 || d2)=true):
  Rt 50 #[Zf b1 b2,Zf c1 c2] (Zf 9218868437227405312 18442240474082181120) w:=by
 have HE:=Hd emptyf;have HRD:=readL32 w (Zv 0 0) 28 t1 m1 t2 m2 hnn;clear t1 m1 t2 m2 hnn
 go_enter Tryz.func50,Tryz.ntmps50
 go_wp2_with fail;refine HRD.out.mono ?_;rintro e wk ⟨rfl,hl⟩;have LL:=Hd hl;clear hl HRD;go_wp2_with fail;refine cx (HE.out _) fun wk hb=>?_;replace LL:=stL LL hb;clear hb;replace LL:=Hd (LL.out.loose2 rfl);obtain⟨ha4_0,hf4_0,ha4_1,hf4_1⟩:=(LL.out.has 0 rfl).sf2;have LF:=Hd (LL.out.wr [.float .f64 9218868437227405312,.float .f64 18442240474082181120]);obtain⟨hk4_0,hk4_1⟩:=(LF.out.blk 2 rfl).c2
 simp [sets] at hk4_0 hk4_1
 clear LL;go_wp2;refine bodyPost_ret (v:=Zf 9218868437227405312 18442240474082181120) (by simp [results,Tryz.results50,go_sem,hk4_0,hk4_1]) rfl ?_
 exact⟨rfl,LF.out.b⟩
set_option maxRecDepth 8000 in
theorem absrev_neg(b1 b2 c1 c2 A1 A2 x1 x2:Nat)(d1 d2:Bool)(w:World)(t1:∀ W,Rt 102 #[Zf b1 b2] (Zf A1 A2) W)(m1:Em d1 A1 A2)(t2:∀ W,Rt 102 #[Zf c1 c2] (Zf x1 x2) W)(m2:Em d2 x1 x2)(hnn:(d1 || d2)=false)(ho:FloatKind.f64.format.order A2 0=some .lt):
  Rt 50 #[Zf b1 b2,Zf c1 c2] (Zf 9218868437227405312 18442240474082181120) w:=by
 have HE:=Hd emptyf;have HRD:=readL32 w (Zv 0 0) 28 t1 m1 t2 m2 hnn;clear t1 m1 t2 m2 hnn
 go_enter Tryz.func50,Tryz.ntmps50
 go_wp2_with fail;refine HRD.out.mono ?_;rintro e wk ⟨rfl,hl⟩;have LL:=Hd hl;clear hl HRD;obtain⟨q1_0,q1_1⟩:=(LL.out.blk 0 rfl).c2;go_wp2_with fail;refine cx (HE.out _) fun wk hb=>?_;replace LL:=stL LL hb;clear hb q1_0 q1_1 ho;replace LL:=Hd (LL.out.loose2 rfl);obtain⟨ha4_0,hf4_0,ha4_1,hf4_1⟩:=(LL.out.has 0 rfl).sf2;have LF:=Hd (LL.out.wr [.float .f64 9218868437227405312,.float .f64 18442240474082181120]);obtain⟨hk4_0,hk4_1⟩:=(LF.out.blk 2 rfl).c2
 simp [sets] at hk4_0 hk4_1
 clear LL;go_wp2;refine bodyPost_ret (v:=Zf 9218868437227405312 18442240474082181120) (by simp [results,Tryz.results50,go_sem,hk4_0,hk4_1]) rfl ?_
 exact⟨rfl,LF.out.b⟩
set_option maxRecDepth 8000 in
theorem absrev_some(b1 b2 c1 c2 A1 A2 x1 x2 mx r1 r2:Nat)(d1 d2:Bool)(w:World)(t1:∀ W,Rt 102 #[Zf b1 b2] (Zf A1 A2) W)(m1:Em d1 A1 A2)(t2:∀ W,Rt 102 #[Zf c1 c2] (Zf x1 x2) W)(m2:Em d2 x1 x2)(hnn:(d1 || d2)=false)(ho:(FloatKind.f64.format.order A2 0 == some Ordering.lt)=false)
  (hmx:∀ W ts t,(Builtin.max_ ts t (Zv A1 0)).run Tryz.prog W=.ok (.float .f64 mx) W)(ht:∀ W,Rt 104 #[Zf x1 x2,Zf mx mx,Zf A2 A2,.bool false] (Zf r1 r2) W):
  Rt 50 #[Zf b1 b2,Zf c1 c2] (Zf r1 r2) w:=by
 have HP:=Hd fun W=>at_any mx W;have HQ:=Hd fun W=>at_any A2 W;have HT:=Hd ht;clear ht;have HRD:=readL32 w (Zv 0 0) 28 t1 m1 t2 m2 hnn;clear t1 m1 t2 m2 hnn
 go_enter Tryz.func50,Tryz.ntmps50
 go_wp2_with fail;refine HRD.out.mono ?_;rintro e wk ⟨rfl,hl⟩;have LL:=Hd hl;clear hl HRD;obtain⟨q1_0,q1_1⟩:=(LL.out.blk 0 rfl).c2
 go_upto_region 3 with fail
 clear ho q1_0 q1_1;replace LL:=Hd (LL.out.loose2 rfl);refine regL LL (fun hHeld=>?_);clear LL;generalize World.drew _=wk at hHeld  ⊢;refine tkb 0 (fun _ h=>(h.blk 1 rfl).c2) ?_;refine tks 1 ?_;refine tkb 2 (fun _ h=>(h.blk 0 rfl).c2) ?_;refine tks 5 ?_;refine tkb 6 (fun _ h=>(h.blk 0 rfl).c2) ?_;refine rdy 3 fun KK hKK=>?_;go_simp;refine hKK.out _ _ hHeld (fun _=>?_);clear hKK KK hHeld;rename_i hHeld;(try simp only [Act.put,lay]);refine rdy 4 fun KK hKK=>?_;go_simp;refine cs (HP.out _) ?_;clear hKK KK hHeld;intro wk hb1 hHeld;clear hb1;refine rdy 7 fun KK hKK=>?_;go_simp;refine cs (HQ.out _) ?_;clear hKK KK hHeld;intro wk hb2 hHeld;clear hb2;refine rdy 8 fun KK hKK=>?_;go_simp;refine cs (HT.out _) ?_;clear hKK KK hHeld;intro wk hb3 hHeld;clear hb3;refine rdy 9 fun KK hKK=>?_;obtain⟨ha0,hf0,ha1,hf1⟩:=(hHeld.has 0 rfl).sf2;go_simp;have HS_0:=(hHeld.has 0 rfl).laid [.float .f64 r1,.float .f64 r2] rfl;refine hKK.out _ _ (hHeld.over 0 rfl [.float .f64 r1,.float .f64 r2] rfl rfl (by first | omega | exact hHeld.le_of 0 rfl) (by simp<;>omega) (by simp<;>omega)) (fun _=>?_);clear hKK KK hHeld;rename_i hHeld;(try simp only [Act.put,lay]);refine wpAnyH_done (by kernel_rfl) ?_ _;have LB:=Hd hHeld.b;clear hHeld;obtain⟨hk4_0,hk4_1⟩:=HS_0.c2;clear HS_0
 simp [sets] at hk4_0 hk4_1
 go_wp2;refine bodyPost_ret (v:=Zf r1 r2) (by simp [results,Tryz.results50,go_sem,hk4_0,hk4_1]) rfl ?_
 exact⟨rfl,LB.out⟩
def abr(i2 j2 i j:Int):Int × Int:=
 if j2<i2\/j<i\/j2<0 then ((M:Int),-(M:Int))
 else (min (ctO false i j (max i2 0) (max i2 0) j2 j2).1 (ctO false i j (-j2) (-j2) (-(max i2 0)) (-(max i2 0))).1,max (ctO false i j (max i2 0) (max i2 0) j2 j2).2 (ctO false i j (-j2) (-j2) (-(max i2 0)) (-(max i2 0))).2)
theorem ctO_iv{i j a b:Int}(h:Iv i j)(h0:¬ j<i)(ha:-(M:Int)<=a/\a<M)(hb:-(M:Int)<b/\b<=M)(hab:a<=b):Iv (ctO false i j a a b b).1 (ctO false i j a a b b).2:=by
 have hM:=M_val;unfold ctO
 by_cases c:b<i\/j<a
 ·rw [if_pos c];exact Iv.none
 ·rw [if_neg c,if_neg (show ¬ (false=true/\(a=0/\a=0/\j<=0\/b=0/\b=0/\0<=i)) from fun h=>by cases h.1)];unfold Iv at *
  dsimp only
  omega
theorem negrev_any(c1 c2 x y:Nat)(w:World)(hc1:c1<18446744073709551616)(hc2:c2<18446744073709551616)(hx:x<18446744073709551616)(hy:y<18446744073709551616):
  Rt 49 #[Zf c1 c2,Zf x y] (Zf (pat (it (-(rd c1 c2).2) (-(rd c1 c2).1) (rd x y).1 (rd x y).2).1) (pat (it (-(rd c1 c2).2) (-(rd c1 c2).1) (rd x y).1 (rd x y).2).2)) w:=
 negrev_walk _ _ _ _ _ _ _ _ w (fun W=>mirrorf c1 c2 W hc1 hc2) (fun W=>inter_gen _ _ _ _ _ _ x y W (rd_iv c1 c2).negg (rd_iv x y) (fun W=>readf_idx _ _ W (rd_iv c1 c2).negg) (fun W=>readf x y W hx hy))
theorem absrev_any(c1 c2 x y:Nat)(w:World)(hc1:c1<18446744073709551616)(hc2:c2<18446744073709551616)(hx:x<18446744073709551616)(hy:y<18446744073709551616):
  Rt 50 #[Zf c1 c2,Zf x y] (Zf (pat (abr (rd c1 c2).1 (rd c1 c2).2 (rd x y).1 (rd x y).2).1) (pat (abr (rd c1 c2).1 (rd c1 c2).2 (rd x y).1 (rd x y).2).2)) w:=by
 have hM:=M_val;have v2:=rd_iv c1 c2;have v3:=rd_iv x y;have t2:=fun W=>readf c1 c2 W hc1 hc2;have t3:=fun W=>readf x y W hx hy
 obtain⟨⟨i2,j2⟩,r2⟩:∃ z,rd c1 c2=z:=⟨_,rfl⟩
 obtain⟨⟨i3,j3⟩,r3⟩:∃ z,rd x y=z:=⟨_,rfl⟩
 rw [r2] at v2 t2;rw [r3] at v3 t3;rw [r2,r3]
 dsimp only at *
 have m2:=em_idx v2;have m3:=em_idx v3;unfold abr
 by_cases hno:j2<i2\/j3<i3
 ·rw [if_pos (by omega),pat_max,pat_min]
  exact absrev_none _ _ _ _ _ _ _ _ _ _ w t2 m2 t3 m3 (by simp;omega)
 ·have hnn:(decide (j2<i2) || decide (j3<i3))=false:=by simp;omega
  by_cases h0:j2<0
  ·rw [if_pos (by omega),pat_max,pat_min]
   exact absrev_neg _ _ _ _ _ _ _ _ _ _ w t2 m2 t3 m3 hnn (ord0_lt v2.hi h0)
  ·rw [if_neg (by omega)];have n2:=ne_or v2 (by omega);unfold Ne at n2;have hmx:=fun W ts t=>run_maxf v2.lo (show -(M:Int)<=0/\(0:Int)<=M by omega) W ts t;rw [pat_zero] at hmx
   have oo:(FloatKind.f64.format.order (pat j2) 0 == some Ordering.lt)=false:=by
    by_cases h:j2=0
    ·rw [ord0_eq h];rfl
    ·rw [ord0_gt v2.hi (by omega)];rfl
   have ka:-(M:Int)<=max i2 0/\max i2 0<=M:=by omega
   have kn:-(M:Int)<=-max i2 0/\-max i2 0<=M:=by omega
   have kj:-(M:Int)<=-j2/\-j2<=M:=by omega
   refine absrev_some _ _ _ _ _ _ _ _ _ _ _ _ _ w t2 m2 t3 m3 hnn oo hmx fun W=>?_
   exact twice_walk _ _ _ _ _ _ _ _ _ _ _ _ _ _ _ _ false W (fun W=>rcut2_any false i3 j3 (max i2 0) (max i2 0) j2 j2 W v3.lo v3.hi ka ka v2.hi v2.hi) (fun W=>turned_idx j2 j2 W v2.hi v2.hi) (fun W=>turned_idx _ _ W ka ka) (fun W=>rcut2_any false i3 j3 (-j2) (-j2) (-max i2 0) (-max i2 0) W v3.lo v3.hi kj kj kn kn)
    (fun W=>hullf _ _ _ _ W (ctO_iv v3 (by omega) (by omega) (by omega) (by omega)) (ctO_iv v3 (by omega) (by omega) (by omega) (by omega)))
end
section
open Go.RowKit
attribute [local go_sem] run_store_float run_negf
set_option maxRecDepth 8000 in
theorem revroot_walk(x n r1 r2:Nat)(w:World)(h1:∀ W,Rt 174 #[.int .i64 (-1),.float .f64 x,.int .i64 (n:Int)] (.float .f64 r1) W)(h2:∀ W,Rt 174 #[.int .i64 1,.float .f64 x,.int .i64 (n:Int)] (.float .f64 r2) W):
  Rt 105 #[.float .f64 x,.int .i64 (n:Int)] (Zf r1 r2) w:=by
 have H1:=Hd h1;have H2:=Hd h2;clear h1 h2;have LL:=li1 w (Zv 0 0) 78
 go_enter Tryz.func105,Tryz.ntmps105
 go_wp2_with fail;refine cx (H1.out _) fun wk hb=>?_;replace LL:=stL LL hb;clear hb;go_wp2_with fail;refine cx (H2.out _) fun wk hb=>?_;replace LL:=stL LL hb;clear hb;replace LL:=Hd (LL.out.loose0 rfl);obtain⟨ha4_0,hf4_0,ha4_1,hf4_1⟩:=(LL.out.has 0 rfl).sf2;have LF:=Hd (LL.out.wr [.float .f64 r1,.float .f64 r2]);obtain⟨hk4_0,hk4_1⟩:=(LF.out.blk 0 rfl).c2
 simp [sets] at hk4_0 hk4_1
 clear LL;go_wp2;refine bodyPost_ret (v:=Zf r1 r2) (by simp [results,Tryz.results105,go_sem,hk4_0,hk4_1]) rfl ?_
 exact⟨rfl,LF.out.b⟩
set_option maxRecDepth 8000 in
theorem pown_none(n b1 b2 c1 c2 A1 A2 x1 x2:Nat)(d1 d2:Bool)(w:World)(t1:∀ W,Rt 102 #[Zf b1 b2] (Zf A1 A2) W)(m1:Em d1 A1 A2)(t2:∀ W,Rt 102 #[Zf c1 c2] (Zf x1 x2) W)(m2:Em d2 x1 x2)(hn:1<=n)(hn2:n<=1024)(hnn:(d1 || d2)=true):
  Rt 39 #[.int .i64 (n:Int),Zf b1 b2,Zf c1 c2] (Zf 9218868437227405312 18442240474082181120) w:=by
 have HE:=Hd emptyf
 have n1:¬ (n:Int) < -1024:=by omega
 have n2:¬ (1024:Int)<(n:Int):=by omega
 clear hn hn2;have HRD:=readL32 w (Zv 0 0) 28 t1 m1 t2 m2 hnn;clear t1 m1 t2 m2 hnn
 go_enter Tryz.func39,Tryz.ntmps39
 go_wp2_with fail;refine HRD.out.mono ?_;rintro e wk ⟨rfl,hl⟩;have LL:=Hd hl;clear hl HRD;go_wp2_with fail;refine cx (HE.out _) fun wk hb=>?_;replace LL:=stL LL hb;clear hb;replace LL:=Hd (LL.out.loose2 rfl);obtain⟨ha6_0,hf6_0,ha6_1,hf6_1⟩:=(LL.out.has 0 rfl).sf2;have LF:=Hd (LL.out.wr [.float .f64 9218868437227405312,.float .f64 18442240474082181120]);obtain⟨hk6_0,hk6_1⟩:=(LF.out.blk 2 rfl).c2
 simp [sets] at hk6_0 hk6_1
 clear LL;go_wp2;refine bodyPost_ret (v:=Zf 9218868437227405312 18442240474082181120) (by simp [results,Tryz.results39,go_sem,hk6_0,hk6_1]) rfl ?_
 exact⟨rfl,LF.out.b⟩
set_option maxRecDepth 8000 in
theorem pown_neg(n b1 b2 c1 c2 A1 A2 x1 x2:Nat)(d1 d2:Bool)(w:World)(t1:∀ W,Rt 102 #[Zf b1 b2] (Zf A1 A2) W)(m1:Em d1 A1 A2)(t2:∀ W,Rt 102 #[Zf c1 c2] (Zf x1 x2) W)(m2:Em d2 x1 x2)(hn:1<=n)(hn2:n<=1024)(hp:n % 2=0)(hnn:(d1 || d2)=false)(ho:FloatKind.f64.format.order A2 0=some .lt):
  Rt 39 #[.int .i64 (n:Int),Zf b1 b2,Zf c1 c2] (Zf 9218868437227405312 18442240474082181120) w:=by
 have HE:=Hd emptyf
 have n1:¬ (n:Int) < -1024:=by omega
 have n2:¬ (1024:Int)<(n:Int):=by omega
 have n3:((n:Int) == 0)=false:=by simp;omega
 have n4:¬ (n:Int)<0:=by omega
 have n5:(n:Int) % 2=0:=by omega
 clear hn hn2 hp;have HRD:=readL32 w (Zv 0 0) 28 t1 m1 t2 m2 hnn;clear t1 m1 t2 m2 hnn
 go_enter Tryz.func39,Tryz.ntmps39
 go_wp2_with fail;refine HRD.out.mono ?_;rintro e wk ⟨rfl,hl⟩;have LL:=Hd hl;clear hl HRD;obtain⟨q1_0,q1_1⟩:=(LL.out.blk 0 rfl).c2;go_wp2_with fail;refine cx (HE.out _) fun wk hb=>?_;replace LL:=stL LL hb;clear hb q1_0 q1_1 ho;replace LL:=Hd (LL.out.loose2 rfl);obtain⟨ha6_0,hf6_0,ha6_1,hf6_1⟩:=(LL.out.has 0 rfl).sf2;have LF:=Hd (LL.out.wr [.float .f64 9218868437227405312,.float .f64 18442240474082181120]);obtain⟨hk6_0,hk6_1⟩:=(LF.out.blk 2 rfl).c2
 simp [sets] at hk6_0 hk6_1
 clear LL;go_wp2;refine bodyPost_ret (v:=Zf 9218868437227405312 18442240474082181120) (by simp [results,Tryz.results39,go_sem,hk6_0,hk6_1]) rfl ?_
 exact⟨rfl,LF.out.b⟩
set_option maxRecDepth 8000 in
theorem pown_even(n b1 b2 c1 c2 A1 A2 x1 x2 mx p1 p2 q1 q2 r1 r2:Nat)(o:Ordering)(d1 d2:Bool)(w:World)(t1:∀ W,Rt 102 #[Zf b1 b2] (Zf A1 A2) W)(m1:Em d1 A1 A2)(t2:∀ W,Rt 102 #[Zf c1 c2] (Zf x1 x2) W)(m2:Em d2 x1 x2)(hn:1<=n)(hn2:n<=1024)(hp:n % 2=0)(hnn:(d1 || d2)=false)(ho:FloatKind.f64.format.order A2 0=some o)(hoo:o=.eq\/o=.gt)
  (hmx:∀ W ts t,(Builtin.max_ ts t (Zv A1 0)).run Tryz.prog W=.ok (.float .f64 mx) W)(h1:∀ W,Rt 105 #[.float .f64 mx,.int .i64 (n:Int)] (Zf p1 p2) W)(h2:∀ W,Rt 105 #[.float .f64 A2,.int .i64 (n:Int)] (Zf q1 q2) W)(ht:∀ W,Rt 104 #[Zf x1 x2,Zf p1 p2,Zf q1 q2,.bool false] (Zf r1 r2) W):
  Rt 39 #[.int .i64 (n:Int),Zf b1 b2,Zf c1 c2] (Zf r1 r2) w:=by
 have n1:¬ (n:Int) < -1024:=by omega
 have n2:¬ (1024:Int)<(n:Int):=by omega
 have n3:((n:Int) == 0)=false:=by simp;omega
 have n4:¬ (n:Int)<0:=by omega
 have n5:(n:Int) % 2=0:=by omega
 clear hn hn2 hp;have H1:=Hd h1;have H2:=Hd h2;have HT:=Hd ht;clear h1 h2 ht
 rcases hoo with rfl | rfl
 all_goals
  have HRD:=readL32 w (Zv 0 0) 28 t1 m1 t2 m2 hnn;clear t1 m1 t2 m2 hnn
  go_enter Tryz.func39,Tryz.ntmps39
  go_wp2_with fail;refine HRD.out.mono ?_;rintro e wk ⟨rfl,hl⟩;have LL:=Hd hl;clear hl HRD;obtain⟨q1_0,q1_1⟩:=(LL.out.blk 0 rfl).c2
  go_upto_region 12 with fail
  clear ho q1_0 q1_1;replace LL:=Hd (LL.out.loose2 rfl);refine regL LL (fun hHeld=>?_);clear LL;generalize World.drew _=wk at hHeld  ⊢;refine tkb 0 (fun _ h=>(h.blk 1 rfl).c2) ?_;refine tks 1 ?_;refine tkb 2 (fun _ h=>(h.blk 0 rfl).c2) ?_;refine tks 4 ?_;refine tks 6 ?_;refine tkb 7 (fun _ h=>(h.blk 0 rfl).c2) ?_;refine tks 8 ?_;refine rdy 3 fun KK hKK=>?_;go_simp;refine hKK.out _ _ hHeld (fun _=>?_);clear hKK KK hHeld;rename_i hHeld;(try simp only [Act.put,lay]);refine rdy 5 fun KK hKK=>?_;go_simp;refine cs (H1.out _) ?_;clear hKK KK hHeld;intro wk hb1 hHeld;clear hb1;refine rdy 9 fun KK hKK=>?_;go_simp;refine cs (H2.out _) ?_;clear hKK KK hHeld;intro wk hb2 hHeld;clear hb2;refine rdy 10 fun KK hKK=>?_;go_simp;refine cs (HT.out _) ?_;clear hKK KK hHeld;intro wk hb3 hHeld;clear hb3;refine rdy 11 fun KK hKK=>?_;obtain⟨ha0,hf0,ha1,hf1⟩:=(hHeld.has 0 rfl).sf2;go_simp;have HS_0:=(hHeld.has 0 rfl).laid [.float .f64 r1,.float .f64 r2] rfl;refine hKK.out _ _ (hHeld.over 0 rfl [.float .f64 r1,.float .f64 r2] rfl rfl (by first | omega | exact hHeld.le_of 0 rfl) (by simp<;>omega) (by simp<;>omega)) (fun _=>?_);clear hKK KK hHeld;rename_i hHeld;(try simp only [Act.put,lay]);refine wpAnyH_done (by kernel_rfl) ?_ _;have LB:=Hd hHeld.b;clear hHeld;obtain⟨hk6_0,hk6_1⟩:=HS_0.c2;clear HS_0
  simp [sets] at hk6_0 hk6_1
  go_wp2;refine bodyPost_ret (v:=Zf r1 r2) (by simp [results,Tryz.results39,go_sem,hk6_0,hk6_1]) rfl ?_
  exact⟨rfl,LB.out⟩
set_option maxRecDepth 8000 in
theorem pown_odd(n b1 b2 c1 c2 A1 A2 x1 x2 p1 p2 q1 q2 r1 r2:Nat)(d1 d2:Bool)(w:World)(t1:∀ W,Rt 102 #[Zf b1 b2] (Zf A1 A2) W)(m1:Em d1 A1 A2)(t2:∀ W,Rt 102 #[Zf c1 c2] (Zf x1 x2) W)(m2:Em d2 x1 x2)(hn:1<=n)(hn2:n<=1024)(hp:n % 2=1)(hnn:(d1 || d2)=false)
  (h1:∀ W,Rt 105 #[.float .f64 A1,.int .i64 (n:Int)] (Zf p1 p2) W)(h2:∀ W,Rt 105 #[.float .f64 A2,.int .i64 (n:Int)] (Zf q1 q2) W)(ht:∀ W,Rt 77 #[Zf x1 x2,Zf p1 p2,Zf q1 q2,.bool false] (Zf r1 r2) W):
  Rt 39 #[.int .i64 (n:Int),Zf b1 b2,Zf c1 c2] (Zf r1 r2) w:=by
 have n1:¬ (n:Int) < -1024:=by omega
 have n2:¬ (1024:Int)<(n:Int):=by omega
 have n3:((n:Int) == 0)=false:=by simp;omega
 have n4:¬ (n:Int)<0:=by omega
 have n5:(n:Int) % 2=1:=by omega
 clear hn hn2 hp;have H1:=Hd h1;have H2:=Hd h2;have HT:=Hd ht;clear h1 h2 ht;have HRD:=readL32 w (Zv 0 0) 28 t1 m1 t2 m2 hnn;clear t1 m1 t2 m2 hnn
 go_enter Tryz.func39,Tryz.ntmps39
 go_wp2_with fail;refine HRD.out.mono ?_;rintro e wk ⟨rfl,hl⟩;have LL:=Hd hl;clear hl HRD
 go_upto_region 13 with fail
 replace LL:=Hd (LL.out.loose2 rfl);refine regL LL (fun hHeld=>?_);clear LL;generalize World.drew _=wk at hHeld  ⊢;refine tkb 0 (fun _ h=>(h.blk 1 rfl).c2) ?_;refine tks 1 ?_;refine tkb 2 (fun _ h=>(h.blk 0 rfl).c2) ?_;refine tks 3 ?_;refine tks 5 ?_;refine tkb 6 (fun _ h=>(h.blk 0 rfl).c2) ?_;refine tks 7 ?_;refine rdy 4 fun KK hKK=>?_;go_simp;refine cs (H1.out _) ?_;clear hKK KK hHeld;intro wk hb1 hHeld;clear hb1;refine rdy 8 fun KK hKK=>?_;go_simp;refine cs (H2.out _) ?_;clear hKK KK hHeld;intro wk hb2 hHeld;clear hb2;refine rdy 9 fun KK hKK=>?_;go_simp;refine cs (HT.out _) ?_;clear hKK KK hHeld;intro wk hb3 hHeld;clear hb3;refine rdy 10 fun KK hKK=>?_;obtain⟨ha0,hf0,ha1,hf1⟩:=(hHeld.has 0 rfl).sf2;go_simp;have HS_0:=(hHeld.has 0 rfl).laid [.float .f64 r1,.float .f64 r2] rfl;refine hKK.out _ _ (hHeld.over 0 rfl [.float .f64 r1,.float .f64 r2] rfl rfl (by first | omega | exact hHeld.le_of 0 rfl) (by simp<;>omega) (by simp<;>omega)) (fun _=>?_);clear hKK KK hHeld;rename_i hHeld;(try simp only [Act.put,lay]);refine wpAnyH_done (by kernel_rfl) ?_ _;have LB:=Hd hHeld.b;clear hHeld;obtain⟨hk6_0,hk6_1⟩:=HS_0.c2;clear HS_0
 simp [sets] at hk6_0 hk6_1
 go_wp2;refine bodyPost_ret (v:=Zf r1 r2) (by simp [results,Tryz.results39,go_sem,hk6_0,hk6_1]) rfl ?_
 exact⟨rfl,LB.out⟩
set_option maxRecDepth 8000 in
theorem sqr_walk(b1 b2 c1 c2 r1 r2:Nat)(w:World)(h:∀ W,Rt 39 #[.int .i64 2,Zf b1 b2,Zf c1 c2] (Zf r1 r2) W):
  Rt 14 #[Zf b1 b2,Zf c1 c2] (Zf r1 r2) w:=by
 have H:=Hd h;clear h;have LL:=li3 w (Zv b1 b2) 28 (Zv c1 c2) 28 (Zv 0 0) 28
 go_enter Tryz.func14,Tryz.ntmps14
 obtain⟨q1_0,q1_1⟩:=(LL.out.blk 0 rfl).c2;obtain⟨q2_0,q2_1⟩:=(LL.out.blk 1 rfl).c2;go_wp2_with fail;refine cx (H.out _) fun wk hb=>?_;replace LL:=stL LL hb;clear hb q1_0 q1_1 q2_0 q2_1;replace LL:=Hd (LL.out.loose2 rfl);obtain⟨ha4_0,hf4_0,ha4_1,hf4_1⟩:=(LL.out.has 0 rfl).sf2;have LF:=Hd (LL.out.wr [.float .f64 r1,.float .f64 r2]);obtain⟨hk4_0,hk4_1⟩:=(LF.out.blk 2 rfl).c2
 simp [sets] at hk4_0 hk4_1
 clear LL;go_wp2;refine bodyPost_ret (v:=Zf r1 r2) (by simp [results,Tryz.results14,go_sem,hk4_0,hk4_1]) rfl ?_
 exact⟨rfl,LF.out.b⟩
end
section
open Go.RowKit
theorem npow_any(A:Option Addr)(n c N:Nat)(xs:List Nat)(w:World)(hx:U32s w A n c xs)(hl:wlen xs<=16384)(hN:N<=4096)(hb:blen (num xs)*N<=500000):
  Calls Tryz.prog 251 #[.slice A n c,.int .i64 (N:Int)] w (NewU32E w (digs (num xs ^ N))):=by
 obtain⟨w1,hw1⟩:∃ w1,w.alloc (.cells #[.slice A n c] 40)=w1:=⟨_,rfl⟩
 have hb1:Below w.heap.size w w1:=by rw [<- hw1];exact below_alloc w _
 have hx1:=hx.below hb1;have hlg:=long_one w.heap.size A n c xs w1 hx1 (by rw [<- hw1];simp [World.cell?_alloc_new]) hl;have hnn:=Nat.le_trans (digs_length_le (num_lt_wlen hx.w32)) hl;have hn0:=nnorm_any A n c xs w1 hx1;have hln:=fun W (hb:Below w1.heap.size w1 W)=>nlen_any A n c xs W (hx1.below hb)
 obtain⟨X,hX⟩:∃ X,num xs=X:=⟨_,rfl⟩
 rw [hX] at hb hnn hn0 hln ⊢
 obtain⟨K,hK⟩:∃ K,blen X=K:=⟨_,rfl⟩
 rw [hK] at hb hln
 have hXK:X<2^K:=by rw [<- hK];exact blen_le_iff.1 (Nat.le_refl _)
 have HLG:=Hd hlg;have HN:=Hd hn0;have HL:=Hd hln;have HB1:=Hd hb1;have HW1:=Hd hw1;have HK:=Hd hK;have HXK:=Hd hXK;have HNN:=Hd hnn;have HBB:=Hd hb;have HM:=Hd fun (W:World) (Ap Ax:Option Addr) (np cp nx cx P X:Nat) (h1:U32s W Ap np cp (digs P)) (h2:U32s W Ax nx cx (digs X)) (h3:np<=16384) (h4:nx<=16384)=>nmul_in Ap Ax np cp nx cx (digs P) (digs X) W h1 h2 (by omega) (by omega);have HC:=Hd fun (W:World) (D:Option Addr) (n c:Nat) (ls:List Nat) (h:U32s W D n c ls)=>cut_any D n c ls W h;have hAND:=fun (j:Nat) (hj:j<=4096)=>and_one j (by omega);have HAND:=Hd hAND;clear hx hx1 hlg hnn hn0 hln hX hK hXK hb hl hb1 hw1 hAND
 go_enter Tryz.func251,Tryz.ntmps251
 go_wp2_with fail;rw [HW1.out];refine HLG.out.mono ?_;rintro e w' ⟨rfl,rfl⟩;go_wp2_with fail;refine HN.out.mono ?_;rintro e w2 ⟨g,nn,rfl,hl2,ha,hg,hb2⟩;have hnn:=HNN.out;have HU:=Hd (ha.u32s' (W32.digs _) hl2 (by omega));have HNB:=Hd (show nn<=16384 by omega);have HB2:=Hd hb2;clear hl2 ha hg hb2 hnn HNN HN HLG;go_wp2_with fail;refine cy (HL.out _ HB2.out) ?_;have HB3:=Hd (HB1.out.trans (HB2.out.mono HB1.out.size));clear HL HB1 HB2 HW1
 rcases Nat.eq_zero_or_pos N with h0 | h0
 ·subst h0;go_wp2
  go_ret2
  exact⟨_,1,1,rfl,by rw [Nat.pow_zero,digs_one];exact U32s.lit1 w2 117 (a:=1) (by omega),HB3.out.alloc HB3.out.size _⟩
 have hz:((N:Int) == 0)=false:=by simp;omega
 by_cases hK2:K<2
 ·have hk2:(K:Int)<2:=by omega
  have hXN:X ^ N=X:=by
   have h:=HXK.out;have h2:(2:Nat) ^ K<=2 ^ 1:=Nat.pow_le_pow_right (by omega) (by omega)
   rcases (show X=0\/X=1 by omega) with h | h
   ·rw [h,Nat.zero_pow h0]
   ·rw [h,Nat.one_pow]
  have HXI:=Hd hXN;clear hXN hK2;go_wp2
  go_ret2
  exact⟨_,nn,nn,rfl,by rw [HXI.out];exact HU.out,HB3.out⟩
 have hk2:¬ (K:Int)<2:=by omega
 have hX0:0<X:=by
  rcases Nat.eq_zero_or_pos X with h | h
  ·have:=HK.out;rw [h,blen_zero] at this;omega
  ·exact h
 have HX0:=Hd hX0
 have hq:N<=524288 / (K - 1):=by
  rw [Nat.le_div_iff_mul_le (by omega)];have:=HBB.out
  obtain⟨K1,rfl⟩:∃ K1,K=K1+1:=⟨K - 1,by omega⟩
  rw [Nat.mul_comm,Nat.add_sub_cancel];rw [Nat.add_mul,Nat.one_mul] at this
  omega
 obtain⟨K1,hK1⟩:∃ K1,K - 1=K1:=⟨_,rfl⟩
 rw [hK1] at hq
 obtain⟨Q,hQ⟩:∃ Q,524288 / K1=Q:=⟨_,rfl⟩
 rw [hQ] at hq
 have hKL:K<=524288:=by
  have:=HBB.out;have:=Nat.mul_le_mul_left K h0
  omega
 have hk3:wrap64 ((K:Int) - 1)=(K1:Int):=by unfold wrap64;omega
 have hk4:¬ (K1:Int)=0:=by omega
 have hq1:(524288:Int) / (K1:Int)=(Q:Int):=by rw [<- hQ];rfl
 have hq2:(524288:Int).tdiv (K1:Int)=(Q:Int):=by rw [Int.tdiv_eq_ediv_of_nonneg (by omega)];exact hq1
 have hq5:(524288:Int) / ((K:Int) - 1)=(Q:Int):=by rw [show ((K:Int) - 1)=(K1:Int) from by omega];exact hq1
 have hq3:¬ ((Q:Int)<(N:Int)):=by omega
 have hQ2:Q<=524288:=by rw [<- hQ];exact Nat.div_le_self _ _
 have hq4:wrap64 (Q:Int)=(Q:Int):=by unfold wrap64;omega
 clear hK1 hQ hq hQ2
 obtain⟨S,hS⟩:∃ S:Nat,S=15626:=⟨_,rfl⟩
 have HXN:=Hd (show X ^ N<2 ^ (32*S) from by
  calc X ^ N<=(2 ^ K) ^ N:=Nat.pow_le_pow_left (Nat.le_of_lt HXK.out) N
   _=2 ^ (K*N):=by rw [Nat.pow_mul]
   _<2 ^ (32*S):=Nat.pow_lt_pow_right (by omega) (by have:=HBB.out;omega))
 have HS:=Hd hS;clear hX0 hK2 hS HBB HXK HK;go_wp2
 simp only [show decide (Q<N)=false from decide_eq_false (by omega)]
 go_loopw [1,6,8] (fun jv xv pv wr=>∃ (j P Y:Nat) (Ap Ax:Option Addr) (np nx cp cx:Nat),jv=.int .i64 j/\xv=.slice Ax nx cx/\pv=.slice Ap np cp/\(1<=j/\j<=N)/\PowInv X N P Y j /\
  U32s wr Ap np cp (digs P)/\U32s wr Ax nx cx (digs Y)/\(np<=16384/\nx<=16384)/\Below w.heap.size w wr) (fun jv _ _ _=>(intOf jv).toNat)
 case atStart=>exact⟨N,1,X,some ⟨w2.heap.size,0,none⟩,some ⟨g,0,none⟩,1,nn,1,nn,rfl,rfl,rfl,⟨h0,Nat.le_refl _⟩,by unfold PowInv;rw [Nat.one_mul],by rw [digs_one];exact U32s.lit1 w2 117 (a:=1) (by omega),HU.out.alloc _,⟨by omega,HNB.out⟩,HB3.out.alloc HB3.out.size _⟩
 case round=>
  obtain⟨j,P,Y,Ap,Ax,np,nx,cp,cx,rfl,rfl,rfl,hj,hinv,hp,hx,⟨hnp,hnx⟩,hb⟩:=hrel;have HI:=Hd hinv;have HP:=Hd hp;have HX:=Hd hx;have HBB:=Hd hb;clear hinv hp hx hb HU HB3 HNB hk2 hk3 hk4 hq1 hq2 hq3 hq4 hq5 hKL
  by_cases hodd:j % 2=1
  ·have ga:bits .and .i64 (j:Int) 1=1:=by rw [HAND.out j (by omega),hodd];rfl
   have HT:=Hd (HM.out _ Ap Ax np cp nx cx P Y HP.out HX.out hnp hnx);go_wp2_with fail;refine HT.out.mono ?_;rintro e w4 ⟨D4,n4,c4,ls4,rfl,hu4,hv4,hn4,hb4⟩;rw [num_digs,num_digs] at hv4;have HC4:=Hd (HC.out _ D4 n4 c4 ls4 hu4);have hp4:=hu4.cutd;rw [hv4] at hp4;have HP4:=Hd hp4;have HX4:=Hd (HX.out.below hb4);have HB4:=Hd (HBB.out.trans (hb4.mono HBB.out.size))
   have hl4:wlen ls4<=16384:=by
    have h:=digs_length_le (Nat.lt_of_le_of_lt (HI.out.le_px HX0.out (show 0<j by omega)) HXN.out);rw [hp4.len] at h;have:=HS.out;omega
   have HL4:=Hd hl4;clear hu4 hv4 hn4 hb4 hp4 HT HP HX HBB hl4;go_wp2_with fail;refine HC4.out.mono ?_;rintro e w' ⟨rfl,rfl⟩;clear HC4
   obtain⟨k4,hk4⟩:∃ k,wlen ls4=k:=⟨_,rfl⟩
   rw [hk4] at HP4 HL4 ⊢;clear hk4;have hk4:=HL4.out
   have HJ2:=Hd (show (j<2->P*Y=X ^ N)/\PowInv X N (P*Y) (Y*Y) (j / 2) from⟨fun h=>by
    have h2:=HI.out.odd hodd;rw [show j / 2=0 by omega] at h2
    exact h2.done,HI.out.odd hodd⟩)
   clear ga hodd
   by_cases hj1:j<2
   ·have gz:(j:Int) / 2=0:=by omega
    have e:P*Y=X ^ N:=HJ2.out.1 hj1;rw [e] at HP4;clear HM HC HAND hj1 e HJ2;go_wp2
    go_ret2
    exact⟨D4,k4,k4,rfl,HP4.out,HB4.out⟩
   ·have gz:¬ (j:Int) / 2=0:=by omega
    have HT2:=Hd (HM.out _ Ax Ax nx cx nx cx Y Y HX4.out HX4.out hnx hnx);go_wp2_with fail;refine HT2.out.mono ?_;rintro e w5 ⟨D5,n5,c5,ls5,rfl,hu5,hv5,hn5,hb5⟩
    simp only [num_digs] at hv5
    have HC5:=Hd (HC.out _ D5 n5 c5 ls5 hu5);have hx5:=hu5.cutd;rw [hv5] at hx5;have HX5:=Hd hx5;have HP5:=Hd (HP4.out.below hb5);have HB5:=Hd (HB4.out.trans (hb5.mono HB4.out.size))
    have HL5:=Hd (show wlen ls5<=16384 from by
     have h:=digs_length_le (Nat.lt_of_le_of_lt (HI.out.le_xx HX0.out (show 2<=j by omega)) HXN.out);rw [hx5.len] at h
     have:=HS.out;omega)
    clear hu5 hv5 hn5 hb5 hx5 HT2 HP4 HX4 HB4;go_wp2_with fail;refine HC5.out.mono ?_;rintro e w' ⟨rfl,rfl⟩;clear HC5
    obtain⟨k5,hk5⟩:∃ k,wlen ls5=k:=⟨_,rfl⟩
    rw [hk5] at HX5 HL5 ⊢;go_wp2
    go_roundw
    case rel=>exact⟨j / 2,_,_,D4,D5,k4,k5,_,_,by go_num,rfl,rfl,by omega,HJ2.out.2,HP5.out,HX5.out,⟨by omega,HL5.out⟩,HB5.out⟩
    case measure=>simp [intOf];omega
  ·have ga:bits .and .i64 (j:Int) 1=0:=by rw [HAND.out j (by omega),show j % 2=0 by omega];rfl
   have HJ2:=Hd (show (j<2->P=X ^ N)/\PowInv X N P (Y*Y) (j / 2) from⟨fun h=>by omega,HI.out.even (by omega)⟩);clear hodd
   by_cases hj1:j<2
   ·have gz:(j:Int) / 2=0:=by omega
    have e:P=X ^ N:=HJ2.out.1 hj1;rw [e] at HP;clear HM HC HAND hj1 e HJ2;go_wp2
    go_ret2
    exact⟨Ap,np,cp,rfl,HP.out,HBB.out⟩
   ·have gz:¬ (j:Int) / 2=0:=by omega
    have HT2:=Hd (HM.out _ Ax Ax nx cx nx cx Y Y HX.out HX.out hnx hnx);go_wp2_with fail;refine HT2.out.mono ?_;rintro e w5 ⟨D5,n5,c5,ls5,rfl,hu5,hv5,hn5,hb5⟩
    simp only [num_digs] at hv5
    have HC5:=Hd (HC.out _ D5 n5 c5 ls5 hu5);have hx5:=hu5.cutd;rw [hv5] at hx5;have HX5:=Hd hx5;have HP5:=Hd (HP.out.below hb5);have HB5:=Hd (HBB.out.trans (hb5.mono HBB.out.size))
    have HL5:=Hd (show wlen ls5<=16384 from by
     have h:=digs_length_le (Nat.lt_of_le_of_lt (HI.out.le_xx HX0.out (show 2<=j by omega)) HXN.out);rw [hx5.len] at h
     have:=HS.out;omega)
    clear hu5 hv5 hn5 hb5 hx5 HT2 HP HX HBB;go_wp2_with fail;refine HC5.out.mono ?_;rintro e w' ⟨rfl,rfl⟩;clear HC5
    obtain⟨k5,hk5⟩:∃ k,wlen ls5=k:=⟨_,rfl⟩
    rw [hk5] at HX5 HL5 ⊢;go_wp2
    go_roundw
    case rel=>exact⟨j / 2,_,_,Ap,D5,np,k5,_,_,by go_num,rfl,rfl,by omega,HJ2.out.2,HP5.out,HX5.out,⟨by omega,HL5.out⟩,HB5.out⟩
    case measure=>simp [intOf];omega
end
def IsR(a n r:Nat):Prop:=r ^ n<=a/\a<(r+1) ^ n
theorem exists_root(n:Nat)(hn:0<n)(a:Nat):∃ r,IsR a n r:=by
 induction a with
 | zero=>exact⟨0,by rw [Nat.zero_pow hn];exact Nat.le_refl 0,by rw [Nat.one_pow];omega⟩
 | succ a ih=>
  obtain⟨r,h1,h2⟩:=ih
  by_cases h:(r+1) ^ n<=a+1
  ·refine⟨r+1,h,?_⟩;have:(r+1) ^ n<(r+1+1) ^ n:=Nat.pow_lt_pow_left (by omega) (by omega)
   omega
  ·exact⟨r,by omega,by omega⟩
theorem IsR.lt{a n r x:Nat}(h:IsR a n r)(hx:a<x ^ n):r<x:=by
 rcases Nat.lt_or_ge r x with k | k
 ·exact k
 ·have:=Nat.pow_le_pow_left k n;have:=h.1
  omega
theorem IsR.ge{a n r x:Nat}(h:IsR a n r)(hx:x ^ n<=a):x<=r:=by
 rcases Nat.lt_or_ge r x with k | k
 ·have:=Nat.pow_le_pow_left (show r+1<=x from k) n;have:=h.2
  omega
 ·exact k
theorem IsR.pos{a n r:Nat}(h:IsR a n r)(ha:0<a):0<r:=by
 rcases Nat.eq_zero_or_pos r with k | k
 ·subst k;have:=h.2;rw [Nat.zero_add,Nat.one_pow] at this
  omega
 ·exact k
theorem IsR.one{a r:Nat}(h:IsR a 1 r):r=a:=by
 have h1:=h.1;have h2:=h.2;rw [Nat.pow_one] at h1 h2
 omega
theorem IsR.uniq{a n r r':Nat}(h:IsR a n r)(h':IsR a n r'):r=r':=by
 have:=h.ge h'.1;have:=h'.ge h.1
 omega
theorem amgm(r x m:Nat):(m+1)*r*x ^ m<=r ^ (m+1)+m*x ^ (m+1):=by
 induction m with
 | zero=>simp
 | succ m ih=>
  have h1:r*((m+1)*r*x ^ m)<=r*(r ^ (m+1)+m*x ^ (m+1)):=Nat.mul_le_mul_left r ih
  have h2:2*(r*x)<=r*r+x*x:=by
   rcases Nat.le_total r x with h | h
   ·obtain⟨t,rfl⟩:=Nat.exists_eq_add_of_le h
    have e:r*r+(r+t)*(r+t)=2*(r*(r+t))+t*t:=by grind
    omega
   ·obtain⟨t,rfl⟩:=Nat.exists_eq_add_of_le h
    have e:(x+t)*(x+t)+x*x=2*((x+t)*x)+t*t:=by grind
    omega
  have h3:(m+1)*x ^ m*(2*(r*x))<=(m+1)*x ^ m*(r*r+x*x):=Nat.mul_le_mul_left _ h2
  have e1:r ^ (m+1+1)=r*r ^ (m+1):=by rw [Nat.pow_succ r (m+1),Nat.mul_comm]
  have e2:x ^ (m+1)=x*x ^ m:=by rw [Nat.pow_succ,Nat.mul_comm]
  have e3:x ^ (m+1+1)=x*x*x ^ m:=by rw [Nat.pow_succ,e2];grind
  rw [e1,e3,e2];rw [e2] at h1
  grind
theorem newton_step{a m r x:Nat}(h:IsR a (m+1) r)(hx:0<x)(hr:r<=x):r<=(x*m+a / x ^ m) / (m+1)/\(x<=(x*m+a / x ^ m) / (m+1)->r=x):=by
 have hp:0<x ^ m:=Nat.pow_pos hx
 constructor
 ·rw [Nat.le_div_iff_mul_le (by omega)]
  rcases Nat.lt_or_ge (x*m) (r*(m+1)) with k | k
  ·obtain⟨t,ht⟩:=Nat.exists_eq_add_of_le (Nat.le_of_lt k);have ha:=amgm r x m;have h1:=h.1
   have e:(m+1)*r*x ^ m=m*x ^ (m+1)+t*x ^ m:=by
    rw [Nat.mul_comm (m+1) r,ht,Nat.add_mul,Nat.pow_succ];grind
   have h2:t<=a / x ^ m:=(Nat.le_div_iff_mul_le hp).2 (by omega)
   omega
  ·exact Nat.le_trans k (Nat.le_add_right _ _)
 ·intro hy;rw [Nat.le_div_iff_mul_le (by omega)] at hy
  have h1:x<=a / x ^ m:=by
   have e:x*(m+1)=x*m+x:=by rw [Nat.mul_add,Nat.mul_one]
   omega
  rw [Nat.le_div_iff_mul_le hp] at h1
  have h2:x ^ (m+1)<=a:=by rw [Nat.pow_succ,Nat.mul_comm];exact h1
  have:=h.ge h2
  omega
theorem root_shift{a n h r r':Nat}(hr:IsR a n r)(hr':IsR (a / 2 ^ (h*n)) n r'):r<=(r'+1)*2 ^ h:=by
 refine Nat.le_of_lt (hr.lt ?_);have h2:=hr'.2;rw [Nat.div_lt_iff_lt_mul (Nat.two_pow_pos _)] at h2
 rwa [Nat.mul_pow,<- Nat.pow_mul]
theorem root_small{a n r:Nat}(hr:IsR a n r)(h:a<2 ^ (4*n)):r<=32:=by
 rw [Nat.pow_mul] at h;have:=hr.lt h
 omega
section
open Go.RowKit
theorem U32s.uniq{w:World}{A:Option Addr}{n c c':Nat}{xs ys:List Nat}(h:U32s w A n c xs)(h':U32s w A n c' ys):xs=ys:=by
 apply List.ext_getElem?
 intro j
 by_cases hj:j<n
 ·obtain⟨ad,e,-,hc⟩:=h.at_ (by omega);obtain⟨ad',e',-,hc'⟩:=h'.at_ (by omega);rw [e] at e';cases e';have h3:=(hc j hj).symm.trans (hc' j hj)
  have l1:j<xs.length:=by rw [h.len];exact hj
  have l2:j<ys.length:=by rw [h'.len];exact hj
  rw [List.getElem?_eq_getElem l1,List.getElem?_eq_getElem l2] at h3 ⊢
  simp only [Option.getD_some,Option.some.injEq,Value.int.injEq,true_and] at h3
  rw [show xs[j]=ys[j] from by omega]
 ·rw [List.getElem?_eq_none (by rw [h.len];omega),List.getElem?_eq_none (by rw [h'.len];omega)]
open Classical in
noncomputable def xval(w:World)(v:Value):Nat:=if h:∃ x A n c,v=.slice A n c/\U32s w A n c (digs x) then h.choose else 0
theorem xval_eq{w:World}{A:Option Addr}{n c x:Nat}(h:U32s w A n c (digs x)):xval w (.slice A n c)=x:=by
 unfold xval
 have k:∃ y A' n' c',(.slice A n c:Value)=.slice A' n' c'/\U32s w A' n' c' (digs y):=⟨x,A,n,c,rfl,h⟩
 rw [dif_pos k];obtain⟨A',n',c',e,h'⟩:=k.choose_spec
 cases e
 have e2:=congrArg num (h.uniq h');rw [num_digs,num_digs] at e2
 exact e2.symm
section
variable {A B:Option Addr} {n c m d x y:Nat} {w:World}
theorem wl{x:Nat}(h:blen x<=500000):wlen (digs x)<=15625:=wlen_digs_le (by omega)
theorem pow_d(N:Nat)(hx:U32s w A n c (digs x))(h1:blen x<=500000)(hN:N<=4096)(hb:blen x*N<=500000):
  Calls Tryz.prog 251 #[.slice A n c,.int .i64 (N:Int)] w (NewU32E w (digs (x ^ N))):=by
 have h:=npow_any A n c N _ w hx (by have:=wl h1;omega) hN (by rw [num_digs];exact hb)
 rwa [num_digs] at h
theorem quo_d(hx:U32s w A n c (digs x))(hy:U32s w B m d (digs y))(h1:blen x<=500000)(h2:blen y<=500000)(h0:0<y):
  Calls Tryz.prog 240 #[.slice A n c,.slice B m d] w (NewQR w (x / y) (x % y)):=by
 have h:=nquo_any A B n c m d _ _ w hx hy (by have:=wl h1;omega) (by have:=wl h2;omega) (by rw [num_digs];exact h0)
 rwa [num_digs,num_digs] at h
theorem mul_d(hx:U32s w A n c (digs x))(hy:U32s w B m d (digs y))(h1:blen x<=250000)(h2:blen y<=250000):
  Calls Tryz.prog 229 #[.slice A n c,.slice B m d] w (NewU32E w (digs (x*y))):=by
 have w1:=wlen_digs_le (S:=x) (K:=7813) (by omega);have w2:=wlen_digs_le (S:=y) (K:=7813) (by omega);have h:=nmul_any A B n c m d _ _ w hx hy (by omega) (by rw [num_digs,num_digs];omega)
 rwa [num_digs,num_digs] at h
theorem add_d(hx:U32s w A n c (digs x))(hy:U32s w B m d (digs y))(h1:blen x<=500000)(h2:blen y<=500000):
  Calls Tryz.prog 159 #[.slice A n c,.slice B m d] w (NewU32E w (digs (x+y))):=by
 have h:=nadd_any A B n c m d _ _ w hx hy (by have:=wl h1;omega) (by have:=wl h2;omega)
 rwa [num_digs,num_digs] at h
theorem shl_d(k:Nat)(hx:U32s w A n c (digs x))(h1:blen x+k<=500000):
  Calls Tryz.prog 202 #[.slice A n c,.int .i64 (k:Int)] w (NewU32E w (digs (x*2 ^ k))):=by
 have h:=nshl_any A n c k _ w hx (by have:=wl (x:=x) (by omega);omega) (by rw [num_digs];omega)
 rwa [num_digs] at h
theorem shr_d(k:Nat)(hx:U32s w A n c (digs x))(h1:blen x<=500000)(hk:k<=500000):
  Calls Tryz.prog 254 #[.slice A n c,.int .i64 (k:Int)] w fun e w'=>
   ∃ A2 n2 c2,e=.returned (.tuple #[.slice A2 n2 c2,.bool (decide (x % 2^k≠0)),.int .i64 0])/\U32s w' A2 n2 c2 (digs (x / 2^k))/\Below w.heap.size w w':=by
 have h:=nshr_any A n c k _ w hx (by have:=wl h1;omega) (by omega)
 rwa [num_digs] at h
theorem len_d(hx:U32s w A n c (digs x)):Calls Tryz.prog 232 #[.slice A n c] w fun e w'=>e=.returned (.int .i64 (blen x:Int))/\w=w':=by
 have h:=nlen_any A n c _ w hx
 rwa [num_digs] at h
theorem cmp_d(hx:U32s w A n c (digs x))(hy:U32s w B m d (digs y)):Calls Tryz.prog 142 #[.slice A n c,.slice B m d] w (QuietRet w (.int .i64 (cmp3 x y))):=by
 have h:=ncmp_any A B n c m d _ _ w hx hy
 rwa [num_digs,num_digs] at h
end
theorem blen_pow(x N:Nat):blen (x ^ N)<=blen x*N+1:=by
 have h:x<2 ^ blen x:=blen_le_iff.1 (Nat.le_refl _);refine blen_le_iff.2 (Nat.lt_of_le_of_lt (Nat.pow_le_pow_left (Nat.le_of_lt h) N) ?_);rw [<- Nat.pow_mul]
 exact Nat.pow_lt_pow_right (by omega) (by omega)
theorem blen_mul(x y:Nat):blen (x*y)<=blen x+blen y:=by
 have h:x<2 ^ blen x:=blen_le_iff.1 (Nat.le_refl _);have h2:y<2 ^ blen y:=blen_le_iff.1 (Nat.le_refl _);refine blen_le_iff.2 ?_;rw [Nat.pow_add]
 exact Nat.mul_lt_mul'' h h2
theorem blen_add(x y k:Nat)(h1:blen x<=k)(h2:blen y<=k):blen (x+y)<=k+1:=by
 have h:=blen_le_iff.1 h1;have h3:=blen_le_iff.1 h2
 exact blen_le_iff.2 (by rw [Nat.pow_succ];omega)
end
end Go.Proofs.YthlmlmfebpjgdaaGreatDoor
