/-
Walks: package rev, MinRev.
Plain: what lies in the answers of AddRev, MulRev, DivRev1, DivRev2, MinRev, MaxRev.
Plain: answers as intervals of indexes; ratios of few words.
-/
import Derived.Test.YthlmlmfebpjgdaaGreatDoorM03
import Derived.Test.YthlmlmfebpjgdaaGreatDoorM24
import Derived.Test.YthlmlmfebpjgdaaGreatDoorM19
import Derived.Deep.DeepCutAuto
import Derived.Test.YthlmlmfebpjgdaaGreatDoorM33
import Derived.Test.YthlmlmfebpjgdaaGreatDoorPAddT
import Derived.Test.YthlmlmfebpjgdaaGreatDoorM35
import Derived.Test.YthlmlmfebpjgdaaGreatDoorM37
import Derived.Test.YthlmlmfebpjgdaaGreatDoorM23
set_option linter.unusedSimpArgs false
set_option linter.unusedVariables false
set_option maxHeartbeats 12800000
namespace Go.Proofs.YthlmlmfebpjgdaaGreatDoor
open Go.RowKit
attribute [local go_sem] run_store_float
theorem Kp.toBelow{g0 g1 g2 B:Nat}{w0 w w':World}(h:Kp g0 g1 g2 w w')(hb:Below B w0 w)(hB:B≤w.heap.size)(h0:B≤g0)(h1:B≤g1)(h2:B≤g2):Below B w0 w':=
 ⟨h.os.trans hb.os,h.tape.trans hb.tape,h.output.trans hb.output,Nat.le_trans hb.size h.size,fun k hk=>(h.block k (by omega) (by omega) (by omega) (by omega)).trans (hb.block k hk)⟩
theorem Kp.hasBlk{g0 g1 g2 r n:Nat}{t:TypeId}{w w':World}(h:Kp g0 g1 g2 w w')(hr:HasBlk w r t n)(h0:r≠g0)(h1:r≠g1)(h2:r≠g2):HasBlk w' r t n:=by
 obtain⟨cs,a,b⟩:=hr
 exact⟨cs,(h.block r a.lt h0 h1 h2).trans a,b⟩
def rmr(i1 j1 i2 j2 i3 j3:Int):Int × Int:=if j1<i1∨j2<i2∨j3<i3∨j1<i2 then ((M:Int),-(M:Int)) else it i2 (if i1≤j2 then (M:Int) else j2) i3 j3
theorem revmin_none(b1 b2 c1 c2 x y:Nat)(i1 j1 i2 j2 i3 j3:Int)(w:World)(hb1:b1<18446744073709551616)(hb2:b2<18446744073709551616)(hc1:c1<18446744073709551616)(hc2:c2<18446744073709551616)(hx:x<18446744073709551616)(hy:y<18446744073709551616)(r1:rd b1 b2=(i1,j1))(r2:rd c1 c2=(i2,j2))(r3:rd x y=(i3,j3))(hno:j1<i1∨j2<i2∨j3<i3):
  Calls Tryz.prog 29 #[.agg #[.float .f64 b1,.float .f64 b2],.agg #[.float .f64 c1,.float .f64 c2],.agg #[.float .f64 x,.float .f64 y]] w fun e w'=>e=.returned (.agg #[.float .f64 (pat (((M:Int),-(M:Int))).1),.float .f64 (pat (((M:Int),-(M:Int))).2)])∧Below w.heap.size w w':=by
 have v1:=rd_iv b1 b2;have v2:=rd_iv c1 c2;have v3:=rd_iv x y;rw [r1] at v1;rw [r2] at v2;rw [r3] at v3
 dsimp only at v1 v2 v3
 have hM:M=9218868437227405312:=rfl;have t1:=fun W=>readf b1 b2 W hb1 hb2;have t2:=fun W=>readf c1 c2 W hc1 hc2;have t3:=fun W=>readf x y W hx hy;rw [r1] at t1;rw [r2] at t2;rw [r3] at t3
 dsimp only at t1 t2 t3
 have m1:=em_idx v1;have m2:=em_idx v2;have m3:=em_idx v3;have o1:=order_pat v2.lo.1 v2.lo.2 v1.hi.1 v1.hi.2;have o2:=order_pat v2.hi.1 v2.hi.2 v1.lo.1 v1.lo.2
 have hnn:(decide (j1<i1) || decide (j2<i2) || decide (j3<i3))=true:=by simp;omega
 rw [pat_max,pat_min];have HE:=Hd emptyf
 obtain⟨P1,hP1⟩:∃ z,pat i1=z:=⟨_,rfl⟩
 obtain⟨Q1,hQ1⟩:∃ z,pat j1=z:=⟨_,rfl⟩
 obtain⟨P2,hP2⟩:∃ z,pat i2=z:=⟨_,rfl⟩
 obtain⟨Q2,hQ2⟩:∃ z,pat j2=z:=⟨_,rfl⟩
 obtain⟨P3,hP3⟩:∃ z,pat i3=z:=⟨_,rfl⟩
 obtain⟨Q3,hQ3⟩:∃ z,pat j3=z:=⟨_,rfl⟩
 rw [hP1,hQ1] at t1 m1;rw [hP2,hQ2] at t2 m2;rw [hP3,hQ3] at t3 m3;obtain⟨LB0,LG0_0,LG1_0,LG2_0,LR⟩:=bx4 w #[.float .f64 b1,.float .f64 b2] 28 #[.float .f64 c1,.float .f64 c2] 28 #[.float .f64 x,.float .f64 y] 28 #[.float .f64 0,.float .f64 0] 28;have LR0:=Hd (HasBlk.of (n:=2) LR.out rfl rfl);clear LR;have hrow:=Blk.at (W:=((((w.alloc (.cells #[.float .f64 b1,.float .f64 b2] 28)).alloc (.cells #[.float .f64 c1,.float .f64 c2] 28)).alloc (.cells #[.float .f64 x,.float .f64 y] 28)).alloc (.cells #[.float .f64 0,.float .f64 0] 28))) (g:=w.heap.size+1+1+1+1) (by simp) 75 #[.pointer (some ⟨w.heap.size,0,none⟩),.pointer (some ⟨w.heap.size+1,0,none⟩),.pointer (some ⟨w.heap.size+1+1,0,none⟩)];have HRD:=Hd (read_three b1 b2 c1 c2 x y P1 Q1 P2 Q2 P3 Q3 w.heap.size (w.heap.size+1) (w.heap.size+1+1) (w.heap.size+1+1+1+1) 3 _ _ _ _ (by omega) (by omega) (by omega) (by omega) (by omega) (by omega) (hrow.cell 0) (hrow.cell 1) (hrow.cell 2) (LG0_0.out.alloc (.cells #[.pointer (some ⟨w.heap.size,0,none⟩),.pointer (some ⟨w.heap.size+1,0,none⟩),.pointer (some ⟨w.heap.size+1+1,0,none⟩)] 75)) (LG1_0.out.alloc (.cells #[.pointer (some ⟨w.heap.size,0,none⟩),.pointer (some ⟨w.heap.size+1,0,none⟩),.pointer (some ⟨w.heap.size+1+1,0,none⟩)] 75)) (LG2_0.out.alloc (.cells #[.pointer (some ⟨w.heap.size,0,none⟩),.pointer (some ⟨w.heap.size+1,0,none⟩),.pointer (some ⟨w.heap.size+1+1,0,none⟩)] 75)) t1 t2 t3 m1 m2 m3);rw [hnn] at HRD;have LBr:=Hd (LB0.out.alloc (by simp<;>omega) (.cells #[.pointer (some ⟨w.heap.size,0,none⟩),.pointer (some ⟨w.heap.size+1,0,none⟩),.pointer (some ⟨w.heap.size+1+1,0,none⟩)] 75))
 have LRr:=Hd (LR0.out.alloc (.cells #[.pointer (some ⟨w.heap.size,0,none⟩),.pointer (some ⟨w.heap.size+1,0,none⟩),.pointer (some ⟨w.heap.size+1+1,0,none⟩)] 75))
 have hsz:w.heap.size≤((((((w.alloc (.cells #[.float .f64 b1,.float .f64 b2] 28)).alloc (.cells #[.float .f64 c1,.float .f64 c2] 28)).alloc (.cells #[.float .f64 x,.float .f64 y] 28)).alloc (.cells #[.float .f64 0,.float .f64 0] 28))).alloc (.cells #[.pointer (some ⟨w.heap.size,0,none⟩),.pointer (some ⟨w.heap.size+1,0,none⟩),.pointer (some ⟨w.heap.size+1+1,0,none⟩)] 75)).heap.size:=by simp;omega
 have HSZ:=Hd hsz;clear t1 t2 t3 m1 m2 m3 hrow hnn hno v1 v2 v3 hM hsz hP1 hQ1 hP2 hQ2 hP3 hQ3 r1 r2 r3 LB0 LR0 LG0_0 LG1_0 LG2_0 o1 o2
 go_enter Tryz.func29,Tryz.ntmps29
 go_wp2_with fail;refine HRD.out.mono ?_;rintro e w1 ⟨rfl,d0,d1,d2,kp⟩;have LB1:=Hd (kp.toBelow LBr.out HSZ.out (Nat.le_refl _) (by omega) (by omega));have LR1:=Hd (kp.hasBlk LRr.out (by omega) (by omega) (by omega));have LG0_1:=Hd (show Blk w1 w.heap.size 28 _ from d0);have LG1_1:=Hd (show Blk w1 (w.heap.size+1) 28 _ from d1);have LG2_1:=Hd (show Blk w1 (w.heap.size+2) 28 _ from d2);clear d0 d1 d2 kp LBr LRr HSZ HRD;obtain⟨q0_0,q0_1⟩:=LG0_1.out.c2;obtain⟨q1_0,q1_1⟩:=LG1_1.out.c2;go_wp2_with fail;refine (HE.out _).mono ?_;rintro e w2 ⟨rfl,hbx⟩;have LB2:=stB LB1 hbx LB1.out.size;have LR2:=stR LR1 hbx;have LG0_2:=stG LG0_1 hbx;have LG1_2:=stG LG1_1 hbx;have LG2_2:=stG LG2_1 hbx;clear LB1 LR1 LG0_1 LG1_1 LG2_1;clear hbx q0_0 q0_1 q1_0 q1_1;obtain⟨ha0,hf0,ha1,hf1⟩:=LR2.out.sf2;obtain⟨hk0,hk1⟩:=LR2.out.sc2 (.float .f64 9218868437227405312) (.float .f64 18442240474082181120);have F:=Hd (below_sets (w0:=w) (r:=(w.heap.size+3)) (by omega) [.float .f64 9218868437227405312,.float .f64 18442240474082181120] 0 _ LB2.out)
 simp [sets] at hk0 hk1
 go_wp2;refine bodyPost_ret (v:=.agg #[.float .f64 9218868437227405312,.float .f64 18442240474082181120]) (by simp [results,Tryz.results29,go_sem,hk0,hk1]) rfl ?_
 exact⟨rfl,F.out⟩
theorem revmin_gt(b1 b2 c1 c2 x y:Nat)(i1 j1 i2 j2 i3 j3:Int)(w:World)(hb1:b1<18446744073709551616)(hb2:b2<18446744073709551616)(hc1:c1<18446744073709551616)(hc2:c2<18446744073709551616)(hx:x<18446744073709551616)(hy:y<18446744073709551616)(r1:rd b1 b2=(i1,j1))(r2:rd c1 c2=(i2,j2))(r3:rd x y=(i3,j3))(hno:¬ (j1<i1∨j2<i2∨j3<i3))(hgt:j1<i2):
  Calls Tryz.prog 29 #[.agg #[.float .f64 b1,.float .f64 b2],.agg #[.float .f64 c1,.float .f64 c2],.agg #[.float .f64 x,.float .f64 y]] w fun e w'=>e=.returned (.agg #[.float .f64 (pat (((M:Int),-(M:Int))).1),.float .f64 (pat (((M:Int),-(M:Int))).2)])∧Below w.heap.size w w':=by
 have v1:=rd_iv b1 b2;have v2:=rd_iv c1 c2;have v3:=rd_iv x y;rw [r1] at v1;rw [r2] at v2;rw [r3] at v3
 dsimp only at v1 v2 v3
 have hM:M=9218868437227405312:=rfl;have t1:=fun W=>readf b1 b2 W hb1 hb2;have t2:=fun W=>readf c1 c2 W hc1 hc2;have t3:=fun W=>readf x y W hx hy;rw [r1] at t1;rw [r2] at t2;rw [r3] at t3
 dsimp only at t1 t2 t3
 have m1:=em_idx v1;have m2:=em_idx v2;have m3:=em_idx v3;have o1:=order_pat v2.lo.1 v2.lo.2 v1.hi.1 v1.hi.2;have o2:=order_pat v2.hi.1 v2.hi.2 v1.lo.1 v1.lo.2
 have hnn:(decide (j1<i1) || decide (j2<i2) || decide (j3<i3))=false:=by simp;omega
 rw [show compare i2 j1=.gt from Int.compare_eq_gt.2 hgt] at o1;rw [pat_max,pat_min];have HE:=Hd emptyf
 obtain⟨P1,hP1⟩:∃ z,pat i1=z:=⟨_,rfl⟩
 obtain⟨Q1,hQ1⟩:∃ z,pat j1=z:=⟨_,rfl⟩
 obtain⟨P2,hP2⟩:∃ z,pat i2=z:=⟨_,rfl⟩
 obtain⟨Q2,hQ2⟩:∃ z,pat j2=z:=⟨_,rfl⟩
 obtain⟨P3,hP3⟩:∃ z,pat i3=z:=⟨_,rfl⟩
 obtain⟨Q3,hQ3⟩:∃ z,pat j3=z:=⟨_,rfl⟩
 rw [hP1,hQ1] at t1 m1;rw [hP2,hQ2] at t2 m2;rw [hP3,hQ3] at t3 m3;rw [hP2,hQ1] at o1;obtain⟨LB0,LG0_0,LG1_0,LG2_0,LR⟩:=bx4 w #[.float .f64 b1,.float .f64 b2] 28 #[.float .f64 c1,.float .f64 c2] 28 #[.float .f64 x,.float .f64 y] 28 #[.float .f64 0,.float .f64 0] 28;have LR0:=Hd (HasBlk.of (n:=2) LR.out rfl rfl);clear LR;have hrow:=Blk.at (W:=((((w.alloc (.cells #[.float .f64 b1,.float .f64 b2] 28)).alloc (.cells #[.float .f64 c1,.float .f64 c2] 28)).alloc (.cells #[.float .f64 x,.float .f64 y] 28)).alloc (.cells #[.float .f64 0,.float .f64 0] 28))) (g:=w.heap.size+1+1+1+1) (by simp) 75 #[.pointer (some ⟨w.heap.size,0,none⟩),.pointer (some ⟨w.heap.size+1,0,none⟩),.pointer (some ⟨w.heap.size+1+1,0,none⟩)];have HRD:=Hd (read_three b1 b2 c1 c2 x y P1 Q1 P2 Q2 P3 Q3 w.heap.size (w.heap.size+1) (w.heap.size+1+1) (w.heap.size+1+1+1+1) 3 _ _ _ _ (by omega) (by omega) (by omega) (by omega) (by omega) (by omega) (hrow.cell 0) (hrow.cell 1) (hrow.cell 2) (LG0_0.out.alloc (.cells #[.pointer (some ⟨w.heap.size,0,none⟩),.pointer (some ⟨w.heap.size+1,0,none⟩),.pointer (some ⟨w.heap.size+1+1,0,none⟩)] 75)) (LG1_0.out.alloc (.cells #[.pointer (some ⟨w.heap.size,0,none⟩),.pointer (some ⟨w.heap.size+1,0,none⟩),.pointer (some ⟨w.heap.size+1+1,0,none⟩)] 75)) (LG2_0.out.alloc (.cells #[.pointer (some ⟨w.heap.size,0,none⟩),.pointer (some ⟨w.heap.size+1,0,none⟩),.pointer (some ⟨w.heap.size+1+1,0,none⟩)] 75)) t1 t2 t3 m1 m2 m3);rw [hnn] at HRD;have LBr:=Hd (LB0.out.alloc (by simp<;>omega) (.cells #[.pointer (some ⟨w.heap.size,0,none⟩),.pointer (some ⟨w.heap.size+1,0,none⟩),.pointer (some ⟨w.heap.size+1+1,0,none⟩)] 75))
 have LRr:=Hd (LR0.out.alloc (.cells #[.pointer (some ⟨w.heap.size,0,none⟩),.pointer (some ⟨w.heap.size+1,0,none⟩),.pointer (some ⟨w.heap.size+1+1,0,none⟩)] 75))
 have hsz:w.heap.size≤((((((w.alloc (.cells #[.float .f64 b1,.float .f64 b2] 28)).alloc (.cells #[.float .f64 c1,.float .f64 c2] 28)).alloc (.cells #[.float .f64 x,.float .f64 y] 28)).alloc (.cells #[.float .f64 0,.float .f64 0] 28))).alloc (.cells #[.pointer (some ⟨w.heap.size,0,none⟩),.pointer (some ⟨w.heap.size+1,0,none⟩),.pointer (some ⟨w.heap.size+1+1,0,none⟩)] 75)).heap.size:=by simp;omega
 have HSZ:=Hd hsz;clear t1 t2 t3 m1 m2 m3 hrow hnn hno v1 v2 v3 hM hsz hP1 hQ1 hP2 hQ2 hP3 hQ3 r1 r2 r3 LB0 LR0 LG0_0 LG1_0 LG2_0 hgt o2
 go_enter Tryz.func29,Tryz.ntmps29
 go_wp2_with fail;refine HRD.out.mono ?_;rintro e w1 ⟨rfl,d0,d1,d2,kp⟩;have LB1:=Hd (kp.toBelow LBr.out HSZ.out (Nat.le_refl _) (by omega) (by omega));have LR1:=Hd (kp.hasBlk LRr.out (by omega) (by omega) (by omega));have LG0_1:=Hd (show Blk w1 w.heap.size 28 _ from d0);have LG1_1:=Hd (show Blk w1 (w.heap.size+1) 28 _ from d1);have LG2_1:=Hd (show Blk w1 (w.heap.size+2) 28 _ from d2);clear d0 d1 d2 kp LBr LRr HSZ HRD;obtain⟨q0_0,q0_1⟩:=LG0_1.out.c2;obtain⟨q1_0,q1_1⟩:=LG1_1.out.c2;go_wp2_with fail;refine (HE.out _).mono ?_;rintro e w2 ⟨rfl,hbx⟩;have LB2:=stB LB1 hbx LB1.out.size;have LR2:=stR LR1 hbx;have LG0_2:=stG LG0_1 hbx;have LG1_2:=stG LG1_1 hbx;have LG2_2:=stG LG2_1 hbx;clear LB1 LR1 LG0_1 LG1_1 LG2_1;clear hbx q0_0 q0_1 q1_0 q1_1;obtain⟨ha0,hf0,ha1,hf1⟩:=LR2.out.sf2;obtain⟨hk0,hk1⟩:=LR2.out.sc2 (.float .f64 9218868437227405312) (.float .f64 18442240474082181120);have F:=Hd (below_sets (w0:=w) (r:=(w.heap.size+3)) (by omega) [.float .f64 9218868437227405312,.float .f64 18442240474082181120] 0 _ LB2.out)
 simp [sets] at hk0 hk1
 go_wp2;refine bodyPost_ret (v:=.agg #[.float .f64 9218868437227405312,.float .f64 18442240474082181120]) (by simp [results,Tryz.results29,go_sem,hk0,hk1]) rfl ?_
 exact⟨rfl,F.out⟩
theorem revmin_ge(b1 b2 c1 c2 x y:Nat)(i1 j1 i2 j2 i3 j3:Int)(w:World)(hb1:b1<18446744073709551616)(hb2:b2<18446744073709551616)(hc1:c1<18446744073709551616)(hc2:c2<18446744073709551616)(hx:x<18446744073709551616)(hy:y<18446744073709551616)(r1:rd b1 b2=(i1,j1))(r2:rd c1 c2=(i2,j2))(r3:rd x y=(i3,j3))(hno:¬ (j1<i1∨j2<i2∨j3<i3))(hgt:¬ j1<i2)(hge:i1≤j2):
  Calls Tryz.prog 29 #[.agg #[.float .f64 b1,.float .f64 b2],.agg #[.float .f64 c1,.float .f64 c2],.agg #[.float .f64 x,.float .f64 y]] w fun e w'=>e=.returned (.agg #[.float .f64 (pat (it i2 M i3 j3).1),.float .f64 (pat (it i2 M i3 j3).2)])∧Below w.heap.size w w':=by
 have v1:=rd_iv b1 b2;have v2:=rd_iv c1 c2;have v3:=rd_iv x y;rw [r1] at v1;rw [r2] at v2;rw [r3] at v3
 dsimp only at v1 v2 v3
 have hM:M=9218868437227405312:=rfl;have t1:=fun W=>readf b1 b2 W hb1 hb2;have t2:=fun W=>readf c1 c2 W hc1 hc2;have t3:=fun W=>readf x y W hx hy;rw [r1] at t1;rw [r2] at t2;rw [r3] at t3
 dsimp only at t1 t2 t3
 have m1:=em_idx v1;have m2:=em_idx v2;have m3:=em_idx v3;have o1:=order_pat v2.lo.1 v2.lo.2 v1.hi.1 v1.hi.2;have o2:=order_pat v2.hi.1 v2.hi.2 v1.lo.1 v1.lo.2
 have hnn:(decide (j1<i1) || decide (j2<i2) || decide (j3<i3))=false:=by simp;omega
 have w2:Iv i2 M:=by unfold Iv at *;omega
 have HI:=Hd fun W=>inter_idx i2 M i3 j3 W w2 v3;rw [pat_max] at HI
 have ho1:(FloatKind.f64.format.order (pat i2) (pat j1) == some Ordering.gt)=false:=by
  rw [o1]
  rcases Int.lt_trichotomy i2 j1 with h | h | h
  ·rw [show compare i2 j1=.lt from Int.compare_eq_lt.2 h];rfl
  ·rw [show compare i2 j1=.eq from Int.compare_eq_eq.2 h];rfl
  ·exact absurd h hgt
 clear o1
 have hge2:compare j2 i1=.gt∨compare j2 i1=.eq:=by
  rcases Int.lt_trichotomy i1 j2 with h | h | h
  ·exact .inl (Int.compare_eq_gt.2 h)
  ·exact .inr (Int.compare_eq_eq.2 h.symm)
  ·omega
 obtain⟨z1,hz1⟩:∃ z,pat (it i2 M i3 j3).1=z:=⟨_,rfl⟩
 obtain⟨z2,hz2⟩:∃ z,pat (it i2 M i3 j3).2=z:=⟨_,rfl⟩
 rw [hz1,hz2] at HI ⊢;clear hz1 hz2
 obtain⟨P1,hP1⟩:∃ z,pat i1=z:=⟨_,rfl⟩
 obtain⟨Q1,hQ1⟩:∃ z,pat j1=z:=⟨_,rfl⟩
 obtain⟨P2,hP2⟩:∃ z,pat i2=z:=⟨_,rfl⟩
 obtain⟨Q2,hQ2⟩:∃ z,pat j2=z:=⟨_,rfl⟩
 obtain⟨P3,hP3⟩:∃ z,pat i3=z:=⟨_,rfl⟩
 obtain⟨Q3,hQ3⟩:∃ z,pat j3=z:=⟨_,rfl⟩
 rw [hP1,hQ1] at t1 m1;rw [hP2,hQ2] at t2 m2;rw [hP3,hQ3] at t3 m3;rw [hP2,hQ1] at ho1;rw [hQ2,hP1] at o2;rw [hP2,hP3,hQ3] at HI;obtain⟨LB0,LG0_0,LG1_0,LG2_0,LR⟩:=bx4 w #[.float .f64 b1,.float .f64 b2] 28 #[.float .f64 c1,.float .f64 c2] 28 #[.float .f64 x,.float .f64 y] 28 #[.float .f64 0,.float .f64 0] 28;have LR0:=Hd (HasBlk.of (n:=2) LR.out rfl rfl);clear LR;have hrow:=Blk.at (W:=((((w.alloc (.cells #[.float .f64 b1,.float .f64 b2] 28)).alloc (.cells #[.float .f64 c1,.float .f64 c2] 28)).alloc (.cells #[.float .f64 x,.float .f64 y] 28)).alloc (.cells #[.float .f64 0,.float .f64 0] 28))) (g:=w.heap.size+1+1+1+1) (by simp) 75 #[.pointer (some ⟨w.heap.size,0,none⟩),.pointer (some ⟨w.heap.size+1,0,none⟩),.pointer (some ⟨w.heap.size+1+1,0,none⟩)];have HRD:=Hd (read_three b1 b2 c1 c2 x y P1 Q1 P2 Q2 P3 Q3 w.heap.size (w.heap.size+1) (w.heap.size+1+1) (w.heap.size+1+1+1+1) 3 _ _ _ _ (by omega) (by omega) (by omega) (by omega) (by omega) (by omega) (hrow.cell 0) (hrow.cell 1) (hrow.cell 2) (LG0_0.out.alloc (.cells #[.pointer (some ⟨w.heap.size,0,none⟩),.pointer (some ⟨w.heap.size+1,0,none⟩),.pointer (some ⟨w.heap.size+1+1,0,none⟩)] 75)) (LG1_0.out.alloc (.cells #[.pointer (some ⟨w.heap.size,0,none⟩),.pointer (some ⟨w.heap.size+1,0,none⟩),.pointer (some ⟨w.heap.size+1+1,0,none⟩)] 75)) (LG2_0.out.alloc (.cells #[.pointer (some ⟨w.heap.size,0,none⟩),.pointer (some ⟨w.heap.size+1,0,none⟩),.pointer (some ⟨w.heap.size+1+1,0,none⟩)] 75)) t1 t2 t3 m1 m2 m3);rw [hnn] at HRD;have LBr:=Hd (LB0.out.alloc (by simp<;>omega) (.cells #[.pointer (some ⟨w.heap.size,0,none⟩),.pointer (some ⟨w.heap.size+1,0,none⟩),.pointer (some ⟨w.heap.size+1+1,0,none⟩)] 75))
 have LRr:=Hd (LR0.out.alloc (.cells #[.pointer (some ⟨w.heap.size,0,none⟩),.pointer (some ⟨w.heap.size+1,0,none⟩),.pointer (some ⟨w.heap.size+1+1,0,none⟩)] 75))
 have hsz:w.heap.size≤((((((w.alloc (.cells #[.float .f64 b1,.float .f64 b2] 28)).alloc (.cells #[.float .f64 c1,.float .f64 c2] 28)).alloc (.cells #[.float .f64 x,.float .f64 y] 28)).alloc (.cells #[.float .f64 0,.float .f64 0] 28))).alloc (.cells #[.pointer (some ⟨w.heap.size,0,none⟩),.pointer (some ⟨w.heap.size+1,0,none⟩),.pointer (some ⟨w.heap.size+1+1,0,none⟩)] 75)).heap.size:=by simp;omega
 have HSZ:=Hd hsz;clear t1 t2 t3 m1 m2 m3 hrow hnn hno v1 v2 v3 hM hsz hP1 hQ1 hP2 hQ2 hP3 hQ3 r1 r2 r3 LB0 LR0 LG0_0 LG1_0 LG2_0 hgt hge
 go_enter Tryz.func29,Tryz.ntmps29
 go_wp2_with fail;refine HRD.out.mono ?_;rintro e w1 ⟨rfl,d0,d1,d2,kp⟩;have LB1:=Hd (kp.toBelow LBr.out HSZ.out (Nat.le_refl _) (by omega) (by omega));have LR1:=Hd (kp.hasBlk LRr.out (by omega) (by omega) (by omega));have LG0_1:=Hd (show Blk w1 w.heap.size 28 _ from d0);have LG1_1:=Hd (show Blk w1 (w.heap.size+1) 28 _ from d1);have LG2_1:=Hd (show Blk w1 (w.heap.size+2) 28 _ from d2);clear d0 d1 d2 kp LBr LRr HSZ HRD;obtain⟨q0_0,q0_1⟩:=LG0_1.out.c2;obtain⟨q1_0,q1_1⟩:=LG1_1.out.c2;have HP:=Hd inf_pos
 have hge3:(FloatKind.f64.format.order Q2 P1 == some Ordering.gt || FloatKind.f64.format.order Q2 P1 == some Ordering.eq)=true:=by
  rw [o2];rcases hge2 with e | e<;>rw [e]<;>rfl
 have hf1:=LG1_1.out.frozen 1
 rcases hge2 with e | e<;>rw [e] at o2<;>clear e
 all_goals
  go_wp2_with fail;refine (HP.out _).mono ?_;rintro e w2 ⟨rfl,rfl⟩
  go_upto_region 5 with fail
  clear hf1 q0_0 q0_1 q1_0 q1_1;have LB2:=Hd (below_sets (w0:=w) (show w.heap.size≤(w.heap.size+1) by omega) [.float .f64 9218868437227405312] 1 w1 LB1.out);have LR2:=Hd (LR1.out.other (r:=(w.heap.size+1)) (by omega) 1 [.float .f64 9218868437227405312]);have LG0_2:=Hd (LG0_1.out.other (r:=(w.heap.size+1)) (by omega) 1 [.float .f64 9218868437227405312]);have LG1_2:=Hd (show Blk (sets w1 (w.heap.size+1) 1 [.float .f64 9218868437227405312]) (w.heap.size+1) 28 #[.float .f64 P2,.float .f64 9218868437227405312] from by have hbs:=Blk.sets [.float .f64 9218868437227405312] 1 w1 _ LG1_1.out;simpa [laid] using hbs);have LG2_2:=Hd (LG2_1.out.other (r:=(w.heap.size+1)) (by omega) 1 [.float .f64 9218868437227405312]);clear LB1 LR1 LG0_1 LG1_1 LG2_1
  obtain⟨V1,hV1⟩:∃ X,(sets w1 (w.heap.size+1) 1 [.float .f64 9218868437227405312])=X:=⟨_,rfl⟩
  rw [hV1] at LB2 LR2 LG0_2 LG1_2 LG2_2;rw [show (w1.setCell ⟨(w.heap.size+1),1,none⟩ (.float .f64 9218868437227405312))=V1 from hV1];clear hV1;obtain⟨q1_0,q1_1⟩:=LG1_2.out.c2;obtain⟨q2_0,q2_1⟩:=LG2_2.out.c2;go_wp2_with fail;refine (HI.out _).mono ?_;rintro e w3 ⟨rfl,hbx⟩;have LB3:=stB LB2 hbx LB2.out.size;have LR3:=stR LR2 hbx;have LG0_3:=stG LG0_2 hbx;have LG1_3:=stG LG1_2 hbx;have LG2_3:=stG LG2_2 hbx;clear LB2 LR2 LG0_2 LG1_2 LG2_2;clear hbx q1_0 q1_1 q2_0 q2_1;obtain⟨ha0,hf0,ha1,hf1⟩:=LR3.out.sf2;obtain⟨hk0,hk1⟩:=LR3.out.sc2 (.float .f64 z1) (.float .f64 z2);have F:=Hd (below_sets (w0:=w) (r:=(w.heap.size+3)) (by omega) [.float .f64 z1,.float .f64 z2] 0 _ LB3.out)
  simp [sets] at hk0 hk1
  go_wp2;refine bodyPost_ret (v:=.agg #[.float .f64 z1,.float .f64 z2]) (by simp [results,Tryz.results29,go_sem,hk0,hk1]) rfl ?_
  exact⟨rfl,F.out⟩
theorem revmin_lt(b1 b2 c1 c2 x y:Nat)(i1 j1 i2 j2 i3 j3:Int)(w:World)(hb1:b1<18446744073709551616)(hb2:b2<18446744073709551616)(hc1:c1<18446744073709551616)(hc2:c2<18446744073709551616)(hx:x<18446744073709551616)(hy:y<18446744073709551616)(r1:rd b1 b2=(i1,j1))(r2:rd c1 c2=(i2,j2))(r3:rd x y=(i3,j3))(hno:¬ (j1<i1∨j2<i2∨j3<i3))(hgt:¬ j1<i2)(hge:¬ i1≤j2):
  Calls Tryz.prog 29 #[.agg #[.float .f64 b1,.float .f64 b2],.agg #[.float .f64 c1,.float .f64 c2],.agg #[.float .f64 x,.float .f64 y]] w fun e w'=>e=.returned (.agg #[.float .f64 (pat (it i2 j2 i3 j3).1),.float .f64 (pat (it i2 j2 i3 j3).2)])∧Below w.heap.size w w':=by
 have v1:=rd_iv b1 b2;have v2:=rd_iv c1 c2;have v3:=rd_iv x y;rw [r1] at v1;rw [r2] at v2;rw [r3] at v3
 dsimp only at v1 v2 v3
 have hM:M=9218868437227405312:=rfl;have t1:=fun W=>readf b1 b2 W hb1 hb2;have t2:=fun W=>readf c1 c2 W hc1 hc2;have t3:=fun W=>readf x y W hx hy;rw [r1] at t1;rw [r2] at t2;rw [r3] at t3
 dsimp only at t1 t2 t3
 have m1:=em_idx v1;have m2:=em_idx v2;have m3:=em_idx v3;have o1:=order_pat v2.lo.1 v2.lo.2 v1.hi.1 v1.hi.2;have o2:=order_pat v2.hi.1 v2.hi.2 v1.lo.1 v1.lo.2
 have hnn:(decide (j1<i1) || decide (j2<i2) || decide (j3<i3))=false:=by simp;omega
 have w2:Iv i2 j2:=by unfold Iv at *;omega
 have HI:=Hd fun W=>inter_idx i2 j2 i3 j3 W w2 v3
 have ho1:(FloatKind.f64.format.order (pat i2) (pat j1) == some Ordering.gt)=false:=by
  rw [o1]
  rcases Int.lt_trichotomy i2 j1 with h | h | h
  ·rw [show compare i2 j1=.lt from Int.compare_eq_lt.2 h];rfl
  ·rw [show compare i2 j1=.eq from Int.compare_eq_eq.2 h];rfl
  ·exact absurd h hgt
 clear o1;rw [show compare j2 i1=.lt from Int.compare_eq_lt.2 (by omega)] at o2
 obtain⟨z1,hz1⟩:∃ z,pat (it i2 j2 i3 j3).1=z:=⟨_,rfl⟩
 obtain⟨z2,hz2⟩:∃ z,pat (it i2 j2 i3 j3).2=z:=⟨_,rfl⟩
 rw [hz1,hz2] at HI ⊢;clear hz1 hz2
 obtain⟨P1,hP1⟩:∃ z,pat i1=z:=⟨_,rfl⟩
 obtain⟨Q1,hQ1⟩:∃ z,pat j1=z:=⟨_,rfl⟩
 obtain⟨P2,hP2⟩:∃ z,pat i2=z:=⟨_,rfl⟩
 obtain⟨Q2,hQ2⟩:∃ z,pat j2=z:=⟨_,rfl⟩
 obtain⟨P3,hP3⟩:∃ z,pat i3=z:=⟨_,rfl⟩
 obtain⟨Q3,hQ3⟩:∃ z,pat j3=z:=⟨_,rfl⟩
 rw [hP1,hQ1] at t1 m1;rw [hP2,hQ2] at t2 m2;rw [hP3,hQ3] at t3 m3;rw [hP2,hQ1] at ho1;rw [hQ2,hP1] at o2;rw [hP2,hQ2,hP3,hQ3] at HI;obtain⟨LB0,LG0_0,LG1_0,LG2_0,LR⟩:=bx4 w #[.float .f64 b1,.float .f64 b2] 28 #[.float .f64 c1,.float .f64 c2] 28 #[.float .f64 x,.float .f64 y] 28 #[.float .f64 0,.float .f64 0] 28;have LR0:=Hd (HasBlk.of (n:=2) LR.out rfl rfl);clear LR;have hrow:=Blk.at (W:=((((w.alloc (.cells #[.float .f64 b1,.float .f64 b2] 28)).alloc (.cells #[.float .f64 c1,.float .f64 c2] 28)).alloc (.cells #[.float .f64 x,.float .f64 y] 28)).alloc (.cells #[.float .f64 0,.float .f64 0] 28))) (g:=w.heap.size+1+1+1+1) (by simp) 75 #[.pointer (some ⟨w.heap.size,0,none⟩),.pointer (some ⟨w.heap.size+1,0,none⟩),.pointer (some ⟨w.heap.size+1+1,0,none⟩)];have HRD:=Hd (read_three b1 b2 c1 c2 x y P1 Q1 P2 Q2 P3 Q3 w.heap.size (w.heap.size+1) (w.heap.size+1+1) (w.heap.size+1+1+1+1) 3 _ _ _ _ (by omega) (by omega) (by omega) (by omega) (by omega) (by omega) (hrow.cell 0) (hrow.cell 1) (hrow.cell 2) (LG0_0.out.alloc (.cells #[.pointer (some ⟨w.heap.size,0,none⟩),.pointer (some ⟨w.heap.size+1,0,none⟩),.pointer (some ⟨w.heap.size+1+1,0,none⟩)] 75)) (LG1_0.out.alloc (.cells #[.pointer (some ⟨w.heap.size,0,none⟩),.pointer (some ⟨w.heap.size+1,0,none⟩),.pointer (some ⟨w.heap.size+1+1,0,none⟩)] 75)) (LG2_0.out.alloc (.cells #[.pointer (some ⟨w.heap.size,0,none⟩),.pointer (some ⟨w.heap.size+1,0,none⟩),.pointer (some ⟨w.heap.size+1+1,0,none⟩)] 75)) t1 t2 t3 m1 m2 m3);rw [hnn] at HRD;have LBr:=Hd (LB0.out.alloc (by simp<;>omega) (.cells #[.pointer (some ⟨w.heap.size,0,none⟩),.pointer (some ⟨w.heap.size+1,0,none⟩),.pointer (some ⟨w.heap.size+1+1,0,none⟩)] 75))
 have LRr:=Hd (LR0.out.alloc (.cells #[.pointer (some ⟨w.heap.size,0,none⟩),.pointer (some ⟨w.heap.size+1,0,none⟩),.pointer (some ⟨w.heap.size+1+1,0,none⟩)] 75))
 have hsz:w.heap.size≤((((((w.alloc (.cells #[.float .f64 b1,.float .f64 b2] 28)).alloc (.cells #[.float .f64 c1,.float .f64 c2] 28)).alloc (.cells #[.float .f64 x,.float .f64 y] 28)).alloc (.cells #[.float .f64 0,.float .f64 0] 28))).alloc (.cells #[.pointer (some ⟨w.heap.size,0,none⟩),.pointer (some ⟨w.heap.size+1,0,none⟩),.pointer (some ⟨w.heap.size+1+1,0,none⟩)] 75)).heap.size:=by simp;omega
 have HSZ:=Hd hsz;clear t1 t2 t3 m1 m2 m3 hrow hnn hno v1 v2 v3 hM hsz hP1 hQ1 hP2 hQ2 hP3 hQ3 r1 r2 r3 LB0 LR0 LG0_0 LG1_0 LG2_0 hgt hge
 go_enter Tryz.func29,Tryz.ntmps29
 go_wp2_with fail;refine HRD.out.mono ?_;rintro e w1 ⟨rfl,d0,d1,d2,kp⟩;have LB1:=Hd (kp.toBelow LBr.out HSZ.out (Nat.le_refl _) (by omega) (by omega));have LR1:=Hd (kp.hasBlk LRr.out (by omega) (by omega) (by omega));have LG0_1:=Hd (show Blk w1 w.heap.size 28 _ from d0);have LG1_1:=Hd (show Blk w1 (w.heap.size+1) 28 _ from d1);have LG2_1:=Hd (show Blk w1 (w.heap.size+2) 28 _ from d2);clear d0 d1 d2 kp LBr LRr HSZ HRD;obtain⟨q0_0,q0_1⟩:=LG0_1.out.c2;obtain⟨q1_0,q1_1⟩:=LG1_1.out.c2;obtain⟨q2_0,q2_1⟩:=LG2_1.out.c2;go_wp2_with fail;refine (HI.out _).mono ?_;rintro e w3 ⟨rfl,hbx⟩;have LB2:=stB LB1 hbx LB1.out.size;have LR2:=stR LR1 hbx;have LG0_2:=stG LG0_1 hbx;have LG1_2:=stG LG1_1 hbx;have LG2_2:=stG LG2_1 hbx;clear LB1 LR1 LG0_1 LG1_1 LG2_1;clear hbx q0_0 q0_1 q1_0 q1_1 q2_0 q2_1;obtain⟨ha0,hf0,ha1,hf1⟩:=LR2.out.sf2;obtain⟨hk0,hk1⟩:=LR2.out.sc2 (.float .f64 z1) (.float .f64 z2);have F:=Hd (below_sets (w0:=w) (r:=(w.heap.size+3)) (by omega) [.float .f64 z1,.float .f64 z2] 0 _ LB2.out)
 simp [sets] at hk0 hk1
 go_wp2;refine bodyPost_ret (v:=.agg #[.float .f64 z1,.float .f64 z2]) (by simp [results,Tryz.results29,go_sem,hk0,hk1]) rfl ?_
 exact⟨rfl,F.out⟩
theorem revmin_any(b1 b2 c1 c2 x y:Nat)(w:World)(hb1:b1<18446744073709551616)(hb2:b2<18446744073709551616)(hc1:c1<18446744073709551616)(hc2:c2<18446744073709551616)(hx:x<18446744073709551616)(hy:y<18446744073709551616):
  Calls Tryz.prog 29 #[.agg #[.float .f64 b1,.float .f64 b2],.agg #[.float .f64 c1,.float .f64 c2],.agg #[.float .f64 x,.float .f64 y]] w fun e w'=>e=.returned (.agg #[.float .f64 (pat (rmr (rd b1 b2).1 (rd b1 b2).2 (rd c1 c2).1 (rd c1 c2).2 (rd x y).1 (rd x y).2).1),.float .f64 (pat (rmr (rd b1 b2).1 (rd b1 b2).2 (rd c1 c2).1 (rd c1 c2).2 (rd x y).1 (rd x y).2).2)])∧Below w.heap.size w w':=by
 obtain⟨i1,hi1⟩:∃ z,(rd b1 b2).1=z:=⟨_,rfl⟩
 obtain⟨j1,hj1⟩:∃ z,(rd b1 b2).2=z:=⟨_,rfl⟩
 obtain⟨i2,hi2⟩:∃ z,(rd c1 c2).1=z:=⟨_,rfl⟩
 obtain⟨j2,hj2⟩:∃ z,(rd c1 c2).2=z:=⟨_,rfl⟩
 obtain⟨i3,hi3⟩:∃ z,(rd x y).1=z:=⟨_,rfl⟩
 obtain⟨j3,hj3⟩:∃ z,(rd x y).2=z:=⟨_,rfl⟩
 have r1:rd b1 b2=(i1,j1):=by rw [← hi1,← hj1]
 have r2:rd c1 c2=(i2,j2):=by rw [← hi2,← hj2]
 have r3:rd x y=(i3,j3):=by rw [← hi3,← hj3]
 rw [hi1,hj1,hi2,hj2,hi3,hj3];unfold rmr
 by_cases hno:j1<i1∨j2<i2∨j3<i3
 ·rw [if_pos (by omega)]
  exact revmin_none b1 b2 c1 c2 x y i1 j1 i2 j2 i3 j3 w hb1 hb2 hc1 hc2 hx hy r1 r2 r3 hno
 ·by_cases hgt:j1<i2
  ·rw [if_pos (by omega)]
   exact revmin_gt b1 b2 c1 c2 x y i1 j1 i2 j2 i3 j3 w hb1 hb2 hc1 hc2 hx hy r1 r2 r3 hno hgt
  ·rw [if_neg (by omega)]
   by_cases hge:i1≤j2
   ·rw [if_pos hge]
    exact revmin_ge b1 b2 c1 c2 x y i1 j1 i2 j2 i3 j3 w hb1 hb2 hc1 hc2 hx hy r1 r2 r3 hno hgt hge
   ·rw [if_neg hge]
    exact revmin_lt b1 b2 c1 c2 x y i1 j1 i2 j2 i3 j3 w hb1 hb2 hc1 hc2 hx hy r1 r2 r3 hno hgt hge
def rmx(b c x:Int × Int):Int × Int:=(-(rmr (-b.2) (-b.1) (-c.2) (-c.1) (-x.2) (-x.1)).2,-(rmr (-b.2) (-b.1) (-c.2) (-c.1) (-x.2) (-x.1)).1)
theorem Iv.negf{i j:Int}(h:Iv i j):Iv (-j) (-i):=by
 unfold Iv at *;rw [M_val] at *
 omega
theorem rmr_iv{i1 j1 i2 j2 i3 j3:Int}(h1:Iv i1 j1)(h2:Iv i2 j2)(h3:Iv i3 j3):Iv (rmr i1 j1 i2 j2 i3 j3).1 (rmr i1 j1 i2 j2 i3 j3).2:=by
 unfold rmr
 split
 ·exact Iv.none
 ·rename_i h;have hM:M=9218868437227405312:=rfl;refine it_iv ?_ h3;unfold Iv at *
  split<;>omega
theorem revmin_idx(i1 i2 i3 i4 i5 i6:Int)(w:World)(hb:Iv i1 i2)(hc:Iv i3 i4)(hx:Iv i5 i6):
  Calls Tryz.prog 29 #[.agg #[.float .f64 (pat i1),.float .f64 (pat i2)],.agg #[.float .f64 (pat i3),.float .f64 (pat i4)],.agg #[.float .f64 (pat i5),.float .f64 (pat i6)]] w
   fun e w'=>e=.returned (.agg #[.float .f64 (pat (rmr i1 i2 i3 i4 i5 i6).1),.float .f64 (pat (rmr i1 i2 i3 i4 i5 i6).2)])∧Below w.heap.size w w':=by
 have h:=revmin_any (pat i1) (pat i2) (pat i3) (pat i4) (pat i5) (pat i6) w (pat_lt hb.lo.1 hb.lo.2) (pat_lt hb.hi.1 hb.hi.2) (pat_lt hc.lo.1 hc.lo.2) (pat_lt hc.hi.1 hc.hi.2) (pat_lt hx.lo.1 hx.lo.2) (pat_lt hx.hi.1 hx.hi.2);rw [rd_pat hb,rd_pat hc,rd_pat hx] at h
 exact h
theorem mirror_idxm(i j:Int)(w:World)(h:Iv i j):
  Calls Tryz.prog 85 #[.agg #[.float .f64 (pat i),.float .f64 (pat j)]] w fun e w'=>e=.returned (.agg #[.float .f64 (pat (-j)),.float .f64 (pat (-i))])∧Below w.heap.size w w':=by
 have h2:=mirrorf (pat i) (pat j) w (pat_lt h.lo.1 h.lo.2) (pat_lt h.hi.1 h.hi.2);rw [rd_pat h] at h2
 exact h2
theorem revmax_any(b1 b2 c1 c2 x y:Nat)(w:World)(hb1:b1<18446744073709551616)(hb2:b2<18446744073709551616)(hc1:c1<18446744073709551616)(hc2:c2<18446744073709551616)(hx:x<18446744073709551616)(hy:y<18446744073709551616):
  Calls Tryz.prog 30 #[.agg #[.float .f64 b1,.float .f64 b2],.agg #[.float .f64 c1,.float .f64 c2],.agg #[.float .f64 x,.float .f64 y]] w fun e w'=>e=.returned (.agg #[.float .f64 (pat (rmx (rd b1 b2) (rd c1 c2) (rd x y)).1),.float .f64 (pat (rmx (rd b1 b2) (rd c1 c2) (rd x y)).2)])∧Below w.heap.size w w':=by
 have HN1:=Hd fun W=>mirrorf b1 b2 W hb1 hb2;have HN2:=Hd fun W=>mirrorf c1 c2 W hc1 hc2;have HN3:=Hd fun W=>mirrorf x y W hx hy;have v1:=(rd_iv b1 b2).negf;have v2:=(rd_iv c1 c2).negf;have v3:=(rd_iv x y).negf;have vm:=rmr_iv v1 v2 v3;have HM:=Hd fun W=>revmin_idx _ _ _ _ _ _ W v1 v2 v3;have HN4:=Hd fun W=>mirror_idxm _ _ W vm;unfold rmx
 obtain⟨z1,hz1⟩:∃ z,(rmr (-(rd b1 b2).2) (-(rd b1 b2).1) (-(rd c1 c2).2) (-(rd c1 c2).1) (-(rd x y).2) (-(rd x y).1)).1=z:=⟨_,rfl⟩
 obtain⟨z2,hz2⟩:∃ z,(rmr (-(rd b1 b2).2) (-(rd b1 b2).1) (-(rd c1 c2).2) (-(rd c1 c2).1) (-(rd x y).2) (-(rd x y).1)).2=z:=⟨_,rfl⟩
 rw [hz1,hz2] at HM HN4 ⊢
 obtain⟨p1,e1⟩:∃ z,pat (-(rd b1 b2).2)=z:=⟨_,rfl⟩
 obtain⟨p2,e2⟩:∃ z,pat (-(rd b1 b2).1)=z:=⟨_,rfl⟩
 obtain⟨p3,e3⟩:∃ z,pat (-(rd c1 c2).2)=z:=⟨_,rfl⟩
 obtain⟨p4,e4⟩:∃ z,pat (-(rd c1 c2).1)=z:=⟨_,rfl⟩
 obtain⟨p5,e5⟩:∃ z,pat (-(rd x y).2)=z:=⟨_,rfl⟩
 obtain⟨p6,e6⟩:∃ z,pat (-(rd x y).1)=z:=⟨_,rfl⟩
 obtain⟨p7,e7⟩:∃ z,pat z1=z:=⟨_,rfl⟩
 obtain⟨p8,e8⟩:∃ z,pat z2=z:=⟨_,rfl⟩
 obtain⟨q1,f1⟩:∃ z,pat (-z2)=z:=⟨_,rfl⟩
 obtain⟨q2,f2⟩:∃ z,pat (-z1)=z:=⟨_,rfl⟩
 rw [e1,e2] at HN1;rw [e3,e4] at HN2;rw [e5,e6] at HN3;rw [e1,e2,e3,e4,e5,e6,e7,e8] at HM;rw [e7,e8,f1,f2] at HN4
 dsimp only
 rw [f1,f2];clear v1 v2 v3 vm hz1 hz2 e1 e2 e3 e4 e5 e6 e7 e8 f1 f2;obtain⟨LB0,LG0_0,LG1_0,LG2_0,LR⟩:=bx4 w #[.float .f64 b1,.float .f64 b2] 28 #[.float .f64 c1,.float .f64 c2] 28 #[.float .f64 x,.float .f64 y] 28 #[.float .f64 0,.float .f64 0] 28;have LR0:=Hd (HasBlk.of (n:=2) LR.out rfl rfl);clear LR
 go_enter Tryz.func30,Tryz.ntmps30
 go_wp2_with fail;refine wp_region_held_drew (S:=fun W'=>Blk W' w.heap.size 28 #[.float .f64 b1,.float .f64 b2]∧Blk W' (w.heap.size+1) 28 #[.float .f64 c1,.float .f64 c2]∧Blk W' (w.heap.size+2) 28 #[.float .f64 x,.float .f64 y]∧HasBlk W' (w.heap.size+3) 28 2∧Below w.heap.size w W') (by kernel_rfl) (by exact⟨LG0_0.out.drew,LG1_0.out.drew,LG2_0.out.drew,LR0.out.drew,LB0.out.drew⟩) (fun hHeld=>?_);refine tk 0 ?_ (hv:=by intro W2 hSw;obtain⟨q0,q1⟩:=hSw.1.c2;go_simp;(try with_reducible rfl));(try simp only [Act.put,lay]);refine tk 2 ?_ (hv:=by intro W2 hSw;obtain⟨q0,q1⟩:=hSw.2.1.c2;go_simp;(try with_reducible rfl));(try simp only [Act.put,lay]);refine tk 4 ?_ (hv:=by intro W2 hSw;obtain⟨q0,q1⟩:=hSw.2.2.1.c2;go_simp;(try with_reducible rfl));(try simp only [Act.put,lay]);refine rdy 1 (fun KK hKK=>?_);go_simp;refine (HN1.out _).mono ?_;rintro e w1 ⟨rfl,hbA⟩;go_wp2_with fail;refine hKK.out _ _ (⟨hHeld.1.keep hbA,hHeld.2.1.keep hbA,hHeld.2.2.1.keep hbA,hHeld.2.2.2.1.keep hbA,hHeld.2.2.2.2.trans (hbA.mono hHeld.2.2.2.2.size)⟩) (fun _=>?_);clear hKK KK hHeld;rename_i hHeld;(try simp only [Act.put,lay]);refine rdy 3 (fun KK hKK=>?_);go_simp;refine (HN2.out _).mono ?_;rintro e w2 ⟨rfl,hbB⟩;go_wp2_with fail;refine hKK.out _ _ (⟨hHeld.1.keep hbB,hHeld.2.1.keep hbB,hHeld.2.2.1.keep hbB,hHeld.2.2.2.1.keep hbB,hHeld.2.2.2.2.trans (hbB.mono hHeld.2.2.2.2.size)⟩) (fun _=>?_);clear hKK KK hHeld;rename_i hHeld;(try simp only [Act.put,lay]);refine rdy 5 (fun KK hKK=>?_);go_simp;refine (HN3.out _).mono ?_
 rintro e w3 ⟨rfl,hbC⟩;go_wp2_with fail;refine hKK.out _ _ (⟨hHeld.1.keep hbC,hHeld.2.1.keep hbC,hHeld.2.2.1.keep hbC,hHeld.2.2.2.1.keep hbC,hHeld.2.2.2.2.trans (hbC.mono hHeld.2.2.2.2.size)⟩) (fun _=>?_);clear hKK KK hHeld;rename_i hHeld;(try simp only [Act.put,lay]);refine rdy 6 (fun KK hKK=>?_);go_simp;refine (HM.out _).mono ?_;rintro e w4 ⟨rfl,hbD⟩;go_wp2_with fail;refine hKK.out _ _ (⟨hHeld.1.keep hbD,hHeld.2.1.keep hbD,hHeld.2.2.1.keep hbD,hHeld.2.2.2.1.keep hbD,hHeld.2.2.2.2.trans (hbD.mono hHeld.2.2.2.2.size)⟩) (fun _=>?_);clear hKK KK hHeld;rename_i hHeld;(try simp only [Act.put,lay]);refine rdy 7 (fun KK hKK=>?_);go_simp;refine (HN4.out _).mono ?_;rintro e w5 ⟨rfl,hbE⟩;go_wp2_with fail;refine hKK.out _ _ (⟨hHeld.1.keep hbE,hHeld.2.1.keep hbE,hHeld.2.2.1.keep hbE,hHeld.2.2.2.1.keep hbE,hHeld.2.2.2.2.trans (hbE.mono hHeld.2.2.2.2.size)⟩) (fun _=>?_);clear hKK KK hHeld;rename_i hHeld;(try simp only [Act.put,lay]);refine rdy 8 (fun KK hKK=>?_);have ha0:=hHeld.2.2.2.1.someCell 0 (by decide);have hf0:=hHeld.2.2.2.1.frozen 0;have ha1:=hHeld.2.2.2.1.someCell 1 (by decide);have hf1:=hHeld.2.2.2.1.frozen 1;have HK:=Hd (hHeld.2.2.2.1.setCell [.float .f64 q1,.float .f64 q2] rfl);have F:=Hd (below_sets (w0:=w) (r:=(w.heap.size+3)) (by omega) [.float .f64 q1,.float .f64 q2] 0 _ hHeld.2.2.2.2);go_simp;refine hKK.out _ _ (⟨hHeld.1.other (by omega) 0 [.float .f64 q1,.float .f64 q2],hHeld.2.1.other (by omega) 0 [.float .f64 q1,.float .f64 q2],hHeld.2.2.1.other (by omega) 0 [.float .f64 q1,.float .f64 q2],hHeld.2.2.2.1.sets [.float .f64 q1,.float .f64 q2] rfl rfl,below_sets (by omega) [.float .f64 q1,.float .f64 q2] 0 _ hHeld.2.2.2.2⟩) (fun _=>?_)
 clear hKK KK hHeld;rename_i hHeld;(try simp only [Act.put,lay]);refine wpAnyH_done (by kernel_rfl) ?_ _;have hk0:=HK.out 0 (by decide);have hk1:=HK.out 1 (by decide)
 simp [sets] at hk0 hk1
 clear hHeld HK hbA hbB hbC hbD hbE;clear LB0 LR0 LG0_0 LG1_0 LG2_0;go_wp2;refine bodyPost_ret (v:=.agg #[.float .f64 q1,.float .f64 q2]) (by simp [results,Tryz.results30,go_sem,hk0,hk1]) rfl ?_
 exact⟨rfl,F.out⟩
end Go.Proofs.YthlmlmfebpjgdaaGreatDoor
namespace Go.Proofs.YthlmlmfebpjgdaaGreatDoor
open Go.RowKit
theorem ct_in{i j pd pu qd qu:Int}{v:Rat}(h:In i j v)(l1:pd≤rndI (-1) v)(l2:pu≤rndI 1 v)(u1:rndI (-1) v≤qd)(u2:rndI 1 v≤qu):In (ct i j pd pu qd qu).1 (ct i j pd pu qd qu).2 v:=by
 have h1:=h.1;have h2:=h.2;unfold ct;rw [if_neg (by omega)]
 exact⟨by dsimp only;omega,by dsimp only;omega⟩
theorem ad_lo{i2 j1:Int}{v q:Rat}(h2:-(M:Int)≤i2∧i2<M)(h1:-(M:Int)<j1∧j1≤M)(hl:-(M:Int)<i2→fl i2≤v+q)(hu:j1<M→q≤fl j1):ad (-1) i2 (-j1)≤rndI (-1) v∧ad 1 i2 (-j1)≤rndI 1 v:=by
 have hM:(M:Int)=9218868437227405312:=rfl;have a:=rndI_down v;have b:=rndI_up v;unfold ad
 by_cases c1:i2=M∨i2=-(M:Int)
 ·rw [if_pos c1,if_pos c1];omega
 ·rw [if_neg c1,if_neg c1]
  by_cases c2:-j1=M∨-j1=-(M:Int)
  ·rw [if_pos c2,if_pos c2];omega
  ·rw [if_neg c2,if_neg c2,fl_neg];have e1:=hl (by omega);have e2:=hu (by omega)
   have e:fl i2+-fl j1≤v:=by grind
   exact⟨rndI_mono (.inl rfl) e,rndI_mono (.inr rfl) e⟩
theorem ad_hi{j2 i1:Int}{v q:Rat}(h2:-(M:Int)<j2∧j2≤M)(h1:-(M:Int)≤i1∧i1<M)(hl:j2<M→v+q≤fl j2)(hu:-(M:Int)<i1→fl i1≤q):rndI (-1) v≤ad (-1) j2 (-i1)∧rndI 1 v≤ad 1 j2 (-i1):=by
 have hM:(M:Int)=9218868437227405312:=rfl;have a:=rndI_down v;have b:=rndI_up v;unfold ad
 by_cases c1:j2=M∨j2=-(M:Int)
 ·rw [if_pos c1,if_pos c1];omega
 ·rw [if_neg c1,if_neg c1]
  by_cases c2:-i1=M∨-i1=-(M:Int)
  ·rw [if_pos c2,if_pos c2];omega
  ·rw [if_neg c2,if_neg c2,fl_neg];have e1:=hl (by omega);have e2:=hu (by omega)
   have e:v≤fl j2+-fl i1:=by grind
   exact⟨rndI_mono (.inl rfl) e,rndI_mono (.inr rfl) e⟩
theorem rar_in{i1 j1 i2 j2 i3 j3:Int}{v q:Rat}(hr:-(M:Int)≤i1∧j1≤M∧-(M:Int)≤i2∧j2≤M∧-(M:Int)≤i3∧j3≤M)(hq:In i1 j1 q)(hc:In i2 j2 (v+q))(hx:In i3 j3 v):In (rar i1 j1 i2 j2 i3 j3).1 (rar i1 j1 i2 j2 i3 j3).2 v:=by
 obtain⟨r1,r2,r3,r4,r5,r6⟩:=hr;have n1:=hq.ne r1 r2;have n2:=hc.ne r3 r4;have n3:=hx.ne r5 r6;have l:=ad_lo (v:=v) (q:=q) (i2:=i2) (j1:=j1) (by unfold Ne at n2;omega) (by unfold Ne at n1;omega) hc.lo hq.hi;have u:=ad_hi (v:=v) (q:=q) (j2:=j2) (i1:=i1) (by unfold Ne at n2;omega) (by unfold Ne at n1;omega) hc.hi hq.lo;unfold Ne at n1 n2 n3;unfold rar;rw [if_neg (by omega)]
 exact ct_in hx l.1 l.2 u.1 u.2
theorem ct_rng{i j pd pu qd qu:Int}(hi:-(M:Int)≤i)(hj:j≤M):-(M:Int)≤(ct i j pd pu qd qu).1∧(ct i j pd pu qd qu).2≤M:=by
 have hM:(M:Int)=9218868437227405312:=rfl;unfold ct
 split
 ·dsimp only;omega
 ·dsimp only;omega
theorem rar_rng{i1 j1 i2 j2 i3 j3:Int}(hi:-(M:Int)≤i3)(hj:j3≤M):-(M:Int)≤(rar i1 j1 i2 j2 i3 j3).1∧(rar i1 j1 i2 j2 i3 j3).2≤M:=by
 have hM:(M:Int)=9218868437227405312:=rfl;unfold rar
 split
 ·dsimp only;omega
 ·exact ct_rng hi hj
theorem mlr_in{i1 j1 i2 j2 i3 j3:Int}{v q:Rat}(hr:-(M:Int)≤i1∧j1≤M∧-(M:Int)≤i2∧j2≤M∧-(M:Int)≤i3∧j3≤M)(hq:In i1 j1 q)(hc:In i2 j2 (v*q))(hx:In i3 j3 v):In (mlr i1 j1 i2 j2 i3 j3).1 (mlr i1 j1 i2 j2 i3 j3).2 v:=by
 have hM:(M:Int)=9218868437227405312:=rfl;obtain⟨r1,r2,r3,r4,r5,r6⟩:=hr;have n1:=hq.ne r1 r2;have n2:=hc.ne r3 r4;have n3:=hx.ne r5 r6;have k:=numok_idx n2
 have hl:es i2=0→ex i2≤v*q:=fun e=>by
  rw [ex_zero e];refine hc.lo ?_;unfold Ne at n2
  by_cases c:i2=-(M:Int)
  ·rw [c,es_min] at e;omega
  ·omega
 have hu:es j2=0→v*q≤ex j2:=fun e=>by
  rw [ex_zero e];refine hc.hi ?_;unfold Ne at n2
  by_cases c:j2=M
  ·rw [c,es_max] at e;omega
  ·omega
 unfold Ne at n1 n2 n3;unfold mlr;rw [if_neg (by omega)]
 exact fa_in k r1 r2 r5 r6 hq hx hl hu
theorem In.pos_hi{i j:Int}{v:Rat}(h:In i j v)(hv:0<v)(hj:j≤M):0<j:=by
 have hM:(M:Int)=9218868437227405312:=rfl
 by_cases c:j=M
 ·omega
 ·have:=h.hi (by omega)
  by_cases z:0<j
  ·exact z
  ·exfalso
   have:=fl_le_iff.2 (show j≤0 by omega);rw [fl_zero] at this
   grind
theorem fl_np2{i:Int}(h:i≤0):fl i≤0:=by have:=fl_le_iff.2 h;rwa [fl_zero] at this
theorem mul_le_r2{a b c:Rat}(h:a≤b)(hc:0≤c):a*c≤b*c:=by
 rw [Rat.mul_comm a,Rat.mul_comm b];exact Rat.mul_le_mul_of_nonneg_left h hc
theorem prb_neg(a b:Int):prb (-a) b=(-(prb a b).1,-(prb a b).2.1,(prb a b).2.2):=by
 have hM:(M:Int)=9218868437227405312:=rfl
 have e:es (-a)=-es a:=by
  unfold es
  split<;>split<;>(try split)<;>omega
 unfold prb
 by_cases h1:a=0
 ·rw [if_pos (by omega),if_pos h1];simp
 ·rw [if_neg (by omega),if_neg h1]
  by_cases h2:b=0
  ·rw [if_pos h2,if_pos h2];simp
  ·rw [if_neg h2,if_neg h2]
   by_cases h3:es a≠0∨es b≠0
   ·rw [if_pos (by omega),if_pos h3]
    by_cases h4:0<a
    ·rw [if_neg (by omega),if_pos h4];simp
    ·rw [if_pos (by omega),if_neg h4];simp
   ·rw [if_neg (by omega),if_neg h3,fl_neg]
    simp only [Prod.mk.injEq,and_true]
    exact⟨rfl,by grind⟩
theorem vdA_lo{i1 j1 i2:Int}{r q:Rat}(h1:Ne i1 j1)(h2:-(M:Int)≤i2∧i2<M)(hq:In i1 j1 q)(q0:0<q)(hr:-(M:Int)<i2→fl i2≤r):
  ((vdA i1 j1 i2).1=0∨(vdA i1 j1 i2).1=-1)∧((vdA i1 j1 i2).1=0→(vdA i1 j1 i2).2.1≤r*q)∧((vdA i1 j1 i2).1=0→(vdA i1 j1 i2).2.2=true→(vdA i1 j1 i2).2.1≠r*q):=by
 have hM:(M:Int)=9218868437227405312:=rfl;unfold Ne at h1;unfold vdA
 by_cases c1:0<i2
 ·rw [if_pos c1];have e1:=hr (by omega);have p1:0<fl i2:=fl_pos c1;have e2:fl i2*q≤r*q:=mul_le_r2 e1 (by grind);have p2:0<fl i2*q:=Rat.mul_pos p1 q0;unfold prb;rw [if_neg (by omega)]
  by_cases c2:max i1 0=0
  ·rw [if_pos c2]
   exact⟨.inl rfl,fun _=>by dsimp only;grind,fun _ _=>by dsimp only;grind⟩
  ·rw [if_neg c2,if_neg (by rw [es_mid (by omega) (by omega),es_mid (by omega) (by omega)];omega)];refine⟨.inl rfl,fun _=>?_,fun _ h=>by cases h⟩
   dsimp only
   rw [show max i1 0=i1 from by omega];have e3:=hq.lo (by omega);have e4:fl i2*fl i1≤fl i2*q:=Rat.mul_le_mul_of_nonneg_left e3 (by grind)
   grind
 ·rw [if_neg c1];unfold prb
  by_cases c2:i2=0
  ·rw [if_pos c2];have e1:=hr (by omega);rw [c2,fl_zero] at e1
   exact⟨.inl rfl,fun _=>by dsimp only;exact Rat.mul_nonneg e1 (by grind),fun _ h=>by cases h⟩
  ·have j1p:=hq.pos_hi q0 h1.2.2.1;rw [if_neg c2,if_neg (by omega)]
   by_cases c3:es i2≠0∨es j1≠0
   ·rw [if_pos c3,if_neg c1]
    exact⟨.inr rfl,fun h=>by dsimp only at h;omega,fun h=>by dsimp only at h;omega⟩
   ·rw [if_neg c3];refine⟨.inl rfl,fun _=>?_,fun _ h=>by cases h⟩
    dsimp only
    have a1:i2≠-(M:Int):=fun e=>by rw [e,es_min] at c3;omega
    have a2:j1≠M:=fun e=>by rw [e,es_max] at c3;omega
    have e1:=hr (by omega);have e3:=hq.hi (by omega);have n1:=fl_np2 (show i2≤0 by omega);have e2:fl i2*q≤r*q:=mul_le_r2 e1 (by grind);have e4:(-fl i2)*q≤(-fl i2)*fl j1:=Rat.mul_le_mul_of_nonneg_left e3 (by grind)
    grind
theorem vdB_hi{i1 j1 j2:Int}{r q:Rat}(h1:Ne i1 j1)(h2:-(M:Int)<j2∧j2≤M)(hq:In i1 j1 q)(q0:0<q)(hr:j2<M→r≤fl j2):
  ((vdB i1 j1 j2).1=0∨(vdB i1 j1 j2).1=1)∧((vdB i1 j1 j2).1=0→r*q≤(vdB i1 j1 j2).2.1)∧((vdB i1 j1 j2).1=0→(vdB i1 j1 j2).2.2=true→(vdB i1 j1 j2).2.1≠r*q):=by
 have k:=vdA_lo (i2:=-j2) (r:=-r) h1 (by omega) hq q0 (fun h=>by rw [fl_neg];have:=hr (by omega);grind)
 have e:vdA i1 j1 (-j2)=(-(vdB i1 j1 j2).1,-(vdB i1 j1 j2).2.1,(vdB i1 j1 j2).2.2):=by
  unfold vdA vdB
  by_cases c:j2<0
  ·rw [if_pos (by omega),if_pos c,prb_neg]
  ·rw [if_neg (by omega),if_neg c,prb_neg]
 rw [e] at k
 dsimp only at k
 refine⟨by omega,fun h=>?_,fun h ho z=>?_⟩
 ·have:=k.2.1 (by omega);grind
 ·exact k.2.2 (by omega) ho (by grind)
theorem FV_in{i1 j1 i2 j2 i j:Int}{v r q:Rat}(h:-(M:Int)≤i1∧j1≤M∧-(M:Int)≤i2∧j2≤M∧-(M:Int)≤i∧j≤M)(hq:In i1 j1 q)(q0:0<q)(hc:In i2 j2 r)(hx:In i j v)(e:v=r*q):In (FV i1 j1 i2 j2 i j).1 (FV i1 j1 i2 j2 i j).2 v:=by
 have hM:(M:Int)=9218868437227405312:=rfl;obtain⟨r1,r2,r3,r4,r5,r6⟩:=h;have n1:=hq.ne r1 r2;have n2:=hc.ne r3 r4;have jp:=hq.pos_hi q0 r2;have a:=vdA_lo (i2:=i2) (r:=r) n1 (by unfold Ne at n2;omega) hq q0 hc.lo;have b:=vdB_hi (j2:=j2) (r:=r) n1 (by unfold Ne at n2;omega) hq q0 hc.hi;unfold Ne at n2;unfold FV;rw [if_neg (by omega)];rw [← e] at a b
 exact pf_in a.1 b.1 r5 r6 hx a.2.1 a.2.2 b.2.1 b.2.2
theorem dr1_in{i1 j1 i2 j2 i j:Int}{v q:Rat}(h:-(M:Int)≤i1∧j1≤M∧-(M:Int)≤i2∧j2≤M∧-(M:Int)≤i∧j≤M)(hq:In i1 j1 q)(q0:q≠0)(hc:In i2 j2 (v / q))(hx:In i j v):In (dr1 i1 j1 i2 j2 i j).1 (dr1 i1 j1 i2 j2 i j).2 v:=by
 have hM:(M:Int)=9218868437227405312:=rfl;have e:v=v / q*q:=(Rat.div_mul_cancel q0).symm;have l1:=hq.nonempty;have l2:=hc.nonempty;have l3:=hx.nonempty;unfold dr1;rw [if_neg (by omega)];refine In.hull ?_
 by_cases p:0<q
 ·exact .inl (FV_in h hq p hc hx e)
 ·right
  obtain⟨r1,r2,r3,r4,r5,r6⟩:=h;have k:=FV_in (i1:=-j1) (j1:=-i1) (i:=-j) (j:=-i) (v:=-v) (q:=-q) ⟨by omega,by omega,r3,r4,by omega,by omega⟩ hq.neg (by grind) hc hx.neg (by grind);have k2:=k.neg
  rwa [Rat.neg_neg] at k2
theorem FD_in{i1 j1 i2 j2 i j:Int}{v r q:Rat}(h:-(M:Int)≤i1∧j1≤M∧-(M:Int)≤i2∧j2≤M∧-(M:Int)≤i∧j≤M)(hq:In i1 j1 q)(q0:0<q)(hc:In i2 j2 r)(r0:0<r)(hx:In i j v)(v0:0<v)(e:v*r=q):In (FD i1 j1 i2 j2 i j).1 (FD i1 j1 i2 j2 i j).2 v:=by
 have hM:(M:Int)=9218868437227405312:=rfl;obtain⟨r1,r2,r3,r4,r5,r6⟩:=h;have n1:=hq.ne r1 r2;have n2:=hc.ne r3 r4;have jp:=hq.pos_hi q0 r2;have kp:=hc.pos_hi r0 r4;unfold Ne at n1 n2;unfold FD;rw [if_neg (by omega)]
 have a:((dvA i1 j2).1=0∨(dvA i1 j2).1=-1)∧((dvA i1 j2).1=0→(dvA i1 j2).2.1≤v)∧((dvA i1 j2).1=0→(dvA i1 j2).2.2=true→(dvA i1 j2).2.1≠v):=by
  unfold dvA
  by_cases c:0<i1∧j2<M
  ·rw [if_pos c];refine⟨.inl rfl,fun _=>?_,fun _ h=>by cases h⟩
   dsimp only
   have p:=fl_pos kp;have e1:=hq.lo (by omega);have e2:=Rat.mul_le_mul_of_nonneg_left (hc.hi c.2) (show 0≤v by grind);rw [← mul_le_pos p,Rat.div_mul_cancel (by grind)]
   grind
  ·rw [if_neg c]
   exact⟨.inl rfl,fun _=>by dsimp only;grind,fun _ _=>by dsimp only;grind⟩
 have b:((dvB j1 i2).1=0∨(dvB j1 i2).1=1)∧((dvB j1 i2).1=0→v≤(dvB j1 i2).2.1)∧((dvB j1 i2).1=0→(dvB j1 i2).2.2=true→(dvB j1 i2).2.1≠v):=by
  unfold dvB
  by_cases c:j1<M∧0<i2
  ·rw [if_pos c];refine⟨.inl rfl,fun _=>?_,fun _ h=>by cases h⟩
   dsimp only
   have p:=fl_pos c.2;have e1:=hq.hi c.1;have e2:=Rat.mul_le_mul_of_nonneg_left (hc.lo (by omega)) (show 0≤v by grind);rw [← mul_le_pos p,Rat.div_mul_cancel (by grind)]
   grind
  ·rw [if_neg c]
   exact⟨.inr rfl,fun h=>by dsimp only at h;omega,fun h=>by dsimp only at h;omega⟩
 exact pf_in a.1 b.1 r5 r6 hx a.2.1 a.2.2 b.2.1 b.2.2
theorem In.zero{i j:Int}(h:In i j 0):i≤0∧0≤j:=by
 have a:=h.1;have b:=h.2;rw [rndI_zero (.inl rfl)] at a;rw [rndI_zero (.inr rfl)] at b
 exact⟨a,b⟩
theorem dr2_in{i1 j1 i2 j2 i j:Int}{v q:Rat}(h:-(M:Int)≤i1∧j1≤M∧-(M:Int)≤i2∧j2≤M∧-(M:Int)≤i∧j≤M)(hq:In i1 j1 q)(v0:v≠0)(hc:In i2 j2 (q / v))(hx:In i j v):In (dr2 i1 j1 i2 j2 i j).1 (dr2 i1 j1 i2 j2 i j).2 v:=by
 have hM:(M:Int)=9218868437227405312:=rfl;have l1:=hq.nonempty;have l2:=hc.nonempty;have l3:=hx.nonempty;have hh:=h;obtain⟨r1,r2,r3,r4,r5,r6⟩:=h
 obtain⟨r,hr⟩:∃ r,q / v=r:=⟨_,rfl⟩
 have e:v*r=q:=by rw [← hr,Rat.mul_comm,Rat.div_mul_cancel v0]
 rw [hr] at hc;unfold dr2;rw [if_neg (by omega)]
 by_cases c:(i1≤0∧0≤j1)∧(i2≤0∧0≤j2)
 ·rw [if_pos c];refine In.hull ?_
  by_cases p:0<v
  ·exact .inr (pf_in (.inl rfl) (.inr rfl) r5 r6 hx (fun _=>by grind) (fun _ _=>by grind) (fun h=>by omega) (fun h=>by omega))
  ·exact .inl (pf_in (.inr rfl) (.inl rfl) r5 r6 hx (fun h=>by omega) (fun h=>by omega) (fun _=>by grind) (fun _ _=>by grind))
 ·rw [if_neg c]
  have q0:q≠0:=by
   rintro rfl
   have r0:r=0:=by rw [← hr,Rat.div_def,Rat.zero_mul]
   subst r0
   exact c ⟨hq.zero,hc.zero⟩
  have r0:r≠0:=by rintro rfl;rw [Rat.mul_zero] at e;exact q0 e.symm
  have sg:∀ {a b:Rat},0<a→0<a*b→0<b:=fun {a b} ha h=>by
   by_cases z:0<b
   ·exact z
   ·exfalso
    have:=Rat.mul_le_mul_of_nonneg_left (show b≤0 by grind) (show 0≤a by grind);rw [Rat.mul_zero] at this
    grind
  have main:In (FD i1 j1 i2 j2 i j).1 (FD i1 j1 i2 j2 i j).2 v∨In (FD (-j1) (-i1) (-j2) (-i2) i j).1 (FD (-j1) (-i1) (-j2) (-i2) i j).2 v∨In (FD (-j1) (-i1) i2 j2 (-j) (-i)).1 (FD (-j1) (-i1) i2 j2 (-j) (-i)).2 (-v)∨In (FD i1 j1 (-j2) (-i2) (-j) (-i)).1 (FD i1 j1 (-j2) (-i2) (-j) (-i)).2 (-v):=by
   by_cases pv:0<v
   ·by_cases pq:0<q
    ·exact .inl (FD_in hh hq pq hc (sg pv (by rw [e];exact pq)) hx pv e)
    ·exact .inr (.inl (FD_in (q:=-q) (r:=-r) ⟨by omega,by omega,by omega,by omega,r5,r6⟩ hq.neg (by grind) hc.neg (sg pv (by rw [show v*-r=-q by grind];grind)) hx pv (by grind)))
   ·by_cases pq:0<q
    ·exact .inr (.inr (.inr (FD_in (q:=q) (r:=-r) ⟨r1,r2,by omega,by omega,by omega,by omega⟩ hq pq hc.neg (sg (a:=-v) (by grind) (by rw [show -v*-r=q by grind];exact pq)) hx.neg (by grind) (by grind))))
    ·exact .inr (.inr (.inl (FD_in (q:=-q) (r:=r) ⟨by omega,by omega,r3,r4,by omega,by omega⟩ hq.neg (by grind) hc (sg (a:=-v) (by grind) (by rw [show -v*r=-q by grind];grind)) hx.neg (by grind) (by grind))))
  rcases main with k | k | k | k
  ·have a:=k.1;have b:=k.2;exact⟨by dsimp only;omega,by dsimp only;omega⟩
  ·have a:=k.1;have b:=k.2;exact⟨by dsimp only;omega,by dsimp only;omega⟩
  ·have k2:=k.neg;rw [Rat.neg_neg] at k2;have a:=k2.1;have b:=k2.2;exact⟨by dsimp only;omega,by dsimp only;omega⟩
  ·have k2:=k.neg;rw [Rat.neg_neg] at k2;have a:=k2.1;have b:=k2.2;exact⟨by dsimp only;omega,by dsimp only;omega⟩
theorem rmr_in{i1 j1 i2 j2 i3 j3:Int}{v q:Rat}(h1:j1≤M)(h2:j2≤M)(h3:j3≤M)(hq:In i1 j1 q)(hc:In i2 j2 (rmin v q))(hx:In i3 j3 v):In (rmr i1 j1 i2 j2 i3 j3).1 (rmr i1 j1 i2 j2 i3 j3).2 v:=by
 have hM:(M:Int)=9218868437227405312:=rfl;have l1:=hq.nonempty;have l2:=hc.nonempty;have l3:=hx.nonempty;have a:=rndI_le v;have b:=rndI_le q;have uv:=(rndI_up v).2.1;have m1:rndI (-1) (rmin v q)≤rndI (-1) v:=rndI_mono (.inl rfl) (by unfold rmin;split<;>grind);have m2:rndI (-1) (rmin v q)≤rndI (-1) q:=rndI_mono (.inl rfl) (by unfold rmin;split<;>grind);have c1:=hc.1;have c2:=hc.2;have x1:=hx.1;have x2:=hx.2;have q1:=hq.1;have q2:=hq.2;unfold rmr;rw [if_neg (by omega)]
 have up':rndI 1 v≤(if i1≤j2 then (M:Int) else j2):=by
  by_cases c:i1≤j2
  ·rw [if_pos c];exact uv
  ·rw [if_neg c]
   have e:rmin v q=v:=by
    unfold rmin
    by_cases z:q<v
    ·exfalso
     unfold rmin at c2;rw [if_pos z] at c2
     omega
    ·rw [if_neg z]
   rw [e] at c2
   exact c2
 unfold it;rw [if_neg (by omega)]
 exact⟨by dsimp only;omega,by dsimp only;omega⟩
theorem rmx_in{b c x:Int × Int}{v q:Rat}(h1:-(M:Int)≤b.1)(h2:-(M:Int)≤c.1)(h3:-(M:Int)≤x.1)(hq:In b.1 b.2 q)(hc:In c.1 c.2 (rmax v q))(hx:In x.1 x.2 v):In (rmx b c x).1 (rmx b c x).2 v:=by
 have e:rmin (-v) (-q)=-rmax v q:=by
  unfold rmin rmax
  by_cases z:v<q
  ·rw [if_pos (by grind),if_pos z]
  ·rw [if_neg (by grind),if_neg z]
 have k:=rmr_in (i1:=-b.2) (j1:=-b.1) (i2:=-c.2) (j2:=-c.1) (i3:=-x.2) (j3:=-x.1) (v:=-v) (q:=-q) (by omega) (by omega) (by omega) hq.neg (by rw [e];exact hc.neg) hx.neg;have k2:=k.neg;rw [Rat.neg_neg] at k2
 exact k2
theorem Iv.hull{a b c d:Int}(h:Iv a b)(h':Iv c d):Iv (min a c) (max b d):=by
 have hM:(M:Int)=9218868437227405312:=rfl;unfold Iv at *
 omega
theorem fa_iv{b1 b2 s1 s2:Int}{x1 x2:Rat}(k:NumOk s1 x1 s2 x2)(hb:Ne b1 b2){i j:Int}(hx:Iv i j):Iv (fa b1 b2 s1 x1 s2 x2 i j).1 (fa b1 b2 s1 x1 s2 x2 i j).2:=by
 unfold fa
 split
 ·exact hx
 ·exact Iv.hull (PF_iv k hb i j hx) (PF_iv k hb.neg (-j) (-i) hx.negg).negg
theorem mlr_iv{i1 j1 i2 j2 i3 j3:Int}(h1:Iv i1 j1)(h2:Iv i2 j2)(h3:Iv i3 j3):Iv (mlr i1 j1 i2 j2 i3 j3).1 (mlr i1 j1 i2 j2 i3 j3).2:=by
 unfold mlr
 split
 ·exact Iv.none
 ·exact fa_iv (numok_idx (ne_or h2 (by omega))) (ne_or h1 (by omega)) h3
theorem hd_in{i j:Int}{v:Rat}:hd i j v=true↔In i j v:=hd_true
theorem U32b.ratw{w:World}{K:Nat}{g:Bool}{A:Option Addr}{n c:Nat}{B:Option Addr}{m d:Nat}{xs ys:List Nat}(h:U32b w A n c xs)(h':U32b w B m d ys)(hr:(decide (0<num ys) && decide (n<100) && decide (m<100))=true)(hK:100≤K):
  RatW w K g (.slice A n c) (.slice B m d) (rv g (num xs) (num ys)):=by
 simp only [Bool.and_eq_true,decide_eq_true_eq] at hr
 obtain⟨⟨h0,h1⟩,h2⟩:=hr;have e1:=num_lt h.w32;have e2:=num_lt h'.w32;rw [h.len] at e1;rw [h'.len] at e2
 exact⟨num xs,num ys,A,n,c,B,m,d,rfl,rfl,⟨xs,h.s (by omega),rfl⟩,⟨ys,h'.s (by omega),rfl⟩,h0,⟨by omega,by omega⟩,Nat.lt_of_lt_of_le e1 (Nat.pow_le_pow_right (by omega) (by omega)),Nat.lt_of_lt_of_le e2 (Nat.pow_le_pow_right (by omega) (by omega)),rfl⟩
end Go.Proofs.YthlmlmfebpjgdaaGreatDoor
