/-
Walks: package rev, has, factor; package rel, Hull.
-/
import Derived.Test.YthlmlmfebpjgdaaGreatDoorM03
import Derived.Test.YthlmlmfebpjgdaaGreatDoorM19
set_option linter.unusedSimpArgs false
set_option linter.unusedVariables false
set_option maxHeartbeats 12800000
namespace Go.Proofs.YthlmlmfebpjgdaaGreatDoor
open Go.RowKit
attribute [local go_sem] run_store_float run_eqf
theorem has_any(i j:Int)(w:World)(hi:-(M:Int)≤i∧i≤M)(hj:-(M:Int)≤j∧j≤M):Calls Tryz.prog 87 #[.agg #[.float .f64 (pat i),.float .f64 (pat j)]] w fun e w'=>e=.returned (.bool (decide (i≤0∧0≤j)))∧Below w.heap.size w w':=by
 have t1:i≤0→FloatKind.f64.format.order (pat i) 0=some .lt∨FloatKind.f64.format.order (pat i) 0=some .eq:=fun h=>by
  by_cases h0:i=0
  ·exact .inr (ord0_eq h0)
  ·exact .inl (ord0_lt hi (by omega))
 have t2:0≤j→FloatKind.f64.format.order (pat j) 0=some .gt∨FloatKind.f64.format.order (pat j) 0=some .eq:=fun h=>by
  by_cases h0:j=0
  ·exact .inr (ord0_eq h0)
  ·exact .inl (ord0_gt hj (by omega))
 obtain⟨LB0,LG0_0⟩:=bx1 w #[.float .f64 (pat i),.float .f64 (pat j)] 28
 obtain⟨p,hp⟩:∃ p,pat i=p:=⟨_,rfl⟩
 obtain⟨q,hq⟩:∃ p,pat j=p:=⟨_,rfl⟩
 by_cases h1:i≤0
 ·have o1:=t1 h1
  by_cases h2:0≤j
  ·have o2:=t2 h2;rw [decide_eq_true ⟨h1,h2⟩];rw [hp] at o1;rw [hq] at o2;rw [hp,hq] at LB0 LG0_0 ⊢;clear t1 t2 hp hq h1 h2 hi hj
   rcases o1 with o1 | o1<;>rcases o2 with o2 | o2
   all_goals
    have F:=Hd LB0.out;have q0:=LG0_0.out.cell 0;have q1:=LG0_0.out.cell 1
    go_enter Tryz.func87,Tryz.ntmps87
    go_wp2
    go_ret
    exact⟨rfl,F.out⟩
  ·have o2:=ord0_lt hj (by omega);rw [decide_eq_false (fun h=>h2 h.2)];rw [hp] at o1;rw [hq] at o2;rw [hp,hq] at LB0 LG0_0 ⊢;clear t1 t2 hp hq h1 h2 hi hj
   rcases o1 with o1 | o1
   all_goals
    have F:=Hd LB0.out;have q0:=LG0_0.out.cell 0;have q1:=LG0_0.out.cell 1
    go_enter Tryz.func87,Tryz.ntmps87
    go_wp2
    go_ret
    exact⟨rfl,F.out⟩
 ·have o1:=ord0_gt hi (by omega);rw [decide_eq_false (fun h=>h1 h.1)];rw [hp] at o1;rw [hp,hq] at LB0 LG0_0 ⊢;clear t1 t2 hp hq h1 hi hj;have F:=Hd LB0.out;have q0:=LG0_0.out.cell 0;have q1:=LG0_0.out.cell 1
  go_enter Tryz.func87,Tryz.ntmps87
  go_wp2
  go_ret
  exact⟨rfl,F.out⟩
theorem hull_walk(p1 p2 q1 q2 a b:Nat)(k:Int)(w:World)(hB:∀ W,Calls Tryz.prog 138 #[.agg #[.float .f64 p1,.float .f64 p2],.agg #[.float .f64 q1,.float .f64 q2]] W fun e w'=>e=.returned (.tuple #[.agg #[.float .f64 p1,.float .f64 p2],.agg #[.float .f64 q1,.float .f64 q2],.int .i64 k])∧Below W.heap.size W w')
  (m1:∀ W ts t,(Builtin.min_ ts t #[.float .f64 p1,.float .f64 q1]).run Tryz.prog W=.ok (.float .f64 a) W)(m2:∀ W ts t,(Builtin.max_ ts t #[.float .f64 p2,.float .f64 q2]).run Tryz.prog W=.ok (.float .f64 b) W):
  Calls Tryz.prog 63 #[.agg #[.float .f64 p1,.float .f64 p2],.agg #[.float .f64 q1,.float .f64 q2]] w fun e w'=>e=.returned (.agg #[.float .f64 a,.float .f64 b])∧Below w.heap.size w w':=by
 have HB:=Hd hB;have M1:=Hd m1;have M2:=Hd m2;clear hB m1 m2;obtain⟨LB0,LG0_0,LG1_0,LR⟩:=bx3 w #[.float .f64 p1,.float .f64 p2] 28 #[.float .f64 q1,.float .f64 q2] 28 #[.float .f64 0,.float .f64 0] 28;have LR0:=Hd (HasBlk.of (n:=2) LR.out rfl rfl);clear LR
 go_enter Tryz.func63,Tryz.ntmps63
 obtain⟨q0_0,q0_1⟩:=LG0_0.out.c2;obtain⟨q1_0,q1_1⟩:=LG1_0.out.c2;go_wp2_with fail;refine (HB.out _).mono ?_;rintro e w1 ⟨rfl,hb1⟩;have LB1:=stB LB0 hb1 LB0.out.size;have LR1:=stR LR0 hb1;have LG0_1:=stG LG0_0 hb1;have LG1_1:=stG LG1_0 hb1;clear LB0 LR0 LG0_0 LG1_0;clear hb1 HB q0_0 q0_1 q1_0 q1_1;obtain⟨q0_0,q0_1⟩:=LG0_1.out.c2;obtain⟨q1_0,q1_1⟩:=LG1_1.out.c2;have f00:=LG0_1.out.frozen 0;have f01:=LG0_1.out.frozen 1;have f10:=LG1_1.out.frozen 0;have f11:=LG1_1.out.frozen 1
 go_upto_region 2 with fail
 clear q0_0 q0_1 q1_0 q1_1 f00 f01 f10 f11;have LB2:=Hd (below_sets (w0:=w) (show w.heap.size≤w.heap.size by omega) [.float .f64 p1,.float .f64 p2] 0 w1 LB1.out);have LR2:=Hd (LR1.out.other (r:=w.heap.size) (by omega) 0 [.float .f64 p1,.float .f64 p2]);have LG0_2:=Hd (show Blk (sets w1 w.heap.size 0 [.float .f64 p1,.float .f64 p2]) w.heap.size 28 #[.float .f64 p1,.float .f64 p2] from by have hbs:=Blk.sets [.float .f64 p1,.float .f64 p2] 0 w1 _ LG0_1.out;simpa [laid] using hbs);have LG1_2:=Hd (LG1_1.out.other (r:=w.heap.size) (by omega) 0 [.float .f64 p1,.float .f64 p2]);clear LB1 LR1 LG0_1 LG1_1;have LB3:=Hd (below_sets (w0:=w) (show w.heap.size≤(w.heap.size+1) by omega) [.float .f64 q1,.float .f64 q2] 0 (sets w1 w.heap.size 0 [.float .f64 p1,.float .f64 p2]) LB2.out);have LR3:=Hd (LR2.out.other (r:=(w.heap.size+1)) (by omega) 0 [.float .f64 q1,.float .f64 q2]);have LG0_3:=Hd (LG0_2.out.other (r:=(w.heap.size+1)) (by omega) 0 [.float .f64 q1,.float .f64 q2]);have LG1_3:=Hd (show Blk (sets (sets w1 w.heap.size 0 [.float .f64 p1,.float .f64 p2]) (w.heap.size+1) 0 [.float .f64 q1,.float .f64 q2]) (w.heap.size+1) 28 #[.float .f64 q1,.float .f64 q2] from by have hbs:=Blk.sets [.float .f64 q1,.float .f64 q2] 0 (sets w1 w.heap.size 0 [.float .f64 p1,.float .f64 p2]) _ LG1_2.out;simpa [laid] using hbs);clear LB2 LR2 LG0_2 LG1_2
 obtain⟨W2,hW2⟩:∃ W,sets (sets w1 w.heap.size 0 [.float .f64 p1,.float .f64 p2]) (w.heap.size+1) 0 [.float .f64 q1,.float .f64 q2]=W:=⟨_,rfl⟩
 rw [hW2] at LB3 LR3 LG0_3 LG1_3
 simp only [sets] at hW2
 rw [hW2];clear hW2;obtain⟨q0_0,q0_1⟩:=LG0_3.out.c2;obtain⟨q1_0,q1_1⟩:=LG1_3.out.c2;have m1:=M1.out;have m2:=M2.out;obtain⟨ha0,hf0,ha1,hf1⟩:=LR3.out.sf2;obtain⟨hk0,hk1⟩:=LR3.out.sc2 (.float .f64 a) (.float .f64 b);have F:=Hd (below_sets (w0:=w) (r:=(w.heap.size+2)) (by omega) [.float .f64 a,.float .f64 b] 0 _ LB3.out)
 simp [sets] at hk0 hk1
 go_wp2;refine bodyPost_ret (v:=.agg #[.float .f64 a,.float .f64 b]) (by simp [results,Tryz.results63,go_sem,hk0,hk1]) rfl ?_
 exact⟨rfl,F.out⟩
theorem hullf(i j i' j':Int)(w:World)(h:Iv i j)(h':Iv i' j'):
  Calls Tryz.prog 63 #[.agg #[.float .f64 (pat i),.float .f64 (pat j)],.agg #[.float .f64 (pat i'),.float .f64 (pat j')]] w fun e w'=>e=.returned (.agg #[.float .f64 (pat (min i i')),.float .f64 (pat (max j j'))])∧Below w.heap.size w w':=
 hull_walk _ _ _ _ _ _ _ w (fun W=>both_any _ _ _ _ _ _ W (fun W=>readf_idx i j W h) (fun W=>readf_idx i' j' W h') (em_idx h) (em_idx h')) (fun W ts t=>run_minf h.lo h'.lo W ts t) (fun W ts t=>run_maxf h.hi h'.hi W ts t)
theorem factor_walk(b1 b2:Nat)(s1:Int)(g1:Bool)(A1:Option Addr)(n1 c1:Nat)(E1:Int)(s2:Int)(g2:Bool)(A2:Option Addr)(n2 c2:Nat)(E2:Int)(i j:Nat)(x1 x2:Rat)(sg1 sg2:Int)(hs ins:Bool)(u1 u2 mb1 mb2 mx1 mx2 v1 v2 mv1 mv2 r1 r2:Nat)(w:World)
  (S1:∀ W,Calls Tryz.prog 158 #[.agg #[.int .i64 s1,.bool g1,.slice A1 n1 c1,.int .i64 E1]] W fun e w'=>e=.returned (.int .i64 sg1)∧Below W.heap.size W w')(S2:∀ W,Calls Tryz.prog 158 #[.agg #[.int .i64 s2,.bool g2,.slice A2 n2 c2,.int .i64 E2]] W fun e w'=>e=.returned (.int .i64 sg2)∧Below W.heap.size W w')(h1:ExI w s1 g1 A1 n1 c1 E1 x1)(h2:ExI w s2 g2 A2 n2 c2 E2 x2)
  (HH:∀ W,Calls Tryz.prog 87 #[.agg #[.float .f64 b1,.float .f64 b2]] W fun e w'=>e=.returned (.bool hs)∧Below W.heap.size W w')(zi:(hs && decide (sg1≤0) && decide (0≤sg2))=ins)
  (P1:∀ W,ExI W s1 g1 A1 n1 c1 E1 x1→ExI W s2 g2 A2 n2 c2 E2 x2→Calls Tryz.prog 101 #[.agg #[.float .f64 b1,.float .f64 b2],.agg #[.int .i64 s1,.bool g1,.slice A1 n1 c1,.int .i64 E1],.agg #[.int .i64 s2,.bool g2,.slice A2 n2 c2,.int .i64 E2],.agg #[.float .f64 i,.float .f64 j]] W fun e w'=>e=.returned (.agg #[.float .f64 u1,.float .f64 u2])∧Below W.heap.size W w')
  (M1:∀ W,Calls Tryz.prog 85 #[.agg #[.float .f64 b1,.float .f64 b2]] W fun e w'=>e=.returned (.agg #[.float .f64 mb1,.float .f64 mb2])∧Below W.heap.size W w')(M2:∀ W,Calls Tryz.prog 85 #[.agg #[.float .f64 i,.float .f64 j]] W fun e w'=>e=.returned (.agg #[.float .f64 mx1,.float .f64 mx2])∧Below W.heap.size W w')
  (P2:∀ W,ExI W s1 g1 A1 n1 c1 E1 x1→ExI W s2 g2 A2 n2 c2 E2 x2→Calls Tryz.prog 101 #[.agg #[.float .f64 mb1,.float .f64 mb2],.agg #[.int .i64 s1,.bool g1,.slice A1 n1 c1,.int .i64 E1],.agg #[.int .i64 s2,.bool g2,.slice A2 n2 c2,.int .i64 E2],.agg #[.float .f64 mx1,.float .f64 mx2]] W fun e w'=>e=.returned (.agg #[.float .f64 v1,.float .f64 v2])∧Below W.heap.size W w')
  (M3:∀ W,Calls Tryz.prog 85 #[.agg #[.float .f64 v1,.float .f64 v2]] W fun e w'=>e=.returned (.agg #[.float .f64 mv1,.float .f64 mv2])∧Below W.heap.size W w')(HU:∀ W,Calls Tryz.prog 63 #[.agg #[.float .f64 u1,.float .f64 u2],.agg #[.float .f64 mv1,.float .f64 mv2]] W fun e w'=>e=.returned (.agg #[.float .f64 r1,.float .f64 r2])∧Below W.heap.size W w'):
  Calls Tryz.prog 90 #[.agg #[.float .f64 b1,.float .f64 b2],.agg #[.int .i64 s1,.bool g1,.slice A1 n1 c1,.int .i64 E1],.agg #[.int .i64 s2,.bool g2,.slice A2 n2 c2,.int .i64 E2],.agg #[.float .f64 i,.float .f64 j]] w fun e w'=>e=.returned (.agg #[.float .f64 (if ins then i else r1),.float .f64 (if ins then j else r2)])∧Below w.heap.size w w':=by
 have KS1:=Hd S1;have KS2:=Hd S2;have KHH:=Hd HH;have Kzi:=Hd zi;have KP1:=Hd P1;have KM1:=Hd M1;have KM2:=Hd M2;have KP2:=Hd P2;have KM3:=Hd M3;have KHU:=Hd HU;have X0:=Hd h1;have Y0:=Hd h2;clear S1 S2 h1 h2 HH zi P1 M1 M2 P2 M3 HU;obtain⟨LB0,LG0_0,LG1_0,LG2_0,LG3_0,LR⟩:=bx5 w #[.float .f64 b1,.float .f64 b2] 28 #[.int .i64 s1,.bool g1,.slice A1 n1 c1,.int .i64 E1] 97 #[.int .i64 s2,.bool g2,.slice A2 n2 c2,.int .i64 E2] 97 #[.float .f64 i,.float .f64 j] 28 #[.float .f64 0,.float .f64 0] 28;have LR0:=Hd (HasBlk.of (n:=2) LR.out rfl rfl);clear LR;have X1:=Hd (X0.out.below LB0.out);have Y1:=Hd (Y0.out.below LB0.out);clear X0 Y0
 go_enter Tryz.func90,Tryz.ntmps90
 go_upto_region 1 with fail
 obtain⟨W0,hW0⟩:∃ X,(((((w.alloc (.cells #[.float .f64 b1,.float .f64 b2] 28)).alloc (.cells #[.int .i64 s1,.bool g1,.slice A1 n1 c1,.int .i64 E1] 97)).alloc (.cells #[.int .i64 s2,.bool g2,.slice A2 n2 c2,.int .i64 E2] 97)).alloc (.cells #[.float .f64 i,.float .f64 j] 28)).alloc (.cells #[.float .f64 0,.float .f64 0] 28))=X:=⟨_,rfl⟩
 rw [hW0] at LB0 LR0 LG0_0 LG1_0 LG2_0 LG3_0 X1 Y1 ⊢;clear hW0
 go_cut [20] (fun s20 wx=>s20=.bool ins∧Blk wx w.heap.size 28 #[.float .f64 b1,.float .f64 b2]∧Blk wx (w.heap.size+1) 97 #[.int .i64 s1,.bool g1,.slice A1 n1 c1,.int .i64 E1]∧Blk wx (w.heap.size+2) 97 #[.int .i64 s2,.bool g2,.slice A2 n2 c2,.int .i64 E2]∧Blk wx (w.heap.size+3) 28 #[.float .f64 i,.float .f64 j]∧HasBlk wx (w.heap.size+4) 28 2∧ExI wx s1 g1 A1 n1 c1 E1 x1∧ExI wx s2 g2 A2 n2 c2 E2 x2∧Below w.heap.size w wx)
 case first=>
  have zi:=Kzi.out
  cases hs
  ·rw [Bool.false_and,Bool.false_and] at zi;subst zi;obtain⟨q0_0,q0_1⟩:=LG0_0.out.c2;go_wp2_with fail;refine (KHH.out _).mono ?_;rintro e wa ⟨rfl,hba⟩;have LB1:=stB LB0 hba LB0.out.size;have LR1:=stR LR0 hba;have LG0_1:=stG LG0_0 hba;have LG1_1:=stG LG1_0 hba;have LG2_1:=stG LG2_0 hba;have LG3_1:=stG LG3_0 hba;clear LB0 LR0 LG0_0 LG1_0 LG2_0 LG3_0;have X2:=Hd (X1.out.below hba);have Y2:=Hd (Y1.out.below hba);clear hba q0_0 q0_1;go_wp2_with fail
   go_meet
   case rel=>exact⟨rfl,LG0_1.out,LG1_1.out,LG2_1.out,LG3_1.out,LR1.out,X2.out,Y2.out,LB1.out⟩
  ·rw [Bool.true_and] at zi
   by_cases hz:sg1≤0
   ·have hzb:=decide_eq_true hz;rw [hzb,Bool.true_and] at zi;subst zi;obtain⟨q0_0,q0_1⟩:=LG0_0.out.c2;go_wp2_with fail;refine (KHH.out _).mono ?_;rintro e wa ⟨rfl,hba⟩;have LB1:=stB LB0 hba LB0.out.size;have LR1:=stR LR0 hba;have LG0_1:=stG LG0_0 hba;have LG1_1:=stG LG1_0 hba;have LG2_1:=stG LG2_0 hba;have LG3_1:=stG LG3_0 hba;clear LB0 LR0 LG0_0 LG1_0 LG2_0 LG3_0;have X2:=Hd (X1.out.below hba);have Y2:=Hd (Y1.out.below hba);clear hba q0_0 q0_1;obtain⟨q1_0,q1_1,q1_2,q1_3⟩:=LG1_1.out.c4;go_wp2_with fail;refine (KS1.out _).mono ?_;rintro e wb ⟨rfl,hbb⟩;have LB2:=stB LB1 hbb LB1.out.size;have LR2:=stR LR1 hbb;have LG0_2:=stG LG0_1 hbb;have LG1_2:=stG LG1_1 hbb;have LG2_2:=stG LG2_1 hbb;have LG3_2:=stG LG3_1 hbb;clear LB1 LR1 LG0_1 LG1_1 LG2_1 LG3_1;have X3:=Hd (X2.out.below hbb);have Y3:=Hd (Y2.out.below hbb);clear hbb q1_0 q1_1 q1_2 q1_3;obtain⟨q2_0,q2_1,q2_2,q2_3⟩:=LG2_2.out.c4;go_wp2_with fail;refine (KS2.out _).mono ?_;rintro e wd ⟨rfl,hbd⟩;have LB3:=stB LB2 hbd LB2.out.size;have LR3:=stR LR2 hbd;have LG0_3:=stG LG0_2 hbd;have LG1_3:=stG LG1_2 hbd;have LG2_3:=stG LG2_2 hbd;have LG3_3:=stG LG3_2 hbd;clear LB2 LR2 LG0_2 LG1_2 LG2_2 LG3_2;have X4:=Hd (X3.out.below hbd);have Y4:=Hd (Y3.out.below hbd);clear hbd q2_0 q2_1 q2_2 q2_3;go_wp2_with fail
    go_meet
    case rel=>exact⟨rfl,LG0_3.out,LG1_3.out,LG2_3.out,LG3_3.out,LR3.out,X4.out,Y4.out,LB3.out⟩
   ·have hzb:=decide_eq_false hz;rw [hzb,Bool.false_and] at zi;subst zi;obtain⟨q0_0,q0_1⟩:=LG0_0.out.c2;go_wp2_with fail;refine (KHH.out _).mono ?_;rintro e wa ⟨rfl,hba⟩;have LB1:=stB LB0 hba LB0.out.size;have LR1:=stR LR0 hba;have LG0_1:=stG LG0_0 hba;have LG1_1:=stG LG1_0 hba;have LG2_1:=stG LG2_0 hba;have LG3_1:=stG LG3_0 hba;clear LB0 LR0 LG0_0 LG1_0 LG2_0 LG3_0;have X2:=Hd (X1.out.below hba);have Y2:=Hd (Y1.out.below hba);clear hba q0_0 q0_1;obtain⟨q1_0,q1_1,q1_2,q1_3⟩:=LG1_1.out.c4;go_wp2_with fail;refine (KS1.out _).mono ?_;rintro e wb ⟨rfl,hbb⟩;have LB2:=stB LB1 hbb LB1.out.size;have LR2:=stR LR1 hbb;have LG0_2:=stG LG0_1 hbb;have LG1_2:=stG LG1_1 hbb;have LG2_2:=stG LG2_1 hbb;have LG3_2:=stG LG3_1 hbb;clear LB1 LR1 LG0_1 LG1_1 LG2_1 LG3_1;have X3:=Hd (X2.out.below hbb);have Y3:=Hd (Y2.out.below hbb);clear hbb q1_0 q1_1 q1_2 q1_3;go_wp2_with fail
    go_meet
    case rel=>exact⟨rfl,LG0_2.out,LG1_2.out,LG2_2.out,LG3_2.out,LR2.out,X3.out,Y3.out,LB2.out⟩
 case rest=>
  obtain⟨rfl,e0,e1,e2,e3,er,ex,ey,eb⟩:=hcut;clear LB0 LR0 LG0_0 LG1_0 LG2_0 LG3_0 X1 Y1 Kzi KS1 KS2 KHH;have LB1:=Hd eb;have LR1:=Hd er;have LG0_1:=Hd e0;have LG1_1:=Hd e1;have LG2_1:=Hd e2;have LG3_1:=Hd e3;have X2:=Hd ex;have Y2:=Hd ey;clear e0 e1 e2 e3 er ex ey eb
  cases ins
  ·go_wp2_with fail;refine wp_region_held_drew (S:=fun W'=>Blk W' w.heap.size 28 #[.float .f64 b1,.float .f64 b2]∧Blk W' (w.heap.size+1) 97 #[.int .i64 s1,.bool g1,.slice A1 n1 c1,.int .i64 E1]∧Blk W' (w.heap.size+2) 97 #[.int .i64 s2,.bool g2,.slice A2 n2 c2,.int .i64 E2]∧Blk W' (w.heap.size+3) 28 #[.float .f64 i,.float .f64 j]∧HasBlk W' (w.heap.size+4) 28 2∧Below w.heap.size w W') (by kernel_rfl) (by exact⟨LG0_1.out.drew,LG1_1.out.drew,LG2_1.out.drew,LG3_1.out.drew,LR1.out.drew,LB1.out.drew⟩) (fun hHeld=>?_);refine tk 0 ?_ (hv:=by intro W2 hSw;obtain⟨q0,q1⟩:=hSw.1.c2;go_simp;(try with_reducible rfl));(try simp only [Act.put,lay]);refine tk 1 ?_ (hv:=by intro W2 hSw;obtain⟨q0,q1,q2,q3⟩:=hSw.2.1.c4;go_simp;(try with_reducible rfl));(try simp only [Act.put,lay]);refine tk 2 ?_ (hv:=by intro W2 hSw;obtain⟨q0,q1,q2,q3⟩:=hSw.2.2.1.c4;go_simp;(try with_reducible rfl));(try simp only [Act.put,lay]);refine tk 3 ?_ (hv:=by intro W2 hSw;obtain⟨q0,q1⟩:=hSw.2.2.2.1.c2;go_simp;(try with_reducible rfl));(try simp only [Act.put,lay]);refine tk 5 ?_ (hv:=by intro W2 hSw;obtain⟨q0,q1⟩:=hSw.1.c2;go_simp;(try with_reducible rfl));(try simp only [Act.put,lay]);refine tk 7 ?_ (hv:=by intro W2 hSw;obtain⟨q0,q1,q2,q3⟩:=hSw.2.1.c4;go_simp;(try with_reducible rfl));(try simp only [Act.put,lay]);refine tk 8 ?_ (hv:=by intro W2 hSw;obtain⟨q0,q1,q2,q3⟩:=hSw.2.2.1.c4;go_simp;(try with_reducible rfl));(try simp only [Act.put,lay]);refine tk 9 ?_ (hv:=by intro W2 hSw;obtain⟨q0,q1⟩:=hSw.2.2.2.1.c2;go_simp;(try with_reducible rfl))
   (try simp only [Act.put,lay]);refine rdy 4 (fun KK hKK=>?_);go_simp;refine (KP1.out _ (X2.out.keep fun _ h=>h.drew) (Y2.out.keep fun _ h=>h.drew)).mono ?_;rintro e wa ⟨rfl,hbA⟩;go_wp2_with fail;refine hKK.out _ _ (⟨hHeld.1.keep hbA,hHeld.2.1.keep hbA,hHeld.2.2.1.keep hbA,hHeld.2.2.2.1.keep hbA,hHeld.2.2.2.2.1.keep hbA,hHeld.2.2.2.2.2.trans (hbA.mono hHeld.2.2.2.2.2.size)⟩) (fun _=>?_);clear hKK KK hHeld;rename_i hHeld;(try simp only [Act.put,lay]);refine rdy 6 (fun KK hKK=>?_);go_simp;refine (KM1.out _).mono ?_;rintro e wb ⟨rfl,hbB⟩;go_wp2_with fail;refine hKK.out _ _ (⟨hHeld.1.keep hbB,hHeld.2.1.keep hbB,hHeld.2.2.1.keep hbB,hHeld.2.2.2.1.keep hbB,hHeld.2.2.2.2.1.keep hbB,hHeld.2.2.2.2.2.trans (hbB.mono hHeld.2.2.2.2.2.size)⟩) (fun _=>?_);clear hKK KK hHeld;rename_i hHeld;(try simp only [Act.put,lay]);refine rdy 10 (fun KK hKK=>?_);go_simp;refine (KM2.out _).mono ?_;rintro e wd ⟨rfl,hbD⟩;go_wp2_with fail;refine hKK.out _ _ (⟨hHeld.1.keep hbD,hHeld.2.1.keep hbD,hHeld.2.2.1.keep hbD,hHeld.2.2.2.1.keep hbD,hHeld.2.2.2.2.1.keep hbD,hHeld.2.2.2.2.2.trans (hbD.mono hHeld.2.2.2.2.2.size)⟩) (fun _=>?_);clear hKK KK hHeld;rename_i hHeld;(try simp only [Act.put,lay]);refine rdy 11 (fun KK hKK=>?_);go_simp;refine (KP2.out _ ((((X2.out.keep fun _ h=>h.drew).below hbA).below hbB).below hbD) ((((Y2.out.keep fun _ h=>h.drew).below hbA).below hbB).below hbD)).mono ?_;rintro e we ⟨rfl,hbE⟩;go_wp2_with fail;refine hKK.out _ _ (⟨hHeld.1.keep hbE,hHeld.2.1.keep hbE,hHeld.2.2.1.keep hbE,hHeld.2.2.2.1.keep hbE,hHeld.2.2.2.2.1.keep hbE,hHeld.2.2.2.2.2.trans (hbE.mono hHeld.2.2.2.2.2.size)⟩) (fun _=>?_)
   clear hKK KK hHeld;rename_i hHeld;(try simp only [Act.put,lay]);refine rdy 12 (fun KK hKK=>?_);go_simp;refine (KM3.out _).mono ?_;rintro e wf ⟨rfl,hbF⟩;go_wp2_with fail;refine hKK.out _ _ (⟨hHeld.1.keep hbF,hHeld.2.1.keep hbF,hHeld.2.2.1.keep hbF,hHeld.2.2.2.1.keep hbF,hHeld.2.2.2.2.1.keep hbF,hHeld.2.2.2.2.2.trans (hbF.mono hHeld.2.2.2.2.2.size)⟩) (fun _=>?_);clear hKK KK hHeld;rename_i hHeld;(try simp only [Act.put,lay]);refine rdy 13 (fun KK hKK=>?_);go_simp;refine (KHU.out _).mono ?_;rintro e wg ⟨rfl,hbG⟩;go_wp2_with fail;refine hKK.out _ _ (⟨hHeld.1.keep hbG,hHeld.2.1.keep hbG,hHeld.2.2.1.keep hbG,hHeld.2.2.2.1.keep hbG,hHeld.2.2.2.2.1.keep hbG,hHeld.2.2.2.2.2.trans (hbG.mono hHeld.2.2.2.2.2.size)⟩) (fun _=>?_);clear hKK KK hHeld;rename_i hHeld;(try simp only [Act.put,lay]);refine rdy 14 (fun KK hKK=>?_);have ha0:=hHeld.2.2.2.2.1.someCell 0 (by decide);have hf0:=hHeld.2.2.2.2.1.frozen 0;have ha1:=hHeld.2.2.2.2.1.someCell 1 (by decide);have hf1:=hHeld.2.2.2.2.1.frozen 1;have HK:=Hd (hHeld.2.2.2.2.1.setCell [.float .f64 r1,.float .f64 r2] rfl);have F:=Hd (below_sets (w0:=w) (r:=(w.heap.size+4)) (by omega) [.float .f64 r1,.float .f64 r2] 0 _ hHeld.2.2.2.2.2);go_simp;refine hKK.out _ _ (⟨hHeld.1.other (by omega) 0 [.float .f64 r1,.float .f64 r2],hHeld.2.1.other (by omega) 0 [.float .f64 r1,.float .f64 r2],hHeld.2.2.1.other (by omega) 0 [.float .f64 r1,.float .f64 r2],hHeld.2.2.2.1.other (by omega) 0 [.float .f64 r1,.float .f64 r2],hHeld.2.2.2.2.1.sets [.float .f64 r1,.float .f64 r2] rfl rfl,below_sets (by omega) [.float .f64 r1,.float .f64 r2] 0 _ hHeld.2.2.2.2.2⟩) (fun _=>?_)
   clear hKK KK hHeld;rename_i hHeld;(try simp only [Act.put,lay]);refine wpAnyH_done (by kernel_rfl) ?_ _;have hk0:=HK.out 0 (by decide);have hk1:=HK.out 1 (by decide)
   simp [sets] at hk0 hk1
   clear hHeld HK hbA hbB hbD hbE hbF hbG;clear LB1 LR1 LG0_1 LG1_1 LG2_1 LG3_1;go_wp2;refine bodyPost_ret (v:=.agg #[.float .f64 r1,.float .f64 r2]) (by simp [results,Tryz.results90,go_sem,hk0,hk1]) rfl ?_
   exact⟨rfl,F.out⟩
  ·have q3_0:_=some (.float .f64 i:Value):=LG3_1.out.cell 0;have q3_1:=LG3_1.out.ce 1 rfl;obtain⟨ha0,hf0,ha1,hf1⟩:=LR1.out.sf2;obtain⟨hk0,hk1⟩:=LR1.out.sc2 (.float .f64 i) (.float .f64 j);have F:=Hd (below_sets (w0:=w) (r:=(w.heap.size+4)) (by omega) [.float .f64 i,.float .f64 j] 0 _ LB1.out)
   simp [sets] at hk0 hk1
   go_wp2;refine bodyPost_ret (v:=.agg #[.float .f64 i,.float .f64 j]) (by simp [results,Tryz.results90,go_sem,hk0,hk1]) rfl ?_
   exact⟨rfl,F.out⟩
end Go.Proofs.YthlmlmfebpjgdaaGreatDoor
