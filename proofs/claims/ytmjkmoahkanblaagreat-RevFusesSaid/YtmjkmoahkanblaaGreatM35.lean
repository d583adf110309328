/-
Walks: package vergeref10, minus (of a piece).
Walks: package vergeref6, All; package vergeref10, factors.
Walks: package vergeref10, all of no piece.
Walks: package vergeref10, MulRev.
What the reference's quotients, factors and MulRev answer, by indexes.
Pieces and sets as a walk lays them: what Within makes of a piece, and of its negatives.
-/
import Derived.Test.YtmjkmoahkanblaaGreatM04
import Derived.Test.YtmjkmoahkanblaaGreatPAddT
import Derived.Test.YtmjkmoahkanblaaGreatM07
import Derived.Deep.DeepCutAuto
import Derived.Test.YtmjkmoahkanblaaGreatPMinusT
import Derived.Test.YtmjkmoahkanblaaGreatM20
import Derived.Test.YtmjkmoahkanblaaGreatM30
import Derived.Test.YtmjkmoahkanblaaGreatM31
import Derived.Test.YtmjkmoahkanblaaGreatM34
set_option linter.unusedSimpArgs false
set_option linter.unusedVariables false
set_option maxHeartbeats 12800000
namespace Go.Proofs.YtmjkmoahkanblaaGreat
open Go.RowKit
theorem minusp_any(K:Nat)(o:Bool)(s1:Int)(g1:Bool)(A1:Option Addr)(n1 c1:Nat)(B1:Option Addr)(m1 d1:Nat)(x1:Rat)(N1:Int)(o1:Bool)(s2:Int)(g2:Bool)(A2:Option Addr)(n2 c2:Nat)(B2:Option Addr)(m2 d2:Nat)(x2:Rat)(N2:Int)(o2:Bool)(w:World)(h1:RatV w K g1 (.slice A1 n1 c1) (.slice B1 m1 d1) x1)(h2:RatV w K g2 (.slice A2 n2 c2) (.slice B2 m2 d2) x2)(hK:K≤1073741824)(hs1:-1≤s1∧s1≤1)(hs2:-1≤s2∧s2≤1):
  Calls Tryz.prog 77 #[.agg #[.bool o,.int .i64 s1,.bool g1,.slice A1 n1 c1,.slice B1 m1 d1,.int .i64 N1,.bool o1,.int .i64 s2,.bool g2,.slice A2 n2 c2,.slice B2 m2 d2,.int .i64 N2,.bool o2]] w (NewPiece w K o (-s2) (-x2) N2 o2 (-s1) (-x1) N1 o1):=by
 have HR1:=Hd fun W (hW:Below w.heap.size w W)=>(rneg_any K g1 (.slice A1 n1 c1) (.slice B1 m1 d1) x1 W (h1.below hW) hK).mono fun _ _ h=>h.s;have HR2:=Hd fun W (hW:Below w.heap.size w W)=>(rneg_any K g2 (.slice A2 n2 c2) (.slice B2 m2 d2) x2 W (h2.below hW) hK).mono fun _ _ h=>h.s
 obtain⟨t1,ht1⟩:∃ t,-s1=t:=⟨_,rfl⟩
 obtain⟨t2,ht2⟩:∃ t,-s2=t:=⟨_,rfl⟩
 rw [ht1];rw [ht2]
 have hw1:IntKind.i64.wrap (-s1)=t1:=by rw [IntKind.wrap_i64];omega
 have hw2:IntKind.i64.wrap (-s2)=t2:=by rw [IntKind.wrap_i64];omega
 clear h1 h2 hK ht1 ht2;obtain⟨LB0,LG0_0,LR⟩:=bx2 w #[.bool o,.int .i64 s1,.bool g1,.slice A1 n1 c1,.slice B1 m1 d1,.int .i64 N1,.bool o1,.int .i64 s2,.bool g2,.slice A2 n2 c2,.slice B2 m2 d2,.int .i64 N2,.bool o2] 64 #[.bool false,.int .i64 0,.bool false,.slice none 0 0,.slice none 0 0,.int .i64 0,.bool false,.int .i64 0,.bool false,.slice none 0 0,.slice none 0 0,.int .i64 0,.bool false] 64;have LR0:=Hd (HasBlk.of (n:=13) LR.out rfl rfl);clear LR
 go_enter Tryz.func77,Tryz.ntmps77
 go_upto_region 1 with fail
 obtain⟨Wa,hWa⟩:∃ X,((w.alloc (.cells #[.bool o,.int .i64 s1,.bool g1,.slice A1 n1 c1,.slice B1 m1 d1,.int .i64 N1,.bool o1,.int .i64 s2,.bool g2,.slice A2 n2 c2,.slice B2 m2 d2,.int .i64 N2,.bool o2] 64)).alloc (.cells #[.bool false,.int .i64 0,.bool false,.slice none 0 0,.slice none 0 0,.int .i64 0,.bool false,.int .i64 0,.bool false,.slice none 0 0,.slice none 0 0,.int .i64 0,.bool false] 64))=X:=⟨_,rfl⟩
 rw [hWa] at LB0 LR0 LG0_0 ⊢;clear hWa;obtain⟨q0_0,q0_1,q0_2,q0_3,q0_4,q0_5,q0_6,q0_7,q0_8,q0_9,q0_10,q0_11,q0_12⟩:=LG0_0.out.c13
 go_upto_region 2 with fail
 clear q0_0 q0_1 q0_2 q0_3 q0_4 q0_5 q0_6 q0_7 q0_8 q0_9 q0_10 q0_11 q0_12;have hlt1:=LR0.out.lt;have LB1:=Hd (LB0.out.alloc LB0.out.size (.cells #[.int .i64 s1,.bool g1,.slice A1 n1 c1,.slice B1 m1 d1,.int .i64 N1,.bool o1] 62));have LR1:=Hd (LR0.out.alloc (.cells #[.int .i64 s1,.bool g1,.slice A1 n1 c1,.slice B1 m1 d1,.int .i64 N1,.bool o1] 62));have LG0_1:=Hd (LG0_0.out.alloc (.cells #[.int .i64 s1,.bool g1,.slice A1 n1 c1,.slice B1 m1 d1,.int .i64 N1,.bool o1] 62));have LG1_1:=Hd (Blk.new Wa 62 #[.int .i64 s1,.bool g1,.slice A1 n1 c1,.slice B1 m1 d1,.int .i64 N1,.bool o1]);clear LB0 LR0 LG0_0
 obtain⟨Wb,hWb⟩:∃ W,Wa.alloc (.cells #[.int .i64 s1,.bool g1,.slice A1 n1 c1,.slice B1 m1 d1,.int .i64 N1,.bool o1] 62)=W:=⟨_,rfl⟩
 rw [hWb] at LB1 LR1 LG0_1 LG1_1 ⊢;clear hWb
 obtain⟨h,hg⟩:∃ g,Wa.heap.size=g:=⟨_,rfl⟩
 rw [hg] at LG1_1 hlt1 ⊢;clear hg;have hlt:=hlt1;have hl1:=LG1_1.out.lt;clear hlt1;obtain⟨q0_0,q0_1,q0_2,q0_3,q0_4,q0_5,q0_6,q0_7,q0_8,q0_9,q0_10,q0_11,q0_12⟩:=LG0_1.out.c13
 go_upto_region 3 with fail
 clear q0_0 q0_1 q0_2 q0_3 q0_4 q0_5 q0_6 q0_7 q0_8 q0_9 q0_10 q0_11 q0_12;have hlt2:=LR1.out.lt;have LB2:=Hd (LB1.out.alloc LB1.out.size (.cells #[.int .i64 s2,.bool g2,.slice A2 n2 c2,.slice B2 m2 d2,.int .i64 N2,.bool o2] 62));have LR2:=Hd (LR1.out.alloc (.cells #[.int .i64 s2,.bool g2,.slice A2 n2 c2,.slice B2 m2 d2,.int .i64 N2,.bool o2] 62));have LG0_2:=Hd (LG0_1.out.alloc (.cells #[.int .i64 s2,.bool g2,.slice A2 n2 c2,.slice B2 m2 d2,.int .i64 N2,.bool o2] 62));have LG1_2:=Hd (LG1_1.out.alloc (.cells #[.int .i64 s2,.bool g2,.slice A2 n2 c2,.slice B2 m2 d2,.int .i64 N2,.bool o2] 62));have LG2_2:=Hd (Blk.new Wb 62 #[.int .i64 s2,.bool g2,.slice A2 n2 c2,.slice B2 m2 d2,.int .i64 N2,.bool o2]);clear LB1 LR1 LG0_1 LG1_1
 obtain⟨W1,hWb⟩:∃ W,Wb.alloc (.cells #[.int .i64 s2,.bool g2,.slice A2 n2 c2,.slice B2 m2 d2,.int .i64 N2,.bool o2] 62)=W:=⟨_,rfl⟩
 rw [hWb] at LB2 LR2 LG0_2 LG1_2 LG2_2 ⊢;clear hWb
 obtain⟨h2,hg⟩:∃ g,Wb.heap.size=g:=⟨_,rfl⟩
 rw [hg] at LG2_2 hlt2 hl1 ⊢;clear hg;have q1_0:=LG1_2.out.ce 0 rfl;have f0:=LG1_2.out.frozen 0
 go_upto_region 4 with fail
 clear q1_0 f0;have LB3:=Hd (LB2.out.setCell (p:=⟨h,0,none⟩) (show w.heap.size≤h by omega) (.int .i64 t1));have LR3:=Hd (show HasBlk (W1.setCell ⟨h,0,none⟩ (.int .i64 t1)) (w.heap.size+1) 64 13 from LR2.out.other (by omega) 0 [.int .i64 t1]);have LG0_3:=Hd (show Blk (W1.setCell ⟨h,0,none⟩ (.int .i64 t1)) w.heap.size 64 #[.bool o,.int .i64 s1,.bool g1,.slice A1 n1 c1,.slice B1 m1 d1,.int .i64 N1,.bool o1,.int .i64 s2,.bool g2,.slice A2 n2 c2,.slice B2 m2 d2,.int .i64 N2,.bool o2] from LG0_2.out.other (by omega) 0 [.int .i64 t1]);have LG1_3:=Hd (LG1_2.out.set 0 (.int .i64 t1));have LG2_3:=Hd (show Blk (W1.setCell ⟨h,0,none⟩ (.int .i64 t1)) h2 62 #[.int .i64 s2,.bool g2,.slice A2 n2 c2,.slice B2 m2 d2,.int .i64 N2,.bool o2] from LG2_2.out.other (by omega) 0 [.int .i64 t1]);clear LB2 LR2 LG0_2 LG1_2 LG2_2
 obtain⟨W2,hW⟩:∃ X,W1.setCell ⟨h,0,none⟩ (.int .i64 t1)=X:=⟨_,rfl⟩
 rw [hW] at LB3 LR3 LG0_3 LG1_3 LG2_3 ⊢;clear hW;have q2_0:=LG2_3.out.ce 0 rfl;have f0:=LG2_3.out.frozen 0
 go_upto_region 5 with fail
 clear q2_0 f0;have LB4:=Hd (LB3.out.setCell (p:=⟨h2,0,none⟩) (show w.heap.size≤h2 by omega) (.int .i64 t2));have LR4:=Hd (show HasBlk (W2.setCell ⟨h2,0,none⟩ (.int .i64 t2)) (w.heap.size+1) 64 13 from LR3.out.other (by omega) 0 [.int .i64 t2]);have LG0_4:=Hd (show Blk (W2.setCell ⟨h2,0,none⟩ (.int .i64 t2)) w.heap.size 64 #[.bool o,.int .i64 s1,.bool g1,.slice A1 n1 c1,.slice B1 m1 d1,.int .i64 N1,.bool o1,.int .i64 s2,.bool g2,.slice A2 n2 c2,.slice B2 m2 d2,.int .i64 N2,.bool o2] from LG0_3.out.other (by omega) 0 [.int .i64 t2]);have LG1_4:=Hd (show Blk (W2.setCell ⟨h2,0,none⟩ (.int .i64 t2)) h 62 #[.int .i64 t1,.bool g1,.slice A1 n1 c1,.slice B1 m1 d1,.int .i64 N1,.bool o1] from LG1_3.out.other (by omega) 0 [.int .i64 t2]);have LG2_4:=Hd (LG2_3.out.set 0 (.int .i64 t2));clear LB3 LR3 LG0_3 LG1_3 LG2_3
 obtain⟨W3,hW⟩:∃ X,W2.setCell ⟨h2,0,none⟩ (.int .i64 t2)=X:=⟨_,rfl⟩
 rw [hW] at LB4 LR4 LG0_4 LG1_4 LG2_4 ⊢;clear hW;clear hw1 hw2;have q1_1:=LG1_4.out.ce 1 rfl;have q1_2:=LG1_4.out.ce 2 rfl;have q1_3:=LG1_4.out.ce 3 rfl;go_wp2_with fail;refine (HR1.out _ LB4.out).mono ?_;rintro e W4 ⟨k1,F1,a1,e1,G1,j1,l1,rfl,hZ,hbZ⟩;have LB5:=stB LB4 hbZ LB4.out.size;have LR5:=stR LR4 hbZ;have LG0_5:=stG LG0_4 hbZ;have LG1_5:=stG LG1_4 hbZ;have LG2_5:=stG LG2_4 hbZ;clear LB4 LR4 LG0_4 LG1_4 LG2_4;have Z1:=Hd hZ;clear hZ hbZ HR1 q1_1 q1_2 q1_3;have q1_1:=LG1_5.out.ce 1 rfl;have q1_2:=LG1_5.out.ce 2 rfl;have q1_3:=LG1_5.out.ce 3 rfl;have f1:=LG1_5.out.frozen 1;have f2:=LG1_5.out.frozen 2;have f3:=LG1_5.out.frozen 3
 go_upto_region 6 with fail
 clear f1 f2 f3 q1_1 q1_2 q1_3;have Z1:=Hd (Z1.out.sets LG1_5.out (NoWd.of (by rw [← Array.all_toList];rfl)) 1 [.bool k1,.slice F1 a1 e1,.slice G1 j1 l1]);have LB6:=Hd (below_sets (w0:=w) (show w.heap.size≤h by omega) [.bool k1,.slice F1 a1 e1,.slice G1 j1 l1] 1 W4 LB5.out);have LR6:=Hd (LR5.out.other (r:=h) (by omega) 1 [.bool k1,.slice F1 a1 e1,.slice G1 j1 l1]);have LG0_6:=Hd (LG0_5.out.other (r:=h) (by omega) 1 [.bool k1,.slice F1 a1 e1,.slice G1 j1 l1]);have LG1_6:=Hd (show Blk (sets W4 h 1 [.bool k1,.slice F1 a1 e1,.slice G1 j1 l1]) h 62 #[.int .i64 t1,.bool k1,.slice F1 a1 e1,.slice G1 j1 l1,.int .i64 N1,.bool o1] from by have hbs:=Blk.sets [.bool k1,.slice F1 a1 e1,.slice G1 j1 l1] 1 W4 _ LG1_5.out;simpa [laid] using hbs);have LG2_6:=Hd (LG2_5.out.other (r:=h) (by omega) 1 [.bool k1,.slice F1 a1 e1,.slice G1 j1 l1]);clear LB5 LR5 LG0_5 LG1_5 LG2_5
 obtain⟨W5,hW⟩:∃ X,sets W4 h 1 [.bool k1,.slice F1 a1 e1,.slice G1 j1 l1]=X:=⟨_,rfl⟩
 rw [hW] at LB6 LR6 LG0_6 LG1_6 LG2_6 Z1
 simp only [sets] at hW
 rw [hW];clear hW;have q2_1:=LG2_6.out.ce 1 rfl;have q2_2:=LG2_6.out.ce 2 rfl;have q2_3:=LG2_6.out.ce 3 rfl;go_wp2_with fail;refine (HR2.out _ LB6.out).mono ?_;rintro e W6 ⟨k2,F2,a2,e2,G2,j2,l2,rfl,hZ,hbZ⟩;have LB7:=stB LB6 hbZ LB6.out.size;have LR7:=stR LR6 hbZ;have LG0_7:=stG LG0_6 hbZ;have LG1_7:=stG LG1_6 hbZ;have LG2_7:=stG LG2_6 hbZ;clear LB6 LR6 LG0_6 LG1_6 LG2_6;have Z1:=Hd (Z1.out.below hbZ);have Z2:=Hd hZ;clear hZ hbZ HR2 q2_1 q2_2 q2_3;have q2_1:=LG2_7.out.ce 1 rfl;have q2_2:=LG2_7.out.ce 2 rfl;have q2_3:=LG2_7.out.ce 3 rfl;have f1:=LG2_7.out.frozen 1;have f2:=LG2_7.out.frozen 2;have f3:=LG2_7.out.frozen 3
 go_upto_region 7 with fail
 clear f1 f2 f3 q2_1 q2_2 q2_3;have Z1:=Hd (Z1.out.sets LG2_7.out (NoWd.of (by rw [← Array.all_toList];rfl)) 1 [.bool k2,.slice F2 a2 e2,.slice G2 j2 l2]);have Z2:=Hd (Z2.out.sets LG2_7.out (NoWd.of (by rw [← Array.all_toList];rfl)) 1 [.bool k2,.slice F2 a2 e2,.slice G2 j2 l2]);have LB8:=Hd (below_sets (w0:=w) (show w.heap.size≤h2 by omega) [.bool k2,.slice F2 a2 e2,.slice G2 j2 l2] 1 W6 LB7.out);have LR8:=Hd (LR7.out.other (r:=h2) (by omega) 1 [.bool k2,.slice F2 a2 e2,.slice G2 j2 l2]);have LG0_8:=Hd (LG0_7.out.other (r:=h2) (by omega) 1 [.bool k2,.slice F2 a2 e2,.slice G2 j2 l2]);have LG1_8:=Hd (LG1_7.out.other (r:=h2) (by omega) 1 [.bool k2,.slice F2 a2 e2,.slice G2 j2 l2]);have LG2_8:=Hd (show Blk (sets W6 h2 1 [.bool k2,.slice F2 a2 e2,.slice G2 j2 l2]) h2 62 #[.int .i64 t2,.bool k2,.slice F2 a2 e2,.slice G2 j2 l2,.int .i64 N2,.bool o2] from by have hbs:=Blk.sets [.bool k2,.slice F2 a2 e2,.slice G2 j2 l2] 1 W6 _ LG2_7.out;simpa [laid] using hbs);clear LB7 LR7 LG0_7 LG1_7 LG2_7
 obtain⟨W7,hW⟩:∃ X,sets W6 h2 1 [.bool k2,.slice F2 a2 e2,.slice G2 j2 l2]=X:=⟨_,rfl⟩
 rw [hW] at LB8 LR8 LG0_8 LG1_8 LG2_8 Z1 Z2
 simp only [sets] at hW
 rw [hW];clear hW;have q0_0:=LG0_8.out.ce 0 rfl;obtain⟨q1_0,q1_1,q1_2,q1_3,q1_4,q1_5⟩:=LG1_8.out.c6;obtain⟨q2_0,q2_1,q2_2,q2_3,q2_4,q2_5⟩:=LG2_8.out.c6;have FR1:=Hd (LR8.out.rat Z2.out [.bool o,.int .i64 t2,.bool k2,.slice F2 a2 e2,.slice G2 j2 l2,.int .i64 N2,.bool o2,.int .i64 t1,.bool k1,.slice F1 a1 e1,.slice G1 j1 l1,.int .i64 N1,.bool o1]);have FR2:=Hd (LR8.out.rat Z1.out [.bool o,.int .i64 t2,.bool k2,.slice F2 a2 e2,.slice G2 j2 l2,.int .i64 N2,.bool o2,.int .i64 t1,.bool k1,.slice F1 a1 e1,.slice G1 j1 l1,.int .i64 N1,.bool o1]);clear Z1 Z2;obtain⟨ha0,hf0,ha1,hf1,ha2,hf2,ha3,hf3,ha4,hf4,ha5,hf5,ha6,hf6,ha7,hf7,ha8,hf8,ha9,hf9,ha10,hf10,ha11,hf11,ha12,hf12⟩:=LR8.out.sf13;obtain⟨hk0,hk1,hk2,hk3,hk4,hk5,hk6,hk7,hk8,hk9,hk10,hk11,hk12⟩:=LR8.out.sc13 (.bool o) (.int .i64 t2) (.bool k2) (.slice F2 a2 e2) (.slice G2 j2 l2) (.int .i64 N2) (.bool o2) (.int .i64 t1) (.bool k1) (.slice F1 a1 e1) (.slice G1 j1 l1) (.int .i64 N1) (.bool o1);have F:=Hd (below_sets (w0:=w) (r:=(w.heap.size+1)) (by omega) [.bool o,.int .i64 t2,.bool k2,.slice F2 a2 e2,.slice G2 j2 l2,.int .i64 N2,.bool o2,.int .i64 t1,.bool k1,.slice F1 a1 e1,.slice G1 j1 l1,.int .i64 N1,.bool o1] 0 _ LB8.out)
 simp [sets] at hk0 hk1 hk2 hk3 hk4 hk5 hk6 hk7 hk8 hk9 hk10 hk11 hk12
 go_wp2;refine bodyPost_ret (v:=.agg #[.bool o,.int .i64 t2,.bool k2,.slice F2 a2 e2,.slice G2 j2 l2,.int .i64 N2,.bool o2,.int .i64 t1,.bool k1,.slice F1 a1 e1,.slice G1 j1 l1,.int .i64 N1,.bool o1]) (by simp [results,Tryz.results77,go_sem,hk0,hk1,hk2,hk3,hk4,hk5,hk6,hk7,hk8,hk9,hk10,hk11,hk12]) rfl ?_
 exact⟨_,_,_,_,_,_,_,_,_,_,_,_,_,_,rfl,FR1.out,FR2.out,F.out⟩
def NewPcs(w:World)(n:Nat)(L:Nat→Int→Int→Int × Int)(e:Ending)(w':World):Prop:=
 ∃ A c,e=.returned (.slice A n c)∧n≤c∧(n=0→A=none∧c=0)∧(∀ k:Nat,k<n→∃ ad,A=some ad∧PcG w' ad k (L k))∧Below w.heap.size w w'
def NewPcF(w:World)(F:Int→Int→Int × Int)(e:Ending)(w':World):Prop:=
 ∃ o s1 g1 A1 n1 c1 B1 m1 d1 N1 o1 s2 g2 A2 n2 c2 B2 m2 d2 N2 o2,
  e=.returned (.agg #[.bool o,.int .i64 s1,.bool g1,.slice A1 n1 c1,.slice B1 m1 d1,.int .i64 N1,.bool o1,.int .i64 s2,.bool g2,.slice A2 n2 c2,.slice B2 m2 d2,.int .i64 N2,.bool o2])∧PcW w' o s1 g1 A1 n1 c1 B1 m1 d1 N1 o1 s2 g2 A2 n2 c2 B2 m2 d2 N2 o2 F∧Below w.heap.size w w'
theorem all6(w:World):Calls Tryz.prog 151 #[] w (NewSet w 1 false (-1) 0 1 0):=by
 have HS:=Hd (show ∀ W,Calls Tryz.prog 149 #[.int .i64 0] W (NewRatS W 1 0) from fun W=>(int_nat 0 W (by omega)).mono fun _ _ h=>h.s);obtain⟨LB0,LR⟩:=bx1 w #[.bool false,.int .i64 0,.bool false,.slice none 0 0,.slice none 0 0,.int .i64 0,.bool false,.slice none 0 0,.slice none 0 0] 69;have LR0:=Hd (HasBlk.of (n:=9) LR.out rfl rfl);clear LR
 go_enter Tryz.func151,Tryz.ntmps151
 go_wp2_with fail;refine (HS.out _).mono ?_;rintro e w1 ⟨g1,A1,n1,c1,B1,m1,d1,rfl,hR1,hb1⟩;have LB1:=stB LB0 hb1 LB0.out.size;have LR1:=stR LR0 hb1;clear LB0 LR0;have Z1:=Hd hR1;clear hR1 hb1;go_wp2_with fail;refine (HS.out _).mono ?_;rintro e w2 ⟨g2,A2,n2,c2,B2,m2,d2,rfl,hR2,hb2⟩;have LB2:=stB LB1 hb2 LB1.out.size;have LR2:=stR LR1 hb2;clear LB1 LR1;have Z2:=Hd hR2;have Z1:=Hd (Z1.out.below hb2);clear hR2 hb2 HS;have FR1:=Hd (LR2.out.rat Z1.out [.bool false,.int .i64 (-1),.bool g1,.slice A1 n1 c1,.slice B1 m1 d1,.int .i64 1,.bool g2,.slice A2 n2 c2,.slice B2 m2 d2]);have FR2:=Hd (LR2.out.rat Z2.out [.bool false,.int .i64 (-1),.bool g1,.slice A1 n1 c1,.slice B1 m1 d1,.int .i64 1,.bool g2,.slice A2 n2 c2,.slice B2 m2 d2]);clear Z1 Z2;obtain⟨ha0,hf0,ha1,hf1,ha2,hf2,ha3,hf3,ha4,hf4,ha5,hf5,ha6,hf6,ha7,hf7,ha8,hf8⟩:=LR2.out.sf9;obtain⟨hk0,hk1,hk2,hk3,hk4,hk5,hk6,hk7,hk8⟩:=LR2.out.sc9 (.bool false) (.int .i64 (-1)) (.bool g1) (.slice A1 n1 c1) (.slice B1 m1 d1) (.int .i64 1) (.bool g2) (.slice A2 n2 c2) (.slice B2 m2 d2);have F:=Hd (below_sets (w0:=w) (r:=w.heap.size) (by omega) [.bool false,.int .i64 (-1),.bool g1,.slice A1 n1 c1,.slice B1 m1 d1,.int .i64 1,.bool g2,.slice A2 n2 c2,.slice B2 m2 d2] 0 _ LB2.out)
 simp [sets] at hk0 hk1 hk2 hk3 hk4 hk5 hk6 hk7 hk8
 go_wp2;refine bodyPost_ret (v:=.agg #[.bool false,.int .i64 (-1),.bool g1,.slice A1 n1 c1,.slice B1 m1 d1,.int .i64 1,.bool g2,.slice A2 n2 c2,.slice B2 m2 d2]) (by simp [results,Tryz.results151,go_sem,hk0,hk1,hk2,hk3,hk4,hk5,hk6,hk7,hk8]) rfl ?_
 exact⟨_,_,_,_,_,_,_,_,_,_,_,_,_,_,rfl,FR1.out,FR2.out,F.out⟩
theorem factors_nil(o ot:Bool)(s1:Int)(g1:Bool)(A1:Option Addr)(n1 c1:Nat)(B1:Option Addr)(m1 d1:Nat)(s2:Int)(g2:Bool)(A2:Option Addr)(n2 c2:Nat)(B2:Option Addr)(m2 d2:Nat)(s3:Int)(g3:Bool)(A3:Option Addr)(n3 c3:Nat)(B3:Option Addr)(m3 d3:Nat)(s4:Int)(g4:Bool)(A4:Option Addr)(n4 c4:Nat)(B4:Option Addr)(m4 d4:Nat)(L:Nat→Int→Int→Int × Int)(w:World)(ho:o=true∨ot=true):
  Calls Tryz.prog 81 #[.agg #[.bool o,.int .i64 s1,.bool g1,.slice A1 n1 c1,.slice B1 m1 d1,.int .i64 s2,.bool g2,.slice A2 n2 c2,.slice B2 m2 d2],.agg #[.bool ot,.int .i64 s3,.bool g3,.slice A3 n3 c3,.slice B3 m3 d3,.int .i64 s4,.bool g4,.slice A4 n4 c4,.slice B4 m4 d4]] w (NewPcs w 0 L):=by
 cases o
 ·obtain rfl:ot=true:=by rcases ho with h | h;cases h;exact h
  clear ho;obtain⟨LB0,LG0_0,LG1_0⟩:=bx2 w #[.bool false,.int .i64 s1,.bool g1,.slice A1 n1 c1,.slice B1 m1 d1,.int .i64 s2,.bool g2,.slice A2 n2 c2,.slice B2 m2 d2] 69 #[.bool true,.int .i64 s3,.bool g3,.slice A3 n3 c3,.slice B3 m3 d3,.int .i64 s4,.bool g4,.slice A4 n4 c4,.slice B4 m4 d4] 69;have F:=Hd LB0.out
  go_enter Tryz.func81,Tryz.ntmps81
  have q0_0:=LG0_0.out.ce 0 rfl;have q1_0:=LG1_0.out.ce 0 rfl;go_wp2
  go_ret
  exact⟨none,0,rfl,Nat.zero_le _,fun _=>⟨rfl,rfl⟩,fun k hk=>absurd hk (by omega),F.out⟩
 ·clear ho;obtain⟨LB0,LG0_0,LG1_0⟩:=bx2 w #[.bool true,.int .i64 s1,.bool g1,.slice A1 n1 c1,.slice B1 m1 d1,.int .i64 s2,.bool g2,.slice A2 n2 c2,.slice B2 m2 d2] 69 #[.bool ot,.int .i64 s3,.bool g3,.slice A3 n3 c3,.slice B3 m3 d3,.int .i64 s4,.bool g4,.slice A4 n4 c4,.slice B4 m4 d4] 69;have F:=Hd LB0.out
  go_enter Tryz.func81,Tryz.ntmps81
  have q0_0:=LG0_0.out.ce 0 rfl;have q1_0:=LG1_0.out.ce 0 rfl;go_wp2
  go_ret
  exact⟨none,0,rfl,Nat.zero_le _,fun _=>⟨rfl,rfl⟩,fun k hk=>absurd hk (by omega),F.out⟩
theorem PcG.of{W:World}{g:Nat}{t:TypeId}{cs:Array Value}{k:Nat}{F:Int→Int→Int × Int}(hb:Blk W g t cs){o:Bool}{s1:Int}{g1:Bool}{A1:Option Addr}{n1 c1:Nat}{B1:Option Addr}{m1 d1:Nat}{N1:Int}{o1:Bool}{s2:Int}{g2:Bool}{A2:Option Addr}{n2 c2:Nat}{B2:Option Addr}{m2 d2:Nat}{N2:Int}{o2:Bool}
  (h:PcW W o s1 g1 A1 n1 c1 B1 m1 d1 N1 o1 s2 g2 A2 n2 c2 B2 m2 d2 N2 o2 F)
  (hc:∀ i:Nat,i<13→cs[k*13+i]?=(#[.bool o,.int .i64 s1,.bool g1,.slice A1 n1 c1,.slice B1 m1 d1,.int .i64 N1,.bool o1,.int .i64 s2,.bool g2,.slice A2 n2 c2,.slice B2 m2 d2,.int .i64 N2,.bool o2]:Array Value)[i]?):PcG W ⟨g,0,none⟩ k F:=by
 have e:(⟨g,0,none⟩:Addr).add (k*13)=⟨g,k*13,none⟩:=by unfold Addr.add;split<;>simp_all
 have c:∀ i:Nat,i<13→W.cell? ⟨g,k*13+i,none⟩=(#[.bool o,.int .i64 s1,.bool g1,.slice A1 n1 c1,.slice B1 m1 d1,.int .i64 N1,.bool o1,.int .i64 s2,.bool g2,.slice A2 n2 c2,.slice B2 m2 d2,.int .i64 N2,.bool o2]:Array Value)[i]?:=fun i hi=>(hb.cell _).trans (hc i hi);refine⟨o,s1,g1,A1,n1,c1,B1,m1,d1,N1,o1,s2,g2,A2,n2,c2,B2,m2,d2,N2,o2,?_,?_,?_,?_,?_,?_,?_,?_,?_,?_,?_,?_,?_,h⟩
 ·rw [e];exact c 0 (by omega)
 ·rw [e];exact c 1 (by omega)
 ·rw [e];exact c 2 (by omega)
 ·rw [e];exact c 3 (by omega)
 ·rw [e];exact c 4 (by omega)
 ·rw [e];exact c 5 (by omega)
 ·rw [e];exact c 6 (by omega)
 ·rw [e];exact c 7 (by omega)
 ·rw [e];exact c 8 (by omega)
 ·rw [e];exact c 9 (by omega)
 ·rw [e];exact c 10 (by omega)
 ·rw [e];exact c 11 (by omega)
 ·rw [e];exact c 12 (by omega)
theorem factors_all(s1:Int)(g1:Bool)(A1:Option Addr)(n1 c1:Nat)(B1:Option Addr)(m1 d1:Nat)(s2:Int)(g2:Bool)(A2:Option Addr)(n2 c2:Nat)(B2:Option Addr)(m2 d2:Nat)(s3:Int)(g3:Bool)(A3:Option Addr)(n3 c3:Nat)(B3:Option Addr)(m3 d3:Nat)(s4:Int)(g4:Bool)(A4:Option Addr)(n4 c4:Nat)(B4:Option Addr)(m4 d4:Nat)(zs zt:Bool)(F1:Int→Int→Int × Int)(L:Nat→Int→Int→Int × Int)(w:World)(Z1:∀ W,Below w.heap.size w W→Calls Tryz.prog 85 #[.agg #[.bool false,.int .i64 s1,.bool g1,.slice A1 n1 c1,.slice B1 m1 d1,.int .i64 s2,.bool g2,.slice A2 n2 c2,.slice B2 m2 d2]] W fun e w'=>e=.returned (.bool zs)∧Below W.heap.size W w')(Z2:∀ W,Below w.heap.size w W→Calls Tryz.prog 85 #[.agg #[.bool false,.int .i64 s3,.bool g3,.slice A3 n3 c3,.slice B3 m3 d3,.int .i64 s4,.bool g4,.slice A4 n4 c4,.slice B4 m4 d4]] W fun e w'=>e=.returned (.bool zt)∧Below W.heap.size W w')(hz:(zs && zt)=true)(hL:L 0=F1)
  (HP:∀ W g A n c B m d g' A' n' c' B' m' d',RatV W 1 g (.slice A n c) (.slice B m d) 0→RatV W 1 g' (.slice A' n' c') (.slice B' m' d') 0→Calls Tryz.prog 55 #[.agg #[.bool false,.int .i64 (-1),.bool g,.slice A n c,.slice B m d,.int .i64 1,.bool g',.slice A' n' c',.slice B' m' d']] W (NewPcF W F1)):
  Calls Tryz.prog 81 #[.agg #[.bool false,.int .i64 s1,.bool g1,.slice A1 n1 c1,.slice B1 m1 d1,.int .i64 s2,.bool g2,.slice A2 n2 c2,.slice B2 m2 d2],.agg #[.bool false,.int .i64 s3,.bool g3,.slice A3 n3 c3,.slice B3 m3 d3,.int .i64 s4,.bool g4,.slice A4 n4 c4,.slice B4 m4 d4]] w (NewPcs w 1 L):=by
 obtain⟨rfl,rfl⟩:zs=true∧zt=true:=by simpa using hz
 have K1:=Hd Z1;have K2:=Hd Z2;have KP:=Hd HP;have KA:=Hd all6;clear Z1 Z2 HP hz;subst hL;obtain⟨LB0,LG0_0,LG1_0⟩:=bx2 w #[.bool false,.int .i64 s1,.bool g1,.slice A1 n1 c1,.slice B1 m1 d1,.int .i64 s2,.bool g2,.slice A2 n2 c2,.slice B2 m2 d2] 69 #[.bool false,.int .i64 s3,.bool g3,.slice A3 n3 c3,.slice B3 m3 d3,.int .i64 s4,.bool g4,.slice A4 n4 c4,.slice B4 m4 d4] 69
 go_enter Tryz.func81,Tryz.ntmps81
 obtain⟨q0_0,q0_1,q0_2,q0_3,q0_4,q0_5,q0_6,q0_7,q0_8⟩:=LG0_0.out.c9;have q1_0:=LG1_0.out.ce 0 rfl;go_wp2_with fail;refine (K1.out _ LB0.out).mono ?_;rintro e w1 ⟨rfl,hb1⟩;have LB1:=stB LB0 hb1 LB0.out.size;have LG0_1:=stG LG0_0 hb1;have LG1_1:=stG LG1_0 hb1;clear LB0 LG0_0 LG1_0;clear hb1 K1 q0_0 q0_1 q0_2 q0_3 q0_4 q0_5 q0_6 q0_7 q0_8 q1_0;obtain⟨q1_0,q1_1,q1_2,q1_3,q1_4,q1_5,q1_6,q1_7,q1_8⟩:=LG1_1.out.c9;go_wp2_with fail;refine (K2.out _ LB1.out).mono ?_;rintro e w2 ⟨rfl,hb2⟩;have LB2:=stB LB1 hb2 LB1.out.size;have LG0_2:=stG LG0_1 hb2;have LG1_2:=stG LG1_1 hb2;clear LB1 LG0_1 LG1_1;clear hb2 K2 q1_0 q1_1 q1_2 q1_3 q1_4 q1_5 q1_6 q1_7 q1_8;go_wp2_with fail;refine (KA.out _).mono ?_;rintro e w3 ⟨ga,AA,na,ca,BA,ma,da,gb,AB,nb,cb,BB,mb,db,rfl,hR1,hR2,hb3⟩;have LB3:=stB LB2 hb3 LB2.out.size;have LG0_3:=stG LG0_2 hb3;have LG1_3:=stG LG1_2 hb3;clear LB2 LG0_2 LG1_2;go_wp2_with fail;refine (KP.out _ _ _ _ _ _ _ _ _ _ _ _ _ _ _ hR1 hR2).mono ?_;rintro e w4 ⟨po1,s11,g11,A11,n11,c11,B11,m11,d11,N11,o11,s12,g12,A12,n12,c12,B12,m12,d12,N12,o12,rfl,hP1,hb4⟩;have LB4:=stB LB3 hb4 LB3.out.size;have LG0_4:=stG LG0_3 hb4;have LG1_4:=stG LG1_3 hb4;clear LB3 LG0_3 LG1_3;have HP1:=Hd hP1;clear hR1 hR2 hb3 hb4 hP1 KA KP;have LBX:=Hd LB4.out;clear LB4;go_wp2
 go_ret
 exact⟨some ⟨w4.heap.size,0,none⟩,1,rfl,Nat.le_refl _,fun h=>absurd h (by omega),fun k hk=>⟨_,rfl,by
  obtain rfl:k=0:=by omega
  exact PcG.of (Blk.new w4 _ _) (HP1.out.below (below_alloc _ _)) (fun i hi=>by rw [Nat.zero_mul,Nat.zero_add])⟩,LBX.out.alloc LBX.out.size _⟩
theorem factors_two(s1:Int)(g1:Bool)(A1:Option Addr)(n1 c1:Nat)(B1:Option Addr)(m1 d1:Nat)(s2:Int)(g2:Bool)(A2:Option Addr)(n2 c2:Nat)(B2:Option Addr)(m2 d2:Nat)(s3:Int)(g3:Bool)(A3:Option Addr)(n3 c3:Nat)(B3:Option Addr)(m3 d3:Nat)(s4:Int)(g4:Bool)(A4:Option Addr)(n4 c4:Nat)(B4:Option Addr)(m4 d4:Nat)(zs zt:Bool)(K:Nat)(F1 F2:Int→Int→Int × Int)(L:Nat→Int→Int→Int × Int)(P:World→Value→Prop)(qo:Bool)(a1 a2:Int)(v1 v2:Rat)(p1 p2:Bool)(w:World)(Z1:∀ W,Below w.heap.size w W→Calls Tryz.prog 85 #[.agg #[.bool false,.int .i64 s1,.bool g1,.slice A1 n1 c1,.slice B1 m1 d1,.int .i64 s2,.bool g2,.slice A2 n2 c2,.slice B2 m2 d2]] W fun e w'=>e=.returned (.bool zs)∧Below W.heap.size W w')(Z2:∀ W,Below w.heap.size w W→Calls Tryz.prog 85 #[.agg #[.bool false,.int .i64 s3,.bool g3,.slice A3 n3 c3,.slice B3 m3 d3,.int .i64 s4,.bool g4,.slice A4 n4 c4,.slice B4 m4 d4]] W fun e w'=>e=.returned (.bool zt)∧Below W.heap.size W w')(hz:(zs && zt)=false)(hL1:L 0=F1)(hL2:L 1=F2)
  (Q1:∀ W,Below w.heap.size w W→Calls Tryz.prog 87 #[.agg #[.bool false,.int .i64 s1,.bool g1,.slice A1 n1 c1,.slice B1 m1 d1,.int .i64 s2,.bool g2,.slice A2 n2 c2,.slice B2 m2 d2],.agg #[.bool false,.int .i64 s3,.bool g3,.slice A3 n3 c3,.slice B3 m3 d3,.int .i64 s4,.bool g4,.slice A4 n4 c4,.slice B4 m4 d4]] W (NewPcF W F1))
  (MI:∀ W,Below w.heap.size w W→Calls Tryz.prog 58 #[.agg #[.bool false,.int .i64 s3,.bool g3,.slice A3 n3 c3,.slice B3 m3 d3,.int .i64 s4,.bool g4,.slice A4 n4 c4,.slice B4 m4 d4]] W fun e w'=>∃ v,e=.returned v∧P w' v∧Below W.heap.size W w')
  (Q2:∀ W v,Below w.heap.size w W→P W v→Calls Tryz.prog 87 #[.agg #[.bool false,.int .i64 s1,.bool g1,.slice A1 n1 c1,.slice B1 m1 d1,.int .i64 s2,.bool g2,.slice A2 n2 c2,.slice B2 m2 d2],v] W (NewPiece W K qo a1 v1 1 p1 a2 v2 1 p2))
  (MP:∀ W g A n c B m d g' A' n' c' B' m' d',RatV W K g (.slice A n c) (.slice B m d) v1→RatV W K g' (.slice A' n' c') (.slice B' m' d') v2→Calls Tryz.prog 77 #[.agg #[.bool qo,.int .i64 a1,.bool g,.slice A n c,.slice B m d,.int .i64 1,.bool p1,.int .i64 a2,.bool g',.slice A' n' c',.slice B' m' d',.int .i64 1,.bool p2]] W (NewPcF W F2)):
  Calls Tryz.prog 81 #[.agg #[.bool false,.int .i64 s1,.bool g1,.slice A1 n1 c1,.slice B1 m1 d1,.int .i64 s2,.bool g2,.slice A2 n2 c2,.slice B2 m2 d2],.agg #[.bool false,.int .i64 s3,.bool g3,.slice A3 n3 c3,.slice B3 m3 d3,.int .i64 s4,.bool g4,.slice A4 n4 c4,.slice B4 m4 d4]] w (NewPcs w 2 L):=by
 have K1:=Hd Z1;have K2:=Hd Z2;have KQ1:=Hd Q1;have KQ2:=Hd Q2;have KMI:=Hd MI;have KMP:=Hd MP;have KZ:=Hd hz;clear Z1 Z2 Q1 Q2 MI MP hz;subst hL1;subst hL2;obtain⟨LB0,LG0_0,LG1_0⟩:=bx2 w #[.bool false,.int .i64 s1,.bool g1,.slice A1 n1 c1,.slice B1 m1 d1,.int .i64 s2,.bool g2,.slice A2 n2 c2,.slice B2 m2 d2] 69 #[.bool false,.int .i64 s3,.bool g3,.slice A3 n3 c3,.slice B3 m3 d3,.int .i64 s4,.bool g4,.slice A4 n4 c4,.slice B4 m4 d4] 69
 go_enter Tryz.func81,Tryz.ntmps81
 have q0_0:=LG0_0.out.ce 0 rfl;have q1_0:=LG1_0.out.ce 0 rfl
 go_upto_region 3 with fail
 clear q0_0 q1_0
 obtain⟨W0,hW0⟩:∃ X,((w.alloc (.cells #[.bool false,.int .i64 s1,.bool g1,.slice A1 n1 c1,.slice B1 m1 d1,.int .i64 s2,.bool g2,.slice A2 n2 c2,.slice B2 m2 d2] 69)).alloc (.cells #[.bool false,.int .i64 s3,.bool g3,.slice A3 n3 c3,.slice B3 m3 d3,.int .i64 s4,.bool g4,.slice A4 n4 c4,.slice B4 m4 d4] 69))=X:=⟨_,rfl⟩
 rw [hW0] at LB0 LG0_0 LG1_0 ⊢;clear hW0
 go_cut [16] (fun s16 wx=>s16=.bool false∧Blk wx w.heap.size 69 #[.bool false,.int .i64 s1,.bool g1,.slice A1 n1 c1,.slice B1 m1 d1,.int .i64 s2,.bool g2,.slice A2 n2 c2,.slice B2 m2 d2]∧Blk wx (w.heap.size+1) 69 #[.bool false,.int .i64 s3,.bool g3,.slice A3 n3 c3,.slice B3 m3 d3,.int .i64 s4,.bool g4,.slice A4 n4 c4,.slice B4 m4 d4]∧Below w.heap.size w wx)
 case first=>
  obtain⟨q0_0,q0_1,q0_2,q0_3,q0_4,q0_5,q0_6,q0_7,q0_8⟩:=LG0_0.out.c9;go_wp2_with fail;refine (K1.out _ LB0.out).mono ?_;rintro e w1 ⟨rfl,hb1⟩;have LB1:=stB LB0 hb1 LB0.out.size;have LG0_1:=stG LG0_0 hb1;have LG1_1:=stG LG1_0 hb1;clear LB0 LG0_0 LG1_0;clear hb1 K1 q0_0 q0_1 q0_2 q0_3 q0_4 q0_5 q0_6 q0_7 q0_8;have hz:=KZ.out
  cases zs
  ·go_wp2_with fail
   go_meet
   case rel=>exact⟨rfl,LG0_1.out,LG1_1.out,LB1.out⟩
  ·rw [Bool.true_and] at hz;subst hz;obtain⟨q1_0,q1_1,q1_2,q1_3,q1_4,q1_5,q1_6,q1_7,q1_8⟩:=LG1_1.out.c9;go_wp2_with fail;refine (K2.out _ LB1.out).mono ?_;rintro e w2 ⟨rfl,hb2⟩;have LB2:=stB LB1 hb2 LB1.out.size;have LG0_2:=stG LG0_1 hb2;have LG1_2:=stG LG1_1 hb2;clear LB1 LG0_1 LG1_1;clear hb2;go_wp2_with fail
   go_meet
   case rel=>exact⟨rfl,LG0_2.out,LG1_2.out,LB2.out⟩
 case rest=>
 obtain⟨rfl,e0,e1,eb⟩:=hcut;clear LB0 LG0_0 LG1_0 K1 K2 KZ;have LB1:=Hd eb;have LG0_1:=Hd e0;have LG1_1:=Hd e1;clear e0 e1 eb;go_wp2_with fail;refine wp_region_held_drew (S:=fun W'=>Blk W' w.heap.size 69 #[.bool false,.int .i64 s1,.bool g1,.slice A1 n1 c1,.slice B1 m1 d1,.int .i64 s2,.bool g2,.slice A2 n2 c2,.slice B2 m2 d2]∧Blk W' (w.heap.size+1) 69 #[.bool false,.int .i64 s3,.bool g3,.slice A3 n3 c3,.slice B3 m3 d3,.int .i64 s4,.bool g4,.slice A4 n4 c4,.slice B4 m4 d4]∧Below w.heap.size w W') (by kernel_rfl) (by exact⟨LG0_1.out.drew,LG1_1.out.drew,LB1.out.drew⟩) (fun hHeld=>?_);refine tk 0 ?_ (hv:=by intro W2 hSw;obtain⟨q0,q1,q2,q3,q4,q5,q6,q7,q8⟩:=hSw.1.c9;go_simp;(try with_reducible rfl));(try simp only [Act.put,lay]);refine tk 1 ?_ (hv:=by intro W2 hSw;obtain⟨q0,q1,q2,q3,q4,q5,q6,q7,q8⟩:=hSw.2.1.c9;go_simp;(try with_reducible rfl));(try simp only [Act.put,lay]);refine tk 3 ?_ (hv:=by intro W2 hSw;obtain⟨q0,q1,q2,q3,q4,q5,q6,q7,q8⟩:=hSw.1.c9;go_simp;(try with_reducible rfl));(try simp only [Act.put,lay]);refine tk 4 ?_ (hv:=by intro W2 hSw;obtain⟨q0,q1,q2,q3,q4,q5,q6,q7,q8⟩:=hSw.2.1.c9;go_simp;(try with_reducible rfl));(try simp only [Act.put,lay]);refine rdy 2 (fun KK hKK=>?_);go_simp;refine (KQ1.out _ hHeld.2.2).mono ?_;rintro e w2 ⟨po1,s11,g11,A11,n11,c11,B11,m11,d11,N11,o11,s12,g12,A12,n12,c12,B12,m12,d12,N12,o12,rfl,hP1,hbA⟩;go_wp2_with fail;refine hKK.out _ _ (⟨hHeld.1.keep hbA,hHeld.2.1.keep hbA,hHeld.2.2.trans (hbA.mono hHeld.2.2.size)⟩) (fun _=>?_);clear hKK KK hHeld;rename_i hHeld
 (try simp only [Act.put,lay]);refine rdy 5 (fun KK hKK=>?_);go_simp;refine (KMI.out _ hHeld.2.2).mono ?_;rintro e w3 ⟨mv,rfl,hM,hbB⟩;go_wp2_with fail;refine hKK.out _ _ (⟨hHeld.1.keep hbB,hHeld.2.1.keep hbB,hHeld.2.2.trans (hbB.mono hHeld.2.2.size)⟩) (fun _=>?_);clear hKK KK hHeld;rename_i hHeld;(try simp only [Act.put,lay]);refine rdy 6 (fun KK hKK=>?_);go_simp;refine (KQ2.out _ _ hHeld.2.2 hM).mono ?_;rintro e w4 ⟨g3,A3x,n3x,c3x,B3x,m3x,d3x,g4x,A4x,n4x,c4x,B4x,m4x,d4x,rfl,hR1,hR2,hbC⟩;go_wp2_with fail;refine hKK.out _ _ (⟨hHeld.1.keep hbC,hHeld.2.1.keep hbC,hHeld.2.2.trans (hbC.mono hHeld.2.2.size)⟩) (fun _=>?_);clear hKK KK hHeld;rename_i hHeld;(try simp only [Act.put,lay]);refine rdy 7 (fun KK hKK=>?_);go_simp;refine (KMP.out _ _ _ _ _ _ _ _ _ _ _ _ _ _ _ hR1 hR2).mono ?_;rintro e w5 ⟨po2,s21,g21,A21,n21,c21,B21,m21,d21,N21,o21,s22,g22,A22,n22,c22,B22,m22,d22,N22,o22,rfl,hP2,hbD⟩;go_wp2_with fail;refine hKK.out _ _ (⟨hHeld.1.keep hbD,hHeld.2.1.keep hbD,hHeld.2.2.trans (hbD.mono hHeld.2.2.size)⟩) (fun _=>?_);clear hKK KK hHeld;rename_i hHeld;(try simp only [Act.put,lay]);refine rdy 8 (fun KK hKK=>?_);go_simp;refine hKK.out _ _ (⟨hHeld.1.alloc _,hHeld.2.1.alloc _,hHeld.2.2.alloc hHeld.2.2.size _⟩) (fun _=>?_);clear hKK KK hHeld;rename_i hHeld;(try simp only [Act.put,lay]);refine tk 9 ?_;(try simp only [Act.put,lay]);refine wpAnyH_done (by kernel_rfl) ?_ _;have LBX:=Hd hHeld.2.2;have HP1:=Hd (((hP1.below hbB).below hbC).below hbD);have HP2:=Hd hP2;clear hP1 hP2 hbA hbB hbC hbD hM hR1 hR2 hHeld KQ1 KQ2 KMI KMP LB1 LG0_1 LG1_1
 go_wp2
 go_ret
 exact⟨some ⟨w5.heap.size,0,none⟩,2,rfl,Nat.le_refl _,fun h=>absurd h (by omega),fun k hk=>⟨_,rfl,by
  match k,hk with
  | 0,_=>exact PcG.of (Blk.new w5 _ _) (HP1.out.below (below_alloc _ _)) (fun i hi=>by rw [Nat.zero_mul,Nat.zero_add];match i,hi with | 0,_=>rfl | 1,_=>rfl | 2,_=>rfl | 3,_=>rfl | 4,_=>rfl | 5,_=>rfl | 6,_=>rfl | 7,_=>rfl | 8,_=>rfl | 9,_=>rfl | 10,_=>rfl | 11,_=>rfl | 12,_=>rfl)
  | 1,_=>exact PcG.of (Blk.new w5 _ _) (HP2.out.below (below_alloc _ _)) (fun i hi=>by match i,hi with | 0,_=>rfl | 1,_=>rfl | 2,_=>rfl | 3,_=>rfl | 4,_=>rfl | 5,_=>rfl | 6,_=>rfl | 7,_=>rfl | 8,_=>rfl | 9,_=>rfl | 10,_=>rfl | 11,_=>rfl | 12,_=>rfl)⟩,LBX.out⟩
theorem all_nil(x y:Nat)(w:World)(hx:x<18446744073709551616)(hy:y<18446744073709551616):
  Calls Tryz.prog 54 #[.agg #[.int .u64 (x:Int),.int .u64 (y:Int)],.slice none 0 0] w fun e w'=>e=.returned (.agg #[.int .u64 9218868437227405312,.int .u64 18442240474082181120])∧Below w.heap.size w w':=by
 have HR:=Hd fun W=>read6 x y W hx hy;have HE:=Hd empty6
 obtain⟨p,hp⟩:∃ p,pat (rd x y).1=p:=⟨_,rfl⟩
 obtain⟨q,hq⟩:∃ p,pat (rd x y).2=p:=⟨_,rfl⟩
 rw [hp,hq] at HR;clear hp hq;obtain⟨LB0,LG0_0,LR⟩:=bx2 w #[.int .u64 (x:Int),.int .u64 (y:Int)] 24 #[.int .u64 0,.int .u64 0] 24;have LR0:=Hd (HasBlk.of (n:=2) LR.out rfl rfl);clear LR
 go_enter Tryz.func54,Tryz.ntmps54
 go_wp2_with fail;refine (HR.out _).mono ?_;rintro e w1 ⟨rfl,hb1⟩;have LB1:=stB LB0 hb1 LB0.out.size;have LR1:=stR LR0 hb1;have LG0_1:=stG LG0_0 hb1;clear LB0 LR0 LG0_0;have hlt2:=LR1.out.lt;have LB2:=Hd (LB1.out.alloc LB1.out.size (.cells #[.int .u64 (p:Int),.int .u64 (q:Int)] 24));have LR2:=Hd (LR1.out.alloc (.cells #[.int .u64 (p:Int),.int .u64 (q:Int)] 24));have LG0_2:=Hd (LG0_1.out.alloc (.cells #[.int .u64 (p:Int),.int .u64 (q:Int)] 24));have LG1_2:=Hd (Blk.new w1 24 #[.int .u64 (p:Int),.int .u64 (q:Int)]);clear LB1 LR1 LG0_1;clear hb1;go_wp2_with fail;refine (HE.out _).mono ?_;rintro e w2 ⟨rfl,hb2⟩;have LB3:=stB LB2 hb2 LB2.out.size;have LR3:=stR LR2 hb2;have LG0_3:=stG LG0_2 hb2;have LG1_3:=stG LG1_2 hb2;clear LB2 LR2 LG0_2 LG1_2;have hlt4:=LR3.out.lt;have LB4:=Hd (LB3.out.alloc LB3.out.size (.cells #[.int .u64 9218868437227405312,.int .u64 18442240474082181120] 24));have LR4:=Hd (LR3.out.alloc (.cells #[.int .u64 9218868437227405312,.int .u64 18442240474082181120] 24));have LG0_4:=Hd (LG0_3.out.alloc (.cells #[.int .u64 9218868437227405312,.int .u64 18442240474082181120] 24));have LG1_4:=Hd (LG1_3.out.alloc (.cells #[.int .u64 9218868437227405312,.int .u64 18442240474082181120] 24));have LG2_4:=Hd (Blk.new w2 24 #[.int .u64 9218868437227405312,.int .u64 18442240474082181120]);clear LB3 LR3 LG0_3 LG1_3;clear hb2
 go_upto_region 3 with fail
 obtain⟨V4,hV4⟩:∃ X,(w2.alloc (.cells #[.int .u64 9218868437227405312,.int .u64 18442240474082181120] 24))=X:=⟨_,rfl⟩
 rw [hV4] at LB4 LR4 LG0_4 LG1_4 LG2_4 ⊢;clear hV4;go_wp2_with fail
 go_loopw [7] (fun iv wr=>iv=.int .i64 0∧V4=wr) (fun _ _=>0)
 case atStart=>exact⟨rfl,rfl⟩
 case round=>
  obtain⟨rfl,rfl⟩:=hrel;obtain⟨q2_0,q2_1⟩:=LG2_4.out.c2;obtain⟨ha0,hf0,ha1,hf1⟩:=LR4.out.sf2;obtain⟨hk0,hk1⟩:=LR4.out.sc2 (.int .u64 9218868437227405312) (.int .u64 18442240474082181120);have F:=Hd (below_sets (w0:=w) (r:=(w.heap.size+1)) (by omega) [.int .u64 9218868437227405312,.int .u64 18442240474082181120] 0 _ LB4.out)
  simp [sets] at hk0 hk1
  go_wp2;refine bodyPost_ret (v:=.agg #[.int .u64 9218868437227405312,.int .u64 18442240474082181120]) (by simp [results,Tryz.results54,go_sem,hk0,hk1]) rfl ?_
  exact⟨rfl,F.out⟩
theorem all_pcs(x y:Nat)(A:Option Addr)(n c:Nat)(L:Nat→Int→Int→Int × Int)(w:World)(hx:x<18446744073709551616)(hy:y<18446744073709551616)(hn:n≤100)(hc:n≤c)(h0:n=0→A=none∧c=0)(hL:∀ k:Nat,k<n→∃ ad,A=some ad∧PcG w ad k (L k)):
  Calls Tryz.prog 54 #[.agg #[.int .u64 (x:Int),.int .u64 (y:Int)],.slice A n c] w fun e w'=>e=.returned (.agg #[.int .u64 (pat (zg (rd x y).1 (rd x y).2 L n).1:Int),.int .u64 (pat (zg (rd x y).1 (rd x y).2 L n).2:Int)])∧Below w.heap.size w w':=by
 rcases Nat.eq_zero_or_pos n with h | h
 ·subst h;obtain⟨rfl,rfl⟩:=h0 rfl;have h:=all_nil x y w hx hy
  show Calls _ _ _ _ fun e w'=>e=.returned (.agg #[.int .u64 (pat (M:Int):Int),.int .u64 (pat (-(M:Int)):Int)])∧Below w.heap.size w w'
  rw [pat_max,pat_min]
  exact h
 ·obtain⟨ad,rfl,-⟩:=hL 0 h
  exact all_gen x y ad n c L w hx hy hn hc (fun k hk=>by
   obtain⟨ad',e,hp⟩:=hL k hk
   cases e;exact hp)
theorem esx_idx{i:Int}(h:-(M:Int)≤i∧i≤M):(0<esx (es i) (ex i)↔0<i)∧(esx (es i) (ex i)<0↔i<0):=by
 have hM:(M:Int)=9218868437227405312:=rfl
 by_cases h1:i=M
 ·subst h1;rw [es_max];unfold esx;rw [if_pos (by omega)];omega
 ·by_cases h2:i=-(M:Int)
  ·subst h2;rw [es_min];unfold esx;rw [if_pos (by omega)];omega
  ·rw [es_mid (by omega) (by omega),ex_mid (by omega) (by omega)];unfold esx rsg;rw [if_neg (by omega)]
   rcases Int.lt_trichotomy i 0 with h3 | h3 | h3
   ·have:=fl_lt_iff.2 h3;rw [fl_zero] at this;rw [if_neg (by grind),if_pos this];omega
   ·subst h3;rw [fl_zero];simp
   ·have:=fl_pos h3;rw [if_neg (by grind),if_neg (by grind)];omega
theorem up_end{b:Int}(h:-(M:Int)≤b∧b≤M):(if 0<ec 0 0 (es b) (ex b) then 0 else es b)=es (max b 0)∧(if 0<ec 0 0 (es b) (ex b) then 0 else ex b)=ex (max b 0):=by
 have hM:(M:Int)=9218868437227405312:=rfl;have k:=ec_sel_hi (i:=b) (i':=0) h (by omega);rw [es_nought,ex_nought] at k
 exact k
def Pq(b1 b2 s1:Int)(x1:Rat)(s2:Int)(x2:Rat):Bool × (Int × Rat × Bool) × (Int × Rat × Bool):=
 if b2≤0 then (true,(0,0,false),(0,0,false)) else (false,qA s1 x1 b1 b2,qB s2 x2 b1 b2)
theorem NewPiece.up{w w':World}{K K':Nat}{o:Bool}{s:Int}{x:Rat}{N:Int}{p:Bool}{s':Int}{x':Rat}{N':Int}{p':Bool}{e:Ending}(h:NewPiece w K o s x N p s' x' N' p' e w')(hk:K≤K'):NewPiece w K' o s x N p s' x' N' p' e w':=by
 obtain⟨g,A,n,c,B,m,d,g',A',n',c',B',m',d',rfl,h1,h2,hb⟩:=h
 exact⟨g,A,n,c,B,m,d,g',A',n',c',B',m',d',rfl,h1.mono hk,h2.mono hk,hb⟩
theorem quotients_pq(K:Nat)(s1:Int)(g1:Bool)(A1:Option Addr)(n1 c1:Nat)(B1:Option Addr)(m1 d1:Nat)(x1:Rat)(s2:Int)(g2:Bool)(A2:Option Addr)(n2 c2:Nat)(B2:Option Addr)(m2 d2:Nat)(x2:Rat)(v:Value)(b1 b2:Int)(w:World)
  (h1:RatV w K g1 (.slice A1 n1 c1) (.slice B1 m1 d1) x1)(h2:RatV w K g2 (.slice A2 n2 c2) (.slice B2 m2 d2) x2)(hK0:34≤K)(hK:K≤524288)(k:NumOk s1 x1 s2 x2)(hv:SetOf w v b1 b2)(hb:Ne b1 b2):
  Calls Tryz.prog 87 #[.agg #[.bool false,.int .i64 s1,.bool g1,.slice A1 n1 c1,.slice B1 m1 d1,.int .i64 s2,.bool g2,.slice A2 n2 c2,.slice B2 m2 d2],v] w
   (NewPiece w (2*K) (Pq b1 b2 s1 x1 s2 x2).1 (Pq b1 b2 s1 x1 s2 x2).2.1.1 (Pq b1 b2 s1 x1 s2 x2).2.1.2.1 1 (Pq b1 b2 s1 x1 s2 x2).2.1.2.2 (Pq b1 b2 s1 x1 s2 x2).2.2.1 (Pq b1 b2 s1 x1 s2 x2).2.2.2.1 1 (Pq b1 b2 s1 x1 s2 x2).2.2.2.2):=by
 have hM:(M:Int)=9218868437227405312:=rfl
 rcases hv with ⟨e1,e2,-⟩ | ⟨-,g3,A3,n3,c3,B3,m3,d3,g4,A4,n4,c4,B4,m4,d4,rfl,h3,h4⟩
 ·exfalso;unfold Ne at hb;omega
 ·have hx:=esx_idx hb.iv.hi;have hu:=up_end hb.iv.lo;unfold Pq
  by_cases h0:b2≤0
  ·rw [if_pos h0];refine (quotients_none 1 false false true s1 g1 A1 n1 c1 B1 m1 d1 x1 s2 g2 A2 n2 c2 B2 m2 d2 x2 _ g3 A3 n3 c3 B3 m3 d3 (ex b1) _ g4 A4 n4 c4 B4 m4 d4 (ex b2) 0 0 0 0 w (fun W hW=>upper_none 34 false _ g3 A3 n3 c3 B3 m3 d3 (ex b1) _ g4 A4 n4 c4 B4 m4 d4 (ex b2) W (h4.below hW) (by omega) (.inr (by omega))) (.inr rfl)).mono ?_
   exact fun e w' h=>h.up (by omega)
  ·rw [if_neg h0]
   have hq:=quotients_some K false false false s1 g1 A1 n1 c1 B1 m1 d1 x1 s2 g2 A2 n2 c2 B2 m2 d2 x2 (es b1) g3 A3 n3 c3 B3 m3 d3 (ex b1) (es b2) g4 A4 n4 c4 B4 m4 d4 (ex b2) (es (max b1 0)) (es b2) (ex (max b1 0)) (ex b2) w (fun W hW=>by
    have h:=upper_some K (es b1) g3 A3 n3 c3 B3 m3 d3 (ex b1) (es b2) g4 A4 n4 c4 B4 m4 d4 (ex b2) W ((h3.below hW).mono hK0) ((h4.below hW).mono hK0) (by omega) (by omega) (by omega);rw [hu.1,hu.2] at h
    exact h) h1 h2 (by omega) (by omega) rfl rfl (by
     rintro⟨p,q⟩;have a:=esx_pos k.a1 p;have b:=esx_lt k.b1 q;have:=k.le a.1 b.1
     grind)
   exact hq
theorem Pq_pcw(K:Nat)(s1:Int)(x1:Rat)(s2:Int)(x2:Rat)(b1 b2:Int)(w:World)(g:Bool)(A:Option Addr)(n c:Nat)(B:Option Addr)(m d:Nat)(g':Bool)(A':Option Addr)(n' c':Nat)(B':Option Addr)(m' d':Nat)(k:NumOk s1 x1 s2 x2)(hb:Ne b1 b2)(hK:34≤K)(hK2:K≤1048576)
  (h1:RatV w K g (.slice A n c) (.slice B m d) (Pq b1 b2 s1 x1 s2 x2).2.1.2.1)(h2:RatV w K g' (.slice A' n' c') (.slice B' m' d') (Pq b1 b2 s1 x1 s2 x2).2.2.2.1):
  PcW w (Pq b1 b2 s1 x1 s2 x2).1 (Pq b1 b2 s1 x1 s2 x2).2.1.1 g A n c B m d 1 (Pq b1 b2 s1 x1 s2 x2).2.1.2.2 (Pq b1 b2 s1 x1 s2 x2).2.2.1 g' A' n' c' B' m' d' 1 (Pq b1 b2 s1 x1 s2 x2).2.2.2.2 (PF b1 b2 s1 x1 s2 x2):=by
 unfold Ne at hb;unfold Pq at *
 by_cases h0:b2≤0
 ·rw [if_pos h0] at h1 h2 ⊢
  have e:PF b1 b2 s1 x1 s2 x2=fun _ _=>((M:Int),-(M:Int)):=by funext i j;unfold PF;rw [if_pos h0]
  rw [e]
  exact pcw_nothing _ g A n c B m d 0 _ _ g' A' n' c' B' m' d' 0 _ _ _ w
 ·rw [if_neg h0] at h1 h2 ⊢
  have e:PF b1 b2 s1 x1 s2 x2=pf (qA s1 x1 b1 b2).1 (qA s1 x1 b1 b2).2.1 (qA s1 x1 b1 b2).2.2 (qB s2 x2 b1 b2).1 (qB s2 x2 b1 b2).2.1 (qB s2 x2 b1 b2).2.2:=by funext i j;unfold PF;rw [if_neg h0]
  rw [e];refine pcw_one K _ g A n c B m d _ _ _ g' A' n' c' B' m' d' _ _ w h1 h2 hK hK2 ?_ ?_ ?_
  ·show (qA s1 x1 b1 b2).1=0∨(qA s1 x1 b1 b2).1=-1
   rcases qA_kind k.a1 k.a2 hb.2.1 (by omega) hb.2.2.1 hb.2.2.2.1 with k | k | k | k<;>omega
  ·show (qB s2 x2 b1 b2).1=0∨(qB s2 x2 b1 b2).1=1
   rcases qB_kind k.b1 k.b2 hb.2.1 (by omega) hb.2.2.1 hb.2.2.2.1 with k | k | k | k<;>omega
  ·exact q_le k.a1 k.a2 k.b1 k.b2 k.le hb.2.1 (by omega) hb.2.2.1 hb.2.2.2.1
def PN(b1 b2:Int)(s1:Int)(x1:Rat)(s2:Int)(x2:Rat)(i j:Int):Int × Int:=
 (-(PF (-b2) (-b1) s1 x1 s2 x2 (-j) (-i)).2,-(PF (-b2) (-b1) s1 x1 s2 x2 (-j) (-i)).1)
theorem minus_pn(K:Nat)(s1:Int)(x1:Rat)(s2:Int)(x2:Rat)(b1 b2:Int)(w:World)(g:Bool)(A:Option Addr)(n c:Nat)(B:Option Addr)(m d:Nat)(g':Bool)(A':Option Addr)(n' c':Nat)(B':Option Addr)(m' d':Nat)(k:NumOk s1 x1 s2 x2)(hb:Ne b1 b2)(hK:34≤K)(hK2:K≤1048576)
  (h1:RatV w K g (.slice A n c) (.slice B m d) (Pq (-b2) (-b1) s1 x1 s2 x2).2.1.2.1)(h2:RatV w K g' (.slice A' n' c') (.slice B' m' d') (Pq (-b2) (-b1) s1 x1 s2 x2).2.2.2.1):
  Calls Tryz.prog 77 #[.agg #[.bool (Pq (-b2) (-b1) s1 x1 s2 x2).1,.int .i64 (Pq (-b2) (-b1) s1 x1 s2 x2).2.1.1,.bool g,.slice A n c,.slice B m d,.int .i64 1,.bool (Pq (-b2) (-b1) s1 x1 s2 x2).2.1.2.2,.int .i64 (Pq (-b2) (-b1) s1 x1 s2 x2).2.2.1,.bool g',.slice A' n' c',.slice B' m' d',.int .i64 1,.bool (Pq (-b2) (-b1) s1 x1 s2 x2).2.2.2.2]] w (NewPcF w (PN b1 b2 s1 x1 s2 x2)):=by
 have hM:(M:Int)=9218868437227405312:=rfl;have hn:=hb.neg;unfold Ne at hn
 have ka:(Pq (-b2) (-b1) s1 x1 s2 x2).2.1.1=0∨(Pq (-b2) (-b1) s1 x1 s2 x2).2.1.1=-1:=by
  unfold Pq
  by_cases h0:-b1≤0
  ·rw [if_pos h0];exact .inl rfl
  ·rw [if_neg h0]
   show (qA s1 x1 (-b2) (-b1)).1=0∨(qA s1 x1 (-b2) (-b1)).1=-1
   rcases qA_kind k.a1 k.a2 hn.2.1 (by omega) hn.2.2.1 hn.2.2.2.1 with k | k | k | k<;>omega
 have kb:(Pq (-b2) (-b1) s1 x1 s2 x2).2.2.1=0∨(Pq (-b2) (-b1) s1 x1 s2 x2).2.2.1=1:=by
  unfold Pq
  by_cases h0:-b1≤0
  ·rw [if_pos h0];exact .inl rfl
  ·rw [if_neg h0]
   show (qB s2 x2 (-b2) (-b1)).1=0∨(qB s2 x2 (-b2) (-b1)).1=1
   rcases qB_kind k.b1 k.b2 hn.2.1 (by omega) hn.2.2.1 hn.2.2.2.1 with k | k | k | k<;>omega
 refine (minusp_any K _ _ g A n c B m d _ 1 _ _ g' A' n' c' B' m' d' _ 1 _ w h1 h2 (by omega) (by omega) (by omega)).mono ?_;rintro e w' ⟨g5,A5,n5,c5,B5,m5,d5,g6,A6,n6,c6,B6,m6,d6,rfl,r1,r2,hbw⟩;refine⟨_,_,_,_,_,_,_,_,_,_,_,_,_,_,_,_,_,_,_,_,_,rfl,?_,hbw⟩;unfold Pq at r1 r2 ka kb ⊢
 by_cases h0:-b1≤0
 ·rw [if_pos h0] at r1 r2 ⊢
  have e:PN b1 b2 s1 x1 s2 x2=fun _ _=>((M:Int),-(M:Int)):=by funext i j;unfold PN PF;rw [if_pos h0];simp
  rw [e]
  exact pcw_nothing _ g5 A5 n5 c5 B5 m5 d5 0 _ _ g6 A6 n6 c6 B6 m6 d6 0 _ _ _ w'
 ·rw [if_neg h0] at r1 r2 ka kb ⊢
  dsimp only at r1 r2 ka kb ⊢
  have e:PN b1 b2 s1 x1 s2 x2=pf (-(qB s2 x2 (-b2) (-b1)).1) (-(qB s2 x2 (-b2) (-b1)).2.1) (qB s2 x2 (-b2) (-b1)).2.2 (-(qA s1 x1 (-b2) (-b1)).1) (-(qA s1 x1 (-b2) (-b1)).2.1) (qA s1 x1 (-b2) (-b1)).2.2:=by
   funext i j
   rw [pf_neg];unfold PN PF;rw [if_neg h0]
  rw [e];refine pcw_one K _ g5 A5 n5 c5 B5 m5 d5 _ _ _ g6 A6 n6 c6 B6 m6 d6 _ _ w' r1 r2 hK hK2 (by omega) (by omega) ?_;rw [dn_neg,up_neg];have q:=q_le k.a1 k.a2 k.b1 k.b2 k.le hn.2.1 (by omega) hn.2.2.1 hn.2.2.2.1
  omega
def nF(b1 b2:Int)(s1:Int)(x1:Rat)(s2:Int)(x2:Rat):Nat:=if (b1≤0∧0≤b2)∧esx s1 x1≤0∧0≤esx s2 x2 then 1 else 2
def LF(b1 b2:Int)(s1:Int)(x1:Rat)(s2:Int)(x2:Rat)(k:Nat):Int→Int→Int × Int:=
 if (b1≤0∧0≤b2)∧esx s1 x1≤0∧0≤esx s2 x2 then pf (-1) 0 true 1 0 true else if k=0 then PF b1 b2 s1 x1 s2 x2 else PN b1 b2 s1 x1 s2 x2
theorem factors_num(K:Nat)(s1:Int)(g1:Bool)(A1:Option Addr)(n1 c1:Nat)(B1:Option Addr)(m1 d1:Nat)(x1:Rat)(s2:Int)(g2:Bool)(A2:Option Addr)(n2 c2:Nat)(B2:Option Addr)(m2 d2:Nat)(x2:Rat)(v:Value)(b1 b2:Int)(w:World)
  (h1:RatV w K g1 (.slice A1 n1 c1) (.slice B1 m1 d1) x1)(h2:RatV w K g2 (.slice A2 n2 c2) (.slice B2 m2 d2) x2)(hK0:34≤K)(hK:K≤524288)(k:NumOk s1 x1 s2 x2)(hv:SetOf w v b1 b2)(hb:Ne b1 b2):
  Calls Tryz.prog 81 #[.agg #[.bool false,.int .i64 s1,.bool g1,.slice A1 n1 c1,.slice B1 m1 d1,.int .i64 s2,.bool g2,.slice A2 n2 c2,.slice B2 m2 d2],v] w
   (NewPcs w (nF b1 b2 s1 x1 s2 x2) (LF b1 b2 s1 x1 s2 x2)):=by
 have hM:(M:Int)=9218868437227405312:=rfl;have hvv:=hv
 rcases hv with ⟨e1,e2,-⟩ | ⟨-,g3,A3,n3,c3,B3,m3,d3,g4,A4,n4,c4,B4,m4,d4,rfl,h3,h4⟩
 ·exfalso;unfold Ne at hb;omega
 ·have x3:=esx_idx hb.iv.lo;have x4:=esx_idx hb.iv.hi;have Z1:=fun W (hW:Below w.heap.size w W)=>zero_any K false s1 g1 A1 n1 c1 B1 m1 d1 x1 s2 g2 A2 n2 c2 B2 m2 d2 x2 W (h1.below hW) (h2.below hW) (by omega);have Z2:=fun W (hW:Below w.heap.size w W)=>zero_any 34 false (es b1) g3 A3 n3 c3 B3 m3 d3 (ex b1) (es b2) g4 A4 n4 c4 B4 m4 d4 (ex b2) W (h3.below hW) (h4.below hW) (by omega)
  by_cases hz:(b1≤0∧0≤b2)∧esx s1 x1≤0∧0≤esx s2 x2
  ·have en:nF b1 b2 s1 x1 s2 x2=1:=if_pos hz;rw [en];refine factors_all _ _ _ _ _ _ _ _ _ _ _ _ _ _ _ _ _ _ _ _ _ _ _ _ _ _ _ _ _ _ _ _ _ _ (pf (-1) 0 true 1 0 true) _ w Z1 Z2 ?_ (by unfold LF;rw [if_pos hz]) (fun W g A n c B m d g' A' n' c' B' m' d' r1 r2=>?_)
   ·simp only [Bool.not_false,Bool.true_and,Bool.and_eq_true,decide_eq_true_eq]
    omega
   ·refine (piece_some 1 (-1) g A n c B m d 0 1 g' A' n' c' B' m' d' 0 W r1 r2 (by omega) (fun _=>rfl) (fun _=>rfl)).mono ?_;rintro e w' ⟨g5,A5,n5,c5,B5,m5,d5,g6,A6,n6,c6,B6,m6,d6,rfl,q1,q2,hbw⟩
    exact⟨_,_,_,_,_,_,_,_,_,_,_,_,_,_,_,_,_,_,_,_,_,rfl,pcw_one 34 (-1) g5 A5 n5 c5 B5 m5 d5 0 true 1 g6 A6 n6 c6 B6 m6 d6 0 true w' (q1.mono (by omega)) (q2.mono (by omega)) (by omega) (by omega) (.inr rfl) (.inr rfl) (by unfold dn up;rw [if_neg (by omega),if_neg (by omega)];omega),hbw⟩
  ·have en:nF b1 b2 s1 x1 s2 x2=2:=if_neg hz;rw [en];refine factors_two _ _ _ _ _ _ _ _ _ _ _ _ _ _ _ _ _ _ _ _ _ _ _ _ _ _ _ _ _ _ _ _ _ _ (2*K) (PF b1 b2 s1 x1 s2 x2) (PN b1 b2 s1 x1 s2 x2) _ (fun W v=>SetOf W v (-b2) (-b1)) _ _ _ _ _ _ _ w Z1 Z2 ?_ (by unfold LF;rw [if_neg hz,if_pos rfl]) (by unfold LF;rw [if_neg hz,if_neg (by omega)]) (fun W hW=>?_) (fun W hW=>?_) (fun W v hW hP=>quotients_pq K s1 g1 A1 n1 c1 B1 m1 d1 x1 s2 g2 A2 n2 c2 B2 m2 d2 x2 v (-b2) (-b1) W (h1.below hW) (h2.below hW) hK0 hK k hP hb.neg) (fun W g A n c B m d g' A' n' c' B' m' d' r1 r2=>minus_pn (2*K) s1 x1 s2 x2 b1 b2 W g A n c B m d g' A' n' c' B' m' d' k hb (by omega) (by omega) r1 r2)
   ·rw [Bool.eq_false_iff];intro h
    simp only [Bool.not_false,Bool.true_and,Bool.and_eq_true,decide_eq_true_eq] at h
    omega
   ·refine (quotients_pq K s1 g1 A1 n1 c1 B1 m1 d1 x1 s2 g2 A2 n2 c2 B2 m2 d2 x2 _ b1 b2 W (h1.below hW) (h2.below hW) hK0 hK k (hvv.below hW) hb).mono ?_;rintro e w' ⟨g5,A5,n5,c5,B5,m5,d5,g6,A6,n6,c6,B6,m6,d6,rfl,q1,q2,hbw⟩
    exact⟨_,_,_,_,_,_,_,_,_,_,_,_,_,_,_,_,_,_,_,_,_,rfl,Pq_pcw (2*K) s1 x1 s2 x2 b1 b2 w' g5 A5 n5 c5 B5 m5 d5 g6 A6 n6 c6 B6 m6 d6 k hb (by omega) (by omega) q1 q2,hbw⟩
   ·refine (minus_idx _ b1 b2 W (hvv.below hW)).mono ?_;rintro e w' ⟨t,rfl,ht,hbw⟩
    exact⟨t,rfl,ht,hbw⟩
def ngF(F:Int→Int→Int × Int):Int→Int→Int × Int:=fun i j=>(-(F (-j) (-i)).2,-(F (-j) (-i)).1)
def PcV(w:World)(o:Bool)(s1:Int)(g1:Bool)(A1:Option Addr)(n1 c1:Nat)(B1:Option Addr)(m1 d1:Nat)(N1:Int)(o1:Bool)(s2:Int)(g2:Bool)(A2:Option Addr)(n2 c2:Nat)(B2:Option Addr)(m2 d2:Nat)(N2:Int)(o2:Bool)(F:Int→Int→Int × Int):Prop:=
 PcW w o s1 g1 A1 n1 c1 B1 m1 d1 N1 o1 s2 g2 A2 n2 c2 B2 m2 d2 N2 o2 F∧∀ W,Below w.heap.size w W →
  Calls Tryz.prog 77 #[.agg #[.bool o,.int .i64 s1,.bool g1,.slice A1 n1 c1,.slice B1 m1 d1,.int .i64 N1,.bool o1,.int .i64 s2,.bool g2,.slice A2 n2 c2,.slice B2 m2 d2,.int .i64 N2,.bool o2]] W (NewPcF W (ngF F))
def NewPcV(w:World)(F:Int→Int→Int × Int)(e:Ending)(w':World):Prop:=
 ∃ o s1 g1 A1 n1 c1 B1 m1 d1 N1 o1 s2 g2 A2 n2 c2 B2 m2 d2 N2 o2,
  e=.returned (.agg #[.bool o,.int .i64 s1,.bool g1,.slice A1 n1 c1,.slice B1 m1 d1,.int .i64 N1,.bool o1,.int .i64 s2,.bool g2,.slice A2 n2 c2,.slice B2 m2 d2,.int .i64 N2,.bool o2])∧PcV w' o s1 g1 A1 n1 c1 B1 m1 d1 N1 o1 s2 g2 A2 n2 c2 B2 m2 d2 N2 o2 F∧Below w.heap.size w w'
section
variable {w w':World} {K:Nat} {o:Bool} {s1:Int} {g1:Bool} {A1:Option Addr} {n1 c1:Nat} {B1:Option Addr} {m1 d1:Nat} {N1:Int} {o1:Bool} {s2:Int} {g2:Bool} {A2:Option Addr} {n2 c2:Nat} {B2:Option Addr} {m2 d2:Nat} {N2:Int} {o2:Bool} {x1 x2:Rat} {F:Int→Int→Int × Int}
theorem PcV.below(h:PcV w o s1 g1 A1 n1 c1 B1 m1 d1 N1 o1 s2 g2 A2 n2 c2 B2 m2 d2 N2 o2 F)(hb:Below w.heap.size w w'):PcV w' o s1 g1 A1 n1 c1 B1 m1 d1 N1 o1 s2 g2 A2 n2 c2 B2 m2 d2 N2 o2 F:=
 ⟨h.1.below hb,fun W hW=>h.2 W (hb.trans (hW.mono hb.size))⟩
theorem pcv_one(h1:RatV w K g1 (.slice A1 n1 c1) (.slice B1 m1 d1) x1)(h2:RatV w K g2 (.slice A2 n2 c2) (.slice B2 m2 d2) x2)(hK:34≤K)(hK2:K≤1048576)(hs1:s1=0∨s1=-1)(hs2:s2=0∨s2=1)(hle:dn s1 x1≤up s2 x2):
  PcV w false s1 g1 A1 n1 c1 B1 m1 d1 1 o1 s2 g2 A2 n2 c2 B2 m2 d2 1 o2 (pf s1 x1 o1 s2 x2 o2):=by
 refine⟨pcw_one K s1 g1 A1 n1 c1 B1 m1 d1 x1 o1 s2 g2 A2 n2 c2 B2 m2 d2 x2 o2 w h1 h2 hK hK2 hs1 hs2 hle,fun W hW=>?_⟩;refine (minusp_any K false s1 g1 A1 n1 c1 B1 m1 d1 x1 1 o1 s2 g2 A2 n2 c2 B2 m2 d2 x2 1 o2 W (h1.below hW) (h2.below hW) (by omega) (by omega) (by omega)).mono ?_;rintro e w' ⟨g5,A5,n5,c5,B5,m5,d5,g6,A6,n6,c6,B6,m6,d6,rfl,r1,r2,hbw⟩;refine⟨_,_,_,_,_,_,_,_,_,_,_,_,_,_,_,_,_,_,_,_,_,rfl,?_,hbw⟩
 have e:ngF (pf s1 x1 o1 s2 x2 o2)=pf (-s2) (-x2) o2 (-s1) (-x1) o1:=by
  funext i j;rw [pf_neg];rfl
 rw [e];refine pcw_one K _ g5 A5 n5 c5 B5 m5 d5 _ _ _ g6 A6 n6 c6 B6 m6 d6 _ _ w' r1 r2 hK hK2 (by omega) (by omega) ?_;rw [dn_neg,up_neg];omega
theorem pcv_nothing(h1:RatV w K g1 (.slice A1 n1 c1) (.slice B1 m1 d1) x1)(h2:RatV w K g2 (.slice A2 n2 c2) (.slice B2 m2 d2) x2)(hK2:K≤1048576)(hs1:-1≤s1∧s1≤1)(hs2:-1≤s2∧s2≤1):
  PcV w true s1 g1 A1 n1 c1 B1 m1 d1 N1 o1 s2 g2 A2 n2 c2 B2 m2 d2 N2 o2 (fun _ _=>((M:Int),-(M:Int))):=by
 refine⟨pcw_nothing s1 g1 A1 n1 c1 B1 m1 d1 x1 o1 s2 g2 A2 n2 c2 B2 m2 d2 x2 o2 N1 N2 w,fun W hW=>?_⟩;refine (minusp_any K true s1 g1 A1 n1 c1 B1 m1 d1 x1 N1 o1 s2 g2 A2 n2 c2 B2 m2 d2 x2 N2 o2 W (h1.below hW) (h2.below hW) (by omega) hs1 hs2).mono ?_;rintro e w' ⟨g5,A5,n5,c5,B5,m5,d5,g6,A6,n6,c6,B6,m6,d6,rfl,r1,r2,hbw⟩;refine⟨_,_,_,_,_,_,_,_,_,_,_,_,_,_,_,_,_,_,_,_,_,rfl,?_,hbw⟩
 have e:ngF (fun _ _=>((M:Int),-(M:Int)))=fun _ _=>((M:Int),-(M:Int)):=by
  funext i j;unfold ngF;simp
 rw [e]
 exact pcw_nothing _ g5 A5 n5 c5 B5 m5 d5 0 _ _ g6 A6 n6 c6 B6 m6 d6 0 _ _ _ w'
end
theorem SetOf.setB{w:World}{v:Value}{i j:Int}(h:SetOf w v i j){g:Nat}{t:TypeId}{cs:Array Value}(hb:Blk w g t cs)(hc:NoWd cs)(k:Nat)(vs:List Value):SetOf (sets w g k vs) v i j:=by
 rcases h with ⟨rfl,rfl,s,x,t,y,g,A,n,c,B,m,d,g',A',n',c',B',m',d',rfl,h4,h5⟩ | ⟨h1,g,A,n,c,B,m,d,g',A',n',c',B',m',d',rfl,h4,h5⟩
 ·exact .inl ⟨rfl,rfl,s,x,t,y,g,A,n,c,B,m,d,g',A',n',c',B',m',d',rfl,h4.sets hb hc k vs,h5.sets hb hc k vs⟩
 ·exact .inr ⟨h1,g,A,n,c,B,m,d,g',A',n',c',B',m',d',rfl,h4.sets hb hc k vs,h5.sets hb hc k vs⟩
theorem SetOf.setsE{w W':World}{v:Value}{i j:Int}(h:SetOf w v i j){g:Nat}{t:TypeId}{cs:Array Value}{k:Nat}{vs:List Value}(hb:Blk w g t cs)(hc:NoWd cs)(e:sets w g k vs=W'):SetOf W' v i j:=e ▸ h.setB hb hc k vs
theorem SetOf.cells{w:World}{v:Value}{i j:Int}(h:SetOf w v i j):∃ o s g A n c B m d t g' A' n' c' B' m' d',v=.agg #[.bool o,.int .i64 s,.bool g,.slice A n c,.slice B m d,.int .i64 t,.bool g',.slice A' n' c',.slice B' m' d']:=by
 rcases h with ⟨-,-,s,x,t,y,g,A,n,c,B,m,d,g',A',n',c',B',m',d',rfl,-,-⟩ | ⟨-,g,A,n,c,B,m,d,g',A',n',c',B',m',d',rfl,-,-⟩
 ·exact⟨_,_,_,_,_,_,_,_,_,_,_,_,_,_,_,_,_,rfl⟩
 ·exact⟨_,_,_,_,_,_,_,_,_,_,_,_,_,_,_,_,_,rfl⟩
theorem PcG.at{W:World}{g:Nat}{t:TypeId}{cs:Array Value}(hb:Blk W g t cs)(k:Nat){o:Bool}{s1:Int}{g1:Bool}{A1:Option Addr}{n1 c1:Nat}{B1:Option Addr}{m1 d1:Nat}{N1:Int}{o1:Bool}{s2:Int}{g2:Bool}{A2:Option Addr}{n2 c2:Nat}{B2:Option Addr}{m2 d2:Nat}{N2:Int}{o2:Bool}{F:Int→Int→Int × Int}
  (h:PcW W o s1 g1 A1 n1 c1 B1 m1 d1 N1 o1 s2 g2 A2 n2 c2 B2 m2 d2 N2 o2 F)
  (hc:cs[k*13]?=some (.bool o)∧cs[k*13+1]?=some (.int .i64 s1)∧cs[k*13+2]?=some (.bool g1)∧cs[k*13+3]?=some (.slice A1 n1 c1)∧cs[k*13+4]?=some (.slice B1 m1 d1)∧cs[k*13+5]?=some (.int .i64 N1)∧cs[k*13+6]?=some (.bool o1)∧cs[k*13+7]?=some (.int .i64 s2)∧cs[k*13+8]?=some (.bool g2)∧cs[k*13+9]?=some (.slice A2 n2 c2)∧cs[k*13+10]?=some (.slice B2 m2 d2)∧cs[k*13+11]?=some (.int .i64 N2)∧cs[k*13+12]?=some (.bool o2)):PcG W ⟨g,0,none⟩ k F:=
 PcG.of hb h fun i hi=>by
  obtain⟨c0,c1,c2,c3,c4,c5,c6,c7,c8,c9,c10,c11,c12⟩:=hc
  match i,hi with
  | 0,_=>exact c0 | 1,_=>exact c1 | 2,_=>exact c2 | 3,_=>exact c3 | 4,_=>exact c4 | 5,_=>exact c5 | 6,_=>exact c6 | 7,_=>exact c7 | 8,_=>exact c8 | 9,_=>exact c9 | 10,_=>exact c10 | 11,_=>exact c11 | 12,_=>exact c12
end Go.Proofs.YtmjkmoahkanblaaGreat
