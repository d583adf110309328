/-
Lemmas for the statement: LeastT Neg6T Bnd Ar Rn.
-/
import Derived.Test.YthlmlmfebpjgdaaGreatDoorM03
import Derived.Test.YthlmlmfebpjgdaaGreatDoorM07
import Derived.Deep.DeepCutAuto
import Derived.Test.YthlmlmfebpjgdaaGreatDoorM04
set_option linter.unusedSimpArgs false
set_option linter.unusedVariables false
set_option maxHeartbeats 12800000
namespace Go.Proofs.YthlmlmfebpjgdaaGreatDoor
section
open Go.RowKit
def NewLeast(w:World)(s:Int)(x:Rat)(t:Int)(y:Rat)(e:Ending)(w':World):Prop:=
 ∃ i j,e=.returned (.agg #[.int .u64 (pat i:Int),.int .u64 (pat j:Int)])∧(s=0→Rnd (-1) x i)∧(s≠0→i=-(M:Int))∧(t=0→Rnd 1 y j)∧(t≠0→j=M)∧Below w.heap.size w w'
theorem least_none(s1:Int)(g1:Bool)(A1:Option Addr)(n1 c1:Nat)(B1:Option Addr)(m1 d1:Nat)(x1:Rat)(s2:Int)(g2:Bool)(A2:Option Addr)(n2 c2:Nat)(B2:Option Addr)(m2 d2:Nat)(x2:Rat)(w:World):
  Calls Tryz.prog 145 #[.agg #[.bool true,.int .i64 s1,.bool g1,.slice A1 n1 c1,.slice B1 m1 d1,.int .i64 s2,.bool g2,.slice A2 n2 c2,.slice B2 m2 d2]] w fun e w'=>e=.returned (.agg #[.int .u64 9218868437227405312,.int .u64 18442240474082181120])∧Below w.heap.size w w':=by
 have HE:=Hd empty6;obtain⟨LB0,LG0_0,LR⟩:=bx2 w #[.bool true,.int .i64 s1,.bool g1,.slice A1 n1 c1,.slice B1 m1 d1,.int .i64 s2,.bool g2,.slice A2 n2 c2,.slice B2 m2 d2] 89 #[.int .u64 0,.int .u64 0] 24;have LR0:=Hd (HasBlk.of (n:=2) LR.out rfl rfl);clear LR
 go_enter Tryz.func145,Tryz.ntmps145
 go_wp2_with fail;refine (HE.out _).mono ?_;rintro e w1 ⟨rfl,hb1⟩;have LB1:=stB LB0 hb1 LB0.out.size;have LR1:=stR LR0 hb1;have LG0_1:=stG LG0_0 hb1;clear LB0 LR0 LG0_0;obtain⟨ha0,hf0,ha1,hf1⟩:=LR1.out.sf2;obtain⟨hk0,hk1⟩:=LR1.out.sc2 (.int .u64 9218868437227405312) (.int .u64 18442240474082181120);have F:=Hd (below_sets (w0:=w) (r:=(w.heap.size+1)) (by omega) [.int .u64 9218868437227405312,.int .u64 18442240474082181120] 0 _ LB1.out)
 simp [sets] at hk0 hk1
 clear hb1;go_wp2;refine bodyPost_ret (v:=.agg #[.int .u64 9218868437227405312,.int .u64 18442240474082181120]) (by simp [results,Tryz.results145,go_sem,hk0,hk1]) rfl ?_
 exact⟨rfl,F.out⟩
theorem least_some(K:Nat)(s1:Int)(g1:Bool)(A1:Option Addr)(n1 c1:Nat)(B1:Option Addr)(m1 d1:Nat)(x1:Rat)(s2:Int)(g2:Bool)(A2:Option Addr)(n2 c2:Nat)(B2:Option Addr)(m2 d2:Nat)(x2:Rat)(w:World)(h1:RatV w K g1 (.slice A1 n1 c1) (.slice B1 m1 d1) x1)(h2:RatV w K g2 (.slice A2 n2 c2) (.slice B2 m2 d2) x2)(hK:K≤1048576):
  Calls Tryz.prog 145 #[.agg #[.bool false,.int .i64 s1,.bool g1,.slice A1 n1 c1,.slice B1 m1 d1,.int .i64 s2,.bool g2,.slice A2 n2 c2,.slice B2 m2 d2]] w (NewLeast w s1 x1 s2 x2):=by
 have HE:=Hd entire6;have T1:=Hd fun W (hW:Below w.heap.size w W)=>bits_any K g1 A1 B1 n1 c1 m1 d1 x1 (-1) W (h1.below hW) hK (.inl rfl);have T2:=Hd fun W (hW:Below w.heap.size w W)=>bits_any K g2 A2 B2 n2 c2 m2 d2 x2 1 W (h2.below hW) hK (.inr rfl);clear h1 h2
 by_cases ha:s1=0
 ·subst ha
  by_cases hb:s2=0
  ·subst hb;obtain⟨LB0,LG0_0,LR⟩:=bx2 w #[.bool false,.int .i64 0,.bool g1,.slice A1 n1 c1,.slice B1 m1 d1,.int .i64 0,.bool g2,.slice A2 n2 c2,.slice B2 m2 d2] 89 #[.int .u64 0,.int .u64 0] 24;have LR0:=Hd (HasBlk.of (n:=2) LR.out rfl rfl);clear LR
   go_enter Tryz.func145,Tryz.ntmps145
   go_wp2_with fail;refine (HE.out _).mono ?_;rintro e w1 ⟨rfl,hb1⟩;have LB1:=stB LB0 hb1 LB0.out.size;have LR1:=stR LR0 hb1;have LG0_1:=stG LG0_0 hb1;clear LB0 LR0 LG0_0;have hlo:=LB1.out.size;have hlr:=LR1.out.lt;have hlt2:=LR1.out.lt;have LB2:=Hd (LB1.out.alloc LB1.out.size (.cells #[.int .u64 18442240474082181120,.int .u64 9218868437227405312] 24));have LR2:=Hd (LR1.out.alloc (.cells #[.int .u64 18442240474082181120,.int .u64 9218868437227405312] 24));have LG0_2:=Hd (LG0_1.out.alloc (.cells #[.int .u64 18442240474082181120,.int .u64 9218868437227405312] 24));have LG1_2:=Hd (Blk.new w1 24 #[.int .u64 18442240474082181120,.int .u64 9218868437227405312]);clear LB1 LR1 LG0_1;clear hb1
   go_upto_region 4 with fail
   obtain⟨V2,hV2⟩:∃ X,(w1.alloc (.cells #[.int .u64 18442240474082181120,.int .u64 9218868437227405312] 24))=X:=⟨_,rfl⟩
   rw [hV2] at LB2 LR2 LG0_2 LG1_2 ⊢;clear hV2;obtain⟨q0_0,q0_1,q0_2,q0_3,q0_4,q0_5,q0_6,q0_7,q0_8⟩:=LG0_2.out.c9;go_wp2_with fail;refine (T1.out _ LB2.out).mono ?_;rintro e w2 ⟨i,rfl,hi,hb2⟩;have LB3:=stB LB2 hb2 LB2.out.size;have LR3:=stR LR2 hb2;have LG0_3:=stG LG0_2 hb2;have LG1_3:=stG LG1_2 hb2;clear LB2 LR2 LG0_2 LG1_2;have HI:=Hd hi;clear hi hb2 q0_0 q0_1 q0_2 q0_3 q0_4 q0_5 q0_6 q0_7 q0_8;have q1_0:=LG1_3.out.ce 0 rfl;have hf1:=LG1_3.out.frozen 0
   go_upto_region 6 with fail
   clear q1_0 hf1;have LB4:=Hd (LB3.out.setCell (p:=⟨w1.heap.size,0,none⟩) (by first | exact Nat.le_refl _ | (show w.heap.size≤_+_;omega) | (show w.heap.size≤_;omega)) (.int .u64 (pat i:Int)));have LR4:=Hd (show HasBlk (w2.setCell ⟨w1.heap.size,0,none⟩ (.int .u64 (pat i:Int))) (w.heap.size+1) 24 2 from LR3.out.other (by omega) 0 [.int .u64 (pat i:Int)]);have LG0_4:=Hd (show Blk (w2.setCell ⟨w1.heap.size,0,none⟩ (.int .u64 (pat i:Int))) w.heap.size 89 #[.bool false,.int .i64 0,.bool g1,.slice A1 n1 c1,.slice B1 m1 d1,.int .i64 0,.bool g2,.slice A2 n2 c2,.slice B2 m2 d2] from LG0_3.out.other (by omega) 0 [.int .u64 (pat i:Int)]);have LG1_4:=Hd (LG1_3.out.set 0 (.int .u64 (pat i:Int)));clear LB3 LR3 LG0_3 LG1_3
   obtain⟨V3,hV3⟩:∃ X,w2.setCell ⟨w1.heap.size,0,none⟩ (.int .u64 (pat i:Int))=X:=⟨_,rfl⟩
   rw [hV3] at LB4 LR4 LG0_4 LG1_4 ⊢;clear hV3;obtain⟨q0_0,q0_1,q0_2,q0_3,q0_4,q0_5,q0_6,q0_7,q0_8⟩:=LG0_4.out.c9;go_wp2_with fail;refine (T2.out _ LB4.out).mono ?_;rintro e w3 ⟨j,rfl,hj,hb3⟩;have LB5:=stB LB4 hb3 LB4.out.size;have LR5:=stR LR4 hb3;have LG0_5:=stG LG0_4 hb3;have LG1_5:=stG LG1_4 hb3;clear LB4 LR4 LG0_4 LG1_4;have HJ:=Hd hj;clear hj hb3 q0_0 q0_1 q0_2 q0_3 q0_4 q0_5 q0_6 q0_7 q0_8;have q1_1:=LG1_5.out.ce 1 rfl;have hf1:=LG1_5.out.frozen 1
   go_upto_region 8 with fail
   clear q1_1 hf1;have LB6:=Hd (LB5.out.setCell (p:=⟨w1.heap.size,1,none⟩) (by first | exact Nat.le_refl _ | (show w.heap.size≤_+_;omega) | (show w.heap.size≤_;omega)) (.int .u64 (pat j:Int)));have LR6:=Hd (show HasBlk (w3.setCell ⟨w1.heap.size,1,none⟩ (.int .u64 (pat j:Int))) (w.heap.size+1) 24 2 from LR5.out.other (by omega) 1 [.int .u64 (pat j:Int)]);have LG0_6:=Hd (show Blk (w3.setCell ⟨w1.heap.size,1,none⟩ (.int .u64 (pat j:Int))) w.heap.size 89 #[.bool false,.int .i64 0,.bool g1,.slice A1 n1 c1,.slice B1 m1 d1,.int .i64 0,.bool g2,.slice A2 n2 c2,.slice B2 m2 d2] from LG0_5.out.other (by omega) 1 [.int .u64 (pat j:Int)]);have LG1_6:=Hd (LG1_5.out.set 1 (.int .u64 (pat j:Int)));clear LB5 LR5 LG0_5 LG1_5
   obtain⟨V4,hV4⟩:∃ X,w3.setCell ⟨w1.heap.size,1,none⟩ (.int .u64 (pat j:Int))=X:=⟨_,rfl⟩
   rw [hV4] at LB6 LR6 LG0_6 LG1_6 ⊢;clear hV4;obtain⟨q1_0,q1_1⟩:=LG1_6.out.c2;obtain⟨ha0,hf0,ha1,hf1⟩:=LR6.out.sf2;obtain⟨hk0,hk1⟩:=LR6.out.sc2 (.int .u64 (pat i:Int)) (.int .u64 (pat j:Int));have F:=Hd (below_sets (w0:=w) (r:=(w.heap.size+1)) (by omega) [.int .u64 (pat i:Int),.int .u64 (pat j:Int)] 0 _ LB6.out)
   simp [sets] at hk0 hk1
   clear T1 T2 HE
   have hfin:NewLeast w 0 x1 0 x2 (.returned (.agg #[.int .u64 (pat i:Int),.int .u64 (pat j:Int)])) _:=⟨i,j,rfl,fun _=>HI.out,fun h=>absurd rfl h,fun _=>HJ.out,fun h=>absurd rfl h,F.out⟩
   have HFIN:=Hd hfin;clear hfin;go_wp2;refine bodyPost_ret (v:=.agg #[.int .u64 (pat i:Int),.int .u64 (pat j:Int)]) (by simp [results,Tryz.results145,go_sem,hk0,hk1]) rfl ?_
   exact HFIN.out
  ·have hqb:(s2 == 0)=false:=by simp;omega
   obtain⟨LB0,LG0_0,LR⟩:=bx2 w #[.bool false,.int .i64 0,.bool g1,.slice A1 n1 c1,.slice B1 m1 d1,.int .i64 s2,.bool g2,.slice A2 n2 c2,.slice B2 m2 d2] 89 #[.int .u64 0,.int .u64 0] 24;have LR0:=Hd (HasBlk.of (n:=2) LR.out rfl rfl);clear LR
   go_enter Tryz.func145,Tryz.ntmps145
   go_wp2_with fail;refine (HE.out _).mono ?_;rintro e w1 ⟨rfl,hb1⟩;have LB1:=stB LB0 hb1 LB0.out.size;have LR1:=stR LR0 hb1;have LG0_1:=stG LG0_0 hb1;clear LB0 LR0 LG0_0;have hlo:=LB1.out.size;have hlr:=LR1.out.lt;have hlt2:=LR1.out.lt;have LB2:=Hd (LB1.out.alloc LB1.out.size (.cells #[.int .u64 18442240474082181120,.int .u64 9218868437227405312] 24));have LR2:=Hd (LR1.out.alloc (.cells #[.int .u64 18442240474082181120,.int .u64 9218868437227405312] 24));have LG0_2:=Hd (LG0_1.out.alloc (.cells #[.int .u64 18442240474082181120,.int .u64 9218868437227405312] 24));have LG1_2:=Hd (Blk.new w1 24 #[.int .u64 18442240474082181120,.int .u64 9218868437227405312]);clear LB1 LR1 LG0_1;clear hb1
   go_upto_region 4 with fail
   obtain⟨V2,hV2⟩:∃ X,(w1.alloc (.cells #[.int .u64 18442240474082181120,.int .u64 9218868437227405312] 24))=X:=⟨_,rfl⟩
   rw [hV2] at LB2 LR2 LG0_2 LG1_2 ⊢;clear hV2;obtain⟨q0_0,q0_1,q0_2,q0_3,q0_4,q0_5,q0_6,q0_7,q0_8⟩:=LG0_2.out.c9;go_wp2_with fail;refine (T1.out _ LB2.out).mono ?_;rintro e w2 ⟨i,rfl,hi,hb2⟩;have LB3:=stB LB2 hb2 LB2.out.size;have LR3:=stR LR2 hb2;have LG0_3:=stG LG0_2 hb2;have LG1_3:=stG LG1_2 hb2;clear LB2 LR2 LG0_2 LG1_2;have HI:=Hd hi;clear hi hb2 q0_0 q0_1 q0_2 q0_3 q0_4 q0_5 q0_6 q0_7 q0_8;have q1_0:=LG1_3.out.ce 0 rfl;have hf1:=LG1_3.out.frozen 0
   go_upto_region 6 with fail
   clear q1_0 hf1;have LB4:=Hd (LB3.out.setCell (p:=⟨w1.heap.size,0,none⟩) (by first | exact Nat.le_refl _ | (show w.heap.size≤_+_;omega) | (show w.heap.size≤_;omega)) (.int .u64 (pat i:Int)));have LR4:=Hd (show HasBlk (w2.setCell ⟨w1.heap.size,0,none⟩ (.int .u64 (pat i:Int))) (w.heap.size+1) 24 2 from LR3.out.other (by omega) 0 [.int .u64 (pat i:Int)]);have LG0_4:=Hd (show Blk (w2.setCell ⟨w1.heap.size,0,none⟩ (.int .u64 (pat i:Int))) w.heap.size 89 #[.bool false,.int .i64 0,.bool g1,.slice A1 n1 c1,.slice B1 m1 d1,.int .i64 s2,.bool g2,.slice A2 n2 c2,.slice B2 m2 d2] from LG0_3.out.other (by omega) 0 [.int .u64 (pat i:Int)]);have LG1_4:=Hd (LG1_3.out.set 0 (.int .u64 (pat i:Int)));clear LB3 LR3 LG0_3 LG1_3
   obtain⟨V3,hV3⟩:∃ X,w2.setCell ⟨w1.heap.size,0,none⟩ (.int .u64 (pat i:Int))=X:=⟨_,rfl⟩
   rw [hV3] at LB4 LR4 LG0_4 LG1_4 ⊢;clear hV3;obtain⟨q0_0,q0_1,q0_2,q0_3,q0_4,q0_5,q0_6,q0_7,q0_8⟩:=LG0_4.out.c9;obtain⟨q1_0,q1_1⟩:=LG1_4.out.c2;obtain⟨ha0,hf0,ha1,hf1⟩:=LR4.out.sf2;obtain⟨hk0,hk1⟩:=LR4.out.sc2 (.int .u64 (pat i:Int)) (.int .u64 9218868437227405312);have F:=Hd (below_sets (w0:=w) (r:=(w.heap.size+1)) (by omega) [.int .u64 (pat i:Int),.int .u64 9218868437227405312] 0 _ LB4.out)
   simp [sets] at hk0 hk1
   clear T1 T2 HE
   have hfin:NewLeast w 0 x1 s2 x2 (.returned (.agg #[.int .u64 (pat i:Int),.int .u64 9218868437227405312])) _:=⟨i,(M:Int),by rw [pat_max];rfl,fun _=>HI.out,fun h=>absurd rfl h,fun h=>absurd h hb,fun _=>rfl,F.out⟩
   have HFIN:=Hd hfin;clear hfin;go_wp2;refine bodyPost_ret (v:=.agg #[.int .u64 (pat i:Int),.int .u64 9218868437227405312]) (by simp [results,Tryz.results145,go_sem,hk0,hk1]) rfl ?_
   exact HFIN.out
 ·have hqa:(s1 == 0)=false:=by simp;omega
  by_cases hb:s2=0
  ·subst hb;obtain⟨LB0,LG0_0,LR⟩:=bx2 w #[.bool false,.int .i64 s1,.bool g1,.slice A1 n1 c1,.slice B1 m1 d1,.int .i64 0,.bool g2,.slice A2 n2 c2,.slice B2 m2 d2] 89 #[.int .u64 0,.int .u64 0] 24;have LR0:=Hd (HasBlk.of (n:=2) LR.out rfl rfl);clear LR
   go_enter Tryz.func145,Tryz.ntmps145
   go_wp2_with fail;refine (HE.out _).mono ?_;rintro e w1 ⟨rfl,hb1⟩;have LB1:=stB LB0 hb1 LB0.out.size;have LR1:=stR LR0 hb1;have LG0_1:=stG LG0_0 hb1;clear LB0 LR0 LG0_0;have hlo:=LB1.out.size;have hlr:=LR1.out.lt;have hlt2:=LR1.out.lt;have LB2:=Hd (LB1.out.alloc LB1.out.size (.cells #[.int .u64 18442240474082181120,.int .u64 9218868437227405312] 24));have LR2:=Hd (LR1.out.alloc (.cells #[.int .u64 18442240474082181120,.int .u64 9218868437227405312] 24));have LG0_2:=Hd (LG0_1.out.alloc (.cells #[.int .u64 18442240474082181120,.int .u64 9218868437227405312] 24));have LG1_2:=Hd (Blk.new w1 24 #[.int .u64 18442240474082181120,.int .u64 9218868437227405312]);clear LB1 LR1 LG0_1;clear hb1
   go_upto_region 4 with fail
   obtain⟨V2,hV2⟩:∃ X,(w1.alloc (.cells #[.int .u64 18442240474082181120,.int .u64 9218868437227405312] 24))=X:=⟨_,rfl⟩
   rw [hV2] at LB2 LR2 LG0_2 LG1_2 ⊢;clear hV2;obtain⟨q0_0,q0_1,q0_2,q0_3,q0_4,q0_5,q0_6,q0_7,q0_8⟩:=LG0_2.out.c9;go_wp2_with fail;refine (T2.out _ LB2.out).mono ?_;rintro e w3 ⟨j,rfl,hj,hb3⟩;have LB3:=stB LB2 hb3 LB2.out.size;have LR3:=stR LR2 hb3;have LG0_3:=stG LG0_2 hb3;have LG1_3:=stG LG1_2 hb3;clear LB2 LR2 LG0_2 LG1_2;have HJ:=Hd hj;clear hj hb3 q0_0 q0_1 q0_2 q0_3 q0_4 q0_5 q0_6 q0_7 q0_8;have q1_1:=LG1_3.out.ce 1 rfl;have hf1:=LG1_3.out.frozen 1
   go_upto_region 8 with fail
   clear q1_1 hf1;have LB4:=Hd (LB3.out.setCell (p:=⟨w1.heap.size,1,none⟩) (by first | exact Nat.le_refl _ | (show w.heap.size≤_+_;omega) | (show w.heap.size≤_;omega)) (.int .u64 (pat j:Int)));have LR4:=Hd (show HasBlk (w3.setCell ⟨w1.heap.size,1,none⟩ (.int .u64 (pat j:Int))) (w.heap.size+1) 24 2 from LR3.out.other (by omega) 1 [.int .u64 (pat j:Int)]);have LG0_4:=Hd (show Blk (w3.setCell ⟨w1.heap.size,1,none⟩ (.int .u64 (pat j:Int))) w.heap.size 89 #[.bool false,.int .i64 s1,.bool g1,.slice A1 n1 c1,.slice B1 m1 d1,.int .i64 0,.bool g2,.slice A2 n2 c2,.slice B2 m2 d2] from LG0_3.out.other (by omega) 1 [.int .u64 (pat j:Int)]);have LG1_4:=Hd (LG1_3.out.set 1 (.int .u64 (pat j:Int)));clear LB3 LR3 LG0_3 LG1_3
   obtain⟨V4,hV4⟩:∃ X,w3.setCell ⟨w1.heap.size,1,none⟩ (.int .u64 (pat j:Int))=X:=⟨_,rfl⟩
   rw [hV4] at LB4 LR4 LG0_4 LG1_4 ⊢;clear hV4;obtain⟨q1_0,q1_1⟩:=LG1_4.out.c2;obtain⟨ha0,hf0,ha1,hf1⟩:=LR4.out.sf2;obtain⟨hk0,hk1⟩:=LR4.out.sc2 (.int .u64 18442240474082181120) (.int .u64 (pat j:Int));have F:=Hd (below_sets (w0:=w) (r:=(w.heap.size+1)) (by omega) [.int .u64 18442240474082181120,.int .u64 (pat j:Int)] 0 _ LB4.out)
   simp [sets] at hk0 hk1
   clear T1 T2 HE
   have hfin:NewLeast w s1 x1 0 x2 (.returned (.agg #[.int .u64 18442240474082181120,.int .u64 (pat j:Int)])) _:=⟨(-(M:Int)),j,by rw [pat_min];rfl,fun h=>absurd h ha,fun _=>rfl,fun _=>HJ.out,fun h=>absurd rfl h,F.out⟩
   have HFIN:=Hd hfin;clear hfin;go_wp2;refine bodyPost_ret (v:=.agg #[.int .u64 18442240474082181120,.int .u64 (pat j:Int)]) (by simp [results,Tryz.results145,go_sem,hk0,hk1]) rfl ?_
   exact HFIN.out
  ·have hqb:(s2 == 0)=false:=by simp;omega
   obtain⟨LB0,LG0_0,LR⟩:=bx2 w #[.bool false,.int .i64 s1,.bool g1,.slice A1 n1 c1,.slice B1 m1 d1,.int .i64 s2,.bool g2,.slice A2 n2 c2,.slice B2 m2 d2] 89 #[.int .u64 0,.int .u64 0] 24;have LR0:=Hd (HasBlk.of (n:=2) LR.out rfl rfl);clear LR
   go_enter Tryz.func145,Tryz.ntmps145
   go_wp2_with fail;refine (HE.out _).mono ?_;rintro e w1 ⟨rfl,hb1⟩;have LB1:=stB LB0 hb1 LB0.out.size;have LR1:=stR LR0 hb1;have LG0_1:=stG LG0_0 hb1;clear LB0 LR0 LG0_0;have hlo:=LB1.out.size;have hlr:=LR1.out.lt;have hlt2:=LR1.out.lt;have LB2:=Hd (LB1.out.alloc LB1.out.size (.cells #[.int .u64 18442240474082181120,.int .u64 9218868437227405312] 24));have LR2:=Hd (LR1.out.alloc (.cells #[.int .u64 18442240474082181120,.int .u64 9218868437227405312] 24));have LG0_2:=Hd (LG0_1.out.alloc (.cells #[.int .u64 18442240474082181120,.int .u64 9218868437227405312] 24));have LG1_2:=Hd (Blk.new w1 24 #[.int .u64 18442240474082181120,.int .u64 9218868437227405312]);clear LB1 LR1 LG0_1;clear hb1
   go_upto_region 4 with fail
   obtain⟨V2,hV2⟩:∃ X,(w1.alloc (.cells #[.int .u64 18442240474082181120,.int .u64 9218868437227405312] 24))=X:=⟨_,rfl⟩
   rw [hV2] at LB2 LR2 LG0_2 LG1_2 ⊢;clear hV2;obtain⟨q0_0,q0_1,q0_2,q0_3,q0_4,q0_5,q0_6,q0_7,q0_8⟩:=LG0_2.out.c9;obtain⟨q1_0,q1_1⟩:=LG1_2.out.c2;obtain⟨ha0,hf0,ha1,hf1⟩:=LR2.out.sf2;obtain⟨hk0,hk1⟩:=LR2.out.sc2 (.int .u64 18442240474082181120) (.int .u64 9218868437227405312);have F:=Hd (below_sets (w0:=w) (r:=(w.heap.size+1)) (by omega) [.int .u64 18442240474082181120,.int .u64 9218868437227405312] 0 _ LB2.out)
   simp [sets] at hk0 hk1
   clear T1 T2 HE
   have hfin:NewLeast w s1 x1 s2 x2 (.returned (.agg #[.int .u64 18442240474082181120,.int .u64 9218868437227405312])) _:=⟨(-(M:Int)),(M:Int),by rw [pat_min,pat_max];rfl,fun h=>absurd h ha,fun _=>rfl,fun h=>absurd h hb,fun _=>rfl,F.out⟩
   have HFIN:=Hd hfin;clear hfin;go_wp2;refine bodyPost_ret (v:=.agg #[.int .u64 18442240474082181120,.int .u64 9218868437227405312]) (by simp [results,Tryz.results145,go_sem,hk0,hk1]) rfl ?_
   exact HFIN.out
end
section
open Go.RowKit
theorem es_bounds(i:Int):-1≤es i∧es i≤1:=by unfold es;split<;>(try split)<;>omega
theorem es_zero{i:Int}(h:es i=0):i≠M∧i≠-(M:Int):=by
 unfold es at h
 split at h
 ·cases h
 ·split at h
  ·cases h
  ·exact⟨by assumption,by assumption⟩
theorem ex_zero{i:Int}(h:es i=0):ex i=fl i:=by unfold ex;rw [if_pos h]
theorem least_lo{i k:Int}(h0:-(M:Int)≤i)(h1:i<M)(h2:es i=0→Rnd (-1) (ex i) k)(h3:es i≠0→k=-(M:Int)):k=i:=by
 by_cases h:es i=0
 ·have h4:=h2 h;rw [ex_zero h] at h4;have:=es_zero h
  exact h4.exact (by omega) h1
 ·rw [h3 h];unfold es at h;rw [if_neg (by omega)] at h
  by_cases hc:i=-(M:Int)
  ·exact hc.symm
  ·rw [if_neg hc] at h;exact absurd rfl h
theorem least_hi{i k:Int}(h0:-(M:Int)<i)(h1:i≤M)(h2:es i=0→Rnd 1 (ex i) k)(h3:es i≠0→k=M):k=i:=by
 by_cases h:es i=0
 ·have h4:=h2 h;rw [ex_zero h] at h4;have:=es_zero h
  exact h4.exact h0 (by omega)
 ·rw [h3 h];unfold es at h
  by_cases hc:i=M
  ·exact hc.symm
  ·rw [if_neg hc,if_neg (by omega)] at h;exact absurd rfl h
theorem es_neg(i:Int):es (-i)=- es i:=by
 have hM:(0:Int)<M:=by rw [M_val];omega
 unfold es
 by_cases h1:i=M
 ·rw [if_pos h1,if_neg (by omega),if_pos (by omega)]
 ·by_cases h2:i=-(M:Int)
  ·rw [if_neg h1,if_pos h2,if_pos (by omega)];rfl
  ·rw [if_neg h1,if_neg h2,if_neg (by omega),if_neg (by omega)];rfl
theorem ex_neg(i:Int):ex (-i)=- ex i:=by
 unfold ex;rw [es_neg]
 by_cases h:es i=0
 ·rw [if_pos h,if_pos (by omega),fl_neg]
 ·rw [if_neg h,if_neg (by omega)];rfl
end
section
open Go.RowKit
theorem num_neg_iff{x:Rat}:x.num<0↔x<0:=by rw [← Int.not_le,Rat.num_nonneg,Rat.not_le]
theorem rat_rv(x:Rat):rv (decide (x<0)) x.num.natAbs x.den=x:=by
 have h:(x.num:Rat) / (x.den:Rat)=x:=by rw [← Rat.mkRat_eq_div,Rat.mkRat_self]
 unfold rv
 by_cases h0:x<0
 ·have h1:x.num<0:=num_neg_iff.2 h0
  have h2:((x.num.natAbs:Nat):Int)=-x.num:=by omega
  have h3:((x.num.natAbs:Nat):Rat)=-(x.num:Rat):=by rw [← Rat.intCast_natCast,h2,Rat.intCast_neg]
  simp only [h0,decide_true,if_true,h3,Rat.neg_neg]
  exact h
 ·have h1:¬ x.num<0:=fun h=>h0 (num_neg_iff.1 h)
  have h2:((x.num.natAbs:Nat):Int)=x.num:=by omega
  have h3:((x.num.natAbs:Nat):Rat)=(x.num:Rat):=by rw [← Rat.intCast_natCast,h2]
  simp only [h0,decide_false,h3]
  exact h
theorem Rnd.dir{d:Int}{x:Rat}{i:Int}(h:Rnd d x i):d=-1∨d=1:=by
 rcases h with ⟨h,_⟩ | ⟨h,_⟩
 ·exact .inl h
 ·exact .inr h
theorem Rnd.unique{d:Int}{x:Rat}{i j:Int}(h:Rnd d x i)(h':Rnd d x j):i=j:=by
 rcases h with ⟨rfl,a1,a2,a3⟩ | ⟨rfl,a1,a2,a3⟩
 ·rcases h' with ⟨-,b1,b2,b3⟩ | ⟨h,_⟩
  ·rcases Int.lt_trichotomy i j with h | h | h
   ·have:=(a3 j (by omega) b2).2 ((b3 j (by omega) b2).1 (Int.le_refl _));omega
   ·exact h
   ·have:=(b3 i (by omega) a2).2 ((a3 i (by omega) a2).1 (Int.le_refl _));omega
  ·omega
 ·rcases h' with ⟨h,_⟩ | ⟨-,b1,b2,b3⟩
  ·omega
  ·rcases Int.lt_trichotomy i j with h | h | h
   ·have:=(b3 i a1 (by omega)).2 ((a3 i a1 (by omega)).1 (Int.le_refl _));omega
   ·exact h
   ·have:=(a3 j b1 (by omega)).2 ((b3 j b1 (by omega)).1 (Int.le_refl _));omega
def rndI(d:Int)(x:Rat):Int:=
 if x=0 then 0 else sg (decide (x<0)) (ansT x.num.natAbs x.den (fout x.num.natAbs x.den ((blen x.num.natAbs:Int) - blen x.den)) (decide (d=1) != decide (x<0)))
theorem rnd_rndI{d:Int}(hd:d=-1∨d=1)(x:Rat):Rnd d x (rndI d x):=by
 unfold rndI
 by_cases h0:x=0
 ·rw [if_pos h0,h0];exact rnd_zero hd
 ·rw [if_neg h0]
  have hp:0<x.num.natAbs:=by
   have:x.num≠0:=fun h=>h0 (Rat.num_eq_zero.1 h)
   omega
  have h:=rnd_ans (neg:=decide (x<0)) hp x.den_pos (fout_sc hp x.den_pos rfl) hd;rw [rat_rv] at h
  exact h
theorem Rnd.eq{d:Int}{x:Rat}{i:Int}(h:Rnd d x i):i=rndI d x:=h.unique (rnd_rndI h.dir x)
theorem rndI_neg{d:Int}(hd:d=-1∨d=1)(x:Rat):rndI (-d) (-x)=- rndI d x:=((rnd_rndI hd x).neg.eq).symm
theorem rndI_fl{d a:Int}(hd:d=-1∨d=1)(h0:-(M:Int)<a)(h1:a<M):rndI d (fl a)=a:=(rnd_rndI hd (fl a)).exact h0 h1
theorem rndI_zero{d:Int}(hd:d=-1∨d=1):rndI d 0=0:=(rnd_zero hd).eq.symm
theorem rndI_down(x:Rat):-(M:Int)≤rndI (-1) x∧rndI (-1) x<M∧∀ j:Int,-(M:Int)<j→j<M→(j≤rndI (-1) x↔fl j≤x):=by
 rcases rnd_rndI (.inl rfl) x with ⟨-,h⟩ | ⟨h,_⟩
 ·exact h
 ·omega
theorem rndI_up(x:Rat):-(M:Int)<rndI 1 x∧rndI 1 x≤M∧∀ j:Int,-(M:Int)<j→j<M→(rndI 1 x≤j↔x≤fl j):=by
 rcases rnd_rndI (.inr rfl) x with ⟨h,_⟩ | ⟨-,h⟩
 ·omega
 ·exact h
theorem rndI_mono{d:Int}(hd:d=-1∨d=1){x y:Rat}(h:x≤y):rndI d x≤rndI d y:=by
 rcases hd with rfl | rfl
 ·have h1:=rndI_down x;have h2:=rndI_down y
  by_cases hc:rndI (-1) x≤rndI (-1) y
  ·exact hc
  ·have h3:=(h1.2.2 (rndI (-1) x) (by omega) h1.2.1).1 (Int.le_refl _)
   exact (h2.2.2 _ (by omega) h1.2.1).2 (Rat.le_trans h3 h)
 ·have h1:=rndI_up x;have h2:=rndI_up y
  by_cases hc:rndI 1 x≤rndI 1 y
  ·exact hc
  ·have h3:=(h2.2.2 (rndI 1 y) h2.1 (by omega)).1 (Int.le_refl _)
   exact (h1.2.2 _ h2.1 (by omega)).2 (Rat.le_trans h h3)
theorem rndI_le(x:Rat):rndI (-1) x≤rndI 1 x:=by
 have h1:=rndI_down x;have h2:=rndI_up x
 by_cases hc:rndI (-1) x≤rndI 1 x
 ·exact hc
 ·have h3:=(h2.2.2 (rndI 1 x) h2.1 (by omega)).1 (Int.le_refl _)
  by_cases h4:rndI 1 x<rndI (-1) x
  ·have h5:=(h1.2.2 (rndI (-1) x) (by omega) h1.2.1).1 (Int.le_refl _);have:=fl_lt_iff.2 h4
   grind
  ·omega
def dn(s:Int)(x:Rat):Int:=if s=0 then rndI (-1) x else s*M
def up(s:Int)(x:Rat):Int:=if s=0 then rndI 1 x else s*M
theorem dn_zero(x:Rat):dn 0 x=rndI (-1) x:=rfl
theorem up_zero(x:Rat):up 0 x=rndI 1 x:=rfl
theorem rc_neg_iff{x y:Rat}:rc x y<0↔x<y:=by
 unfold rc
 by_cases h:x<y
 ·simp [h]
 ·rw [if_neg h]
  by_cases h':y<x<;>simp [h,h']
theorem rc_pos_iff{x y:Rat}:0<rc x y↔y<x:=by
 unfold rc
 by_cases h:x<y
 ·have:¬ y<x:=by grind
  simp [h,this]
 ·rw [if_neg h]
  by_cases h':y<x<;>simp [h']
theorem ec_hi{i s:Int}{x:Rat}(hi:-(M:Int)≤i∧i<M)(hs:s=0∨s=1):0<ec (es i) (ex i) s x↔dn s x<i:=by
 have hM:M=9218868437227405312:=rfl
 rcases hs with rfl | rfl
 ·rw [dn_zero];have h:=rndI_down x
  by_cases h0:i=-(M:Int)
  ·subst h0;rw [es_min,ec_lt _ _ (by omega)];omega
  ·rw [es_mid (by omega) hi.2,ec_zero,ex_mid (by omega) hi.2,rc_pos_iff];have h1:=h.2.2 i (by omega) hi.2;rw [← Int.not_le,h1];grind
 ·have h1:es i<1:=by have:=es_bounds i;unfold es;split<;>(try split)<;>omega
  rw [ec_lt _ _ h1];unfold dn;rw [if_neg (by omega)];omega
theorem ec_lo{j s:Int}{x:Rat}(hj:-(M:Int)<j∧j≤M)(hs:s=0∨s=-1):ec (es j) (ex j) s x<0↔j<up s x:=by
 have hM:M=9218868437227405312:=rfl
 rcases hs with rfl | rfl
 ·rw [up_zero];have h:=rndI_up x
  by_cases h0:j=(M:Int)
  ·subst h0;rw [es_max,ec_gt _ _ (by omega)];omega
  ·rw [es_mid (by omega) (by omega),ec_zero,ex_mid (by omega) (by omega),rc_neg_iff];have h1:=h.2.2 j hj.1 (by omega);rw [← Int.not_le,h1];grind
 ·have h1:-1<es j:=by unfold es;split<;>(try split)<;>omega
  rw [ec_gt _ _ h1];unfold up;rw [if_neg (by omega)];omega
theorem ec_lo_at{i s:Int}{x:Rat}(hi:-(M:Int)≤i∧i<M)(hs:s=0∨s=-1):(if ec (es i) (ex i) s x<0 then rndI (-1) x else i)=max i (dn s x):=by
 have hM:M=9218868437227405312:=rfl
 rcases hs with rfl | rfl
 ·rw [dn_zero];have h:=rndI_down x
  by_cases h0:i=-(M:Int)
  ·subst h0;rw [es_min,ec_lt _ _ (by omega),if_pos (by omega)];omega
  ·rw [es_mid (by omega) hi.2,ec_zero,ex_mid (by omega) hi.2];have h1:=h.2.2 i (by omega) hi.2
   by_cases hc:fl i<x
   ·rw [if_pos (rc_neg_iff.2 hc)];have:=h1.2 (by grind);omega
   ·rw [if_neg (fun h=>hc (rc_neg_iff.1 h))]
    have:rndI (-1) x≤i:=by
     by_cases h2:rndI (-1) x=-(M:Int)
     ·omega
     ·have h3:=(h.2.2 (rndI (-1) x) (by omega) h.2.1).1 (Int.le_refl _);rw [← fl_le_iff];grind
    omega
 ·have h1:-1≤es i:=(es_bounds i).1
  have h2:¬ ec (es i) (ex i) (-1) x<0:=by
   by_cases h3:es i=-1
   ·rw [ec_inf _ _ h3 (by omega)];omega
   ·rw [ec_gt _ _ (by omega)];omega
  rw [if_neg h2];unfold dn;rw [if_neg (by omega)];omega
theorem ec_hi_at{j s:Int}{x:Rat}(hj:-(M:Int)<j∧j≤M)(hs:s=0∨s=1):(if 0<ec (es j) (ex j) s x then rndI 1 x else j)=min j (up s x):=by
 have hM:M=9218868437227405312:=rfl
 rcases hs with rfl | rfl
 ·rw [up_zero];have h:=rndI_up x
  by_cases h0:j=(M:Int)
  ·subst h0;rw [es_max,ec_gt _ _ (by omega),if_pos (by omega)];omega
  ·rw [es_mid (by omega) (by omega),ec_zero,ex_mid (by omega) (by omega)];have h1:=h.2.2 j hj.1 (by omega)
   by_cases hc:x<fl j
   ·rw [if_pos (rc_pos_iff.2 hc)];have:=h1.2 (by grind);omega
   ·rw [if_neg (fun h=>hc (rc_pos_iff.1 h))]
    have:j≤rndI 1 x:=by
     by_cases h2:rndI 1 x=(M:Int)
     ·omega
     ·have h3:=(h.2.2 (rndI 1 x) h.1 (by omega)).1 (Int.le_refl _);rw [← fl_le_iff];grind
    omega
 ·have h1:es j≤1:=(es_bounds j).2
  have h2:¬ 0<ec (es j) (ex j) 1 x:=by
   by_cases h3:es j=1
   ·rw [ec_inf _ _ h3 (by omega)];omega
   ·rw [ec_lt _ _ (by omega)];omega
  rw [if_neg h2];unfold up;rw [if_neg (by omega)];omega
theorem ec_hi_open{i s:Int}{x:Rat}(hi:-(M:Int)≤i∧i<M)(hs:s=1):ec (es i) (ex i) s x≠0:=by
 have h1:es i<s:=by unfold es;split<;>(try split)<;>omega
 rw [ec_lt _ _ h1];omega
theorem ec_lo_open{j s:Int}{x:Rat}(hj:-(M:Int)<j∧j≤M)(hs:s=-1):ec (es j) (ex j) s x≠0:=by
 have hM:M=9218868437227405312:=rfl
 have h1:s<es j:=by unfold es;split<;>(try split)<;>omega
 rw [ec_gt _ _ h1];omega
def ct(i j pd pu qd qu:Int):Int × Int:=if qd<i∨j<pu then ((M:Int),-(M:Int)) else (max i pd,min j qu)
end
section
open Ieee
def near(n:Int)(d:Nat):Int:=if n<0 then -((min (nearRung n.natAbs d) M:Nat):Int) else (min (nearRung n.natAbs d) M:Nat)
theorem near_natAbs(n:Int)(d:Nat):(near n d).natAbs=min (nearRung n.natAbs d) M:=by unfold near;split<;>omega
theorem near_neg(n:Int)(d:Nat):near (-n) d=-near n d:=by
 unfold near;rw [Int.natAbs_neg]
 rcases Int.lt_trichotomy n 0 with h | h | h
 ·rw [if_neg (by omega),if_pos h];omega
 ·subst h;have:nearRung 0 d=0:=Nat.le_zero.1 (nearRung_le (Nat.zero_le _))
  simp [this]
 ·rw [if_pos (by omega),if_neg (by omega)]
theorem near_range(n:Int)(d:Nat):-(M:Int)≤near n d∧near n d≤M:=by
 have:=near_natAbs n d;omega
theorem val_scale_nat(r d:Nat):val (r:Int)*2^d=((mag r*2^d:Nat):Int):=by rw [val_nat];simp
theorem le_near{i:Int}{n:Int}{d:Nat}(hi:i≤M)(h:val i*2^d≤n):i≤near n d:=by
 have hp:(0:Int)<2^d:=by exact_mod_cast Nat.two_pow_pos d
 rcases Int.lt_or_le i 0 with h0 | h0
 ·-- below 0
  unfold near
  split
  ·obtain⟨r,rfl⟩:∃ r:Nat,i=-(r:Int):=⟨i.natAbs,by omega⟩
   rw [val_neg,Int.neg_mul,val_scale_nat] at h;have:nearRung n.natAbs d≤r:=nearRung_le (by omega)
   omega
  ·omega
 ·obtain⟨r,rfl⟩:∃ r:Nat,i=(r:Int):=⟨i.natAbs,by omega⟩
  rw [val_scale_nat] at h
  have h2:(0:Int)≤n:=by omega
  unfold near;rw [if_neg (by omega)];have:r≤nearRung n.natAbs d:=le_nearRung (by omega)
  omega
theorem near_le{i:Int}{n:Int}{d:Nat}(hi:-(M:Int)≤i)(h:n≤val i*2^d):near n d≤i:=by
 have:=@le_near (-i) (-n) d (by omega) (by rw [val_neg,Int.neg_mul];omega);rw [near_neg] at this
 omega
theorem near_val{i:Int}(h1:-(M:Int)≤i)(h2:i≤M)(d:Nat):near (val i*2^d) d=i:=
 Int.le_antisymm (near_le h1 (Int.le_refl _)) (le_near h2 (Int.le_refl _))
theorem word_false(r:Nat):double.word false r=r:=rfl
theorem word_true(r:Nat):double.word true r=2^63+r:=by unfold Format.word;rw [signWeight_eq];rfl
theorem word_lt64(s:Bool){r:Nat}(h:r<2^63):double.word s r<2^64:=by
 cases s
 ·rw [word_false];omega
 ·rw [word_true];omega
theorem rungOf_word(s:Bool){r:Nat}(h:r<2^63):rungOf (double.word s r)=r:=by
 unfold rungOf
 cases s
 ·rw [word_false];omega
 ·rw [word_true];omega
theorem sgn_word(s:Bool){r:Nat}(h:r<2^63):sgn (double.word s r)=s:=by
 unfold sgn
 cases s
 ·rw [word_false,show r / 2^63=0 from by omega];rfl
 ·rw [word_true,show (2^63+r) / 2^63=1 from by omega];rfl
theorem idx_word(s:Bool){r:Nat}(h:r<2^63):idx (double.word s r)=if s then -(r:Int) else r:=by
 unfold idx;rw [sgn_word s h,rungOf_word s h]
theorem M_lt:M<2^63:=by decide
structure Is (b:Nat) (i:Int):Prop where
 lt:b<2^64
 real:real b
 idx:idx b=i
theorem Is.word(s:Bool){r:Nat}(h:r≤M):Is (double.word s r) (if s then -(r:Int) else r):=by
 have:=M_lt
 have h':r<2^63:=by omega
 exact⟨word_lt64 s h',by unfold Proofs.YthlmlmfebpjgdaaGreatDoor.real;rw [rungOf_word s h'];exact h,idx_word s h'⟩
theorem Is.near{s:Bool}{n:Int}{d:Nat}(h:n≠0→s=decide (n<0)):Is (double.word s (min (nearRung n.natAbs d) M)) (near n d):=by
 have h1:=Is.word s (r:=min (nearRung n.natAbs d) M) (Nat.min_le_right _ _)
 have e:(if s=true then -((min (nearRung n.natAbs d) M:Nat):Int) else ((min (nearRung n.natAbs d) M:Nat):Int))=Proofs.YthlmlmfebpjgdaaGreatDoor.near n d:=by
  unfold Proofs.YthlmlmfebpjgdaaGreatDoor.near
  by_cases h0:n=0
  ·subst h0;have:nearRung (0:Int).natAbs d=0:=Nat.le_zero.1 (nearRung_le (Nat.zero_le _))
   rw [this];cases s<;>simp
  ·rw [h h0]
   by_cases h2:n<0
   ·rw [if_pos h2,if_pos (by simpa using h2)]
   ·rw [if_neg h2,if_neg (by simpa using h2)]
 rw [e] at h1;exact h1
theorem write_num(s:Bool)(m:Nat)(p:Int):double.write (.number s m p)=double.nearest s m p:=rfl
theorem sum_fin{x y:Nat}{sy:Bool}{m n k l:Nat}(hm:m*2^k=mag (rungOf x))(hn:n*2^l=mag (rungOf y)):
  ∃ z:Bool,((Datum.number (sgn x) m (-1074+(k:Int))).sum (.number sy n (-1074+(l:Int)))).map double.write
   = some (double.word (if val (idx x)+signed sy (mag (rungOf y)) 0=0 then z else decide (val (idx x)+signed sy (mag (rungOf y)) 0<0)) (min (nearRung (val (idx x)+signed sy (mag (rungOf y)) 0).natAbs 0) M)):=by
 refine⟨sgn x && sy,?_⟩
 have key:∀ b:Nat,b≤k→b≤l→double.nearest (if signed (sgn x) m (k - b)+signed sy n (l - b)=0 then sgn x && sy else decide (signed (sgn x) m (k - b)+signed sy n (l - b)<0)) (signed (sgn x) m (k - b)+signed sy n (l - b)).natAbs (-1074+(b:Int))=double.word (if val (idx x)+signed sy (mag (rungOf y)) 0=0 then sgn x && sy else decide (val (idx x)+signed sy (mag (rungOf y)) 0<0)) (min (nearRung (val (idx x)+signed sy (mag (rungOf y)) 0).natAbs 0) M):=by
  intro b hk hl;rw [nearest_high]
  have hp:(0:Int)<2^b:=by exact_mod_cast Nat.two_pow_pos b
  have e1:signed (sgn x) m (k - b)*2^b=val (idx x):=by rw [← signed_split,Nat.sub_add_cancel hk,read_val hm]
  have e2:signed sy n (l - b)*2^b=signed sy (mag (rungOf y)) 0:=by
   rw [← signed_split,Nat.sub_add_cancel hl,signed_eq,signed_eq,hn,Nat.pow_zero,Nat.mul_one]
  have e3:val (idx x)+signed sy (mag (rungOf y)) 0=(signed (sgn x) m (k - b)+signed sy n (l - b))*2^b:=by rw [← e1,← e2,Int.add_mul]
  rw [e3];generalize signed (sgn x) m (k - b)+signed sy n (l - b)=t
  have e4:(t*2^b).natAbs=t.natAbs*2^b:=by rw [Int.natAbs_mul,Int.natAbs_pow];rfl
  have e5:(t*2^b=0)↔t=0:=by
   constructor
   ·intro h
    rcases Int.mul_eq_zero.1 h with h | h
    ·exact h
    ·omega
   ·rintro rfl;simp
  have e6:(t*2^b<0)↔t<0:=by
   constructor
   ·intro h
    rcases Int.lt_or_le t 0 with h2 | h2
    ·exact h2
    ·have:=Int.mul_nonneg h2 (Int.le_of_lt hp);omega
   ·intro h;exact Int.mul_neg_of_neg_of_pos h hp
  rw [e4]
  congr 1
  by_cases h0:t=0
  ·rw [if_pos h0,if_pos (e5.2 h0)]
  ·rw [if_neg h0,if_neg (fun h=>h0 (e5.1 h))]
   exact decide_eq_decide.2 e6.symm
 simp only [Datum.sum,Option.map_some,write_num]
 congr 1
 rcases Nat.le_total k l with h | h
 ·have:=key k (Nat.le_refl _) h;rw [show min (-1074+(k:Int)) (-1074+(l:Int))=-1074+(k:Int) from by omega,show (-1074+(k:Int) - (-1074+(k:Int))).toNat=k - k from by omega,show (-1074+(l:Int) - (-1074+(k:Int))).toNat=l - k from by omega];rw [← this]
 ·have:=key l h (Nat.le_refl _);rw [show min (-1074+(k:Int)) (-1074+(l:Int))=-1074+(l:Int) from by omega,show (-1074+(l:Int) - (-1074+(l:Int))).toNat=l - l from by omega,show (-1074+(k:Int) - (-1074+(l:Int))).toNat=k - l from by omega];rw [← this]
theorem add_fin{x y:Nat}(hx:fin x)(hy:fin y):∃ r,double.add x y=some r∧Is r (near (val (idx x)+val (idx y)) 0):=by
 obtain⟨m,k,e,hm,_⟩:=read_fin hx;obtain⟨n,l,e',hn,_⟩:=read_fin hy;obtain⟨z,h⟩:=sum_fin (sy:=sgn y) hm hn;rw [show signed (sgn y) (mag (rungOf y)) 0=val (idx y) from by rw [signed_eq,val_idx,Nat.pow_zero,Nat.mul_one]] at h;unfold Format.add;rw [e,e'];refine⟨_,h,Is.near ?_⟩;intro h0;rw [if_neg h0]
theorem sub_fin{x y:Nat}(hx:fin x)(hy:fin y):∃ r,double.sub x y=some r∧Is r (near (val (idx x) - val (idx y)) 0):=by
 obtain⟨m,k,e,hm,_⟩:=read_fin hx;obtain⟨n,l,e',hn,_⟩:=read_fin hy;obtain⟨z,h⟩:=sum_fin (sy:=!sgn y) hm hn
 have e2:signed (!sgn y) (mag (rungOf y)) 0=-val (idx y):=by
  rw [signed_eq,val_idx,Nat.pow_zero,Nat.mul_one]
  cases sgn y<;>simp
 rw [e2,← Int.sub_eq_add_neg] at h;unfold Format.sub;rw [e,e'];refine⟨_,h,Is.near ?_⟩;intro h0;rw [if_neg h0]
theorem mul_fin{x y:Nat}(hx:fin x)(hy:fin y):∃ r,double.mul x y=some r∧Is r (near (val (idx x)*val (idx y)) 1074):=by
 obtain⟨m,k,e,hm,_⟩:=read_fin hx;obtain⟨n,l,e',hn,_⟩:=read_fin hy;unfold Format.mul;rw [e,e']
 simp only [Datum.product,Option.map_some,write_num]
 refine⟨_,rfl,?_⟩;rw [show (-1074+(k:Int)+(-1074+(l:Int)))=-1074 - ((1074:Nat):Int)+((k+l:Nat):Int) from by omega,nearest_shift,nearest_low]
 have e1:(val (idx x)*val (idx y)).natAbs=m*n*2^(k+l):=by
  rw [Int.natAbs_mul,val_natAbs,val_natAbs,idx_natAbs,idx_natAbs,← hm,← hn,Nat.pow_add];rw [Nat.mul_assoc,Nat.mul_assoc,Nat.mul_left_comm (2^k)]
 rw [← e1];refine Is.near ?_;intro h0;rw [val_idx,val_idx] at h0 ⊢;generalize mag (rungOf x)=a at h0 ⊢;generalize mag (rungOf y)=b at h0 ⊢;have hab:(0:Int)≤(a:Int)*(b:Int):=Int.mul_nonneg (by omega) (by omega)
 cases sgn x<;>cases sgn y<;>simp [Int.neg_mul,Int.mul_neg] at h0 ⊢
 ·exact hab
 ·have:(0:Int)<(a:Int)*(b:Int):=Int.mul_pos (by omega) (by omega)
  omega
 ·have:(0:Int)<(a:Int)*(b:Int):=Int.mul_pos (by omega) (by omega)
  omega
 ·exact hab
end
section
open Ieee
def Rep(n:Int):Prop:=∃ i:Int,val i=n
theorem Rep.val(i:Int):Rep (val i):=⟨i,rfl⟩
theorem Rep.zero:Rep 0:=⟨0,rfl⟩
theorem Rep.neg{n:Int}(h:Rep n):Rep (-n):=by obtain⟨i,rfl⟩:=h;exact⟨-i,val_neg i⟩
theorem mag_of_le(q k:Nat)(hq:q≤2^53):∃ r,mag r=q*2^k:=by
 -- lower the power until the significand is full,or the power is spent
 induction k generalizing q with
 | zero=>
  exact⟨0*2^52+q,mag_form 0 q (.inl rfl) hq⟩
 | succ k ih=>
  rcases Nat.lt_or_ge q (2^52) with h | h
  ·obtain⟨r,hr⟩:=ih (q*2) (by omega)
   exact⟨r,by rw [hr,Nat.pow_succ,Nat.mul_assoc,Nat.mul_comm 2]⟩
  ·exact⟨(k+1)*2^52+q,mag_form (k+1) q (.inr h) hq⟩
theorem rep_iff{n:Int}:Rep n↔∃ q k:Nat,q<2^53∧n.natAbs=q*2^k:=by
 constructor
 ·rintro⟨i,rfl⟩;obtain⟨k,q,e,h,hq⟩:=rung_form i.natAbs
  exact⟨q,k,hq,by rw [val_natAbs,e,mag_form k q h (by omega)]⟩
 ·rintro⟨q,k,hq,h⟩;obtain⟨r,hr⟩:=mag_of_le q k (by omega)
  rcases Int.lt_or_le n 0 with h0 | h0
  ·exact⟨-(r:Int),by rw [val_neg,val_nat];omega⟩
  ·exact⟨(r:Int),by rw [val_nat];omega⟩
theorem rep_of_dvd{n:Int}(k:Nat)(hd:(2:Int)^k ∣ n)(hn:n.natAbs≤2^53*2^k):Rep n:=by
 obtain⟨m,rfl⟩:=hd;have hp:=Nat.two_pow_pos k
 have e:((2:Int)^k*m).natAbs=m.natAbs*2^k:=by rw [Int.natAbs_mul,Int.natAbs_pow,Nat.mul_comm];rfl
 rw [e] at hn;have hm:m.natAbs≤2^53:=Nat.le_of_mul_le_mul_right hn hp;obtain⟨r,hr⟩:=mag_of_le m.natAbs k hm;rw [← e] at hr
 rcases Int.lt_or_le ((2:Int)^k*m) 0 with h0 | h0
 ·exact⟨-(r:Int),by rw [val_neg,val_nat];omega⟩
 ·exact⟨(r:Int),by rw [val_nat];omega⟩
theorem dvd_of_natAbs{n:Int}{k q:Nat}(h:n.natAbs=q*2^k):(2:Int)^k ∣ n:=by
 have:((2^k:Nat):Int) ∣ n:=Int.ofNat_dvd_left.2 ⟨q,by rw [h,Nat.mul_comm]⟩
 simpa using this
theorem pow_dvd_le{k l:Nat}(h:k≤l):(2:Int)^k ∣ 2^l:=⟨2^(l - k),by rw [← Int.pow_add];congr 1;omega⟩
def R(n:Int):Int:=if n<0 then -(mag (nearRung n.natAbs 0):Int) else mag (nearRung n.natAbs 0)
theorem nearRung_zero(d:Nat):nearRung 0 d=0:=Nat.le_zero.1 (nearRung_le (Nat.zero_le _))
theorem R_zero:R 0=0:=by unfold R;simp [nearRung_zero,mag_zero]
theorem R_neg(n:Int):R (-n)=-R n:=by
 unfold R;rw [Int.natAbs_neg]
 rcases Int.lt_trichotomy n 0 with h | h | h
 ·rw [if_neg (by omega),if_pos h];omega
 ·subst h;simp [nearRung_zero,mag_zero]
 ·rw [if_pos (by omega),if_neg (by omega)]
theorem R_rep(n:Int):Rep (R n):=by
 unfold R
 split
 ·exact⟨-(nearRung n.natAbs 0:Int),by rw [val_neg,val_nat]⟩
 ·exact⟨(nearRung n.natAbs 0:Int),by rw [val_nat]⟩
theorem le_R{r n:Int}(hr:Rep r)(h:r≤n):r≤R n:=by
 obtain⟨i,rfl⟩:=hr;unfold R
 rcases Int.lt_or_le n 0 with h0 | h0
 ·rw [if_pos h0];have hi:i<0:=val_neg_iff.1 (by omega)
  obtain⟨r,rfl⟩:∃ r:Nat,i=-(r:Int):=⟨i.natAbs,by omega⟩
  rw [val_neg,val_nat] at h ⊢;have:nearRung n.natAbs 0≤r:=nearRung_le (by simp;omega);have:=mag_le_iff.2 this
  omega
 ·rw [if_neg (by omega)]
  rcases Int.lt_or_le i 0 with hi | hi
  ·have:=val_neg_iff.2 hi;omega
  ·obtain⟨r,rfl⟩:∃ r:Nat,i=(r:Int):=⟨i.natAbs,by omega⟩
   rw [val_nat] at h ⊢;have:r≤nearRung n.natAbs 0:=le_nearRung (by simp;omega);have:=mag_le_iff.2 this
   omega
theorem R_le{r n:Int}(hr:Rep r)(h:n≤r):R n≤r:=by
 have:=@le_R (-r) (-n) hr.neg (by omega);rw [R_neg] at this;omega
theorem R_of_rep{n:Int}(h:Rep n):R n=n:=Int.le_antisymm (R_le h (Int.le_refl _)) (le_R h (Int.le_refl _))
theorem bump_cases(n:Nat):(nearRung n 0=floorRung n∧n - mag (floorRung n)≤mag (floorRung n+1) - n) ∨
  (nearRung n 0=floorRung n+1∧mag (floorRung n+1) - n≤n - mag (floorRung n)):=by
 have hk:=over_spec n
 have hc:mag (floorRung n+1)=(n / 2^over n+1)*2^over n:=by
  unfold floorRung;rw [Nat.add_assoc,mag_form _ _ (by omega) (by omega)]
 have hf:=mag_floorRung n;have hdm:=Nat.div_add_mod n (2^over n);rw [Nat.mul_comm,← hf] at hdm;rw [Nat.add_mul,← hf,Nat.one_mul] at hc
 have hb:nearRung n 0=floorRung n+(bump n (over n)).toNat:=by
  unfold nearRung;rw [Nat.pow_zero,Nat.div_one,Nat.zero_add]
 rw [hb,hc];unfold bump;clear hk hf hc hb;generalize mag (floorRung n)=f at *;generalize n % 2^over n=r at *;generalize 2^over n=p at *;generalize floorRung n=g
 by_cases h1:p<2*r
 ·right
  rw [decide_eq_true h1]
  exact⟨rfl,by omega⟩
 ·rw [decide_eq_false h1,Bool.false_or]
  cases h2:(p == 2*r && n / p % 2 == 1)
  ·left;exact⟨rfl,by omega⟩
  ·right
   simp at h2
   exact⟨rfl,by omega⟩
theorem R_nearest_nat(n i:Nat):((n:Int) - mag (nearRung n 0)).natAbs≤((n:Int) - mag i).natAbs:=by
 have f1:=mag_floorRung_le n;have f2:=lt_mag_floorRung_succ n
 have h3:mag i≤mag (floorRung n)∨mag (floorRung n+1)≤mag i:=by
  rw [mag_le_iff,mag_le_iff];omega
 rcases bump_cases n with ⟨e,h⟩ | ⟨e,h⟩<;>rw [e]<;>omega
theorem R_nearest{n r:Int}(hr:Rep r):(n - R n).natAbs≤(n - r).natAbs:=by
 obtain⟨i,rfl⟩:=hr;have h:=R_nearest_nat n.natAbs i.natAbs;rw [← val_natAbs i] at h;unfold R
 split<;>omega
theorem bump_shift(n k a:Nat):bump (n*2^k) (k+a)=bump n a:=by
 have hp:=Nat.two_pow_pos k
 have e1:n*2^k / 2^(k+a)=n / 2^a:=by rw [Nat.pow_add,Nat.mul_comm n,Nat.mul_div_mul_left _ _ hp]
 have e2:n*2^k % 2^(k+a)=2^k*(n % 2^a):=by rw [Nat.pow_add,Nat.mul_comm n,Nat.mul_mod_mul_left]
 unfold bump;rw [e1,e2,Nat.pow_add];generalize 2^a=x;generalize n % x=y;generalize 2^k=p at hp
 have c1:decide (p*x<2*(p*y))=decide (x<2*y):=by
  rw [show 2*(p*y)=p*(2*y) from by rw [Nat.mul_left_comm]]
  simp [Nat.mul_lt_mul_left hp]
 have c2:(p*x == 2*(p*y))=(x == 2*y):=by
  rw [show 2*(p*y)=p*(2*y) from by rw [Nat.mul_left_comm]];rw [Bool.eq_iff_iff];simp [Nat.mul_right_inj (by omega:p≠0)]
 rw [c1,c2]
theorem log2_mul_pow{n:Nat}(h0:n≠0)(k:Nat):(n*2^k).log2=n.log2+k:=by
 rw [Nat.log2_eq_iff (Nat.mul_ne_zero h0 (by have:=Nat.two_pow_pos k;omega))];have h1:=Nat.log2_self_le h0;have h2:n<2^(n.log2+1):=Nat.lt_log2_self
 constructor
 ·rw [Nat.pow_add];exact Nat.mul_le_mul_right _ h1
 ·rw [show n.log2+k+1=n.log2+1+k from by omega,Nat.pow_add 2 (n.log2+1)];exact Nat.mul_lt_mul_of_pos_right h2 (Nat.two_pow_pos k)
theorem mag_nearRung(n:Nat):mag (nearRung n 0)=(n / 2^over n+(bump n (over n)).toNat)*2^over n:=by
 have hk:=over_spec n;unfold nearRung floorRung;rw [Nat.pow_zero,Nat.div_one,Nat.zero_add,Nat.add_assoc,mag_form]
 ·omega
 ·cases bump n (over n)<;>simp<;>omega
theorem mag_nearRung_shift(n k:Nat):mag (nearRung (n*2^k) 0)=mag (nearRung n 0)*2^k:=by
 by_cases h:n<2^53
 ·obtain⟨r,hr⟩:=mag_of_le n k (by omega);obtain⟨s,hs⟩:=mag_of_le n 0 (by omega);rw [Nat.pow_zero,Nat.mul_one] at hs;have e1:=nearRung_mag r 0;have e2:=nearRung_mag s 0;rw [Nat.pow_zero,Nat.mul_one] at e1 e2;rw [← hr,e1,hr,← hs,e2]
 ·have h0:n≠0:=by omega
  have hl:53≤n.log2:=(Nat.le_log2 h0).2 (by omega)
  have ho:over (n*2^k)=k+over n:=by unfold over;rw [log2_mul_pow h0];omega
  rw [mag_nearRung,mag_nearRung,ho,bump_shift];have hp:=Nat.two_pow_pos k;rw [show n*2^k / 2^(k+over n)=n / 2^over n from by rw [Nat.pow_add,Nat.mul_comm n,Nat.mul_div_mul_left _ _ hp]];rw [Nat.add_comm k,Nat.pow_add,Nat.mul_assoc]
theorem R_shift(n:Int)(k:Nat):R (n*2^k)=R n*2^k:=by
 have hp:(0:Int)<2^k:=by exact_mod_cast Nat.two_pow_pos k
 have e:(n*2^k).natAbs=n.natAbs*2^k:=by rw [Int.natAbs_mul,Int.natAbs_pow];rfl
 unfold R;rw [e,mag_nearRung_shift]
 rcases Int.lt_or_le n 0 with h | h
 ·rw [if_pos h,if_pos (Int.mul_neg_of_neg_of_pos h hp),Int.natCast_mul,Int.neg_mul];simp
 ·rw [if_neg (Int.not_lt.2 h),if_neg (by have:=Int.mul_nonneg h (Int.le_of_lt hp);omega),Int.natCast_mul];simp
theorem R_nonneg{n:Int}(h:0≤n):0≤R n:=le_R Rep.zero h
theorem R_nonpos{n:Int}(h:n≤0):R n≤0:=R_le Rep.zero h
theorem R_eq_zero{n:Int}:R n=0↔n=0:=by
 constructor
 ·intro h
  have h1:Rep (1:Int):=⟨1,by decide⟩
  rcases Int.lt_trichotomy n 0 with h2 | h2 | h2
  ·have:=R_le (r:=-1) (n:=n) h1.neg (by omega);omega
  ·exact h2
  ·have:=le_R (r:=1) (n:=n) h1 (by omega);omega
 ·rintro rfl;exact R_zero
end
end Go.Proofs.YthlmlmfebpjgdaaGreatDoor
