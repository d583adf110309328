/-
Walks: package rel, Intersect.
-/
import Derived.Test.YthlmlmfebpjgdaaGreatDoorM03
import Derived.Test.YthlmlmfebpjgdaaGreatDoorPBothT
set_option linter.unusedSimpArgs false
set_option linter.unusedVariables false
set_option maxHeartbeats 12800000
namespace Go.Proofs.YthlmlmfebpjgdaaGreatDoor
open Go.RowKit
attribute [local go_sem] run_store_float run_eqf
theorem run_maxf{i j:Int}(h1:-(M:Int)≤i∧i≤M)(h2:-(M:Int)≤j∧j≤M)(W:World)(ts:Array TypeId)(t:TypeId):(Builtin.max_ ts t #[.float .f64 (pat i),.float .f64 (pat j)]).run Tryz.prog W=.ok (.float .f64 (pat (max i j))) W:=by
 have ho:=order_pat h1.1 h1.2 h2.1 h2.2
 have e:(Builtin.max_ ts t #[.float .f64 (pat i),.float .f64 (pat j)])=Builtin.max2 (.float .f64 (pat i)) (.float .f64 (pat j)):=by simp [Builtin.max_]
 rw [e];unfold Builtin.max2
 dsimp only
 rw [ho]
 rcases Int.lt_trichotomy i j with h | h | h
 ·rw [show compare i j=.lt from Int.compare_eq_lt.2 h,show max i j=j from by omega];rfl
 ·subst h;rw [show compare i i=.eq from Int.compare_eq_eq.2 rfl,show max i i=i from by omega]
  simp
 ·rw [show compare i j=.gt from Int.compare_eq_gt.2 h,show max i j=i from by omega];rfl
theorem run_minf{i j:Int}(h1:-(M:Int)≤i∧i≤M)(h2:-(M:Int)≤j∧j≤M)(W:World)(ts:Array TypeId)(t:TypeId):(Builtin.min_ ts t #[.float .f64 (pat i),.float .f64 (pat j)]).run Tryz.prog W=.ok (.float .f64 (pat (min i j))) W:=by
 have ho:=order_pat h1.1 h1.2 h2.1 h2.2
 have e:(Builtin.min_ ts t #[.float .f64 (pat i),.float .f64 (pat j)])=Builtin.min2 (.float .f64 (pat i)) (.float .f64 (pat j)):=by simp [Builtin.min_]
 rw [e];unfold Builtin.min2
 dsimp only
 rw [ho]
 rcases Int.lt_trichotomy i j with h | h | h
 ·rw [show compare i j=.lt from Int.compare_eq_lt.2 h,show min i j=i from by omega];rfl
 ·subst h;rw [show compare i i=.eq from Int.compare_eq_eq.2 rfl,show min i i=i from by omega]
  simp
 ·rw [show compare i j=.gt from Int.compare_eq_gt.2 h,show min i j=j from by omega];rfl
theorem em_idx{i j:Int}(h:Iv i j):Em (decide (j<i)) (pat i) (pat j):=by
 have hM:M=9218868437227405312:=rfl;have o1:=order_pat h.lo.1 h.lo.2 (show -(M:Int)≤(M:Int) by omega) (Int.le_refl _);have o2:=order_pat h.hi.1 h.hi.2 (Int.le_refl _) (show -(M:Int)≤(M:Int) by omega);rw [pat_max] at o1;rw [pat_min] at o2;unfold Iv at h;refine⟨fun e=>?_,fun e=>?_⟩
 ·have e:=of_decide_eq_true e;rw [o1,o2]
  exact⟨by rw [show compare i (M:Int)=.eq from Int.compare_eq_eq.2 (by omega)],by rw [show compare j (-(M:Int))=.eq from Int.compare_eq_eq.2 (by omega)]⟩
 ·have e:=of_decide_eq_false e;rw [o1,show compare i (M:Int)=.lt from Int.compare_eq_lt.2 (by omega)]
def it(i j i' j':Int):Int × Int:=if j<i∨j'<i'∨min j j'<max i i' then ((M:Int),-(M:Int)) else (max i i',min j j')
theorem it_iv{i j i' j':Int}(h:Iv i j)(h':Iv i' j'):Iv (it i j i' j').1 (it i j i' j').2:=by
 unfold it
 split
 ·exact Iv.none
 ·unfold Iv at *;rw [M_val] at *
  dsimp only
  omega
theorem inter_idx(i j i' j':Int)(w:World)(h:Iv i j)(h':Iv i' j'):
  Calls Tryz.prog 62 #[.agg #[.float .f64 (pat i),.float .f64 (pat j)],.agg #[.float .f64 (pat i'),.float .f64 (pat j')]] w fun e w'=>e=.returned (.agg #[.float .f64 (pat (it i j i' j').1),.float .f64 (pat (it i j i' j').2)])∧Below w.heap.size w w':=by
 have HB:=Hd fun W=>both_any (pat i) (pat j) (pat i') (pat j') _ _ W (fun W=>readf_idx i j W h) (fun W=>readf_idx i' j' W h') (em_idx h) (em_idx h');have HE:=Hd emptyf;have hmx:=fun W ts t=>run_maxf h.lo h'.lo W ts t;have hmn:=fun W ts t=>run_minf h.hi h'.hi W ts t
 have bz1:-(M:Int)≤max i i'∧max i i'≤M:=by have:=h.lo;have:=h'.lo;omega
 have bz2:-(M:Int)≤min j j'∧min j j'≤M:=by have:=h.hi;have:=h'.hi;omega
 have ho:=order_pat bz1.1 bz1.2 bz2.1 bz2.2
 have hit:it i j i' j'=if j<i∨j'<i'∨min j j'<max i i' then ((M:Int),-(M:Int)) else (max i i',min j j'):=rfl
 rw [hit]
 obtain⟨a,ha⟩:∃ a,decide (j<i)=a:=⟨_,rfl⟩
 obtain⟨b,hb⟩:∃ a,decide (j'<i')=a:=⟨_,rfl⟩
 obtain⟨z1,hz1⟩:∃ z,max i i'=z:=⟨_,rfl⟩
 obtain⟨z2,hz2⟩:∃ z,min j j'=z:=⟨_,rfl⟩
 rw [ha,hb] at HB;rw [hz1] at hmx ho;rw [hz2] at hmn ho;rw [hz1,hz2]
 obtain⟨kk,hkk⟩:∃ k:Int,(if a=true then (1:Int) else 0)+(if b=true then 2 else 0)=k:=⟨_,rfl⟩
 rw [hkk] at HB
 obtain⟨p1,e1⟩:∃ p,pat i=p:=⟨_,rfl⟩
 obtain⟨p2,e2⟩:∃ p,pat j=p:=⟨_,rfl⟩
 obtain⟨q1,e3⟩:∃ p,pat i'=p:=⟨_,rfl⟩
 obtain⟨q2,e4⟩:∃ p,pat j'=p:=⟨_,rfl⟩
 obtain⟨m1,e5⟩:∃ p,pat z1=p:=⟨_,rfl⟩
 obtain⟨m2,e6⟩:∃ p,pat z2=p:=⟨_,rfl⟩
 rw [e1,e2,e3,e4] at HB;rw [e1,e3,e5] at hmx;rw [e2,e4,e6] at hmn;rw [e5,e6] at ho;rw [e1,e2,e3,e4];have E5:=Hd e5;have E6:=Hd e6
 have hcase:(kk=0∧¬ (z2<z1)∧¬ (j<i∨j'<i'∨z2<z1))∨(kk=0∧z2<z1∧(j<i∨j'<i'∨z2<z1))∨(kk≠0∧(j<i∨j'<i'∨z2<z1)):=by
  rw [← hkk];rw [← ha,← hb]
  by_cases c1:j<i<;>by_cases c2:j'<i'<;>by_cases c3:z2<z1<;>simp [c1,c2,c3]
 clear ha hb hkk hz1 hz2 e1 e2 e3 e4 e5 e6 h h' bz1 bz2 hit
 rcases hcase with ⟨rfl,hc,hcc⟩ | ⟨rfl,hc,hcc⟩ | ⟨hk,hcc⟩
 ·rw [if_neg hcc]
  dsimp only
  rw [E5.out,E6.out]
  have hord:∃ o,FloatKind.f64.format.order m1 m2=some o∧o≠.gt:=⟨_,ho,fun e=>hc (Int.compare_eq_gt.1 e)⟩
  obtain⟨o,ho2,hne⟩:=hord;clear ho hc hcc
  have hgt:(some o == some Ordering.gt)=false:=by cases o<;>simp at hne ⊢
  obtain⟨LB0,LG0_0,LG1_0,LR⟩:=bx3 w #[.float .f64 p1,.float .f64 p2] 28 #[.float .f64 q1,.float .f64 q2] 28 #[.float .f64 0,.float .f64 0] 28;have LR0:=Hd (HasBlk.of (n:=2) LR.out rfl rfl);clear LR
  go_enter Tryz.func62,Tryz.ntmps62
  go_wp2_with fail;refine (HB.out _).mono ?_;rintro e w1 ⟨rfl,hb1⟩;have LB1:=stB LB0 hb1 LB0.out.size;have LR1:=stR LR0 hb1;have LG0_1:=stG LG0_0 hb1;have LG1_1:=stG LG1_0 hb1;clear LB0 LR0 LG0_0 LG1_0;clear hb1;obtain⟨q0_0,q0_1⟩:=LG0_1.out.c2;obtain⟨q1_0,q1_1⟩:=LG1_1.out.c2;have hf00:=LG0_1.out.frozen 0;have hf01:=LG0_1.out.frozen 1;have hf10:=LG1_1.out.frozen 0;have hf11:=LG1_1.out.frozen 1
  go_upto_region 2 with fail
  clear q0_0 q0_1 q1_0 q1_1 hf00 hf01 hf10 hf11;have LB2:=Hd (below_sets (w0:=w) (show w.heap.size≤w.heap.size by omega) [.float .f64 p1,.float .f64 p2] 0 w1 LB1.out);have LR2:=Hd (LR1.out.other (r:=w.heap.size) (by omega) 0 [.float .f64 p1,.float .f64 p2]);have LG0_2:=Hd (show Blk (sets w1 w.heap.size 0 [.float .f64 p1,.float .f64 p2]) w.heap.size 28 #[.float .f64 p1,.float .f64 p2] from by have hbs:=Blk.sets [.float .f64 p1,.float .f64 p2] 0 w1 _ LG0_1.out;simpa [laid] using hbs);have LG1_2:=Hd (LG1_1.out.other (r:=w.heap.size) (by omega) 0 [.float .f64 p1,.float .f64 p2]);clear LB1 LR1 LG0_1 LG1_1
  obtain⟨V1,hV1⟩:∃ X,(sets w1 w.heap.size 0 [.float .f64 p1,.float .f64 p2])=X:=⟨_,rfl⟩
  rw [hV1] at LB2 LR2 LG0_2 LG1_2;rw [show ((w1.setCell ⟨w.heap.size,0,none⟩ (.float .f64 p1)).setCell ⟨w.heap.size,1,none⟩ (.float .f64 p2))=V1 from hV1];clear hV1;have LB3:=Hd (below_sets (w0:=w) (show w.heap.size≤(w.heap.size+1) by omega) [.float .f64 q1,.float .f64 q2] 0 V1 LB2.out);have LR3:=Hd (LR2.out.other (r:=(w.heap.size+1)) (by omega) 0 [.float .f64 q1,.float .f64 q2]);have LG0_3:=Hd (LG0_2.out.other (r:=(w.heap.size+1)) (by omega) 0 [.float .f64 q1,.float .f64 q2]);have LG1_3:=Hd (show Blk (sets V1 (w.heap.size+1) 0 [.float .f64 q1,.float .f64 q2]) (w.heap.size+1) 28 #[.float .f64 q1,.float .f64 q2] from by have hbs:=Blk.sets [.float .f64 q1,.float .f64 q2] 0 V1 _ LG1_2.out;simpa [laid] using hbs);clear LB2 LR2 LG0_2 LG1_2
  obtain⟨V2,hV2⟩:∃ X,(sets V1 (w.heap.size+1) 0 [.float .f64 q1,.float .f64 q2])=X:=⟨_,rfl⟩
  rw [hV2] at LB3 LR3 LG0_3 LG1_3;rw [show ((V1.setCell ⟨(w.heap.size+1),0,none⟩ (.float .f64 q1)).setCell ⟨(w.heap.size+1),1,none⟩ (.float .f64 q2))=V2 from hV2];clear hV2;obtain⟨q0_0,q0_1⟩:=LG0_3.out.c2;obtain⟨q1_0,q1_1⟩:=LG1_3.out.c2
  go_upto_region 3 with fail
  clear q0_0 q0_1 q1_0 q1_1;have hlt4:=LR3.out.lt;have LB4:=Hd (LB3.out.alloc LB3.out.size (.cells #[.float .f64 m1,.float .f64 m2] 28));have LR4:=Hd (LR3.out.alloc (.cells #[.float .f64 m1,.float .f64 m2] 28));have LG0_4:=Hd (LG0_3.out.alloc (.cells #[.float .f64 m1,.float .f64 m2] 28));have LG1_4:=Hd (LG1_3.out.alloc (.cells #[.float .f64 m1,.float .f64 m2] 28));have LG2_4:=Hd (Blk.new V2 28 #[.float .f64 m1,.float .f64 m2]);clear LB3 LR3 LG0_3 LG1_3
  obtain⟨V3,hV3⟩:∃ X,(V2.alloc (.cells #[.float .f64 m1,.float .f64 m2] 28))=X:=⟨_,rfl⟩
  rw [hV3] at LB4 LR4 LG0_4 LG1_4 LG2_4 ⊢;clear hV3;obtain⟨q2_0,q2_1⟩:=LG2_4.out.c2;clear hmx hmn;obtain⟨ha0,hf0,ha1,hf1⟩:=LR4.out.sf2;obtain⟨hk0,hk1⟩:=LR4.out.sc2 (.float .f64 m1) (.float .f64 m2);have F:=Hd (below_sets (w0:=w) (r:=(w.heap.size+2)) (by omega) [.float .f64 m1,.float .f64 m2] 0 _ LB4.out)
  simp [sets] at hk0 hk1
  go_wp2;refine bodyPost_ret (v:=.agg #[.float .f64 m1,.float .f64 m2]) (by simp [results,Tryz.results62,go_sem,hk0,hk1]) rfl ?_
  exact⟨rfl,F.out⟩
 ·rw [if_pos hcc]
  dsimp only
  rw [pat_max,pat_min];rw [show compare z1 z2=.gt from Int.compare_eq_gt.2 hc] at ho;clear hc hcc;obtain⟨LB0,LG0_0,LG1_0,LR⟩:=bx3 w #[.float .f64 p1,.float .f64 p2] 28 #[.float .f64 q1,.float .f64 q2] 28 #[.float .f64 0,.float .f64 0] 28;have LR0:=Hd (HasBlk.of (n:=2) LR.out rfl rfl);clear LR
  go_enter Tryz.func62,Tryz.ntmps62
  go_wp2_with fail;refine (HB.out _).mono ?_;rintro e w1 ⟨rfl,hb1⟩;have LB1:=stB LB0 hb1 LB0.out.size;have LR1:=stR LR0 hb1;have LG0_1:=stG LG0_0 hb1;have LG1_1:=stG LG1_0 hb1;clear LB0 LR0 LG0_0 LG1_0;clear hb1;obtain⟨q0_0,q0_1⟩:=LG0_1.out.c2;obtain⟨q1_0,q1_1⟩:=LG1_1.out.c2;have hf00:=LG0_1.out.frozen 0;have hf01:=LG0_1.out.frozen 1;have hf10:=LG1_1.out.frozen 0;have hf11:=LG1_1.out.frozen 1
  go_upto_region 2 with fail
  clear q0_0 q0_1 q1_0 q1_1 hf00 hf01 hf10 hf11;have LB2:=Hd (below_sets (w0:=w) (show w.heap.size≤w.heap.size by omega) [.float .f64 p1,.float .f64 p2] 0 w1 LB1.out);have LR2:=Hd (LR1.out.other (r:=w.heap.size) (by omega) 0 [.float .f64 p1,.float .f64 p2]);have LG0_2:=Hd (show Blk (sets w1 w.heap.size 0 [.float .f64 p1,.float .f64 p2]) w.heap.size 28 #[.float .f64 p1,.float .f64 p2] from by have hbs:=Blk.sets [.float .f64 p1,.float .f64 p2] 0 w1 _ LG0_1.out;simpa [laid] using hbs);have LG1_2:=Hd (LG1_1.out.other (r:=w.heap.size) (by omega) 0 [.float .f64 p1,.float .f64 p2]);clear LB1 LR1 LG0_1 LG1_1
  obtain⟨V1,hV1⟩:∃ X,(sets w1 w.heap.size 0 [.float .f64 p1,.float .f64 p2])=X:=⟨_,rfl⟩
  rw [hV1] at LB2 LR2 LG0_2 LG1_2;rw [show ((w1.setCell ⟨w.heap.size,0,none⟩ (.float .f64 p1)).setCell ⟨w.heap.size,1,none⟩ (.float .f64 p2))=V1 from hV1];clear hV1;have LB3:=Hd (below_sets (w0:=w) (show w.heap.size≤(w.heap.size+1) by omega) [.float .f64 q1,.float .f64 q2] 0 V1 LB2.out);have LR3:=Hd (LR2.out.other (r:=(w.heap.size+1)) (by omega) 0 [.float .f64 q1,.float .f64 q2]);have LG0_3:=Hd (LG0_2.out.other (r:=(w.heap.size+1)) (by omega) 0 [.float .f64 q1,.float .f64 q2]);have LG1_3:=Hd (show Blk (sets V1 (w.heap.size+1) 0 [.float .f64 q1,.float .f64 q2]) (w.heap.size+1) 28 #[.float .f64 q1,.float .f64 q2] from by have hbs:=Blk.sets [.float .f64 q1,.float .f64 q2] 0 V1 _ LG1_2.out;simpa [laid] using hbs);clear LB2 LR2 LG0_2 LG1_2
  obtain⟨V2,hV2⟩:∃ X,(sets V1 (w.heap.size+1) 0 [.float .f64 q1,.float .f64 q2])=X:=⟨_,rfl⟩
  rw [hV2] at LB3 LR3 LG0_3 LG1_3;rw [show ((V1.setCell ⟨(w.heap.size+1),0,none⟩ (.float .f64 q1)).setCell ⟨(w.heap.size+1),1,none⟩ (.float .f64 q2))=V2 from hV2];clear hV2;obtain⟨q0_0,q0_1⟩:=LG0_3.out.c2;obtain⟨q1_0,q1_1⟩:=LG1_3.out.c2
  go_upto_region 3 with fail
  clear q0_0 q0_1 q1_0 q1_1;have hlt4:=LR3.out.lt;have LB4:=Hd (LB3.out.alloc LB3.out.size (.cells #[.float .f64 m1,.float .f64 m2] 28));have LR4:=Hd (LR3.out.alloc (.cells #[.float .f64 m1,.float .f64 m2] 28));have LG0_4:=Hd (LG0_3.out.alloc (.cells #[.float .f64 m1,.float .f64 m2] 28));have LG1_4:=Hd (LG1_3.out.alloc (.cells #[.float .f64 m1,.float .f64 m2] 28));have LG2_4:=Hd (Blk.new V2 28 #[.float .f64 m1,.float .f64 m2]);clear LB3 LR3 LG0_3 LG1_3
  obtain⟨V3,hV3⟩:∃ X,(V2.alloc (.cells #[.float .f64 m1,.float .f64 m2] 28))=X:=⟨_,rfl⟩
  rw [hV3] at LB4 LR4 LG0_4 LG1_4 LG2_4 ⊢;clear hV3;obtain⟨q2_0,q2_1⟩:=LG2_4.out.c2;go_wp2_with fail;refine (HE.out _).mono ?_;rintro e w4 ⟨rfl,hb4⟩;have LB5:=stB LB4 hb4 LB4.out.size;have LR5:=stR LR4 hb4;have LG0_5:=stG LG0_4 hb4;have LG1_5:=stG LG1_4 hb4;have LG2_5:=stG LG2_4 hb4;clear LB4 LR4 LG0_4 LG1_4 LG2_4;clear hmx hmn hb4 q2_0 q2_1;obtain⟨ha0,hf0,ha1,hf1⟩:=LR5.out.sf2;obtain⟨hk0,hk1⟩:=LR5.out.sc2 (.float .f64 9218868437227405312) (.float .f64 18442240474082181120);have F:=Hd (below_sets (w0:=w) (r:=(w.heap.size+2)) (by omega) [.float .f64 9218868437227405312,.float .f64 18442240474082181120] 0 _ LB5.out)
  simp [sets] at hk0 hk1
  go_wp2;refine bodyPost_ret (v:=.agg #[.float .f64 9218868437227405312,.float .f64 18442240474082181120]) (by simp [results,Tryz.results62,go_sem,hk0,hk1]) rfl ?_
  exact⟨rfl,F.out⟩
 ·rw [if_pos hcc]
  dsimp only
  rw [pat_max,pat_min]
  have hkq:(kk == 0)=false:=by simp;exact hk
  clear hcc;obtain⟨LB0,LG0_0,LG1_0,LR⟩:=bx3 w #[.float .f64 p1,.float .f64 p2] 28 #[.float .f64 q1,.float .f64 q2] 28 #[.float .f64 0,.float .f64 0] 28;have LR0:=Hd (HasBlk.of (n:=2) LR.out rfl rfl);clear LR
  go_enter Tryz.func62,Tryz.ntmps62
  go_wp2_with fail;refine (HB.out _).mono ?_;rintro e w1 ⟨rfl,hb1⟩;have LB1:=stB LB0 hb1 LB0.out.size;have LR1:=stR LR0 hb1;have LG0_1:=stG LG0_0 hb1;have LG1_1:=stG LG1_0 hb1;clear LB0 LR0 LG0_0 LG1_0;clear hb1;obtain⟨q0_0,q0_1⟩:=LG0_1.out.c2;obtain⟨q1_0,q1_1⟩:=LG1_1.out.c2;have hf00:=LG0_1.out.frozen 0;have hf01:=LG0_1.out.frozen 1;have hf10:=LG1_1.out.frozen 0;have hf11:=LG1_1.out.frozen 1
  go_upto_region 2 with fail
  clear q0_0 q0_1 q1_0 q1_1 hf00 hf01 hf10 hf11;have LB2:=Hd (below_sets (w0:=w) (show w.heap.size≤w.heap.size by omega) [.float .f64 p1,.float .f64 p2] 0 w1 LB1.out);have LR2:=Hd (LR1.out.other (r:=w.heap.size) (by omega) 0 [.float .f64 p1,.float .f64 p2]);have LG0_2:=Hd (show Blk (sets w1 w.heap.size 0 [.float .f64 p1,.float .f64 p2]) w.heap.size 28 #[.float .f64 p1,.float .f64 p2] from by have hbs:=Blk.sets [.float .f64 p1,.float .f64 p2] 0 w1 _ LG0_1.out;simpa [laid] using hbs);have LG1_2:=Hd (LG1_1.out.other (r:=w.heap.size) (by omega) 0 [.float .f64 p1,.float .f64 p2]);clear LB1 LR1 LG0_1 LG1_1
  obtain⟨V1,hV1⟩:∃ X,(sets w1 w.heap.size 0 [.float .f64 p1,.float .f64 p2])=X:=⟨_,rfl⟩
  rw [hV1] at LB2 LR2 LG0_2 LG1_2;rw [show ((w1.setCell ⟨w.heap.size,0,none⟩ (.float .f64 p1)).setCell ⟨w.heap.size,1,none⟩ (.float .f64 p2))=V1 from hV1];clear hV1;have LB3:=Hd (below_sets (w0:=w) (show w.heap.size≤(w.heap.size+1) by omega) [.float .f64 q1,.float .f64 q2] 0 V1 LB2.out);have LR3:=Hd (LR2.out.other (r:=(w.heap.size+1)) (by omega) 0 [.float .f64 q1,.float .f64 q2]);have LG0_3:=Hd (LG0_2.out.other (r:=(w.heap.size+1)) (by omega) 0 [.float .f64 q1,.float .f64 q2]);have LG1_3:=Hd (show Blk (sets V1 (w.heap.size+1) 0 [.float .f64 q1,.float .f64 q2]) (w.heap.size+1) 28 #[.float .f64 q1,.float .f64 q2] from by have hbs:=Blk.sets [.float .f64 q1,.float .f64 q2] 0 V1 _ LG1_2.out;simpa [laid] using hbs);clear LB2 LR2 LG0_2 LG1_2
  obtain⟨V2,hV2⟩:∃ X,(sets V1 (w.heap.size+1) 0 [.float .f64 q1,.float .f64 q2])=X:=⟨_,rfl⟩
  rw [hV2] at LB3 LR3 LG0_3 LG1_3;rw [show ((V1.setCell ⟨(w.heap.size+1),0,none⟩ (.float .f64 q1)).setCell ⟨(w.heap.size+1),1,none⟩ (.float .f64 q2))=V2 from hV2];clear hV2;obtain⟨q0_0,q0_1⟩:=LG0_3.out.c2;obtain⟨q1_0,q1_1⟩:=LG1_3.out.c2
  go_upto_region 3 with fail
  clear q0_0 q0_1 q1_0 q1_1;have hlt4:=LR3.out.lt;have LB4:=Hd (LB3.out.alloc LB3.out.size (.cells #[.float .f64 m1,.float .f64 m2] 28));have LR4:=Hd (LR3.out.alloc (.cells #[.float .f64 m1,.float .f64 m2] 28));have LG0_4:=Hd (LG0_3.out.alloc (.cells #[.float .f64 m1,.float .f64 m2] 28));have LG1_4:=Hd (LG1_3.out.alloc (.cells #[.float .f64 m1,.float .f64 m2] 28));have LG2_4:=Hd (Blk.new V2 28 #[.float .f64 m1,.float .f64 m2]);clear LB3 LR3 LG0_3 LG1_3
  obtain⟨V3,hV3⟩:∃ X,(V2.alloc (.cells #[.float .f64 m1,.float .f64 m2] 28))=X:=⟨_,rfl⟩
  rw [hV3] at LB4 LR4 LG0_4 LG1_4 LG2_4 ⊢;clear hV3;obtain⟨q2_0,q2_1⟩:=LG2_4.out.c2;go_wp2_with fail;refine (HE.out _).mono ?_;rintro e w4 ⟨rfl,hb4⟩;have LB5:=stB LB4 hb4 LB4.out.size;have LR5:=stR LR4 hb4;have LG0_5:=stG LG0_4 hb4;have LG1_5:=stG LG1_4 hb4;have LG2_5:=stG LG2_4 hb4;clear LB4 LR4 LG0_4 LG1_4 LG2_4;clear hmx hmn hb4 q2_0 q2_1;obtain⟨ha0,hf0,ha1,hf1⟩:=LR5.out.sf2;obtain⟨hk0,hk1⟩:=LR5.out.sc2 (.float .f64 9218868437227405312) (.float .f64 18442240474082181120);have F:=Hd (below_sets (w0:=w) (r:=(w.heap.size+2)) (by omega) [.float .f64 9218868437227405312,.float .f64 18442240474082181120] 0 _ LB5.out)
  simp [sets] at hk0 hk1
  go_wp2;refine bodyPost_ret (v:=.agg #[.float .f64 9218868437227405312,.float .f64 18442240474082181120]) (by simp [results,Tryz.results62,go_sem,hk0,hk1]) rfl ?_
  exact⟨rfl,F.out⟩
end Go.Proofs.YthlmlmfebpjgdaaGreatDoor
