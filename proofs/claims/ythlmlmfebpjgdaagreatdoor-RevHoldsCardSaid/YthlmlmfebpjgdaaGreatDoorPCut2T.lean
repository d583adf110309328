/-
Walks: package rev, cut of whatever is open.
Plain: quotients by ends, as the program rounds them and as the reference has them.
Boxes of two floats; what a call leaves as it was but three blocks.
-/
import Derived.Test.YthlmlmfebpjgdaaGreatDoorM03
import Derived.Test.YthlmlmfebpjgdaaGreatDoorM13
import Derived.Test.YthlmlmfebpjgdaaGreatDoorPIntsT
import Derived.Test.YthlmlmfebpjgdaaGreatDoorM07
import Derived.Deep.DeepCutAuto
import Derived.Test.YthlmlmfebpjgdaaGreatDoorM15
set_option linter.unusedSimpArgs false
set_option linter.unusedVariables false
set_option maxHeartbeats 12800000
namespace Go.Proofs.YthlmlmfebpjgdaaGreatDoor
open Go.RowKit
attribute [local go_sem] run_store_float run_eqf
theorem not_gt2{i j:Int}(hi:-(M:Int)≤i∧i≤M)(hj:-(M:Int)≤j∧j≤M)(h:¬ j<i):(FloatKind.f64.format.order (pat i) (pat j) == some Ordering.gt)=false:=by
 rw [order_pat hi.1 hi.2 hj.1 hj.2]
 rcases Int.lt_trichotomy i j with h2 | h2 | h2
 ·rw [Int.compare_eq_lt.2 h2];rfl
 ·rw [Int.compare_eq_eq.2 h2];rfl
 ·exact absurd h2 h
theorem not_lt2{i j:Int}(hi:-(M:Int)≤i∧i≤M)(hj:-(M:Int)≤j∧j≤M)(h:¬ i<j):(FloatKind.f64.format.order (pat i) (pat j) == some Ordering.lt)=false:=by
 rw [order_pat hi.1 hi.2 hj.1 hj.2]
 rcases Int.lt_trichotomy i j with h2 | h2 | h2
 ·exact absurd h2 h
 ·rw [Int.compare_eq_eq.2 h2];rfl
 ·rw [Int.compare_eq_gt.2 h2];rfl
theorem rcut2_gt(op:Bool)(i j pd pu qd qu:Nat)(w:World)(o1:FloatKind.f64.format.order i qd=some .gt):
  Calls Tryz.prog 77 #[.agg #[.float .f64 i,.float .f64 j],.agg #[.float .f64 pd,.float .f64 pu],.agg #[.float .f64 qd,.float .f64 qu],.bool op] w fun e w'=>e=.returned (.agg #[.float .f64 9218868437227405312,.float .f64 18442240474082181120])∧Below w.heap.size w w':=by
 obtain⟨LB0,LG0_0,LG1_0,LG2_0,LR⟩:=bx4 w #[.float .f64 i,.float .f64 j] 28 #[.float .f64 pd,.float .f64 pu] 78 #[.float .f64 qd,.float .f64 qu] 78 #[.float .f64 0,.float .f64 0] 28;have LR0:=Hd (HasBlk.of (n:=2) LR.out rfl rfl);clear LR;have HE:=Hd emptyf
 go_enter Tryz.func77,Tryz.ntmps77
 obtain⟨q0_0,q0_1⟩:=LG0_0.out.c2;obtain⟨q1_0,q1_1⟩:=LG1_0.out.c2;obtain⟨q2_0,q2_1⟩:=LG2_0.out.c2;go_wp2_with fail;refine (HE.out _).mono ?_;rintro e w1 ⟨rfl,hb1⟩;have LB1:=stB LB0 hb1 LB0.out.size;have LR1:=stR LR0 hb1;have LG0_1:=stG LG0_0 hb1;have LG1_1:=stG LG1_0 hb1;have LG2_1:=stG LG2_0 hb1;clear LB0 LR0 LG0_0 LG1_0 LG2_0;clear hb1 HE;obtain⟨ha0,hf0,ha1,hf1⟩:=LR1.out.sf2;obtain⟨hk0,hk1⟩:=LR1.out.sc2 (.float .f64 9218868437227405312) (.float .f64 18442240474082181120);have F:=Hd (below_sets (w0:=w) (r:=(w.heap.size+3)) (by omega) [.float .f64 9218868437227405312,.float .f64 18442240474082181120] 0 _ LB1.out)
 simp [sets] at hk0 hk1
 go_wp2;refine bodyPost_ret (v:=.agg #[.float .f64 9218868437227405312,.float .f64 18442240474082181120]) (by simp [results,Tryz.results77,go_sem,hk0,hk1]) rfl ?_
 exact⟨rfl,F.out⟩
theorem rcut2_lt(op:Bool)(i j pd pu qd qu:Nat)(w:World)(o1:(FloatKind.f64.format.order i qd == some Ordering.gt)=false)(o2:FloatKind.f64.format.order j pu=some .lt):
  Calls Tryz.prog 77 #[.agg #[.float .f64 i,.float .f64 j],.agg #[.float .f64 pd,.float .f64 pu],.agg #[.float .f64 qd,.float .f64 qu],.bool op] w fun e w'=>e=.returned (.agg #[.float .f64 9218868437227405312,.float .f64 18442240474082181120])∧Below w.heap.size w w':=by
 obtain⟨LB0,LG0_0,LG1_0,LG2_0,LR⟩:=bx4 w #[.float .f64 i,.float .f64 j] 28 #[.float .f64 pd,.float .f64 pu] 78 #[.float .f64 qd,.float .f64 qu] 78 #[.float .f64 0,.float .f64 0] 28;have LR0:=Hd (HasBlk.of (n:=2) LR.out rfl rfl);clear LR;have HE:=Hd emptyf
 go_enter Tryz.func77,Tryz.ntmps77
 obtain⟨q0_0,q0_1⟩:=LG0_0.out.c2;obtain⟨q1_0,q1_1⟩:=LG1_0.out.c2;obtain⟨q2_0,q2_1⟩:=LG2_0.out.c2;go_wp2_with fail;refine (HE.out _).mono ?_;rintro e w1 ⟨rfl,hb1⟩;have LB1:=stB LB0 hb1 LB0.out.size;have LR1:=stR LR0 hb1;have LG0_1:=stG LG0_0 hb1;have LG1_1:=stG LG1_0 hb1;have LG2_1:=stG LG2_0 hb1;clear LB0 LR0 LG0_0 LG1_0 LG2_0;clear hb1 HE;obtain⟨ha0,hf0,ha1,hf1⟩:=LR1.out.sf2;obtain⟨hk0,hk1⟩:=LR1.out.sc2 (.float .f64 9218868437227405312) (.float .f64 18442240474082181120);have F:=Hd (below_sets (w0:=w) (r:=(w.heap.size+3)) (by omega) [.float .f64 9218868437227405312,.float .f64 18442240474082181120] 0 _ LB1.out)
 simp [sets] at hk0 hk1
 go_wp2;refine bodyPost_ret (v:=.agg #[.float .f64 9218868437227405312,.float .f64 18442240474082181120]) (by simp [results,Tryz.results77,go_sem,hk0,hk1]) rfl ?_
 exact⟨rfl,F.out⟩
def CutC(op:Bool)(i j pd pu qd qu:Nat)(cc:Bool):Prop:=
 (op=false∧cc=false)∨(op=true∧cc=true∧(FloatKind.f64.format.order pd 0=some .eq∧FloatKind.f64.format.order pu 0=some .eq)∧(FloatKind.f64.format.order j 0=some .lt∨FloatKind.f64.format.order j 0=some .eq))∨(op=true∧((FloatKind.f64.format.order pd 0 == some Ordering.eq)=false∨(FloatKind.f64.format.order pd 0=some .eq∧(FloatKind.f64.format.order pu 0 == some Ordering.eq)=false)∨(FloatKind.f64.format.order pd 0=some .eq∧FloatKind.f64.format.order pu 0=some .eq∧FloatKind.f64.format.order j 0=some .gt))∧cc=true∧(FloatKind.f64.format.order qd 0=some .eq∧FloatKind.f64.format.order qu 0=some .eq)∧(FloatKind.f64.format.order i 0=some .gt∨FloatKind.f64.format.order i 0=some .eq))∨(op=true∧((FloatKind.f64.format.order pd 0 == some Ordering.eq)=false∨(FloatKind.f64.format.order pd 0=some .eq∧(FloatKind.f64.format.order pu 0 == some Ordering.eq)=false)∨(FloatKind.f64.format.order pd 0=some .eq∧FloatKind.f64.format.order pu 0=some .eq∧FloatKind.f64.format.order j 0=some .gt))∧cc=false∧((FloatKind.f64.format.order qd 0 == some Ordering.eq)=false∨(FloatKind.f64.format.order qd 0=some .eq∧(FloatKind.f64.format.order qu 0 == some Ordering.eq)=false)∨(FloatKind.f64.format.order qd 0=some .eq∧FloatKind.f64.format.order qu 0=some .eq∧FloatKind.f64.format.order i 0=some .lt)))
theorem rcut2_in(op:Bool)(i j pd pu qd qu a b:Nat)(w:World)(o1:(FloatKind.f64.format.order i qd == some Ordering.gt)=false)(o2:(FloatKind.f64.format.order j pu == some Ordering.lt)=false)(cc:Bool)(hc:CutC op i j pd pu qd qu cc)(m1:∀ W ts t,(Builtin.max_ ts t #[.float .f64 i,.float .f64 pd]).run Tryz.prog W=.ok (.float .f64 a) W)(m2:∀ W ts t,(Builtin.min_ ts t #[.float .f64 j,.float .f64 qu]).run Tryz.prog W=.ok (.float .f64 b) W):
  Calls Tryz.prog 77 #[.agg #[.float .f64 i,.float .f64 j],.agg #[.float .f64 pd,.float .f64 pu],.agg #[.float .f64 qd,.float .f64 qu],.bool op] w fun e w'=>e=.returned (.agg #[.float .f64 (if cc then 9218868437227405312 else a),.float .f64 (if cc then 18442240474082181120 else b)])∧Below w.heap.size w w':=by
 obtain⟨LB0,LG0_0,LG1_0,LG2_0,LR⟩:=bx4 w #[.float .f64 i,.float .f64 j] 28 #[.float .f64 pd,.float .f64 pu] 78 #[.float .f64 qd,.float .f64 qu] 78 #[.float .f64 0,.float .f64 0] 28;have LR0:=Hd (HasBlk.of (n:=2) LR.out rfl rfl);clear LR;have HA:=Hd fun W=>at_any 0 W;have HE:=Hd emptyf;have HC:=Hd hc;have M1:=Hd m1;have M2:=Hd m2;clear hc m1 m2
 go_enter Tryz.func77,Tryz.ntmps77
 obtain⟨q0_0,q0_1⟩:=LG0_0.out.c2;obtain⟨q1_0,q1_1⟩:=LG1_0.out.c2;obtain⟨q2_0,q2_1⟩:=LG2_0.out.c2
 go_upto_region 3 with fail
 clear o1 o2 q0_0 q0_1 q1_0 q1_1 q2_0 q2_1
 obtain⟨W0,hW0⟩:∃ X,((((w.alloc (.cells #[.float .f64 i,.float .f64 j] 28)).alloc (.cells #[.float .f64 pd,.float .f64 pu] 78)).alloc (.cells #[.float .f64 qd,.float .f64 qu] 78)).alloc (.cells #[.float .f64 0,.float .f64 0] 28))=X:=⟨_,rfl⟩
 rw [hW0] at LB0 LR0 LG0_0 LG1_0 LG2_0 ⊢;clear hW0
 go_cut [42] (fun s42 wx=>s42=.bool cc∧Blk wx (w.heap.size) 28 #[.float .f64 i,.float .f64 j]∧Blk wx (w.heap.size+1) 78 #[.float .f64 pd,.float .f64 pu]∧Blk wx (w.heap.size+2) 78 #[.float .f64 qd,.float .f64 qu]∧HasBlk wx (w.heap.size+3) 28 2∧Below w.heap.size w wx)
 case first=>
  have hc:=HC.out;clear HC HE M1 M2
  rcases hc with ⟨rfl,rfl⟩ | ⟨rfl,rfl,⟨z1,z2⟩,(z3 | z3)⟩ | ⟨rfl,(z1 | ⟨z1,z2⟩ | ⟨z1,z2,z3⟩),rfl,⟨z4,z5⟩,(z6 | z6)⟩ | ⟨rfl,(z1 | ⟨z1,z2⟩ | ⟨z1,z2,z3⟩),rfl,(z4 | ⟨z4,z5⟩ | ⟨z4,z5,z6⟩)⟩
  all_goals
   refine wp_region_held_drew (S:=fun W'=>Blk W' w.heap.size 28 #[.float .f64 i,.float .f64 j]∧Blk W' (w.heap.size+1) 78 #[.float .f64 pd,.float .f64 pu]∧Blk W' (w.heap.size+2) 78 #[.float .f64 qd,.float .f64 qu]∧HasBlk W' (w.heap.size+3) 28 2∧Below w.heap.size w W') (by kernel_rfl) (by exact⟨LG0_0.out.drew,LG1_0.out.drew,LG2_0.out.drew,LR0.out.drew,LB0.out.drew⟩) (fun hHeld=>?_)
   (refine wpAnyH_take (i:=0) (v:=?_) rfl (by kernel_rfl) (by kernel_rfl) (by kernel_rfl) (fun _ _ _ h=>h) (Or.inl ⟨by rfl,?_⟩) (by assumption) ?_;rotate_left;· (intro W2 hSw;go_simp;(try with_reducible rfl)))
   (try simp only [Act.put,lay])
   (refine wpAnyH_take (i:=1) (v:=?_) rfl (by kernel_rfl) (by kernel_rfl) (by kernel_rfl) (fun _ _ _ h=>h) (Or.inl ⟨by rfl,?_⟩) (by assumption) ?_;rotate_left;· (intro W2 hSw;go_simp;(try with_reducible rfl)))
   (try simp only [Act.put,lay])
   first | (refine wpAnyH_take (i:=2) (v:=undef) rfl (by kernel_rfl) (by kernel_rfl) (by kernel_rfl) (fun _ _ _ h=>h) (Or.inr ⟨by rfl,rfl⟩) (by assumption) ?_) | (refine wpAnyH_take (i:=2) (v:=?_) rfl (by kernel_rfl) (by kernel_rfl) (by kernel_rfl) (fun _ _ _ h=>h) (Or.inl ⟨by rfl,?_⟩) (by assumption) ?_;rotate_left;· (intro W2 hSw;(try dsimp only at hSw);have q0:_=some (.float .f64 pd:Value):=hSw.2.1.cell 0;have q1:_=some (.float .f64 pu:Value):=hSw.2.1.cell 1;go_simp;(try with_reducible rfl)))
   (try simp only [Act.put,lay])
   first | (refine wpAnyH_take (i:=3) (v:=undef) rfl (by kernel_rfl) (by kernel_rfl) (by kernel_rfl) (fun _ _ _ h=>h) (Or.inr ⟨by rfl,rfl⟩) (by assumption) ?_) | (refine wpAnyH_ready (rs:=[3]) (by kernel_rfl) (by simp) ?_;refine AllReadyH.cons rfl (fun KK hKK=>?_) AllReadyH.nil;go_simp;refine (HA.out _).mono ?_;rintro e w1 ⟨rfl,hbA⟩;go_wp2_with fail;refine hKK.out _ _ (⟨hHeld.1.keep hbA,hHeld.2.1.keep hbA,hHeld.2.2.1.keep hbA,hHeld.2.2.2.1.keep hbA,hHeld.2.2.2.2.trans (hbA.mono hHeld.2.2.2.2.size)⟩) (fun _=>?_);clear hKK KK hHeld;rename_i hHeld)
   (try simp only [Act.put,lay])
   first | (refine wpAnyH_take (i:=4) (v:=undef) rfl (by kernel_rfl) (by kernel_rfl) (by kernel_rfl) (fun _ _ _ h=>h) (Or.inr ⟨by rfl,rfl⟩) (by assumption) ?_) | (refine wpAnyH_take (i:=4) (v:=?_) rfl (by kernel_rfl) (by kernel_rfl) (by kernel_rfl) (fun _ _ _ h=>h) (Or.inl ⟨by rfl,?_⟩) (by assumption) ?_;rotate_left;· (intro W2 hSw;go_simp;(try with_reducible rfl)))
   (try simp only [Act.put,lay])
   first | (refine wpAnyH_take (i:=5) (v:=undef) rfl (by kernel_rfl) (by kernel_rfl) (by kernel_rfl) (fun _ _ _ h=>h) (Or.inr ⟨by rfl,rfl⟩) (by assumption) ?_) | (refine wpAnyH_take (i:=5) (v:=?_) rfl (by kernel_rfl) (by kernel_rfl) (by kernel_rfl) (fun _ _ _ h=>h) (Or.inl ⟨by rfl,?_⟩) (by assumption) ?_;rotate_left;· (intro W2 hSw;go_simp;(try with_reducible rfl)))
   (try simp only [Act.put,lay])
   first | (refine wpAnyH_take (i:=6) (v:=undef) rfl (by kernel_rfl) (by kernel_rfl) (by kernel_rfl) (fun _ _ _ h=>h) (Or.inr ⟨by rfl,rfl⟩) (by assumption) ?_) | (refine wpAnyH_take (i:=6) (v:=?_) rfl (by kernel_rfl) (by kernel_rfl) (by kernel_rfl) (fun _ _ _ h=>h) (Or.inl ⟨by rfl,?_⟩) (by assumption) ?_;rotate_left;· (intro W2 hSw;go_simp;(try with_reducible rfl)))
   (try simp only [Act.put,lay])
   first | (refine wpAnyH_take (i:=7) (v:=undef) rfl (by kernel_rfl) (by kernel_rfl) (by kernel_rfl) (fun _ _ _ h=>h) (Or.inr ⟨by rfl,rfl⟩) (by assumption) ?_) | (refine wpAnyH_take (i:=7) (v:=?_) rfl (by kernel_rfl) (by kernel_rfl) (by kernel_rfl) (fun _ _ _ h=>h) (Or.inl ⟨by rfl,?_⟩) (by assumption) ?_;rotate_left;· (intro W2 hSw;(try dsimp only at hSw);have q0:_=some (.float .f64 i:Value):=hSw.1.cell 0;have q1:_=some (.float .f64 j:Value):=hSw.1.cell 1;go_simp;(try with_reducible rfl)))
   (try simp only [Act.put,lay])
   first | (refine wpAnyH_take (i:=8) (v:=undef) rfl (by kernel_rfl) (by kernel_rfl) (by kernel_rfl) (fun _ _ _ h=>h) (Or.inr ⟨by rfl,rfl⟩) (by assumption) ?_) | (refine wpAnyH_take (i:=8) (v:=?_) rfl (by kernel_rfl) (by kernel_rfl) (by kernel_rfl) (fun _ _ _ h=>h) (Or.inl ⟨by rfl,?_⟩) (by assumption) ?_;rotate_left;· (intro W2 hSw;go_simp;(try with_reducible rfl)))
   (try simp only [Act.put,lay])
   first | (refine wpAnyH_take (i:=9) (v:=undef) rfl (by kernel_rfl) (by kernel_rfl) (by kernel_rfl) (fun _ _ _ h=>h) (Or.inr ⟨by rfl,rfl⟩) (by assumption) ?_) | (refine wpAnyH_take (i:=9) (v:=?_) rfl (by kernel_rfl) (by kernel_rfl) (by kernel_rfl) (fun _ _ _ h=>h) (Or.inl ⟨by rfl,?_⟩) (by assumption) ?_;rotate_left;· (intro W2 hSw;go_simp;(try with_reducible rfl)))
   (try simp only [Act.put,lay])
   first | (refine wpAnyH_take (i:=10) (v:=undef) rfl (by kernel_rfl) (by kernel_rfl) (by kernel_rfl) (fun _ _ _ h=>h) (Or.inr ⟨by rfl,rfl⟩) (by assumption) ?_) | (refine wpAnyH_take (i:=10) (v:=?_) rfl (by kernel_rfl) (by kernel_rfl) (by kernel_rfl) (fun _ _ _ h=>h) (Or.inl ⟨by rfl,?_⟩) (by assumption) ?_;rotate_left;· (intro W2 hSw;go_simp;(try with_reducible rfl)))
   (try simp only [Act.put,lay])
   first | (refine wpAnyH_take (i:=11) (v:=undef) rfl (by kernel_rfl) (by kernel_rfl) (by kernel_rfl) (fun _ _ _ h=>h) (Or.inr ⟨by rfl,rfl⟩) (by assumption) ?_) | (refine wpAnyH_take (i:=11) (v:=?_) rfl (by kernel_rfl) (by kernel_rfl) (by kernel_rfl) (fun _ _ _ h=>h) (Or.inl ⟨by rfl,?_⟩) (by assumption) ?_;rotate_left;· (intro W2 hSw;(try dsimp only at hSw);have q0:_=some (.float .f64 qd:Value):=hSw.2.2.1.cell 0;have q1:_=some (.float .f64 qu:Value):=hSw.2.2.1.cell 1;go_simp;(try with_reducible rfl)))
   (try simp only [Act.put,lay])
   first | (refine wpAnyH_take (i:=12) (v:=undef) rfl (by kernel_rfl) (by kernel_rfl) (by kernel_rfl) (fun _ _ _ h=>h) (Or.inr ⟨by rfl,rfl⟩) (by assumption) ?_) | (refine wpAnyH_ready (rs:=[12]) (by kernel_rfl) (by simp) ?_;refine AllReadyH.cons rfl (fun KK hKK=>?_) AllReadyH.nil;go_simp;refine (HA.out _).mono ?_;rintro e w2 ⟨rfl,hbB⟩;go_wp2_with fail;refine hKK.out _ _ (⟨hHeld.1.keep hbB,hHeld.2.1.keep hbB,hHeld.2.2.1.keep hbB,hHeld.2.2.2.1.keep hbB,hHeld.2.2.2.2.trans (hbB.mono hHeld.2.2.2.2.size)⟩) (fun _=>?_);clear hKK KK hHeld;rename_i hHeld)
   (try simp only [Act.put,lay])
   first | (refine wpAnyH_take (i:=13) (v:=undef) rfl (by kernel_rfl) (by kernel_rfl) (by kernel_rfl) (fun _ _ _ h=>h) (Or.inr ⟨by rfl,rfl⟩) (by assumption) ?_) | (refine wpAnyH_take (i:=13) (v:=?_) rfl (by kernel_rfl) (by kernel_rfl) (by kernel_rfl) (fun _ _ _ h=>h) (Or.inl ⟨by rfl,?_⟩) (by assumption) ?_;rotate_left;· (intro W2 hSw;go_simp;(try with_reducible rfl)))
   (try simp only [Act.put,lay])
   first | (refine wpAnyH_take (i:=14) (v:=undef) rfl (by kernel_rfl) (by kernel_rfl) (by kernel_rfl) (fun _ _ _ h=>h) (Or.inr ⟨by rfl,rfl⟩) (by assumption) ?_) | (refine wpAnyH_take (i:=14) (v:=?_) rfl (by kernel_rfl) (by kernel_rfl) (by kernel_rfl) (fun _ _ _ h=>h) (Or.inl ⟨by rfl,?_⟩) (by assumption) ?_;rotate_left;· (intro W2 hSw;go_simp;(try with_reducible rfl)))
   (try simp only [Act.put,lay])
   first | (refine wpAnyH_take (i:=15) (v:=undef) rfl (by kernel_rfl) (by kernel_rfl) (by kernel_rfl) (fun _ _ _ h=>h) (Or.inr ⟨by rfl,rfl⟩) (by assumption) ?_) | (refine wpAnyH_take (i:=15) (v:=?_) rfl (by kernel_rfl) (by kernel_rfl) (by kernel_rfl) (fun _ _ _ h=>h) (Or.inl ⟨by rfl,?_⟩) (by assumption) ?_;rotate_left;· (intro W2 hSw;go_simp;(try with_reducible rfl)))
   (try simp only [Act.put,lay])
   first | (refine wpAnyH_take (i:=16) (v:=undef) rfl (by kernel_rfl) (by kernel_rfl) (by kernel_rfl) (fun _ _ _ h=>h) (Or.inr ⟨by rfl,rfl⟩) (by assumption) ?_) | (refine wpAnyH_take (i:=16) (v:=?_) rfl (by kernel_rfl) (by kernel_rfl) (by kernel_rfl) (fun _ _ _ h=>h) (Or.inl ⟨by rfl,?_⟩) (by assumption) ?_;rotate_left;· (intro W2 hSw;(try dsimp only at hSw);have q0:_=some (.float .f64 i:Value):=hSw.1.cell 0;have q1:_=some (.float .f64 j:Value):=hSw.1.cell 1;go_simp;(try with_reducible rfl)))
   (try simp only [Act.put,lay])
   first | (refine wpAnyH_take (i:=17) (v:=undef) rfl (by kernel_rfl) (by kernel_rfl) (by kernel_rfl) (fun _ _ _ h=>h) (Or.inr ⟨by rfl,rfl⟩) (by assumption) ?_) | (refine wpAnyH_take (i:=17) (v:=?_) rfl (by kernel_rfl) (by kernel_rfl) (by kernel_rfl) (fun _ _ _ h=>h) (Or.inl ⟨by rfl,?_⟩) (by assumption) ?_;rotate_left;· (intro W2 hSw;go_simp;(try with_reducible rfl)))
   (try simp only [Act.put,lay])
   first | (refine wpAnyH_take (i:=18) (v:=undef) rfl (by kernel_rfl) (by kernel_rfl) (by kernel_rfl) (fun _ _ _ h=>h) (Or.inr ⟨by rfl,rfl⟩) (by assumption) ?_) | (refine wpAnyH_take (i:=18) (v:=?_) rfl (by kernel_rfl) (by kernel_rfl) (by kernel_rfl) (fun _ _ _ h=>h) (Or.inl ⟨by rfl,?_⟩) (by assumption) ?_;rotate_left;· (intro W2 hSw;go_simp;(try with_reducible rfl)))
   (try simp only [Act.put,lay])
   first | (refine wpAnyH_take (i:=19) (v:=undef) rfl (by kernel_rfl) (by kernel_rfl) (by kernel_rfl) (fun _ _ _ h=>h) (Or.inr ⟨by rfl,rfl⟩) (by assumption) ?_) | (refine wpAnyH_take (i:=19) (v:=?_) rfl (by kernel_rfl) (by kernel_rfl) (by kernel_rfl) (fun _ _ _ h=>h) (Or.inl ⟨by rfl,?_⟩) (by assumption) ?_;rotate_left;· (intro W2 hSw;go_simp;(try with_reducible rfl)))
   (try simp only [Act.put,lay])
   (refine wpAnyH_take (i:=20) (v:=?_) rfl (by kernel_rfl) (by kernel_rfl) (by kernel_rfl) (fun _ _ _ h=>h) (Or.inl ⟨by rfl,?_⟩) (by assumption) ?_;rotate_left;· (intro W2 hSw;go_simp;(try with_reducible rfl)))
   (try simp only [Act.put,lay]);refine wpAnyH_done (by kernel_rfl) ?_ _;go_wp2_with fail
   go_meet
   case rel=>exact⟨rfl,hHeld⟩
 case rest=>
  obtain⟨rfl,g0,g1,g2,gr,gb⟩:=hcut;clear HC HA LB0 LR0 LG0_0 LG1_0 LG2_0;have LB1:=Hd gb;have LR1:=Hd gr;have LG0_1:=Hd g0;have LG1_1:=Hd g1;have LG2_1:=Hd g2;clear g0 g1 g2 gr gb
  cases cc
  ·have m1:=M1.out;have m2:=M2.out;clear HE M1 M2;obtain⟨q0_0,q0_1⟩:=LG0_1.out.c2;obtain⟨q1_0,q1_1⟩:=LG1_1.out.c2;obtain⟨q2_0,q2_1⟩:=LG2_1.out.c2;obtain⟨ha0,hf0,ha1,hf1⟩:=LR1.out.sf2;obtain⟨hk0,hk1⟩:=LR1.out.sc2 (.float .f64 a) (.float .f64 b);have F:=Hd (below_sets (w0:=w) (r:=(w.heap.size+3)) (by omega) [.float .f64 a,.float .f64 b] 0 _ LB1.out)
   simp [sets] at hk0 hk1
   go_wp2;refine bodyPost_ret (v:=.agg #[.float .f64 a,.float .f64 b]) (by simp [results,Tryz.results77,go_sem,hk0,hk1]) rfl ?_
   exact⟨rfl,F.out⟩
  ·clear M1 M2;go_wp2_with fail;refine (HE.out _).mono ?_;rintro e w1 ⟨rfl,hb1⟩;have LB2:=stB LB1 hb1 LB1.out.size;have LR2:=stR LR1 hb1;have LG0_2:=stG LG0_1 hb1;have LG1_2:=stG LG1_1 hb1;have LG2_2:=stG LG2_1 hb1;clear LB1 LR1 LG0_1 LG1_1 LG2_1;clear hb1 HE;obtain⟨ha0,hf0,ha1,hf1⟩:=LR2.out.sf2;obtain⟨hk0,hk1⟩:=LR2.out.sc2 (.float .f64 9218868437227405312) (.float .f64 18442240474082181120);have F:=Hd (below_sets (w0:=w) (r:=(w.heap.size+3)) (by omega) [.float .f64 9218868437227405312,.float .f64 18442240474082181120] 0 _ LB2.out)
   simp [sets] at hk0 hk1
   go_wp2;refine bodyPost_ret (v:=.agg #[.float .f64 9218868437227405312,.float .f64 18442240474082181120]) (by simp [results,Tryz.results77,go_sem,hk0,hk1]) rfl ?_
   exact⟨rfl,F.out⟩
def ctO(op:Bool)(i j pd pu qd qu:Int):Int × Int:=if qd<i∨j<pu then ((M:Int),-(M:Int)) else if op=true∧((pd=0∧pu=0∧j≤0)∨(qd=0∧qu=0∧0≤i)) then ((M:Int),-(M:Int)) else (max i pd,min j qu)
theorem ord0{i:Int}(hi:-(M:Int)≤i∧i≤M):FloatKind.f64.format.order (pat i) 0=some (compare i 0):=by
 have h:=order_pat hi.1 hi.2 (j:=0) (by omega) (by omega)
 rwa [pat_zero] at h
theorem ord0_eq{i:Int}(h:i=0):FloatKind.f64.format.order (pat i) 0=some .eq:=by rw [ord0 (by rw [h];omega),Int.compare_eq_eq.2 h]
theorem ord0_lt{i:Int}(hi:-(M:Int)≤i∧i≤M)(h:i<0):FloatKind.f64.format.order (pat i) 0=some .lt:=by rw [ord0 hi,Int.compare_eq_lt.2 h]
theorem ord0_gt{i:Int}(hi:-(M:Int)≤i∧i≤M)(h:0<i):FloatKind.f64.format.order (pat i) 0=some .gt:=by rw [ord0 hi,Int.compare_eq_gt.2 h]
theorem ord0_ne{i:Int}(hi:-(M:Int)≤i∧i≤M)(h:i≠0):(FloatKind.f64.format.order (pat i) 0 == some Ordering.eq)=false:=by
 rcases Int.lt_or_gt_of_ne h with h1 | h1
 ·rw [ord0_lt hi h1];rfl
 ·rw [ord0_gt hi h1];rfl
theorem rcut2_any(op:Bool)(i j pd pu qd qu:Int)(w:World)(hi:-(M:Int)≤i∧i≤M)(hj:-(M:Int)≤j∧j≤M)(h1:-(M:Int)≤pd∧pd≤M)(h2:-(M:Int)≤pu∧pu≤M)(h3:-(M:Int)≤qd∧qd≤M)(h4:-(M:Int)≤qu∧qu≤M):
  Calls Tryz.prog 77 #[.agg #[.float .f64 (pat i),.float .f64 (pat j)],.agg #[.float .f64 (pat pd),.float .f64 (pat pu)],.agg #[.float .f64 (pat qd),.float .f64 (pat qu)],.bool op] w
   fun e w'=>e=.returned (.agg #[.float .f64 (pat (ctO op i j pd pu qd qu).1),.float .f64 (pat (ctO op i j pd pu qd qu).2)])∧Below w.heap.size w w':=by
 unfold ctO
 by_cases c1:qd<i
 ·rw [if_pos (.inl c1),pat_max,pat_min]
  exact rcut2_gt op _ _ _ _ _ _ w (by rw [order_pat hi.1 hi.2 h3.1 h3.2,Int.compare_eq_gt.2 c1])
 ·by_cases c2:j<pu
  ·rw [if_pos (.inr c2),pat_max,pat_min]
   exact rcut2_lt op _ _ _ _ _ _ w (not_gt2 hi h3 c1) (by rw [order_pat hj.1 hj.2 h2.1 h2.2,Int.compare_eq_lt.2 c2])
  ·rw [if_neg (by omega)];have K:=fun cc hc=>rcut2_in op _ _ _ _ _ _ _ _ w (not_gt2 hi h3 c1) (not_lt2 hj h2 c2) cc hc (fun W ts t=>run_maxf hi h1 W ts t) (fun W ts t=>run_minf hj h4 W ts t)
   have hPN:¬ (pd=0∧pu=0∧j≤0)→(FloatKind.f64.format.order (pat pd) 0 == some Ordering.eq)=false∨(FloatKind.f64.format.order (pat pd) 0=some .eq∧(FloatKind.f64.format.order (pat pu) 0 == some Ordering.eq)=false)∨(FloatKind.f64.format.order (pat pd) 0=some .eq∧FloatKind.f64.format.order (pat pu) 0=some .eq∧FloatKind.f64.format.order (pat j) 0=some .gt):=fun h=>by
    by_cases a1:pd=0
    ·by_cases a2:pu=0
     ·exact .inr (.inr ⟨ord0_eq a1,ord0_eq a2,ord0_gt hj (by omega)⟩)
     ·exact .inr (.inl ⟨ord0_eq a1,ord0_ne h2 a2⟩)
    ·exact .inl (ord0_ne h1 a1)
   have hQN:¬ (qd=0∧qu=0∧0≤i)→(FloatKind.f64.format.order (pat qd) 0 == some Ordering.eq)=false∨(FloatKind.f64.format.order (pat qd) 0=some .eq∧(FloatKind.f64.format.order (pat qu) 0 == some Ordering.eq)=false)∨(FloatKind.f64.format.order (pat qd) 0=some .eq∧FloatKind.f64.format.order (pat qu) 0=some .eq∧FloatKind.f64.format.order (pat i) 0=some .lt):=fun h=>by
    by_cases a1:qd=0
    ·by_cases a2:qu=0
     ·exact .inr (.inr ⟨ord0_eq a1,ord0_eq a2,ord0_lt hi (by omega)⟩)
     ·exact .inr (.inl ⟨ord0_eq a1,ord0_ne h4 a2⟩)
    ·exact .inl (ord0_ne h3 a1)
   cases op
   ·rw [if_neg (by simp)]
    exact K false (.inl ⟨rfl,rfl⟩)
   ·by_cases c3:pd=0∧pu=0∧j≤0
    ·rw [if_pos ⟨rfl,.inl c3⟩,pat_max,pat_min];refine K true (.inr (.inl ⟨rfl,rfl,⟨ord0_eq c3.1,ord0_eq c3.2.1⟩,?_⟩))
     by_cases h0:j=0
     ·exact .inr (ord0_eq h0)
     ·exact .inl (ord0_lt hj (by omega))
    ·by_cases c4:qd=0∧qu=0∧0≤i
     ·rw [if_pos ⟨rfl,.inr c4⟩,pat_max,pat_min];refine K true (.inr (.inr (.inl ⟨rfl,hPN c3,rfl,⟨ord0_eq c4.1,ord0_eq c4.2.1⟩,?_⟩)))
      by_cases h0:i=0
      ·exact .inr (ord0_eq h0)
      ·exact .inl (ord0_gt hi (by omega))
     ·rw [if_neg (by rintro⟨-,h | h⟩;exact c3 h;exact c4 h)]
      exact K false (.inr (.inr (.inr ⟨rfl,hPN c3,rfl,hQN c4⟩)))
end Go.Proofs.YthlmlmfebpjgdaaGreatDoor
namespace Go.Proofs.YthlmlmfebpjgdaaGreatDoor
open Go.RowKit
theorem rsg_neg(x:Rat):rsg (-x)=- rsg x:=by
 unfold rsg
 by_cases h:x=0
 ·subst h;simp
 ·rw [if_neg h,if_neg (by grind)]
  by_cases h2:x<0
  ·rw [if_pos h2,if_neg (by grind)];rfl
  ·rw [if_neg h2,if_pos (by grind)]
theorem esx_neg(s:Int)(x:Rat):esx (-s) (-x)=- esx s x:=by
 unfold esx
 by_cases h:s=0
 ·subst h;simp [rsg_neg]
 ·rw [if_pos (by omega),if_pos h]
theorem rt_neg(s:Int)(x:Rat)(t:Int)(y:Rat):rt (-s) (-x) t y=(-(rt s x t y).1,-(rt s x t y).2.1,(rt s x t y).2.2):=by
 unfold rt;rw [esx_neg]
 by_cases h:esx s x=0
 ·rw [if_pos h,if_pos (by omega)];simp
 ·rw [if_neg h,if_neg (by omega)]
  by_cases h2:t=0
  ·rw [if_neg (show ¬ t≠0 by simpa using h2),if_neg (show ¬ t≠0 by simpa using h2)]
   by_cases h3:s≠0∨y=0
   ·rw [if_pos h3,if_pos (show -s≠0∨y=0 by rcases h3 with h | h;exact .inl (by omega);exact .inr h)];simp
   ·rw [if_neg h3,if_neg (show ¬ (-s≠0∨y=0) by rintro (h | h);exact h3 (.inl (by omega));exact h3 (.inr h))]
    simp [Rat.div_def,Rat.neg_mul]
  ·rw [if_pos h2,if_pos h2];simp
theorem dn_neg(s:Int)(x:Rat):dn (-s) (-x)=- up s x:=by
 unfold dn up
 by_cases h:s=0
 ·subst h;simp only [Int.neg_zero,if_true];have:=rndI_neg (d:=1) (.inr rfl) x
  exact this
 ·rw [if_neg (by omega),if_neg h,Int.neg_mul]
theorem up_neg(s:Int)(x:Rat):up (-s) (-x)=- dn s x:=by
 have h:=dn_neg (-s) (-x);rw [Int.neg_neg,Rat.neg_neg] at h
 omega
theorem ov_neg(s:Int)(x:Rat)(j:Int):ov (-s) (-x) j=(-(ov s x j).2,-(ov s x j).1):=by
 unfold ov
 by_cases h:s=0
 ·subst h
  simp only [Int.neg_zero,ne_eq,not_true_eq_false,if_false]
  by_cases h2:x=0∨j=M
  ·rw [if_pos h2,if_pos (by rcases h2 with h | h;exact .inl (by grind);exact .inr h)];simp
  ·rw [if_neg h2,if_neg (by intro h;apply h2;rcases h with h | h;exact .inl (by grind);exact .inr h)]
   have e:-x / fl j=-(x / fl j):=by rw [Rat.div_def,Rat.div_def,Rat.neg_mul]
   have a:=rndI_neg (d:=1) (.inr rfl) (x / fl j);have b:=rndI_neg (d:=-1) (.inl rfl) (x / fl j);rw [e,show (1:Int)=- -1 from rfl,b,show (-(1:Int))=-1 from rfl];rw [show (- -1:Int)=1 from rfl,a]
 ·rw [if_pos (by omega),if_pos h,Int.neg_mul]
theorem fl_pos{j:Int}(h:0<j):0<fl j:=by have:=fl_lt_iff.2 h;rwa [fl_zero] at this
theorem fl_nonneg{j:Int}(h:0≤j):0≤fl j:=by have:=fl_le_iff.2 h;rwa [fl_zero] at this
theorem esx_zero{s:Int}{x:Rat}(hx:s≠0→x=0):esx s x=0↔s=0∧x=0:=by
 unfold esx
 by_cases h:s=0
 ·subst h
  simp only [ne_eq,not_true_eq_false,if_false,true_and]
  unfold rsg
  by_cases h2:x=0
  ·simp [h2]
  ·rw [if_neg h2]
   constructor
   ·intro h3;split at h3<;>omega
   ·intro h3;exact absurd h3 h2
 ·rw [if_pos h]
  constructor
  ·intro h3;exact absurd h3 h
  ·intro h3;exact absurd h3.1 h
theorem ov_rt{s:Int}{x:Rat}{j:Int}(hx:s≠0→x=0)(hj:0<j)(hj2:j≤M)(h:s=0∨j<M):
  ov s x j=(dn (rt s x (es j) (ex j)).1 (rt s x (es j) (ex j)).2.1,up (rt s x (es j) (ex j)).1 (rt s x (es j) (ex j)).2.1):=by
 have hM:(M:Int)=9218868437227405312:=rfl;have z1:=rndI_zero (d:=-1) (.inl rfl);have z2:=rndI_zero (d:=1) (.inr rfl);unfold ov rt
 by_cases hs:s=0
 ·subst hs
  simp only [ne_eq,not_true_eq_false,if_false,false_or]
  by_cases h0:x=0
  ·rw [if_pos (.inl h0),if_pos ((esx_zero hx).2 ⟨rfl,h0⟩)]
   simp only [dn_zero,up_zero,z1,z2]
  ·rw [if_neg (fun h=>h0 ((esx_zero hx).1 h).2)]
   by_cases hm:j=M
   ·subst hm;rw [if_pos (.inr rfl),if_pos (by rw [es_max];omega)]
    simp only [dn_zero,up_zero,z1,z2]
   ·rw [if_neg (by intro h;rcases h with h | h;exact h0 h;exact hm h),if_neg (by rw [es_mid (by omega) (by omega)];omega),ex_mid (by omega) (by omega),if_neg (by have:=fl_pos hj;grind)]
    simp only [dn_zero,up_zero]
 ·rw [if_pos hs,if_neg (fun h=>hs ((esx_zero hx).1 h).1),if_neg (by rw [es_mid (by omega) (by omega)];omega),if_pos (.inl hs)];unfold dn up esx
  simp only [ne_eq,hs,not_false_eq_true,if_true,if_false]
def qA(s:Int)(x:Rat)(b1 b2:Int):Int × Rat × Bool:=if 0<esx s x then rt s x (es b2) (ex b2) else rt s x (es (max b1 0)) (ex (max b1 0))
def pA(s:Int)(x:Rat)(b1 b2:Int):Int × Int:=if 0≤esx s x then ov s x b2 else if 0<b1 then ov s x b1 else (-(M:Int),-(M:Int))
def qB(s:Int)(x:Rat)(b1 b2:Int):Int × Rat × Bool:=if esx s x<0 then rt s x (es b2) (ex b2) else rt s x (es (max b1 0)) (ex (max b1 0))
def pB(s:Int)(x:Rat)(b1 b2:Int):Int × Int:=if esx s x≤0 then ov s x b2 else if 0<b1 then ov s x b1 else ((M:Int),(M:Int))
theorem es_nought:es 0=0:=by decide
theorem ex_nought:ex 0=0:=by unfold ex;rw [if_pos es_nought,fl_zero]
theorem rt_nought{s:Int}{x:Rat}(t:Int)(y:Rat)(h:esx s x=0):rt s x t y=(0,0,false):=by unfold rt;rw [if_pos h]
theorem esx_rng{s:Int}{x:Rat}(hs:s=0∨s=-1):esx s x=-1∨esx s x=0∨esx s x=1:=by
 unfold esx rsg
 rcases hs with rfl | rfl
 ·rw [if_neg (by omega)]
  split
  ·exact .inr (.inl rfl)
  ·split
   ·exact .inl rfl
   ·exact .inr (.inr rfl)
 ·rw [if_pos (by omega)];exact .inl rfl
theorem pA_qA{s:Int}{x:Rat}{b1 b2:Int}(hs:s=0∨s=-1)(hx:s≠0→x=0)(hb:b1≤b2)(h2:0<b2)(h3:b2≤M)(h1:b1<M):
  pA s x b1 b2=(dn (qA s x b1 b2).1 (qA s x b1 b2).2.1,up (qA s x b1 b2).1 (qA s x b1 b2).2.1):=by
 unfold pA qA;have z1:=rndI_zero (d:=-1) (.inl rfl);have z2:=rndI_zero (d:=1) (.inr rfl)
 rcases esx_rng (x:=x) hs with he | he | he
 ·rw [if_neg (show ¬ 0≤esx s x by omega),if_neg (show ¬ 0<esx s x by omega)]
  by_cases hb0:0<b1
  ·rw [if_pos hb0,show max b1 0=b1 from by omega]
   exact ov_rt hx hb0 (by omega) (.inr h1)
  ·rw [if_neg hb0,show max b1 0=0 from by omega,es_nought,ex_nought];unfold rt;rw [if_neg (by omega),if_neg (by omega),if_pos (.inr rfl),he];unfold dn up
   simp only
   rw [if_neg (by omega),if_neg (by omega)]
   simp
 ·rw [if_pos (show 0≤esx s x by omega),if_neg (show ¬ 0<esx s x by omega)];have hz:=(esx_zero hx).1 he;rw [ov_rt hx h2 h3 (.inl hz.1),rt_nought _ _ he,rt_nought _ _ he]
 ·rw [if_pos (show 0≤esx s x by omega),if_pos (show 0<esx s x by omega)]
  have hz:s=0:=by
   rcases hs with h | h
   ·exact h
   ·exfalso;subst h;unfold esx at he;rw [if_pos (by omega)] at he;omega
  exact ov_rt hx h2 h3 (.inl hz)
theorem qB_neg(s:Int)(x:Rat)(b1 b2:Int):qB s x b1 b2=(-(qA (-s) (-x) b1 b2).1,-(qA (-s) (-x) b1 b2).2.1,(qA (-s) (-x) b1 b2).2.2):=by
 unfold qA qB;rw [esx_neg,rt_neg,rt_neg]
 by_cases h:esx s x<0
 ·rw [if_pos h,if_pos (show 0 < -esx s x by omega)];simp [Rat.neg_neg]
 ·rw [if_neg h,if_neg (show ¬ 0 < -esx s x by omega)];simp [Rat.neg_neg]
theorem pB_neg(s:Int)(x:Rat)(b1 b2:Int):pB s x b1 b2=(-(pA (-s) (-x) b1 b2).2,-(pA (-s) (-x) b1 b2).1):=by
 unfold pA pB;rw [esx_neg,ov_neg,ov_neg]
 by_cases h:esx s x≤0
 ·rw [if_pos h,if_pos (show 0≤-esx s x by omega)];simp
 ·rw [if_neg h,if_neg (show ¬ 0≤-esx s x by omega)]
  by_cases h2:0<b1
  ·rw [if_pos h2,if_pos h2];simp
  ·rw [if_neg h2,if_neg h2];simp
theorem pB_qB{s:Int}{x:Rat}{b1 b2:Int}(hs:s=0∨s=1)(hx:s≠0→x=0)(hb:b1≤b2)(h2:0<b2)(h3:b2≤M)(h1:b1<M):
  pB s x b1 b2=(dn (qB s x b1 b2).1 (qB s x b1 b2).2.1,up (qB s x b1 b2).1 (qB s x b1 b2).2.1):=by
 rw [pB_neg,qB_neg,pA_qA (s:=-s) (x:=-x) (by omega) (fun h=>by rw [hx (by omega)];rfl) hb h2 h3 h1]
 simp only [dn_neg,up_neg]
theorem qA_kind{s:Int}{x:Rat}{b1 b2:Int}(hs:s=0∨s=-1)(hx:s≠0→x=0)(hb:b1≤b2)(h2:0<b2)(h3:b2≤M)(h1:b1<M):
  ((qA s x b1 b2).1=-1∧(qA s x b1 b2).2.1=0∧(qA s x b1 b2).2.2=true∧esx s x<0) ∨
  ((qA s x b1 b2).1=0∧(qA s x b1 b2).2.1=0∧(qA s x b1 b2).2.2=true∧0<esx s x∧b2=M) ∨
  ((qA s x b1 b2).1=0∧(qA s x b1 b2).2.1=0∧(qA s x b1 b2).2.2=false∧esx s x=0) ∨
  ((qA s x b1 b2).1=0∧(qA s x b1 b2).2.2=false∧s=0∧x≠0∧((0<x∧b2<M∧(qA s x b1 b2).2.1=x / fl b2)∨(x<0∧0<b1∧(qA s x b1 b2).2.1=x / fl b1))):=by
 have hM:(M:Int)=9218868437227405312:=rfl;unfold qA
 rcases esx_rng (x:=x) hs with he | he | he
 ·rw [if_neg (by omega)]
  have hm:max b1 0<M:=by omega
  have hm0:0≤max b1 0:=by omega
  unfold rt;rw [if_neg (by omega),if_neg (by rw [es_mid (by omega) hm];omega)]
  by_cases h:s≠0∨ex (max b1 0)=0
  ·rw [if_pos h];exact .inl ⟨he,rfl,rfl,by omega⟩
  ·rw [if_neg h]
   have h4:s=0:=by
    rcases hs with h5 | h5
    ·exact h5
    ·exact absurd (.inl (by omega)) h
   have h6:0<b1:=by
    rcases Int.lt_or_le 0 b1 with h7 | h7
    ·exact h7
    ·exact absurd (.inr (by rw [show max b1 0=0 from by omega,ex_nought])) h
   have h8:x<0:=by
    unfold esx rsg at he;rw [if_neg (by omega)] at he
    split at he
    ·omega
    ·split at he
     ·assumption
     ·omega
   refine .inr (.inr (.inr ⟨rfl,rfl,h4,by grind,.inr ⟨h8,h6,?_⟩⟩));rw [show max b1 0=b1 from by omega,ex_mid (by omega) h1]
 ·rw [if_neg (by omega),rt_nought _ _ he]
  exact .inr (.inr (.inl ⟨rfl,rfl,rfl,he⟩))
 ·rw [if_pos (by omega)]
  have h4:s=0:=by
   rcases hs with h | h
   ·exact h
   ·exfalso;subst h;unfold esx at he;rw [if_pos (by omega)] at he;omega
  have h8:0<x:=by
   unfold esx rsg at he;rw [if_neg (by omega)] at he
   split at he
   ·omega
   ·split at he
    ·omega
    ·grind
  unfold rt;rw [if_neg (by omega)]
  by_cases hm:b2=M
  ·subst hm;rw [if_pos (by rw [es_max];omega)]
   exact .inr (.inl ⟨rfl,rfl,rfl,by omega,rfl⟩)
  ·rw [if_neg (by rw [es_mid (by omega) (by omega)];omega),ex_mid (by omega) (by omega),if_neg (by have:=fl_pos h2;rintro (h | h);exact h h4;grind)]
   exact .inr (.inr (.inr ⟨rfl,rfl,h4,by grind,.inl ⟨h8,by omega,rfl⟩⟩))
theorem qB_kind{s:Int}{x:Rat}{b1 b2:Int}(hs:s=0∨s=1)(hx:s≠0→x=0)(hb:b1≤b2)(h2:0<b2)(h3:b2≤M)(h1:b1<M):
  ((qB s x b1 b2).1=1∧(qB s x b1 b2).2.1=0∧(qB s x b1 b2).2.2=true∧0<esx s x) ∨
  ((qB s x b1 b2).1=0∧(qB s x b1 b2).2.1=0∧(qB s x b1 b2).2.2=true∧esx s x<0∧b2=M) ∨
  ((qB s x b1 b2).1=0∧(qB s x b1 b2).2.1=0∧(qB s x b1 b2).2.2=false∧esx s x=0) ∨
  ((qB s x b1 b2).1=0∧(qB s x b1 b2).2.2=false∧s=0∧x≠0∧((x<0∧b2<M∧(qB s x b1 b2).2.1=x / fl b2)∨(0<x∧0<b1∧(qB s x b1 b2).2.1=x / fl b1))):=by
 have k:=qA_kind (s:=-s) (x:=-x) (by omega) (fun h=>by rw [hx (by omega)];rfl) hb h2 h3 h1;rw [esx_neg] at k;rw [qB_neg]
 dsimp only
 have dv:∀ c:Rat,-(-x / c)=x / c:=fun c=>by rw [Rat.div_def,Rat.div_def,Rat.neg_mul,Rat.neg_neg]
 rcases k with ⟨a,b,c,d⟩ | ⟨a,b,c,d,e⟩ | ⟨a,b,c,d⟩ | ⟨a,b,c,d,e⟩
 ·exact .inl ⟨by omega,by rw [b];rfl,c,by omega⟩
 ·exact .inr (.inl ⟨by omega,by rw [b];rfl,c,by omega,e⟩)
 ·exact .inr (.inr (.inl ⟨by omega,by rw [b];rfl,c,by omega⟩))
 ·refine .inr (.inr (.inr ⟨by omega,b,by omega,by grind,?_⟩))
  rcases e with ⟨e1,e2,e3⟩ | ⟨e1,e2,e3⟩
  ·exact .inl ⟨by grind,e2,by rw [e3,dv]⟩
  ·exact .inr ⟨by grind,e2,by rw [e3,dv]⟩
theorem div_le_div{x y c d:Rat}(hc:0<c)(hd:0<d)(h:x*d≤y*c):x / c≤y / d:=by
 have hk:0<c*d:=Rat.mul_pos hc hd;refine (mul_le_pos hk).1 ?_
 have e1:x / c*(c*d)=x*d:=by rw [← Rat.mul_assoc,Rat.div_mul_cancel (by grind)]
 have e2:y / d*(c*d)=y*c:=by rw [Rat.mul_comm c d,← Rat.mul_assoc,Rat.div_mul_cancel (by grind)]
 rw [e1,e2];exact h
theorem div_pos'{x c:Rat}(hx:0<x)(hc:0<c):0<x / c:=by
 have h1:=Rat.inv_pos.2 hc;rw [Rat.div_def];exact Rat.mul_pos hx h1
theorem div_neg'{x c:Rat}(hx:x<0)(hc:0<c):x / c<0:=by
 have h:=div_pos' (x:=-x) (by grind) hc;rw [Rat.div_def,Rat.neg_mul,← Rat.div_def] at h
 grind
theorem esx_pos{s:Int}{x:Rat}(hs:s=0∨s=-1)(h:0<esx s x):s=0∧0<x:=by
 unfold esx at h
 rcases hs with rfl | rfl
 ·rw [if_neg (by omega)] at h;refine⟨rfl,?_⟩;unfold rsg at h
  split at h
  ·omega
  ·split at h
   ·omega
   ·grind
 ·rw [if_pos (by omega)] at h;omega
theorem esx_lt{s:Int}{x:Rat}(hs:s=0∨s=1)(h:esx s x<0):s=0∧x<0:=by
 have k:=esx_pos (s:=-s) (x:=-x) (by omega) (by rw [esx_neg];omega)
 exact⟨by omega,by grind⟩
theorem q_le{s1 s2:Int}{x1 x2:Rat}{b1 b2:Int}(hs1:s1=0∨s1=-1)(hx1:s1≠0→x1=0)(hs2:s2=0∨s2=1)(hx2:s2≠0→x2=0)(hle:s1=0→s2=0→x1≤x2)(hb:b1≤b2)(h2:0<b2)(h3:b2≤M)(h1:b1<M):
  dn (qA s1 x1 b1 b2).1 (qA s1 x1 b1 b2).2.1≤up (qB s2 x2 b1 b2).1 (qB s2 x2 b1 b2).2.1:=by
 have hM:(M:Int)=9218868437227405312:=rfl;have ka:=qA_kind hs1 hx1 hb h2 h3 h1;have kb:=qB_kind hs2 hx2 hb h2 h3 h1;have f2:=fl_pos h2
 have fin:(qA s1 x1 b1 b2).1=0→(qB s2 x2 b1 b2).1=0→(qA s1 x1 b1 b2).2.1≤(qB s2 x2 b1 b2).2.1→dn (qA s1 x1 b1 b2).1 (qA s1 x1 b1 b2).2.1≤up (qB s2 x2 b1 b2).1 (qB s2 x2 b1 b2).2.1:=fun e1 e2 h=>by
  rw [e1,e2,dn_zero,up_zero]
  exact Int.le_trans (rndI_le _) (rndI_mono (.inr rfl) h)
 rcases ka with ⟨a1,-,-,-⟩ | ⟨a1,a2,-,a4,a5⟩ | ⟨a1,a2,-,a4⟩ | ⟨a1,-,a3,a4,a5⟩
 ·have:=up_gt (s:=(qB s2 x2 b1 b2).1) (x:=(qB s2 x2 b1 b2).2.1) (by rcases kb with k | k | k | k<;>omega);unfold dn;rw [a1,if_neg (by omega)];omega
 all_goals rcases kb with ⟨c1,-,-,-⟩ | ⟨c1,c2,-,c4,c5⟩ | ⟨c1,c2,-,c4⟩ | ⟨c1,-,c3,c4,c5⟩
 all_goals first
  | (have:=dn_lt (s:=(qA s1 x1 b1 b2).1) (x:=(qA s1 x1 b1 b2).2.1) (.inl a1);unfold up;rw [c1,if_neg (by omega)];omega)
  | skip
 ·have p:=esx_pos hs1 a4;have q:=esx_lt hs2 c4;have:=hle p.1 q.1;exfalso;grind
 ·have p:=esx_pos hs1 a4;have q:=(esx_zero hx2).1 c4;have:=hle p.1 q.1;exfalso;grind
 ·have p:=esx_pos hs1 a4;have:=hle p.1 c3;refine fin a1 c1 ?_
  rcases c5 with ⟨d1,d2,d3⟩ | ⟨d1,d2,d3⟩
  ·exfalso;grind
  ·rw [a2,d3];have:=div_pos' d1 (fl_pos d2);grind
 ·have p:=(esx_zero hx1).1 a4;have q:=esx_lt hs2 c4;have:=hle p.1 q.1;exfalso;grind
 ·refine fin a1 c1 ?_;rw [a2,c2];exact Rat.le_refl
 ·have p:=(esx_zero hx1).1 a4;have:=hle p.1 c3;refine fin a1 c1 ?_
  rcases c5 with ⟨d1,d2,d3⟩ | ⟨d1,d2,d3⟩
  ·exfalso;grind
  ·rw [a2,d3];have:=div_pos' d1 (fl_pos d2);grind
 ·have q:=esx_lt hs2 c4;have:=hle a3 q.1;refine fin a1 c1 ?_
  rcases a5 with ⟨d1,d2,d3⟩ | ⟨d1,d2,d3⟩
  ·exfalso;grind
  ·rw [c2,d3];have:=div_neg' d1 (fl_pos d2);grind
 ·have q:=(esx_zero hx2).1 c4;have:=hle a3 q.1;refine fin a1 c1 ?_
  rcases a5 with ⟨d1,d2,d3⟩ | ⟨d1,d2,d3⟩
  ·exfalso;grind
  ·rw [c2,d3];have:=div_neg' d1 (fl_pos d2);grind
 ·have hh:=hle a3 c3;have fb:0<b1→fl b1≤fl b2:=fun _=>fl_le_iff.2 hb;refine fin a1 c1 ?_
  rcases a5 with ⟨d1,d2,d3⟩ | ⟨d1,d2,d3⟩
  ·rcases c5 with ⟨e1,e2,e3⟩ | ⟨e1,e2,e3⟩
   ·exfalso;grind
   ·rw [d3,e3];have f1:=fl_pos e2;refine div_le_div f2 f1 ?_;have m1:x1*fl b1≤x2*fl b1:=(mul_le_pos f1).2 hh;have m2:fl b1*x2≤fl b2*x2:=(mul_le_pos e1).2 (fb e2)
    grind
  ·have f1:=fl_pos d2
   rcases c5 with ⟨e1,e2,e3⟩ | ⟨e1,e2,e3⟩
   ·rw [d3,e3];refine div_le_div f1 f2 ?_;have m1:x1*fl b2≤x2*fl b2:=(mul_le_pos f2).2 hh;have m2:fl b1*(-x2)≤fl b2*(-x2):=(mul_le_pos (by grind)).2 (fb d2)
    grind
   ·rw [d3,e3];have:=div_neg' d1 f1;have:=div_pos' e1 f1
    grind
theorem rndI_pos{x:Rat}(h:0<x):0<rndI 1 x:=by
 have hM:(M:Int)=9218868437227405312:=rfl;have h1:=mt ((rndI_up x).2.2 0 (by omega) (by omega)).1 (by rw [fl_zero];grind)
 omega
theorem rndI_neg'{x:Rat}(h:x<0):rndI (-1) x<0:=by
 have hM:(M:Int)=9218868437227405312:=rfl;have h1:=mt ((rndI_down x).2.2 0 (by omega) (by omega)).1 (by rw [fl_zero];grind)
 omega
theorem openA{s1 s2:Int}{x1 x2:Rat}{b1 b2:Int}(hs1:s1=0∨s1=-1)(hx1:s1≠0→x1=0)(hs2:s2=0∨s2=1)(hle:s1=0→s2=0→x1≤x2)(hb:b1≤b2)(h2:0<b2)(h3:b2≤M)(h1:b1<M):
  ((0<esx s1 x1∨esx s2 x2<0)∧dn (qA s1 x1 b1 b2).1 (qA s1 x1 b1 b2).2.1=0∧up (qA s1 x1 b1 b2).1 (qA s1 x1 b1 b2).2.1=0)↔((qA s1 x1 b1 b2).1=0∧(qA s1 x1 b1 b2).2.1=0∧(qA s1 x1 b1 b2).2.2=true):=by
 have hM:(M:Int)=9218868437227405312:=rfl;have z1:=rndI_zero (d:=-1) (.inl rfl);have z2:=rndI_zero (d:=1) (.inr rfl)
 rcases qA_kind hs1 hx1 hb h2 h3 h1 with ⟨a1,-,-,-⟩ | ⟨a1,a2,a3,a4,a5⟩ | ⟨a1,a2,a3,a4⟩ | ⟨a1,a2,a3,a4,a5⟩
 ·constructor
  ·rintro⟨-,h,-⟩;unfold dn at h;rw [a1,if_neg (by omega)] at h;omega
  ·rintro⟨h,-⟩;omega
 ·refine⟨fun _=>⟨a1,a2,a3⟩,fun _=>⟨.inl a4,?_⟩⟩;rw [a1,a2,dn_zero,up_zero];exact⟨z1,z2⟩
 ·constructor
  ·rintro⟨h | h,-⟩
   ·omega
   ·have q:=esx_lt hs2 h;have r:=(esx_zero hx1).1 a4;have:=hle r.1 q.1
    exfalso;grind
  ·rintro⟨-,-,h⟩;rw [a3] at h;cases h
 ·constructor
  ·rintro⟨-,h,h'⟩;rw [a1,dn_zero] at h;rw [a1,up_zero] at h'
   rcases a5 with ⟨d1,d2,d3⟩ | ⟨d1,d2,d3⟩
   ·have:=rndI_pos (div_pos' d1 (fl_pos h2));rw [d3] at h';omega
   ·have:=rndI_neg' (div_neg' d1 (fl_pos d2));rw [d3] at h;omega
  ·rintro⟨-,-,h⟩;rw [a2] at h;cases h
theorem openB{s1 s2:Int}{x1 x2:Rat}{b1 b2:Int}(hs1:s1=0∨s1=-1)(hs2:s2=0∨s2=1)(hx2:s2≠0→x2=0)(hle:s1=0→s2=0→x1≤x2)(hb:b1≤b2)(h2:0<b2)(h3:b2≤M)(h1:b1<M):
  ((0<esx s1 x1∨esx s2 x2<0)∧dn (qB s2 x2 b1 b2).1 (qB s2 x2 b1 b2).2.1=0∧up (qB s2 x2 b1 b2).1 (qB s2 x2 b1 b2).2.1=0)↔((qB s2 x2 b1 b2).1=0∧(qB s2 x2 b1 b2).2.1=0∧(qB s2 x2 b1 b2).2.2=true):=by
 have k:=openA (s1:=-s2) (x1:=-x2) (s2:=-s1) (x2:=-x1) (by omega) (fun h=>by rw [hx2 (by omega)];rfl) (by omega) (fun a b=>by have:=hle (by omega) (by omega);grind) hb h2 h3 h1;rw [esx_neg,esx_neg] at k;rw [qB_neg]
 dsimp only
 rw [dn_neg,up_neg]
 constructor
 ·rintro⟨a,b,c⟩;have:=k.1 ⟨by omega,by omega,by omega⟩
  exact⟨by omega,by rw [this.2.1];rfl,this.2.2⟩
 ·rintro⟨a,b,c⟩;have:=k.2 ⟨by omega,by grind,c⟩
  exact⟨by omega,by omega,by omega⟩
theorem ct_tail{op:Bool}{sa:Int}{xa:Rat}{fa:Bool}{sb:Int}{xb:Rat}{fb:Bool}{i j:Int}(h:-(M:Int)≤i∧i≤j∧j≤M∧i<M∧-(M:Int)<j)(ka:sa=0∨sa=-1)(kb:sb=0∨sb=1)
  (wa:fa=true→sa=-1∨sa=0∧xa=0)(wb:fb=true→sb=1∨sb=0∧xb=0)(oa:(op=true∧dn sa xa=0∧up sa xa=0)↔(sa=0∧xa=0∧fa=true))(ob:(op=true∧dn sb xb=0∧up sb xb=0)↔(sb=0∧xb=0∧fb=true)):
  ctO op i j (dn sa xa) (up sa xa) (dn sb xb) (up sb xb)=pf sa xa fa sb xb fb i j:=by
 have hM:(M:Int)=9218868437227405312:=rfl;unfold pf;rw [if_neg (by omega)];unfold wg ctO;rw [ec_lo_at (by omega) ka,ec_hi_at (by omega) kb];have e1:=ec_hi (i:=i) (s:=sb) (x:=xb) (by omega) kb;have e2:=ec_lo (j:=j) (s:=sa) (x:=xa) (by omega) ka
 have z0:∀ k:Int,-(M:Int)≤k→k≤M→(ec (es k) (ex k) 0 0=0↔k=0):=fun k k1 k2=>by
  have h:=ec_idx (i:=k) (b:=0) k1 k2 (by omega) (by omega);rw [es_nought,ex_nought] at h;unfold SameSign at h
  omega
 have e3:(ec (es i) (ex i) sb xb=0∧fb=true)↔(op=true∧dn sb xb=0∧up sb xb=0∧i=0):=by
  constructor
  ·rintro⟨a,b⟩
   rcases wb b with k | k
   ·exact absurd a (ec_hi_open (by omega) k)
   ·have q:=ob.2 ⟨k.1,k.2,b⟩;rw [k.1,k.2] at a
    exact⟨q.1,q.2.1,q.2.2,(z0 i (by omega) (by omega)).1 a⟩
  ·rintro⟨a,b,c,d⟩;have q:=ob.1 ⟨a,b,c⟩;rw [q.1,q.2.1]
   exact⟨(z0 i (by omega) (by omega)).2 d,q.2.2⟩
 have e4:(ec (es j) (ex j) sa xa=0∧fa=true)↔(op=true∧dn sa xa=0∧up sa xa=0∧j=0):=by
  constructor
  ·rintro⟨a,b⟩
   rcases wa b with k | k
   ·exact absurd a (ec_lo_open (by omega) k)
   ·have q:=oa.2 ⟨k.1,k.2,b⟩;rw [k.1,k.2] at a
    exact⟨q.1,q.2.1,q.2.2,(z0 j (by omega) (by omega)).1 a⟩
  ·rintro⟨a,b,c,d⟩;have q:=oa.1 ⟨a,b,c⟩;rw [q.1,q.2.1]
   exact⟨(z0 j (by omega) (by omega)).2 d,q.2.2⟩
 by_cases hc:dn sb xb<i∨j<up sa xa
 ·rw [if_pos hc,if_pos]
  rcases hc with h1 | h1
  ·exact .inl (e1.2 h1)
  ·exact .inr (.inr (.inl (e2.2 h1)))
 ·rw [if_neg hc]
  by_cases hd:op=true∧((dn sa xa=0∧up sa xa=0∧j≤0)∨(dn sb xb=0∧up sb xb=0∧0≤i))
  ·rw [if_pos hd,if_pos];obtain⟨ho,hd | hd⟩:=hd
   ·exact .inr (.inr (.inr (e4.2 ⟨ho,hd.1,hd.2.1,by omega⟩)))
   ·exact .inr (.inl (e3.2 ⟨ho,hd.1,hd.2.1,by omega⟩))
  ·rw [if_neg hd,if_neg];rintro (h1 | h1 | h1 | h1)
   ·exact hc (.inl (e1.1 h1))
   ·have q:=e3.1 h1
    exact hd ⟨q.1,.inr ⟨q.2.1,q.2.2.1,by omega⟩⟩
   ·exact hc (.inr (e2.1 h1))
   ·have q:=e4.1 h1
    exact hd ⟨q.1,.inl ⟨q.2.1,q.2.2.1,by omega⟩⟩
theorem ct_pf{s1 s2:Int}{x1 x2:Rat}{b1 b2:Int}(hs1:s1=0∨s1=-1)(hx1:s1≠0→x1=0)(hs2:s2=0∨s2=1)(hx2:s2≠0→x2=0)(hle:s1=0→s2=0→x1≤x2)(hb:b1≤b2)(h2:0<b2)(h3:b2≤M)(h1:b1<M)
  (i j:Int)(h:-(M:Int)≤i∧i≤j∧j≤M∧i<M∧-(M:Int)<j):
  ctO (decide (0<esx s1 x1) || decide (esx s2 x2<0)) i j (pA s1 x1 b1 b2).1 (pA s1 x1 b1 b2).2 (pB s2 x2 b1 b2).1 (pB s2 x2 b1 b2).2=pf (qA s1 x1 b1 b2).1 (qA s1 x1 b1 b2).2.1 (qA s1 x1 b1 b2).2.2 (qB s2 x2 b1 b2).1 (qB s2 x2 b1 b2).2.1 (qB s2 x2 b1 b2).2.2 i j:=by
 have hM:(M:Int)=9218868437227405312:=rfl;rw [pA_qA hs1 hx1 hb h2 h3 h1,pB_qB hs2 hx2 hb h2 h3 h1];have oa:=openA hs1 hx1 hs2 hle hb h2 h3 h1;have ob:=openB hs1 hs2 hx2 hle hb h2 h3 h1
 have ka:(qA s1 x1 b1 b2).1=0∨(qA s1 x1 b1 b2).1=-1:=by rcases qA_kind hs1 hx1 hb h2 h3 h1 with k | k | k | k<;>omega
 have kb:(qB s2 x2 b1 b2).1=0∨(qB s2 x2 b1 b2).1=1:=by rcases qB_kind hs2 hx2 hb h2 h3 h1 with k | k | k | k<;>omega
 have wa:(qA s1 x1 b1 b2).2.2=true→(qA s1 x1 b1 b2).1=-1∨(qA s1 x1 b1 b2).1=0∧(qA s1 x1 b1 b2).2.1=0:=fun o=>by
  rcases qA_kind hs1 hx1 hb h2 h3 h1 with k | k | k | k
  ·exact .inl k.1
  ·exact .inr ⟨k.1,k.2.1⟩
  ·rw [k.2.2.1] at o;cases o
  ·rw [k.2.1] at o;cases o
 have wb:(qB s2 x2 b1 b2).2.2=true→(qB s2 x2 b1 b2).1=1∨(qB s2 x2 b1 b2).1=0∧(qB s2 x2 b1 b2).2.1=0:=fun o=>by
  rcases qB_kind hs2 hx2 hb h2 h3 h1 with k | k | k | k
  ·exact .inl k.1
  ·exact .inr ⟨k.1,k.2.1⟩
  ·rw [k.2.2.1] at o;cases o
  ·rw [k.2.1] at o;cases o
 obtain⟨⟨sa,xa,fa⟩,ea⟩:∃ z,qA s1 x1 b1 b2=z:=⟨_,rfl⟩
 obtain⟨⟨sb,xb,fb⟩,eb⟩:∃ z,qB s2 x2 b1 b2=z:=⟨_,rfl⟩
 rw [ea] at oa ka wa;rw [eb] at ob kb wb;rw [ea,eb]
 obtain⟨op,hop⟩:∃ o,(decide (0<esx s1 x1) || decide (esx s2 x2<0))=o:=⟨_,rfl⟩
 have hop2:(0<esx s1 x1∨esx s2 x2<0)↔op=true:=by rw [← hop];simp
 rw [hop2] at oa ob;rw [hop]
 dsimp only at *
 exact ct_tail h ka kb wa wb oa ob
def Bx(w:World)(g p q:Nat):Prop:=Blk w g 28 #[.float .f64 p,.float .f64 q]
theorem Bx.keep{w w':World}{g p q:Nat}(h:Bx w g p q)(hb:Below w.heap.size w w'):Bx w' g p q:=Blk.keep h hb
theorem Bx.set{w:World}{g p q:Nat}(h:Bx w g p q)(a b:Nat):Bx ((w.setCell ⟨g,0,none⟩ (.float .f64 a)).setCell ⟨g,1,none⟩ (.float .f64 b)) g a b:=by
 have h1:=Blk.sets [.float .f64 a,.float .f64 b] 0 _ _ h;unfold Bx
 simpa [laid,sets] using h1
theorem Bx.far{w:World}{g p q r:Nat}(h:Bx w g p q)(hr:g≠r)(a b:Value):Bx ((w.setCell ⟨r,0,none⟩ a).setCell ⟨r,1,none⟩ b) g p q:=Blk.other h hr 0 [a,b]
structure Kp (g0 g1 g2:Nat) (w w':World):Prop where
 os:w'.os=w.os
 tape:w'.tape=w.tape
 output:w'.output=w.output
 size:w.heap.size≤w'.heap.size
 block:∀ k,k<w.heap.size→k≠g0→k≠g1→k≠g2→w'.heap[k]?=w.heap[k]?
theorem Kp.refl(g0 g1 g2:Nat)(w:World):Kp g0 g1 g2 w w:=⟨rfl,rfl,rfl,Nat.le_refl _,fun _ _ _ _ _=>rfl⟩
theorem Kp.below{g0 g1 g2:Nat}{w w1 w2:World}(h:Kp g0 g1 g2 w w1)(hb:Below w1.heap.size w1 w2):Kp g0 g1 g2 w w2:=
 ⟨hb.os.trans h.os,hb.tape.trans h.tape,hb.output.trans h.output,Nat.le_trans h.size hb.size,fun k hk a b c=>(hb.block k (Nat.lt_of_lt_of_le hk h.size)).trans (h.block k hk a b c)⟩
theorem Kp.set{g0 g1 g2 r:Nat}{w w1:World}(h:Kp g0 g1 g2 w w1)(hr:r=g0∨r=g1∨r=g2)(a b:Value):Kp g0 g1 g2 w ((w1.setCell ⟨r,0,none⟩ a).setCell ⟨r,1,none⟩ b):=
 ⟨h.os,h.tape,h.output,by have:=size_sets (r:=r) [a,b] 0 w1;have:=h.size;show w.heap.size≤(sets w1 r 0 [a,b]).heap.size;omega,
  fun k hk x y z=>(heap_sets (r:=r) (k:=k) (by rintro rfl;rcases hr with e | e | e<;>contradiction) [a,b] 0 w1).trans (h.block k hk x y z)⟩
theorem Kp.cell{g0 g1 g2:Nat}{w w1:World}(h:Kp g0 g1 g2 w w1){ad:Addr}{v:Value}(hc:w.cell? ad=some v)(h0:ad.block≠g0)(h1:ad.block≠g1)(h2:ad.block≠g2):w1.cell? ad=some v:=by
 have hlt:ad.block<w.heap.size:=by
  unfold World.cell? at hc
  split at hc
  ·rename_i e
   exact (Array.getElem?_eq_some_iff.1 e).1
  ·cases hc
 rw [World.cell?_of_block (w:=w)]
 ·exact hc
 ·exact h.block _ hlt h0 h1 h2
theorem Kp.toBl{g0 g1 g2 B:Nat}{w0 w w':World}(h:Kp g0 g1 g2 w w')(hb:Below B w0 w)(hB:B≤w.heap.size)(h0:B≤g0)(h1:B≤g1)(h2:B≤g2):Below B w0 w':=
 ⟨h.os.trans hb.os,h.tape.trans hb.tape,h.output.trans hb.output,Nat.le_trans hb.size h.size,fun k hk=>(h.block k (by omega) (by omega) (by omega) (by omega)).trans (hb.block k hk)⟩
theorem Kp.hasBk{g0 g1 g2 r n:Nat}{t:TypeId}{w w':World}(h:Kp g0 g1 g2 w w')(hr:HasBlk w r t n)(h0:r≠g0)(h1:r≠g1)(h2:r≠g2):HasBlk w' r t n:=by
 obtain⟨cs,a,b⟩:=hr
 exact⟨cs,(h.block r a.lt h0 h1 h2).trans a,b⟩
theorem Iv.negg{i j:Int}(h:Iv i j):Iv (-j) (-i):=by
 unfold Iv at *;rw [M_val] at *
 omega
end Go.Proofs.YthlmlmfebpjgdaaGreatDoor
