/-
Lemmas for the statement: Cut2T MuP Kp ReadN PosT Fl2T IosT.
-/
import Derived.Test.YthlmlmfebpjgdaaGreatDoorM03
import Derived.Test.YthlmlmfebpjgdaaGreatDoorM20
import Derived.Test.YthlmlmfebpjgdaaGreatDoorPIntsT
import Derived.Test.YthlmlmfebpjgdaaGreatDoorM08
import Derived.Deep.DeepCutAuto
import Derived.Test.YthlmlmfebpjgdaaGreatDoorM13
import Derived.Deep.RegionHeld3
import Derived.Deep.CutBlock
import Derived.Test.YthlmlmfebpjgdaaGreatDoorPGoA
set_option linter.unusedSimpArgs false
set_option linter.unusedVariables false
set_option maxHeartbeats 12800000
namespace Go.Proofs.YthlmlmfebpjgdaaGreatDoor
section
open Go.RowKit
attribute [local go_sem] run_store_float run_eqf
theorem not_gt2{i j:Int}(hi:-(M:Int)≤i∧i≤M)(hj:-(M:Int)≤j∧j≤M)(h:¬ j<i):(FloatKind.f64.format.order (pat i) (pat j) == some Ordering.gt)=false:=by
 rw [order_pat hi.1 hi.2 hj.1 hj.2]
 rcases Int.lt_trichotomy i j with h2 | h2 | h2
 ·rw [Int.compare_eq_lt.2 h2];rfl
 ·rw [Int.compare_eq_eq.2 h2];rfl
 ·exact absurd h2 h
theorem not_lt2{i j:Int}(hi:-(M:Int)≤i∧i≤M)(hj:-(M:Int)≤j∧j≤M)(h:¬ i<j):(FloatKind.f64.format.order (pat i) (pat j) == some Ordering.lt)=false:=by
 rw [order_pat hi.1 hi.2 hj.1 hj.2]
 rcases Int.lt_trichotomy i j with h2 | h2 | h2
 ·exact absurd h2 h
 ·rw [Int.compare_eq_eq.2 h2];rfl
 ·rw [Int.compare_eq_gt.2 h2];rfl
theorem rcut2_gt(op:Bool)(i j pd pu qd qu:Nat)(w:World)(o1:FloatKind.f64.format.order i qd=some .gt):
  Calls Tryz.prog 77 #[.agg #[.float .f64 i,.float .f64 j],.agg #[.float .f64 pd,.float .f64 pu],.agg #[.float .f64 qd,.float .f64 qu],.bool op] w fun e w'=>e=.returned (.agg #[.float .f64 9218868437227405312,.float .f64 18442240474082181120])∧Below w.heap.size w w':=by
 obtain⟨LB0,LG0_0,LG1_0,LG2_0,LR⟩:=bx4 w #[.float .f64 i,.float .f64 j] 28 #[.float .f64 pd,.float .f64 pu] 78 #[.float .f64 qd,.float .f64 qu] 78 #[.float .f64 0,.float .f64 0] 28;have LR0:=Hd (HasBlk.of (n:=2) LR.out rfl rfl);clear LR;have HE:=Hd emptyf
 go_enter Tryz.func77,Tryz.ntmps77
 obtain⟨q0_0,q0_1⟩:=LG0_0.out.c2;obtain⟨q1_0,q1_1⟩:=LG1_0.out.c2;obtain⟨q2_0,q2_1⟩:=LG2_0.out.c2;go_wp2_with fail;refine (HE.out _).mono ?_;rintro e w1 ⟨rfl,hb1⟩;have LB1:=stB LB0 hb1 LB0.out.size;have LR1:=stR LR0 hb1;have LG0_1:=stG LG0_0 hb1;have LG1_1:=stG LG1_0 hb1;have LG2_1:=stG LG2_0 hb1;clear LB0 LR0 LG0_0 LG1_0 LG2_0;clear hb1 HE;obtain⟨ha0,hf0,ha1,hf1⟩:=LR1.out.sf2;obtain⟨hk0,hk1⟩:=LR1.out.sc2 (.float .f64 9218868437227405312) (.float .f64 18442240474082181120);have F:=Hd (below_sets (w0:=w) (r:=(w.heap.size+3)) (by omega) [.float .f64 9218868437227405312,.float .f64 18442240474082181120] 0 _ LB1.out)
 simp [sets] at hk0 hk1
 go_wp2;refine bodyPost_ret (v:=.agg #[.float .f64 9218868437227405312,.float .f64 18442240474082181120]) (by simp [results,Tryz.results77,go_sem,hk0,hk1]) rfl ?_
 exact⟨rfl,F.out⟩
theorem rcut2_lt(op:Bool)(i j pd pu qd qu:Nat)(w:World)(o1:(FloatKind.f64.format.order i qd == some Ordering.gt)=false)(o2:FloatKind.f64.format.order j pu=some .lt):
  Calls Tryz.prog 77 #[.agg #[.float .f64 i,.float .f64 j],.agg #[.float .f64 pd,.float .f64 pu],.agg #[.float .f64 qd,.float .f64 qu],.bool op] w fun e w'=>e=.returned (.agg #[.float .f64 9218868437227405312,.float .f64 18442240474082181120])∧Below w.heap.size w w':=by
 obtain⟨LB0,LG0_0,LG1_0,LG2_0,LR⟩:=bx4 w #[.float .f64 i,.float .f64 j] 28 #[.float .f64 pd,.float .f64 pu] 78 #[.float .f64 qd,.float .f64 qu] 78 #[.float .f64 0,.float .f64 0] 28;have LR0:=Hd (HasBlk.of (n:=2) LR.out rfl rfl);clear LR;have HE:=Hd emptyf
 go_enter Tryz.func77,Tryz.ntmps77
 obtain⟨q0_0,q0_1⟩:=LG0_0.out.c2;obtain⟨q1_0,q1_1⟩:=LG1_0.out.c2;obtain⟨q2_0,q2_1⟩:=LG2_0.out.c2;go_wp2_with fail;refine (HE.out _).mono ?_;rintro e w1 ⟨rfl,hb1⟩;have LB1:=stB LB0 hb1 LB0.out.size;have LR1:=stR LR0 hb1;have LG0_1:=stG LG0_0 hb1;have LG1_1:=stG LG1_0 hb1;have LG2_1:=stG LG2_0 hb1;clear LB0 LR0 LG0_0 LG1_0 LG2_0;clear hb1 HE;obtain⟨ha0,hf0,ha1,hf1⟩:=LR1.out.sf2;obtain⟨hk0,hk1⟩:=LR1.out.sc2 (.float .f64 9218868437227405312) (.float .f64 18442240474082181120);have F:=Hd (below_sets (w0:=w) (r:=(w.heap.size+3)) (by omega) [.float .f64 9218868437227405312,.float .f64 18442240474082181120] 0 _ LB1.out)
 simp [sets] at hk0 hk1
 go_wp2;refine bodyPost_ret (v:=.agg #[.float .f64 9218868437227405312,.float .f64 18442240474082181120]) (by simp [results,Tryz.results77,go_sem,hk0,hk1]) rfl ?_
 exact⟨rfl,F.out⟩
def CutC(op:Bool)(i j pd pu qd qu:Nat)(cc:Bool):Prop:=
 (op=false∧cc=false)∨(op=true∧cc=true∧(FloatKind.f64.format.order pd 0=some .eq∧FloatKind.f64.format.order pu 0=some .eq)∧(FloatKind.f64.format.order j 0=some .lt∨FloatKind.f64.format.order j 0=some .eq))∨(op=true∧((FloatKind.f64.format.order pd 0 == some Ordering.eq)=false∨(FloatKind.f64.format.order pd 0=some .eq∧(FloatKind.f64.format.order pu 0 == some Ordering.eq)=false)∨(FloatKind.f64.format.order pd 0=some .eq∧FloatKind.f64.format.order pu 0=some .eq∧FloatKind.f64.format.order j 0=some .gt))∧cc=true∧(FloatKind.f64.format.order qd 0=some .eq∧FloatKind.f64.format.order qu 0=some .eq)∧(FloatKind.f64.format.order i 0=some .gt∨FloatKind.f64.format.order i 0=some .eq))∨(op=true∧((FloatKind.f64.format.order pd 0 == some Ordering.eq)=false∨(FloatKind.f64.format.order pd 0=some .eq∧(FloatKind.f64.format.order pu 0 == some Ordering.eq)=false)∨(FloatKind.f64.format.order pd 0=some .eq∧FloatKind.f64.format.order pu 0=some .eq∧FloatKind.f64.format.order j 0=some .gt))∧cc=false∧((FloatKind.f64.format.order qd 0 == some Ordering.eq)=false∨(FloatKind.f64.format.order qd 0=some .eq∧(FloatKind.f64.format.order qu 0 == some Ordering.eq)=false)∨(FloatKind.f64.format.order qd 0=some .eq∧FloatKind.f64.format.order qu 0=some .eq∧FloatKind.f64.format.order i 0=some .lt)))
theorem rcut2_in(op:Bool)(i j pd pu qd qu a b:Nat)(w:World)(o1:(FloatKind.f64.format.order i qd == some Ordering.gt)=false)(o2:(FloatKind.f64.format.order j pu == some Ordering.lt)=false)(cc:Bool)(hc:CutC op i j pd pu qd qu cc)(m1:∀ W ts t,(Builtin.max_ ts t #[.float .f64 i,.float .f64 pd]).run Tryz.prog W=.ok (.float .f64 a) W)(m2:∀ W ts t,(Builtin.min_ ts t #[.float .f64 j,.float .f64 qu]).run Tryz.prog W=.ok (.float .f64 b) W):
  Calls Tryz.prog 77 #[.agg #[.float .f64 i,.float .f64 j],.agg #[.float .f64 pd,.float .f64 pu],.agg #[.float .f64 qd,.float .f64 qu],.bool op] w fun e w'=>e=.returned (.agg #[.float .f64 (if cc then 9218868437227405312 else a),.float .f64 (if cc then 18442240474082181120 else b)])∧Below w.heap.size w w':=by
 obtain⟨LB0,LG0_0,LG1_0,LG2_0,LR⟩:=bx4 w #[.float .f64 i,.float .f64 j] 28 #[.float .f64 pd,.float .f64 pu] 78 #[.float .f64 qd,.float .f64 qu] 78 #[.float .f64 0,.float .f64 0] 28;have LR0:=Hd (HasBlk.of (n:=2) LR.out rfl rfl);clear LR;have HA:=Hd fun W=>at_any 0 W;have HE:=Hd emptyf;have HC:=Hd hc;have M1:=Hd m1;have M2:=Hd m2;clear hc m1 m2
 go_enter Tryz.func77,Tryz.ntmps77
 obtain⟨q0_0,q0_1⟩:=LG0_0.out.c2;obtain⟨q1_0,q1_1⟩:=LG1_0.out.c2;obtain⟨q2_0,q2_1⟩:=LG2_0.out.c2
 go_upto_region 3 with fail
 clear o1 o2 q0_0 q0_1 q1_0 q1_1 q2_0 q2_1
 obtain⟨W0,hW0⟩:∃ X,((((w.alloc (.cells #[.float .f64 i,.float .f64 j] 28)).alloc (.cells #[.float .f64 pd,.float .f64 pu] 78)).alloc (.cells #[.float .f64 qd,.float .f64 qu] 78)).alloc (.cells #[.float .f64 0,.float .f64 0] 28))=X:=⟨_,rfl⟩
 rw [hW0] at LB0 LR0 LG0_0 LG1_0 LG2_0 ⊢;clear hW0
 go_cut [42] (fun s42 wx=>s42=.bool cc∧Blk wx (w.heap.size) 28 #[.float .f64 i,.float .f64 j]∧Blk wx (w.heap.size+1) 78 #[.float .f64 pd,.float .f64 pu]∧Blk wx (w.heap.size+2) 78 #[.float .f64 qd,.float .f64 qu]∧HasBlk wx (w.heap.size+3) 28 2∧Below w.heap.size w wx)
 case first=>
  have hc:=HC.out;clear HC HE M1 M2
  rcases hc with ⟨rfl,rfl⟩ | ⟨rfl,rfl,⟨z1,z2⟩,(z3 | z3)⟩ | ⟨rfl,(z1 | ⟨z1,z2⟩ | ⟨z1,z2,z3⟩),rfl,⟨z4,z5⟩,(z6 | z6)⟩ | ⟨rfl,(z1 | ⟨z1,z2⟩ | ⟨z1,z2,z3⟩),rfl,(z4 | ⟨z4,z5⟩ | ⟨z4,z5,z6⟩)⟩
  all_goals
   refine wp_region_held_drew (S:=fun W'=>Blk W' w.heap.size 28 #[.float .f64 i,.float .f64 j]∧Blk W' (w.heap.size+1) 78 #[.float .f64 pd,.float .f64 pu]∧Blk W' (w.heap.size+2) 78 #[.float .f64 qd,.float .f64 qu]∧HasBlk W' (w.heap.size+3) 28 2∧Below w.heap.size w W') (by kernel_rfl) (by exact⟨LG0_0.out.drew,LG1_0.out.drew,LG2_0.out.drew,LR0.out.drew,LB0.out.drew⟩) (fun hHeld=>?_)
   (refine wpAnyH_take (i:=0) (v:=?_) rfl (by kernel_rfl) (by kernel_rfl) (by kernel_rfl) (fun _ _ _ h=>h) (Or.inl ⟨by rfl,?_⟩) (by assumption) ?_;rotate_left;· (intro W2 hSw;go_simp;(try with_reducible rfl)))
   (try simp only [Act.put,lay])
   (refine wpAnyH_take (i:=1) (v:=?_) rfl (by kernel_rfl) (by kernel_rfl) (by kernel_rfl) (fun _ _ _ h=>h) (Or.inl ⟨by rfl,?_⟩) (by assumption) ?_;rotate_left;· (intro W2 hSw;go_simp;(try with_reducible rfl)))
   (try simp only [Act.put,lay])
   first | (refine wpAnyH_take (i:=2) (v:=undef) rfl (by kernel_rfl) (by kernel_rfl) (by kernel_rfl) (fun _ _ _ h=>h) (Or.inr ⟨by rfl,rfl⟩) (by assumption) ?_) | (refine wpAnyH_take (i:=2) (v:=?_) rfl (by kernel_rfl) (by kernel_rfl) (by kernel_rfl) (fun _ _ _ h=>h) (Or.inl ⟨by rfl,?_⟩) (by assumption) ?_;rotate_left;· (intro W2 hSw;(try dsimp only at hSw);have q0:_=some (.float .f64 pd:Value):=hSw.2.1.cell 0;have q1:_=some (.float .f64 pu:Value):=hSw.2.1.cell 1;go_simp;(try with_reducible rfl)))
   (try simp only [Act.put,lay])
   first | (refine wpAnyH_take (i:=3) (v:=undef) rfl (by kernel_rfl) (by kernel_rfl) (by kernel_rfl) (fun _ _ _ h=>h) (Or.inr ⟨by rfl,rfl⟩) (by assumption) ?_) | (refine wpAnyH_ready (rs:=[3]) (by kernel_rfl) (by simp) ?_;refine AllReadyH.cons rfl (fun KK hKK=>?_) AllReadyH.nil;go_simp;refine (HA.out _).mono ?_;rintro e w1 ⟨rfl,hbA⟩;go_wp2_with fail;refine hKK.out _ _ (⟨hHeld.1.keep hbA,hHeld.2.1.keep hbA,hHeld.2.2.1.keep hbA,hHeld.2.2.2.1.keep hbA,hHeld.2.2.2.2.trans (hbA.mono hHeld.2.2.2.2.size)⟩) (fun _=>?_);clear hKK KK hHeld;rename_i hHeld)
   (try simp only [Act.put,lay])
   first | (refine wpAnyH_take (i:=4) (v:=undef) rfl (by kernel_rfl) (by kernel_rfl) (by kernel_rfl) (fun _ _ _ h=>h) (Or.inr ⟨by rfl,rfl⟩) (by assumption) ?_) | (refine wpAnyH_take (i:=4) (v:=?_) rfl (by kernel_rfl) (by kernel_rfl) (by kernel_rfl) (fun _ _ _ h=>h) (Or.inl ⟨by rfl,?_⟩) (by assumption) ?_;rotate_left;· (intro W2 hSw;go_simp;(try with_reducible rfl)))
   (try simp only [Act.put,lay])
   first | (refine wpAnyH_take (i:=5) (v:=undef) rfl (by kernel_rfl) (by kernel_rfl) (by kernel_rfl) (fun _ _ _ h=>h) (Or.inr ⟨by rfl,rfl⟩) (by assumption) ?_) | (refine wpAnyH_take (i:=5) (v:=?_) rfl (by kernel_rfl) (by kernel_rfl) (by kernel_rfl) (fun _ _ _ h=>h) (Or.inl ⟨by rfl,?_⟩) (by assumption) ?_;rotate_left;· (intro W2 hSw;go_simp;(try with_reducible rfl)))
   (try simp only [Act.put,lay])
   first | (refine wpAnyH_take (i:=6) (v:=undef) rfl (by kernel_rfl) (by kernel_rfl) (by kernel_rfl) (fun _ _ _ h=>h) (Or.inr ⟨by rfl,rfl⟩) (by assumption) ?_) | (refine wpAnyH_take (i:=6) (v:=?_) rfl (by kernel_rfl) (by kernel_rfl) (by kernel_rfl) (fun _ _ _ h=>h) (Or.inl ⟨by rfl,?_⟩) (by assumption) ?_;rotate_left;· (intro W2 hSw;go_simp;(try with_reducible rfl)))
   (try simp only [Act.put,lay])
   first | (refine wpAnyH_take (i:=7) (v:=undef) rfl (by kernel_rfl) (by kernel_rfl) (by kernel_rfl) (fun _ _ _ h=>h) (Or.inr ⟨by rfl,rfl⟩) (by assumption) ?_) | (refine wpAnyH_take (i:=7) (v:=?_) rfl (by kernel_rfl) (by kernel_rfl) (by kernel_rfl) (fun _ _ _ h=>h) (Or.inl ⟨by rfl,?_⟩) (by assumption) ?_;rotate_left;· (intro W2 hSw;(try dsimp only at hSw);have q0:_=some (.float .f64 i:Value):=hSw.1.cell 0;have q1:_=some (.float .f64 j:Value):=hSw.1.cell 1;go_simp;(try with_reducible rfl)))
   (try simp only [Act.put,lay])
   first | (refine wpAnyH_take (i:=8) (v:=undef) rfl (by kernel_rfl) (by kernel_rfl) (by kernel_rfl) (fun _ _ _ h=>h) (Or.inr ⟨by rfl,rfl⟩) (by assumption) ?_) | (refine wpAnyH_take (i:=8) (v:=?_) rfl (by kernel_rfl) (by kernel_rfl) (by kernel_rfl) (fun _ _ _ h=>h) (Or.inl ⟨by rfl,?_⟩) (by assumption) ?_;rotate_left;· (intro W2 hSw;go_simp;(try with_reducible rfl)))
   (try simp only [Act.put,lay])
   first | (refine wpAnyH_take (i:=9) (v:=undef) rfl (by kernel_rfl) (by kernel_rfl) (by kernel_rfl) (fun _ _ _ h=>h) (Or.inr ⟨by rfl,rfl⟩) (by assumption) ?_) | (refine wpAnyH_take (i:=9) (v:=?_) rfl (by kernel_rfl) (by kernel_rfl) (by kernel_rfl) (fun _ _ _ h=>h) (Or.inl ⟨by rfl,?_⟩) (by assumption) ?_;rotate_left;· (intro W2 hSw;go_simp;(try with_reducible rfl)))
   (try simp only [Act.put,lay])
   first | (refine wpAnyH_take (i:=10) (v:=undef) rfl (by kernel_rfl) (by kernel_rfl) (by kernel_rfl) (fun _ _ _ h=>h) (Or.inr ⟨by rfl,rfl⟩) (by assumption) ?_) | (refine wpAnyH_take (i:=10) (v:=?_) rfl (by kernel_rfl) (by kernel_rfl) (by kernel_rfl) (fun _ _ _ h=>h) (Or.inl ⟨by rfl,?_⟩) (by assumption) ?_;rotate_left;· (intro W2 hSw;go_simp;(try with_reducible rfl)))
   (try simp only [Act.put,lay])
   first | (refine wpAnyH_take (i:=11) (v:=undef) rfl (by kernel_rfl) (by kernel_rfl) (by kernel_rfl) (fun _ _ _ h=>h) (Or.inr ⟨by rfl,rfl⟩) (by assumption) ?_) | (refine wpAnyH_take (i:=11) (v:=?_) rfl (by kernel_rfl) (by kernel_rfl) (by kernel_rfl) (fun _ _ _ h=>h) (Or.inl ⟨by rfl,?_⟩) (by assumption) ?_;rotate_left;· (intro W2 hSw;(try dsimp only at hSw);have q0:_=some (.float .f64 qd:Value):=hSw.2.2.1.cell 0;have q1:_=some (.float .f64 qu:Value):=hSw.2.2.1.cell 1;go_simp;(try with_reducible rfl)))
   (try simp only [Act.put,lay])
   first | (refine wpAnyH_take (i:=12) (v:=undef) rfl (by kernel_rfl) (by kernel_rfl) (by kernel_rfl) (fun _ _ _ h=>h) (Or.inr ⟨by rfl,rfl⟩) (by assumption) ?_) | (refine wpAnyH_ready (rs:=[12]) (by kernel_rfl) (by simp) ?_;refine AllReadyH.cons rfl (fun KK hKK=>?_) AllReadyH.nil;go_simp;refine (HA.out _).mono ?_;rintro e w2 ⟨rfl,hbB⟩;go_wp2_with fail;refine hKK.out _ _ (⟨hHeld.1.keep hbB,hHeld.2.1.keep hbB,hHeld.2.2.1.keep hbB,hHeld.2.2.2.1.keep hbB,hHeld.2.2.2.2.trans (hbB.mono hHeld.2.2.2.2.size)⟩) (fun _=>?_);clear hKK KK hHeld;rename_i hHeld)
   (try simp only [Act.put,lay])
   first | (refine wpAnyH_take (i:=13) (v:=undef) rfl (by kernel_rfl) (by kernel_rfl) (by kernel_rfl) (fun _ _ _ h=>h) (Or.inr ⟨by rfl,rfl⟩) (by assumption) ?_) | (refine wpAnyH_take (i:=13) (v:=?_) rfl (by kernel_rfl) (by kernel_rfl) (by kernel_rfl) (fun _ _ _ h=>h) (Or.inl ⟨by rfl,?_⟩) (by assumption) ?_;rotate_left;· (intro W2 hSw;go_simp;(try with_reducible rfl)))
   (try simp only [Act.put,lay])
   first | (refine wpAnyH_take (i:=14) (v:=undef) rfl (by kernel_rfl) (by kernel_rfl) (by kernel_rfl) (fun _ _ _ h=>h) (Or.inr ⟨by rfl,rfl⟩) (by assumption) ?_) | (refine wpAnyH_take (i:=14) (v:=?_) rfl (by kernel_rfl) (by kernel_rfl) (by kernel_rfl) (fun _ _ _ h=>h) (Or.inl ⟨by rfl,?_⟩) (by assumption) ?_;rotate_left;· (intro W2 hSw;go_simp;(try with_reducible rfl)))
   (try simp only [Act.put,lay])
   first | (refine wpAnyH_take (i:=15) (v:=undef) rfl (by kernel_rfl) (by kernel_rfl) (by kernel_rfl) (fun _ _ _ h=>h) (Or.inr ⟨by rfl,rfl⟩) (by assumption) ?_) | (refine wpAnyH_take (i:=15) (v:=?_) rfl (by kernel_rfl) (by kernel_rfl) (by kernel_rfl) (fun _ _ _ h=>h) (Or.inl ⟨by rfl,?_⟩) (by assumption) ?_;rotate_left;· (intro W2 hSw;go_simp;(try with_reducible rfl)))
   (try simp only [Act.put,lay])
   first | (refine wpAnyH_take (i:=16) (v:=undef) rfl (by kernel_rfl) (by kernel_rfl) (by kernel_rfl) (fun _ _ _ h=>h) (Or.inr ⟨by rfl,rfl⟩) (by assumption) ?_) | (refine wpAnyH_take (i:=16) (v:=?_) rfl (by kernel_rfl) (by kernel_rfl) (by kernel_rfl) (fun _ _ _ h=>h) (Or.inl ⟨by rfl,?_⟩) (by assumption) ?_;rotate_left;· (intro W2 hSw;(try dsimp only at hSw);have q0:_=some (.float .f64 i:Value):=hSw.1.cell 0;have q1:_=some (.float .f64 j:Value):=hSw.1.cell 1;go_simp;(try with_reducible rfl)))
   (try simp only [Act.put,lay])
   first | (refine wpAnyH_take (i:=17) (v:=undef) rfl (by kernel_rfl) (by kernel_rfl) (by kernel_rfl) (fun _ _ _ h=>h) (Or.inr ⟨by rfl,rfl⟩) (by assumption) ?_) | (refine wpAnyH_take (i:=17) (v:=?_) rfl (by kernel_rfl) (by kernel_rfl) (by kernel_rfl) (fun _ _ _ h=>h) (Or.inl ⟨by rfl,?_⟩) (by assumption) ?_;rotate_left;· (intro W2 hSw;go_simp;(try with_reducible rfl)))
   (try simp only [Act.put,lay])
   first | (refine wpAnyH_take (i:=18) (v:=undef) rfl (by kernel_rfl) (by kernel_rfl) (by kernel_rfl) (fun _ _ _ h=>h) (Or.inr ⟨by rfl,rfl⟩) (by assumption) ?_) | (refine wpAnyH_take (i:=18) (v:=?_) rfl (by kernel_rfl) (by kernel_rfl) (by kernel_rfl) (fun _ _ _ h=>h) (Or.inl ⟨by rfl,?_⟩) (by assumption) ?_;rotate_left;· (intro W2 hSw;go_simp;(try with_reducible rfl)))
   (try simp only [Act.put,lay])
   first | (refine wpAnyH_take (i:=19) (v:=undef) rfl (by kernel_rfl) (by kernel_rfl) (by kernel_rfl) (fun _ _ _ h=>h) (Or.inr ⟨by rfl,rfl⟩) (by assumption) ?_) | (refine wpAnyH_take (i:=19) (v:=?_) rfl (by kernel_rfl) (by kernel_rfl) (by kernel_rfl) (fun _ _ _ h=>h) (Or.inl ⟨by rfl,?_⟩) (by assumption) ?_;rotate_left;· (intro W2 hSw;go_simp;(try with_reducible rfl)))
   (try simp only [Act.put,lay])
   (refine wpAnyH_take (i:=20) (v:=?_) rfl (by kernel_rfl) (by kernel_rfl) (by kernel_rfl) (fun _ _ _ h=>h) (Or.inl ⟨by rfl,?_⟩) (by assumption) ?_;rotate_left;· (intro W2 hSw;go_simp;(try with_reducible rfl)))
   (try simp only [Act.put,lay]);refine wpAnyH_done (by kernel_rfl) ?_ _;go_wp2_with fail
   go_meet
   case rel=>exact⟨rfl,hHeld⟩
 case rest=>
  obtain⟨rfl,g0,g1,g2,gr,gb⟩:=hcut;clear HC HA LB0 LR0 LG0_0 LG1_0 LG2_0;have LB1:=Hd gb;have LR1:=Hd gr;have LG0_1:=Hd g0;have LG1_1:=Hd g1;have LG2_1:=Hd g2;clear g0 g1 g2 gr gb
  cases cc
  ·have m1:=M1.out;have m2:=M2.out;clear HE M1 M2;obtain⟨q0_0,q0_1⟩:=LG0_1.out.c2;obtain⟨q1_0,q1_1⟩:=LG1_1.out.c2;obtain⟨q2_0,q2_1⟩:=LG2_1.out.c2;obtain⟨ha0,hf0,ha1,hf1⟩:=LR1.out.sf2;obtain⟨hk0,hk1⟩:=LR1.out.sc2 (.float .f64 a) (.float .f64 b);have F:=Hd (below_sets (w0:=w) (r:=(w.heap.size+3)) (by omega) [.float .f64 a,.float .f64 b] 0 _ LB1.out)
   simp [sets] at hk0 hk1
   go_wp2;refine bodyPost_ret (v:=.agg #[.float .f64 a,.float .f64 b]) (by simp [results,Tryz.results77,go_sem,hk0,hk1]) rfl ?_
   exact⟨rfl,F.out⟩
  ·clear M1 M2;go_wp2_with fail;refine (HE.out _).mono ?_;rintro e w1 ⟨rfl,hb1⟩;have LB2:=stB LB1 hb1 LB1.out.size;have LR2:=stR LR1 hb1;have LG0_2:=stG LG0_1 hb1;have LG1_2:=stG LG1_1 hb1;have LG2_2:=stG LG2_1 hb1;clear LB1 LR1 LG0_1 LG1_1 LG2_1;clear hb1 HE;obtain⟨ha0,hf0,ha1,hf1⟩:=LR2.out.sf2;obtain⟨hk0,hk1⟩:=LR2.out.sc2 (.float .f64 9218868437227405312) (.float .f64 18442240474082181120);have F:=Hd (below_sets (w0:=w) (r:=(w.heap.size+3)) (by omega) [.float .f64 9218868437227405312,.float .f64 18442240474082181120] 0 _ LB2.out)
   simp [sets] at hk0 hk1
   go_wp2;refine bodyPost_ret (v:=.agg #[.float .f64 9218868437227405312,.float .f64 18442240474082181120]) (by simp [results,Tryz.results77,go_sem,hk0,hk1]) rfl ?_
   exact⟨rfl,F.out⟩
def ctO(op:Bool)(i j pd pu qd qu:Int):Int × Int:=if qd<i∨j<pu then ((M:Int),-(M:Int)) else if op=true∧((pd=0∧pu=0∧j≤0)∨(qd=0∧qu=0∧0≤i)) then ((M:Int),-(M:Int)) else (max i pd,min j qu)
theorem ord0{i:Int}(hi:-(M:Int)≤i∧i≤M):FloatKind.f64.format.order (pat i) 0=some (compare i 0):=by
 have h:=order_pat hi.1 hi.2 (j:=0) (by omega) (by omega)
 rwa [pat_zero] at h
theorem ord0_eq{i:Int}(h:i=0):FloatKind.f64.format.order (pat i) 0=some .eq:=by rw [ord0 (by rw [h];omega),Int.compare_eq_eq.2 h]
theorem ord0_lt{i:Int}(hi:-(M:Int)≤i∧i≤M)(h:i<0):FloatKind.f64.format.order (pat i) 0=some .lt:=by rw [ord0 hi,Int.compare_eq_lt.2 h]
theorem ord0_gt{i:Int}(hi:-(M:Int)≤i∧i≤M)(h:0<i):FloatKind.f64.format.order (pat i) 0=some .gt:=by rw [ord0 hi,Int.compare_eq_gt.2 h]
theorem ord0_ne{i:Int}(hi:-(M:Int)≤i∧i≤M)(h:i≠0):(FloatKind.f64.format.order (pat i) 0 == some Ordering.eq)=false:=by
 rcases Int.lt_or_gt_of_ne h with h1 | h1
 ·rw [ord0_lt hi h1];rfl
 ·rw [ord0_gt hi h1];rfl
theorem rcut2_any(op:Bool)(i j pd pu qd qu:Int)(w:World)(hi:-(M:Int)≤i∧i≤M)(hj:-(M:Int)≤j∧j≤M)(h1:-(M:Int)≤pd∧pd≤M)(h2:-(M:Int)≤pu∧pu≤M)(h3:-(M:Int)≤qd∧qd≤M)(h4:-(M:Int)≤qu∧qu≤M):
  Calls Tryz.prog 77 #[.agg #[.float .f64 (pat i),.float .f64 (pat j)],.agg #[.float .f64 (pat pd),.float .f64 (pat pu)],.agg #[.float .f64 (pat qd),.float .f64 (pat qu)],.bool op] w
   fun e w'=>e=.returned (.agg #[.float .f64 (pat (ctO op i j pd pu qd qu).1),.float .f64 (pat (ctO op i j pd pu qd qu).2)])∧Below w.heap.size w w':=by
 unfold ctO
 by_cases c1:qd<i
 ·rw [if_pos (.inl c1),pat_max,pat_min]
  exact rcut2_gt op _ _ _ _ _ _ w (by rw [order_pat hi.1 hi.2 h3.1 h3.2,Int.compare_eq_gt.2 c1])
 ·by_cases c2:j<pu
  ·rw [if_pos (.inr c2),pat_max,pat_min]
   exact rcut2_lt op _ _ _ _ _ _ w (not_gt2 hi h3 c1) (by rw [order_pat hj.1 hj.2 h2.1 h2.2,Int.compare_eq_lt.2 c2])
  ·rw [if_neg (by omega)];have K:=fun cc hc=>rcut2_in op _ _ _ _ _ _ _ _ w (not_gt2 hi h3 c1) (not_lt2 hj h2 c2) cc hc (fun W ts t=>run_maxf hi h1 W ts t) (fun W ts t=>run_minf hj h4 W ts t)
   have hPN:¬ (pd=0∧pu=0∧j≤0)→(FloatKind.f64.format.order (pat pd) 0 == some Ordering.eq)=false∨(FloatKind.f64.format.order (pat pd) 0=some .eq∧(FloatKind.f64.format.order (pat pu) 0 == some Ordering.eq)=false)∨(FloatKind.f64.format.order (pat pd) 0=some .eq∧FloatKind.f64.format.order (pat pu) 0=some .eq∧FloatKind.f64.format.order (pat j) 0=some .gt):=fun h=>by
    by_cases a1:pd=0
    ·by_cases a2:pu=0
     ·exact .inr (.inr ⟨ord0_eq a1,ord0_eq a2,ord0_gt hj (by omega)⟩)
     ·exact .inr (.inl ⟨ord0_eq a1,ord0_ne h2 a2⟩)
    ·exact .inl (ord0_ne h1 a1)
   have hQN:¬ (qd=0∧qu=0∧0≤i)→(FloatKind.f64.format.order (pat qd) 0 == some Ordering.eq)=false∨(FloatKind.f64.format.order (pat qd) 0=some .eq∧(FloatKind.f64.format.order (pat qu) 0 == some Ordering.eq)=false)∨(FloatKind.f64.format.order (pat qd) 0=some .eq∧FloatKind.f64.format.order (pat qu) 0=some .eq∧FloatKind.f64.format.order (pat i) 0=some .lt):=fun h=>by
    by_cases a1:qd=0
    ·by_cases a2:qu=0
     ·exact .inr (.inr ⟨ord0_eq a1,ord0_eq a2,ord0_lt hi (by omega)⟩)
     ·exact .inr (.inl ⟨ord0_eq a1,ord0_ne h4 a2⟩)
    ·exact .inl (ord0_ne h3 a1)
   cases op
   ·rw [if_neg (by simp)]
    exact K false (.inl ⟨rfl,rfl⟩)
   ·by_cases c3:pd=0∧pu=0∧j≤0
    ·rw [if_pos ⟨rfl,.inl c3⟩,pat_max,pat_min];refine K true (.inr (.inl ⟨rfl,rfl,⟨ord0_eq c3.1,ord0_eq c3.2.1⟩,?_⟩))
     by_cases h0:j=0
     ·exact .inr (ord0_eq h0)
     ·exact .inl (ord0_lt hj (by omega))
    ·by_cases c4:qd=0∧qu=0∧0≤i
     ·rw [if_pos ⟨rfl,.inr c4⟩,pat_max,pat_min];refine K true (.inr (.inr (.inl ⟨rfl,hPN c3,rfl,⟨ord0_eq c4.1,ord0_eq c4.2.1⟩,?_⟩)))
      by_cases h0:i=0
      ·exact .inr (ord0_eq h0)
      ·exact .inl (ord0_gt hi (by omega))
     ·rw [if_neg (by rintro⟨-,h | h⟩;exact c3 h;exact c4 h)]
      exact K false (.inr (.inr (.inr ⟨rfl,hPN c3,rfl,hQN c4⟩)))
end
section
open Go.RowKit
theorem dn_neg(s:Int)(x:Rat):dn (-s) (-x)=- up s x:=by
 unfold dn up
 by_cases h:s=0
 ·subst h;simp only [Int.neg_zero,if_true];have:=rndI_neg (d:=1) (.inr rfl) x
  exact this
 ·rw [if_neg (by omega),if_neg h,Int.neg_mul]
theorem up_neg(s:Int)(x:Rat):up (-s) (-x)=- dn s x:=by
 have h:=dn_neg (-s) (-x);rw [Int.neg_neg,Rat.neg_neg] at h
 omega
theorem fl_pos{j:Int}(h:0<j):0<fl j:=by have:=fl_lt_iff.2 h;rwa [fl_zero] at this
def qA(s:Int)(x:Rat)(b1 b2:Int):Int × Rat × Bool:=if 0<esx s x then rt s x (es b2) (ex b2) else rt s x (es (max b1 0)) (ex (max b1 0))
def pA(s:Int)(x:Rat)(b1 b2:Int):Int × Int:=if 0≤esx s x then ov s x b2 else if 0<b1 then ov s x b1 else (-(M:Int),-(M:Int))
def qB(s:Int)(x:Rat)(b1 b2:Int):Int × Rat × Bool:=if esx s x<0 then rt s x (es b2) (ex b2) else rt s x (es (max b1 0)) (ex (max b1 0))
def pB(s:Int)(x:Rat)(b1 b2:Int):Int × Int:=if esx s x≤0 then ov s x b2 else if 0<b1 then ov s x b1 else ((M:Int),(M:Int))
theorem es_nought:es 0=0:=by decide
theorem ex_nought:ex 0=0:=by unfold ex;rw [if_pos es_nought,fl_zero]
theorem rndI_pos{x:Rat}(h:0<x):0<rndI 1 x:=by
 have hM:(M:Int)=9218868437227405312:=rfl;have h1:=mt ((rndI_up x).2.2 0 (by omega) (by omega)).1 (by rw [fl_zero];grind)
 omega
theorem ct_tail{op:Bool}{sa:Int}{xa:Rat}{fa:Bool}{sb:Int}{xb:Rat}{fb:Bool}{i j:Int}(h:-(M:Int)≤i∧i≤j∧j≤M∧i<M∧-(M:Int)<j)(ka:sa=0∨sa=-1)(kb:sb=0∨sb=1)
  (wa:fa=true→sa=-1∨sa=0∧xa=0)(wb:fb=true→sb=1∨sb=0∧xb=0)(oa:(op=true∧dn sa xa=0∧up sa xa=0)↔(sa=0∧xa=0∧fa=true))(ob:(op=true∧dn sb xb=0∧up sb xb=0)↔(sb=0∧xb=0∧fb=true)):
  ctO op i j (dn sa xa) (up sa xa) (dn sb xb) (up sb xb)=pf sa xa fa sb xb fb i j:=by
 have hM:(M:Int)=9218868437227405312:=rfl;unfold pf;rw [if_neg (by omega)];unfold wg ctO;rw [ec_lo_at (by omega) ka,ec_hi_at (by omega) kb];have e1:=ec_hi (i:=i) (s:=sb) (x:=xb) (by omega) kb;have e2:=ec_lo (j:=j) (s:=sa) (x:=xa) (by omega) ka
 have z0:∀ k:Int,-(M:Int)≤k→k≤M→(ec (es k) (ex k) 0 0=0↔k=0):=fun k k1 k2=>by
  have h:=ec_idx (i:=k) (b:=0) k1 k2 (by omega) (by omega);rw [es_nought,ex_nought] at h;unfold SameSign at h
  omega
 have e3:(ec (es i) (ex i) sb xb=0∧fb=true)↔(op=true∧dn sb xb=0∧up sb xb=0∧i=0):=by
  constructor
  ·rintro⟨a,b⟩
   rcases wb b with k | k
   ·exact absurd a (ec_hi_open (by omega) k)
   ·have q:=ob.2 ⟨k.1,k.2,b⟩;rw [k.1,k.2] at a
    exact⟨q.1,q.2.1,q.2.2,(z0 i (by omega) (by omega)).1 a⟩
  ·rintro⟨a,b,c,d⟩;have q:=ob.1 ⟨a,b,c⟩;rw [q.1,q.2.1]
   exact⟨(z0 i (by omega) (by omega)).2 d,q.2.2⟩
 have e4:(ec (es j) (ex j) sa xa=0∧fa=true)↔(op=true∧dn sa xa=0∧up sa xa=0∧j=0):=by
  constructor
  ·rintro⟨a,b⟩
   rcases wa b with k | k
   ·exact absurd a (ec_lo_open (by omega) k)
   ·have q:=oa.2 ⟨k.1,k.2,b⟩;rw [k.1,k.2] at a
    exact⟨q.1,q.2.1,q.2.2,(z0 j (by omega) (by omega)).1 a⟩
  ·rintro⟨a,b,c,d⟩;have q:=oa.1 ⟨a,b,c⟩;rw [q.1,q.2.1]
   exact⟨(z0 j (by omega) (by omega)).2 d,q.2.2⟩
 by_cases hc:dn sb xb<i∨j<up sa xa
 ·rw [if_pos hc,if_pos]
  rcases hc with h1 | h1
  ·exact .inl (e1.2 h1)
  ·exact .inr (.inr (.inl (e2.2 h1)))
 ·rw [if_neg hc]
  by_cases hd:op=true∧((dn sa xa=0∧up sa xa=0∧j≤0)∨(dn sb xb=0∧up sb xb=0∧0≤i))
  ·rw [if_pos hd,if_pos];obtain⟨ho,hd | hd⟩:=hd
   ·exact .inr (.inr (.inr (e4.2 ⟨ho,hd.1,hd.2.1,by omega⟩)))
   ·exact .inr (.inl (e3.2 ⟨ho,hd.1,hd.2.1,by omega⟩))
  ·rw [if_neg hd,if_neg];rintro (h1 | h1 | h1 | h1)
   ·exact hc (.inl (e1.1 h1))
   ·have q:=e3.1 h1
    exact hd ⟨q.1,.inr ⟨q.2.1,q.2.2.1,by omega⟩⟩
   ·exact hc (.inr (e2.1 h1))
   ·have q:=e4.1 h1
    exact hd ⟨q.1,.inl ⟨q.2.1,q.2.2.1,by omega⟩⟩
end
section
open Go.RowKit
def Bx(w:World)(g p q:Nat):Prop:=Blk w g 28 #[.float .f64 p,.float .f64 q]
theorem Bx.keep{w w':World}{g p q:Nat}(h:Bx w g p q)(hb:Below w.heap.size w w'):Bx w' g p q:=Blk.keep h hb
theorem Bx.set{w:World}{g p q:Nat}(h:Bx w g p q)(a b:Nat):Bx ((w.setCell ⟨g,0,none⟩ (.float .f64 a)).setCell ⟨g,1,none⟩ (.float .f64 b)) g a b:=by
 have h1:=Blk.sets [.float .f64 a,.float .f64 b] 0 _ _ h;unfold Bx
 simpa [laid,sets] using h1
theorem Bx.far{w:World}{g p q r:Nat}(h:Bx w g p q)(hr:g≠r)(a b:Value):Bx ((w.setCell ⟨r,0,none⟩ a).setCell ⟨r,1,none⟩ b) g p q:=Blk.other h hr 0 [a,b]
structure Kp (g0 g1 g2:Nat) (w w':World):Prop where
 os:w'.os=w.os
 tape:w'.tape=w.tape
 output:w'.output=w.output
 size:w.heap.size≤w'.heap.size
 block:∀ k,k<w.heap.size→k≠g0→k≠g1→k≠g2→w'.heap[k]?=w.heap[k]?
theorem Kp.refl(g0 g1 g2:Nat)(w:World):Kp g0 g1 g2 w w:=⟨rfl,rfl,rfl,Nat.le_refl _,fun _ _ _ _ _=>rfl⟩
theorem Kp.below{g0 g1 g2:Nat}{w w1 w2:World}(h:Kp g0 g1 g2 w w1)(hb:Below w1.heap.size w1 w2):Kp g0 g1 g2 w w2:=
 ⟨hb.os.trans h.os,hb.tape.trans h.tape,hb.output.trans h.output,Nat.le_trans h.size hb.size,fun k hk a b c=>(hb.block k (Nat.lt_of_lt_of_le hk h.size)).trans (h.block k hk a b c)⟩
theorem Kp.set{g0 g1 g2 r:Nat}{w w1:World}(h:Kp g0 g1 g2 w w1)(hr:r=g0∨r=g1∨r=g2)(a b:Value):Kp g0 g1 g2 w ((w1.setCell ⟨r,0,none⟩ a).setCell ⟨r,1,none⟩ b):=
 ⟨h.os,h.tape,h.output,by have:=size_sets (r:=r) [a,b] 0 w1;have:=h.size;show w.heap.size≤(sets w1 r 0 [a,b]).heap.size;omega,
  fun k hk x y z=>(heap_sets (r:=r) (k:=k) (by rintro rfl;rcases hr with e | e | e<;>contradiction) [a,b] 0 w1).trans (h.block k hk x y z)⟩
theorem Kp.cell{g0 g1 g2:Nat}{w w1:World}(h:Kp g0 g1 g2 w w1){ad:Addr}{v:Value}(hc:w.cell? ad=some v)(h0:ad.block≠g0)(h1:ad.block≠g1)(h2:ad.block≠g2):w1.cell? ad=some v:=by
 have hlt:ad.block<w.heap.size:=by
  unfold World.cell? at hc
  split at hc
  ·rename_i e
   exact (Array.getElem?_eq_some_iff.1 e).1
  ·cases hc
 rw [World.cell?_of_block (w:=w)]
 ·exact hc
 ·exact h.block _ hlt h0 h1 h2
theorem Kp.toBl{g0 g1 g2 B:Nat}{w0 w w':World}(h:Kp g0 g1 g2 w w')(hb:Below B w0 w)(hB:B≤w.heap.size)(h0:B≤g0)(h1:B≤g1)(h2:B≤g2):Below B w0 w':=
 ⟨h.os.trans hb.os,h.tape.trans hb.tape,h.output.trans hb.output,Nat.le_trans hb.size h.size,fun k hk=>(h.block k (by omega) (by omega) (by omega) (by omega)).trans (hb.block k hk)⟩
theorem Iv.negg{i j:Int}(h:Iv i j):Iv (-j) (-i):=by
 unfold Iv at *;rw [M_val] at *
 omega
end
section
open Go.RowKit
attribute [local go_sem] run_store_float run_eqf
def anyB(f:Nat→Bool):Nat→Bool
 | 0=>false
 | n+1=>anyB f n || f n
structure KeepN (G n:Nat) (w w':World):Prop where
 os:w'.os=w.os
 tape:w'.tape=w.tape
 output:w'.output=w.output
 size:w.heap.size≤w'.heap.size
 block:∀ k,k<w.heap.size→(k<G∨G+n≤k)→w'.heap[k]?=w.heap[k]?
theorem KeepN.refl(G n:Nat)(w:World):KeepN G n w w:=⟨rfl,rfl,rfl,Nat.le_refl _,fun _ _ _=>rfl⟩
theorem KeepN.below{G n:Nat}{w w1 w2:World}(h:KeepN G n w w1)(hb:Below w1.heap.size w1 w2):KeepN G n w w2:=
 ⟨hb.os.trans h.os,hb.tape.trans h.tape,hb.output.trans h.output,Nat.le_trans h.size hb.size,fun k hk a=>(hb.block k (Nat.lt_of_lt_of_le hk h.size)).trans (h.block k hk a)⟩
theorem KeepN.drew{G n:Nat}{w w1:World}(h:KeepN G n w w1):KeepN G n w w1.drew:=⟨h.os,h.tape,h.output,h.size,h.block⟩
theorem KeepN.set{G n t:Nat}{w w1:World}(h:KeepN G n w w1)(ht:t<n)(a b:Value):KeepN G n w ((w1.setCell ⟨G+t,0,none⟩ a).setCell ⟨G+t,1,none⟩ b):=
 ⟨h.os,h.tape,h.output,by have:=size_sets (r:=G+t) [a,b] 0 w1;have:=h.size;show w.heap.size≤(sets w1 (G+t) 0 [a,b]).heap.size;omega,
  fun k hk x=>(heap_sets (r:=G+t) (k:=k) (by omega) [a,b] 0 w1).trans (h.block k hk x)⟩
theorem KeepN.cell{G n:Nat}{w w1:World}(h:KeepN G n w w1){ad:Addr}{v:Value}(hc:w.cell? ad=some v)(h0:ad.block<G∨G+n≤ad.block):w1.cell? ad=some v:=by
 have hlt:ad.block<w.heap.size:=by
  unfold World.cell? at hc
  split at hc
  ·rename_i e
   exact (Array.getElem?_eq_some_iff.1 e).1
  ·cases hc
 rw [World.cell?_of_block (w:=w)]
 ·exact hc
 ·exact h.block _ hlt h0
theorem KeepN.toBl{G n B:Nat}{w0 w w':World}(h:KeepN G n w w')(hb:Below B w0 w)(hB:B≤w.heap.size)(h0:B≤G):Below B w0 w':=
 ⟨h.os.trans hb.os,h.tape.trans hb.tape,h.output.trans hb.output,Nat.le_trans hb.size h.size,fun k hk=>(h.block k (by omega) (by omega)).trans (hb.block k hk)⟩
theorem read_n(G n gl cap:Nat)(xs ps:Nat→Nat × Nat)(em:Nat→Bool)(w:World)(hn:n≤100)(hgl:G+n≤gl)
  (hc:∀ k:Nat,k<n→w.cell? ⟨gl,k,none⟩=some (.pointer (some ⟨G+k,0,none⟩)))(hb:∀ k:Nat,k<n→Bx w (G+k) (xs k).1 (xs k).2)
  (hr:∀ k:Nat,k<n→∀ W,Calls Tryz.prog 102 #[.agg #[.float .f64 (xs k).1,.float .f64 (xs k).2]] W fun e w'=>e=.returned (.agg #[.float .f64 (ps k).1,.float .f64 (ps k).2])∧Below W.heap.size W w')
  (he:∀ k:Nat,k<n→Em (em k) (ps k).1 (ps k).2):
  Calls Tryz.prog 75 #[.slice (some ⟨gl,0,none⟩) n cap] w fun e w'=>e=.returned (.bool (anyB em n))∧(∀ k:Nat,k<n→Bx w' (G+k) (ps k).1 (ps k).2)∧KeepN G n w w':=by
 have HC:=Hd hc;have HB:=Hd hb;have HR:=Hd hr;have HE:=Hd he;have HEM:=Hd emptyf;clear hc hb hr he
 go_enter Tryz.func75,Tryz.ntmps75
 go_wp2
 go_loopw [3,5,8] (fun nv _ iv wr=>∃ k:Nat,iv=.int .i64 k∧nv=.bool (anyB em k)∧k≤n∧(∀ t:Nat,t<k→Bx wr (G+t) (ps t).1 (ps t).2)∧(∀ t:Nat,k≤t→t<n→Bx wr (G+t) (xs t).1 (xs t).2)∧KeepN G n w wr) (fun _ _ iv _=>n - (intOf iv).toNat)
 case atStart=>exact⟨0,rfl,rfl,Nat.zero_le _,fun t h=>absurd h (by omega),fun t _ h=>HB.out t h,KeepN.refl _ _ _⟩
 case round=>
  obtain⟨k,rfl,rfl,hk,hd,hl,hkp⟩:=hrel;have HD:=Hd hd;have HL:=Hd hl;have HK:=Hd hkp;clear hd hl hkp
  by_cases hlt:k<n
  ·have hc:=HK.out.cell (HC.out k hlt) (.inr hgl);have hbx:=HL.out k (Nat.le_refl _) hlt;have hem:=HE.out k hlt;have hrd:=HR.out k hlt;have hS:anyB em (k+1)=(anyB em k || em k):=rfl
   obtain⟨p,hp⟩:∃ p,(ps k).1=p:=⟨_,rfl⟩
   obtain⟨q,hq⟩:∃ p,(ps k).2=p:=⟨_,rfl⟩
   obtain⟨x,hx⟩:∃ p,(xs k).1=p:=⟨_,rfl⟩
   obtain⟨y,hy⟩:∃ p,(xs k).2=p:=⟨_,rfl⟩
   rw [hp,hq] at hem hrd;rw [hx,hy] at hrd hbx
   obtain⟨na,hna⟩:∃ b,anyB em k=b:=⟨_,rfl⟩
   obtain⟨ea,hea⟩:∃ b,em k=b:=⟨_,rfl⟩
   rw [hna,hea] at hS;rw [hea] at hem;rw [hna];have HRD:=Hd hrd;have HMM:=Hd hem;have HP:=Hd hp;have HQ:=Hd hq;have HS:=Hd hS;clear hem hrd hp hq hx hy hna hea hS;have q0:_=some (.float .f64 x:Value):=Blk.cell hbx 0;have q1:_=some (.float .f64 y:Value):=Blk.cell hbx 1;go_wp2_with fail;refine (HRD.out _).mono ?_;rintro e w1 ⟨rfl,hb1⟩;have hb2:=Bx.keep hbx hb1;have HD1:=Hd fun t h=>(HD.out t h).keep hb1;have HL1:=Hd fun t h h'=>(HL.out t h h').keep hb1;have HK1:=Hd (HK.out.below hb1);clear hb1 q0 q1 HRD HD HL HK hc hbx;have q0:_=some (.float .f64 x:Value):=Blk.cell hb2 0;have q1:_=some (.float .f64 y:Value):=Blk.cell hb2 1;have f0:=Blk.frozen hb2 0;have f1:=Blk.frozen hb2 1;have HB2:=Hd (hb2.set p q)
   go_upto_region 6 with fail
   have HS6:=Hd (show (∀ t:Nat,t<k+1→Bx ((w1.setCell ⟨G+k,0,none⟩ (.float .f64 p)).setCell ⟨G+k,1,none⟩ (.float .f64 q)) (G+t) (ps t).1 (ps t).2)∧(∀ t:Nat,k+1≤t→t<n→Bx ((w1.setCell ⟨G+k,0,none⟩ (.float .f64 p)).setCell ⟨G+k,1,none⟩ (.float .f64 q)) (G+t) (xs t).1 (xs t).2)∧KeepN G n w ((w1.setCell ⟨G+k,0,none⟩ (.float .f64 p)).setCell ⟨G+k,1,none⟩ (.float .f64 q)) from
    ⟨fun t h=>by
      by_cases e:t=k
      ·subst e;rw [HP.out,HQ.out];exact HB2.out
      ·exact (HD1.out t (by omega)).far (by omega) _ _,fun t h h'=>(HL1.out t (by omega) h').far (by omega) _ _,HK1.out.set hlt _ _⟩)
   obtain⟨W2,hW2⟩:∃ W,(w1.setCell ⟨G+k,0,none⟩ (.float .f64 p)).setCell ⟨G+k,1,none⟩ (.float .f64 q)=W:=⟨_,rfl⟩
   rw [hW2] at HS6 ⊢;clear hW2 q0 q1 f0 f1 hb2 HB2 HD1 HL1 HK1
   cases na
   ·obtain⟨hm1,hm2⟩:=HMM.out;clear HMM
    cases ea
    ·have m1:=hm2 rfl;clear hm1 hm2;refine wp_region_held_drew (S:=fun W'=>(∀ t:Nat,t<k+1→Bx W' (G+t) (ps t).1 (ps t).2)∧(∀ t:Nat,k+1≤t→t<n→Bx W' (G+t) (xs t).1 (xs t).2)∧KeepN G n w W') (by kernel_rfl) (by exact⟨fun t h=>HS6.out.1 t h,fun t h h2=>HS6.out.2.1 t h h2,HS6.out.2.2.drew⟩) (fun hHeld=>?_);refine tk 0 ?_;(try simp only [Act.put,lay]);refine tk 1 ?_;(try simp only [Act.put,lay]);refine tk 2 ?_;(try simp only [Act.put,lay]);refine tk 3 ?_;(try simp only [Act.put,lay]);refine tk 4 ?_ (hv:=by intro W2 hSw;have hbx:=hSw.1 k (by omega);rw [HP.out,HQ.out] at hbx;have q0:_=some (.float .f64 p:Value):=Blk.cell hbx 0;have q1:_=some (.float .f64 q:Value):=Blk.cell hbx 1;go_simp;(try with_reducible rfl));(try simp only [Act.put,lay]);refine rdy 5 (fun KK hKK=>?_);go_simp;refine (HEM.out _).mono ?_;rintro e w3 ⟨rfl,hbE⟩;go_wp2_with fail;refine hKK.out _ _ (⟨fun t h=>(hHeld.1 t h).keep hbE,fun t h h2=>(hHeld.2.1 t h h2).keep hbE,hHeld.2.2.below hbE⟩) (fun _=>?_);clear hKK KK hHeld;rename_i hHeld;(try simp only [Act.put,lay]);refine tk 6 ?_;(try simp only [Act.put,lay]);refine tk 7 ?_;(try simp only [Act.put,lay]);refine tk 8 ?_;(try simp only [Act.put,lay]);refine wpAnyH_done (by kernel_rfl) ?_ _;go_wp2
     go_roundw
     case rel=>exact⟨k+1,by go_num,by rw [HS.out];rfl,by omega,hHeld.1,hHeld.2.1,hHeld.2.2⟩
     case measure=>simp [intOf];omega
    ·obtain⟨m1,m2⟩:=hm1 rfl;clear hm1 hm2;refine wp_region_held_drew (S:=fun W'=>(∀ t:Nat,t<k+1→Bx W' (G+t) (ps t).1 (ps t).2)∧(∀ t:Nat,k+1≤t→t<n→Bx W' (G+t) (xs t).1 (xs t).2)∧KeepN G n w W') (by kernel_rfl) (by exact⟨fun t h=>HS6.out.1 t h,fun t h h2=>HS6.out.2.1 t h h2,HS6.out.2.2.drew⟩) (fun hHeld=>?_);refine tk 0 ?_;(try simp only [Act.put,lay]);refine tk 1 ?_;(try simp only [Act.put,lay]);refine tk 2 ?_;(try simp only [Act.put,lay]);refine tk 3 ?_;(try simp only [Act.put,lay]);refine tk 4 ?_ (hv:=by intro W2 hSw;have hbx:=hSw.1 k (by omega);rw [HP.out,HQ.out] at hbx;have q0:_=some (.float .f64 p:Value):=Blk.cell hbx 0;have q1:_=some (.float .f64 q:Value):=Blk.cell hbx 1;go_simp;(try with_reducible rfl));(try simp only [Act.put,lay]);refine rdy 5 (fun KK hKK=>?_);go_simp;refine (HEM.out _).mono ?_;rintro e w3 ⟨rfl,hbE⟩;go_wp2_with fail;refine hKK.out _ _ (⟨fun t h=>(hHeld.1 t h).keep hbE,fun t h h2=>(hHeld.2.1 t h h2).keep hbE,hHeld.2.2.below hbE⟩) (fun _=>?_);clear hKK KK hHeld;rename_i hHeld;(try simp only [Act.put,lay]);refine tk 6 ?_;(try simp only [Act.put,lay]);refine tk 7 ?_;(try simp only [Act.put,lay]);refine tk 8 ?_;(try simp only [Act.put,lay]);refine wpAnyH_done (by kernel_rfl) ?_ _;go_wp2
     go_roundw
     case rel=>exact⟨k+1,by go_num,by rw [HS.out];rfl,by omega,hHeld.1,hHeld.2.1,hHeld.2.2⟩
     case measure=>simp [intOf];omega
   ·skip;refine wp_region_held_drew (S:=fun W'=>(∀ t:Nat,t<k+1→Bx W' (G+t) (ps t).1 (ps t).2)∧(∀ t:Nat,k+1≤t→t<n→Bx W' (G+t) (xs t).1 (xs t).2)∧KeepN G n w W') (by kernel_rfl) (by exact⟨fun t h=>HS6.out.1 t h,fun t h h2=>HS6.out.2.1 t h h2,HS6.out.2.2.drew⟩) (fun hHeld=>?_);refine tk 0 ?_;(try simp only [Act.put,lay]);refine tk 1 ?_;(try simp only [Act.put,lay]);refine tkn 2 ?_;(try simp only [Act.put,lay]);refine tkn 3 ?_;(try simp only [Act.put,lay]);refine tkn 4 ?_;(try simp only [Act.put,lay]);refine tkn 5 ?_;(try simp only [Act.put,lay]);refine tkn 6 ?_;(try simp only [Act.put,lay]);refine tk 7 ?_;(try simp only [Act.put,lay]);refine tk 8 ?_;(try simp only [Act.put,lay]);refine wpAnyH_done (by kernel_rfl) ?_ _;go_wp2
    go_roundw
    case rel=>exact⟨k+1,by go_num,by rw [HS.out];rfl,by omega,hHeld.1,hHeld.2.1,hHeld.2.2⟩
    case measure=>simp [intOf];omega
  ·obtain rfl:k=n:=by omega
   go_wp2
   go_ret
   exact⟨rfl,HD.out,HK.out⟩
end
section
open Go.RowKit
attribute [local go_sem] run_store_float run_eqf
theorem NoWd.floats(a b:Nat):NoWd #[.float .f64 a,.float .f64 b]:=NoWd.of (by rw [← Array.all_toList];rfl)
theorem ExI.sets{w:World}{s:Int}{g:Bool}{A:Option Addr}{n c:Nat}{E:Int}{x:Rat}(h:ExI w s g A n c E x){r:Nat}{t:TypeId}{a b:Nat}(hb:Blk w r t #[.float .f64 a,.float .f64 b])(i:Nat)(vs:List Value):ExI (Proofs.YthlmlmfebpjgdaaGreatDoor.sets w r i vs) s g A n c E x:=
 h.keep fun _ hu=>hu.sets hb (NoWd.floats a b) i vs
end
section
open Go.RowKit
attribute [local go_sem] run_store_float
theorem emptyq(i j:Int)(w:World)(h1:-(M:Int)≤i∧i≤M)(h2:-(M:Int)≤j∧j≤M):Calls Tryz.prog 116 #[.agg #[.float .f64 (pat i),.float .f64 (pat j)]] w fun e w'=>e=.returned (.bool (decide (j<i)))∧Below w.heap.size w w':=by
 have ho:=order_pat h1.1 h1.2 h2.1 h2.2
 obtain⟨p,hp⟩:∃ p,pat i=p:=⟨_,rfl⟩
 obtain⟨q,hq⟩:∃ p,pat j=p:=⟨_,rfl⟩
 rw [hp,hq] at ho;rw [hp,hq];clear hp hq h1 h2;have hb:=Hd fun cs=>below_alloc w (.cells cs 28)
 rcases Int.lt_trichotomy i j with h | h | h
 ·rw [show compare i j=.lt from Int.compare_eq_lt.2 h] at ho;rw [decide_eq_false (show ¬ j<i by omega)];clear h
  go_enter Tryz.func116,Tryz.ntmps116
  go_wp2
  go_ret
  exact⟨rfl,hb.out _⟩
 ·rw [show compare i j=.eq from Int.compare_eq_eq.2 h] at ho;rw [decide_eq_false (show ¬ j<i by omega)];clear h
  go_enter Tryz.func116,Tryz.ntmps116
  go_wp2
  go_ret
  exact⟨rfl,hb.out _⟩
 ·rw [show compare i j=.gt from Int.compare_eq_gt.2 h] at ho;rw [decide_eq_true (show j<i by omega)];clear h
  go_enter Tryz.func116,Tryz.ntmps116
  go_wp2
  go_ret
  exact⟨rfl,hb.out _⟩
attribute [local go_sem] run_negf
theorem turnedf(i j:Int)(w:World)(h1:-(M:Int)≤i∧i≤M)(h2:-(M:Int)≤j∧j≤M):Calls Tryz.prog 137 #[.agg #[.float .f64 (pat i),.float .f64 (pat j)]] w fun e w'=>e=.returned (.agg #[.float .f64 (pat (-j)),.float .f64 (pat (-i))])∧Below w.heap.size w w':=by
 have n1:=negFloat_val (pat_lt h1.1 h1.2);have n2:=negFloat_val (pat_lt h2.1 h2.2);have P1:=Hd fun W=>(plainf (Op.negFloat .f64 (pat i)) W n1.1 (by rw [n1.2.1,rung_pat h1.1 h1.2];omega)).mono (R':=fun e w'=>e=.returned (.float .f64 (pat (idx (Op.negFloat .f64 (pat i)))))∧Below W.heap.size W w') (by rintro e w' ⟨h,rfl⟩;exact⟨h,Below.refl _ _⟩);have P2:=Hd fun W=>(plainf (Op.negFloat .f64 (pat j)) W n2.1 (by rw [n2.2.1,rung_pat h2.1 h2.2];omega)).mono (R':=fun e w'=>e=.returned (.float .f64 (pat (idx (Op.negFloat .f64 (pat j)))))∧Below W.heap.size W w') (by rintro e w' ⟨h,rfl⟩;exact⟨h,Below.refl _ _⟩);rw [n1.2.2,idx_pat h1.1 h1.2] at P1;rw [n2.2.2,idx_pat h2.1 h2.2] at P2
 obtain⟨p,hp⟩:∃ p,pat i=p:=⟨_,rfl⟩
 obtain⟨q,hq⟩:∃ p,pat j=p:=⟨_,rfl⟩
 obtain⟨p2,hp2⟩:∃ p,pat (-i)=p:=⟨_,rfl⟩
 obtain⟨q2,hq2⟩:∃ p,pat (-j)=p:=⟨_,rfl⟩
 rw [hp,hp2] at P1;rw [hq,hq2] at P2;rw [hp,hq,hp2,hq2];clear n1 n2 hp hq hp2 hq2 h1 h2;obtain⟨LB0,LG0_0,LR⟩:=bx2 w #[.float .f64 p,.float .f64 q] 28 #[.float .f64 0,.float .f64 0] 28;have LR0:=Hd (HasBlk.of (n:=2) LR.out rfl rfl);clear LR
 go_enter Tryz.func137,Tryz.ntmps137
 go_wp2_with fail;refine wp_region_held_drew (S:=fun W'=>Blk W' w.heap.size 28 #[.float .f64 p,.float .f64 q]∧HasBlk W' (w.heap.size+1) 28 2∧Below w.heap.size w W') (by kernel_rfl) (by exact⟨LG0_0.out.drew,LR0.out.drew,LB0.out.drew⟩) (fun hHeld=>?_);refine tk 0 ?_;(try simp only [Act.put,lay]);refine tk 1 ?_ (hv:=by intro W2 hSw;obtain⟨q0,q1⟩:=hSw.1.c2;go_simp;(try with_reducible rfl));(try simp only [Act.put,lay]);refine tk 2 ?_;(try simp only [Act.put,lay]);refine tk 4 ?_;(try simp only [Act.put,lay]);refine tk 5 ?_ (hv:=by intro W2 hSw;obtain⟨q0,q1⟩:=hSw.1.c2;go_simp;(try with_reducible rfl));(try simp only [Act.put,lay]);refine tk 6 ?_;(try simp only [Act.put,lay]);refine rdy 3 (fun KK hKK=>?_);go_simp;refine (P2.out _).mono ?_;rintro e w2 ⟨rfl,hb2⟩;go_wp2_with fail;refine hKK.out _ _ (⟨hHeld.1.keep hb2,hHeld.2.1.keep hb2,hHeld.2.2.trans (hb2.mono hHeld.2.2.size)⟩) (fun _=>?_);clear hKK KK hHeld;rename_i hHeld;(try simp only [Act.put,lay]);refine rdy 7 (fun KK hKK=>?_);go_simp;refine (P1.out _).mono ?_;rintro e w3 ⟨rfl,hb3⟩;go_wp2_with fail;refine hKK.out _ _ (⟨hHeld.1.keep hb3,hHeld.2.1.keep hb3,hHeld.2.2.trans (hb3.mono hHeld.2.2.size)⟩) (fun _=>?_);clear hKK KK hHeld;rename_i hHeld;(try simp only [Act.put,lay]);refine tk 8 ?_;(try simp only [Act.put,lay]);refine rdy 9 (fun KK hKK=>?_);have ha0:=hHeld.2.1.someCell 0 (by decide);have hf0:=hHeld.2.1.frozen 0;have ha1:=hHeld.2.1.someCell 1 (by decide);have hf1:=hHeld.2.1.frozen 1;have HK:=Hd (hHeld.2.1.setCell [.float .f64 q2,.float .f64 p2] rfl);have F:=Hd (below_sets (w0:=w) (r:=(w.heap.size+1)) (by omega) [.float .f64 q2,.float .f64 p2] 0 _ hHeld.2.2)
 go_simp;refine hKK.out _ _ (⟨hHeld.1.other (by omega) 0 [.float .f64 q2,.float .f64 p2],hHeld.2.1.sets [.float .f64 q2,.float .f64 p2] rfl rfl,below_sets (by omega) [.float .f64 q2,.float .f64 p2] 0 _ hHeld.2.2⟩) (fun _=>?_);clear hKK KK hHeld;rename_i hHeld;(try simp only [Act.put,lay]);refine wpAnyH_done (by kernel_rfl) ?_ _;have hk0:=HK.out 0 (by decide);have hk1:=HK.out 1 (by decide)
 simp [sets] at hk0 hk1
 clear hHeld HK hb2 hb3;clear LB0 LR0 LG0_0;go_wp2;refine bodyPost_ret (v:=.agg #[.float .f64 q2,.float .f64 p2]) (by simp [results,Tryz.results137,go_sem,hk0,hk1]) rfl ?_
 exact⟨rfl,F.out⟩
theorem negf(x y:Nat)(w:World)(hx:x<18446744073709551616)(hy:y<18446744073709551616):Calls Tryz.prog 61 #[.agg #[.float .f64 x,.float .f64 y]] w fun e w'=>e=.returned (.agg #[.float .f64 (pat (-(rd x y).2)),.float .f64 (pat (-(rd x y).1))])∧Below w.heap.size w w':=by
 have HR:=Hd fun W=>readf x y W hx hy;have hiv:=rd_iv x y
 obtain⟨i,hi⟩:∃ i,(rd x y).1=i:=⟨_,rfl⟩
 obtain⟨j,hj⟩:∃ i,(rd x y).2=i:=⟨_,rfl⟩
 rw [hi,hj] at HR hiv ⊢;have HQ:=Hd fun W=>emptyq i j W hiv.lo hiv.hi;have HT:=Hd fun W=>turnedf i j W hiv.lo hiv.hi
 have hE:j<i→i=M∧j=-(M:Int):=by
  intro h;unfold Iv at hiv
  omega
 obtain⟨p,hp⟩:∃ p,pat i=p:=⟨_,rfl⟩
 obtain⟨q,hq⟩:∃ p,pat j=p:=⟨_,rfl⟩
 obtain⟨p2,hp2⟩:∃ p,pat (-i)=p:=⟨_,rfl⟩
 obtain⟨q2,hq2⟩:∃ p,pat (-j)=p:=⟨_,rfl⟩
 rw [hp,hq] at HR HQ HT;rw [hp2,hq2] at HT ⊢
 obtain⟨b,hb⟩:∃ b,decide (j<i)=b:=⟨_,rfl⟩
 rw [hb] at HQ
 have HE2:b=true→p=q2∧q=p2:=by
  intro h;rw [h] at hb;obtain⟨e1,e2⟩:=hE (of_decide_eq_true hb);rw [← hp,← hq2,← hq,← hp2,e1,e2,Int.neg_neg]
  exact⟨rfl,rfl⟩
 have HE:=Hd HE2;clear hi hj hiv hE hp hq hp2 hq2 hb HE2
 cases b
 ·skip;obtain⟨LB0,LG0_0,LR⟩:=bx2 w #[.float .f64 x,.float .f64 y] 28 #[.float .f64 0,.float .f64 0] 28;have LR0:=Hd (HasBlk.of (n:=2) LR.out rfl rfl);clear LR
  go_enter Tryz.func61,Tryz.ntmps61
  go_wp2_with fail;refine (HR.out _).mono ?_;rintro e w1 ⟨rfl,hb1⟩;have LB1:=stB LB0 hb1 LB0.out.size;have LR1:=stR LR0 hb1;have LG0_1:=stG LG0_0 hb1;clear LB0 LR0 LG0_0;clear hb1;obtain⟨q0_0,q0_1⟩:=LG0_1.out.c2;have hf0:=LG0_1.out.frozen 0;have hf1:=LG0_1.out.frozen 1
  go_upto_region 2 with fail
  clear q0_0 q0_1 hf0 hf1;have LB2:=Hd (below_sets (w0:=w) (show w.heap.size≤w.heap.size by omega) [.float .f64 p,.float .f64 q] 0 w1 LB1.out);have LR2:=Hd (LR1.out.other (r:=w.heap.size) (by omega) 0 [.float .f64 p,.float .f64 q]);have LG0_2:=Hd (show Blk (sets w1 w.heap.size 0 [.float .f64 p,.float .f64 q]) w.heap.size 28 #[.float .f64 p,.float .f64 q] from by have hbs:=Blk.sets [.float .f64 p,.float .f64 q] 0 w1 _ LG0_1.out;simpa [laid] using hbs);clear LB1 LR1 LG0_1
  obtain⟨V1,hV1⟩:∃ X,(sets w1 w.heap.size 0 [.float .f64 p,.float .f64 q])=X:=⟨_,rfl⟩
  rw [hV1] at LB2 LR2 LG0_2;rw [show ((w1.setCell ⟨w.heap.size,0,none⟩ (.float .f64 p)).setCell ⟨w.heap.size,1,none⟩ (.float .f64 q))=V1 from hV1];clear hV1;obtain⟨q0_0,q0_1⟩:=LG0_2.out.c2;go_wp2_with fail;refine (HQ.out _).mono ?_;rintro e w2 ⟨rfl,hb2⟩;have LB3:=stB LB2 hb2 LB2.out.size;have LR3:=stR LR2 hb2;have LG0_3:=stG LG0_2 hb2;clear LB2 LR2 LG0_2;clear hb2 q0_0 q0_1;obtain⟨q0_0,q0_1⟩:=LG0_3.out.c2;go_wp2_with fail;refine (HT.out _).mono ?_;rintro e w3 ⟨rfl,hb3⟩;have LB4:=stB LB3 hb3 LB3.out.size;have LR4:=stR LR3 hb3;have LG0_4:=stG LG0_3 hb3;clear LB3 LR3 LG0_3;clear hb3 q0_0 q0_1;obtain⟨ha0,hf0,ha1,hf1⟩:=LR4.out.sf2;obtain⟨hk0,hk1⟩:=LR4.out.sc2 (.float .f64 q2) (.float .f64 p2);have F:=Hd (below_sets (w0:=w) (r:=(w.heap.size+1)) (by omega) [.float .f64 q2,.float .f64 p2] 0 _ LB4.out)
  simp [sets] at hk0 hk1
  go_wp2;refine bodyPost_ret (v:=.agg #[.float .f64 q2,.float .f64 p2]) (by simp [results,Tryz.results61,go_sem,hk0,hk1]) rfl ?_
  exact⟨rfl,F.out⟩
 ·skip;obtain⟨LB0,LG0_0,LR⟩:=bx2 w #[.float .f64 x,.float .f64 y] 28 #[.float .f64 0,.float .f64 0] 28;have LR0:=Hd (HasBlk.of (n:=2) LR.out rfl rfl);clear LR
  go_enter Tryz.func61,Tryz.ntmps61
  go_wp2_with fail;refine (HR.out _).mono ?_;rintro e w1 ⟨rfl,hb1⟩;have LB1:=stB LB0 hb1 LB0.out.size;have LR1:=stR LR0 hb1;have LG0_1:=stG LG0_0 hb1;clear LB0 LR0 LG0_0;clear hb1;obtain⟨q0_0,q0_1⟩:=LG0_1.out.c2;have hf0:=LG0_1.out.frozen 0;have hf1:=LG0_1.out.frozen 1
  go_upto_region 2 with fail
  clear q0_0 q0_1 hf0 hf1;have LB2:=Hd (below_sets (w0:=w) (show w.heap.size≤w.heap.size by omega) [.float .f64 p,.float .f64 q] 0 w1 LB1.out);have LR2:=Hd (LR1.out.other (r:=w.heap.size) (by omega) 0 [.float .f64 p,.float .f64 q]);have LG0_2:=Hd (show Blk (sets w1 w.heap.size 0 [.float .f64 p,.float .f64 q]) w.heap.size 28 #[.float .f64 p,.float .f64 q] from by have hbs:=Blk.sets [.float .f64 p,.float .f64 q] 0 w1 _ LG0_1.out;simpa [laid] using hbs);clear LB1 LR1 LG0_1
  obtain⟨V1,hV1⟩:∃ X,(sets w1 w.heap.size 0 [.float .f64 p,.float .f64 q])=X:=⟨_,rfl⟩
  rw [hV1] at LB2 LR2 LG0_2;rw [show ((w1.setCell ⟨w.heap.size,0,none⟩ (.float .f64 p)).setCell ⟨w.heap.size,1,none⟩ (.float .f64 q))=V1 from hV1];clear hV1;obtain⟨q0_0,q0_1⟩:=LG0_2.out.c2;go_wp2_with fail;refine (HQ.out _).mono ?_;rintro e w2 ⟨rfl,hb2⟩;have LB3:=stB LB2 hb2 LB2.out.size;have LR3:=stR LR2 hb2;have LG0_3:=stG LG0_2 hb2;clear LB2 LR2 LG0_2;clear hb2 q0_0 q0_1;obtain⟨q0_0,q0_1⟩:=LG0_3.out.c2;obtain⟨ha0,hf0,ha1,hf1⟩:=LR3.out.sf2;obtain⟨hk0,hk1⟩:=LR3.out.sc2 (.float .f64 p) (.float .f64 q);have F:=Hd (below_sets (w0:=w) (r:=(w.heap.size+1)) (by omega) [.float .f64 p,.float .f64 q] 0 _ LB3.out)
  simp [sets] at hk0 hk1
  go_wp2;refine bodyPost_ret (v:=.agg #[.float .f64 p,.float .f64 q]) (by simp [results,Tryz.results61,go_sem,hk0,hk1]) rfl ?_
  exact⟨by rw [(HE.out trivial).1,(HE.out trivial).2],F.out⟩
end
section
open Go.RowKit
attribute [local go_sem] run_store_float run_frombits run_bitsof
theorem law_in(x y:Nat)(w:World):Calls Tryz.prog 15 #[.agg #[.int .u64 (x:Int),.int .u64 (y:Int)]] w fun e w'=>e=.returned (.agg #[.float .f64 x,.float .f64 y])∧Below w.heap.size w w':=by
 obtain⟨LB0,LG0_0,LR⟩:=bx2 w #[.int .u64 (x:Int),.int .u64 (y:Int)] 24 #[.float .f64 0,.float .f64 0] 28;have LR0:=Hd (HasBlk.of (n:=2) LR.out rfl rfl);clear LR
 go_enter Tryz.func15,Tryz.ntmps15
 go_wp2_with fail;clear LB0 LG0_0 LR0
 go_region
 all_goals go_wp2
 all_goals (refine bodyPost_ret (v:=.agg #[.float .f64 x,.float .f64 y]) (by simp [results,Tryz.results15,go_sem]) rfl ?_;exact⟨rfl,((below_alloc w _).alloc (by simp) _).drew⟩)
theorem law_out(x y:Nat)(w:World):Calls Tryz.prog 13 #[.agg #[.float .f64 x,.float .f64 y]] w fun e w'=>e=.returned (.agg #[.int .u64 (x:Int),.int .u64 (y:Int)])∧Below w.heap.size w w':=by
 obtain⟨LB0,LG0_0,LR⟩:=bx2 w #[.float .f64 x,.float .f64 y] 28 #[.int .u64 0,.int .u64 0] 24;have LR0:=Hd (HasBlk.of (n:=2) LR.out rfl rfl);clear LR
 go_enter Tryz.func13,Tryz.ntmps13
 go_wp2_with fail;clear LB0 LG0_0 LR0
 go_region
 all_goals go_wp2
 all_goals (refine bodyPost_ret (v:=.agg #[.int .u64 (x:Int),.int .u64 (y:Int)]) (by simp [results,Tryz.results13,go_sem]) rfl ?_;exact⟨rfl,((below_alloc w _).alloc (by simp) _).drew⟩)
end
end Go.Proofs.YthlmlmfebpjgdaaGreatDoor
