/-
Lemmas for the statement: Cut2T.
-/
import Derived.Test.YthlmlmfebpjgdaaGreatDoorM02
import Derived.Test.YthlmlmfebpjgdaaGreatDoorM17
import Derived.Test.YthlmlmfebpjgdaaGreatDoorPIntsT
import Derived.Test.YthlmlmfebpjgdaaGreatDoorM07
import Derived.Deep.DeepCutAuto
set_option linter.unusedSimpArgs false
set_option linter.unusedVariables false
set_option maxHeartbeats 12800000
namespace Go.Proofs.YthlmlmfebpjgdaaGreatDoor
section
open Go.RowKit
attribute [local go_sem] run_store_float run_eqf
theorem not_gt2{i j:Int}(hi:-(M:Int)<=i/\i<=M)(hj:-(M:Int)<=j/\j<=M)(h:¬ j<i):(FloatKind.f64.format.order (pat i) (pat j) == some Ordering.gt)=false:=by
 rw [order_pat hi.1 hi.2 hj.1 hj.2]
 rcases Int.lt_trichotomy i j with h2 | h2 | h2
 ·rw [Int.compare_eq_lt.2 h2];rfl
 ·rw [Int.compare_eq_eq.2 h2];rfl
 ·exact absurd h2 h
theorem not_lt2{i j:Int}(hi:-(M:Int)<=i/\i<=M)(hj:-(M:Int)<=j/\j<=M)(h:¬ i<j):(FloatKind.f64.format.order (pat i) (pat j) == some Ordering.lt)=false:=by
 rw [order_pat hi.1 hi.2 hj.1 hj.2]
 rcases Int.lt_trichotomy i j with h2 | h2 | h2
 ·exact absurd h2 h
 ·rw [Int.compare_eq_eq.2 h2];rfl
 ·rw [Int.compare_eq_gt.2 h2];rfl
theorem rcut2_gt(op:Bool)(i j pd pu qd qu:Nat)(w:World)(o1:FloatKind.f64.format.order i qd=some .gt):
  Rt 77 #[.agg #[.float .f64 i,.float .f64 j],.agg #[.float .f64 pd,.float .f64 pu],.agg #[.float .f64 qd,.float .f64 qu],.bool op] (.agg #[.float .f64 9218868437227405312,.float .f64 18442240474082181120]) w:=by
 obtain⟨LB0,LG0_0,LG1_0,LG2_0,LR⟩:=bx4 w #[.float .f64 i,.float .f64 j] 28 #[.float .f64 pd,.float .f64 pu] 78 #[.float .f64 qd,.float .f64 qu] 78 #[.float .f64 0,.float .f64 0] 28;have LR0:=Hd (HasBlk.of (n:=2) LR.out rfl rfl);clear LR;have HE:=Hd emptyf
 go_enter Tryz.func77,Tryz.ntmps77
 obtain⟨q0_0,q0_1⟩:=LG0_0.out.c2;obtain⟨q1_0,q1_1⟩:=LG1_0.out.c2;obtain⟨q2_0,q2_1⟩:=LG2_0.out.c2;go_wp2_with fail;refine cx (HE.out _) fun w1 hb1=>?_;have LB1:=stB LB0 hb1 LB0.out.size;have LR1:=stR LR0 hb1;have LG0_1:=stG LG0_0 hb1;have LG1_1:=stG LG1_0 hb1;have LG2_1:=stG LG2_0 hb1;clear LB0 LR0 LG0_0 LG1_0 LG2_0;clear hb1 HE;obtain⟨ha0,hf0,ha1,hf1⟩:=LR1.out.sf2;obtain⟨hk0,hk1⟩:=LR1.out.sc2 (.float .f64 9218868437227405312) (.float .f64 18442240474082181120);have F:=Hd (below_sets (w0:=w) (r:=(w.heap.size+3)) (by omega) [.float .f64 9218868437227405312,.float .f64 18442240474082181120] 0 _ LB1.out)
 simp [sets] at hk0 hk1
 go_wp2;refine bodyPost_ret (v:=.agg #[.float .f64 9218868437227405312,.float .f64 18442240474082181120]) (by simp [results,Tryz.results77,go_sem,hk0,hk1]) rfl ?_
 exact⟨rfl,F.out⟩
theorem rcut2_lt(op:Bool)(i j pd pu qd qu:Nat)(w:World)(o1:(FloatKind.f64.format.order i qd == some Ordering.gt)=false)(o2:FloatKind.f64.format.order j pu=some .lt):
  Rt 77 #[.agg #[.float .f64 i,.float .f64 j],.agg #[.float .f64 pd,.float .f64 pu],.agg #[.float .f64 qd,.float .f64 qu],.bool op] (.agg #[.float .f64 9218868437227405312,.float .f64 18442240474082181120]) w:=by
 obtain⟨LB0,LG0_0,LG1_0,LG2_0,LR⟩:=bx4 w #[.float .f64 i,.float .f64 j] 28 #[.float .f64 pd,.float .f64 pu] 78 #[.float .f64 qd,.float .f64 qu] 78 #[.float .f64 0,.float .f64 0] 28;have LR0:=Hd (HasBlk.of (n:=2) LR.out rfl rfl);clear LR;have HE:=Hd emptyf
 go_enter Tryz.func77,Tryz.ntmps77
 obtain⟨q0_0,q0_1⟩:=LG0_0.out.c2;obtain⟨q1_0,q1_1⟩:=LG1_0.out.c2;obtain⟨q2_0,q2_1⟩:=LG2_0.out.c2;go_wp2_with fail;refine cx (HE.out _) fun w1 hb1=>?_;have LB1:=stB LB0 hb1 LB0.out.size;have LR1:=stR LR0 hb1;have LG0_1:=stG LG0_0 hb1;have LG1_1:=stG LG1_0 hb1;have LG2_1:=stG LG2_0 hb1;clear LB0 LR0 LG0_0 LG1_0 LG2_0;clear hb1 HE;obtain⟨ha0,hf0,ha1,hf1⟩:=LR1.out.sf2;obtain⟨hk0,hk1⟩:=LR1.out.sc2 (.float .f64 9218868437227405312) (.float .f64 18442240474082181120);have F:=Hd (below_sets (w0:=w) (r:=(w.heap.size+3)) (by omega) [.float .f64 9218868437227405312,.float .f64 18442240474082181120] 0 _ LB1.out)
 simp [sets] at hk0 hk1
 go_wp2;refine bodyPost_ret (v:=.agg #[.float .f64 9218868437227405312,.float .f64 18442240474082181120]) (by simp [results,Tryz.results77,go_sem,hk0,hk1]) rfl ?_
 exact⟨rfl,F.out⟩
def CutC(op:Bool)(i j pd pu qd qu:Nat)(cc:Bool):Prop:=
 (op=false/\cc=false)\/(op=true/\cc=true/\(FloatKind.f64.format.order pd 0=some .eq/\FloatKind.f64.format.order pu 0=some .eq)/\(FloatKind.f64.format.order j 0=some .lt\/FloatKind.f64.format.order j 0=some .eq))\/(op=true/\((FloatKind.f64.format.order pd 0 == some Ordering.eq)=false\/(FloatKind.f64.format.order pd 0=some .eq/\(FloatKind.f64.format.order pu 0 == some Ordering.eq)=false)\/(FloatKind.f64.format.order pd 0=some .eq/\FloatKind.f64.format.order pu 0=some .eq/\FloatKind.f64.format.order j 0=some .gt))/\cc=true/\(FloatKind.f64.format.order qd 0=some .eq/\FloatKind.f64.format.order qu 0=some .eq)/\(FloatKind.f64.format.order i 0=some .gt\/FloatKind.f64.format.order i 0=some .eq))\/(op=true/\((FloatKind.f64.format.order pd 0 == some Ordering.eq)=false\/(FloatKind.f64.format.order pd 0=some .eq/\(FloatKind.f64.format.order pu 0 == some Ordering.eq)=false)\/(FloatKind.f64.format.order pd 0=some .eq/\FloatKind.f64.format.order pu 0=some .eq/\FloatKind.f64.format.order j 0=some .gt))/\cc=false/\((FloatKind.f64.format.order qd 0 == some Ordering.eq)=false\/(FloatKind.f64.format.order qd 0=some .eq/\(FloatKind.f64.format.order qu 0 == some Ordering.eq)=false)\/(FloatKind.f64.format.order qd 0=some .eq/\FloatKind.f64.format.order qu 0=some .eq/\FloatKind.f64.format.order i 0=some .lt)))
theorem rcut2_in(op:Bool)(i j pd pu qd qu a b:Nat)(w:World)(o1:(FloatKind.f64.format.order i qd == some Ordering.gt)=false)(o2:(FloatKind.f64.format.order j pu == some Ordering.lt)=false)(cc:Bool)(hc:CutC op i j pd pu qd qu cc)(m1:∀ W ts t,(Builtin.max_ ts t #[.float .f64 i,.float .f64 pd]).run Tryz.prog W=.ok (.float .f64 a) W)(m2:∀ W ts t,(Builtin.min_ ts t #[.float .f64 j,.float .f64 qu]).run Tryz.prog W=.ok (.float .f64 b) W):
  Rt 77 #[.agg #[.float .f64 i,.float .f64 j],.agg #[.float .f64 pd,.float .f64 pu],.agg #[.float .f64 qd,.float .f64 qu],.bool op] (.agg #[.float .f64 (if cc then 9218868437227405312 else a),.float .f64 (if cc then 18442240474082181120 else b)]) w:=by
 obtain⟨LB0,LG0_0,LG1_0,LG2_0,LR⟩:=bx4 w #[.float .f64 i,.float .f64 j] 28 #[.float .f64 pd,.float .f64 pu] 78 #[.float .f64 qd,.float .f64 qu] 78 #[.float .f64 0,.float .f64 0] 28;have LR0:=Hd (HasBlk.of (n:=2) LR.out rfl rfl);clear LR;have HA:=Hd fun W=>at_any 0 W;have HE:=Hd emptyf;have HC:=Hd hc;have M1:=Hd m1;have M2:=Hd m2;clear hc m1 m2
 go_enter Tryz.func77,Tryz.ntmps77
 obtain⟨q0_0,q0_1⟩:=LG0_0.out.c2;obtain⟨q1_0,q1_1⟩:=LG1_0.out.c2;obtain⟨q2_0,q2_1⟩:=LG2_0.out.c2
 go_upto_region 3 with fail
 clear o1 o2 q0_0 q0_1 q1_0 q1_1 q2_0 q2_1
 obtain⟨W0,hW0⟩:∃ X,((((w.alloc (.cells #[.float .f64 i,.float .f64 j] 28)).alloc (.cells #[.float .f64 pd,.float .f64 pu] 78)).alloc (.cells #[.float .f64 qd,.float .f64 qu] 78)).alloc (.cells #[.float .f64 0,.float .f64 0] 28))=X:=⟨_,rfl⟩
 rw [hW0] at LB0 LR0 LG0_0 LG1_0 LG2_0 ⊢;clear hW0
 go_cut [42] (fun s42 wx=>s42=.bool cc/\Blk wx (w.heap.size) 28 #[.float .f64 i,.float .f64 j]/\Blk wx (w.heap.size+1) 78 #[.float .f64 pd,.float .f64 pu]/\Blk wx (w.heap.size+2) 78 #[.float .f64 qd,.float .f64 qu]/\HasBlk wx (w.heap.size+3) 28 2/\Below w.heap.size w wx)
 case first=>
  have hc:=HC.out;clear HC HE M1 M2
  rcases hc with ⟨rfl,rfl⟩ | ⟨rfl,rfl,⟨z1,z2⟩,(z3 | z3)⟩ | ⟨rfl,(z1 | ⟨z1,z2⟩ | ⟨z1,z2,z3⟩),rfl,⟨z4,z5⟩,(z6 | z6)⟩ | ⟨rfl,(z1 | ⟨z1,z2⟩ | ⟨z1,z2,z3⟩),rfl,(z4 | ⟨z4,z5⟩ | ⟨z4,z5,z6⟩)⟩
  all_goals
   refine wp_region_held_drew (S:=fun W'=>Blk W' w.heap.size 28 #[.float .f64 i,.float .f64 j]/\Blk W' (w.heap.size+1) 78 #[.float .f64 pd,.float .f64 pu]/\Blk W' (w.heap.size+2) 78 #[.float .f64 qd,.float .f64 qu]/\HasBlk W' (w.heap.size+3) 28 2/\Below w.heap.size w W') (by kernel_rfl) (by exact⟨LG0_0.out.drew,LG1_0.out.drew,LG2_0.out.drew,LR0.out.drew,LB0.out.drew⟩) (fun hHeld=>?_)
   (refine wpAnyH_take (i:=0) (v:=?_) rfl (by kernel_rfl) (by kernel_rfl) (by kernel_rfl) (fun _ _ _ h=>h) (Or.inl ⟨by rfl,?_⟩) (by assumption) ?_;rotate_left;· (intro W2 hSw;go_simp;(try with_reducible rfl)))
   (try simp only [Act.put,lay])
   (refine wpAnyH_take (i:=1) (v:=?_) rfl (by kernel_rfl) (by kernel_rfl) (by kernel_rfl) (fun _ _ _ h=>h) (Or.inl ⟨by rfl,?_⟩) (by assumption) ?_;rotate_left;· (intro W2 hSw;go_simp;(try with_reducible rfl)))
   (try simp only [Act.put,lay])
   first | (refine wpAnyH_take (i:=2) (v:=undef) rfl (by kernel_rfl) (by kernel_rfl) (by kernel_rfl) (fun _ _ _ h=>h) (Or.inr ⟨by rfl,rfl⟩) (by assumption) ?_) | (refine wpAnyH_take (i:=2) (v:=?_) rfl (by kernel_rfl) (by kernel_rfl) (by kernel_rfl) (fun _ _ _ h=>h) (Or.inl ⟨by rfl,?_⟩) (by assumption) ?_;rotate_left;· (intro W2 hSw;(try dsimp only at hSw);have q0:_=some (.float .f64 pd:Value):=hSw.2.1.cell 0;have q1:_=some (.float .f64 pu:Value):=hSw.2.1.cell 1;go_simp;(try with_reducible rfl)))
   (try simp only [Act.put,lay])
   first | (refine wpAnyH_take (i:=3) (v:=undef) rfl (by kernel_rfl) (by kernel_rfl) (by kernel_rfl) (fun _ _ _ h=>h) (Or.inr ⟨by rfl,rfl⟩) (by assumption) ?_) | (refine wpAnyH_ready (rs:=[3]) (by kernel_rfl) (by simp) ?_;refine AllReadyH.cons rfl (fun KK hKK=>?_) AllReadyH.nil;go_simp;refine (HA.out _).mono ?_;rintro e w1 ⟨rfl,hbA⟩;go_wp2_with fail;refine hKK.out _ _ (⟨hHeld.1.keep hbA,hHeld.2.1.keep hbA,hHeld.2.2.1.keep hbA,hHeld.2.2.2.1.keep hbA,hHeld.2.2.2.2.trans (hbA.mono hHeld.2.2.2.2.size)⟩) (fun _=>?_);clear hKK KK hHeld;rename_i hHeld)
   (try simp only [Act.put,lay])
   first | (refine wpAnyH_take (i:=4) (v:=undef) rfl (by kernel_rfl) (by kernel_rfl) (by kernel_rfl) (fun _ _ _ h=>h) (Or.inr ⟨by rfl,rfl⟩) (by assumption) ?_) | (refine wpAnyH_take (i:=4) (v:=?_) rfl (by kernel_rfl) (by kernel_rfl) (by kernel_rfl) (fun _ _ _ h=>h) (Or.inl ⟨by rfl,?_⟩) (by assumption) ?_;rotate_left;· (intro W2 hSw;go_simp;(try with_reducible rfl)))
   (try simp only [Act.put,lay])
   first | (refine wpAnyH_take (i:=5) (v:=undef) rfl (by kernel_rfl) (by kernel_rfl) (by kernel_rfl) (fun _ _ _ h=>h) (Or.inr ⟨by rfl,rfl⟩) (by assumption) ?_) | (refine wpAnyH_take (i:=5) (v:=?_) rfl (by kernel_rfl) (by kernel_rfl) (by kernel_rfl) (fun _ _ _ h=>h) (Or.inl ⟨by rfl,?_⟩) (by assumption) ?_;rotate_left;· (intro W2 hSw;go_simp;(try with_reducible rfl)))
   (try simp only [Act.put,lay])
   first | (refine wpAnyH_take (i:=6) (v:=undef) rfl (by kernel_rfl) (by kernel_rfl) (by kernel_rfl) (fun _ _ _ h=>h) (Or.inr ⟨by rfl,rfl⟩) (by assumption) ?_) | (refine wpAnyH_take (i:=6) (v:=?_) rfl (by kernel_rfl) (by kernel_rfl) (by kernel_rfl) (fun _ _ _ h=>h) (Or.inl ⟨by rfl,?_⟩) (by assumption) ?_;rotate_left;· (intro W2 hSw;go_simp;(try with_reducible rfl)))
   (try simp only [Act.put,lay])
   first | (refine wpAnyH_take (i:=7) (v:=undef) rfl (by kernel_rfl) (by kernel_rfl) (by kernel_rfl) (fun _ _ _ h=>h) (Or.inr ⟨by rfl,rfl⟩) (by assumption) ?_) | (refine wpAnyH_take (i:=7) (v:=?_) rfl (by kernel_rfl) (by kernel_rfl) (by kernel_rfl) (fun _ _ _ h=>h) (Or.inl ⟨by rfl,?_⟩) (by assumption) ?_;rotate_left;· (intro W2 hSw;(try dsimp only at hSw);have q0:_=some (.float .f64 i:Value):=hSw.1.cell 0;have q1:_=some (.float .f64 j:Value):=hSw.1.cell 1;go_simp;(try with_reducible rfl)))
   (try simp only [Act.put,lay])
   first | (refine wpAnyH_take (i:=8) (v:=undef) rfl (by kernel_rfl) (by kernel_rfl) (by kernel_rfl) (fun _ _ _ h=>h) (Or.inr ⟨by rfl,rfl⟩) (by assumption) ?_) | (refine wpAnyH_take (i:=8) (v:=?_) rfl (by kernel_rfl) (by kernel_rfl) (by kernel_rfl) (fun _ _ _ h=>h) (Or.inl ⟨by rfl,?_⟩) (by assumption) ?_;rotate_left;· (intro W2 hSw;go_simp;(try with_reducible rfl)))
   (try simp only [Act.put,lay])
   first | (refine wpAnyH_take (i:=9) (v:=undef) rfl (by kernel_rfl) (by kernel_rfl) (by kernel_rfl) (fun _ _ _ h=>h) (Or.inr ⟨by rfl,rfl⟩) (by assumption) ?_) | (refine wpAnyH_take (i:=9) (v:=?_) rfl (by kernel_rfl) (by kernel_rfl) (by kernel_rfl) (fun _ _ _ h=>h) (Or.inl ⟨by rfl,?_⟩) (by assumption) ?_;rotate_left;· (intro W2 hSw;go_simp;(try with_reducible rfl)))
   (try simp only [Act.put,lay])
   first | (refine wpAnyH_take (i:=10) (v:=undef) rfl (by kernel_rfl) (by kernel_rfl) (by kernel_rfl) (fun _ _ _ h=>h) (Or.inr ⟨by rfl,rfl⟩) (by assumption) ?_) | (refine wpAnyH_take (i:=10) (v:=?_) rfl (by kernel_rfl) (by kernel_rfl) (by kernel_rfl) (fun _ _ _ h=>h) (Or.inl ⟨by rfl,?_⟩) (by assumption) ?_;rotate_left;· (intro W2 hSw;go_simp;(try with_reducible rfl)))
   (try simp only [Act.put,lay])
   first | (refine wpAnyH_take (i:=11) (v:=undef) rfl (by kernel_rfl) (by kernel_rfl) (by kernel_rfl) (fun _ _ _ h=>h) (Or.inr ⟨by rfl,rfl⟩) (by assumption) ?_) | (refine wpAnyH_take (i:=11) (v:=?_) rfl (by kernel_rfl) (by kernel_rfl) (by kernel_rfl) (fun _ _ _ h=>h) (Or.inl ⟨by rfl,?_⟩) (by assumption) ?_;rotate_left;· (intro W2 hSw;(try dsimp only at hSw);have q0:_=some (.float .f64 qd:Value):=hSw.2.2.1.cell 0;have q1:_=some (.float .f64 qu:Value):=hSw.2.2.1.cell 1;go_simp;(try with_reducible rfl)))
   (try simp only [Act.put,lay])
   first | (refine wpAnyH_take (i:=12) (v:=undef) rfl (by kernel_rfl) (by kernel_rfl) (by kernel_rfl) (fun _ _ _ h=>h) (Or.inr ⟨by rfl,rfl⟩) (by assumption) ?_) | (refine wpAnyH_ready (rs:=[12]) (by kernel_rfl) (by simp) ?_;refine AllReadyH.cons rfl (fun KK hKK=>?_) AllReadyH.nil;go_simp;refine (HA.out _).mono ?_;rintro e w2 ⟨rfl,hbB⟩;go_wp2_with fail;refine hKK.out _ _ (⟨hHeld.1.keep hbB,hHeld.2.1.keep hbB,hHeld.2.2.1.keep hbB,hHeld.2.2.2.1.keep hbB,hHeld.2.2.2.2.trans (hbB.mono hHeld.2.2.2.2.size)⟩) (fun _=>?_);clear hKK KK hHeld;rename_i hHeld)
   (try simp only [Act.put,lay])
   first | (refine wpAnyH_take (i:=13) (v:=undef) rfl (by kernel_rfl) (by kernel_rfl) (by kernel_rfl) (fun _ _ _ h=>h) (Or.inr ⟨by rfl,rfl⟩) (by assumption) ?_) | (refine wpAnyH_take (i:=13) (v:=?_) rfl (by kernel_rfl) (by kernel_rfl) (by kernel_rfl) (fun _ _ _ h=>h) (Or.inl ⟨by rfl,?_⟩) (by assumption) ?_;rotate_left;· (intro W2 hSw;go_simp;(try with_reducible rfl)))
   (try simp only [Act.put,lay])
   first | (refine wpAnyH_take (i:=14) (v:=undef) rfl (by kernel_rfl) (by kernel_rfl) (by kernel_rfl) (fun _ _ _ h=>h) (Or.inr ⟨by rfl,rfl⟩) (by assumption) ?_) | (refine wpAnyH_take (i:=14) (v:=?_) rfl (by kernel_rfl) (by kernel_rfl) (by kernel_rfl) (fun _ _ _ h=>h) (Or.inl ⟨by rfl,?_⟩) (by assumption) ?_;rotate_left;· (intro W2 hSw;go_simp;(try with_reducible rfl)))
   (try simp only [Act.put,lay])
   first | (refine wpAnyH_take (i:=15) (v:=undef) rfl (by kernel_rfl) (by kernel_rfl) (by kernel_rfl) (fun _ _ _ h=>h) (Or.inr ⟨by rfl,rfl⟩) (by assumption) ?_) | (refine wpAnyH_take (i:=15) (v:=?_) rfl (by kernel_rfl) (by kernel_rfl) (by kernel_rfl) (fun _ _ _ h=>h) (Or.inl ⟨by rfl,?_⟩) (by assumption) ?_;rotate_left;· (intro W2 hSw;go_simp;(try with_reducible rfl)))
   (try simp only [Act.put,lay])
   first | (refine wpAnyH_take (i:=16) (v:=undef) rfl (by kernel_rfl) (by kernel_rfl) (by kernel_rfl) (fun _ _ _ h=>h) (Or.inr ⟨by rfl,rfl⟩) (by assumption) ?_) | (refine wpAnyH_take (i:=16) (v:=?_) rfl (by kernel_rfl) (by kernel_rfl) (by kernel_rfl) (fun _ _ _ h=>h) (Or.inl ⟨by rfl,?_⟩) (by assumption) ?_;rotate_left;· (intro W2 hSw;(try dsimp only at hSw);have q0:_=some (.float .f64 i:Value):=hSw.1.cell 0;have q1:_=some (.float .f64 j:Value):=hSw.1.cell 1;go_simp;(try with_reducible rfl)))
   (try simp only [Act.put,lay])
   first | (refine wpAnyH_take (i:=17) (v:=undef) rfl (by kernel_rfl) (by kernel_rfl) (by kernel_rfl) (fun _ _ _ h=>h) (Or.inr ⟨by rfl,rfl⟩) (by assumption) ?_) | (refine wpAnyH_take (i:=17) (v:=?_) rfl (by kernel_rfl) (by kernel_rfl) (by kernel_rfl) (fun _ _ _ h=>h) (Or.inl ⟨by rfl,?_⟩) (by assumption) ?_;rotate_left;· (intro W2 hSw;go_simp;(try with_reducible rfl)))
   (try simp only [Act.put,lay])
   first | (refine wpAnyH_take (i:=18) (v:=undef) rfl (by kernel_rfl) (by kernel_rfl) (by kernel_rfl) (fun _ _ _ h=>h) (Or.inr ⟨by rfl,rfl⟩) (by assumption) ?_) | (refine wpAnyH_take (i:=18) (v:=?_) rfl (by kernel_rfl) (by kernel_rfl) (by kernel_rfl) (fun _ _ _ h=>h) (Or.inl ⟨by rfl,?_⟩) (by assumption) ?_;rotate_left;· (intro W2 hSw;go_simp;(try with_reducible rfl)))
   (try simp only [Act.put,lay])
   first | (refine wpAnyH_take (i:=19) (v:=undef) rfl (by kernel_rfl) (by kernel_rfl) (by kernel_rfl) (fun _ _ _ h=>h) (Or.inr ⟨by rfl,rfl⟩) (by assumption) ?_) | (refine wpAnyH_take (i:=19) (v:=?_) rfl (by kernel_rfl) (by kernel_rfl) (by kernel_rfl) (fun _ _ _ h=>h) (Or.inl ⟨by rfl,?_⟩) (by assumption) ?_;rotate_left;· (intro W2 hSw;go_simp;(try with_reducible rfl)))
   (try simp only [Act.put,lay])
   (refine wpAnyH_take (i:=20) (v:=?_) rfl (by kernel_rfl) (by kernel_rfl) (by kernel_rfl) (fun _ _ _ h=>h) (Or.inl ⟨by rfl,?_⟩) (by assumption) ?_;rotate_left;· (intro W2 hSw;go_simp;(try with_reducible rfl)))
   (try simp only [Act.put,lay]);refine wpAnyH_done (by kernel_rfl) ?_ _;go_wp2_with fail
   go_meet
   case rel=>exact⟨rfl,hHeld⟩
 case rest=>
  obtain⟨rfl,g0,g1,g2,gr,gb⟩:=hcut;clear HC HA LB0 LR0 LG0_0 LG1_0 LG2_0;have LB1:=Hd gb;have LR1:=Hd gr;have LG0_1:=Hd g0;have LG1_1:=Hd g1;have LG2_1:=Hd g2;clear g0 g1 g2 gr gb
  cases cc
  ·have m1:=M1.out;have m2:=M2.out;clear HE M1 M2;obtain⟨q0_0,q0_1⟩:=LG0_1.out.c2;obtain⟨q1_0,q1_1⟩:=LG1_1.out.c2;obtain⟨q2_0,q2_1⟩:=LG2_1.out.c2;obtain⟨ha0,hf0,ha1,hf1⟩:=LR1.out.sf2;obtain⟨hk0,hk1⟩:=LR1.out.sc2 (.float .f64 a) (.float .f64 b);have F:=Hd (below_sets (w0:=w) (r:=(w.heap.size+3)) (by omega) [.float .f64 a,.float .f64 b] 0 _ LB1.out)
   simp [sets] at hk0 hk1
   go_wp2;refine bodyPost_ret (v:=.agg #[.float .f64 a,.float .f64 b]) (by simp [results,Tryz.results77,go_sem,hk0,hk1]) rfl ?_
   exact⟨rfl,F.out⟩
  ·clear M1 M2;go_wp2_with fail;refine cx (HE.out _) fun w1 hb1=>?_;have LB2:=stB LB1 hb1 LB1.out.size;have LR2:=stR LR1 hb1;have LG0_2:=stG LG0_1 hb1;have LG1_2:=stG LG1_1 hb1;have LG2_2:=stG LG2_1 hb1;clear LB1 LR1 LG0_1 LG1_1 LG2_1;clear hb1 HE;obtain⟨ha0,hf0,ha1,hf1⟩:=LR2.out.sf2;obtain⟨hk0,hk1⟩:=LR2.out.sc2 (.float .f64 9218868437227405312) (.float .f64 18442240474082181120);have F:=Hd (below_sets (w0:=w) (r:=(w.heap.size+3)) (by omega) [.float .f64 9218868437227405312,.float .f64 18442240474082181120] 0 _ LB2.out)
   simp [sets] at hk0 hk1
   go_wp2;refine bodyPost_ret (v:=.agg #[.float .f64 9218868437227405312,.float .f64 18442240474082181120]) (by simp [results,Tryz.results77,go_sem,hk0,hk1]) rfl ?_
   exact⟨rfl,F.out⟩
def ctO(op:Bool)(i j pd pu qd qu:Int):Int × Int:=if qd<i\/j<pu then ((M:Int),-(M:Int)) else if op=true/\((pd=0/\pu=0/\j<=0)\/(qd=0/\qu=0/\0<=i)) then ((M:Int),-(M:Int)) else (max i pd,min j qu)
theorem ord0{i:Int}(hi:-(M:Int)<=i/\i<=M):FloatKind.f64.format.order (pat i) 0=some (compare i 0):=by
 have h:=order_pat hi.1 hi.2 (j:=0) (by omega) (by omega)
 rwa [pat_zero] at h
theorem ord0_eq{i:Int}(h:i=0):FloatKind.f64.format.order (pat i) 0=some .eq:=by rw [ord0 (by rw [h];omega),Int.compare_eq_eq.2 h]
theorem ord0_lt{i:Int}(hi:-(M:Int)<=i/\i<=M)(h:i<0):FloatKind.f64.format.order (pat i) 0=some .lt:=by rw [ord0 hi,Int.compare_eq_lt.2 h]
theorem ord0_gt{i:Int}(hi:-(M:Int)<=i/\i<=M)(h:0<i):FloatKind.f64.format.order (pat i) 0=some .gt:=by rw [ord0 hi,Int.compare_eq_gt.2 h]
theorem ord0_ne{i:Int}(hi:-(M:Int)<=i/\i<=M)(h:i≠0):(FloatKind.f64.format.order (pat i) 0 == some Ordering.eq)=false:=by
 rcases Int.lt_or_gt_of_ne h with h1 | h1
 ·rw [ord0_lt hi h1];rfl
 ·rw [ord0_gt hi h1];rfl
theorem rcut2_any(op:Bool)(i j pd pu qd qu:Int)(w:World)(hi:-(M:Int)<=i/\i<=M)(hj:-(M:Int)<=j/\j<=M)(h1:-(M:Int)<=pd/\pd<=M)(h2:-(M:Int)<=pu/\pu<=M)(h3:-(M:Int)<=qd/\qd<=M)(h4:-(M:Int)<=qu/\qu<=M):
  Calls Tryz.prog 77 #[.agg #[.float .f64 (pat i),.float .f64 (pat j)],.agg #[.float .f64 (pat pd),.float .f64 (pat pu)],.agg #[.float .f64 (pat qd),.float .f64 (pat qu)],.bool op] w
   fun e w'=>e=.returned (.agg #[.float .f64 (pat (ctO op i j pd pu qd qu).1),.float .f64 (pat (ctO op i j pd pu qd qu).2)])/\Below w.heap.size w w':=by
 unfold ctO
 by_cases c1:qd<i
 ·rw [if_pos (.inl c1),pat_max,pat_min]
  exact rcut2_gt op _ _ _ _ _ _ w (by rw [order_pat hi.1 hi.2 h3.1 h3.2,Int.compare_eq_gt.2 c1])
 ·by_cases c2:j<pu
  ·rw [if_pos (.inr c2),pat_max,pat_min]
   exact rcut2_lt op _ _ _ _ _ _ w (not_gt2 hi h3 c1) (by rw [order_pat hj.1 hj.2 h2.1 h2.2,Int.compare_eq_lt.2 c2])
  ·rw [if_neg (by omega)];have K:=fun cc hc=>rcut2_in op _ _ _ _ _ _ _ _ w (not_gt2 hi h3 c1) (not_lt2 hj h2 c2) cc hc (fun W ts t=>run_maxf hi h1 W ts t) (fun W ts t=>run_minf hj h4 W ts t)
   have hPN:¬ (pd=0/\pu=0/\j<=0)->(FloatKind.f64.format.order (pat pd) 0 == some Ordering.eq)=false\/(FloatKind.f64.format.order (pat pd) 0=some .eq/\(FloatKind.f64.format.order (pat pu) 0 == some Ordering.eq)=false)\/(FloatKind.f64.format.order (pat pd) 0=some .eq/\FloatKind.f64.format.order (pat pu) 0=some .eq/\FloatKind.f64.format.order (pat j) 0=some .gt):=fun h=>by
    by_cases a1:pd=0
    ·by_cases a2:pu=0
     ·exact .inr (.inr ⟨ord0_eq a1,ord0_eq a2,ord0_gt hj (by omega)⟩)
     ·exact .inr (.inl ⟨ord0_eq a1,ord0_ne h2 a2⟩)
    ·exact .inl (ord0_ne h1 a1)
   have hQN:¬ (qd=0/\qu=0/\0<=i)->(FloatKind.f64.format.order (pat qd) 0 == some Ordering.eq)=false\/(FloatKind.f64.format.order (pat qd) 0=some .eq/\(FloatKind.f64.format.order (pat qu) 0 == some Ordering.eq)=false)\/(FloatKind.f64.format.order (pat qd) 0=some .eq/\FloatKind.f64.format.order (pat qu) 0=some .eq/\FloatKind.f64.format.order (pat i) 0=some .lt):=fun h=>by
    by_cases a1:qd=0
    ·by_cases a2:qu=0
     ·exact .inr (.inr ⟨ord0_eq a1,ord0_eq a2,ord0_lt hi (by omega)⟩)
     ·exact .inr (.inl ⟨ord0_eq a1,ord0_ne h4 a2⟩)
    ·exact .inl (ord0_ne h3 a1)
   cases op
   ·rw [if_neg (by simp)]
    exact K false (.inl ⟨rfl,rfl⟩)
   ·by_cases c3:pd=0/\pu=0/\j<=0
    ·rw [if_pos ⟨rfl,.inl c3⟩,pat_max,pat_min];refine K true (.inr (.inl ⟨rfl,rfl,⟨ord0_eq c3.1,ord0_eq c3.2.1⟩,?_⟩))
     by_cases h0:j=0
     ·exact .inr (ord0_eq h0)
     ·exact .inl (ord0_lt hj (by omega))
    ·by_cases c4:qd=0/\qu=0/\0<=i
     ·rw [if_pos ⟨rfl,.inr c4⟩,pat_max,pat_min];refine K true (.inr (.inr (.inl ⟨rfl,hPN c3,rfl,⟨ord0_eq c4.1,ord0_eq c4.2.1⟩,?_⟩)))
      by_cases h0:i=0
      ·exact .inr (ord0_eq h0)
      ·exact .inl (ord0_gt hi (by omega))
     ·rw [if_neg (by rintro⟨-,h | h⟩;exact c3 h;exact c4 h)]
      exact K false (.inr (.inr (.inr ⟨rfl,hPN c3,rfl,hQN c4⟩)))
end
end Go.Proofs.YthlmlmfebpjgdaaGreatDoor
