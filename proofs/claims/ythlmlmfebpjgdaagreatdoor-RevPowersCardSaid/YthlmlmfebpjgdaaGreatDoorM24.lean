/-
Lemmas for the statement: IoT FacT.
-/
import Derived.Test.YthlmlmfebpjgdaaGreatDoorM03
import Derived.Test.YthlmlmfebpjgdaaGreatDoorPCut2T
set_option linter.unusedSimpArgs false
set_option linter.unusedVariables false
set_option maxHeartbeats 12800000
namespace Go.Proofs.YthlmlmfebpjgdaaGreatDoor
section
open Go.RowKit
attribute [local go_sem] run_store_float run_frombits run_bitsof
theorem mirrorf(x y:Nat)(w:World)(hx:x<18446744073709551616)(hy:y<18446744073709551616):Calls Tryz.prog 85 #[.agg #[.float .f64 x,.float .f64 y]] w fun e w'=>e=.returned (.agg #[.float .f64 (pat (-(rd x y).2)),.float .f64 (pat (-(rd x y).1))])∧Below w.heap.size w w':=by
 have HN:=Hd fun W=>negf x y W hx hy
 obtain⟨p,hp⟩:∃ p,pat (-(rd x y).2)=p:=⟨_,rfl⟩
 obtain⟨q,hq⟩:∃ p,pat (-(rd x y).1)=p:=⟨_,rfl⟩
 rw [hp,hq] at HN;rw [hp,hq];clear hp hq;obtain⟨LB0,LG0_0,LR⟩:=bx2 w #[.float .f64 x,.float .f64 y] 28 #[.float .f64 0,.float .f64 0] 28;have LR0:=Hd (HasBlk.of (n:=2) LR.out rfl rfl);clear LR
 go_enter Tryz.func85,Tryz.ntmps85
 go_wp2_with fail;refine (HN.out _).mono ?_;rintro e w1 ⟨rfl,hb1⟩;have LB1:=stB LB0 hb1 LB0.out.size;have LR1:=stR LR0 hb1;have LG0_1:=stG LG0_0 hb1;clear LB0 LR0 LG0_0;clear hb1;obtain⟨ha0,hf0,ha1,hf1⟩:=LR1.out.sf2;obtain⟨hk0,hk1⟩:=LR1.out.sc2 (.float .f64 p) (.float .f64 q);have F:=Hd (below_sets (w0:=w) (r:=(w.heap.size+1)) (by omega) [.float .f64 p,.float .f64 q] 0 _ LB1.out)
 simp [sets] at hk0 hk1
 go_wp2;refine bodyPost_ret (v:=.agg #[.float .f64 p,.float .f64 q]) (by simp [results,Tryz.results85,go_sem,hk0,hk1]) rfl ?_
 exact⟨rfl,F.out⟩
end
section
open Go.RowKit
attribute [local go_sem] run_store_float run_eqf
theorem hull_walk(p1 p2 q1 q2 a b:Nat)(k:Int)(w:World)(hB:∀ W,Calls Tryz.prog 138 #[.agg #[.float .f64 p1,.float .f64 p2],.agg #[.float .f64 q1,.float .f64 q2]] W fun e w'=>e=.returned (.tuple #[.agg #[.float .f64 p1,.float .f64 p2],.agg #[.float .f64 q1,.float .f64 q2],.int .i64 k])∧Below W.heap.size W w')
  (m1:∀ W ts t,(Builtin.min_ ts t #[.float .f64 p1,.float .f64 q1]).run Tryz.prog W=.ok (.float .f64 a) W)(m2:∀ W ts t,(Builtin.max_ ts t #[.float .f64 p2,.float .f64 q2]).run Tryz.prog W=.ok (.float .f64 b) W):
  Calls Tryz.prog 63 #[.agg #[.float .f64 p1,.float .f64 p2],.agg #[.float .f64 q1,.float .f64 q2]] w fun e w'=>e=.returned (.agg #[.float .f64 a,.float .f64 b])∧Below w.heap.size w w':=by
 have HB:=Hd hB;have M1:=Hd m1;have M2:=Hd m2;clear hB m1 m2;obtain⟨LB0,LG0_0,LG1_0,LR⟩:=bx3 w #[.float .f64 p1,.float .f64 p2] 28 #[.float .f64 q1,.float .f64 q2] 28 #[.float .f64 0,.float .f64 0] 28;have LR0:=Hd (HasBlk.of (n:=2) LR.out rfl rfl);clear LR
 go_enter Tryz.func63,Tryz.ntmps63
 obtain⟨q0_0,q0_1⟩:=LG0_0.out.c2;obtain⟨q1_0,q1_1⟩:=LG1_0.out.c2;go_wp2_with fail;refine (HB.out _).mono ?_;rintro e w1 ⟨rfl,hb1⟩;have LB1:=stB LB0 hb1 LB0.out.size;have LR1:=stR LR0 hb1;have LG0_1:=stG LG0_0 hb1;have LG1_1:=stG LG1_0 hb1;clear LB0 LR0 LG0_0 LG1_0;clear hb1 HB q0_0 q0_1 q1_0 q1_1;obtain⟨q0_0,q0_1⟩:=LG0_1.out.c2;obtain⟨q1_0,q1_1⟩:=LG1_1.out.c2;have f00:=LG0_1.out.frozen 0;have f01:=LG0_1.out.frozen 1;have f10:=LG1_1.out.frozen 0;have f11:=LG1_1.out.frozen 1
 go_upto_region 2 with fail
 clear q0_0 q0_1 q1_0 q1_1 f00 f01 f10 f11;have LB2:=Hd (below_sets (w0:=w) (show w.heap.size≤w.heap.size by omega) [.float .f64 p1,.float .f64 p2] 0 w1 LB1.out);have LR2:=Hd (LR1.out.other (r:=w.heap.size) (by omega) 0 [.float .f64 p1,.float .f64 p2]);have LG0_2:=Hd (show Blk (sets w1 w.heap.size 0 [.float .f64 p1,.float .f64 p2]) w.heap.size 28 #[.float .f64 p1,.float .f64 p2] from by have hbs:=Blk.sets [.float .f64 p1,.float .f64 p2] 0 w1 _ LG0_1.out;simpa [laid] using hbs);have LG1_2:=Hd (LG1_1.out.other (r:=w.heap.size) (by omega) 0 [.float .f64 p1,.float .f64 p2]);clear LB1 LR1 LG0_1 LG1_1;have LB3:=Hd (below_sets (w0:=w) (show w.heap.size≤(w.heap.size+1) by omega) [.float .f64 q1,.float .f64 q2] 0 (sets w1 w.heap.size 0 [.float .f64 p1,.float .f64 p2]) LB2.out);have LR3:=Hd (LR2.out.other (r:=(w.heap.size+1)) (by omega) 0 [.float .f64 q1,.float .f64 q2]);have LG0_3:=Hd (LG0_2.out.other (r:=(w.heap.size+1)) (by omega) 0 [.float .f64 q1,.float .f64 q2]);have LG1_3:=Hd (show Blk (sets (sets w1 w.heap.size 0 [.float .f64 p1,.float .f64 p2]) (w.heap.size+1) 0 [.float .f64 q1,.float .f64 q2]) (w.heap.size+1) 28 #[.float .f64 q1,.float .f64 q2] from by have hbs:=Blk.sets [.float .f64 q1,.float .f64 q2] 0 (sets w1 w.heap.size 0 [.float .f64 p1,.float .f64 p2]) _ LG1_2.out;simpa [laid] using hbs);clear LB2 LR2 LG0_2 LG1_2
 obtain⟨W2,hW2⟩:∃ W,sets (sets w1 w.heap.size 0 [.float .f64 p1,.float .f64 p2]) (w.heap.size+1) 0 [.float .f64 q1,.float .f64 q2]=W:=⟨_,rfl⟩
 rw [hW2] at LB3 LR3 LG0_3 LG1_3
 simp only [sets] at hW2
 rw [hW2];clear hW2;obtain⟨q0_0,q0_1⟩:=LG0_3.out.c2;obtain⟨q1_0,q1_1⟩:=LG1_3.out.c2;have m1:=M1.out;have m2:=M2.out;obtain⟨ha0,hf0,ha1,hf1⟩:=LR3.out.sf2;obtain⟨hk0,hk1⟩:=LR3.out.sc2 (.float .f64 a) (.float .f64 b);have F:=Hd (below_sets (w0:=w) (r:=(w.heap.size+2)) (by omega) [.float .f64 a,.float .f64 b] 0 _ LB3.out)
 simp [sets] at hk0 hk1
 go_wp2;refine bodyPost_ret (v:=.agg #[.float .f64 a,.float .f64 b]) (by simp [results,Tryz.results63,go_sem,hk0,hk1]) rfl ?_
 exact⟨rfl,F.out⟩
theorem hullf(i j i' j':Int)(w:World)(h:Iv i j)(h':Iv i' j'):
  Calls Tryz.prog 63 #[.agg #[.float .f64 (pat i),.float .f64 (pat j)],.agg #[.float .f64 (pat i'),.float .f64 (pat j')]] w fun e w'=>e=.returned (.agg #[.float .f64 (pat (min i i')),.float .f64 (pat (max j j'))])∧Below w.heap.size w w':=
 hull_walk _ _ _ _ _ _ _ w (fun W=>both_any _ _ _ _ _ _ W (fun W=>readf_idx i j W h) (fun W=>readf_idx i' j' W h') (em_idx h) (em_idx h')) (fun W ts t=>run_minf h.lo h'.lo W ts t) (fun W ts t=>run_maxf h.hi h'.hi W ts t)
end
end Go.Proofs.YthlmlmfebpjgdaaGreatDoor
