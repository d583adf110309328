/-
Lemmas for the statement: Fl2T IoT FacT LessT Es2P PtInfT FmaT.
-/
import Derived.Test.YthlmlmfebpjgdaaGreatDoorM01
import Derived.Test.YthlmlmfebpjgdaaGreatDoorM02
import Derived.Deep.DeepCutAuto
import Derived.Test.YthlmlmfebpjgdaaGreatDoorM07
import Derived.Test.YthlmlmfebpjgdaaGreatDoorM04
import Derived.Test.YthlmlmfebpjgdaaGreatDoorM06
import Derived.Laws.FloatArith
set_option linter.unusedSimpArgs false
set_option linter.unusedVariables false
set_option maxHeartbeats 12800000
namespace Go.Proofs.YthlmlmfebpjgdaaGreatDoor
section
open Go.RowKit
attribute [local go_sem] run_store_float
theorem emptyq(i j:Int)(w:World)(h1:-(M:Int)<=i/\i<=M)(h2:-(M:Int)<=j/\j<=M):Rt 116 #[Zf (pat i) (pat j)] (.bool (decide (j<i))) w:=by
 have ho:=order_pat h1.1 h1.2 h2.1 h2.2
 obtain⟨p,hp⟩:∃ p,pat i=p:=⟨_,rfl⟩
 obtain⟨q,hq⟩:∃ p,pat j=p:=⟨_,rfl⟩
 rw [hp,hq] at ho;rw [hp,hq];clear hp hq h1 h2;have hb:=Hd fun cs=>below_alloc w (.cells cs 28)
 rcases Int.lt_trichotomy i j with h | h | h
 ·rw [show compare i j=.lt from Int.compare_eq_lt.2 h] at ho;rw [decide_eq_false (show ¬ j<i by omega)];clear h
  go_enter Tryz.func116,Tryz.ntmps116
  go_wp2
  go_ret
  exact⟨rfl,hb.out _⟩
 ·rw [show compare i j=.eq from Int.compare_eq_eq.2 h] at ho;rw [decide_eq_false (show ¬ j<i by omega)];clear h
  go_enter Tryz.func116,Tryz.ntmps116
  go_wp2
  go_ret
  exact⟨rfl,hb.out _⟩
 ·rw [show compare i j=.gt from Int.compare_eq_gt.2 h] at ho;rw [decide_eq_true (show j<i by omega)];clear h
  go_enter Tryz.func116,Tryz.ntmps116
  go_wp2
  go_ret
  exact⟨rfl,hb.out _⟩
attribute [local go_sem] run_negf
theorem turnedf(i j:Int)(w:World)(h1:-(M:Int)<=i/\i<=M)(h2:-(M:Int)<=j/\j<=M):Rt 137 #[Zf (pat i) (pat j)] (Zf (pat (-j)) (pat (-i))) w:=by
 have n1:=negFloat_val (pat_lt h1.1 h1.2);have n2:=negFloat_val (pat_lt h2.1 h2.2);have P1:=Hd fun W=>(plainf (Op.negFloat .f64 (pat i)) W n1.1 (by rw [n1.2.1,rung_pat h1.1 h1.2];omega)).mono (R':=fun e w'=>e=.returned (.float .f64 (pat (idx (Op.negFloat .f64 (pat i)))))/\Below W.heap.size W w') (by rintro e w' ⟨h,rfl⟩;exact⟨h,Below.refl _ _⟩);have P2:=Hd fun W=>(plainf (Op.negFloat .f64 (pat j)) W n2.1 (by rw [n2.2.1,rung_pat h2.1 h2.2];omega)).mono (R':=fun e w'=>e=.returned (.float .f64 (pat (idx (Op.negFloat .f64 (pat j)))))/\Below W.heap.size W w') (by rintro e w' ⟨h,rfl⟩;exact⟨h,Below.refl _ _⟩);rw [n1.2.2,idx_pat h1.1 h1.2] at P1;rw [n2.2.2,idx_pat h2.1 h2.2] at P2
 obtain⟨p,hp⟩:∃ p,pat i=p:=⟨_,rfl⟩
 obtain⟨q,hq⟩:∃ p,pat j=p:=⟨_,rfl⟩
 obtain⟨p2,hp2⟩:∃ p,pat (-i)=p:=⟨_,rfl⟩
 obtain⟨q2,hq2⟩:∃ p,pat (-j)=p:=⟨_,rfl⟩
 rw [hp,hp2] at P1;rw [hq,hq2] at P2;rw [hp,hq,hp2,hq2];clear n1 n2 hp hq hp2 hq2 h1 h2;obtain⟨LB0,LG0_0,LR⟩:=bx2 w (Zv p q) 28 (Zv 0 0) 28;have LR0:=Hd (HasBlk.of (n:=2) LR.out rfl rfl);clear LR
 go_enter Tryz.func137,Tryz.ntmps137
 go_wp2_with fail;refine wp_region_held_drew (S:=fun W'=>Blk W' w.heap.size 28 (Zv p q)/\HasBlk W' (w.heap.size+1) 28 2/\Below w.heap.size w W') (by kernel_rfl) (by exact⟨LG0_0.out.drew,LR0.out.drew,LB0.out.drew⟩) (fun hHeld=>?_);refine tks 0 ?_;refine tkb 1 (fun _ h=>h.1.c2) ?_;refine tks 2 ?_;refine tks 4 ?_;refine tkb 5 (fun _ h=>h.1.c2) ?_;refine tks 6 ?_;refine rdy 3 fun KK hKK=>?_;go_simp;refine cx (P2.out _) fun w2 hb2=>?_;go_wp2_with fail;refine hKK.out _ _ (⟨hHeld.1.keep hb2,hHeld.2.1.keep hb2,hHeld.2.2.trans (hb2.mono hHeld.2.2.size)⟩) (fun _=>?_);clear hKK KK hHeld;rename_i hHeld;(try simp only [Act.put,lay]);refine rdy 7 fun KK hKK=>?_;go_simp;refine cx (P1.out _) fun w3 hb3=>?_;go_wp2_with fail;refine hKK.out _ _ (⟨hHeld.1.keep hb3,hHeld.2.1.keep hb3,hHeld.2.2.trans (hb3.mono hHeld.2.2.size)⟩) (fun _=>?_);clear hKK KK hHeld;rename_i hHeld;(try simp only [Act.put,lay]);refine tks 8 ?_;refine rdy 9 fun KK hKK=>?_;have ha0:=hHeld.2.1.someCell 0 (by decide);have hf0:=hHeld.2.1.frozen 0;have ha1:=hHeld.2.1.someCell 1 (by decide);have hf1:=hHeld.2.1.frozen 1;have HK:=Hd (hHeld.2.1.setCell [.float .f64 q2,.float .f64 p2] rfl);have F:=Hd (below_sets (w0:=w) (r:=(w.heap.size+1)) (by omega) [.float .f64 q2,.float .f64 p2] 0 _ hHeld.2.2);go_simp;refine hKK.out _ _ (⟨hHeld.1.other (by omega) 0 [.float .f64 q2,.float .f64 p2],hHeld.2.1.sets [.float .f64 q2,.float .f64 p2] rfl rfl,below_sets (by omega) [.float .f64 q2,.float .f64 p2] 0 _ hHeld.2.2⟩) (fun _=>?_);clear hKK KK hHeld;rename_i hHeld
 (try simp only [Act.put,lay]);refine wpAnyH_done (by kernel_rfl) ?_ _;have hk0:=HK.out 0 (by decide);have hk1:=HK.out 1 (by decide)
 simp [sets] at hk0 hk1
 clear hHeld HK hb2 hb3;clear LB0 LR0 LG0_0;go_wp2;refine bodyPost_ret (v:=Zf q2 p2) (by simp [results,Tryz.results137,go_sem,hk0,hk1]) rfl ?_
 exact⟨rfl,F.out⟩
theorem negf(x y:Nat)(w:World)(hx:x<18446744073709551616)(hy:y<18446744073709551616):Rt 61 #[Zf x y] (Zf (pat (-(rd x y).2)) (pat (-(rd x y).1))) w:=by
 have HR:=Hd fun W=>readf x y W hx hy;have hiv:=rd_iv x y
 obtain⟨i,hi⟩:∃ i,(rd x y).1=i:=⟨_,rfl⟩
 obtain⟨j,hj⟩:∃ i,(rd x y).2=i:=⟨_,rfl⟩
 rw [hi,hj] at HR hiv ⊢;have HQ:=Hd fun W=>emptyq i j W hiv.lo hiv.hi;have HT:=Hd fun W=>turnedf i j W hiv.lo hiv.hi
 have hE:j<i->i=M/\j=-(M:Int):=by
  intro h;unfold Iv at hiv
  omega
 obtain⟨p,hp⟩:∃ p,pat i=p:=⟨_,rfl⟩
 obtain⟨q,hq⟩:∃ p,pat j=p:=⟨_,rfl⟩
 obtain⟨p2,hp2⟩:∃ p,pat (-i)=p:=⟨_,rfl⟩
 obtain⟨q2,hq2⟩:∃ p,pat (-j)=p:=⟨_,rfl⟩
 rw [hp,hq] at HR HQ HT;rw [hp2,hq2] at HT ⊢
 obtain⟨b,hb⟩:∃ b,decide (j<i)=b:=⟨_,rfl⟩
 rw [hb] at HQ
 have HE2:b=true->p=q2/\q=p2:=by
  intro h;rw [h] at hb;obtain⟨e1,e2⟩:=hE (of_decide_eq_true hb);rw [<- hp,<- hq2,<- hq,<- hp2,e1,e2,Int.neg_neg]
  exact⟨rfl,rfl⟩
 have HE:=Hd HE2;clear hi hj hiv hE hp hq hp2 hq2 hb HE2
 cases b
 ·skip;obtain⟨LB0,LG0_0,LR⟩:=bx2 w (Zv x y) 28 (Zv 0 0) 28;have LR0:=Hd (HasBlk.of (n:=2) LR.out rfl rfl);clear LR
  go_enter Tryz.func61,Tryz.ntmps61
  go_wp2_with fail;refine cx (HR.out _) fun w1 hb1=>?_;have LB1:=stB LB0 hb1 LB0.out.size;have LR1:=stR LR0 hb1;have LG0_1:=stG LG0_0 hb1;clear LB0 LR0 LG0_0;clear hb1;obtain⟨q0_0,q0_1⟩:=LG0_1.out.c2;have hf0:=LG0_1.out.frozen 0;have hf1:=LG0_1.out.frozen 1
  go_upto_region 2 with fail
  clear q0_0 q0_1 hf0 hf1;have LB2:=Hd (below_sets (w0:=w) (show w.heap.size<=w.heap.size by omega) [.float .f64 p,.float .f64 q] 0 w1 LB1.out);have LR2:=Hd (LR1.out.other (r:=w.heap.size) (by omega) 0 [.float .f64 p,.float .f64 q]);have LG0_2:=Hd (show Blk (sets w1 w.heap.size 0 [.float .f64 p,.float .f64 q]) w.heap.size 28 (Zv p q) from by have hbs:=Blk.sets [.float .f64 p,.float .f64 q] 0 w1 _ LG0_1.out;simpa [laid] using hbs);clear LB1 LR1 LG0_1
  obtain⟨V1,hV1⟩:∃ X,(sets w1 w.heap.size 0 [.float .f64 p,.float .f64 q])=X:=⟨_,rfl⟩
  rw [hV1] at LB2 LR2 LG0_2;rw [show ((w1.setCell ⟨w.heap.size,0,none⟩ (.float .f64 p)).setCell ⟨w.heap.size,1,none⟩ (.float .f64 q))=V1 from hV1];clear hV1;obtain⟨q0_0,q0_1⟩:=LG0_2.out.c2;go_wp2_with fail;refine cx (HQ.out _) fun w2 hb2=>?_;have LB3:=stB LB2 hb2 LB2.out.size;have LR3:=stR LR2 hb2;have LG0_3:=stG LG0_2 hb2;clear LB2 LR2 LG0_2;clear hb2 q0_0 q0_1;obtain⟨q0_0,q0_1⟩:=LG0_3.out.c2;go_wp2_with fail;refine cx (HT.out _) fun w3 hb3=>?_;have LB4:=stB LB3 hb3 LB3.out.size;have LR4:=stR LR3 hb3;have LG0_4:=stG LG0_3 hb3;clear LB3 LR3 LG0_3;clear hb3 q0_0 q0_1;obtain⟨ha0,hf0,ha1,hf1⟩:=LR4.out.sf2;obtain⟨hk0,hk1⟩:=LR4.out.sc2 (.float .f64 q2) (.float .f64 p2);have F:=Hd (below_sets (w0:=w) (r:=(w.heap.size+1)) (by omega) [.float .f64 q2,.float .f64 p2] 0 _ LB4.out)
  simp [sets] at hk0 hk1
  go_wp2;refine bodyPost_ret (v:=Zf q2 p2) (by simp [results,Tryz.results61,go_sem,hk0,hk1]) rfl ?_
  exact⟨rfl,F.out⟩
 ·skip;obtain⟨LB0,LG0_0,LR⟩:=bx2 w (Zv x y) 28 (Zv 0 0) 28;have LR0:=Hd (HasBlk.of (n:=2) LR.out rfl rfl);clear LR
  go_enter Tryz.func61,Tryz.ntmps61
  go_wp2_with fail;refine cx (HR.out _) fun w1 hb1=>?_;have LB1:=stB LB0 hb1 LB0.out.size;have LR1:=stR LR0 hb1;have LG0_1:=stG LG0_0 hb1;clear LB0 LR0 LG0_0;clear hb1;obtain⟨q0_0,q0_1⟩:=LG0_1.out.c2;have hf0:=LG0_1.out.frozen 0;have hf1:=LG0_1.out.frozen 1
  go_upto_region 2 with fail
  clear q0_0 q0_1 hf0 hf1;have LB2:=Hd (below_sets (w0:=w) (show w.heap.size<=w.heap.size by omega) [.float .f64 p,.float .f64 q] 0 w1 LB1.out);have LR2:=Hd (LR1.out.other (r:=w.heap.size) (by omega) 0 [.float .f64 p,.float .f64 q]);have LG0_2:=Hd (show Blk (sets w1 w.heap.size 0 [.float .f64 p,.float .f64 q]) w.heap.size 28 (Zv p q) from by have hbs:=Blk.sets [.float .f64 p,.float .f64 q] 0 w1 _ LG0_1.out;simpa [laid] using hbs);clear LB1 LR1 LG0_1
  obtain⟨V1,hV1⟩:∃ X,(sets w1 w.heap.size 0 [.float .f64 p,.float .f64 q])=X:=⟨_,rfl⟩
  rw [hV1] at LB2 LR2 LG0_2;rw [show ((w1.setCell ⟨w.heap.size,0,none⟩ (.float .f64 p)).setCell ⟨w.heap.size,1,none⟩ (.float .f64 q))=V1 from hV1];clear hV1;obtain⟨q0_0,q0_1⟩:=LG0_2.out.c2;go_wp2_with fail;refine cx (HQ.out _) fun w2 hb2=>?_;have LB3:=stB LB2 hb2 LB2.out.size;have LR3:=stR LR2 hb2;have LG0_3:=stG LG0_2 hb2;clear LB2 LR2 LG0_2;clear hb2 q0_0 q0_1;obtain⟨q0_0,q0_1⟩:=LG0_3.out.c2;obtain⟨ha0,hf0,ha1,hf1⟩:=LR3.out.sf2;obtain⟨hk0,hk1⟩:=LR3.out.sc2 (.float .f64 p) (.float .f64 q);have F:=Hd (below_sets (w0:=w) (r:=(w.heap.size+1)) (by omega) [.float .f64 p,.float .f64 q] 0 _ LB3.out)
  simp [sets] at hk0 hk1
  go_wp2;refine bodyPost_ret (v:=Zf p q) (by simp [results,Tryz.results61,go_sem,hk0,hk1]) rfl ?_
  exact⟨by rw [(HE.out trivial).1,(HE.out trivial).2],F.out⟩
end
section
open Go.RowKit
attribute [local go_sem] run_store_float run_frombits run_bitsof
theorem mirrorf(x y:Nat)(w:World)(hx:x<18446744073709551616)(hy:y<18446744073709551616):Rt 85 #[Zf x y] (Zf (pat (-(rd x y).2)) (pat (-(rd x y).1))) w:=by
 have HN:=Hd fun W=>negf x y W hx hy
 obtain⟨p,hp⟩:∃ p,pat (-(rd x y).2)=p:=⟨_,rfl⟩
 obtain⟨q,hq⟩:∃ p,pat (-(rd x y).1)=p:=⟨_,rfl⟩
 rw [hp,hq] at HN;rw [hp,hq];clear hp hq;obtain⟨LB0,LG0_0,LR⟩:=bx2 w (Zv x y) 28 (Zv 0 0) 28;have LR0:=Hd (HasBlk.of (n:=2) LR.out rfl rfl);clear LR
 go_enter Tryz.func85,Tryz.ntmps85
 go_wp2_with fail;refine cx (HN.out _) fun w1 hb1=>?_;have LB1:=stB LB0 hb1 LB0.out.size;have LR1:=stR LR0 hb1;have LG0_1:=stG LG0_0 hb1;clear LB0 LR0 LG0_0;clear hb1;obtain⟨ha0,hf0,ha1,hf1⟩:=LR1.out.sf2;obtain⟨hk0,hk1⟩:=LR1.out.sc2 (.float .f64 p) (.float .f64 q);have F:=Hd (below_sets (w0:=w) (r:=(w.heap.size+1)) (by omega) [.float .f64 p,.float .f64 q] 0 _ LB1.out)
 simp [sets] at hk0 hk1
 go_wp2;refine bodyPost_ret (v:=Zf p q) (by simp [results,Tryz.results85,go_sem,hk0,hk1]) rfl ?_
 exact⟨rfl,F.out⟩
end
section
open Go.RowKit
attribute [local go_sem] run_store_float run_eqf
theorem has_any(i j:Int)(w:World)(hi:-(M:Int)<=i/\i<=M)(hj:-(M:Int)<=j/\j<=M):Rt 87 #[Zf (pat i) (pat j)] (.bool (decide (i<=0/\0<=j))) w:=by
 have t1:i<=0->FloatKind.f64.format.order (pat i) 0=some .lt\/FloatKind.f64.format.order (pat i) 0=some .eq:=fun h=>by
  by_cases h0:i=0
  ·exact .inr (ord0_eq h0)
  ·exact .inl (ord0_lt hi (by omega))
 have t2:0<=j->FloatKind.f64.format.order (pat j) 0=some .gt\/FloatKind.f64.format.order (pat j) 0=some .eq:=fun h=>by
  by_cases h0:j=0
  ·exact .inr (ord0_eq h0)
  ·exact .inl (ord0_gt hj (by omega))
 obtain⟨LB0,LG0_0⟩:=bx1 w (Zv (pat i) (pat j)) 28
 obtain⟨p,hp⟩:∃ p,pat i=p:=⟨_,rfl⟩
 obtain⟨q,hq⟩:∃ p,pat j=p:=⟨_,rfl⟩
 by_cases h1:i<=0
 ·have o1:=t1 h1
  by_cases h2:0<=j
  ·have o2:=t2 h2;rw [decide_eq_true ⟨h1,h2⟩];rw [hp] at o1;rw [hq] at o2;rw [hp,hq] at LB0 LG0_0 ⊢;clear t1 t2 hp hq h1 h2 hi hj
   rcases o1 with o1 | o1<;>rcases o2 with o2 | o2
   all_goals
    have F:=Hd LB0.out;have q0:=LG0_0.out.cell 0;have q1:=LG0_0.out.cell 1
    go_enter Tryz.func87,Tryz.ntmps87
    go_wp2
    go_ret
    exact⟨rfl,F.out⟩
  ·have o2:=ord0_lt hj (by omega);rw [decide_eq_false (fun h=>h2 h.2)];rw [hp] at o1;rw [hq] at o2;rw [hp,hq] at LB0 LG0_0 ⊢;clear t1 t2 hp hq h1 h2 hi hj
   rcases o1 with o1 | o1
   all_goals
    have F:=Hd LB0.out;have q0:=LG0_0.out.cell 0;have q1:=LG0_0.out.cell 1
    go_enter Tryz.func87,Tryz.ntmps87
    go_wp2
    go_ret
    exact⟨rfl,F.out⟩
 ·have o1:=ord0_gt hi (by omega);rw [decide_eq_false (fun h=>h1 h.1)];rw [hp] at o1;rw [hp,hq] at LB0 LG0_0 ⊢;clear t1 t2 hp hq h1 hi hj;have F:=Hd LB0.out;have q0:=LG0_0.out.cell 0;have q1:=LG0_0.out.cell 1
  go_enter Tryz.func87,Tryz.ntmps87
  go_wp2
  go_ret
  exact⟨rfl,F.out⟩
theorem hull_walk(p1 p2 q1 q2 a b:Nat)(k:Int)(w:World)(hB:∀ W,Rt 138 #[Zf p1 p2,Zf q1 q2] (.tuple #[Zf p1 p2,Zf q1 q2,.int .i64 k]) W)
  (m1:∀ W ts t,(Builtin.min_ ts t (Zv p1 q1)).run Tryz.prog W=.ok (.float .f64 a) W)(m2:∀ W ts t,(Builtin.max_ ts t (Zv p2 q2)).run Tryz.prog W=.ok (.float .f64 b) W):
  Rt 63 #[Zf p1 p2,Zf q1 q2] (Zf a b) w:=by
 have HB:=Hd hB;have M1:=Hd m1;have M2:=Hd m2;clear hB m1 m2;obtain⟨LB0,LG0_0,LG1_0,LR⟩:=bx3 w (Zv p1 p2) 28 (Zv q1 q2) 28 (Zv 0 0) 28;have LR0:=Hd (HasBlk.of (n:=2) LR.out rfl rfl);clear LR
 go_enter Tryz.func63,Tryz.ntmps63
 obtain⟨q0_0,q0_1⟩:=LG0_0.out.c2;obtain⟨q1_0,q1_1⟩:=LG1_0.out.c2;go_wp2_with fail;refine cx (HB.out _) fun w1 hb1=>?_;have LB1:=stB LB0 hb1 LB0.out.size;have LR1:=stR LR0 hb1;have LG0_1:=stG LG0_0 hb1;have LG1_1:=stG LG1_0 hb1;clear LB0 LR0 LG0_0 LG1_0;clear hb1 HB q0_0 q0_1 q1_0 q1_1;obtain⟨q0_0,q0_1⟩:=LG0_1.out.c2;obtain⟨q1_0,q1_1⟩:=LG1_1.out.c2;have f00:=LG0_1.out.frozen 0;have f01:=LG0_1.out.frozen 1;have f10:=LG1_1.out.frozen 0;have f11:=LG1_1.out.frozen 1
 go_upto_region 2 with fail
 clear q0_0 q0_1 q1_0 q1_1 f00 f01 f10 f11;have LB2:=Hd (below_sets (w0:=w) (show w.heap.size<=w.heap.size by omega) [.float .f64 p1,.float .f64 p2] 0 w1 LB1.out);have LR2:=Hd (LR1.out.other (r:=w.heap.size) (by omega) 0 [.float .f64 p1,.float .f64 p2]);have LG0_2:=Hd (show Blk (sets w1 w.heap.size 0 [.float .f64 p1,.float .f64 p2]) w.heap.size 28 (Zv p1 p2) from by have hbs:=Blk.sets [.float .f64 p1,.float .f64 p2] 0 w1 _ LG0_1.out;simpa [laid] using hbs);have LG1_2:=Hd (LG1_1.out.other (r:=w.heap.size) (by omega) 0 [.float .f64 p1,.float .f64 p2]);clear LB1 LR1 LG0_1 LG1_1;have LB3:=Hd (below_sets (w0:=w) (show w.heap.size<=(w.heap.size+1) by omega) [.float .f64 q1,.float .f64 q2] 0 (sets w1 w.heap.size 0 [.float .f64 p1,.float .f64 p2]) LB2.out);have LR3:=Hd (LR2.out.other (r:=(w.heap.size+1)) (by omega) 0 [.float .f64 q1,.float .f64 q2]);have LG0_3:=Hd (LG0_2.out.other (r:=(w.heap.size+1)) (by omega) 0 [.float .f64 q1,.float .f64 q2]);have LG1_3:=Hd (show Blk (sets (sets w1 w.heap.size 0 [.float .f64 p1,.float .f64 p2]) (w.heap.size+1) 0 [.float .f64 q1,.float .f64 q2]) (w.heap.size+1) 28 (Zv q1 q2) from by have hbs:=Blk.sets [.float .f64 q1,.float .f64 q2] 0 (sets w1 w.heap.size 0 [.float .f64 p1,.float .f64 p2]) _ LG1_2.out;simpa [laid] using hbs);clear LB2 LR2 LG0_2 LG1_2
 obtain⟨W2,hW2⟩:∃ W,sets (sets w1 w.heap.size 0 [.float .f64 p1,.float .f64 p2]) (w.heap.size+1) 0 [.float .f64 q1,.float .f64 q2]=W:=⟨_,rfl⟩
 rw [hW2] at LB3 LR3 LG0_3 LG1_3
 simp only [sets] at hW2
 rw [hW2];clear hW2;obtain⟨q0_0,q0_1⟩:=LG0_3.out.c2;obtain⟨q1_0,q1_1⟩:=LG1_3.out.c2;have m1:=M1.out;have m2:=M2.out;obtain⟨ha0,hf0,ha1,hf1⟩:=LR3.out.sf2;obtain⟨hk0,hk1⟩:=LR3.out.sc2 (.float .f64 a) (.float .f64 b);have F:=Hd (below_sets (w0:=w) (r:=(w.heap.size+2)) (by omega) [.float .f64 a,.float .f64 b] 0 _ LB3.out)
 simp [sets] at hk0 hk1
 go_wp2;refine bodyPost_ret (v:=Zf a b) (by simp [results,Tryz.results63,go_sem,hk0,hk1]) rfl ?_
 exact⟨rfl,F.out⟩
theorem hullf(i j i' j':Int)(w:World)(h:Iv i j)(h':Iv i' j'):
  Rt 63 #[Zf (pat i) (pat j),.agg #[.float .f64 (pat i'),.float .f64 (pat j')]] (Zf (pat (min i i')) (pat (max j j'))) w:=
 hull_walk _ _ _ _ _ _ _ w (fun W=>both_any _ _ _ _ _ _ W (fun W=>readf_idx i j W h) (fun W=>readf_idx i' j' W h') (em_idx h) (em_idx h')) (fun W ts t=>run_minf h.lo h'.lo W ts t) (fun W ts t=>run_maxf h.hi h'.hi W ts t)
theorem factor_walk(b1 b2:Nat)(s1:Int)(g1:Bool)(A1:Option Addr)(n1 c1:Nat)(E1:Int)(s2:Int)(g2:Bool)(A2:Option Addr)(n2 c2:Nat)(E2:Int)(i j:Nat)(x1 x2:Rat)(sg1 sg2:Int)(hs ins:Bool)(u1 u2 mb1 mb2 mx1 mx2 v1 v2 mv1 mv2 r1 r2:Nat)(w:World)
  (S1:∀ W,Rt 158 #[.agg #[.int .i64 s1,.bool g1,.slice A1 n1 c1,.int .i64 E1]] (.int .i64 sg1) W)(S2:∀ W,Rt 158 #[.agg #[.int .i64 s2,.bool g2,.slice A2 n2 c2,.int .i64 E2]] (.int .i64 sg2) W)(h1:ExI w s1 g1 A1 n1 c1 E1 x1)(h2:ExI w s2 g2 A2 n2 c2 E2 x2)
  (HH:∀ W,Rt 87 #[Zf b1 b2] (.bool hs) W)(zi:(hs && decide (sg1<=0) && decide (0<=sg2))=ins)
  (P1:∀ W,ExI W s1 g1 A1 n1 c1 E1 x1->ExI W s2 g2 A2 n2 c2 E2 x2->Rt 101 #[Zf b1 b2,.agg #[.int .i64 s1,.bool g1,.slice A1 n1 c1,.int .i64 E1],.agg #[.int .i64 s2,.bool g2,.slice A2 n2 c2,.int .i64 E2],Zf i j] (Zf u1 u2) W)
  (M1:∀ W,Rt 85 #[Zf b1 b2] (Zf mb1 mb2) W)(M2:∀ W,Rt 85 #[Zf i j] (Zf mx1 mx2) W)
  (P2:∀ W,ExI W s1 g1 A1 n1 c1 E1 x1->ExI W s2 g2 A2 n2 c2 E2 x2->Rt 101 #[Zf mb1 mb2,.agg #[.int .i64 s1,.bool g1,.slice A1 n1 c1,.int .i64 E1],.agg #[.int .i64 s2,.bool g2,.slice A2 n2 c2,.int .i64 E2],Zf mx1 mx2] (Zf v1 v2) W)
  (M3:∀ W,Rt 85 #[Zf v1 v2] (Zf mv1 mv2) W)(HU:∀ W,Rt 63 #[Zf u1 u2,Zf mv1 mv2] (Zf r1 r2) W):
  Rt 90 #[Zf b1 b2,.agg #[.int .i64 s1,.bool g1,.slice A1 n1 c1,.int .i64 E1],.agg #[.int .i64 s2,.bool g2,.slice A2 n2 c2,.int .i64 E2],Zf i j] (.agg #[.float .f64 (if ins then i else r1),.float .f64 (if ins then j else r2)]) w:=by
 have KS1:=Hd S1;have KS2:=Hd S2;have KHH:=Hd HH;have Kzi:=Hd zi;have KP1:=Hd P1;have KM1:=Hd M1;have KM2:=Hd M2;have KP2:=Hd P2;have KM3:=Hd M3;have KHU:=Hd HU;have X0:=Hd h1;have Y0:=Hd h2;clear S1 S2 h1 h2 HH zi P1 M1 M2 P2 M3 HU;obtain⟨LB0,LG0_0,LG1_0,LG2_0,LG3_0,LR⟩:=bx5 w (Zv b1 b2) 28 #[.int .i64 s1,.bool g1,.slice A1 n1 c1,.int .i64 E1] 97 #[.int .i64 s2,.bool g2,.slice A2 n2 c2,.int .i64 E2] 97 (Zv i j) 28 (Zv 0 0) 28;have LR0:=Hd (HasBlk.of (n:=2) LR.out rfl rfl);clear LR;have X1:=Hd (X0.out.below LB0.out);have Y1:=Hd (Y0.out.below LB0.out);clear X0 Y0
 go_enter Tryz.func90,Tryz.ntmps90
 go_upto_region 1 with fail
 obtain⟨W0,hW0⟩:∃ X,(((((w.alloc (.cells (Zv b1 b2) 28)).alloc (.cells #[.int .i64 s1,.bool g1,.slice A1 n1 c1,.int .i64 E1] 97)).alloc (.cells #[.int .i64 s2,.bool g2,.slice A2 n2 c2,.int .i64 E2] 97)).alloc (.cells (Zv i j) 28)).alloc (.cells (Zv 0 0) 28))=X:=⟨_,rfl⟩
 rw [hW0] at LB0 LR0 LG0_0 LG1_0 LG2_0 LG3_0 X1 Y1 ⊢;clear hW0
 go_cut [20] (fun s20 wx=>s20=.bool ins/\Blk wx w.heap.size 28 (Zv b1 b2)/\Blk wx (w.heap.size+1) 97 #[.int .i64 s1,.bool g1,.slice A1 n1 c1,.int .i64 E1]/\Blk wx (w.heap.size+2) 97 #[.int .i64 s2,.bool g2,.slice A2 n2 c2,.int .i64 E2]/\Blk wx (w.heap.size+3) 28 (Zv i j)/\HasBlk wx (w.heap.size+4) 28 2/\ExI wx s1 g1 A1 n1 c1 E1 x1/\ExI wx s2 g2 A2 n2 c2 E2 x2/\Below w.heap.size w wx)
 case first=>
  have zi:=Kzi.out
  cases hs
  ·rw [Bool.false_and,Bool.false_and] at zi;subst zi;obtain⟨q0_0,q0_1⟩:=LG0_0.out.c2;go_wp2_with fail;refine cx (KHH.out _) fun wa hba=>?_;have LB1:=stB LB0 hba LB0.out.size;have LR1:=stR LR0 hba;have LG0_1:=stG LG0_0 hba;have LG1_1:=stG LG1_0 hba;have LG2_1:=stG LG2_0 hba;have LG3_1:=stG LG3_0 hba;clear LB0 LR0 LG0_0 LG1_0 LG2_0 LG3_0;have X2:=Hd (X1.out.below hba);have Y2:=Hd (Y1.out.below hba);clear hba q0_0 q0_1;go_wp2_with fail
   go_meet
   case rel=>exact⟨rfl,LG0_1.out,LG1_1.out,LG2_1.out,LG3_1.out,LR1.out,X2.out,Y2.out,LB1.out⟩
  ·rw [Bool.true_and] at zi
   by_cases hz:sg1<=0
   ·have hzb:=decide_eq_true hz;rw [hzb,Bool.true_and] at zi;subst zi;obtain⟨q0_0,q0_1⟩:=LG0_0.out.c2;go_wp2_with fail;refine cx (KHH.out _) fun wa hba=>?_;have LB1:=stB LB0 hba LB0.out.size;have LR1:=stR LR0 hba;have LG0_1:=stG LG0_0 hba;have LG1_1:=stG LG1_0 hba;have LG2_1:=stG LG2_0 hba;have LG3_1:=stG LG3_0 hba;clear LB0 LR0 LG0_0 LG1_0 LG2_0 LG3_0;have X2:=Hd (X1.out.below hba);have Y2:=Hd (Y1.out.below hba);clear hba q0_0 q0_1;obtain⟨q1_0,q1_1,q1_2,q1_3⟩:=LG1_1.out.c4;go_wp2_with fail;refine cx (KS1.out _) fun wb hbb=>?_;have LB2:=stB LB1 hbb LB1.out.size;have LR2:=stR LR1 hbb;have LG0_2:=stG LG0_1 hbb;have LG1_2:=stG LG1_1 hbb;have LG2_2:=stG LG2_1 hbb;have LG3_2:=stG LG3_1 hbb;clear LB1 LR1 LG0_1 LG1_1 LG2_1 LG3_1;have X3:=Hd (X2.out.below hbb);have Y3:=Hd (Y2.out.below hbb);clear hbb q1_0 q1_1 q1_2 q1_3;obtain⟨q2_0,q2_1,q2_2,q2_3⟩:=LG2_2.out.c4;go_wp2_with fail;refine cx (KS2.out _) fun wd hbd=>?_;have LB3:=stB LB2 hbd LB2.out.size;have LR3:=stR LR2 hbd;have LG0_3:=stG LG0_2 hbd;have LG1_3:=stG LG1_2 hbd;have LG2_3:=stG LG2_2 hbd;have LG3_3:=stG LG3_2 hbd;clear LB2 LR2 LG0_2 LG1_2 LG2_2 LG3_2;have X4:=Hd (X3.out.below hbd);have Y4:=Hd (Y3.out.below hbd);clear hbd q2_0 q2_1 q2_2 q2_3;go_wp2_with fail
    go_meet
    case rel=>exact⟨rfl,LG0_3.out,LG1_3.out,LG2_3.out,LG3_3.out,LR3.out,X4.out,Y4.out,LB3.out⟩
   ·have hzb:=decide_eq_false hz;rw [hzb,Bool.false_and] at zi;subst zi;obtain⟨q0_0,q0_1⟩:=LG0_0.out.c2;go_wp2_with fail;refine cx (KHH.out _) fun wa hba=>?_;have LB1:=stB LB0 hba LB0.out.size;have LR1:=stR LR0 hba;have LG0_1:=stG LG0_0 hba;have LG1_1:=stG LG1_0 hba;have LG2_1:=stG LG2_0 hba;have LG3_1:=stG LG3_0 hba;clear LB0 LR0 LG0_0 LG1_0 LG2_0 LG3_0;have X2:=Hd (X1.out.below hba);have Y2:=Hd (Y1.out.below hba);clear hba q0_0 q0_1;obtain⟨q1_0,q1_1,q1_2,q1_3⟩:=LG1_1.out.c4;go_wp2_with fail;refine cx (KS1.out _) fun wb hbb=>?_;have LB2:=stB LB1 hbb LB1.out.size;have LR2:=stR LR1 hbb;have LG0_2:=stG LG0_1 hbb;have LG1_2:=stG LG1_1 hbb;have LG2_2:=stG LG2_1 hbb;have LG3_2:=stG LG3_1 hbb;clear LB1 LR1 LG0_1 LG1_1 LG2_1 LG3_1;have X3:=Hd (X2.out.below hbb);have Y3:=Hd (Y2.out.below hbb);clear hbb q1_0 q1_1 q1_2 q1_3;go_wp2_with fail
    go_meet
    case rel=>exact⟨rfl,LG0_2.out,LG1_2.out,LG2_2.out,LG3_2.out,LR2.out,X3.out,Y3.out,LB2.out⟩
 case rest=>
  obtain⟨rfl,e0,e1,e2,e3,er,ex,ey,eb⟩:=hcut;clear LB0 LR0 LG0_0 LG1_0 LG2_0 LG3_0 X1 Y1 Kzi KS1 KS2 KHH;have LB1:=Hd eb;have LR1:=Hd er;have LG0_1:=Hd e0;have LG1_1:=Hd e1;have LG2_1:=Hd e2;have LG3_1:=Hd e3;have X2:=Hd ex;have Y2:=Hd ey;clear e0 e1 e2 e3 er ex ey eb
  cases ins
  ·go_wp2_with fail;refine wp_region_held_drew (S:=fun W'=>Blk W' w.heap.size 28 (Zv b1 b2)/\Blk W' (w.heap.size+1) 97 #[.int .i64 s1,.bool g1,.slice A1 n1 c1,.int .i64 E1]/\Blk W' (w.heap.size+2) 97 #[.int .i64 s2,.bool g2,.slice A2 n2 c2,.int .i64 E2]/\Blk W' (w.heap.size+3) 28 (Zv i j)/\HasBlk W' (w.heap.size+4) 28 2/\Below w.heap.size w W') (by kernel_rfl) (by exact⟨LG0_1.out.drew,LG1_1.out.drew,LG2_1.out.drew,LG3_1.out.drew,LR1.out.drew,LB1.out.drew⟩) (fun hHeld=>?_);refine tkb 0 (fun _ h=>h.1.c2) ?_;refine tkb 1 (fun _ h=>h.2.1.c4) ?_;refine tkb 2 (fun _ h=>h.2.2.1.c4) ?_;refine tkb 3 (fun _ h=>h.2.2.2.1.c2) ?_;refine tkb 5 (fun _ h=>h.1.c2) ?_;refine tkb 7 (fun _ h=>h.2.1.c4) ?_;refine tkb 8 (fun _ h=>h.2.2.1.c4) ?_;refine tkb 9 (fun _ h=>h.2.2.2.1.c2) ?_;refine rdy 4 fun KK hKK=>?_;go_simp;refine cx (KP1.out _ (X2.out.keep fun _ h=>h.drew) (Y2.out.keep fun _ h=>h.drew)) fun wa hbA=>?_;go_wp2_with fail;refine hKK.out _ _ (⟨hHeld.1.keep hbA,hHeld.2.1.keep hbA,hHeld.2.2.1.keep hbA,hHeld.2.2.2.1.keep hbA,hHeld.2.2.2.2.1.keep hbA,hHeld.2.2.2.2.2.trans (hbA.mono hHeld.2.2.2.2.2.size)⟩) (fun _=>?_);clear hKK KK hHeld;rename_i hHeld;(try simp only [Act.put,lay]);refine rdy 6 fun KK hKK=>?_;go_simp;refine cx (KM1.out _) fun wb hbB=>?_;go_wp2_with fail;refine hKK.out _ _ (⟨hHeld.1.keep hbB,hHeld.2.1.keep hbB,hHeld.2.2.1.keep hbB,hHeld.2.2.2.1.keep hbB,hHeld.2.2.2.2.1.keep hbB,hHeld.2.2.2.2.2.trans (hbB.mono hHeld.2.2.2.2.2.size)⟩) (fun _=>?_);clear hKK KK hHeld;rename_i hHeld;(try simp only [Act.put,lay])
   refine rdy 10 fun KK hKK=>?_;go_simp;refine cx (KM2.out _) fun wd hbD=>?_;go_wp2_with fail;refine hKK.out _ _ (⟨hHeld.1.keep hbD,hHeld.2.1.keep hbD,hHeld.2.2.1.keep hbD,hHeld.2.2.2.1.keep hbD,hHeld.2.2.2.2.1.keep hbD,hHeld.2.2.2.2.2.trans (hbD.mono hHeld.2.2.2.2.2.size)⟩) (fun _=>?_);clear hKK KK hHeld;rename_i hHeld;(try simp only [Act.put,lay]);refine rdy 11 fun KK hKK=>?_;go_simp;refine cx (KP2.out _ ((((X2.out.keep fun _ h=>h.drew).below hbA).below hbB).below hbD) ((((Y2.out.keep fun _ h=>h.drew).below hbA).below hbB).below hbD)) fun we hbE=>?_;go_wp2_with fail;refine hKK.out _ _ (⟨hHeld.1.keep hbE,hHeld.2.1.keep hbE,hHeld.2.2.1.keep hbE,hHeld.2.2.2.1.keep hbE,hHeld.2.2.2.2.1.keep hbE,hHeld.2.2.2.2.2.trans (hbE.mono hHeld.2.2.2.2.2.size)⟩) (fun _=>?_);clear hKK KK hHeld;rename_i hHeld;(try simp only [Act.put,lay]);refine rdy 12 fun KK hKK=>?_;go_simp;refine cx (KM3.out _) fun wf hbF=>?_;go_wp2_with fail;refine hKK.out _ _ (⟨hHeld.1.keep hbF,hHeld.2.1.keep hbF,hHeld.2.2.1.keep hbF,hHeld.2.2.2.1.keep hbF,hHeld.2.2.2.2.1.keep hbF,hHeld.2.2.2.2.2.trans (hbF.mono hHeld.2.2.2.2.2.size)⟩) (fun _=>?_);clear hKK KK hHeld;rename_i hHeld;(try simp only [Act.put,lay]);refine rdy 13 fun KK hKK=>?_;go_simp;refine cx (KHU.out _) fun wg hbG=>?_;go_wp2_with fail;refine hKK.out _ _ (⟨hHeld.1.keep hbG,hHeld.2.1.keep hbG,hHeld.2.2.1.keep hbG,hHeld.2.2.2.1.keep hbG,hHeld.2.2.2.2.1.keep hbG,hHeld.2.2.2.2.2.trans (hbG.mono hHeld.2.2.2.2.2.size)⟩) (fun _=>?_);clear hKK KK hHeld;rename_i hHeld;(try simp only [Act.put,lay])
   refine rdy 14 fun KK hKK=>?_;have ha0:=hHeld.2.2.2.2.1.someCell 0 (by decide);have hf0:=hHeld.2.2.2.2.1.frozen 0;have ha1:=hHeld.2.2.2.2.1.someCell 1 (by decide);have hf1:=hHeld.2.2.2.2.1.frozen 1;have HK:=Hd (hHeld.2.2.2.2.1.setCell [.float .f64 r1,.float .f64 r2] rfl);have F:=Hd (below_sets (w0:=w) (r:=(w.heap.size+4)) (by omega) [.float .f64 r1,.float .f64 r2] 0 _ hHeld.2.2.2.2.2);go_simp;refine hKK.out _ _ (⟨hHeld.1.other (by omega) 0 [.float .f64 r1,.float .f64 r2],hHeld.2.1.other (by omega) 0 [.float .f64 r1,.float .f64 r2],hHeld.2.2.1.other (by omega) 0 [.float .f64 r1,.float .f64 r2],hHeld.2.2.2.1.other (by omega) 0 [.float .f64 r1,.float .f64 r2],hHeld.2.2.2.2.1.sets [.float .f64 r1,.float .f64 r2] rfl rfl,below_sets (by omega) [.float .f64 r1,.float .f64 r2] 0 _ hHeld.2.2.2.2.2⟩) (fun _=>?_);clear hKK KK hHeld;rename_i hHeld;(try simp only [Act.put,lay]);refine wpAnyH_done (by kernel_rfl) ?_ _;have hk0:=HK.out 0 (by decide);have hk1:=HK.out 1 (by decide)
   simp [sets] at hk0 hk1
   clear hHeld HK hbA hbB hbD hbE hbF hbG;clear LB1 LR1 LG0_1 LG1_1 LG2_1 LG3_1;go_wp2;refine bodyPost_ret (v:=Zf r1 r2) (by simp [results,Tryz.results90,go_sem,hk0,hk1]) rfl ?_
   exact⟨rfl,F.out⟩
  ·have q3_0:_=some (.float .f64 i:Value):=LG3_1.out.cell 0;have q3_1:=LG3_1.out.ce 1 rfl;obtain⟨ha0,hf0,ha1,hf1⟩:=LR1.out.sf2;obtain⟨hk0,hk1⟩:=LR1.out.sc2 (.float .f64 i) (.float .f64 j);have F:=Hd (below_sets (w0:=w) (r:=(w.heap.size+4)) (by omega) [.float .f64 i,.float .f64 j] 0 _ LB1.out)
   simp [sets] at hk0 hk1
   go_wp2;refine bodyPost_ret (v:=Zf i j) (by simp [results,Tryz.results90,go_sem,hk0,hk1]) rfl ?_
   exact⟨rfl,F.out⟩
end
section
open Go.RowKit
attribute [local go_sem] run_store_float run_negf
theorem less_same(x y:Nat)(n1 n2:Bool)(S1 S2:Nat)(e1 e2 E:Int)(P Q:Nat)(w:World)(H1:∀ w,Calls Tryz.prog 100 #[.float .f64 x] w (NewExP w n1 S1 e1))(H2:∀ w,Calls Tryz.prog 100 #[.float .f64 (Op.negFloat .f64 y)] w (NewExP w n2 S2 e2))(HA:∀ A1 m1 c1 A2 m2 c2 W,U32s W A1 m1 c1 (digs S1)->U32s W A2 m2 c2 (digs S2)->Calls Tryz.prog 141 #[.agg #[.int .i64 0,.bool n1,.slice A1 m1 c1,.int .i64 e1],.agg #[.int .i64 0,.bool n2,.slice A2 m2 c2,.int .i64 e2]] W (NewAl W P Q E))(hP:blen P<=4000)(hQ:blen Q<=4000)(hn:(n1 == n2)=true):
  Calls Tryz.prog 91 (Zv x y) w (NewExP w n1 (P+Q) E):=by
 have wP:wlen (digs P)<=16383:=wlen_digs_le (K:=16383) (by omega);have wQ:wlen (digs Q)<=16383:=wlen_digs_le (K:=16383) (by omega);have K1:=Hd H1;have K2:=Hd H2;have KA:=Hd HA
 have KS:=Hd fun W A m c B n d (h1:U32s W A m c (digs P)) (h2:U32s W B n d (digs Q))=>(by
  have h:=nadd_any A B m c n d (digs P) (digs Q) W h1 h2 wP wQ
  rw [num_digs,num_digs] at h;exact h:Calls Tryz.prog 159 #[.slice A m c,.slice B n d] W (NewU32E W (digs (P+Q))))
 obtain⟨V,hV⟩:∃ z,P+Q=z:=⟨_,rfl⟩
 rw [hV] at KS ⊢;clear H1 H2 HA hP hQ wP wQ hV;obtain⟨LB0,LR⟩:=bx1 w #[.int .i64 0,.bool false,.slice none 0 0,.int .i64 0] 97;have LR0:=Hd (HasBlk.of (n:=4) LR.out rfl rfl);clear LR
 go_enter Tryz.func91,Tryz.ntmps91
 go_wp2_with fail;refine (K1.out _).mono ?_;rintro e w1 ⟨A1,m1,c1,rfl,hu1,hb1⟩;have LB1:=stB LB0 hb1 LB0.out.size;have LR1:=stR LR0 hb1;clear LB0 LR0;have U1:=Hd hu1;clear hu1 hb1 K1;go_wp2_with fail;refine (K2.out _).mono ?_;rintro e w2 ⟨A2,m2,c2,rfl,hu2,hb2⟩;have LB2:=stB LB1 hb2 LB1.out.size;have LR2:=stR LR1 hb2;clear LB1 LR1;have U2:=Hd (U1.out.below hb2);have V2:=Hd hu2;clear hu2 hb2 K2 U1
 go_upto_region 2 with fail
 have hlt3:=LR2.out.lt;have LB3:=Hd (LB2.out.alloc LB2.out.size (.cells #[.int .i64 0,.bool n1,.slice A1 m1 c1,.int .i64 e1] 97));have LR3:=Hd (LR2.out.alloc (.cells #[.int .i64 0,.bool n1,.slice A1 m1 c1,.int .i64 e1] 97));have LG0_3:=Hd (Blk.new w2 97 #[.int .i64 0,.bool n1,.slice A1 m1 c1,.int .i64 e1]);clear LB2 LR2;have U3:=Hd (U2.out.alloc (.cells #[.int .i64 0,.bool n1,.slice A1 m1 c1,.int .i64 e1] 97));have V3:=Hd (V2.out.alloc (.cells #[.int .i64 0,.bool n1,.slice A1 m1 c1,.int .i64 e1] 97));clear U2 V2;have LB4:=Hd (LB3.out.alloc LB3.out.size (.cells #[.int .i64 0,.bool n2,.slice A2 m2 c2,.int .i64 e2] 97));have LR4:=Hd (LR3.out.alloc (.cells #[.int .i64 0,.bool n2,.slice A2 m2 c2,.int .i64 e2] 97));have LG0_4:=Hd (LG0_3.out.alloc (.cells #[.int .i64 0,.bool n2,.slice A2 m2 c2,.int .i64 e2] 97));have LG1_4:=Hd (Blk.new2 w2 (.cells #[.int .i64 0,.bool n1,.slice A1 m1 c1,.int .i64 e1] 97) 97 #[.int .i64 0,.bool n2,.slice A2 m2 c2,.int .i64 e2]);have U4:=Hd (U3.out.alloc (.cells #[.int .i64 0,.bool n2,.slice A2 m2 c2,.int .i64 e2] 97));have V4:=Hd (V3.out.alloc (.cells #[.int .i64 0,.bool n2,.slice A2 m2 c2,.int .i64 e2] 97));clear LB3 LR3 LG0_3 U3 V3
 obtain⟨W4,hW4⟩:∃ W,(w2.alloc (.cells #[.int .i64 0,.bool n1,.slice A1 m1 c1,.int .i64 e1] 97)).alloc (.cells #[.int .i64 0,.bool n2,.slice A2 m2 c2,.int .i64 e2] 97)=W:=⟨_,rfl⟩
 rw [hW4] at LB4 LR4 LG0_4 LG1_4 U4 V4 ⊢;clear hW4
 obtain⟨g,hg⟩:∃ g,w2.heap.size=g:=⟨_,rfl⟩
 rw [hg] at LG0_4 LG1_4 hlt3 ⊢;clear hg;obtain⟨q0_0,q0_1,q0_2,q0_3⟩:=LG0_4.out.c4;have q1_0:=LG1_4.out.ce 0 rfl;have q1_1:=LG1_4.out.ce 1 rfl;have q1_2:=LG1_4.out.ce 2 rfl;have q1_3:=LG1_4.out.ce 3 rfl;go_wp2_with fail;refine (KA.out _ _ _ _ _ _ _ U4.out V4.out).mono ?_;rintro e w5 ⟨B1,p1,d1,B2,p2,d2,rfl,hp,hq,hb5⟩;have LB5:=stB LB4 hb5 LB4.out.size;have LR5:=stR LR4 hb5;have LG0_5:=stG LG0_4 hb5;have LG1_5:=stG LG1_4 hb5;clear LB4 LR4 LG0_4 LG1_4;have HP5:=Hd hp;have HQ5:=Hd hq;clear hp hq hb5 KA U4 V4 q0_0 q0_1 q0_2 q0_3 q1_0 q1_1 q1_2 q1_3;obtain⟨q0_0,q0_1,q0_2,q0_3⟩:=LG0_5.out.c4;have q1_0:=LG1_5.out.ce 0 rfl;have q1_1:=LG1_5.out.ce 1 rfl;have q1_2:=LG1_5.out.ce 2 rfl;have q1_3:=LG1_5.out.ce 3 rfl;go_wp2_with fail;refine (KS.out _ _ _ _ _ _ _ HP5.out HQ5.out).mono ?_;rintro e w6 ⟨B3,p3,d3,rfl,hu,hb6⟩;have LB6:=stB LB5 hb6 LB5.out.size;have LR6:=stR LR5 hb6;have LG0_6:=stG LG0_5 hb6;have LG1_6:=stG LG1_5 hb6;clear LB5 LR5 LG0_5 LG1_5;have FU:=Hd (LR6.out.u32s hu [.int .i64 0,.bool n1,.slice B3 p3 d3,.int .i64 E]);clear hu hb6 hn HP5 HQ5 KS q0_0 q0_1 q0_2 q0_3 q1_0 q1_1 q1_2 q1_3;obtain⟨q0_0,q0_1,q0_2,q0_3⟩:=LG0_6.out.c4;obtain⟨ha0,hf0,ha1,hf1,ha2,hf2,ha3,hf3⟩:=LR6.out.sf4;obtain⟨hk0,hk1,hk2,hk3⟩:=LR6.out.sc4 (.int .i64 0) (.bool n1) (.slice B3 p3 d3) (.int .i64 E);have F:=Hd (below_sets (w0:=w) (r:=w.heap.size) (by omega) [.int .i64 0,.bool n1,.slice B3 p3 d3,.int .i64 E] 0 _ LB6.out)
 simp [sets] at hk0 hk1 hk2 hk3
 go_wp2;refine bodyPost_ret (v:=.agg #[.int .i64 0,.bool n1,.slice B3 p3 d3,.int .i64 E]) (by simp [results,Tryz.results91,go_sem,hk0,hk1,hk2,hk3]) rfl ?_
 exact⟨_,_,_,rfl,FU.out,F.out⟩
theorem less_ge(x y:Nat)(n1 n2:Bool)(S1 S2:Nat)(e1 e2 E:Int)(P Q:Nat)(w:World)(H1:∀ w,Calls Tryz.prog 100 #[.float .f64 x] w (NewExP w n1 S1 e1))(H2:∀ w,Calls Tryz.prog 100 #[.float .f64 (Op.negFloat .f64 y)] w (NewExP w n2 S2 e2))(HA:∀ A1 m1 c1 A2 m2 c2 W,U32s W A1 m1 c1 (digs S1)->U32s W A2 m2 c2 (digs S2)->Calls Tryz.prog 141 #[.agg #[.int .i64 0,.bool n1,.slice A1 m1 c1,.int .i64 e1],.agg #[.int .i64 0,.bool n2,.slice A2 m2 c2,.int .i64 e2]] W (NewAl W P Q E))(hP:blen P<=4000)(hQ:blen Q<=4000)(hn:(n1 == n2)=false)(hle:Q<=P):
  Calls Tryz.prog 91 (Zv x y) w (fun e w'=>∃ g:Bool,(P - Q=0\/g=n1)/\NewExP w g (P - Q) E e w'):=by
 have wP:wlen (digs P)<=16383:=wlen_digs_le (K:=16383) (by omega);have wQ:wlen (digs Q)<=16383:=wlen_digs_le (K:=16383) (by omega);have K1:=Hd H1;have K2:=Hd H2;have KA:=Hd HA
 have KS:=Hd fun W A m c B n d (h1:U32s W A m c (digs P)) (h2:U32s W B n d (digs Q))=>(by
  have h:=nsub_any A B m c n d (digs P) (digs Q) W h1 h2 (by omega) (by omega) (by rw [num_digs,num_digs];omega)
  rw [num_digs,num_digs] at h;exact h:Calls Tryz.prog 160 #[.slice A m c,.slice B n d] W (NewU32E W (digs (P - Q))))
 have KC:=Hd fun W A m c B n d (h1:U32s W A m c (digs P)) (h2:U32s W B n d (digs Q))=>(by
  have h:=ncmp_any A B m c n d (digs P) (digs Q) W h1 h2;rw [num_digs,num_digs] at h;refine h.mono ?_;rintro e w' ⟨rfl,k,rfl⟩
  exact⟨rfl,below_drewN (Below.refl _ _) k⟩:Rt 142 #[.slice A m c,.slice B n d] (.int .i64 (cmp3 P Q)) W)
 obtain⟨cc,ecc⟩:∃ z,cmp3 P Q=z:=⟨_,rfl⟩
 have hcc:0<=cc:=by rw [<- ecc];exact cmp3_nonneg.2 hle
 rw [ecc] at KC
 obtain⟨V,hV⟩:∃ z,P - Q=z:=⟨_,rfl⟩
 rw [hV] at KS ⊢
 have HG:=Hd fun (m:Nat) (hm:(digs V).length=m)=>(show V=0\/(n1 && decide (0<m))=n1 from by
  by_cases h0:V=0
  ·exact .inl h0
  ·right
   have:=digs_len_pos (by omega) hm
   rw [decide_eq_true this,Bool.and_true])
 clear H1 H2 HA hP hQ wP wQ hV hle ecc;obtain⟨LB0,LR⟩:=bx1 w #[.int .i64 0,.bool false,.slice none 0 0,.int .i64 0] 97;have LR0:=Hd (HasBlk.of (n:=4) LR.out rfl rfl);clear LR
 go_enter Tryz.func91,Tryz.ntmps91
 go_wp2_with fail;refine (K1.out _).mono ?_;rintro e w1 ⟨A1,m1,c1,rfl,hu1,hb1⟩;have LB1:=stB LB0 hb1 LB0.out.size;have LR1:=stR LR0 hb1;clear LB0 LR0;have U1:=Hd hu1;clear hu1 hb1 K1;go_wp2_with fail;refine (K2.out _).mono ?_;rintro e w2 ⟨A2,m2,c2,rfl,hu2,hb2⟩;have LB2:=stB LB1 hb2 LB1.out.size;have LR2:=stR LR1 hb2;clear LB1 LR1;have U2:=Hd (U1.out.below hb2);have V2:=Hd hu2;clear hu2 hb2 K2 U1
 go_upto_region 2 with fail
 have hlt3:=LR2.out.lt;have LB3:=Hd (LB2.out.alloc LB2.out.size (.cells #[.int .i64 0,.bool n1,.slice A1 m1 c1,.int .i64 e1] 97));have LR3:=Hd (LR2.out.alloc (.cells #[.int .i64 0,.bool n1,.slice A1 m1 c1,.int .i64 e1] 97));have LG0_3:=Hd (Blk.new w2 97 #[.int .i64 0,.bool n1,.slice A1 m1 c1,.int .i64 e1]);clear LB2 LR2;have U3:=Hd (U2.out.alloc (.cells #[.int .i64 0,.bool n1,.slice A1 m1 c1,.int .i64 e1] 97));have V3:=Hd (V2.out.alloc (.cells #[.int .i64 0,.bool n1,.slice A1 m1 c1,.int .i64 e1] 97));clear U2 V2;have LB4:=Hd (LB3.out.alloc LB3.out.size (.cells #[.int .i64 0,.bool n2,.slice A2 m2 c2,.int .i64 e2] 97));have LR4:=Hd (LR3.out.alloc (.cells #[.int .i64 0,.bool n2,.slice A2 m2 c2,.int .i64 e2] 97));have LG0_4:=Hd (LG0_3.out.alloc (.cells #[.int .i64 0,.bool n2,.slice A2 m2 c2,.int .i64 e2] 97));have LG1_4:=Hd (Blk.new2 w2 (.cells #[.int .i64 0,.bool n1,.slice A1 m1 c1,.int .i64 e1] 97) 97 #[.int .i64 0,.bool n2,.slice A2 m2 c2,.int .i64 e2]);have U4:=Hd (U3.out.alloc (.cells #[.int .i64 0,.bool n2,.slice A2 m2 c2,.int .i64 e2] 97));have V4:=Hd (V3.out.alloc (.cells #[.int .i64 0,.bool n2,.slice A2 m2 c2,.int .i64 e2] 97));clear LB3 LR3 LG0_3 U3 V3
 obtain⟨W4,hW4⟩:∃ W,(w2.alloc (.cells #[.int .i64 0,.bool n1,.slice A1 m1 c1,.int .i64 e1] 97)).alloc (.cells #[.int .i64 0,.bool n2,.slice A2 m2 c2,.int .i64 e2] 97)=W:=⟨_,rfl⟩
 rw [hW4] at LB4 LR4 LG0_4 LG1_4 U4 V4 ⊢;clear hW4
 obtain⟨g,hg⟩:∃ g,w2.heap.size=g:=⟨_,rfl⟩
 rw [hg] at LG0_4 LG1_4 hlt3 ⊢;clear hg;obtain⟨q0_0,q0_1,q0_2,q0_3⟩:=LG0_4.out.c4;have q1_0:=LG1_4.out.ce 0 rfl;have q1_1:=LG1_4.out.ce 1 rfl;have q1_2:=LG1_4.out.ce 2 rfl;have q1_3:=LG1_4.out.ce 3 rfl;go_wp2_with fail;refine (KA.out _ _ _ _ _ _ _ U4.out V4.out).mono ?_;rintro e w5 ⟨B1,p1,d1,B2,p2,d2,rfl,hp,hq,hb5⟩;have LB5:=stB LB4 hb5 LB4.out.size;have LR5:=stR LR4 hb5;have LG0_5:=stG LG0_4 hb5;have LG1_5:=stG LG1_4 hb5;clear LB4 LR4 LG0_4 LG1_4;have HP5:=Hd hp;have HQ5:=Hd hq;clear hp hq hb5 KA U4 V4 q0_0 q0_1 q0_2 q0_3 q1_0 q1_1 q1_2 q1_3;obtain⟨q0_0,q0_1,q0_2,q0_3⟩:=LG0_5.out.c4;have q1_0:=LG1_5.out.ce 0 rfl;have q1_1:=LG1_5.out.ce 1 rfl;have q1_2:=LG1_5.out.ce 2 rfl;have q1_3:=LG1_5.out.ce 3 rfl;go_wp2_with fail;refine cx (KC.out _ _ _ _ _ _ _ HP5.out HQ5.out) fun w6 hb6=>?_;have LB6:=stB LB5 hb6 LB5.out.size;have LR6:=stR LR5 hb6;have LG0_6:=stG LG0_5 hb6;have LG1_6:=stG LG1_5 hb6;clear LB5 LR5 LG0_5 LG1_5;have HP6:=Hd (HP5.out.below hb6);have HQ6:=Hd (HQ5.out.below hb6);clear hb6 hn HP5 HQ5 KC q0_0 q0_1 q0_2 q0_3 q1_0 q1_1 q1_2 q1_3;go_wp2_with fail;refine (KS.out _ _ _ _ _ _ _ HP6.out HQ6.out).mono ?_;rintro e w7 ⟨B3,p3,d3,rfl,hu,hb7⟩;have LB7:=stB LB6 hb7 LB6.out.size;have LR7:=stR LR6 hb7;have LG0_7:=stG LG0_6 hb7;have LG1_7:=stG LG1_6 hb7;clear LB6 LR6 LG0_6 LG1_6;have HGG:=Hd (HG.out p3 hu.len);have HU7:=Hd hu;clear hu hb7 HP6 HQ6 KS hcc HG
 cases n1
 ·have FU:=Hd (LR7.out.u32s HU7.out [.int .i64 0,.bool false,.slice B3 p3 d3,.int .i64 E]);clear HU7;obtain⟨q0_0,q0_1,q0_2,q0_3⟩:=LG0_7.out.c4;obtain⟨ha0,hf0,ha1,hf1,ha2,hf2,ha3,hf3⟩:=LR7.out.sf4;obtain⟨hk0,hk1,hk2,hk3⟩:=LR7.out.sc4 (.int .i64 0) (.bool false) (.slice B3 p3 d3) (.int .i64 E);have F:=Hd (below_sets (w0:=w) (r:=w.heap.size) (by omega) [.int .i64 0,.bool false,.slice B3 p3 d3,.int .i64 E] 0 _ LB7.out)
  simp [sets] at hk0 hk1 hk2 hk3
  go_wp2;refine bodyPost_ret (v:=.agg #[.int .i64 0,.bool false,.slice B3 p3 d3,.int .i64 E]) (by simp [results,Tryz.results91,go_sem,hk0,hk1,hk2,hk3]) rfl ?_
  exact⟨_,HGG.out,_,_,_,rfl,FU.out,F.out⟩
 ·have FU:=Hd (LR7.out.u32s HU7.out [.int .i64 0,.bool (decide (0<p3)),.slice B3 p3 d3,.int .i64 E]);clear HU7;obtain⟨q0_0,q0_1,q0_2,q0_3⟩:=LG0_7.out.c4;obtain⟨ha0,hf0,ha1,hf1,ha2,hf2,ha3,hf3⟩:=LR7.out.sf4;obtain⟨hk0,hk1,hk2,hk3⟩:=LR7.out.sc4 (.int .i64 0) (.bool (decide (0<p3))) (.slice B3 p3 d3) (.int .i64 E);have F:=Hd (below_sets (w0:=w) (r:=w.heap.size) (by omega) [.int .i64 0,.bool (decide (0<p3)),.slice B3 p3 d3,.int .i64 E] 0 _ LB7.out)
  simp [sets] at hk0 hk1 hk2 hk3
  go_wp2;refine bodyPost_ret (v:=.agg #[.int .i64 0,.bool (decide (0<p3)),.slice B3 p3 d3,.int .i64 E]) (by simp [results,Tryz.results91,go_sem,hk0,hk1,hk2,hk3]) rfl ?_
  exact⟨_,HGG.out,_,_,_,rfl,FU.out,F.out⟩
theorem less_lt(x y:Nat)(n1 n2:Bool)(S1 S2:Nat)(e1 e2 E:Int)(P Q:Nat)(w:World)(H1:∀ w,Calls Tryz.prog 100 #[.float .f64 x] w (NewExP w n1 S1 e1))(H2:∀ w,Calls Tryz.prog 100 #[.float .f64 (Op.negFloat .f64 y)] w (NewExP w n2 S2 e2))(HA:∀ A1 m1 c1 A2 m2 c2 W,U32s W A1 m1 c1 (digs S1)->U32s W A2 m2 c2 (digs S2)->Calls Tryz.prog 141 #[.agg #[.int .i64 0,.bool n1,.slice A1 m1 c1,.int .i64 e1],.agg #[.int .i64 0,.bool n2,.slice A2 m2 c2,.int .i64 e2]] W (NewAl W P Q E))(hP:blen P<=4000)(hQ:blen Q<=4000)(hn:(n1 == n2)=false)(hle:P<Q):
  Calls Tryz.prog 91 (Zv x y) w (fun e w'=>∃ g:Bool,(Q - P=0\/g=n2)/\NewExP w g (Q - P) E e w'):=by
 have wP:wlen (digs P)<=16383:=wlen_digs_le (K:=16383) (by omega);have wQ:wlen (digs Q)<=16383:=wlen_digs_le (K:=16383) (by omega);have K1:=Hd H1;have K2:=Hd H2;have KA:=Hd HA
 have KS:=Hd fun W A m c B n d (h1:U32s W A m c (digs Q)) (h2:U32s W B n d (digs P))=>(by
  have h:=nsub_any A B m c n d (digs Q) (digs P) W h1 h2 (by omega) (by omega) (by rw [num_digs,num_digs];omega)
  rw [num_digs,num_digs] at h;exact h:Calls Tryz.prog 160 #[.slice A m c,.slice B n d] W (NewU32E W (digs (Q - P))))
 have KC:=Hd fun W A m c B n d (h1:U32s W A m c (digs P)) (h2:U32s W B n d (digs Q))=>(by
  have h:=ncmp_any A B m c n d (digs P) (digs Q) W h1 h2;rw [num_digs,num_digs] at h;refine h.mono ?_;rintro e w' ⟨rfl,k,rfl⟩
  exact⟨rfl,below_drewN (Below.refl _ _) k⟩:Rt 142 #[.slice A m c,.slice B n d] (.int .i64 (cmp3 P Q)) W)
 obtain⟨cc,ecc⟩:∃ z,cmp3 P Q=z:=⟨_,rfl⟩
 have hcc:cc<0:=by rw [<- ecc];exact cmp3_neg.2 hle
 rw [ecc] at KC
 obtain⟨V,hV⟩:∃ z,Q - P=z:=⟨_,rfl⟩
 rw [hV] at KS ⊢
 have HG:=Hd fun (m:Nat) (hm:(digs V).length=m)=>(show V=0\/(n2 && decide (0<m))=n2 from by
  by_cases h0:V=0
  ·exact .inl h0
  ·right
   have:=digs_len_pos (by omega) hm
   rw [decide_eq_true this,Bool.and_true])
 clear H1 H2 HA hP hQ wP wQ hV hle ecc;obtain⟨LB0,LR⟩:=bx1 w #[.int .i64 0,.bool false,.slice none 0 0,.int .i64 0] 97;have LR0:=Hd (HasBlk.of (n:=4) LR.out rfl rfl);clear LR
 go_enter Tryz.func91,Tryz.ntmps91
 go_wp2_with fail;refine (K1.out _).mono ?_;rintro e w1 ⟨A1,m1,c1,rfl,hu1,hb1⟩;have LB1:=stB LB0 hb1 LB0.out.size;have LR1:=stR LR0 hb1;clear LB0 LR0;have U1:=Hd hu1;clear hu1 hb1 K1;go_wp2_with fail;refine (K2.out _).mono ?_;rintro e w2 ⟨A2,m2,c2,rfl,hu2,hb2⟩;have LB2:=stB LB1 hb2 LB1.out.size;have LR2:=stR LR1 hb2;clear LB1 LR1;have U2:=Hd (U1.out.below hb2);have V2:=Hd hu2;clear hu2 hb2 K2 U1
 go_upto_region 2 with fail
 have hlt3:=LR2.out.lt;have LB3:=Hd (LB2.out.alloc LB2.out.size (.cells #[.int .i64 0,.bool n1,.slice A1 m1 c1,.int .i64 e1] 97));have LR3:=Hd (LR2.out.alloc (.cells #[.int .i64 0,.bool n1,.slice A1 m1 c1,.int .i64 e1] 97));have LG0_3:=Hd (Blk.new w2 97 #[.int .i64 0,.bool n1,.slice A1 m1 c1,.int .i64 e1]);clear LB2 LR2;have U3:=Hd (U2.out.alloc (.cells #[.int .i64 0,.bool n1,.slice A1 m1 c1,.int .i64 e1] 97));have V3:=Hd (V2.out.alloc (.cells #[.int .i64 0,.bool n1,.slice A1 m1 c1,.int .i64 e1] 97));clear U2 V2;have LB4:=Hd (LB3.out.alloc LB3.out.size (.cells #[.int .i64 0,.bool n2,.slice A2 m2 c2,.int .i64 e2] 97));have LR4:=Hd (LR3.out.alloc (.cells #[.int .i64 0,.bool n2,.slice A2 m2 c2,.int .i64 e2] 97));have LG0_4:=Hd (LG0_3.out.alloc (.cells #[.int .i64 0,.bool n2,.slice A2 m2 c2,.int .i64 e2] 97));have LG1_4:=Hd (Blk.new2 w2 (.cells #[.int .i64 0,.bool n1,.slice A1 m1 c1,.int .i64 e1] 97) 97 #[.int .i64 0,.bool n2,.slice A2 m2 c2,.int .i64 e2]);have U4:=Hd (U3.out.alloc (.cells #[.int .i64 0,.bool n2,.slice A2 m2 c2,.int .i64 e2] 97));have V4:=Hd (V3.out.alloc (.cells #[.int .i64 0,.bool n2,.slice A2 m2 c2,.int .i64 e2] 97));clear LB3 LR3 LG0_3 U3 V3
 obtain⟨W4,hW4⟩:∃ W,(w2.alloc (.cells #[.int .i64 0,.bool n1,.slice A1 m1 c1,.int .i64 e1] 97)).alloc (.cells #[.int .i64 0,.bool n2,.slice A2 m2 c2,.int .i64 e2] 97)=W:=⟨_,rfl⟩
 rw [hW4] at LB4 LR4 LG0_4 LG1_4 U4 V4 ⊢;clear hW4
 obtain⟨g,hg⟩:∃ g,w2.heap.size=g:=⟨_,rfl⟩
 rw [hg] at LG0_4 LG1_4 hlt3 ⊢;clear hg;obtain⟨q0_0,q0_1,q0_2,q0_3⟩:=LG0_4.out.c4;have q1_0:=LG1_4.out.ce 0 rfl;have q1_1:=LG1_4.out.ce 1 rfl;have q1_2:=LG1_4.out.ce 2 rfl;have q1_3:=LG1_4.out.ce 3 rfl;go_wp2_with fail;refine (KA.out _ _ _ _ _ _ _ U4.out V4.out).mono ?_;rintro e w5 ⟨B1,p1,d1,B2,p2,d2,rfl,hp,hq,hb5⟩;have LB5:=stB LB4 hb5 LB4.out.size;have LR5:=stR LR4 hb5;have LG0_5:=stG LG0_4 hb5;have LG1_5:=stG LG1_4 hb5;clear LB4 LR4 LG0_4 LG1_4;have HP5:=Hd hp;have HQ5:=Hd hq;clear hp hq hb5 KA U4 V4 q0_0 q0_1 q0_2 q0_3 q1_0 q1_1 q1_2 q1_3;obtain⟨q0_0,q0_1,q0_2,q0_3⟩:=LG0_5.out.c4;have q1_0:=LG1_5.out.ce 0 rfl;have q1_1:=LG1_5.out.ce 1 rfl;have q1_2:=LG1_5.out.ce 2 rfl;have q1_3:=LG1_5.out.ce 3 rfl;go_wp2_with fail;refine cx (KC.out _ _ _ _ _ _ _ HP5.out HQ5.out) fun w6 hb6=>?_;have LB6:=stB LB5 hb6 LB5.out.size;have LR6:=stR LR5 hb6;have LG0_6:=stG LG0_5 hb6;have LG1_6:=stG LG1_5 hb6;clear LB5 LR5 LG0_5 LG1_5;have HP6:=Hd (HP5.out.below hb6);have HQ6:=Hd (HQ5.out.below hb6);clear hb6 hn HP5 HQ5 KC q0_0 q0_1 q0_2 q0_3 q1_0 q1_1 q1_2 q1_3;obtain⟨q0_0,q0_1,q0_2,q0_3⟩:=LG0_6.out.c4;have q1_0:=LG1_6.out.ce 0 rfl;have q1_1:=LG1_6.out.ce 1 rfl;have q1_2:=LG1_6.out.ce 2 rfl;have q1_3:=LG1_6.out.ce 3 rfl;have f01:=LG0_6.out.frozen 1;go_wp2_with fail
 go_region
 have HP7:=Hd (HP6.out.carry LG0_6.out rfl 1 (.bool n2));have HQ7:=Hd (HQ6.out.carry LG0_6.out rfl 1 (.bool n2));clear HP6 HQ6;have LB7:=Hd (LB6.out.setCell (p:=⟨g,1,none⟩) (show w.heap.size<=g by omega) (.bool n2));have LR7:=Hd (show HasBlk (w6.setCell ⟨g,1,none⟩ (.bool n2)) w.heap.size 97 4 from LR6.out.other (by omega) 1 [.bool n2]);have LG0_7:=Hd (LG0_6.out.set 1 (.bool n2));have LG1_7:=Hd (show Blk (w6.setCell ⟨g,1,none⟩ (.bool n2)) (g+1) 97 #[.int .i64 0,.bool n2,.slice A2 m2 c2,.int .i64 e2] from LG1_6.out.other (by omega) 1 [.bool n2]);clear LB6 LR6 LG0_6 LG1_6;have LB8:=Hd LB7.out.drew;have LR8:=Hd LR7.out.drew;have LG0_8:=Hd LG0_7.out.drew;have LG1_8:=Hd LG1_7.out.drew;have HP8:=Hd HP7.out.drew;have HQ8:=Hd HQ7.out.drew;clear LB7 LR7 LG0_7 LG1_7 HP7 HQ7 f01 hcc q0_0 q0_1 q0_2 q0_3 q1_0 q1_1 q1_2 q1_3
 obtain⟨W8,hW8⟩:∃ W,(w6.setCell ⟨g,1,none⟩ (.bool n2)).drew=W:=⟨_,rfl⟩
 rw [hW8] at LB8 LR8 LG0_8 LG1_8 HP8 HQ8 ⊢;clear hW8;go_wp2_with fail;refine (KS.out _ _ _ _ _ _ _ HQ8.out HP8.out).mono ?_;rintro e w9 ⟨B3,p3,d3,rfl,hu,hb9⟩;have LB9:=stB LB8 hb9 LB8.out.size;have LR9:=stR LR8 hb9;have LG0_9:=stG LG0_8 hb9;have LG1_9:=stG LG1_8 hb9;clear LB8 LR8 LG0_8 LG1_8;have HGG:=Hd (HG.out p3 hu.len);have HU7:=Hd hu;clear hu hb9 HP8 HQ8 KS HG
 cases n2
 ·have FU:=Hd (LR9.out.u32s HU7.out [.int .i64 0,.bool false,.slice B3 p3 d3,.int .i64 E]);clear HU7;obtain⟨q0_0,q0_1,q0_2,q0_3⟩:=LG0_9.out.c4;obtain⟨ha0,hf0,ha1,hf1,ha2,hf2,ha3,hf3⟩:=LR9.out.sf4;obtain⟨hk0,hk1,hk2,hk3⟩:=LR9.out.sc4 (.int .i64 0) (.bool false) (.slice B3 p3 d3) (.int .i64 E);have F:=Hd (below_sets (w0:=w) (r:=w.heap.size) (by omega) [.int .i64 0,.bool false,.slice B3 p3 d3,.int .i64 E] 0 _ LB9.out)
  simp [sets] at hk0 hk1 hk2 hk3
  go_wp2;refine bodyPost_ret (v:=.agg #[.int .i64 0,.bool false,.slice B3 p3 d3,.int .i64 E]) (by simp [results,Tryz.results91,go_sem,hk0,hk1,hk2,hk3]) rfl ?_
  exact⟨_,HGG.out,_,_,_,rfl,FU.out,F.out⟩
 ·have FU:=Hd (LR9.out.u32s HU7.out [.int .i64 0,.bool (decide (0<p3)),.slice B3 p3 d3,.int .i64 E]);clear HU7;obtain⟨q0_0,q0_1,q0_2,q0_3⟩:=LG0_9.out.c4;obtain⟨ha0,hf0,ha1,hf1,ha2,hf2,ha3,hf3⟩:=LR9.out.sf4;obtain⟨hk0,hk1,hk2,hk3⟩:=LR9.out.sc4 (.int .i64 0) (.bool (decide (0<p3))) (.slice B3 p3 d3) (.int .i64 E);have F:=Hd (below_sets (w0:=w) (r:=w.heap.size) (by omega) [.int .i64 0,.bool (decide (0<p3)),.slice B3 p3 d3,.int .i64 E] 0 _ LB9.out)
  simp [sets] at hk0 hk1 hk2 hk3
  go_wp2;refine bodyPost_ret (v:=.agg #[.int .i64 0,.bool (decide (0<p3)),.slice B3 p3 d3,.int .i64 E]) (by simp [results,Tryz.results91,go_sem,hk0,hk1,hk2,hk3]) rfl ?_
  exact⟨_,HGG.out,_,_,_,rfl,FU.out,F.out⟩
theorem rless_any(x y:Nat)(w:World)(hx:x<18446744073709551616)(hy:y<18446744073709551616)(fx:fin x)(fy:fin y):
  Calls Tryz.prog 91 (Zv x y) w (NewEx w (fl (idx x) - fl (idx y))):=by
 have nf:=negFloat_val hy;obtain⟨n1,S1,e1,s1,l1,u1,v1,H1⟩:=point_any x hx fx;obtain⟨n2,S2,e2,s2,l2,u2,v2,H2⟩:=point_any (Op.negFloat .f64 y) nf.1 (by show rungOf _<M;rw [nf.2.1];exact fy);rw [nf.2.2,fl_neg] at v2;have k1:blen S1<=53:=blen_le_iff.2 (show S1<2^53 from s1);have k2:blen S2<=53:=blen_le_iff.2 (show S2<2^53 from s2)
 obtain⟨E,hE⟩:∃ E,min e1 e2=E:=⟨_,rfl⟩
 obtain⟨a,ha⟩:∃ a,(e1 - E).toNat=a:=⟨_,rfl⟩
 obtain⟨b,hb⟩:∃ a,(e2 - E).toNat=a:=⟨_,rfl⟩
 have HA:=fun A1 m1 c1 A2 m2 c2 W (h1:U32s W A1 m1 c1 (digs S1)) (h2:U32s W A2 m2 c2 (digs S2))=>aligned_any n1 A1 m1 c1 S1 e1 n2 A2 m2 c2 S2 e2 E a b W h1 h2 hE (by omega) (by omega) (by omega) (by omega) (by omega) (by omega)
 have sh:∀ (S k:Nat),blen S<=53->k<=2100->blen (S*2^k)<=2200:=by
  intro S k h1 h2
  rcases Nat.eq_zero_or_pos S with h0 | h0
  ·subst h0;rw [Nat.zero_mul];have:blen 0<=53:=h1;omega
  ·rw [blen_shl S k h0];omega
 have p1:=sh S1 a k1 (by omega);have p2:=sh S2 b k2 (by omega)
 have hv:fl (idx x) - fl (idx y)=rv (dsum n1 (S1*2^a) n2 (S2*2^b)).1 (dsum n1 (S1*2^a) n2 (S2*2^b)).2 1*2^E:=by
  rw [dsum_val,v1,Rat.sub_eq_add_neg,v2,<- rv_shift n1 S1 a E e1 (by omega),<- rv_shift n2 S2 b E e2 (by omega)];grind
 have hbl:=dsum_blen n1 (S1*2^a) n2 (S2*2^b) 2200 p1 p2
 obtain⟨P,hP⟩:∃ z,S1*2^a=z:=⟨_,rfl⟩
 obtain⟨Q,hQ⟩:∃ z,S2*2^b=z:=⟨_,rfl⟩
 rw [hP,hQ] at HA hv hbl;rw [hP] at p1;rw [hQ] at p2;unfold dsum at hv hbl
 by_cases hn:n1=n2
 ·rw [if_pos hn] at hv hbl;refine (less_same x y n1 n2 S1 S2 e1 e2 E P Q w H1 H2 HA (by omega) (by omega) (by simpa using hn)).mono ?_;rintro e w' ⟨A,n,c,rfl,hu,hb⟩
  exact⟨_,A,n,c,_,E,rfl,hu,hb,by dsimp only at hbl;omega,by omega,by omega,hv⟩
 ·rw [if_neg hn] at hv hbl
  have hn2:(n1 == n2)=false:=by simpa using hn
  by_cases hlt:P<Q
  ·rw [if_pos hlt] at hv hbl;refine (less_lt x y n1 n2 S1 S2 e1 e2 E P Q w H1 H2 HA (by omega) (by omega) hn2 hlt).mono ?_;rintro e w' ⟨g,hg,A,n,c,rfl,hu,hb⟩;refine⟨_,A,n,c,_,E,rfl,hu,hb,by dsimp only at hbl;omega,by omega,by omega,?_⟩;rw [hv]
   rcases hg with h0 | h0
   ·dsimp only;rw [h0,rv_zero,rv_zero]
   ·rw [h0]
  ·rw [if_neg hlt] at hv hbl;refine (less_ge x y n1 n2 S1 S2 e1 e2 E P Q w H1 H2 HA (by omega) (by omega) hn2 (by omega)).mono ?_;rintro e w' ⟨g,hg,A,n,c,rfl,hu,hb⟩;refine⟨_,A,n,c,_,E,rfl,hu,hb,by dsimp only at hbl;omega,by omega,by omega,?_⟩;rw [hv]
   rcases hg with h0 | h0
   ·dsimp only;rw [h0,rv_zero,rv_zero]
   ·rw [h0]
end
section
open Go.RowKit
def es2(s1 s2:Int):Int:=if s1≠0 then s1 else s2
def ex2(s1:Int)(x1:Rat)(s2:Int)(x2:Rat):Rat:=if s1≠0 then x1 else if s2≠0 then x2 else x1+x2
end
section
open Go.RowKit
attribute [local go_sem] run_store_float run_negf
theorem copyone_pos(w:World):Calls Tryz.prog 167 (Zv 4607182418800017408 9218868437227405312) w fun e w'=>e=.returned (.float .f64 4607182418800017408)/\w=w':=by
 have a1:bits .andNot .u64 4607182418800017408 9223372036854775808=4607182418800017408:=by decide
 have a2:bits .and .u64 9218868437227405312 9223372036854775808=0:=by decide
 have a3:bits .or .u64 4607182418800017408 0=4607182418800017408:=by decide
 have f1:∀ W:World,(callFunc 73 #[.float .f64 4607182418800017408]).run Tryz.prog W=.ok (.value (.int .u64 4607182418800017408)) W:=fun W=>run_bitsof 4607182418800017408 W;have f2:∀ W:World,(callFunc 73 #[.float .f64 9218868437227405312]).run Tryz.prog W=.ok (.value (.int .u64 9218868437227405312)) W:=fun W=>run_bitsof 9218868437227405312 W;have f3:∀ W:World,(callFunc 74 #[.int .u64 4607182418800017408]).run Tryz.prog W=.ok (.value (.float .f64 4607182418800017408)) W:=fun W=>run_frombits 4607182418800017408 W
 go_enter Tryz.func167,Tryz.ntmps167
 go_wp2
 go_ret
 exact⟨rfl,rfl⟩
theorem point_pos(w:World):Rt 100 #[.float .f64 9218868437227405312] (.agg #[.int .i64 (1),.bool false,.slice none 0 0,.int .i64 0]) w:=by
 have HI0:=fun W=>isinff 9218868437227405312 W (by omega) (by decide);rw [decide_eq_true (show rungOf 9218868437227405312=M by decide)] at HI0;have HI:=Hd HI0;have HC:=Hd fun W=>copyone_pos W;clear HI0;have hc:∀ W,(convert 26 3 (.float .f64 4607182418800017408)).run Tryz.prog W=.ok (.int .i64 (1)) W:=fun W=>run_convert_float_int W 26 3 .f64 .i64 4607182418800017408 (1) (by rw [Tryz.underlying26];rfl) Tryz.underlying3 (by kernel_rfl);obtain⟨LB0,LR⟩:=bx1 w #[.int .i64 0,.bool false,.slice none 0 0,.int .i64 0] 97;have LR0:=Hd (HasBlk.of (n:=4) LR.out rfl rfl);clear LR
 go_enter Tryz.func100,Tryz.ntmps100
 go_wp2_with fail;refine cy (HI.out _) ?_;clear HI;go_wp2_with fail;refine cy (HC.out _) ?_;clear HC;obtain⟨ha0,hf0,ha1,hf1,ha2,hf2,ha3,hf3⟩:=LR0.out.sf4;obtain⟨hk0,hk1,hk2,hk3⟩:=LR0.out.sc4 (.int .i64 (1)) (.bool false) (.slice none 0 0) (.int .i64 0);have F:=Hd (below_sets (w0:=w) (r:=w.heap.size) (by omega) [.int .i64 (1),.bool false,.slice none 0 0,.int .i64 0] 0 _ LB0.out)
 simp [sets] at hk0 hk1 hk2 hk3
 go_wp2;refine bodyPost_ret (v:=.agg #[.int .i64 (1),.bool false,.slice none 0 0,.int .i64 0]) (by simp [results,Tryz.results100,go_sem,hk0,hk1,hk2,hk3]) rfl ?_
 exact⟨rfl,below_alloc _ _⟩
theorem copyone_neg(w:World):Calls Tryz.prog 167 (Zv 4607182418800017408 18442240474082181120) w fun e w'=>e=.returned (.float .f64 13830554455654793216)/\w=w':=by
 have a1:bits .andNot .u64 4607182418800017408 9223372036854775808=4607182418800017408:=by decide
 have a2:bits .and .u64 18442240474082181120 9223372036854775808=9223372036854775808:=by decide
 have a3:bits .or .u64 4607182418800017408 9223372036854775808=13830554455654793216:=by decide
 have f1:∀ W:World,(callFunc 73 #[.float .f64 4607182418800017408]).run Tryz.prog W=.ok (.value (.int .u64 4607182418800017408)) W:=fun W=>run_bitsof 4607182418800017408 W;have f2:∀ W:World,(callFunc 73 #[.float .f64 18442240474082181120]).run Tryz.prog W=.ok (.value (.int .u64 18442240474082181120)) W:=fun W=>run_bitsof 18442240474082181120 W;have f3:∀ W:World,(callFunc 74 #[.int .u64 13830554455654793216]).run Tryz.prog W=.ok (.value (.float .f64 13830554455654793216)) W:=fun W=>run_frombits 13830554455654793216 W
 go_enter Tryz.func167,Tryz.ntmps167
 go_wp2
 go_ret
 exact⟨rfl,rfl⟩
theorem point_neg(w:World):Rt 100 #[.float .f64 18442240474082181120] (.agg #[.int .i64 (-1),.bool false,.slice none 0 0,.int .i64 0]) w:=by
 have HI0:=fun W=>isinff 18442240474082181120 W (by omega) (by decide);rw [decide_eq_true (show rungOf 18442240474082181120=M by decide)] at HI0;have HI:=Hd HI0;have HC:=Hd fun W=>copyone_neg W;clear HI0;have hc:∀ W,(convert 26 3 (.float .f64 13830554455654793216)).run Tryz.prog W=.ok (.int .i64 (-1)) W:=fun W=>run_convert_float_int W 26 3 .f64 .i64 13830554455654793216 (-1) (by rw [Tryz.underlying26];rfl) Tryz.underlying3 (by kernel_rfl);obtain⟨LB0,LR⟩:=bx1 w #[.int .i64 0,.bool false,.slice none 0 0,.int .i64 0] 97;have LR0:=Hd (HasBlk.of (n:=4) LR.out rfl rfl);clear LR
 go_enter Tryz.func100,Tryz.ntmps100
 go_wp2_with fail;refine cy (HI.out _) ?_;clear HI;go_wp2_with fail;refine cy (HC.out _) ?_;clear HC;obtain⟨ha0,hf0,ha1,hf1,ha2,hf2,ha3,hf3⟩:=LR0.out.sf4;obtain⟨hk0,hk1,hk2,hk3⟩:=LR0.out.sc4 (.int .i64 (-1)) (.bool false) (.slice none 0 0) (.int .i64 0);have F:=Hd (below_sets (w0:=w) (r:=w.heap.size) (by omega) [.int .i64 (-1),.bool false,.slice none 0 0,.int .i64 0] 0 _ LB0.out)
 simp [sets] at hk0 hk1 hk2 hk3
 go_wp2;refine bodyPost_ret (v:=.agg #[.int .i64 (-1),.bool false,.slice none 0 0,.int .i64 0]) (by simp [results,Tryz.results100,go_sem,hk0,hk1,hk2,hk3]) rfl ?_
 exact⟨rfl,below_alloc _ _⟩
def NewExI(w:World)(s:Int)(x:Rat)(e:Ending)(w':World):Prop:=
 ∃ (g:Bool) (A:Option Addr) (n c:Nat) (E:Int),e=.returned (.agg #[.int .i64 s,.bool g,.slice A n c,.int .i64 E])/\ExI w' s g A n c E x/\Below w.heap.size w w'
theorem NewEx.toI{w w':World}{x:Rat}{e:Ending}(h:NewEx w x e w'):NewExI w 0 x e w':=by
 obtain⟨g,A,n,c,S,E,rfl,hu,hb,h1,h2,h3,h4⟩:=h
 exact⟨g,A,n,c,E,rfl,⟨.inl rfl,fun _=>⟨S,hu,h1,h2,h3,h4⟩⟩,hb⟩
theorem point_gen(i:Int)(w:World)(h:-(M:Int)<=i/\i<=M):Calls Tryz.prog 100 #[.float .f64 (pat i)] w (NewExI w (es i) (ex i)):=by
 have hM:=M_val
 by_cases h1:i=M
 ·subst h1;rw [es_max,pat_max];refine (point_pos w).mono ?_;rintro e w' ⟨rfl,hb⟩
  exact⟨false,none,0,0,0,rfl,⟨.inr (.inl rfl),fun h=>by omega⟩,hb⟩
 ·by_cases h2:i=-(M:Int)
  ·subst h2;rw [es_min,pat_min];refine (point_neg w).mono ?_;rintro e w' ⟨rfl,hb⟩
   exact⟨false,none,0,0,0,rfl,⟨.inr (.inr rfl),fun h=>by omega⟩,hb⟩
  ·rw [es_mid (by omega) (by omega),ex_mid (by omega) (by omega)]
   have hf:fin (pat i):=by show rungOf (pat i)<M;rw [rung_pat h.1 h.2];omega
   obtain⟨neg,S,x,k1,k2,k3,k4,k5⟩:=point_any (pat i) (pat_lt h.1 h.2) hf;rw [idx_pat h.1 h.2] at k4;refine (k5 w).mono ?_;rintro e w' ⟨A,n,c,rfl,hu,hb⟩
   exact⟨neg,A,n,c,x,rfl,⟨.inl rfl,fun _=>⟨S,hu,Nat.le_trans (blen_le_iff.2 (show S<2^53 from k1)) (by omega),k2,k3,k4⟩⟩,hb⟩
theorem less_first(x y:Nat)(s1 s2:Int)(hs:s1≠0)(x1 x2:Rat)(w:World)(H1:∀ w,Calls Tryz.prog 100 #[.float .f64 x] w (NewExI w s1 x1))(H2:∀ w,Calls Tryz.prog 100 #[.float .f64 (Op.negFloat .f64 y)] w (NewExI w s2 x2)):
  Calls Tryz.prog 91 (Zv x y) w (NewExI w s1 x1):=by
 have K1:=Hd H1;have K2:=Hd H2
 have hz:(s1 == 0)=false:=by simpa using hs
 have hz2:(s1 != 0)=true:=by simp [hs]
 have HSN:=Hd hs;clear H1 H2 hs;obtain⟨LB0,LR⟩:=bx1 w #[.int .i64 0,.bool false,.slice none 0 0,.int .i64 0] 97;have LR0:=Hd (HasBlk.of (n:=4) LR.out rfl rfl);clear LR
 go_enter Tryz.func91,Tryz.ntmps91
 go_wp2_with fail;refine (K1.out _).mono ?_;rintro e w1 ⟨g1,A1,m1,c1,e1,rfl,hu1,hb1⟩;have LB1:=stB LB0 hb1 LB0.out.size;have LR1:=stR LR0 hb1;clear LB0 LR0;have U1:=Hd hu1;clear hu1 hb1 K1;go_wp2_with fail;refine (K2.out _).mono ?_;rintro e w2 ⟨g2,A2,m2,c2,e2,rfl,hu2,hb2⟩;have LB2:=stB LB1 hb2 LB1.out.size;have LR2:=stR LR1 hb2;clear LB1 LR1;have U2:=Hd (U1.out.below hb2);have V2:=Hd hu2;clear hu2 hb2 K2 U1
 go_upto_region 2 with fail
 have hlt:=LR2.out.lt;have LB3:=Hd ((LB2.out.alloc LB2.out.size (.cells #[.int .i64 s1,.bool g1,.slice A1 m1 c1,.int .i64 e1] 97)).alloc (by have:=LB2.out.size;simp;omega) (.cells #[.int .i64 s2,.bool g2,.slice A2 m2 c2,.int .i64 e2] 97));have LR3:=Hd ((LR2.out.alloc (.cells #[.int .i64 s1,.bool g1,.slice A1 m1 c1,.int .i64 e1] 97)).alloc (.cells #[.int .i64 s2,.bool g2,.slice A2 m2 c2,.int .i64 e2] 97));have LG0_3:=Hd ((Blk.new w2 97 #[.int .i64 s1,.bool g1,.slice A1 m1 c1,.int .i64 e1]).alloc (.cells #[.int .i64 s2,.bool g2,.slice A2 m2 c2,.int .i64 e2] 97));have LG1_3:=Hd (Blk.new2 w2 (.cells #[.int .i64 s1,.bool g1,.slice A1 m1 c1,.int .i64 e1] 97) 97 #[.int .i64 s2,.bool g2,.slice A2 m2 c2,.int .i64 e2]);have U3:=Hd (U2.out.keep fun _ h=>(h.alloc (.cells #[.int .i64 s1,.bool g1,.slice A1 m1 c1,.int .i64 e1] 97)).alloc (.cells #[.int .i64 s2,.bool g2,.slice A2 m2 c2,.int .i64 e2] 97));clear LB2 LR2 U2 V2
 obtain⟨W4,hW4⟩:∃ W,(w2.alloc (.cells #[.int .i64 s1,.bool g1,.slice A1 m1 c1,.int .i64 e1] 97)).alloc (.cells #[.int .i64 s2,.bool g2,.slice A2 m2 c2,.int .i64 e2] 97)=W:=⟨_,rfl⟩
 rw [hW4] at LB3 LR3 LG0_3 LG1_3 U3 ⊢;clear hW4
 obtain⟨h,hg⟩:∃ g,w2.heap.size=g:=⟨_,rfl⟩
 rw [hg] at LG0_3 LG1_3 hlt ⊢;clear hg;have q0_0:=LG0_3.out.ce 0 rfl;have q0_1:=LG0_3.out.ce 1 rfl;have q0_2:=LG0_3.out.ce 2 rfl;have q0_3:=LG0_3.out.ce 3 rfl;have q1_0:=LG1_3.out.ce 0 rfl;have q1_1:=LG1_3.out.ce 1 rfl;have q1_2:=LG1_3.out.ce 2 rfl;have q1_3:=LG1_3.out.ce 3 rfl;have U4:=Hd (ExI.keep U3.out fun _ hu=>LR3.out.u32s hu [.int .i64 s1,.bool g1,.slice A1 m1 c1,.int .i64 e1]);obtain⟨ha0,hf0,ha1,hf1,ha2,hf2,ha3,hf3⟩:=LR3.out.sf4;obtain⟨hk0,hk1,hk2,hk3⟩:=LR3.out.sc4 (.int .i64 s1) (.bool g1) (.slice A1 m1 c1) (.int .i64 e1);have F:=Hd (below_sets (w0:=w) (r:=w.heap.size) (by omega) [.int .i64 s1,.bool g1,.slice A1 m1 c1,.int .i64 e1] 0 _ LB3.out)
 simp [sets] at hk0 hk1 hk2 hk3
 go_wp2;refine bodyPost_ret (v:=.agg #[.int .i64 s1,.bool g1,.slice A1 m1 c1,.int .i64 e1]) (by simp [results,Tryz.results91,go_sem,hk0,hk1,hk2,hk3]) rfl ?_
 exact⟨_,_,_,_,_,rfl,U4.out,F.out⟩
theorem less_second(x y:Nat)(s2:Int)(hs:s2≠0)(x1 x2:Rat)(w:World)(H1:∀ w,Calls Tryz.prog 100 #[.float .f64 x] w (NewExI w 0 x1))(H2:∀ w,Calls Tryz.prog 100 #[.float .f64 (Op.negFloat .f64 y)] w (NewExI w s2 x2)):
  Calls Tryz.prog 91 (Zv x y) w (NewExI w s2 x2):=by
 have K1:=Hd H1;have K2:=Hd H2
 have hz:(s2 == 0)=false:=by simpa using hs
 have hz2:(s2 != 0)=true:=by simp [hs]
 have HSN:=Hd hs;clear H1 H2 hs;obtain⟨LB0,LR⟩:=bx1 w #[.int .i64 0,.bool false,.slice none 0 0,.int .i64 0] 97;have LR0:=Hd (HasBlk.of (n:=4) LR.out rfl rfl);clear LR
 go_enter Tryz.func91,Tryz.ntmps91
 go_wp2_with fail;refine (K1.out _).mono ?_;rintro e w1 ⟨g1,A1,m1,c1,e1,rfl,hu1,hb1⟩;have LB1:=stB LB0 hb1 LB0.out.size;have LR1:=stR LR0 hb1;clear LB0 LR0;have U1:=Hd hu1;clear hu1 hb1 K1;go_wp2_with fail;refine (K2.out _).mono ?_;rintro e w2 ⟨g2,A2,m2,c2,e2,rfl,hu2,hb2⟩;have LB2:=stB LB1 hb2 LB1.out.size;have LR2:=stR LR1 hb2;clear LB1 LR1;have U2:=Hd (U1.out.below hb2);have V2:=Hd hu2;clear hu2 hb2 K2 U1
 go_upto_region 2 with fail
 have hlt:=LR2.out.lt;have LB3:=Hd ((LB2.out.alloc LB2.out.size (.cells #[.int .i64 0,.bool g1,.slice A1 m1 c1,.int .i64 e1] 97)).alloc (by have:=LB2.out.size;simp;omega) (.cells #[.int .i64 s2,.bool g2,.slice A2 m2 c2,.int .i64 e2] 97));have LR3:=Hd ((LR2.out.alloc (.cells #[.int .i64 0,.bool g1,.slice A1 m1 c1,.int .i64 e1] 97)).alloc (.cells #[.int .i64 s2,.bool g2,.slice A2 m2 c2,.int .i64 e2] 97));have LG0_3:=Hd ((Blk.new w2 97 #[.int .i64 0,.bool g1,.slice A1 m1 c1,.int .i64 e1]).alloc (.cells #[.int .i64 s2,.bool g2,.slice A2 m2 c2,.int .i64 e2] 97));have LG1_3:=Hd (Blk.new2 w2 (.cells #[.int .i64 0,.bool g1,.slice A1 m1 c1,.int .i64 e1] 97) 97 #[.int .i64 s2,.bool g2,.slice A2 m2 c2,.int .i64 e2]);have U3:=Hd (V2.out.keep fun _ h=>(h.alloc (.cells #[.int .i64 0,.bool g1,.slice A1 m1 c1,.int .i64 e1] 97)).alloc (.cells #[.int .i64 s2,.bool g2,.slice A2 m2 c2,.int .i64 e2] 97));clear LB2 LR2 U2 V2
 obtain⟨W4,hW4⟩:∃ W,(w2.alloc (.cells #[.int .i64 0,.bool g1,.slice A1 m1 c1,.int .i64 e1] 97)).alloc (.cells #[.int .i64 s2,.bool g2,.slice A2 m2 c2,.int .i64 e2] 97)=W:=⟨_,rfl⟩
 rw [hW4] at LB3 LR3 LG0_3 LG1_3 U3 ⊢;clear hW4
 obtain⟨h,hg⟩:∃ g,w2.heap.size=g:=⟨_,rfl⟩
 rw [hg] at LG0_3 LG1_3 hlt ⊢;clear hg;have q0_0:=LG0_3.out.ce 0 rfl;have q0_1:=LG0_3.out.ce 1 rfl;have q0_2:=LG0_3.out.ce 2 rfl;have q0_3:=LG0_3.out.ce 3 rfl;have q1_0:=LG1_3.out.ce 0 rfl;have q1_1:=LG1_3.out.ce 1 rfl;have q1_2:=LG1_3.out.ce 2 rfl;have q1_3:=LG1_3.out.ce 3 rfl;have U4:=Hd (ExI.keep U3.out fun _ hu=>LR3.out.u32s hu [.int .i64 s2,.bool g2,.slice A2 m2 c2,.int .i64 e2]);obtain⟨ha0,hf0,ha1,hf1,ha2,hf2,ha3,hf3⟩:=LR3.out.sf4;obtain⟨hk0,hk1,hk2,hk3⟩:=LR3.out.sc4 (.int .i64 s2) (.bool g2) (.slice A2 m2 c2) (.int .i64 e2);have F:=Hd (below_sets (w0:=w) (r:=w.heap.size) (by omega) [.int .i64 s2,.bool g2,.slice A2 m2 c2,.int .i64 e2] 0 _ LB3.out)
 simp [sets] at hk0 hk1 hk2 hk3
 go_wp2;refine bodyPost_ret (v:=.agg #[.int .i64 s2,.bool g2,.slice A2 m2 c2,.int .i64 e2]) (by simp [results,Tryz.results91,go_sem,hk0,hk1,hk2,hk3]) rfl ?_
 exact⟨_,_,_,_,_,rfl,U4.out,F.out⟩
theorem less_gen(i j:Int)(w:World)(hi:-(M:Int)<=i/\i<=M)(hj:-(M:Int)<=j/\j<=M):
  Calls Tryz.prog 91 (Zv (pat i) (pat j)) w (NewExI w (es2 (es i) (es (-j))) (ex2 (es i) (ex i) (es (-j)) (ex (-j)))):=by
 have hM:=M_val;have nf:=negFloat_val (pat_lt hj.1 hj.2);rw [idx_pat hj.1 hj.2] at nf
 have hneg:∀ w,Calls Tryz.prog 100 #[.float .f64 (Op.negFloat .f64 (pat j))] w (NewExI w (es (-j)) (ex (-j))):=by
  intro w
  by_cases h0:j=0
  ·subst h0;obtain⟨neg,S,x,k1,k2,k3,k4,k5⟩:=point_any (Op.negFloat .f64 (pat 0)) nf.1 (by show rungOf _<M;rw [nf.2.1];decide);rw [nf.2.2] at k4;rw [show es (-0)=0 from es_mid (by omega) (by omega),show ex (-0)=fl (-0) from ex_mid (by omega) (by omega)];refine (k5 w).mono ?_;rintro e w' ⟨A,n,c,rfl,hu,hb⟩
   exact⟨neg,A,n,c,x,rfl,⟨.inl rfl,fun _=>⟨S,hu,Nat.le_trans (blen_le_iff.2 (show S<2^53 from k1)) (by omega),k2,k3,k4⟩⟩,hb⟩
  ·rw [neg_pat hj.1 hj.2 h0]
   exact point_gen (-j) w (by omega)
 by_cases h1:es i=0
 ·by_cases h2:es (-j)=0
  ·rw [h1,h2];have a1:=es_zero h1;have a2:=es_zero h2
   have hfi:fin (pat i):=by show rungOf (pat i)<M;rw [rung_pat hi.1 hi.2];omega
   have hfj:fin (pat j):=by show rungOf (pat j)<M;rw [rung_pat hj.1 hj.2];omega
   have h:=rless_any (pat i) (pat j) w (pat_lt hi.1 hi.2) (pat_lt hj.1 hj.2) hfi hfj;rw [idx_pat hi.1 hi.2,idx_pat hj.1 hj.2] at h
   have e1:ex2 0 (ex i) 0 (ex (-j))=fl i - fl j:=by
    unfold ex2;rw [if_neg (by omega),if_neg (by omega),ex_zero h1,ex_zero h2,fl_neg];grind
   rw [e1,show es2 0 0=0 from rfl]
   exact h.mono fun e w' h=>h.toI
  ·have h:=less_second (pat i) (pat j) (es (-j)) h2 (ex i) (ex (-j)) w (fun w=>by have h:=point_gen i w hi;rwa [h1] at h) hneg;rw [h1];unfold es2 ex2;rw [if_neg (by omega),if_neg (by omega),if_pos h2]
   exact h
 ·have h:=less_first (pat i) (pat j) (es i) (es (-j)) h1 (ex i) (ex (-j)) w (fun w=>point_gen i w hi) hneg;unfold es2 ex2;rw [if_pos h1,if_pos h1]
  exact h
end
section
open Go.RowKit
attribute [local go_sem] run_store_float
theorem fmarev_none(b1 b2 z1 z2 c1 c2 x y P1 Q1 P2 Q2 P3 Q3 P4 Q4:Nat)(d1 d2 d3 d4:Bool)(w:World)(t1:∀ W,Rt 102 #[Zf b1 b2] (Zf P1 Q1) W)(m1:Em d1 P1 Q1)(t2:∀ W,Rt 102 #[Zf z1 z2] (Zf P2 Q2) W)(m2:Em d2 P2 Q2)(t3:∀ W,Rt 102 #[Zf c1 c2] (Zf P3 Q3) W)(m3:Em d3 P3 Q3)(t4:∀ W,Rt 102 #[Zf x y] (Zf P4 Q4) W)(m4:Em d4 P4 Q4)(hnn:(d1 || d2 || d3 || d4)=true):
  Rt 31 #[Zf b1 b2,Zf z1 z2,Zf c1 c2,Zf x y] (Zf 9218868437227405312 18442240474082181120) w:=by
 have HE:=Hd emptyf;have HRD:=readL54 w (Zv 0 0) 28 t1 m1 t2 m2 t3 m3 t4 m4 hnn;clear t1 t2 t3 t4 m1 m2 m3 m4 hnn
 go_enter Tryz.func31,Tryz.ntmps31
 go_wp2_with fail;refine HRD.out.mono ?_;rintro e w1 ⟨rfl,hl⟩;have LB1:=Hd hl.b;have LR1:=Hd (HasBlk.of (n:=2) (hl.blk 4 rfl) rfl rfl);have LG0_1:=Hd (hl.blk 0 rfl);have LG1_1:=Hd (hl.blk 1 rfl);have LG2_1:=Hd (hl.blk 2 rfl);have LG3_1:=Hd (hl.blk 3 rfl);clear hl HRD;go_wp2_with fail;refine cx (HE.out _) fun w2 hbx=>?_;have LB2:=stB LB1 hbx LB1.out.size;have LR2:=stR LR1 hbx;have LG0_2:=stG LG0_1 hbx;have LG1_2:=stG LG1_1 hbx;have LG2_2:=stG LG2_1 hbx;have LG3_2:=stG LG3_1 hbx;clear LB1 LR1 LG0_1 LG1_1 LG2_1 LG3_1;clear hbx;obtain⟨ha0,hf0,ha1,hf1⟩:=LR2.out.sf2;obtain⟨hk0,hk1⟩:=LR2.out.sc2 (.float .f64 9218868437227405312) (.float .f64 18442240474082181120);have F:=Hd (below_sets (w0:=w) (r:=(w.heap.size+4)) (by omega) [.float .f64 9218868437227405312,.float .f64 18442240474082181120] 0 _ LB2.out)
 simp [sets] at hk0 hk1
 go_wp2;refine bodyPost_ret (v:=Zf 9218868437227405312 18442240474082181120) (by simp [results,Tryz.results31,go_sem,hk0,hk1]) rfl ?_
 exact⟨rfl,F.out⟩
theorem fmarev_some(b1 b2 z1 z2 c1 c2 x y P1 Q1 P2 Q2 P3 Q3 P4 Q4:Nat)(d1 d2 d3 d4:Bool)(s1 s2:Int)(y1 y2:Rat)(r1 r2:Nat)(w:World)(t1:∀ W,Rt 102 #[Zf b1 b2] (Zf P1 Q1) W)(m1:Em d1 P1 Q1)(t2:∀ W,Rt 102 #[Zf z1 z2] (Zf P2 Q2) W)(m2:Em d2 P2 Q2)(t3:∀ W,Rt 102 #[Zf c1 c2] (Zf P3 Q3) W)(m3:Em d3 P3 Q3)(t4:∀ W,Rt 102 #[Zf x y] (Zf P4 Q4) W)(m4:Em d4 P4 Q4)(hnn:(d1 || d2 || d3 || d4)=false)
  (L1:∀ W,Calls Tryz.prog 91 (Zv P3 Q2) W (NewExI W s1 y1))(L2:∀ W,Calls Tryz.prog 91 (Zv Q3 P2) W (NewExI W s2 y2))
  (FA:∀ (g1:Bool) (A1:Option Addr) (n1 c1:Nat) (E1:Int) (g2:Bool) (A2:Option Addr) (n2 c2:Nat) (E2:Int) W,ExI W s1 g1 A1 n1 c1 E1 y1->ExI W s2 g2 A2 n2 c2 E2 y2->Rt 90 #[Zf P1 Q1,.agg #[.int .i64 s1,.bool g1,.slice A1 n1 c1,.int .i64 E1],.agg #[.int .i64 s2,.bool g2,.slice A2 n2 c2,.int .i64 E2],Zf P4 Q4] (Zf r1 r2) W):
  Rt 31 #[Zf b1 b2,Zf z1 z2,Zf c1 c2,Zf x y] (Zf r1 r2) w:=by
 have HL1:=Hd L1;have HL2:=Hd L2;have HF:=Hd FA;clear L1 L2 FA;have HRD:=readL54 w (Zv 0 0) 28 t1 m1 t2 m2 t3 m3 t4 m4 hnn;clear t1 t2 t3 t4 m1 m2 m3 m4 hnn
 go_enter Tryz.func31,Tryz.ntmps31
 go_wp2_with fail;refine HRD.out.mono ?_;rintro e w1 ⟨rfl,hl⟩;have LB1:=Hd hl.b;have LR1:=Hd (HasBlk.of (n:=2) (hl.blk 4 rfl) rfl rfl);have LG0_1:=Hd (hl.blk 0 rfl);have LG1_1:=Hd (hl.blk 1 rfl);have LG2_1:=Hd (hl.blk 2 rfl);have LG3_1:=Hd (hl.blk 3 rfl);clear hl HRD;go_wp2_with fail;refine wp_region_held_drew (S:=fun W'=>Blk W' w.heap.size 28 (Zv P1 Q1)/\Blk W' (w.heap.size+1) 28 (Zv P2 Q2)/\Blk W' (w.heap.size+2) 28 (Zv P3 Q3)/\Blk W' (w.heap.size+3) 28 (Zv P4 Q4)/\HasBlk W' (w.heap.size+4) 28 2/\Below w.heap.size w W') (by kernel_rfl) (by exact⟨LG0_1.out.drew,LG1_1.out.drew,LG2_1.out.drew,LG3_1.out.drew,LR1.out.drew,LB1.out.drew⟩) (fun hHeld=>?_);refine tkb 0 (fun _ h=>h.1.c2) ?_;refine tks 1 ?_;refine tkb 2 (fun _ h=>h.2.2.1.c2) ?_;refine tks 3 ?_;refine tkb 4 (fun _ h=>h.2.1.c2) ?_;refine tks 6 ?_;refine tkb 7 (fun _ h=>h.2.2.1.c2) ?_;refine tks 8 ?_;refine tkb 9 (fun _ h=>h.2.1.c2) ?_;refine tkb 11 (fun _ h=>h.2.2.2.1.c2) ?_;refine rdy 5 fun KK hKK=>?_;go_simp;refine (HL1.out _).mono ?_;rintro e w2 ⟨g1,A1,n1,c1,E1,rfl,he1,hbA⟩;go_wp2_with fail;refine hKK.out _ _ (⟨hHeld.1.keep hbA,hHeld.2.1.keep hbA,hHeld.2.2.1.keep hbA,hHeld.2.2.2.1.keep hbA,hHeld.2.2.2.2.1.keep hbA,hHeld.2.2.2.2.2.trans (hbA.mono hHeld.2.2.2.2.2.size)⟩) (fun _=>?_);clear hKK KK hHeld;rename_i hHeld;(try simp only [Act.put,lay]);refine rdy 10 fun KK hKK=>?_;go_simp;refine (HL2.out _).mono ?_;rintro e w3 ⟨g2,A2,n2,c2,E2,rfl,he2,hbB⟩;go_wp2_with fail;refine hKK.out _ _ (⟨hHeld.1.keep hbB,hHeld.2.1.keep hbB,hHeld.2.2.1.keep hbB,hHeld.2.2.2.1.keep hbB,hHeld.2.2.2.2.1.keep hbB,hHeld.2.2.2.2.2.trans (hbB.mono hHeld.2.2.2.2.2.size)⟩) (fun _=>?_)
 clear hKK KK hHeld;rename_i hHeld;(try simp only [Act.put,lay]);refine rdy 12 fun KK hKK=>?_;go_simp;refine cx (HF.out _ _ _ _ _ _ _ _ _ _ _ (he1.below hbB) he2) fun w4 hbC=>?_;go_wp2_with fail;refine hKK.out _ _ (⟨hHeld.1.keep hbC,hHeld.2.1.keep hbC,hHeld.2.2.1.keep hbC,hHeld.2.2.2.1.keep hbC,hHeld.2.2.2.2.1.keep hbC,hHeld.2.2.2.2.2.trans (hbC.mono hHeld.2.2.2.2.2.size)⟩) (fun _=>?_);clear hKK KK hHeld;rename_i hHeld;(try simp only [Act.put,lay]);refine rdy 13 fun KK hKK=>?_;have ha0:=hHeld.2.2.2.2.1.someCell 0 (by decide);have hf0:=hHeld.2.2.2.2.1.frozen 0;have ha1:=hHeld.2.2.2.2.1.someCell 1 (by decide);have hf1:=hHeld.2.2.2.2.1.frozen 1;have HK:=Hd (hHeld.2.2.2.2.1.setCell [.float .f64 r1,.float .f64 r2] rfl);have F:=Hd (below_sets (w0:=w) (r:=(w.heap.size+4)) (by omega) [.float .f64 r1,.float .f64 r2] 0 _ hHeld.2.2.2.2.2);go_simp;refine hKK.out _ _ (⟨hHeld.1.other (by omega) 0 [.float .f64 r1,.float .f64 r2],hHeld.2.1.other (by omega) 0 [.float .f64 r1,.float .f64 r2],hHeld.2.2.1.other (by omega) 0 [.float .f64 r1,.float .f64 r2],hHeld.2.2.2.1.other (by omega) 0 [.float .f64 r1,.float .f64 r2],hHeld.2.2.2.2.1.sets [.float .f64 r1,.float .f64 r2] rfl rfl,below_sets (by omega) [.float .f64 r1,.float .f64 r2] 0 _ hHeld.2.2.2.2.2⟩) (fun _=>?_);clear hKK KK hHeld;rename_i hHeld;(try simp only [Act.put,lay]);refine wpAnyH_done (by kernel_rfl) ?_ _;have hk0:=HK.out 0 (by decide);have hk1:=HK.out 1 (by decide)
 simp [sets] at hk0 hk1
 clear hHeld HK he1 hbA he2 hbB hbC;clear LB1 LR1 LG0_1 LG1_1 LG2_1 LG3_1;go_wp2;refine bodyPost_ret (v:=Zf r1 r2) (by simp [results,Tryz.results31,go_sem,hk0,hk1]) rfl ?_
 exact⟨rfl,F.out⟩
theorem mulrev_walk(b1 b2 c1 c2 x y r1 r2:Nat)(w:World)(H:∀ W,Rt 31 #[Zf b1 b2,Zf 0 0,Zf c1 c2,Zf x y] (Zf r1 r2) W):
  Rt 25 #[Zf b1 b2,Zf c1 c2,Zf x y] (Zf r1 r2) w:=by
 have K:=Hd H;clear H;obtain⟨LB0,LG0_0,LG1_0,LG2_0,LR⟩:=bx4 w (Zv b1 b2) 28 (Zv c1 c2) 28 (Zv x y) 28 (Zv 0 0) 28;have LR0:=Hd (HasBlk.of (n:=2) LR.out rfl rfl);clear LR
 go_enter Tryz.func25,Tryz.ntmps25
 obtain⟨q0_0,q0_1⟩:=LG0_0.out.c2;obtain⟨q1_0,q1_1⟩:=LG1_0.out.c2;obtain⟨q2_0,q2_1⟩:=LG2_0.out.c2;go_wp2_with fail;refine cx (K.out _) fun w1 hb1=>?_;have LB1:=stB LB0 hb1 LB0.out.size;have LR1:=stR LR0 hb1;have LG0_1:=stG LG0_0 hb1;have LG1_1:=stG LG1_0 hb1;have LG2_1:=stG LG2_0 hb1;clear LB0 LR0 LG0_0 LG1_0 LG2_0;clear hb1 K q0_0 q0_1 q1_0 q1_1 q2_0 q2_1;obtain⟨ha0,hf0,ha1,hf1⟩:=LR1.out.sf2;obtain⟨hk0,hk1⟩:=LR1.out.sc2 (.float .f64 r1) (.float .f64 r2);have F:=Hd (below_sets (w0:=w) (r:=(w.heap.size+3)) (by omega) [.float .f64 r1,.float .f64 r2] 0 _ LB1.out)
 simp [sets] at hk0 hk1
 go_wp2;refine bodyPost_ret (v:=Zf r1 r2) (by simp [results,Tryz.results25,go_sem,hk0,hk1]) rfl ?_
 exact⟨rfl,F.out⟩
end
end Go.Proofs.YthlmlmfebpjgdaaGreatDoor
