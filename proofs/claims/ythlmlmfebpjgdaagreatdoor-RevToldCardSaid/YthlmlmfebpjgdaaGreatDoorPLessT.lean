/-
Lemmas for the statement: LessT Es2P PtInfT.
-/
import Derived.Test.YthlmlmfebpjgdaaGreatDoorM02
import Derived.Test.YthlmlmfebpjgdaaGreatDoorM14
import Derived.Test.YthlmlmfebpjgdaaGreatDoorPIntsT
import Derived.Test.YthlmlmfebpjgdaaGreatDoorM17
import Derived.Laws.FloatArith
set_option linter.unusedSimpArgs false
set_option linter.unusedVariables false
set_option maxHeartbeats 12800000
namespace Go.Proofs.YthlmlmfebpjgdaaGreatDoor
section
open Go.RowKit
attribute [local go_sem] run_store_float run_negf
theorem less_same(x y:Nat)(n1 n2:Bool)(S1 S2:Nat)(e1 e2 E:Int)(P Q:Nat)(w:World)(H1:∀ w,Calls Tryz.prog 100 #[.float .f64 x] w (NewExP w n1 S1 e1))(H2:∀ w,Calls Tryz.prog 100 #[.float .f64 (Op.negFloat .f64 y)] w (NewExP w n2 S2 e2))(HA:∀ A1 m1 c1 A2 m2 c2 W,U32s W A1 m1 c1 (digs S1)->U32s W A2 m2 c2 (digs S2)->Calls Tryz.prog 141 #[.agg #[.int .i64 0,.bool n1,.slice A1 m1 c1,.int .i64 e1],.agg #[.int .i64 0,.bool n2,.slice A2 m2 c2,.int .i64 e2]] W (NewAl W P Q E))(hP:blen P<=4000)(hQ:blen Q<=4000)(hn:(n1 == n2)=true):
  Calls Tryz.prog 91 #[.float .f64 x,.float .f64 y] w (NewExP w n1 (P+Q) E):=by
 have wP:wlen (digs P)<=16383:=wlen_digs_le (K:=16383) (by omega);have wQ:wlen (digs Q)<=16383:=wlen_digs_le (K:=16383) (by omega);have K1:=Hd H1;have K2:=Hd H2;have KA:=Hd HA
 have KS:=Hd fun W A m c B n d (h1:U32s W A m c (digs P)) (h2:U32s W B n d (digs Q))=>(by
  have h:=nadd_any A B m c n d (digs P) (digs Q) W h1 h2 wP wQ
  rw [num_digs,num_digs] at h;exact h:Calls Tryz.prog 159 #[.slice A m c,.slice B n d] W (NewU32E W (digs (P+Q))))
 obtain⟨V,hV⟩:∃ z,P+Q=z:=⟨_,rfl⟩
 rw [hV] at KS ⊢;clear H1 H2 HA hP hQ wP wQ hV;obtain⟨LB0,LR⟩:=bx1 w #[.int .i64 0,.bool false,.slice none 0 0,.int .i64 0] 97;have LR0:=Hd (HasBlk.of (n:=4) LR.out rfl rfl);clear LR
 go_enter Tryz.func91,Tryz.ntmps91
 go_wp2_with fail;refine (K1.out _).mono ?_;rintro e w1 ⟨A1,m1,c1,rfl,hu1,hb1⟩;have LB1:=stB LB0 hb1 LB0.out.size;have LR1:=stR LR0 hb1;clear LB0 LR0;have U1:=Hd hu1;clear hu1 hb1 K1;go_wp2_with fail;refine (K2.out _).mono ?_;rintro e w2 ⟨A2,m2,c2,rfl,hu2,hb2⟩;have LB2:=stB LB1 hb2 LB1.out.size;have LR2:=stR LR1 hb2;clear LB1 LR1;have U2:=Hd (U1.out.below hb2);have V2:=Hd hu2;clear hu2 hb2 K2 U1
 go_upto_region 2 with fail
 have hlt3:=LR2.out.lt;have LB3:=Hd (LB2.out.alloc LB2.out.size (.cells #[.int .i64 0,.bool n1,.slice A1 m1 c1,.int .i64 e1] 97));have LR3:=Hd (LR2.out.alloc (.cells #[.int .i64 0,.bool n1,.slice A1 m1 c1,.int .i64 e1] 97));have LG0_3:=Hd (Blk.new w2 97 #[.int .i64 0,.bool n1,.slice A1 m1 c1,.int .i64 e1]);clear LB2 LR2;have U3:=Hd (U2.out.alloc (.cells #[.int .i64 0,.bool n1,.slice A1 m1 c1,.int .i64 e1] 97));have V3:=Hd (V2.out.alloc (.cells #[.int .i64 0,.bool n1,.slice A1 m1 c1,.int .i64 e1] 97));clear U2 V2;have LB4:=Hd (LB3.out.alloc LB3.out.size (.cells #[.int .i64 0,.bool n2,.slice A2 m2 c2,.int .i64 e2] 97));have LR4:=Hd (LR3.out.alloc (.cells #[.int .i64 0,.bool n2,.slice A2 m2 c2,.int .i64 e2] 97));have LG0_4:=Hd (LG0_3.out.alloc (.cells #[.int .i64 0,.bool n2,.slice A2 m2 c2,.int .i64 e2] 97));have LG1_4:=Hd (Blk.new2 w2 (.cells #[.int .i64 0,.bool n1,.slice A1 m1 c1,.int .i64 e1] 97) 97 #[.int .i64 0,.bool n2,.slice A2 m2 c2,.int .i64 e2]);have U4:=Hd (U3.out.alloc (.cells #[.int .i64 0,.bool n2,.slice A2 m2 c2,.int .i64 e2] 97));have V4:=Hd (V3.out.alloc (.cells #[.int .i64 0,.bool n2,.slice A2 m2 c2,.int .i64 e2] 97));clear LB3 LR3 LG0_3 U3 V3
 obtain⟨W4,hW4⟩:∃ W,(w2.alloc (.cells #[.int .i64 0,.bool n1,.slice A1 m1 c1,.int .i64 e1] 97)).alloc (.cells #[.int .i64 0,.bool n2,.slice A2 m2 c2,.int .i64 e2] 97)=W:=⟨_,rfl⟩
 rw [hW4] at LB4 LR4 LG0_4 LG1_4 U4 V4 ⊢;clear hW4
 obtain⟨g,hg⟩:∃ g,w2.heap.size=g:=⟨_,rfl⟩
 rw [hg] at LG0_4 LG1_4 hlt3 ⊢;clear hg;obtain⟨q0_0,q0_1,q0_2,q0_3⟩:=LG0_4.out.c4;have q1_0:=LG1_4.out.ce 0 rfl;have q1_1:=LG1_4.out.ce 1 rfl;have q1_2:=LG1_4.out.ce 2 rfl;have q1_3:=LG1_4.out.ce 3 rfl;go_wp2_with fail;refine (KA.out _ _ _ _ _ _ _ U4.out V4.out).mono ?_;rintro e w5 ⟨B1,p1,d1,B2,p2,d2,rfl,hp,hq,hb5⟩;have LB5:=stB LB4 hb5 LB4.out.size;have LR5:=stR LR4 hb5;have LG0_5:=stG LG0_4 hb5;have LG1_5:=stG LG1_4 hb5;clear LB4 LR4 LG0_4 LG1_4;have HP5:=Hd hp;have HQ5:=Hd hq;clear hp hq hb5 KA U4 V4 q0_0 q0_1 q0_2 q0_3 q1_0 q1_1 q1_2 q1_3;obtain⟨q0_0,q0_1,q0_2,q0_3⟩:=LG0_5.out.c4;have q1_0:=LG1_5.out.ce 0 rfl;have q1_1:=LG1_5.out.ce 1 rfl;have q1_2:=LG1_5.out.ce 2 rfl;have q1_3:=LG1_5.out.ce 3 rfl;go_wp2_with fail;refine (KS.out _ _ _ _ _ _ _ HP5.out HQ5.out).mono ?_;rintro e w6 ⟨B3,p3,d3,rfl,hu,hb6⟩;have LB6:=stB LB5 hb6 LB5.out.size;have LR6:=stR LR5 hb6;have LG0_6:=stG LG0_5 hb6;have LG1_6:=stG LG1_5 hb6;clear LB5 LR5 LG0_5 LG1_5;have FU:=Hd (LR6.out.u32s hu [.int .i64 0,.bool n1,.slice B3 p3 d3,.int .i64 E]);clear hu hb6 hn HP5 HQ5 KS q0_0 q0_1 q0_2 q0_3 q1_0 q1_1 q1_2 q1_3;obtain⟨q0_0,q0_1,q0_2,q0_3⟩:=LG0_6.out.c4;obtain⟨ha0,hf0,ha1,hf1,ha2,hf2,ha3,hf3⟩:=LR6.out.sf4;obtain⟨hk0,hk1,hk2,hk3⟩:=LR6.out.sc4 (.int .i64 0) (.bool n1) (.slice B3 p3 d3) (.int .i64 E);have F:=Hd (below_sets (w0:=w) (r:=w.heap.size) (by omega) [.int .i64 0,.bool n1,.slice B3 p3 d3,.int .i64 E] 0 _ LB6.out)
 simp [sets] at hk0 hk1 hk2 hk3
 go_wp2;refine bodyPost_ret (v:=.agg #[.int .i64 0,.bool n1,.slice B3 p3 d3,.int .i64 E]) (by simp [results,Tryz.results91,go_sem,hk0,hk1,hk2,hk3]) rfl ?_
 exact⟨_,_,_,rfl,FU.out,F.out⟩
theorem less_ge(x y:Nat)(n1 n2:Bool)(S1 S2:Nat)(e1 e2 E:Int)(P Q:Nat)(w:World)(H1:∀ w,Calls Tryz.prog 100 #[.float .f64 x] w (NewExP w n1 S1 e1))(H2:∀ w,Calls Tryz.prog 100 #[.float .f64 (Op.negFloat .f64 y)] w (NewExP w n2 S2 e2))(HA:∀ A1 m1 c1 A2 m2 c2 W,U32s W A1 m1 c1 (digs S1)->U32s W A2 m2 c2 (digs S2)->Calls Tryz.prog 141 #[.agg #[.int .i64 0,.bool n1,.slice A1 m1 c1,.int .i64 e1],.agg #[.int .i64 0,.bool n2,.slice A2 m2 c2,.int .i64 e2]] W (NewAl W P Q E))(hP:blen P<=4000)(hQ:blen Q<=4000)(hn:(n1 == n2)=false)(hle:Q<=P):
  Calls Tryz.prog 91 #[.float .f64 x,.float .f64 y] w (fun e w'=>∃ g:Bool,(P - Q=0\/g=n1)/\NewExP w g (P - Q) E e w'):=by
 have wP:wlen (digs P)<=16383:=wlen_digs_le (K:=16383) (by omega);have wQ:wlen (digs Q)<=16383:=wlen_digs_le (K:=16383) (by omega);have K1:=Hd H1;have K2:=Hd H2;have KA:=Hd HA
 have KS:=Hd fun W A m c B n d (h1:U32s W A m c (digs P)) (h2:U32s W B n d (digs Q))=>(by
  have h:=nsub_any A B m c n d (digs P) (digs Q) W h1 h2 (by omega) (by omega) (by rw [num_digs,num_digs];omega)
  rw [num_digs,num_digs] at h;exact h:Calls Tryz.prog 160 #[.slice A m c,.slice B n d] W (NewU32E W (digs (P - Q))))
 have KC:=Hd fun W A m c B n d (h1:U32s W A m c (digs P)) (h2:U32s W B n d (digs Q))=>(by
  have h:=ncmp_any A B m c n d (digs P) (digs Q) W h1 h2;rw [num_digs,num_digs] at h;refine h.mono ?_;rintro e w' ⟨rfl,k,rfl⟩
  exact⟨rfl,below_drewN (Below.refl _ _) k⟩:Rt 142 #[.slice A m c,.slice B n d] (.int .i64 (cmp3 P Q)) W)
 obtain⟨cc,ecc⟩:∃ z,cmp3 P Q=z:=⟨_,rfl⟩
 have hcc:0<=cc:=by rw [<- ecc];exact cmp3_nonneg.2 hle
 rw [ecc] at KC
 obtain⟨V,hV⟩:∃ z,P - Q=z:=⟨_,rfl⟩
 rw [hV] at KS ⊢
 have HG:=Hd fun (m:Nat) (hm:(digs V).length=m)=>(show V=0\/(n1 && decide (0<m))=n1 from by
  by_cases h0:V=0
  ·exact .inl h0
  ·right
   have:=digs_len_pos (by omega) hm
   rw [decide_eq_true this,Bool.and_true])
 clear H1 H2 HA hP hQ wP wQ hV hle ecc;obtain⟨LB0,LR⟩:=bx1 w #[.int .i64 0,.bool false,.slice none 0 0,.int .i64 0] 97;have LR0:=Hd (HasBlk.of (n:=4) LR.out rfl rfl);clear LR
 go_enter Tryz.func91,Tryz.ntmps91
 go_wp2_with fail;refine (K1.out _).mono ?_;rintro e w1 ⟨A1,m1,c1,rfl,hu1,hb1⟩;have LB1:=stB LB0 hb1 LB0.out.size;have LR1:=stR LR0 hb1;clear LB0 LR0;have U1:=Hd hu1;clear hu1 hb1 K1;go_wp2_with fail;refine (K2.out _).mono ?_;rintro e w2 ⟨A2,m2,c2,rfl,hu2,hb2⟩;have LB2:=stB LB1 hb2 LB1.out.size;have LR2:=stR LR1 hb2;clear LB1 LR1;have U2:=Hd (U1.out.below hb2);have V2:=Hd hu2;clear hu2 hb2 K2 U1
 go_upto_region 2 with fail
 have hlt3:=LR2.out.lt;have LB3:=Hd (LB2.out.alloc LB2.out.size (.cells #[.int .i64 0,.bool n1,.slice A1 m1 c1,.int .i64 e1] 97));have LR3:=Hd (LR2.out.alloc (.cells #[.int .i64 0,.bool n1,.slice A1 m1 c1,.int .i64 e1] 97));have LG0_3:=Hd (Blk.new w2 97 #[.int .i64 0,.bool n1,.slice A1 m1 c1,.int .i64 e1]);clear LB2 LR2;have U3:=Hd (U2.out.alloc (.cells #[.int .i64 0,.bool n1,.slice A1 m1 c1,.int .i64 e1] 97));have V3:=Hd (V2.out.alloc (.cells #[.int .i64 0,.bool n1,.slice A1 m1 c1,.int .i64 e1] 97));clear U2 V2;have LB4:=Hd (LB3.out.alloc LB3.out.size (.cells #[.int .i64 0,.bool n2,.slice A2 m2 c2,.int .i64 e2] 97));have LR4:=Hd (LR3.out.alloc (.cells #[.int .i64 0,.bool n2,.slice A2 m2 c2,.int .i64 e2] 97));have LG0_4:=Hd (LG0_3.out.alloc (.cells #[.int .i64 0,.bool n2,.slice A2 m2 c2,.int .i64 e2] 97));have LG1_4:=Hd (Blk.new2 w2 (.cells #[.int .i64 0,.bool n1,.slice A1 m1 c1,.int .i64 e1] 97) 97 #[.int .i64 0,.bool n2,.slice A2 m2 c2,.int .i64 e2]);have U4:=Hd (U3.out.alloc (.cells #[.int .i64 0,.bool n2,.slice A2 m2 c2,.int .i64 e2] 97));have V4:=Hd (V3.out.alloc (.cells #[.int .i64 0,.bool n2,.slice A2 m2 c2,.int .i64 e2] 97));clear LB3 LR3 LG0_3 U3 V3
 obtain⟨W4,hW4⟩:∃ W,(w2.alloc (.cells #[.int .i64 0,.bool n1,.slice A1 m1 c1,.int .i64 e1] 97)).alloc (.cells #[.int .i64 0,.bool n2,.slice A2 m2 c2,.int .i64 e2] 97)=W:=⟨_,rfl⟩
 rw [hW4] at LB4 LR4 LG0_4 LG1_4 U4 V4 ⊢;clear hW4
 obtain⟨g,hg⟩:∃ g,w2.heap.size=g:=⟨_,rfl⟩
 rw [hg] at LG0_4 LG1_4 hlt3 ⊢;clear hg;obtain⟨q0_0,q0_1,q0_2,q0_3⟩:=LG0_4.out.c4;have q1_0:=LG1_4.out.ce 0 rfl;have q1_1:=LG1_4.out.ce 1 rfl;have q1_2:=LG1_4.out.ce 2 rfl;have q1_3:=LG1_4.out.ce 3 rfl;go_wp2_with fail;refine (KA.out _ _ _ _ _ _ _ U4.out V4.out).mono ?_;rintro e w5 ⟨B1,p1,d1,B2,p2,d2,rfl,hp,hq,hb5⟩;have LB5:=stB LB4 hb5 LB4.out.size;have LR5:=stR LR4 hb5;have LG0_5:=stG LG0_4 hb5;have LG1_5:=stG LG1_4 hb5;clear LB4 LR4 LG0_4 LG1_4;have HP5:=Hd hp;have HQ5:=Hd hq;clear hp hq hb5 KA U4 V4 q0_0 q0_1 q0_2 q0_3 q1_0 q1_1 q1_2 q1_3;obtain⟨q0_0,q0_1,q0_2,q0_3⟩:=LG0_5.out.c4;have q1_0:=LG1_5.out.ce 0 rfl;have q1_1:=LG1_5.out.ce 1 rfl;have q1_2:=LG1_5.out.ce 2 rfl;have q1_3:=LG1_5.out.ce 3 rfl;go_wp2_with fail;refine cx (KC.out _ _ _ _ _ _ _ HP5.out HQ5.out) fun w6 hb6=>?_;have LB6:=stB LB5 hb6 LB5.out.size;have LR6:=stR LR5 hb6;have LG0_6:=stG LG0_5 hb6;have LG1_6:=stG LG1_5 hb6;clear LB5 LR5 LG0_5 LG1_5;have HP6:=Hd (HP5.out.below hb6);have HQ6:=Hd (HQ5.out.below hb6);clear hb6 hn HP5 HQ5 KC q0_0 q0_1 q0_2 q0_3 q1_0 q1_1 q1_2 q1_3;go_wp2_with fail;refine (KS.out _ _ _ _ _ _ _ HP6.out HQ6.out).mono ?_;rintro e w7 ⟨B3,p3,d3,rfl,hu,hb7⟩;have LB7:=stB LB6 hb7 LB6.out.size;have LR7:=stR LR6 hb7;have LG0_7:=stG LG0_6 hb7;have LG1_7:=stG LG1_6 hb7;clear LB6 LR6 LG0_6 LG1_6;have HGG:=Hd (HG.out p3 hu.len);have HU7:=Hd hu;clear hu hb7 HP6 HQ6 KS hcc HG
 cases n1
 ·have FU:=Hd (LR7.out.u32s HU7.out [.int .i64 0,.bool false,.slice B3 p3 d3,.int .i64 E]);clear HU7;obtain⟨q0_0,q0_1,q0_2,q0_3⟩:=LG0_7.out.c4;obtain⟨ha0,hf0,ha1,hf1,ha2,hf2,ha3,hf3⟩:=LR7.out.sf4;obtain⟨hk0,hk1,hk2,hk3⟩:=LR7.out.sc4 (.int .i64 0) (.bool false) (.slice B3 p3 d3) (.int .i64 E);have F:=Hd (below_sets (w0:=w) (r:=w.heap.size) (by omega) [.int .i64 0,.bool false,.slice B3 p3 d3,.int .i64 E] 0 _ LB7.out)
  simp [sets] at hk0 hk1 hk2 hk3
  go_wp2;refine bodyPost_ret (v:=.agg #[.int .i64 0,.bool false,.slice B3 p3 d3,.int .i64 E]) (by simp [results,Tryz.results91,go_sem,hk0,hk1,hk2,hk3]) rfl ?_
  exact⟨_,HGG.out,_,_,_,rfl,FU.out,F.out⟩
 ·have FU:=Hd (LR7.out.u32s HU7.out [.int .i64 0,.bool (decide (0<p3)),.slice B3 p3 d3,.int .i64 E]);clear HU7;obtain⟨q0_0,q0_1,q0_2,q0_3⟩:=LG0_7.out.c4;obtain⟨ha0,hf0,ha1,hf1,ha2,hf2,ha3,hf3⟩:=LR7.out.sf4;obtain⟨hk0,hk1,hk2,hk3⟩:=LR7.out.sc4 (.int .i64 0) (.bool (decide (0<p3))) (.slice B3 p3 d3) (.int .i64 E);have F:=Hd (below_sets (w0:=w) (r:=w.heap.size) (by omega) [.int .i64 0,.bool (decide (0<p3)),.slice B3 p3 d3,.int .i64 E] 0 _ LB7.out)
  simp [sets] at hk0 hk1 hk2 hk3
  go_wp2;refine bodyPost_ret (v:=.agg #[.int .i64 0,.bool (decide (0<p3)),.slice B3 p3 d3,.int .i64 E]) (by simp [results,Tryz.results91,go_sem,hk0,hk1,hk2,hk3]) rfl ?_
  exact⟨_,HGG.out,_,_,_,rfl,FU.out,F.out⟩
theorem less_lt(x y:Nat)(n1 n2:Bool)(S1 S2:Nat)(e1 e2 E:Int)(P Q:Nat)(w:World)(H1:∀ w,Calls Tryz.prog 100 #[.float .f64 x] w (NewExP w n1 S1 e1))(H2:∀ w,Calls Tryz.prog 100 #[.float .f64 (Op.negFloat .f64 y)] w (NewExP w n2 S2 e2))(HA:∀ A1 m1 c1 A2 m2 c2 W,U32s W A1 m1 c1 (digs S1)->U32s W A2 m2 c2 (digs S2)->Calls Tryz.prog 141 #[.agg #[.int .i64 0,.bool n1,.slice A1 m1 c1,.int .i64 e1],.agg #[.int .i64 0,.bool n2,.slice A2 m2 c2,.int .i64 e2]] W (NewAl W P Q E))(hP:blen P<=4000)(hQ:blen Q<=4000)(hn:(n1 == n2)=false)(hle:P<Q):
  Calls Tryz.prog 91 #[.float .f64 x,.float .f64 y] w (fun e w'=>∃ g:Bool,(Q - P=0\/g=n2)/\NewExP w g (Q - P) E e w'):=by
 have wP:wlen (digs P)<=16383:=wlen_digs_le (K:=16383) (by omega);have wQ:wlen (digs Q)<=16383:=wlen_digs_le (K:=16383) (by omega);have K1:=Hd H1;have K2:=Hd H2;have KA:=Hd HA
 have KS:=Hd fun W A m c B n d (h1:U32s W A m c (digs Q)) (h2:U32s W B n d (digs P))=>(by
  have h:=nsub_any A B m c n d (digs Q) (digs P) W h1 h2 (by omega) (by omega) (by rw [num_digs,num_digs];omega)
  rw [num_digs,num_digs] at h;exact h:Calls Tryz.prog 160 #[.slice A m c,.slice B n d] W (NewU32E W (digs (Q - P))))
 have KC:=Hd fun W A m c B n d (h1:U32s W A m c (digs P)) (h2:U32s W B n d (digs Q))=>(by
  have h:=ncmp_any A B m c n d (digs P) (digs Q) W h1 h2;rw [num_digs,num_digs] at h;refine h.mono ?_;rintro e w' ⟨rfl,k,rfl⟩
  exact⟨rfl,below_drewN (Below.refl _ _) k⟩:Rt 142 #[.slice A m c,.slice B n d] (.int .i64 (cmp3 P Q)) W)
 obtain⟨cc,ecc⟩:∃ z,cmp3 P Q=z:=⟨_,rfl⟩
 have hcc:cc<0:=by rw [<- ecc];exact cmp3_neg.2 hle
 rw [ecc] at KC
 obtain⟨V,hV⟩:∃ z,Q - P=z:=⟨_,rfl⟩
 rw [hV] at KS ⊢
 have HG:=Hd fun (m:Nat) (hm:(digs V).length=m)=>(show V=0\/(n2 && decide (0<m))=n2 from by
  by_cases h0:V=0
  ·exact .inl h0
  ·right
   have:=digs_len_pos (by omega) hm
   rw [decide_eq_true this,Bool.and_true])
 clear H1 H2 HA hP hQ wP wQ hV hle ecc;obtain⟨LB0,LR⟩:=bx1 w #[.int .i64 0,.bool false,.slice none 0 0,.int .i64 0] 97;have LR0:=Hd (HasBlk.of (n:=4) LR.out rfl rfl);clear LR
 go_enter Tryz.func91,Tryz.ntmps91
 go_wp2_with fail;refine (K1.out _).mono ?_;rintro e w1 ⟨A1,m1,c1,rfl,hu1,hb1⟩;have LB1:=stB LB0 hb1 LB0.out.size;have LR1:=stR LR0 hb1;clear LB0 LR0;have U1:=Hd hu1;clear hu1 hb1 K1;go_wp2_with fail;refine (K2.out _).mono ?_;rintro e w2 ⟨A2,m2,c2,rfl,hu2,hb2⟩;have LB2:=stB LB1 hb2 LB1.out.size;have LR2:=stR LR1 hb2;clear LB1 LR1;have U2:=Hd (U1.out.below hb2);have V2:=Hd hu2;clear hu2 hb2 K2 U1
 go_upto_region 2 with fail
 have hlt3:=LR2.out.lt;have LB3:=Hd (LB2.out.alloc LB2.out.size (.cells #[.int .i64 0,.bool n1,.slice A1 m1 c1,.int .i64 e1] 97));have LR3:=Hd (LR2.out.alloc (.cells #[.int .i64 0,.bool n1,.slice A1 m1 c1,.int .i64 e1] 97));have LG0_3:=Hd (Blk.new w2 97 #[.int .i64 0,.bool n1,.slice A1 m1 c1,.int .i64 e1]);clear LB2 LR2;have U3:=Hd (U2.out.alloc (.cells #[.int .i64 0,.bool n1,.slice A1 m1 c1,.int .i64 e1] 97));have V3:=Hd (V2.out.alloc (.cells #[.int .i64 0,.bool n1,.slice A1 m1 c1,.int .i64 e1] 97));clear U2 V2;have LB4:=Hd (LB3.out.alloc LB3.out.size (.cells #[.int .i64 0,.bool n2,.slice A2 m2 c2,.int .i64 e2] 97));have LR4:=Hd (LR3.out.alloc (.cells #[.int .i64 0,.bool n2,.slice A2 m2 c2,.int .i64 e2] 97));have LG0_4:=Hd (LG0_3.out.alloc (.cells #[.int .i64 0,.bool n2,.slice A2 m2 c2,.int .i64 e2] 97));have LG1_4:=Hd (Blk.new2 w2 (.cells #[.int .i64 0,.bool n1,.slice A1 m1 c1,.int .i64 e1] 97) 97 #[.int .i64 0,.bool n2,.slice A2 m2 c2,.int .i64 e2]);have U4:=Hd (U3.out.alloc (.cells #[.int .i64 0,.bool n2,.slice A2 m2 c2,.int .i64 e2] 97));have V4:=Hd (V3.out.alloc (.cells #[.int .i64 0,.bool n2,.slice A2 m2 c2,.int .i64 e2] 97));clear LB3 LR3 LG0_3 U3 V3
 obtain⟨W4,hW4⟩:∃ W,(w2.alloc (.cells #[.int .i64 0,.bool n1,.slice A1 m1 c1,.int .i64 e1] 97)).alloc (.cells #[.int .i64 0,.bool n2,.slice A2 m2 c2,.int .i64 e2] 97)=W:=⟨_,rfl⟩
 rw [hW4] at LB4 LR4 LG0_4 LG1_4 U4 V4 ⊢;clear hW4
 obtain⟨g,hg⟩:∃ g,w2.heap.size=g:=⟨_,rfl⟩
 rw [hg] at LG0_4 LG1_4 hlt3 ⊢;clear hg;obtain⟨q0_0,q0_1,q0_2,q0_3⟩:=LG0_4.out.c4;have q1_0:=LG1_4.out.ce 0 rfl;have q1_1:=LG1_4.out.ce 1 rfl;have q1_2:=LG1_4.out.ce 2 rfl;have q1_3:=LG1_4.out.ce 3 rfl;go_wp2_with fail;refine (KA.out _ _ _ _ _ _ _ U4.out V4.out).mono ?_;rintro e w5 ⟨B1,p1,d1,B2,p2,d2,rfl,hp,hq,hb5⟩;have LB5:=stB LB4 hb5 LB4.out.size;have LR5:=stR LR4 hb5;have LG0_5:=stG LG0_4 hb5;have LG1_5:=stG LG1_4 hb5;clear LB4 LR4 LG0_4 LG1_4;have HP5:=Hd hp;have HQ5:=Hd hq;clear hp hq hb5 KA U4 V4 q0_0 q0_1 q0_2 q0_3 q1_0 q1_1 q1_2 q1_3;obtain⟨q0_0,q0_1,q0_2,q0_3⟩:=LG0_5.out.c4;have q1_0:=LG1_5.out.ce 0 rfl;have q1_1:=LG1_5.out.ce 1 rfl;have q1_2:=LG1_5.out.ce 2 rfl;have q1_3:=LG1_5.out.ce 3 rfl;go_wp2_with fail;refine cx (KC.out _ _ _ _ _ _ _ HP5.out HQ5.out) fun w6 hb6=>?_;have LB6:=stB LB5 hb6 LB5.out.size;have LR6:=stR LR5 hb6;have LG0_6:=stG LG0_5 hb6;have LG1_6:=stG LG1_5 hb6;clear LB5 LR5 LG0_5 LG1_5;have HP6:=Hd (HP5.out.below hb6);have HQ6:=Hd (HQ5.out.below hb6);clear hb6 hn HP5 HQ5 KC q0_0 q0_1 q0_2 q0_3 q1_0 q1_1 q1_2 q1_3;obtain⟨q0_0,q0_1,q0_2,q0_3⟩:=LG0_6.out.c4;have q1_0:=LG1_6.out.ce 0 rfl;have q1_1:=LG1_6.out.ce 1 rfl;have q1_2:=LG1_6.out.ce 2 rfl;have q1_3:=LG1_6.out.ce 3 rfl;have f01:=LG0_6.out.frozen 1;go_wp2_with fail
 go_region
 have HP7:=Hd (HP6.out.carry LG0_6.out rfl 1 (.bool n2));have HQ7:=Hd (HQ6.out.carry LG0_6.out rfl 1 (.bool n2));clear HP6 HQ6;have LB7:=Hd (LB6.out.setCell (p:=⟨g,1,none⟩) (show w.heap.size<=g by omega) (.bool n2));have LR7:=Hd (show HasBlk (w6.setCell ⟨g,1,none⟩ (.bool n2)) w.heap.size 97 4 from LR6.out.other (by omega) 1 [.bool n2]);have LG0_7:=Hd (LG0_6.out.set 1 (.bool n2));have LG1_7:=Hd (show Blk (w6.setCell ⟨g,1,none⟩ (.bool n2)) (g+1) 97 #[.int .i64 0,.bool n2,.slice A2 m2 c2,.int .i64 e2] from LG1_6.out.other (by omega) 1 [.bool n2]);clear LB6 LR6 LG0_6 LG1_6;have LB8:=Hd LB7.out.drew;have LR8:=Hd LR7.out.drew;have LG0_8:=Hd LG0_7.out.drew;have LG1_8:=Hd LG1_7.out.drew;have HP8:=Hd HP7.out.drew;have HQ8:=Hd HQ7.out.drew;clear LB7 LR7 LG0_7 LG1_7 HP7 HQ7 f01 hcc q0_0 q0_1 q0_2 q0_3 q1_0 q1_1 q1_2 q1_3
 obtain⟨W8,hW8⟩:∃ W,(w6.setCell ⟨g,1,none⟩ (.bool n2)).drew=W:=⟨_,rfl⟩
 rw [hW8] at LB8 LR8 LG0_8 LG1_8 HP8 HQ8 ⊢;clear hW8;go_wp2_with fail;refine (KS.out _ _ _ _ _ _ _ HQ8.out HP8.out).mono ?_;rintro e w9 ⟨B3,p3,d3,rfl,hu,hb9⟩;have LB9:=stB LB8 hb9 LB8.out.size;have LR9:=stR LR8 hb9;have LG0_9:=stG LG0_8 hb9;have LG1_9:=stG LG1_8 hb9;clear LB8 LR8 LG0_8 LG1_8;have HGG:=Hd (HG.out p3 hu.len);have HU7:=Hd hu;clear hu hb9 HP8 HQ8 KS HG
 cases n2
 ·have FU:=Hd (LR9.out.u32s HU7.out [.int .i64 0,.bool false,.slice B3 p3 d3,.int .i64 E]);clear HU7;obtain⟨q0_0,q0_1,q0_2,q0_3⟩:=LG0_9.out.c4;obtain⟨ha0,hf0,ha1,hf1,ha2,hf2,ha3,hf3⟩:=LR9.out.sf4;obtain⟨hk0,hk1,hk2,hk3⟩:=LR9.out.sc4 (.int .i64 0) (.bool false) (.slice B3 p3 d3) (.int .i64 E);have F:=Hd (below_sets (w0:=w) (r:=w.heap.size) (by omega) [.int .i64 0,.bool false,.slice B3 p3 d3,.int .i64 E] 0 _ LB9.out)
  simp [sets] at hk0 hk1 hk2 hk3
  go_wp2;refine bodyPost_ret (v:=.agg #[.int .i64 0,.bool false,.slice B3 p3 d3,.int .i64 E]) (by simp [results,Tryz.results91,go_sem,hk0,hk1,hk2,hk3]) rfl ?_
  exact⟨_,HGG.out,_,_,_,rfl,FU.out,F.out⟩
 ·have FU:=Hd (LR9.out.u32s HU7.out [.int .i64 0,.bool (decide (0<p3)),.slice B3 p3 d3,.int .i64 E]);clear HU7;obtain⟨q0_0,q0_1,q0_2,q0_3⟩:=LG0_9.out.c4;obtain⟨ha0,hf0,ha1,hf1,ha2,hf2,ha3,hf3⟩:=LR9.out.sf4;obtain⟨hk0,hk1,hk2,hk3⟩:=LR9.out.sc4 (.int .i64 0) (.bool (decide (0<p3))) (.slice B3 p3 d3) (.int .i64 E);have F:=Hd (below_sets (w0:=w) (r:=w.heap.size) (by omega) [.int .i64 0,.bool (decide (0<p3)),.slice B3 p3 d3,.int .i64 E] 0 _ LB9.out)
  simp [sets] at hk0 hk1 hk2 hk3
  go_wp2;refine bodyPost_ret (v:=.agg #[.int .i64 0,.bool (decide (0<p3)),.slice B3 p3 d3,.int .i64 E]) (by simp [results,Tryz.results91,go_sem,hk0,hk1,hk2,hk3]) rfl ?_
  exact⟨_,HGG.out,_,_,_,rfl,FU.out,F.out⟩
theorem rv_nonneg{n:Bool}{S:Nat}{E:Int}(h:0<=rv n S 1*2^E):rv n S 1*2^E=(S:Rat)*2^E:=by
 have hp:=zpow_pos E;rw [rv_int] at h ⊢
 cases n
 ·simp only [Bool.false_eq_true,if_false]
  rw [Rat.intCast_natCast]
 ·simp only [if_true] at h ⊢
  rw [Rat.intCast_neg,Rat.intCast_natCast] at h ⊢
  have h1:(0:Rat)<=-(S:Rat):=by
   rw [<- mul_le_pos hp];grind
  have h2:S=0:=by
   rcases Nat.eq_zero_or_pos S with h0 | h0
   ·exact h0
   ·have:=cast_pos h0;grind
  subst h2
  simp
theorem rless_any(x y:Nat)(w:World)(hx:x<18446744073709551616)(hy:y<18446744073709551616)(fx:fin x)(fy:fin y):
  Calls Tryz.prog 91 #[.float .f64 x,.float .f64 y] w (NewEx w (fl (idx x) - fl (idx y))):=by
 have nf:=negFloat_val hy;obtain⟨n1,S1,e1,s1,l1,u1,v1,H1⟩:=point_any x hx fx;obtain⟨n2,S2,e2,s2,l2,u2,v2,H2⟩:=point_any (Op.negFloat .f64 y) nf.1 (by show rungOf _<M;rw [nf.2.1];exact fy);rw [nf.2.2,fl_neg] at v2;have k1:blen S1<=53:=blen_le_iff.2 (show S1<2^53 from s1);have k2:blen S2<=53:=blen_le_iff.2 (show S2<2^53 from s2)
 obtain⟨E,hE⟩:∃ E,min e1 e2=E:=⟨_,rfl⟩
 obtain⟨a,ha⟩:∃ a,(e1 - E).toNat=a:=⟨_,rfl⟩
 obtain⟨b,hb⟩:∃ a,(e2 - E).toNat=a:=⟨_,rfl⟩
 have HA:=fun A1 m1 c1 A2 m2 c2 W (h1:U32s W A1 m1 c1 (digs S1)) (h2:U32s W A2 m2 c2 (digs S2))=>aligned_any n1 A1 m1 c1 S1 e1 n2 A2 m2 c2 S2 e2 E a b W h1 h2 hE (by omega) (by omega) (by omega) (by omega) (by omega) (by omega)
 have sh:∀ (S k:Nat),blen S<=53->k<=2100->blen (S*2^k)<=2200:=by
  intro S k h1 h2
  rcases Nat.eq_zero_or_pos S with h0 | h0
  ·subst h0;rw [Nat.zero_mul];have:blen 0<=53:=h1;omega
  ·rw [blen_shl S k h0];omega
 have p1:=sh S1 a k1 (by omega);have p2:=sh S2 b k2 (by omega)
 have hv:fl (idx x) - fl (idx y)=rv (dsum n1 (S1*2^a) n2 (S2*2^b)).1 (dsum n1 (S1*2^a) n2 (S2*2^b)).2 1*2^E:=by
  rw [dsum_val,v1,Rat.sub_eq_add_neg,v2,<- rv_shift n1 S1 a E e1 (by omega),<- rv_shift n2 S2 b E e2 (by omega)];grind
 have hbl:=dsum_blen n1 (S1*2^a) n2 (S2*2^b) 2200 p1 p2
 obtain⟨P,hP⟩:∃ z,S1*2^a=z:=⟨_,rfl⟩
 obtain⟨Q,hQ⟩:∃ z,S2*2^b=z:=⟨_,rfl⟩
 rw [hP,hQ] at HA hv hbl;rw [hP] at p1;rw [hQ] at p2;unfold dsum at hv hbl
 by_cases hn:n1=n2
 ·rw [if_pos hn] at hv hbl;refine (less_same x y n1 n2 S1 S2 e1 e2 E P Q w H1 H2 HA (by omega) (by omega) (by simpa using hn)).mono ?_;rintro e w' ⟨A,n,c,rfl,hu,hb⟩
  exact⟨_,A,n,c,_,E,rfl,hu,hb,by dsimp only at hbl;omega,by omega,by omega,hv⟩
 ·rw [if_neg hn] at hv hbl
  have hn2:(n1 == n2)=false:=by simpa using hn
  by_cases hlt:P<Q
  ·rw [if_pos hlt] at hv hbl;refine (less_lt x y n1 n2 S1 S2 e1 e2 E P Q w H1 H2 HA (by omega) (by omega) hn2 hlt).mono ?_;rintro e w' ⟨g,hg,A,n,c,rfl,hu,hb⟩;refine⟨_,A,n,c,_,E,rfl,hu,hb,by dsimp only at hbl;omega,by omega,by omega,?_⟩;rw [hv]
   rcases hg with h0 | h0
   ·dsimp only;rw [h0,rv_zero,rv_zero]
   ·rw [h0]
  ·rw [if_neg hlt] at hv hbl;refine (less_ge x y n1 n2 S1 S2 e1 e2 E P Q w H1 H2 HA (by omega) (by omega) hn2 (by omega)).mono ?_;rintro e w' ⟨g,hg,A,n,c,rfl,hu,hb⟩;refine⟨_,A,n,c,_,E,rfl,hu,hb,by dsimp only at hbl;omega,by omega,by omega,?_⟩;rw [hv]
   rcases hg with h0 | h0
   ·dsimp only;rw [h0,rv_zero,rv_zero]
   ·rw [h0]
end
section
open Go.RowKit
def es2(s1 s2:Int):Int:=if s1≠0 then s1 else s2
def ex2(s1:Int)(x1:Rat)(s2:Int)(x2:Rat):Rat:=if s1≠0 then x1 else if s2≠0 then x2 else x1+x2
end
section
open Go.RowKit
attribute [local go_sem] run_store_float run_negf
theorem copyone_pos(w:World):Calls Tryz.prog 167 #[.float .f64 4607182418800017408,.float .f64 9218868437227405312] w fun e w'=>e=.returned (.float .f64 4607182418800017408)/\w=w':=by
 have a1:bits .andNot .u64 4607182418800017408 9223372036854775808=4607182418800017408:=by decide
 have a2:bits .and .u64 9218868437227405312 9223372036854775808=0:=by decide
 have a3:bits .or .u64 4607182418800017408 0=4607182418800017408:=by decide
 have f1:∀ W:World,(callFunc 73 #[.float .f64 4607182418800017408]).run Tryz.prog W=.ok (.value (.int .u64 4607182418800017408)) W:=fun W=>run_bitsof 4607182418800017408 W;have f2:∀ W:World,(callFunc 73 #[.float .f64 9218868437227405312]).run Tryz.prog W=.ok (.value (.int .u64 9218868437227405312)) W:=fun W=>run_bitsof 9218868437227405312 W;have f3:∀ W:World,(callFunc 74 #[.int .u64 4607182418800017408]).run Tryz.prog W=.ok (.value (.float .f64 4607182418800017408)) W:=fun W=>run_frombits 4607182418800017408 W
 go_enter Tryz.func167,Tryz.ntmps167
 go_wp2
 go_ret
 exact⟨rfl,rfl⟩
theorem point_pos(w:World):Rt 100 #[.float .f64 9218868437227405312] (.agg #[.int .i64 (1),.bool false,.slice none 0 0,.int .i64 0]) w:=by
 have HI0:=fun W=>isinff 9218868437227405312 W (by omega) (by decide);rw [decide_eq_true (show rungOf 9218868437227405312=M by decide)] at HI0;have HI:=Hd HI0;have HC:=Hd fun W=>copyone_pos W;clear HI0;have hc:∀ W,(convert 26 3 (.float .f64 4607182418800017408)).run Tryz.prog W=.ok (.int .i64 (1)) W:=fun W=>run_convert_float_int W 26 3 .f64 .i64 4607182418800017408 (1) (by rw [Tryz.underlying26];rfl) Tryz.underlying3 (by kernel_rfl);obtain⟨LB0,LR⟩:=bx1 w #[.int .i64 0,.bool false,.slice none 0 0,.int .i64 0] 97;have LR0:=Hd (HasBlk.of (n:=4) LR.out rfl rfl);clear LR
 go_enter Tryz.func100,Tryz.ntmps100
 go_wp2_with fail;refine (HI.out _).mono ?_;rintro e w' ⟨rfl,rfl⟩;clear HI;go_wp2_with fail;refine (HC.out _).mono ?_;rintro e w' ⟨rfl,rfl⟩;clear HC;obtain⟨ha0,hf0,ha1,hf1,ha2,hf2,ha3,hf3⟩:=LR0.out.sf4;obtain⟨hk0,hk1,hk2,hk3⟩:=LR0.out.sc4 (.int .i64 (1)) (.bool false) (.slice none 0 0) (.int .i64 0);have F:=Hd (below_sets (w0:=w) (r:=w.heap.size) (by omega) [.int .i64 (1),.bool false,.slice none 0 0,.int .i64 0] 0 _ LB0.out)
 simp [sets] at hk0 hk1 hk2 hk3
 go_wp2;refine bodyPost_ret (v:=.agg #[.int .i64 (1),.bool false,.slice none 0 0,.int .i64 0]) (by simp [results,Tryz.results100,go_sem,hk0,hk1,hk2,hk3]) rfl ?_
 exact⟨rfl,below_alloc _ _⟩
theorem copyone_neg(w:World):Calls Tryz.prog 167 #[.float .f64 4607182418800017408,.float .f64 18442240474082181120] w fun e w'=>e=.returned (.float .f64 13830554455654793216)/\w=w':=by
 have a1:bits .andNot .u64 4607182418800017408 9223372036854775808=4607182418800017408:=by decide
 have a2:bits .and .u64 18442240474082181120 9223372036854775808=9223372036854775808:=by decide
 have a3:bits .or .u64 4607182418800017408 9223372036854775808=13830554455654793216:=by decide
 have f1:∀ W:World,(callFunc 73 #[.float .f64 4607182418800017408]).run Tryz.prog W=.ok (.value (.int .u64 4607182418800017408)) W:=fun W=>run_bitsof 4607182418800017408 W;have f2:∀ W:World,(callFunc 73 #[.float .f64 18442240474082181120]).run Tryz.prog W=.ok (.value (.int .u64 18442240474082181120)) W:=fun W=>run_bitsof 18442240474082181120 W;have f3:∀ W:World,(callFunc 74 #[.int .u64 13830554455654793216]).run Tryz.prog W=.ok (.value (.float .f64 13830554455654793216)) W:=fun W=>run_frombits 13830554455654793216 W
 go_enter Tryz.func167,Tryz.ntmps167
 go_wp2
 go_ret
 exact⟨rfl,rfl⟩
theorem point_neg(w:World):Rt 100 #[.float .f64 18442240474082181120] (.agg #[.int .i64 (-1),.bool false,.slice none 0 0,.int .i64 0]) w:=by
 have HI0:=fun W=>isinff 18442240474082181120 W (by omega) (by decide);rw [decide_eq_true (show rungOf 18442240474082181120=M by decide)] at HI0;have HI:=Hd HI0;have HC:=Hd fun W=>copyone_neg W;clear HI0;have hc:∀ W,(convert 26 3 (.float .f64 13830554455654793216)).run Tryz.prog W=.ok (.int .i64 (-1)) W:=fun W=>run_convert_float_int W 26 3 .f64 .i64 13830554455654793216 (-1) (by rw [Tryz.underlying26];rfl) Tryz.underlying3 (by kernel_rfl);obtain⟨LB0,LR⟩:=bx1 w #[.int .i64 0,.bool false,.slice none 0 0,.int .i64 0] 97;have LR0:=Hd (HasBlk.of (n:=4) LR.out rfl rfl);clear LR
 go_enter Tryz.func100,Tryz.ntmps100
 go_wp2_with fail;refine (HI.out _).mono ?_;rintro e w' ⟨rfl,rfl⟩;clear HI;go_wp2_with fail;refine (HC.out _).mono ?_;rintro e w' ⟨rfl,rfl⟩;clear HC;obtain⟨ha0,hf0,ha1,hf1,ha2,hf2,ha3,hf3⟩:=LR0.out.sf4;obtain⟨hk0,hk1,hk2,hk3⟩:=LR0.out.sc4 (.int .i64 (-1)) (.bool false) (.slice none 0 0) (.int .i64 0);have F:=Hd (below_sets (w0:=w) (r:=w.heap.size) (by omega) [.int .i64 (-1),.bool false,.slice none 0 0,.int .i64 0] 0 _ LB0.out)
 simp [sets] at hk0 hk1 hk2 hk3
 go_wp2;refine bodyPost_ret (v:=.agg #[.int .i64 (-1),.bool false,.slice none 0 0,.int .i64 0]) (by simp [results,Tryz.results100,go_sem,hk0,hk1,hk2,hk3]) rfl ?_
 exact⟨rfl,below_alloc _ _⟩
def NewExI(w:World)(s:Int)(x:Rat)(e:Ending)(w':World):Prop:=
 ∃ (g:Bool) (A:Option Addr) (n c:Nat) (E:Int),e=.returned (.agg #[.int .i64 s,.bool g,.slice A n c,.int .i64 E])/\ExI w' s g A n c E x/\Below w.heap.size w w'
theorem NewEx.toI{w w':World}{x:Rat}{e:Ending}(h:NewEx w x e w'):NewExI w 0 x e w':=by
 obtain⟨g,A,n,c,S,E,rfl,hu,hb,h1,h2,h3,h4⟩:=h
 exact⟨g,A,n,c,E,rfl,⟨.inl rfl,fun _=>⟨S,hu,h1,h2,h3,h4⟩⟩,hb⟩
theorem point_gen(i:Int)(w:World)(h:-(M:Int)<=i/\i<=M):Calls Tryz.prog 100 #[.float .f64 (pat i)] w (NewExI w (es i) (ex i)):=by
 have hM:=M_val
 by_cases h1:i=M
 ·subst h1;rw [es_max,pat_max];refine (point_pos w).mono ?_;rintro e w' ⟨rfl,hb⟩
  exact⟨false,none,0,0,0,rfl,⟨.inr (.inl rfl),fun h=>by omega⟩,hb⟩
 ·by_cases h2:i=-(M:Int)
  ·subst h2;rw [es_min,pat_min];refine (point_neg w).mono ?_;rintro e w' ⟨rfl,hb⟩
   exact⟨false,none,0,0,0,rfl,⟨.inr (.inr rfl),fun h=>by omega⟩,hb⟩
  ·rw [es_mid (by omega) (by omega),ex_mid (by omega) (by omega)]
   have hf:fin (pat i):=by show rungOf (pat i)<M;rw [rung_pat h.1 h.2];omega
   obtain⟨neg,S,x,k1,k2,k3,k4,k5⟩:=point_any (pat i) (pat_lt h.1 h.2) hf;rw [idx_pat h.1 h.2] at k4;refine (k5 w).mono ?_;rintro e w' ⟨A,n,c,rfl,hu,hb⟩
   exact⟨neg,A,n,c,x,rfl,⟨.inl rfl,fun _=>⟨S,hu,Nat.le_trans (blen_le_iff.2 (show S<2^53 from k1)) (by omega),k2,k3,k4⟩⟩,hb⟩
theorem less_first(x y:Nat)(s1 s2:Int)(hs:s1≠0)(x1 x2:Rat)(w:World)(H1:∀ w,Calls Tryz.prog 100 #[.float .f64 x] w (NewExI w s1 x1))(H2:∀ w,Calls Tryz.prog 100 #[.float .f64 (Op.negFloat .f64 y)] w (NewExI w s2 x2)):
  Calls Tryz.prog 91 #[.float .f64 x,.float .f64 y] w (NewExI w s1 x1):=by
 have K1:=Hd H1;have K2:=Hd H2
 have hz:(s1 == 0)=false:=by simpa using hs
 have hz2:(s1 != 0)=true:=by simp [hs]
 have HSN:=Hd hs;clear H1 H2 hs;obtain⟨LB0,LR⟩:=bx1 w #[.int .i64 0,.bool false,.slice none 0 0,.int .i64 0] 97;have LR0:=Hd (HasBlk.of (n:=4) LR.out rfl rfl);clear LR
 go_enter Tryz.func91,Tryz.ntmps91
 go_wp2_with fail;refine (K1.out _).mono ?_;rintro e w1 ⟨g1,A1,m1,c1,e1,rfl,hu1,hb1⟩;have LB1:=stB LB0 hb1 LB0.out.size;have LR1:=stR LR0 hb1;clear LB0 LR0;have U1:=Hd hu1;clear hu1 hb1 K1;go_wp2_with fail;refine (K2.out _).mono ?_;rintro e w2 ⟨g2,A2,m2,c2,e2,rfl,hu2,hb2⟩;have LB2:=stB LB1 hb2 LB1.out.size;have LR2:=stR LR1 hb2;clear LB1 LR1;have U2:=Hd (U1.out.below hb2);have V2:=Hd hu2;clear hu2 hb2 K2 U1
 go_upto_region 2 with fail
 have hlt:=LR2.out.lt;have LB3:=Hd ((LB2.out.alloc LB2.out.size (.cells #[.int .i64 s1,.bool g1,.slice A1 m1 c1,.int .i64 e1] 97)).alloc (by have:=LB2.out.size;simp;omega) (.cells #[.int .i64 s2,.bool g2,.slice A2 m2 c2,.int .i64 e2] 97));have LR3:=Hd ((LR2.out.alloc (.cells #[.int .i64 s1,.bool g1,.slice A1 m1 c1,.int .i64 e1] 97)).alloc (.cells #[.int .i64 s2,.bool g2,.slice A2 m2 c2,.int .i64 e2] 97));have LG0_3:=Hd ((Blk.new w2 97 #[.int .i64 s1,.bool g1,.slice A1 m1 c1,.int .i64 e1]).alloc (.cells #[.int .i64 s2,.bool g2,.slice A2 m2 c2,.int .i64 e2] 97));have LG1_3:=Hd (Blk.new2 w2 (.cells #[.int .i64 s1,.bool g1,.slice A1 m1 c1,.int .i64 e1] 97) 97 #[.int .i64 s2,.bool g2,.slice A2 m2 c2,.int .i64 e2]);have U3:=Hd (U2.out.keep fun _ h=>(h.alloc (.cells #[.int .i64 s1,.bool g1,.slice A1 m1 c1,.int .i64 e1] 97)).alloc (.cells #[.int .i64 s2,.bool g2,.slice A2 m2 c2,.int .i64 e2] 97));clear LB2 LR2 U2 V2
 obtain⟨W4,hW4⟩:∃ W,(w2.alloc (.cells #[.int .i64 s1,.bool g1,.slice A1 m1 c1,.int .i64 e1] 97)).alloc (.cells #[.int .i64 s2,.bool g2,.slice A2 m2 c2,.int .i64 e2] 97)=W:=⟨_,rfl⟩
 rw [hW4] at LB3 LR3 LG0_3 LG1_3 U3 ⊢;clear hW4
 obtain⟨h,hg⟩:∃ g,w2.heap.size=g:=⟨_,rfl⟩
 rw [hg] at LG0_3 LG1_3 hlt ⊢;clear hg;have q0_0:=LG0_3.out.ce 0 rfl;have q0_1:=LG0_3.out.ce 1 rfl;have q0_2:=LG0_3.out.ce 2 rfl;have q0_3:=LG0_3.out.ce 3 rfl;have q1_0:=LG1_3.out.ce 0 rfl;have q1_1:=LG1_3.out.ce 1 rfl;have q1_2:=LG1_3.out.ce 2 rfl;have q1_3:=LG1_3.out.ce 3 rfl;have U4:=Hd (ExI.keep U3.out fun _ hu=>LR3.out.u32s hu [.int .i64 s1,.bool g1,.slice A1 m1 c1,.int .i64 e1]);obtain⟨ha0,hf0,ha1,hf1,ha2,hf2,ha3,hf3⟩:=LR3.out.sf4;obtain⟨hk0,hk1,hk2,hk3⟩:=LR3.out.sc4 (.int .i64 s1) (.bool g1) (.slice A1 m1 c1) (.int .i64 e1);have F:=Hd (below_sets (w0:=w) (r:=w.heap.size) (by omega) [.int .i64 s1,.bool g1,.slice A1 m1 c1,.int .i64 e1] 0 _ LB3.out)
 simp [sets] at hk0 hk1 hk2 hk3
 go_wp2;refine bodyPost_ret (v:=.agg #[.int .i64 s1,.bool g1,.slice A1 m1 c1,.int .i64 e1]) (by simp [results,Tryz.results91,go_sem,hk0,hk1,hk2,hk3]) rfl ?_
 exact⟨_,_,_,_,_,rfl,U4.out,F.out⟩
theorem less_second(x y:Nat)(s2:Int)(hs:s2≠0)(x1 x2:Rat)(w:World)(H1:∀ w,Calls Tryz.prog 100 #[.float .f64 x] w (NewExI w 0 x1))(H2:∀ w,Calls Tryz.prog 100 #[.float .f64 (Op.negFloat .f64 y)] w (NewExI w s2 x2)):
  Calls Tryz.prog 91 #[.float .f64 x,.float .f64 y] w (NewExI w s2 x2):=by
 have K1:=Hd H1;have K2:=Hd H2
 have hz:(s2 == 0)=false:=by simpa using hs
 have hz2:(s2 != 0)=true:=by simp [hs]
 have HSN:=Hd hs;clear H1 H2 hs;obtain⟨LB0,LR⟩:=bx1 w #[.int .i64 0,.bool false,.slice none 0 0,.int .i64 0] 97;have LR0:=Hd (HasBlk.of (n:=4) LR.out rfl rfl);clear LR
 go_enter Tryz.func91,Tryz.ntmps91
 go_wp2_with fail;refine (K1.out _).mono ?_;rintro e w1 ⟨g1,A1,m1,c1,e1,rfl,hu1,hb1⟩;have LB1:=stB LB0 hb1 LB0.out.size;have LR1:=stR LR0 hb1;clear LB0 LR0;have U1:=Hd hu1;clear hu1 hb1 K1;go_wp2_with fail;refine (K2.out _).mono ?_;rintro e w2 ⟨g2,A2,m2,c2,e2,rfl,hu2,hb2⟩;have LB2:=stB LB1 hb2 LB1.out.size;have LR2:=stR LR1 hb2;clear LB1 LR1;have U2:=Hd (U1.out.below hb2);have V2:=Hd hu2;clear hu2 hb2 K2 U1
 go_upto_region 2 with fail
 have hlt:=LR2.out.lt;have LB3:=Hd ((LB2.out.alloc LB2.out.size (.cells #[.int .i64 0,.bool g1,.slice A1 m1 c1,.int .i64 e1] 97)).alloc (by have:=LB2.out.size;simp;omega) (.cells #[.int .i64 s2,.bool g2,.slice A2 m2 c2,.int .i64 e2] 97));have LR3:=Hd ((LR2.out.alloc (.cells #[.int .i64 0,.bool g1,.slice A1 m1 c1,.int .i64 e1] 97)).alloc (.cells #[.int .i64 s2,.bool g2,.slice A2 m2 c2,.int .i64 e2] 97));have LG0_3:=Hd ((Blk.new w2 97 #[.int .i64 0,.bool g1,.slice A1 m1 c1,.int .i64 e1]).alloc (.cells #[.int .i64 s2,.bool g2,.slice A2 m2 c2,.int .i64 e2] 97));have LG1_3:=Hd (Blk.new2 w2 (.cells #[.int .i64 0,.bool g1,.slice A1 m1 c1,.int .i64 e1] 97) 97 #[.int .i64 s2,.bool g2,.slice A2 m2 c2,.int .i64 e2]);have U3:=Hd (V2.out.keep fun _ h=>(h.alloc (.cells #[.int .i64 0,.bool g1,.slice A1 m1 c1,.int .i64 e1] 97)).alloc (.cells #[.int .i64 s2,.bool g2,.slice A2 m2 c2,.int .i64 e2] 97));clear LB2 LR2 U2 V2
 obtain⟨W4,hW4⟩:∃ W,(w2.alloc (.cells #[.int .i64 0,.bool g1,.slice A1 m1 c1,.int .i64 e1] 97)).alloc (.cells #[.int .i64 s2,.bool g2,.slice A2 m2 c2,.int .i64 e2] 97)=W:=⟨_,rfl⟩
 rw [hW4] at LB3 LR3 LG0_3 LG1_3 U3 ⊢;clear hW4
 obtain⟨h,hg⟩:∃ g,w2.heap.size=g:=⟨_,rfl⟩
 rw [hg] at LG0_3 LG1_3 hlt ⊢;clear hg;have q0_0:=LG0_3.out.ce 0 rfl;have q0_1:=LG0_3.out.ce 1 rfl;have q0_2:=LG0_3.out.ce 2 rfl;have q0_3:=LG0_3.out.ce 3 rfl;have q1_0:=LG1_3.out.ce 0 rfl;have q1_1:=LG1_3.out.ce 1 rfl;have q1_2:=LG1_3.out.ce 2 rfl;have q1_3:=LG1_3.out.ce 3 rfl;have U4:=Hd (ExI.keep U3.out fun _ hu=>LR3.out.u32s hu [.int .i64 s2,.bool g2,.slice A2 m2 c2,.int .i64 e2]);obtain⟨ha0,hf0,ha1,hf1,ha2,hf2,ha3,hf3⟩:=LR3.out.sf4;obtain⟨hk0,hk1,hk2,hk3⟩:=LR3.out.sc4 (.int .i64 s2) (.bool g2) (.slice A2 m2 c2) (.int .i64 e2);have F:=Hd (below_sets (w0:=w) (r:=w.heap.size) (by omega) [.int .i64 s2,.bool g2,.slice A2 m2 c2,.int .i64 e2] 0 _ LB3.out)
 simp [sets] at hk0 hk1 hk2 hk3
 go_wp2;refine bodyPost_ret (v:=.agg #[.int .i64 s2,.bool g2,.slice A2 m2 c2,.int .i64 e2]) (by simp [results,Tryz.results91,go_sem,hk0,hk1,hk2,hk3]) rfl ?_
 exact⟨_,_,_,_,_,rfl,U4.out,F.out⟩
theorem less_gen(i j:Int)(w:World)(hi:-(M:Int)<=i/\i<=M)(hj:-(M:Int)<=j/\j<=M):
  Calls Tryz.prog 91 #[.float .f64 (pat i),.float .f64 (pat j)] w (NewExI w (es2 (es i) (es (-j))) (ex2 (es i) (ex i) (es (-j)) (ex (-j)))):=by
 have hM:=M_val;have nf:=negFloat_val (pat_lt hj.1 hj.2);rw [idx_pat hj.1 hj.2] at nf
 have hneg:∀ w,Calls Tryz.prog 100 #[.float .f64 (Op.negFloat .f64 (pat j))] w (NewExI w (es (-j)) (ex (-j))):=by
  intro w
  by_cases h0:j=0
  ·subst h0;obtain⟨neg,S,x,k1,k2,k3,k4,k5⟩:=point_any (Op.negFloat .f64 (pat 0)) nf.1 (by show rungOf _<M;rw [nf.2.1];decide);rw [nf.2.2] at k4;rw [show es (-0)=0 from es_mid (by omega) (by omega),show ex (-0)=fl (-0) from ex_mid (by omega) (by omega)];refine (k5 w).mono ?_;rintro e w' ⟨A,n,c,rfl,hu,hb⟩
   exact⟨neg,A,n,c,x,rfl,⟨.inl rfl,fun _=>⟨S,hu,Nat.le_trans (blen_le_iff.2 (show S<2^53 from k1)) (by omega),k2,k3,k4⟩⟩,hb⟩
  ·rw [neg_pat hj.1 hj.2 h0]
   exact point_gen (-j) w (by omega)
 by_cases h1:es i=0
 ·by_cases h2:es (-j)=0
  ·rw [h1,h2];have a1:=es_zero h1;have a2:=es_zero h2
   have hfi:fin (pat i):=by show rungOf (pat i)<M;rw [rung_pat hi.1 hi.2];omega
   have hfj:fin (pat j):=by show rungOf (pat j)<M;rw [rung_pat hj.1 hj.2];omega
   have h:=rless_any (pat i) (pat j) w (pat_lt hi.1 hi.2) (pat_lt hj.1 hj.2) hfi hfj;rw [idx_pat hi.1 hi.2,idx_pat hj.1 hj.2] at h
   have e1:ex2 0 (ex i) 0 (ex (-j))=fl i - fl j:=by
    unfold ex2;rw [if_neg (by omega),if_neg (by omega),ex_zero h1,ex_zero h2,fl_neg];grind
   rw [e1,show es2 0 0=0 from rfl]
   exact h.mono fun e w' h=>h.toI
  ·have h:=less_second (pat i) (pat j) (es (-j)) h2 (ex i) (ex (-j)) w (fun w=>by have h:=point_gen i w hi;rwa [h1] at h) hneg;rw [h1];unfold es2 ex2;rw [if_neg (by omega),if_neg (by omega),if_pos h2]
   exact h
 ·have h:=less_first (pat i) (pat j) (es i) (es (-j)) h1 (ex i) (ex (-j)) w (fun w=>point_gen i w hi) hneg;unfold es2 ex2;rw [if_pos h1,if_pos h1]
  exact h
end
end Go.Proofs.YthlmlmfebpjgdaaGreatDoor
