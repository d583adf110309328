/-
Lemmas for the statement: LessT Es2P PtInfT FmaT MuT Pv0T ClP Dek.
-/
import Derived.Test.YthlmlmfebpjgdaaGreatDoorM01
import Derived.Test.YthlmlmfebpjgdaaGreatDoorM05
import Derived.Test.YthlmlmfebpjgdaaGreatDoorM03
import Derived.Test.YthlmlmfebpjgdaaGreatDoorM07
import Derived.Laws.FloatArith
import Derived.Test.YthlmlmfebpjgdaaGreatDoorM08
import Derived.Test.YthlmlmfebpjgdaaGreatDoorM02
import Derived.Test.YthlmlmfebpjgdaaGreatDoorM04
set_option linter.unusedSimpArgs false
set_option linter.unusedVariables false
set_option maxHeartbeats 12800000
namespace Go.Proofs.YthlmlmfebpjgdaaGreatDoor
section
open Go.RowKit
attribute [local go_sem] run_store_float run_negf
theorem less_same(x y:Nat)(n1 n2:Bool)(S1 S2:Nat)(e1 e2 E:Int)(P Q:Nat)(w:World)(H1:∀ w,Calls Tryz.prog 100 #[.float .f64 x] w (NewExP w n1 S1 e1))(H2:∀ w,Calls Tryz.prog 100 #[.float .f64 (Op.negFloat .f64 y)] w (NewExP w n2 S2 e2))(HA:∀ A1 m1 c1 A2 m2 c2 W,U32s W A1 m1 c1 (digs S1)->U32s W A2 m2 c2 (digs S2)->Calls Tryz.prog 141 #[.agg #[.int .i64 0,.bool n1,.slice A1 m1 c1,.int .i64 e1],.agg #[.int .i64 0,.bool n2,.slice A2 m2 c2,.int .i64 e2]] W (NewAl W P Q E))(hP:blen P<=4000)(hQ:blen Q<=4000)(hn:(n1 == n2)=true):
  Calls Tryz.prog 91 (Zv x y) w (NewExP w n1 (P+Q) E):=by
 have wP:wlen (digs P)<=16383:=wlen_digs_le (K:=16383) (by omega);have wQ:wlen (digs Q)<=16383:=wlen_digs_le (K:=16383) (by omega);have K1:=Hd H1;have K2:=Hd H2;have KA:=Hd HA
 have KS:=Hd fun W A m c B n d (h1:U32s W A m c (digs P)) (h2:U32s W B n d (digs Q))=>(by
  have h:=nadd_any A B m c n d (digs P) (digs Q) W h1 h2 wP wQ
  rw [num_digs,num_digs] at h;exact h:Calls Tryz.prog 159 #[.slice A m c,.slice B n d] W (NewU32E W (digs (P+Q))))
 obtain⟨V,hV⟩:∃ z,P+Q=z:=⟨_,rfl⟩
 rw [hV] at KS ⊢;clear H1 H2 HA hP hQ wP wQ hV;obtain⟨LB0,LR⟩:=bx1 w #[.int .i64 0,.bool false,.slice none 0 0,.int .i64 0] 97;have LR0:=Hd (HasBlk.of (n:=4) LR.out rfl rfl);clear LR
 go_enter Tryz.func91,Tryz.ntmps91
 go_wp2_with fail;refine (K1.out _).mono ?_;rintro e w1 ⟨A1,m1,c1,rfl,hu1,hb1⟩;have LB1:=stB LB0 hb1 LB0.out.size;have LR1:=stR LR0 hb1;clear LB0 LR0;have U1:=Hd hu1;clear hu1 hb1 K1;go_wp2_with fail;refine (K2.out _).mono ?_;rintro e w2 ⟨A2,m2,c2,rfl,hu2,hb2⟩;have LB2:=stB LB1 hb2 LB1.out.size;have LR2:=stR LR1 hb2;clear LB1 LR1;have U2:=Hd (U1.out.below hb2);have V2:=Hd hu2;clear hu2 hb2 K2 U1
 go_upto_region 2 with fail
 have hlt3:=LR2.out.lt;have LB3:=Hd (LB2.out.alloc LB2.out.size (.cells #[.int .i64 0,.bool n1,.slice A1 m1 c1,.int .i64 e1] 97));have LR3:=Hd (LR2.out.alloc (.cells #[.int .i64 0,.bool n1,.slice A1 m1 c1,.int .i64 e1] 97));have LG0_3:=Hd (Blk.new w2 97 #[.int .i64 0,.bool n1,.slice A1 m1 c1,.int .i64 e1]);clear LB2 LR2;have U3:=Hd (U2.out.alloc (.cells #[.int .i64 0,.bool n1,.slice A1 m1 c1,.int .i64 e1] 97));have V3:=Hd (V2.out.alloc (.cells #[.int .i64 0,.bool n1,.slice A1 m1 c1,.int .i64 e1] 97));clear U2 V2;have LB4:=Hd (LB3.out.alloc LB3.out.size (.cells #[.int .i64 0,.bool n2,.slice A2 m2 c2,.int .i64 e2] 97));have LR4:=Hd (LR3.out.alloc (.cells #[.int .i64 0,.bool n2,.slice A2 m2 c2,.int .i64 e2] 97));have LG0_4:=Hd (LG0_3.out.alloc (.cells #[.int .i64 0,.bool n2,.slice A2 m2 c2,.int .i64 e2] 97));have LG1_4:=Hd (Blk.new2 w2 (.cells #[.int .i64 0,.bool n1,.slice A1 m1 c1,.int .i64 e1] 97) 97 #[.int .i64 0,.bool n2,.slice A2 m2 c2,.int .i64 e2]);have U4:=Hd (U3.out.alloc (.cells #[.int .i64 0,.bool n2,.slice A2 m2 c2,.int .i64 e2] 97));have V4:=Hd (V3.out.alloc (.cells #[.int .i64 0,.bool n2,.slice A2 m2 c2,.int .i64 e2] 97));clear LB3 LR3 LG0_3 U3 V3
 obtain⟨W4,hW4⟩:∃ W,(w2.alloc (.cells #[.int .i64 0,.bool n1,.slice A1 m1 c1,.int .i64 e1] 97)).alloc (.cells #[.int .i64 0,.bool n2,.slice A2 m2 c2,.int .i64 e2] 97)=W:=⟨_,rfl⟩
 rw [hW4] at LB4 LR4 LG0_4 LG1_4 U4 V4 ⊢;clear hW4
 obtain⟨g,hg⟩:∃ g,w2.heap.size=g:=⟨_,rfl⟩
 rw [hg] at LG0_4 LG1_4 hlt3 ⊢;clear hg;obtain⟨q0_0,q0_1,q0_2,q0_3⟩:=LG0_4.out.c4;have q1_0:=LG1_4.out.ce 0 rfl;have q1_1:=LG1_4.out.ce 1 rfl;have q1_2:=LG1_4.out.ce 2 rfl;have q1_3:=LG1_4.out.ce 3 rfl;go_wp2_with fail;refine (KA.out _ _ _ _ _ _ _ U4.out V4.out).mono ?_;rintro e w5 ⟨B1,p1,d1,B2,p2,d2,rfl,hp,hq,hb5⟩;have LB5:=stB LB4 hb5 LB4.out.size;have LR5:=stR LR4 hb5;have LG0_5:=stG LG0_4 hb5;have LG1_5:=stG LG1_4 hb5;clear LB4 LR4 LG0_4 LG1_4;have HP5:=Hd hp;have HQ5:=Hd hq;clear hp hq hb5 KA U4 V4 q0_0 q0_1 q0_2 q0_3 q1_0 q1_1 q1_2 q1_3;obtain⟨q0_0,q0_1,q0_2,q0_3⟩:=LG0_5.out.c4;have q1_0:=LG1_5.out.ce 0 rfl;have q1_1:=LG1_5.out.ce 1 rfl;have q1_2:=LG1_5.out.ce 2 rfl;have q1_3:=LG1_5.out.ce 3 rfl;go_wp2_with fail;refine (KS.out _ _ _ _ _ _ _ HP5.out HQ5.out).mono ?_;rintro e w6 ⟨B3,p3,d3,rfl,hu,hb6⟩;have LB6:=stB LB5 hb6 LB5.out.size;have LR6:=stR LR5 hb6;have LG0_6:=stG LG0_5 hb6;have LG1_6:=stG LG1_5 hb6;clear LB5 LR5 LG0_5 LG1_5;have FU:=Hd (LR6.out.u32s hu [.int .i64 0,.bool n1,.slice B3 p3 d3,.int .i64 E]);clear hu hb6 hn HP5 HQ5 KS q0_0 q0_1 q0_2 q0_3 q1_0 q1_1 q1_2 q1_3;obtain⟨q0_0,q0_1,q0_2,q0_3⟩:=LG0_6.out.c4;obtain⟨ha0,hf0,ha1,hf1,ha2,hf2,ha3,hf3⟩:=LR6.out.sf4;obtain⟨hk0,hk1,hk2,hk3⟩:=LR6.out.sc4 (.int .i64 0) (.bool n1) (.slice B3 p3 d3) (.int .i64 E);have F:=Hd (below_sets (w0:=w) (r:=w.heap.size) (by omega) [.int .i64 0,.bool n1,.slice B3 p3 d3,.int .i64 E] 0 _ LB6.out)
 simp [sets] at hk0 hk1 hk2 hk3
 go_wp2;refine bodyPost_ret (v:=.agg #[.int .i64 0,.bool n1,.slice B3 p3 d3,.int .i64 E]) (by simp [results,Tryz.results91,go_sem,hk0,hk1,hk2,hk3]) rfl ?_
 exact⟨_,_,_,rfl,FU.out,F.out⟩
theorem less_ge(x y:Nat)(n1 n2:Bool)(S1 S2:Nat)(e1 e2 E:Int)(P Q:Nat)(w:World)(H1:∀ w,Calls Tryz.prog 100 #[.float .f64 x] w (NewExP w n1 S1 e1))(H2:∀ w,Calls Tryz.prog 100 #[.float .f64 (Op.negFloat .f64 y)] w (NewExP w n2 S2 e2))(HA:∀ A1 m1 c1 A2 m2 c2 W,U32s W A1 m1 c1 (digs S1)->U32s W A2 m2 c2 (digs S2)->Calls Tryz.prog 141 #[.agg #[.int .i64 0,.bool n1,.slice A1 m1 c1,.int .i64 e1],.agg #[.int .i64 0,.bool n2,.slice A2 m2 c2,.int .i64 e2]] W (NewAl W P Q E))(hP:blen P<=4000)(hQ:blen Q<=4000)(hn:(n1 == n2)=false)(hle:Q<=P):
  Calls Tryz.prog 91 (Zv x y) w (fun e w'=>∃ g:Bool,(P - Q=0\/g=n1)/\NewExP w g (P - Q) E e w'):=by
 have wP:wlen (digs P)<=16383:=wlen_digs_le (K:=16383) (by omega);have wQ:wlen (digs Q)<=16383:=wlen_digs_le (K:=16383) (by omega);have K1:=Hd H1;have K2:=Hd H2;have KA:=Hd HA
 have KS:=Hd fun W A m c B n d (h1:U32s W A m c (digs P)) (h2:U32s W B n d (digs Q))=>(by
  have h:=nsub_any A B m c n d (digs P) (digs Q) W h1 h2 (by omega) (by omega) (by rw [num_digs,num_digs];omega)
  rw [num_digs,num_digs] at h;exact h:Calls Tryz.prog 160 #[.slice A m c,.slice B n d] W (NewU32E W (digs (P - Q))))
 have KC:=Hd fun W A m c B n d (h1:U32s W A m c (digs P)) (h2:U32s W B n d (digs Q))=>(by
  have h:=ncmp_any A B m c n d (digs P) (digs Q) W h1 h2;rw [num_digs,num_digs] at h;refine h.mono ?_;rintro e w' ⟨rfl,k,rfl⟩
  exact⟨rfl,below_drewN (Below.refl _ _) k⟩:Rt 142 #[.slice A m c,.slice B n d] (.int .i64 (cmp3 P Q)) W)
 obtain⟨cc,ecc⟩:∃ z,cmp3 P Q=z:=⟨_,rfl⟩
 have hcc:0<=cc:=by rw [<- ecc];exact cmp3_nonneg.2 hle
 rw [ecc] at KC
 obtain⟨V,hV⟩:∃ z,P - Q=z:=⟨_,rfl⟩
 rw [hV] at KS ⊢
 have HG:=Hd fun (m:Nat) (hm:(digs V).length=m)=>(show V=0\/(n1 && decide (0<m))=n1 from by
  by_cases h0:V=0
  ·exact .inl h0
  ·right
   have:=digs_len_pos (by omega) hm
   rw [decide_eq_true this,Bool.and_true])
 clear H1 H2 HA hP hQ wP wQ hV hle ecc;obtain⟨LB0,LR⟩:=bx1 w #[.int .i64 0,.bool false,.slice none 0 0,.int .i64 0] 97;have LR0:=Hd (HasBlk.of (n:=4) LR.out rfl rfl);clear LR
 go_enter Tryz.func91,Tryz.ntmps91
 go_wp2_with fail;refine (K1.out _).mono ?_;rintro e w1 ⟨A1,m1,c1,rfl,hu1,hb1⟩;have LB1:=stB LB0 hb1 LB0.out.size;have LR1:=stR LR0 hb1;clear LB0 LR0;have U1:=Hd hu1;clear hu1 hb1 K1;go_wp2_with fail;refine (K2.out _).mono ?_;rintro e w2 ⟨A2,m2,c2,rfl,hu2,hb2⟩;have LB2:=stB LB1 hb2 LB1.out.size;have LR2:=stR LR1 hb2;clear LB1 LR1;have U2:=Hd (U1.out.below hb2);have V2:=Hd hu2;clear hu2 hb2 K2 U1
 go_upto_region 2 with fail
 have hlt3:=LR2.out.lt;have LB3:=Hd (LB2.out.alloc LB2.out.size (.cells #[.int .i64 0,.bool n1,.slice A1 m1 c1,.int .i64 e1] 97));have LR3:=Hd (LR2.out.alloc (.cells #[.int .i64 0,.bool n1,.slice A1 m1 c1,.int .i64 e1] 97));have LG0_3:=Hd (Blk.new w2 97 #[.int .i64 0,.bool n1,.slice A1 m1 c1,.int .i64 e1]);clear LB2 LR2;have U3:=Hd (U2.out.alloc (.cells #[.int .i64 0,.bool n1,.slice A1 m1 c1,.int .i64 e1] 97));have V3:=Hd (V2.out.alloc (.cells #[.int .i64 0,.bool n1,.slice A1 m1 c1,.int .i64 e1] 97));clear U2 V2;have LB4:=Hd (LB3.out.alloc LB3.out.size (.cells #[.int .i64 0,.bool n2,.slice A2 m2 c2,.int .i64 e2] 97));have LR4:=Hd (LR3.out.alloc (.cells #[.int .i64 0,.bool n2,.slice A2 m2 c2,.int .i64 e2] 97));have LG0_4:=Hd (LG0_3.out.alloc (.cells #[.int .i64 0,.bool n2,.slice A2 m2 c2,.int .i64 e2] 97));have LG1_4:=Hd (Blk.new2 w2 (.cells #[.int .i64 0,.bool n1,.slice A1 m1 c1,.int .i64 e1] 97) 97 #[.int .i64 0,.bool n2,.slice A2 m2 c2,.int .i64 e2]);have U4:=Hd (U3.out.alloc (.cells #[.int .i64 0,.bool n2,.slice A2 m2 c2,.int .i64 e2] 97));have V4:=Hd (V3.out.alloc (.cells #[.int .i64 0,.bool n2,.slice A2 m2 c2,.int .i64 e2] 97));clear LB3 LR3 LG0_3 U3 V3
 obtain⟨W4,hW4⟩:∃ W,(w2.alloc (.cells #[.int .i64 0,.bool n1,.slice A1 m1 c1,.int .i64 e1] 97)).alloc (.cells #[.int .i64 0,.bool n2,.slice A2 m2 c2,.int .i64 e2] 97)=W:=⟨_,rfl⟩
 rw [hW4] at LB4 LR4 LG0_4 LG1_4 U4 V4 ⊢;clear hW4
 obtain⟨g,hg⟩:∃ g,w2.heap.size=g:=⟨_,rfl⟩
 rw [hg] at LG0_4 LG1_4 hlt3 ⊢;clear hg;obtain⟨q0_0,q0_1,q0_2,q0_3⟩:=LG0_4.out.c4;have q1_0:=LG1_4.out.ce 0 rfl;have q1_1:=LG1_4.out.ce 1 rfl;have q1_2:=LG1_4.out.ce 2 rfl;have q1_3:=LG1_4.out.ce 3 rfl;go_wp2_with fail;refine (KA.out _ _ _ _ _ _ _ U4.out V4.out).mono ?_;rintro e w5 ⟨B1,p1,d1,B2,p2,d2,rfl,hp,hq,hb5⟩;have LB5:=stB LB4 hb5 LB4.out.size;have LR5:=stR LR4 hb5;have LG0_5:=stG LG0_4 hb5;have LG1_5:=stG LG1_4 hb5;clear LB4 LR4 LG0_4 LG1_4;have HP5:=Hd hp;have HQ5:=Hd hq;clear hp hq hb5 KA U4 V4 q0_0 q0_1 q0_2 q0_3 q1_0 q1_1 q1_2 q1_3;obtain⟨q0_0,q0_1,q0_2,q0_3⟩:=LG0_5.out.c4;have q1_0:=LG1_5.out.ce 0 rfl;have q1_1:=LG1_5.out.ce 1 rfl;have q1_2:=LG1_5.out.ce 2 rfl;have q1_3:=LG1_5.out.ce 3 rfl;go_wp2_with fail;refine cx (KC.out _ _ _ _ _ _ _ HP5.out HQ5.out) fun w6 hb6=>?_;have LB6:=stB LB5 hb6 LB5.out.size;have LR6:=stR LR5 hb6;have LG0_6:=stG LG0_5 hb6;have LG1_6:=stG LG1_5 hb6;clear LB5 LR5 LG0_5 LG1_5;have HP6:=Hd (HP5.out.below hb6);have HQ6:=Hd (HQ5.out.below hb6);clear hb6 hn HP5 HQ5 KC q0_0 q0_1 q0_2 q0_3 q1_0 q1_1 q1_2 q1_3;go_wp2_with fail;refine (KS.out _ _ _ _ _ _ _ HP6.out HQ6.out).mono ?_;rintro e w7 ⟨B3,p3,d3,rfl,hu,hb7⟩;have LB7:=stB LB6 hb7 LB6.out.size;have LR7:=stR LR6 hb7;have LG0_7:=stG LG0_6 hb7;have LG1_7:=stG LG1_6 hb7;clear LB6 LR6 LG0_6 LG1_6;have HGG:=Hd (HG.out p3 hu.len);have HU7:=Hd hu;clear hu hb7 HP6 HQ6 KS hcc HG
 cases n1
 ·have FU:=Hd (LR7.out.u32s HU7.out [.int .i64 0,.bool false,.slice B3 p3 d3,.int .i64 E]);clear HU7;obtain⟨q0_0,q0_1,q0_2,q0_3⟩:=LG0_7.out.c4;obtain⟨ha0,hf0,ha1,hf1,ha2,hf2,ha3,hf3⟩:=LR7.out.sf4;obtain⟨hk0,hk1,hk2,hk3⟩:=LR7.out.sc4 (.int .i64 0) (.bool false) (.slice B3 p3 d3) (.int .i64 E);have F:=Hd (below_sets (w0:=w) (r:=w.heap.size) (by omega) [.int .i64 0,.bool false,.slice B3 p3 d3,.int .i64 E] 0 _ LB7.out)
  simp [sets] at hk0 hk1 hk2 hk3
  go_wp2;refine bodyPost_ret (v:=.agg #[.int .i64 0,.bool false,.slice B3 p3 d3,.int .i64 E]) (by simp [results,Tryz.results91,go_sem,hk0,hk1,hk2,hk3]) rfl ?_
  exact⟨_,HGG.out,_,_,_,rfl,FU.out,F.out⟩
 ·have FU:=Hd (LR7.out.u32s HU7.out [.int .i64 0,.bool (decide (0<p3)),.slice B3 p3 d3,.int .i64 E]);clear HU7;obtain⟨q0_0,q0_1,q0_2,q0_3⟩:=LG0_7.out.c4;obtain⟨ha0,hf0,ha1,hf1,ha2,hf2,ha3,hf3⟩:=LR7.out.sf4;obtain⟨hk0,hk1,hk2,hk3⟩:=LR7.out.sc4 (.int .i64 0) (.bool (decide (0<p3))) (.slice B3 p3 d3) (.int .i64 E);have F:=Hd (below_sets (w0:=w) (r:=w.heap.size) (by omega) [.int .i64 0,.bool (decide (0<p3)),.slice B3 p3 d3,.int .i64 E] 0 _ LB7.out)
  simp [sets] at hk0 hk1 hk2 hk3
  go_wp2;refine bodyPost_ret (v:=.agg #[.int .i64 0,.bool (decide (0<p3)),.slice B3 p3 d3,.int .i64 E]) (by simp [results,Tryz.results91,go_sem,hk0,hk1,hk2,hk3]) rfl ?_
  exact⟨_,HGG.out,_,_,_,rfl,FU.out,F.out⟩
theorem less_lt(x y:Nat)(n1 n2:Bool)(S1 S2:Nat)(e1 e2 E:Int)(P Q:Nat)(w:World)(H1:∀ w,Calls Tryz.prog 100 #[.float .f64 x] w (NewExP w n1 S1 e1))(H2:∀ w,Calls Tryz.prog 100 #[.float .f64 (Op.negFloat .f64 y)] w (NewExP w n2 S2 e2))(HA:∀ A1 m1 c1 A2 m2 c2 W,U32s W A1 m1 c1 (digs S1)->U32s W A2 m2 c2 (digs S2)->Calls Tryz.prog 141 #[.agg #[.int .i64 0,.bool n1,.slice A1 m1 c1,.int .i64 e1],.agg #[.int .i64 0,.bool n2,.slice A2 m2 c2,.int .i64 e2]] W (NewAl W P Q E))(hP:blen P<=4000)(hQ:blen Q<=4000)(hn:(n1 == n2)=false)(hle:P<Q):
  Calls Tryz.prog 91 (Zv x y) w (fun e w'=>∃ g:Bool,(Q - P=0\/g=n2)/\NewExP w g (Q - P) E e w'):=by
 have wP:wlen (digs P)<=16383:=wlen_digs_le (K:=16383) (by omega);have wQ:wlen (digs Q)<=16383:=wlen_digs_le (K:=16383) (by omega);have K1:=Hd H1;have K2:=Hd H2;have KA:=Hd HA
 have KS:=Hd fun W A m c B n d (h1:U32s W A m c (digs Q)) (h2:U32s W B n d (digs P))=>(by
  have h:=nsub_any A B m c n d (digs Q) (digs P) W h1 h2 (by omega) (by omega) (by rw [num_digs,num_digs];omega)
  rw [num_digs,num_digs] at h;exact h:Calls Tryz.prog 160 #[.slice A m c,.slice B n d] W (NewU32E W (digs (Q - P))))
 have KC:=Hd fun W A m c B n d (h1:U32s W A m c (digs P)) (h2:U32s W B n d (digs Q))=>(by
  have h:=ncmp_any A B m c n d (digs P) (digs Q) W h1 h2;rw [num_digs,num_digs] at h;refine h.mono ?_;rintro e w' ⟨rfl,k,rfl⟩
  exact⟨rfl,below_drewN (Below.refl _ _) k⟩:Rt 142 #[.slice A m c,.slice B n d] (.int .i64 (cmp3 P Q)) W)
 obtain⟨cc,ecc⟩:∃ z,cmp3 P Q=z:=⟨_,rfl⟩
 have hcc:cc<0:=by rw [<- ecc];exact cmp3_neg.2 hle
 rw [ecc] at KC
 obtain⟨V,hV⟩:∃ z,Q - P=z:=⟨_,rfl⟩
 rw [hV] at KS ⊢
 have HG:=Hd fun (m:Nat) (hm:(digs V).length=m)=>(show V=0\/(n2 && decide (0<m))=n2 from by
  by_cases h0:V=0
  ·exact .inl h0
  ·right
   have:=digs_len_pos (by omega) hm
   rw [decide_eq_true this,Bool.and_true])
 clear H1 H2 HA hP hQ wP wQ hV hle ecc;obtain⟨LB0,LR⟩:=bx1 w #[.int .i64 0,.bool false,.slice none 0 0,.int .i64 0] 97;have LR0:=Hd (HasBlk.of (n:=4) LR.out rfl rfl);clear LR
 go_enter Tryz.func91,Tryz.ntmps91
 go_wp2_with fail;refine (K1.out _).mono ?_;rintro e w1 ⟨A1,m1,c1,rfl,hu1,hb1⟩;have LB1:=stB LB0 hb1 LB0.out.size;have LR1:=stR LR0 hb1;clear LB0 LR0;have U1:=Hd hu1;clear hu1 hb1 K1;go_wp2_with fail;refine (K2.out _).mono ?_;rintro e w2 ⟨A2,m2,c2,rfl,hu2,hb2⟩;have LB2:=stB LB1 hb2 LB1.out.size;have LR2:=stR LR1 hb2;clear LB1 LR1;have U2:=Hd (U1.out.below hb2);have V2:=Hd hu2;clear hu2 hb2 K2 U1
 go_upto_region 2 with fail
 have hlt3:=LR2.out.lt;have LB3:=Hd (LB2.out.alloc LB2.out.size (.cells #[.int .i64 0,.bool n1,.slice A1 m1 c1,.int .i64 e1] 97));have LR3:=Hd (LR2.out.alloc (.cells #[.int .i64 0,.bool n1,.slice A1 m1 c1,.int .i64 e1] 97));have LG0_3:=Hd (Blk.new w2 97 #[.int .i64 0,.bool n1,.slice A1 m1 c1,.int .i64 e1]);clear LB2 LR2;have U3:=Hd (U2.out.alloc (.cells #[.int .i64 0,.bool n1,.slice A1 m1 c1,.int .i64 e1] 97));have V3:=Hd (V2.out.alloc (.cells #[.int .i64 0,.bool n1,.slice A1 m1 c1,.int .i64 e1] 97));clear U2 V2;have LB4:=Hd (LB3.out.alloc LB3.out.size (.cells #[.int .i64 0,.bool n2,.slice A2 m2 c2,.int .i64 e2] 97));have LR4:=Hd (LR3.out.alloc (.cells #[.int .i64 0,.bool n2,.slice A2 m2 c2,.int .i64 e2] 97));have LG0_4:=Hd (LG0_3.out.alloc (.cells #[.int .i64 0,.bool n2,.slice A2 m2 c2,.int .i64 e2] 97));have LG1_4:=Hd (Blk.new2 w2 (.cells #[.int .i64 0,.bool n1,.slice A1 m1 c1,.int .i64 e1] 97) 97 #[.int .i64 0,.bool n2,.slice A2 m2 c2,.int .i64 e2]);have U4:=Hd (U3.out.alloc (.cells #[.int .i64 0,.bool n2,.slice A2 m2 c2,.int .i64 e2] 97));have V4:=Hd (V3.out.alloc (.cells #[.int .i64 0,.bool n2,.slice A2 m2 c2,.int .i64 e2] 97));clear LB3 LR3 LG0_3 U3 V3
 obtain⟨W4,hW4⟩:∃ W,(w2.alloc (.cells #[.int .i64 0,.bool n1,.slice A1 m1 c1,.int .i64 e1] 97)).alloc (.cells #[.int .i64 0,.bool n2,.slice A2 m2 c2,.int .i64 e2] 97)=W:=⟨_,rfl⟩
 rw [hW4] at LB4 LR4 LG0_4 LG1_4 U4 V4 ⊢;clear hW4
 obtain⟨g,hg⟩:∃ g,w2.heap.size=g:=⟨_,rfl⟩
 rw [hg] at LG0_4 LG1_4 hlt3 ⊢;clear hg;obtain⟨q0_0,q0_1,q0_2,q0_3⟩:=LG0_4.out.c4;have q1_0:=LG1_4.out.ce 0 rfl;have q1_1:=LG1_4.out.ce 1 rfl;have q1_2:=LG1_4.out.ce 2 rfl;have q1_3:=LG1_4.out.ce 3 rfl;go_wp2_with fail;refine (KA.out _ _ _ _ _ _ _ U4.out V4.out).mono ?_;rintro e w5 ⟨B1,p1,d1,B2,p2,d2,rfl,hp,hq,hb5⟩;have LB5:=stB LB4 hb5 LB4.out.size;have LR5:=stR LR4 hb5;have LG0_5:=stG LG0_4 hb5;have LG1_5:=stG LG1_4 hb5;clear LB4 LR4 LG0_4 LG1_4;have HP5:=Hd hp;have HQ5:=Hd hq;clear hp hq hb5 KA U4 V4 q0_0 q0_1 q0_2 q0_3 q1_0 q1_1 q1_2 q1_3;obtain⟨q0_0,q0_1,q0_2,q0_3⟩:=LG0_5.out.c4;have q1_0:=LG1_5.out.ce 0 rfl;have q1_1:=LG1_5.out.ce 1 rfl;have q1_2:=LG1_5.out.ce 2 rfl;have q1_3:=LG1_5.out.ce 3 rfl;go_wp2_with fail;refine cx (KC.out _ _ _ _ _ _ _ HP5.out HQ5.out) fun w6 hb6=>?_;have LB6:=stB LB5 hb6 LB5.out.size;have LR6:=stR LR5 hb6;have LG0_6:=stG LG0_5 hb6;have LG1_6:=stG LG1_5 hb6;clear LB5 LR5 LG0_5 LG1_5;have HP6:=Hd (HP5.out.below hb6);have HQ6:=Hd (HQ5.out.below hb6);clear hb6 hn HP5 HQ5 KC q0_0 q0_1 q0_2 q0_3 q1_0 q1_1 q1_2 q1_3;obtain⟨q0_0,q0_1,q0_2,q0_3⟩:=LG0_6.out.c4;have q1_0:=LG1_6.out.ce 0 rfl;have q1_1:=LG1_6.out.ce 1 rfl;have q1_2:=LG1_6.out.ce 2 rfl;have q1_3:=LG1_6.out.ce 3 rfl;have f01:=LG0_6.out.frozen 1;go_wp2_with fail
 go_region
 have HP7:=Hd (HP6.out.carry LG0_6.out rfl 1 (.bool n2));have HQ7:=Hd (HQ6.out.carry LG0_6.out rfl 1 (.bool n2));clear HP6 HQ6;have LB7:=Hd (LB6.out.setCell (p:=⟨g,1,none⟩) (show w.heap.size<=g by omega) (.bool n2));have LR7:=Hd (show HasBlk (w6.setCell ⟨g,1,none⟩ (.bool n2)) w.heap.size 97 4 from LR6.out.other (by omega) 1 [.bool n2]);have LG0_7:=Hd (LG0_6.out.set 1 (.bool n2));have LG1_7:=Hd (show Blk (w6.setCell ⟨g,1,none⟩ (.bool n2)) (g+1) 97 #[.int .i64 0,.bool n2,.slice A2 m2 c2,.int .i64 e2] from LG1_6.out.other (by omega) 1 [.bool n2]);clear LB6 LR6 LG0_6 LG1_6;have LB8:=Hd LB7.out.drew;have LR8:=Hd LR7.out.drew;have LG0_8:=Hd LG0_7.out.drew;have LG1_8:=Hd LG1_7.out.drew;have HP8:=Hd HP7.out.drew;have HQ8:=Hd HQ7.out.drew;clear LB7 LR7 LG0_7 LG1_7 HP7 HQ7 f01 hcc q0_0 q0_1 q0_2 q0_3 q1_0 q1_1 q1_2 q1_3
 obtain⟨W8,hW8⟩:∃ W,(w6.setCell ⟨g,1,none⟩ (.bool n2)).drew=W:=⟨_,rfl⟩
 rw [hW8] at LB8 LR8 LG0_8 LG1_8 HP8 HQ8 ⊢;clear hW8;go_wp2_with fail;refine (KS.out _ _ _ _ _ _ _ HQ8.out HP8.out).mono ?_;rintro e w9 ⟨B3,p3,d3,rfl,hu,hb9⟩;have LB9:=stB LB8 hb9 LB8.out.size;have LR9:=stR LR8 hb9;have LG0_9:=stG LG0_8 hb9;have LG1_9:=stG LG1_8 hb9;clear LB8 LR8 LG0_8 LG1_8;have HGG:=Hd (HG.out p3 hu.len);have HU7:=Hd hu;clear hu hb9 HP8 HQ8 KS HG
 cases n2
 ·have FU:=Hd (LR9.out.u32s HU7.out [.int .i64 0,.bool false,.slice B3 p3 d3,.int .i64 E]);clear HU7;obtain⟨q0_0,q0_1,q0_2,q0_3⟩:=LG0_9.out.c4;obtain⟨ha0,hf0,ha1,hf1,ha2,hf2,ha3,hf3⟩:=LR9.out.sf4;obtain⟨hk0,hk1,hk2,hk3⟩:=LR9.out.sc4 (.int .i64 0) (.bool false) (.slice B3 p3 d3) (.int .i64 E);have F:=Hd (below_sets (w0:=w) (r:=w.heap.size) (by omega) [.int .i64 0,.bool false,.slice B3 p3 d3,.int .i64 E] 0 _ LB9.out)
  simp [sets] at hk0 hk1 hk2 hk3
  go_wp2;refine bodyPost_ret (v:=.agg #[.int .i64 0,.bool false,.slice B3 p3 d3,.int .i64 E]) (by simp [results,Tryz.results91,go_sem,hk0,hk1,hk2,hk3]) rfl ?_
  exact⟨_,HGG.out,_,_,_,rfl,FU.out,F.out⟩
 ·have FU:=Hd (LR9.out.u32s HU7.out [.int .i64 0,.bool (decide (0<p3)),.slice B3 p3 d3,.int .i64 E]);clear HU7;obtain⟨q0_0,q0_1,q0_2,q0_3⟩:=LG0_9.out.c4;obtain⟨ha0,hf0,ha1,hf1,ha2,hf2,ha3,hf3⟩:=LR9.out.sf4;obtain⟨hk0,hk1,hk2,hk3⟩:=LR9.out.sc4 (.int .i64 0) (.bool (decide (0<p3))) (.slice B3 p3 d3) (.int .i64 E);have F:=Hd (below_sets (w0:=w) (r:=w.heap.size) (by omega) [.int .i64 0,.bool (decide (0<p3)),.slice B3 p3 d3,.int .i64 E] 0 _ LB9.out)
  simp [sets] at hk0 hk1 hk2 hk3
  go_wp2;refine bodyPost_ret (v:=.agg #[.int .i64 0,.bool (decide (0<p3)),.slice B3 p3 d3,.int .i64 E]) (by simp [results,Tryz.results91,go_sem,hk0,hk1,hk2,hk3]) rfl ?_
  exact⟨_,HGG.out,_,_,_,rfl,FU.out,F.out⟩
theorem rv_nonneg{n:Bool}{S:Nat}{E:Int}(h:0<=rv n S 1*2^E):rv n S 1*2^E=(S:Rat)*2^E:=by
 have hp:=zpow_pos E;rw [rv_int] at h ⊢
 cases n
 ·simp only [Bool.false_eq_true,if_false]
  rw [Rat.intCast_natCast]
 ·simp only [if_true] at h ⊢
  rw [Rat.intCast_neg,Rat.intCast_natCast] at h ⊢
  have h1:(0:Rat)<=-(S:Rat):=by
   rw [<- mul_le_pos hp];grind
  have h2:S=0:=by
   rcases Nat.eq_zero_or_pos S with h0 | h0
   ·exact h0
   ·have:=cast_pos h0;grind
  subst h2
  simp
theorem rless_any(x y:Nat)(w:World)(hx:x<18446744073709551616)(hy:y<18446744073709551616)(fx:fin x)(fy:fin y):
  Calls Tryz.prog 91 (Zv x y) w (NewEx w (fl (idx x) - fl (idx y))):=by
 have nf:=negFloat_val hy;obtain⟨n1,S1,e1,s1,l1,u1,v1,H1⟩:=point_any x hx fx;obtain⟨n2,S2,e2,s2,l2,u2,v2,H2⟩:=point_any (Op.negFloat .f64 y) nf.1 (by show rungOf _<M;rw [nf.2.1];exact fy);rw [nf.2.2,fl_neg] at v2;have k1:blen S1<=53:=blen_le_iff.2 (show S1<2^53 from s1);have k2:blen S2<=53:=blen_le_iff.2 (show S2<2^53 from s2)
 obtain⟨E,hE⟩:∃ E,min e1 e2=E:=⟨_,rfl⟩
 obtain⟨a,ha⟩:∃ a,(e1 - E).toNat=a:=⟨_,rfl⟩
 obtain⟨b,hb⟩:∃ a,(e2 - E).toNat=a:=⟨_,rfl⟩
 have HA:=fun A1 m1 c1 A2 m2 c2 W (h1:U32s W A1 m1 c1 (digs S1)) (h2:U32s W A2 m2 c2 (digs S2))=>aligned_any n1 A1 m1 c1 S1 e1 n2 A2 m2 c2 S2 e2 E a b W h1 h2 hE (by omega) (by omega) (by omega) (by omega) (by omega) (by omega)
 have sh:∀ (S k:Nat),blen S<=53->k<=2100->blen (S*2^k)<=2200:=by
  intro S k h1 h2
  rcases Nat.eq_zero_or_pos S with h0 | h0
  ·subst h0;rw [Nat.zero_mul];have:blen 0<=53:=h1;omega
  ·rw [blen_shl S k h0];omega
 have p1:=sh S1 a k1 (by omega);have p2:=sh S2 b k2 (by omega)
 have hv:fl (idx x) - fl (idx y)=rv (dsum n1 (S1*2^a) n2 (S2*2^b)).1 (dsum n1 (S1*2^a) n2 (S2*2^b)).2 1*2^E:=by
  rw [dsum_val,v1,Rat.sub_eq_add_neg,v2,<- rv_shift n1 S1 a E e1 (by omega),<- rv_shift n2 S2 b E e2 (by omega)];grind
 have hbl:=dsum_blen n1 (S1*2^a) n2 (S2*2^b) 2200 p1 p2
 obtain⟨P,hP⟩:∃ z,S1*2^a=z:=⟨_,rfl⟩
 obtain⟨Q,hQ⟩:∃ z,S2*2^b=z:=⟨_,rfl⟩
 rw [hP,hQ] at HA hv hbl;rw [hP] at p1;rw [hQ] at p2;unfold dsum at hv hbl
 by_cases hn:n1=n2
 ·rw [if_pos hn] at hv hbl;refine (less_same x y n1 n2 S1 S2 e1 e2 E P Q w H1 H2 HA (by omega) (by omega) (by simpa using hn)).mono ?_;rintro e w' ⟨A,n,c,rfl,hu,hb⟩
  exact⟨_,A,n,c,_,E,rfl,hu,hb,by dsimp only at hbl;omega,by omega,by omega,hv⟩
 ·rw [if_neg hn] at hv hbl
  have hn2:(n1 == n2)=false:=by simpa using hn
  by_cases hlt:P<Q
  ·rw [if_pos hlt] at hv hbl;refine (less_lt x y n1 n2 S1 S2 e1 e2 E P Q w H1 H2 HA (by omega) (by omega) hn2 hlt).mono ?_;rintro e w' ⟨g,hg,A,n,c,rfl,hu,hb⟩;refine⟨_,A,n,c,_,E,rfl,hu,hb,by dsimp only at hbl;omega,by omega,by omega,?_⟩;rw [hv]
   rcases hg with h0 | h0
   ·dsimp only;rw [h0,rv_zero,rv_zero]
   ·rw [h0]
  ·rw [if_neg hlt] at hv hbl;refine (less_ge x y n1 n2 S1 S2 e1 e2 E P Q w H1 H2 HA (by omega) (by omega) hn2 (by omega)).mono ?_;rintro e w' ⟨g,hg,A,n,c,rfl,hu,hb⟩;refine⟨_,A,n,c,_,E,rfl,hu,hb,by dsimp only at hbl;omega,by omega,by omega,?_⟩;rw [hv]
   rcases hg with h0 | h0
   ·dsimp only;rw [h0,rv_zero,rv_zero]
   ·rw [h0]
end
section
open Go.RowKit
def es2(s1 s2:Int):Int:=if s1≠0 then s1 else s2
def ex2(s1:Int)(x1:Rat)(s2:Int)(x2:Rat):Rat:=if s1≠0 then x1 else if s2≠0 then x2 else x1+x2
end
section
open Go.RowKit
attribute [local go_sem] run_store_float run_negf
theorem copyone_pos(w:World):Calls Tryz.prog 167 (Zv 4607182418800017408 9218868437227405312) w fun e w'=>e=.returned (.float .f64 4607182418800017408)/\w=w':=by
 have a1:bits .andNot .u64 4607182418800017408 9223372036854775808=4607182418800017408:=by decide
 have a2:bits .and .u64 9218868437227405312 9223372036854775808=0:=by decide
 have a3:bits .or .u64 4607182418800017408 0=4607182418800017408:=by decide
 have f1:∀ W:World,(callFunc 73 #[.float .f64 4607182418800017408]).run Tryz.prog W=.ok (.value (.int .u64 4607182418800017408)) W:=fun W=>run_bitsof 4607182418800017408 W;have f2:∀ W:World,(callFunc 73 #[.float .f64 9218868437227405312]).run Tryz.prog W=.ok (.value (.int .u64 9218868437227405312)) W:=fun W=>run_bitsof 9218868437227405312 W;have f3:∀ W:World,(callFunc 74 #[.int .u64 4607182418800017408]).run Tryz.prog W=.ok (.value (.float .f64 4607182418800017408)) W:=fun W=>run_frombits 4607182418800017408 W
 go_enter Tryz.func167,Tryz.ntmps167
 go_wp2
 go_ret
 exact⟨rfl,rfl⟩
theorem point_pos(w:World):Rt 100 #[.float .f64 9218868437227405312] (.agg #[.int .i64 (1),.bool false,.slice none 0 0,.int .i64 0]) w:=by
 have HI0:=fun W=>isinff 9218868437227405312 W (by omega) (by decide);rw [decide_eq_true (show rungOf 9218868437227405312=M by decide)] at HI0;have HI:=Hd HI0;have HC:=Hd fun W=>copyone_pos W;clear HI0;have hc:∀ W,(convert 26 3 (.float .f64 4607182418800017408)).run Tryz.prog W=.ok (.int .i64 (1)) W:=fun W=>run_convert_float_int W 26 3 .f64 .i64 4607182418800017408 (1) (by rw [Tryz.underlying26];rfl) Tryz.underlying3 (by kernel_rfl);obtain⟨LB0,LR⟩:=bx1 w #[.int .i64 0,.bool false,.slice none 0 0,.int .i64 0] 97;have LR0:=Hd (HasBlk.of (n:=4) LR.out rfl rfl);clear LR
 go_enter Tryz.func100,Tryz.ntmps100
 go_wp2_with fail;refine cy (HI.out _) ?_;clear HI;go_wp2_with fail;refine cy (HC.out _) ?_;clear HC;obtain⟨ha0,hf0,ha1,hf1,ha2,hf2,ha3,hf3⟩:=LR0.out.sf4;obtain⟨hk0,hk1,hk2,hk3⟩:=LR0.out.sc4 (.int .i64 (1)) (.bool false) (.slice none 0 0) (.int .i64 0);have F:=Hd (below_sets (w0:=w) (r:=w.heap.size) (by omega) [.int .i64 (1),.bool false,.slice none 0 0,.int .i64 0] 0 _ LB0.out)
 simp [sets] at hk0 hk1 hk2 hk3
 go_wp2;refine bodyPost_ret (v:=.agg #[.int .i64 (1),.bool false,.slice none 0 0,.int .i64 0]) (by simp [results,Tryz.results100,go_sem,hk0,hk1,hk2,hk3]) rfl ?_
 exact⟨rfl,below_alloc _ _⟩
theorem copyone_neg(w:World):Calls Tryz.prog 167 (Zv 4607182418800017408 18442240474082181120) w fun e w'=>e=.returned (.float .f64 13830554455654793216)/\w=w':=by
 have a1:bits .andNot .u64 4607182418800017408 9223372036854775808=4607182418800017408:=by decide
 have a2:bits .and .u64 18442240474082181120 9223372036854775808=9223372036854775808:=by decide
 have a3:bits .or .u64 4607182418800017408 9223372036854775808=13830554455654793216:=by decide
 have f1:∀ W:World,(callFunc 73 #[.float .f64 4607182418800017408]).run Tryz.prog W=.ok (.value (.int .u64 4607182418800017408)) W:=fun W=>run_bitsof 4607182418800017408 W;have f2:∀ W:World,(callFunc 73 #[.float .f64 18442240474082181120]).run Tryz.prog W=.ok (.value (.int .u64 18442240474082181120)) W:=fun W=>run_bitsof 18442240474082181120 W;have f3:∀ W:World,(callFunc 74 #[.int .u64 13830554455654793216]).run Tryz.prog W=.ok (.value (.float .f64 13830554455654793216)) W:=fun W=>run_frombits 13830554455654793216 W
 go_enter Tryz.func167,Tryz.ntmps167
 go_wp2
 go_ret
 exact⟨rfl,rfl⟩
theorem point_neg(w:World):Rt 100 #[.float .f64 18442240474082181120] (.agg #[.int .i64 (-1),.bool false,.slice none 0 0,.int .i64 0]) w:=by
 have HI0:=fun W=>isinff 18442240474082181120 W (by omega) (by decide);rw [decide_eq_true (show rungOf 18442240474082181120=M by decide)] at HI0;have HI:=Hd HI0;have HC:=Hd fun W=>copyone_neg W;clear HI0;have hc:∀ W,(convert 26 3 (.float .f64 13830554455654793216)).run Tryz.prog W=.ok (.int .i64 (-1)) W:=fun W=>run_convert_float_int W 26 3 .f64 .i64 13830554455654793216 (-1) (by rw [Tryz.underlying26];rfl) Tryz.underlying3 (by kernel_rfl);obtain⟨LB0,LR⟩:=bx1 w #[.int .i64 0,.bool false,.slice none 0 0,.int .i64 0] 97;have LR0:=Hd (HasBlk.of (n:=4) LR.out rfl rfl);clear LR
 go_enter Tryz.func100,Tryz.ntmps100
 go_wp2_with fail;refine cy (HI.out _) ?_;clear HI;go_wp2_with fail;refine cy (HC.out _) ?_;clear HC;obtain⟨ha0,hf0,ha1,hf1,ha2,hf2,ha3,hf3⟩:=LR0.out.sf4;obtain⟨hk0,hk1,hk2,hk3⟩:=LR0.out.sc4 (.int .i64 (-1)) (.bool false) (.slice none 0 0) (.int .i64 0);have F:=Hd (below_sets (w0:=w) (r:=w.heap.size) (by omega) [.int .i64 (-1),.bool false,.slice none 0 0,.int .i64 0] 0 _ LB0.out)
 simp [sets] at hk0 hk1 hk2 hk3
 go_wp2;refine bodyPost_ret (v:=.agg #[.int .i64 (-1),.bool false,.slice none 0 0,.int .i64 0]) (by simp [results,Tryz.results100,go_sem,hk0,hk1,hk2,hk3]) rfl ?_
 exact⟨rfl,below_alloc _ _⟩
def NewExI(w:World)(s:Int)(x:Rat)(e:Ending)(w':World):Prop:=
 ∃ (g:Bool) (A:Option Addr) (n c:Nat) (E:Int),e=.returned (.agg #[.int .i64 s,.bool g,.slice A n c,.int .i64 E])/\ExI w' s g A n c E x/\Below w.heap.size w w'
theorem NewEx.toI{w w':World}{x:Rat}{e:Ending}(h:NewEx w x e w'):NewExI w 0 x e w':=by
 obtain⟨g,A,n,c,S,E,rfl,hu,hb,h1,h2,h3,h4⟩:=h
 exact⟨g,A,n,c,E,rfl,⟨.inl rfl,fun _=>⟨S,hu,h1,h2,h3,h4⟩⟩,hb⟩
theorem point_gen(i:Int)(w:World)(h:-(M:Int)<=i/\i<=M):Calls Tryz.prog 100 #[.float .f64 (pat i)] w (NewExI w (es i) (ex i)):=by
 have hM:=M_val
 by_cases h1:i=M
 ·subst h1;rw [es_max,pat_max];refine (point_pos w).mono ?_;rintro e w' ⟨rfl,hb⟩
  exact⟨false,none,0,0,0,rfl,⟨.inr (.inl rfl),fun h=>by omega⟩,hb⟩
 ·by_cases h2:i=-(M:Int)
  ·subst h2;rw [es_min,pat_min];refine (point_neg w).mono ?_;rintro e w' ⟨rfl,hb⟩
   exact⟨false,none,0,0,0,rfl,⟨.inr (.inr rfl),fun h=>by omega⟩,hb⟩
  ·rw [es_mid (by omega) (by omega),ex_mid (by omega) (by omega)]
   have hf:fin (pat i):=by show rungOf (pat i)<M;rw [rung_pat h.1 h.2];omega
   obtain⟨neg,S,x,k1,k2,k3,k4,k5⟩:=point_any (pat i) (pat_lt h.1 h.2) hf;rw [idx_pat h.1 h.2] at k4;refine (k5 w).mono ?_;rintro e w' ⟨A,n,c,rfl,hu,hb⟩
   exact⟨neg,A,n,c,x,rfl,⟨.inl rfl,fun _=>⟨S,hu,Nat.le_trans (blen_le_iff.2 (show S<2^53 from k1)) (by omega),k2,k3,k4⟩⟩,hb⟩
theorem less_first(x y:Nat)(s1 s2:Int)(hs:s1≠0)(x1 x2:Rat)(w:World)(H1:∀ w,Calls Tryz.prog 100 #[.float .f64 x] w (NewExI w s1 x1))(H2:∀ w,Calls Tryz.prog 100 #[.float .f64 (Op.negFloat .f64 y)] w (NewExI w s2 x2)):
  Calls Tryz.prog 91 (Zv x y) w (NewExI w s1 x1):=by
 have K1:=Hd H1;have K2:=Hd H2
 have hz:(s1 == 0)=false:=by simpa using hs
 have hz2:(s1 != 0)=true:=by simp [hs]
 have HSN:=Hd hs;clear H1 H2 hs;obtain⟨LB0,LR⟩:=bx1 w #[.int .i64 0,.bool false,.slice none 0 0,.int .i64 0] 97;have LR0:=Hd (HasBlk.of (n:=4) LR.out rfl rfl);clear LR
 go_enter Tryz.func91,Tryz.ntmps91
 go_wp2_with fail;refine (K1.out _).mono ?_;rintro e w1 ⟨g1,A1,m1,c1,e1,rfl,hu1,hb1⟩;have LB1:=stB LB0 hb1 LB0.out.size;have LR1:=stR LR0 hb1;clear LB0 LR0;have U1:=Hd hu1;clear hu1 hb1 K1;go_wp2_with fail;refine (K2.out _).mono ?_;rintro e w2 ⟨g2,A2,m2,c2,e2,rfl,hu2,hb2⟩;have LB2:=stB LB1 hb2 LB1.out.size;have LR2:=stR LR1 hb2;clear LB1 LR1;have U2:=Hd (U1.out.below hb2);have V2:=Hd hu2;clear hu2 hb2 K2 U1
 go_upto_region 2 with fail
 have hlt:=LR2.out.lt;have LB3:=Hd ((LB2.out.alloc LB2.out.size (.cells #[.int .i64 s1,.bool g1,.slice A1 m1 c1,.int .i64 e1] 97)).alloc (by have:=LB2.out.size;simp;omega) (.cells #[.int .i64 s2,.bool g2,.slice A2 m2 c2,.int .i64 e2] 97));have LR3:=Hd ((LR2.out.alloc (.cells #[.int .i64 s1,.bool g1,.slice A1 m1 c1,.int .i64 e1] 97)).alloc (.cells #[.int .i64 s2,.bool g2,.slice A2 m2 c2,.int .i64 e2] 97));have LG0_3:=Hd ((Blk.new w2 97 #[.int .i64 s1,.bool g1,.slice A1 m1 c1,.int .i64 e1]).alloc (.cells #[.int .i64 s2,.bool g2,.slice A2 m2 c2,.int .i64 e2] 97));have LG1_3:=Hd (Blk.new2 w2 (.cells #[.int .i64 s1,.bool g1,.slice A1 m1 c1,.int .i64 e1] 97) 97 #[.int .i64 s2,.bool g2,.slice A2 m2 c2,.int .i64 e2]);have U3:=Hd (U2.out.keep fun _ h=>(h.alloc (.cells #[.int .i64 s1,.bool g1,.slice A1 m1 c1,.int .i64 e1] 97)).alloc (.cells #[.int .i64 s2,.bool g2,.slice A2 m2 c2,.int .i64 e2] 97));clear LB2 LR2 U2 V2
 obtain⟨W4,hW4⟩:∃ W,(w2.alloc (.cells #[.int .i64 s1,.bool g1,.slice A1 m1 c1,.int .i64 e1] 97)).alloc (.cells #[.int .i64 s2,.bool g2,.slice A2 m2 c2,.int .i64 e2] 97)=W:=⟨_,rfl⟩
 rw [hW4] at LB3 LR3 LG0_3 LG1_3 U3 ⊢;clear hW4
 obtain⟨h,hg⟩:∃ g,w2.heap.size=g:=⟨_,rfl⟩
 rw [hg] at LG0_3 LG1_3 hlt ⊢;clear hg;have q0_0:=LG0_3.out.ce 0 rfl;have q0_1:=LG0_3.out.ce 1 rfl;have q0_2:=LG0_3.out.ce 2 rfl;have q0_3:=LG0_3.out.ce 3 rfl;have q1_0:=LG1_3.out.ce 0 rfl;have q1_1:=LG1_3.out.ce 1 rfl;have q1_2:=LG1_3.out.ce 2 rfl;have q1_3:=LG1_3.out.ce 3 rfl;have U4:=Hd (ExI.keep U3.out fun _ hu=>LR3.out.u32s hu [.int .i64 s1,.bool g1,.slice A1 m1 c1,.int .i64 e1]);obtain⟨ha0,hf0,ha1,hf1,ha2,hf2,ha3,hf3⟩:=LR3.out.sf4;obtain⟨hk0,hk1,hk2,hk3⟩:=LR3.out.sc4 (.int .i64 s1) (.bool g1) (.slice A1 m1 c1) (.int .i64 e1);have F:=Hd (below_sets (w0:=w) (r:=w.heap.size) (by omega) [.int .i64 s1,.bool g1,.slice A1 m1 c1,.int .i64 e1] 0 _ LB3.out)
 simp [sets] at hk0 hk1 hk2 hk3
 go_wp2;refine bodyPost_ret (v:=.agg #[.int .i64 s1,.bool g1,.slice A1 m1 c1,.int .i64 e1]) (by simp [results,Tryz.results91,go_sem,hk0,hk1,hk2,hk3]) rfl ?_
 exact⟨_,_,_,_,_,rfl,U4.out,F.out⟩
theorem less_second(x y:Nat)(s2:Int)(hs:s2≠0)(x1 x2:Rat)(w:World)(H1:∀ w,Calls Tryz.prog 100 #[.float .f64 x] w (NewExI w 0 x1))(H2:∀ w,Calls Tryz.prog 100 #[.float .f64 (Op.negFloat .f64 y)] w (NewExI w s2 x2)):
  Calls Tryz.prog 91 (Zv x y) w (NewExI w s2 x2):=by
 have K1:=Hd H1;have K2:=Hd H2
 have hz:(s2 == 0)=false:=by simpa using hs
 have hz2:(s2 != 0)=true:=by simp [hs]
 have HSN:=Hd hs;clear H1 H2 hs;obtain⟨LB0,LR⟩:=bx1 w #[.int .i64 0,.bool false,.slice none 0 0,.int .i64 0] 97;have LR0:=Hd (HasBlk.of (n:=4) LR.out rfl rfl);clear LR
 go_enter Tryz.func91,Tryz.ntmps91
 go_wp2_with fail;refine (K1.out _).mono ?_;rintro e w1 ⟨g1,A1,m1,c1,e1,rfl,hu1,hb1⟩;have LB1:=stB LB0 hb1 LB0.out.size;have LR1:=stR LR0 hb1;clear LB0 LR0;have U1:=Hd hu1;clear hu1 hb1 K1;go_wp2_with fail;refine (K2.out _).mono ?_;rintro e w2 ⟨g2,A2,m2,c2,e2,rfl,hu2,hb2⟩;have LB2:=stB LB1 hb2 LB1.out.size;have LR2:=stR LR1 hb2;clear LB1 LR1;have U2:=Hd (U1.out.below hb2);have V2:=Hd hu2;clear hu2 hb2 K2 U1
 go_upto_region 2 with fail
 have hlt:=LR2.out.lt;have LB3:=Hd ((LB2.out.alloc LB2.out.size (.cells #[.int .i64 0,.bool g1,.slice A1 m1 c1,.int .i64 e1] 97)).alloc (by have:=LB2.out.size;simp;omega) (.cells #[.int .i64 s2,.bool g2,.slice A2 m2 c2,.int .i64 e2] 97));have LR3:=Hd ((LR2.out.alloc (.cells #[.int .i64 0,.bool g1,.slice A1 m1 c1,.int .i64 e1] 97)).alloc (.cells #[.int .i64 s2,.bool g2,.slice A2 m2 c2,.int .i64 e2] 97));have LG0_3:=Hd ((Blk.new w2 97 #[.int .i64 0,.bool g1,.slice A1 m1 c1,.int .i64 e1]).alloc (.cells #[.int .i64 s2,.bool g2,.slice A2 m2 c2,.int .i64 e2] 97));have LG1_3:=Hd (Blk.new2 w2 (.cells #[.int .i64 0,.bool g1,.slice A1 m1 c1,.int .i64 e1] 97) 97 #[.int .i64 s2,.bool g2,.slice A2 m2 c2,.int .i64 e2]);have U3:=Hd (V2.out.keep fun _ h=>(h.alloc (.cells #[.int .i64 0,.bool g1,.slice A1 m1 c1,.int .i64 e1] 97)).alloc (.cells #[.int .i64 s2,.bool g2,.slice A2 m2 c2,.int .i64 e2] 97));clear LB2 LR2 U2 V2
 obtain⟨W4,hW4⟩:∃ W,(w2.alloc (.cells #[.int .i64 0,.bool g1,.slice A1 m1 c1,.int .i64 e1] 97)).alloc (.cells #[.int .i64 s2,.bool g2,.slice A2 m2 c2,.int .i64 e2] 97)=W:=⟨_,rfl⟩
 rw [hW4] at LB3 LR3 LG0_3 LG1_3 U3 ⊢;clear hW4
 obtain⟨h,hg⟩:∃ g,w2.heap.size=g:=⟨_,rfl⟩
 rw [hg] at LG0_3 LG1_3 hlt ⊢;clear hg;have q0_0:=LG0_3.out.ce 0 rfl;have q0_1:=LG0_3.out.ce 1 rfl;have q0_2:=LG0_3.out.ce 2 rfl;have q0_3:=LG0_3.out.ce 3 rfl;have q1_0:=LG1_3.out.ce 0 rfl;have q1_1:=LG1_3.out.ce 1 rfl;have q1_2:=LG1_3.out.ce 2 rfl;have q1_3:=LG1_3.out.ce 3 rfl;have U4:=Hd (ExI.keep U3.out fun _ hu=>LR3.out.u32s hu [.int .i64 s2,.bool g2,.slice A2 m2 c2,.int .i64 e2]);obtain⟨ha0,hf0,ha1,hf1,ha2,hf2,ha3,hf3⟩:=LR3.out.sf4;obtain⟨hk0,hk1,hk2,hk3⟩:=LR3.out.sc4 (.int .i64 s2) (.bool g2) (.slice A2 m2 c2) (.int .i64 e2);have F:=Hd (below_sets (w0:=w) (r:=w.heap.size) (by omega) [.int .i64 s2,.bool g2,.slice A2 m2 c2,.int .i64 e2] 0 _ LB3.out)
 simp [sets] at hk0 hk1 hk2 hk3
 go_wp2;refine bodyPost_ret (v:=.agg #[.int .i64 s2,.bool g2,.slice A2 m2 c2,.int .i64 e2]) (by simp [results,Tryz.results91,go_sem,hk0,hk1,hk2,hk3]) rfl ?_
 exact⟨_,_,_,_,_,rfl,U4.out,F.out⟩
theorem less_gen(i j:Int)(w:World)(hi:-(M:Int)<=i/\i<=M)(hj:-(M:Int)<=j/\j<=M):
  Calls Tryz.prog 91 (Zv (pat i) (pat j)) w (NewExI w (es2 (es i) (es (-j))) (ex2 (es i) (ex i) (es (-j)) (ex (-j)))):=by
 have hM:=M_val;have nf:=negFloat_val (pat_lt hj.1 hj.2);rw [idx_pat hj.1 hj.2] at nf
 have hneg:∀ w,Calls Tryz.prog 100 #[.float .f64 (Op.negFloat .f64 (pat j))] w (NewExI w (es (-j)) (ex (-j))):=by
  intro w
  by_cases h0:j=0
  ·subst h0;obtain⟨neg,S,x,k1,k2,k3,k4,k5⟩:=point_any (Op.negFloat .f64 (pat 0)) nf.1 (by show rungOf _<M;rw [nf.2.1];decide);rw [nf.2.2] at k4;rw [show es (-0)=0 from es_mid (by omega) (by omega),show ex (-0)=fl (-0) from ex_mid (by omega) (by omega)];refine (k5 w).mono ?_;rintro e w' ⟨A,n,c,rfl,hu,hb⟩
   exact⟨neg,A,n,c,x,rfl,⟨.inl rfl,fun _=>⟨S,hu,Nat.le_trans (blen_le_iff.2 (show S<2^53 from k1)) (by omega),k2,k3,k4⟩⟩,hb⟩
  ·rw [neg_pat hj.1 hj.2 h0]
   exact point_gen (-j) w (by omega)
 by_cases h1:es i=0
 ·by_cases h2:es (-j)=0
  ·rw [h1,h2];have a1:=es_zero h1;have a2:=es_zero h2
   have hfi:fin (pat i):=by show rungOf (pat i)<M;rw [rung_pat hi.1 hi.2];omega
   have hfj:fin (pat j):=by show rungOf (pat j)<M;rw [rung_pat hj.1 hj.2];omega
   have h:=rless_any (pat i) (pat j) w (pat_lt hi.1 hi.2) (pat_lt hj.1 hj.2) hfi hfj;rw [idx_pat hi.1 hi.2,idx_pat hj.1 hj.2] at h
   have e1:ex2 0 (ex i) 0 (ex (-j))=fl i - fl j:=by
    unfold ex2;rw [if_neg (by omega),if_neg (by omega),ex_zero h1,ex_zero h2,fl_neg];grind
   rw [e1,show es2 0 0=0 from rfl]
   exact h.mono fun e w' h=>h.toI
  ·have h:=less_second (pat i) (pat j) (es (-j)) h2 (ex i) (ex (-j)) w (fun w=>by have h:=point_gen i w hi;rwa [h1] at h) hneg;rw [h1];unfold es2 ex2;rw [if_neg (by omega),if_neg (by omega),if_pos h2]
   exact h
 ·have h:=less_first (pat i) (pat j) (es i) (es (-j)) h1 (ex i) (ex (-j)) w (fun w=>point_gen i w hi) hneg;unfold es2 ex2;rw [if_pos h1,if_pos h1]
  exact h
end
section
open Go.RowKit
attribute [local go_sem] run_store_float
theorem fmarev_none(b1 b2 z1 z2 c1 c2 x y P1 Q1 P2 Q2 P3 Q3 P4 Q4:Nat)(d1 d2 d3 d4:Bool)(w:World)(t1:∀ W,Rt 102 #[Zf b1 b2] (Zf P1 Q1) W)(m1:Em d1 P1 Q1)(t2:∀ W,Rt 102 #[Zf z1 z2] (Zf P2 Q2) W)(m2:Em d2 P2 Q2)(t3:∀ W,Rt 102 #[Zf c1 c2] (Zf P3 Q3) W)(m3:Em d3 P3 Q3)(t4:∀ W,Rt 102 #[Zf x y] (Zf P4 Q4) W)(m4:Em d4 P4 Q4)(hnn:(d1 || d2 || d3 || d4)=true):
  Rt 31 #[Zf b1 b2,Zf z1 z2,Zf c1 c2,Zf x y] (Zf 9218868437227405312 18442240474082181120) w:=by
 have HE:=Hd emptyf;have HRD:=readL54 w (Zv 0 0) 28 t1 m1 t2 m2 t3 m3 t4 m4 hnn;clear t1 t2 t3 t4 m1 m2 m3 m4 hnn
 go_enter Tryz.func31,Tryz.ntmps31
 go_wp2_with fail;refine HRD.out.mono ?_;rintro e w1 ⟨rfl,hl⟩;have LB1:=Hd hl.b;have LR1:=Hd (HasBlk.of (n:=2) (hl.blk 4 rfl) rfl rfl);have LG0_1:=Hd (hl.blk 0 rfl);have LG1_1:=Hd (hl.blk 1 rfl);have LG2_1:=Hd (hl.blk 2 rfl);have LG3_1:=Hd (hl.blk 3 rfl);clear hl HRD;go_wp2_with fail;refine cx (HE.out _) fun w2 hbx=>?_;have LB2:=stB LB1 hbx LB1.out.size;have LR2:=stR LR1 hbx;have LG0_2:=stG LG0_1 hbx;have LG1_2:=stG LG1_1 hbx;have LG2_2:=stG LG2_1 hbx;have LG3_2:=stG LG3_1 hbx;clear LB1 LR1 LG0_1 LG1_1 LG2_1 LG3_1;clear hbx;obtain⟨ha0,hf0,ha1,hf1⟩:=LR2.out.sf2;obtain⟨hk0,hk1⟩:=LR2.out.sc2 (.float .f64 9218868437227405312) (.float .f64 18442240474082181120);have F:=Hd (below_sets (w0:=w) (r:=(w.heap.size+4)) (by omega) [.float .f64 9218868437227405312,.float .f64 18442240474082181120] 0 _ LB2.out)
 simp [sets] at hk0 hk1
 go_wp2;refine bodyPost_ret (v:=Zf 9218868437227405312 18442240474082181120) (by simp [results,Tryz.results31,go_sem,hk0,hk1]) rfl ?_
 exact⟨rfl,F.out⟩
theorem fmarev_some(b1 b2 z1 z2 c1 c2 x y P1 Q1 P2 Q2 P3 Q3 P4 Q4:Nat)(d1 d2 d3 d4:Bool)(s1 s2:Int)(y1 y2:Rat)(r1 r2:Nat)(w:World)(t1:∀ W,Rt 102 #[Zf b1 b2] (Zf P1 Q1) W)(m1:Em d1 P1 Q1)(t2:∀ W,Rt 102 #[Zf z1 z2] (Zf P2 Q2) W)(m2:Em d2 P2 Q2)(t3:∀ W,Rt 102 #[Zf c1 c2] (Zf P3 Q3) W)(m3:Em d3 P3 Q3)(t4:∀ W,Rt 102 #[Zf x y] (Zf P4 Q4) W)(m4:Em d4 P4 Q4)(hnn:(d1 || d2 || d3 || d4)=false)
  (L1:∀ W,Calls Tryz.prog 91 (Zv P3 Q2) W (NewExI W s1 y1))(L2:∀ W,Calls Tryz.prog 91 (Zv Q3 P2) W (NewExI W s2 y2))
  (FA:∀ (g1:Bool) (A1:Option Addr) (n1 c1:Nat) (E1:Int) (g2:Bool) (A2:Option Addr) (n2 c2:Nat) (E2:Int) W,ExI W s1 g1 A1 n1 c1 E1 y1->ExI W s2 g2 A2 n2 c2 E2 y2->Rt 90 #[Zf P1 Q1,.agg #[.int .i64 s1,.bool g1,.slice A1 n1 c1,.int .i64 E1],.agg #[.int .i64 s2,.bool g2,.slice A2 n2 c2,.int .i64 E2],Zf P4 Q4] (Zf r1 r2) W):
  Rt 31 #[Zf b1 b2,Zf z1 z2,Zf c1 c2,Zf x y] (Zf r1 r2) w:=by
 have HL1:=Hd L1;have HL2:=Hd L2;have HF:=Hd FA;clear L1 L2 FA;have HRD:=readL54 w (Zv 0 0) 28 t1 m1 t2 m2 t3 m3 t4 m4 hnn;clear t1 t2 t3 t4 m1 m2 m3 m4 hnn
 go_enter Tryz.func31,Tryz.ntmps31
 go_wp2_with fail;refine HRD.out.mono ?_;rintro e w1 ⟨rfl,hl⟩;have LB1:=Hd hl.b;have LR1:=Hd (HasBlk.of (n:=2) (hl.blk 4 rfl) rfl rfl);have LG0_1:=Hd (hl.blk 0 rfl);have LG1_1:=Hd (hl.blk 1 rfl);have LG2_1:=Hd (hl.blk 2 rfl);have LG3_1:=Hd (hl.blk 3 rfl);clear hl HRD;go_wp2_with fail;refine wp_region_held_drew (S:=fun W'=>Blk W' w.heap.size 28 (Zv P1 Q1)/\Blk W' (w.heap.size+1) 28 (Zv P2 Q2)/\Blk W' (w.heap.size+2) 28 (Zv P3 Q3)/\Blk W' (w.heap.size+3) 28 (Zv P4 Q4)/\HasBlk W' (w.heap.size+4) 28 2/\Below w.heap.size w W') (by kernel_rfl) (by exact⟨LG0_1.out.drew,LG1_1.out.drew,LG2_1.out.drew,LG3_1.out.drew,LR1.out.drew,LB1.out.drew⟩) (fun hHeld=>?_);refine tkb 0 (fun _ h=>h.1.c2) ?_;refine tks 1 ?_;refine tkb 2 (fun _ h=>h.2.2.1.c2) ?_;refine tks 3 ?_;refine tkb 4 (fun _ h=>h.2.1.c2) ?_;refine tks 6 ?_;refine tkb 7 (fun _ h=>h.2.2.1.c2) ?_;refine tks 8 ?_;refine tkb 9 (fun _ h=>h.2.1.c2) ?_;refine tkb 11 (fun _ h=>h.2.2.2.1.c2) ?_;refine rdy 5 fun KK hKK=>?_;go_simp;refine (HL1.out _).mono ?_;rintro e w2 ⟨g1,A1,n1,c1,E1,rfl,he1,hbA⟩;go_wp2_with fail;refine hKK.out _ _ (⟨hHeld.1.keep hbA,hHeld.2.1.keep hbA,hHeld.2.2.1.keep hbA,hHeld.2.2.2.1.keep hbA,hHeld.2.2.2.2.1.keep hbA,hHeld.2.2.2.2.2.trans (hbA.mono hHeld.2.2.2.2.2.size)⟩) (fun _=>?_);clear hKK KK hHeld;rename_i hHeld;(try simp only [Act.put,lay]);refine rdy 10 fun KK hKK=>?_;go_simp;refine (HL2.out _).mono ?_;rintro e w3 ⟨g2,A2,n2,c2,E2,rfl,he2,hbB⟩;go_wp2_with fail;refine hKK.out _ _ (⟨hHeld.1.keep hbB,hHeld.2.1.keep hbB,hHeld.2.2.1.keep hbB,hHeld.2.2.2.1.keep hbB,hHeld.2.2.2.2.1.keep hbB,hHeld.2.2.2.2.2.trans (hbB.mono hHeld.2.2.2.2.2.size)⟩) (fun _=>?_)
 clear hKK KK hHeld;rename_i hHeld;(try simp only [Act.put,lay]);refine rdy 12 fun KK hKK=>?_;go_simp;refine cx (HF.out _ _ _ _ _ _ _ _ _ _ _ (he1.below hbB) he2) fun w4 hbC=>?_;go_wp2_with fail;refine hKK.out _ _ (⟨hHeld.1.keep hbC,hHeld.2.1.keep hbC,hHeld.2.2.1.keep hbC,hHeld.2.2.2.1.keep hbC,hHeld.2.2.2.2.1.keep hbC,hHeld.2.2.2.2.2.trans (hbC.mono hHeld.2.2.2.2.2.size)⟩) (fun _=>?_);clear hKK KK hHeld;rename_i hHeld;(try simp only [Act.put,lay]);refine rdy 13 fun KK hKK=>?_;have ha0:=hHeld.2.2.2.2.1.someCell 0 (by decide);have hf0:=hHeld.2.2.2.2.1.frozen 0;have ha1:=hHeld.2.2.2.2.1.someCell 1 (by decide);have hf1:=hHeld.2.2.2.2.1.frozen 1;have HK:=Hd (hHeld.2.2.2.2.1.setCell [.float .f64 r1,.float .f64 r2] rfl);have F:=Hd (below_sets (w0:=w) (r:=(w.heap.size+4)) (by omega) [.float .f64 r1,.float .f64 r2] 0 _ hHeld.2.2.2.2.2);go_simp;refine hKK.out _ _ (⟨hHeld.1.other (by omega) 0 [.float .f64 r1,.float .f64 r2],hHeld.2.1.other (by omega) 0 [.float .f64 r1,.float .f64 r2],hHeld.2.2.1.other (by omega) 0 [.float .f64 r1,.float .f64 r2],hHeld.2.2.2.1.other (by omega) 0 [.float .f64 r1,.float .f64 r2],hHeld.2.2.2.2.1.sets [.float .f64 r1,.float .f64 r2] rfl rfl,below_sets (by omega) [.float .f64 r1,.float .f64 r2] 0 _ hHeld.2.2.2.2.2⟩) (fun _=>?_);clear hKK KK hHeld;rename_i hHeld;(try simp only [Act.put,lay]);refine wpAnyH_done (by kernel_rfl) ?_ _;have hk0:=HK.out 0 (by decide);have hk1:=HK.out 1 (by decide)
 simp [sets] at hk0 hk1
 clear hHeld HK he1 hbA he2 hbB hbC;clear LB1 LR1 LG0_1 LG1_1 LG2_1 LG3_1;go_wp2;refine bodyPost_ret (v:=Zf r1 r2) (by simp [results,Tryz.results31,go_sem,hk0,hk1]) rfl ?_
 exact⟨rfl,F.out⟩
theorem mulrev_walk(b1 b2 c1 c2 x y r1 r2:Nat)(w:World)(H:∀ W,Rt 31 #[Zf b1 b2,Zf 0 0,Zf c1 c2,Zf x y] (Zf r1 r2) W):
  Rt 25 #[Zf b1 b2,Zf c1 c2,Zf x y] (Zf r1 r2) w:=by
 have K:=Hd H;clear H;obtain⟨LB0,LG0_0,LG1_0,LG2_0,LR⟩:=bx4 w (Zv b1 b2) 28 (Zv c1 c2) 28 (Zv x y) 28 (Zv 0 0) 28;have LR0:=Hd (HasBlk.of (n:=2) LR.out rfl rfl);clear LR
 go_enter Tryz.func25,Tryz.ntmps25
 obtain⟨q0_0,q0_1⟩:=LG0_0.out.c2;obtain⟨q1_0,q1_1⟩:=LG1_0.out.c2;obtain⟨q2_0,q2_1⟩:=LG2_0.out.c2;go_wp2_with fail;refine cx (K.out _) fun w1 hb1=>?_;have LB1:=stB LB0 hb1 LB0.out.size;have LR1:=stR LR0 hb1;have LG0_1:=stG LG0_0 hb1;have LG1_1:=stG LG1_0 hb1;have LG2_1:=stG LG2_0 hb1;clear LB0 LR0 LG0_0 LG1_0 LG2_0;clear hb1 K q0_0 q0_1 q1_0 q1_1 q2_0 q2_1;obtain⟨ha0,hf0,ha1,hf1⟩:=LR1.out.sf2;obtain⟨hk0,hk1⟩:=LR1.out.sc2 (.float .f64 r1) (.float .f64 r2);have F:=Hd (below_sets (w0:=w) (r:=(w.heap.size+3)) (by omega) [.float .f64 r1,.float .f64 r2] 0 _ LB1.out)
 simp [sets] at hk0 hk1
 go_wp2;refine bodyPost_ret (v:=Zf r1 r2) (by simp [results,Tryz.results25,go_sem,hk0,hk1]) rfl ?_
 exact⟨rfl,F.out⟩
end
section
open Go.RowKit
def po(b1 b2:Int)(s1:Int)(x1:Rat)(s2:Int)(x2:Rat)(i j:Int):Int × Int:=
 if b2<=0 then ((M:Int),-(M:Int)) else ctO (decide (0<esx s1 x1) || decide (esx s2 x2<0)) i j (pA s1 x1 b1 b2).1 (pA s1 x1 b1 b2).2 (pB s2 x2 b1 b2).1 (pB s2 x2 b1 b2).2
theorem ov_rng{s:Int}{x:Rat}{j:Int}(hs:s=0\/s=1\/s=-1):(-(M:Int)<=(ov s x j).1/\(ov s x j).1<=M)/\(-(M:Int)<=(ov s x j).2/\(ov s x j).2<=M):=by
 have hM:=M_val;unfold ov;have a:=rndI_down (x / fl j);have b:=rndI_up (x / fl j)
 split
 ·rcases hs with h | h | h<;>subst h<;>dsimp only<;>omega
 ·split<;>dsimp only<;>omega
theorem pA_rng{s:Int}{x:Rat}{b1 b2:Int}(hs:s=0\/s=1\/s=-1):(-(M:Int)<=(pA s x b1 b2).1/\(pA s x b1 b2).1<=M)/\(-(M:Int)<=(pA s x b1 b2).2/\(pA s x b1 b2).2<=M):=by
 have hM:=M_val;unfold pA
 split
 ·exact ov_rng hs
 ·split
  ·exact ov_rng hs
  ·dsimp only;omega
theorem pB_rng{s:Int}{x:Rat}{b1 b2:Int}(hs:s=0\/s=1\/s=-1):(-(M:Int)<=(pB s x b1 b2).1/\(pB s x b1 b2).1<=M)/\(-(M:Int)<=(pB s x b1 b2).2/\(pB s x b1 b2).2<=M):=by
 have hM:=M_val;unfold pB
 split
 ·exact ov_rng hs
 ·split
  ·exact ov_rng hs
  ·dsimp only;omega
theorem positive_any(b1 b2:Int)(s1:Int)(g1:Bool)(A1:Option Addr)(n1 c1:Nat)(E1:Int)(x1:Rat)(s2:Int)(g2:Bool)(A2:Option Addr)(n2 c2:Nat)(E2:Int)(x2:Rat)(i j:Int)(w:World)
  (hb1:-(M:Int)<=b1/\b1<=M)(hb2:-(M:Int)<=b2/\b2<=M)(hi:-(M:Int)<=i/\i<=M)(hj:-(M:Int)<=j/\j<=M)(h1:ExI w s1 g1 A1 n1 c1 E1 x1)(h2:ExI w s2 g2 A2 n2 c2 E2 x2):
  Calls Tryz.prog 101 #[Zf (pat b1) (pat b2),.agg #[.int .i64 s1,.bool g1,.slice A1 n1 c1,.int .i64 E1],.agg #[.int .i64 s2,.bool g2,.slice A2 n2 c2,.int .i64 E2],Zf (pat i) (pat j)] w
   fun e w'=>e=.returned (Zf (pat (po b1 b2 s1 x1 s2 x2 i j).1) (pat (po b1 b2 s1 x1 s2 x2 i j).2))/\Below w.heap.size w w':=by
 have hM:=M_val;unfold po
 by_cases h0:b2<=0
 ·rw [if_pos h0,pat_max,pat_min];refine positive_none _ _ s1 g1 A1 n1 c1 E1 s2 g2 A2 n2 c2 E2 _ _ w ?_
  by_cases hz:b2=0
  ·exact .inr (ord0_eq hz)
  ·exact .inl (ord0_lt hb2 (by omega))
 ·rw [if_neg h0];have hmx:=fun W ts t=>run_maxf hb1 (show -(M:Int)<=0/\(0:Int)<=M by omega) W ts t;rw [pat_zero] at hmx
  have hF:-(M:Int)<=max b1 0/\max b1 0<=M:=by omega
  have of:(FloatKind.f64.format.order (pat (max b1 0)) 0 == some Ordering.gt)=decide (0<b1):=by
   by_cases h:0<b1
   ·rw [ord0_gt hF (by omega),decide_eq_true h];rfl
   ·rw [ord0_eq (by omega),decide_eq_false h];rfl
  have S1:=fun W=>sign_any s1 g1 A1 n1 c1 E1 W;have S2:=fun W=>sign_any s2 g2 A2 n2 c2 E2 W;rw [h1.sg] at S1;rw [h2.sg] at S2;refine positive_walk _ _ s1 g1 A1 n1 c1 E1 s2 g2 A2 n2 c2 E2 _ _ x1 x2 _ _ _ _ _ _ _ _ _ _ _ _ _ w (ord0_gt hb2 (by omega)) hmx of S1 S2 rfl rfl rfl h1 h2 ⟨fun hc W he=>?_,fun hc hf W he=>?_,fun hc hf=>?_⟩ ⟨fun hc W he=>?_,fun hc hf W he=>?_,fun hc hf=>?_⟩ (fun W=>rcut2_any _ i j _ _ _ _ W hi hj (pA_rng (by have:=h1.1;omega)).1 (pA_rng (by have:=h1.1;omega)).2 (pB_rng (by have:=h2.1;omega)).1 (pB_rng (by have:=h2.1;omega)).2)
  ·have h:=over_any s1 g1 A1 n1 c1 E1 x1 b2 W he (by omega) hb2.2;unfold pA;rw [if_pos (of_decide_eq_true hc)]
   exact h
  ·have hb0:=of_decide_eq_true hf;have h:=over_any s1 g1 A1 n1 c1 E1 x1 b1 W he hb0 hb1.2;unfold pA;rw [if_neg (of_decide_eq_false hc),if_pos hb0,show max b1 0=b1 from by omega]
   exact h
  ·unfold pA;rw [if_neg (of_decide_eq_false hc),if_neg (of_decide_eq_false hf)]
   exact⟨pat_min,pat_min⟩
  ·have h:=over_any s2 g2 A2 n2 c2 E2 x2 b2 W he (by omega) hb2.2;unfold pB;rw [if_pos (of_decide_eq_true hc)]
   exact h
  ·have hb0:=of_decide_eq_true hf;have h:=over_any s2 g2 A2 n2 c2 E2 x2 b1 W he hb0 hb1.2;unfold pB;rw [if_neg (of_decide_eq_false hc),if_pos hb0,show max b1 0=b1 from by omega]
   exact h
  ·unfold pB;rw [if_neg (of_decide_eq_false hc),if_neg (of_decide_eq_false hf)]
   exact⟨pat_max,pat_max⟩
structure NumOk (s1:Int) (x1:Rat) (s2:Int) (x2:Rat):Prop where
 a1:s1=0\/s1=-1
 a2:s1≠0->x1=0
 b1:s2=0\/s2=1
 b2:s2≠0->x2=0
 le:s1=0->s2=0->x1<=x2
def PF(b1 b2:Int)(s1:Int)(x1:Rat)(s2:Int)(x2:Rat)(i j:Int):Int × Int:=
 if b2<=0 then ((M:Int),-(M:Int)) else pf (qA s1 x1 b1 b2).1 (qA s1 x1 b1 b2).2.1 (qA s1 x1 b1 b2).2.2 (qB s2 x2 b1 b2).1 (qB s2 x2 b1 b2).2.1 (qB s2 x2 b1 b2).2.2 i j
theorem po_PF{b1 b2 s1 s2:Int}{x1 x2:Rat}{i j:Int}(k:NumOk s1 x1 s2 x2)(hb:Ne b1 b2)(hx:Ne i j):po b1 b2 s1 x1 s2 x2 i j=PF b1 b2 s1 x1 s2 x2 i j:=by
 unfold po PF
 by_cases h:b2<=0
 ·rw [if_pos h,if_pos h]
 ·rw [if_neg h,if_neg h];unfold Ne at hb hx
  exact ct_pf k.a1 k.a2 k.b1 k.b2 k.le hb.2.1 (by omega) hb.2.2.1 hb.2.2.2.1 i j hx
theorem PF_iv{b1 b2 s1 s2:Int}{x1 x2:Rat}(k:NumOk s1 x1 s2 x2)(hb:Ne b1 b2)(i j:Int)(hx:Iv i j):Iv (PF b1 b2 s1 x1 s2 x2 i j).1 (PF b1 b2 s1 x1 s2 x2 i j).2:=by
 unfold PF
 by_cases h:b2<=0
 ·rw [if_pos h];exact Iv.none
 ·rw [if_neg h];unfold Ne at hb;refine pf_iv ?_ ?_ ?_ i j hx
  ·rcases qA_kind k.a1 k.a2 hb.2.1 (by omega) hb.2.2.1 hb.2.2.2.1 with k | k | k | k<;>omega
  ·rcases qB_kind k.b1 k.b2 hb.2.1 (by omega) hb.2.2.1 hb.2.2.2.1 with k | k | k | k<;>omega
  ·exact q_le k.a1 k.a2 k.b1 k.b2 k.le hb.2.1 (by omega) hb.2.2.1 hb.2.2.2.1
def fa(b1 b2:Int)(s1:Int)(x1:Rat)(s2:Int)(x2:Rat)(i j:Int):Int × Int:=
 if (b1<=0/\0<=b2)/\esx s1 x1<=0/\0<=esx s2 x2 then (i,j)
 else (min (PF b1 b2 s1 x1 s2 x2 i j).1 (-(PF (-b2) (-b1) s1 x1 s2 x2 (-j) (-i)).2),max (PF b1 b2 s1 x1 s2 x2 i j).2 (-(PF (-b2) (-b1) s1 x1 s2 x2 (-j) (-i)).1))
theorem mirror_idx(i j:Int)(w:World)(h:Iv i j):Rt 85 #[Zf (pat i) (pat j)] (Zf (pat (-j)) (pat (-i))) w:=by
 have h2:=mirrorf (pat i) (pat j) w (pat_lt h.lo.1 h.lo.2) (pat_lt h.hi.1 h.hi.2);rw [rd_pat h] at h2
 exact h2
theorem factor_any(b1 b2:Int)(s1:Int)(g1:Bool)(A1:Option Addr)(n1 c1:Nat)(E1:Int)(x1:Rat)(s2:Int)(g2:Bool)(A2:Option Addr)(n2 c2:Nat)(E2:Int)(x2:Rat)(i j:Int)(w:World)
  (hb:Ne b1 b2)(hx:Ne i j)(k:NumOk s1 x1 s2 x2)(h1:ExI w s1 g1 A1 n1 c1 E1 x1)(h2:ExI w s2 g2 A2 n2 c2 E2 x2):
  Calls Tryz.prog 90 #[Zf (pat b1) (pat b2),.agg #[.int .i64 s1,.bool g1,.slice A1 n1 c1,.int .i64 E1],.agg #[.int .i64 s2,.bool g2,.slice A2 n2 c2,.int .i64 E2],Zf (pat i) (pat j)] w
   fun e w'=>e=.returned (Zf (pat (fa b1 b2 s1 x1 s2 x2 i j).1) (pat (fa b1 b2 s1 x1 s2 x2 i j).2))/\Below w.heap.size w w':=by
 have S1:=fun W=>sign_any s1 g1 A1 n1 c1 E1 W;have S2:=fun W=>sign_any s2 g2 A2 n2 c2 E2 W;rw [h1.sg] at S1;rw [h2.sg] at S2;have P1:=fun W e1 e2=>positive_any b1 b2 s1 g1 A1 n1 c1 E1 x1 s2 g2 A2 n2 c2 E2 x2 i j W hb.iv.lo hb.iv.hi hx.iv.lo hx.iv.hi e1 e2;have P2:=fun W e1 e2=>positive_any (-b2) (-b1) s1 g1 A1 n1 c1 E1 x1 s2 g2 A2 n2 c2 E2 x2 (-j) (-i) W hb.neg.iv.lo hb.neg.iv.hi hx.neg.iv.lo hx.neg.iv.hi e1 e2;rw [po_PF k hb hx] at P1;rw [po_PF k hb.neg hx.neg] at P2;have v1:=PF_iv k hb i j hx.iv;have v2:=PF_iv k hb.neg (-j) (-i) hx.neg.iv;have v3:Iv (-(PF (-b2) (-b1) s1 x1 s2 x2 (-j) (-i)).2) (-(PF (-b2) (-b1) s1 x1 s2 x2 (-j) (-i)).1):=v2.negg;have h:=factor_walk _ _ s1 g1 A1 n1 c1 E1 s2 g2 A2 n2 c2 E2 _ _ x1 x2 _ _ _ _ _ _ _ _ _ _ _ _ _ _ _ _ w S1 S2 h1 h2 (fun W=>has_any b1 b2 W hb.iv.lo hb.iv.hi) rfl P1 (fun W=>mirror_idx b1 b2 W hb.iv) (fun W=>mirror_idx i j W hx.iv) P2 (fun W=>mirror_idx _ _ W v2) (fun W=>hullf _ _ _ _ W v1 v3);refine h.mono ?_;rintro e w' ⟨rfl,hb'⟩;refine⟨?_,hb'⟩;unfold fa
 by_cases hc:(b1<=0/\0<=b2)/\esx s1 x1<=0/\0<=esx s2 x2
 ·rw [if_pos hc,decide_eq_true hc.1,decide_eq_true hc.2.1,decide_eq_true hc.2.2];rfl
 ·rw [if_neg hc]
  have:(decide (b1<=0/\0<=b2) && decide (esx s1 x1<=0) && decide (0<=esx s2 x2))=false:=by
   rw [Bool.eq_false_iff];intro h
   simp only [Bool.and_eq_true,decide_eq_true_eq] at h
   exact hc ⟨h.1.1,h.1.2,h.2⟩
  rw [this];rfl
theorem numok_sum{i j i' j':Int}(h:Ne i j)(h':Ne i' j'):NumOk (es2 (es i) (es i')) (ex2 (es i) (ex i) (es i') (ex i')) (es2 (es j) (es j')) (ex2 (es j) (ex j) (es j') (ex j')):=by
 have hM:=M_val;unfold Ne at h h'
 have e1:es i=0\/es i=-1:=by unfold es;split<;>(try split)<;>omega
 have e2:es i'=0\/es i'=-1:=by unfold es;split<;>(try split)<;>omega
 have e3:es j=0\/es j=1:=by unfold es;split<;>(try split)<;>omega
 have e4:es j'=0\/es j'=1:=by unfold es;split<;>(try split)<;>omega
 have z:∀ k:Int,es k≠0->ex k=0:=fun k hk=>by unfold ex;rw [if_neg hk]
 have nz:∀ a b:Int,es2 (es a) (es b)≠0->ex2 (es a) (ex a) (es b) (ex b)=0:=fun a b hk=>by
  unfold es2 at hk;unfold ex2
  by_cases ha:es a≠0
  ·rw [if_pos ha];exact z a ha
  ·rw [if_neg ha] at hk;rw [if_neg ha,if_pos hk];exact z b hk
 have v0:∀ a b:Int,es2 (es a) (es b)=0->es a=0/\es b=0:=fun a b hk=>by
  unfold es2 at hk
  by_cases ha:es a=0
  ·rw [if_neg (by omega)] at hk;exact⟨ha,hk⟩
  ·rw [if_pos ha] at hk;exact absurd hk ha
 refine⟨?_,nz _ _,?_,nz _ _,fun p q=>?_⟩
 ·unfold es2;split<;>omega
 ·unfold es2;split<;>omega
 ·obtain⟨p1,p2⟩:=v0 _ _ p;obtain⟨q1,q2⟩:=v0 _ _ q;unfold ex2;rw [if_neg (by omega),if_neg (by omega),if_neg (by omega),if_neg (by omega),ex_zero p1,ex_zero p2,ex_zero q1,ex_zero q2];have a:=fl_le_iff.2 h.2.1;have b:=fl_le_iff.2 h'.2.1
  grind
theorem numok_idx{i j:Int}(h:Ne i j):NumOk (es i) (ex i) (es j) (ex j):=by
 have hM:=M_val;unfold Ne at h;refine⟨by unfold es;split<;>(try split)<;>omega,fun hk=>by unfold ex;rw [if_neg hk],by unfold es;split<;>(try split)<;>omega,fun hk=>by unfold ex;rw [if_neg hk],fun p q=>?_⟩;rw [ex_zero p,ex_zero q]
 exact fl_le_iff.2 h.2.1
def fmr(i1 j1 iz jz i2 j2 i3 j3:Int):Int × Int:=
 if j1<i1\/jz<iz\/j2<i2\/j3<i3 then ((M:Int),-(M:Int))
 else fa i1 j1 (es2 (es i2) (es (-jz))) (ex2 (es i2) (ex i2) (es (-jz)) (ex (-jz))) (es2 (es j2) (es (-iz))) (ex2 (es j2) (ex j2) (es (-iz)) (ex (-iz))) i3 j3
theorem fmarev_any(b1 b2 z1 z2 c1 c2 x y:Nat)(w:World)(hb1:b1<18446744073709551616)(hb2:b2<18446744073709551616)(hz1:z1<18446744073709551616)(hz2:z2<18446744073709551616)(hc1:c1<18446744073709551616)(hc2:c2<18446744073709551616)(hx:x<18446744073709551616)(hy:y<18446744073709551616):
  Rt 31 #[Zf b1 b2,Zf z1 z2,Zf c1 c2,Zf x y] (Zf (pat (fmr (rd b1 b2).1 (rd b1 b2).2 (rd z1 z2).1 (rd z1 z2).2 (rd c1 c2).1 (rd c1 c2).2 (rd x y).1 (rd x y).2).1) (pat (fmr (rd b1 b2).1 (rd b1 b2).2 (rd z1 z2).1 (rd z1 z2).2 (rd c1 c2).1 (rd c1 c2).2 (rd x y).1 (rd x y).2).2)) w:=by
 have v1:=rd_iv b1 b2;have v2:=rd_iv z1 z2;have v3:=rd_iv c1 c2;have v4:=rd_iv x y;have t1:=fun W=>readf b1 b2 W hb1 hb2;have t2:=fun W=>readf z1 z2 W hz1 hz2;have t3:=fun W=>readf c1 c2 W hc1 hc2;have t4:=fun W=>readf x y W hx hy
 obtain⟨⟨i1,j1⟩,r1⟩:∃ z,rd b1 b2=z:=⟨_,rfl⟩
 obtain⟨⟨iz,jz⟩,r2⟩:∃ z,rd z1 z2=z:=⟨_,rfl⟩
 obtain⟨⟨i2,j2⟩,r3⟩:∃ z,rd c1 c2=z:=⟨_,rfl⟩
 obtain⟨⟨i3,j3⟩,r4⟩:∃ z,rd x y=z:=⟨_,rfl⟩
 rw [r1] at v1 t1;rw [r2] at v2 t2;rw [r3] at v3 t3;rw [r4] at v4 t4;rw [r1,r2,r3,r4]
 dsimp only at *
 have m1:=em_idx v1;have m2:=em_idx v2;have m3:=em_idx v3;have m4:=em_idx v4;unfold fmr
 by_cases hno:j1<i1\/jz<iz\/j2<i2\/j3<i3
 ·rw [if_pos hno,pat_max,pat_min]
  exact fmarev_none _ _ _ _ _ _ _ _ _ _ _ _ _ _ _ _ _ _ _ _ w t1 m1 t2 m2 t3 m3 t4 m4 (by simp;omega)
 ·rw [if_neg hno];have n1:=ne_or v1 (by omega);have n2:=ne_or v2 (by omega);have n3:=ne_or v3 (by omega);have n4:=ne_or v4 (by omega);have k:=numok_sum n3 n2.neg;have L1:=fun W=>less_gen i2 jz W v3.lo v2.hi;have L2:=fun W=>less_gen j2 iz W v3.hi v2.lo
  exact fmarev_some _ _ _ _ _ _ _ _ _ _ _ _ _ _ _ _ _ _ _ _ _ _ _ _ _ _ w t1 m1 t2 m2 t3 m3 t4 m4 (by simp;omega) L1 L2 (fun g1 A1 n1' c1' E1 g2 A2 n2' c2' E2 W e1 e2=>factor_any i1 j1 _ g1 A1 n1' c1' E1 _ _ g2 A2 n2' c2' E2 _ i3 j3 W n1 n4 k e1 e2)
def mlr(i1 j1 i2 j2 i3 j3:Int):Int × Int:=
 if j1<i1\/j2<i2\/j3<i3 then ((M:Int),-(M:Int)) else fa i1 j1 (es i2) (ex i2) (es j2) (ex j2) i3 j3
theorem fmr_mlr{i1 j1 i2 j2 i3 j3:Int}(h2:Iv i2 j2):fmr i1 j1 0 0 i2 j2 i3 j3=mlr i1 j1 i2 j2 i3 j3:=by
 unfold fmr mlr
 by_cases hno:j1<i1\/j2<i2\/j3<i3
 ·rw [if_pos hno,if_pos (by omega)]
 ·rw [if_neg hno,if_neg (by omega)]
  have e1:∀ k:Int,es2 (es k) (es (-0))=es k:=fun k=>by
   unfold es2;rw [show es (-0)=0 from es_nought]
   split
   ·rfl
   ·omega
  have e2:∀ k:Int,ex2 (es k) (ex k) (es (-0)) (ex (-0))=ex k:=fun k=>by
   unfold ex2;rw [show es (-0)=0 from es_nought,show ex (-0)=0 from ex_nought]
   split
   ·rfl
   ·rw [if_neg (by omega)];grind
  rw [e1,e1,e2,e2]
theorem rd_nought:rd 0 0=(0,0):=by
 have h:=rd_pat (i:=0) (j:=0) (.inl (by have hM:=M_val;omega))
 rwa [pat_zero] at h
theorem mulrev_any(b1 b2 c1 c2 x y:Nat)(w:World)(hb1:b1<18446744073709551616)(hb2:b2<18446744073709551616)(hc1:c1<18446744073709551616)(hc2:c2<18446744073709551616)(hx:x<18446744073709551616)(hy:y<18446744073709551616):
  Rt 25 #[Zf b1 b2,Zf c1 c2,Zf x y] (Zf (pat (mlr (rd b1 b2).1 (rd b1 b2).2 (rd c1 c2).1 (rd c1 c2).2 (rd x y).1 (rd x y).2).1) (pat (mlr (rd b1 b2).1 (rd b1 b2).2 (rd c1 c2).1 (rd c1 c2).2 (rd x y).1 (rd x y).2).2)) w:=by
 refine mulrev_walk b1 b2 c1 c2 x y _ _ w fun W=>?_;have h:=fmarev_any b1 b2 0 0 c1 c2 x y W hb1 hb2 (by omega) (by omega) hc1 hc2 hx hy;rw [rd_nought,fmr_mlr (rd_iv c1 c2)] at h
 exact h
end
section
open Go.RowKit
def NewPcF(w:World)(F:Int->Int->Int × Int)(e:Ending)(w':World):Prop:=
 ∃ o s1 g1 A1 n1 c1 B1 m1 d1 N1 o1 s2 g2 A2 n2 c2 B2 m2 d2 N2 o2,
  e=.returned (.agg #[.bool o,.int .i64 s1,.bool g1,.slice A1 n1 c1,.slice B1 m1 d1,.int .i64 N1,.bool o1,.int .i64 s2,.bool g2,.slice A2 n2 c2,.slice B2 m2 d2,.int .i64 N2,.bool o2])/\PcW w' o s1 g1 A1 n1 c1 B1 m1 d1 N1 o1 s2 g2 A2 n2 c2 B2 m2 d2 N2 o2 F/\Below w.heap.size w w'
theorem esx_idx{i:Int}(h:-(M:Int)<=i/\i<=M):(0<esx (es i) (ex i)↔0<i)/\(esx (es i) (ex i)<0↔i<0):=by
 have hM:=M_val
 by_cases h1:i=M
 ·subst h1;rw [es_max];unfold esx;rw [if_pos (by omega)];omega
 ·by_cases h2:i=-(M:Int)
  ·subst h2;rw [es_min];unfold esx;rw [if_pos (by omega)];omega
  ·rw [es_mid (by omega) (by omega),ex_mid (by omega) (by omega)];unfold esx rsg;rw [if_neg (by omega)]
   rcases Int.lt_trichotomy i 0 with h3 | h3 | h3
   ·have:=fl_lt_iff.2 h3;rw [fl_zero] at this;rw [if_neg (by grind),if_pos this];omega
   ·subst h3;rw [fl_zero];simp
   ·have:=fl_pos h3;rw [if_neg (by grind),if_neg (by grind)];omega
theorem NewPiece.up{w w':World}{K K':Nat}{o:Bool}{s:Int}{x:Rat}{N:Int}{p:Bool}{s':Int}{x':Rat}{N':Int}{p':Bool}{e:Ending}(h:NewPiece w K o s x N p s' x' N' p' e w')(hk:K<=K'):NewPiece w K' o s x N p s' x' N' p' e w':=by
 obtain⟨g,A,n,c,B,m,d,g',A',n',c',B',m',d',rfl,h1,h2,hb⟩:=h
 exact⟨g,A,n,c,B,m,d,g',A',n',c',B',m',d',rfl,h1.mono hk,h2.mono hk,hb⟩
def ngF(F:Int->Int->Int × Int):Int->Int->Int × Int:=fun i j=>(-(F (-j) (-i)).2,-(F (-j) (-i)).1)
def PcV(w:World)(o:Bool)(s1:Int)(g1:Bool)(A1:Option Addr)(n1 c1:Nat)(B1:Option Addr)(m1 d1:Nat)(N1:Int)(o1:Bool)(s2:Int)(g2:Bool)(A2:Option Addr)(n2 c2:Nat)(B2:Option Addr)(m2 d2:Nat)(N2:Int)(o2:Bool)(F:Int->Int->Int × Int):Prop:=
 PcW w o s1 g1 A1 n1 c1 B1 m1 d1 N1 o1 s2 g2 A2 n2 c2 B2 m2 d2 N2 o2 F/\∀ W,Below w.heap.size w W ->
  Calls Tryz.prog 109 #[.agg #[.bool o,.int .i64 s1,.bool g1,.slice A1 n1 c1,.slice B1 m1 d1,.int .i64 N1,.bool o1,.int .i64 s2,.bool g2,.slice A2 n2 c2,.slice B2 m2 d2,.int .i64 N2,.bool o2]] W (NewPcF W (ngF F))
section
variable {w w':World} {K:Nat} {o:Bool} {s1:Int} {g1:Bool} {A1:Option Addr} {n1 c1:Nat} {B1:Option Addr} {m1 d1:Nat} {N1:Int} {o1:Bool} {s2:Int} {g2:Bool} {A2:Option Addr} {n2 c2:Nat} {B2:Option Addr} {m2 d2:Nat} {N2:Int} {o2:Bool} {x1 x2:Rat} {F:Int->Int->Int × Int}
theorem PcV.below(h:PcV w o s1 g1 A1 n1 c1 B1 m1 d1 N1 o1 s2 g2 A2 n2 c2 B2 m2 d2 N2 o2 F)(hb:Below w.heap.size w w'):PcV w' o s1 g1 A1 n1 c1 B1 m1 d1 N1 o1 s2 g2 A2 n2 c2 B2 m2 d2 N2 o2 F:=
 ⟨h.1.below hb,fun W hW=>h.2 W (hb.trans (hW.mono hb.size))⟩
end
end
structure Cl (F:Int->Int->Int × Int):Prop where
 iv:∀ i j,Iv i j->Iv (F i j).1 (F i j).2
 sub:∀ i j,Iv i j->i<=(F i j).1/\(F i j).2<=j
 mono:∀ i j i' j',Iv i j->Iv i' j'->i'<=i->j<=j'->(F i' j').1<=(F i j).1/\(F i j).2<=(F i' j').2
 idem:∀ i j,Iv i j->F (F i j).1 (F i j).2=F i j
theorem Cl.none:Cl fun _ _=>((M:Int),-(M:Int)):=
 ⟨fun _ _ _=>Iv.none,fun _ _ h=>⟨h.lo.2,h.hi.1⟩,fun _ _ _ _ _ _ _ _=>⟨Int.le_refl _,Int.le_refl _⟩,fun _ _ _=>rfl⟩
theorem Cl.id:Cl fun i j=>(i,j):=
 ⟨fun _ _ h=>h,fun _ _ _=>⟨Int.le_refl _,Int.le_refl _⟩,fun _ _ _ _ _ _ h1 h2=>⟨h1,h2⟩,fun _ _ _=>rfl⟩
theorem Iv.hull{a b c d:Int}(h:Iv a b)(h':Iv c d):Iv (min a c) (max b d):=by
 have hM:=M_val;unfold Iv at *
 omega
theorem Iv.ng{a b:Int}(h:Iv a b):Iv (-b) (-a):=by
 have hM:=M_val;unfold Iv at *
 omega
theorem pair_le{p q:Int × Int}(h1:p.1<=q.1)(h2:q.1<=p.1)(h3:p.2<=q.2)(h4:q.2<=p.2):p=q:=Prod.ext (by omega) (by omega)
theorem Cl.hull{F G:Int->Int->Int × Int}(f:Cl F)(g:Cl G):Cl fun i j=>(min (F i j).1 (G i j).1,max (F i j).2 (G i j).2):=by
 refine⟨fun i j h=>(f.iv i j h).hull (g.iv i j h),fun i j h=>?_,fun i j i' j' h h' h1 h2=>?_,fun i j h=>?_⟩
 ·have a:=f.sub i j h;have b:=g.sub i j h
  dsimp only;omega
 ·have a:=f.mono i j i' j' h h' h1 h2;have b:=g.mono i j i' j' h h' h1 h2
  dsimp only;omega
 ·have vf:=f.iv i j h;have vg:=g.iv i j h;have hu:=vf.hull vg;have a:=f.sub i j h;have b:=g.sub i j h;have a1:=f.mono _ _ _ _ vf hu (Int.min_le_left _ _) (Int.le_max_left _ _);have a2:=f.mono _ _ _ _ hu h (by omega) (by omega);have a3:=f.idem i j h;have b1:=g.mono _ _ _ _ vg hu (Int.min_le_right _ _) (Int.le_max_right _ _);have b2:=g.mono _ _ _ _ hu h (by omega) (by omega);have b3:=g.idem i j h;rw [a3] at a1;rw [b3] at b1;have ea:F (min (F i j).1 (G i j).1) (max (F i j).2 (G i j).2)=F i j:=pair_le a1.1 a2.1 a2.2 a1.2;have eb:G (min (F i j).1 (G i j).1) (max (F i j).2 (G i j).2)=G i j:=pair_le b1.1 b2.1 b2.2 b1.2
  dsimp only
  rw [ea,eb]
theorem Cl.ng{F:Int->Int->Int × Int}(f:Cl F):Cl fun i j=>(-(F (-j) (-i)).2,-(F (-j) (-i)).1):=by
 refine⟨fun i j h=>(f.iv _ _ h.ng).ng,fun i j h=>?_,fun i j i' j' h h' h1 h2=>?_,fun i j h=>?_⟩
 ·have a:=f.sub _ _ h.ng
  dsimp only;omega
 ·have a:=f.mono _ _ _ _ h.ng h'.ng (show -j'<=-j by omega) (show -i<=-i' by omega)
  dsimp only;omega
 ·have a:=f.idem _ _ h.ng
  dsimp only
  rw [Int.neg_neg,Int.neg_neg,a]
def cto(o1 o2:Bool)(i j pd pu qd qu:Int):Int × Int:=
 if qd<i\/(qd=i/\qu=i/\o2=true)\/j<pu\/(pd=j/\pu=j/\o1=true) then ((M:Int),-(M:Int)) else (max i pd,min j qu)
theorem Cl.cto{o1 o2:Bool}{pd pu qd qu:Int}(h1:-(M:Int)<=pd/\pd<M)(h2:-(M:Int)<qu/\qu<=M)(hp:pd<=pu)(hq:qd<=qu)(hd:pd<=qd)(hu:pu<=qu)(ho:pd=qu->o1=false/\o2=false):Cl fun i j=>cto o1 o2 i j pd pu qd qu:=by
 have hM:=M_val
 have none:∀ a b:Int,¬ (Iv a b/\¬ (a=M/\b=-(M:Int))/\b<a):=by unfold Iv;omega
 refine⟨fun i j h=>?_,fun i j h=>?_,fun i j i' j' h h' k1 k2=>?_,fun i j h=>?_⟩
 ·unfold Go.Proofs.YthlmlmfebpjgdaaGreatDoor.cto
  split
  ·exact Iv.none
  ·unfold Iv at *
   dsimp only
   omega
 ·unfold Go.Proofs.YthlmlmfebpjgdaaGreatDoor.cto
  split
  ·exact⟨h.lo.2,h.hi.1⟩
  ·dsimp only;omega
 ·unfold Go.Proofs.YthlmlmfebpjgdaaGreatDoor.cto
  by_cases c:qd<i\/(qd=i/\qu=i/\o2=true)\/j<pu\/(pd=j/\pu=j/\o1=true)
  ·rw [if_pos c]
   split
   ·exact⟨Int.le_refl _,Int.le_refl _⟩
   ·have:=h'.lo;have:=h'.hi
    dsimp only
    omega
  ·rw [if_neg c,if_neg]
   ·dsimp only;omega
   ·rintro (q | ⟨q1,q2,q3⟩ | q | ⟨q1,q2,q3⟩)
    ·omega
    ·exact c (by rcases Int.lt_or_eq_of_le k1 with z | z
                 ·exact .inl (by omega)
                 ·exact .inr (.inl ⟨by omega,by omega,q3⟩))
    ·omega
    ·exact c (by rcases Int.lt_or_eq_of_le k2 with z | z
                 ·exact .inr (.inr (.inl (by omega)))
                 ·exact .inr (.inr (.inr ⟨by omega,by omega,q3⟩)))
 ·by_cases c:qd<i\/(qd=i/\qu=i/\o2=true)\/j<pu\/(pd=j/\pu=j/\o1=true)
  ·have e:Go.Proofs.YthlmlmfebpjgdaaGreatDoor.cto o1 o2 i j pd pu qd qu=((M:Int),-(M:Int)):=by unfold Go.Proofs.YthlmlmfebpjgdaaGreatDoor.cto;rw [if_pos c]
   rw [e];unfold Go.Proofs.YthlmlmfebpjgdaaGreatDoor.cto
   split
   ·rfl
   ·exact Prod.ext (by dsimp only;omega) (by dsimp only;omega)
  ·have e:Go.Proofs.YthlmlmfebpjgdaaGreatDoor.cto o1 o2 i j pd pu qd qu=(max i pd,min j qu):=by unfold Go.Proofs.YthlmlmfebpjgdaaGreatDoor.cto;rw [if_neg c]
   rw [e]
   dsimp only
   unfold Go.Proofs.YthlmlmfebpjgdaaGreatDoor.cto;rw [if_neg]
   ·exact Prod.ext (by dsimp only;omega) (by dsimp only;omega)
   ·rintro (q | ⟨q1,q2,q3⟩ | q | ⟨q1,q2,q3⟩)
    ·omega
    ·by_cases z:pd<=i
     ·exact c (.inr (.inl ⟨by omega,by omega,q3⟩))
     ·have:=(ho (by omega)).2;rw [this] at q3;cases q3
    ·omega
    ·by_cases z:j<=qu
     ·exact c (.inr (.inr (.inr ⟨by omega,by omega,q3⟩)))
     ·have:=(ho (by omega)).1;rw [this] at q3;cases q3
theorem ct_cto(i j pd pu qd qu:Int):ct i j pd pu qd qu=cto false false i j pd pu qd qu:=by
 unfold ct cto
 by_cases c:qd<i\/j<pu
 ·rw [if_pos c,if_pos (by rcases c with c | c;exact .inl c;exact .inr (.inr (.inl c)))]
 ·rw [if_neg c,if_neg (by rintro (q | ⟨-,-,q⟩ | q | ⟨-,-,q⟩);exact c (.inl q);cases q;exact c (.inr q);cases q)]
theorem Cl.ct{pd pu qd qu:Int}(h1:-(M:Int)<=pd/\pd<M)(h2:-(M:Int)<qu/\qu<=M)(hp:pd<=pu)(hq:qd<=qu)(hd:pd<=qd)(hu:pu<=qu):Cl fun i j=>Go.Proofs.YthlmlmfebpjgdaaGreatDoor.ct i j pd pu qd qu:=by
 have k:=Cl.cto (o1:=false) (o2:=false) h1 h2 hp hq hd hu (fun _=>⟨rfl,rfl⟩)
 have e:(fun i j=>Go.Proofs.YthlmlmfebpjgdaaGreatDoor.ct i j pd pu qd qu)=fun i j=>Go.Proofs.YthlmlmfebpjgdaaGreatDoor.cto false false i j pd pu qd qu:=by funext i j;exact ct_cto _ _ _ _ _ _
 rw [e];exact k
theorem Cl.congr{F G:Int->Int->Int × Int}(g:Cl G)(h:∀ i j,Iv i j->F i j=G i j):Cl F:=by
 refine⟨fun i j v=>by rw [h i j v];exact g.iv i j v,fun i j v=>by rw [h i j v];exact g.sub i j v,fun i j i' j' v v' h1 h2=>by rw [h i j v,h i' j' v'];exact g.mono i j i' j' v v' h1 h2,fun i j v=>?_⟩;rw [h i j v,h _ _ (g.iv i j v)]
 exact g.idem i j v
theorem Cl.empty{F:Int->Int->Int × Int}(f:Cl F){i j:Int}(v:Iv i j)(h:j<i):F i j=((M:Int),-(M:Int)):=by
 have hM:=M_val;have a:=f.iv i j v;have b:=f.sub i j v
 rcases v with v | ⟨rfl,rfl⟩
 ·omega
 ·unfold Iv at a
  exact Prod.ext (by dsimp only;omega) (by dsimp only;omega)
theorem Cl.cut{F G:Int->Int->Int × Int}(g:Cl G)(h:∀ i j,Ne i j->F i j=G i j)(h0:∀ i j,j<i->F i j=((M:Int),-(M:Int))):Cl F:=
 g.congr fun i j v=>by
  by_cases c:j<i
  ·rw [h0 i j c,g.empty v c]
  ·exact h i j (ne_or v c)
theorem ec_eq{i s:Int}{x:Rat}(hi:-(M:Int)<=i/\i<=M)(hs:s=0\/s=1\/s=-1):ec (es i) (ex i) s x=0↔dn s x=i/\up s x=i:=by
 have hM:=M_val
 by_cases h0:s=0
 ·subst h0;rw [dn_zero,up_zero];have a:=rndI_down x;have b:=rndI_up x
  by_cases h:es i=0
  ·have z:=es_zero h;rw [h,ec_zero,ex_zero h]
   constructor
   ·intro e
    have e2:fl i=x:=by
     unfold rc at e
     split at e
     ·omega
     ·split at e
      ·omega
      ·grind
    rw [<- e2]
    exact⟨rndI_fl (.inl rfl) (by omega) (by omega),rndI_fl (.inr rfl) (by omega) (by omega)⟩
   ·rintro⟨e1,e2⟩;have k1:=(a.2.2 i (by omega) (by omega)).1 (by omega);have k2:=(b.2.2 i (by omega) (by omega)).1 (by omega);unfold rc;rw [if_neg (by grind),if_neg (by grind)]
  ·have hi2:i=M\/i=-(M:Int):=by
    by_cases q:i=M
    ·exact .inl q
    ·by_cases q2:i=-(M:Int)
     ·exact .inr q2
     ·exact absurd (es_mid (by omega) (by omega)) h
   unfold ec;rw [if_neg h]
   constructor
   ·intro e;split at e<;>omega
   ·rintro⟨e1,e2⟩;omega
 ·have d1:dn s x=s*M:=by unfold dn;rw [if_neg h0]
  have d2:up s x=s*M:=by unfold up;rw [if_neg h0]
  rw [d1,d2];unfold ec es
  rcases hs with rfl | rfl | rfl
  ·omega
  ·by_cases q:i=M
   ·rw [if_pos q,if_pos rfl,if_neg (by omega)];omega
   ·by_cases q2:i=-(M:Int)
    ·rw [if_neg q,if_pos q2,if_neg (by omega),if_pos (by omega)];omega
    ·rw [if_neg q,if_neg q2,if_neg (by omega),if_pos (by omega)];omega
  ·by_cases q:i=M
   ·rw [if_pos q,if_neg (by omega),if_neg (by omega)];omega
   ·by_cases q2:i=-(M:Int)
    ·rw [if_neg q,if_pos q2,if_pos rfl,if_neg (by omega)];omega
    ·rw [if_neg q,if_neg q2,if_neg (by omega),if_neg (by omega)];omega
theorem pf_cto{s1:Int}{x1:Rat}{o1:Bool}{s2:Int}{x2:Rat}{o2:Bool}(hs1:s1=0\/s1=-1)(hs2:s2=0\/s2=1)(i j:Int)(h:Ne i j):
  pf s1 x1 o1 s2 x2 o2 i j=cto o1 o2 i j (dn s1 x1) (up s1 x1) (dn s2 x2) (up s2 x2):=by
 have hM:=M_val;unfold Ne at h;unfold pf;rw [if_neg (by omega)];unfold wg cto;rw [ec_lo_at (by omega) hs1,ec_hi_at (by omega) hs2];have e1:=ec_hi (i:=i) (s:=s2) (x:=x2) (by omega) hs2;have e2:=ec_lo (j:=j) (s:=s1) (x:=x1) (by omega) hs1;have e3:=ec_eq (i:=i) (s:=s2) (x:=x2) (by omega) (by omega);have e4:=ec_eq (i:=j) (s:=s1) (x:=x1) (by omega) (by omega)
 by_cases c:dn s2 x2<i\/(dn s2 x2=i/\up s2 x2=i/\o2=true)\/j<up s1 x1\/(dn s1 x1=j/\up s1 x1=j/\o1=true)
 ·rw [if_pos c,if_pos]
  rcases c with q | ⟨q1,q2,q3⟩ | q | ⟨q1,q2,q3⟩
  ·exact .inl (e1.2 q)
  ·exact .inr (.inl ⟨e3.2 ⟨q1,q2⟩,q3⟩)
  ·exact .inr (.inr (.inl (e2.2 q)))
  ·exact .inr (.inr (.inr ⟨e4.2 ⟨q1,q2⟩,q3⟩))
 ·rw [if_neg c,if_neg];rintro (q | ⟨q,q3⟩ | q | ⟨q,q3⟩)
  ·exact c (.inl (e1.1 q))
  ·exact c (.inr (.inl ⟨(e3.1 q).1,(e3.1 q).2,q3⟩))
  ·exact c (.inr (.inr (.inl (e2.1 q))))
  ·exact c (.inr (.inr (.inr ⟨(e4.1 q).1,(e4.1 q).2,q3⟩)))
def Od(s1:Int)(x1:Rat)(o1:Bool)(s2:Int)(x2:Rat)(o2:Bool):Prop:=s1=0->s2=0->x1<x2\/(x1=x2/\o1=false/\o2=false)
theorem Cl.pf{s1:Int}{x1:Rat}{o1:Bool}{s2:Int}{x2:Rat}{o2:Bool}(hs1:s1=0\/s1=-1)(hs2:s2=0\/s2=1)(h:Od s1 x1 o1 s2 x2 o2):Cl (Go.Proofs.YthlmlmfebpjgdaaGreatDoor.pf s1 x1 o1 s2 x2 o2):=by
 have hM:=M_val;have a:=dn_lt (x:=x1) hs1;have b:=up_gt (x:=x2) hs2;have p:=dn_le_up s1 x1;have q:=dn_le_up s2 x2
 have k:dn s1 x1<=dn s2 x2/\up s1 x1<=up s2 x2/\(dn s1 x1=up s2 x2->o1=false/\o2=false):=by
  by_cases c1:s1=0
  ·by_cases c2:s2=0
   ·have z:=h c1 c2;subst c1 c2;rw [dn_zero,up_zero,dn_zero,up_zero] at *
    have le:x1<=x2:=by rcases z with z | z<;>grind
    refine⟨rndI_mono (.inl rfl) le,rndI_mono (.inr rfl) le,fun e=>?_⟩
    rcases z with z | z
    ·exfalso
     have k1:=rndI_down x1;have k2:=rndI_up x2;have l1:=(k1.2.2 (rndI (-1) x1) (by omega) (by omega)).1 (Int.le_refl _);have l2:=(k2.2.2 (rndI (-1) x1) (by omega) (by omega)).1 (by omega)
     grind
    ·exact z.2
   ·have e1:dn s2 x2=M:=by unfold dn;rw [if_neg c2];rcases hs2 with r | r<;>first | omega | (rw [r];omega)
    have e2:up s2 x2=M:=by unfold up;rw [if_neg c2];rcases hs2 with r | r<;>first | omega | (rw [r];omega)
    have:=rndI_up x1
    have:up s1 x1<=M:=by rw [c1,up_zero];omega
    exact⟨by omega,by omega,fun e=>by omega⟩
  ·have e1:dn s1 x1=-(M:Int):=by unfold dn;rw [if_neg c1];rcases hs1 with r | r<;>first | omega | (rw [r];omega)
   have e2:up s1 x1=-(M:Int):=by unfold up;rw [if_neg c1];rcases hs1 with r | r<;>first | omega | (rw [r];omega)
   have:-(M:Int)<=dn s2 x2:=by
    rcases hs2 with r | r
    ·rw [r,dn_zero];have:=rndI_down x2;omega
    ·unfold dn;rw [if_neg (by omega),r];omega
   exact⟨by omega,by omega,fun e=>by omega⟩
 refine (Cl.cto (o1:=o1) (o2:=o2) a b p q k.1 k.2.1 k.2.2).cut (fun i j n=>pf_cto hs1 hs2 i j n) (fun i j c=>?_);unfold Go.Proofs.YthlmlmfebpjgdaaGreatDoor.pf;rw [if_pos c]
section
open Go.RowKit
theorem rep_dvd{n:Int}{k:Nat}(h:Rep n)(hn:2^(52+k)<=n.natAbs):(2:Int)^k ∣ n:=by
 obtain⟨q,j,hq,e⟩:=rep_iff.1 h
 have hj:k<=j:=by
  apply Nat.le_of_not_lt
  intro hlt;have h1:q*2^j<2^53*2^j:=Nat.mul_lt_mul_of_pos_right hq (Nat.two_pow_pos j)
  have h2:2^53*2^j<=2^(52+k):=by rw [<- Nat.pow_add];exact Nat.pow_le_pow_right (by omega) (by omega)
  rw [e] at hn
  exact absurd (Nat.lt_of_lt_of_le h1 (Nat.le_trans h2 hn)) (Nat.lt_irrefl _)
 exact Int.dvd_trans (pow_dvd_le hj) (dvd_of_natAbs e)
theorem R_err{n:Int}(k:Nat)(h:n.natAbs<=2^53*2^k):2*(n - R n).natAbs<=2^k:=by
 have hK:0<2^k:=Nat.two_pow_pos k
 have hKi:((2^k:Nat):Int)=(2:Int)^k:=by rw [Int.natCast_pow];rfl
 have hd:n=(2:Int)^k*(n / (2:Int)^k)+n % (2:Int)^k:=(Int.mul_ediv_add_emod n _).symm;have hb0:0<=n % (2:Int)^k:=Int.emod_nonneg _ (by omega);have hb1:n % (2:Int)^k<(2:Int)^k:=Int.emod_lt_of_pos _ (by omega);generalize n / (2:Int)^k=a at hd;generalize n % (2:Int)^k=b at hd hb0 hb1
 have rp:∀ c:Int,c.natAbs<=2^53->Rep ((2:Int)^k*c):=fun c hc=>rep_of_dvd k (Int.dvd_mul_right _ _) (by
  rw [Int.natAbs_mul,Int.natAbs_pow,Nat.mul_comm]
  exact Nat.mul_le_mul_right _ hc)
 have c1:a<=2^53:=by
  apply Int.le_of_not_gt;intro hlt
  have h1:(2:Int)^k*(2^53+1)<=(2:Int)^k*a:=Int.mul_le_mul_of_nonneg_left (by omega) (by omega)
  have h2:(n.natAbs:Int)<=2^53*2^k:=by exact_mod_cast h
  have h3:(2:Int)^k*(2^53+1)=2^53*2^k+2^k:=by rw [Int.mul_add,Int.mul_one,Int.mul_comm]
  omega
 have c2:-2^53<=a:=by
  apply Int.le_of_not_gt;intro hlt
  have h1:(2:Int)^k*a<=(2:Int)^k*(-2^53 - 1):=Int.mul_le_mul_of_nonneg_left (by omega) (by omega)
  have h2:(n.natAbs:Int)<=2^53*2^k:=by exact_mod_cast h
  have h3:(2:Int)^k*(-2^53 - 1)=-(2^53*2^k) - 2^k:=by rw [Int.mul_sub,Int.mul_one,Int.mul_comm,Int.neg_mul]
  omega
 have n1:=R_nearest (n:=n) (rp a (by omega))
 by_cases hb:b=0
 ·have e:n - (2:Int)^k*a=0:=by omega
  rw [e] at n1
  simp at n1
  omega
 ·have c3:a+1<=2^53:=by
   apply Int.le_of_not_gt;intro hlt
   have ea:a=2^53:=by omega
   have h2:(n.natAbs:Int)<=2^53*2^k:=by exact_mod_cast h
   have h3:(2:Int)^k*a=2^53*2^k:=by rw [ea,Int.mul_comm]
   omega
  have n2:=R_nearest (n:=n) (rp (a+1) (by omega));rw [Int.mul_add,Int.mul_one] at n2
  omega
theorem R_ge{n:Int}{t:Nat}(h:2^t<=n.natAbs):2^t<=(R n).natAbs:=by
 have h0:((2^t:Nat):Int)=(2:Int)^t:=by rw [Int.natCast_pow];rfl
 rcases Int.lt_or_le n 0 with hn | hn
 ·have h1:R n<=-(2:Int)^t:=R_le (rep_two_pow t).neg (by omega)
  omega
 ·have h1:(2:Int)^t<=R n:=le_R (rep_two_pow t) (by omega)
  omega
theorem cut_pos{m:Int}(h1:2^52<=m)(h2:m<2^53):
  ∃ q l:Int,R (R (134217729*m) - R (R (134217729*m) - m))=2^27*q/\m=2^27*q+l/\q.natAbs<=2^26/\l.natAbs<=2^26:=by
 have d1:(2:Int)^27 ∣ R (134217729*m):=rep_dvd (R_rep _) (R_ge (t:=52+27) (by omega));have e1:=R_err (n:=134217729*m) 28 (by omega);have e2:134217729*m<=2^80->2*(134217729*m - R (134217729*m)).natAbs<=2^27:=fun h=>R_err 27 (by omega);have e3:m=2^52->R (134217729*m)=134217729*m:=fun h=>R_of_rep (rep_of_dvd 27 ⟨2^52+2^25,by omega⟩ (by omega));generalize R (134217729*m)=t at *
 have b1:2^79<=t - m:=by
  by_cases hm:m=2^52
  ·have:=e3 hm;omega
  ·by_cases hc:134217729*m<=2^80
   ·have:=e2 hc;omega
   ·omega
 have b2:t - m<=2^80:=by omega
 have d2:(2:Int)^27 ∣ R (t - m):=rep_dvd (R_rep _) (R_ge (t:=52+27) (by omega));have e4:=R_err (n:=t - m) 27 (by omega);generalize R (t - m)=u at *;obtain⟨q,hq⟩:=Int.dvd_sub d1 d2;have hR:R (t - u)=t - u:=R_of_rep (rep_of_dvd 27 (Int.dvd_sub d1 d2) (by omega));refine⟨q,m - 2^27*q,by rw [hR,hq],by omega,by omega,by omega⟩
theorem dcut_any{m:Int}(h1:2^52<=m.natAbs)(h2:m.natAbs<2^53):
  ∃ q l:Int,R (R (134217729*m) - R (R (134217729*m) - m))=2^27*q/\m=2^27*q+l/\q.natAbs<=2^26/\l.natAbs<=2^26:=by
 rcases Int.lt_or_le m 0 with hm | hm
 ·obtain⟨q,l,a,b,c,d⟩:=cut_pos (m:=-m) (by omega) (by omega);refine⟨-q,-l,?_,by omega,by omega,by omega⟩
  rw [show (134217729:Int)*-m=-(134217729*m) from by omega,R_neg,show -R (134217729*m) - -m=-(R (134217729*m) - m) from by omega,R_neg,
   show -R (134217729*m) - -R (R (134217729*m) - m)=-(R (134217729*m) - R (R (134217729*m) - m)) from by omega,R_neg] at a
  omega
 ·exact cut_pos (by omega) (by omega)
theorem missed_at{m n q l q' l':Int}(m1:2^52<=m.natAbs)(m2:m.natAbs<2^53)(n1:2^52<=n.natAbs)(n2:n.natAbs<2^53)(em:m=2^27*q+l)(en:n=2^27*q'+l')(hq:q.natAbs<=2^26)(hl:l.natAbs<=2^26)(hq':q'.natAbs<=2^26)(hl':l'.natAbs<=2^26):
  Rep ((2^27*q)*(2^27*q'))/\Rep ((2^27*q)*l')/\Rep (l*(2^27*q'))/\Rep (l*l') /\
  Rep ((2^27*q)*(2^27*q') - R (m*n))/\Rep ((2^27*q)*(2^27*q') - R (m*n)+(2^27*q)*l')/\Rep ((2^27*q)*(2^27*q') - R (m*n)+(2^27*q)*l'+l*(2^27*q')) /\
  (2^27*q)*(2^27*q') - R (m*n)+(2^27*q)*l'+l*(2^27*q')+l*l'=m*n - R (m*n)/\Rep (m*n - R (m*n))/\(2*(m*n - R (m*n)).natAbs<=2^53):=by
 have p1:(m*n).natAbs<2^106:=by
  rw [Int.natAbs_mul]
  calc m.natAbs*n.natAbs<2^53*2^53:=Nat.mul_lt_mul_of_lt_of_lt m2 n2
   _=2^106:=rfl
 have p2:2^104<=(m*n).natAbs:=by
  rw [Int.natAbs_mul]
  calc 2^104=2^52*2^52:=rfl
   _<=m.natAbs*n.natAbs:=Nat.mul_le_mul m1 n1
 have bd:∀ a b:Int,a.natAbs<=2^26->b.natAbs<=2^26->(a*b).natAbs<=2^52:=fun a b ha hb=>by
  rw [Int.natAbs_mul];exact Nat.le_trans (Nat.mul_le_mul ha hb) (by decide)
 have z1:=bd _ _ hq hq';have z2:=bd _ _ hq hl';have z3:=bd _ _ hl hq';have z4:=bd _ _ hl hl';have err:=R_err (n:=m*n) 53 (by omega);have dv:(2:Int)^52 ∣ R (m*n):=rep_dvd (R_rep _) (R_ge (t:=52+52) p2)
 have f1:(2^27*q)*(2^27*q')=2^54*(q*q'):=by grind
 have f2:(2^27*q)*l'=2^27*(q*l'):=by grind
 have f3:l*(2^27*q')=2^27*(l*q'):=by grind
 have f4:m*n=2^54*(q*q')+2^27*(q*l')+2^27*(l*q')+l*l':=by rw [em,en];grind
 rw [f1,f2,f3];generalize q*q'=Z1 at *;generalize q*l'=Z2 at *;generalize l*q'=Z3 at *;generalize l*l'=Z4 at *;generalize R (m*n)=P at *;generalize m*n=N at *;obtain⟨P',rfl⟩:=dv;clear f1 f2 f3 bd em en;refine⟨rep_of_dvd 54 (Int.dvd_mul_right _ _) (by omega),rep_of_dvd 27 (Int.dvd_mul_right _ _) (by omega),rep_of_dvd 27 (Int.dvd_mul_right _ _) (by omega),rep_of_dvd 0 (Int.one_dvd _) (by omega),rep_of_dvd 52 ⟨4*Z1 - P',by omega⟩ (by omega),rep_of_dvd 27 ⟨2^27*Z1 - 2^25*P'+Z2,by omega⟩ (by omega),rep_of_dvd 0 (Int.one_dvd _) (by omega),by omega,rep_of_dvd 0 (Int.one_dvd _) (by omega),err⟩
theorem nearRung_scale(n d:Nat):nearRung (n*2^d) d=nearRung n 0:=by
 unfold nearRung;rw [Nat.mul_div_cancel _ (Nat.two_pow_pos d),Nat.pow_zero,Nat.div_one,bump_shift,Nat.zero_add]
theorem near_scale(n:Int)(d:Nat):near (n*2^d) d=near n 0:=by
 have hp:(0:Int)<2^d:=by exact_mod_cast Nat.two_pow_pos d
 have e:(n*2^d).natAbs=n.natAbs*2^d:=by rw [Int.natAbs_mul,Int.natAbs_pow];rfl
 unfold near;rw [e,nearRung_scale]
 by_cases h:n<0
 ·rw [if_pos h,if_pos (Int.mul_neg_of_neg_of_pos h hp)]
 ·rw [if_neg h,if_neg (by have:=Int.mul_nonneg (show 0<=n by omega) (Int.le_of_lt hp);omega)]
theorem mag_nearRung_fine{n d:Nat}(h:2^(53+d)<=n):mag (nearRung n d)*2^d=mag (nearRung n 0):=by
 have h0:n≠0:=by have:=Nat.two_pow_pos (53+d);omega
 have hl:53+d<=n.log2:=(Nat.le_log2 h0).2 h
 have eo:over n=over (n / 2^d)+d:=by unfold over;rw [log2_div_pow];omega
 have hk:=over_spec (n / 2^d);rw [mag_nearRung];unfold nearRung floorRung
 obtain⟨o,ho⟩:∃ o,over (n / 2^d)=o:=⟨_,rfl⟩
 rw [ho] at eo hk;rw [ho,eo,div_div_pow] at *;have hb:(bump n (d+o)).toNat<=1:=Bool.toNat_le _;rw [Nat.add_assoc,mag_form o _ (by omega) (by omega),Nat.mul_assoc,<- Nat.pow_add,Nat.add_comm d o]
theorem near_fine{n:Int}{d:Nat}(h:2^(53+d)<=n.natAbs)(hM:-(M:Int)<near n d/\near n d<M):val (near n d)*2^d=R n:=by
 have h1:=near_natAbs n d
 have h2:min (nearRung n.natAbs d) M=nearRung n.natAbs d:=by omega
 have h3:=mag_nearRung_fine h;unfold near R;rw [h2]
 split
 ·rw [val_neg,val_nat,Int.neg_mul]
  congr 1
  exact_mod_cast h3
 ·rw [val_nat]
  exact_mod_cast h3
end
end Go.Proofs.YthlmlmfebpjgdaaGreatDoor
