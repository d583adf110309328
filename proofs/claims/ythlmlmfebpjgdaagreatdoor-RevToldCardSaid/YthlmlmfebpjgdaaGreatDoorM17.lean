/-
Lemmas for the statement: OverT.
-/
import Derived.Test.YthlmlmfebpjgdaaGreatDoorM02
import Derived.Test.YthlmlmfebpjgdaaGreatDoorM14
import Derived.Test.YthlmlmfebpjgdaaGreatDoorM16
set_option linter.unusedSimpArgs false
set_option linter.unusedVariables false
set_option maxHeartbeats 12800000
namespace Go.Proofs.YthlmlmfebpjgdaaGreatDoor
section
open Go.RowKit
attribute [local go_sem] run_store_float run_negf
def esg(s:Int)(g:Bool)(n:Nat):Int:=if s≠0 then s else if n=0 then 0 else if g then -1 else 1
theorem sign_inf(s:Int)(g:Bool)(n:Nat)(A:Option Addr)(c:Nat)(E:Int)(w:World)(hs:s≠0):Rt 158 #[.agg #[.int .i64 s,.bool g,.slice A n c,.int .i64 E]] (.int .i64 (s)) w:=by
 have h0:(s == 0)=false:=by simpa using hs
 have h1:(s != 0)=true:=by simp [hs]
 obtain⟨LB0,LG0_0⟩:=bx1 w #[.int .i64 s,.bool g,.slice A n c,.int .i64 E] 97;have q0:=LG0_0.out.cell 0;have q1:=LG0_0.out.cell 1;have q2:=LG0_0.out.cell 2;have F:=Hd LB0.out
 go_enter Tryz.func158,Tryz.ntmps158
 go_wp2
 go_ret
 exact⟨rfl,F.out⟩
theorem sign_nil(g:Bool)(A:Option Addr)(c:Nat)(E:Int)(w:World):Rt 158 #[.agg #[.int .i64 0,.bool g,.slice A 0 c,.int .i64 E]] (.int .i64 (0)) w:=by
 obtain⟨LB0,LG0_0⟩:=bx1 w #[.int .i64 0,.bool g,.slice A 0 c,.int .i64 E] 97;have q0:=LG0_0.out.cell 0;have q1:=LG0_0.out.cell 1;have q2:=LG0_0.out.cell 2;have F:=Hd LB0.out
 go_enter Tryz.func158,Tryz.ntmps158
 go_wp2
 go_ret
 exact⟨rfl,F.out⟩
theorem sign_neg(n:Nat)(A:Option Addr)(c:Nat)(E:Int)(w:World)(hn:0<n):Rt 158 #[.agg #[.int .i64 0,.bool true,.slice A n c,.int .i64 E]] (.int .i64 (-1)) w:=by
 have h0:((n:Int) == 0)=false:=by simp;omega
 obtain⟨LB0,LG0_0⟩:=bx1 w #[.int .i64 0,.bool true,.slice A n c,.int .i64 E] 97;have q0:=LG0_0.out.cell 0;have q1:=LG0_0.out.cell 1;have q2:=LG0_0.out.cell 2;have F:=Hd LB0.out
 go_enter Tryz.func158,Tryz.ntmps158
 go_wp2
 go_ret
 exact⟨rfl,F.out⟩
theorem sign_pos(n:Nat)(A:Option Addr)(c:Nat)(E:Int)(w:World)(hn:0<n):Rt 158 #[.agg #[.int .i64 0,.bool false,.slice A n c,.int .i64 E]] (.int .i64 (1)) w:=by
 have h0:((n:Int) == 0)=false:=by simp;omega
 obtain⟨LB0,LG0_0⟩:=bx1 w #[.int .i64 0,.bool false,.slice A n c,.int .i64 E] 97;have q0:=LG0_0.out.cell 0;have q1:=LG0_0.out.cell 1;have q2:=LG0_0.out.cell 2;have F:=Hd LB0.out
 go_enter Tryz.func158,Tryz.ntmps158
 go_wp2
 go_ret
 exact⟨rfl,F.out⟩
theorem sign_any(s:Int)(g:Bool)(A:Option Addr)(n c:Nat)(E:Int)(w:World):Rt 158 #[.agg #[.int .i64 s,.bool g,.slice A n c,.int .i64 E]] (.int .i64 (esg s g n)) w:=by
 unfold esg
 by_cases hs:s=0
 ·subst hs;rw [if_neg (by omega)]
  rcases Nat.eq_zero_or_pos n with hn | hn
  ·subst hn;rw [if_pos rfl];exact sign_nil g A c E w
  ·rw [if_neg (by omega)]
   cases g
   ·exact sign_pos n A c E w hn
   ·exact sign_neg n A c E w hn
 ·rw [if_pos hs];exact sign_inf s g n A c E w hs
theorem at_any(b:Nat)(w:World):Rt 88 #[.float .f64 b] (.agg #[.float .f64 b,.float .f64 b]) w:=by
 obtain⟨LB0,LR⟩:=bx1 w #[.float .f64 0,.float .f64 0] 78;have LR0:=Hd (HasBlk.of (n:=2) LR.out rfl rfl);clear LR
 go_enter Tryz.func88,Tryz.ntmps88
 obtain⟨ha0,hf0,ha1,hf1⟩:=LR0.out.sf2;obtain⟨hk0,hk1⟩:=LR0.out.sc2 (.float .f64 b) (.float .f64 b);have F:=Hd (below_sets (w0:=w) (r:=w.heap.size) (by omega) [.float .f64 b,.float .f64 b] 0 _ LB0.out)
 simp [sets] at hk0 hk1
 go_wp2;refine bodyPost_ret (v:=.agg #[.float .f64 b,.float .f64 b]) (by simp [results,Tryz.results88,go_sem,hk0,hk1]) rfl ?_
 exact⟨rfl,below_alloc _ _⟩
theorem over_nought(A:Option Addr)(c:Nat)(E:Int)(y:Nat)(w:World)(s:Int)(g:Bool)(n:Nat)(hs:esg s g n=0):Rt 157 #[.agg #[.int .i64 s,.bool g,.slice A n c,.int .i64 E],.float .f64 y] (.agg #[.float .f64 0,.float .f64 0]) w:=by
 have HS:=Hd fun W=>sign_any s g A n c E W;rw [hs] at HS;have HA:=Hd fun W=>at_any 0 W;obtain⟨LB0,LG0_0,LR⟩:=bx2 w #[.int .i64 s,.bool g,.slice A n c,.int .i64 E] 97 #[.float .f64 0,.float .f64 0] 78;have LR0:=Hd (HasBlk.of (n:=2) LR.out rfl rfl);clear LR
 go_enter Tryz.func157,Tryz.ntmps157
 obtain⟨q0_0,q0_1,q0_2,q0_3⟩:=LG0_0.out.c4;go_wp2_with fail;refine cx (HS.out _) fun w1 hb1=>?_;have LB1:=stB LB0 hb1 LB0.out.size;have LR1:=stR LR0 hb1;have LG0_1:=stG LG0_0 hb1;clear LB0 LR0 LG0_0;clear hb1 HS q0_0 q0_1 q0_2 q0_3;have q0_0:=LG0_1.out.ce 0 rfl;go_wp2_with fail;refine cx (HA.out _) fun w2 hb2=>?_;have LB2:=stB LB1 hb2 LB1.out.size;have LR2:=stR LR1 hb2;have LG0_2:=stG LG0_1 hb2;clear LB1 LR1 LG0_1;clear hb2 HA q0_0;obtain⟨ha0,hf0,ha1,hf1⟩:=LR2.out.sf2;obtain⟨hk0,hk1⟩:=LR2.out.sc2 (.float .f64 0) (.float .f64 0);have F:=Hd (below_sets (w0:=w) (r:=(w.heap.size+1)) (by omega) [.float .f64 0,.float .f64 0] 0 _ LB2.out)
 simp [sets] at hk0 hk1
 go_wp2;refine bodyPost_ret (v:=.agg #[.float .f64 0,.float .f64 0]) (by simp [results,Tryz.results157,go_sem,hk0,hk1]) rfl ?_
 exact⟨rfl,F.out⟩
theorem over_far(A:Option Addr)(c:Nat)(E:Int)(y:Nat)(w:World)(g:Bool)(n:Nat)(hs:esg 0 g n≠0)(hI:∀ W,Calls Tryz.prog 161 #[.float .f64 y,.int .i64 1] W fun e w'=>e=.returned (.bool true)/\W=w'):Rt 157 #[.agg #[.int .i64 0,.bool g,.slice A n c,.int .i64 E],.float .f64 y] (.agg #[.float .f64 0,.float .f64 0]) w:=by
 have HS:=Hd fun W=>sign_any 0 g A n c E W
 obtain⟨sg,hsg⟩:∃ z,esg 0 g n=z:=⟨_,rfl⟩
 rw [hsg] at HS hs
 have hz:(sg == 0)=false:=by simpa using hs
 clear hsg hs;have HI:=Hd hI;clear hI;have HA:=Hd fun W=>at_any 0 W;obtain⟨LB0,LG0_0,LR⟩:=bx2 w #[.int .i64 0,.bool g,.slice A n c,.int .i64 E] 97 #[.float .f64 0,.float .f64 0] 78;have LR0:=Hd (HasBlk.of (n:=2) LR.out rfl rfl);clear LR
 go_enter Tryz.func157,Tryz.ntmps157
 obtain⟨q0_0,q0_1,q0_2,q0_3⟩:=LG0_0.out.c4;go_wp2_with fail;refine cx (HS.out _) fun w1 hb1=>?_;have LB1:=stB LB0 hb1 LB0.out.size;have LR1:=stR LR0 hb1;have LG0_1:=stG LG0_0 hb1;clear LB0 LR0 LG0_0;clear hb1 HS q0_0 q0_1 q0_2 q0_3;have q0_0:=LG0_1.out.ce 0 rfl;go_wp2_with fail;refine (HI.out _).mono ?_;rintro e w' ⟨rfl,rfl⟩;clear HI;go_wp2_with fail;refine cx (HA.out _) fun w2 hb2=>?_;have LB2:=stB LB1 hb2 LB1.out.size;have LR2:=stR LR1 hb2;have LG0_2:=stG LG0_1 hb2;clear LB1 LR1 LG0_1;clear hb2 HA q0_0;obtain⟨ha0,hf0,ha1,hf1⟩:=LR2.out.sf2;obtain⟨hk0,hk1⟩:=LR2.out.sc2 (.float .f64 0) (.float .f64 0);have F:=Hd (below_sets (w0:=w) (r:=(w.heap.size+1)) (by omega) [.float .f64 0,.float .f64 0] 0 _ LB2.out)
 simp [sets] at hk0 hk1
 go_wp2;refine bodyPost_ret (v:=.agg #[.float .f64 0,.float .f64 0]) (by simp [results,Tryz.results157,go_sem,hk0,hk1]) rfl ?_
 exact⟨rfl,F.out⟩
theorem over_inf_pos(g:Bool)(n:Nat)(A:Option Addr)(c:Nat)(E:Int)(y:Nat)(b:Bool)(w:World)(hI:∀ W,Calls Tryz.prog 161 #[.float .f64 y,.int .i64 1] W fun e w'=>e=.returned (.bool b)/\W=w'):Rt 157 #[.agg #[.int .i64 1,.bool g,.slice A n c,.int .i64 E],.float .f64 y] (.agg #[.float .f64 9218868437227405312,.float .f64 9218868437227405312]) w:=by
 have HS:=Hd fun W=>sign_inf 1 g n A c E W (by omega);have HI:=Hd hI;clear hI;have HA:=Hd fun W=>at_any 9218868437227405312 W;have HN:=Hd fun W=>inf_pos W
 cases b
 all_goals
  have LB0:=Hd (show Below w.heap.size w ((w.alloc (.cells #[.int .i64 1,.bool g,.slice A n c,.int .i64 E] 97)).alloc (.cells #[.float .f64 0,.float .f64 0] 78)) from ((below_alloc w _).alloc (by simp<;>omega) _));have LG0_0:=Hd (((Blk.at (W:=w) (g:=w.heap.size) (by simp<;>omega) 97 #[.int .i64 1,.bool g,.slice A n c,.int .i64 E]).alloc (.cells #[.float .f64 0,.float .f64 0] 78)));have LR0:=Hd (HasBlk.of (n:=2) (Blk.at (W:=(w.alloc (.cells #[.int .i64 1,.bool g,.slice A n c,.int .i64 E] 97))) (g:=(w.heap.size+1)) (by simp<;>omega) 78 #[.float .f64 0,.float .f64 0]) rfl rfl)
  go_enter Tryz.func157,Tryz.ntmps157
  have q0_0:=LG0_0.out.ce 0 rfl;have q0_1:=LG0_0.out.ce 1 rfl;have q0_2:=LG0_0.out.ce 2 rfl;have q0_3:=LG0_0.out.ce 3 rfl;go_wp2_with fail;refine cx (HS.out _) fun w1 hb1=>?_;have LB1:=stB LB0 hb1 LB0.out.size;have LR1:=stR LR0 hb1;have LG0_1:=stG LG0_0 hb1;clear LB0 LR0 LG0_0;clear hb1 HS q0_0 q0_1 q0_2 q0_3;have q0_0:=LG0_1.out.ce 0 rfl;go_wp2_with fail;refine (HI.out _).mono ?_;rintro e w' ⟨rfl,rfl⟩;clear HI;go_wp2_with fail;refine (HN.out _).mono ?_;rintro e w' ⟨rfl,rfl⟩;clear HN;go_wp2_with fail;refine cx (HA.out _) fun w2 hb2=>?_;have LB2:=stB LB1 hb2 LB1.out.size;have LR2:=stR LR1 hb2;have LG0_2:=stG LG0_1 hb2;clear LB1 LR1 LG0_1;clear hb2 HA q0_0;obtain⟨ha0,hf0,ha1,hf1⟩:=LR2.out.sf2;obtain⟨hk0,hk1⟩:=LR2.out.sc2 (.float .f64 9218868437227405312) (.float .f64 9218868437227405312);have F:=Hd (below_sets (w0:=w) (r:=(w.heap.size+1)) (by omega) [.float .f64 9218868437227405312,.float .f64 9218868437227405312] 0 _ LB2.out)
  simp [sets] at hk0 hk1
  go_wp2;refine bodyPost_ret (v:=.agg #[.float .f64 9218868437227405312,.float .f64 9218868437227405312]) (by simp [results,Tryz.results157,go_sem,hk0,hk1]) rfl ?_
  exact⟨rfl,F.out⟩
theorem over_inf_neg(g:Bool)(n:Nat)(A:Option Addr)(c:Nat)(E:Int)(y:Nat)(b:Bool)(w:World)(hI:∀ W,Calls Tryz.prog 161 #[.float .f64 y,.int .i64 1] W fun e w'=>e=.returned (.bool b)/\W=w'):Rt 157 #[.agg #[.int .i64 (-1),.bool g,.slice A n c,.int .i64 E],.float .f64 y] (.agg #[.float .f64 18442240474082181120,.float .f64 18442240474082181120]) w:=by
 have HS:=Hd fun W=>sign_inf (-1) g n A c E W (by omega);have HI:=Hd hI;clear hI;have HA:=Hd fun W=>at_any 18442240474082181120 W;have HN:=Hd fun W=>inf_neg W
 cases b
 all_goals
  have LB0:=Hd (show Below w.heap.size w ((w.alloc (.cells #[.int .i64 (-1),.bool g,.slice A n c,.int .i64 E] 97)).alloc (.cells #[.float .f64 0,.float .f64 0] 78)) from ((below_alloc w _).alloc (by simp<;>omega) _));have LG0_0:=Hd (((Blk.at (W:=w) (g:=w.heap.size) (by simp<;>omega) 97 #[.int .i64 (-1),.bool g,.slice A n c,.int .i64 E]).alloc (.cells #[.float .f64 0,.float .f64 0] 78)));have LR0:=Hd (HasBlk.of (n:=2) (Blk.at (W:=(w.alloc (.cells #[.int .i64 (-1),.bool g,.slice A n c,.int .i64 E] 97))) (g:=(w.heap.size+1)) (by simp<;>omega) 78 #[.float .f64 0,.float .f64 0]) rfl rfl)
  go_enter Tryz.func157,Tryz.ntmps157
  have q0_0:=LG0_0.out.ce 0 rfl;have q0_1:=LG0_0.out.ce 1 rfl;have q0_2:=LG0_0.out.ce 2 rfl;have q0_3:=LG0_0.out.ce 3 rfl;go_wp2_with fail;refine cx (HS.out _) fun w1 hb1=>?_;have LB1:=stB LB0 hb1 LB0.out.size;have LR1:=stR LR0 hb1;have LG0_1:=stG LG0_0 hb1;clear LB0 LR0 LG0_0;clear hb1 HS q0_0 q0_1 q0_2 q0_3;have q0_0:=LG0_1.out.ce 0 rfl;go_wp2_with fail;refine (HI.out _).mono ?_;rintro e w' ⟨rfl,rfl⟩;clear HI;go_wp2_with fail;refine (HN.out _).mono ?_;rintro e w' ⟨rfl,rfl⟩;clear HN;go_wp2_with fail;refine cx (HA.out _) fun w2 hb2=>?_;have LB2:=stB LB1 hb2 LB1.out.size;have LR2:=stR LR1 hb2;have LG0_2:=stG LG0_1 hb2;clear LB1 LR1 LG0_1;clear hb2 HA q0_0;obtain⟨ha0,hf0,ha1,hf1⟩:=LR2.out.sf2;obtain⟨hk0,hk1⟩:=LR2.out.sc2 (.float .f64 18442240474082181120) (.float .f64 18442240474082181120);have F:=Hd (below_sets (w0:=w) (r:=(w.heap.size+1)) (by omega) [.float .f64 18442240474082181120,.float .f64 18442240474082181120] 0 _ LB2.out)
  simp [sets] at hk0 hk1
  go_wp2;refine bodyPost_ret (v:=.agg #[.float .f64 18442240474082181120,.float .f64 18442240474082181120]) (by simp [results,Tryz.results157,go_sem,hk0,hk1]) rfl ?_
  exact⟨rfl,F.out⟩
theorem over_fin(g:Bool)(n:Nat)(A:Option Addr)(c S:Nat)(E:Int)(y SY:Nat)(ey:Int)(V1 V2:Nat)(w:World)(hs:esg 0 g n≠0)(hI:∀ W,Calls Tryz.prog 161 #[.float .f64 y,.int .i64 1] W fun e w'=>e=.returned (.bool false)/\W=w')(h1:U32s w A n c (digs S))
  (hS:∀ w,Calls Tryz.prog 168 #[.float .f64 y] w (SplitTo w false SY ey))(hSY:SY<18446744073709551616)(hE:-1074<=E/\E<=971)(hey:-1074<=ey/\ey<=971)
  (hR:∀ B m d W,U32s W A n c (digs S)->U32s W B m d (digs SY)->(Rt 211 #[.int .i64 (-1),.bool g,.slice A n c,.slice B m d,.int .i64 (E - ey)] (.float .f64 V1) W)/\(Rt 211 #[.int .i64 1,.bool g,.slice A n c,.slice B m d,.int .i64 (E - ey)] (.float .f64 V2) W)):
  Rt 157 #[.agg #[.int .i64 0,.bool g,.slice A n c,.int .i64 E],.float .f64 y] (.agg #[.float .f64 V1,.float .f64 V2]) w:=by
 have HS:=Hd fun W=>sign_any 0 g A n c E W
 obtain⟨sg,hsg⟩:∃ z,esg 0 g n=z:=⟨_,rfl⟩
 rw [hsg] at HS hs
 have hz:(sg == 0)=false:=by simpa using hs
 have e0:=hE.1;have e1:=hE.2;have e2:=hey.1;have e3:=hey.2
 have hw:IntKind.i64.wrap (E - ey)=E - ey:=by rw [IntKind.wrap_i64];omega
 have HI:=Hd hI;have HP:=Hd hS;have HM:=Hd fun W=>nsmall_any SY W hSY;have HR:=Hd hR;have U0:=Hd h1;clear hsg hs hI hS hSY hR hE hey h1;obtain⟨LB0,LG0_0,LR⟩:=bx2 w #[.int .i64 0,.bool g,.slice A n c,.int .i64 E] 97 #[.float .f64 0,.float .f64 0] 78;have LR0:=Hd (HasBlk.of (n:=2) LR.out rfl rfl);clear LR;have U1:=Hd (U0.out.below LB0.out);clear U0
 go_enter Tryz.func157,Tryz.ntmps157
 obtain⟨q0_0,q0_1,q0_2,q0_3⟩:=LG0_0.out.c4;go_wp2_with fail;refine cx (HS.out _) fun w1 hb1=>?_;have LB1:=stB LB0 hb1 LB0.out.size;have LR1:=stR LR0 hb1;have LG0_1:=stG LG0_0 hb1;clear LB0 LR0 LG0_0;have U2:=Hd (U1.out.below hb1);clear hb1 HS U1 q0_0 q0_1 q0_2 q0_3;obtain⟨q0_0,q0_1,q0_2,q0_3⟩:=LG0_1.out.c4;go_wp2_with fail;refine (HI.out _).mono ?_;rintro e w' ⟨rfl,rfl⟩;clear HI;go_wp2_with fail;refine cx (HP.out _) fun w2 hb2=>?_;have LB2:=stB LB1 hb2 LB1.out.size;have LR2:=stR LR1 hb2;have LG0_2:=stG LG0_1 hb2;clear LB1 LR1 LG0_1;have U3:=Hd (U2.out.below hb2);clear hb2 HP U2 q0_0 q0_1 q0_2 q0_3;go_wp2_with fail;refine (HM.out _).mono ?_;rintro e w3 ⟨B,m,d,rfl,hu3,hb3⟩;have LB3:=stB LB2 hb3 LB2.out.size;have LR3:=stR LR2 hb3;have LG0_3:=stG LG0_2 hb3;clear LB2 LR2 LG0_2;have U4:=Hd (U3.out.below hb3);have V4:=Hd hu3;clear hu3 hb3 HM U3;go_wp2_with fail;refine wp_region_held_drew (S:=fun W'=>Blk W' w.heap.size 97 #[.int .i64 0,.bool g,.slice A n c,.int .i64 E]/\HasBlk W' (w.heap.size+1) 78 2/\Below w.heap.size w W') (by kernel_rfl) (by exact⟨LG0_3.out.drew,LR3.out.drew,LB3.out.drew⟩) (fun hHeld=>?_);refine tks 0 ?_;refine tks 1 ?_ (hv:=by intro W2 hSw;obtain⟨q0,q1,q2,q3⟩:=hSw.1.c4;go_simp;(try with_reducible rfl));refine tks 2 ?_;refine tks 3 ?_ (hv:=by intro W2 hSw;obtain⟨q0,q1,q2,q3⟩:=hSw.1.c4;go_simp;(try with_reducible rfl));refine tks 4 ?_;refine tks 5 ?_;refine tks 6 ?_ (hv:=by intro W2 hSw;obtain⟨q0,q1,q2,q3⟩:=hSw.1.c4;go_simp;(try with_reducible rfl))
 refine tks 7 ?_;refine tks 8 ?_;refine tks 10 ?_;refine tks 11 ?_ (hv:=by intro W2 hSw;obtain⟨q0,q1,q2,q3⟩:=hSw.1.c4;go_simp;(try with_reducible rfl));refine tks 12 ?_;refine tks 13 ?_ (hv:=by intro W2 hSw;obtain⟨q0,q1,q2,q3⟩:=hSw.1.c4;go_simp;(try with_reducible rfl));refine tks 14 ?_;refine tks 15 ?_;refine tks 16 ?_ (hv:=by intro W2 hSw;obtain⟨q0,q1,q2,q3⟩:=hSw.1.c4;go_simp;(try with_reducible rfl));refine tks 17 ?_;refine tks 18 ?_;refine rdy 9 (fun KK hKK=>?_);go_simp;refine (HR.out _ _ _ _ U4.out.drew V4.out.drew).1.mono ?_;rintro e w4 ⟨rfl,hbA⟩;go_wp2_with fail;refine hKK.out _ _ (⟨hHeld.1.keep hbA,hHeld.2.1.keep hbA,hHeld.2.2.trans (hbA.mono hHeld.2.2.size)⟩) (fun _=>?_);clear hKK KK hHeld;rename_i hHeld;(try simp only [Act.put,lay]);refine rdy 19 (fun KK hKK=>?_);go_simp;refine (HR.out _ _ _ _ (U4.out.drew.below hbA) (V4.out.drew.below hbA)).2.mono ?_;rintro e w5 ⟨rfl,hbB⟩;go_wp2_with fail;refine hKK.out _ _ (⟨hHeld.1.keep hbB,hHeld.2.1.keep hbB,hHeld.2.2.trans (hbB.mono hHeld.2.2.size)⟩) (fun _=>?_);clear hKK KK hHeld;rename_i hHeld;(try simp only [Act.put,lay]);refine tks 20 ?_;refine rdy 21 (fun KK hKK=>?_);have ha0:=hHeld.2.1.someCell 0 (by decide);have hf0:=hHeld.2.1.frozen 0;have ha1:=hHeld.2.1.someCell 1 (by decide);have hf1:=hHeld.2.1.frozen 1;have HK:=Hd (hHeld.2.1.setCell [.float .f64 V1,.float .f64 V2] rfl);have F:=Hd (below_sets (w0:=w) (r:=(w.heap.size+1)) (by omega) [.float .f64 V1,.float .f64 V2] 0 _ hHeld.2.2);go_simp;refine hKK.out _ _ (⟨hHeld.1.other (by omega) 0 [.float .f64 V1,.float .f64 V2],hHeld.2.1.sets [.float .f64 V1,.float .f64 V2] rfl rfl,below_sets (by omega) [.float .f64 V1,.float .f64 V2] 0 _ hHeld.2.2⟩) (fun _=>?_)
 clear hKK KK hHeld;rename_i hHeld;(try simp only [Act.put,lay]);refine wpAnyH_done (by kernel_rfl) ?_ _;have hk0:=HK.out 0 (by decide);have hk1:=HK.out 1 (by decide)
 simp [sets] at hk0 hk1
 clear hHeld HK hbA hbB;clear LB3 LR3 LG0_3;go_wp2;refine bodyPost_ret (v:=.agg #[.float .f64 V1,.float .f64 V2]) (by simp [results,Tryz.results157,go_sem,hk0,hk1]) rfl ?_
 exact⟨rfl,F.out⟩
def ExI(w:World)(s:Int)(g:Bool)(A:Option Addr)(n c:Nat)(E:Int)(x:Rat):Prop:=
 (s=0\/s=1\/s=-1)/\(s=0->∃ S,U32s w A n c (digs S)/\blen S<=5000/\-1074<=E/\E<=971/\x=rv g S 1*2^E)
theorem ExI.below{w w':World}{s:Int}{g:Bool}{A:Option Addr}{n c:Nat}{E:Int}{x:Rat}(h:ExI w s g A n c E x)(hb:Below w.heap.size w w'):ExI w' s g A n c E x:=
 ⟨h.1,fun h0=>by obtain⟨S,h1,h2⟩:=h.2 h0;exact⟨S,h1.below hb,h2⟩⟩
theorem ExI.keep{w w':World}{s:Int}{g:Bool}{A:Option Addr}{n c:Nat}{E:Int}{x:Rat}(h:ExI w s g A n c E x)(hs:∀ xs,U32s w A n c xs->U32s w' A n c xs):ExI w' s g A n c E x:=
 ⟨h.1,fun h0=>by obtain⟨S,h1,h2⟩:=h.2 h0;exact⟨S,hs _ h1,h2⟩⟩
def esx(s:Int)(x:Rat):Int:=if s≠0 then s else rsg x
theorem rv_pow_pos{S:Nat}{E:Int}(hS:0<S):0<rv false S 1*2^E:=by
 have h1:0<rv false S 1:=by
  have h1:=mt (rv_le_false (p:=S) (p':=0) (q:=1) (by omega) (q':=1) (by omega)).1 (by omega);rw [rv_zero] at h1
  grind
 exact Rat.mul_pos h1 (zpow_pos E)
theorem ExI.sg{w:World}{s:Int}{g:Bool}{A:Option Addr}{n c:Nat}{E:Int}{x:Rat}(h:ExI w s g A n c E x):esg s g n=esx s x:=by
 unfold esg esx
 by_cases hs:s=0
 ·subst hs
  simp only [ne_eq,not_true_eq_false,if_false]
  obtain⟨S,hu,-,-,-,rfl⟩:=h.2 rfl
  rcases Nat.eq_zero_or_pos S with h0 | h0
  ·subst h0;have:=hu.len;rw [digs_zero] at this;rw [if_pos (show n=0 from this.symm),rv_zero];simp [rsg]
  ·have hn:=digs_len_pos h0 hu.len;have hp:=rv_pow_pos (E:=E) h0;rw [if_neg (by omega)];unfold rsg
   cases g
   ·have a1:¬ rv false S 1*2^E=0:=by grind
    have a2:¬ rv false S 1*2^E<0:=by grind
    rw [if_neg a1,if_neg a2];rfl
   ·rw [rv_true,Rat.neg_mul]
    have a1:¬ -(rv false S 1*2^E)=0:=by grind
    have a2:-(rv false S 1*2^E)<0:=by grind
    rw [if_neg a1,if_pos a2];rfl
 ·rw [if_pos hs,if_pos hs]
def ov(s:Int)(x:Rat)(j:Int):Int × Int:=if s≠0 then (s*M,s*M) else if x=0\/j=M then (0,0) else (rndI (-1) (x / fl j),rndI 1 (x / fl j))
theorem div_dyad(g:Bool)(S SY:Nat)(E ey:Int)(h:0<SY):rv g S SY*2^(E - ey)=rv g S 1*2^E / (rv false SY 1*2^ey):=by
 have h1:=zpow_ne ey;have h2:(SY:Rat)≠0:=cast_ne h
 have e1:rv false SY 1=(SY:Rat):=by unfold rv;simp [Rat.div_def];grind
 have e2:(2:Rat)^E=2^(E - ey)*2^ey:=by rw [<- zpow_add];congr 1;omega
 rw [rv_over g S SY,e1]
 have h3:(SY:Rat)*2^ey≠0:=by
  intro h4
  rcases Rat.mul_eq_zero.1 h4 with h5 | h5
  ·exact h2 h5
  ·exact h1 h5
 refine eq_div h3 ?_;rw [e2];have h4:(SY:Rat)⁻¹*SY=1:=Rat.inv_mul_cancel _ h2
 have h5:rv g S 1*(SY:Rat)⁻¹*2 ^ (E - ey)*(↑SY*2 ^ ey)=rv g S 1*(2^(E - ey)*2^ey)*((SY:Rat)⁻¹*SY):=by grind
 rw [h5,h4];grind
theorem over_any(s:Int)(g:Bool)(A:Option Addr)(n c:Nat)(E:Int)(x:Rat)(j:Int)(w:World)(h:ExI w s g A n c E x)(hj:0<j)(hj2:j<=M):
  Rt 157 #[.agg #[.int .i64 s,.bool g,.slice A n c,.int .i64 E],.float .f64 (pat j)] (.agg #[.float .f64 (pat (ov s x j).1),.float .f64 (pat (ov s x j).2)]) w:=by
 have hM:=M_val;have hpj:idx (pat j)=j:=idx_pat (by omega) hj2
 have hrj:rungOf (pat j)<=M:=by rw [rung_pat (by omega) hj2];omega
 have HI:=fun W=>isinf1 (pat j) W hrj;rw [hpj] at HI;have hsg:=h.sg;unfold ov
 rcases h.1 with rfl | rfl | rfl
 ·rw [if_neg (by omega)]
  by_cases hx:x=0
  ·rw [if_pos (.inl hx)];refine over_nought A c E (pat j) w 0 g n ?_;rw [hsg,hx];simp [esx,rsg]
  ·have hne:esg 0 g n≠0:=by
    rw [hsg];unfold esx rsg;rw [if_neg (by omega),if_neg hx]
    split<;>omega
   by_cases hjm:j=M
   ·rw [if_pos (.inr hjm)];rw [decide_eq_true hjm] at HI
    exact over_far A c E (pat j) w g n hne HI
   ·rw [if_neg (by intro h;rcases h with h | h;exact hx h;exact hjm h)];rw [decide_eq_false hjm] at HI;obtain⟨S,hu,hbS,hE1,hE2,rfl⟩:=h.2 rfl
    have hfin:fin (pat j):=by show rungOf (pat j)<M;rw [rung_pat (by omega) hj2];omega
    obtain⟨SY,ey,k1,k2,k3,k4,k5⟩:=split_any (pat j) (pat_lt (by omega) hj2) hfin;rw [hpj,decide_eq_false (by omega)] at k4 k5
    have hSY:0<SY:=by
     rcases Nat.eq_zero_or_pos SY with h0 | h0
     ·rw [h0,rv_zero,Rat.zero_mul] at k4;have:=fl_lt_iff.2 hj;rw [fl_zero,k4] at this;grind
     ·exact h0
    have hbY:blen SY<=53:=blen_le_iff.2 (by omega);have hdv:=div_dyad g S SY E ey hSY;rw [<- k4] at hdv;rw [<- hdv]
    exact over_fin g n A c S E (pat j) SY ey _ _ w hne HI hu k5 (by omega) ⟨hE1,hE2⟩ ⟨k2,k3⟩ (fun B m d W u1 u2=>⟨ratio_any (-1) g A B n c m d S SY (E - ey) W u1 u2 hSY (by omega) (by omega) (.inl rfl) (by omega) (by omega),ratio_any 1 g A B n c m d S SY (E - ey) W u1 u2 hSY (by omega) (by omega) (.inr rfl) (by omega) (by omega)⟩)
 ·rw [if_pos (by omega)];have h:=over_inf_pos g n A c E (pat j) _ w HI
  exact h
 ·rw [if_pos (by omega)];have h:=over_inf_neg g n A c E (pat j) _ w HI
  exact h
end
end Go.Proofs.YthlmlmfebpjgdaaGreatDoor
