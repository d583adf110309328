/-
Lemmas for the statement: OverT QtT IntsT Cut2T MuP Kp ReadN KnbT.
-/
import Derived.Test.YthlmlmfebpjgdaaGreatDoorM01
import Derived.Test.YthlmlmfebpjgdaaGreatDoorM05
import Derived.Test.YthlmlmfebpjgdaaGreatDoorM06
import Derived.Test.YthlmlmfebpjgdaaGreatDoorM03
import Derived.Test.YthlmlmfebpjgdaaGreatDoorM02
import Derived.Deep.DeepCutAuto
import Derived.Deep.RegionHeld3
set_option linter.unusedSimpArgs false
set_option linter.unusedVariables false
set_option maxHeartbeats 12800000
namespace Go.Proofs.YthlmlmfebpjgdaaGreatDoor
section
open Go.RowKit
attribute [local go_sem] run_store_float run_negf
def esg(s:Int)(g:Bool)(n:Nat):Int:=if s≠0 then s else if n=0 then 0 else if g then -1 else 1
theorem sign_inf(s:Int)(g:Bool)(n:Nat)(A:Option Addr)(c:Nat)(E:Int)(w:World)(hs:s≠0):Rt 158 #[.agg #[.int .i64 s,.bool g,.slice A n c,.int .i64 E]] (.int .i64 (s)) w:=by
 have h0:(s == 0)=false:=by simpa using hs
 have h1:(s != 0)=true:=by simp [hs]
 obtain⟨LB0,LG0_0⟩:=bx1 w #[.int .i64 s,.bool g,.slice A n c,.int .i64 E] 97;have q0:=LG0_0.out.cell 0;have q1:=LG0_0.out.cell 1;have q2:=LG0_0.out.cell 2;have F:=Hd LB0.out
 go_enter Tryz.func158,Tryz.ntmps158
 go_wp2
 go_ret
 exact⟨rfl,F.out⟩
theorem sign_nil(g:Bool)(A:Option Addr)(c:Nat)(E:Int)(w:World):Rt 158 #[.agg #[.int .i64 0,.bool g,.slice A 0 c,.int .i64 E]] (.int .i64 (0)) w:=by
 obtain⟨LB0,LG0_0⟩:=bx1 w #[.int .i64 0,.bool g,.slice A 0 c,.int .i64 E] 97;have q0:=LG0_0.out.cell 0;have q1:=LG0_0.out.cell 1;have q2:=LG0_0.out.cell 2;have F:=Hd LB0.out
 go_enter Tryz.func158,Tryz.ntmps158
 go_wp2
 go_ret
 exact⟨rfl,F.out⟩
theorem sign_neg(n:Nat)(A:Option Addr)(c:Nat)(E:Int)(w:World)(hn:0<n):Rt 158 #[.agg #[.int .i64 0,.bool true,.slice A n c,.int .i64 E]] (.int .i64 (-1)) w:=by
 have h0:((n:Int) == 0)=false:=by simp;omega
 obtain⟨LB0,LG0_0⟩:=bx1 w #[.int .i64 0,.bool true,.slice A n c,.int .i64 E] 97;have q0:=LG0_0.out.cell 0;have q1:=LG0_0.out.cell 1;have q2:=LG0_0.out.cell 2;have F:=Hd LB0.out
 go_enter Tryz.func158,Tryz.ntmps158
 go_wp2
 go_ret
 exact⟨rfl,F.out⟩
theorem sign_pos(n:Nat)(A:Option Addr)(c:Nat)(E:Int)(w:World)(hn:0<n):Rt 158 #[.agg #[.int .i64 0,.bool false,.slice A n c,.int .i64 E]] (.int .i64 (1)) w:=by
 have h0:((n:Int) == 0)=false:=by simp;omega
 obtain⟨LB0,LG0_0⟩:=bx1 w #[.int .i64 0,.bool false,.slice A n c,.int .i64 E] 97;have q0:=LG0_0.out.cell 0;have q1:=LG0_0.out.cell 1;have q2:=LG0_0.out.cell 2;have F:=Hd LB0.out
 go_enter Tryz.func158,Tryz.ntmps158
 go_wp2
 go_ret
 exact⟨rfl,F.out⟩
theorem sign_any(s:Int)(g:Bool)(A:Option Addr)(n c:Nat)(E:Int)(w:World):Rt 158 #[.agg #[.int .i64 s,.bool g,.slice A n c,.int .i64 E]] (.int .i64 (esg s g n)) w:=by
 unfold esg
 by_cases hs:s=0
 ·subst hs;rw [if_neg (by omega)]
  rcases Nat.eq_zero_or_pos n with hn | hn
  ·subst hn;rw [if_pos rfl];exact sign_nil g A c E w
  ·rw [if_neg (by omega)]
   cases g
   ·exact sign_pos n A c E w hn
   ·exact sign_neg n A c E w hn
 ·rw [if_pos hs];exact sign_inf s g n A c E w hs
theorem at_any(b:Nat)(w:World):Rt 88 #[.float .f64 b] (Zf b b) w:=by
 obtain⟨LB0,LR⟩:=bx1 w (Zv 0 0) 78;have LR0:=Hd (HasBlk.of (n:=2) LR.out rfl rfl);clear LR
 go_enter Tryz.func88,Tryz.ntmps88
 obtain⟨ha0,hf0,ha1,hf1⟩:=LR0.out.sf2;obtain⟨hk0,hk1⟩:=LR0.out.sc2 (.float .f64 b) (.float .f64 b);have F:=Hd (below_sets (w0:=w) (r:=w.heap.size) (by omega) [.float .f64 b,.float .f64 b] 0 _ LB0.out)
 simp [sets] at hk0 hk1
 go_wp2;refine bodyPost_ret (v:=Zf b b) (by simp [results,Tryz.results88,go_sem,hk0,hk1]) rfl ?_
 exact⟨rfl,below_alloc _ _⟩
theorem over_nought(A:Option Addr)(c:Nat)(E:Int)(y:Nat)(w:World)(s:Int)(g:Bool)(n:Nat)(hs:esg s g n=0):Rt 157 #[.agg #[.int .i64 s,.bool g,.slice A n c,.int .i64 E],.float .f64 y] (Zf 0 0) w:=by
 have HS:=Hd fun W=>sign_any s g A n c E W;rw [hs] at HS;have HA:=Hd fun W=>at_any 0 W;obtain⟨LB0,LG0_0,LR⟩:=bx2 w #[.int .i64 s,.bool g,.slice A n c,.int .i64 E] 97 (Zv 0 0) 78;have LR0:=Hd (HasBlk.of (n:=2) LR.out rfl rfl);clear LR
 go_enter Tryz.func157,Tryz.ntmps157
 obtain⟨q0_0,q0_1,q0_2,q0_3⟩:=LG0_0.out.c4;go_wp2_with fail;refine cx (HS.out _) fun w1 hb1=>?_;have LB1:=stB LB0 hb1 LB0.out.size;have LR1:=stR LR0 hb1;have LG0_1:=stG LG0_0 hb1;clear LB0 LR0 LG0_0;clear hb1 HS q0_0 q0_1 q0_2 q0_3;have q0_0:=LG0_1.out.ce 0 rfl;go_wp2_with fail;refine cx (HA.out _) fun w2 hb2=>?_;have LB2:=stB LB1 hb2 LB1.out.size;have LR2:=stR LR1 hb2;have LG0_2:=stG LG0_1 hb2;clear LB1 LR1 LG0_1;clear hb2 HA q0_0;obtain⟨ha0,hf0,ha1,hf1⟩:=LR2.out.sf2;obtain⟨hk0,hk1⟩:=LR2.out.sc2 (.float .f64 0) (.float .f64 0);have F:=Hd (below_sets (w0:=w) (r:=(w.heap.size+1)) (by omega) [.float .f64 0,.float .f64 0] 0 _ LB2.out)
 simp [sets] at hk0 hk1
 go_wp2;refine bodyPost_ret (v:=Zf 0 0) (by simp [results,Tryz.results157,go_sem,hk0,hk1]) rfl ?_
 exact⟨rfl,F.out⟩
theorem over_far(A:Option Addr)(c:Nat)(E:Int)(y:Nat)(w:World)(g:Bool)(n:Nat)(hs:esg 0 g n≠0)(hI:∀ W,Calls Tryz.prog 161 #[.float .f64 y,.int .i64 1] W fun e w'=>e=.returned (.bool true)/\W=w'):Rt 157 #[.agg #[.int .i64 0,.bool g,.slice A n c,.int .i64 E],.float .f64 y] (Zf 0 0) w:=by
 have HS:=Hd fun W=>sign_any 0 g A n c E W
 obtain⟨sg,hsg⟩:∃ z,esg 0 g n=z:=⟨_,rfl⟩
 rw [hsg] at HS hs
 have hz:(sg == 0)=false:=by simpa using hs
 clear hsg hs;have HI:=Hd hI;clear hI;have HA:=Hd fun W=>at_any 0 W;obtain⟨LB0,LG0_0,LR⟩:=bx2 w #[.int .i64 0,.bool g,.slice A n c,.int .i64 E] 97 (Zv 0 0) 78;have LR0:=Hd (HasBlk.of (n:=2) LR.out rfl rfl);clear LR
 go_enter Tryz.func157,Tryz.ntmps157
 obtain⟨q0_0,q0_1,q0_2,q0_3⟩:=LG0_0.out.c4;go_wp2_with fail;refine cx (HS.out _) fun w1 hb1=>?_;have LB1:=stB LB0 hb1 LB0.out.size;have LR1:=stR LR0 hb1;have LG0_1:=stG LG0_0 hb1;clear LB0 LR0 LG0_0;clear hb1 HS q0_0 q0_1 q0_2 q0_3;have q0_0:=LG0_1.out.ce 0 rfl;go_wp2_with fail;refine cy (HI.out _) ?_;clear HI;go_wp2_with fail;refine cx (HA.out _) fun w2 hb2=>?_;have LB2:=stB LB1 hb2 LB1.out.size;have LR2:=stR LR1 hb2;have LG0_2:=stG LG0_1 hb2;clear LB1 LR1 LG0_1;clear hb2 HA q0_0;obtain⟨ha0,hf0,ha1,hf1⟩:=LR2.out.sf2;obtain⟨hk0,hk1⟩:=LR2.out.sc2 (.float .f64 0) (.float .f64 0);have F:=Hd (below_sets (w0:=w) (r:=(w.heap.size+1)) (by omega) [.float .f64 0,.float .f64 0] 0 _ LB2.out)
 simp [sets] at hk0 hk1
 go_wp2;refine bodyPost_ret (v:=Zf 0 0) (by simp [results,Tryz.results157,go_sem,hk0,hk1]) rfl ?_
 exact⟨rfl,F.out⟩
theorem over_inf_pos(g:Bool)(n:Nat)(A:Option Addr)(c:Nat)(E:Int)(y:Nat)(b:Bool)(w:World)(hI:∀ W,Calls Tryz.prog 161 #[.float .f64 y,.int .i64 1] W fun e w'=>e=.returned (.bool b)/\W=w'):Rt 157 #[.agg #[.int .i64 1,.bool g,.slice A n c,.int .i64 E],.float .f64 y] (Zf 9218868437227405312 9218868437227405312) w:=by
 have HS:=Hd fun W=>sign_inf 1 g n A c E W (by omega);have HI:=Hd hI;clear hI;have HA:=Hd fun W=>at_any 9218868437227405312 W;have HN:=Hd fun W=>inf_pos W
 cases b
 all_goals
  have LB0:=Hd (show Below w.heap.size w ((w.alloc (.cells #[.int .i64 1,.bool g,.slice A n c,.int .i64 E] 97)).alloc (.cells (Zv 0 0) 78)) from ((below_alloc w _).alloc (by simp<;>omega) _));have LG0_0:=Hd (((Blk.at (W:=w) (g:=w.heap.size) (by simp<;>omega) 97 #[.int .i64 1,.bool g,.slice A n c,.int .i64 E]).alloc (.cells (Zv 0 0) 78)));have LR0:=Hd (HasBlk.of (n:=2) (Blk.at (W:=(w.alloc (.cells #[.int .i64 1,.bool g,.slice A n c,.int .i64 E] 97))) (g:=(w.heap.size+1)) (by simp<;>omega) 78 (Zv 0 0)) rfl rfl)
  go_enter Tryz.func157,Tryz.ntmps157
  have q0_0:=LG0_0.out.ce 0 rfl;have q0_1:=LG0_0.out.ce 1 rfl;have q0_2:=LG0_0.out.ce 2 rfl;have q0_3:=LG0_0.out.ce 3 rfl;go_wp2_with fail;refine cx (HS.out _) fun w1 hb1=>?_;have LB1:=stB LB0 hb1 LB0.out.size;have LR1:=stR LR0 hb1;have LG0_1:=stG LG0_0 hb1;clear LB0 LR0 LG0_0;clear hb1 HS q0_0 q0_1 q0_2 q0_3;have q0_0:=LG0_1.out.ce 0 rfl;go_wp2_with fail;refine cy (HI.out _) ?_;clear HI;go_wp2_with fail;refine cy (HN.out _) ?_;clear HN;go_wp2_with fail;refine cx (HA.out _) fun w2 hb2=>?_;have LB2:=stB LB1 hb2 LB1.out.size;have LR2:=stR LR1 hb2;have LG0_2:=stG LG0_1 hb2;clear LB1 LR1 LG0_1;clear hb2 HA q0_0;obtain⟨ha0,hf0,ha1,hf1⟩:=LR2.out.sf2;obtain⟨hk0,hk1⟩:=LR2.out.sc2 (.float .f64 9218868437227405312) (.float .f64 9218868437227405312);have F:=Hd (below_sets (w0:=w) (r:=(w.heap.size+1)) (by omega) [.float .f64 9218868437227405312,.float .f64 9218868437227405312] 0 _ LB2.out)
  simp [sets] at hk0 hk1
  go_wp2;refine bodyPost_ret (v:=Zf 9218868437227405312 9218868437227405312) (by simp [results,Tryz.results157,go_sem,hk0,hk1]) rfl ?_
  exact⟨rfl,F.out⟩
theorem over_inf_neg(g:Bool)(n:Nat)(A:Option Addr)(c:Nat)(E:Int)(y:Nat)(b:Bool)(w:World)(hI:∀ W,Calls Tryz.prog 161 #[.float .f64 y,.int .i64 1] W fun e w'=>e=.returned (.bool b)/\W=w'):Rt 157 #[.agg #[.int .i64 (-1),.bool g,.slice A n c,.int .i64 E],.float .f64 y] (Zf 18442240474082181120 18442240474082181120) w:=by
 have HS:=Hd fun W=>sign_inf (-1) g n A c E W (by omega);have HI:=Hd hI;clear hI;have HA:=Hd fun W=>at_any 18442240474082181120 W;have HN:=Hd fun W=>inf_neg W
 cases b
 all_goals
  have LB0:=Hd (show Below w.heap.size w ((w.alloc (.cells #[.int .i64 (-1),.bool g,.slice A n c,.int .i64 E] 97)).alloc (.cells (Zv 0 0) 78)) from ((below_alloc w _).alloc (by simp<;>omega) _));have LG0_0:=Hd (((Blk.at (W:=w) (g:=w.heap.size) (by simp<;>omega) 97 #[.int .i64 (-1),.bool g,.slice A n c,.int .i64 E]).alloc (.cells (Zv 0 0) 78)));have LR0:=Hd (HasBlk.of (n:=2) (Blk.at (W:=(w.alloc (.cells #[.int .i64 (-1),.bool g,.slice A n c,.int .i64 E] 97))) (g:=(w.heap.size+1)) (by simp<;>omega) 78 (Zv 0 0)) rfl rfl)
  go_enter Tryz.func157,Tryz.ntmps157
  have q0_0:=LG0_0.out.ce 0 rfl;have q0_1:=LG0_0.out.ce 1 rfl;have q0_2:=LG0_0.out.ce 2 rfl;have q0_3:=LG0_0.out.ce 3 rfl;go_wp2_with fail;refine cx (HS.out _) fun w1 hb1=>?_;have LB1:=stB LB0 hb1 LB0.out.size;have LR1:=stR LR0 hb1;have LG0_1:=stG LG0_0 hb1;clear LB0 LR0 LG0_0;clear hb1 HS q0_0 q0_1 q0_2 q0_3;have q0_0:=LG0_1.out.ce 0 rfl;go_wp2_with fail;refine cy (HI.out _) ?_;clear HI;go_wp2_with fail;refine cy (HN.out _) ?_;clear HN;go_wp2_with fail;refine cx (HA.out _) fun w2 hb2=>?_;have LB2:=stB LB1 hb2 LB1.out.size;have LR2:=stR LR1 hb2;have LG0_2:=stG LG0_1 hb2;clear LB1 LR1 LG0_1;clear hb2 HA q0_0;obtain⟨ha0,hf0,ha1,hf1⟩:=LR2.out.sf2;obtain⟨hk0,hk1⟩:=LR2.out.sc2 (.float .f64 18442240474082181120) (.float .f64 18442240474082181120);have F:=Hd (below_sets (w0:=w) (r:=(w.heap.size+1)) (by omega) [.float .f64 18442240474082181120,.float .f64 18442240474082181120] 0 _ LB2.out)
  simp [sets] at hk0 hk1
  go_wp2;refine bodyPost_ret (v:=Zf 18442240474082181120 18442240474082181120) (by simp [results,Tryz.results157,go_sem,hk0,hk1]) rfl ?_
  exact⟨rfl,F.out⟩
theorem over_fin(g:Bool)(n:Nat)(A:Option Addr)(c S:Nat)(E:Int)(y SY:Nat)(ey:Int)(V1 V2:Nat)(w:World)(hs:esg 0 g n≠0)(hI:∀ W,Calls Tryz.prog 161 #[.float .f64 y,.int .i64 1] W fun e w'=>e=.returned (.bool false)/\W=w')(h1:U32s w A n c (digs S))
  (hS:∀ w,Calls Tryz.prog 168 #[.float .f64 y] w (SplitTo w false SY ey))(hSY:SY<18446744073709551616)(hE:-1074<=E/\E<=971)(hey:-1074<=ey/\ey<=971)
  (hR:∀ B m d W,U32s W A n c (digs S)->U32s W B m d (digs SY)->(Rt 211 #[.int .i64 (-1),.bool g,.slice A n c,.slice B m d,.int .i64 (E - ey)] (.float .f64 V1) W)/\(Rt 211 #[.int .i64 1,.bool g,.slice A n c,.slice B m d,.int .i64 (E - ey)] (.float .f64 V2) W)):
  Rt 157 #[.agg #[.int .i64 0,.bool g,.slice A n c,.int .i64 E],.float .f64 y] (Zf V1 V2) w:=by
 have HS:=Hd fun W=>sign_any 0 g A n c E W
 obtain⟨sg,hsg⟩:∃ z,esg 0 g n=z:=⟨_,rfl⟩
 rw [hsg] at HS hs
 have hz:(sg == 0)=false:=by simpa using hs
 have e0:=hE.1;have e1:=hE.2;have e2:=hey.1;have e3:=hey.2
 have hw:IntKind.i64.wrap (E - ey)=E - ey:=by rw [IntKind.wrap_i64];omega
 have HI:=Hd hI;have HP:=Hd hS;have HM:=Hd fun W=>nsmall_any SY W hSY;have HR:=Hd hR;have U0:=Hd h1;clear hsg hs hI hS hSY hR hE hey h1;obtain⟨LB0,LG0_0,LR⟩:=bx2 w #[.int .i64 0,.bool g,.slice A n c,.int .i64 E] 97 (Zv 0 0) 78;have LR0:=Hd (HasBlk.of (n:=2) LR.out rfl rfl);clear LR;have U1:=Hd (U0.out.below LB0.out);clear U0
 go_enter Tryz.func157,Tryz.ntmps157
 obtain⟨q0_0,q0_1,q0_2,q0_3⟩:=LG0_0.out.c4;go_wp2_with fail;refine cx (HS.out _) fun w1 hb1=>?_;have LB1:=stB LB0 hb1 LB0.out.size;have LR1:=stR LR0 hb1;have LG0_1:=stG LG0_0 hb1;clear LB0 LR0 LG0_0;have U2:=Hd (U1.out.below hb1);clear hb1 HS U1 q0_0 q0_1 q0_2 q0_3;obtain⟨q0_0,q0_1,q0_2,q0_3⟩:=LG0_1.out.c4;go_wp2_with fail;refine cy (HI.out _) ?_;clear HI;go_wp2_with fail;refine cx (HP.out _) fun w2 hb2=>?_;have LB2:=stB LB1 hb2 LB1.out.size;have LR2:=stR LR1 hb2;have LG0_2:=stG LG0_1 hb2;clear LB1 LR1 LG0_1;have U3:=Hd (U2.out.below hb2);clear hb2 HP U2 q0_0 q0_1 q0_2 q0_3;go_wp2_with fail;refine (HM.out _).mono ?_;rintro e w3 ⟨B,m,d,rfl,hu3,hb3⟩;have LB3:=stB LB2 hb3 LB2.out.size;have LR3:=stR LR2 hb3;have LG0_3:=stG LG0_2 hb3;clear LB2 LR2 LG0_2;have U4:=Hd (U3.out.below hb3);have V4:=Hd hu3;clear hu3 hb3 HM U3;go_wp2_with fail;refine wp_region_held_drew (S:=fun W'=>Blk W' w.heap.size 97 #[.int .i64 0,.bool g,.slice A n c,.int .i64 E]/\HasBlk W' (w.heap.size+1) 78 2/\Below w.heap.size w W') (by kernel_rfl) (by exact⟨LG0_3.out.drew,LR3.out.drew,LB3.out.drew⟩) (fun hHeld=>?_);refine tks 0 ?_;refine tkb 1 (fun _ h=>h.1.c4) ?_;refine tks 2 ?_;refine tkb 3 (fun _ h=>h.1.c4) ?_;refine tks 4 ?_;refine tks 5 ?_;refine tkb 6 (fun _ h=>h.1.c4) ?_;refine tks 7 ?_;refine tks 8 ?_;refine tks 10 ?_;refine tkb 11 (fun _ h=>h.1.c4) ?_;refine tks 12 ?_;refine tkb 13 (fun _ h=>h.1.c4) ?_;refine tks 14 ?_;refine tks 15 ?_;refine tkb 16 (fun _ h=>h.1.c4) ?_;refine tks 17 ?_;refine tks 18 ?_
 refine rdy 9 fun KK hKK=>?_;go_simp;refine (HR.out _ _ _ _ U4.out.drew V4.out.drew).1.mono ?_;rintro e w4 ⟨rfl,hbA⟩;go_wp2_with fail;refine hKK.out _ _ (⟨hHeld.1.keep hbA,hHeld.2.1.keep hbA,hHeld.2.2.trans (hbA.mono hHeld.2.2.size)⟩) (fun _=>?_);clear hKK KK hHeld;rename_i hHeld;(try simp only [Act.put,lay]);refine rdy 19 fun KK hKK=>?_;go_simp;refine (HR.out _ _ _ _ (U4.out.drew.below hbA) (V4.out.drew.below hbA)).2.mono ?_;rintro e w5 ⟨rfl,hbB⟩;go_wp2_with fail;refine hKK.out _ _ (⟨hHeld.1.keep hbB,hHeld.2.1.keep hbB,hHeld.2.2.trans (hbB.mono hHeld.2.2.size)⟩) (fun _=>?_);clear hKK KK hHeld;rename_i hHeld;(try simp only [Act.put,lay]);refine tks 20 ?_;refine rdy 21 fun KK hKK=>?_;have ha0:=hHeld.2.1.someCell 0 (by decide);have hf0:=hHeld.2.1.frozen 0;have ha1:=hHeld.2.1.someCell 1 (by decide);have hf1:=hHeld.2.1.frozen 1;have HK:=Hd (hHeld.2.1.setCell [.float .f64 V1,.float .f64 V2] rfl);have F:=Hd (below_sets (w0:=w) (r:=(w.heap.size+1)) (by omega) [.float .f64 V1,.float .f64 V2] 0 _ hHeld.2.2);go_simp;refine hKK.out _ _ (⟨hHeld.1.other (by omega) 0 [.float .f64 V1,.float .f64 V2],hHeld.2.1.sets [.float .f64 V1,.float .f64 V2] rfl rfl,below_sets (by omega) [.float .f64 V1,.float .f64 V2] 0 _ hHeld.2.2⟩) (fun _=>?_);clear hKK KK hHeld;rename_i hHeld;(try simp only [Act.put,lay]);refine wpAnyH_done (by kernel_rfl) ?_ _;have hk0:=HK.out 0 (by decide);have hk1:=HK.out 1 (by decide)
 simp [sets] at hk0 hk1
 clear hHeld HK hbA hbB;clear LB3 LR3 LG0_3;go_wp2;refine bodyPost_ret (v:=Zf V1 V2) (by simp [results,Tryz.results157,go_sem,hk0,hk1]) rfl ?_
 exact⟨rfl,F.out⟩
def ExI(w:World)(s:Int)(g:Bool)(A:Option Addr)(n c:Nat)(E:Int)(x:Rat):Prop:=
 (s=0\/s=1\/s=-1)/\(s=0->∃ S,U32s w A n c (digs S)/\blen S<=5000/\-1074<=E/\E<=971/\x=rv g S 1*2^E)
theorem ExI.below{w w':World}{s:Int}{g:Bool}{A:Option Addr}{n c:Nat}{E:Int}{x:Rat}(h:ExI w s g A n c E x)(hb:Below w.heap.size w w'):ExI w' s g A n c E x:=
 ⟨h.1,fun h0=>by obtain⟨S,h1,h2⟩:=h.2 h0;exact⟨S,h1.below hb,h2⟩⟩
theorem ExI.keep{w w':World}{s:Int}{g:Bool}{A:Option Addr}{n c:Nat}{E:Int}{x:Rat}(h:ExI w s g A n c E x)(hs:∀ xs,U32s w A n c xs->U32s w' A n c xs):ExI w' s g A n c E x:=
 ⟨h.1,fun h0=>by obtain⟨S,h1,h2⟩:=h.2 h0;exact⟨S,hs _ h1,h2⟩⟩
def esx(s:Int)(x:Rat):Int:=if s≠0 then s else rsg x
theorem rv_pow_pos{S:Nat}{E:Int}(hS:0<S):0<rv false S 1*2^E:=by
 have h1:0<rv false S 1:=by
  have h1:=mt (rv_le_false (p:=S) (p':=0) (q:=1) (by omega) (q':=1) (by omega)).1 (by omega);rw [rv_zero] at h1
  grind
 exact Rat.mul_pos h1 (zpow_pos E)
theorem ExI.sg{w:World}{s:Int}{g:Bool}{A:Option Addr}{n c:Nat}{E:Int}{x:Rat}(h:ExI w s g A n c E x):esg s g n=esx s x:=by
 unfold esg esx
 by_cases hs:s=0
 ·subst hs
  simp only [ne_eq,not_true_eq_false,if_false]
  obtain⟨S,hu,-,-,-,rfl⟩:=h.2 rfl
  rcases Nat.eq_zero_or_pos S with h0 | h0
  ·subst h0;have:=hu.len;rw [digs_zero] at this;rw [if_pos (show n=0 from this.symm),rv_zero];simp [rsg]
  ·have hn:=digs_len_pos h0 hu.len;have hp:=rv_pow_pos (E:=E) h0;rw [if_neg (by omega)];unfold rsg
   cases g
   ·have a1:¬ rv false S 1*2^E=0:=by grind
    have a2:¬ rv false S 1*2^E<0:=by grind
    rw [if_neg a1,if_neg a2];rfl
   ·rw [rv_true,Rat.neg_mul]
    have a1:¬ -(rv false S 1*2^E)=0:=by grind
    have a2:-(rv false S 1*2^E)<0:=by grind
    rw [if_neg a1,if_pos a2];rfl
 ·rw [if_pos hs,if_pos hs]
def ov(s:Int)(x:Rat)(j:Int):Int × Int:=if s≠0 then (s*M,s*M) else if x=0\/j=M then (0,0) else (rndI (-1) (x / fl j),rndI 1 (x / fl j))
theorem div_dyad(g:Bool)(S SY:Nat)(E ey:Int)(h:0<SY):rv g S SY*2^(E - ey)=rv g S 1*2^E / (rv false SY 1*2^ey):=by
 have h1:=zpow_ne ey;have h2:(SY:Rat)≠0:=cast_ne h
 have e1:rv false SY 1=(SY:Rat):=by unfold rv;simp [Rat.div_def];grind
 have e2:(2:Rat)^E=2^(E - ey)*2^ey:=by rw [<- zpow_add];congr 1;omega
 rw [rv_over g S SY,e1]
 have h3:(SY:Rat)*2^ey≠0:=by
  intro h4
  rcases Rat.mul_eq_zero.1 h4 with h5 | h5
  ·exact h2 h5
  ·exact h1 h5
 refine eq_div h3 ?_;rw [e2];have h4:(SY:Rat)⁻¹*SY=1:=Rat.inv_mul_cancel _ h2
 have h5:rv g S 1*(SY:Rat)⁻¹*2 ^ (E - ey)*(↑SY*2 ^ ey)=rv g S 1*(2^(E - ey)*2^ey)*((SY:Rat)⁻¹*SY):=by grind
 rw [h5,h4];grind
theorem over_any(s:Int)(g:Bool)(A:Option Addr)(n c:Nat)(E:Int)(x:Rat)(j:Int)(w:World)(h:ExI w s g A n c E x)(hj:0<j)(hj2:j<=M):
  Rt 157 #[.agg #[.int .i64 s,.bool g,.slice A n c,.int .i64 E],.float .f64 (pat j)] (Zf (pat (ov s x j).1) (pat (ov s x j).2)) w:=by
 have hM:=M_val;have hpj:idx (pat j)=j:=idx_pat (by omega) hj2
 have hrj:rungOf (pat j)<=M:=by rw [rung_pat (by omega) hj2];omega
 have HI:=fun W=>isinf1 (pat j) W hrj;rw [hpj] at HI;have hsg:=h.sg;unfold ov
 rcases h.1 with rfl | rfl | rfl
 ·rw [if_neg (by omega)]
  by_cases hx:x=0
  ·rw [if_pos (.inl hx)];refine over_nought A c E (pat j) w 0 g n ?_;rw [hsg,hx];simp [esx,rsg]
  ·have hne:esg 0 g n≠0:=by
    rw [hsg];unfold esx rsg;rw [if_neg (by omega),if_neg hx]
    split<;>omega
   by_cases hjm:j=M
   ·rw [if_pos (.inr hjm)];rw [decide_eq_true hjm] at HI
    exact over_far A c E (pat j) w g n hne HI
   ·rw [if_neg (by intro h;rcases h with h | h;exact hx h;exact hjm h)];rw [decide_eq_false hjm] at HI;obtain⟨S,hu,hbS,hE1,hE2,rfl⟩:=h.2 rfl
    have hfin:fin (pat j):=by show rungOf (pat j)<M;rw [rung_pat (by omega) hj2];omega
    obtain⟨SY,ey,k1,k2,k3,k4,k5⟩:=split_any (pat j) (pat_lt (by omega) hj2) hfin;rw [hpj,decide_eq_false (by omega)] at k4 k5
    have hSY:0<SY:=by
     rcases Nat.eq_zero_or_pos SY with h0 | h0
     ·rw [h0,rv_zero,Rat.zero_mul] at k4;have:=fl_lt_iff.2 hj;rw [fl_zero,k4] at this;grind
     ·exact h0
    have hbY:blen SY<=53:=blen_le_iff.2 (by omega);have hdv:=div_dyad g S SY E ey hSY;rw [<- k4] at hdv;rw [<- hdv]
    exact over_fin g n A c S E (pat j) SY ey _ _ w hne HI hu k5 (by omega) ⟨hE1,hE2⟩ ⟨k2,k3⟩ (fun B m d W u1 u2=>⟨ratio_any (-1) g A B n c m d S SY (E - ey) W u1 u2 hSY (by omega) (by omega) (.inl rfl) (by omega) (by omega),ratio_any 1 g A B n c m d S SY (E - ey) W u1 u2 hSY (by omega) (by omega) (.inr rfl) (by omega) (by omega)⟩)
 ·rw [if_pos (by omega)];have h:=over_inf_pos g n A c E (pat j) _ w HI
  exact h
 ·rw [if_pos (by omega)];have h:=over_inf_neg g n A c E (pat j) _ w HI
  exact h
end
section
open Go.RowKit
theorem NewBd.up{w w':World}{K K':Nat}{s:Int}{x:Rat}{N:Int}{o:Bool}{e:Ending}(h:NewBd w K s x N o e w')(hk:K<=K'):NewBd w K' s x N o e w':=by
 obtain⟨g,A,n,c,B,m,d,rfl,hr,hb⟩:=h
 exact⟨g,A,n,c,B,m,d,rfl,hr.mono hk,hb⟩
def rt(s1:Int)(x1:Rat)(s2:Int)(x2:Rat):Int × Rat × Bool:=
 if esx s1 x1=0 then (0,0,false) else if s2≠0 then (0,0,true) else if s1≠0\/x2=0 then (esx s1 x1,0,true) else (0,x1 / x2,false)
end
section
open Go.RowKit
attribute [local go_sem] run_store_float run_eqf
theorem run_maxf{i j:Int}(h1:-(M:Int)<=i/\i<=M)(h2:-(M:Int)<=j/\j<=M)(W:World)(ts:Array TypeId)(t:TypeId):(Builtin.max_ ts t (Zv (pat i) (pat j))).run Tryz.prog W=.ok (.float .f64 (pat (max i j))) W:=by
 have ho:=order_pat h1.1 h1.2 h2.1 h2.2
 have e:(Builtin.max_ ts t (Zv (pat i) (pat j)))=Builtin.max2 (.float .f64 (pat i)) (.float .f64 (pat j)):=by simp [Builtin.max_]
 rw [e];unfold Builtin.max2
 dsimp only
 rw [ho]
 rcases Int.lt_trichotomy i j with h | h | h
 ·rw [show compare i j=.lt from Int.compare_eq_lt.2 h,show max i j=j from by omega];rfl
 ·subst h;rw [show compare i i=.eq from Int.compare_eq_eq.2 rfl,show max i i=i from by omega]
  simp
 ·rw [show compare i j=.gt from Int.compare_eq_gt.2 h,show max i j=i from by omega];rfl
theorem run_minf{i j:Int}(h1:-(M:Int)<=i/\i<=M)(h2:-(M:Int)<=j/\j<=M)(W:World)(ts:Array TypeId)(t:TypeId):(Builtin.min_ ts t (Zv (pat i) (pat j))).run Tryz.prog W=.ok (.float .f64 (pat (min i j))) W:=by
 have ho:=order_pat h1.1 h1.2 h2.1 h2.2
 have e:(Builtin.min_ ts t (Zv (pat i) (pat j)))=Builtin.min2 (.float .f64 (pat i)) (.float .f64 (pat j)):=by simp [Builtin.min_]
 rw [e];unfold Builtin.min2
 dsimp only
 rw [ho]
 rcases Int.lt_trichotomy i j with h | h | h
 ·rw [show compare i j=.lt from Int.compare_eq_lt.2 h,show min i j=i from by omega];rfl
 ·subst h;rw [show compare i i=.eq from Int.compare_eq_eq.2 rfl,show min i i=i from by omega]
  simp
 ·rw [show compare i j=.gt from Int.compare_eq_gt.2 h,show min i j=j from by omega];rfl
theorem em_idx{i j:Int}(h:Iv i j):Em (decide (j<i)) (pat i) (pat j):=by
 have hM:M=9218868437227405312:=rfl;have o1:=order_pat h.lo.1 h.lo.2 (show -(M:Int)<=(M:Int) by omega) (Int.le_refl _);have o2:=order_pat h.hi.1 h.hi.2 (Int.le_refl _) (show -(M:Int)<=(M:Int) by omega);rw [pat_max] at o1;rw [pat_min] at o2;unfold Iv at h;refine⟨fun e=>?_,fun e=>?_⟩
 ·have e:=of_decide_eq_true e;rw [o1,o2]
  exact⟨by rw [show compare i (M:Int)=.eq from Int.compare_eq_eq.2 (by omega)],by rw [show compare j (-(M:Int))=.eq from Int.compare_eq_eq.2 (by omega)]⟩
 ·have e:=of_decide_eq_false e;rw [o1,show compare i (M:Int)=.lt from Int.compare_eq_lt.2 (by omega)]
def it(i j i' j':Int):Int × Int:=if j<i\/j'<i'\/min j j'<max i i' then ((M:Int),-(M:Int)) else (max i i',min j j')
theorem it_iv{i j i' j':Int}(h:Iv i j)(h':Iv i' j'):Iv (it i j i' j').1 (it i j i' j').2:=by
 unfold it
 split
 ·exact Iv.none
 ·unfold Iv at *;rw [M_val] at *
  dsimp only
  omega
end
section
open Go.RowKit
attribute [local go_sem] run_store_float run_eqf
theorem not_gt2{i j:Int}(hi:-(M:Int)<=i/\i<=M)(hj:-(M:Int)<=j/\j<=M)(h:¬ j<i):(FloatKind.f64.format.order (pat i) (pat j) == some Ordering.gt)=false:=by
 rw [order_pat hi.1 hi.2 hj.1 hj.2]
 rcases Int.lt_trichotomy i j with h2 | h2 | h2
 ·rw [Int.compare_eq_lt.2 h2];rfl
 ·rw [Int.compare_eq_eq.2 h2];rfl
 ·exact absurd h2 h
theorem not_lt2{i j:Int}(hi:-(M:Int)<=i/\i<=M)(hj:-(M:Int)<=j/\j<=M)(h:¬ i<j):(FloatKind.f64.format.order (pat i) (pat j) == some Ordering.lt)=false:=by
 rw [order_pat hi.1 hi.2 hj.1 hj.2]
 rcases Int.lt_trichotomy i j with h2 | h2 | h2
 ·exact absurd h2 h
 ·rw [Int.compare_eq_eq.2 h2];rfl
 ·rw [Int.compare_eq_gt.2 h2];rfl
theorem rcut2_gt(op:Bool)(i j pd pu qd qu:Nat)(w:World)(o1:FloatKind.f64.format.order i qd=some .gt):
  Rt 77 #[Zf i j,Zf pd pu,Zf qd qu,.bool op] (Zf 9218868437227405312 18442240474082181120) w:=by
 obtain⟨LB0,LG0_0,LG1_0,LG2_0,LR⟩:=bx4 w (Zv i j) 28 (Zv pd pu) 78 (Zv qd qu) 78 (Zv 0 0) 28;have LR0:=Hd (HasBlk.of (n:=2) LR.out rfl rfl);clear LR;have HE:=Hd emptyf
 go_enter Tryz.func77,Tryz.ntmps77
 obtain⟨q0_0,q0_1⟩:=LG0_0.out.c2;obtain⟨q1_0,q1_1⟩:=LG1_0.out.c2;obtain⟨q2_0,q2_1⟩:=LG2_0.out.c2;go_wp2_with fail;refine cx (HE.out _) fun w1 hb1=>?_;have LB1:=stB LB0 hb1 LB0.out.size;have LR1:=stR LR0 hb1;have LG0_1:=stG LG0_0 hb1;have LG1_1:=stG LG1_0 hb1;have LG2_1:=stG LG2_0 hb1;clear LB0 LR0 LG0_0 LG1_0 LG2_0;clear hb1 HE;obtain⟨ha0,hf0,ha1,hf1⟩:=LR1.out.sf2;obtain⟨hk0,hk1⟩:=LR1.out.sc2 (.float .f64 9218868437227405312) (.float .f64 18442240474082181120);have F:=Hd (below_sets (w0:=w) (r:=(w.heap.size+3)) (by omega) [.float .f64 9218868437227405312,.float .f64 18442240474082181120] 0 _ LB1.out)
 simp [sets] at hk0 hk1
 go_wp2;refine bodyPost_ret (v:=Zf 9218868437227405312 18442240474082181120) (by simp [results,Tryz.results77,go_sem,hk0,hk1]) rfl ?_
 exact⟨rfl,F.out⟩
theorem rcut2_lt(op:Bool)(i j pd pu qd qu:Nat)(w:World)(o1:(FloatKind.f64.format.order i qd == some Ordering.gt)=false)(o2:FloatKind.f64.format.order j pu=some .lt):
  Rt 77 #[Zf i j,Zf pd pu,Zf qd qu,.bool op] (Zf 9218868437227405312 18442240474082181120) w:=by
 obtain⟨LB0,LG0_0,LG1_0,LG2_0,LR⟩:=bx4 w (Zv i j) 28 (Zv pd pu) 78 (Zv qd qu) 78 (Zv 0 0) 28;have LR0:=Hd (HasBlk.of (n:=2) LR.out rfl rfl);clear LR;have HE:=Hd emptyf
 go_enter Tryz.func77,Tryz.ntmps77
 obtain⟨q0_0,q0_1⟩:=LG0_0.out.c2;obtain⟨q1_0,q1_1⟩:=LG1_0.out.c2;obtain⟨q2_0,q2_1⟩:=LG2_0.out.c2;go_wp2_with fail;refine cx (HE.out _) fun w1 hb1=>?_;have LB1:=stB LB0 hb1 LB0.out.size;have LR1:=stR LR0 hb1;have LG0_1:=stG LG0_0 hb1;have LG1_1:=stG LG1_0 hb1;have LG2_1:=stG LG2_0 hb1;clear LB0 LR0 LG0_0 LG1_0 LG2_0;clear hb1 HE;obtain⟨ha0,hf0,ha1,hf1⟩:=LR1.out.sf2;obtain⟨hk0,hk1⟩:=LR1.out.sc2 (.float .f64 9218868437227405312) (.float .f64 18442240474082181120);have F:=Hd (below_sets (w0:=w) (r:=(w.heap.size+3)) (by omega) [.float .f64 9218868437227405312,.float .f64 18442240474082181120] 0 _ LB1.out)
 simp [sets] at hk0 hk1
 go_wp2;refine bodyPost_ret (v:=Zf 9218868437227405312 18442240474082181120) (by simp [results,Tryz.results77,go_sem,hk0,hk1]) rfl ?_
 exact⟨rfl,F.out⟩
def CutC(op:Bool)(i j pd pu qd qu:Nat)(cc:Bool):Prop:=
 (op=false/\cc=false)\/(op=true/\cc=true/\(FloatKind.f64.format.order pd 0=some .eq/\FloatKind.f64.format.order pu 0=some .eq)/\(FloatKind.f64.format.order j 0=some .lt\/FloatKind.f64.format.order j 0=some .eq))\/(op=true/\((FloatKind.f64.format.order pd 0 == some Ordering.eq)=false\/(FloatKind.f64.format.order pd 0=some .eq/\(FloatKind.f64.format.order pu 0 == some Ordering.eq)=false)\/(FloatKind.f64.format.order pd 0=some .eq/\FloatKind.f64.format.order pu 0=some .eq/\FloatKind.f64.format.order j 0=some .gt))/\cc=true/\(FloatKind.f64.format.order qd 0=some .eq/\FloatKind.f64.format.order qu 0=some .eq)/\(FloatKind.f64.format.order i 0=some .gt\/FloatKind.f64.format.order i 0=some .eq))\/(op=true/\((FloatKind.f64.format.order pd 0 == some Ordering.eq)=false\/(FloatKind.f64.format.order pd 0=some .eq/\(FloatKind.f64.format.order pu 0 == some Ordering.eq)=false)\/(FloatKind.f64.format.order pd 0=some .eq/\FloatKind.f64.format.order pu 0=some .eq/\FloatKind.f64.format.order j 0=some .gt))/\cc=false/\((FloatKind.f64.format.order qd 0 == some Ordering.eq)=false\/(FloatKind.f64.format.order qd 0=some .eq/\(FloatKind.f64.format.order qu 0 == some Ordering.eq)=false)\/(FloatKind.f64.format.order qd 0=some .eq/\FloatKind.f64.format.order qu 0=some .eq/\FloatKind.f64.format.order i 0=some .lt)))
theorem rcut2_in(op:Bool)(i j pd pu qd qu a b:Nat)(w:World)(o1:(FloatKind.f64.format.order i qd == some Ordering.gt)=false)(o2:(FloatKind.f64.format.order j pu == some Ordering.lt)=false)(cc:Bool)(hc:CutC op i j pd pu qd qu cc)(m1:∀ W ts t,(Builtin.max_ ts t (Zv i pd)).run Tryz.prog W=.ok (.float .f64 a) W)(m2:∀ W ts t,(Builtin.min_ ts t (Zv j qu)).run Tryz.prog W=.ok (.float .f64 b) W):
  Rt 77 #[Zf i j,Zf pd pu,Zf qd qu,.bool op] (.agg #[.float .f64 (if cc then 9218868437227405312 else a),.float .f64 (if cc then 18442240474082181120 else b)]) w:=by
 obtain⟨LB0,LG0_0,LG1_0,LG2_0,LR⟩:=bx4 w (Zv i j) 28 (Zv pd pu) 78 (Zv qd qu) 78 (Zv 0 0) 28;have LR0:=Hd (HasBlk.of (n:=2) LR.out rfl rfl);clear LR;have HA:=Hd fun W=>at_any 0 W;have HE:=Hd emptyf;have HC:=Hd hc;have M1:=Hd m1;have M2:=Hd m2;clear hc m1 m2
 go_enter Tryz.func77,Tryz.ntmps77
 obtain⟨q0_0,q0_1⟩:=LG0_0.out.c2;obtain⟨q1_0,q1_1⟩:=LG1_0.out.c2;obtain⟨q2_0,q2_1⟩:=LG2_0.out.c2
 go_upto_region 3 with fail
 clear o1 o2 q0_0 q0_1 q1_0 q1_1 q2_0 q2_1
 obtain⟨W0,hW0⟩:∃ X,((((w.alloc (.cells (Zv i j) 28)).alloc (.cells (Zv pd pu) 78)).alloc (.cells (Zv qd qu) 78)).alloc (.cells (Zv 0 0) 28))=X:=⟨_,rfl⟩
 rw [hW0] at LB0 LR0 LG0_0 LG1_0 LG2_0 ⊢;clear hW0
 go_cut [42] (fun s42 wx=>s42=.bool cc/\Blk wx (w.heap.size) 28 (Zv i j)/\Blk wx (w.heap.size+1) 78 (Zv pd pu)/\Blk wx (w.heap.size+2) 78 (Zv qd qu)/\HasBlk wx (w.heap.size+3) 28 2/\Below w.heap.size w wx)
 case first=>
  have hc:=HC.out;clear HC HE M1 M2
  rcases hc with ⟨rfl,rfl⟩ | ⟨rfl,rfl,⟨z1,z2⟩,(z3 | z3)⟩ | ⟨rfl,(z1 | ⟨z1,z2⟩ | ⟨z1,z2,z3⟩),rfl,⟨z4,z5⟩,(z6 | z6)⟩ | ⟨rfl,(z1 | ⟨z1,z2⟩ | ⟨z1,z2,z3⟩),rfl,(z4 | ⟨z4,z5⟩ | ⟨z4,z5,z6⟩)⟩
  all_goals
   refine wp_region_held_drew (S:=fun W'=>Blk W' w.heap.size 28 (Zv i j)/\Blk W' (w.heap.size+1) 78 (Zv pd pu)/\Blk W' (w.heap.size+2) 78 (Zv qd qu)/\HasBlk W' (w.heap.size+3) 28 2/\Below w.heap.size w W') (by kernel_rfl) (by exact⟨LG0_0.out.drew,LG1_0.out.drew,LG2_0.out.drew,LR0.out.drew,LB0.out.drew⟩) (fun hHeld=>?_)
   (refine tk 0 ?_)
   (try simp only [Act.put,lay])
   (refine tk 1 ?_)
   (try simp only [Act.put,lay])
   first | (refine tkn 2 ?_) | (refine tk 2 ?_ (hv:=by intro W2 hSw;(try dsimp only at hSw);have q0:_=some (.float .f64 pd:Value):=hSw.2.1.cell 0;have q1:_=some (.float .f64 pu:Value):=hSw.2.1.cell 1;go_simp;(try with_reducible rfl)))
   (try simp only [Act.put,lay])
   first | (refine tkn 3 ?_) | (refine rdy 3 fun KK hKK=>?_;go_simp;refine (HA.out _).mono ?_;rintro e w1 ⟨rfl,hbA⟩;go_wp2_with fail;refine hKK.out _ _ (⟨hHeld.1.keep hbA,hHeld.2.1.keep hbA,hHeld.2.2.1.keep hbA,hHeld.2.2.2.1.keep hbA,hHeld.2.2.2.2.trans (hbA.mono hHeld.2.2.2.2.size)⟩) (fun _=>?_);clear hKK KK hHeld;rename_i hHeld)
   (try simp only [Act.put,lay])
   first | (refine tkn 4 ?_) | (refine tk 4 ?_)
   (try simp only [Act.put,lay])
   first | (refine tkn 5 ?_) | (refine tk 5 ?_)
   (try simp only [Act.put,lay])
   first | (refine tkn 6 ?_) | (refine tk 6 ?_)
   (try simp only [Act.put,lay])
   first | (refine tkn 7 ?_) | (refine tk 7 ?_ (hv:=by intro W2 hSw;(try dsimp only at hSw);have q0:_=some (.float .f64 i:Value):=hSw.1.cell 0;have q1:_=some (.float .f64 j:Value):=hSw.1.cell 1;go_simp;(try with_reducible rfl)))
   (try simp only [Act.put,lay])
   first | (refine tkn 8 ?_) | (refine tk 8 ?_)
   (try simp only [Act.put,lay])
   first | (refine tkn 9 ?_) | (refine tk 9 ?_)
   (try simp only [Act.put,lay])
   first | (refine tkn 10 ?_) | (refine tk 10 ?_)
   (try simp only [Act.put,lay])
   first | (refine tkn 11 ?_) | (refine tk 11 ?_ (hv:=by intro W2 hSw;(try dsimp only at hSw);have q0:_=some (.float .f64 qd:Value):=hSw.2.2.1.cell 0;have q1:_=some (.float .f64 qu:Value):=hSw.2.2.1.cell 1;go_simp;(try with_reducible rfl)))
   (try simp only [Act.put,lay])
   first | (refine tkn 12 ?_) | (refine rdy 12 fun KK hKK=>?_;go_simp;refine (HA.out _).mono ?_;rintro e w2 ⟨rfl,hbB⟩;go_wp2_with fail;refine hKK.out _ _ (⟨hHeld.1.keep hbB,hHeld.2.1.keep hbB,hHeld.2.2.1.keep hbB,hHeld.2.2.2.1.keep hbB,hHeld.2.2.2.2.trans (hbB.mono hHeld.2.2.2.2.size)⟩) (fun _=>?_);clear hKK KK hHeld;rename_i hHeld)
   (try simp only [Act.put,lay])
   first | (refine tkn 13 ?_) | (refine tk 13 ?_)
   (try simp only [Act.put,lay])
   first | (refine tkn 14 ?_) | (refine tk 14 ?_)
   (try simp only [Act.put,lay])
   first | (refine tkn 15 ?_) | (refine tk 15 ?_)
   (try simp only [Act.put,lay])
   first | (refine tkn 16 ?_) | (refine tk 16 ?_ (hv:=by intro W2 hSw;(try dsimp only at hSw);have q0:_=some (.float .f64 i:Value):=hSw.1.cell 0;have q1:_=some (.float .f64 j:Value):=hSw.1.cell 1;go_simp;(try with_reducible rfl)))
   (try simp only [Act.put,lay])
   first | (refine tkn 17 ?_) | (refine tk 17 ?_)
   (try simp only [Act.put,lay])
   first | (refine tkn 18 ?_) | (refine tk 18 ?_)
   (try simp only [Act.put,lay])
   first | (refine tkn 19 ?_) | (refine tk 19 ?_)
   (try simp only [Act.put,lay])
   (refine tk 20 ?_)
   (try simp only [Act.put,lay]);refine wpAnyH_done (by kernel_rfl) ?_ _;go_wp2_with fail
   go_meet
   case rel=>exact⟨rfl,hHeld⟩
 case rest=>
  obtain⟨rfl,g0,g1,g2,gr,gb⟩:=hcut;clear HC HA LB0 LR0 LG0_0 LG1_0 LG2_0;have LB1:=Hd gb;have LR1:=Hd gr;have LG0_1:=Hd g0;have LG1_1:=Hd g1;have LG2_1:=Hd g2;clear g0 g1 g2 gr gb
  cases cc
  ·have m1:=M1.out;have m2:=M2.out;clear HE M1 M2;obtain⟨q0_0,q0_1⟩:=LG0_1.out.c2;obtain⟨q1_0,q1_1⟩:=LG1_1.out.c2;obtain⟨q2_0,q2_1⟩:=LG2_1.out.c2;obtain⟨ha0,hf0,ha1,hf1⟩:=LR1.out.sf2;obtain⟨hk0,hk1⟩:=LR1.out.sc2 (.float .f64 a) (.float .f64 b);have F:=Hd (below_sets (w0:=w) (r:=(w.heap.size+3)) (by omega) [.float .f64 a,.float .f64 b] 0 _ LB1.out)
   simp [sets] at hk0 hk1
   go_wp2;refine bodyPost_ret (v:=Zf a b) (by simp [results,Tryz.results77,go_sem,hk0,hk1]) rfl ?_
   exact⟨rfl,F.out⟩
  ·clear M1 M2;go_wp2_with fail;refine cx (HE.out _) fun w1 hb1=>?_;have LB2:=stB LB1 hb1 LB1.out.size;have LR2:=stR LR1 hb1;have LG0_2:=stG LG0_1 hb1;have LG1_2:=stG LG1_1 hb1;have LG2_2:=stG LG2_1 hb1;clear LB1 LR1 LG0_1 LG1_1 LG2_1;clear hb1 HE;obtain⟨ha0,hf0,ha1,hf1⟩:=LR2.out.sf2;obtain⟨hk0,hk1⟩:=LR2.out.sc2 (.float .f64 9218868437227405312) (.float .f64 18442240474082181120);have F:=Hd (below_sets (w0:=w) (r:=(w.heap.size+3)) (by omega) [.float .f64 9218868437227405312,.float .f64 18442240474082181120] 0 _ LB2.out)
   simp [sets] at hk0 hk1
   go_wp2;refine bodyPost_ret (v:=Zf 9218868437227405312 18442240474082181120) (by simp [results,Tryz.results77,go_sem,hk0,hk1]) rfl ?_
   exact⟨rfl,F.out⟩
def ctO(op:Bool)(i j pd pu qd qu:Int):Int × Int:=if qd<i\/j<pu then ((M:Int),-(M:Int)) else if op=true/\((pd=0/\pu=0/\j<=0)\/(qd=0/\qu=0/\0<=i)) then ((M:Int),-(M:Int)) else (max i pd,min j qu)
theorem ord0{i:Int}(hi:-(M:Int)<=i/\i<=M):FloatKind.f64.format.order (pat i) 0=some (compare i 0):=by
 have h:=order_pat hi.1 hi.2 (j:=0) (by omega) (by omega)
 rwa [pat_zero] at h
theorem ord0_eq{i:Int}(h:i=0):FloatKind.f64.format.order (pat i) 0=some .eq:=by rw [ord0 (by rw [h];omega),Int.compare_eq_eq.2 h]
theorem ord0_lt{i:Int}(hi:-(M:Int)<=i/\i<=M)(h:i<0):FloatKind.f64.format.order (pat i) 0=some .lt:=by rw [ord0 hi,Int.compare_eq_lt.2 h]
theorem ord0_gt{i:Int}(hi:-(M:Int)<=i/\i<=M)(h:0<i):FloatKind.f64.format.order (pat i) 0=some .gt:=by rw [ord0 hi,Int.compare_eq_gt.2 h]
theorem ord0_ne{i:Int}(hi:-(M:Int)<=i/\i<=M)(h:i≠0):(FloatKind.f64.format.order (pat i) 0 == some Ordering.eq)=false:=by
 rcases Int.lt_or_gt_of_ne h with h1 | h1
 ·rw [ord0_lt hi h1];rfl
 ·rw [ord0_gt hi h1];rfl
theorem rcut2_any(op:Bool)(i j pd pu qd qu:Int)(w:World)(hi:-(M:Int)<=i/\i<=M)(hj:-(M:Int)<=j/\j<=M)(h1:-(M:Int)<=pd/\pd<=M)(h2:-(M:Int)<=pu/\pu<=M)(h3:-(M:Int)<=qd/\qd<=M)(h4:-(M:Int)<=qu/\qu<=M):
  Calls Tryz.prog 77 #[Zf (pat i) (pat j),Zf (pat pd) (pat pu),Zf (pat qd) (pat qu),.bool op] w
   fun e w'=>e=.returned (Zf (pat (ctO op i j pd pu qd qu).1) (pat (ctO op i j pd pu qd qu).2))/\Below w.heap.size w w':=by
 unfold ctO
 by_cases c1:qd<i
 ·rw [if_pos (.inl c1),pat_max,pat_min]
  exact rcut2_gt op _ _ _ _ _ _ w (by rw [order_pat hi.1 hi.2 h3.1 h3.2,Int.compare_eq_gt.2 c1])
 ·by_cases c2:j<pu
  ·rw [if_pos (.inr c2),pat_max,pat_min]
   exact rcut2_lt op _ _ _ _ _ _ w (not_gt2 hi h3 c1) (by rw [order_pat hj.1 hj.2 h2.1 h2.2,Int.compare_eq_lt.2 c2])
  ·rw [if_neg (by omega)];have K:=fun cc hc=>rcut2_in op _ _ _ _ _ _ _ _ w (not_gt2 hi h3 c1) (not_lt2 hj h2 c2) cc hc (fun W ts t=>run_maxf hi h1 W ts t) (fun W ts t=>run_minf hj h4 W ts t)
   have hPN:¬ (pd=0/\pu=0/\j<=0)->(FloatKind.f64.format.order (pat pd) 0 == some Ordering.eq)=false\/(FloatKind.f64.format.order (pat pd) 0=some .eq/\(FloatKind.f64.format.order (pat pu) 0 == some Ordering.eq)=false)\/(FloatKind.f64.format.order (pat pd) 0=some .eq/\FloatKind.f64.format.order (pat pu) 0=some .eq/\FloatKind.f64.format.order (pat j) 0=some .gt):=fun h=>by
    by_cases a1:pd=0
    ·by_cases a2:pu=0
     ·exact .inr (.inr ⟨ord0_eq a1,ord0_eq a2,ord0_gt hj (by omega)⟩)
     ·exact .inr (.inl ⟨ord0_eq a1,ord0_ne h2 a2⟩)
    ·exact .inl (ord0_ne h1 a1)
   have hQN:¬ (qd=0/\qu=0/\0<=i)->(FloatKind.f64.format.order (pat qd) 0 == some Ordering.eq)=false\/(FloatKind.f64.format.order (pat qd) 0=some .eq/\(FloatKind.f64.format.order (pat qu) 0 == some Ordering.eq)=false)\/(FloatKind.f64.format.order (pat qd) 0=some .eq/\FloatKind.f64.format.order (pat qu) 0=some .eq/\FloatKind.f64.format.order (pat i) 0=some .lt):=fun h=>by
    by_cases a1:qd=0
    ·by_cases a2:qu=0
     ·exact .inr (.inr ⟨ord0_eq a1,ord0_eq a2,ord0_lt hi (by omega)⟩)
     ·exact .inr (.inl ⟨ord0_eq a1,ord0_ne h4 a2⟩)
    ·exact .inl (ord0_ne h3 a1)
   cases op
   ·rw [if_neg (by simp)]
    exact K false (.inl ⟨rfl,rfl⟩)
   ·by_cases c3:pd=0/\pu=0/\j<=0
    ·rw [if_pos ⟨rfl,.inl c3⟩,pat_max,pat_min];refine K true (.inr (.inl ⟨rfl,rfl,⟨ord0_eq c3.1,ord0_eq c3.2.1⟩,?_⟩))
     by_cases h0:j=0
     ·exact .inr (ord0_eq h0)
     ·exact .inl (ord0_lt hj (by omega))
    ·by_cases c4:qd=0/\qu=0/\0<=i
     ·rw [if_pos ⟨rfl,.inr c4⟩,pat_max,pat_min];refine K true (.inr (.inr (.inl ⟨rfl,hPN c3,rfl,⟨ord0_eq c4.1,ord0_eq c4.2.1⟩,?_⟩)))
      by_cases h0:i=0
      ·exact .inr (ord0_eq h0)
      ·exact .inl (ord0_gt hi (by omega))
     ·rw [if_neg (by rintro⟨-,h | h⟩;exact c3 h;exact c4 h)]
      exact K false (.inr (.inr (.inr ⟨rfl,hPN c3,rfl,hQN c4⟩)))
end
section
open Go.RowKit
theorem rsg_neg(x:Rat):rsg (-x)=- rsg x:=by
 unfold rsg
 by_cases h:x=0
 ·subst h;simp
 ·rw [if_neg h,if_neg (by grind)]
  by_cases h2:x<0
  ·rw [if_pos h2,if_neg (by grind)];rfl
  ·rw [if_neg h2,if_pos (by grind)]
theorem esx_neg(s:Int)(x:Rat):esx (-s) (-x)=- esx s x:=by
 unfold esx
 by_cases h:s=0
 ·subst h;simp [rsg_neg]
 ·rw [if_pos (by omega),if_pos h]
theorem rt_neg(s:Int)(x:Rat)(t:Int)(y:Rat):rt (-s) (-x) t y=(-(rt s x t y).1,-(rt s x t y).2.1,(rt s x t y).2.2):=by
 unfold rt;rw [esx_neg]
 by_cases h:esx s x=0
 ·rw [if_pos h,if_pos (by omega)];simp
 ·rw [if_neg h,if_neg (by omega)]
  by_cases h2:t=0
  ·rw [if_neg (show ¬ t≠0 by simpa using h2),if_neg (show ¬ t≠0 by simpa using h2)]
   by_cases h3:s≠0\/y=0
   ·rw [if_pos h3,if_pos (show -s≠0\/y=0 by rcases h3 with h | h;exact .inl (by omega);exact .inr h)];simp
   ·rw [if_neg h3,if_neg (show ¬ (-s≠0\/y=0) by rintro (h | h);exact h3 (.inl (by omega));exact h3 (.inr h))]
    simp [Rat.div_def,Rat.neg_mul]
  ·rw [if_pos h2,if_pos h2];simp
theorem dn_neg(s:Int)(x:Rat):dn (-s) (-x)=- up s x:=by
 unfold dn up
 by_cases h:s=0
 ·subst h;simp only [Int.neg_zero,if_true];have:=rndI_neg (d:=1) (.inr rfl) x
  exact this
 ·rw [if_neg (by omega),if_neg h,Int.neg_mul]
theorem up_neg(s:Int)(x:Rat):up (-s) (-x)=- dn s x:=by
 have h:=dn_neg (-s) (-x);rw [Int.neg_neg,Rat.neg_neg] at h
 omega
theorem ov_neg(s:Int)(x:Rat)(j:Int):ov (-s) (-x) j=(-(ov s x j).2,-(ov s x j).1):=by
 unfold ov
 by_cases h:s=0
 ·subst h
  simp only [Int.neg_zero,ne_eq,not_true_eq_false,if_false]
  by_cases h2:x=0\/j=M
  ·rw [if_pos h2,if_pos (by rcases h2 with h | h;exact .inl (by grind);exact .inr h)];simp
  ·rw [if_neg h2,if_neg (by intro h;apply h2;rcases h with h | h;exact .inl (by grind);exact .inr h)]
   have e:-x / fl j=-(x / fl j):=by rw [Rat.div_def,Rat.div_def,Rat.neg_mul]
   have a:=rndI_neg (d:=1) (.inr rfl) (x / fl j);have b:=rndI_neg (d:=-1) (.inl rfl) (x / fl j);rw [e,show (1:Int)=- -1 from rfl,b,show (-(1:Int))=-1 from rfl];rw [show (- -1:Int)=1 from rfl,a]
 ·rw [if_pos (by omega),if_pos h,Int.neg_mul]
theorem fl_pos{j:Int}(h:0<j):0<fl j:=by have:=fl_lt_iff.2 h;rwa [fl_zero] at this
theorem esx_zero{s:Int}{x:Rat}(hx:s≠0->x=0):esx s x=0↔s=0/\x=0:=by
 unfold esx
 by_cases h:s=0
 ·subst h
  simp only [ne_eq,not_true_eq_false,if_false,true_and]
  unfold rsg
  by_cases h2:x=0
  ·simp [h2]
  ·rw [if_neg h2]
   constructor
   ·intro h3;split at h3<;>omega
   ·intro h3;exact absurd h3 h2
 ·rw [if_pos h]
  constructor
  ·intro h3;exact absurd h3 h
  ·intro h3;exact absurd h3.1 h
theorem ov_rt{s:Int}{x:Rat}{j:Int}(hx:s≠0->x=0)(hj:0<j)(hj2:j<=M)(h:s=0\/j<M):
  ov s x j=(dn (rt s x (es j) (ex j)).1 (rt s x (es j) (ex j)).2.1,up (rt s x (es j) (ex j)).1 (rt s x (es j) (ex j)).2.1):=by
 have hM:=M_val;have z1:=rndI_zero (d:=-1) (.inl rfl);have z2:=rndI_zero (d:=1) (.inr rfl);unfold ov rt
 by_cases hs:s=0
 ·subst hs
  simp only [ne_eq,not_true_eq_false,if_false,false_or]
  by_cases h0:x=0
  ·rw [if_pos (.inl h0),if_pos ((esx_zero hx).2 ⟨rfl,h0⟩)]
   simp only [dn_zero,up_zero,z1,z2]
  ·rw [if_neg (fun h=>h0 ((esx_zero hx).1 h).2)]
   by_cases hm:j=M
   ·subst hm;rw [if_pos (.inr rfl),if_pos (by rw [es_max];omega)]
    simp only [dn_zero,up_zero,z1,z2]
   ·rw [if_neg (by intro h;rcases h with h | h;exact h0 h;exact hm h),if_neg (by rw [es_mid (by omega) (by omega)];omega),ex_mid (by omega) (by omega),if_neg (by have:=fl_pos hj;grind)]
    simp only [dn_zero,up_zero]
 ·rw [if_pos hs,if_neg (fun h=>hs ((esx_zero hx).1 h).1),if_neg (by rw [es_mid (by omega) (by omega)];omega),if_pos (.inl hs)];unfold dn up esx
  simp only [ne_eq,hs,not_false_eq_true,if_true,if_false]
def qA(s:Int)(x:Rat)(b1 b2:Int):Int × Rat × Bool:=if 0<esx s x then rt s x (es b2) (ex b2) else rt s x (es (max b1 0)) (ex (max b1 0))
def pA(s:Int)(x:Rat)(b1 b2:Int):Int × Int:=if 0<=esx s x then ov s x b2 else if 0<b1 then ov s x b1 else (-(M:Int),-(M:Int))
def qB(s:Int)(x:Rat)(b1 b2:Int):Int × Rat × Bool:=if esx s x<0 then rt s x (es b2) (ex b2) else rt s x (es (max b1 0)) (ex (max b1 0))
def pB(s:Int)(x:Rat)(b1 b2:Int):Int × Int:=if esx s x<=0 then ov s x b2 else if 0<b1 then ov s x b1 else ((M:Int),(M:Int))
theorem es_nought:es 0=0:=by decide
theorem ex_nought:ex 0=0:=by unfold ex;rw [if_pos es_nought,fl_zero]
theorem rt_nought{s:Int}{x:Rat}(t:Int)(y:Rat)(h:esx s x=0):rt s x t y=(0,0,false):=by unfold rt;rw [if_pos h]
theorem esx_rng{s:Int}{x:Rat}(hs:s=0\/s=-1):esx s x=-1\/esx s x=0\/esx s x=1:=by
 unfold esx rsg
 rcases hs with rfl | rfl
 ·rw [if_neg (by omega)]
  split
  ·exact .inr (.inl rfl)
  ·split
   ·exact .inl rfl
   ·exact .inr (.inr rfl)
 ·rw [if_pos (by omega)];exact .inl rfl
theorem pA_qA{s:Int}{x:Rat}{b1 b2:Int}(hs:s=0\/s=-1)(hx:s≠0->x=0)(hb:b1<=b2)(h2:0<b2)(h3:b2<=M)(h1:b1<M):
  pA s x b1 b2=(dn (qA s x b1 b2).1 (qA s x b1 b2).2.1,up (qA s x b1 b2).1 (qA s x b1 b2).2.1):=by
 unfold pA qA;have z1:=rndI_zero (d:=-1) (.inl rfl);have z2:=rndI_zero (d:=1) (.inr rfl)
 rcases esx_rng (x:=x) hs with he | he | he
 ·rw [if_neg (show ¬ 0<=esx s x by omega),if_neg (show ¬ 0<esx s x by omega)]
  by_cases hb0:0<b1
  ·rw [if_pos hb0,show max b1 0=b1 from by omega]
   exact ov_rt hx hb0 (by omega) (.inr h1)
  ·rw [if_neg hb0,show max b1 0=0 from by omega,es_nought,ex_nought];unfold rt;rw [if_neg (by omega),if_neg (by omega),if_pos (.inr rfl),he];unfold dn up
   simp only
   rw [if_neg (by omega),if_neg (by omega)]
   simp
 ·rw [if_pos (show 0<=esx s x by omega),if_neg (show ¬ 0<esx s x by omega)];have hz:=(esx_zero hx).1 he;rw [ov_rt hx h2 h3 (.inl hz.1),rt_nought _ _ he,rt_nought _ _ he]
 ·rw [if_pos (show 0<=esx s x by omega),if_pos (show 0<esx s x by omega)]
  have hz:s=0:=by
   rcases hs with h | h
   ·exact h
   ·exfalso;subst h;unfold esx at he;rw [if_pos (by omega)] at he;omega
  exact ov_rt hx h2 h3 (.inl hz)
theorem qB_neg(s:Int)(x:Rat)(b1 b2:Int):qB s x b1 b2=(-(qA (-s) (-x) b1 b2).1,-(qA (-s) (-x) b1 b2).2.1,(qA (-s) (-x) b1 b2).2.2):=by
 unfold qA qB;rw [esx_neg,rt_neg,rt_neg]
 by_cases h:esx s x<0
 ·rw [if_pos h,if_pos (show 0 < -esx s x by omega)];simp [Rat.neg_neg]
 ·rw [if_neg h,if_neg (show ¬ 0 < -esx s x by omega)];simp [Rat.neg_neg]
theorem pB_neg(s:Int)(x:Rat)(b1 b2:Int):pB s x b1 b2=(-(pA (-s) (-x) b1 b2).2,-(pA (-s) (-x) b1 b2).1):=by
 unfold pA pB;rw [esx_neg,ov_neg,ov_neg]
 by_cases h:esx s x<=0
 ·rw [if_pos h,if_pos (show 0<=-esx s x by omega)];simp
 ·rw [if_neg h,if_neg (show ¬ 0<=-esx s x by omega)]
  by_cases h2:0<b1
  ·rw [if_pos h2,if_pos h2];simp
  ·rw [if_neg h2,if_neg h2];simp
theorem pB_qB{s:Int}{x:Rat}{b1 b2:Int}(hs:s=0\/s=1)(hx:s≠0->x=0)(hb:b1<=b2)(h2:0<b2)(h3:b2<=M)(h1:b1<M):
  pB s x b1 b2=(dn (qB s x b1 b2).1 (qB s x b1 b2).2.1,up (qB s x b1 b2).1 (qB s x b1 b2).2.1):=by
 rw [pB_neg,qB_neg,pA_qA (s:=-s) (x:=-x) (by omega) (fun h=>by rw [hx (by omega)];rfl) hb h2 h3 h1]
 simp only [dn_neg,up_neg]
theorem qA_kind{s:Int}{x:Rat}{b1 b2:Int}(hs:s=0\/s=-1)(hx:s≠0->x=0)(hb:b1<=b2)(h2:0<b2)(h3:b2<=M)(h1:b1<M):
  ((qA s x b1 b2).1=-1/\(qA s x b1 b2).2.1=0/\(qA s x b1 b2).2.2=true/\esx s x<0) \/
  ((qA s x b1 b2).1=0/\(qA s x b1 b2).2.1=0/\(qA s x b1 b2).2.2=true/\0<esx s x/\b2=M) \/
  ((qA s x b1 b2).1=0/\(qA s x b1 b2).2.1=0/\(qA s x b1 b2).2.2=false/\esx s x=0) \/
  ((qA s x b1 b2).1=0/\(qA s x b1 b2).2.2=false/\s=0/\x≠0/\((0<x/\b2<M/\(qA s x b1 b2).2.1=x / fl b2)\/(x<0/\0<b1/\(qA s x b1 b2).2.1=x / fl b1))):=by
 have hM:=M_val;unfold qA
 rcases esx_rng (x:=x) hs with he | he | he
 ·rw [if_neg (by omega)]
  have hm:max b1 0<M:=by omega
  have hm0:0<=max b1 0:=by omega
  unfold rt;rw [if_neg (by omega),if_neg (by rw [es_mid (by omega) hm];omega)]
  by_cases h:s≠0\/ex (max b1 0)=0
  ·rw [if_pos h];exact .inl ⟨he,rfl,rfl,by omega⟩
  ·rw [if_neg h]
   have h4:s=0:=by
    rcases hs with h5 | h5
    ·exact h5
    ·exact absurd (.inl (by omega)) h
   have h6:0<b1:=by
    rcases Int.lt_or_le 0 b1 with h7 | h7
    ·exact h7
    ·exact absurd (.inr (by rw [show max b1 0=0 from by omega,ex_nought])) h
   have h8:x<0:=by
    unfold esx rsg at he;rw [if_neg (by omega)] at he
    split at he
    ·omega
    ·split at he
     ·assumption
     ·omega
   refine .inr (.inr (.inr ⟨rfl,rfl,h4,by grind,.inr ⟨h8,h6,?_⟩⟩));rw [show max b1 0=b1 from by omega,ex_mid (by omega) h1]
 ·rw [if_neg (by omega),rt_nought _ _ he]
  exact .inr (.inr (.inl ⟨rfl,rfl,rfl,he⟩))
 ·rw [if_pos (by omega)]
  have h4:s=0:=by
   rcases hs with h | h
   ·exact h
   ·exfalso;subst h;unfold esx at he;rw [if_pos (by omega)] at he;omega
  have h8:0<x:=by
   unfold esx rsg at he;rw [if_neg (by omega)] at he
   split at he
   ·omega
   ·split at he
    ·omega
    ·grind
  unfold rt;rw [if_neg (by omega)]
  by_cases hm:b2=M
  ·subst hm;rw [if_pos (by rw [es_max];omega)]
   exact .inr (.inl ⟨rfl,rfl,rfl,by omega,rfl⟩)
  ·rw [if_neg (by rw [es_mid (by omega) (by omega)];omega),ex_mid (by omega) (by omega),if_neg (by have:=fl_pos h2;rintro (h | h);exact h h4;grind)]
   exact .inr (.inr (.inr ⟨rfl,rfl,h4,by grind,.inl ⟨h8,by omega,rfl⟩⟩))
theorem qB_kind{s:Int}{x:Rat}{b1 b2:Int}(hs:s=0\/s=1)(hx:s≠0->x=0)(hb:b1<=b2)(h2:0<b2)(h3:b2<=M)(h1:b1<M):
  ((qB s x b1 b2).1=1/\(qB s x b1 b2).2.1=0/\(qB s x b1 b2).2.2=true/\0<esx s x) \/
  ((qB s x b1 b2).1=0/\(qB s x b1 b2).2.1=0/\(qB s x b1 b2).2.2=true/\esx s x<0/\b2=M) \/
  ((qB s x b1 b2).1=0/\(qB s x b1 b2).2.1=0/\(qB s x b1 b2).2.2=false/\esx s x=0) \/
  ((qB s x b1 b2).1=0/\(qB s x b1 b2).2.2=false/\s=0/\x≠0/\((x<0/\b2<M/\(qB s x b1 b2).2.1=x / fl b2)\/(0<x/\0<b1/\(qB s x b1 b2).2.1=x / fl b1))):=by
 have k:=qA_kind (s:=-s) (x:=-x) (by omega) (fun h=>by rw [hx (by omega)];rfl) hb h2 h3 h1;rw [esx_neg] at k;rw [qB_neg]
 dsimp only
 have dv:∀ c:Rat,-(-x / c)=x / c:=fun c=>by rw [Rat.div_def,Rat.div_def,Rat.neg_mul,Rat.neg_neg]
 rcases k with ⟨a,b,c,d⟩ | ⟨a,b,c,d,e⟩ | ⟨a,b,c,d⟩ | ⟨a,b,c,d,e⟩
 ·exact .inl ⟨by omega,by rw [b];rfl,c,by omega⟩
 ·exact .inr (.inl ⟨by omega,by rw [b];rfl,c,by omega,e⟩)
 ·exact .inr (.inr (.inl ⟨by omega,by rw [b];rfl,c,by omega⟩))
 ·refine .inr (.inr (.inr ⟨by omega,b,by omega,by grind,?_⟩))
  rcases e with ⟨e1,e2,e3⟩ | ⟨e1,e2,e3⟩
  ·exact .inl ⟨by grind,e2,by rw [e3,dv]⟩
  ·exact .inr ⟨by grind,e2,by rw [e3,dv]⟩
theorem div_le_div{x y c d:Rat}(hc:0<c)(hd:0<d)(h:x*d<=y*c):x / c<=y / d:=by
 have hk:0<c*d:=Rat.mul_pos hc hd;refine (mul_le_pos hk).1 ?_
 have e1:x / c*(c*d)=x*d:=by rw [<- Rat.mul_assoc,Rat.div_mul_cancel (by grind)]
 have e2:y / d*(c*d)=y*c:=by rw [Rat.mul_comm c d,<- Rat.mul_assoc,Rat.div_mul_cancel (by grind)]
 rw [e1,e2];exact h
theorem div_pos'{x c:Rat}(hx:0<x)(hc:0<c):0<x / c:=by
 have h1:=Rat.inv_pos.2 hc;rw [Rat.div_def];exact Rat.mul_pos hx h1
theorem div_neg'{x c:Rat}(hx:x<0)(hc:0<c):x / c<0:=by
 have h:=div_pos' (x:=-x) (by grind) hc;rw [Rat.div_def,Rat.neg_mul,<- Rat.div_def] at h
 grind
theorem esx_pos{s:Int}{x:Rat}(hs:s=0\/s=-1)(h:0<esx s x):s=0/\0<x:=by
 unfold esx at h
 rcases hs with rfl | rfl
 ·rw [if_neg (by omega)] at h;refine⟨rfl,?_⟩;unfold rsg at h
  split at h
  ·omega
  ·split at h
   ·omega
   ·grind
 ·rw [if_pos (by omega)] at h;omega
theorem esx_lt{s:Int}{x:Rat}(hs:s=0\/s=1)(h:esx s x<0):s=0/\x<0:=by
 have k:=esx_pos (s:=-s) (x:=-x) (by omega) (by rw [esx_neg];omega)
 exact⟨by omega,by grind⟩
theorem q_le{s1 s2:Int}{x1 x2:Rat}{b1 b2:Int}(hs1:s1=0\/s1=-1)(hx1:s1≠0->x1=0)(hs2:s2=0\/s2=1)(hx2:s2≠0->x2=0)(hle:s1=0->s2=0->x1<=x2)(hb:b1<=b2)(h2:0<b2)(h3:b2<=M)(h1:b1<M):
  dn (qA s1 x1 b1 b2).1 (qA s1 x1 b1 b2).2.1<=up (qB s2 x2 b1 b2).1 (qB s2 x2 b1 b2).2.1:=by
 have hM:=M_val;have ka:=qA_kind hs1 hx1 hb h2 h3 h1;have kb:=qB_kind hs2 hx2 hb h2 h3 h1;have f2:=fl_pos h2
 have fin:(qA s1 x1 b1 b2).1=0->(qB s2 x2 b1 b2).1=0->(qA s1 x1 b1 b2).2.1<=(qB s2 x2 b1 b2).2.1->dn (qA s1 x1 b1 b2).1 (qA s1 x1 b1 b2).2.1<=up (qB s2 x2 b1 b2).1 (qB s2 x2 b1 b2).2.1:=fun e1 e2 h=>by
  rw [e1,e2,dn_zero,up_zero]
  exact Int.le_trans (rndI_le _) (rndI_mono (.inr rfl) h)
 rcases ka with ⟨a1,-,-,-⟩ | ⟨a1,a2,-,a4,a5⟩ | ⟨a1,a2,-,a4⟩ | ⟨a1,-,a3,a4,a5⟩
 ·have:=up_gt (s:=(qB s2 x2 b1 b2).1) (x:=(qB s2 x2 b1 b2).2.1) (by rcases kb with k | k | k | k<;>omega);unfold dn;rw [a1,if_neg (by omega)];omega
 all_goals rcases kb with ⟨c1,-,-,-⟩ | ⟨c1,c2,-,c4,c5⟩ | ⟨c1,c2,-,c4⟩ | ⟨c1,-,c3,c4,c5⟩
 all_goals first
  | (have:=dn_lt (s:=(qA s1 x1 b1 b2).1) (x:=(qA s1 x1 b1 b2).2.1) (.inl a1);unfold up;rw [c1,if_neg (by omega)];omega)
  | skip
 ·have p:=esx_pos hs1 a4;have q:=esx_lt hs2 c4;have:=hle p.1 q.1;exfalso;grind
 ·have p:=esx_pos hs1 a4;have q:=(esx_zero hx2).1 c4;have:=hle p.1 q.1;exfalso;grind
 ·have p:=esx_pos hs1 a4;have:=hle p.1 c3;refine fin a1 c1 ?_
  rcases c5 with ⟨d1,d2,d3⟩ | ⟨d1,d2,d3⟩
  ·exfalso;grind
  ·rw [a2,d3];have:=div_pos' d1 (fl_pos d2);grind
 ·have p:=(esx_zero hx1).1 a4;have q:=esx_lt hs2 c4;have:=hle p.1 q.1;exfalso;grind
 ·refine fin a1 c1 ?_;rw [a2,c2];exact Rat.le_refl
 ·have p:=(esx_zero hx1).1 a4;have:=hle p.1 c3;refine fin a1 c1 ?_
  rcases c5 with ⟨d1,d2,d3⟩ | ⟨d1,d2,d3⟩
  ·exfalso;grind
  ·rw [a2,d3];have:=div_pos' d1 (fl_pos d2);grind
 ·have q:=esx_lt hs2 c4;have:=hle a3 q.1;refine fin a1 c1 ?_
  rcases a5 with ⟨d1,d2,d3⟩ | ⟨d1,d2,d3⟩
  ·exfalso;grind
  ·rw [c2,d3];have:=div_neg' d1 (fl_pos d2);grind
 ·have q:=(esx_zero hx2).1 c4;have:=hle a3 q.1;refine fin a1 c1 ?_
  rcases a5 with ⟨d1,d2,d3⟩ | ⟨d1,d2,d3⟩
  ·exfalso;grind
  ·rw [c2,d3];have:=div_neg' d1 (fl_pos d2);grind
 ·have hh:=hle a3 c3;have fb:0<b1->fl b1<=fl b2:=fun _=>fl_le_iff.2 hb;refine fin a1 c1 ?_
  rcases a5 with ⟨d1,d2,d3⟩ | ⟨d1,d2,d3⟩
  ·rcases c5 with ⟨e1,e2,e3⟩ | ⟨e1,e2,e3⟩
   ·exfalso;grind
   ·rw [d3,e3];have f1:=fl_pos e2;refine div_le_div f2 f1 ?_;have m1:x1*fl b1<=x2*fl b1:=(mul_le_pos f1).2 hh;have m2:fl b1*x2<=fl b2*x2:=(mul_le_pos e1).2 (fb e2)
    grind
  ·have f1:=fl_pos d2
   rcases c5 with ⟨e1,e2,e3⟩ | ⟨e1,e2,e3⟩
   ·rw [d3,e3];refine div_le_div f1 f2 ?_;have m1:x1*fl b2<=x2*fl b2:=(mul_le_pos f2).2 hh;have m2:fl b1*(-x2)<=fl b2*(-x2):=(mul_le_pos (by grind)).2 (fb d2)
    grind
   ·rw [d3,e3];have:=div_neg' d1 f1;have:=div_pos' e1 f1
    grind
theorem rndI_pos{x:Rat}(h:0<x):0<rndI 1 x:=by
 have hM:=M_val;have h1:=mt ((rndI_up x).2.2 0 (by omega) (by omega)).1 (by rw [fl_zero];grind)
 omega
theorem rndI_neg'{x:Rat}(h:x<0):rndI (-1) x<0:=by
 have hM:=M_val;have h1:=mt ((rndI_down x).2.2 0 (by omega) (by omega)).1 (by rw [fl_zero];grind)
 omega
theorem openA{s1 s2:Int}{x1 x2:Rat}{b1 b2:Int}(hs1:s1=0\/s1=-1)(hx1:s1≠0->x1=0)(hs2:s2=0\/s2=1)(hle:s1=0->s2=0->x1<=x2)(hb:b1<=b2)(h2:0<b2)(h3:b2<=M)(h1:b1<M):
  ((0<esx s1 x1\/esx s2 x2<0)/\dn (qA s1 x1 b1 b2).1 (qA s1 x1 b1 b2).2.1=0/\up (qA s1 x1 b1 b2).1 (qA s1 x1 b1 b2).2.1=0)↔((qA s1 x1 b1 b2).1=0/\(qA s1 x1 b1 b2).2.1=0/\(qA s1 x1 b1 b2).2.2=true):=by
 have hM:=M_val;have z1:=rndI_zero (d:=-1) (.inl rfl);have z2:=rndI_zero (d:=1) (.inr rfl)
 rcases qA_kind hs1 hx1 hb h2 h3 h1 with ⟨a1,-,-,-⟩ | ⟨a1,a2,a3,a4,a5⟩ | ⟨a1,a2,a3,a4⟩ | ⟨a1,a2,a3,a4,a5⟩
 ·constructor
  ·rintro⟨-,h,-⟩;unfold dn at h;rw [a1,if_neg (by omega)] at h;omega
  ·rintro⟨h,-⟩;omega
 ·refine⟨fun _=>⟨a1,a2,a3⟩,fun _=>⟨.inl a4,?_⟩⟩;rw [a1,a2,dn_zero,up_zero];exact⟨z1,z2⟩
 ·constructor
  ·rintro⟨h | h,-⟩
   ·omega
   ·have q:=esx_lt hs2 h;have r:=(esx_zero hx1).1 a4;have:=hle r.1 q.1
    exfalso;grind
  ·rintro⟨-,-,h⟩;rw [a3] at h;cases h
 ·constructor
  ·rintro⟨-,h,h'⟩;rw [a1,dn_zero] at h;rw [a1,up_zero] at h'
   rcases a5 with ⟨d1,d2,d3⟩ | ⟨d1,d2,d3⟩
   ·have:=rndI_pos (div_pos' d1 (fl_pos h2));rw [d3] at h';omega
   ·have:=rndI_neg' (div_neg' d1 (fl_pos d2));rw [d3] at h;omega
  ·rintro⟨-,-,h⟩;rw [a2] at h;cases h
theorem openB{s1 s2:Int}{x1 x2:Rat}{b1 b2:Int}(hs1:s1=0\/s1=-1)(hs2:s2=0\/s2=1)(hx2:s2≠0->x2=0)(hle:s1=0->s2=0->x1<=x2)(hb:b1<=b2)(h2:0<b2)(h3:b2<=M)(h1:b1<M):
  ((0<esx s1 x1\/esx s2 x2<0)/\dn (qB s2 x2 b1 b2).1 (qB s2 x2 b1 b2).2.1=0/\up (qB s2 x2 b1 b2).1 (qB s2 x2 b1 b2).2.1=0)↔((qB s2 x2 b1 b2).1=0/\(qB s2 x2 b1 b2).2.1=0/\(qB s2 x2 b1 b2).2.2=true):=by
 have k:=openA (s1:=-s2) (x1:=-x2) (s2:=-s1) (x2:=-x1) (by omega) (fun h=>by rw [hx2 (by omega)];rfl) (by omega) (fun a b=>by have:=hle (by omega) (by omega);grind) hb h2 h3 h1;rw [esx_neg,esx_neg] at k;rw [qB_neg]
 dsimp only
 rw [dn_neg,up_neg]
 constructor
 ·rintro⟨a,b,c⟩;have:=k.1 ⟨by omega,by omega,by omega⟩
  exact⟨by omega,by rw [this.2.1];rfl,this.2.2⟩
 ·rintro⟨a,b,c⟩;have:=k.2 ⟨by omega,by grind,c⟩
  exact⟨by omega,by omega,by omega⟩
theorem ct_tail{op:Bool}{sa:Int}{xa:Rat}{fa:Bool}{sb:Int}{xb:Rat}{fb:Bool}{i j:Int}(h:-(M:Int)<=i/\i<=j/\j<=M/\i<M/\-(M:Int)<j)(ka:sa=0\/sa=-1)(kb:sb=0\/sb=1)
  (wa:fa=true->sa=-1\/sa=0/\xa=0)(wb:fb=true->sb=1\/sb=0/\xb=0)(oa:(op=true/\dn sa xa=0/\up sa xa=0)↔(sa=0/\xa=0/\fa=true))(ob:(op=true/\dn sb xb=0/\up sb xb=0)↔(sb=0/\xb=0/\fb=true)):
  ctO op i j (dn sa xa) (up sa xa) (dn sb xb) (up sb xb)=pf sa xa fa sb xb fb i j:=by
 have hM:=M_val;unfold pf;rw [if_neg (by omega)];unfold wg ctO;rw [ec_lo_at (by omega) ka,ec_hi_at (by omega) kb];have e1:=ec_hi (i:=i) (s:=sb) (x:=xb) (by omega) kb;have e2:=ec_lo (j:=j) (s:=sa) (x:=xa) (by omega) ka
 have z0:∀ k:Int,-(M:Int)<=k->k<=M->(ec (es k) (ex k) 0 0=0↔k=0):=fun k k1 k2=>by
  have h:=ec_idx (i:=k) (b:=0) k1 k2 (by omega) (by omega);rw [es_nought,ex_nought] at h;unfold SameSign at h
  omega
 have e3:(ec (es i) (ex i) sb xb=0/\fb=true)↔(op=true/\dn sb xb=0/\up sb xb=0/\i=0):=by
  constructor
  ·rintro⟨a,b⟩
   rcases wb b with k | k
   ·exact absurd a (ec_hi_open (by omega) k)
   ·have q:=ob.2 ⟨k.1,k.2,b⟩;rw [k.1,k.2] at a
    exact⟨q.1,q.2.1,q.2.2,(z0 i (by omega) (by omega)).1 a⟩
  ·rintro⟨a,b,c,d⟩;have q:=ob.1 ⟨a,b,c⟩;rw [q.1,q.2.1]
   exact⟨(z0 i (by omega) (by omega)).2 d,q.2.2⟩
 have e4:(ec (es j) (ex j) sa xa=0/\fa=true)↔(op=true/\dn sa xa=0/\up sa xa=0/\j=0):=by
  constructor
  ·rintro⟨a,b⟩
   rcases wa b with k | k
   ·exact absurd a (ec_lo_open (by omega) k)
   ·have q:=oa.2 ⟨k.1,k.2,b⟩;rw [k.1,k.2] at a
    exact⟨q.1,q.2.1,q.2.2,(z0 j (by omega) (by omega)).1 a⟩
  ·rintro⟨a,b,c,d⟩;have q:=oa.1 ⟨a,b,c⟩;rw [q.1,q.2.1]
   exact⟨(z0 j (by omega) (by omega)).2 d,q.2.2⟩
 by_cases hc:dn sb xb<i\/j<up sa xa
 ·rw [if_pos hc,if_pos]
  rcases hc with h1 | h1
  ·exact .inl (e1.2 h1)
  ·exact .inr (.inr (.inl (e2.2 h1)))
 ·rw [if_neg hc]
  by_cases hd:op=true/\((dn sa xa=0/\up sa xa=0/\j<=0)\/(dn sb xb=0/\up sb xb=0/\0<=i))
  ·rw [if_pos hd,if_pos];obtain⟨ho,hd | hd⟩:=hd
   ·exact .inr (.inr (.inr (e4.2 ⟨ho,hd.1,hd.2.1,by omega⟩)))
   ·exact .inr (.inl (e3.2 ⟨ho,hd.1,hd.2.1,by omega⟩))
  ·rw [if_neg hd,if_neg];rintro (h1 | h1 | h1 | h1)
   ·exact hc (.inl (e1.1 h1))
   ·have q:=e3.1 h1
    exact hd ⟨q.1,.inr ⟨q.2.1,q.2.2.1,by omega⟩⟩
   ·exact hc (.inr (e2.1 h1))
   ·have q:=e4.1 h1
    exact hd ⟨q.1,.inl ⟨q.2.1,q.2.2.1,by omega⟩⟩
theorem ct_pf{s1 s2:Int}{x1 x2:Rat}{b1 b2:Int}(hs1:s1=0\/s1=-1)(hx1:s1≠0->x1=0)(hs2:s2=0\/s2=1)(hx2:s2≠0->x2=0)(hle:s1=0->s2=0->x1<=x2)(hb:b1<=b2)(h2:0<b2)(h3:b2<=M)(h1:b1<M)
  (i j:Int)(h:-(M:Int)<=i/\i<=j/\j<=M/\i<M/\-(M:Int)<j):
  ctO (decide (0<esx s1 x1) || decide (esx s2 x2<0)) i j (pA s1 x1 b1 b2).1 (pA s1 x1 b1 b2).2 (pB s2 x2 b1 b2).1 (pB s2 x2 b1 b2).2=pf (qA s1 x1 b1 b2).1 (qA s1 x1 b1 b2).2.1 (qA s1 x1 b1 b2).2.2 (qB s2 x2 b1 b2).1 (qB s2 x2 b1 b2).2.1 (qB s2 x2 b1 b2).2.2 i j:=by
 have hM:=M_val;rw [pA_qA hs1 hx1 hb h2 h3 h1,pB_qB hs2 hx2 hb h2 h3 h1];have oa:=openA hs1 hx1 hs2 hle hb h2 h3 h1;have ob:=openB hs1 hs2 hx2 hle hb h2 h3 h1
 have ka:(qA s1 x1 b1 b2).1=0\/(qA s1 x1 b1 b2).1=-1:=by rcases qA_kind hs1 hx1 hb h2 h3 h1 with k | k | k | k<;>omega
 have kb:(qB s2 x2 b1 b2).1=0\/(qB s2 x2 b1 b2).1=1:=by rcases qB_kind hs2 hx2 hb h2 h3 h1 with k | k | k | k<;>omega
 have wa:(qA s1 x1 b1 b2).2.2=true->(qA s1 x1 b1 b2).1=-1\/(qA s1 x1 b1 b2).1=0/\(qA s1 x1 b1 b2).2.1=0:=fun o=>by
  rcases qA_kind hs1 hx1 hb h2 h3 h1 with k | k | k | k
  ·exact .inl k.1
  ·exact .inr ⟨k.1,k.2.1⟩
  ·rw [k.2.2.1] at o;cases o
  ·rw [k.2.1] at o;cases o
 have wb:(qB s2 x2 b1 b2).2.2=true->(qB s2 x2 b1 b2).1=1\/(qB s2 x2 b1 b2).1=0/\(qB s2 x2 b1 b2).2.1=0:=fun o=>by
  rcases qB_kind hs2 hx2 hb h2 h3 h1 with k | k | k | k
  ·exact .inl k.1
  ·exact .inr ⟨k.1,k.2.1⟩
  ·rw [k.2.2.1] at o;cases o
  ·rw [k.2.1] at o;cases o
 obtain⟨⟨sa,xa,fa⟩,ea⟩:∃ z,qA s1 x1 b1 b2=z:=⟨_,rfl⟩
 obtain⟨⟨sb,xb,fb⟩,eb⟩:∃ z,qB s2 x2 b1 b2=z:=⟨_,rfl⟩
 rw [ea] at oa ka wa;rw [eb] at ob kb wb;rw [ea,eb]
 obtain⟨op,hop⟩:∃ o,(decide (0<esx s1 x1) || decide (esx s2 x2<0))=o:=⟨_,rfl⟩
 have hop2:(0<esx s1 x1\/esx s2 x2<0)↔op=true:=by rw [<- hop];simp
 rw [hop2] at oa ob;rw [hop]
 dsimp only at *
 exact ct_tail h ka kb wa wb oa ob
end
section
open Go.RowKit
def Bx(w:World)(g p q:Nat):Prop:=Blk w g 28 (Zv p q)
theorem Bx.keep{w w':World}{g p q:Nat}(h:Bx w g p q)(hb:Below w.heap.size w w'):Bx w' g p q:=Blk.keep h hb
theorem Bx.set{w:World}{g p q:Nat}(h:Bx w g p q)(a b:Nat):Bx ((w.setCell ⟨g,0,none⟩ (.float .f64 a)).setCell ⟨g,1,none⟩ (.float .f64 b)) g a b:=by
 have h1:=Blk.sets [.float .f64 a,.float .f64 b] 0 _ _ h;unfold Bx
 simpa [laid,sets] using h1
theorem Bx.far{w:World}{g p q r:Nat}(h:Bx w g p q)(hr:g≠r)(a b:Value):Bx ((w.setCell ⟨r,0,none⟩ a).setCell ⟨r,1,none⟩ b) g p q:=Blk.other h hr 0 [a,b]
structure Kp (g0 g1 g2:Nat) (w w':World):Prop where
 os:w'.os=w.os
 tape:w'.tape=w.tape
 output:w'.output=w.output
 size:w.heap.size<=w'.heap.size
 block:∀ k,k<w.heap.size->k≠g0->k≠g1->k≠g2->w'.heap[k]?=w.heap[k]?
theorem Kp.refl(g0 g1 g2:Nat)(w:World):Kp g0 g1 g2 w w:=⟨rfl,rfl,rfl,Nat.le_refl _,fun _ _ _ _ _=>rfl⟩
theorem Kp.below{g0 g1 g2:Nat}{w w1 w2:World}(h:Kp g0 g1 g2 w w1)(hb:Below w1.heap.size w1 w2):Kp g0 g1 g2 w w2:=
 ⟨hb.os.trans h.os,hb.tape.trans h.tape,hb.output.trans h.output,Nat.le_trans h.size hb.size,fun k hk a b c=>(hb.block k (Nat.lt_of_lt_of_le hk h.size)).trans (h.block k hk a b c)⟩
theorem Kp.set{g0 g1 g2 r:Nat}{w w1:World}(h:Kp g0 g1 g2 w w1)(hr:r=g0\/r=g1\/r=g2)(a b:Value):Kp g0 g1 g2 w ((w1.setCell ⟨r,0,none⟩ a).setCell ⟨r,1,none⟩ b):=
 ⟨h.os,h.tape,h.output,by have:=size_sets (r:=r) [a,b] 0 w1;have:=h.size;show w.heap.size<=(sets w1 r 0 [a,b]).heap.size;omega,
  fun k hk x y z=>(heap_sets (r:=r) (k:=k) (by rintro rfl;rcases hr with e | e | e<;>contradiction) [a,b] 0 w1).trans (h.block k hk x y z)⟩
theorem Kp.cell{g0 g1 g2:Nat}{w w1:World}(h:Kp g0 g1 g2 w w1){ad:Addr}{v:Value}(hc:w.cell? ad=some v)(h0:ad.block≠g0)(h1:ad.block≠g1)(h2:ad.block≠g2):w1.cell? ad=some v:=by
 have hlt:ad.block<w.heap.size:=by
  unfold World.cell? at hc
  split at hc
  ·rename_i e
   exact (Array.getElem?_eq_some_iff.1 e).1
  ·cases hc
 rw [World.cell?_of_block (w:=w)]
 ·exact hc
 ·exact h.block _ hlt h0 h1 h2
theorem Kp.toBl{g0 g1 g2 B:Nat}{w0 w w':World}(h:Kp g0 g1 g2 w w')(hb:Below B w0 w)(hB:B<=w.heap.size)(h0:B<=g0)(h1:B<=g1)(h2:B<=g2):Below B w0 w':=
 ⟨h.os.trans hb.os,h.tape.trans hb.tape,h.output.trans hb.output,Nat.le_trans hb.size h.size,fun k hk=>(h.block k (by omega) (by omega) (by omega) (by omega)).trans (hb.block k hk)⟩
theorem Kp.hasBk{g0 g1 g2 r n:Nat}{t:TypeId}{w w':World}(h:Kp g0 g1 g2 w w')(hr:HasBlk w r t n)(h0:r≠g0)(h1:r≠g1)(h2:r≠g2):HasBlk w' r t n:=by
 obtain⟨cs,a,b⟩:=hr
 exact⟨cs,(h.block r a.lt h0 h1 h2).trans a,b⟩
theorem Iv.negg{i j:Int}(h:Iv i j):Iv (-j) (-i):=by
 unfold Iv at *;rw [M_val] at *
 omega
end
section
open Go.RowKit
attribute [local go_sem] run_store_float run_eqf
def anyB(f:Nat->Bool):Nat->Bool
 | 0=>false
 | n+1=>anyB f n || f n
structure KeepN (G n:Nat) (w w':World):Prop where
 os:w'.os=w.os
 tape:w'.tape=w.tape
 output:w'.output=w.output
 size:w.heap.size<=w'.heap.size
 block:∀ k,k<w.heap.size->(k<G\/G+n<=k)->w'.heap[k]?=w.heap[k]?
theorem KeepN.refl(G n:Nat)(w:World):KeepN G n w w:=⟨rfl,rfl,rfl,Nat.le_refl _,fun _ _ _=>rfl⟩
theorem KeepN.below{G n:Nat}{w w1 w2:World}(h:KeepN G n w w1)(hb:Below w1.heap.size w1 w2):KeepN G n w w2:=
 ⟨hb.os.trans h.os,hb.tape.trans h.tape,hb.output.trans h.output,Nat.le_trans h.size hb.size,fun k hk a=>(hb.block k (Nat.lt_of_lt_of_le hk h.size)).trans (h.block k hk a)⟩
theorem KeepN.drew{G n:Nat}{w w1:World}(h:KeepN G n w w1):KeepN G n w w1.drew:=⟨h.os,h.tape,h.output,h.size,h.block⟩
theorem KeepN.set{G n t:Nat}{w w1:World}(h:KeepN G n w w1)(ht:t<n)(a b:Value):KeepN G n w ((w1.setCell ⟨G+t,0,none⟩ a).setCell ⟨G+t,1,none⟩ b):=
 ⟨h.os,h.tape,h.output,by have:=size_sets (r:=G+t) [a,b] 0 w1;have:=h.size;show w.heap.size<=(sets w1 (G+t) 0 [a,b]).heap.size;omega,
  fun k hk x=>(heap_sets (r:=G+t) (k:=k) (by omega) [a,b] 0 w1).trans (h.block k hk x)⟩
theorem KeepN.cell{G n:Nat}{w w1:World}(h:KeepN G n w w1){ad:Addr}{v:Value}(hc:w.cell? ad=some v)(h0:ad.block<G\/G+n<=ad.block):w1.cell? ad=some v:=by
 have hlt:ad.block<w.heap.size:=by
  unfold World.cell? at hc
  split at hc
  ·rename_i e
   exact (Array.getElem?_eq_some_iff.1 e).1
  ·cases hc
 rw [World.cell?_of_block (w:=w)]
 ·exact hc
 ·exact h.block _ hlt h0
theorem KeepN.toBl{G n B:Nat}{w0 w w':World}(h:KeepN G n w w')(hb:Below B w0 w)(hB:B<=w.heap.size)(h0:B<=G):Below B w0 w':=
 ⟨h.os.trans hb.os,h.tape.trans hb.tape,h.output.trans hb.output,Nat.le_trans hb.size h.size,fun k hk=>(h.block k (by omega) (by omega)).trans (hb.block k hk)⟩
theorem KeepN.hasBk{G n r m:Nat}{t:TypeId}{w w':World}(h:KeepN G n w w')(hr:HasBlk w r t m)(h0:r<G\/G+n<=r):HasBlk w' r t m:=by
 obtain⟨cs,a,b⟩:=hr
 exact⟨cs,(h.block r a.lt h0).trans a,b⟩
theorem read_n(G n gl cap:Nat)(xs ps:Nat->Nat × Nat)(em:Nat->Bool)(w:World)(hn:n<=100)(hgl:G+n<=gl)
  (hc:∀ k:Nat,k<n->w.cell? ⟨gl,k,none⟩=some (.pointer (some ⟨G+k,0,none⟩)))(hb:∀ k:Nat,k<n->Bx w (G+k) (xs k).1 (xs k).2)
  (hr:∀ k:Nat,k<n->∀ W,Rt 102 #[.agg #[.float .f64 (xs k).1,.float .f64 (xs k).2]] (.agg #[.float .f64 (ps k).1,.float .f64 (ps k).2]) W)
  (he:∀ k:Nat,k<n->Em (em k) (ps k).1 (ps k).2):
  Calls Tryz.prog 75 #[.slice (some ⟨gl,0,none⟩) n cap] w fun e w'=>e=.returned (.bool (anyB em n))/\(∀ k:Nat,k<n->Bx w' (G+k) (ps k).1 (ps k).2)/\KeepN G n w w':=by
 have HC:=Hd hc;have HB:=Hd hb;have HR:=Hd hr;have HE:=Hd he;have HEM:=Hd emptyf;clear hc hb hr he
 go_enter Tryz.func75,Tryz.ntmps75
 go_wp2
 go_loopw [3,5,8] (fun nv _ iv wr=>∃ k:Nat,iv=.int .i64 k/\nv=.bool (anyB em k)/\k<=n/\(∀ t:Nat,t<k->Bx wr (G+t) (ps t).1 (ps t).2)/\(∀ t:Nat,k<=t->t<n->Bx wr (G+t) (xs t).1 (xs t).2)/\KeepN G n w wr) (fun _ _ iv _=>n - (intOf iv).toNat)
 case atStart=>exact⟨0,rfl,rfl,Nat.zero_le _,fun t h=>absurd h (by omega),fun t _ h=>HB.out t h,KeepN.refl _ _ _⟩
 case round=>
  obtain⟨k,rfl,rfl,hk,hd,hl,hkp⟩:=hrel;have HD:=Hd hd;have HL:=Hd hl;have HK:=Hd hkp;clear hd hl hkp
  by_cases hlt:k<n
  ·have hc:=HK.out.cell (HC.out k hlt) (.inr hgl);have hbx:=HL.out k (Nat.le_refl _) hlt;have hem:=HE.out k hlt;have hrd:=HR.out k hlt;have hS:anyB em (k+1)=(anyB em k || em k):=rfl
   obtain⟨p,hp⟩:∃ p,(ps k).1=p:=⟨_,rfl⟩
   obtain⟨q,hq⟩:∃ p,(ps k).2=p:=⟨_,rfl⟩
   obtain⟨x,hx⟩:∃ p,(xs k).1=p:=⟨_,rfl⟩
   obtain⟨y,hy⟩:∃ p,(xs k).2=p:=⟨_,rfl⟩
   rw [hp,hq] at hem hrd;rw [hx,hy] at hrd hbx
   obtain⟨na,hna⟩:∃ b,anyB em k=b:=⟨_,rfl⟩
   obtain⟨ea,hea⟩:∃ b,em k=b:=⟨_,rfl⟩
   rw [hna,hea] at hS;rw [hea] at hem;rw [hna];have HRD:=Hd hrd;have HMM:=Hd hem;have HP:=Hd hp;have HQ:=Hd hq;have HS:=Hd hS;clear hem hrd hp hq hx hy hna hea hS;have q0:_=some (.float .f64 x:Value):=Blk.cell hbx 0;have q1:_=some (.float .f64 y:Value):=Blk.cell hbx 1;go_wp2_with fail;refine cx (HRD.out _) fun w1 hb1=>?_;have hb2:=Bx.keep hbx hb1;have HD1:=Hd fun t h=>(HD.out t h).keep hb1;have HL1:=Hd fun t h h'=>(HL.out t h h').keep hb1;have HK1:=Hd (HK.out.below hb1);clear hb1 q0 q1 HRD HD HL HK hc hbx;have q0:_=some (.float .f64 x:Value):=Blk.cell hb2 0;have q1:_=some (.float .f64 y:Value):=Blk.cell hb2 1;have f0:=Blk.frozen hb2 0;have f1:=Blk.frozen hb2 1;have HB2:=Hd (hb2.set p q)
   go_upto_region 6 with fail
   have HS6:=Hd (show (∀ t:Nat,t<k+1->Bx ((w1.setCell ⟨G+k,0,none⟩ (.float .f64 p)).setCell ⟨G+k,1,none⟩ (.float .f64 q)) (G+t) (ps t).1 (ps t).2)/\(∀ t:Nat,k+1<=t->t<n->Bx ((w1.setCell ⟨G+k,0,none⟩ (.float .f64 p)).setCell ⟨G+k,1,none⟩ (.float .f64 q)) (G+t) (xs t).1 (xs t).2)/\KeepN G n w ((w1.setCell ⟨G+k,0,none⟩ (.float .f64 p)).setCell ⟨G+k,1,none⟩ (.float .f64 q)) from
    ⟨fun t h=>by
      by_cases e:t=k
      ·subst e;rw [HP.out,HQ.out];exact HB2.out
      ·exact (HD1.out t (by omega)).far (by omega) _ _,fun t h h'=>(HL1.out t (by omega) h').far (by omega) _ _,HK1.out.set hlt _ _⟩)
   obtain⟨W2,hW2⟩:∃ W,(w1.setCell ⟨G+k,0,none⟩ (.float .f64 p)).setCell ⟨G+k,1,none⟩ (.float .f64 q)=W:=⟨_,rfl⟩
   rw [hW2] at HS6 ⊢;clear hW2 q0 q1 f0 f1 hb2 HB2 HD1 HL1 HK1
   cases na
   ·obtain⟨hm1,hm2⟩:=HMM.out;clear HMM
    cases ea
    ·have m1:=hm2 rfl;clear hm1 hm2;refine wp_region_held_drew (S:=fun W'=>(∀ t:Nat,t<k+1->Bx W' (G+t) (ps t).1 (ps t).2)/\(∀ t:Nat,k+1<=t->t<n->Bx W' (G+t) (xs t).1 (xs t).2)/\KeepN G n w W') (by kernel_rfl) (by exact⟨fun t h=>HS6.out.1 t h,fun t h h2=>HS6.out.2.1 t h h2,HS6.out.2.2.drew⟩) (fun hHeld=>?_);refine tks 0 ?_;refine tks 1 ?_;refine tks 2 ?_;refine tks 3 ?_;refine tks 4 ?_ (hv:=by intro W2 hSw;have hbx:=hSw.1 k (by omega);rw [HP.out,HQ.out] at hbx;have q0:_=some (.float .f64 p:Value):=Blk.cell hbx 0;have q1:_=some (.float .f64 q:Value):=Blk.cell hbx 1;go_simp;(try with_reducible rfl));refine rdy 5 fun KK hKK=>?_;go_simp;refine cx (HEM.out _) fun w3 hbE=>?_;go_wp2_with fail;refine hKK.out _ _ (⟨fun t h=>(hHeld.1 t h).keep hbE,fun t h h2=>(hHeld.2.1 t h h2).keep hbE,hHeld.2.2.below hbE⟩) (fun _=>?_);clear hKK KK hHeld;rename_i hHeld;(try simp only [Act.put,lay]);refine tks 6 ?_;refine tks 7 ?_;refine tks 8 ?_;refine wpAnyH_done (by kernel_rfl) ?_ _;go_wp2
     go_roundw
     case rel=>exact⟨k+1,by go_num,by rw [HS.out];rfl,by omega,hHeld.1,hHeld.2.1,hHeld.2.2⟩
     case measure=>simp [intOf];omega
    ·obtain⟨m1,m2⟩:=hm1 rfl;clear hm1 hm2;refine wp_region_held_drew (S:=fun W'=>(∀ t:Nat,t<k+1->Bx W' (G+t) (ps t).1 (ps t).2)/\(∀ t:Nat,k+1<=t->t<n->Bx W' (G+t) (xs t).1 (xs t).2)/\KeepN G n w W') (by kernel_rfl) (by exact⟨fun t h=>HS6.out.1 t h,fun t h h2=>HS6.out.2.1 t h h2,HS6.out.2.2.drew⟩) (fun hHeld=>?_);refine tks 0 ?_;refine tks 1 ?_;refine tks 2 ?_;refine tks 3 ?_;refine tks 4 ?_ (hv:=by intro W2 hSw;have hbx:=hSw.1 k (by omega);rw [HP.out,HQ.out] at hbx;have q0:_=some (.float .f64 p:Value):=Blk.cell hbx 0;have q1:_=some (.float .f64 q:Value):=Blk.cell hbx 1;go_simp;(try with_reducible rfl));refine rdy 5 fun KK hKK=>?_;go_simp;refine cx (HEM.out _) fun w3 hbE=>?_;go_wp2_with fail;refine hKK.out _ _ (⟨fun t h=>(hHeld.1 t h).keep hbE,fun t h h2=>(hHeld.2.1 t h h2).keep hbE,hHeld.2.2.below hbE⟩) (fun _=>?_);clear hKK KK hHeld;rename_i hHeld;(try simp only [Act.put,lay]);refine tks 6 ?_;refine tks 7 ?_;refine tks 8 ?_;refine wpAnyH_done (by kernel_rfl) ?_ _;go_wp2
     go_roundw
     case rel=>exact⟨k+1,by go_num,by rw [HS.out];rfl,by omega,hHeld.1,hHeld.2.1,hHeld.2.2⟩
     case measure=>simp [intOf];omega
   ·skip;refine wp_region_held_drew (S:=fun W'=>(∀ t:Nat,t<k+1->Bx W' (G+t) (ps t).1 (ps t).2)/\(∀ t:Nat,k+1<=t->t<n->Bx W' (G+t) (xs t).1 (xs t).2)/\KeepN G n w W') (by kernel_rfl) (by exact⟨fun t h=>HS6.out.1 t h,fun t h h2=>HS6.out.2.1 t h h2,HS6.out.2.2.drew⟩) (fun hHeld=>?_);refine tks 0 ?_;refine tks 1 ?_;refine tkns 2 ?_;refine tkns 3 ?_;refine tkns 4 ?_;refine tkns 5 ?_;refine tkns 6 ?_;refine tks 7 ?_;refine tks 8 ?_;refine wpAnyH_done (by kernel_rfl) ?_ _;go_wp2
    go_roundw
    case rel=>exact⟨k+1,by go_num,by rw [HS.out];rfl,by omega,hHeld.1,hHeld.2.1,hHeld.2.2⟩
    case measure=>simp [intOf];omega
  ·obtain rfl:k=n:=by omega
   go_wp2
   go_ret
   exact⟨rfl,HD.out,HK.out⟩
end
section
open Go.RowKit
theorem KeepN.blk{G n r:Nat}{t:TypeId}{cs:Array Value}{w w':World}(h:KeepN G n w w')(hr:Blk w r t cs)(h0:r<G\/G+n<=r):Blk w' r t cs:=(h.block r hr.lt h0).trans hr
end
end Go.Proofs.YthlmlmfebpjgdaaGreatDoor
