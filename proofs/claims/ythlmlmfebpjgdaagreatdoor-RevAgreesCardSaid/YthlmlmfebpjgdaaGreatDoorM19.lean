/-
Lemmas for the statement: CanT AgrH SubsT IadT TwoT RndwP RndwT ValT OpvI AgnT.
-/
import Derived.Test.YthlmlmfebpjgdaaGreatDoorM01
import Derived.Test.YthlmlmfebpjgdaaGreatDoorM18
import Derived.Test.YthlmlmfebpjgdaaGreatDoorM08
import Derived.Test.YthlmlmfebpjgdaaGreatDoorM11
import Derived.Test.YthlmlmfebpjgdaaGreatDoorM09
import Derived.Test.YthlmlmfebpjgdaaGreatDoorM10
import Derived.Test.YthlmlmfebpjgdaaGreatDoorM12
import Derived.Test.YthlmlmfebpjgdaaGreatDoorM02
import Derived.Deep.DeepCutAuto
import Derived.Test.YthlmlmfebpjgdaaGreatDoorM14
import Derived.Test.YthlmlmfebpjgdaaGreatDoorM17
import Derived.Test.YthlmlmfebpjgdaaGreatDoorM13
set_option linter.unusedSimpArgs false
set_option linter.unusedVariables false
set_option maxHeartbeats 12800000
namespace Go.Proofs.YthlmlmfebpjgdaaGreatDoor
section
open Go.RowKit
attribute [local go_sem] run_store_float run_eqf
theorem rv_lt{S T:Nat}{E:Int}:(S:Rat)*2^E<(T:Rat)*2^E↔S<T:=by
 have h:=@mul_le_pos (T:Rat) (S:Rat) _ (zpow_pos E);have h2:(T:Rat)<=(S:Rat)↔T<=S:=Rat.natCast_le_natCast
 constructor
 ·intro h3
  by_cases h4:S<T
  ·exact h4
  ·have:=h.2 (h2.2 (by omega));grind
 ·intro h3
  by_cases h4:(S:Rat)*2^E<(T:Rat)*2^E
  ·exact h4
  ·have:=h2.1 (h.1 (by grind));omega
theorem shift_nat(S k:Nat)(a b:Int)(h:b=a+k):((S*2^k:Nat):Rat)*2^a=(S:Rat)*2^b:=by
 have:=rv_shift false S k a b h;rw [rv_int,rv_int] at this
 simp only [Bool.false_eq_true,if_false] at this
 rw [Rat.intCast_natCast,Rat.intCast_natCast] at this
 exact this
theorem alignw(n1:Bool)(A1:Option Addr)(m1 c1 S1:Nat)(e1:Int)(n2:Bool)(A2:Option Addr)(m2 c2 S2:Nat)(e2:Int)(v1 v2:Rat)(w:World)(h1:U32s w A1 m1 c1 (digs S1))(h2:U32s w A2 m2 c2 (digs S2))
  (b1:blen S1<=5000)(b2:blen S2<=5000)(l1:-1074<=e1)(u1:e1<=971)(l2:-1074<=e2)(u2:e2<=971)(hv1:v1=rv n1 S1 1*2^e1)(hv2:v2=rv n2 S2 1*2^e2)(p1:0<=v1)(p2:0<=v2):
  Calls Tryz.prog 141 #[.agg #[.int .i64 0,.bool n1,.slice A1 m1 c1,.int .i64 e1],.agg #[.int .i64 0,.bool n2,.slice A2 m2 c2,.int .i64 e2]] w
   fun e w'=>∃ (P Q:Nat) (E:Int) (A:Option Addr) (n c:Nat) (B:Option Addr) (m d:Nat),e=.returned (.tuple #[.slice A n c,.slice B m d,.int .i64 E])/\U32s w' A n c (digs P)/\U32s w' B m d (digs Q)/\(P<Q↔v1<v2)/\Below w.heap.size w w':=by
 obtain⟨E,hE⟩:∃ E,min e1 e2=E:=⟨_,rfl⟩
 obtain⟨a,ha⟩:∃ a,(e1 - E).toNat=a:=⟨_,rfl⟩
 obtain⟨b,hb⟩:∃ a,(e2 - E).toNat=a:=⟨_,rfl⟩
 refine (aligned_any n1 A1 m1 c1 S1 e1 n2 A2 m2 c2 S2 e2 E a b w h1 h2 hE (by omega) (by omega) (by omega) (by omega) (by omega) (by omega)).mono ?_;rintro e w' ⟨A,n,c,B,m,d,rfl,q1,q2,hw⟩;refine⟨_,_,E,A,n,c,B,m,d,rfl,q1,q2,?_,hw⟩;rw [hv1] at p1 ⊢;rw [hv2] at p2 ⊢;rw [rv_nonneg p1,rv_nonneg p2,<- shift_nat S1 a E e1 (by omega),<- shift_nat S2 b E e2 (by omega),rv_lt]
theorem ncmp_v(A B:Option Addr)(n c m d P Q:Nat)(w:World)(hx:U32s w A n c (digs P))(hy:U32s w B m d (digs Q)):
  Rt 142 #[.slice A n c,.slice B m d] (.int .i64 (cmp3 P Q)) w:=by
 have h:=ncmp_any A B n c m d (digs P) (digs Q) w hx hy;rw [num_digs,num_digs] at h;refine h.mono ?_;rintro e w' ⟨rfl,k,rfl⟩
 exact⟨rfl,below_drewN (Below.refl _ _) k⟩
def cmf(i1 j1 i2 j2:Int):Int × Int:=
 if j1<i1/\(j2<i2\/com i2 j2=true) then ((M:Int),-(M:Int)) else if com i1 j1=false\/com i2 j2=false then (-(M:Int),(M:Int))
 else if fl j1 - fl i1<fl j2 - fl i2 then (-(M:Int),(M:Int)) else (ad (-1) i1 (-i2),ad 1 j1 (-j2))
theorem cancel_A1(b1 b2 c1 c2:Nat)(i1 j1 i2 j2:Int)(w:World)(hb1:b1<18446744073709551616)(hb2:b2<18446744073709551616)(hc1:c1<18446744073709551616)(hc2:c2<18446744073709551616)(r1:rd b1 b2=(i1,j1))(r2:rd c1 c2=(i2,j2))(h1:j1<i1)(h2:j2<i2):
  Rt 68 #[Zf b1 b2,Zf c1 c2] (Zf (pat (((M:Int),-(M:Int))).1) (pat (((M:Int),-(M:Int))).2)) w:=by
 have v1:=rd_iv b1 b2;have v2:=rd_iv c1 c2;rw [r1] at v1;rw [r2] at v2
 dsimp only at v1 v2
 have hM:M=9218868437227405312:=rfl;have t1:=fun W=>readf b1 b2 W hb1 hb2;have t2:=fun W=>readf c1 c2 W hc1 hc2;rw [r1] at t1;rw [r2] at t2
 dsimp only at t1 t2
 have m1:=em_idx v1;have m2:=em_idx v2;have K1:=fun W=>common_any i1 j1 W v1;have K2:=fun W=>common_any i2 j2 W v2;have HE:=Hd emptyf;have HN:=Hd entiref;have ec1:com i1 j1=false:=decide_eq_false (by omega);rw [ec1] at K1;have o12:=m1.1 (decide_eq_true h1);have o34:=order_pat v2.lo.1 v2.lo.2 v1.lo.1 v1.lo.2;rw [Int.compare_eq_eq.2 (show i2=i1 by unfold Iv at v1 v2;omega)] at o34;have o56:=order_pat v2.hi.1 v2.hi.2 v1.hi.1 v1.hi.2;rw [Int.compare_eq_eq.2 (show j2=j1 by unfold Iv at v1 v2;omega)] at o56;rw [show (((M:Int),-(M:Int)):Int × Int).1=i1 by unfold Iv at v1;dsimp only;omega,show (((M:Int),-(M:Int)):Int × Int).2=j1 by unfold Iv at v1;dsimp only;omega]
 obtain⟨P1,hP1⟩:∃ z,pat i1=z:=⟨_,rfl⟩
 obtain⟨Q1,hQ1⟩:∃ z,pat j1=z:=⟨_,rfl⟩
 obtain⟨P2,hP2⟩:∃ z,pat i2=z:=⟨_,rfl⟩
 obtain⟨Q2,hQ2⟩:∃ z,pat j2=z:=⟨_,rfl⟩
 rw [hP1,hQ1] at t1 m1 K1;rw [hP2,hQ2] at t2 m2 K2;rw [hP1,hQ1];rw [hP1,hQ1] at o12;obtain⟨o1,o2⟩:=o12;rw [hP1,hP2] at o34;rw [hQ1,hQ2] at o56;have KC1:=Hd K1;have KC2:=Hd K2;obtain⟨LB0,LG0_0,LG1_0,LR⟩:=bx3 w (Zv b1 b2) 28 (Zv c1 c2) 28 (Zv 0 0) 28;have LR0:=Hd (HasBlk.of (n:=2) LR.out rfl rfl);clear LR;have hrow:=Blk.at (W:=(((w.alloc (.cells (Zv b1 b2) 28)).alloc (.cells (Zv c1 c2) 28)).alloc (.cells (Zv 0 0) 28))) (g:=w.heap.size+1+1+1) (by simp) 75 #[.pointer (some ⟨w.heap.size,0,none⟩),.pointer (some ⟨w.heap.size+1,0,none⟩)];have HRD:=Hd (read_two b1 b2 c1 c2 P1 Q1 P2 Q2 w.heap.size (w.heap.size+1) (w.heap.size+1+1+1) 2 _ _ _ (by omega) (by omega) (by omega) (hrow.cell 0) (hrow.cell 1) (LG0_0.out.alloc (.cells #[.pointer (some ⟨w.heap.size,0,none⟩),.pointer (some ⟨w.heap.size+1,0,none⟩)] 75)) (LG1_0.out.alloc (.cells #[.pointer (some ⟨w.heap.size,0,none⟩),.pointer (some ⟨w.heap.size+1,0,none⟩)] 75)) t1 t2 m1 m2);have LBr:=Hd (LB0.out.alloc (by simp<;>omega) (.cells #[.pointer (some ⟨w.heap.size,0,none⟩),.pointer (some ⟨w.heap.size+1,0,none⟩)] 75));have LRr:=Hd (LR0.out.alloc (.cells #[.pointer (some ⟨w.heap.size,0,none⟩),.pointer (some ⟨w.heap.size+1,0,none⟩)] 75))
 have hsz:w.heap.size<=(((((w.alloc (.cells (Zv b1 b2) 28)).alloc (.cells (Zv c1 c2) 28)).alloc (.cells (Zv 0 0) 28))).alloc (.cells #[.pointer (some ⟨w.heap.size,0,none⟩),.pointer (some ⟨w.heap.size+1,0,none⟩)] 75)).heap.size:=by simp;omega
 have HSZ:=Hd hsz
 obtain⟨em1,hem1⟩:∃ z,decide (j1<i1)=z:=⟨_,rfl⟩
 obtain⟨em2,hem2⟩:∃ z,decide (j2<i2)=z:=⟨_,rfl⟩
 rw [hem1,hem2] at HRD;clear t1 t2 m1 m2 hrow v1 v2 hM hsz hP1 hQ1 hP2 hQ2 r1 r2 LB0 LR0 LG0_0 LG1_0 hem1 hem2 K1 K2 h1 hb1 hb2 hc1 hc2;clear h2 ec1
 go_enter Tryz.func68,Tryz.ntmps68
 go_wp2_with fail;refine HRD.out.mono ?_;rintro e w1 ⟨rfl,d0,d1,kp⟩;have LB1:=Hd (kp.toBl LBr.out HSZ.out (Nat.le_refl _) (by omega) (by omega));have LR1:=Hd (kp.hasBk LRr.out (by omega) (by omega) (by omega));have LG0_1:=Hd (show Blk w1 w.heap.size 28 _ from d0);have LG1_1:=Hd (show Blk w1 (w.heap.size+1) 28 _ from d1);clear d0 d1 kp LBr LRr HSZ HRD;go_wp2_with fail;refine wp_region_held_drew (S:=fun W'=>Blk W' w.heap.size 28 (Zv P1 Q1)/\Blk W' (w.heap.size+1) 28 (Zv P2 Q2)/\HasBlk W' (w.heap.size+2) 28 2/\Below w.heap.size w W') (by kernel_rfl) (by exact⟨LG0_1.out.drew,LG1_1.out.drew,LR1.out.drew,LB1.out.drew⟩) (fun hHeld=>?_);refine tkb 0 (fun _ h=>h.1.c2) ?_;refine rdy 1 fun KK hKK=>?_;go_simp;refine cx (HE.out _) fun w2 hbA=>?_;go_wp2_with fail;refine hKK.out _ _ (⟨hHeld.1.keep hbA,hHeld.2.1.keep hbA,hHeld.2.2.1.keep hbA,hHeld.2.2.2.trans (hbA.mono hHeld.2.2.2.size)⟩) (fun _=>?_);clear hKK KK hHeld;rename_i hHeld;(try simp only [Act.put,lay]);refine tks 2 ?_;refine tks 3 ?_;refine tkb 4 (fun _ h=>h.2.1.c2) ?_;refine tkb 5 (fun _ h=>h.1.c2) ?_;refine tks 6 ?_;refine tks 7 ?_;refine tkns 8 ?_;refine tkns 9 ?_;refine tks 10 ?_;refine tks 11 ?_;refine wpAnyH_done (by kernel_rfl) ?_ _;clear LB1 LR1 LG0_1 LG1_1;have LG0_2:=Hd hHeld.1;have LG1_2:=Hd hHeld.2.1;have LR2:=Hd hHeld.2.2.1;have LB2:=Hd hHeld.2.2.2;clear hHeld hbA HE o34 o56 o1 o2;obtain⟨q0_0,q0_1⟩:=LG0_2.out.c2;obtain⟨ha0,hf0,ha1,hf1⟩:=LR2.out.sf2;obtain⟨hk0,hk1⟩:=LR2.out.sc2 (.float .f64 P1) (.float .f64 Q1)
 have F:=Hd (below_sets (w0:=w) (r:=(w.heap.size+2)) (by omega) [.float .f64 P1,.float .f64 Q1] 0 _ LB2.out)
 simp [sets] at hk0 hk1
 go_wp2;refine bodyPost_ret (v:=Zf P1 Q1) (by simp [results,Tryz.results68,go_sem,hk0,hk1]) rfl ?_
 exact⟨rfl,F.out⟩
theorem cancel_A2(b1 b2 c1 c2:Nat)(i1 j1 i2 j2:Int)(w:World)(hb1:b1<18446744073709551616)(hb2:b2<18446744073709551616)(hc1:c1<18446744073709551616)(hc2:c2<18446744073709551616)(r1:rd b1 b2=(i1,j1))(r2:rd c1 c2=(i2,j2))(h1:j1<i1)(h2:com i2 j2=true):
  Rt 68 #[Zf b1 b2,Zf c1 c2] (Zf (pat (((M:Int),-(M:Int))).1) (pat (((M:Int),-(M:Int))).2)) w:=by
 have v1:=rd_iv b1 b2;have v2:=rd_iv c1 c2;rw [r1] at v1;rw [r2] at v2
 dsimp only at v1 v2
 have hM:M=9218868437227405312:=rfl;have t1:=fun W=>readf b1 b2 W hb1 hb2;have t2:=fun W=>readf c1 c2 W hc1 hc2;rw [r1] at t1;rw [r2] at t2
 dsimp only at t1 t2
 have m1:=em_idx v1;have m2:=em_idx v2;have K1:=fun W=>common_any i1 j1 W v1;have K2:=fun W=>common_any i2 j2 W v2;have HE:=Hd emptyf;have HN:=Hd entiref;have ec1:com i1 j1=false:=decide_eq_false (by omega);rw [ec1] at K1;have o12:=m1.1 (decide_eq_true h1);have h4:=of_decide_eq_true h2;have o34:=order_pat v2.lo.1 v2.lo.2 v1.lo.1 v1.lo.2;rw [Int.compare_eq_lt.2 (show i2<i1 by unfold Iv at v1 v2;omega)] at o34;rw [h2] at K2;rw [show (((M:Int),-(M:Int)):Int × Int).1=i1 by unfold Iv at v1;dsimp only;omega,show (((M:Int),-(M:Int)):Int × Int).2=j1 by unfold Iv at v1;dsimp only;omega]
 obtain⟨P1,hP1⟩:∃ z,pat i1=z:=⟨_,rfl⟩
 obtain⟨Q1,hQ1⟩:∃ z,pat j1=z:=⟨_,rfl⟩
 obtain⟨P2,hP2⟩:∃ z,pat i2=z:=⟨_,rfl⟩
 obtain⟨Q2,hQ2⟩:∃ z,pat j2=z:=⟨_,rfl⟩
 rw [hP1,hQ1] at t1 m1 K1;rw [hP2,hQ2] at t2 m2 K2;rw [hP1,hQ1];rw [hP1,hQ1] at o12;obtain⟨o1,o2⟩:=o12;rw [hP1,hP2] at o34;have KC1:=Hd K1;have KC2:=Hd K2;obtain⟨LB0,LG0_0,LG1_0,LR⟩:=bx3 w (Zv b1 b2) 28 (Zv c1 c2) 28 (Zv 0 0) 28;have LR0:=Hd (HasBlk.of (n:=2) LR.out rfl rfl);clear LR;have hrow:=Blk.at (W:=(((w.alloc (.cells (Zv b1 b2) 28)).alloc (.cells (Zv c1 c2) 28)).alloc (.cells (Zv 0 0) 28))) (g:=w.heap.size+1+1+1) (by simp) 75 #[.pointer (some ⟨w.heap.size,0,none⟩),.pointer (some ⟨w.heap.size+1,0,none⟩)];have HRD:=Hd (read_two b1 b2 c1 c2 P1 Q1 P2 Q2 w.heap.size (w.heap.size+1) (w.heap.size+1+1+1) 2 _ _ _ (by omega) (by omega) (by omega) (hrow.cell 0) (hrow.cell 1) (LG0_0.out.alloc (.cells #[.pointer (some ⟨w.heap.size,0,none⟩),.pointer (some ⟨w.heap.size+1,0,none⟩)] 75)) (LG1_0.out.alloc (.cells #[.pointer (some ⟨w.heap.size,0,none⟩),.pointer (some ⟨w.heap.size+1,0,none⟩)] 75)) t1 t2 m1 m2);have LBr:=Hd (LB0.out.alloc (by simp<;>omega) (.cells #[.pointer (some ⟨w.heap.size,0,none⟩),.pointer (some ⟨w.heap.size+1,0,none⟩)] 75));have LRr:=Hd (LR0.out.alloc (.cells #[.pointer (some ⟨w.heap.size,0,none⟩),.pointer (some ⟨w.heap.size+1,0,none⟩)] 75))
 have hsz:w.heap.size<=(((((w.alloc (.cells (Zv b1 b2) 28)).alloc (.cells (Zv c1 c2) 28)).alloc (.cells (Zv 0 0) 28))).alloc (.cells #[.pointer (some ⟨w.heap.size,0,none⟩),.pointer (some ⟨w.heap.size+1,0,none⟩)] 75)).heap.size:=by simp;omega
 have HSZ:=Hd hsz
 obtain⟨em1,hem1⟩:∃ z,decide (j1<i1)=z:=⟨_,rfl⟩
 obtain⟨em2,hem2⟩:∃ z,decide (j2<i2)=z:=⟨_,rfl⟩
 rw [hem1,hem2] at HRD;clear t1 t2 m1 m2 hrow v1 v2 hM hsz hP1 hQ1 hP2 hQ2 r1 r2 LB0 LR0 LG0_0 LG1_0 hem1 hem2 K1 K2 h1 hb1 hb2 hc1 hc2;clear h2 ec1 h4
 go_enter Tryz.func68,Tryz.ntmps68
 go_wp2_with fail;refine HRD.out.mono ?_;rintro e w1 ⟨rfl,d0,d1,kp⟩;have LB1:=Hd (kp.toBl LBr.out HSZ.out (Nat.le_refl _) (by omega) (by omega));have LR1:=Hd (kp.hasBk LRr.out (by omega) (by omega) (by omega));have LG0_1:=Hd (show Blk w1 w.heap.size 28 _ from d0);have LG1_1:=Hd (show Blk w1 (w.heap.size+1) 28 _ from d1);clear d0 d1 kp LBr LRr HSZ HRD;go_wp2_with fail;refine wp_region_held_drew (S:=fun W'=>Blk W' w.heap.size 28 (Zv P1 Q1)/\Blk W' (w.heap.size+1) 28 (Zv P2 Q2)/\HasBlk W' (w.heap.size+2) 28 2/\Below w.heap.size w W') (by kernel_rfl) (by exact⟨LG0_1.out.drew,LG1_1.out.drew,LR1.out.drew,LB1.out.drew⟩) (fun hHeld=>?_);refine tkb 0 (fun _ h=>h.1.c2) ?_;refine rdy 1 fun KK hKK=>?_;go_simp;refine cx (HE.out _) fun w2 hbA=>?_;go_wp2_with fail;refine hKK.out _ _ (⟨hHeld.1.keep hbA,hHeld.2.1.keep hbA,hHeld.2.2.1.keep hbA,hHeld.2.2.2.trans (hbA.mono hHeld.2.2.2.size)⟩) (fun _=>?_);clear hKK KK hHeld;rename_i hHeld;(try simp only [Act.put,lay]);refine tks 2 ?_;refine tks 3 ?_;refine tkb 4 (fun _ h=>h.2.1.c2) ?_;refine tkb 5 (fun _ h=>h.1.c2) ?_;refine tks 6 ?_;refine tks 7 ?_;refine tkb 8 (fun _ h=>h.2.1.c2) ?_;refine rdy 9 fun KK hKK=>?_;go_simp;refine cx (KC2.out _) fun w3 hbB=>?_;go_wp2_with fail;refine hKK.out _ _ (⟨hHeld.1.keep hbB,hHeld.2.1.keep hbB,hHeld.2.2.1.keep hbB,hHeld.2.2.2.trans (hbB.mono hHeld.2.2.2.size)⟩) (fun _=>?_);clear hKK KK hHeld;rename_i hHeld;(try simp only [Act.put,lay]);refine tks 10 ?_;refine tks 11 ?_;refine wpAnyH_done (by kernel_rfl) ?_ _
 clear LB1 LR1 LG0_1 LG1_1;have LG0_2:=Hd hHeld.1;have LG1_2:=Hd hHeld.2.1;have LR2:=Hd hHeld.2.2.1;have LB2:=Hd hHeld.2.2.2;clear hHeld hbA hbB HE o34 o1 o2;obtain⟨q0_0,q0_1⟩:=LG0_2.out.c2;obtain⟨ha0,hf0,ha1,hf1⟩:=LR2.out.sf2;obtain⟨hk0,hk1⟩:=LR2.out.sc2 (.float .f64 P1) (.float .f64 Q1);have F:=Hd (below_sets (w0:=w) (r:=(w.heap.size+2)) (by omega) [.float .f64 P1,.float .f64 Q1] 0 _ LB2.out)
 simp [sets] at hk0 hk1
 go_wp2;refine bodyPost_ret (v:=Zf P1 Q1) (by simp [results,Tryz.results68,go_sem,hk0,hk1]) rfl ?_
 exact⟨rfl,F.out⟩
theorem cancel_B0(b1 b2 c1 c2:Nat)(i1 j1 i2 j2:Int)(w:World)(hb1:b1<18446744073709551616)(hb2:b2<18446744073709551616)(hc1:c1<18446744073709551616)(hc2:c2<18446744073709551616)(r1:rd b1 b2=(i1,j1))(r2:rd c1 c2=(i2,j2))(h1:j1<i1)(h2:¬ j2<i2)(h3:com i2 j2=false):
  Rt 68 #[Zf b1 b2,Zf c1 c2] (Zf (pat ((-(M:Int),(M:Int))).1) (pat ((-(M:Int),(M:Int))).2)) w:=by
 have v1:=rd_iv b1 b2;have v2:=rd_iv c1 c2;rw [r1] at v1;rw [r2] at v2
 dsimp only at v1 v2
 have hM:M=9218868437227405312:=rfl;have t1:=fun W=>readf b1 b2 W hb1 hb2;have t2:=fun W=>readf c1 c2 W hc1 hc2;rw [r1] at t1;rw [r2] at t2
 dsimp only at t1 t2
 have m1:=em_idx v1;have m2:=em_idx v2;have K1:=fun W=>common_any i1 j1 W v1;have K2:=fun W=>common_any i2 j2 W v2;have HE:=Hd emptyf;have HN:=Hd entiref;have ec1:com i1 j1=false:=decide_eq_false (by omega);rw [ec1] at K1;have o12:=m1.1 (decide_eq_true h1);have o34:=order_pat v2.lo.1 v2.lo.2 v1.lo.1 v1.lo.2;rw [Int.compare_eq_lt.2 (show i2<i1 by unfold Iv at v1 v2;omega)] at o34;rw [h3] at K2
 dsimp only
 rw [pat_min,pat_max]
 obtain⟨P1,hP1⟩:∃ z,pat i1=z:=⟨_,rfl⟩
 obtain⟨Q1,hQ1⟩:∃ z,pat j1=z:=⟨_,rfl⟩
 obtain⟨P2,hP2⟩:∃ z,pat i2=z:=⟨_,rfl⟩
 obtain⟨Q2,hQ2⟩:∃ z,pat j2=z:=⟨_,rfl⟩
 rw [hP1,hQ1] at t1 m1 K1;rw [hP2,hQ2] at t2 m2 K2;rw [hP1,hQ1] at o12;obtain⟨o1,o2⟩:=o12;rw [hP1,hP2] at o34;have KC1:=Hd K1;have KC2:=Hd K2;obtain⟨LB0,LG0_0,LG1_0,LR⟩:=bx3 w (Zv b1 b2) 28 (Zv c1 c2) 28 (Zv 0 0) 28;have LR0:=Hd (HasBlk.of (n:=2) LR.out rfl rfl);clear LR;have hrow:=Blk.at (W:=(((w.alloc (.cells (Zv b1 b2) 28)).alloc (.cells (Zv c1 c2) 28)).alloc (.cells (Zv 0 0) 28))) (g:=w.heap.size+1+1+1) (by simp) 75 #[.pointer (some ⟨w.heap.size,0,none⟩),.pointer (some ⟨w.heap.size+1,0,none⟩)];have HRD:=Hd (read_two b1 b2 c1 c2 P1 Q1 P2 Q2 w.heap.size (w.heap.size+1) (w.heap.size+1+1+1) 2 _ _ _ (by omega) (by omega) (by omega) (hrow.cell 0) (hrow.cell 1) (LG0_0.out.alloc (.cells #[.pointer (some ⟨w.heap.size,0,none⟩),.pointer (some ⟨w.heap.size+1,0,none⟩)] 75)) (LG1_0.out.alloc (.cells #[.pointer (some ⟨w.heap.size,0,none⟩),.pointer (some ⟨w.heap.size+1,0,none⟩)] 75)) t1 t2 m1 m2);have LBr:=Hd (LB0.out.alloc (by simp<;>omega) (.cells #[.pointer (some ⟨w.heap.size,0,none⟩),.pointer (some ⟨w.heap.size+1,0,none⟩)] 75));have LRr:=Hd (LR0.out.alloc (.cells #[.pointer (some ⟨w.heap.size,0,none⟩),.pointer (some ⟨w.heap.size+1,0,none⟩)] 75))
 have hsz:w.heap.size<=(((((w.alloc (.cells (Zv b1 b2) 28)).alloc (.cells (Zv c1 c2) 28)).alloc (.cells (Zv 0 0) 28))).alloc (.cells #[.pointer (some ⟨w.heap.size,0,none⟩),.pointer (some ⟨w.heap.size+1,0,none⟩)] 75)).heap.size:=by simp;omega
 have HSZ:=Hd hsz
 obtain⟨em1,hem1⟩:∃ z,decide (j1<i1)=z:=⟨_,rfl⟩
 obtain⟨em2,hem2⟩:∃ z,decide (j2<i2)=z:=⟨_,rfl⟩
 rw [hem1,hem2] at HRD;clear t1 t2 m1 m2 hrow v1 v2 hM hsz hP1 hQ1 hP2 hQ2 r1 r2 LB0 LR0 LG0_0 LG1_0 hem1 hem2 K1 K2 h1 hb1 hb2 hc1 hc2;clear h2 h3 ec1
 go_enter Tryz.func68,Tryz.ntmps68
 go_wp2_with fail;refine HRD.out.mono ?_;rintro e w1 ⟨rfl,d0,d1,kp⟩;have LB1:=Hd (kp.toBl LBr.out HSZ.out (Nat.le_refl _) (by omega) (by omega));have LR1:=Hd (kp.hasBk LRr.out (by omega) (by omega) (by omega));have LG0_1:=Hd (show Blk w1 w.heap.size 28 _ from d0);have LG1_1:=Hd (show Blk w1 (w.heap.size+1) 28 _ from d1);clear d0 d1 kp LBr LRr HSZ HRD;go_wp2_with fail;refine wp_region_held_drew (S:=fun W'=>Blk W' w.heap.size 28 (Zv P1 Q1)/\Blk W' (w.heap.size+1) 28 (Zv P2 Q2)/\HasBlk W' (w.heap.size+2) 28 2/\Below w.heap.size w W') (by kernel_rfl) (by exact⟨LG0_1.out.drew,LG1_1.out.drew,LR1.out.drew,LB1.out.drew⟩) (fun hHeld=>?_);refine tkb 0 (fun _ h=>h.1.c2) ?_;refine rdy 1 fun KK hKK=>?_;go_simp;refine cx (HE.out _) fun w2 hbA=>?_;go_wp2_with fail;refine hKK.out _ _ (⟨hHeld.1.keep hbA,hHeld.2.1.keep hbA,hHeld.2.2.1.keep hbA,hHeld.2.2.2.trans (hbA.mono hHeld.2.2.2.size)⟩) (fun _=>?_);clear hKK KK hHeld;rename_i hHeld;(try simp only [Act.put,lay]);refine tks 2 ?_;refine tks 3 ?_;refine tkb 4 (fun _ h=>h.2.1.c2) ?_;refine tkb 5 (fun _ h=>h.1.c2) ?_;refine tks 6 ?_;refine tks 7 ?_;refine tkb 8 (fun _ h=>h.2.1.c2) ?_;refine rdy 9 fun KK hKK=>?_;go_simp;refine cx (KC2.out _) fun w3 hbB=>?_;go_wp2_with fail;refine hKK.out _ _ (⟨hHeld.1.keep hbB,hHeld.2.1.keep hbB,hHeld.2.2.1.keep hbB,hHeld.2.2.2.trans (hbB.mono hHeld.2.2.2.size)⟩) (fun _=>?_);clear hKK KK hHeld;rename_i hHeld;(try simp only [Act.put,lay]);refine tks 10 ?_;refine tks 11 ?_;refine wpAnyH_done (by kernel_rfl) ?_ _
 clear LB1 LR1 LG0_1 LG1_1;have LG0_2:=Hd hHeld.1;have LG1_2:=Hd hHeld.2.1;have LR2:=Hd hHeld.2.2.1;have LB2:=Hd hHeld.2.2.2;clear hHeld hbA hbB HE o34 o1 o2;obtain⟨q0_0,q0_1⟩:=LG0_2.out.c2;obtain⟨q1_0,q1_1⟩:=LG1_2.out.c2;go_wp2_with fail;refine cx (KC1.out _) fun w4 hb4=>?_;have LB3:=stB LB2 hb4 LB2.out.size;have LR3:=stR LR2 hb4;have LG0_3:=stG LG0_2 hb4;have LG1_3:=stG LG1_2 hb4;clear LB2 LR2 LG0_2 LG1_2;clear hb4 q0_0 q0_1 q1_0 q1_1;obtain⟨q0_0,q0_1⟩:=LG0_3.out.c2;obtain⟨q1_0,q1_1⟩:=LG1_3.out.c2;go_wp2_with fail;refine cx (HN.out _) fun w6 hb6=>?_;have LB4:=stB LB3 hb6 LB3.out.size;have LR4:=stR LR3 hb6;have LG0_4:=stG LG0_3 hb6;have LG1_4:=stG LG1_3 hb6;clear LB3 LR3 LG0_3 LG1_3;clear hb6 q0_0 q0_1 q1_0 q1_1;obtain⟨ha0,hf0,ha1,hf1⟩:=LR4.out.sf2;obtain⟨hk0,hk1⟩:=LR4.out.sc2 (.float .f64 18442240474082181120) (.float .f64 9218868437227405312);have F:=Hd (below_sets (w0:=w) (r:=(w.heap.size+2)) (by omega) [.float .f64 18442240474082181120,.float .f64 9218868437227405312] 0 _ LB4.out)
 simp [sets] at hk0 hk1
 go_wp2;refine bodyPost_ret (v:=Zf 18442240474082181120 9218868437227405312) (by simp [results,Tryz.results68,go_sem,hk0,hk1]) rfl ?_
 exact⟨rfl,F.out⟩
theorem cancel_B1(b1 b2 c1 c2:Nat)(i1 j1 i2 j2:Int)(w:World)(hb1:b1<18446744073709551616)(hb2:b2<18446744073709551616)(hc1:c1<18446744073709551616)(hc2:c2<18446744073709551616)(r1:rd b1 b2=(i1,j1))(r2:rd c1 c2=(i2,j2))(h1:¬ j1<i1)(h3:com i1 j1=false):
  Rt 68 #[Zf b1 b2,Zf c1 c2] (Zf (pat ((-(M:Int),(M:Int))).1) (pat ((-(M:Int),(M:Int))).2)) w:=by
 have v1:=rd_iv b1 b2;have v2:=rd_iv c1 c2;rw [r1] at v1;rw [r2] at v2
 dsimp only at v1 v2
 have hM:M=9218868437227405312:=rfl;have t1:=fun W=>readf b1 b2 W hb1 hb2;have t2:=fun W=>readf c1 c2 W hc1 hc2;rw [r1] at t1;rw [r2] at t2
 dsimp only at t1 t2
 have m1:=em_idx v1;have m2:=em_idx v2;have K1:=fun W=>common_any i1 j1 W v1;have K2:=fun W=>common_any i2 j2 W v2;have HE:=Hd emptyf;have HN:=Hd entiref;rw [h3] at K1;have o12:=m1.2 (decide_eq_false (by omega))
 dsimp only
 rw [pat_min,pat_max]
 obtain⟨P1,hP1⟩:∃ z,pat i1=z:=⟨_,rfl⟩
 obtain⟨Q1,hQ1⟩:∃ z,pat j1=z:=⟨_,rfl⟩
 obtain⟨P2,hP2⟩:∃ z,pat i2=z:=⟨_,rfl⟩
 obtain⟨Q2,hQ2⟩:∃ z,pat j2=z:=⟨_,rfl⟩
 rw [hP1,hQ1] at t1 m1 K1;rw [hP2,hQ2] at t2 m2 K2;rw [hP1] at o12;have KC1:=Hd K1;have KC2:=Hd K2;obtain⟨LB0,LG0_0,LG1_0,LR⟩:=bx3 w (Zv b1 b2) 28 (Zv c1 c2) 28 (Zv 0 0) 28;have LR0:=Hd (HasBlk.of (n:=2) LR.out rfl rfl);clear LR;have hrow:=Blk.at (W:=(((w.alloc (.cells (Zv b1 b2) 28)).alloc (.cells (Zv c1 c2) 28)).alloc (.cells (Zv 0 0) 28))) (g:=w.heap.size+1+1+1) (by simp) 75 #[.pointer (some ⟨w.heap.size,0,none⟩),.pointer (some ⟨w.heap.size+1,0,none⟩)];have HRD:=Hd (read_two b1 b2 c1 c2 P1 Q1 P2 Q2 w.heap.size (w.heap.size+1) (w.heap.size+1+1+1) 2 _ _ _ (by omega) (by omega) (by omega) (hrow.cell 0) (hrow.cell 1) (LG0_0.out.alloc (.cells #[.pointer (some ⟨w.heap.size,0,none⟩),.pointer (some ⟨w.heap.size+1,0,none⟩)] 75)) (LG1_0.out.alloc (.cells #[.pointer (some ⟨w.heap.size,0,none⟩),.pointer (some ⟨w.heap.size+1,0,none⟩)] 75)) t1 t2 m1 m2);have LBr:=Hd (LB0.out.alloc (by simp<;>omega) (.cells #[.pointer (some ⟨w.heap.size,0,none⟩),.pointer (some ⟨w.heap.size+1,0,none⟩)] 75));have LRr:=Hd (LR0.out.alloc (.cells #[.pointer (some ⟨w.heap.size,0,none⟩),.pointer (some ⟨w.heap.size+1,0,none⟩)] 75))
 have hsz:w.heap.size<=(((((w.alloc (.cells (Zv b1 b2) 28)).alloc (.cells (Zv c1 c2) 28)).alloc (.cells (Zv 0 0) 28))).alloc (.cells #[.pointer (some ⟨w.heap.size,0,none⟩),.pointer (some ⟨w.heap.size+1,0,none⟩)] 75)).heap.size:=by simp;omega
 have HSZ:=Hd hsz
 obtain⟨em1,hem1⟩:∃ z,decide (j1<i1)=z:=⟨_,rfl⟩
 obtain⟨em2,hem2⟩:∃ z,decide (j2<i2)=z:=⟨_,rfl⟩
 rw [hem1,hem2] at HRD;clear t1 t2 m1 m2 hrow v1 v2 hM hsz hP1 hQ1 hP2 hQ2 r1 r2 LB0 LR0 LG0_0 LG1_0 hem1 hem2 K1 K2 h1 hb1 hb2 hc1 hc2;clear h3
 go_enter Tryz.func68,Tryz.ntmps68
 go_wp2_with fail;refine HRD.out.mono ?_;rintro e w1 ⟨rfl,d0,d1,kp⟩;have LB1:=Hd (kp.toBl LBr.out HSZ.out (Nat.le_refl _) (by omega) (by omega));have LR1:=Hd (kp.hasBk LRr.out (by omega) (by omega) (by omega));have LG0_1:=Hd (show Blk w1 w.heap.size 28 _ from d0);have LG1_1:=Hd (show Blk w1 (w.heap.size+1) 28 _ from d1);clear d0 d1 kp LBr LRr HSZ HRD;go_wp2_with fail;refine wp_region_held_drew (S:=fun W'=>Blk W' w.heap.size 28 (Zv P1 Q1)/\Blk W' (w.heap.size+1) 28 (Zv P2 Q2)/\HasBlk W' (w.heap.size+2) 28 2/\Below w.heap.size w W') (by kernel_rfl) (by exact⟨LG0_1.out.drew,LG1_1.out.drew,LR1.out.drew,LB1.out.drew⟩) (fun hHeld=>?_);refine tkb 0 (fun _ h=>h.1.c2) ?_;refine rdy 1 fun KK hKK=>?_;go_simp;refine cx (HE.out _) fun w2 hbA=>?_;go_wp2_with fail;refine hKK.out _ _ (⟨hHeld.1.keep hbA,hHeld.2.1.keep hbA,hHeld.2.2.1.keep hbA,hHeld.2.2.2.trans (hbA.mono hHeld.2.2.2.size)⟩) (fun _=>?_);clear hKK KK hHeld;rename_i hHeld;(try simp only [Act.put,lay]);refine tks 2 ?_;refine tks 3 ?_;refine tkns 4 ?_;refine tkns 5 ?_;refine tkns 6 ?_;refine tkns 7 ?_;refine tkns 8 ?_;refine tkns 9 ?_;refine tkns 10 ?_;refine tks 11 ?_;refine wpAnyH_done (by kernel_rfl) ?_ _;clear LB1 LR1 LG0_1 LG1_1;have LG0_2:=Hd hHeld.1;have LG1_2:=Hd hHeld.2.1;have LR2:=Hd hHeld.2.2.1;have LB2:=Hd hHeld.2.2.2;clear hHeld hbA HE o12;obtain⟨q0_0,q0_1⟩:=LG0_2.out.c2;obtain⟨q1_0,q1_1⟩:=LG1_2.out.c2;go_wp2_with fail;refine cx (KC1.out _) fun w4 hb4=>?_;have LB3:=stB LB2 hb4 LB2.out.size
 have LR3:=stR LR2 hb4;have LG0_3:=stG LG0_2 hb4;have LG1_3:=stG LG1_2 hb4;clear LB2 LR2 LG0_2 LG1_2;clear hb4 q0_0 q0_1 q1_0 q1_1;obtain⟨q0_0,q0_1⟩:=LG0_3.out.c2;obtain⟨q1_0,q1_1⟩:=LG1_3.out.c2;go_wp2_with fail;refine cx (HN.out _) fun w6 hb6=>?_;have LB4:=stB LB3 hb6 LB3.out.size;have LR4:=stR LR3 hb6;have LG0_4:=stG LG0_3 hb6;have LG1_4:=stG LG1_3 hb6;clear LB3 LR3 LG0_3 LG1_3;clear hb6 q0_0 q0_1 q1_0 q1_1;obtain⟨ha0,hf0,ha1,hf1⟩:=LR4.out.sf2;obtain⟨hk0,hk1⟩:=LR4.out.sc2 (.float .f64 18442240474082181120) (.float .f64 9218868437227405312);have F:=Hd (below_sets (w0:=w) (r:=(w.heap.size+2)) (by omega) [.float .f64 18442240474082181120,.float .f64 9218868437227405312] 0 _ LB4.out)
 simp [sets] at hk0 hk1
 go_wp2;refine bodyPost_ret (v:=Zf 18442240474082181120 9218868437227405312) (by simp [results,Tryz.results68,go_sem,hk0,hk1]) rfl ?_
 exact⟨rfl,F.out⟩
theorem cancel_B2(b1 b2 c1 c2:Nat)(i1 j1 i2 j2:Int)(w:World)(hb1:b1<18446744073709551616)(hb2:b2<18446744073709551616)(hc1:c1<18446744073709551616)(hc2:c2<18446744073709551616)(r1:rd b1 b2=(i1,j1))(r2:rd c1 c2=(i2,j2))(h1:com i1 j1=true)(h3:com i2 j2=false):
  Rt 68 #[Zf b1 b2,Zf c1 c2] (Zf (pat ((-(M:Int),(M:Int))).1) (pat ((-(M:Int),(M:Int))).2)) w:=by
 have v1:=rd_iv b1 b2;have v2:=rd_iv c1 c2;rw [r1] at v1;rw [r2] at v2
 dsimp only at v1 v2
 have hM:M=9218868437227405312:=rfl;have t1:=fun W=>readf b1 b2 W hb1 hb2;have t2:=fun W=>readf c1 c2 W hc1 hc2;rw [r1] at t1;rw [r2] at t2
 dsimp only at t1 t2
 have m1:=em_idx v1;have m2:=em_idx v2;have K1:=fun W=>common_any i1 j1 W v1;have K2:=fun W=>common_any i2 j2 W v2;have HE:=Hd emptyf;have HN:=Hd entiref;have h4:=of_decide_eq_true h1;rw [h1] at K1;have o12:=m1.2 (decide_eq_false (by omega));rw [h3] at K2
 dsimp only
 rw [pat_min,pat_max]
 obtain⟨P1,hP1⟩:∃ z,pat i1=z:=⟨_,rfl⟩
 obtain⟨Q1,hQ1⟩:∃ z,pat j1=z:=⟨_,rfl⟩
 obtain⟨P2,hP2⟩:∃ z,pat i2=z:=⟨_,rfl⟩
 obtain⟨Q2,hQ2⟩:∃ z,pat j2=z:=⟨_,rfl⟩
 rw [hP1,hQ1] at t1 m1 K1;rw [hP2,hQ2] at t2 m2 K2;rw [hP1] at o12;have KC1:=Hd K1;have KC2:=Hd K2;obtain⟨LB0,LG0_0,LG1_0,LR⟩:=bx3 w (Zv b1 b2) 28 (Zv c1 c2) 28 (Zv 0 0) 28;have LR0:=Hd (HasBlk.of (n:=2) LR.out rfl rfl);clear LR;have hrow:=Blk.at (W:=(((w.alloc (.cells (Zv b1 b2) 28)).alloc (.cells (Zv c1 c2) 28)).alloc (.cells (Zv 0 0) 28))) (g:=w.heap.size+1+1+1) (by simp) 75 #[.pointer (some ⟨w.heap.size,0,none⟩),.pointer (some ⟨w.heap.size+1,0,none⟩)];have HRD:=Hd (read_two b1 b2 c1 c2 P1 Q1 P2 Q2 w.heap.size (w.heap.size+1) (w.heap.size+1+1+1) 2 _ _ _ (by omega) (by omega) (by omega) (hrow.cell 0) (hrow.cell 1) (LG0_0.out.alloc (.cells #[.pointer (some ⟨w.heap.size,0,none⟩),.pointer (some ⟨w.heap.size+1,0,none⟩)] 75)) (LG1_0.out.alloc (.cells #[.pointer (some ⟨w.heap.size,0,none⟩),.pointer (some ⟨w.heap.size+1,0,none⟩)] 75)) t1 t2 m1 m2);have LBr:=Hd (LB0.out.alloc (by simp<;>omega) (.cells #[.pointer (some ⟨w.heap.size,0,none⟩),.pointer (some ⟨w.heap.size+1,0,none⟩)] 75));have LRr:=Hd (LR0.out.alloc (.cells #[.pointer (some ⟨w.heap.size,0,none⟩),.pointer (some ⟨w.heap.size+1,0,none⟩)] 75))
 have hsz:w.heap.size<=(((((w.alloc (.cells (Zv b1 b2) 28)).alloc (.cells (Zv c1 c2) 28)).alloc (.cells (Zv 0 0) 28))).alloc (.cells #[.pointer (some ⟨w.heap.size,0,none⟩),.pointer (some ⟨w.heap.size+1,0,none⟩)] 75)).heap.size:=by simp;omega
 have HSZ:=Hd hsz
 obtain⟨em1,hem1⟩:∃ z,decide (j1<i1)=z:=⟨_,rfl⟩
 obtain⟨em2,hem2⟩:∃ z,decide (j2<i2)=z:=⟨_,rfl⟩
 rw [hem1,hem2] at HRD;clear t1 t2 m1 m2 hrow v1 v2 hM hsz hP1 hQ1 hP2 hQ2 r1 r2 LB0 LR0 LG0_0 LG1_0 hem1 hem2 K1 K2 h1 hb1 hb2 hc1 hc2;clear h3 h4
 go_enter Tryz.func68,Tryz.ntmps68
 go_wp2_with fail;refine HRD.out.mono ?_;rintro e w1 ⟨rfl,d0,d1,kp⟩;have LB1:=Hd (kp.toBl LBr.out HSZ.out (Nat.le_refl _) (by omega) (by omega));have LR1:=Hd (kp.hasBk LRr.out (by omega) (by omega) (by omega));have LG0_1:=Hd (show Blk w1 w.heap.size 28 _ from d0);have LG1_1:=Hd (show Blk w1 (w.heap.size+1) 28 _ from d1);clear d0 d1 kp LBr LRr HSZ HRD;go_wp2_with fail;refine wp_region_held_drew (S:=fun W'=>Blk W' w.heap.size 28 (Zv P1 Q1)/\Blk W' (w.heap.size+1) 28 (Zv P2 Q2)/\HasBlk W' (w.heap.size+2) 28 2/\Below w.heap.size w W') (by kernel_rfl) (by exact⟨LG0_1.out.drew,LG1_1.out.drew,LR1.out.drew,LB1.out.drew⟩) (fun hHeld=>?_);refine tkb 0 (fun _ h=>h.1.c2) ?_;refine rdy 1 fun KK hKK=>?_;go_simp;refine cx (HE.out _) fun w2 hbA=>?_;go_wp2_with fail;refine hKK.out _ _ (⟨hHeld.1.keep hbA,hHeld.2.1.keep hbA,hHeld.2.2.1.keep hbA,hHeld.2.2.2.trans (hbA.mono hHeld.2.2.2.size)⟩) (fun _=>?_);clear hKK KK hHeld;rename_i hHeld;(try simp only [Act.put,lay]);refine tks 2 ?_;refine tks 3 ?_;refine tkns 4 ?_;refine tkns 5 ?_;refine tkns 6 ?_;refine tkns 7 ?_;refine tkns 8 ?_;refine tkns 9 ?_;refine tkns 10 ?_;refine tks 11 ?_;refine wpAnyH_done (by kernel_rfl) ?_ _;clear LB1 LR1 LG0_1 LG1_1;have LG0_2:=Hd hHeld.1;have LG1_2:=Hd hHeld.2.1;have LR2:=Hd hHeld.2.2.1;have LB2:=Hd hHeld.2.2.2;clear hHeld hbA HE o12;obtain⟨q0_0,q0_1⟩:=LG0_2.out.c2;obtain⟨q1_0,q1_1⟩:=LG1_2.out.c2;go_wp2_with fail;refine cx (KC1.out _) fun w4 hb4=>?_;have LB3:=stB LB2 hb4 LB2.out.size
 have LR3:=stR LR2 hb4;have LG0_3:=stG LG0_2 hb4;have LG1_3:=stG LG1_2 hb4;clear LB2 LR2 LG0_2 LG1_2;clear hb4 q0_0 q0_1 q1_0 q1_1;obtain⟨q0_0,q0_1⟩:=LG0_3.out.c2;obtain⟨q1_0,q1_1⟩:=LG1_3.out.c2;go_wp2_with fail;refine cx (KC2.out _) fun w5 hb5=>?_;have LB4:=stB LB3 hb5 LB3.out.size;have LR4:=stR LR3 hb5;have LG0_4:=stG LG0_3 hb5;have LG1_4:=stG LG1_3 hb5;clear LB3 LR3 LG0_3 LG1_3;clear hb5 q0_0 q0_1 q1_0 q1_1;obtain⟨q0_0,q0_1⟩:=LG0_4.out.c2;obtain⟨q1_0,q1_1⟩:=LG1_4.out.c2;go_wp2_with fail;refine cx (HN.out _) fun w6 hb6=>?_;have LB5:=stB LB4 hb6 LB4.out.size;have LR5:=stR LR4 hb6;have LG0_5:=stG LG0_4 hb6;have LG1_5:=stG LG1_4 hb6;clear LB4 LR4 LG0_4 LG1_4;clear hb6 q0_0 q0_1 q1_0 q1_1;obtain⟨ha0,hf0,ha1,hf1⟩:=LR5.out.sf2;obtain⟨hk0,hk1⟩:=LR5.out.sc2 (.float .f64 18442240474082181120) (.float .f64 9218868437227405312);have F:=Hd (below_sets (w0:=w) (r:=(w.heap.size+2)) (by omega) [.float .f64 18442240474082181120,.float .f64 9218868437227405312] 0 _ LB5.out)
 simp [sets] at hk0 hk1
 go_wp2;refine bodyPost_ret (v:=Zf 18442240474082181120 9218868437227405312) (by simp [results,Tryz.results68,go_sem,hk0,hk1]) rfl ?_
 exact⟨rfl,F.out⟩
theorem cancel_C(b1 b2 c1 c2:Nat)(i1 j1 i2 j2:Int)(w:World)(hb1:b1<18446744073709551616)(hb2:b2<18446744073709551616)(hc1:c1<18446744073709551616)(hc2:c2<18446744073709551616)(r1:rd b1 b2=(i1,j1))(r2:rd c1 c2=(i2,j2))(h1:com i1 j1=true)(h2:com i2 j2=true)(h3:fl j1 - fl i1<fl j2 - fl i2):
  Rt 68 #[Zf b1 b2,Zf c1 c2] (Zf (pat ((-(M:Int),(M:Int))).1) (pat ((-(M:Int),(M:Int))).2)) w:=by
 have v1:=rd_iv b1 b2;have v2:=rd_iv c1 c2;rw [r1] at v1;rw [r2] at v2
 dsimp only at v1 v2
 have hM:M=9218868437227405312:=rfl;have t1:=fun W=>readf b1 b2 W hb1 hb2;have t2:=fun W=>readf c1 c2 W hc1 hc2;rw [r1] at t1;rw [r2] at t2
 dsimp only at t1 t2
 have m1:=em_idx v1;have m2:=em_idx v2;have K1:=fun W=>common_any i1 j1 W v1;have K2:=fun W=>common_any i2 j2 W v2;have HE:=Hd emptyf;have HN:=Hd entiref;have h4:=of_decide_eq_true h1;rw [h1] at K1;have o12:=m1.2 (decide_eq_false (by omega));rw [h2] at K2;have h5:=of_decide_eq_true h2
 have fn:∀ i:Int,-(M:Int)<i->i<M->fin (pat i):=by
  intro i a b
  show rungOf _<M
  rw [rung_pat (by omega) (by omega)];omega
 have L1:=fun W=>rless_any (pat j1) (pat i1) W (pat_lt (by omega) (by omega)) (pat_lt (by omega) (by omega)) (fn _ (by omega) (by omega)) (fn _ (by omega) (by omega));have L2:=fun W=>rless_any (pat j2) (pat i2) W (pat_lt (by omega) (by omega)) (pat_lt (by omega) (by omega)) (fn _ (by omega) (by omega)) (fn _ (by omega) (by omega));rw [idx_pat (by omega) (by omega),idx_pat (by omega) (by omega)] at L1 L2
 have w1:0<=fl j1 - fl i1:=by have:=fl_le_iff.2 h4.1;grind
 have w2:0<=fl j2 - fl i2:=by have:=fl_le_iff.2 h5.1;grind
 have HA:=Hd fun n1 A1 m1 c1 S1 e1 n2 A2 m2 c2 S2 e2 W h1 h2 b1 b2 l1 u1 l2 u2 hv1 hv2=>alignw n1 A1 m1 c1 S1 e1 n2 A2 m2 c2 S2 e2 (fl j1 - fl i1) (fl j2 - fl i2) W h1 h2 b1 b2 l1 u1 l2 u2 hv1 hv2 w1 w2;have HC:=Hd fun W A n c B m d P Q (hx:U32s W A n c (digs P)) (hy:U32s W B m d (digs Q))=>ncmp_v A B n c m d P Q W hx hy
 obtain⟨x1,ex1⟩:∃ x,fl j1 - fl i1=x:=⟨_,rfl⟩
 obtain⟨x2,ex2⟩:∃ x,fl j2 - fl i2=x:=⟨_,rfl⟩
 rw [ex1,ex2] at HA h3;rw [ex1] at L1;rw [ex2] at L2;have H3:=Hd h3;clear h2 h4 h5 fn w1 w2 ex1 ex2 h3
 dsimp only
 rw [pat_min,pat_max]
 obtain⟨P1,hP1⟩:∃ z,pat i1=z:=⟨_,rfl⟩
 obtain⟨Q1,hQ1⟩:∃ z,pat j1=z:=⟨_,rfl⟩
 obtain⟨P2,hP2⟩:∃ z,pat i2=z:=⟨_,rfl⟩
 obtain⟨Q2,hQ2⟩:∃ z,pat j2=z:=⟨_,rfl⟩
 rw [hP1,hQ1] at t1 m1 K1;rw [hP2,hQ2] at t2 m2 K2;rw [hP1] at o12;rw [hP1,hQ1] at L1;rw [hP2,hQ2] at L2;have KL1:=Hd L1;have KL2:=Hd L2;clear L1 L2;have KC1:=Hd K1;have KC2:=Hd K2;obtain⟨LB0,LG0_0,LG1_0,LR⟩:=bx3 w (Zv b1 b2) 28 (Zv c1 c2) 28 (Zv 0 0) 28;have LR0:=Hd (HasBlk.of (n:=2) LR.out rfl rfl);clear LR;have hrow:=Blk.at (W:=(((w.alloc (.cells (Zv b1 b2) 28)).alloc (.cells (Zv c1 c2) 28)).alloc (.cells (Zv 0 0) 28))) (g:=w.heap.size+1+1+1) (by simp) 75 #[.pointer (some ⟨w.heap.size,0,none⟩),.pointer (some ⟨w.heap.size+1,0,none⟩)];have HRD:=Hd (read_two b1 b2 c1 c2 P1 Q1 P2 Q2 w.heap.size (w.heap.size+1) (w.heap.size+1+1+1) 2 _ _ _ (by omega) (by omega) (by omega) (hrow.cell 0) (hrow.cell 1) (LG0_0.out.alloc (.cells #[.pointer (some ⟨w.heap.size,0,none⟩),.pointer (some ⟨w.heap.size+1,0,none⟩)] 75)) (LG1_0.out.alloc (.cells #[.pointer (some ⟨w.heap.size,0,none⟩),.pointer (some ⟨w.heap.size+1,0,none⟩)] 75)) t1 t2 m1 m2);have LBr:=Hd (LB0.out.alloc (by simp<;>omega) (.cells #[.pointer (some ⟨w.heap.size,0,none⟩),.pointer (some ⟨w.heap.size+1,0,none⟩)] 75));have LRr:=Hd (LR0.out.alloc (.cells #[.pointer (some ⟨w.heap.size,0,none⟩),.pointer (some ⟨w.heap.size+1,0,none⟩)] 75))
 have hsz:w.heap.size<=(((((w.alloc (.cells (Zv b1 b2) 28)).alloc (.cells (Zv c1 c2) 28)).alloc (.cells (Zv 0 0) 28))).alloc (.cells #[.pointer (some ⟨w.heap.size,0,none⟩),.pointer (some ⟨w.heap.size+1,0,none⟩)] 75)).heap.size:=by simp;omega
 have HSZ:=Hd hsz
 obtain⟨em1,hem1⟩:∃ z,decide (j1<i1)=z:=⟨_,rfl⟩
 obtain⟨em2,hem2⟩:∃ z,decide (j2<i2)=z:=⟨_,rfl⟩
 rw [hem1,hem2] at HRD;clear t1 t2 m1 m2 hrow v1 v2 hM hsz hP1 hQ1 hP2 hQ2 r1 r2 LB0 LR0 LG0_0 LG1_0 hem1 hem2 K1 K2 h1 hb1 hb2 hc1 hc2
 go_enter Tryz.func68,Tryz.ntmps68
 go_wp2_with fail;refine HRD.out.mono ?_;rintro e w1 ⟨rfl,d0,d1,kp⟩;have LB1:=Hd (kp.toBl LBr.out HSZ.out (Nat.le_refl _) (by omega) (by omega));have LR1:=Hd (kp.hasBk LRr.out (by omega) (by omega) (by omega));have LG0_1:=Hd (show Blk w1 w.heap.size 28 _ from d0);have LG1_1:=Hd (show Blk w1 (w.heap.size+1) 28 _ from d1);clear d0 d1 kp LBr LRr HSZ HRD;go_wp2_with fail;refine wp_region_held_drew (S:=fun W'=>Blk W' w.heap.size 28 (Zv P1 Q1)/\Blk W' (w.heap.size+1) 28 (Zv P2 Q2)/\HasBlk W' (w.heap.size+2) 28 2/\Below w.heap.size w W') (by kernel_rfl) (by exact⟨LG0_1.out.drew,LG1_1.out.drew,LR1.out.drew,LB1.out.drew⟩) (fun hHeld=>?_);refine tkb 0 (fun _ h=>h.1.c2) ?_;refine rdy 1 fun KK hKK=>?_;go_simp;refine cx (HE.out _) fun w2 hbA=>?_;go_wp2_with fail;refine hKK.out _ _ (⟨hHeld.1.keep hbA,hHeld.2.1.keep hbA,hHeld.2.2.1.keep hbA,hHeld.2.2.2.trans (hbA.mono hHeld.2.2.2.size)⟩) (fun _=>?_);clear hKK KK hHeld;rename_i hHeld;(try simp only [Act.put,lay]);refine tks 2 ?_;refine tks 3 ?_;refine tkns 4 ?_;refine tkns 5 ?_;refine tkns 6 ?_;refine tkns 7 ?_;refine tkns 8 ?_;refine tkns 9 ?_;refine tkns 10 ?_;refine tks 11 ?_;refine wpAnyH_done (by kernel_rfl) ?_ _;clear LB1 LR1 LG0_1 LG1_1;have LG0_2:=Hd hHeld.1;have LG1_2:=Hd hHeld.2.1;have LR2:=Hd hHeld.2.2.1;have LB2:=Hd hHeld.2.2.2;clear hHeld hbA HE o12;obtain⟨q0_0,q0_1⟩:=LG0_2.out.c2;obtain⟨q1_0,q1_1⟩:=LG1_2.out.c2;go_wp2_with fail;refine cx (KC1.out _) fun w4 hb4=>?_;have LB3:=stB LB2 hb4 LB2.out.size
 have LR3:=stR LR2 hb4;have LG0_3:=stG LG0_2 hb4;have LG1_3:=stG LG1_2 hb4;clear LB2 LR2 LG0_2 LG1_2;clear hb4 q0_0 q0_1 q1_0 q1_1;obtain⟨q0_0,q0_1⟩:=LG0_3.out.c2;obtain⟨q1_0,q1_1⟩:=LG1_3.out.c2;go_wp2_with fail;refine cx (KC2.out _) fun w5 hb5=>?_;have LB4:=stB LB3 hb5 LB3.out.size;have LR4:=stR LR3 hb5;have LG0_4:=stG LG0_3 hb5;have LG1_4:=stG LG1_3 hb5;clear LB3 LR3 LG0_3 LG1_3;clear hb5 q0_0 q0_1 q1_0 q1_1;obtain⟨q0_0,q0_1⟩:=LG0_4.out.c2;obtain⟨q1_0,q1_1⟩:=LG1_4.out.c2;go_wp2_with fail;clear q0_0 q0_1 q1_0 q1_1;refine wp_region_held_drew (S:=fun W'=>Blk W' w.heap.size 28 (Zv P1 Q1)/\Blk W' (w.heap.size+1) 28 (Zv P2 Q2)/\HasBlk W' (w.heap.size+2) 28 2/\Below w.heap.size w W') (by kernel_rfl) (by exact⟨LG0_4.out.drew,LG1_4.out.drew,LR4.out.drew,LB4.out.drew⟩) (fun hHeld=>?_);refine tks 0 ?_;refine tkb 1 (fun _ h=>h.1.c2) ?_;refine tks 2 ?_;refine tkb 3 (fun _ h=>h.1.c2) ?_;refine tks 5 ?_;refine tkb 6 (fun _ h=>h.2.1.c2) ?_;refine tks 7 ?_;refine tkb 8 (fun _ h=>h.2.1.c2) ?_;refine rdy 4 fun KK hKK=>?_;go_simp;refine (KL1.out _).mono ?_;rintro e w6 ⟨n1,A1,k1,y1,S1,e1,rfl,hu1,hbF,hl1,hlo1,hhi1,hv1⟩;go_wp2_with fail;refine hKK.out _ _ (⟨hHeld.1.keep hbF,hHeld.2.1.keep hbF,hHeld.2.2.1.keep hbF,hHeld.2.2.2.trans (hbF.mono hHeld.2.2.2.size)⟩) (fun _=>?_);clear hKK KK hHeld;rename_i hHeld;(try simp only [Act.put,lay]);refine rdy 9 fun KK hKK=>?_;go_simp;refine (KL2.out _).mono ?_;rintro e w7 ⟨n2,A2,k2,y2,S2,e2,rfl,hu2,hbG,hl2,hlo2,hhi2,hv2⟩;go_wp2_with fail;refine hKK.out _ _ (⟨hHeld.1.keep hbG,hHeld.2.1.keep hbG,hHeld.2.2.1.keep hbG,hHeld.2.2.2.trans (hbG.mono hHeld.2.2.2.size)⟩) (fun _=>?_)
 clear hKK KK hHeld;rename_i hHeld;(try simp only [Act.put,lay]);refine rdy 10 fun KK hKK=>?_;go_simp;refine (HA.out n1 A1 k1 y1 S1 e1 n2 A2 k2 y2 S2 e2 _ (hu1.below hbG) hu2 hl1 hl2 hlo1 hhi1 hlo2 hhi2 hv1 hv2).mono ?_;rintro e w8 ⟨PP,QQ,EE,A3,k3,y3,A4,k4,y4,rfl,hp,hq,hpq,hbH⟩;go_wp2_with fail;refine hKK.out _ _ (⟨hHeld.1.keep hbH,hHeld.2.1.keep hbH,hHeld.2.2.1.keep hbH,hHeld.2.2.2.trans (hbH.mono hHeld.2.2.2.size)⟩) (fun _=>?_);clear hKK KK hHeld;rename_i hHeld;(try simp only [Act.put,lay]);refine tks 11 ?_;refine tks 12 ?_;refine tks 13 ?_;refine tks 14 ?_;refine tks 15 ?_;refine tks 16 ?_;refine tks 17 ?_;refine wpAnyH_done (by kernel_rfl) ?_ _;clear LB4 LR4 LG0_4 LG1_4;have HPP:=Hd hp;have HQQ:=Hd hq
 have hcc:cmp3 PP QQ<0:=by exact cmp3_neg.2 (hpq.2 H3.out)
 have HC2:=Hd (fun W (hW:Below w8.heap.size w8 W)=>HC.out W A3 k3 y3 A4 k4 y4 PP QQ (HPP.out.below hW) (HQQ.out.below hW))
 obtain⟨cc,ecc⟩:∃ z,cmp3 PP QQ=z:=⟨_,rfl⟩
 rw [ecc] at hcc HC2;clear ecc hp hq hpq H3 HC HPP HQQ hu1 hl1 hlo1 hhi1 hv1 hu2 hl2 hlo2 hhi2 hv2 KL1 KL2 HA;have LG0_5:=Hd hHeld.1;have LG1_5:=Hd hHeld.2.1;have LR5:=Hd hHeld.2.2.1;have LB5:=Hd hHeld.2.2.2;clear hHeld hbF hbG hbH;obtain⟨q0_0,q0_1⟩:=LG0_5.out.c2;obtain⟨q1_0,q1_1⟩:=LG1_5.out.c2;go_wp2_with fail;refine cx (HC2.out _ (Below.refl _ _)) fun w9 hb9=>?_;have LB6:=stB LB5 hb9 LB5.out.size;have LR6:=stR LR5 hb9;have LG0_6:=stG LG0_5 hb9;have LG1_6:=stG LG1_5 hb9;clear LB5 LR5 LG0_5 LG1_5;clear hb9 HC2 q0_0 q0_1 q1_0 q1_1;go_wp2_with fail;refine cx (HN.out _) fun w10 hb10=>?_;have LB7:=stB LB6 hb10 LB6.out.size;have LR7:=stR LR6 hb10;have LG0_7:=stG LG0_6 hb10;have LG1_7:=stG LG1_6 hb10;clear LB6 LR6 LG0_6 LG1_6;clear hb10 hcc;obtain⟨ha0,hf0,ha1,hf1⟩:=LR7.out.sf2;obtain⟨hk0,hk1⟩:=LR7.out.sc2 (.float .f64 18442240474082181120) (.float .f64 9218868437227405312);have F:=Hd (below_sets (w0:=w) (r:=(w.heap.size+2)) (by omega) [.float .f64 18442240474082181120,.float .f64 9218868437227405312] 0 _ LB7.out)
 simp [sets] at hk0 hk1
 go_wp2;refine bodyPost_ret (v:=Zf 18442240474082181120 9218868437227405312) (by simp [results,Tryz.results68,go_sem,hk0,hk1]) rfl ?_
 exact⟨rfl,F.out⟩
theorem cancel_D(b1 b2 c1 c2:Nat)(i1 j1 i2 j2:Int)(w:World)(hb1:b1<18446744073709551616)(hb2:b2<18446744073709551616)(hc1:c1<18446744073709551616)(hc2:c2<18446744073709551616)(r1:rd b1 b2=(i1,j1))(r2:rd c1 c2=(i2,j2))(h1:com i1 j1=true)(h2:com i2 j2=true)(h3:¬ fl j1 - fl i1<fl j2 - fl i2):
  Rt 68 #[Zf b1 b2,Zf c1 c2] (Zf (pat ((ad (-1) i1 (-i2),ad 1 j1 (-j2))).1) (pat ((ad (-1) i1 (-i2),ad 1 j1 (-j2))).2)) w:=by
 have v1:=rd_iv b1 b2;have v2:=rd_iv c1 c2;rw [r1] at v1;rw [r2] at v2
 dsimp only at v1 v2
 have hM:M=9218868437227405312:=rfl;have t1:=fun W=>readf b1 b2 W hb1 hb2;have t2:=fun W=>readf c1 c2 W hc1 hc2;rw [r1] at t1;rw [r2] at t2
 dsimp only at t1 t2
 have m1:=em_idx v1;have m2:=em_idx v2;have K1:=fun W=>common_any i1 j1 W v1;have K2:=fun W=>common_any i2 j2 W v2;have HE:=Hd emptyf;have HN:=Hd entiref;have h4:=of_decide_eq_true h1;rw [h1] at K1;have o12:=m1.2 (decide_eq_false (by omega));rw [h2] at K2;have h5:=of_decide_eq_true h2
 have fn:∀ i:Int,-(M:Int)<i->i<M->fin (pat i):=by
  intro i a b
  show rungOf _<M
  rw [rung_pat (by omega) (by omega)];omega
 have L1:=fun W=>rless_any (pat j1) (pat i1) W (pat_lt (by omega) (by omega)) (pat_lt (by omega) (by omega)) (fn _ (by omega) (by omega)) (fn _ (by omega) (by omega));have L2:=fun W=>rless_any (pat j2) (pat i2) W (pat_lt (by omega) (by omega)) (pat_lt (by omega) (by omega)) (fn _ (by omega) (by omega)) (fn _ (by omega) (by omega));rw [idx_pat (by omega) (by omega),idx_pat (by omega) (by omega)] at L1 L2
 have w1:0<=fl j1 - fl i1:=by have:=fl_le_iff.2 h4.1;grind
 have w2:0<=fl j2 - fl i2:=by have:=fl_le_iff.2 h5.1;grind
 have HA:=Hd fun n1 A1 m1 c1 S1 e1 n2 A2 m2 c2 S2 e2 W h1 h2 b1 b2 l1 u1 l2 u2 hv1 hv2=>alignw n1 A1 m1 c1 S1 e1 n2 A2 m2 c2 S2 e2 (fl j1 - fl i1) (fl j2 - fl i2) W h1 h2 b1 b2 l1 u1 l2 u2 hv1 hv2 w1 w2;have HC:=Hd fun W A n c B m d P Q (hx:U32s W A n c (digs P)) (hy:U32s W B m d (digs Q))=>ncmp_v A B n c m d P Q W hx hy;have S1:=fun W=>rsub_pat (-1) i1 i2 W (.inl rfl) v1.lo v2.lo (by unfold NoCl;omega);have S2:=fun W=>rsub_pat 1 j1 j2 W (.inr rfl) v1.hi v2.hi (by unfold NoCl;omega)
 obtain⟨x1,ex1⟩:∃ x,fl j1 - fl i1=x:=⟨_,rfl⟩
 obtain⟨x2,ex2⟩:∃ x,fl j2 - fl i2=x:=⟨_,rfl⟩
 rw [ex1,ex2] at HA h3;rw [ex1] at L1;rw [ex2] at L2;have H3:=Hd h3;clear h2 h4 h5 fn w1 w2 ex1 ex2 h3
 dsimp only
 obtain⟨z1,hz1⟩:∃ z,pat (ad (-1) i1 (-i2))=z:=⟨_,rfl⟩
 obtain⟨z2,hz2⟩:∃ z,pat (ad 1 j1 (-j2))=z:=⟨_,rfl⟩
 rw [hz1] at S1 ⊢;rw [hz2] at S2 ⊢
 obtain⟨P1,hP1⟩:∃ z,pat i1=z:=⟨_,rfl⟩
 obtain⟨Q1,hQ1⟩:∃ z,pat j1=z:=⟨_,rfl⟩
 obtain⟨P2,hP2⟩:∃ z,pat i2=z:=⟨_,rfl⟩
 obtain⟨Q2,hQ2⟩:∃ z,pat j2=z:=⟨_,rfl⟩
 rw [hP1,hQ1] at t1 m1 K1;rw [hP2,hQ2] at t2 m2 K2;rw [hP1] at o12;rw [hP1,hQ1] at L1;rw [hP2,hQ2] at L2;have KL1:=Hd L1;have KL2:=Hd L2;clear L1 L2;rw [hP1,hP2] at S1;rw [hQ1,hQ2] at S2;have KS1:=Hd S1;have KS2:=Hd S2;clear S1 S2 hz1 hz2;have KC1:=Hd K1;have KC2:=Hd K2;obtain⟨LB0,LG0_0,LG1_0,LR⟩:=bx3 w (Zv b1 b2) 28 (Zv c1 c2) 28 (Zv 0 0) 28;have LR0:=Hd (HasBlk.of (n:=2) LR.out rfl rfl);clear LR;have hrow:=Blk.at (W:=(((w.alloc (.cells (Zv b1 b2) 28)).alloc (.cells (Zv c1 c2) 28)).alloc (.cells (Zv 0 0) 28))) (g:=w.heap.size+1+1+1) (by simp) 75 #[.pointer (some ⟨w.heap.size,0,none⟩),.pointer (some ⟨w.heap.size+1,0,none⟩)];have HRD:=Hd (read_two b1 b2 c1 c2 P1 Q1 P2 Q2 w.heap.size (w.heap.size+1) (w.heap.size+1+1+1) 2 _ _ _ (by omega) (by omega) (by omega) (hrow.cell 0) (hrow.cell 1) (LG0_0.out.alloc (.cells #[.pointer (some ⟨w.heap.size,0,none⟩),.pointer (some ⟨w.heap.size+1,0,none⟩)] 75)) (LG1_0.out.alloc (.cells #[.pointer (some ⟨w.heap.size,0,none⟩),.pointer (some ⟨w.heap.size+1,0,none⟩)] 75)) t1 t2 m1 m2);have LBr:=Hd (LB0.out.alloc (by simp<;>omega) (.cells #[.pointer (some ⟨w.heap.size,0,none⟩),.pointer (some ⟨w.heap.size+1,0,none⟩)] 75));have LRr:=Hd (LR0.out.alloc (.cells #[.pointer (some ⟨w.heap.size,0,none⟩),.pointer (some ⟨w.heap.size+1,0,none⟩)] 75))
 have hsz:w.heap.size<=(((((w.alloc (.cells (Zv b1 b2) 28)).alloc (.cells (Zv c1 c2) 28)).alloc (.cells (Zv 0 0) 28))).alloc (.cells #[.pointer (some ⟨w.heap.size,0,none⟩),.pointer (some ⟨w.heap.size+1,0,none⟩)] 75)).heap.size:=by simp;omega
 have HSZ:=Hd hsz
 obtain⟨em1,hem1⟩:∃ z,decide (j1<i1)=z:=⟨_,rfl⟩
 obtain⟨em2,hem2⟩:∃ z,decide (j2<i2)=z:=⟨_,rfl⟩
 rw [hem1,hem2] at HRD;clear t1 t2 m1 m2 hrow v1 v2 hM hsz hP1 hQ1 hP2 hQ2 r1 r2 LB0 LR0 LG0_0 LG1_0 hem1 hem2 K1 K2 h1 hb1 hb2 hc1 hc2
 go_enter Tryz.func68,Tryz.ntmps68
 go_wp2_with fail;refine HRD.out.mono ?_;rintro e w1 ⟨rfl,d0,d1,kp⟩;have LB1:=Hd (kp.toBl LBr.out HSZ.out (Nat.le_refl _) (by omega) (by omega));have LR1:=Hd (kp.hasBk LRr.out (by omega) (by omega) (by omega));have LG0_1:=Hd (show Blk w1 w.heap.size 28 _ from d0);have LG1_1:=Hd (show Blk w1 (w.heap.size+1) 28 _ from d1);clear d0 d1 kp LBr LRr HSZ HRD;go_wp2_with fail;refine wp_region_held_drew (S:=fun W'=>Blk W' w.heap.size 28 (Zv P1 Q1)/\Blk W' (w.heap.size+1) 28 (Zv P2 Q2)/\HasBlk W' (w.heap.size+2) 28 2/\Below w.heap.size w W') (by kernel_rfl) (by exact⟨LG0_1.out.drew,LG1_1.out.drew,LR1.out.drew,LB1.out.drew⟩) (fun hHeld=>?_);refine tkb 0 (fun _ h=>h.1.c2) ?_;refine rdy 1 fun KK hKK=>?_;go_simp;refine cx (HE.out _) fun w2 hbA=>?_;go_wp2_with fail;refine hKK.out _ _ (⟨hHeld.1.keep hbA,hHeld.2.1.keep hbA,hHeld.2.2.1.keep hbA,hHeld.2.2.2.trans (hbA.mono hHeld.2.2.2.size)⟩) (fun _=>?_);clear hKK KK hHeld;rename_i hHeld;(try simp only [Act.put,lay]);refine tks 2 ?_;refine tks 3 ?_;refine tkns 4 ?_;refine tkns 5 ?_;refine tkns 6 ?_;refine tkns 7 ?_;refine tkns 8 ?_;refine tkns 9 ?_;refine tkns 10 ?_;refine tks 11 ?_;refine wpAnyH_done (by kernel_rfl) ?_ _;clear LB1 LR1 LG0_1 LG1_1;have LG0_2:=Hd hHeld.1;have LG1_2:=Hd hHeld.2.1;have LR2:=Hd hHeld.2.2.1;have LB2:=Hd hHeld.2.2.2;clear hHeld hbA HE o12;obtain⟨q0_0,q0_1⟩:=LG0_2.out.c2;obtain⟨q1_0,q1_1⟩:=LG1_2.out.c2;go_wp2_with fail;refine cx (KC1.out _) fun w4 hb4=>?_;have LB3:=stB LB2 hb4 LB2.out.size
 have LR3:=stR LR2 hb4;have LG0_3:=stG LG0_2 hb4;have LG1_3:=stG LG1_2 hb4;clear LB2 LR2 LG0_2 LG1_2;clear hb4 q0_0 q0_1 q1_0 q1_1;obtain⟨q0_0,q0_1⟩:=LG0_3.out.c2;obtain⟨q1_0,q1_1⟩:=LG1_3.out.c2;go_wp2_with fail;refine cx (KC2.out _) fun w5 hb5=>?_;have LB4:=stB LB3 hb5 LB3.out.size;have LR4:=stR LR3 hb5;have LG0_4:=stG LG0_3 hb5;have LG1_4:=stG LG1_3 hb5;clear LB3 LR3 LG0_3 LG1_3;clear hb5 q0_0 q0_1 q1_0 q1_1;obtain⟨q0_0,q0_1⟩:=LG0_4.out.c2;obtain⟨q1_0,q1_1⟩:=LG1_4.out.c2;go_wp2_with fail;clear q0_0 q0_1 q1_0 q1_1;refine wp_region_held_drew (S:=fun W'=>Blk W' w.heap.size 28 (Zv P1 Q1)/\Blk W' (w.heap.size+1) 28 (Zv P2 Q2)/\HasBlk W' (w.heap.size+2) 28 2/\Below w.heap.size w W') (by kernel_rfl) (by exact⟨LG0_4.out.drew,LG1_4.out.drew,LR4.out.drew,LB4.out.drew⟩) (fun hHeld=>?_);refine tks 0 ?_;refine tkb 1 (fun _ h=>h.1.c2) ?_;refine tks 2 ?_;refine tkb 3 (fun _ h=>h.1.c2) ?_;refine tks 5 ?_;refine tkb 6 (fun _ h=>h.2.1.c2) ?_;refine tks 7 ?_;refine tkb 8 (fun _ h=>h.2.1.c2) ?_;refine rdy 4 fun KK hKK=>?_;go_simp;refine (KL1.out _).mono ?_;rintro e w6 ⟨n1,A1,k1,y1,S1,e1,rfl,hu1,hbF,hl1,hlo1,hhi1,hv1⟩;go_wp2_with fail;refine hKK.out _ _ (⟨hHeld.1.keep hbF,hHeld.2.1.keep hbF,hHeld.2.2.1.keep hbF,hHeld.2.2.2.trans (hbF.mono hHeld.2.2.2.size)⟩) (fun _=>?_);clear hKK KK hHeld;rename_i hHeld;(try simp only [Act.put,lay]);refine rdy 9 fun KK hKK=>?_;go_simp;refine (KL2.out _).mono ?_;rintro e w7 ⟨n2,A2,k2,y2,S2,e2,rfl,hu2,hbG,hl2,hlo2,hhi2,hv2⟩;go_wp2_with fail;refine hKK.out _ _ (⟨hHeld.1.keep hbG,hHeld.2.1.keep hbG,hHeld.2.2.1.keep hbG,hHeld.2.2.2.trans (hbG.mono hHeld.2.2.2.size)⟩) (fun _=>?_)
 clear hKK KK hHeld;rename_i hHeld;(try simp only [Act.put,lay]);refine rdy 10 fun KK hKK=>?_;go_simp;refine (HA.out n1 A1 k1 y1 S1 e1 n2 A2 k2 y2 S2 e2 _ (hu1.below hbG) hu2 hl1 hl2 hlo1 hhi1 hlo2 hhi2 hv1 hv2).mono ?_;rintro e w8 ⟨PP,QQ,EE,A3,k3,y3,A4,k4,y4,rfl,hp,hq,hpq,hbH⟩;go_wp2_with fail;refine hKK.out _ _ (⟨hHeld.1.keep hbH,hHeld.2.1.keep hbH,hHeld.2.2.1.keep hbH,hHeld.2.2.2.trans (hbH.mono hHeld.2.2.2.size)⟩) (fun _=>?_);clear hKK KK hHeld;rename_i hHeld;(try simp only [Act.put,lay]);refine tks 11 ?_;refine tks 12 ?_;refine tks 13 ?_;refine tks 14 ?_;refine tks 15 ?_;refine tks 16 ?_;refine tks 17 ?_;refine wpAnyH_done (by kernel_rfl) ?_ _;clear LB4 LR4 LG0_4 LG1_4;have HPP:=Hd hp;have HQQ:=Hd hq
 have hcc:0<=cmp3 PP QQ:=by exact cmp3_nonneg.2 (by have:=hpq.1;have:=H3.out;by_cases hh:PP<QQ;exact absurd (hpq.1 hh) H3.out;omega)
 have HC2:=Hd (fun W (hW:Below w8.heap.size w8 W)=>HC.out W A3 k3 y3 A4 k4 y4 PP QQ (HPP.out.below hW) (HQQ.out.below hW))
 obtain⟨cc,ecc⟩:∃ z,cmp3 PP QQ=z:=⟨_,rfl⟩
 rw [ecc] at hcc HC2;clear ecc hp hq hpq H3 HC HPP HQQ hu1 hl1 hlo1 hhi1 hv1 hu2 hl2 hlo2 hhi2 hv2 KL1 KL2 HA;have LG0_5:=Hd hHeld.1;have LG1_5:=Hd hHeld.2.1;have LR5:=Hd hHeld.2.2.1;have LB5:=Hd hHeld.2.2.2;clear hHeld hbF hbG hbH;obtain⟨q0_0,q0_1⟩:=LG0_5.out.c2;obtain⟨q1_0,q1_1⟩:=LG1_5.out.c2;go_wp2_with fail;refine cx (HC2.out _ (Below.refl _ _)) fun w9 hb9=>?_;have LB6:=stB LB5 hb9 LB5.out.size;have LR6:=stR LR5 hb9;have LG0_6:=stG LG0_5 hb9;have LG1_6:=stG LG1_5 hb9;clear LB5 LR5 LG0_5 LG1_5;clear hb9 HC2 q0_0 q0_1 q1_0 q1_1;go_wp2_with fail;clear hcc;refine wp_region_held_drew (S:=fun W'=>Blk W' w.heap.size 28 (Zv P1 Q1)/\Blk W' (w.heap.size+1) 28 (Zv P2 Q2)/\HasBlk W' (w.heap.size+2) 28 2/\Below w.heap.size w W') (by kernel_rfl) (by exact⟨LG0_6.out.drew,LG1_6.out.drew,LR6.out.drew,LB6.out.drew⟩) (fun hHeld=>?_);refine tks 0 ?_;refine tkb 1 (fun _ h=>h.1.c2) ?_;refine tks 2 ?_;refine tkb 3 (fun _ h=>h.2.1.c2) ?_;refine tks 5 ?_;refine tkb 6 (fun _ h=>h.1.c2) ?_;refine tks 7 ?_;refine tkb 8 (fun _ h=>h.2.1.c2) ?_;refine rdy 4 fun KK hKK=>?_;go_simp;refine cx (KS1.out _) fun w10 hbI=>?_;go_wp2_with fail;refine hKK.out _ _ (⟨hHeld.1.keep hbI,hHeld.2.1.keep hbI,hHeld.2.2.1.keep hbI,hHeld.2.2.2.trans (hbI.mono hHeld.2.2.2.size)⟩) (fun _=>?_);clear hKK KK hHeld;rename_i hHeld;(try simp only [Act.put,lay]);refine rdy 9 fun KK hKK=>?_;go_simp;refine cx (KS2.out _) fun w11 hbJ=>?_;go_wp2_with fail;refine hKK.out _ _ (⟨hHeld.1.keep hbJ,hHeld.2.1.keep hbJ,hHeld.2.2.1.keep hbJ,hHeld.2.2.2.trans (hbJ.mono hHeld.2.2.2.size)⟩) (fun _=>?_)
 clear hKK KK hHeld;rename_i hHeld;(try simp only [Act.put,lay]);refine tks 10 ?_;refine rdy 11 fun KK hKK=>?_;have ha0:=hHeld.2.2.1.someCell 0 (by decide);have hf0:=hHeld.2.2.1.frozen 0;have ha1:=hHeld.2.2.1.someCell 1 (by decide);have hf1:=hHeld.2.2.1.frozen 1;have HK:=Hd (hHeld.2.2.1.setCell [.float .f64 z1,.float .f64 z2] rfl);have F:=Hd (below_sets (w0:=w) (r:=(w.heap.size+2)) (by omega) [.float .f64 z1,.float .f64 z2] 0 _ hHeld.2.2.2);go_simp;refine hKK.out _ _ (⟨hHeld.1.other (by omega) 0 [.float .f64 z1,.float .f64 z2],hHeld.2.1.other (by omega) 0 [.float .f64 z1,.float .f64 z2],hHeld.2.2.1.sets [.float .f64 z1,.float .f64 z2] rfl rfl,below_sets (by omega) [.float .f64 z1,.float .f64 z2] 0 _ hHeld.2.2.2⟩) (fun _=>?_);clear hKK KK hHeld;rename_i hHeld;(try simp only [Act.put,lay]);refine wpAnyH_done (by kernel_rfl) ?_ _;have hk0:=HK.out 0 (by decide);have hk1:=HK.out 1 (by decide)
 simp [sets] at hk0 hk1
 clear hHeld HK hbI hbJ;clear LB6 LR6 LG0_6 LG1_6;go_wp2;refine bodyPost_ret (v:=Zf z1 z2) (by simp [results,Tryz.results68,go_sem,hk0,hk1]) rfl ?_
 exact⟨rfl,F.out⟩
theorem cancel_any(b1 b2 c1 c2:Nat)(w:World)(hb1:b1<18446744073709551616)(hb2:b2<18446744073709551616)(hc1:c1<18446744073709551616)(hc2:c2<18446744073709551616):
  Rt 68 #[Zf b1 b2,Zf c1 c2] (Zf (pat (cmf (rd b1 b2).1 (rd b1 b2).2 (rd c1 c2).1 (rd c1 c2).2).1) (pat (cmf (rd b1 b2).1 (rd b1 b2).2 (rd c1 c2).1 (rd c1 c2).2).2)) w:=by
 unfold cmf
 by_cases a:(rd b1 b2).2<(rd b1 b2).1
 ·by_cases b:(rd c1 c2).2<(rd c1 c2).1
  ·rw [if_pos ⟨a,.inl b⟩];exact cancel_A1 b1 b2 c1 c2 _ _ _ _ w hb1 hb2 hc1 hc2 rfl rfl a b
  ·cases c:com (rd c1 c2).1 (rd c1 c2).2
   ·rw [if_neg (by rintro⟨-,h | h⟩;exact b h;cases h),if_pos (.inr rfl)];exact cancel_B0 b1 b2 c1 c2 _ _ _ _ w hb1 hb2 hc1 hc2 rfl rfl a b c
   ·rw [if_pos ⟨a,.inr rfl⟩];exact cancel_A2 b1 b2 c1 c2 _ _ _ _ w hb1 hb2 hc1 hc2 rfl rfl a c
 ·rw [if_neg (fun h=>a h.1)]
  cases c1':com (rd b1 b2).1 (rd b1 b2).2
  ·rw [if_pos (.inl rfl)];exact cancel_B1 b1 b2 c1 c2 _ _ _ _ w hb1 hb2 hc1 hc2 rfl rfl a c1'
  ·cases c2':com (rd c1 c2).1 (rd c1 c2).2
   ·rw [if_pos (.inr rfl)];exact cancel_B2 b1 b2 c1 c2 _ _ _ _ w hb1 hb2 hc1 hc2 rfl rfl c1' c2'
   ·rw [if_neg (by simp)]
    by_cases d:fl (rd b1 b2).2 - fl (rd b1 b2).1<fl (rd c1 c2).2 - fl (rd c1 c2).1
    ·rw [if_pos d];exact cancel_C b1 b2 c1 c2 _ _ _ _ w hb1 hb2 hc1 hc2 rfl rfl c1' c2' d
    ·rw [if_neg d];exact cancel_D b1 b2 c1 c2 _ _ _ _ w hb1 hb2 hc1 hc2 rfl rfl c1' c2' d
end
theorem PF_np{b1 b2 s1:Int}{x1 x2:Rat}{i j:Int}(k:NumOk s1 x1 0 x2)(hb:Ne b1 b2)(hx:Ne i j)(h2:x2<0):(PF b1 b2 s1 x1 0 x2 i j).2<=0:=by
 have hM:=M_val;rw [<- po_PF k hb hx];unfold po
 split
 ·dsimp only;omega
 ·rename_i hb2
  have e:esx 0 x2<0:=by
   have:=esx_rng (s:=0) (x:=x2) (.inl rfl);have z:=@esx_zero 0 x2 (by simp);have p:=@esx_pos 0 x2 (.inl rfl)
   have nz:esx 0 x2≠0:=fun h=>by have:=(z.1 h).2;grind
   have np:¬ 0<esx 0 x2:=fun h=>by have:=(p h).2;grind
   omega
  have q:(pB 0 x2 b1 b2).2<=0:=by
   unfold pB;rw [if_pos (by omega)];unfold ov;rw [if_neg (by simp)]
   split
   ·exact Int.le_refl _
   ·dsimp only
    have c:x2 / fl b2<=0:=by
     have:=div_neg' h2 (fl_pos (show 0<b2 by omega))
     grind
    have:=rndI_mono (.inr rfl) c
    rwa [rndI_zero (.inr rfl)] at this
  unfold ctO
  split
  ·dsimp only;omega
  ·split
   ·dsimp only;omega
   ·dsimp only;omega
theorem PF_nn{b1 b2 s2:Int}{x1 x2:Rat}{i j:Int}(k:NumOk 0 x1 s2 x2)(hb:Ne b1 b2)(hx:Ne i j)(h1:0<x1):0<=(PF b1 b2 0 x1 s2 x2 i j).1:=by
 have hM:=M_val;rw [<- po_PF k hb hx];unfold po
 split
 ·dsimp only;omega
 ·rename_i hb2
  have e:0<esx 0 x1:=by
   have:=esx_rng (s:=0) (x:=x1) (.inl rfl);have z:=@esx_zero 0 x1 (by simp);have p:=@esx_lt 0 x1 (.inl rfl)
   have nz:esx 0 x1≠0:=fun h=>by have:=(z.1 h).2;grind
   have np:¬ esx 0 x1<0:=fun h=>by have:=(p h).2;grind
   omega
  have q:0<=(pA 0 x1 b1 b2).1:=by
   unfold pA;rw [if_pos (by omega)];unfold ov;rw [if_neg (by simp)]
   split
   ·exact Int.le_refl _
   ·dsimp only
    have c:0<=x1 / fl b2:=by
     have:=div_pos' h1 (fl_pos (show 0<b2 by omega))
     grind
    have:=rndI_mono (.inl rfl) c
    rwa [rndI_zero (.inl rfl)] at this
  unfold ctO
  split
  ·dsimp only;omega
  ·split
   ·dsimp only;omega
   ·dsimp only;omega
theorem In.fl_self{i j k:Int}(h0:-(M:Int)<k)(h1:k<M)(a:i<=k)(b:k<=j):In i j (fl k):=by
 unfold In;rw [rndI_fl (.inl rfl) h0 h1,rndI_fl (.inr rfl) h0 h1]
 exact⟨a,b⟩
theorem Ne.some{i j:Int}(n:Ne i j):∃ y,In i j y:=by
 have hM:=M_val;unfold Ne at n
 by_cases h:i=-(M:Int)
 ·by_cases h':j=M
  ·exact⟨fl 0,In.fl_self (by omega) (by omega) (by omega) (by omega)⟩
  ·exact⟨fl j,In.fl_self (by omega) (by omega) (by omega) (by omega)⟩
 ·exact⟨fl i,In.fl_self (by omega) (by omega) (by omega) (by omega)⟩
theorem PF_some{b1 b2 i2 j2:Int}(hb:Ne b1 b2)(h2:Ne i2 j2)(h0:b1<=0)(h1:0<b2):(PF b1 b2 (es i2) (ex i2) (es j2) (ex j2) (-(M:Int)) M).1<=(PF b1 b2 (es i2) (ex i2) (es j2) (ex j2) (-(M:Int)) M).2:=by
 have hM:=M_val;have k:=numok_idx h2;obtain⟨y,hy⟩:=h2.some;have q0:=fl_pos (show (0:Int)<1 by omega);have hbr:=hb;unfold Ne at hbr h2;have hq:In b1 b2 (fl 1):=In.fl_self (by omega) (by omega) (by omega) (by omega)
 have e:y / fl 1*fl 1=y:=by rw [Rat.div_mul_cancel];grind
 refine (PF_in (v:=y / fl 1) k (by omega) (by omega) (Int.le_refl _) (Int.le_refl _) hq q0 (In.whole _) (fun h=>?_) (fun h=>?_)).nonempty
 ·rw [e,ex_zero h];refine hy.lo ?_
  by_cases c:i2=-(M:Int)
  ·rw [c,es_min] at h;omega
  ·omega
 ·rw [e,ex_zero h];refine hy.hi ?_
  by_cases c:j2=M
  ·rw [c,es_max] at h;omega
  ·omega
theorem pair_ok{i1 j1 i2 j2:Int}(h1:Iv i1 j1)(h2:Iv i2 j2):
  min (prL i1 j1 i2 j2).1 (prU i1 j1 i2 j2).1=(mlr i1 j1 i2 j2 (-(M:Int)) M).1/\max (prL i1 j1 i2 j2).2 (prU i1 j1 i2 j2).2=(mlr i1 j1 i2 j2 (-(M:Int)) M).2 /\
  ((prL i1 j1 i2 j2).1<=(prL i1 j1 i2 j2).2->(prU i1 j1 i2 j2).1<=(prU i1 j1 i2 j2).2->(prL i1 j1 i2 j2).2<=0/\0<=(prU i1 j1 i2 j2).1)/\((prL i1 j1 i2 j2).2<(prL i1 j1 i2 j2).1->(prU i1 j1 i2 j2).2<(prU i1 j1 i2 j2).1):=by
 have hM:=M_val
 have hx:Ne (-(M:Int)) M:=by unfold Ne;omega
 have cl:=(Cl.mlr h1 h2).iv _ _ hx.iv
 by_cases hn:j1<i1\/j2<i2
 ·have e1:prL i1 j1 i2 j2=((M:Int),-(M:Int)):=by unfold prL;rw [if_pos hn]
  have e2:prU i1 j1 i2 j2=((M:Int),-(M:Int)):=by unfold prU;rw [if_pos hn]
  have e3:mlr i1 j1 i2 j2 (-(M:Int)) M=((M:Int),-(M:Int)):=by unfold mlr;rw [if_pos (by omega)]
  rw [e1,e2,e3]
  dsimp only
  omega
 ·by_cases hs:(i1<0/\0<j1)/\¬ (i2<=0/\0<=j2)
  ·have n1:=ne_or h1 (by omega);have n2:=ne_or h2 (by omega);have k:=numok_idx n2;have pp:=PF_some n1 n2 (by omega) (by omega);have pn:=PF_some n1.neg n2 (by omega) (by omega)
   have ePN:PN i1 j1 (es i2) (ex i2) (es j2) (ex j2) (-(M:Int)) M=(-(PF (-j1) (-i1) (es i2) (ex i2) (es j2) (ex j2) (-(M:Int)) M).2,-(PF (-j1) (-i1) (es i2) (ex i2) (es j2) (ex j2) (-(M:Int)) M).1):=by unfold PN;rw [Int.neg_neg]
   have ef:mlr i1 j1 i2 j2 (-(M:Int)) M=(min (PF i1 j1 (es i2) (ex i2) (es j2) (ex j2) (-(M:Int)) M).1 (-(PF (-j1) (-i1) (es i2) (ex i2) (es j2) (ex j2) (-(M:Int)) M).2),max (PF i1 j1 (es i2) (ex i2) (es j2) (ex j2) (-(M:Int)) M).2 (-(PF (-j1) (-i1) (es i2) (ex i2) (es j2) (ex j2) (-(M:Int)) M).1)):=by
    unfold mlr fa;rw [if_neg (by omega),if_neg,Int.neg_neg];rintro⟨-,a,b⟩;have a1:=esx_idx (i:=i2) h2.lo;have b1:=esx_idx (i:=j2) h2.hi
    omega
   have nn2:=n2;unfold Ne at nn2
   by_cases c:j2<0
   ·have e1:prL i1 j1 i2 j2=PF i1 j1 (es i2) (ex i2) (es j2) (ex j2) (-(M:Int)) M:=by unfold prL;rw [if_neg hn,if_pos hs,if_pos c]
    have e2:prU i1 j1 i2 j2=PN i1 j1 (es i2) (ex i2) (es j2) (ex j2) (-(M:Int)) M:=by unfold prU;rw [if_neg hn,if_pos hs,if_pos c]
    have s:es j2=0:=es_mid (by omega) (by omega)
    have x:ex j2<0:=by rw [ex_zero s];have:=fl_lt_iff.2 c;rwa [fl_zero] at this
    rw [s] at k e1 e2 ePN ef pp pn;have p1:=PF_np k n1 hx x;have p2:=PF_np k n1.neg hx x;rw [e1,e2,ef,ePN]
    dsimp only
    omega
   ·have e1:prL i1 j1 i2 j2=PN i1 j1 (es i2) (ex i2) (es j2) (ex j2) (-(M:Int)) M:=by unfold prL;rw [if_neg hn,if_pos hs,if_neg c]
    have e2:prU i1 j1 i2 j2=PF i1 j1 (es i2) (ex i2) (es j2) (ex j2) (-(M:Int)) M:=by unfold prU;rw [if_neg hn,if_pos hs,if_neg c]
    have s:es i2=0:=es_mid (by omega) (by omega)
    have x:0<ex i2:=by rw [ex_zero s];exact fl_pos (by omega)
    rw [s] at k e1 e2 ePN ef pp pn;have p1:=PF_nn k n1 hx x;have p2:=PF_nn k n1.neg hx x;rw [e1,e2,ef,ePN]
    dsimp only
    omega
  ·have e1:prL i1 j1 i2 j2=mlr i1 j1 i2 j2 (-(M:Int)) M:=by unfold prL;rw [if_neg hn,if_neg hs]
   have e2:prU i1 j1 i2 j2=((M:Int),-(M:Int)):=by unfold prU;rw [if_neg hn,if_neg hs]
   have a:=cl.lo;have b:=cl.hi;rw [e1,e2]
   dsimp only
   omega
theorem ad_mid{d i j:Int}(hi:-(M:Int)<i/\i<M)(hj:-(M:Int)<j/\j<M):ad d i (-j)=rndI d (fl i - fl j):=by
 unfold ad;rw [if_neg (by omega),if_neg (by omega),fl_neg]
 congr 1
 grind
def av(i1 j1 i2 j2:Int):Int × Int:=if j1<i1\/j2<i2 then ((M:Int),-(M:Int)) else (ad (-1) i1 i2,ad 1 j1 j2)
theorem cancel_ok{i1 j1 i2 j2:Int}(h1:Iv i1 j1)(h2:Iv i2 j2)(n1:¬ j1<i1)(n2:¬ j2<i2):
  ¬ (cmf i1 j1 i2 j2).2<(cmf i1 j1 i2 j2).1/\Iv (cmf i1 j1 i2 j2).1 (cmf i1 j1 i2 j2).2/\ad (-1) i2 (cmf i1 j1 i2 j2).1<=i1/\j1<=ad 1 j2 (cmf i1 j1 i2 j2).2:=by
 have hM:=M_val;have m1:=ne_or h1 n1;have m2:=ne_or h2 n2;unfold Ne at m1 m2
 have ent:∀ p q:Int,(p,q)=(-(M:Int),(M:Int))->¬ q<p/\Iv p q/\ad (-1) i2 p<=i1/\j1<=ad 1 j2 q:=fun p q e=>by
  obtain⟨rfl,rfl⟩:=Prod.mk.inj e;refine⟨by omega,by unfold Iv;omega,?_,?_⟩
  ·unfold ad;split
   ·omega
   ·rw [if_pos (.inr rfl)];omega
  ·unfold ad;split
   ·omega
   ·rw [if_pos (.inl rfl)];omega
 unfold cmf;rw [if_neg (by omega)]
 by_cases c:com i1 j1=false\/com i2 j2=false
 ·rw [if_pos c];exact ent _ _ rfl
 ·rw [if_neg c]
  by_cases w:fl j1 - fl i1<fl j2 - fl i2
  ·rw [if_pos w];exact ent _ _ rfl
  ·rw [if_neg w]
   have c1:com i1 j1=true:=by cases h:com i1 j1;exact absurd (.inl h) c;rfl
   have c2:com i2 j2=true:=by cases h:com i2 j2;exact absurd (.inr h) c;rfl
   unfold com at c1 c2
   simp only [Bool.and_eq_true,decide_eq_true_eq] at c1 c2
   dsimp only
   rw [ad_mid (d:=-1) (by omega) (by omega),ad_mid (d:=1) (by omega) (by omega)];have lo:=rndI_down (fl i1 - fl i2);have hi:=rndI_up (fl j1 - fl j2);have o:rndI (-1) (fl i1 - fl i2)<=rndI 1 (fl j1 - fl j2):=Int.le_trans (rndI_mono (.inl rfl) (by grind)) (rndI_le _);refine⟨by omega,by unfold Iv;omega,?_,?_⟩
   ·generalize rndI (-1) (fl i1 - fl i2)=p at *;unfold ad;rw [if_neg (by omega)]
    by_cases hp:p=-(M:Int)
    ·rw [if_pos (.inr hp)];omega
    ·rw [if_neg (by omega)];have f:=(lo.2.2 p (by omega) (by omega)).1 (Int.le_refl _);have:=rndI_mono (d:=-1) (.inl rfl) (x:=fl i2+fl p) (y:=fl i1) (by grind)
     rwa [rndI_fl (.inl rfl) (by omega) (by omega)] at this
   ·generalize rndI 1 (fl j1 - fl j2)=p at *;unfold ad;rw [if_neg (by omega)]
    by_cases hp:p=M
    ·rw [if_pos (.inl hp)];omega
    ·rw [if_neg (by omega)];have f:=(hi.2.2 p (by omega) (by omega)).1 (Int.le_refl _);have:=rndI_mono (d:=1) (.inr rfl) (x:=fl j1) (y:=fl j2+fl p) (by grind)
     rwa [rndI_fl (.inr rfl) (by omega) (by omega)] at this
section
open Go.RowKit
attribute [local go_sem] run_store_float
set_option maxRecDepth 8000 in
theorem subset_none1(u1 u2 v1 v2 p1 p2 q1 q2:Nat)(w:World)(hB:∀ W,Rt 138 #[Zf u1 u2,Zf v1 v2] (.tuple #[Zf p1 p2,Zf q1 q2,.int .i64 1]) W):Rt 66 #[Zf u1 u2,Zf v1 v2] (.bool true) w:=by
 have ok:bits .and .i64 1 1=1:=by decide
 have HB:=Hd hB;clear hB;have LL:=li2 w (Zv u1 u2) 28 (Zv v1 v2) 28
 go_enter Tryz.func66,Tryz.ntmps66
 obtain⟨q1_0,q1_1⟩:=(LL.out.blk 0 rfl).c2;obtain⟨q2_0,q2_1⟩:=(LL.out.blk 1 rfl).c2;go_wp2_with fail;refine cx (HB.out _) fun wk hb=>?_;replace LL:=stL LL hb;clear hb q1_0 q1_1 q2_0 q2_1;obtain⟨q3_0,q3_1⟩:=(LL.out.blk 0 rfl).c2;obtain⟨q4_0,q4_1⟩:=(LL.out.blk 1 rfl).c2;have fz20:=(LL.out.blk 0 rfl).frozen 0;have fz21:=(LL.out.blk 0 rfl).frozen 1;have fz30:=(LL.out.blk 1 rfl).frozen 0;have fz31:=(LL.out.blk 1 rfl).frozen 1
 go_upto_region 2 with fail
 clear q3_0 q3_1 q4_0 q4_1 fz20 fz21 fz30 fz31;replace LL:=Hd (LL.out.part 0 rfl 0 [.float .f64 p1,.float .f64 p2] (by omega) (by simp<;>omega) (by simp<;>omega))
 simp only [List.eraseIdx,laid,List.cons_append,List.nil_append,List.setIfInBounds_toArray,List.set_cons_zero,List.set_cons_succ,Nat.zero_add,Nat.reduceAdd] at LL
 replace LL:=Hd (LL.out.part 0 rfl 0 [.float .f64 q1,.float .f64 q2] (by omega) (by simp<;>omega) (by simp<;>omega))
 simp only [List.eraseIdx,laid,List.cons_append,List.nil_append,List.setIfInBounds_toArray,List.set_cons_zero,List.set_cons_succ,Nat.zero_add,Nat.reduceAdd] at LL
 obtain⟨wn,hwn⟩:∃ X,(sets (sets wk w.heap.size 0 [.float .f64 p1,.float .f64 p2]) (w.heap.size+1) 0 [.float .f64 q1,.float .f64 q2])=X:=⟨_,rfl⟩
 rw [hwn] at LL
 simp only [sets,Nat.reduceAdd] at hwn
 rw [hwn];clear hwn;obtain⟨q5_0,q5_1⟩:=(LL.out.blk 0 rfl).c2;obtain⟨q6_0,q6_1⟩:=(LL.out.blk 1 rfl).c2;go_wp2
 go_ret
 exact⟨rfl,LL.out.b⟩
set_option maxRecDepth 8000 in
theorem subset_none3(u1 u2 v1 v2 p1 p2 q1 q2:Nat)(w:World)(hB:∀ W,Rt 138 #[Zf u1 u2,Zf v1 v2] (.tuple #[Zf p1 p2,Zf q1 q2,.int .i64 3]) W):Rt 66 #[Zf u1 u2,Zf v1 v2] (.bool true) w:=by
 have ok:bits .and .i64 3 1=1:=by decide
 have HB:=Hd hB;clear hB;have LL:=li2 w (Zv u1 u2) 28 (Zv v1 v2) 28
 go_enter Tryz.func66,Tryz.ntmps66
 obtain⟨q1_0,q1_1⟩:=(LL.out.blk 0 rfl).c2;obtain⟨q2_0,q2_1⟩:=(LL.out.blk 1 rfl).c2;go_wp2_with fail;refine cx (HB.out _) fun wk hb=>?_;replace LL:=stL LL hb;clear hb q1_0 q1_1 q2_0 q2_1;obtain⟨q3_0,q3_1⟩:=(LL.out.blk 0 rfl).c2;obtain⟨q4_0,q4_1⟩:=(LL.out.blk 1 rfl).c2;have fz20:=(LL.out.blk 0 rfl).frozen 0;have fz21:=(LL.out.blk 0 rfl).frozen 1;have fz30:=(LL.out.blk 1 rfl).frozen 0;have fz31:=(LL.out.blk 1 rfl).frozen 1
 go_upto_region 2 with fail
 clear q3_0 q3_1 q4_0 q4_1 fz20 fz21 fz30 fz31;replace LL:=Hd (LL.out.part 0 rfl 0 [.float .f64 p1,.float .f64 p2] (by omega) (by simp<;>omega) (by simp<;>omega))
 simp only [List.eraseIdx,laid,List.cons_append,List.nil_append,List.setIfInBounds_toArray,List.set_cons_zero,List.set_cons_succ,Nat.zero_add,Nat.reduceAdd] at LL
 replace LL:=Hd (LL.out.part 0 rfl 0 [.float .f64 q1,.float .f64 q2] (by omega) (by simp<;>omega) (by simp<;>omega))
 simp only [List.eraseIdx,laid,List.cons_append,List.nil_append,List.setIfInBounds_toArray,List.set_cons_zero,List.set_cons_succ,Nat.zero_add,Nat.reduceAdd] at LL
 obtain⟨wn,hwn⟩:∃ X,(sets (sets wk w.heap.size 0 [.float .f64 p1,.float .f64 p2]) (w.heap.size+1) 0 [.float .f64 q1,.float .f64 q2])=X:=⟨_,rfl⟩
 rw [hwn] at LL
 simp only [sets,Nat.reduceAdd] at hwn
 rw [hwn];clear hwn;obtain⟨q5_0,q5_1⟩:=(LL.out.blk 0 rfl).c2;obtain⟨q6_0,q6_1⟩:=(LL.out.blk 1 rfl).c2;go_wp2
 go_ret
 exact⟨rfl,LL.out.b⟩
set_option maxRecDepth 8000 in
theorem subset_some(u1 u2 v1 v2 p1 p2 q1 q2:Nat)(o1 o2:Ordering)(w:World)(hB:∀ W,Rt 138 #[Zf u1 u2,Zf v1 v2] (.tuple #[Zf p1 p2,Zf q1 q2,.int .i64 0]) W)(h1:FloatKind.f64.format.order q1 p1=some o1)(h2:FloatKind.f64.format.order p2 q2=some o2)(k1:o1=.lt\/o1=.eq)(k2:o2=.lt\/o2=.eq):Rt 66 #[Zf u1 u2,Zf v1 v2] (.bool true) w:=by
 have ok:bits .and .i64 0 1=0:=by decide
 have HB:=Hd hB;clear hB
 rcases k1 with rfl | rfl<;>rcases k2 with rfl | rfl
 all_goals
  have LL:=li2 w (Zv u1 u2) 28 (Zv v1 v2) 28
  go_enter Tryz.func66,Tryz.ntmps66
  obtain⟨q1_0,q1_1⟩:=(LL.out.blk 0 rfl).c2;obtain⟨q2_0,q2_1⟩:=(LL.out.blk 1 rfl).c2;go_wp2_with fail;refine cx (HB.out _) fun wk hb=>?_;replace LL:=stL LL hb;clear hb q1_0 q1_1 q2_0 q2_1;obtain⟨q3_0,q3_1⟩:=(LL.out.blk 0 rfl).c2;obtain⟨q4_0,q4_1⟩:=(LL.out.blk 1 rfl).c2;have fz20:=(LL.out.blk 0 rfl).frozen 0;have fz21:=(LL.out.blk 0 rfl).frozen 1;have fz30:=(LL.out.blk 1 rfl).frozen 0;have fz31:=(LL.out.blk 1 rfl).frozen 1
  go_upto_region 2 with fail
  clear q3_0 q3_1 q4_0 q4_1 fz20 fz21 fz30 fz31;replace LL:=Hd (LL.out.part 0 rfl 0 [.float .f64 p1,.float .f64 p2] (by omega) (by simp<;>omega) (by simp<;>omega))
  simp only [List.eraseIdx,laid,List.cons_append,List.nil_append,List.setIfInBounds_toArray,List.set_cons_zero,List.set_cons_succ,Nat.zero_add,Nat.reduceAdd] at LL
  replace LL:=Hd (LL.out.part 0 rfl 0 [.float .f64 q1,.float .f64 q2] (by omega) (by simp<;>omega) (by simp<;>omega))
  simp only [List.eraseIdx,laid,List.cons_append,List.nil_append,List.setIfInBounds_toArray,List.set_cons_zero,List.set_cons_succ,Nat.zero_add,Nat.reduceAdd] at LL
  obtain⟨wn,hwn⟩:∃ X,(sets (sets wk w.heap.size 0 [.float .f64 p1,.float .f64 p2]) (w.heap.size+1) 0 [.float .f64 q1,.float .f64 q2])=X:=⟨_,rfl⟩
  rw [hwn] at LL
  simp only [sets,Nat.reduceAdd] at hwn
  rw [hwn];clear hwn;obtain⟨q5_0,q5_1⟩:=(LL.out.blk 0 rfl).c2;obtain⟨q6_0,q6_1⟩:=(LL.out.blk 1 rfl).c2;go_wp2
  go_ret
  exact⟨rfl,LL.out.b⟩
theorem subset_in(a1 a2 x1 x2:Nat)(w:World)(ha1:a1<18446744073709551616)(ha2:a2<18446744073709551616)(hx1:x1<18446744073709551616)(hx2:x2<18446744073709551616)(hs:(rd x1 x2).1<=(rd a1 a2).1)(ht:(rd a1 a2).2<=(rd x1 x2).2):
  Rt 66 #[Zf a1 a2,Zf x1 x2] (.bool true) w:=by
 have hM:=M_val;have v1:=rd_iv a1 a2;have v2:=rd_iv x1 x2;have t1:=fun W=>readf a1 a2 W ha1 ha2;have t2:=fun W=>readf x1 x2 W hx1 hx2;have m1:=em_idx v1;have m2:=em_idx v2;have B:=fun W=>both_gen a1 a2 x1 x2 _ _ _ _ _ _ W t1 t2 m1 m2
 by_cases c1:(rd a1 a2).2<(rd a1 a2).1
 ·rw [decide_eq_true c1] at B
  by_cases c2:(rd x1 x2).2<(rd x1 x2).1
  ·rw [decide_eq_true c2] at B
   exact subset_none3 _ _ _ _ _ _ _ _ w B
  ·rw [decide_eq_false c2] at B
   exact subset_none1 _ _ _ _ _ _ _ _ w B
 ·rw [decide_eq_false c1,decide_eq_false (show ¬ (rd x1 x2).2<(rd x1 x2).1 by omega)] at B;refine subset_some _ _ _ _ _ _ _ _ _ _ w B (order_pat v2.lo.1 v2.lo.2 v1.lo.1 v1.lo.2) (order_pat v1.hi.1 v1.hi.2 v2.hi.1 v2.hi.2) ?_ ?_
  ·rcases Int.lt_or_eq_of_le hs with h | h
   ·exact .inl (Int.compare_eq_lt.2 h)
   ·exact .inr (Int.compare_eq_eq.2 h)
  ·rcases Int.lt_or_eq_of_le ht with h | h
   ·exact .inl (Int.compare_eq_lt.2 h)
   ·exact .inr (Int.compare_eq_eq.2 h)
end
section
open Go.RowKit
attribute [local go_sem] run_store_float run_eqf
set_option maxRecDepth 8000 in
theorem iadd_walk(u1 u2 v1 v2 p1 p2 q1 q2 r1 r2:Nat)(a b:Bool)(w:World)(hx:∀ W,Rt 102 #[Zf u1 u2] (Zf p1 p2) W)(hy:∀ W,Rt 102 #[Zf v1 v2] (Zf q1 q2) W)(h1:∀ W,Rt 116 #[Zf p1 p2] (.bool a) W)(h2:a=false->∀ W,Rt 116 #[Zf q1 q2] (.bool b) W)(hee:(a || b)=true->r1=9218868437227405312/\r2=18442240474082181120)
  (h3:(a || b)=false->∀ W,Rt 139 #[.int .i64 (-1),.float .f64 p1,.float .f64 q1] (.float .f64 r1) W)(h4:(a || b)=false->∀ W,Rt 139 #[.int .i64 1,.float .f64 p2,.float .f64 q2] (.float .f64 r2) W):
  Rt 67 #[Zf u1 u2,Zf v1 v2] (Zf r1 r2) w:=by
 have HE:=Hd emptyf;have HX:=Hd hx;have HY:=Hd hy;have H1:=Hd h1;have H2:=Hd h2;have H3:=Hd h3;have H4:=Hd h4;have HEE:=Hd hee;clear hx hy h1 h2 h3 h4 hee;have LL:=li3 w (Zv u1 u2) 28 (Zv v1 v2) 28 (Zv 0 0) 28
 go_enter Tryz.func67,Tryz.ntmps67
 have PB2:=Hd (LL.out.blk 0 rfl);have PB3:=Hd (LL.out.blk 1 rfl)
 go_upto_region 1 with fail
 go_cut [] (fun wx=>Lies w wx [((w.heap.size+2),28,(Zv 0 0)),((w.heap.size+1),28,(Zv q1 q2)),(w.heap.size,28,(Zv p1 p2))] [])
 case first=>
  replace LL:=Hd (LL.out.loose0 rfl);replace LL:=Hd (LL.out.loose0 rfl);refine regL LL (fun hHeld=>?_);clear LL;replace PB2:=Hd PB2.out.drew;replace PB3:=Hd PB3.out.drew;generalize World.drew _=wk at hHeld PB2 PB3 ⊢
  repeat' first
   | (have hx:=hR0;clear hx;have BXo:=PB2.out;obtain⟨qr0,qr1⟩:=BXo.c2;go_simp;refine hR0.out _ _ hHeld (fun _=>?_);clear hR0 KK hHeld BXo qr0 qr1;rename_i hHeld;(try simp only [Act.put,lay]);have mk0:=True.intro)
   | (have hx:=hC1;clear hx;go_simp;refine (HX.out _).mono ?_;rintro e wk ⟨rfl,hb1⟩;go_wp2_with fail;refine hC1.out _ _ (hHeld.keep hb1) (fun _=>?_);clear hC1 KK hHeld;rename_i hHeld;(try simp only [Act.put,lay]);(try replace PB2:=Hd (PB2.out.keep hb1));(try replace PB3:=Hd (PB3.out.keep hb1));clear hb1;have mk1:=True.intro)
   | (have hx:=hR2;clear hx;have BXo:=PB3.out;obtain⟨qr0,qr1⟩:=BXo.c2;go_simp;refine hR2.out _ _ hHeld (fun _=>?_);clear hR2 KK hHeld BXo qr0 qr1;rename_i hHeld;(try simp only [Act.put,lay]);have mk2:=True.intro)
   | (have hx:=hC3;clear hx;go_simp;refine (HY.out _).mono ?_;rintro e wk ⟨rfl,hb2⟩;go_wp2_with fail;refine hC3.out _ _ (hHeld.keep hb2) (fun _=>?_);clear hC3 KK hHeld;rename_i hHeld;(try simp only [Act.put,lay]);(try replace PB2:=Hd (PB2.out.keep hb2));(try replace PB3:=Hd (PB3.out.keep hb2));clear hb2;have mk3:=True.intro)
   | (have hx:=hS4;clear hx;obtain⟨ha0,hf0,ha1,hf1⟩:=(hHeld.has 1 rfl).sf2;obtain⟨csx,hbx,-,hcx⟩:=hHeld.has 1 rfl;(try clear PB2);(try clear PB3);clear hbx hcx;go_simp;have HS_1:=(hHeld.has 1 rfl).laid [.float .f64 p1,.float .f64 p2] rfl;refine hS4.out _ _ (hHeld.over 1 rfl [.float .f64 p1,.float .f64 p2] rfl rfl (by first | omega | exact hHeld.le_of 1 rfl) (by simp<;>omega) (by simp<;>omega)) (fun _=>?_);clear hS4 KK hHeld;rename_i hHeld;(try simp only [Act.put,lay]);(try replace HS_0:=HS_0.other (r:=w.heap.size) (by omega) 0 [.float .f64 p1,.float .f64 p2]);replace hHeld:=(show Lies _ (sets wk w.heap.size 0 [.float .f64 p1,.float .f64 p2]) _ _ from hHeld);obtain⟨wk,hwn⟩:∃ X,sets wk w.heap.size 0 [.float .f64 p1,.float .f64 p2]=X:=⟨_,rfl⟩;rw [hwn] at hHeld HS_1;(try rw [hwn] at HS_0);simp only [sets] at hwn;rw [hwn];clear hwn ha0 hf0 ha1 hf1;have mk4:=True.intro)
   | (have hx:=hS5;clear hx;obtain⟨ha0,hf0,ha1,hf1⟩:=(hHeld.has 0 rfl).sf2;obtain⟨csx,hbx,-,hcx⟩:=hHeld.has 0 rfl;(try clear PB2);(try clear PB3);clear hbx hcx;go_simp;have HS_0:=(hHeld.has 0 rfl).laid [.float .f64 q1,.float .f64 q2] rfl;refine hS5.out _ _ (hHeld.over 0 rfl [.float .f64 q1,.float .f64 q2] rfl rfl (by first | omega | exact hHeld.le_of 0 rfl) (by simp<;>omega) (by simp<;>omega)) (fun _=>?_);clear hS5 KK hHeld;rename_i hHeld;(try simp only [Act.put,lay]);(try replace HS_1:=HS_1.other (r:=(w.heap.size+1)) (by omega) 0 [.float .f64 q1,.float .f64 q2]);replace hHeld:=(show Lies _ (sets wk (w.heap.size+1) 0 [.float .f64 q1,.float .f64 q2]) _ _ from hHeld);obtain⟨wk,hwn⟩:∃ X,sets wk (w.heap.size+1) 0 [.float .f64 q1,.float .f64 q2]=X:=⟨_,rfl⟩;rw [hwn] at hHeld HS_0;(try rw [hwn] at HS_1);simp only [sets] at hwn;rw [hwn];clear hwn ha0 hf0 ha1 hf1;have mk5:=True.intro)
   | (have hx:=mk0;have hx:=mk1;have hx:=mk2;have hx:=mk3;have hx:=mk4;have hx:=mk5;refine wpAnyH_done (by kernel_rfl) ?_ _;clear hx mk0 mk1 mk2 mk3 mk4 mk5;go_wp2_with fail;go_meet;exact (hHeld.tight HS_0).tight HS_1)
   | (have hx:=mk0;have hx:=mk1;have hx:=mk2;have hx:=mk3;have hx:=mk4;refine rdy 5 (fun KK hS5=>?_))
   | (have hx:=mk0;have hx:=mk1;have hx:=mk2;have hx:=mk3;refine rdy 4 (fun KK hS4=>?_))
   | (have hx:=mk0;have hx:=mk1;have hx:=mk2;refine rdy 3 (fun KK hC3=>?_))
   | (have hx:=mk0;have hx:=mk2;refine rdy 1 (fun KK hC1=>?_))
   | (have hx:=mk0;have hx:=mk1;refine rdy 2 (fun KK hR2=>?_))
   | (have hx:=mk2;refine rdy 0 (fun KK hR0=>?_))
   | (have hx:=mk0;refine rd2 1 2 (fun KK hC1=>?_) (fun KK hR2=>?_))
   | (refine rd2 0 2 (fun KK hR0=>?_) (fun KK hR2=>?_))
 case rest=>
 have hcl:=hcut;rename World=>wx;clear hcut LL HX HY PB2 PB3;have LL:=Hd hcl;clear hcl;obtain⟨q1_0,q1_1⟩:=(LL.out.blk 2 rfl).c2;go_wp2_with fail;refine cx (H1.out _) fun wk hb=>?_;replace LL:=stL LL hb;clear hb q1_0 q1_1 H1
 cases a
 case false=>
  have HQ:=Hd (H2.out rfl);clear H2;obtain⟨q2_0,q2_1⟩:=(LL.out.blk 1 rfl).c2;go_wp2_with fail;refine cx (HQ.out _) fun wk hb=>?_;replace LL:=stL LL hb;clear hb q2_0 q2_1 HQ
  cases b
  case false=>
   have H5:=Hd (H3.out rfl);have H6:=Hd (H4.out rfl);clear H3 H4
   go_upto_region 4 with fail
   replace LL:=Hd (LL.out.loose0 rfl);refine regL LL (fun hHeld=>?_);clear LL;generalize World.drew _=wk at hHeld  ⊢;refine tks 0 ?_;refine tkb 1 (fun _ h=>(h.blk 1 rfl).c2) ?_;refine tks 2 ?_;refine tkb 3 (fun _ h=>(h.blk 0 rfl).c2) ?_;refine tks 5 ?_;refine tkb 6 (fun _ h=>(h.blk 1 rfl).c2) ?_;refine tks 7 ?_;refine tkb 8 (fun _ h=>(h.blk 0 rfl).c2) ?_;refine rdy 4 fun KK hKK=>?_;go_simp;refine cs (H5.out _) ?_;clear hKK KK hHeld;intro wk hb1 hHeld;clear hb1;refine rdy 9 fun KK hKK=>?_;go_simp;refine cs (H6.out _) ?_;clear hKK KK hHeld;intro wk hb2 hHeld;clear hb2;refine tks 10 ?_;refine rdy 11 fun KK hKK=>?_;obtain⟨ha0,hf0,ha1,hf1⟩:=(hHeld.has 0 rfl).sf2;go_simp;have HS_0:=(hHeld.has 0 rfl).laid [.float .f64 r1,.float .f64 r2] rfl;refine hKK.out _ _ (hHeld.over 0 rfl [.float .f64 r1,.float .f64 r2] rfl rfl (by first | omega | exact hHeld.le_of 0 rfl) (by simp<;>omega) (by simp<;>omega)) (fun _=>?_);clear hKK KK hHeld;rename_i hHeld;(try simp only [Act.put,lay]);refine wpAnyH_done (by kernel_rfl) ?_ _;have LB:=Hd hHeld.b;clear hHeld;obtain⟨hk4_0,hk4_1⟩:=HS_0.c2;clear HS_0
   simp [sets] at hk4_0 hk4_1
   go_wp2;refine bodyPost_ret (v:=Zf r1 r2) (by simp [results,Tryz.results67,go_sem,hk4_0,hk4_1]) rfl ?_
   exact⟨rfl,LB.out⟩
  case true=>
   obtain⟨rfl,rfl⟩:=HEE.out rfl;go_wp2_with fail;refine cx (HE.out _) fun wk hb=>?_;replace LL:=stL LL hb;clear hb;replace LL:=Hd (LL.out.loose0 rfl);obtain⟨ha4_0,hf4_0,ha4_1,hf4_1⟩:=(LL.out.has 0 rfl).sf2;have LF:=Hd (LL.out.wr [.float .f64 9218868437227405312,.float .f64 18442240474082181120]);obtain⟨hk4_0,hk4_1⟩:=(LF.out.blk 2 rfl).c2
   simp [sets] at hk4_0 hk4_1
   clear LL;go_wp2;refine bodyPost_ret (v:=Zf 9218868437227405312 18442240474082181120) (by simp [results,Tryz.results67,go_sem,hk4_0,hk4_1]) rfl ?_
   exact⟨rfl,LF.out.b⟩
 case true=>
  obtain⟨rfl,rfl⟩:=HEE.out rfl;go_wp2_with fail;refine cx (HE.out _) fun wk hb=>?_;replace LL:=stL LL hb;clear hb;replace LL:=Hd (LL.out.loose0 rfl);obtain⟨ha4_0,hf4_0,ha4_1,hf4_1⟩:=(LL.out.has 0 rfl).sf2;have LF:=Hd (LL.out.wr [.float .f64 9218868437227405312,.float .f64 18442240474082181120]);obtain⟨hk4_0,hk4_1⟩:=(LF.out.blk 2 rfl).c2
  simp [sets] at hk4_0 hk4_1
  clear LL;go_wp2;refine bodyPost_ret (v:=Zf 9218868437227405312 18442240474082181120) (by simp [results,Tryz.results67,go_sem,hk4_0,hk4_1]) rfl ?_
  exact⟨rfl,LF.out.b⟩
theorem iadd_any(b1 b2 c1 c2:Nat)(w:World)(hb1:b1<18446744073709551616)(hb2:b2<18446744073709551616)(hc1:c1<18446744073709551616)(hc2:c2<18446744073709551616):
  Rt 67 #[Zf b1 b2,Zf c1 c2] (Zf (pat (av (rd b1 b2).1 (rd b1 b2).2 (rd c1 c2).1 (rd c1 c2).2).1) (pat (av (rd b1 b2).1 (rd b1 b2).2 (rd c1 c2).1 (rd c1 c2).2).2)) w:=by
 have hM:=M_val;have v1:=rd_iv b1 b2;have v2:=rd_iv c1 c2;have t1:=fun W=>readf b1 b2 W hb1 hb2;have t2:=fun W=>readf c1 c2 W hc1 hc2
 obtain⟨⟨i1,j1⟩,r1⟩:∃ z,rd b1 b2=z:=⟨_,rfl⟩
 obtain⟨⟨i2,j2⟩,r2⟩:∃ z,rd c1 c2=z:=⟨_,rfl⟩
 rw [r1] at v1 t1;rw [r2] at v2 t2;rw [r1,r2]
 dsimp only at *
 have E1:=fun W=>emptyq i1 j1 W v1.lo v1.hi;have E2:=fun W=>emptyq i2 j2 W v2.lo v2.hi;refine iadd_walk _ _ _ _ _ _ _ _ _ _ _ _ w t1 t2 E1 (fun _=>E2) (fun h=>?_) (fun h W=>?_) (fun h W=>?_)
 ·simp only [Bool.or_eq_true,decide_eq_true_eq] at h
  unfold av;rw [if_pos h]
  exact⟨pat_max,pat_min⟩
 all_goals
  simp only [Bool.or_eq_false_iff,decide_eq_false_iff_not] at h
  have n1:=ne_or v1 h.1;have n2:=ne_or v2 h.2;unfold av;rw [if_neg (by omega)];unfold Ne at n1 n2
 ·exact radd_pat (-1) i1 i2 W (.inl rfl) v1.lo v2.lo (by unfold NoCl;omega)
 ·exact radd_pat 1 j1 j2 W (.inr rfl) v1.hi v2.hi (by unfold NoCl;omega)
set_option maxRecDepth 8000 in
theorem isempty_walk(u1 u2 p1 p2:Nat)(o1 o2:Ordering)(r:Bool)(w:World)(hx:∀ W,Rt 102 #[Zf u1 u2] (Zf p1 p2) W)(h1:FloatKind.f64.format.order p1 9218868437227405312=some o1)(h2:FloatKind.f64.format.order p2 18442240474082181120=some o2)(ho:(r=true/\o1=.eq/\o2=.eq)\/(r=false/\o1=.lt/\o2=.gt)):
  Rt 65 #[Zf u1 u2] (.bool r) w:=by
 have HE:=Hd emptyf;have HX:=Hd hx;clear hx;have LL:=li1 w (Zv u1 u2) 28
 go_enter Tryz.func65,Tryz.ntmps65
 obtain⟨q1_0,q1_1⟩:=(LL.out.blk 0 rfl).c2;go_wp2_with fail;refine cx (HX.out _) fun wk hb=>?_;replace LL:=stL LL hb;clear hb q1_0 q1_1 HX;go_wp2_with fail;refine cx (HE.out _) fun wk hb=>?_;replace LL:=stL LL hb;clear hb HE
 rcases ho with ⟨rfl,rfl,rfl⟩ | ⟨rfl,rfl,rfl⟩
 all_goals
  go_wp2
  go_ret
  exact⟨rfl,LL.out.b⟩
theorem isempty_any(b1 b2:Nat)(w:World)(hb1:b1<18446744073709551616)(hb2:b2<18446744073709551616):
  Rt 65 #[Zf b1 b2] (.bool (decide ((rd b1 b2).2<(rd b1 b2).1))) w:=by
 have hM:=M_val;have v1:=rd_iv b1 b2;have t1:=fun W=>readf b1 b2 W hb1 hb2
 obtain⟨⟨i1,j1⟩,r1⟩:∃ z,rd b1 b2=z:=⟨_,rfl⟩
 rw [r1] at v1 t1;rw [r1]
 dsimp only at *
 have zM:-(M:Int)<=M/\(M:Int)<=M:=by omega
 have zm:-(M:Int)<=-(M:Int)/\-(M:Int)<=M:=by omega
 have o1:=order_pat v1.lo.1 v1.lo.2 zM.1 zM.2;have o2:=order_pat v1.hi.1 v1.hi.2 zm.1 zm.2;rw [pat_max] at o1;rw [pat_min] at o2;refine isempty_walk _ _ _ _ _ _ _ w t1 o1 o2 ?_
 rcases v1 with v | ⟨rfl,rfl⟩
 ·exact .inr ⟨decide_eq_false (by omega),Int.compare_eq_lt.2 (by omega),Int.compare_eq_gt.2 (by omega)⟩
 ·exact .inl ⟨decide_eq_true (by omega),Int.compare_eq_eq.2 rfl,Int.compare_eq_eq.2 rfl⟩
set_option maxRecDepth 8000 in
theorem subset_none2(u1 u2 v1 v2 p1 p2 q1 q2:Nat)(w:World)(hB:∀ W,Rt 138 #[Zf u1 u2,Zf v1 v2] (.tuple #[Zf p1 p2,Zf q1 q2,.int .i64 2]) W):Rt 66 #[Zf u1 u2,Zf v1 v2] (.bool false) w:=by
 have ok:bits .and .i64 2 1=0:=by decide
 have HB:=Hd hB;clear hB;have LL:=li2 w (Zv u1 u2) 28 (Zv v1 v2) 28
 go_enter Tryz.func66,Tryz.ntmps66
 obtain⟨q1_0,q1_1⟩:=(LL.out.blk 0 rfl).c2;obtain⟨q2_0,q2_1⟩:=(LL.out.blk 1 rfl).c2;go_wp2_with fail;refine cx (HB.out _) fun wk hb=>?_;replace LL:=stL LL hb;clear hb q1_0 q1_1 q2_0 q2_1;obtain⟨q3_0,q3_1⟩:=(LL.out.blk 0 rfl).c2;obtain⟨q4_0,q4_1⟩:=(LL.out.blk 1 rfl).c2;have fz20:=(LL.out.blk 0 rfl).frozen 0;have fz21:=(LL.out.blk 0 rfl).frozen 1;have fz30:=(LL.out.blk 1 rfl).frozen 0;have fz31:=(LL.out.blk 1 rfl).frozen 1
 go_upto_region 2 with fail
 clear q3_0 q3_1 q4_0 q4_1 fz20 fz21 fz30 fz31;replace LL:=Hd (LL.out.part 0 rfl 0 [.float .f64 p1,.float .f64 p2] (by omega) (by simp<;>omega) (by simp<;>omega))
 simp only [List.eraseIdx,laid,List.cons_append,List.nil_append,List.setIfInBounds_toArray,List.set_cons_zero,List.set_cons_succ,Nat.zero_add,Nat.reduceAdd] at LL
 replace LL:=Hd (LL.out.part 0 rfl 0 [.float .f64 q1,.float .f64 q2] (by omega) (by simp<;>omega) (by simp<;>omega))
 simp only [List.eraseIdx,laid,List.cons_append,List.nil_append,List.setIfInBounds_toArray,List.set_cons_zero,List.set_cons_succ,Nat.zero_add,Nat.reduceAdd] at LL
 obtain⟨wn,hwn⟩:∃ X,(sets (sets wk w.heap.size 0 [.float .f64 p1,.float .f64 p2]) (w.heap.size+1) 0 [.float .f64 q1,.float .f64 q2])=X:=⟨_,rfl⟩
 rw [hwn] at LL
 simp only [sets,Nat.reduceAdd] at hwn
 rw [hwn];clear hwn;obtain⟨q5_0,q5_1⟩:=(LL.out.blk 0 rfl).c2;obtain⟨q6_0,q6_1⟩:=(LL.out.blk 1 rfl).c2;go_wp2
 go_ret
 exact⟨rfl,LL.out.b⟩
theorem subset_not(a1 a2 x1 x2:Nat)(w:World)(ha1:a1<18446744073709551616)(ha2:a2<18446744073709551616)(hx1:x1<18446744073709551616)(hx2:x2<18446744073709551616)(h1:¬ (rd a1 a2).2<(rd a1 a2).1)(h2:(rd x1 x2).2<(rd x1 x2).1):
  Rt 66 #[Zf a1 a2,Zf x1 x2] (.bool false) w:=by
 have t1:=fun W=>readf a1 a2 W ha1 ha2;have t2:=fun W=>readf x1 x2 W hx1 hx2;have B:=fun W=>both_gen a1 a2 x1 x2 _ _ _ _ _ _ W t1 t2 (em_idx (rd_iv a1 a2)) (em_idx (rd_iv x1 x2));rw [decide_eq_false h1,decide_eq_true h2] at B
 exact subset_none2 _ _ _ _ _ _ _ _ w B
end
section
open Go.RowKit
attribute [local go_sem] run_store_float
end
section
open Go.RowKit Ieee
end
section
open Go.RowKit Ieee
attribute [local go_sem] run_frombits run_bitsof
end
section
open Go.RowKit
end
section
open Go.RowKit
end
section
open Go.RowKit
attribute [local go_sem] run_store_float run_eqf
end
end Go.Proofs.YthlmlmfebpjgdaaGreatDoor
