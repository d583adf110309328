/-
Lemmas for the statement: PtInfT FmaT CommT PairT NeP WhfT PlusT MinusT RaT QuoT PieceT QtT Pow10T AgT WiT WigT SetOfT AllT AllgT PieceG MuP MuT.
-/
import Derived.Test.YthlmlmfebpjgdaaGreatDoorM01
import Derived.Test.YthlmlmfebpjgdaaGreatDoorM08
import Derived.Test.YthlmlmfebpjgdaaGreatDoorM07
import Derived.Laws.FloatArith
import Derived.Test.YthlmlmfebpjgdaaGreatDoorM03
import Derived.Test.YthlmlmfebpjgdaaGreatDoorM02
import Derived.Test.YthlmlmfebpjgdaaGreatDoorM04
import Derived.Deep.DeepCutAuto
set_option linter.unusedSimpArgs false
set_option linter.unusedVariables false
set_option maxHeartbeats 12800000
namespace Go.Proofs.YthlmlmfebpjgdaaGreatDoor
section
open Go.RowKit
attribute [local go_sem] run_store_float run_negf
theorem copyone_pos(w:World):Calls Tryz.prog 167 (Zv 4607182418800017408 9218868437227405312) w fun e w'=>e=.returned (.float .f64 4607182418800017408)/\w=w':=by
 have a1:bits .andNot .u64 4607182418800017408 9223372036854775808=4607182418800017408:=by decide
 have a2:bits .and .u64 9218868437227405312 9223372036854775808=0:=by decide
 have a3:bits .or .u64 4607182418800017408 0=4607182418800017408:=by decide
 have f1:∀ W:World,(callFunc 73 #[.float .f64 4607182418800017408]).run Tryz.prog W=.ok (.value (.int .u64 4607182418800017408)) W:=fun W=>run_bitsof 4607182418800017408 W;have f2:∀ W:World,(callFunc 73 #[.float .f64 9218868437227405312]).run Tryz.prog W=.ok (.value (.int .u64 9218868437227405312)) W:=fun W=>run_bitsof 9218868437227405312 W;have f3:∀ W:World,(callFunc 74 #[.int .u64 4607182418800017408]).run Tryz.prog W=.ok (.value (.float .f64 4607182418800017408)) W:=fun W=>run_frombits 4607182418800017408 W
 go_enter Tryz.func167,Tryz.ntmps167
 go_wp2
 go_ret
 exact⟨rfl,rfl⟩
theorem point_pos(w:World):Rt 100 #[.float .f64 9218868437227405312] (.agg #[.int .i64 (1),.bool false,.slice none 0 0,.int .i64 0]) w:=by
 have HI0:=fun W=>isinff 9218868437227405312 W (by omega) (by decide);rw [decide_eq_true (show rungOf 9218868437227405312=M by decide)] at HI0;have HI:=Hd HI0;have HC:=Hd fun W=>copyone_pos W;clear HI0;have hc:∀ W,(convert 26 3 (.float .f64 4607182418800017408)).run Tryz.prog W=.ok (.int .i64 (1)) W:=fun W=>run_convert_float_int W 26 3 .f64 .i64 4607182418800017408 (1) (by rw [Tryz.underlying26];rfl) Tryz.underlying3 (by kernel_rfl);obtain⟨LB0,LR⟩:=bx1 w #[.int .i64 0,.bool false,.slice none 0 0,.int .i64 0] 97;have LR0:=Hd (HasBlk.of (n:=4) LR.out rfl rfl);clear LR
 go_enter Tryz.func100,Tryz.ntmps100
 go_wp2_with fail;refine cy (HI.out _) ?_;clear HI;go_wp2_with fail;refine cy (HC.out _) ?_;clear HC;obtain⟨ha0,hf0,ha1,hf1,ha2,hf2,ha3,hf3⟩:=LR0.out.sf4;obtain⟨hk0,hk1,hk2,hk3⟩:=LR0.out.sc4 (.int .i64 (1)) (.bool false) (.slice none 0 0) (.int .i64 0);have F:=Hd (below_sets (w0:=w) (r:=w.heap.size) (by omega) [.int .i64 (1),.bool false,.slice none 0 0,.int .i64 0] 0 _ LB0.out)
 simp [sets] at hk0 hk1 hk2 hk3
 go_wp2;refine bodyPost_ret (v:=.agg #[.int .i64 (1),.bool false,.slice none 0 0,.int .i64 0]) (by simp [results,Tryz.results100,go_sem,hk0,hk1,hk2,hk3]) rfl ?_
 exact⟨rfl,below_alloc _ _⟩
theorem copyone_neg(w:World):Calls Tryz.prog 167 (Zv 4607182418800017408 18442240474082181120) w fun e w'=>e=.returned (.float .f64 13830554455654793216)/\w=w':=by
 have a1:bits .andNot .u64 4607182418800017408 9223372036854775808=4607182418800017408:=by decide
 have a2:bits .and .u64 18442240474082181120 9223372036854775808=9223372036854775808:=by decide
 have a3:bits .or .u64 4607182418800017408 9223372036854775808=13830554455654793216:=by decide
 have f1:∀ W:World,(callFunc 73 #[.float .f64 4607182418800017408]).run Tryz.prog W=.ok (.value (.int .u64 4607182418800017408)) W:=fun W=>run_bitsof 4607182418800017408 W;have f2:∀ W:World,(callFunc 73 #[.float .f64 18442240474082181120]).run Tryz.prog W=.ok (.value (.int .u64 18442240474082181120)) W:=fun W=>run_bitsof 18442240474082181120 W;have f3:∀ W:World,(callFunc 74 #[.int .u64 13830554455654793216]).run Tryz.prog W=.ok (.value (.float .f64 13830554455654793216)) W:=fun W=>run_frombits 13830554455654793216 W
 go_enter Tryz.func167,Tryz.ntmps167
 go_wp2
 go_ret
 exact⟨rfl,rfl⟩
theorem point_neg(w:World):Rt 100 #[.float .f64 18442240474082181120] (.agg #[.int .i64 (-1),.bool false,.slice none 0 0,.int .i64 0]) w:=by
 have HI0:=fun W=>isinff 18442240474082181120 W (by omega) (by decide);rw [decide_eq_true (show rungOf 18442240474082181120=M by decide)] at HI0;have HI:=Hd HI0;have HC:=Hd fun W=>copyone_neg W;clear HI0;have hc:∀ W,(convert 26 3 (.float .f64 13830554455654793216)).run Tryz.prog W=.ok (.int .i64 (-1)) W:=fun W=>run_convert_float_int W 26 3 .f64 .i64 13830554455654793216 (-1) (by rw [Tryz.underlying26];rfl) Tryz.underlying3 (by kernel_rfl);obtain⟨LB0,LR⟩:=bx1 w #[.int .i64 0,.bool false,.slice none 0 0,.int .i64 0] 97;have LR0:=Hd (HasBlk.of (n:=4) LR.out rfl rfl);clear LR
 go_enter Tryz.func100,Tryz.ntmps100
 go_wp2_with fail;refine cy (HI.out _) ?_;clear HI;go_wp2_with fail;refine cy (HC.out _) ?_;clear HC;obtain⟨ha0,hf0,ha1,hf1,ha2,hf2,ha3,hf3⟩:=LR0.out.sf4;obtain⟨hk0,hk1,hk2,hk3⟩:=LR0.out.sc4 (.int .i64 (-1)) (.bool false) (.slice none 0 0) (.int .i64 0);have F:=Hd (below_sets (w0:=w) (r:=w.heap.size) (by omega) [.int .i64 (-1),.bool false,.slice none 0 0,.int .i64 0] 0 _ LB0.out)
 simp [sets] at hk0 hk1 hk2 hk3
 go_wp2;refine bodyPost_ret (v:=.agg #[.int .i64 (-1),.bool false,.slice none 0 0,.int .i64 0]) (by simp [results,Tryz.results100,go_sem,hk0,hk1,hk2,hk3]) rfl ?_
 exact⟨rfl,below_alloc _ _⟩
def NewExI(w:World)(s:Int)(x:Rat)(e:Ending)(w':World):Prop:=
 ∃ (g:Bool) (A:Option Addr) (n c:Nat) (E:Int),e=.returned (.agg #[.int .i64 s,.bool g,.slice A n c,.int .i64 E])/\ExI w' s g A n c E x/\Below w.heap.size w w'
theorem NewEx.toI{w w':World}{x:Rat}{e:Ending}(h:NewEx w x e w'):NewExI w 0 x e w':=by
 obtain⟨g,A,n,c,S,E,rfl,hu,hb,h1,h2,h3,h4⟩:=h
 exact⟨g,A,n,c,E,rfl,⟨.inl rfl,fun _=>⟨S,hu,h1,h2,h3,h4⟩⟩,hb⟩
theorem point_gen(i:Int)(w:World)(h:-(M:Int)<=i/\i<=M):Calls Tryz.prog 100 #[.float .f64 (pat i)] w (NewExI w (es i) (ex i)):=by
 have hM:=M_val
 by_cases h1:i=M
 ·subst h1;rw [es_max,pat_max];refine (point_pos w).mono ?_;rintro e w' ⟨rfl,hb⟩
  exact⟨false,none,0,0,0,rfl,⟨.inr (.inl rfl),fun h=>by omega⟩,hb⟩
 ·by_cases h2:i=-(M:Int)
  ·subst h2;rw [es_min,pat_min];refine (point_neg w).mono ?_;rintro e w' ⟨rfl,hb⟩
   exact⟨false,none,0,0,0,rfl,⟨.inr (.inr rfl),fun h=>by omega⟩,hb⟩
  ·rw [es_mid (by omega) (by omega),ex_mid (by omega) (by omega)]
   have hf:fin (pat i):=by show rungOf (pat i)<M;rw [rung_pat h.1 h.2];omega
   obtain⟨neg,S,x,k1,k2,k3,k4,k5⟩:=point_any (pat i) (pat_lt h.1 h.2) hf;rw [idx_pat h.1 h.2] at k4;refine (k5 w).mono ?_;rintro e w' ⟨A,n,c,rfl,hu,hb⟩
   exact⟨neg,A,n,c,x,rfl,⟨.inl rfl,fun _=>⟨S,hu,Nat.le_trans (blen_le_iff.2 (show S<2^53 from k1)) (by omega),k2,k3,k4⟩⟩,hb⟩
theorem less_first(x y:Nat)(s1 s2:Int)(hs:s1≠0)(x1 x2:Rat)(w:World)(H1:∀ w,Calls Tryz.prog 100 #[.float .f64 x] w (NewExI w s1 x1))(H2:∀ w,Calls Tryz.prog 100 #[.float .f64 (Op.negFloat .f64 y)] w (NewExI w s2 x2)):
  Calls Tryz.prog 91 (Zv x y) w (NewExI w s1 x1):=by
 have K1:=Hd H1;have K2:=Hd H2
 have hz:(s1 == 0)=false:=by simpa using hs
 have hz2:(s1 != 0)=true:=by simp [hs]
 have HSN:=Hd hs;clear H1 H2 hs;obtain⟨LB0,LR⟩:=bx1 w #[.int .i64 0,.bool false,.slice none 0 0,.int .i64 0] 97;have LR0:=Hd (HasBlk.of (n:=4) LR.out rfl rfl);clear LR
 go_enter Tryz.func91,Tryz.ntmps91
 go_wp2_with fail;refine (K1.out _).mono ?_;rintro e w1 ⟨g1,A1,m1,c1,e1,rfl,hu1,hb1⟩;have LB1:=stB LB0 hb1 LB0.out.size;have LR1:=stR LR0 hb1;clear LB0 LR0;have U1:=Hd hu1;clear hu1 hb1 K1;go_wp2_with fail;refine (K2.out _).mono ?_;rintro e w2 ⟨g2,A2,m2,c2,e2,rfl,hu2,hb2⟩;have LB2:=stB LB1 hb2 LB1.out.size;have LR2:=stR LR1 hb2;clear LB1 LR1;have U2:=Hd (U1.out.below hb2);have V2:=Hd hu2;clear hu2 hb2 K2 U1
 go_upto_region 2 with fail
 have hlt:=LR2.out.lt;have LB3:=Hd ((LB2.out.alloc LB2.out.size (.cells #[.int .i64 s1,.bool g1,.slice A1 m1 c1,.int .i64 e1] 97)).alloc (by have:=LB2.out.size;simp;omega) (.cells #[.int .i64 s2,.bool g2,.slice A2 m2 c2,.int .i64 e2] 97));have LR3:=Hd ((LR2.out.alloc (.cells #[.int .i64 s1,.bool g1,.slice A1 m1 c1,.int .i64 e1] 97)).alloc (.cells #[.int .i64 s2,.bool g2,.slice A2 m2 c2,.int .i64 e2] 97));have LG0_3:=Hd ((Blk.new w2 97 #[.int .i64 s1,.bool g1,.slice A1 m1 c1,.int .i64 e1]).alloc (.cells #[.int .i64 s2,.bool g2,.slice A2 m2 c2,.int .i64 e2] 97));have LG1_3:=Hd (Blk.new2 w2 (.cells #[.int .i64 s1,.bool g1,.slice A1 m1 c1,.int .i64 e1] 97) 97 #[.int .i64 s2,.bool g2,.slice A2 m2 c2,.int .i64 e2]);have U3:=Hd (U2.out.keep fun _ h=>(h.alloc (.cells #[.int .i64 s1,.bool g1,.slice A1 m1 c1,.int .i64 e1] 97)).alloc (.cells #[.int .i64 s2,.bool g2,.slice A2 m2 c2,.int .i64 e2] 97));clear LB2 LR2 U2 V2
 obtain⟨W4,hW4⟩:∃ W,(w2.alloc (.cells #[.int .i64 s1,.bool g1,.slice A1 m1 c1,.int .i64 e1] 97)).alloc (.cells #[.int .i64 s2,.bool g2,.slice A2 m2 c2,.int .i64 e2] 97)=W:=⟨_,rfl⟩
 rw [hW4] at LB3 LR3 LG0_3 LG1_3 U3 ⊢;clear hW4
 obtain⟨h,hg⟩:∃ g,w2.heap.size=g:=⟨_,rfl⟩
 rw [hg] at LG0_3 LG1_3 hlt ⊢;clear hg;have q0_0:=LG0_3.out.ce 0 rfl;have q0_1:=LG0_3.out.ce 1 rfl;have q0_2:=LG0_3.out.ce 2 rfl;have q0_3:=LG0_3.out.ce 3 rfl;have q1_0:=LG1_3.out.ce 0 rfl;have q1_1:=LG1_3.out.ce 1 rfl;have q1_2:=LG1_3.out.ce 2 rfl;have q1_3:=LG1_3.out.ce 3 rfl;have U4:=Hd (ExI.keep U3.out fun _ hu=>LR3.out.u32s hu [.int .i64 s1,.bool g1,.slice A1 m1 c1,.int .i64 e1]);obtain⟨ha0,hf0,ha1,hf1,ha2,hf2,ha3,hf3⟩:=LR3.out.sf4;obtain⟨hk0,hk1,hk2,hk3⟩:=LR3.out.sc4 (.int .i64 s1) (.bool g1) (.slice A1 m1 c1) (.int .i64 e1);have F:=Hd (below_sets (w0:=w) (r:=w.heap.size) (by omega) [.int .i64 s1,.bool g1,.slice A1 m1 c1,.int .i64 e1] 0 _ LB3.out)
 simp [sets] at hk0 hk1 hk2 hk3
 go_wp2;refine bodyPost_ret (v:=.agg #[.int .i64 s1,.bool g1,.slice A1 m1 c1,.int .i64 e1]) (by simp [results,Tryz.results91,go_sem,hk0,hk1,hk2,hk3]) rfl ?_
 exact⟨_,_,_,_,_,rfl,U4.out,F.out⟩
theorem less_second(x y:Nat)(s2:Int)(hs:s2≠0)(x1 x2:Rat)(w:World)(H1:∀ w,Calls Tryz.prog 100 #[.float .f64 x] w (NewExI w 0 x1))(H2:∀ w,Calls Tryz.prog 100 #[.float .f64 (Op.negFloat .f64 y)] w (NewExI w s2 x2)):
  Calls Tryz.prog 91 (Zv x y) w (NewExI w s2 x2):=by
 have K1:=Hd H1;have K2:=Hd H2
 have hz:(s2 == 0)=false:=by simpa using hs
 have hz2:(s2 != 0)=true:=by simp [hs]
 have HSN:=Hd hs;clear H1 H2 hs;obtain⟨LB0,LR⟩:=bx1 w #[.int .i64 0,.bool false,.slice none 0 0,.int .i64 0] 97;have LR0:=Hd (HasBlk.of (n:=4) LR.out rfl rfl);clear LR
 go_enter Tryz.func91,Tryz.ntmps91
 go_wp2_with fail;refine (K1.out _).mono ?_;rintro e w1 ⟨g1,A1,m1,c1,e1,rfl,hu1,hb1⟩;have LB1:=stB LB0 hb1 LB0.out.size;have LR1:=stR LR0 hb1;clear LB0 LR0;have U1:=Hd hu1;clear hu1 hb1 K1;go_wp2_with fail;refine (K2.out _).mono ?_;rintro e w2 ⟨g2,A2,m2,c2,e2,rfl,hu2,hb2⟩;have LB2:=stB LB1 hb2 LB1.out.size;have LR2:=stR LR1 hb2;clear LB1 LR1;have U2:=Hd (U1.out.below hb2);have V2:=Hd hu2;clear hu2 hb2 K2 U1
 go_upto_region 2 with fail
 have hlt:=LR2.out.lt;have LB3:=Hd ((LB2.out.alloc LB2.out.size (.cells #[.int .i64 0,.bool g1,.slice A1 m1 c1,.int .i64 e1] 97)).alloc (by have:=LB2.out.size;simp;omega) (.cells #[.int .i64 s2,.bool g2,.slice A2 m2 c2,.int .i64 e2] 97));have LR3:=Hd ((LR2.out.alloc (.cells #[.int .i64 0,.bool g1,.slice A1 m1 c1,.int .i64 e1] 97)).alloc (.cells #[.int .i64 s2,.bool g2,.slice A2 m2 c2,.int .i64 e2] 97));have LG0_3:=Hd ((Blk.new w2 97 #[.int .i64 0,.bool g1,.slice A1 m1 c1,.int .i64 e1]).alloc (.cells #[.int .i64 s2,.bool g2,.slice A2 m2 c2,.int .i64 e2] 97));have LG1_3:=Hd (Blk.new2 w2 (.cells #[.int .i64 0,.bool g1,.slice A1 m1 c1,.int .i64 e1] 97) 97 #[.int .i64 s2,.bool g2,.slice A2 m2 c2,.int .i64 e2]);have U3:=Hd (V2.out.keep fun _ h=>(h.alloc (.cells #[.int .i64 0,.bool g1,.slice A1 m1 c1,.int .i64 e1] 97)).alloc (.cells #[.int .i64 s2,.bool g2,.slice A2 m2 c2,.int .i64 e2] 97));clear LB2 LR2 U2 V2
 obtain⟨W4,hW4⟩:∃ W,(w2.alloc (.cells #[.int .i64 0,.bool g1,.slice A1 m1 c1,.int .i64 e1] 97)).alloc (.cells #[.int .i64 s2,.bool g2,.slice A2 m2 c2,.int .i64 e2] 97)=W:=⟨_,rfl⟩
 rw [hW4] at LB3 LR3 LG0_3 LG1_3 U3 ⊢;clear hW4
 obtain⟨h,hg⟩:∃ g,w2.heap.size=g:=⟨_,rfl⟩
 rw [hg] at LG0_3 LG1_3 hlt ⊢;clear hg;have q0_0:=LG0_3.out.ce 0 rfl;have q0_1:=LG0_3.out.ce 1 rfl;have q0_2:=LG0_3.out.ce 2 rfl;have q0_3:=LG0_3.out.ce 3 rfl;have q1_0:=LG1_3.out.ce 0 rfl;have q1_1:=LG1_3.out.ce 1 rfl;have q1_2:=LG1_3.out.ce 2 rfl;have q1_3:=LG1_3.out.ce 3 rfl;have U4:=Hd (ExI.keep U3.out fun _ hu=>LR3.out.u32s hu [.int .i64 s2,.bool g2,.slice A2 m2 c2,.int .i64 e2]);obtain⟨ha0,hf0,ha1,hf1,ha2,hf2,ha3,hf3⟩:=LR3.out.sf4;obtain⟨hk0,hk1,hk2,hk3⟩:=LR3.out.sc4 (.int .i64 s2) (.bool g2) (.slice A2 m2 c2) (.int .i64 e2);have F:=Hd (below_sets (w0:=w) (r:=w.heap.size) (by omega) [.int .i64 s2,.bool g2,.slice A2 m2 c2,.int .i64 e2] 0 _ LB3.out)
 simp [sets] at hk0 hk1 hk2 hk3
 go_wp2;refine bodyPost_ret (v:=.agg #[.int .i64 s2,.bool g2,.slice A2 m2 c2,.int .i64 e2]) (by simp [results,Tryz.results91,go_sem,hk0,hk1,hk2,hk3]) rfl ?_
 exact⟨_,_,_,_,_,rfl,U4.out,F.out⟩
theorem less_gen(i j:Int)(w:World)(hi:-(M:Int)<=i/\i<=M)(hj:-(M:Int)<=j/\j<=M):
  Calls Tryz.prog 91 (Zv (pat i) (pat j)) w (NewExI w (es2 (es i) (es (-j))) (ex2 (es i) (ex i) (es (-j)) (ex (-j)))):=by
 have hM:=M_val;have nf:=negFloat_val (pat_lt hj.1 hj.2);rw [idx_pat hj.1 hj.2] at nf
 have hneg:∀ w,Calls Tryz.prog 100 #[.float .f64 (Op.negFloat .f64 (pat j))] w (NewExI w (es (-j)) (ex (-j))):=by
  intro w
  by_cases h0:j=0
  ·subst h0;obtain⟨neg,S,x,k1,k2,k3,k4,k5⟩:=point_any (Op.negFloat .f64 (pat 0)) nf.1 (by show rungOf _<M;rw [nf.2.1];decide);rw [nf.2.2] at k4;rw [show es (-0)=0 from es_mid (by omega) (by omega),show ex (-0)=fl (-0) from ex_mid (by omega) (by omega)];refine (k5 w).mono ?_;rintro e w' ⟨A,n,c,rfl,hu,hb⟩
   exact⟨neg,A,n,c,x,rfl,⟨.inl rfl,fun _=>⟨S,hu,Nat.le_trans (blen_le_iff.2 (show S<2^53 from k1)) (by omega),k2,k3,k4⟩⟩,hb⟩
  ·rw [neg_pat hj.1 hj.2 h0]
   exact point_gen (-j) w (by omega)
 by_cases h1:es i=0
 ·by_cases h2:es (-j)=0
  ·rw [h1,h2];have a1:=es_zero h1;have a2:=es_zero h2
   have hfi:fin (pat i):=by show rungOf (pat i)<M;rw [rung_pat hi.1 hi.2];omega
   have hfj:fin (pat j):=by show rungOf (pat j)<M;rw [rung_pat hj.1 hj.2];omega
   have h:=rless_any (pat i) (pat j) w (pat_lt hi.1 hi.2) (pat_lt hj.1 hj.2) hfi hfj;rw [idx_pat hi.1 hi.2,idx_pat hj.1 hj.2] at h
   have e1:ex2 0 (ex i) 0 (ex (-j))=fl i - fl j:=by
    unfold ex2;rw [if_neg (by omega),if_neg (by omega),ex_zero h1,ex_zero h2,fl_neg];grind
   rw [e1,show es2 0 0=0 from rfl]
   exact h.mono fun e w' h=>h.toI
  ·have h:=less_second (pat i) (pat j) (es (-j)) h2 (ex i) (ex (-j)) w (fun w=>by have h:=point_gen i w hi;rwa [h1] at h) hneg;rw [h1];unfold es2 ex2;rw [if_neg (by omega),if_neg (by omega),if_pos h2]
   exact h
 ·have h:=less_first (pat i) (pat j) (es i) (es (-j)) h1 (ex i) (ex (-j)) w (fun w=>point_gen i w hi) hneg;unfold es2 ex2;rw [if_pos h1,if_pos h1]
  exact h
end
section
open Go.RowKit
attribute [local go_sem] run_store_float
theorem fmarev_none(b1 b2 z1 z2 c1 c2 x y P1 Q1 P2 Q2 P3 Q3 P4 Q4:Nat)(d1 d2 d3 d4:Bool)(w:World)(t1:∀ W,Rt 102 #[Zf b1 b2] (Zf P1 Q1) W)(m1:Em d1 P1 Q1)(t2:∀ W,Rt 102 #[Zf z1 z2] (Zf P2 Q2) W)(m2:Em d2 P2 Q2)(t3:∀ W,Rt 102 #[Zf c1 c2] (Zf P3 Q3) W)(m3:Em d3 P3 Q3)(t4:∀ W,Rt 102 #[Zf x y] (Zf P4 Q4) W)(m4:Em d4 P4 Q4)(hnn:(d1 || d2 || d3 || d4)=true):
  Rt 31 #[Zf b1 b2,Zf z1 z2,Zf c1 c2,Zf x y] (Zf 9218868437227405312 18442240474082181120) w:=by
 have HE:=Hd emptyf;have HRD:=readL54 w (Zv 0 0) 28 t1 m1 t2 m2 t3 m3 t4 m4 hnn;clear t1 t2 t3 t4 m1 m2 m3 m4 hnn
 go_enter Tryz.func31,Tryz.ntmps31
 go_wp2_with fail;refine HRD.out.mono ?_;rintro e w1 ⟨rfl,hl⟩;have LB1:=Hd hl.b;have LR1:=Hd (HasBlk.of (n:=2) (hl.blk 4 rfl) rfl rfl);have LG0_1:=Hd (hl.blk 0 rfl);have LG1_1:=Hd (hl.blk 1 rfl);have LG2_1:=Hd (hl.blk 2 rfl);have LG3_1:=Hd (hl.blk 3 rfl);clear hl HRD;go_wp2_with fail;refine cx (HE.out _) fun w2 hbx=>?_;have LB2:=stB LB1 hbx LB1.out.size;have LR2:=stR LR1 hbx;have LG0_2:=stG LG0_1 hbx;have LG1_2:=stG LG1_1 hbx;have LG2_2:=stG LG2_1 hbx;have LG3_2:=stG LG3_1 hbx;clear LB1 LR1 LG0_1 LG1_1 LG2_1 LG3_1;clear hbx;obtain⟨ha0,hf0,ha1,hf1⟩:=LR2.out.sf2;obtain⟨hk0,hk1⟩:=LR2.out.sc2 (.float .f64 9218868437227405312) (.float .f64 18442240474082181120);have F:=Hd (below_sets (w0:=w) (r:=(w.heap.size+4)) (by omega) [.float .f64 9218868437227405312,.float .f64 18442240474082181120] 0 _ LB2.out)
 simp [sets] at hk0 hk1
 go_wp2;refine bodyPost_ret (v:=Zf 9218868437227405312 18442240474082181120) (by simp [results,Tryz.results31,go_sem,hk0,hk1]) rfl ?_
 exact⟨rfl,F.out⟩
theorem fmarev_some(b1 b2 z1 z2 c1 c2 x y P1 Q1 P2 Q2 P3 Q3 P4 Q4:Nat)(d1 d2 d3 d4:Bool)(s1 s2:Int)(y1 y2:Rat)(r1 r2:Nat)(w:World)(t1:∀ W,Rt 102 #[Zf b1 b2] (Zf P1 Q1) W)(m1:Em d1 P1 Q1)(t2:∀ W,Rt 102 #[Zf z1 z2] (Zf P2 Q2) W)(m2:Em d2 P2 Q2)(t3:∀ W,Rt 102 #[Zf c1 c2] (Zf P3 Q3) W)(m3:Em d3 P3 Q3)(t4:∀ W,Rt 102 #[Zf x y] (Zf P4 Q4) W)(m4:Em d4 P4 Q4)(hnn:(d1 || d2 || d3 || d4)=false)
  (L1:∀ W,Calls Tryz.prog 91 (Zv P3 Q2) W (NewExI W s1 y1))(L2:∀ W,Calls Tryz.prog 91 (Zv Q3 P2) W (NewExI W s2 y2))
  (FA:∀ (g1:Bool) (A1:Option Addr) (n1 c1:Nat) (E1:Int) (g2:Bool) (A2:Option Addr) (n2 c2:Nat) (E2:Int) W,ExI W s1 g1 A1 n1 c1 E1 y1->ExI W s2 g2 A2 n2 c2 E2 y2->Rt 90 #[Zf P1 Q1,.agg #[.int .i64 s1,.bool g1,.slice A1 n1 c1,.int .i64 E1],.agg #[.int .i64 s2,.bool g2,.slice A2 n2 c2,.int .i64 E2],Zf P4 Q4] (Zf r1 r2) W):
  Rt 31 #[Zf b1 b2,Zf z1 z2,Zf c1 c2,Zf x y] (Zf r1 r2) w:=by
 have HL1:=Hd L1;have HL2:=Hd L2;have HF:=Hd FA;clear L1 L2 FA;have HRD:=readL54 w (Zv 0 0) 28 t1 m1 t2 m2 t3 m3 t4 m4 hnn;clear t1 t2 t3 t4 m1 m2 m3 m4 hnn
 go_enter Tryz.func31,Tryz.ntmps31
 go_wp2_with fail;refine HRD.out.mono ?_;rintro e w1 ⟨rfl,hl⟩;have LB1:=Hd hl.b;have LR1:=Hd (HasBlk.of (n:=2) (hl.blk 4 rfl) rfl rfl);have LG0_1:=Hd (hl.blk 0 rfl);have LG1_1:=Hd (hl.blk 1 rfl);have LG2_1:=Hd (hl.blk 2 rfl);have LG3_1:=Hd (hl.blk 3 rfl);clear hl HRD;go_wp2_with fail;refine wp_region_held_drew (S:=fun W'=>Blk W' w.heap.size 28 (Zv P1 Q1)/\Blk W' (w.heap.size+1) 28 (Zv P2 Q2)/\Blk W' (w.heap.size+2) 28 (Zv P3 Q3)/\Blk W' (w.heap.size+3) 28 (Zv P4 Q4)/\HasBlk W' (w.heap.size+4) 28 2/\Below w.heap.size w W') (by kernel_rfl) (by exact⟨LG0_1.out.drew,LG1_1.out.drew,LG2_1.out.drew,LG3_1.out.drew,LR1.out.drew,LB1.out.drew⟩) (fun hHeld=>?_);refine tkb 0 (fun _ h=>h.1.c2) ?_;refine tks 1 ?_;refine tkb 2 (fun _ h=>h.2.2.1.c2) ?_;refine tks 3 ?_;refine tkb 4 (fun _ h=>h.2.1.c2) ?_;refine tks 6 ?_;refine tkb 7 (fun _ h=>h.2.2.1.c2) ?_;refine tks 8 ?_;refine tkb 9 (fun _ h=>h.2.1.c2) ?_;refine tkb 11 (fun _ h=>h.2.2.2.1.c2) ?_;refine rdy 5 fun KK hKK=>?_;go_simp;refine (HL1.out _).mono ?_;rintro e w2 ⟨g1,A1,n1,c1,E1,rfl,he1,hbA⟩;go_wp2_with fail;refine hKK.out _ _ (⟨hHeld.1.keep hbA,hHeld.2.1.keep hbA,hHeld.2.2.1.keep hbA,hHeld.2.2.2.1.keep hbA,hHeld.2.2.2.2.1.keep hbA,hHeld.2.2.2.2.2.trans (hbA.mono hHeld.2.2.2.2.2.size)⟩) (fun _=>?_);clear hKK KK hHeld;rename_i hHeld;(try simp only [Act.put,lay]);refine rdy 10 fun KK hKK=>?_;go_simp;refine (HL2.out _).mono ?_;rintro e w3 ⟨g2,A2,n2,c2,E2,rfl,he2,hbB⟩;go_wp2_with fail;refine hKK.out _ _ (⟨hHeld.1.keep hbB,hHeld.2.1.keep hbB,hHeld.2.2.1.keep hbB,hHeld.2.2.2.1.keep hbB,hHeld.2.2.2.2.1.keep hbB,hHeld.2.2.2.2.2.trans (hbB.mono hHeld.2.2.2.2.2.size)⟩) (fun _=>?_)
 clear hKK KK hHeld;rename_i hHeld;(try simp only [Act.put,lay]);refine rdy 12 fun KK hKK=>?_;go_simp;refine cx (HF.out _ _ _ _ _ _ _ _ _ _ _ (he1.below hbB) he2) fun w4 hbC=>?_;go_wp2_with fail;refine hKK.out _ _ (⟨hHeld.1.keep hbC,hHeld.2.1.keep hbC,hHeld.2.2.1.keep hbC,hHeld.2.2.2.1.keep hbC,hHeld.2.2.2.2.1.keep hbC,hHeld.2.2.2.2.2.trans (hbC.mono hHeld.2.2.2.2.2.size)⟩) (fun _=>?_);clear hKK KK hHeld;rename_i hHeld;(try simp only [Act.put,lay]);refine rdy 13 fun KK hKK=>?_;have ha0:=hHeld.2.2.2.2.1.someCell 0 (by decide);have hf0:=hHeld.2.2.2.2.1.frozen 0;have ha1:=hHeld.2.2.2.2.1.someCell 1 (by decide);have hf1:=hHeld.2.2.2.2.1.frozen 1;have HK:=Hd (hHeld.2.2.2.2.1.setCell [.float .f64 r1,.float .f64 r2] rfl);have F:=Hd (below_sets (w0:=w) (r:=(w.heap.size+4)) (by omega) [.float .f64 r1,.float .f64 r2] 0 _ hHeld.2.2.2.2.2);go_simp;refine hKK.out _ _ (⟨hHeld.1.other (by omega) 0 [.float .f64 r1,.float .f64 r2],hHeld.2.1.other (by omega) 0 [.float .f64 r1,.float .f64 r2],hHeld.2.2.1.other (by omega) 0 [.float .f64 r1,.float .f64 r2],hHeld.2.2.2.1.other (by omega) 0 [.float .f64 r1,.float .f64 r2],hHeld.2.2.2.2.1.sets [.float .f64 r1,.float .f64 r2] rfl rfl,below_sets (by omega) [.float .f64 r1,.float .f64 r2] 0 _ hHeld.2.2.2.2.2⟩) (fun _=>?_);clear hKK KK hHeld;rename_i hHeld;(try simp only [Act.put,lay]);refine wpAnyH_done (by kernel_rfl) ?_ _;have hk0:=HK.out 0 (by decide);have hk1:=HK.out 1 (by decide)
 simp [sets] at hk0 hk1
 clear hHeld HK he1 hbA he2 hbB hbC;clear LB1 LR1 LG0_1 LG1_1 LG2_1 LG3_1;go_wp2;refine bodyPost_ret (v:=Zf r1 r2) (by simp [results,Tryz.results31,go_sem,hk0,hk1]) rfl ?_
 exact⟨rfl,F.out⟩
theorem mulrev_walk(b1 b2 c1 c2 x y r1 r2:Nat)(w:World)(H:∀ W,Rt 31 #[Zf b1 b2,Zf 0 0,Zf c1 c2,Zf x y] (Zf r1 r2) W):
  Rt 25 #[Zf b1 b2,Zf c1 c2,Zf x y] (Zf r1 r2) w:=by
 have K:=Hd H;clear H;obtain⟨LB0,LG0_0,LG1_0,LG2_0,LR⟩:=bx4 w (Zv b1 b2) 28 (Zv c1 c2) 28 (Zv x y) 28 (Zv 0 0) 28;have LR0:=Hd (HasBlk.of (n:=2) LR.out rfl rfl);clear LR
 go_enter Tryz.func25,Tryz.ntmps25
 obtain⟨q0_0,q0_1⟩:=LG0_0.out.c2;obtain⟨q1_0,q1_1⟩:=LG1_0.out.c2;obtain⟨q2_0,q2_1⟩:=LG2_0.out.c2;go_wp2_with fail;refine cx (K.out _) fun w1 hb1=>?_;have LB1:=stB LB0 hb1 LB0.out.size;have LR1:=stR LR0 hb1;have LG0_1:=stG LG0_0 hb1;have LG1_1:=stG LG1_0 hb1;have LG2_1:=stG LG2_0 hb1;clear LB0 LR0 LG0_0 LG1_0 LG2_0;clear hb1 K q0_0 q0_1 q1_0 q1_1 q2_0 q2_1;obtain⟨ha0,hf0,ha1,hf1⟩:=LR1.out.sf2;obtain⟨hk0,hk1⟩:=LR1.out.sc2 (.float .f64 r1) (.float .f64 r2);have F:=Hd (below_sets (w0:=w) (r:=(w.heap.size+3)) (by omega) [.float .f64 r1,.float .f64 r2] 0 _ LB1.out)
 simp [sets] at hk0 hk1
 go_wp2;refine bodyPost_ret (v:=Zf r1 r2) (by simp [results,Tryz.results25,go_sem,hk0,hk1]) rfl ?_
 exact⟨rfl,F.out⟩
end
section
open Go.RowKit
attribute [local go_sem] run_store_float run_eqf
end
section
open Go.RowKit
attribute [local go_sem] run_store_float
theorem ExI.setB{w:World}{s:Int}{g:Bool}{A:Option Addr}{n c:Nat}{E:Int}{x:Rat}(h:ExI w s g A n c E x){r:Nat}{t:TypeId}{cs:Array Value}(hb:Blk w r t cs)(hc:NoWd cs)(i:Nat)(vs:List Value):ExI (Proofs.YthlmlmfebpjgdaaGreatDoor.sets w r i vs) s g A n c E x:=
 h.keep fun _ hu=>hu.sets hb hc i vs
theorem ExI.setsE{w W':World}{s:Int}{g:Bool}{A:Option Addr}{n c:Nat}{E:Int}{x:Rat}(h:ExI w s g A n c E x){r:Nat}{t:TypeId}{cs:Array Value}{i:Nat}{vs:List Value}(hb:Blk w r t cs)(hc:NoWd cs)(e:Proofs.YthlmlmfebpjgdaaGreatDoor.sets w r i vs=W'):ExI W' s g A n c E x:=e ▸ h.setB hb hc i vs
end
def Ne(i j:Int):Prop:=-(M:Int)<=i/\i<=j/\j<=M/\i<M/\-(M:Int)<j
theorem Ne.iv{i j:Int}(h:Ne i j):Iv i j:=.inl h
theorem Ne.neg{i j:Int}(h:Ne i j):Ne (-j) (-i):=by unfold Ne at *;omega
theorem ne_or{i j:Int}(h:Iv i j)(h2:¬ j<i):Ne i j:=by
 rcases h with h | ⟨rfl,rfl⟩
 ·exact h
 ·have hM:=M_val
  omega
section
open Go.RowKit
def NewBd(w:World)(K:Nat)(s:Int)(x:Rat)(N:Int)(op:Bool)(e:Ending)(w':World):Prop:=
 ∃ neg A n c B m d,e=.returned (.agg #[.int .i64 s,.bool neg,.slice A n c,.slice B m d,.int .i64 N,.bool op])/\RatV w' K neg (.slice A n c) (.slice B m d) x/\Below w.heap.size w w'
def NewPiece(w:World)(K:Nat)(none:Bool)(s:Int)(x:Rat)(N:Int)(o:Bool)(s':Int)(x':Rat)(N':Int)(o':Bool)(e:Ending)(w':World):Prop:=
 ∃ neg A n c B m d neg' A' n' c' B' m' d',e=.returned (.agg #[.bool none,.int .i64 s,.bool neg,.slice A n c,.slice B m d,.int .i64 N,.bool o,.int .i64 s',.bool neg',.slice A' n' c',.slice B' m' d',.int .i64 N',.bool o']) /\
  RatV w' K neg (.slice A n c) (.slice B m d) x/\RatV w' K neg' (.slice A' n' c') (.slice B' m' d') x'/\Below w.heap.size w w'
end
section
open Go.RowKit
end
section
open Go.RowKit
end
section
open Go.RowKit
end
section
open Go.RowKit
theorem rv_mul(g1 g2:Bool)(p1 q1 p2 q2:Nat):rv g1 p1 q1*rv g2 p2 q2=rv (g1 != g2) (p1*p2) (q1*q2):=by
 unfold rv
 cases g1<;>cases g2<;>simp [Rat.div_def,Rat.natCast_mul,Rat.inv_mul_rev]<;>grind
end
section
open Go.RowKit
end
section
open Go.RowKit
theorem NewBd.up{w w':World}{K K':Nat}{s:Int}{x:Rat}{N:Int}{o:Bool}{e:Ending}(h:NewBd w K s x N o e w')(hk:K<=K'):NewBd w K' s x N o e w':=by
 obtain⟨g,A,n,c,B,m,d,rfl,hr,hb⟩:=h
 exact⟨g,A,n,c,B,m,d,rfl,hr.mono hk,hb⟩
def rt(s1:Int)(x1:Rat)(s2:Int)(x2:Rat):Int × Rat × Bool:=
 if esx s1 x1=0 then (0,0,false) else if s2≠0 then (0,0,true) else if s1≠0\/x2=0 then (esx s1 x1,0,true) else (0,x1 / x2,false)
end
section
open Go.RowKit
end
section
open Go.RowKit
def SameSign(r c:Int):Prop:=(r<0↔c<0)/\(0<r↔0<c)
theorem SameSign.refl(c:Int):SameSign c c:=⟨Iff.rfl,Iff.rfl⟩
def Ag(w:World)(c:Int)(e:Ending)(w':World):Prop:=∃ r:Int,e=.returned (.int .i64 r)/\SameSign r c/\Below w.heap.size w w'
end
section
open Go.RowKit
theorem ec_idx{i b:Int}(h1:-(M:Int)<=i)(h2:i<=M)(h3:-(M:Int)<=b)(h4:b<=M):SameSign (ec (es i) (ex i) (es b) (ex b)) (i - b):=by
 have hM:M=9218868437227405312:=rfl
 have ei:es i=if i=M then 1 else if i=-(M:Int) then -1 else 0:=rfl
 have eb:es b=if b=M then 1 else if b=-(M:Int) then -1 else 0:=rfl
 rcases Int.lt_trichotomy (es i) (es b) with h | h | h
 ·rw [ec_lt _ _ h];rw [ei,eb] at h;unfold SameSign
  split at h<;>split at h<;>(try split at h)<;>(try split at h)<;>omega
 ·by_cases h0:es i=0
  ·have h0':es b=0:=by omega
   rw [h0,h0',ec_zero,ex_zero h0,ex_zero h0'];unfold rc SameSign
   by_cases hc:i<b
   ·rw [if_pos (fl_lt_iff.2 hc)];omega
   ·rw [if_neg (fun h=>hc (fl_lt_iff.1 h))]
    by_cases hd:b<i
    ·rw [if_pos (fl_lt_iff.2 hd)];omega
    ·rw [if_neg (fun h=>hd (fl_lt_iff.1 h))];omega
  ·rw [ec_inf _ _ h h0];rw [ei,eb] at h;rw [ei] at h0;unfold SameSign
   split at h0<;>(try split at h0)<;>split at h<;>(try split at h)<;>(try split at h)<;>(try split at h)<;>omega
 ·rw [ec_gt _ _ h];rw [ei,eb] at h;unfold SameSign
  split at h<;>split at h<;>(try split at h)<;>(try split at h)<;>omega
theorem SameSign.trans{a b c:Int}(h:SameSign a b)(h':SameSign b c):SameSign a c:=⟨h.1.trans h'.1,h.2.trans h'.2⟩
theorem Ag.trans{w w':World}{a b:Int}{e:Ending}(h:Ag w a e w')(h':SameSign a b):Ag w b e w':=by
 obtain⟨r,h1,h2,h3⟩:=h
 exact⟨r,h1,h2.trans h',h3⟩
def wi(i j a b:Int):Int × Int:=if i<=j/\i<=b/\a<=j then (max i a,min j b) else ((M:Int),-(M:Int))
end
section
open Go.RowKit
def wg(i j c1 c2 c3 c4 a b:Int)(o1 o2:Bool):Int × Int:=if 0<c1\/(c1=0/\o2=true)\/c2<0\/(c2=0/\o1=true) then ((M:Int),-(M:Int)) else (if c3<0 then a else i,if 0<c4 then b else j)
end
section
open Go.RowKit
def SetOf(w:World)(v:Value)(i j:Int):Prop:=
 (i=M/\j=-(M:Int)/\∃ s x t y g A n c B m d g' A' n' c' B' m' d',v=.agg #[.bool true,.int .i64 s,.bool g,.slice A n c,.slice B m d,.int .i64 t,.bool g',.slice A' n' c',.slice B' m' d'] /\
   RatV w 34 g (.slice A n c) (.slice B m d) x/\RatV w 34 g' (.slice A' n' c') (.slice B' m' d') y) \/
 ((-(M:Int)<=i/\i<=j/\j<=M/\i<M/\-(M:Int)<j)/\∃ g A n c B m d g' A' n' c' B' m' d',v=.agg #[.bool false,.int .i64 (es i),.bool g,.slice A n c,.slice B m d,.int .i64 (es j),.bool g',.slice A' n' c',.slice B' m' d'] /\
   RatV w 34 g (.slice A n c) (.slice B m d) (ex i)/\RatV w 34 g' (.slice A' n' c') (.slice B' m' d') (ex j))
theorem SetOf.below{w w':World}{v:Value}{i j:Int}(h:SetOf w v i j)(hb:Below w.heap.size w w'):SetOf w' v i j:=by
 rcases h with ⟨h1,h2,s,x,t,y,g,A,n,c,B,m,d,g',A',n',c',B',m',d',h3,h4,h5⟩ | ⟨h1,g,A,n,c,B,m,d,g',A',n',c',B',m',d',h3,h4,h5⟩
 ·exact .inl ⟨h1,h2,s,x,t,y,g,A,n,c,B,m,d,g',A',n',c',B',m',d',h3,h4.below hb,h5.below hb⟩
 ·exact .inr ⟨h1,g,A,n,c,B,m,d,g',A',n',c',B',m',d',h3,h4.below hb,h5.below hb⟩
theorem SetOf.iv{w:World}{v:Value}{i j:Int}(h:SetOf w v i j):Iv i j:=by
 rcases h with ⟨h1,h2,-⟩ | ⟨h1,-⟩
 ·exact .inr ⟨h1,h2⟩
 ·exact .inl h1
def hl(i j i' j':Int):Int × Int:=if j<i then (i',j') else if j'<i' then (i,j) else (min i i',max j j')
end
section
open Go.RowKit
end
section
open Go.RowKit
def PcW(w:World)(o:Bool)(s1:Int)(g1:Bool)(A1:Option Addr)(n1 c1:Nat)(B1:Option Addr)(m1 d1:Nat)(N1:Int)(o1:Bool)(s2:Int)(g2:Bool)(A2:Option Addr)(n2 c2:Nat)(B2:Option Addr)(m2 d2:Nat)(N2:Int)(o2:Bool)(F:Int->Int->Int × Int):Prop:=
 (∀ i j,Iv i j->Iv (F i j).1 (F i j).2)/\∀ W i j,Below w.heap.size w W->Iv i j ->
  Calls Tryz.prog 147 #[.agg #[.int .u64 (pat i:Int),.int .u64 (pat j:Int)],.agg #[.bool o,.int .i64 s1,.bool g1,.slice A1 n1 c1,.slice B1 m1 d1,.int .i64 N1,.bool o1,.int .i64 s2,.bool g2,.slice A2 n2 c2,.slice B2 m2 d2,.int .i64 N2,.bool o2]] W
   fun e w'=>e=.returned (.agg #[.int .u64 (pat (F i j).1:Int),.int .u64 (pat (F i j).2:Int)])/\Below W.heap.size W w'
def PcG(W:World)(ad:Addr)(k:Nat)(F:Int->Int->Int × Int):Prop:=
 ∃ o s1 g1 A1 n1 c1 B1 m1 d1 N1 o1 s2 g2 A2 n2 c2 B2 m2 d2 N2 o2,
  W.cell? (ad.add (k*13))=some (.bool o)/\W.cell? ⟨(ad.add (k*13)).block,(ad.add (k*13)).off+1,none⟩=some (.int .i64 s1)/\W.cell? ⟨(ad.add (k*13)).block,(ad.add (k*13)).off+2,none⟩=some (.bool g1) /\
  W.cell? ⟨(ad.add (k*13)).block,(ad.add (k*13)).off+3,none⟩=some (.slice A1 n1 c1)/\W.cell? ⟨(ad.add (k*13)).block,(ad.add (k*13)).off+4,none⟩=some (.slice B1 m1 d1)/\W.cell? ⟨(ad.add (k*13)).block,(ad.add (k*13)).off+5,none⟩=some (.int .i64 N1) /\
  W.cell? ⟨(ad.add (k*13)).block,(ad.add (k*13)).off+6,none⟩=some (.bool o1)/\W.cell? ⟨(ad.add (k*13)).block,(ad.add (k*13)).off+7,none⟩=some (.int .i64 s2)/\W.cell? ⟨(ad.add (k*13)).block,(ad.add (k*13)).off+8,none⟩=some (.bool g2) /\
  W.cell? ⟨(ad.add (k*13)).block,(ad.add (k*13)).off+9,none⟩=some (.slice A2 n2 c2)/\W.cell? ⟨(ad.add (k*13)).block,(ad.add (k*13)).off+10,none⟩=some (.slice B2 m2 d2)/\W.cell? ⟨(ad.add (k*13)).block,(ad.add (k*13)).off+11,none⟩=some (.int .i64 N2) /\
  W.cell? ⟨(ad.add (k*13)).block,(ad.add (k*13)).off+12,none⟩=some (.bool o2)/\PcW W o s1 g1 A1 n1 c1 B1 m1 d1 N1 o1 s2 g2 A2 n2 c2 B2 m2 d2 N2 o2 F
end
section
open Go.RowKit
def pf(s1:Int)(x1:Rat)(o1:Bool)(s2:Int)(x2:Rat)(o2:Bool)(i j:Int):Int × Int:=
 if j<i then ((M:Int),-(M:Int)) else wg i j (ec (es i) (ex i) s2 x2) (ec (es j) (ex j) s1 x1) (ec (es i) (ex i) s1 x1) (ec (es j) (ex j) s2 x2) (rndI (-1) x1) (rndI 1 x2) o1 o2
theorem dn_le_up(s:Int)(x:Rat):dn s x<=up s x:=by
 unfold dn up
 split
 ·exact rndI_le x
 ·omega
theorem dn_lt{s:Int}{x:Rat}(h:s=0\/s=-1):-(M:Int)<=dn s x/\dn s x<M:=by
 have hM:M=9218868437227405312:=rfl
 rcases h with rfl | rfl
 ·have:=rndI_down x;rw [dn_zero];omega
 ·unfold dn;rw [if_neg (by omega)];omega
theorem up_gt{s:Int}{x:Rat}(h:s=0\/s=1):-(M:Int)<up s x/\up s x<=M:=by
 have hM:M=9218868437227405312:=rfl
 rcases h with rfl | rfl
 ·have:=rndI_up x;rw [up_zero];omega
 ·unfold up;rw [if_neg (by omega)];omega
theorem pf_iv{s1:Int}{x1:Rat}{o1:Bool}{s2:Int}{x2:Rat}{o2:Bool}(hs1:s1=0\/s1=-1)(hs2:s2=0\/s2=1)(hle:dn s1 x1<=up s2 x2)(i j:Int)(h:Iv i j):Iv (pf s1 x1 o1 s2 x2 o2 i j).1 (pf s1 x1 o1 s2 x2 o2 i j).2:=by
 rcases h with h | ⟨rfl,rfl⟩
 ·unfold pf;rw [if_neg (by omega)];unfold wg
  split
  ·exact Iv.none
  ·rename_i hn;rw [ec_lo_at (by omega) hs1,ec_hi_at (by omega) hs2];have e1:¬ dn s2 x2<i:=fun h'=>hn (.inl ((ec_hi (by omega) hs2).2 h'));have e2:¬ j<up s1 x1:=fun h'=>hn (.inr (.inr (.inl ((ec_lo (by omega) hs1).2 h'))));have e3:=dn_le_up s1 x1;have e4:=dn_le_up s2 x2;have e5:=dn_lt (x:=x1) hs1;have e6:=up_gt (x:=x2) hs2;unfold Iv
   dsimp only
   omega
 ·unfold pf;have hM:M=9218868437227405312:=rfl;rw [if_pos (by omega)];exact Iv.none
end
section
open Go.RowKit
theorem rsg_neg(x:Rat):rsg (-x)=- rsg x:=by
 unfold rsg
 by_cases h:x=0
 ·subst h;simp
 ·rw [if_neg h,if_neg (by grind)]
  by_cases h2:x<0
  ·rw [if_pos h2,if_neg (by grind)];rfl
  ·rw [if_neg h2,if_pos (by grind)]
theorem esx_neg(s:Int)(x:Rat):esx (-s) (-x)=- esx s x:=by
 unfold esx
 by_cases h:s=0
 ·subst h;simp [rsg_neg]
 ·rw [if_pos (by omega),if_pos h]
theorem rt_neg(s:Int)(x:Rat)(t:Int)(y:Rat):rt (-s) (-x) t y=(-(rt s x t y).1,-(rt s x t y).2.1,(rt s x t y).2.2):=by
 unfold rt;rw [esx_neg]
 by_cases h:esx s x=0
 ·rw [if_pos h,if_pos (by omega)];simp
 ·rw [if_neg h,if_neg (by omega)]
  by_cases h2:t=0
  ·rw [if_neg (show ¬ t≠0 by simpa using h2),if_neg (show ¬ t≠0 by simpa using h2)]
   by_cases h3:s≠0\/y=0
   ·rw [if_pos h3,if_pos (show -s≠0\/y=0 by rcases h3 with h | h;exact .inl (by omega);exact .inr h)];simp
   ·rw [if_neg h3,if_neg (show ¬ (-s≠0\/y=0) by rintro (h | h);exact h3 (.inl (by omega));exact h3 (.inr h))]
    simp [Rat.div_def,Rat.neg_mul]
  ·rw [if_pos h2,if_pos h2];simp
theorem dn_neg(s:Int)(x:Rat):dn (-s) (-x)=- up s x:=by
 unfold dn up
 by_cases h:s=0
 ·subst h;simp only [Int.neg_zero,if_true];have:=rndI_neg (d:=1) (.inr rfl) x
  exact this
 ·rw [if_neg (by omega),if_neg h,Int.neg_mul]
theorem up_neg(s:Int)(x:Rat):up (-s) (-x)=- dn s x:=by
 have h:=dn_neg (-s) (-x);rw [Int.neg_neg,Rat.neg_neg] at h
 omega
theorem ov_neg(s:Int)(x:Rat)(j:Int):ov (-s) (-x) j=(-(ov s x j).2,-(ov s x j).1):=by
 unfold ov
 by_cases h:s=0
 ·subst h
  simp only [Int.neg_zero,ne_eq,not_true_eq_false,if_false]
  by_cases h2:x=0\/j=M
  ·rw [if_pos h2,if_pos (by rcases h2 with h | h;exact .inl (by grind);exact .inr h)];simp
  ·rw [if_neg h2,if_neg (by intro h;apply h2;rcases h with h | h;exact .inl (by grind);exact .inr h)]
   have e:-x / fl j=-(x / fl j):=by rw [Rat.div_def,Rat.div_def,Rat.neg_mul]
   have a:=rndI_neg (d:=1) (.inr rfl) (x / fl j);have b:=rndI_neg (d:=-1) (.inl rfl) (x / fl j);rw [e,show (1:Int)=- -1 from rfl,b,show (-(1:Int))=-1 from rfl];rw [show (- -1:Int)=1 from rfl,a]
 ·rw [if_pos (by omega),if_pos h,Int.neg_mul]
theorem fl_pos{j:Int}(h:0<j):0<fl j:=by have:=fl_lt_iff.2 h;rwa [fl_zero] at this
theorem fl_nonneg{j:Int}(h:0<=j):0<=fl j:=by have:=fl_le_iff.2 h;rwa [fl_zero] at this
theorem esx_zero{s:Int}{x:Rat}(hx:s≠0->x=0):esx s x=0↔s=0/\x=0:=by
 unfold esx
 by_cases h:s=0
 ·subst h
  simp only [ne_eq,not_true_eq_false,if_false,true_and]
  unfold rsg
  by_cases h2:x=0
  ·simp [h2]
  ·rw [if_neg h2]
   constructor
   ·intro h3;split at h3<;>omega
   ·intro h3;exact absurd h3 h2
 ·rw [if_pos h]
  constructor
  ·intro h3;exact absurd h3 h
  ·intro h3;exact absurd h3.1 h
theorem ov_rt{s:Int}{x:Rat}{j:Int}(hx:s≠0->x=0)(hj:0<j)(hj2:j<=M)(h:s=0\/j<M):
  ov s x j=(dn (rt s x (es j) (ex j)).1 (rt s x (es j) (ex j)).2.1,up (rt s x (es j) (ex j)).1 (rt s x (es j) (ex j)).2.1):=by
 have hM:=M_val;have z1:=rndI_zero (d:=-1) (.inl rfl);have z2:=rndI_zero (d:=1) (.inr rfl);unfold ov rt
 by_cases hs:s=0
 ·subst hs
  simp only [ne_eq,not_true_eq_false,if_false,false_or]
  by_cases h0:x=0
  ·rw [if_pos (.inl h0),if_pos ((esx_zero hx).2 ⟨rfl,h0⟩)]
   simp only [dn_zero,up_zero,z1,z2]
  ·rw [if_neg (fun h=>h0 ((esx_zero hx).1 h).2)]
   by_cases hm:j=M
   ·subst hm;rw [if_pos (.inr rfl),if_pos (by rw [es_max];omega)]
    simp only [dn_zero,up_zero,z1,z2]
   ·rw [if_neg (by intro h;rcases h with h | h;exact h0 h;exact hm h),if_neg (by rw [es_mid (by omega) (by omega)];omega),ex_mid (by omega) (by omega),if_neg (by have:=fl_pos hj;grind)]
    simp only [dn_zero,up_zero]
 ·rw [if_pos hs,if_neg (fun h=>hs ((esx_zero hx).1 h).1),if_neg (by rw [es_mid (by omega) (by omega)];omega),if_pos (.inl hs)];unfold dn up esx
  simp only [ne_eq,hs,not_false_eq_true,if_true,if_false]
def qA(s:Int)(x:Rat)(b1 b2:Int):Int × Rat × Bool:=if 0<esx s x then rt s x (es b2) (ex b2) else rt s x (es (max b1 0)) (ex (max b1 0))
def pA(s:Int)(x:Rat)(b1 b2:Int):Int × Int:=if 0<=esx s x then ov s x b2 else if 0<b1 then ov s x b1 else (-(M:Int),-(M:Int))
def qB(s:Int)(x:Rat)(b1 b2:Int):Int × Rat × Bool:=if esx s x<0 then rt s x (es b2) (ex b2) else rt s x (es (max b1 0)) (ex (max b1 0))
def pB(s:Int)(x:Rat)(b1 b2:Int):Int × Int:=if esx s x<=0 then ov s x b2 else if 0<b1 then ov s x b1 else ((M:Int),(M:Int))
theorem es_nought:es 0=0:=by decide
theorem ex_nought:ex 0=0:=by unfold ex;rw [if_pos es_nought,fl_zero]
theorem rt_nought{s:Int}{x:Rat}(t:Int)(y:Rat)(h:esx s x=0):rt s x t y=(0,0,false):=by unfold rt;rw [if_pos h]
theorem esx_rng{s:Int}{x:Rat}(hs:s=0\/s=-1):esx s x=-1\/esx s x=0\/esx s x=1:=by
 unfold esx rsg
 rcases hs with rfl | rfl
 ·rw [if_neg (by omega)]
  split
  ·exact .inr (.inl rfl)
  ·split
   ·exact .inl rfl
   ·exact .inr (.inr rfl)
 ·rw [if_pos (by omega)];exact .inl rfl
theorem pA_qA{s:Int}{x:Rat}{b1 b2:Int}(hs:s=0\/s=-1)(hx:s≠0->x=0)(hb:b1<=b2)(h2:0<b2)(h3:b2<=M)(h1:b1<M):
  pA s x b1 b2=(dn (qA s x b1 b2).1 (qA s x b1 b2).2.1,up (qA s x b1 b2).1 (qA s x b1 b2).2.1):=by
 unfold pA qA;have z1:=rndI_zero (d:=-1) (.inl rfl);have z2:=rndI_zero (d:=1) (.inr rfl)
 rcases esx_rng (x:=x) hs with he | he | he
 ·rw [if_neg (show ¬ 0<=esx s x by omega),if_neg (show ¬ 0<esx s x by omega)]
  by_cases hb0:0<b1
  ·rw [if_pos hb0,show max b1 0=b1 from by omega]
   exact ov_rt hx hb0 (by omega) (.inr h1)
  ·rw [if_neg hb0,show max b1 0=0 from by omega,es_nought,ex_nought];unfold rt;rw [if_neg (by omega),if_neg (by omega),if_pos (.inr rfl),he];unfold dn up
   simp only
   rw [if_neg (by omega),if_neg (by omega)]
   simp
 ·rw [if_pos (show 0<=esx s x by omega),if_neg (show ¬ 0<esx s x by omega)];have hz:=(esx_zero hx).1 he;rw [ov_rt hx h2 h3 (.inl hz.1),rt_nought _ _ he,rt_nought _ _ he]
 ·rw [if_pos (show 0<=esx s x by omega),if_pos (show 0<esx s x by omega)]
  have hz:s=0:=by
   rcases hs with h | h
   ·exact h
   ·exfalso;subst h;unfold esx at he;rw [if_pos (by omega)] at he;omega
  exact ov_rt hx h2 h3 (.inl hz)
theorem qB_neg(s:Int)(x:Rat)(b1 b2:Int):qB s x b1 b2=(-(qA (-s) (-x) b1 b2).1,-(qA (-s) (-x) b1 b2).2.1,(qA (-s) (-x) b1 b2).2.2):=by
 unfold qA qB;rw [esx_neg,rt_neg,rt_neg]
 by_cases h:esx s x<0
 ·rw [if_pos h,if_pos (show 0 < -esx s x by omega)];simp [Rat.neg_neg]
 ·rw [if_neg h,if_neg (show ¬ 0 < -esx s x by omega)];simp [Rat.neg_neg]
theorem pB_neg(s:Int)(x:Rat)(b1 b2:Int):pB s x b1 b2=(-(pA (-s) (-x) b1 b2).2,-(pA (-s) (-x) b1 b2).1):=by
 unfold pA pB;rw [esx_neg,ov_neg,ov_neg]
 by_cases h:esx s x<=0
 ·rw [if_pos h,if_pos (show 0<=-esx s x by omega)];simp
 ·rw [if_neg h,if_neg (show ¬ 0<=-esx s x by omega)]
  by_cases h2:0<b1
  ·rw [if_pos h2,if_pos h2];simp
  ·rw [if_neg h2,if_neg h2];simp
theorem pB_qB{s:Int}{x:Rat}{b1 b2:Int}(hs:s=0\/s=1)(hx:s≠0->x=0)(hb:b1<=b2)(h2:0<b2)(h3:b2<=M)(h1:b1<M):
  pB s x b1 b2=(dn (qB s x b1 b2).1 (qB s x b1 b2).2.1,up (qB s x b1 b2).1 (qB s x b1 b2).2.1):=by
 rw [pB_neg,qB_neg,pA_qA (s:=-s) (x:=-x) (by omega) (fun h=>by rw [hx (by omega)];rfl) hb h2 h3 h1]
 simp only [dn_neg,up_neg]
theorem qA_kind{s:Int}{x:Rat}{b1 b2:Int}(hs:s=0\/s=-1)(hx:s≠0->x=0)(hb:b1<=b2)(h2:0<b2)(h3:b2<=M)(h1:b1<M):
  ((qA s x b1 b2).1=-1/\(qA s x b1 b2).2.1=0/\(qA s x b1 b2).2.2=true/\esx s x<0) \/
  ((qA s x b1 b2).1=0/\(qA s x b1 b2).2.1=0/\(qA s x b1 b2).2.2=true/\0<esx s x/\b2=M) \/
  ((qA s x b1 b2).1=0/\(qA s x b1 b2).2.1=0/\(qA s x b1 b2).2.2=false/\esx s x=0) \/
  ((qA s x b1 b2).1=0/\(qA s x b1 b2).2.2=false/\s=0/\x≠0/\((0<x/\b2<M/\(qA s x b1 b2).2.1=x / fl b2)\/(x<0/\0<b1/\(qA s x b1 b2).2.1=x / fl b1))):=by
 have hM:=M_val;unfold qA
 rcases esx_rng (x:=x) hs with he | he | he
 ·rw [if_neg (by omega)]
  have hm:max b1 0<M:=by omega
  have hm0:0<=max b1 0:=by omega
  unfold rt;rw [if_neg (by omega),if_neg (by rw [es_mid (by omega) hm];omega)]
  by_cases h:s≠0\/ex (max b1 0)=0
  ·rw [if_pos h];exact .inl ⟨he,rfl,rfl,by omega⟩
  ·rw [if_neg h]
   have h4:s=0:=by
    rcases hs with h5 | h5
    ·exact h5
    ·exact absurd (.inl (by omega)) h
   have h6:0<b1:=by
    rcases Int.lt_or_le 0 b1 with h7 | h7
    ·exact h7
    ·exact absurd (.inr (by rw [show max b1 0=0 from by omega,ex_nought])) h
   have h8:x<0:=by
    unfold esx rsg at he;rw [if_neg (by omega)] at he
    split at he
    ·omega
    ·split at he
     ·assumption
     ·omega
   refine .inr (.inr (.inr ⟨rfl,rfl,h4,by grind,.inr ⟨h8,h6,?_⟩⟩));rw [show max b1 0=b1 from by omega,ex_mid (by omega) h1]
 ·rw [if_neg (by omega),rt_nought _ _ he]
  exact .inr (.inr (.inl ⟨rfl,rfl,rfl,he⟩))
 ·rw [if_pos (by omega)]
  have h4:s=0:=by
   rcases hs with h | h
   ·exact h
   ·exfalso;subst h;unfold esx at he;rw [if_pos (by omega)] at he;omega
  have h8:0<x:=by
   unfold esx rsg at he;rw [if_neg (by omega)] at he
   split at he
   ·omega
   ·split at he
    ·omega
    ·grind
  unfold rt;rw [if_neg (by omega)]
  by_cases hm:b2=M
  ·subst hm;rw [if_pos (by rw [es_max];omega)]
   exact .inr (.inl ⟨rfl,rfl,rfl,by omega,rfl⟩)
  ·rw [if_neg (by rw [es_mid (by omega) (by omega)];omega),ex_mid (by omega) (by omega),if_neg (by have:=fl_pos h2;rintro (h | h);exact h h4;grind)]
   exact .inr (.inr (.inr ⟨rfl,rfl,h4,by grind,.inl ⟨h8,by omega,rfl⟩⟩))
theorem qB_kind{s:Int}{x:Rat}{b1 b2:Int}(hs:s=0\/s=1)(hx:s≠0->x=0)(hb:b1<=b2)(h2:0<b2)(h3:b2<=M)(h1:b1<M):
  ((qB s x b1 b2).1=1/\(qB s x b1 b2).2.1=0/\(qB s x b1 b2).2.2=true/\0<esx s x) \/
  ((qB s x b1 b2).1=0/\(qB s x b1 b2).2.1=0/\(qB s x b1 b2).2.2=true/\esx s x<0/\b2=M) \/
  ((qB s x b1 b2).1=0/\(qB s x b1 b2).2.1=0/\(qB s x b1 b2).2.2=false/\esx s x=0) \/
  ((qB s x b1 b2).1=0/\(qB s x b1 b2).2.2=false/\s=0/\x≠0/\((x<0/\b2<M/\(qB s x b1 b2).2.1=x / fl b2)\/(0<x/\0<b1/\(qB s x b1 b2).2.1=x / fl b1))):=by
 have k:=qA_kind (s:=-s) (x:=-x) (by omega) (fun h=>by rw [hx (by omega)];rfl) hb h2 h3 h1;rw [esx_neg] at k;rw [qB_neg]
 dsimp only
 have dv:∀ c:Rat,-(-x / c)=x / c:=fun c=>by rw [Rat.div_def,Rat.div_def,Rat.neg_mul,Rat.neg_neg]
 rcases k with ⟨a,b,c,d⟩ | ⟨a,b,c,d,e⟩ | ⟨a,b,c,d⟩ | ⟨a,b,c,d,e⟩
 ·exact .inl ⟨by omega,by rw [b];rfl,c,by omega⟩
 ·exact .inr (.inl ⟨by omega,by rw [b];rfl,c,by omega,e⟩)
 ·exact .inr (.inr (.inl ⟨by omega,by rw [b];rfl,c,by omega⟩))
 ·refine .inr (.inr (.inr ⟨by omega,b,by omega,by grind,?_⟩))
  rcases e with ⟨e1,e2,e3⟩ | ⟨e1,e2,e3⟩
  ·exact .inl ⟨by grind,e2,by rw [e3,dv]⟩
  ·exact .inr ⟨by grind,e2,by rw [e3,dv]⟩
theorem div_le_div{x y c d:Rat}(hc:0<c)(hd:0<d)(h:x*d<=y*c):x / c<=y / d:=by
 have hk:0<c*d:=Rat.mul_pos hc hd;refine (mul_le_pos hk).1 ?_
 have e1:x / c*(c*d)=x*d:=by rw [<- Rat.mul_assoc,Rat.div_mul_cancel (by grind)]
 have e2:y / d*(c*d)=y*c:=by rw [Rat.mul_comm c d,<- Rat.mul_assoc,Rat.div_mul_cancel (by grind)]
 rw [e1,e2];exact h
theorem div_pos'{x c:Rat}(hx:0<x)(hc:0<c):0<x / c:=by
 have h1:=Rat.inv_pos.2 hc;rw [Rat.div_def];exact Rat.mul_pos hx h1
theorem div_neg'{x c:Rat}(hx:x<0)(hc:0<c):x / c<0:=by
 have h:=div_pos' (x:=-x) (by grind) hc;rw [Rat.div_def,Rat.neg_mul,<- Rat.div_def] at h
 grind
theorem esx_pos{s:Int}{x:Rat}(hs:s=0\/s=-1)(h:0<esx s x):s=0/\0<x:=by
 unfold esx at h
 rcases hs with rfl | rfl
 ·rw [if_neg (by omega)] at h;refine⟨rfl,?_⟩;unfold rsg at h
  split at h
  ·omega
  ·split at h
   ·omega
   ·grind
 ·rw [if_pos (by omega)] at h;omega
theorem esx_lt{s:Int}{x:Rat}(hs:s=0\/s=1)(h:esx s x<0):s=0/\x<0:=by
 have k:=esx_pos (s:=-s) (x:=-x) (by omega) (by rw [esx_neg];omega)
 exact⟨by omega,by grind⟩
theorem q_le{s1 s2:Int}{x1 x2:Rat}{b1 b2:Int}(hs1:s1=0\/s1=-1)(hx1:s1≠0->x1=0)(hs2:s2=0\/s2=1)(hx2:s2≠0->x2=0)(hle:s1=0->s2=0->x1<=x2)(hb:b1<=b2)(h2:0<b2)(h3:b2<=M)(h1:b1<M):
  dn (qA s1 x1 b1 b2).1 (qA s1 x1 b1 b2).2.1<=up (qB s2 x2 b1 b2).1 (qB s2 x2 b1 b2).2.1:=by
 have hM:=M_val;have ka:=qA_kind hs1 hx1 hb h2 h3 h1;have kb:=qB_kind hs2 hx2 hb h2 h3 h1;have f2:=fl_pos h2
 have fin:(qA s1 x1 b1 b2).1=0->(qB s2 x2 b1 b2).1=0->(qA s1 x1 b1 b2).2.1<=(qB s2 x2 b1 b2).2.1->dn (qA s1 x1 b1 b2).1 (qA s1 x1 b1 b2).2.1<=up (qB s2 x2 b1 b2).1 (qB s2 x2 b1 b2).2.1:=fun e1 e2 h=>by
  rw [e1,e2,dn_zero,up_zero]
  exact Int.le_trans (rndI_le _) (rndI_mono (.inr rfl) h)
 rcases ka with ⟨a1,-,-,-⟩ | ⟨a1,a2,-,a4,a5⟩ | ⟨a1,a2,-,a4⟩ | ⟨a1,-,a3,a4,a5⟩
 ·have:=up_gt (s:=(qB s2 x2 b1 b2).1) (x:=(qB s2 x2 b1 b2).2.1) (by rcases kb with k | k | k | k<;>omega);unfold dn;rw [a1,if_neg (by omega)];omega
 all_goals rcases kb with ⟨c1,-,-,-⟩ | ⟨c1,c2,-,c4,c5⟩ | ⟨c1,c2,-,c4⟩ | ⟨c1,-,c3,c4,c5⟩
 all_goals first
  | (have:=dn_lt (s:=(qA s1 x1 b1 b2).1) (x:=(qA s1 x1 b1 b2).2.1) (.inl a1);unfold up;rw [c1,if_neg (by omega)];omega)
  | skip
 ·have p:=esx_pos hs1 a4;have q:=esx_lt hs2 c4;have:=hle p.1 q.1;exfalso;grind
 ·have p:=esx_pos hs1 a4;have q:=(esx_zero hx2).1 c4;have:=hle p.1 q.1;exfalso;grind
 ·have p:=esx_pos hs1 a4;have:=hle p.1 c3;refine fin a1 c1 ?_
  rcases c5 with ⟨d1,d2,d3⟩ | ⟨d1,d2,d3⟩
  ·exfalso;grind
  ·rw [a2,d3];have:=div_pos' d1 (fl_pos d2);grind
 ·have p:=(esx_zero hx1).1 a4;have q:=esx_lt hs2 c4;have:=hle p.1 q.1;exfalso;grind
 ·refine fin a1 c1 ?_;rw [a2,c2];exact Rat.le_refl
 ·have p:=(esx_zero hx1).1 a4;have:=hle p.1 c3;refine fin a1 c1 ?_
  rcases c5 with ⟨d1,d2,d3⟩ | ⟨d1,d2,d3⟩
  ·exfalso;grind
  ·rw [a2,d3];have:=div_pos' d1 (fl_pos d2);grind
 ·have q:=esx_lt hs2 c4;have:=hle a3 q.1;refine fin a1 c1 ?_
  rcases a5 with ⟨d1,d2,d3⟩ | ⟨d1,d2,d3⟩
  ·exfalso;grind
  ·rw [c2,d3];have:=div_neg' d1 (fl_pos d2);grind
 ·have q:=(esx_zero hx2).1 c4;have:=hle a3 q.1;refine fin a1 c1 ?_
  rcases a5 with ⟨d1,d2,d3⟩ | ⟨d1,d2,d3⟩
  ·exfalso;grind
  ·rw [c2,d3];have:=div_neg' d1 (fl_pos d2);grind
 ·have hh:=hle a3 c3;have fb:0<b1->fl b1<=fl b2:=fun _=>fl_le_iff.2 hb;refine fin a1 c1 ?_
  rcases a5 with ⟨d1,d2,d3⟩ | ⟨d1,d2,d3⟩
  ·rcases c5 with ⟨e1,e2,e3⟩ | ⟨e1,e2,e3⟩
   ·exfalso;grind
   ·rw [d3,e3];have f1:=fl_pos e2;refine div_le_div f2 f1 ?_;have m1:x1*fl b1<=x2*fl b1:=(mul_le_pos f1).2 hh;have m2:fl b1*x2<=fl b2*x2:=(mul_le_pos e1).2 (fb e2)
    grind
  ·have f1:=fl_pos d2
   rcases c5 with ⟨e1,e2,e3⟩ | ⟨e1,e2,e3⟩
   ·rw [d3,e3];refine div_le_div f1 f2 ?_;have m1:x1*fl b2<=x2*fl b2:=(mul_le_pos f2).2 hh;have m2:fl b1*(-x2)<=fl b2*(-x2):=(mul_le_pos (by grind)).2 (fb d2)
    grind
   ·rw [d3,e3];have:=div_neg' d1 f1;have:=div_pos' e1 f1
    grind
theorem rndI_pos{x:Rat}(h:0<x):0<rndI 1 x:=by
 have hM:=M_val;have h1:=mt ((rndI_up x).2.2 0 (by omega) (by omega)).1 (by rw [fl_zero];grind)
 omega
theorem rndI_neg'{x:Rat}(h:x<0):rndI (-1) x<0:=by
 have hM:=M_val;have h1:=mt ((rndI_down x).2.2 0 (by omega) (by omega)).1 (by rw [fl_zero];grind)
 omega
theorem openA{s1 s2:Int}{x1 x2:Rat}{b1 b2:Int}(hs1:s1=0\/s1=-1)(hx1:s1≠0->x1=0)(hs2:s2=0\/s2=1)(hle:s1=0->s2=0->x1<=x2)(hb:b1<=b2)(h2:0<b2)(h3:b2<=M)(h1:b1<M):
  ((0<esx s1 x1\/esx s2 x2<0)/\dn (qA s1 x1 b1 b2).1 (qA s1 x1 b1 b2).2.1=0/\up (qA s1 x1 b1 b2).1 (qA s1 x1 b1 b2).2.1=0)↔((qA s1 x1 b1 b2).1=0/\(qA s1 x1 b1 b2).2.1=0/\(qA s1 x1 b1 b2).2.2=true):=by
 have hM:=M_val;have z1:=rndI_zero (d:=-1) (.inl rfl);have z2:=rndI_zero (d:=1) (.inr rfl)
 rcases qA_kind hs1 hx1 hb h2 h3 h1 with ⟨a1,-,-,-⟩ | ⟨a1,a2,a3,a4,a5⟩ | ⟨a1,a2,a3,a4⟩ | ⟨a1,a2,a3,a4,a5⟩
 ·constructor
  ·rintro⟨-,h,-⟩;unfold dn at h;rw [a1,if_neg (by omega)] at h;omega
  ·rintro⟨h,-⟩;omega
 ·refine⟨fun _=>⟨a1,a2,a3⟩,fun _=>⟨.inl a4,?_⟩⟩;rw [a1,a2,dn_zero,up_zero];exact⟨z1,z2⟩
 ·constructor
  ·rintro⟨h | h,-⟩
   ·omega
   ·have q:=esx_lt hs2 h;have r:=(esx_zero hx1).1 a4;have:=hle r.1 q.1
    exfalso;grind
  ·rintro⟨-,-,h⟩;rw [a3] at h;cases h
 ·constructor
  ·rintro⟨-,h,h'⟩;rw [a1,dn_zero] at h;rw [a1,up_zero] at h'
   rcases a5 with ⟨d1,d2,d3⟩ | ⟨d1,d2,d3⟩
   ·have:=rndI_pos (div_pos' d1 (fl_pos h2));rw [d3] at h';omega
   ·have:=rndI_neg' (div_neg' d1 (fl_pos d2));rw [d3] at h;omega
  ·rintro⟨-,-,h⟩;rw [a2] at h;cases h
theorem openB{s1 s2:Int}{x1 x2:Rat}{b1 b2:Int}(hs1:s1=0\/s1=-1)(hs2:s2=0\/s2=1)(hx2:s2≠0->x2=0)(hle:s1=0->s2=0->x1<=x2)(hb:b1<=b2)(h2:0<b2)(h3:b2<=M)(h1:b1<M):
  ((0<esx s1 x1\/esx s2 x2<0)/\dn (qB s2 x2 b1 b2).1 (qB s2 x2 b1 b2).2.1=0/\up (qB s2 x2 b1 b2).1 (qB s2 x2 b1 b2).2.1=0)↔((qB s2 x2 b1 b2).1=0/\(qB s2 x2 b1 b2).2.1=0/\(qB s2 x2 b1 b2).2.2=true):=by
 have k:=openA (s1:=-s2) (x1:=-x2) (s2:=-s1) (x2:=-x1) (by omega) (fun h=>by rw [hx2 (by omega)];rfl) (by omega) (fun a b=>by have:=hle (by omega) (by omega);grind) hb h2 h3 h1;rw [esx_neg,esx_neg] at k;rw [qB_neg]
 dsimp only
 rw [dn_neg,up_neg]
 constructor
 ·rintro⟨a,b,c⟩;have:=k.1 ⟨by omega,by omega,by omega⟩
  exact⟨by omega,by rw [this.2.1];rfl,this.2.2⟩
 ·rintro⟨a,b,c⟩;have:=k.2 ⟨by omega,by grind,c⟩
  exact⟨by omega,by omega,by omega⟩
theorem ct_tail{op:Bool}{sa:Int}{xa:Rat}{fa:Bool}{sb:Int}{xb:Rat}{fb:Bool}{i j:Int}(h:-(M:Int)<=i/\i<=j/\j<=M/\i<M/\-(M:Int)<j)(ka:sa=0\/sa=-1)(kb:sb=0\/sb=1)
  (wa:fa=true->sa=-1\/sa=0/\xa=0)(wb:fb=true->sb=1\/sb=0/\xb=0)(oa:(op=true/\dn sa xa=0/\up sa xa=0)↔(sa=0/\xa=0/\fa=true))(ob:(op=true/\dn sb xb=0/\up sb xb=0)↔(sb=0/\xb=0/\fb=true)):
  ctO op i j (dn sa xa) (up sa xa) (dn sb xb) (up sb xb)=pf sa xa fa sb xb fb i j:=by
 have hM:=M_val;unfold pf;rw [if_neg (by omega)];unfold wg ctO;rw [ec_lo_at (by omega) ka,ec_hi_at (by omega) kb];have e1:=ec_hi (i:=i) (s:=sb) (x:=xb) (by omega) kb;have e2:=ec_lo (j:=j) (s:=sa) (x:=xa) (by omega) ka
 have z0:∀ k:Int,-(M:Int)<=k->k<=M->(ec (es k) (ex k) 0 0=0↔k=0):=fun k k1 k2=>by
  have h:=ec_idx (i:=k) (b:=0) k1 k2 (by omega) (by omega);rw [es_nought,ex_nought] at h;unfold SameSign at h
  omega
 have e3:(ec (es i) (ex i) sb xb=0/\fb=true)↔(op=true/\dn sb xb=0/\up sb xb=0/\i=0):=by
  constructor
  ·rintro⟨a,b⟩
   rcases wb b with k | k
   ·exact absurd a (ec_hi_open (by omega) k)
   ·have q:=ob.2 ⟨k.1,k.2,b⟩;rw [k.1,k.2] at a
    exact⟨q.1,q.2.1,q.2.2,(z0 i (by omega) (by omega)).1 a⟩
  ·rintro⟨a,b,c,d⟩;have q:=ob.1 ⟨a,b,c⟩;rw [q.1,q.2.1]
   exact⟨(z0 i (by omega) (by omega)).2 d,q.2.2⟩
 have e4:(ec (es j) (ex j) sa xa=0/\fa=true)↔(op=true/\dn sa xa=0/\up sa xa=0/\j=0):=by
  constructor
  ·rintro⟨a,b⟩
   rcases wa b with k | k
   ·exact absurd a (ec_lo_open (by omega) k)
   ·have q:=oa.2 ⟨k.1,k.2,b⟩;rw [k.1,k.2] at a
    exact⟨q.1,q.2.1,q.2.2,(z0 j (by omega) (by omega)).1 a⟩
  ·rintro⟨a,b,c,d⟩;have q:=oa.1 ⟨a,b,c⟩;rw [q.1,q.2.1]
   exact⟨(z0 j (by omega) (by omega)).2 d,q.2.2⟩
 by_cases hc:dn sb xb<i\/j<up sa xa
 ·rw [if_pos hc,if_pos]
  rcases hc with h1 | h1
  ·exact .inl (e1.2 h1)
  ·exact .inr (.inr (.inl (e2.2 h1)))
 ·rw [if_neg hc]
  by_cases hd:op=true/\((dn sa xa=0/\up sa xa=0/\j<=0)\/(dn sb xb=0/\up sb xb=0/\0<=i))
  ·rw [if_pos hd,if_pos];obtain⟨ho,hd | hd⟩:=hd
   ·exact .inr (.inr (.inr (e4.2 ⟨ho,hd.1,hd.2.1,by omega⟩)))
   ·exact .inr (.inl (e3.2 ⟨ho,hd.1,hd.2.1,by omega⟩))
  ·rw [if_neg hd,if_neg];rintro (h1 | h1 | h1 | h1)
   ·exact hc (.inl (e1.1 h1))
   ·have q:=e3.1 h1
    exact hd ⟨q.1,.inr ⟨q.2.1,q.2.2.1,by omega⟩⟩
   ·exact hc (.inr (e2.1 h1))
   ·have q:=e4.1 h1
    exact hd ⟨q.1,.inl ⟨q.2.1,q.2.2.1,by omega⟩⟩
theorem ct_pf{s1 s2:Int}{x1 x2:Rat}{b1 b2:Int}(hs1:s1=0\/s1=-1)(hx1:s1≠0->x1=0)(hs2:s2=0\/s2=1)(hx2:s2≠0->x2=0)(hle:s1=0->s2=0->x1<=x2)(hb:b1<=b2)(h2:0<b2)(h3:b2<=M)(h1:b1<M)
  (i j:Int)(h:-(M:Int)<=i/\i<=j/\j<=M/\i<M/\-(M:Int)<j):
  ctO (decide (0<esx s1 x1) || decide (esx s2 x2<0)) i j (pA s1 x1 b1 b2).1 (pA s1 x1 b1 b2).2 (pB s2 x2 b1 b2).1 (pB s2 x2 b1 b2).2=pf (qA s1 x1 b1 b2).1 (qA s1 x1 b1 b2).2.1 (qA s1 x1 b1 b2).2.2 (qB s2 x2 b1 b2).1 (qB s2 x2 b1 b2).2.1 (qB s2 x2 b1 b2).2.2 i j:=by
 have hM:=M_val;rw [pA_qA hs1 hx1 hb h2 h3 h1,pB_qB hs2 hx2 hb h2 h3 h1];have oa:=openA hs1 hx1 hs2 hle hb h2 h3 h1;have ob:=openB hs1 hs2 hx2 hle hb h2 h3 h1
 have ka:(qA s1 x1 b1 b2).1=0\/(qA s1 x1 b1 b2).1=-1:=by rcases qA_kind hs1 hx1 hb h2 h3 h1 with k | k | k | k<;>omega
 have kb:(qB s2 x2 b1 b2).1=0\/(qB s2 x2 b1 b2).1=1:=by rcases qB_kind hs2 hx2 hb h2 h3 h1 with k | k | k | k<;>omega
 have wa:(qA s1 x1 b1 b2).2.2=true->(qA s1 x1 b1 b2).1=-1\/(qA s1 x1 b1 b2).1=0/\(qA s1 x1 b1 b2).2.1=0:=fun o=>by
  rcases qA_kind hs1 hx1 hb h2 h3 h1 with k | k | k | k
  ·exact .inl k.1
  ·exact .inr ⟨k.1,k.2.1⟩
  ·rw [k.2.2.1] at o;cases o
  ·rw [k.2.1] at o;cases o
 have wb:(qB s2 x2 b1 b2).2.2=true->(qB s2 x2 b1 b2).1=1\/(qB s2 x2 b1 b2).1=0/\(qB s2 x2 b1 b2).2.1=0:=fun o=>by
  rcases qB_kind hs2 hx2 hb h2 h3 h1 with k | k | k | k
  ·exact .inl k.1
  ·exact .inr ⟨k.1,k.2.1⟩
  ·rw [k.2.2.1] at o;cases o
  ·rw [k.2.1] at o;cases o
 obtain⟨⟨sa,xa,fa⟩,ea⟩:∃ z,qA s1 x1 b1 b2=z:=⟨_,rfl⟩
 obtain⟨⟨sb,xb,fb⟩,eb⟩:∃ z,qB s2 x2 b1 b2=z:=⟨_,rfl⟩
 rw [ea] at oa ka wa;rw [eb] at ob kb wb;rw [ea,eb]
 obtain⟨op,hop⟩:∃ o,(decide (0<esx s1 x1) || decide (esx s2 x2<0))=o:=⟨_,rfl⟩
 have hop2:(0<esx s1 x1\/esx s2 x2<0)↔op=true:=by rw [<- hop];simp
 rw [hop2] at oa ob;rw [hop]
 dsimp only at *
 exact ct_tail h ka kb wa wb oa ob
end
section
open Go.RowKit
def po(b1 b2:Int)(s1:Int)(x1:Rat)(s2:Int)(x2:Rat)(i j:Int):Int × Int:=
 if b2<=0 then ((M:Int),-(M:Int)) else ctO (decide (0<esx s1 x1) || decide (esx s2 x2<0)) i j (pA s1 x1 b1 b2).1 (pA s1 x1 b1 b2).2 (pB s2 x2 b1 b2).1 (pB s2 x2 b1 b2).2
theorem ov_rng{s:Int}{x:Rat}{j:Int}(hs:s=0\/s=1\/s=-1):(-(M:Int)<=(ov s x j).1/\(ov s x j).1<=M)/\(-(M:Int)<=(ov s x j).2/\(ov s x j).2<=M):=by
 have hM:=M_val;unfold ov;have a:=rndI_down (x / fl j);have b:=rndI_up (x / fl j)
 split
 ·rcases hs with h | h | h<;>subst h<;>dsimp only<;>omega
 ·split<;>dsimp only<;>omega
theorem pA_rng{s:Int}{x:Rat}{b1 b2:Int}(hs:s=0\/s=1\/s=-1):(-(M:Int)<=(pA s x b1 b2).1/\(pA s x b1 b2).1<=M)/\(-(M:Int)<=(pA s x b1 b2).2/\(pA s x b1 b2).2<=M):=by
 have hM:=M_val;unfold pA
 split
 ·exact ov_rng hs
 ·split
  ·exact ov_rng hs
  ·dsimp only;omega
theorem pB_rng{s:Int}{x:Rat}{b1 b2:Int}(hs:s=0\/s=1\/s=-1):(-(M:Int)<=(pB s x b1 b2).1/\(pB s x b1 b2).1<=M)/\(-(M:Int)<=(pB s x b1 b2).2/\(pB s x b1 b2).2<=M):=by
 have hM:=M_val;unfold pB
 split
 ·exact ov_rng hs
 ·split
  ·exact ov_rng hs
  ·dsimp only;omega
theorem positive_any(b1 b2:Int)(s1:Int)(g1:Bool)(A1:Option Addr)(n1 c1:Nat)(E1:Int)(x1:Rat)(s2:Int)(g2:Bool)(A2:Option Addr)(n2 c2:Nat)(E2:Int)(x2:Rat)(i j:Int)(w:World)
  (hb1:-(M:Int)<=b1/\b1<=M)(hb2:-(M:Int)<=b2/\b2<=M)(hi:-(M:Int)<=i/\i<=M)(hj:-(M:Int)<=j/\j<=M)(h1:ExI w s1 g1 A1 n1 c1 E1 x1)(h2:ExI w s2 g2 A2 n2 c2 E2 x2):
  Calls Tryz.prog 101 #[Zf (pat b1) (pat b2),.agg #[.int .i64 s1,.bool g1,.slice A1 n1 c1,.int .i64 E1],.agg #[.int .i64 s2,.bool g2,.slice A2 n2 c2,.int .i64 E2],Zf (pat i) (pat j)] w
   fun e w'=>e=.returned (Zf (pat (po b1 b2 s1 x1 s2 x2 i j).1) (pat (po b1 b2 s1 x1 s2 x2 i j).2))/\Below w.heap.size w w':=by
 have hM:=M_val;unfold po
 by_cases h0:b2<=0
 ·rw [if_pos h0,pat_max,pat_min];refine positive_none _ _ s1 g1 A1 n1 c1 E1 s2 g2 A2 n2 c2 E2 _ _ w ?_
  by_cases hz:b2=0
  ·exact .inr (ord0_eq hz)
  ·exact .inl (ord0_lt hb2 (by omega))
 ·rw [if_neg h0];have hmx:=fun W ts t=>run_maxf hb1 (show -(M:Int)<=0/\(0:Int)<=M by omega) W ts t;rw [pat_zero] at hmx
  have hF:-(M:Int)<=max b1 0/\max b1 0<=M:=by omega
  have of:(FloatKind.f64.format.order (pat (max b1 0)) 0 == some Ordering.gt)=decide (0<b1):=by
   by_cases h:0<b1
   ·rw [ord0_gt hF (by omega),decide_eq_true h];rfl
   ·rw [ord0_eq (by omega),decide_eq_false h];rfl
  have S1:=fun W=>sign_any s1 g1 A1 n1 c1 E1 W;have S2:=fun W=>sign_any s2 g2 A2 n2 c2 E2 W;rw [h1.sg] at S1;rw [h2.sg] at S2;refine positive_walk _ _ s1 g1 A1 n1 c1 E1 s2 g2 A2 n2 c2 E2 _ _ x1 x2 _ _ _ _ _ _ _ _ _ _ _ _ _ w (ord0_gt hb2 (by omega)) hmx of S1 S2 rfl rfl rfl h1 h2 ⟨fun hc W he=>?_,fun hc hf W he=>?_,fun hc hf=>?_⟩ ⟨fun hc W he=>?_,fun hc hf W he=>?_,fun hc hf=>?_⟩ (fun W=>rcut2_any _ i j _ _ _ _ W hi hj (pA_rng (by have:=h1.1;omega)).1 (pA_rng (by have:=h1.1;omega)).2 (pB_rng (by have:=h2.1;omega)).1 (pB_rng (by have:=h2.1;omega)).2)
  ·have h:=over_any s1 g1 A1 n1 c1 E1 x1 b2 W he (by omega) hb2.2;unfold pA;rw [if_pos (of_decide_eq_true hc)]
   exact h
  ·have hb0:=of_decide_eq_true hf;have h:=over_any s1 g1 A1 n1 c1 E1 x1 b1 W he hb0 hb1.2;unfold pA;rw [if_neg (of_decide_eq_false hc),if_pos hb0,show max b1 0=b1 from by omega]
   exact h
  ·unfold pA;rw [if_neg (of_decide_eq_false hc),if_neg (of_decide_eq_false hf)]
   exact⟨pat_min,pat_min⟩
  ·have h:=over_any s2 g2 A2 n2 c2 E2 x2 b2 W he (by omega) hb2.2;unfold pB;rw [if_pos (of_decide_eq_true hc)]
   exact h
  ·have hb0:=of_decide_eq_true hf;have h:=over_any s2 g2 A2 n2 c2 E2 x2 b1 W he hb0 hb1.2;unfold pB;rw [if_neg (of_decide_eq_false hc),if_pos hb0,show max b1 0=b1 from by omega]
   exact h
  ·unfold pB;rw [if_neg (of_decide_eq_false hc),if_neg (of_decide_eq_false hf)]
   exact⟨pat_max,pat_max⟩
structure NumOk (s1:Int) (x1:Rat) (s2:Int) (x2:Rat):Prop where
 a1:s1=0\/s1=-1
 a2:s1≠0->x1=0
 b1:s2=0\/s2=1
 b2:s2≠0->x2=0
 le:s1=0->s2=0->x1<=x2
def PF(b1 b2:Int)(s1:Int)(x1:Rat)(s2:Int)(x2:Rat)(i j:Int):Int × Int:=
 if b2<=0 then ((M:Int),-(M:Int)) else pf (qA s1 x1 b1 b2).1 (qA s1 x1 b1 b2).2.1 (qA s1 x1 b1 b2).2.2 (qB s2 x2 b1 b2).1 (qB s2 x2 b1 b2).2.1 (qB s2 x2 b1 b2).2.2 i j
theorem po_PF{b1 b2 s1 s2:Int}{x1 x2:Rat}{i j:Int}(k:NumOk s1 x1 s2 x2)(hb:Ne b1 b2)(hx:Ne i j):po b1 b2 s1 x1 s2 x2 i j=PF b1 b2 s1 x1 s2 x2 i j:=by
 unfold po PF
 by_cases h:b2<=0
 ·rw [if_pos h,if_pos h]
 ·rw [if_neg h,if_neg h];unfold Ne at hb hx
  exact ct_pf k.a1 k.a2 k.b1 k.b2 k.le hb.2.1 (by omega) hb.2.2.1 hb.2.2.2.1 i j hx
theorem PF_iv{b1 b2 s1 s2:Int}{x1 x2:Rat}(k:NumOk s1 x1 s2 x2)(hb:Ne b1 b2)(i j:Int)(hx:Iv i j):Iv (PF b1 b2 s1 x1 s2 x2 i j).1 (PF b1 b2 s1 x1 s2 x2 i j).2:=by
 unfold PF
 by_cases h:b2<=0
 ·rw [if_pos h];exact Iv.none
 ·rw [if_neg h];unfold Ne at hb;refine pf_iv ?_ ?_ ?_ i j hx
  ·rcases qA_kind k.a1 k.a2 hb.2.1 (by omega) hb.2.2.1 hb.2.2.2.1 with k | k | k | k<;>omega
  ·rcases qB_kind k.b1 k.b2 hb.2.1 (by omega) hb.2.2.1 hb.2.2.2.1 with k | k | k | k<;>omega
  ·exact q_le k.a1 k.a2 k.b1 k.b2 k.le hb.2.1 (by omega) hb.2.2.1 hb.2.2.2.1
def fa(b1 b2:Int)(s1:Int)(x1:Rat)(s2:Int)(x2:Rat)(i j:Int):Int × Int:=
 if (b1<=0/\0<=b2)/\esx s1 x1<=0/\0<=esx s2 x2 then (i,j)
 else (min (PF b1 b2 s1 x1 s2 x2 i j).1 (-(PF (-b2) (-b1) s1 x1 s2 x2 (-j) (-i)).2),max (PF b1 b2 s1 x1 s2 x2 i j).2 (-(PF (-b2) (-b1) s1 x1 s2 x2 (-j) (-i)).1))
theorem mirror_idx(i j:Int)(w:World)(h:Iv i j):Rt 85 #[Zf (pat i) (pat j)] (Zf (pat (-j)) (pat (-i))) w:=by
 have h2:=mirrorf (pat i) (pat j) w (pat_lt h.lo.1 h.lo.2) (pat_lt h.hi.1 h.hi.2);rw [rd_pat h] at h2
 exact h2
theorem factor_any(b1 b2:Int)(s1:Int)(g1:Bool)(A1:Option Addr)(n1 c1:Nat)(E1:Int)(x1:Rat)(s2:Int)(g2:Bool)(A2:Option Addr)(n2 c2:Nat)(E2:Int)(x2:Rat)(i j:Int)(w:World)
  (hb:Ne b1 b2)(hx:Ne i j)(k:NumOk s1 x1 s2 x2)(h1:ExI w s1 g1 A1 n1 c1 E1 x1)(h2:ExI w s2 g2 A2 n2 c2 E2 x2):
  Calls Tryz.prog 90 #[Zf (pat b1) (pat b2),.agg #[.int .i64 s1,.bool g1,.slice A1 n1 c1,.int .i64 E1],.agg #[.int .i64 s2,.bool g2,.slice A2 n2 c2,.int .i64 E2],Zf (pat i) (pat j)] w
   fun e w'=>e=.returned (Zf (pat (fa b1 b2 s1 x1 s2 x2 i j).1) (pat (fa b1 b2 s1 x1 s2 x2 i j).2))/\Below w.heap.size w w':=by
 have S1:=fun W=>sign_any s1 g1 A1 n1 c1 E1 W;have S2:=fun W=>sign_any s2 g2 A2 n2 c2 E2 W;rw [h1.sg] at S1;rw [h2.sg] at S2;have P1:=fun W e1 e2=>positive_any b1 b2 s1 g1 A1 n1 c1 E1 x1 s2 g2 A2 n2 c2 E2 x2 i j W hb.iv.lo hb.iv.hi hx.iv.lo hx.iv.hi e1 e2;have P2:=fun W e1 e2=>positive_any (-b2) (-b1) s1 g1 A1 n1 c1 E1 x1 s2 g2 A2 n2 c2 E2 x2 (-j) (-i) W hb.neg.iv.lo hb.neg.iv.hi hx.neg.iv.lo hx.neg.iv.hi e1 e2;rw [po_PF k hb hx] at P1;rw [po_PF k hb.neg hx.neg] at P2;have v1:=PF_iv k hb i j hx.iv;have v2:=PF_iv k hb.neg (-j) (-i) hx.neg.iv;have v3:Iv (-(PF (-b2) (-b1) s1 x1 s2 x2 (-j) (-i)).2) (-(PF (-b2) (-b1) s1 x1 s2 x2 (-j) (-i)).1):=v2.negg;have h:=factor_walk _ _ s1 g1 A1 n1 c1 E1 s2 g2 A2 n2 c2 E2 _ _ x1 x2 _ _ _ _ _ _ _ _ _ _ _ _ _ _ _ _ w S1 S2 h1 h2 (fun W=>has_any b1 b2 W hb.iv.lo hb.iv.hi) rfl P1 (fun W=>mirror_idx b1 b2 W hb.iv) (fun W=>mirror_idx i j W hx.iv) P2 (fun W=>mirror_idx _ _ W v2) (fun W=>hullf _ _ _ _ W v1 v3);refine h.mono ?_;rintro e w' ⟨rfl,hb'⟩;refine⟨?_,hb'⟩;unfold fa
 by_cases hc:(b1<=0/\0<=b2)/\esx s1 x1<=0/\0<=esx s2 x2
 ·rw [if_pos hc,decide_eq_true hc.1,decide_eq_true hc.2.1,decide_eq_true hc.2.2];rfl
 ·rw [if_neg hc]
  have:(decide (b1<=0/\0<=b2) && decide (esx s1 x1<=0) && decide (0<=esx s2 x2))=false:=by
   rw [Bool.eq_false_iff];intro h
   simp only [Bool.and_eq_true,decide_eq_true_eq] at h
   exact hc ⟨h.1.1,h.1.2,h.2⟩
  rw [this];rfl
theorem numok_sum{i j i' j':Int}(h:Ne i j)(h':Ne i' j'):NumOk (es2 (es i) (es i')) (ex2 (es i) (ex i) (es i') (ex i')) (es2 (es j) (es j')) (ex2 (es j) (ex j) (es j') (ex j')):=by
 have hM:=M_val;unfold Ne at h h'
 have e1:es i=0\/es i=-1:=by unfold es;split<;>(try split)<;>omega
 have e2:es i'=0\/es i'=-1:=by unfold es;split<;>(try split)<;>omega
 have e3:es j=0\/es j=1:=by unfold es;split<;>(try split)<;>omega
 have e4:es j'=0\/es j'=1:=by unfold es;split<;>(try split)<;>omega
 have z:∀ k:Int,es k≠0->ex k=0:=fun k hk=>by unfold ex;rw [if_neg hk]
 have nz:∀ a b:Int,es2 (es a) (es b)≠0->ex2 (es a) (ex a) (es b) (ex b)=0:=fun a b hk=>by
  unfold es2 at hk;unfold ex2
  by_cases ha:es a≠0
  ·rw [if_pos ha];exact z a ha
  ·rw [if_neg ha] at hk;rw [if_neg ha,if_pos hk];exact z b hk
 have v0:∀ a b:Int,es2 (es a) (es b)=0->es a=0/\es b=0:=fun a b hk=>by
  unfold es2 at hk
  by_cases ha:es a=0
  ·rw [if_neg (by omega)] at hk;exact⟨ha,hk⟩
  ·rw [if_pos ha] at hk;exact absurd hk ha
 refine⟨?_,nz _ _,?_,nz _ _,fun p q=>?_⟩
 ·unfold es2;split<;>omega
 ·unfold es2;split<;>omega
 ·obtain⟨p1,p2⟩:=v0 _ _ p;obtain⟨q1,q2⟩:=v0 _ _ q;unfold ex2;rw [if_neg (by omega),if_neg (by omega),if_neg (by omega),if_neg (by omega),ex_zero p1,ex_zero p2,ex_zero q1,ex_zero q2];have a:=fl_le_iff.2 h.2.1;have b:=fl_le_iff.2 h'.2.1
  grind
theorem numok_idx{i j:Int}(h:Ne i j):NumOk (es i) (ex i) (es j) (ex j):=by
 have hM:=M_val;unfold Ne at h;refine⟨by unfold es;split<;>(try split)<;>omega,fun hk=>by unfold ex;rw [if_neg hk],by unfold es;split<;>(try split)<;>omega,fun hk=>by unfold ex;rw [if_neg hk],fun p q=>?_⟩;rw [ex_zero p,ex_zero q]
 exact fl_le_iff.2 h.2.1
def fmr(i1 j1 iz jz i2 j2 i3 j3:Int):Int × Int:=
 if j1<i1\/jz<iz\/j2<i2\/j3<i3 then ((M:Int),-(M:Int))
 else fa i1 j1 (es2 (es i2) (es (-jz))) (ex2 (es i2) (ex i2) (es (-jz)) (ex (-jz))) (es2 (es j2) (es (-iz))) (ex2 (es j2) (ex j2) (es (-iz)) (ex (-iz))) i3 j3
theorem fmarev_any(b1 b2 z1 z2 c1 c2 x y:Nat)(w:World)(hb1:b1<18446744073709551616)(hb2:b2<18446744073709551616)(hz1:z1<18446744073709551616)(hz2:z2<18446744073709551616)(hc1:c1<18446744073709551616)(hc2:c2<18446744073709551616)(hx:x<18446744073709551616)(hy:y<18446744073709551616):
  Rt 31 #[Zf b1 b2,Zf z1 z2,Zf c1 c2,Zf x y] (Zf (pat (fmr (rd b1 b2).1 (rd b1 b2).2 (rd z1 z2).1 (rd z1 z2).2 (rd c1 c2).1 (rd c1 c2).2 (rd x y).1 (rd x y).2).1) (pat (fmr (rd b1 b2).1 (rd b1 b2).2 (rd z1 z2).1 (rd z1 z2).2 (rd c1 c2).1 (rd c1 c2).2 (rd x y).1 (rd x y).2).2)) w:=by
 have v1:=rd_iv b1 b2;have v2:=rd_iv z1 z2;have v3:=rd_iv c1 c2;have v4:=rd_iv x y;have t1:=fun W=>readf b1 b2 W hb1 hb2;have t2:=fun W=>readf z1 z2 W hz1 hz2;have t3:=fun W=>readf c1 c2 W hc1 hc2;have t4:=fun W=>readf x y W hx hy
 obtain⟨⟨i1,j1⟩,r1⟩:∃ z,rd b1 b2=z:=⟨_,rfl⟩
 obtain⟨⟨iz,jz⟩,r2⟩:∃ z,rd z1 z2=z:=⟨_,rfl⟩
 obtain⟨⟨i2,j2⟩,r3⟩:∃ z,rd c1 c2=z:=⟨_,rfl⟩
 obtain⟨⟨i3,j3⟩,r4⟩:∃ z,rd x y=z:=⟨_,rfl⟩
 rw [r1] at v1 t1;rw [r2] at v2 t2;rw [r3] at v3 t3;rw [r4] at v4 t4;rw [r1,r2,r3,r4]
 dsimp only at *
 have m1:=em_idx v1;have m2:=em_idx v2;have m3:=em_idx v3;have m4:=em_idx v4;unfold fmr
 by_cases hno:j1<i1\/jz<iz\/j2<i2\/j3<i3
 ·rw [if_pos hno,pat_max,pat_min]
  exact fmarev_none _ _ _ _ _ _ _ _ _ _ _ _ _ _ _ _ _ _ _ _ w t1 m1 t2 m2 t3 m3 t4 m4 (by simp;omega)
 ·rw [if_neg hno];have n1:=ne_or v1 (by omega);have n2:=ne_or v2 (by omega);have n3:=ne_or v3 (by omega);have n4:=ne_or v4 (by omega);have k:=numok_sum n3 n2.neg;have L1:=fun W=>less_gen i2 jz W v3.lo v2.hi;have L2:=fun W=>less_gen j2 iz W v3.hi v2.lo
  exact fmarev_some _ _ _ _ _ _ _ _ _ _ _ _ _ _ _ _ _ _ _ _ _ _ _ _ _ _ w t1 m1 t2 m2 t3 m3 t4 m4 (by simp;omega) L1 L2 (fun g1 A1 n1' c1' E1 g2 A2 n2' c2' E2 W e1 e2=>factor_any i1 j1 _ g1 A1 n1' c1' E1 _ _ g2 A2 n2' c2' E2 _ i3 j3 W n1 n4 k e1 e2)
def mlr(i1 j1 i2 j2 i3 j3:Int):Int × Int:=
 if j1<i1\/j2<i2\/j3<i3 then ((M:Int),-(M:Int)) else fa i1 j1 (es i2) (ex i2) (es j2) (ex j2) i3 j3
theorem fmr_mlr{i1 j1 i2 j2 i3 j3:Int}(h2:Iv i2 j2):fmr i1 j1 0 0 i2 j2 i3 j3=mlr i1 j1 i2 j2 i3 j3:=by
 unfold fmr mlr
 by_cases hno:j1<i1\/j2<i2\/j3<i3
 ·rw [if_pos hno,if_pos (by omega)]
 ·rw [if_neg hno,if_neg (by omega)]
  have e1:∀ k:Int,es2 (es k) (es (-0))=es k:=fun k=>by
   unfold es2;rw [show es (-0)=0 from es_nought]
   split
   ·rfl
   ·omega
  have e2:∀ k:Int,ex2 (es k) (ex k) (es (-0)) (ex (-0))=ex k:=fun k=>by
   unfold ex2;rw [show es (-0)=0 from es_nought,show ex (-0)=0 from ex_nought]
   split
   ·rfl
   ·rw [if_neg (by omega)];grind
  rw [e1,e1,e2,e2]
theorem rd_nought:rd 0 0=(0,0):=by
 have h:=rd_pat (i:=0) (j:=0) (.inl (by have hM:=M_val;omega))
 rwa [pat_zero] at h
theorem mulrev_any(b1 b2 c1 c2 x y:Nat)(w:World)(hb1:b1<18446744073709551616)(hb2:b2<18446744073709551616)(hc1:c1<18446744073709551616)(hc2:c2<18446744073709551616)(hx:x<18446744073709551616)(hy:y<18446744073709551616):
  Rt 25 #[Zf b1 b2,Zf c1 c2,Zf x y] (Zf (pat (mlr (rd b1 b2).1 (rd b1 b2).2 (rd c1 c2).1 (rd c1 c2).2 (rd x y).1 (rd x y).2).1) (pat (mlr (rd b1 b2).1 (rd b1 b2).2 (rd c1 c2).1 (rd c1 c2).2 (rd x y).1 (rd x y).2).2)) w:=by
 refine mulrev_walk b1 b2 c1 c2 x y _ _ w fun W=>?_;have h:=fmarev_any b1 b2 0 0 c1 c2 x y W hb1 hb2 (by omega) (by omega) hc1 hc2 hx hy;rw [rd_nought,fmr_mlr (rd_iv c1 c2)] at h
 exact h
end
end Go.Proofs.YthlmlmfebpjgdaaGreatDoor
