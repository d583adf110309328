/-
Lemmas for the statement: WigT SetOfT AllT AllgT PcgT SetT.
-/
import Derived.Test.YthlmlmfebpjgdaaGreatDoorM03
import Derived.Test.YthlmlmfebpjgdaaGreatDoorM11
import Derived.Deep.DeepCutAuto
import Derived.Test.YthlmlmfebpjgdaaGreatDoorM10
import Derived.Test.YthlmlmfebpjgdaaGreatDoorM06
set_option linter.unusedSimpArgs false
set_option linter.unusedVariables false
set_option maxHeartbeats 12800000
namespace Go.Proofs.YthlmlmfebpjgdaaGreatDoor
section
open Go.RowKit
def wg(i j c1 c2 c3 c4 a b:Int)(o1 o2:Bool):Int × Int:=if 0<c1∨(c1=0∧o2=true)∨c2<0∨(c2=0∧o1=true) then ((M:Int),-(M:Int)) else (if c3<0 then a else i,if 0<c4 then b else j)
theorem within_nothing(i j:Int)(N1 N2:Int)(s1:Int)(g1:Bool)(A1:Option Addr)(n1 c1:Nat)(B1:Option Addr)(m1 d1:Nat)(x1:Rat)(s2:Int)(g2:Bool)(A2:Option Addr)(n2 c2:Nat)(B2:Option Addr)(m2 d2:Nat)(x2:Rat)(o1 o2:Bool)(w:World):
  Calls Tryz.prog 147 #[.agg #[.int .u64 (pat i:Int),.int .u64 (pat j:Int)],.agg #[.bool true,.int .i64 s1,.bool g1,.slice A1 n1 c1,.slice B1 m1 d1,.int .i64 N1,.bool o1,.int .i64 s2,.bool g2,.slice A2 n2 c2,.slice B2 m2 d2,.int .i64 N2,.bool o2]] w fun e w'=>e=.returned (.agg #[.int .u64 9218868437227405312,.int .u64 18442240474082181120])∧Below w.heap.size w w':=by
 have HE:=Hd empty6
 obtain⟨p,hpp⟩:∃ p,pat i=p:=⟨_,rfl⟩
 obtain⟨q,hqq⟩:∃ q,pat j=q:=⟨_,rfl⟩
 rw [hpp,hqq];clear hpp hqq;obtain⟨LB0,LG0_0,LG1_0,LR⟩:=bx3 w #[.int .u64 (p:Int),.int .u64 (q:Int)] 24 #[.bool true,.int .i64 s1,.bool g1,.slice A1 n1 c1,.slice B1 m1 d1,.int .i64 N1,.bool o1,.int .i64 s2,.bool g2,.slice A2 n2 c2,.slice B2 m2 d2,.int .i64 N2,.bool o2] 84 #[.int .u64 0,.int .u64 0] 24;have LR0:=Hd (HasBlk.of (n:=2) LR.out rfl rfl);clear LR
 go_enter Tryz.func147,Tryz.ntmps147
 go_wp2_with fail;refine wp_region_held_drew (S:=fun W'=>Blk W' w.heap.size 24 #[.int .u64 (p:Int),.int .u64 (q:Int)]∧Blk W' (w.heap.size+1) 84 #[.bool true,.int .i64 s1,.bool g1,.slice A1 n1 c1,.slice B1 m1 d1,.int .i64 N1,.bool o1,.int .i64 s2,.bool g2,.slice A2 n2 c2,.slice B2 m2 d2,.int .i64 N2,.bool o2]∧HasBlk W' (w.heap.size+2) 24 2∧Below w.heap.size w W') (by kernel_rfl) (by exact⟨LG0_0.out.drew,LG1_0.out.drew,LR0.out.drew,LB0.out.drew⟩) (fun hHeld=>?_);refine tk 0 ?_;(try simp only [Act.put,lay]);refine tk 1 ?_ (hv:=by intro W2 hSw;obtain⟨q0,q1,q2,q3,q4,q5,q6,q7,q8,q9,q10,q11,q12⟩:=hSw.2.1.c13;go_simp;(try with_reducible rfl));(try simp only [Act.put,lay]);refine tk 2 ?_;(try simp only [Act.put,lay]);refine tkn 3 ?_;(try simp only [Act.put,lay]);refine tkn 4 ?_;(try simp only [Act.put,lay]);refine tkn 5 ?_;(try simp only [Act.put,lay]);refine tk 6 ?_;(try simp only [Act.put,lay]);refine wpAnyH_done (by kernel_rfl) ?_ _;have LB1:=Hd hHeld.2.2.2;have LR1:=Hd hHeld.2.2.1;have LG0_1:=Hd hHeld.1;have LG1_1:=Hd hHeld.2.1;clear hHeld LB0 LR0 LG0_0 LG1_0;go_wp2_with fail;refine (HE.out _).mono ?_;rintro e w2 ⟨rfl,hb2⟩;have LB2:=stB LB1 hb2 LB1.out.size;have LR2:=stR LR1 hb2;have LG0_2:=stG LG0_1 hb2;have LG1_2:=stG LG1_1 hb2;clear LB1 LR1 LG0_1 LG1_1;clear hb2;obtain⟨ha0,hf0,ha1,hf1⟩:=LR2.out.sf2;obtain⟨hk0,hk1⟩:=LR2.out.sc2 (.int .u64 9218868437227405312) (.int .u64 18442240474082181120);have F:=Hd (below_sets (w0:=w) (r:=(w.heap.size+2)) (by omega) [.int .u64 9218868437227405312,.int .u64 18442240474082181120] 0 _ LB2.out)
 simp [sets] at hk0 hk1
 go_wp2;refine bodyPost_ret (v:=.agg #[.int .u64 9218868437227405312,.int .u64 18442240474082181120]) (by simp [results,Tryz.results147,go_sem,hk0,hk1]) rfl ?_
 exact⟨rfl,F.out⟩
theorem within_gen(i j:Int)(N1 N2:Int)(s1:Int)(g1:Bool)(A1:Option Addr)(n1 c1:Nat)(B1:Option Addr)(m1 d1:Nat)(x1:Rat)(s2:Int)(g2:Bool)(A2:Option Addr)(n2 c2:Nat)(B2:Option Addr)(m2 d2:Nat)(x2:Rat)(o1 o2:Bool)(c1' c2' c3' c4' a b:Int)(w:World)(hi:-(M:Int)≤i∧i<M)
  (t1:∀ W,Below w.heap.size w W→Calls Tryz.prog 208 #[.int .u64 (pat i:Int),.agg #[.int .i64 s2,.bool g2,.slice A2 n2 c2,.slice B2 m2 d2,.int .i64 N2,.bool o2]] W (Ag W c1'))
  (t2:∀ W,Below w.heap.size w W→Calls Tryz.prog 208 #[.int .u64 (pat j:Int),.agg #[.int .i64 s1,.bool g1,.slice A1 n1 c1,.slice B1 m1 d1,.int .i64 N1,.bool o1]] W (Ag W c2'))
  (t3:∀ W,Below w.heap.size w W→Calls Tryz.prog 208 #[.int .u64 (pat i:Int),.agg #[.int .i64 s1,.bool g1,.slice A1 n1 c1,.slice B1 m1 d1,.int .i64 N1,.bool o1]] W (Ag W c3'))
  (t4:∀ W,Below w.heap.size w W→Calls Tryz.prog 208 #[.int .u64 (pat j:Int),.agg #[.int .i64 s2,.bool g2,.slice A2 n2 c2,.slice B2 m2 d2,.int .i64 N2,.bool o2]] W (Ag W c4'))
  (t5:∀ W,Below w.heap.size w W→c3'<0→Calls Tryz.prog 209 #[.int .i64 (-1),.agg #[.int .i64 s1,.bool g1,.slice A1 n1 c1,.slice B1 m1 d1,.int .i64 N1,.bool o1]] W fun e w'=>e=.returned (.int .u64 (pat a:Int))∧Below W.heap.size W w')
  (t6:∀ W,Below w.heap.size w W→0<c4'→Calls Tryz.prog 209 #[.int .i64 1,.agg #[.int .i64 s2,.bool g2,.slice A2 n2 c2,.slice B2 m2 d2,.int .i64 N2,.bool o2]] W fun e w'=>e=.returned (.int .u64 (pat b:Int))∧Below W.heap.size W w'):
  Calls Tryz.prog 147 #[.agg #[.int .u64 (pat i:Int),.int .u64 (pat j:Int)],.agg #[.bool false,.int .i64 s1,.bool g1,.slice A1 n1 c1,.slice B1 m1 d1,.int .i64 N1,.bool o1,.int .i64 s2,.bool g2,.slice A2 n2 c2,.slice B2 m2 d2,.int .i64 N2,.bool o2]] w fun e w'=>e=.returned (.agg #[.int .u64 (pat (wg i j c1' c2' c3' c4' a b o1 o2).1:Int),.int .u64 (pat (wg i j c1' c2' c3' c4' a b o1 o2).2:Int)])∧Below w.heap.size w w':=by
 have HE:=Hd empty6;have T1:=Hd t1;have T2:=Hd t2;have T3:=Hd t3;have T4:=Hd t4;have T5:=Hd t5;have T6:=Hd t6;have hp:=pat_ne_max (i:=i) (by omega) (by omega)
 have HW:wg i j c1' c2' c3' c4' a b o1 o2=if 0<c1'∨(c1'=0∧o2=true)∨c2'<0∨(c2'=0∧o1=true) then ((M:Int),-(M:Int)) else (if c3'<0 then a else i,if 0<c4' then b else j):=rfl
 obtain⟨r,hr⟩:∃ r:Value,(.agg #[.int .u64 (pat (wg i j c1' c2' c3' c4' a b o1 o2).1:Int),.int .u64 (pat (wg i j c1' c2' c3' c4' a b o1 o2).2:Int)]:Value)=r:=⟨_,rfl⟩
 rw [hr];rw [HW] at hr
 obtain⟨p,hpp⟩:∃ p,pat i=p:=⟨_,rfl⟩
 obtain⟨q,hqq⟩:∃ q,pat j=q:=⟨_,rfl⟩
 obtain⟨k,hkk⟩:∃ p,pat a=p:=⟨_,rfl⟩
 obtain⟨l,hll⟩:∃ q,pat b=q:=⟨_,rfl⟩
 rw [hpp] at T1 T3 hp ⊢;rw [hqq] at T2 T4 ⊢;rw [hkk] at T5;rw [hll] at T6;have HR:=Hd hr;have HPP:=Hd hpp;have HQQ:=Hd hqq;have HKK:=Hd hkk;have HLL:=Hd hll;clear hr hpp hqq hkk hll t1 t2 t3 t4 t5 t6 HW hi;obtain⟨LB0,LG0_0,LG1_0,LR⟩:=bx3 w #[.int .u64 (p:Int),.int .u64 (q:Int)] 24 #[.bool false,.int .i64 s1,.bool g1,.slice A1 n1 c1,.slice B1 m1 d1,.int .i64 N1,.bool o1,.int .i64 s2,.bool g2,.slice A2 n2 c2,.slice B2 m2 d2,.int .i64 N2,.bool o2] 84 #[.int .u64 0,.int .u64 0] 24;have LR0:=Hd (HasBlk.of (n:=2) LR.out rfl rfl);clear LR
 go_enter Tryz.func147,Tryz.ntmps147
 go_wp2_with fail;refine wp_region_held_drew (S:=fun W'=>Blk W' w.heap.size 24 #[.int .u64 (p:Int),.int .u64 (q:Int)]∧Blk W' (w.heap.size+1) 84 #[.bool false,.int .i64 s1,.bool g1,.slice A1 n1 c1,.slice B1 m1 d1,.int .i64 N1,.bool o1,.int .i64 s2,.bool g2,.slice A2 n2 c2,.slice B2 m2 d2,.int .i64 N2,.bool o2]∧HasBlk W' (w.heap.size+2) 24 2∧Below w.heap.size w W') (by kernel_rfl) (by exact⟨LG0_0.out.drew,LG1_0.out.drew,LR0.out.drew,LB0.out.drew⟩) (fun hHeld=>?_);refine tk 0 ?_;(try simp only [Act.put,lay]);refine tk 1 ?_ (hv:=by intro W2 hSw;obtain⟨q0,q1,q2,q3,q4,q5,q6,q7,q8,q9,q10,q11,q12⟩:=hSw.2.1.c13;go_simp;(try with_reducible rfl));(try simp only [Act.put,lay]);refine tk 2 ?_;(try simp only [Act.put,lay]);refine tk 3 ?_ (hv:=by intro W2 hSw;obtain⟨q0,q1⟩:=hSw.1.c2;go_simp;(try with_reducible rfl));(try simp only [Act.put,lay]);refine rdy 4 (fun KK hKK=>?_);go_simp;refine (HE.out _).mono ?_;rintro e w1 ⟨rfl,hb1⟩;go_wp2_with fail;refine hKK.out _ _ (⟨hHeld.1.keep hb1,hHeld.2.1.keep hb1,hHeld.2.2.1.keep hb1,hHeld.2.2.2.trans (hb1.mono hHeld.2.2.2.size)⟩) (fun _=>?_);clear hKK KK hHeld;rename_i hHeld;(try simp only [Act.put,lay]);refine tk 5 ?_;(try simp only [Act.put,lay]);refine tk 6 ?_;(try simp only [Act.put,lay]);refine wpAnyH_done (by kernel_rfl) ?_ _;have LB1:=Hd hHeld.2.2.2;have LR1:=Hd hHeld.2.2.1;have LG0_1:=Hd hHeld.1;have LG1_1:=Hd hHeld.2.1;clear hHeld hb1 LB0 LR0 LG0_0 LG1_0;obtain⟨q0_0,q0_1⟩:=LG0_1.out.c2;obtain⟨q1_0,q1_1,q1_2,q1_3,q1_4,q1_5,q1_6,q1_7,q1_8,q1_9,q1_10,q1_11,q1_12⟩:=LG1_1.out.c13
 go_wp2_with fail;refine (T1.out _ LB1.out).mono ?_;rintro e w2 ⟨r1,rfl,hs1,hb2⟩;have LB2:=stB LB1 hb2 LB1.out.size;have LR2:=stR LR1 hb2;have LG0_2:=stG LG0_1 hb2;have LG1_2:=stG LG1_1 hb2;clear LB1 LR1 LG0_1 LG1_1;have S1:=Hd hs1;clear hs1 hb2 q0_0 q0_1 q1_0 q1_1 q1_2 q1_3 q1_4 q1_5 q1_6 q1_7 q1_8 q1_9 q1_10 q1_11 q1_12;obtain⟨q0_0,q0_1⟩:=LG0_2.out.c2;obtain⟨q1_0,q1_1,q1_2,q1_3,q1_4,q1_5,q1_6,q1_7,q1_8,q1_9,q1_10,q1_11,q1_12⟩:=LG1_2.out.c13;go_wp2_with fail;refine (T2.out _ LB2.out).mono ?_;rintro e w3 ⟨r2,rfl,hs2,hb3⟩;have LB3:=stB LB2 hb3 LB2.out.size;have LR3:=stR LR2 hb3;have LG0_3:=stG LG0_2 hb3;have LG1_3:=stG LG1_2 hb3;clear LB2 LR2 LG0_2 LG1_2;have S2:=Hd hs2;clear hs2 hb3 q0_0 q0_1 q1_0 q1_1 q1_2 q1_3 q1_4 q1_5 q1_6 q1_7 q1_8 q1_9 q1_10 q1_11 q1_12;have q1_6:=LG1_3.out.ce 6 rfl;have q1_12:=LG1_3.out.ce 12 rfl
 obtain⟨CC,hCC⟩:∃ x,decide (0<c1'∨(c1'=0∧o2=true)∨c2'<0∨(c2'=0∧o1=true))=x:=⟨_,rfl⟩
 go_upto_region 5 with fail
 go_cut [49] (fun s49 wx=>s49=.bool CC∧wx=w3)
 case first=>
  have hs1:=S1.out;have hs2:=S2.out;unfold SameSign at hs1 hs2
  rcases Int.lt_trichotomy 0 r1 with h | h | h
  ·have hc:CC=true:=by rw [← hCC];simp<;>omega
   subst hc
   have h3:decide (0<r1)=true:=by simp;exact h
   clear hs1 hs2 hCC h;go_wp2_with fail
   go_meet
   exact⟨rfl,rfl⟩
  ·subst h
   cases o2
   ·rcases Int.lt_trichotomy r2 0 with g | g | g
    ·have hc:CC=true:=by rw [← hCC];simp<;>omega
     subst hc
     have h5:decide (r2<0)=true:=by simp;exact g
     clear hs1 hs2 hCC  g;go_wp2_with fail
     go_meet
     exact⟨rfl,rfl⟩
    ·subst g
     cases o1
     ·have hc:CC=false:=by rw [← hCC];simp<;>omega
      subst hc;clear hs1 hs2 hCC;go_wp2_with fail
      go_meet
      exact⟨rfl,rfl⟩
     ·have hc:CC=true:=by rw [← hCC];simp<;>omega
      subst hc;clear hs1 hs2 hCC;go_wp2_with fail
      go_meet
      exact⟨rfl,rfl⟩
    ·have hc:CC=false:=by rw [← hCC];simp<;>omega
     subst hc
     have h5:decide (r2<0)=false:=by simp;omega
     have h6:(r2 == 0)=false:=by simp;omega
     clear hs1 hs2 hCC  g;go_wp2_with fail
     go_meet
     exact⟨rfl,rfl⟩
   ·have hc:CC=true:=by rw [← hCC];simp<;>omega
    subst hc;clear hs1 hs2 hCC;go_wp2_with fail
    go_meet
    exact⟨rfl,rfl⟩
  ·have h3:decide (0<r1)=false:=by simp;omega
   have h4:(r1 == 0)=false:=by simp;omega
   rcases Int.lt_trichotomy r2 0 with g | g | g
   ·have hc:CC=true:=by rw [← hCC];simp<;>omega
    subst hc
    have h5:decide (r2<0)=true:=by simp;exact g
    clear hs1 hs2 hCC h g;go_wp2_with fail
    go_meet
    exact⟨rfl,rfl⟩
   ·subst g
    cases o1
    ·have hc:CC=false:=by rw [← hCC];simp<;>omega
     subst hc;clear hs1 hs2 hCC h;go_wp2_with fail
     go_meet
     exact⟨rfl,rfl⟩
    ·have hc:CC=true:=by rw [← hCC];simp<;>omega
     subst hc;clear hs1 hs2 hCC h;go_wp2_with fail
     go_meet
     exact⟨rfl,rfl⟩
   ·have hc:CC=false:=by rw [← hCC];simp<;>omega
    subst hc
    have h5:decide (r2<0)=false:=by simp;omega
    have h6:(r2 == 0)=false:=by simp;omega
    clear hs1 hs2 hCC h g;go_wp2_with fail
    go_meet
    exact⟨rfl,rfl⟩
 case rest=>
 obtain⟨rfl,rfl⟩:=hcut;clear T1 T2 S1 S2;have hr:=HR.out;clear q1_6 q1_12
 cases CC
 ·have hcc:=of_decide_eq_false hCC;rw [if_neg hcc] at hr
  dsimp only at hr
  have HR:=Hd hr;clear hr hCC hcc;obtain⟨q0_0,q0_1⟩:=LG0_3.out.c2
  go_upto_region 8 with fail
  clear q0_0 q0_1;have hlt4:=LR3.out.lt;have LB4:=Hd (LB3.out.alloc LB3.out.size (.cells #[.int .u64 (p:Int),.int .u64 (q:Int)] 24));have LR4:=Hd (LR3.out.alloc (.cells #[.int .u64 (p:Int),.int .u64 (q:Int)] 24));have LG0_4:=Hd (LG0_3.out.alloc (.cells #[.int .u64 (p:Int),.int .u64 (q:Int)] 24));have LG1_4:=Hd (LG1_3.out.alloc (.cells #[.int .u64 (p:Int),.int .u64 (q:Int)] 24));have LG2_4:=Hd (Blk.new wc 24 #[.int .u64 (p:Int),.int .u64 (q:Int)]);clear LB3 LR3 LG0_3 LG1_3
  obtain⟨V4,hV4⟩:∃ X,(wc.alloc (.cells #[.int .u64 (p:Int),.int .u64 (q:Int)] 24))=X:=⟨_,rfl⟩
  rw [hV4] at LB4 LR4 LG0_4 LG1_4 LG2_4 ⊢;clear hV4;obtain⟨q0_0,q0_1⟩:=LG0_4.out.c2;obtain⟨q1_0,q1_1,q1_2,q1_3,q1_4,q1_5,q1_6,q1_7,q1_8,q1_9,q1_10,q1_11,q1_12⟩:=LG1_4.out.c13;go_wp2_with fail;refine (T3.out _ LB4.out).mono ?_;rintro e w5 ⟨r3,rfl,hs3,hb5⟩;have LB5:=stB LB4 hb5 LB4.out.size;have LR5:=stR LR4 hb5;have LG0_5:=stG LG0_4 hb5;have LG1_5:=stG LG1_4 hb5;have LG2_5:=stG LG2_4 hb5;clear LB4 LR4 LG0_4 LG1_4 LG2_4;unfold SameSign at hs3;clear hb5 q0_0 q0_1 q1_0 q1_1 q1_2 q1_3 q1_4 q1_5 q1_6 q1_7 q1_8 q1_9 q1_10 q1_11 q1_12
  by_cases hlo:c3'<0
  ·have hq3:r3<0:=by omega
   have MX:(if c3'<0 then a else i)=a:=by rw [if_pos hlo]
   clear hs3;obtain⟨q1_0,q1_1,q1_2,q1_3,q1_4,q1_5,q1_6,q1_7,q1_8,q1_9,q1_10,q1_11,q1_12⟩:=LG1_5.out.c13;go_wp2_with fail;refine (T5.out _ LB5.out hlo).mono ?_;rintro e w6 ⟨rfl,hb6⟩;have LB6:=stB LB5 hb6 LB5.out.size;have LR6:=stR LR5 hb6;have LG0_6:=stG LG0_5 hb6;have LG1_6:=stG LG1_5 hb6;have LG2_6:=stG LG2_5 hb6;clear LB5 LR5 LG0_5 LG1_5 LG2_5;clear hb6 hlo q1_0 q1_1 q1_2 q1_3 q1_4 q1_5 q1_6 q1_7 q1_8 q1_9 q1_10 q1_11 q1_12;have q2_0:=LG2_6.out.ce 0 rfl;have hf1:=LG2_6.out.frozen 0
   go_upto_region 10 with fail
   clear q2_0 hf1;have hlo2:=LR6.out.lt;have LB7:=Hd (LB6.out.setCell (p:=⟨wc.heap.size,0,none⟩) (show w.heap.size≤wc.heap.size by omega) (.int .u64 (k:Int)));have LR7:=Hd (show HasBlk (w6.setCell ⟨wc.heap.size,0,none⟩ (.int .u64 (k:Int))) (w.heap.size+2) 24 2 from LR6.out.other (by omega) 0 [.int .u64 (k:Int)]);have LG0_7:=Hd (show Blk (w6.setCell ⟨wc.heap.size,0,none⟩ (.int .u64 (k:Int))) w.heap.size 24 #[.int .u64 (p:Int),.int .u64 (q:Int)] from LG0_6.out.other (by omega) 0 [.int .u64 (k:Int)]);have LG1_7:=Hd (show Blk (w6.setCell ⟨wc.heap.size,0,none⟩ (.int .u64 (k:Int))) (w.heap.size+1) 84 #[.bool false,.int .i64 s1,.bool g1,.slice A1 n1 c1,.slice B1 m1 d1,.int .i64 N1,.bool o1,.int .i64 s2,.bool g2,.slice A2 n2 c2,.slice B2 m2 d2,.int .i64 N2,.bool o2] from LG1_6.out.other (by omega) 0 [.int .u64 (k:Int)]);have LG2_7:=Hd (LG2_6.out.set 0 (.int .u64 (k:Int)));clear LB6 LR6 LG0_6 LG1_6 LG2_6
   obtain⟨V6,hV6⟩:∃ X,w6.setCell ⟨wc.heap.size,0,none⟩ (.int .u64 (k:Int))=X:=⟨_,rfl⟩
   rw [hV6] at LB7 LR7 LG0_7 LG1_7 LG2_7 ⊢;clear hV6;obtain⟨q0_0,q0_1⟩:=LG0_7.out.c2;obtain⟨q1_0,q1_1,q1_2,q1_3,q1_4,q1_5,q1_6,q1_7,q1_8,q1_9,q1_10,q1_11,q1_12⟩:=LG1_7.out.c13;go_wp2_with fail;refine (T4.out _ LB7.out).mono ?_;rintro e w7 ⟨r4,rfl,hs4,hb7⟩;have LB8:=stB LB7 hb7 LB7.out.size;have LR8:=stR LR7 hb7;have LG0_8:=stG LG0_7 hb7;have LG1_8:=stG LG1_7 hb7;have LG2_8:=stG LG2_7 hb7;clear LB7 LR7 LG0_7 LG1_7 LG2_7;unfold SameSign at hs4;clear hb7 q0_0 q0_1 q1_0 q1_1 q1_2 q1_3 q1_4 q1_5 q1_6 q1_7 q1_8 q1_9 q1_10 q1_11 q1_12
   by_cases hhi:0<c4'
   ·have hq4:0<r4:=by omega
    have MN:(if 0<c4' then b else j)=b:=by rw [if_pos hhi]
    clear hs4;obtain⟨q1_0,q1_1,q1_2,q1_3,q1_4,q1_5,q1_6,q1_7,q1_8,q1_9,q1_10,q1_11,q1_12⟩:=LG1_8.out.c13;go_wp2_with fail;refine (T6.out _ LB8.out hhi).mono ?_;rintro e w8 ⟨rfl,hb8⟩;have LB9:=stB LB8 hb8 LB8.out.size;have LR9:=stR LR8 hb8;have LG0_9:=stG LG0_8 hb8;have LG1_9:=stG LG1_8 hb8;have LG2_9:=stG LG2_8 hb8;clear LB8 LR8 LG0_8 LG1_8 LG2_8;clear hb8 hhi q1_0 q1_1 q1_2 q1_3 q1_4 q1_5 q1_6 q1_7 q1_8 q1_9 q1_10 q1_11 q1_12;have q2_1:=LG2_9.out.ce 1 rfl;have hf1:=LG2_9.out.frozen 1
    go_upto_region 12 with fail
    clear q2_1 hf1;have LB10:=Hd (LB9.out.setCell (p:=⟨wc.heap.size,1,none⟩) (show w.heap.size≤wc.heap.size by omega) (.int .u64 (l:Int)));have LR10:=Hd (show HasBlk (w8.setCell ⟨wc.heap.size,1,none⟩ (.int .u64 (l:Int))) (w.heap.size+2) 24 2 from LR9.out.other (by omega) 1 [.int .u64 (l:Int)]);have LG0_10:=Hd (show Blk (w8.setCell ⟨wc.heap.size,1,none⟩ (.int .u64 (l:Int))) w.heap.size 24 #[.int .u64 (p:Int),.int .u64 (q:Int)] from LG0_9.out.other (by omega) 1 [.int .u64 (l:Int)]);have LG1_10:=Hd (show Blk (w8.setCell ⟨wc.heap.size,1,none⟩ (.int .u64 (l:Int))) (w.heap.size+1) 84 #[.bool false,.int .i64 s1,.bool g1,.slice A1 n1 c1,.slice B1 m1 d1,.int .i64 N1,.bool o1,.int .i64 s2,.bool g2,.slice A2 n2 c2,.slice B2 m2 d2,.int .i64 N2,.bool o2] from LG1_9.out.other (by omega) 1 [.int .u64 (l:Int)]);have LG2_10:=Hd (LG2_9.out.set 1 (.int .u64 (l:Int)));clear LB9 LR9 LG0_9 LG1_9 LG2_9
    obtain⟨V8,hV8⟩:∃ X,w8.setCell ⟨wc.heap.size,1,none⟩ (.int .u64 (l:Int))=X:=⟨_,rfl⟩
    rw [hV8] at LB10 LR10 LG0_10 LG1_10 LG2_10 ⊢;clear hV8;obtain⟨q2_0,q2_1⟩:=LG2_10.out.c2
    have HRV:r=.agg #[.int .u64 (k:Int),.int .u64 (l:Int)]:=by rw [← HR.out,MX,MN,HKK.out,HLL.out]
    obtain⟨ha0,hf0,ha1,hf1⟩:=LR10.out.sf2;obtain⟨hk0,hk1⟩:=LR10.out.sc2 (.int .u64 (k:Int)) (.int .u64 (l:Int));have F:=Hd (below_sets (w0:=w) (r:=(w.heap.size+2)) (by omega) [.int .u64 (k:Int),.int .u64 (l:Int)] 0 _ LB10.out)
    simp [sets] at hk0 hk1
    have HV:=Hd HRV;clear HRV T3 T4 T5 T6 HE MX MN;go_wp2;refine bodyPost_ret (v:=.agg #[.int .u64 (k:Int),.int .u64 (l:Int)]) (by simp [results,Tryz.results147,go_sem,hk0,hk1]) rfl ?_
    exact⟨by rw [HV.out],F.out⟩
   ·have hq4:¬ 0<r4:=by omega
    have MN:(if 0<c4' then b else j)=j:=by rw [if_neg hhi]
    clear hs4;clear hhi;obtain⟨q2_0,q2_1⟩:=LG2_8.out.c2
    have HRV:r=.agg #[.int .u64 (k:Int),.int .u64 (q:Int)]:=by rw [← HR.out,MX,MN,HKK.out,HQQ.out]
    obtain⟨ha0,hf0,ha1,hf1⟩:=LR8.out.sf2;obtain⟨hk0,hk1⟩:=LR8.out.sc2 (.int .u64 (k:Int)) (.int .u64 (q:Int));have F:=Hd (below_sets (w0:=w) (r:=(w.heap.size+2)) (by omega) [.int .u64 (k:Int),.int .u64 (q:Int)] 0 _ LB8.out)
    simp [sets] at hk0 hk1
    have HV:=Hd HRV;clear HRV T3 T4 T5 T6 HE MX MN;go_wp2;refine bodyPost_ret (v:=.agg #[.int .u64 (k:Int),.int .u64 (q:Int)]) (by simp [results,Tryz.results147,go_sem,hk0,hk1]) rfl ?_
    exact⟨by rw [HV.out],F.out⟩
  ·have hq3:¬ r3<0:=by omega
   have MX:(if c3'<0 then a else i)=i:=by rw [if_neg hlo]
   clear hs3;clear hlo;obtain⟨q0_0,q0_1⟩:=LG0_5.out.c2;obtain⟨q1_0,q1_1,q1_2,q1_3,q1_4,q1_5,q1_6,q1_7,q1_8,q1_9,q1_10,q1_11,q1_12⟩:=LG1_5.out.c13;go_wp2_with fail;refine (T4.out _ LB5.out).mono ?_;rintro e w7 ⟨r4,rfl,hs4,hb7⟩;have LB6:=stB LB5 hb7 LB5.out.size;have LR6:=stR LR5 hb7;have LG0_6:=stG LG0_5 hb7;have LG1_6:=stG LG1_5 hb7;have LG2_6:=stG LG2_5 hb7;clear LB5 LR5 LG0_5 LG1_5 LG2_5;unfold SameSign at hs4;clear hb7 q0_0 q0_1 q1_0 q1_1 q1_2 q1_3 q1_4 q1_5 q1_6 q1_7 q1_8 q1_9 q1_10 q1_11 q1_12
   by_cases hhi:0<c4'
   ·have hq4:0<r4:=by omega
    have MN:(if 0<c4' then b else j)=b:=by rw [if_pos hhi]
    clear hs4;obtain⟨q1_0,q1_1,q1_2,q1_3,q1_4,q1_5,q1_6,q1_7,q1_8,q1_9,q1_10,q1_11,q1_12⟩:=LG1_6.out.c13;go_wp2_with fail;refine (T6.out _ LB6.out hhi).mono ?_;rintro e w8 ⟨rfl,hb8⟩;have LB7:=stB LB6 hb8 LB6.out.size;have LR7:=stR LR6 hb8;have LG0_7:=stG LG0_6 hb8;have LG1_7:=stG LG1_6 hb8;have LG2_7:=stG LG2_6 hb8;clear LB6 LR6 LG0_6 LG1_6 LG2_6;clear hb8 hhi q1_0 q1_1 q1_2 q1_3 q1_4 q1_5 q1_6 q1_7 q1_8 q1_9 q1_10 q1_11 q1_12;have q2_1:=LG2_7.out.ce 1 rfl;have hf1:=LG2_7.out.frozen 1
    go_upto_region 12 with fail
    clear q2_1 hf1;have LB8:=Hd (LB7.out.setCell (p:=⟨wc.heap.size,1,none⟩) (show w.heap.size≤wc.heap.size by omega) (.int .u64 (l:Int)));have LR8:=Hd (show HasBlk (w8.setCell ⟨wc.heap.size,1,none⟩ (.int .u64 (l:Int))) (w.heap.size+2) 24 2 from LR7.out.other (by omega) 1 [.int .u64 (l:Int)]);have LG0_8:=Hd (show Blk (w8.setCell ⟨wc.heap.size,1,none⟩ (.int .u64 (l:Int))) w.heap.size 24 #[.int .u64 (p:Int),.int .u64 (q:Int)] from LG0_7.out.other (by omega) 1 [.int .u64 (l:Int)]);have LG1_8:=Hd (show Blk (w8.setCell ⟨wc.heap.size,1,none⟩ (.int .u64 (l:Int))) (w.heap.size+1) 84 #[.bool false,.int .i64 s1,.bool g1,.slice A1 n1 c1,.slice B1 m1 d1,.int .i64 N1,.bool o1,.int .i64 s2,.bool g2,.slice A2 n2 c2,.slice B2 m2 d2,.int .i64 N2,.bool o2] from LG1_7.out.other (by omega) 1 [.int .u64 (l:Int)]);have LG2_8:=Hd (LG2_7.out.set 1 (.int .u64 (l:Int)));clear LB7 LR7 LG0_7 LG1_7 LG2_7
    obtain⟨V8,hV8⟩:∃ X,w8.setCell ⟨wc.heap.size,1,none⟩ (.int .u64 (l:Int))=X:=⟨_,rfl⟩
    rw [hV8] at LB8 LR8 LG0_8 LG1_8 LG2_8 ⊢;clear hV8;obtain⟨q2_0,q2_1⟩:=LG2_8.out.c2
    have HRV:r=.agg #[.int .u64 (p:Int),.int .u64 (l:Int)]:=by rw [← HR.out,MX,MN,HPP.out,HLL.out]
    obtain⟨ha0,hf0,ha1,hf1⟩:=LR8.out.sf2;obtain⟨hk0,hk1⟩:=LR8.out.sc2 (.int .u64 (p:Int)) (.int .u64 (l:Int));have F:=Hd (below_sets (w0:=w) (r:=(w.heap.size+2)) (by omega) [.int .u64 (p:Int),.int .u64 (l:Int)] 0 _ LB8.out)
    simp [sets] at hk0 hk1
    have HV:=Hd HRV;clear HRV T3 T4 T5 T6 HE MX MN;go_wp2;refine bodyPost_ret (v:=.agg #[.int .u64 (p:Int),.int .u64 (l:Int)]) (by simp [results,Tryz.results147,go_sem,hk0,hk1]) rfl ?_
    exact⟨by rw [HV.out],F.out⟩
   ·have hq4:¬ 0<r4:=by omega
    have MN:(if 0<c4' then b else j)=j:=by rw [if_neg hhi]
    clear hs4;clear hhi;obtain⟨q2_0,q2_1⟩:=LG2_6.out.c2
    have HRV:r=.agg #[.int .u64 (p:Int),.int .u64 (q:Int)]:=by rw [← HR.out,MX,MN,HPP.out,HQQ.out]
    obtain⟨ha0,hf0,ha1,hf1⟩:=LR6.out.sf2;obtain⟨hk0,hk1⟩:=LR6.out.sc2 (.int .u64 (p:Int)) (.int .u64 (q:Int));have F:=Hd (below_sets (w0:=w) (r:=(w.heap.size+2)) (by omega) [.int .u64 (p:Int),.int .u64 (q:Int)] 0 _ LB6.out)
    simp [sets] at hk0 hk1
    have HV:=Hd HRV;clear HRV T3 T4 T5 T6 HE MX MN;go_wp2;refine bodyPost_ret (v:=.agg #[.int .u64 (p:Int),.int .u64 (q:Int)]) (by simp [results,Tryz.results147,go_sem,hk0,hk1]) rfl ?_
    exact⟨by rw [HV.out],F.out⟩
 ·have hcc:=of_decide_eq_true hCC;rw [if_pos hcc] at hr
  simp only [pat_max,pat_min] at hr
  have HR:=Hd hr;clear hr hCC hcc;go_wp2_with fail;refine (HE.out _).mono ?_;rintro e w4 ⟨rfl,hb4⟩;have LB4:=stB LB3 hb4 LB3.out.size;have LR4:=stR LR3 hb4;have LG0_4:=stG LG0_3 hb4;have LG1_4:=stG LG1_3 hb4;clear LB3 LR3 LG0_3 LG1_3;obtain⟨ha0,hf0,ha1,hf1⟩:=LR4.out.sf2;obtain⟨hk0,hk1⟩:=LR4.out.sc2 (.int .u64 9218868437227405312) (.int .u64 18442240474082181120);have F:=Hd (below_sets (w0:=w) (r:=(w.heap.size+2)) (by omega) [.int .u64 9218868437227405312,.int .u64 18442240474082181120] 0 _ LB4.out)
  simp [sets] at hk0 hk1
  clear hb4 T3 T4 T5 T6;go_wp2;refine bodyPost_ret (v:=.agg #[.int .u64 9218868437227405312,.int .u64 18442240474082181120]) (by simp [results,Tryz.results147,go_sem,hk0,hk1]) rfl ?_
  exact⟨by rw [← HR.out];rfl,F.out⟩
end
section
open Go.RowKit
def SetOf(w:World)(v:Value)(i j:Int):Prop:=
 (i=M∧j=-(M:Int)∧∃ s x t y g A n c B m d g' A' n' c' B' m' d',v=.agg #[.bool true,.int .i64 s,.bool g,.slice A n c,.slice B m d,.int .i64 t,.bool g',.slice A' n' c',.slice B' m' d'] ∧
   RatV w 34 g (.slice A n c) (.slice B m d) x∧RatV w 34 g' (.slice A' n' c') (.slice B' m' d') y) ∨
 ((-(M:Int)≤i∧i≤j∧j≤M∧i<M∧-(M:Int)<j)∧∃ g A n c B m d g' A' n' c' B' m' d',v=.agg #[.bool false,.int .i64 (es i),.bool g,.slice A n c,.slice B m d,.int .i64 (es j),.bool g',.slice A' n' c',.slice B' m' d'] ∧
   RatV w 34 g (.slice A n c) (.slice B m d) (ex i)∧RatV w 34 g' (.slice A' n' c') (.slice B' m' d') (ex j))
theorem SetOf.below{w w':World}{v:Value}{i j:Int}(h:SetOf w v i j)(hb:Below w.heap.size w w'):SetOf w' v i j:=by
 rcases h with ⟨h1,h2,s,x,t,y,g,A,n,c,B,m,d,g',A',n',c',B',m',d',h3,h4,h5⟩ | ⟨h1,g,A,n,c,B,m,d,g',A',n',c',B',m',d',h3,h4,h5⟩
 ·exact .inl ⟨h1,h2,s,x,t,y,g,A,n,c,B,m,d,g',A',n',c',B',m',d',h3,h4.below hb,h5.below hb⟩
 ·exact .inr ⟨h1,g,A,n,c,B,m,d,g',A',n',c',B',m',d',h3,h4.below hb,h5.below hb⟩
theorem of_idx(x y:Nat)(w:World)(hx:x<18446744073709551616)(hy:y<18446744073709551616):
  Calls Tryz.prog 83 #[.agg #[.int .u64 (x:Int),.int .u64 (y:Int)]] w fun e w'=>∃ v,e=.returned v∧SetOf w' v (rd x y).1 (rd x y).2∧Below w.heap.size w w':=by
 cases h:snd x y
 ·refine (of_none x y w hx hy h).mono ?_;rintro e w' ⟨g,A,n,c,B,m,d,g',A',n',c',B',m',d',rfl,h1,h2,hb⟩;refine⟨_,rfl,.inl ?_,hb⟩;unfold rd;rw [h]
  exact⟨rfl,rfl,_,_,_,_,g,A,n,c,B,m,d,g',A',n',c',B',m',d',rfl,h1.k34,h2.k34⟩
 ·refine (of_full x y w hx hy h).mono ?_;rintro e w' ⟨g,A,n,c,B,m,d,g',A',n',c',B',m',d',rfl,h1,h2,hb⟩;refine⟨_,rfl,.inr ?_,hb⟩;have hd:=of_decide_eq_true h;have hi:=idx_bounds hd.1;have hj:=idx_bounds hd.2.1;unfold rd;rw [h]
  exact⟨⟨hi.1,hd.2.2.1,hj.2,hd.2.2.2.1,hd.2.2.2.2⟩,g,A,n,c,B,m,d,g',A',n',c',B',m',d',rfl,h1,h2⟩
def hl(i j i' j':Int):Int × Int:=if j<i then (i',j') else if j'<i' then (i,j) else (min i i',max j j')
theorem least_idx(v:Value)(i j:Int)(w:World)(h:SetOf w v i j):
  Calls Tryz.prog 145 #[v] w fun e w'=>e=.returned (.agg #[.int .u64 (pat i:Int),.int .u64 (pat j:Int)])∧Below w.heap.size w w':=by
 rcases h with ⟨rfl,rfl,s,x,t,y,g,A,n,c,B,m,d,g',A',n',c',B',m',d',rfl,h4,h5⟩ | ⟨h1,g,A,n,c,B,m,d,g',A',n',c',B',m',d',rfl,h4,h5⟩
 ·rw [pat_max,pat_min]
  exact least_none s g A n c B m d x t g' A' n' c' B' m' d' y w
 ·refine (least_some 34 _ g A n c B m d _ _ g' A' n' c' B' m' d' _ w h4 h5 (by omega)).mono ?_;rintro e w' ⟨i',j',rfl,r1,r2,r3,r4,hb⟩;rw [least_lo (by omega) (by omega) r1 r2,least_hi (by omega) (by omega) r3 r4]
  exact⟨rfl,hb⟩
theorem ec_sel_lo{i i':Int}(h0:-(M:Int)≤i∧i≤M)(h1:-(M:Int)≤i'∧i'≤M):
  (if ec (es i') (ex i') (es i) (ex i)<0 then es i' else es i)=es (min i i')∧(if ec (es i') (ex i') (es i) (ex i)<0 then ex i' else ex i)=ex (min i i'):=by
 have:=ec_idx h1.1 h1.2 h0.1 h0.2;unfold SameSign at this
 by_cases h:i'<i
 ·rw [if_pos (by omega),if_pos (by omega),show min i i'=i' from by omega];exact⟨rfl,rfl⟩
 ·rw [if_neg (by omega),if_neg (by omega),show min i i'=i from by omega];exact⟨rfl,rfl⟩
theorem ec_sel_hi{i i':Int}(h0:-(M:Int)≤i∧i≤M)(h1:-(M:Int)≤i'∧i'≤M):
  (if 0<ec (es i') (ex i') (es i) (ex i) then es i' else es i)=es (max i i')∧(if 0<ec (es i') (ex i') (es i) (ex i) then ex i' else ex i)=ex (max i i'):=by
 have:=ec_idx h1.1 h1.2 h0.1 h0.2;unfold SameSign at this
 by_cases h:i<i'
 ·rw [if_pos (by omega),if_pos (by omega),show max i i'=i' from by omega];exact⟨rfl,rfl⟩
 ·rw [if_neg (by omega),if_neg (by omega),show max i i'=i from by omega];exact⟨rfl,rfl⟩
theorem hull_idx(u v:Value)(i j i' j':Int)(w:World)(h:SetOf w u i j)(h':SetOf w v i' j'):
  Calls Tryz.prog 146 #[u,v] w fun e w'=>∃ t,e=.returned t∧SetOf w' t (hl i j i' j').1 (hl i j i' j').2∧Below w.heap.size w w':=by
 have hM:M=9218868437227405312:=rfl
 rcases h with ⟨rfl,rfl,s1,x1,t1,y1,g,A,n,c,B,m,d,g2,A2,n2,c2,B2,m2,d2,rfl,h4,h5⟩ | ⟨h1,g,A,n,c,B,m,d,g2,A2,n2,c2,B2,m2,d2,rfl,h4,h5⟩
 ·have hh:hl M (-(M:Int)) i' j'=(i',j'):=by unfold hl;rw [if_pos (by omega)]
  rw [hh]
  rcases h' with ⟨rfl,rfl,s3,x3,t3,y3,g',A',n',c',B',m',d',g4,A4,n4,c4,B4,m4,d4,rfl,h6,h7⟩ | ⟨h1',g',A',n',c',B',m',d',g4,A4,n4,c4,B4,m4,d4,rfl,h6,h7⟩
  ·refine (hull_left 34 true s1 g A n c B m d x1 t1 g2 A2 n2 c2 B2 m2 d2 y1 s3 g' A' n' c' B' m' d' x3 t3 g4 A4 n4 c4 B4 m4 d4 y3 w h4 h5 h6 h7).mono ?_;rintro e w' ⟨g5,A5,n5,c5,B5,m5,d5,g6,A6,n6,c6,B6,m6,d6,rfl,q1,q2,hb⟩
   exact⟨_,rfl,.inl ⟨rfl,rfl,_,_,_,_,_,_,_,_,_,_,_,_,_,_,_,_,_,_,rfl,q1,q2⟩,hb⟩
  ·refine (hull_left 34 false s1 g A n c B m d x1 t1 g2 A2 n2 c2 B2 m2 d2 y1 _ g' A' n' c' B' m' d' _ _ g4 A4 n4 c4 B4 m4 d4 _ w h4 h5 h6 h7).mono ?_;rintro e w' ⟨g5,A5,n5,c5,B5,m5,d5,g6,A6,n6,c6,B6,m6,d6,rfl,q1,q2,hb⟩
   exact⟨_,rfl,.inr ⟨h1',_,_,_,_,_,_,_,_,_,_,_,_,_,_,rfl,q1,q2⟩,hb⟩
 ·rcases h' with ⟨rfl,rfl,s3,x3,t3,y3,g',A',n',c',B',m',d',g4,A4,n4,c4,B4,m4,d4,rfl,h6,h7⟩ | ⟨h1',g',A',n',c',B',m',d',g4,A4,n4,c4,B4,m4,d4,rfl,h6,h7⟩
  ·have hh:hl i j M (-(M:Int))=(i,j):=by unfold hl;rw [if_neg (by omega),if_pos (by omega)]
   rw [hh];refine (hull_right 34 _ g A n c B m d _ _ g2 A2 n2 c2 B2 m2 d2 _ s3 g' A' n' c' B' m' d' x3 t3 g4 A4 n4 c4 B4 m4 d4 y3 w h4 h5 h6 h7).mono ?_;rintro e w' ⟨g5,A5,n5,c5,B5,m5,d5,g6,A6,n6,c6,B6,m6,d6,rfl,q1,q2,hb⟩
   exact⟨_,rfl,.inr ⟨h1,_,_,_,_,_,_,_,_,_,_,_,_,_,_,rfl,q1,q2⟩,hb⟩
  ·have hh:hl i j i' j'=(min i i',max j j'):=by unfold hl;rw [if_neg (by omega),if_neg (by omega)]
   rw [hh];have e1:=ec_sel_lo (i:=i) (i':=i') (by omega) (by omega);have e2:=ec_sel_hi (i:=j) (i':=j') (by omega) (by omega);have:=hull_both 34 (es i) g A n c B m d (ex i) (es j) g2 A2 n2 c2 B2 m2 d2 (ex j) (es i') g' A' n' c' B' m' d' (ex i') (es j') g4 A4 n4 c4 B4 m4 d4 (ex j') w h4 h5 h6 h7 (by omega);rw [e1.1,e1.2,e2.1,e2.2] at this;refine this.mono ?_;rintro e w' ⟨g5,A5,n5,c5,B5,m5,d5,g6,A6,n6,c6,B6,m6,d6,rfl,q1,q2,hb⟩
   exact⟨_,rfl,.inr ⟨by dsimp only;omega,_,_,_,_,_,_,_,_,_,_,_,_,_,_,rfl,q1,q2⟩,hb⟩
end
section
open Go.RowKit
theorem hl_iv{i j i' j':Int}(h:Iv i j)(h':Iv i' j'):Iv (hl i j i' j').1 (hl i j i' j').2:=by
 unfold hl
 split
 ·exact h'
 ·split
  ·exact h
  ·unfold Iv at *;rw [M_val] at *
   dsimp only
   omega
end
section
open Go.RowKit
def PcW(w:World)(o:Bool)(s1:Int)(g1:Bool)(A1:Option Addr)(n1 c1:Nat)(B1:Option Addr)(m1 d1:Nat)(N1:Int)(o1:Bool)(s2:Int)(g2:Bool)(A2:Option Addr)(n2 c2:Nat)(B2:Option Addr)(m2 d2:Nat)(N2:Int)(o2:Bool)(F:Int→Int→Int × Int):Prop:=
 (∀ i j,Iv i j→Iv (F i j).1 (F i j).2)∧∀ W i j,Below w.heap.size w W→Iv i j →
  Calls Tryz.prog 147 #[.agg #[.int .u64 (pat i:Int),.int .u64 (pat j:Int)],.agg #[.bool o,.int .i64 s1,.bool g1,.slice A1 n1 c1,.slice B1 m1 d1,.int .i64 N1,.bool o1,.int .i64 s2,.bool g2,.slice A2 n2 c2,.slice B2 m2 d2,.int .i64 N2,.bool o2]] W
   fun e w'=>e=.returned (.agg #[.int .u64 (pat (F i j).1:Int),.int .u64 (pat (F i j).2:Int)])∧Below W.heap.size W w'
def PcG(W:World)(ad:Addr)(k:Nat)(F:Int→Int→Int × Int):Prop:=
 ∃ o s1 g1 A1 n1 c1 B1 m1 d1 N1 o1 s2 g2 A2 n2 c2 B2 m2 d2 N2 o2,
  W.cell? (ad.add (k*13))=some (.bool o)∧W.cell? ⟨(ad.add (k*13)).block,(ad.add (k*13)).off+1,none⟩=some (.int .i64 s1)∧W.cell? ⟨(ad.add (k*13)).block,(ad.add (k*13)).off+2,none⟩=some (.bool g1) ∧
  W.cell? ⟨(ad.add (k*13)).block,(ad.add (k*13)).off+3,none⟩=some (.slice A1 n1 c1)∧W.cell? ⟨(ad.add (k*13)).block,(ad.add (k*13)).off+4,none⟩=some (.slice B1 m1 d1)∧W.cell? ⟨(ad.add (k*13)).block,(ad.add (k*13)).off+5,none⟩=some (.int .i64 N1) ∧
  W.cell? ⟨(ad.add (k*13)).block,(ad.add (k*13)).off+6,none⟩=some (.bool o1)∧W.cell? ⟨(ad.add (k*13)).block,(ad.add (k*13)).off+7,none⟩=some (.int .i64 s2)∧W.cell? ⟨(ad.add (k*13)).block,(ad.add (k*13)).off+8,none⟩=some (.bool g2) ∧
  W.cell? ⟨(ad.add (k*13)).block,(ad.add (k*13)).off+9,none⟩=some (.slice A2 n2 c2)∧W.cell? ⟨(ad.add (k*13)).block,(ad.add (k*13)).off+10,none⟩=some (.slice B2 m2 d2)∧W.cell? ⟨(ad.add (k*13)).block,(ad.add (k*13)).off+11,none⟩=some (.int .i64 N2) ∧
  W.cell? ⟨(ad.add (k*13)).block,(ad.add (k*13)).off+12,none⟩=some (.bool o2)∧PcW W o s1 g1 A1 n1 c1 B1 m1 d1 N1 o1 s2 g2 A2 n2 c2 B2 m2 d2 N2 o2 F
def zg(i j:Int)(L:Nat→Int→Int→Int × Int):Nat→Int × Int
 | 0=>((M:Int),-(M:Int))
 | k+1=>hl (zg i j L k).1 (zg i j L k).2 (L k i j).1 (L k i j).2
theorem zg_iv{i j:Int}{L:Nat→Int→Int→Int × Int}:∀ k:Nat,(∀ t:Nat,t<k→Iv (L t i j).1 (L t i j).2)→Iv (zg i j L k).1 (zg i j L k).2
 | 0,_=>Iv.none
 | k+1,h=>hl_iv (zg_iv k fun t ht=>h t (by omega)) (h k (by omega))
theorem all_gen(x y:Nat)(ad:Addr)(n c:Nat)(L:Nat→Int→Int→Int × Int)(w:World)(hx:x<18446744073709551616)(hy:y<18446744073709551616)(hn:n≤100)(hc:n≤c)(hL:∀ k:Nat,k<n→PcG w ad k (L k)):
  Calls Tryz.prog 79 #[.agg #[.int .u64 (x:Int),.int .u64 (y:Int)],.slice (some ad) n c] w fun e w'=>
   e=.returned (.agg #[.int .u64 (pat (zg (rd x y).1 (rd x y).2 L n).1:Int),.int .u64 (pat (zg (rd x y).1 (rd x y).2 L n).2:Int)])∧Below w.heap.size w w':=by
 have HR:=Hd fun W=>read6 x y W hx hy;have HE:=Hd empty6;have hiv:=rd_iv x y
 obtain⟨i,hi⟩:∃ i,(rd x y).1=i:=⟨_,rfl⟩
 obtain⟨j,hj⟩:∃ i,(rd x y).2=i:=⟨_,rfl⟩
 rw [hi,hj] at HR hiv ⊢
 have HZI:=Hd fun (k:Nat) (hk:k≤n)=>zg_iv (L:=L) (i:=i) (j:=j) k fun t ht=>by
  obtain⟨o,s1,g1,A1,n1,c1,B1,m1,d1,N1,o1,s2,g2,A2,n2,c2,B2,m2,d2,N2,o2,-,-,-,-,-,-,-,-,-,-,-,-,-,h,-⟩:=hL t (by omega)
  exact h i j hiv
 have HIV:=Hd hiv;have HL:=Hd hL
 obtain⟨p,hp⟩:∃ p,pat i=p:=⟨_,rfl⟩
 obtain⟨q,hq⟩:∃ p,pat j=p:=⟨_,rfl⟩
 rw [hp,hq] at HR;have HP:=Hd hp;have HQ:=Hd hq
 obtain⟨zz,hzz⟩:∃ f:Nat→Int × Int,f=zg i j L:=⟨_,rfl⟩
 rw [← hzz] at HZI ⊢;have HZZ:=Hd hzz;clear hi hj hp hq hL hiv hzz;obtain⟨LB0,LG0_0,LR⟩:=bx2 w #[.int .u64 (x:Int),.int .u64 (y:Int)] 24 #[.int .u64 0,.int .u64 0] 24;have LR0:=Hd (HasBlk.of (n:=2) LR.out rfl rfl);clear LR
 go_enter Tryz.func79,Tryz.ntmps79
 go_wp2_with fail;refine (HR.out _).mono ?_;rintro e w1 ⟨rfl,hb1⟩;have LB1:=stB LB0 hb1 LB0.out.size;have LR1:=stR LR0 hb1;have LG0_1:=stG LG0_0 hb1;clear LB0 LR0 LG0_0;have hl1:=LB1.out.size;have hlr1:=LR1.out.lt;have hlt2:=LR1.out.lt;have LB2:=Hd (LB1.out.alloc LB1.out.size (.cells #[.int .u64 (p:Int),.int .u64 (q:Int)] 24));have LR2:=Hd (LR1.out.alloc (.cells #[.int .u64 (p:Int),.int .u64 (q:Int)] 24));have LG0_2:=Hd (LG0_1.out.alloc (.cells #[.int .u64 (p:Int),.int .u64 (q:Int)] 24));have LG1_2:=Hd (Blk.new w1 24 #[.int .u64 (p:Int),.int .u64 (q:Int)]);clear LB1 LR1 LG0_1;clear hb1
 have hl2:w1.heap.size<(w1.alloc (.cells #[.int .u64 (p:Int),.int .u64 (q:Int)] 24)).heap.size:=by simp
 go_wp2_with fail;refine (HE.out _).mono ?_;rintro e w2 ⟨rfl,hb2⟩;have LB3:=stB LB2 hb2 LB2.out.size;have LR3:=stR LR2 hb2;have LG0_3:=stG LG0_2 hb2;have LG1_3:=stG LG1_2 hb2;clear LB2 LR2 LG0_2 LG1_2;have hl3:=hb2.size
 have hl4:w1.heap.size<w2.heap.size:=by omega
 clear hl2 hl3;have hlt4:=LR3.out.lt;have LB4:=Hd (LB3.out.alloc LB3.out.size (.cells #[.int .u64 9218868437227405312,.int .u64 18442240474082181120] 24));have LR4:=Hd (LR3.out.alloc (.cells #[.int .u64 9218868437227405312,.int .u64 18442240474082181120] 24));have LG0_4:=Hd (LG0_3.out.alloc (.cells #[.int .u64 9218868437227405312,.int .u64 18442240474082181120] 24));have LG1_4:=Hd (LG1_3.out.alloc (.cells #[.int .u64 9218868437227405312,.int .u64 18442240474082181120] 24));have LG2_4:=Hd (Blk.new w2 24 #[.int .u64 9218868437227405312,.int .u64 18442240474082181120]);clear LB3 LR3 LG0_3 LG1_3;clear hb2;have hl5:=LB4.out.size;go_wp2_with fail
 have hl6:w.heap.size+1<w2.heap.size:=by omega
 go_loopw [7] (fun iv wr=>∃ k:Nat,iv=.int .i64 (k:Int)∧k≤n∧Blk wr w1.heap.size 24 #[.int .u64 (p:Int),.int .u64 (q:Int)]∧Blk wr w2.heap.size 24 #[.int .u64 (pat (zz k).1:Int),.int .u64 (pat (zz k).2:Int)]∧HasBlk wr (w.heap.size+1) 24 2∧Below w.heap.size w wr) (fun iv _=>n - (intOf iv).toNat)
 case atStart=>
  refine⟨0,rfl,by omega,LG1_4.out,?_,LR4.out,LB4.out⟩
  have e:zz 0=((M:Int),-(M:Int)):=by rw [HZZ.out];rfl
  rw [e,pat_max,pat_min]
  exact LG2_4.out
 case round=>
  clear LB4 LR4 LG0_4 LG1_4 LG2_4;obtain⟨k,rfl,hk,gy,gz,gr,gb⟩:=hrel;have hiz:=HZI.out k hk
  by_cases h:k<n
  ·have h2:(k:Int)<(n:Int):=by omega
   have gy0:=Hd gy;have gz0:=Hd gz;have gr0:=Hd gr;have gb0:=Hd gb;obtain⟨o,s1,g1,A1,n1,c1,B1,m1,d1,N1,o1,s2,g2,A2,n2,c2,B2,m2,d2,N2,o2,u0,u1,u2,u3,u4,u5,u6,u7,u8,u9,u10,u11,u12,riv,rcall⟩:=HL.out k h;have hwi:=riv i j HIV.out
   have e1:zz (k+1)=hl (zz k).1 (zz k).2 (L k i j).1 (L k i j).2:=by rw [HZZ.out];rfl
   have HWI:=Hd fun W (hW:Below w.heap.size w W)=>rcall W i j hW HIV.out;rw [HP.out,HQ.out] at HWI
   obtain⟨v1,hv1⟩:∃ v,(L k i j).1=v:=⟨_,rfl⟩
   obtain⟨v2,hv2⟩:∃ v,(L k i j).2=v:=⟨_,rfl⟩
   obtain⟨z1,hz1⟩:∃ v,(zz k).1=v:=⟨_,rfl⟩
   obtain⟨z2,hz2⟩:∃ v,(zz k).2=v:=⟨_,rfl⟩
   rw [hv1,hv2] at HWI hwi e1;rw [hz1,hz2] at gz0 hiz e1;have HO1:=Hd fun W=>of_idx (pat z1) (pat z2) W (pat_lt hiz.lo.1 hiz.lo.2) (pat_lt hiz.hi.1 hiz.hi.2);have HO2:=Hd fun W=>of_idx (pat v1) (pat v2) W (pat_lt hwi.lo.1 hwi.lo.2) (pat_lt hwi.hi.1 hwi.hi.2);rw [rd_pat hiz] at HO1;rw [rd_pat hwi] at HO2
   dsimp only at HO1 HO2
   obtain⟨t1,ht1⟩:∃ v,(hl z1 z2 v1 v2).1=v:=⟨_,rfl⟩
   obtain⟨t2,ht2⟩:∃ v,(hl z1 z2 v1 v2).2=v:=⟨_,rfl⟩
   have HH:=Hd fun W u v hu hv=>hull_idx u v z1 z2 v1 v2 W hu hv;rw [ht1,ht2] at HH;have HE1:=Hd (show (zz (k+1)).1=t1∧(zz (k+1)).2=t2 from by rw [e1];exact⟨ht1,ht2⟩)
   obtain⟨P1,hP1⟩:∃ v,pat z1=v:=⟨_,rfl⟩
   obtain⟨P2,hP2⟩:∃ v,pat z2=v:=⟨_,rfl⟩
   obtain⟨Q1,hQ1⟩:∃ v,pat v1=v:=⟨_,rfl⟩
   obtain⟨Q2,hQ2⟩:∃ v,pat v2=v:=⟨_,rfl⟩
   obtain⟨P3,hP3⟩:∃ v,pat t1=v:=⟨_,rfl⟩
   obtain⟨P4,hP4⟩:∃ v,pat t2=v:=⟨_,rfl⟩
   have HLE:=Hd fun W u hu=>least_idx u t1 t2 W hu;rw [hP1,hP2] at HO1 gz0;rw [hQ1,hQ2] at HO2 HWI;rw [hP3,hP4] at HLE;have HP3:=Hd hP3;have HP4:=Hd hP4
   have HU:=Hd fun W (hW:Below w.heap.size w W)=>(⟨cell_below u0 hW,cell_below u1 hW,cell_below u2 hW,cell_below u3 hW,cell_below u4 hW,cell_below u5 hW,cell_below u6 hW,cell_below u7 hW,cell_below u8 hW,cell_below u9 hW,cell_below u10 hW,cell_below u11 hW,cell_below u12 hW⟩:_∧_∧_∧_∧_∧_∧_∧_∧_∧_∧_∧_∧_)
   clear hv1 hv2 hz1 hz2 ht1 ht2 hP1 hP2 hQ1 hQ2 hP3 hP4 u0 u1 u2 u3 u4 u5 u6 u7 u8 u9 u10 u11 u12 riv rcall hwi hiz e1 gy gz gr gb hk;go_wp2_with fail;refine wp_region_held_drew (S:=fun W'=>Blk W' w1.heap.size 24 #[.int .u64 (p:Int),.int .u64 (q:Int)]∧HasBlk W' w2.heap.size 24 2∧HasBlk W' (w.heap.size+1) 24 2∧Below w.heap.size w W') (by kernel_rfl) (by exact⟨gy0.out.drew,HasBlk.of (n:=2) gz0.out.drew rfl rfl,gr0.out.drew,gb0.out.drew⟩) (fun hHeld=>?_);refine tk 2 ?_ (hv:=by intro W2 hSw;obtain⟨q0,q1⟩:=hSw.1.c2;go_simp;(try with_reducible rfl));(try simp only [Act.put,lay]);refine tk 3 ?_;(try simp only [Act.put,lay]);refine tk 4 ?_;(try simp only [Act.put,lay]);refine tk 5 ?_;(try simp only [Act.put,lay]);refine tk 6 ?_ (hv:=by intro W2 hSw;obtain⟨u0,u1,u2,u3,u4,u5,u6,u7,u8,u9,u10,u11,u12⟩:=HU.out W2 hSw.2.2.2;go_simp;(try with_reducible rfl));(try simp only [Act.put,lay]);refine rdy 0 (fun KK hKK=>?_);have q0:_=some (.int .u64 (P1:Int):Value):=gz0.out.drew.cell 0;have q1:_=some (.int .u64 (P2:Int):Value):=gz0.out.drew.cell 1;go_simp;refine hKK.out _ _ hHeld (fun _=>?_);clear hKK KK hHeld;rename_i hHeld;(try simp only [Act.put,lay]);refine rdy 1 (fun KK hKK=>?_);go_simp;refine (HO1.out _).mono ?_;rintro e wa ⟨u,rfl,hu,hba⟩;go_wp2_with fail;refine hKK.out _ _ (⟨hHeld.1.keep hba,hHeld.2.1.keep hba,hHeld.2.2.1.keep hba,hHeld.2.2.2.trans (hba.mono hHeld.2.2.2.size)⟩) (fun _=>?_);clear hKK KK hHeld;rename_i hHeld;(try simp only [Act.put,lay]);refine rdy 7 (fun KK hKK=>?_);go_simp;refine (HWI.out _ hHeld.2.2.2).mono ?_
   rintro e wb ⟨rfl,hbb⟩;go_wp2_with fail;refine hKK.out _ _ (⟨hHeld.1.keep hbb,hHeld.2.1.keep hbb,hHeld.2.2.1.keep hbb,hHeld.2.2.2.trans (hbb.mono hHeld.2.2.2.size)⟩) (fun _=>?_);clear hKK KK hHeld;rename_i hHeld;(try simp only [Act.put,lay]);refine rdy 8 (fun KK hKK=>?_);go_simp;refine (HO2.out _).mono ?_;rintro e wc ⟨v,rfl,hv,hbc⟩;go_wp2_with fail;refine hKK.out _ _ (⟨hHeld.1.keep hbc,hHeld.2.1.keep hbc,hHeld.2.2.1.keep hbc,hHeld.2.2.2.trans (hbc.mono hHeld.2.2.2.size)⟩) (fun _=>?_);clear hKK KK hHeld;rename_i hHeld;(try simp only [Act.put,lay]);refine rdy 9 (fun KK hKK=>?_);go_simp;refine (HH.out _ u v ((hu.below hbb).below hbc) hv).mono ?_;rintro e wd ⟨t,rfl,ht,hbd⟩;go_wp2_with fail;refine hKK.out _ _ (⟨hHeld.1.keep hbd,hHeld.2.1.keep hbd,hHeld.2.2.1.keep hbd,hHeld.2.2.2.trans (hbd.mono hHeld.2.2.2.size)⟩) (fun _=>?_);clear hKK KK hHeld;rename_i hHeld;(try simp only [Act.put,lay]);refine rdy 10 (fun KK hKK=>?_);go_simp;refine (HLE.out _ t ht).mono ?_;rintro e wf ⟨rfl,hbf⟩;go_wp2_with fail;refine hKK.out _ _ (⟨hHeld.1.keep hbf,hHeld.2.1.keep hbf,hHeld.2.2.1.keep hbf,hHeld.2.2.2.trans (hbf.mono hHeld.2.2.2.size)⟩) (fun _=>?_);clear hKK KK hHeld;rename_i hHeld;(try simp only [Act.put,lay]);refine rdy 11 (fun KK hKK=>?_);have ha0:=hHeld.2.1.someCell 0 (by decide);have hf0:=hHeld.2.1.frozen 0;have ha1:=hHeld.2.1.someCell 1 (by decide);have hf1:=hHeld.2.1.frozen 1;have HZN:=Hd (hHeld.2.1.laid [.int .u64 (P3:Int),.int .u64 (P4:Int)] rfl);go_simp;refine hKK.out _ _ (⟨hHeld.1.other (by omega) 0 [.int .u64 (P3:Int),.int .u64 (P4:Int)],hHeld.2.1.sets [.int .u64 (P3:Int),.int .u64 (P4:Int)] rfl rfl,hHeld.2.2.1.other (by omega) 0 [.int .u64 (P3:Int),.int .u64 (P4:Int)],below_sets (by omega) [.int .u64 (P3:Int),.int .u64 (P4:Int)] 0 _ hHeld.2.2.2⟩) (fun _=>?_)
   clear hKK KK hHeld;rename_i hHeld;(try simp only [Act.put,lay]);refine wpAnyH_done (by kernel_rfl) ?_ _;have HF:=Hd hHeld;clear hHeld hu hv ht hba hbb hbc hbd hbf ha0 ha1 hf0 hf1 gy0 gz0 gr0 gb0 HU HWI HO1 HO2 HH HLE;go_wp2
   go_roundw
   case rel=>
    refine⟨k+1,by go_num,by omega,HF.out.1,?_,HF.out.2.2.1,HF.out.2.2.2⟩;rw [HE1.out.1,HE1.out.2,HP3.out,HP4.out]
    exact HZN.out
   case measure=>simp [intOf];omega
  ·have h2:¬ (k:Int)<(n:Int):=by omega
   obtain rfl:k=n:=by omega
   obtain⟨Q1,hQ1⟩:∃ v,pat (zz k).1=v:=⟨_,rfl⟩
   obtain⟨Q2,hQ2⟩:∃ v,pat (zz k).2=v:=⟨_,rfl⟩
   rw [hQ1,hQ2] at gz;have LB9:=Hd gb;have LR9:=Hd gr;have LG2_9:=Hd gz;have HQ1:=Hd hQ1;have HQ2:=Hd hQ2;clear gy gz gr gb hiz hQ1 hQ2;obtain⟨q2_0,q2_1⟩:=LG2_9.out.c2;obtain⟨ha0,hf0,ha1,hf1⟩:=LR9.out.sf2;obtain⟨hk0,hk1⟩:=LR9.out.sc2 (.int .u64 (Q1:Int)) (.int .u64 (Q2:Int));have F:=Hd (below_sets (w0:=w) (r:=(w.heap.size+1)) (by omega) [.int .u64 (Q1:Int),.int .u64 (Q2:Int)] 0 _ LB9.out)
   simp [sets] at hk0 hk1
   go_wp2;refine bodyPost_ret (v:=.agg #[.int .u64 (Q1:Int),.int .u64 (Q2:Int)]) (by simp [results,Tryz.results79,go_sem,hk0,hk1]) rfl ?_
   exact⟨by rw [HQ1.out,HQ2.out],F.out⟩
end
section
open Go.RowKit
theorem PcG.of{W:World}{g:Nat}{t:TypeId}{cs:Array Value}{k:Nat}{F:Int→Int→Int × Int}(hb:Blk W g t cs){o:Bool}{s1:Int}{g1:Bool}{A1:Option Addr}{n1 c1:Nat}{B1:Option Addr}{m1 d1:Nat}{N1:Int}{o1:Bool}{s2:Int}{g2:Bool}{A2:Option Addr}{n2 c2:Nat}{B2:Option Addr}{m2 d2:Nat}{N2:Int}{o2:Bool}
  (h:PcW W o s1 g1 A1 n1 c1 B1 m1 d1 N1 o1 s2 g2 A2 n2 c2 B2 m2 d2 N2 o2 F)
  (hc:∀ i:Nat,i<13→cs[k*13+i]?=(#[.bool o,.int .i64 s1,.bool g1,.slice A1 n1 c1,.slice B1 m1 d1,.int .i64 N1,.bool o1,.int .i64 s2,.bool g2,.slice A2 n2 c2,.slice B2 m2 d2,.int .i64 N2,.bool o2]:Array Value)[i]?):PcG W ⟨g,0,none⟩ k F:=by
 have e:(⟨g,0,none⟩:Addr).add (k*13)=⟨g,k*13,none⟩:=by unfold Addr.add;split<;>simp_all
 have c:∀ i:Nat,i<13→W.cell? ⟨g,k*13+i,none⟩=(#[.bool o,.int .i64 s1,.bool g1,.slice A1 n1 c1,.slice B1 m1 d1,.int .i64 N1,.bool o1,.int .i64 s2,.bool g2,.slice A2 n2 c2,.slice B2 m2 d2,.int .i64 N2,.bool o2]:Array Value)[i]?:=fun i hi=>(hb.cell _).trans (hc i hi);refine⟨o,s1,g1,A1,n1,c1,B1,m1,d1,N1,o1,s2,g2,A2,n2,c2,B2,m2,d2,N2,o2,?_,?_,?_,?_,?_,?_,?_,?_,?_,?_,?_,?_,?_,h⟩
 ·rw [e];exact c 0 (by omega)
 ·rw [e];exact c 1 (by omega)
 ·rw [e];exact c 2 (by omega)
 ·rw [e];exact c 3 (by omega)
 ·rw [e];exact c 4 (by omega)
 ·rw [e];exact c 5 (by omega)
 ·rw [e];exact c 6 (by omega)
 ·rw [e];exact c 7 (by omega)
 ·rw [e];exact c 8 (by omega)
 ·rw [e];exact c 9 (by omega)
 ·rw [e];exact c 10 (by omega)
 ·rw [e];exact c 11 (by omega)
 ·rw [e];exact c 12 (by omega)
theorem SetOf.setB{w:World}{v:Value}{i j:Int}(h:SetOf w v i j){g:Nat}{t:TypeId}{cs:Array Value}(hb:Blk w g t cs)(hc:NoWd cs)(k:Nat)(vs:List Value):SetOf (sets w g k vs) v i j:=by
 rcases h with ⟨rfl,rfl,s,x,t,y,g,A,n,c,B,m,d,g',A',n',c',B',m',d',rfl,h4,h5⟩ | ⟨h1,g,A,n,c,B,m,d,g',A',n',c',B',m',d',rfl,h4,h5⟩
 ·exact .inl ⟨rfl,rfl,s,x,t,y,g,A,n,c,B,m,d,g',A',n',c',B',m',d',rfl,h4.sets hb hc k vs,h5.sets hb hc k vs⟩
 ·exact .inr ⟨h1,g,A,n,c,B,m,d,g',A',n',c',B',m',d',rfl,h4.sets hb hc k vs,h5.sets hb hc k vs⟩
theorem SetOf.setsE{w W':World}{v:Value}{i j:Int}(h:SetOf w v i j){g:Nat}{t:TypeId}{cs:Array Value}{k:Nat}{vs:List Value}(hb:Blk w g t cs)(hc:NoWd cs)(e:sets w g k vs=W'):SetOf W' v i j:=e ▸ h.setB hb hc k vs
def NewSetI(w:World)(i j:Int)(e:Ending)(w':World):Prop:=
 ∃ o s g A n c B m d t g' A' n' c' B' m' d',e=.returned (.agg #[.bool o,.int .i64 s,.bool g,.slice A n c,.slice B m d,.int .i64 t,.bool g',.slice A' n' c',.slice B' m' d']) ∧
  SetOf w' (.agg #[.bool o,.int .i64 s,.bool g,.slice A n c,.slice B m d,.int .i64 t,.bool g',.slice A' n' c',.slice B' m' d']) i j∧Below w.heap.size w w'
theorem SetOf.cells{w:World}{v:Value}{i j:Int}(h:SetOf w v i j):∃ o s g A n c B m d t g' A' n' c' B' m' d',v=.agg #[.bool o,.int .i64 s,.bool g,.slice A n c,.slice B m d,.int .i64 t,.bool g',.slice A' n' c',.slice B' m' d']:=by
 rcases h with ⟨-,-,s,x,t,y,g,A,n,c,B,m,d,g',A',n',c',B',m',d',rfl,-,-⟩ | ⟨-,g,A,n,c,B,m,d,g',A',n',c',B',m',d',rfl,-,-⟩
 ·exact⟨_,_,_,_,_,_,_,_,_,_,_,_,_,_,_,_,_,rfl⟩
 ·exact⟨_,_,_,_,_,_,_,_,_,_,_,_,_,_,_,_,_,rfl⟩
theorem of_i(x y:Nat)(w:World)(hx:x<18446744073709551616)(hy:y<18446744073709551616):
  Calls Tryz.prog 83 #[.agg #[.int .u64 (x:Int),.int .u64 (y:Int)]] w (NewSetI w (rd x y).1 (rd x y).2):=
 (of_idx x y w hx hy).mono fun e w' ⟨v,he,hs,hb⟩=>by
  obtain⟨o,s,g,A,n,c,B,m,d,t,g',A',n',c',B',m',d',rfl⟩:=hs.cells
  exact⟨o,s,g,A,n,c,B,m,d,t,g',A',n',c',B',m',d',he,hs,hb⟩
theorem PcG.at{W:World}{g:Nat}{t:TypeId}{cs:Array Value}(hb:Blk W g t cs)(k:Nat){o:Bool}{s1:Int}{g1:Bool}{A1:Option Addr}{n1 c1:Nat}{B1:Option Addr}{m1 d1:Nat}{N1:Int}{o1:Bool}{s2:Int}{g2:Bool}{A2:Option Addr}{n2 c2:Nat}{B2:Option Addr}{m2 d2:Nat}{N2:Int}{o2:Bool}{F:Int→Int→Int × Int}
  (h:PcW W o s1 g1 A1 n1 c1 B1 m1 d1 N1 o1 s2 g2 A2 n2 c2 B2 m2 d2 N2 o2 F)
  (hc:cs[k*13]?=some (.bool o)∧cs[k*13+1]?=some (.int .i64 s1)∧cs[k*13+2]?=some (.bool g1)∧cs[k*13+3]?=some (.slice A1 n1 c1)∧cs[k*13+4]?=some (.slice B1 m1 d1)∧cs[k*13+5]?=some (.int .i64 N1)∧cs[k*13+6]?=some (.bool o1)∧cs[k*13+7]?=some (.int .i64 s2)∧cs[k*13+8]?=some (.bool g2)∧cs[k*13+9]?=some (.slice A2 n2 c2)∧cs[k*13+10]?=some (.slice B2 m2 d2)∧cs[k*13+11]?=some (.int .i64 N2)∧cs[k*13+12]?=some (.bool o2)):PcG W ⟨g,0,none⟩ k F:=
 PcG.of hb h fun i hi=>by
  obtain⟨c0,c1,c2,c3,c4,c5,c6,c7,c8,c9,c10,c11,c12⟩:=hc
  match i,hi with
  | 0,_=>exact c0 | 1,_=>exact c1 | 2,_=>exact c2 | 3,_=>exact c3 | 4,_=>exact c4 | 5,_=>exact c5 | 6,_=>exact c6 | 7,_=>exact c7 | 8,_=>exact c8 | 9,_=>exact c9 | 10,_=>exact c10 | 11,_=>exact c11 | 12,_=>exact c12
end
section
open Go.RowKit
theorem turned_any(K:Nat)(s1:Int)(g1:Bool)(A1:Option Addr)(n1 c1:Nat)(B1:Option Addr)(m1 d1:Nat)(x1:Rat)(w:World)(h1:RatV w K g1 (.slice A1 n1 c1) (.slice B1 m1 d1) x1)(hK:K≤1073741824)(hs:-1≤s1∧s1≤1):
  Calls Tryz.prog 181 #[.agg #[.int .i64 s1,.bool g1,.slice A1 n1 c1,.slice B1 m1 d1]] w (NewEnd w K (-s1) (-x1)):=by
 have HN:=Hd fun W (hW:Below w.heap.size w W)=>(rneg_any K g1 _ _ x1 W (h1.below hW) hK).mono fun _ _ h=>h.s
 have hw:IntKind.i64.wrap (-s1)=-s1:=by rw [IntKind.wrap_i64];omega
 clear h1 hs;obtain⟨LB0,LG0_0,LR⟩:=bx2 w #[.int .i64 s1,.bool g1,.slice A1 n1 c1,.slice B1 m1 d1] 87 #[.int .i64 0,.bool false,.slice none 0 0,.slice none 0 0] 87;have LR0:=Hd (HasBlk.of (n:=4) LR.out rfl rfl);clear LR
 go_enter Tryz.func181,Tryz.ntmps181
 go_wp2_with fail;refine wp_region_held_drew (S:=fun W'=>Blk W' w.heap.size 87 #[.int .i64 s1,.bool g1,.slice A1 n1 c1,.slice B1 m1 d1]∧HasBlk W' (w.heap.size+1) 87 4∧Below w.heap.size w W') (by kernel_rfl) (by exact⟨LG0_0.out.drew,LR0.out.drew,LB0.out.drew⟩) (fun hHeld=>?_);refine tk 0 ?_;(try simp only [Act.put,List.setIfInBounds_toArray,List.set_cons_zero,List.set_cons_succ]);refine tk 1 ?_ (hv:=by intro W2 hSw;obtain⟨q0,q1,q2,q3⟩:=hSw.1.c4;go_simp;(try with_reducible rfl));(try simp only [Act.put,List.setIfInBounds_toArray,List.set_cons_zero,List.set_cons_succ]);refine tk 2 ?_;(try simp only [Act.put,List.setIfInBounds_toArray,List.set_cons_zero,List.set_cons_succ]);refine tk 3 ?_;(try simp only [Act.put,List.setIfInBounds_toArray,List.set_cons_zero,List.set_cons_succ]);refine tk 4 ?_ (hv:=by intro W2 hSw;obtain⟨q0,q1,q2,q3⟩:=hSw.1.c4;go_simp;(try with_reducible rfl));(try simp only [Act.put,List.setIfInBounds_toArray,List.set_cons_zero,List.set_cons_succ]);refine rdy 5 (fun KK hKK=>?_);go_simp;refine (HN.out _ ?_).mono ?_;exact hHeld.2.2;rintro e w1 ⟨g2,A2,n2,c2,B2,m2,d2,rfl,h2,hb2⟩;go_wp2_with fail;refine hKK.out _ _ (⟨hHeld.1.keep hb2,hHeld.2.1.keep hb2,hHeld.2.2.trans (hb2.mono hHeld.2.2.size)⟩) (fun _=>?_);clear hKK KK hHeld;rename_i hHeld;(try simp only [Act.put,List.setIfInBounds_toArray,List.set_cons_zero,List.set_cons_succ]);refine tk 6 ?_;(try simp only [Act.put,List.setIfInBounds_toArray,List.set_cons_zero,List.set_cons_succ]);refine rdy 7 (fun KK hKK=>?_);have ha0:=hHeld.2.1.someCell 0 (by decide);have hf0:=hHeld.2.1.frozen 0;have ha1:=hHeld.2.1.someCell 1 (by decide);have hf1:=hHeld.2.1.frozen 1;have ha2:=hHeld.2.1.someCell 2 (by decide);have hf2:=hHeld.2.1.frozen 2;have ha3:=hHeld.2.1.someCell 3 (by decide);have hf3:=hHeld.2.1.frozen 3;have HK:=Hd (hHeld.2.1.setCell [.int .i64 (-s1),.bool g2,.slice A2 n2 c2,.slice B2 m2 d2] rfl);have F:=Hd (below_sets (w0:=w) (r:=(w.heap.size+1)) (by omega) [.int .i64 (-s1),.bool g2,.slice A2 n2 c2,.slice B2 m2 d2] 0 _ hHeld.2.2);have FR:=Hd (hHeld.2.1.rat h2 [.int .i64 (-s1),.bool g2,.slice A2 n2 c2,.slice B2 m2 d2])
 go_simp;refine hKK.out _ _ (⟨hHeld.1.other (by omega) 0 [.int .i64 (-s1),.bool g2,.slice A2 n2 c2,.slice B2 m2 d2],hHeld.2.1.sets [.int .i64 (-s1),.bool g2,.slice A2 n2 c2,.slice B2 m2 d2] rfl rfl,below_sets (by omega) [.int .i64 (-s1),.bool g2,.slice A2 n2 c2,.slice B2 m2 d2] 0 _ hHeld.2.2⟩) (fun _=>?_);clear hKK KK hHeld;rename_i hHeld;(try simp only [Act.put,List.setIfInBounds_toArray,List.set_cons_zero,List.set_cons_succ]);refine wpAnyH_done (by kernel_rfl) ?_ _;have hk0:=HK.out 0 (by decide);have hk1:=HK.out 1 (by decide);have hk2:=HK.out 2 (by decide);have hk3:=HK.out 3 (by decide)
 simp [sets] at hk0 hk1 hk2 hk3
 clear hHeld HK;go_wp2;refine bodyPost_ret (v:=.agg #[.int .i64 (-s1),.bool g2,.slice A2 n2 c2,.slice B2 m2 d2]) (by simp [results,Tryz.results181,go_sem,hk0,hk1,hk2,hk3]) rfl ?_
 exact⟨_,_,_,_,_,_,_,rfl,FR.out,F.out⟩
end
end Go.Proofs.YthlmlmfebpjgdaaGreatDoor
