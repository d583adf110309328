/-
Walks: patterns as floats.
Walks: math.Inf, package ival.
Walks: package ival, intervals of floats.
Walks: package ival, negatives; package rel.
A ratio rounded down and up to an index: plain law.
A ratio rounded down and up to an index: plain law, second half.
Walks: package vergeref3, made, infinite, greatest.
What the quotient's loops keep.
Walks: package vergeref2, sub.
Walks: package vergeref2, guess.
Walks: package vergeref2, By.
Walks: package vergeref2, By, where the first one is not below the second.
Walks: package vergeref2, Word.
Walks: package vergeref3, rounded, Bits.
Walks: package vergeref3, Bits.
Walks: package vergeref6, Least, Neg.
Walks: package vergeref6, Neg.
-/
import Derived.Test.YthlmlmfebpjgdaaGreatDoorM05
import Derived.Laws.Externs
import Derived.Test.YthlmlmfebpjgdaaGreatDoorM03
import Derived.Deep.DeepCutAuto
import Derived.Test.YthlmlmfebpjgdaaGreatDoorM01
import Derived.Test.YthlmlmfebpjgdaaGreatDoorPMinusT
import Derived.Test.YthlmlmfebpjgdaaGreatDoorM02
set_option linter.unusedSimpArgs false
set_option linter.unusedVariables false
set_option maxHeartbeats 12800000
namespace Go.Proofs.YthlmlmfebpjgdaaGreatDoor
open Go.RowKit
theorem run_frombits(b:Nat)(w:World):(callFunc 74 #[.int .u64 (b:Int)]).run Tryz.prog w=.ok (.value (.float .f64 b)) w:=by
 rw [run_callFunc_extern (e:=Extern.MathFloatBits.float64frombits) Tryz.func74 (by kernel_rfl) (by kernel_rfl) (by kernel_rfl) (by kernel_rfl)]
 rfl
theorem run_bitsof(b:Nat)(w:World):(callFunc 73 #[.float .f64 b]).run Tryz.prog w=.ok (.value (.int .u64 (b:Int))) w:=by
 rw [run_callFunc_extern (e:=Extern.MathFloatBits.float64bits) Tryz.func73 (by kernel_rfl) (by kernel_rfl) (by kernel_rfl) (by kernel_rfl)]
 rfl
theorem inf_pos(w:World):Calls Tryz.prog 19 #[.int .i64 1] w fun e w'=>e=.returned (.float .f64 9218868437227405312)∧w=w':=by
 have hf:∀ W:World,(callFunc 74 #[.int .u64 9218868437227405312]).run Tryz.prog W=.ok (.value (.float .f64 9218868437227405312)) W:=fun W=>run_frombits 9218868437227405312 W
 go_enter Tryz.func19,Tryz.ntmps19
 go_wp2
 go_ret
 exact⟨rfl,rfl⟩
theorem inf_neg(w:World):Calls Tryz.prog 19 #[.int .i64 (-1)] w fun e w'=>e=.returned (.float .f64 18442240474082181120)∧w=w':=by
 have hf:∀ W:World,(callFunc 74 #[.int .u64 18442240474082181120]).run Tryz.prog W=.ok (.value (.float .f64 18442240474082181120)) W:=fun W=>run_frombits 18442240474082181120 W
 go_enter Tryz.func19,Tryz.ntmps19
 go_wp2
 go_ret
 exact⟨rfl,rfl⟩
theorem plainf(b:Nat)(w:World)(hb:b<18446744073709551616)(hr:rungOf b≤M):Calls Tryz.prog 171 #[.float .f64 b] w fun e w'=>e=.returned (.float .f64 (pat (idx b)))∧w=w':=by
 have ho:FloatKind.f64.format.order b 0=some (compare (idx b) (idx 0)):=order_real hr (by show rungOf 0≤M;decide);rw [show idx 0=0 from by decide] at ho;have hp:=pl_real hb hr
 by_cases h:idx b=0
 ·have hq:(FloatKind.f64.format.order b 0 == some Ordering.eq)=true:=by rw [ho,h];rfl
  rw [h,pat_zero];clear ho hp h hr
  go_enter Tryz.func171,Tryz.ntmps171
  go_wp2
  go_ret
  exact⟨rfl,rfl⟩
 ·have hq:(FloatKind.f64.format.order b 0 == some Ordering.eq)=false:=by
   rw [ho]
   rcases Int.lt_trichotomy (idx b) 0 with h1 | h1 | h1
   ·rw [show compare (idx b) 0=.lt from Int.compare_eq_lt.2 h1];rfl
   ·exact absurd h1 h
   ·rw [show compare (idx b) 0=.gt from Int.compare_eq_gt.2 h1];rfl
  have e:pat (idx b)=b:=by
   rw [← hp];unfold pl;have:=pat_cases hb;rw [if_neg (by omega),if_neg (by omega)]
  rw [e];clear ho hp h hr e
  go_enter Tryz.func171,Tryz.ntmps171
  go_wp2
  go_ret
  exact⟨rfl,rfl⟩
theorem soundf(x y:Nat)(w:World)(hx:x<18446744073709551616)(hy:y<18446744073709551616):Calls Tryz.prog 170 #[.float .f64 x,.float .f64 y] w fun e w'=>e=.returned (.bool (snd x y))∧w=w':=by
 have H1:=Hd inf_pos;have H2:=Hd inf_neg;have hM:M=9218868437227405312:=rfl
 have n1:idx 9218868437227405312=M:=by decide
 have n2:idx 18442240474082181120=-(M:Int):=by decide
 have r1:real 9218868437227405312:=by show rungOf _≤M;decide
 have r2:real 18442240474082181120:=by show rungOf _≤M;decide
 by_cases hx':rungOf x≤M
 ·by_cases hy':rungOf y≤M
  ·have ho:FloatKind.f64.format.order x y=some (compare (idx x) (idx y)):=order_real hx' hy';have h2:FloatKind.f64.format.order x 9218868437227405312=some (compare (idx x) (idx 9218868437227405312)):=order_real hx' r1;have h3:FloatKind.f64.format.order y 18442240474082181120=some (compare (idx y) (idx 18442240474082181120)):=order_real hy' r2;rw [n1] at h2;rw [n2] at h3;have bx:=idx_bounds hx';have bY:=idx_bounds hy'
   by_cases h:idx y<idx x
   ·rw [show compare (idx x) (idx y)=.gt from Int.compare_eq_gt.2 h] at ho;have hs:snd x y=false:=decide_eq_false (by omega);rw [hs];clear h2 h3 n1 n2 r1 r2 bx bY h hs hx' hy' hM
    go_enter Tryz.func170,Tryz.ntmps170
    go_wp2
    go_ret
    exact⟨rfl,rfl⟩
   ·have hle:compare (idx x) (idx y)=.lt∨compare (idx x) (idx y)=.eq:=by
     rcases Int.lt_trichotomy (idx x) (idx y) with h1 | h1 | h1
     ·exact .inl (Int.compare_eq_lt.2 h1)
     ·exact .inr (by rw [h1];exact Int.compare_eq_eq.2 rfl)
     ·exact absurd h1 h
    by_cases hm:idx x=M
    ·rw [show compare (idx x) (M:Int)=.eq from by rw [hm];exact Int.compare_eq_eq.2 rfl] at h2;have hs:snd x y=false:=decide_eq_false (by omega);rw [hs];clear h3 n1 n2 r1 r2 bx bY h hs hx' hy' hM hm
     rcases hle with e | e<;>rw [e] at ho<;>clear e
     all_goals
      go_enter Tryz.func170,Tryz.ntmps170
      go_wp2_with fail;refine (H1.out _).mono ?_;rintro e w1 ⟨rfl,rfl⟩;go_wp2
      go_ret
      exact⟨rfl,rfl⟩
    ·rw [show compare (idx x) (M:Int)=.lt from Int.compare_eq_lt.2 (by omega)] at h2
     by_cases hn:idx y=-(M:Int)
     ·rw [show compare (idx y) (-(M:Int))=.eq from by rw [hn];exact Int.compare_eq_eq.2 rfl] at h3;have hs:snd x y=false:=decide_eq_false (by omega);rw [hs];clear n1 n2 r1 r2 bx bY h hs hx' hy' hM hm hn
      rcases hle with e | e<;>rw [e] at ho<;>clear e
      all_goals
       go_enter Tryz.func170,Tryz.ntmps170
       go_wp2_with fail;refine (H1.out _).mono ?_;rintro e w1 ⟨rfl,rfl⟩;go_wp2_with fail;refine (H2.out _).mono ?_;rintro e w1 ⟨rfl,rfl⟩;go_wp2
       go_ret
       exact⟨rfl,rfl⟩
     ·rw [show compare (idx y) (-(M:Int))=.gt from Int.compare_eq_gt.2 (by omega)] at h3;have hs:snd x y=true:=decide_eq_true (by omega);rw [hs];clear n1 n2 r1 r2 bx bY h hs hx' hy' hM hm hn
      rcases hle with e | e<;>rw [e] at ho<;>clear e
      all_goals
       go_enter Tryz.func170,Tryz.ntmps170
       go_wp2_with fail;refine (H1.out _).mono ?_;rintro e w1 ⟨rfl,rfl⟩;go_wp2_with fail;refine (H2.out _).mono ?_;rintro e w1 ⟨rfl,rfl⟩;go_wp2
       go_ret
       exact⟨rfl,rfl⟩
  ·have ho:FloatKind.f64.format.order x y=none:=order_nan_right x (by omega);have hs:snd x y=false:=decide_eq_false (by omega);rw [hs];clear n1 n2 r1 r2 hs hx' hy' hM
   go_enter Tryz.func170,Tryz.ntmps170
   go_wp2
   go_ret
   exact⟨rfl,rfl⟩
 ·have ho:FloatKind.f64.format.order x y=none:=order_nan_left y (by omega);have hs:snd x y=false:=decide_eq_false (by omega);rw [hs];clear n1 n2 r1 r2 hs hx' hM
  go_enter Tryz.func170,Tryz.ntmps170
  go_wp2
  go_ret
  exact⟨rfl,rfl⟩
end Go.Proofs.YthlmlmfebpjgdaaGreatDoor
namespace Go.Proofs.YthlmlmfebpjgdaaGreatDoor
open Go.RowKit
theorem run_store_float(P:Program)(w:World)(a:Addr)(m:Mode)(k:FloatKind)(b:Nat):(store a (.float k b) m).run P w=stored P w a (.float k b) m:=run_store P w a _ m rfl
attribute [local go_sem] run_store_float
theorem emptyf(w:World):Calls Tryz.prog 76 #[] w fun e w'=>e=.returned (.agg #[.float .f64 9218868437227405312,.float .f64 18442240474082181120])∧Below w.heap.size w w':=by
 have H1:=Hd inf_pos;have H2:=Hd inf_neg;obtain⟨LB0,LR⟩:=bx1 w #[.float .f64 0,.float .f64 0] 28;have LR0:=Hd (HasBlk.of (n:=2) LR.out rfl rfl);clear LR;have ba:=LB0.out;clear LB0 LR0 ba
 go_enter Tryz.func76,Tryz.ntmps76
 go_wp2_with fail;refine (H1.out _).mono ?_;rintro e w1 ⟨rfl,rfl⟩;go_wp2_with fail;refine (H2.out _).mono ?_;rintro e w1 ⟨rfl,rfl⟩;go_wp2;refine bodyPost_ret (v:=.agg #[.float .f64 9218868437227405312,.float .f64 18442240474082181120]) (by simp [results,Tryz.results76,go_sem]) rfl ?_
 exact have b:=(below_alloc w _);⟨rfl,b⟩
theorem readf(x y:Nat)(w:World)(hx:x<18446744073709551616)(hy:y<18446744073709551616):Calls Tryz.prog 102 #[.agg #[.float .f64 x,.float .f64 y]] w fun e w'=>e=.returned (.agg #[.float .f64 (pat (rd x y).1),.float .f64 (pat (rd x y).2)])∧Below w.heap.size w w':=by
 have HS:=Hd fun W=>soundf x y W hx hy
 obtain⟨s,hs⟩:∃ s,snd x y=s:=⟨_,rfl⟩
 rw [hs] at HS;unfold rd;rw [hs]
 cases s
 ·simp only [Bool.false_eq_true,if_false]
  rw [pat_max,pat_min];clear hs;have HE:=Hd emptyf;obtain⟨LB0,LG0_0,LR⟩:=bx2 w #[.float .f64 x,.float .f64 y] 28 #[.float .f64 0,.float .f64 0] 28;have LR0:=Hd (HasBlk.of (n:=2) LR.out rfl rfl);clear LR
  go_enter Tryz.func102,Tryz.ntmps102
  go_wp2_with fail;refine (HS.out _).mono ?_;rintro e w1 ⟨rfl,rfl⟩;go_wp2_with fail;refine (HE.out _).mono ?_;rintro e w2 ⟨rfl,hb2⟩;have LB1:=stB LB0 hb2 LB0.out.size;have LR1:=stR LR0 hb2;have LG0_1:=stG LG0_0 hb2;clear LB0 LR0 LG0_0;clear hb2;obtain⟨ha0,hf0,ha1,hf1⟩:=LR1.out.sf2;obtain⟨hk0,hk1⟩:=LR1.out.sc2 (.float .f64 9218868437227405312) (.float .f64 18442240474082181120);have F:=Hd (below_sets (w0:=w) (r:=(w.heap.size+1)) (by omega) [.float .f64 9218868437227405312,.float .f64 18442240474082181120] 0 _ LB1.out)
  simp [sets] at hk0 hk1
  go_wp2;refine bodyPost_ret (v:=.agg #[.float .f64 9218868437227405312,.float .f64 18442240474082181120]) (by simp [results,Tryz.results102,go_sem,hk0,hk1]) rfl ?_
  exact⟨rfl,F.out⟩
 ·simp only [if_true]
  have hd:=of_decide_eq_true hs;have P1:=Hd fun W=>(plainf x W hx hd.1).mono (R':=fun e w'=>e=.returned (.float .f64 (pat (idx x)))∧Below W.heap.size W w') (by rintro e w' ⟨h,rfl⟩;exact⟨h,Below.refl _ _⟩);have P2:=Hd fun W=>(plainf y W hy hd.2.1).mono (R':=fun e w'=>e=.returned (.float .f64 (pat (idx y)))∧Below W.heap.size W w') (by rintro e w' ⟨h,rfl⟩;exact⟨h,Below.refl _ _⟩)
  obtain⟨p,hp⟩:∃ p,pat (idx x)=p:=⟨_,rfl⟩
  obtain⟨q,hq⟩:∃ p,pat (idx y)=p:=⟨_,rfl⟩
  rw [hp] at P1 ⊢;rw [hq] at P2 ⊢;clear hs hd hp hq;obtain⟨LB0,LG0_0,LR⟩:=bx2 w #[.float .f64 x,.float .f64 y] 28 #[.float .f64 0,.float .f64 0] 28;have LR0:=Hd (HasBlk.of (n:=2) LR.out rfl rfl);clear LR
  go_enter Tryz.func102,Tryz.ntmps102
  go_wp2_with fail;refine (HS.out _).mono ?_;rintro e w1 ⟨rfl,rfl⟩;go_wp2_with fail;refine wp_region_held_drew (S:=fun W'=>Blk W' w.heap.size 28 #[.float .f64 x,.float .f64 y]∧HasBlk W' (w.heap.size+1) 28 2∧Below w.heap.size w W') (by kernel_rfl) (by exact⟨LG0_0.out.drew,LR0.out.drew,LB0.out.drew⟩) (fun hHeld=>?_);refine tk 0 ?_;(try simp only [Act.put,lay]);refine tk 1 ?_ (hv:=by intro W2 hSw;obtain⟨q0,q1⟩:=hSw.1.c2;go_simp;(try with_reducible rfl));(try simp only [Act.put,lay]);refine tk 3 ?_;(try simp only [Act.put,lay]);refine tk 4 ?_ (hv:=by intro W2 hSw;obtain⟨q0,q1⟩:=hSw.1.c2;go_simp;(try with_reducible rfl));(try simp only [Act.put,lay]);refine rdy 2 (fun KK hKK=>?_);go_simp;refine (P1.out _).mono ?_;rintro e w2 ⟨rfl,hb2⟩;go_wp2_with fail;refine hKK.out _ _ (⟨hHeld.1.keep hb2,hHeld.2.1.keep hb2,hHeld.2.2.trans (hb2.mono hHeld.2.2.size)⟩) (fun _=>?_);clear hKK KK hHeld;rename_i hHeld;(try simp only [Act.put,lay]);refine rdy 5 (fun KK hKK=>?_);go_simp;refine (P2.out _).mono ?_;rintro e w3 ⟨rfl,hb3⟩;go_wp2_with fail;refine hKK.out _ _ (⟨hHeld.1.keep hb3,hHeld.2.1.keep hb3,hHeld.2.2.trans (hb3.mono hHeld.2.2.size)⟩) (fun _=>?_);clear hKK KK hHeld;rename_i hHeld;(try simp only [Act.put,lay]);refine tk 6 ?_;(try simp only [Act.put,lay]);refine rdy 7 (fun KK hKK=>?_);have ha0:=hHeld.2.1.someCell 0 (by decide);have hf0:=hHeld.2.1.frozen 0;have ha1:=hHeld.2.1.someCell 1 (by decide);have hf1:=hHeld.2.1.frozen 1;have HK:=Hd (hHeld.2.1.setCell [.float .f64 p,.float .f64 q] rfl);have F:=Hd (below_sets (w0:=w) (r:=(w.heap.size+1)) (by omega) [.float .f64 p,.float .f64 q] 0 _ hHeld.2.2)
  go_simp;refine hKK.out _ _ (⟨hHeld.1.other (by omega) 0 [.float .f64 p,.float .f64 q],hHeld.2.1.sets [.float .f64 p,.float .f64 q] rfl rfl,below_sets (by omega) [.float .f64 p,.float .f64 q] 0 _ hHeld.2.2⟩) (fun _=>?_);clear hKK KK hHeld;rename_i hHeld;(try simp only [Act.put,lay]);refine wpAnyH_done (by kernel_rfl) ?_ _;have hk0:=HK.out 0 (by decide);have hk1:=HK.out 1 (by decide)
  simp [sets] at hk0 hk1
  clear hHeld HK hb2 hb3;clear LB0 LR0 LG0_0;go_wp2;refine bodyPost_ret (v:=.agg #[.float .f64 p,.float .f64 q]) (by simp [results,Tryz.results102,go_sem,hk0,hk1]) rfl ?_
  exact⟨rfl,F.out⟩
end Go.Proofs.YthlmlmfebpjgdaaGreatDoor
namespace Go.Proofs.YthlmlmfebpjgdaaGreatDoor
open Go.RowKit
attribute [local go_sem] run_store_float
theorem order_pat{i j:Int}(h1:-(M:Int)≤i)(h2:i≤M)(h3:-(M:Int)≤j)(h4:j≤M):FloatKind.f64.format.order (pat i) (pat j)=some (compare i j):=by
 have h:=order_real (x:=pat i) (y:=pat j) (by show rungOf _≤M;rw [rung_pat h1 h2];omega) (by show rungOf _≤M;rw [rung_pat h3 h4];omega);rw [idx_pat h1 h2,idx_pat h3 h4] at h
 exact h
theorem emptyq(i j:Int)(w:World)(h1:-(M:Int)≤i∧i≤M)(h2:-(M:Int)≤j∧j≤M):Calls Tryz.prog 116 #[.agg #[.float .f64 (pat i),.float .f64 (pat j)]] w fun e w'=>e=.returned (.bool (decide (j<i)))∧Below w.heap.size w w':=by
 have ho:=order_pat h1.1 h1.2 h2.1 h2.2
 obtain⟨p,hp⟩:∃ p,pat i=p:=⟨_,rfl⟩
 obtain⟨q,hq⟩:∃ p,pat j=p:=⟨_,rfl⟩
 rw [hp,hq] at ho;rw [hp,hq];clear hp hq h1 h2;have hb:=Hd fun cs=>below_alloc w (.cells cs 28)
 rcases Int.lt_trichotomy i j with h | h | h
 ·rw [show compare i j=.lt from Int.compare_eq_lt.2 h] at ho;rw [decide_eq_false (show ¬ j<i by omega)];clear h
  go_enter Tryz.func116,Tryz.ntmps116
  go_wp2
  go_ret
  exact⟨rfl,hb.out _⟩
 ·rw [show compare i j=.eq from Int.compare_eq_eq.2 h] at ho;rw [decide_eq_false (show ¬ j<i by omega)];clear h
  go_enter Tryz.func116,Tryz.ntmps116
  go_wp2
  go_ret
  exact⟨rfl,hb.out _⟩
 ·rw [show compare i j=.gt from Int.compare_eq_gt.2 h] at ho;rw [decide_eq_true (show j<i by omega)];clear h
  go_enter Tryz.func116,Tryz.ntmps116
  go_wp2
  go_ret
  exact⟨rfl,hb.out _⟩
theorem run_negf(P:Program)(b:Nat)(w:World):(Op.unary .neg (.float .f64 b)).run P w=.ok (.float .f64 (Op.negFloat .f64 b)) w:=rfl
attribute [local go_sem] run_negf
theorem negFloat_val{b:Nat}(hb:b<18446744073709551616):Op.negFloat .f64 b<18446744073709551616∧rungOf (Op.negFloat .f64 b)=rungOf b∧idx (Op.negFloat .f64 b)=-idx b:=by
 have e:Op.negFloat .f64 b=b ^^^ 2^63:=rfl;have h:=pat_cases hb
 have hx:b ^^^ 2^63=if b<9223372036854775808 then b+9223372036854775808 else b - 9223372036854775808:=by
  apply Nat.eq_of_testBit_eq
  intro k;rw [Nat.testBit_xor,Nat.testBit_two_pow]
  split
  ·rename_i hlt;have hj:=nat_join 63 (2^63) b (by decide) (by exact hlt);rw [show b+9223372036854775808=2^63+b from by omega,← hj,Nat.testBit_or,Nat.testBit_two_pow]
   by_cases hk:63=k
   ·subst hk;have:b.testBit 63=false:=Nat.testBit_lt_two_pow (by exact hlt)
    simp [this]
   ·simp [hk]
  ·rename_i hge
   have hsub:b - 9223372036854775808<2^63:=by omega
   have hj:=nat_join 63 (2^63) (b - 9223372036854775808) (by decide) hsub
   have hb2:b=2^63 ||| (b - 9223372036854775808):=by rw [hj];omega
   have hbit:b.testBit k=(decide (63=k) || (b - 9223372036854775808).testBit k):=by
    conv=>lhs;rw [hb2]
    rw [Nat.testBit_or,Nat.testBit_two_pow]
   rw [hbit]
   by_cases hk:63=k
   ·subst hk;have:(b - 9223372036854775808).testBit 63=false:=Nat.testBit_lt_two_pow hsub
    simp [this]
   ·simp [hk]
 rw [e,hx]
 split
 ·have h2:=pat_cases (b:=b+9223372036854775808) (by omega)
  exact⟨by omega,by omega,by omega⟩
 ·have h2:=pat_cases (b:=b - 9223372036854775808) (by omega)
  exact⟨by omega,by omega,by omega⟩
theorem turnedf(i j:Int)(w:World)(h1:-(M:Int)≤i∧i≤M)(h2:-(M:Int)≤j∧j≤M):Calls Tryz.prog 137 #[.agg #[.float .f64 (pat i),.float .f64 (pat j)]] w fun e w'=>e=.returned (.agg #[.float .f64 (pat (-j)),.float .f64 (pat (-i))])∧Below w.heap.size w w':=by
 have n1:=negFloat_val (pat_lt h1.1 h1.2);have n2:=negFloat_val (pat_lt h2.1 h2.2);have P1:=Hd fun W=>(plainf (Op.negFloat .f64 (pat i)) W n1.1 (by rw [n1.2.1,rung_pat h1.1 h1.2];omega)).mono (R':=fun e w'=>e=.returned (.float .f64 (pat (idx (Op.negFloat .f64 (pat i)))))∧Below W.heap.size W w') (by rintro e w' ⟨h,rfl⟩;exact⟨h,Below.refl _ _⟩);have P2:=Hd fun W=>(plainf (Op.negFloat .f64 (pat j)) W n2.1 (by rw [n2.2.1,rung_pat h2.1 h2.2];omega)).mono (R':=fun e w'=>e=.returned (.float .f64 (pat (idx (Op.negFloat .f64 (pat j)))))∧Below W.heap.size W w') (by rintro e w' ⟨h,rfl⟩;exact⟨h,Below.refl _ _⟩);rw [n1.2.2,idx_pat h1.1 h1.2] at P1;rw [n2.2.2,idx_pat h2.1 h2.2] at P2
 obtain⟨p,hp⟩:∃ p,pat i=p:=⟨_,rfl⟩
 obtain⟨q,hq⟩:∃ p,pat j=p:=⟨_,rfl⟩
 obtain⟨p2,hp2⟩:∃ p,pat (-i)=p:=⟨_,rfl⟩
 obtain⟨q2,hq2⟩:∃ p,pat (-j)=p:=⟨_,rfl⟩
 rw [hp,hp2] at P1;rw [hq,hq2] at P2;rw [hp,hq,hp2,hq2];clear n1 n2 hp hq hp2 hq2 h1 h2;obtain⟨LB0,LG0_0,LR⟩:=bx2 w #[.float .f64 p,.float .f64 q] 28 #[.float .f64 0,.float .f64 0] 28;have LR0:=Hd (HasBlk.of (n:=2) LR.out rfl rfl);clear LR
 go_enter Tryz.func137,Tryz.ntmps137
 go_wp2_with fail;refine wp_region_held_drew (S:=fun W'=>Blk W' w.heap.size 28 #[.float .f64 p,.float .f64 q]∧HasBlk W' (w.heap.size+1) 28 2∧Below w.heap.size w W') (by kernel_rfl) (by exact⟨LG0_0.out.drew,LR0.out.drew,LB0.out.drew⟩) (fun hHeld=>?_);refine tk 0 ?_;(try simp only [Act.put,lay]);refine tk 1 ?_ (hv:=by intro W2 hSw;obtain⟨q0,q1⟩:=hSw.1.c2;go_simp;(try with_reducible rfl));(try simp only [Act.put,lay]);refine tk 2 ?_;(try simp only [Act.put,lay]);refine tk 4 ?_;(try simp only [Act.put,lay]);refine tk 5 ?_ (hv:=by intro W2 hSw;obtain⟨q0,q1⟩:=hSw.1.c2;go_simp;(try with_reducible rfl));(try simp only [Act.put,lay]);refine tk 6 ?_;(try simp only [Act.put,lay]);refine rdy 3 (fun KK hKK=>?_);go_simp;refine (P2.out _).mono ?_;rintro e w2 ⟨rfl,hb2⟩;go_wp2_with fail;refine hKK.out _ _ (⟨hHeld.1.keep hb2,hHeld.2.1.keep hb2,hHeld.2.2.trans (hb2.mono hHeld.2.2.size)⟩) (fun _=>?_);clear hKK KK hHeld;rename_i hHeld;(try simp only [Act.put,lay]);refine rdy 7 (fun KK hKK=>?_);go_simp;refine (P1.out _).mono ?_;rintro e w3 ⟨rfl,hb3⟩;go_wp2_with fail;refine hKK.out _ _ (⟨hHeld.1.keep hb3,hHeld.2.1.keep hb3,hHeld.2.2.trans (hb3.mono hHeld.2.2.size)⟩) (fun _=>?_);clear hKK KK hHeld;rename_i hHeld;(try simp only [Act.put,lay]);refine tk 8 ?_;(try simp only [Act.put,lay]);refine rdy 9 (fun KK hKK=>?_);have ha0:=hHeld.2.1.someCell 0 (by decide);have hf0:=hHeld.2.1.frozen 0;have ha1:=hHeld.2.1.someCell 1 (by decide);have hf1:=hHeld.2.1.frozen 1;have HK:=Hd (hHeld.2.1.setCell [.float .f64 q2,.float .f64 p2] rfl);have F:=Hd (below_sets (w0:=w) (r:=(w.heap.size+1)) (by omega) [.float .f64 q2,.float .f64 p2] 0 _ hHeld.2.2)
 go_simp;refine hKK.out _ _ (⟨hHeld.1.other (by omega) 0 [.float .f64 q2,.float .f64 p2],hHeld.2.1.sets [.float .f64 q2,.float .f64 p2] rfl rfl,below_sets (by omega) [.float .f64 q2,.float .f64 p2] 0 _ hHeld.2.2⟩) (fun _=>?_);clear hKK KK hHeld;rename_i hHeld;(try simp only [Act.put,lay]);refine wpAnyH_done (by kernel_rfl) ?_ _;have hk0:=HK.out 0 (by decide);have hk1:=HK.out 1 (by decide)
 simp [sets] at hk0 hk1
 clear hHeld HK hb2 hb3;clear LB0 LR0 LG0_0;go_wp2;refine bodyPost_ret (v:=.agg #[.float .f64 q2,.float .f64 p2]) (by simp [results,Tryz.results137,go_sem,hk0,hk1]) rfl ?_
 exact⟨rfl,F.out⟩
theorem negf(x y:Nat)(w:World)(hx:x<18446744073709551616)(hy:y<18446744073709551616):Calls Tryz.prog 61 #[.agg #[.float .f64 x,.float .f64 y]] w fun e w'=>e=.returned (.agg #[.float .f64 (pat (-(rd x y).2)),.float .f64 (pat (-(rd x y).1))])∧Below w.heap.size w w':=by
 have HR:=Hd fun W=>readf x y W hx hy;have hiv:=rd_iv x y
 obtain⟨i,hi⟩:∃ i,(rd x y).1=i:=⟨_,rfl⟩
 obtain⟨j,hj⟩:∃ i,(rd x y).2=i:=⟨_,rfl⟩
 rw [hi,hj] at HR hiv ⊢;have HQ:=Hd fun W=>emptyq i j W hiv.lo hiv.hi;have HT:=Hd fun W=>turnedf i j W hiv.lo hiv.hi
 have hE:j<i→i=M∧j=-(M:Int):=by
  intro h;unfold Iv at hiv
  omega
 obtain⟨p,hp⟩:∃ p,pat i=p:=⟨_,rfl⟩
 obtain⟨q,hq⟩:∃ p,pat j=p:=⟨_,rfl⟩
 obtain⟨p2,hp2⟩:∃ p,pat (-i)=p:=⟨_,rfl⟩
 obtain⟨q2,hq2⟩:∃ p,pat (-j)=p:=⟨_,rfl⟩
 rw [hp,hq] at HR HQ HT;rw [hp2,hq2] at HT ⊢
 obtain⟨b,hb⟩:∃ b,decide (j<i)=b:=⟨_,rfl⟩
 rw [hb] at HQ
 have HE2:b=true→p=q2∧q=p2:=by
  intro h;rw [h] at hb;obtain⟨e1,e2⟩:=hE (of_decide_eq_true hb);rw [← hp,← hq2,← hq,← hp2,e1,e2,Int.neg_neg]
  exact⟨rfl,rfl⟩
 have HE:=Hd HE2;clear hi hj hiv hE hp hq hp2 hq2 hb HE2
 cases b
 ·skip;obtain⟨LB0,LG0_0,LR⟩:=bx2 w #[.float .f64 x,.float .f64 y] 28 #[.float .f64 0,.float .f64 0] 28;have LR0:=Hd (HasBlk.of (n:=2) LR.out rfl rfl);clear LR
  go_enter Tryz.func61,Tryz.ntmps61
  go_wp2_with fail;refine (HR.out _).mono ?_;rintro e w1 ⟨rfl,hb1⟩;have LB1:=stB LB0 hb1 LB0.out.size;have LR1:=stR LR0 hb1;have LG0_1:=stG LG0_0 hb1;clear LB0 LR0 LG0_0;clear hb1;obtain⟨q0_0,q0_1⟩:=LG0_1.out.c2;have hf0:=LG0_1.out.frozen 0;have hf1:=LG0_1.out.frozen 1
  go_upto_region 2 with fail
  clear q0_0 q0_1 hf0 hf1;have LB2:=Hd (below_sets (w0:=w) (show w.heap.size≤w.heap.size by omega) [.float .f64 p,.float .f64 q] 0 w1 LB1.out);have LR2:=Hd (LR1.out.other (r:=w.heap.size) (by omega) 0 [.float .f64 p,.float .f64 q]);have LG0_2:=Hd (show Blk (sets w1 w.heap.size 0 [.float .f64 p,.float .f64 q]) w.heap.size 28 #[.float .f64 p,.float .f64 q] from by have hbs:=Blk.sets [.float .f64 p,.float .f64 q] 0 w1 _ LG0_1.out;simpa [laid] using hbs);clear LB1 LR1 LG0_1
  obtain⟨V1,hV1⟩:∃ X,(sets w1 w.heap.size 0 [.float .f64 p,.float .f64 q])=X:=⟨_,rfl⟩
  rw [hV1] at LB2 LR2 LG0_2;rw [show ((w1.setCell ⟨w.heap.size,0,none⟩ (.float .f64 p)).setCell ⟨w.heap.size,1,none⟩ (.float .f64 q))=V1 from hV1];clear hV1;obtain⟨q0_0,q0_1⟩:=LG0_2.out.c2;go_wp2_with fail;refine (HQ.out _).mono ?_;rintro e w2 ⟨rfl,hb2⟩;have LB3:=stB LB2 hb2 LB2.out.size;have LR3:=stR LR2 hb2;have LG0_3:=stG LG0_2 hb2;clear LB2 LR2 LG0_2;clear hb2 q0_0 q0_1;obtain⟨q0_0,q0_1⟩:=LG0_3.out.c2;go_wp2_with fail;refine (HT.out _).mono ?_;rintro e w3 ⟨rfl,hb3⟩;have LB4:=stB LB3 hb3 LB3.out.size;have LR4:=stR LR3 hb3;have LG0_4:=stG LG0_3 hb3;clear LB3 LR3 LG0_3;clear hb3 q0_0 q0_1;obtain⟨ha0,hf0,ha1,hf1⟩:=LR4.out.sf2;obtain⟨hk0,hk1⟩:=LR4.out.sc2 (.float .f64 q2) (.float .f64 p2);have F:=Hd (below_sets (w0:=w) (r:=(w.heap.size+1)) (by omega) [.float .f64 q2,.float .f64 p2] 0 _ LB4.out)
  simp [sets] at hk0 hk1
  go_wp2;refine bodyPost_ret (v:=.agg #[.float .f64 q2,.float .f64 p2]) (by simp [results,Tryz.results61,go_sem,hk0,hk1]) rfl ?_
  exact⟨rfl,F.out⟩
 ·skip;obtain⟨LB0,LG0_0,LR⟩:=bx2 w #[.float .f64 x,.float .f64 y] 28 #[.float .f64 0,.float .f64 0] 28;have LR0:=Hd (HasBlk.of (n:=2) LR.out rfl rfl);clear LR
  go_enter Tryz.func61,Tryz.ntmps61
  go_wp2_with fail;refine (HR.out _).mono ?_;rintro e w1 ⟨rfl,hb1⟩;have LB1:=stB LB0 hb1 LB0.out.size;have LR1:=stR LR0 hb1;have LG0_1:=stG LG0_0 hb1;clear LB0 LR0 LG0_0;clear hb1;obtain⟨q0_0,q0_1⟩:=LG0_1.out.c2;have hf0:=LG0_1.out.frozen 0;have hf1:=LG0_1.out.frozen 1
  go_upto_region 2 with fail
  clear q0_0 q0_1 hf0 hf1;have LB2:=Hd (below_sets (w0:=w) (show w.heap.size≤w.heap.size by omega) [.float .f64 p,.float .f64 q] 0 w1 LB1.out);have LR2:=Hd (LR1.out.other (r:=w.heap.size) (by omega) 0 [.float .f64 p,.float .f64 q]);have LG0_2:=Hd (show Blk (sets w1 w.heap.size 0 [.float .f64 p,.float .f64 q]) w.heap.size 28 #[.float .f64 p,.float .f64 q] from by have hbs:=Blk.sets [.float .f64 p,.float .f64 q] 0 w1 _ LG0_1.out;simpa [laid] using hbs);clear LB1 LR1 LG0_1
  obtain⟨V1,hV1⟩:∃ X,(sets w1 w.heap.size 0 [.float .f64 p,.float .f64 q])=X:=⟨_,rfl⟩
  rw [hV1] at LB2 LR2 LG0_2;rw [show ((w1.setCell ⟨w.heap.size,0,none⟩ (.float .f64 p)).setCell ⟨w.heap.size,1,none⟩ (.float .f64 q))=V1 from hV1];clear hV1;obtain⟨q0_0,q0_1⟩:=LG0_2.out.c2;go_wp2_with fail;refine (HQ.out _).mono ?_;rintro e w2 ⟨rfl,hb2⟩;have LB3:=stB LB2 hb2 LB2.out.size;have LR3:=stR LR2 hb2;have LG0_3:=stG LG0_2 hb2;clear LB2 LR2 LG0_2;clear hb2 q0_0 q0_1;obtain⟨q0_0,q0_1⟩:=LG0_3.out.c2;obtain⟨ha0,hf0,ha1,hf1⟩:=LR3.out.sf2;obtain⟨hk0,hk1⟩:=LR3.out.sc2 (.float .f64 p) (.float .f64 q);have F:=Hd (below_sets (w0:=w) (r:=(w.heap.size+1)) (by omega) [.float .f64 p,.float .f64 q] 0 _ LB3.out)
  simp [sets] at hk0 hk1
  go_wp2;refine bodyPost_ret (v:=.agg #[.float .f64 p,.float .f64 q]) (by simp [results,Tryz.results61,go_sem,hk0,hk1]) rfl ?_
  exact⟨by rw [(HE.out trivial).1,(HE.out trivial).2],F.out⟩
end Go.Proofs.YthlmlmfebpjgdaaGreatDoor
namespace Go.Proofs.YthlmlmfebpjgdaaGreatDoor
open Go.RowKit
def Sc(n m:Nat)(f:Int):Prop:=(0≤f→m*2^f.toNat≤n∧n<m*2^(f.toNat+1))∧(f<0→m≤n*2^(-f).toNat∧n*2^(-f).toNat<2*m)
theorem blen_bounds{n:Nat}(h:0<n):∃ L,blen n=L+1∧2^L≤n∧n<2^(L+1):=by
 have h1:=pow_blen_le h;have h2:=lt_pow_blen n
 have h3:blen n≠0:=by rw [Ne,blen_eq_zero];omega
 refine⟨blen n - 1,by omega,?_,?_⟩
 ·exact h1
 ·rwa [show blen n - 1+1=blen n from by omega]
theorem scale_keep{n m:Nat}{f:Int}(hn:0<n)(hm:0<m)(hf:f=(blen n:Int) - blen m)(h1:0≤f→m*2^f.toNat≤n)(h2:f<0→m≤n*2^(-f).toNat):Sc n m f:=by
 obtain⟨L,e1,a1,a2⟩:=blen_bounds hn;obtain⟨R,e2,b1,b2⟩:=blen_bounds hm;refine⟨fun h=>⟨h1 h,?_⟩,fun h=>⟨h2 h,?_⟩⟩
 ·obtain⟨k,rfl⟩:∃ k:Nat,f=k:=⟨f.toNat,by omega⟩
  rw [Int.toNat_natCast]
  have:L=R+k:=by omega
  subst this
  calc n<2^(R+k+1):=a2
   _=2^R*2^(k+1):=by rw [← Nat.pow_add];congr 1
   _≤m*2^(k+1):=Nat.mul_le_mul_right _ b1
 ·obtain⟨k,hk⟩:∃ k:Nat,-f=k:=⟨(-f).toNat,by omega⟩
  rw [hk,Int.toNat_natCast]
  have:R=L+k:=by omega
  subst this
  calc n*2^k<2^(L+1)*2^k:=Nat.mul_lt_mul_of_pos_right a2 (Nat.two_pow_pos k)
   _=2*2^(L+k):=by rw [← Nat.pow_add,show L+1+k=(L+k)+1 from by omega,Nat.pow_succ,Nat.mul_comm]
   _≤2*m:=Nat.mul_le_mul_left _ b1
theorem scale_down{n m:Nat}{f:Int}(hn:0<n)(hm:0<m)(hf:f=(blen n:Int) - blen m)(h1:0≤f→n<m*2^f.toNat)(h2:f<0→n*2^(-f).toNat<m):Sc n m (f - 1):=by
 obtain⟨L,e1,a1,a2⟩:=blen_bounds hn;obtain⟨R,e2,b1,b2⟩:=blen_bounds hm
 rcases Int.lt_trichotomy f 0 with h | h | h
 ·refine⟨fun h'=>by omega,fun _=>?_⟩;have h2:=h2 h
  obtain⟨k,hk⟩:∃ k:Nat,-f=k:=⟨(-f).toNat,by omega⟩
  rw [hk,Int.toNat_natCast] at h2;rw [show -(f - 1)=((k+1:Nat):Int) from by omega,Int.toNat_natCast]
  have:R=L+k:=by omega
  subst this;refine⟨?_,by rw [Nat.pow_succ,← Nat.mul_assoc];omega⟩;refine Nat.le_of_lt ?_
  calc m<2^(L+k+1):=b2
   _=2^L*2^(k+1):=by rw [← Nat.pow_add];congr 1
   _≤n*2^(k+1):=Nat.mul_le_mul_right _ a1
 ·subst h;refine⟨fun h'=>by omega,fun _=>?_⟩;have h1:=h1 (by omega)
  simp at h1 ⊢
  have:R=L:=by omega
  subst this;rw [Nat.pow_succ] at b2
  omega
 ·refine⟨fun _=>?_,fun h'=>by omega⟩;have h1:=h1 (by omega)
  obtain⟨k,hk⟩:∃ k:Nat,f=((k+1:Nat):Int):=⟨(f - 1).toNat,by omega⟩
  rw [hk,Int.toNat_natCast] at h1;rw [show f - 1=(k:Int) from by omega,Int.toNat_natCast];refine⟨?_,h1⟩
  have:L=R+(k+1):=by omega
  subst this;refine Nat.le_of_lt ?_
  calc m*2^k<2^(R+1)*2^k:=Nat.mul_lt_mul_of_pos_right b2 (Nat.two_pow_pos k)
   _=2^(R+(k+1)):=by rw [← Nat.pow_add];congr 1;omega
   _≤n:=a1
def lastBit(f:Int):Int:=if f - 52 < -1074 then -1074 else f - 52
def upN(n:Nat)(e:Int):Nat:=n*2^(-e).toNat
def upM(m:Nat)(e:Int):Nat:=m*2^e.toNat
theorem w_lt{n m:Nat}{f:Int}(hm:0<m)(h:Sc n m f):upN n (lastBit f) / upM m (lastBit f)<2^53:=by
 have hM:0<upM m (lastBit f):=Nat.mul_pos hm (Nat.two_pow_pos _);rw [Nat.div_lt_iff_lt_mul hM]
 have he:f - 52≤lastBit f:=by unfold lastBit;split<;>omega
 obtain⟨e,hee⟩:∃ e,lastBit f=e:=⟨_,rfl⟩
 rw [hee] at he ⊢;unfold upN upM
 rcases Int.lt_or_le f 0 with hf | hf
 ·have h2:=(h.2 hf).2
  obtain⟨k,hk⟩:∃ k:Nat,-f=k:=⟨(-f).toNat,by omega⟩
  rw [hk,Int.toNat_natCast] at h2
  rcases Int.lt_or_le e 0 with h0 | h0
  ·rw [show e.toNat=0 from by omega,Nat.pow_zero,Nat.mul_one]
   calc n*2^(-e).toNat≤n*2^(k+52):=Nat.mul_le_mul_left _ (Nat.pow_le_pow_right (by omega) (by omega))
    _=n*2^k*2^52:=by rw [Nat.pow_add,Nat.mul_assoc]
    _<2*m*2^52:=Nat.mul_lt_mul_of_pos_right h2 (Nat.two_pow_pos 52)
    _=2^53*m:=by omega
  ·rw [show (-e).toNat=0 from by omega,Nat.pow_zero,Nat.mul_one];have h3:n≤n*2^k:=Nat.le_mul_of_pos_right _ (Nat.two_pow_pos k);have h4:m≤m*2^e.toNat:=Nat.le_mul_of_pos_right _ (Nat.two_pow_pos _);have:2*m≤2^53*(m*2^e.toNat):=Nat.mul_le_mul (by omega) h4
   omega
 ·have h2:=(h.1 hf).2
  obtain⟨k,rfl⟩:∃ k:Nat,f=k:=⟨f.toNat,by omega⟩
  rw [Int.toNat_natCast] at h2
  rcases Int.lt_or_le e 0 with h0 | h0
  ·rw [show e.toNat=0 from by omega,Nat.pow_zero,Nat.mul_one]
   calc n*2^(-e).toNat<m*2^(k+1)*2^(-e).toNat:=Nat.mul_lt_mul_of_pos_right h2 (Nat.two_pow_pos _)
    _=m*2^(k+1+(-e).toNat):=by rw [Nat.mul_assoc,← Nat.pow_add]
    _≤m*2^53:=Nat.mul_le_mul_left _ (Nat.pow_le_pow_right (by omega) (by omega))
    _=2^53*m:=Nat.mul_comm _ _
  ·rw [show (-e).toNat=0 from by omega,Nat.pow_zero,Nat.mul_one]
   calc n<m*2^(k+1):=h2
    _≤m*2^(53+e.toNat):=Nat.mul_le_mul_left _ (Nat.pow_le_pow_right (by omega) (by omega))
    _=2^53*(m*2^e.toNat):=by rw [Nat.pow_add];ac_rfl
theorem w_ge{n m:Nat}{f:Int}(hm:0<m)(h:Sc n m f)(hb:-1074<lastBit f):2^52≤upN n (lastBit f) / upM m (lastBit f):=by
 have hM:0<upM m (lastBit f):=Nat.mul_pos hm (Nat.two_pow_pos _);rw [Nat.le_div_iff_mul_le hM]
 have he:lastBit f=f - 52:=by unfold lastBit at *;split at*<;> omega
 rw [he];unfold upN upM
 rcases Int.lt_or_le f 0 with hf | hf
 ·have h2:=(h.2 hf).1
  obtain⟨k,hk⟩:∃ k:Nat,-f=k:=⟨(-f).toNat,by omega⟩
  rw [hk,Int.toNat_natCast] at h2;rw [show (f - 52).toNat=0 from by omega,Nat.pow_zero,Nat.mul_one,show -(f - 52)=((k+52:Nat):Int) from by omega,Int.toNat_natCast,Nat.pow_add]
  calc 2^52*m≤2^52*(n*2^k):=Nat.mul_le_mul_left _ h2
   _=n*(2^k*2^52):=by ac_rfl
 ·have h2:=(h.1 hf).1
  obtain⟨k,rfl⟩:∃ k:Nat,f=k:=⟨f.toNat,by omega⟩
  rw [Int.toNat_natCast] at h2
  rcases Int.lt_or_le (k:Int) 52 with h0 | h0
  ·rw [show ((k:Int) - 52).toNat=0 from by omega,Nat.pow_zero,Nat.mul_one]
   have:52=k+(-((k:Int) - 52)).toNat:=by omega
   calc 2^52*m=2^(k+(-((k:Int) - 52)).toNat)*m:=by rw [← this]
    _=m*2^k*2^(-((k:Int) - 52)).toNat:=by rw [Nat.pow_add];ac_rfl
    _≤n*2^(-((k:Int) - 52)).toNat:=Nat.mul_le_mul_right _ h2
  ·rw [show (-((k:Int) - 52)).toNat=0 from by omega,Nat.pow_zero,Nat.mul_one]
   have:k=52+((k:Int) - 52).toNat:=by omega
   calc 2^52*(m*2^((k:Int) - 52).toNat)=m*2^(52+((k:Int) - 52).toNat):=by rw [Nat.pow_add];ac_rfl
    _=m*2^k:=by rw [← this]
    _≤n:=h2
theorem units{n m U:Nat}{e:Int}(hm:0<m)(he:-(U:Int)≤e):
  (upN n e / upM m e)*2^(e+U).toNat*m≤n*2^U∧n*2^U<(upN n e / upM m e+1)*2^(e+U).toNat*m ∧
   (upN n e % upM m e=0→n*2^U=(upN n e / upM m e)*2^(e+U).toNat*m)∧(upN n e % upM m e≠0→(upN n e / upM m e)*2^(e+U).toNat*m<n*2^U):=by
 have hM:0<upM m e:=Nat.mul_pos hm (Nat.two_pow_pos _);have h1:=Nat.div_add_mod (upN n e) (upM m e);have h2:=Nat.mod_lt (upN n e) hM
 obtain⟨c,hc,hN,hP⟩:∃ c,0<c∧n*2^U=upN n e*c∧2^(e+U).toNat*m=upM m e*c:=by
  rcases Int.lt_or_le e 0 with h0 | h0
  ·refine⟨2^(e+U).toNat,Nat.two_pow_pos _,?_,?_⟩
   ·unfold upN;rw [Nat.mul_assoc,← Nat.pow_add]
    congr 2;omega
   ·unfold upM;rw [show e.toNat=0 from by omega,Nat.pow_zero,Nat.mul_one,Nat.mul_comm]
  ·refine⟨2^U,Nat.two_pow_pos _,?_,?_⟩
   ·unfold upN;rw [show (-e).toNat=0 from by omega,Nat.pow_zero,Nat.mul_one]
   ·unfold upM;rw [show (e+U).toNat=e.toNat+U from by omega,Nat.pow_add];ac_rfl
 obtain⟨D,hD⟩:∃ D,upM m e=D:=⟨_,rfl⟩
 obtain⟨q,hq⟩:∃ q,upN n e / D=q:=⟨_,rfl⟩
 obtain⟨r,hr⟩:∃ r,upN n e % D=r:=⟨_,rfl⟩
 rw [hD] at h1 h2 hP ⊢;rw [hq,hr] at h1;rw [hr] at h2;rw [hq,hr,hN,Nat.mul_assoc,Nat.mul_assoc,hP,← h1]
 have e1:q*(D*c)=D*q*c:=by ac_rfl
 have e2:(q+1)*(D*c)=(D*q+D)*c:=by rw [Nat.add_mul,Nat.one_mul,e1,Nat.add_mul]
 rw [e1,e2];refine⟨Nat.mul_le_mul_right _ (by omega),Nat.mul_lt_mul_of_pos_right (by omega) hc,fun h=>by rw [h,Nat.add_zero],fun h=>Nat.mul_lt_mul_of_pos_right (by omega) hc⟩
def cutT(n m:Nat)(e:Int):Nat:=(e+1074).toNat*2^52+upN n e / upM m e
def capT(n m:Nat)(e:Int):Nat:=(e+1074).toNat*2^52+(upN n e / upM m e+if upN n e % upM m e=0 then 0 else 1)
theorem lastBit_bounds{f:Int}(hf:f≤1023):-1074≤lastBit f∧lastBit f≤971:=by unfold lastBit;split<;>omega
theorem mag_cut{n m:Nat}{f:Int}(hm:0<m)(h:Sc n m f)(c:Nat)(hc:c≤1):
  mag ((lastBit f+1074).toNat*2^52+(upN n (lastBit f) / upM m (lastBit f)+c))=(upN n (lastBit f) / upM m (lastBit f)+c)*2^(lastBit f+1074).toNat:=by
 have h1:=w_lt hm h;refine mag_form _ _ ?_ (by omega)
 by_cases hb:-1074<lastBit f
 ·have:=w_ge hm h hb;right;omega
 ·left;omega
theorem cut_lt{n m:Nat}{f:Int}(hm:0<m)(h:Sc n m f)(hf:f≤1023):cutT n m (lastBit f)<M:=by
 have h1:=w_lt hm h;have h2:=lastBit_bounds hf;unfold cutT;rw [M_val];omega
theorem cap_le{n m:Nat}{f:Int}(hm:0<m)(h:Sc n m f)(hf:f≤1023):capT n m (lastBit f)≤M:=by
 have h1:=w_lt hm h;have h2:=lastBit_bounds hf
 unfold capT;rw [M_val];split<;>omega
theorem cut_law{n m U:Nat}{f:Int}(hU:U=1074)(hm:0<m)(h:Sc n m f)(hf:f≤1023)(r:Nat):r≤cutT n m (lastBit f)↔mag r*m≤n*2^U:=by
 have hb:=lastBit_bounds hf;obtain⟨u1,u2,-,-⟩:=units (n:=n) (U:=U) hm (show -(U:Int)≤lastBit f by omega);have m0:=mag_cut hm h 0 (by omega);have m1:=mag_cut hm h 1 (by omega);rw [Nat.add_zero] at m0;rw [show (lastBit f+(U:Int)).toNat=(lastBit f+1074).toNat from by omega] at u1 u2;rw [← m0] at u1;rw [← m1] at u2
 have e:(lastBit f+1074).toNat*2^52+(upN n (lastBit f) / upM m (lastBit f)+1)=cutT n m (lastBit f)+1:=by unfold cutT;omega
 rw [e] at u2
 constructor
 ·intro hr;have h1:mag r≤mag (cutT n m (lastBit f)):=mag_le_iff.2 hr
  exact Nat.le_trans (Nat.mul_le_mul_right m h1) u1
 ·intro hr
  by_cases hc:r≤cutT n m (lastBit f)
  ·exact hc
  ·have h1:mag (cutT n m (lastBit f)+1)≤mag r:=mag_le_iff.2 (by omega);have h2:=Nat.mul_le_mul_right m h1
   exact absurd (Nat.lt_of_lt_of_le u2 h2) (by omega)
theorem cap_law{n m U:Nat}{f:Int}(hU:U=1074)(hm:0<m)(h:Sc n m f)(hf:f≤1023)(r:Nat):capT n m (lastBit f)≤r↔n*2^U≤mag r*m:=by
 have hb:=lastBit_bounds hf;obtain⟨u1,u2,u3,u4⟩:=units (n:=n) (U:=U) hm (show -(U:Int)≤lastBit f by omega);have m0:=mag_cut hm h 0 (by omega);have m1:=mag_cut hm h 1 (by omega);rw [Nat.add_zero] at m0;rw [show (lastBit f+(U:Int)).toNat=(lastBit f+1074).toNat from by omega] at u1 u2 u3 u4;rw [← m0] at u1 u3 u4;rw [← m1] at u2
 have e:(lastBit f+1074).toNat*2^52+(upN n (lastBit f) / upM m (lastBit f)+1)=cutT n m (lastBit f)+1:=by unfold cutT;omega
 have e0:(lastBit f+1074).toNat*2^52+(upN n (lastBit f) / upM m (lastBit f))=cutT n m (lastBit f):=rfl;rw [e] at u2;rw [e0] at u1 u3 u4
 by_cases hz:upN n (lastBit f) % upM m (lastBit f)=0
 ·have hc:capT n m (lastBit f)=cutT n m (lastBit f):=by unfold capT cutT;rw [if_pos hz,Nat.add_zero]
  rw [hc,u3 hz]
  constructor
  ·intro hr;exact Nat.mul_le_mul_right m (mag_le_iff.2 hr)
  ·intro hr
   exact mag_le_iff.1 (Nat.le_of_mul_le_mul_right hr hm)
 ·have hc:capT n m (lastBit f)=cutT n m (lastBit f)+1:=by unfold capT cutT;rw [if_neg hz];omega
  rw [hc];have u4:=u4 hz
  constructor
  ·intro hr
   exact Nat.le_trans (Nat.le_of_lt u2) (Nat.mul_le_mul_right m (mag_le_iff.2 hr))
  ·intro hr;have h2:=Nat.lt_of_mul_lt_mul_right (Nat.lt_of_lt_of_le u4 hr);have:=mag_lt_iff.1 h2
   omega
theorem over_law{n m U:Nat}{f:Int}(hU:U=1074)(hm:0<m)(h:Sc n m f)(hf:1023<f)(r:Nat)(hr:r<M):mag r*m<n*2^U:=by
 have h1:=(h.1 (by omega)).1;have h2:mag r<mag M:=mag_lt_iff.2 hr
 have h3:mag M=2^52*2^2046:=by
  have:=mag_form 2046 (2^52) (.inr (Nat.le_refl _)) (by decide);rw [← this];rfl
 rw [h3] at h2
 obtain⟨k,rfl⟩:∃ k:Nat,f=((1024+k:Nat):Int):=⟨(f - 1024).toNat,by omega⟩
 rw [Int.toNat_natCast] at h1
 obtain⟨V,hV⟩:∃ V,V=2046:=⟨_,rfl⟩
 rw [← hV] at h2
 calc mag r*m<2^52*2^V*m:=Nat.mul_lt_mul_of_pos_right h2 hm
  _=m*2^(52+V):=by rw [Nat.pow_add];ac_rfl
  _≤m*2^(1024+k+U):=Nat.mul_le_mul_left _ (Nat.pow_le_pow_right (by omega) (by omega))
  _=m*2^(1024+k)*2^U:=by rw [Nat.pow_add 2 (1024+k) U,Nat.mul_assoc]
  _≤n*2^U:=Nat.mul_le_mul_right _ h1
theorem rv_le_false{p q p' q':Nat}(hq:0<q)(hq':0<q'):rv false p q≤rv false p' q'↔p*q'≤p'*q:=by
 have:=rv_lt_false (p:=p') (p':=p) hq' hq
 constructor
 ·intro h
  by_cases hc:p*q'≤p'*q
  ·exact hc
  ·exact absurd (this.2 (by omega)) (by grind)
 ·intro h
  by_cases hc:rv false p q≤rv false p' q'
  ·exact hc
  ·have:=this.1 (by grind);omega
theorem fl_nat(r:Nat){U:Nat}(hU:U=1074):fl (r:Int)=rv false (mag r) (2^U):=by
 unfold rv fl;rw [if_neg (by decide),val_nat];refine eq_div (cast_ne (Nat.two_pow_pos U)) ?_;rw [← zpow_nat,show (-1074:Int)=-(U:Int) from by omega,Rat.mul_assoc,← zpow_add,show -(U:Int)+(U:Int)=0 from by omega,Rat.zpow_zero,Rat.mul_one]
 rfl
theorem fl_neg(i:Int):fl (-i)=- fl i:=by
 unfold fl;rw [val_neg,Rat.intCast_neg];grind
theorem fl_lt_iff{i j:Int}:fl i<fl j↔i<j:=by
 unfold fl;rw [Rat.mul_lt_mul_right (zpow_pos _),Rat.intCast_lt_intCast,val_lt_iff]
theorem fl_le_iff{i j:Int}:fl i≤fl j↔i≤j:=by
 have:=@fl_lt_iff j i
 constructor
 ·intro h
  by_cases hc:i≤j
  ·exact hc
  ·exact absurd (this.2 (by omega)) (by grind)
 ·intro h
  by_cases hc:fl i≤fl j
  ·exact hc
  ·have:=this.1 (by grind);omega
theorem fl_zero:fl 0=0:=by unfold fl;rw [val_zero];grind
def Rnd(d:Int)(x:Rat)(i:Int):Prop:=
 (d=-1∧-(M:Int)≤i∧i<M∧∀ j:Int,-(M:Int)<j→j<M→(j≤i↔fl j≤x)) ∨
 (d=1∧-(M:Int)<i∧i≤M∧∀ j:Int,-(M:Int)<j→j<M→(i≤j↔x≤fl j))
theorem Rnd.neg{d:Int}{x:Rat}{i:Int}(h:Rnd d x i):Rnd (-d) (-x) (-i):=by
 rcases h with ⟨rfl,h1,h2,h3⟩ | ⟨rfl,h1,h2,h3⟩
 ·refine .inr ⟨rfl,by omega,by omega,fun j hj hj'=>?_⟩;have:=h3 (-j) (by omega) (by omega);rw [fl_neg] at this
  constructor
  ·intro h;have:=this.1 (by omega);grind
  ·intro h;have:=this.2 (by grind);omega
 ·refine .inl ⟨rfl,by omega,by omega,fun j hj hj'=>?_⟩;have:=h3 (-j) (by omega) (by omega);rw [fl_neg] at this
  constructor
  ·intro h;have:=this.1 (by omega);grind
  ·intro h;have:=this.2 (by grind);omega
theorem Rnd.exact{d a i:Int}(h:Rnd d (fl a) i)(h0:-(M:Int)<a)(h1:a<M):i=a:=by
 rcases h with ⟨rfl,a1,a2,a3⟩ | ⟨rfl,a1,a2,a3⟩
 ·have h2:=(a3 a h0 h1).2 Rat.le_refl
  by_cases hc:i=a
  ·exact hc
  ·have:=(a3 i (by omega) a2).1 (by omega);rw [fl_le_iff] at this;omega
 ·have h2:=(a3 a h0 h1).2 Rat.le_refl
  by_cases hc:i=a
  ·exact hc
  ·have:=(a3 i a1 (by omega)).1 (by omega);rw [fl_le_iff] at this;omega
theorem rnd_zero{d:Int}(hd:d=-1∨d=1):Rnd d 0 0:=by
 rw [← fl_zero]
 rcases hd with rfl | rfl
 ·exact .inl ⟨rfl,by rw [M_val];omega,by rw [M_val];omega,fun j _ _=>fl_le_iff.symm⟩
 ·exact .inr ⟨rfl,by rw [M_val];omega,by rw [M_val];omega,fun j _ _=>fl_le_iff.symm⟩
theorem rnd_down{n m t U:Nat}(hU:U=1074)(hn:0<n)(hm:0<m)(ht:t<M)(h:∀ r:Nat,r<M→(r≤t↔mag r*m≤n*2^U)):Rnd (-1) (rv false n m) t:=by
 refine .inl ⟨rfl,by omega,by omega,fun j hj hj'=>?_⟩
 rcases Int.lt_or_le j 0 with h0 | h0
 ·have h1:fl j<fl 0:=fl_lt_iff.2 h0;rw [fl_zero] at h1;have h2:=rv_pos hn hm
  constructor
  ·intro _;grind
  ·intro _;omega
 ·obtain⟨r,rfl⟩:∃ r:Nat,j=r:=⟨j.toNat,by omega⟩
  rw [fl_nat r hU,rv_le_false (Nat.two_pow_pos U) hm,← h r (by omega)]
  omega
theorem rnd_up{n m t U:Nat}(hU:U=1074)(hn:0<n)(hm:0<m)(ht:t≤M)(h:∀ r:Nat,r<M→(t≤r↔n*2^U≤mag r*m)):Rnd 1 (rv false n m) t:=by
 have hp:0<n*2^U:=Nat.mul_pos hn (Nat.two_pow_pos U)
 have h0:0<t:=by
  have h1:=h 0 (by rw [M_val];omega);rw [mag_zero,Nat.zero_mul] at h1
  omega
 refine .inr ⟨rfl,by omega,by omega,fun j hj hj'=>?_⟩
 rcases Int.lt_or_le j 0 with h0 | h0
 ·have h1:fl j<fl 0:=fl_lt_iff.2 h0;rw [fl_zero] at h1;have h2:=rv_pos hn hm
  constructor
  ·intro _;omega
  ·intro _;grind
 ·obtain⟨r,rfl⟩:∃ r:Nat,j=r:=⟨j.toNat,by omega⟩
  rw [fl_nat r hU,rv_le_false hm (Nat.two_pow_pos U),← h r (by omega)]
  omega
def sg(neg:Bool)(t:Nat):Int:=if neg then -(t:Int) else (t:Int)
def ansT(p q:Nat)(f:Int)(away:Bool):Nat:=if 1023<f then (if away then M else M - 1) else (if away then capT p q (lastBit f) else cutT p q (lastBit f))
theorem rnd_ans{p q:Nat}{f d:Int}{neg:Bool}(hp:0<p)(hq:0<q)(h:Sc p q f)(hd:d=-1∨d=1):Rnd d (rv neg p q) (sg neg (ansT p q f (decide (d=1) != neg))):=by
 obtain⟨U,hU⟩:∃ U,U=1074:=⟨_,rfl⟩
 have up:Rnd 1 (rv false p q) (ansT p q f true):=by
  unfold ansT
  by_cases hf:1023<f
  ·rw [if_pos hf,if_pos rfl];refine rnd_up hU hp hq (Nat.le_refl _) fun r hr=>?_;have:=over_law hU hq h hf r hr
   omega
  ·rw [if_neg hf,if_pos rfl]
   exact rnd_up hU hp hq (cap_le hq h (by omega)) fun r _=>cap_law hU hq h (by omega) r
 have down:Rnd (-1) (rv false p q) (ansT p q f false):=by
  unfold ansT
  by_cases hf:1023<f
  ·rw [if_pos hf,if_neg (by decide)];refine rnd_down hU hp hq (by rw [M_val];omega) fun r hr=>?_;have:=over_law hU hq h hf r hr
   omega
  ·rw [if_neg hf,if_neg (by decide)]
   exact rnd_down hU hp hq (cut_lt hq h (by omega)) fun r _=>cut_law hU hq h (by omega) r
 rcases hd with rfl | rfl<;>cases neg
 ·exact down
 ·have:=up.neg;rw [← rv_true] at this
  exact this
 ·exact up
 ·have:=down.neg;rw [← rv_true] at this
  exact this
end Go.Proofs.YthlmlmfebpjgdaaGreatDoor
namespace Go.Proofs.YthlmlmfebpjgdaaGreatDoor
def SubInv(rs ys cur:List Nat)(x i c b:Nat):Prop:=
 W32 cur∧cur.length=rs.length∧(∀ j:Nat,i≤j→cur[j]?.getD 0=rs[j]?.getD 0)∧c<4294967296∧b≤1 ∧
  num (cur.take i)+x*num (ys.take i)=num (rs.take i)+2^(32*i)*(b+c)
theorem SubInv.start{rs ys:List Nat}(x:Nat)(h:W32 rs):SubInv rs ys rs x 0 0 0:=
 ⟨h,rfl,fun _ _=>rfl,by omega,by omega,by simp [num]⟩
theorem SubInv.step{rs ys cur:List Nat}{x i c b t d b':Nat}(h:SubInv rs ys cur x i c b)(hi:i<rs.length)(hx:x<4294967296)(hy:W32 ys)
  (ht:t=c+ys[i]?.getD 0*x)(hd:d<4294967296)(hb':b'≤1)(he:d+(t % 4294967296+b)=rs[i]?.getD 0+4294967296*b'):
  SubInv rs ys (cur.set i d) x (i+1) (t / 4294967296) b':=by
 obtain⟨hw,hl,hr,hc,hb,hs⟩:=h;have h1:=hy.get i;have h2:ys[i]?.getD 0*x≤4294967295*4294967295:=Nat.mul_le_mul (by omega) (by omega);refine⟨hw.set _ hd,by simp [hl],fun j hj=>?_,by omega,hb',?_⟩
 ·rw [List.getElem?_set_ne (by omega)];exact hr j (by omega)
 ·have e1:num ((cur.set i d).take (i+1))=num (cur.take i)+2^(32*i)*d:=by
   rw [num_take_next,List.take_set_of_le (Nat.le_refl _),List.getElem?_set_self (by omega)];rfl
  rw [e1,num_take_next,num_take_next,pow32,Nat.mul_add x]
  have e2:x*(2^(32*i)*ys[i]?.getD 0)=2^(32*i)*(ys[i]?.getD 0*x):=by
   rw [Nat.mul_left_comm,Nat.mul_comm x]
  rw [e2];generalize ys[i]?.getD 0*x=z at *;generalize 2^(32*i)=p at *
  have e3:p*(b+c)+p*d+p*z=p*rs[i]?.getD 0+2^32*p*(b'+t / 4294967296):=by
   rw [Nat.mul_comm (2^32) p,Nat.mul_assoc,← Nat.mul_add,← Nat.mul_add,← Nat.mul_add]
   congr 1;omega
  omega
theorem SubInv.done{rs ys cur:List Nat}{x c b:Nat}(h:SubInv rs ys cur x rs.length c b)(hr:W32 rs)(hm:ys.length≤rs.length)(hle:x*num ys≤num rs):
  num cur=num rs - x*num ys:=by
 obtain⟨hw,hl,_,hc,hb,hs⟩:=h;rw [List.take_of_length_le (by omega),List.take_of_length_le (Nat.le_refl _),List.take_of_length_le hm] at hs;have h1:=num_lt hw;have h2:=num_lt hr;rw [hl] at h1
 have h3:b+c=0:=by
  rcases Nat.eq_zero_or_pos (b+c) with h3 | h3
  ·exact h3
  ·exfalso
   have:=Nat.mul_le_mul_left (2^(32*rs.length)) h3
   omega
 rw [h3] at hs
 omega
theorem num_shift_up{rs:List Nat}(h:rs≠[])(hz:rs[rs.length - 1]?.getD 0=0)(u:Nat):num (u :: rs.take (rs.length - 1))=u+4294967296*num rs:=by
 rw [num_cons];have hl:0<rs.length:=List.length_pos_iff.2 h
 have e:num rs=num (rs.take (rs.length - 1)):=by
  have:=num_take_next rs (rs.length - 1);rw [Nat.sub_add_cancel hl,List.take_of_length_le (Nat.le_refl _),hz] at this
  omega
 rw [← e]
def ByInv(us qs:List Nat)(V R i:Nat):Prop:=W32 qs∧qs.length=us.length∧num (us.drop i)=num (qs.drop i)*V+R∧R<V
theorem ByInv.start(us:List Nat){V:Nat}(hV:0<V):ByInv us (List.replicate us.length 0) V 0 us.length:=
 ⟨W32.replicate _,by simp,by simp [num],hV⟩
theorem num_drop_cons(l:List Nat)(i:Nat):num (l.drop i)=l[i]?.getD 0+4294967296*num (l.drop (i+1)):=by
 rw [num_tail (l.drop i),List.getElem?_drop,List.tail_drop];rfl
theorem ByInv.step{us qs:List Nat}{V R i d R':Nat}(h:ByInv us qs V R (i+1))(hi:i<us.length)(hd:d<4294967296)(he:us[i]?.getD 0+4294967296*R=d*V+R')(hR:R'<V):
  ByInv us (qs.set i d) V R' i:=by
 obtain⟨hw,hl,hs,_⟩:=h;refine⟨hw.set _ hd,by simp [hl],?_,hR⟩;rw [num_drop_cons us,hs,num_drop_cons (qs.set i d),List.getElem?_set_self (by omega)];rw [List.drop_set_of_lt (by omega)]
 show _=(d+4294967296*num (qs.drop (i+1)))*V+R'
 rw [Nat.mul_add,Nat.add_mul,Nat.mul_assoc];generalize num (qs.drop (i+1))*V=z at *
 omega
theorem ByInv.done{us qs:List Nat}{V R:Nat}(h:ByInv us qs V R 0):num us / V=num qs∧num us % V=R:=by
 obtain⟨_,_,hs,hR⟩:=h;rw [List.drop_zero,List.drop_zero] at hs;rw [hs,Nat.mul_comm]
 constructor
 ·rw [Nat.mul_add_div (by omega),Nat.div_eq_of_lt hR,Nat.add_zero]
 ·rw [Nat.mul_add_mod,Nat.mod_eq_of_lt hR]
end Go.Proofs.YthlmlmfebpjgdaaGreatDoor
namespace Go.Proofs.YthlmlmfebpjgdaaGreatDoor
open Go.RowKit
def Moved(rs cur:List Nat)(j:Nat):Prop:=cur.length=rs.length∧∀ t:Nat,t<rs.length→cur[t]?.getD 0=if j<t then rs[t - 1]?.getD 0 else rs[t]?.getD 0
theorem Moved.start(rs:List Nat):Moved rs rs (rs.length - 1):=⟨rfl,fun t ht=>by rw [if_neg (by omega)]⟩
theorem Moved.step{rs cur:List Nat}{j:Nat}(h:Moved rs cur (j+1))(hj:j+1<rs.length):Moved rs (cur.set (j+1) (rs[j]?.getD 0)) j:=by
 obtain⟨hl,hm⟩:=h;refine⟨by simp [hl],fun t ht=>?_⟩
 by_cases h1:t=j+1
 ·subst h1;rw [List.getElem?_set_self (by omega),if_pos (by omega)];rfl
 ·rw [List.getElem?_set_ne (by omega),hm t ht]
  by_cases h2:j<t
  ·rw [if_pos h2,if_pos (by omega)]
  ·rw [if_neg h2,if_neg (by omega)]
theorem Moved.done{rs cur:List Nat}(h:Moved rs cur 0)(h0:rs≠[])(hz:rs[rs.length - 1]?.getD 0=0)(u:Nat):num (cur.set 0 u)=u+4294967296*num rs:=by
 rw [← num_shift_up h0 hz];have hl:0<rs.length:=List.length_pos_iff.2 h0;refine num_ext fun t=>?_
 rcases Nat.eq_zero_or_pos t with h1 | h1
 ·subst h1;rw [List.getElem?_set_self (by rw [h.1];exact hl)];rfl
 ·rw [List.getElem?_set_ne (by omega)]
  obtain⟨t,rfl⟩:∃ i,t=i+1:=⟨t - 1,by omega⟩
  rw [List.getElem?_cons_succ]
  rcases Nat.lt_or_ge (t+1) rs.length with h2 | h2
  ·rw [h.2 _ h2,if_pos (by omega),List.getElem?_take_of_lt (by omega)];rfl
  ·rw [List.getElem?_eq_none (by rw [h.1];exact h2),List.getElem?_eq_none (by rw [List.length_take];omega)]
def fdec(p q:Nat)(f:Int):Bool:=if 0≤f then decide (p<q*2^f.toNat) else decide (p*2^(-f).toNat<q)
def fout(p q:Nat)(f:Int):Int:=if fdec p q f then f - 1 else f
theorem fout_sc{p q:Nat}{f:Int}(hp:0<p)(hq:0<q)(hf:f=(blen p:Int) - blen q):Sc p q (fout p q f):=by
 unfold fout
 by_cases h:fdec p q f=true
 ·rw [if_pos h];unfold fdec at h;refine scale_down hp hq hf (fun h0=>?_) (fun h0=>?_)
  ·rw [if_pos h0] at h;exact of_decide_eq_true h
  ·rw [if_neg (by omega)] at h;exact of_decide_eq_true h
 ·rw [if_neg h];unfold fdec at h;refine scale_keep hp hq hf (fun h0=>?_) (fun h0=>?_)
  ·rw [if_pos h0] at h;simp at h;exact h
  ·rw [if_neg (by omega)] at h;simp at h;exact h
theorem es_bounds(i:Int):-1≤es i∧es i≤1:=by unfold es;split<;>(try split)<;>omega
theorem es_zero{i:Int}(h:es i=0):i≠M∧i≠-(M:Int):=by
 unfold es at h
 split at h
 ·cases h
 ·split at h
  ·cases h
  ·exact⟨by assumption,by assumption⟩
theorem ex_zero{i:Int}(h:es i=0):ex i=fl i:=by unfold ex;rw [if_pos h]
end Go.Proofs.YthlmlmfebpjgdaaGreatDoor
