/-
Lemmas for the statement: GoA GoB FlT OrdT.
-/
import Derived.Test.YthlmlmfebpjgdaaGreatDoorM02
import Derived.Laws.Externs
import Derived.Deep.DeepCutAuto
set_option linter.unusedSimpArgs false
set_option linter.unusedVariables false
set_option maxHeartbeats 12800000
namespace Go.Proofs.YthlmlmfebpjgdaaGreatDoor
section
open Go.RowKit
theorem run_frombits(b:Nat)(w:World):(callFunc 74 #[.int .u64 (b:Int)]).run Tryz.prog w=.ok (.value (.float .f64 b)) w:=by
 rw [run_callFunc_extern (e:=Extern.MathFloatBits.float64frombits) Tryz.func74 (by kernel_rfl) (by kernel_rfl) (by kernel_rfl) (by kernel_rfl)]
 rfl
theorem run_bitsof(b:Nat)(w:World):(callFunc 73 #[.float .f64 b]).run Tryz.prog w=.ok (.value (.int .u64 (b:Int))) w:=by
 rw [run_callFunc_extern (e:=Extern.MathFloatBits.float64bits) Tryz.func73 (by kernel_rfl) (by kernel_rfl) (by kernel_rfl) (by kernel_rfl)]
 rfl
end
section
open Go.RowKit
theorem inf_pos(w:World):Calls Tryz.prog 19 #[.int .i64 1] w fun e w'=>e=.returned (.float .f64 9218868437227405312)/\w=w':=by
 have hf:∀ W:World,(callFunc 74 #[.int .u64 9218868437227405312]).run Tryz.prog W=.ok (.value (.float .f64 9218868437227405312)) W:=fun W=>run_frombits 9218868437227405312 W
 go_enter Tryz.func19,Tryz.ntmps19
 go_wp2
 go_ret
 exact⟨rfl,rfl⟩
theorem inf_neg(w:World):Calls Tryz.prog 19 #[.int .i64 (-1)] w fun e w'=>e=.returned (.float .f64 18442240474082181120)/\w=w':=by
 have hf:∀ W:World,(callFunc 74 #[.int .u64 18442240474082181120]).run Tryz.prog W=.ok (.value (.float .f64 18442240474082181120)) W:=fun W=>run_frombits 18442240474082181120 W
 go_enter Tryz.func19,Tryz.ntmps19
 go_wp2
 go_ret
 exact⟨rfl,rfl⟩
theorem plainf(b:Nat)(w:World)(hb:b<18446744073709551616)(hr:rungOf b<=M):Calls Tryz.prog 171 #[.float .f64 b] w fun e w'=>e=.returned (.float .f64 (pat (idx b)))/\w=w':=by
 have ho:FloatKind.f64.format.order b 0=some (compare (idx b) (idx 0)):=order_real hr (by show rungOf 0<=M;decide);rw [show idx 0=0 from by decide] at ho;have hp:=pl_real hb hr
 by_cases h:idx b=0
 ·have hq:(FloatKind.f64.format.order b 0 == some Ordering.eq)=true:=by rw [ho,h];rfl
  rw [h,pat_zero];clear ho hp h hr
  go_enter Tryz.func171,Tryz.ntmps171
  go_wp2
  go_ret
  exact⟨rfl,rfl⟩
 ·have hq:(FloatKind.f64.format.order b 0 == some Ordering.eq)=false:=by
   rw [ho]
   rcases Int.lt_trichotomy (idx b) 0 with h1 | h1 | h1
   ·rw [show compare (idx b) 0=.lt from Int.compare_eq_lt.2 h1];rfl
   ·exact absurd h1 h
   ·rw [show compare (idx b) 0=.gt from Int.compare_eq_gt.2 h1];rfl
  have e:pat (idx b)=b:=by
   rw [<- hp];unfold pl;have:=pat_cases hb;rw [if_neg (by omega),if_neg (by omega)]
  rw [e];clear ho hp h hr e
  go_enter Tryz.func171,Tryz.ntmps171
  go_wp2
  go_ret
  exact⟨rfl,rfl⟩
theorem soundf(x y:Nat)(w:World)(hx:x<18446744073709551616)(hy:y<18446744073709551616):Calls Tryz.prog 170 #[.float .f64 x,.float .f64 y] w fun e w'=>e=.returned (.bool (snd x y))/\w=w':=by
 have H1:=Hd inf_pos;have H2:=Hd inf_neg;have hM:M=9218868437227405312:=rfl
 have n1:idx 9218868437227405312=M:=by decide
 have n2:idx 18442240474082181120=-(M:Int):=by decide
 have r1:real 9218868437227405312:=by show rungOf _<=M;decide
 have r2:real 18442240474082181120:=by show rungOf _<=M;decide
 by_cases hx':rungOf x<=M
 ·by_cases hy':rungOf y<=M
  ·have ho:FloatKind.f64.format.order x y=some (compare (idx x) (idx y)):=order_real hx' hy';have h2:FloatKind.f64.format.order x 9218868437227405312=some (compare (idx x) (idx 9218868437227405312)):=order_real hx' r1;have h3:FloatKind.f64.format.order y 18442240474082181120=some (compare (idx y) (idx 18442240474082181120)):=order_real hy' r2;rw [n1] at h2;rw [n2] at h3;have bx:=idx_bounds hx';have bY:=idx_bounds hy'
   by_cases h:idx y<idx x
   ·rw [show compare (idx x) (idx y)=.gt from Int.compare_eq_gt.2 h] at ho;have hs:snd x y=false:=decide_eq_false (by omega);rw [hs];clear h2 h3 n1 n2 r1 r2 bx bY h hs hx' hy' hM
    go_enter Tryz.func170,Tryz.ntmps170
    go_wp2
    go_ret
    exact⟨rfl,rfl⟩
   ·have hle:compare (idx x) (idx y)=.lt\/compare (idx x) (idx y)=.eq:=by
     rcases Int.lt_trichotomy (idx x) (idx y) with h1 | h1 | h1
     ·exact .inl (Int.compare_eq_lt.2 h1)
     ·exact .inr (by rw [h1];exact Int.compare_eq_eq.2 rfl)
     ·exact absurd h1 h
    by_cases hm:idx x=M
    ·rw [show compare (idx x) (M:Int)=.eq from by rw [hm];exact Int.compare_eq_eq.2 rfl] at h2;have hs:snd x y=false:=decide_eq_false (by omega);rw [hs];clear h3 n1 n2 r1 r2 bx bY h hs hx' hy' hM hm
     rcases hle with e | e<;>rw [e] at ho<;>clear e
     all_goals
      go_enter Tryz.func170,Tryz.ntmps170
      go_wp2_with fail;refine (H1.out _).mono ?_;rintro e w1 ⟨rfl,rfl⟩;go_wp2
      go_ret
      exact⟨rfl,rfl⟩
    ·rw [show compare (idx x) (M:Int)=.lt from Int.compare_eq_lt.2 (by omega)] at h2
     by_cases hn:idx y=-(M:Int)
     ·rw [show compare (idx y) (-(M:Int))=.eq from by rw [hn];exact Int.compare_eq_eq.2 rfl] at h3;have hs:snd x y=false:=decide_eq_false (by omega);rw [hs];clear n1 n2 r1 r2 bx bY h hs hx' hy' hM hm hn
      rcases hle with e | e<;>rw [e] at ho<;>clear e
      all_goals
       go_enter Tryz.func170,Tryz.ntmps170
       go_wp2_with fail;refine (H1.out _).mono ?_;rintro e w1 ⟨rfl,rfl⟩;go_wp2_with fail;refine (H2.out _).mono ?_;rintro e w1 ⟨rfl,rfl⟩;go_wp2
       go_ret
       exact⟨rfl,rfl⟩
     ·rw [show compare (idx y) (-(M:Int))=.gt from Int.compare_eq_gt.2 (by omega)] at h3;have hs:snd x y=true:=decide_eq_true (by omega);rw [hs];clear n1 n2 r1 r2 bx bY h hs hx' hy' hM hm hn
      rcases hle with e | e<;>rw [e] at ho<;>clear e
      all_goals
       go_enter Tryz.func170,Tryz.ntmps170
       go_wp2_with fail;refine (H1.out _).mono ?_;rintro e w1 ⟨rfl,rfl⟩;go_wp2_with fail;refine (H2.out _).mono ?_;rintro e w1 ⟨rfl,rfl⟩;go_wp2
       go_ret
       exact⟨rfl,rfl⟩
  ·have ho:FloatKind.f64.format.order x y=none:=order_nan_right x (by omega);have hs:snd x y=false:=decide_eq_false (by omega);rw [hs];clear n1 n2 r1 r2 hs hx' hy' hM
   go_enter Tryz.func170,Tryz.ntmps170
   go_wp2
   go_ret
   exact⟨rfl,rfl⟩
 ·have ho:FloatKind.f64.format.order x y=none:=order_nan_left y (by omega);have hs:snd x y=false:=decide_eq_false (by omega);rw [hs];clear n1 n2 r1 r2 hs hx' hM
  go_enter Tryz.func170,Tryz.ntmps170
  go_wp2
  go_ret
  exact⟨rfl,rfl⟩
end
section
open Go.RowKit
theorem run_store_float(P:Program)(w:World)(a:Addr)(m:Mode)(k:FloatKind)(b:Nat):(store a (.float k b) m).run P w=stored P w a (.float k b) m:=run_store P w a _ m rfl
attribute [local go_sem] run_store_float
theorem emptyf(w:World):Rt 76 #[] (.agg #[.float .f64 9218868437227405312,.float .f64 18442240474082181120]) w:=by
 have H1:=Hd inf_pos;have H2:=Hd inf_neg;obtain⟨LB0,LR⟩:=bx1 w #[.float .f64 0,.float .f64 0] 28;have LR0:=Hd (HasBlk.of (n:=2) LR.out rfl rfl);clear LR;have ba:=LB0.out;clear LB0 LR0 ba
 go_enter Tryz.func76,Tryz.ntmps76
 go_wp2_with fail;refine (H1.out _).mono ?_;rintro e w1 ⟨rfl,rfl⟩;go_wp2_with fail;refine (H2.out _).mono ?_;rintro e w1 ⟨rfl,rfl⟩;go_wp2;refine bodyPost_ret (v:=.agg #[.float .f64 9218868437227405312,.float .f64 18442240474082181120]) (by simp [results,Tryz.results76,go_sem]) rfl ?_
 exact have b:=(below_alloc w _);⟨rfl,b⟩
theorem readf(x y:Nat)(w:World)(hx:x<18446744073709551616)(hy:y<18446744073709551616):Rt 102 #[.agg #[.float .f64 x,.float .f64 y]] (.agg #[.float .f64 (pat (rd x y).1),.float .f64 (pat (rd x y).2)]) w:=by
 have HS:=Hd fun W=>soundf x y W hx hy
 obtain⟨s,hs⟩:∃ s,snd x y=s:=⟨_,rfl⟩
 rw [hs] at HS;unfold rd;rw [hs]
 cases s
 ·simp only [Bool.false_eq_true,if_false]
  rw [pat_max,pat_min];clear hs;have HE:=Hd emptyf;obtain⟨LB0,LG0_0,LR⟩:=bx2 w #[.float .f64 x,.float .f64 y] 28 #[.float .f64 0,.float .f64 0] 28;have LR0:=Hd (HasBlk.of (n:=2) LR.out rfl rfl);clear LR
  go_enter Tryz.func102,Tryz.ntmps102
  go_wp2_with fail;refine (HS.out _).mono ?_;rintro e w1 ⟨rfl,rfl⟩;go_wp2_with fail;refine cx (HE.out _) fun w2 hb2=>?_;have LB1:=stB LB0 hb2 LB0.out.size;have LR1:=stR LR0 hb2;have LG0_1:=stG LG0_0 hb2;clear LB0 LR0 LG0_0;clear hb2;obtain⟨ha0,hf0,ha1,hf1⟩:=LR1.out.sf2;obtain⟨hk0,hk1⟩:=LR1.out.sc2 (.float .f64 9218868437227405312) (.float .f64 18442240474082181120);have F:=Hd (below_sets (w0:=w) (r:=(w.heap.size+1)) (by omega) [.float .f64 9218868437227405312,.float .f64 18442240474082181120] 0 _ LB1.out)
  simp [sets] at hk0 hk1
  go_wp2;refine bodyPost_ret (v:=.agg #[.float .f64 9218868437227405312,.float .f64 18442240474082181120]) (by simp [results,Tryz.results102,go_sem,hk0,hk1]) rfl ?_
  exact⟨rfl,F.out⟩
 ·simp only [if_true]
  have hd:=of_decide_eq_true hs;have P1:=Hd fun W=>(plainf x W hx hd.1).mono (R':=fun e w'=>e=.returned (.float .f64 (pat (idx x)))/\Below W.heap.size W w') (by rintro e w' ⟨h,rfl⟩;exact⟨h,Below.refl _ _⟩);have P2:=Hd fun W=>(plainf y W hy hd.2.1).mono (R':=fun e w'=>e=.returned (.float .f64 (pat (idx y)))/\Below W.heap.size W w') (by rintro e w' ⟨h,rfl⟩;exact⟨h,Below.refl _ _⟩)
  obtain⟨p,hp⟩:∃ p,pat (idx x)=p:=⟨_,rfl⟩
  obtain⟨q,hq⟩:∃ p,pat (idx y)=p:=⟨_,rfl⟩
  rw [hp] at P1 ⊢;rw [hq] at P2 ⊢;clear hs hd hp hq;obtain⟨LB0,LG0_0,LR⟩:=bx2 w #[.float .f64 x,.float .f64 y] 28 #[.float .f64 0,.float .f64 0] 28;have LR0:=Hd (HasBlk.of (n:=2) LR.out rfl rfl);clear LR
  go_enter Tryz.func102,Tryz.ntmps102
  go_wp2_with fail;refine (HS.out _).mono ?_;rintro e w1 ⟨rfl,rfl⟩;go_wp2_with fail;refine wp_region_held_drew (S:=fun W'=>Blk W' w.heap.size 28 #[.float .f64 x,.float .f64 y]/\HasBlk W' (w.heap.size+1) 28 2/\Below w.heap.size w W') (by kernel_rfl) (by exact⟨LG0_0.out.drew,LR0.out.drew,LB0.out.drew⟩) (fun hHeld=>?_);refine tks 0 ?_;refine tks 1 ?_ (hv:=by intro W2 hSw;obtain⟨q0,q1⟩:=hSw.1.c2;go_simp;(try with_reducible rfl));refine tks 3 ?_;refine tks 4 ?_ (hv:=by intro W2 hSw;obtain⟨q0,q1⟩:=hSw.1.c2;go_simp;(try with_reducible rfl));refine rdy 2 (fun KK hKK=>?_);go_simp;refine cx (P1.out _) fun w2 hb2=>?_;go_wp2_with fail;refine hKK.out _ _ (⟨hHeld.1.keep hb2,hHeld.2.1.keep hb2,hHeld.2.2.trans (hb2.mono hHeld.2.2.size)⟩) (fun _=>?_);clear hKK KK hHeld;rename_i hHeld;(try simp only [Act.put,lay]);refine rdy 5 (fun KK hKK=>?_);go_simp;refine cx (P2.out _) fun w3 hb3=>?_;go_wp2_with fail;refine hKK.out _ _ (⟨hHeld.1.keep hb3,hHeld.2.1.keep hb3,hHeld.2.2.trans (hb3.mono hHeld.2.2.size)⟩) (fun _=>?_);clear hKK KK hHeld;rename_i hHeld;(try simp only [Act.put,lay]);refine tks 6 ?_;refine rdy 7 (fun KK hKK=>?_);have ha0:=hHeld.2.1.someCell 0 (by decide);have hf0:=hHeld.2.1.frozen 0;have ha1:=hHeld.2.1.someCell 1 (by decide);have hf1:=hHeld.2.1.frozen 1;have HK:=Hd (hHeld.2.1.setCell [.float .f64 p,.float .f64 q] rfl);have F:=Hd (below_sets (w0:=w) (r:=(w.heap.size+1)) (by omega) [.float .f64 p,.float .f64 q] 0 _ hHeld.2.2);go_simp;refine hKK.out _ _ (⟨hHeld.1.other (by omega) 0 [.float .f64 p,.float .f64 q],hHeld.2.1.sets [.float .f64 p,.float .f64 q] rfl rfl,below_sets (by omega) [.float .f64 p,.float .f64 q] 0 _ hHeld.2.2⟩) (fun _=>?_)
  clear hKK KK hHeld;rename_i hHeld;(try simp only [Act.put,lay]);refine wpAnyH_done (by kernel_rfl) ?_ _;have hk0:=HK.out 0 (by decide);have hk1:=HK.out 1 (by decide)
  simp [sets] at hk0 hk1
  clear hHeld HK hb2 hb3;clear LB0 LR0 LG0_0;go_wp2;refine bodyPost_ret (v:=.agg #[.float .f64 p,.float .f64 q]) (by simp [results,Tryz.results102,go_sem,hk0,hk1]) rfl ?_
  exact⟨rfl,F.out⟩
end
section
open Go.RowKit
attribute [local go_sem] run_store_float
theorem order_pat{i j:Int}(h1:-(M:Int)<=i)(h2:i<=M)(h3:-(M:Int)<=j)(h4:j<=M):FloatKind.f64.format.order (pat i) (pat j)=some (compare i j):=by
 have h:=order_real (x:=pat i) (y:=pat j) (by show rungOf _<=M;rw [rung_pat h1 h2];omega) (by show rungOf _<=M;rw [rung_pat h3 h4];omega);rw [idx_pat h1 h2,idx_pat h3 h4] at h
 exact h
theorem run_negf(P:Program)(b:Nat)(w:World):(Op.unary .neg (.float .f64 b)).run P w=.ok (.float .f64 (Op.negFloat .f64 b)) w:=rfl
theorem negFloat_val{b:Nat}(hb:b<18446744073709551616):Op.negFloat .f64 b<18446744073709551616/\rungOf (Op.negFloat .f64 b)=rungOf b/\idx (Op.negFloat .f64 b)=-idx b:=by
 have e:Op.negFloat .f64 b=b ^^^ 2^63:=rfl;have h:=pat_cases hb
 have hx:b ^^^ 2^63=if b<9223372036854775808 then b+9223372036854775808 else b - 9223372036854775808:=by
  apply Nat.eq_of_testBit_eq
  intro k;rw [Nat.testBit_xor,Nat.testBit_two_pow]
  split
  ·rename_i hlt;have hj:=nat_join 63 (2^63) b (by decide) (by exact hlt);rw [show b+9223372036854775808=2^63+b from by omega,<- hj,Nat.testBit_or,Nat.testBit_two_pow]
   by_cases hk:63=k
   ·subst hk;have:b.testBit 63=false:=Nat.testBit_lt_two_pow (by exact hlt)
    simp [this]
   ·simp [hk]
  ·rename_i hge
   have hsub:b - 9223372036854775808<2^63:=by omega
   have hj:=nat_join 63 (2^63) (b - 9223372036854775808) (by decide) hsub
   have hb2:b=2^63 ||| (b - 9223372036854775808):=by rw [hj];omega
   have hbit:b.testBit k=(decide (63=k) || (b - 9223372036854775808).testBit k):=by
    conv=>lhs;rw [hb2]
    rw [Nat.testBit_or,Nat.testBit_two_pow]
   rw [hbit]
   by_cases hk:63=k
   ·subst hk;have:(b - 9223372036854775808).testBit 63=false:=Nat.testBit_lt_two_pow hsub
    simp [this]
   ·simp [hk]
 rw [e,hx]
 split
 ·have h2:=pat_cases (b:=b+9223372036854775808) (by omega)
  exact⟨by omega,by omega,by omega⟩
 ·have h2:=pat_cases (b:=b - 9223372036854775808) (by omega)
  exact⟨by omega,by omega,by omega⟩
end
end Go.Proofs.YthlmlmfebpjgdaaGreatDoor
