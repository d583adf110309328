/-
What positive, factor, FMARev, MulRev of the program answer, by indexes; a piece turned over.
Walks: package vergeref2, Plus.
-/
import Derived.Test.YtmjkmoahkanblaaGreatM30
import Derived.Test.YtmjkmoahkanblaaGreatM27
import Derived.Test.YtmjkmoahkanblaaGreatM02
import Derived.Test.YtmjkmoahkanblaaGreatM01
set_option linter.unusedSimpArgs false
set_option linter.unusedVariables false
set_option maxHeartbeats 12800000
namespace Go.Proofs.YtmjkmoahkanblaaGreat
open Go.RowKit
theorem rc_neg2(x y:Rat):rc (-x) (-y)=- rc x y:=by
 unfold rc
 by_cases h:x<y
 ·have h1:¬ -x < -y:=by grind
  have h2:-y < -x:=by grind
  rw [if_neg h1,if_pos h2,if_pos h];rfl
 ·by_cases h':y<x
  ·have h1:-x < -y:=by grind
   rw [if_pos h1,if_neg h,if_pos h']
  ·have h1:¬ -x < -y:=by grind
   have h2:¬ -y < -x:=by grind
   rw [if_neg h1,if_neg h2,if_neg h,if_neg h'];rfl
theorem ec_neg2(s:Int)(x:Rat)(t:Int)(y:Rat):ec (-s) (-x) (-t) (-y)=- ec s x t y:=by
 unfold ec
 by_cases h:s=t
 ·subst h;rw [if_pos rfl,if_pos rfl,rc_neg2]
  by_cases h0:s=0
  ·subst h0;simp
  ·rw [if_neg (by omega),if_neg h0];rfl
 ·rw [if_neg (show ¬ -s=-t by omega),if_neg h]
  by_cases h2:s<t
  ·rw [if_neg (show ¬ -s < -t by omega),if_pos h2];rfl
  ·rw [if_pos (show -s < -t by omega),if_neg h2]
theorem ec_turn(i t:Int)(y:Rat):ec (es i) (ex i) (-t) (-y)=- ec (es (-i)) (ex (-i)) t y:=by
 have h:=ec_neg2 (es (-i)) (ex (-i)) t y;rw [es_neg,ex_neg,Int.neg_neg,Rat.neg_neg] at h;rw [h,es_neg,ex_neg]
theorem pf_neg(sa:Int)(xa:Rat)(oa:Bool)(sb:Int)(xb:Rat)(ob:Bool)(i j:Int):
  pf (-sb) (-xb) ob (-sa) (-xa) oa i j=(-(pf sa xa oa sb xb ob (-j) (-i)).2,-(pf sa xa oa sb xb ob (-j) (-i)).1):=by
 have a:=rndI_neg (d:=1) (.inr rfl) xb;have b:=rndI_neg (d:=-1) (.inl rfl) xa;rw [show (-(1:Int))=-1 from rfl] at a;rw [show (- -1:Int)=1 from rfl] at b;unfold pf
 by_cases hji:j<i
 ·rw [if_pos hji,if_pos (show -i < -j by omega)];simp
 ·rw [if_neg hji,if_neg (show ¬ -i < -j by omega),ec_turn,ec_turn,ec_turn,ec_turn,a,b];unfold wg
  obtain⟨c1,h1⟩:∃ z,ec (es (-i)) (ex (-i)) sa xa=z:=⟨_,rfl⟩
  obtain⟨c2,h2⟩:∃ z,ec (es (-j)) (ex (-j)) sb xb=z:=⟨_,rfl⟩
  obtain⟨c3,h3⟩:∃ z,ec (es (-i)) (ex (-i)) sb xb=z:=⟨_,rfl⟩
  obtain⟨c4,h4⟩:∃ z,ec (es (-j)) (ex (-j)) sa xa=z:=⟨_,rfl⟩
  rw [h1,h2,h3,h4]
  by_cases hc:0<c2∨(c2=0∧ob=true)∨c1<0∨(c1=0∧oa=true)
  ·rw [if_pos hc,if_pos (by rcases hc with h | ⟨h,o⟩ | h | ⟨h,o⟩;exact .inr (.inr (.inl (by omega)));exact .inr (.inr (.inr ⟨by omega,o⟩));exact .inl (by omega);exact .inr (.inl ⟨by omega,o⟩))]
   simp
  ·rw [if_neg hc,if_neg (by rintro (h | ⟨h,o⟩ | h | ⟨h,o⟩);exact hc (.inr (.inr (.inl (by omega))));exact hc (.inr (.inr (.inr ⟨by omega,o⟩)));exact hc (.inl (by omega));exact hc (.inr (.inl ⟨by omega,o⟩)))]
   by_cases k1:c3≤0<;>by_cases k2:0≤c4
   ·rw [if_neg (by omega),if_neg (by omega),if_neg (by omega),if_neg (by omega)];simp
   ·rw [if_neg (show ¬ -c3<0 by omega),if_pos (show 0 < -c4 by omega),if_pos (show c4<0 by omega),if_neg (show ¬ 0<c3 by omega)];simp
   ·rw [if_pos (show -c3<0 by omega),if_neg (show ¬ 0 < -c4 by omega),if_neg (show ¬ c4<0 by omega),if_pos (show 0<c3 by omega)];simp
   ·rw [if_pos (show -c3<0 by omega),if_pos (show 0 < -c4 by omega),if_pos (show c4<0 by omega),if_pos (show 0<c3 by omega)]
def po(b1 b2:Int)(s1:Int)(x1:Rat)(s2:Int)(x2:Rat)(i j:Int):Int × Int:=
 if b2≤0 then ((M:Int),-(M:Int)) else ctO (decide (0<esx s1 x1) || decide (esx s2 x2<0)) i j (pA s1 x1 b1 b2).1 (pA s1 x1 b1 b2).2 (pB s2 x2 b1 b2).1 (pB s2 x2 b1 b2).2
theorem ov_rng{s:Int}{x:Rat}{j:Int}(hs:s=0∨s=1∨s=-1):(-(M:Int)≤(ov s x j).1∧(ov s x j).1≤M)∧(-(M:Int)≤(ov s x j).2∧(ov s x j).2≤M):=by
 have hM:(M:Int)=9218868437227405312:=rfl;unfold ov;have a:=rndI_down (x / fl j);have b:=rndI_up (x / fl j)
 split
 ·rcases hs with h | h | h<;>subst h<;>dsimp only<;>omega
 ·split<;>dsimp only<;>omega
theorem pA_rng{s:Int}{x:Rat}{b1 b2:Int}(hs:s=0∨s=1∨s=-1):(-(M:Int)≤(pA s x b1 b2).1∧(pA s x b1 b2).1≤M)∧(-(M:Int)≤(pA s x b1 b2).2∧(pA s x b1 b2).2≤M):=by
 have hM:(M:Int)=9218868437227405312:=rfl;unfold pA
 split
 ·exact ov_rng hs
 ·split
  ·exact ov_rng hs
  ·dsimp only;omega
theorem pB_rng{s:Int}{x:Rat}{b1 b2:Int}(hs:s=0∨s=1∨s=-1):(-(M:Int)≤(pB s x b1 b2).1∧(pB s x b1 b2).1≤M)∧(-(M:Int)≤(pB s x b1 b2).2∧(pB s x b1 b2).2≤M):=by
 have hM:(M:Int)=9218868437227405312:=rfl;unfold pB
 split
 ·exact ov_rng hs
 ·split
  ·exact ov_rng hs
  ·dsimp only;omega
theorem positive_any(b1 b2:Int)(s1:Int)(g1:Bool)(A1:Option Addr)(n1 c1:Nat)(E1:Int)(x1:Rat)(s2:Int)(g2:Bool)(A2:Option Addr)(n2 c2:Nat)(E2:Int)(x2:Rat)(i j:Int)(w:World)
  (hb1:-(M:Int)≤b1∧b1≤M)(hb2:-(M:Int)≤b2∧b2≤M)(hi:-(M:Int)≤i∧i≤M)(hj:-(M:Int)≤j∧j≤M)(h1:ExI w s1 g1 A1 n1 c1 E1 x1)(h2:ExI w s2 g2 A2 n2 c2 E2 x2):
  Calls Tryz.prog 84 #[.agg #[.float .f64 (pat b1),.float .f64 (pat b2)],.agg #[.int .i64 s1,.bool g1,.slice A1 n1 c1,.int .i64 E1],.agg #[.int .i64 s2,.bool g2,.slice A2 n2 c2,.int .i64 E2],.agg #[.float .f64 (pat i),.float .f64 (pat j)]] w
   fun e w'=>e=.returned (.agg #[.float .f64 (pat (po b1 b2 s1 x1 s2 x2 i j).1),.float .f64 (pat (po b1 b2 s1 x1 s2 x2 i j).2)])∧Below w.heap.size w w':=by
 have hM:(M:Int)=9218868437227405312:=rfl;unfold po
 by_cases h0:b2≤0
 ·rw [if_pos h0,pat_max,pat_min];refine positive_none _ _ s1 g1 A1 n1 c1 E1 s2 g2 A2 n2 c2 E2 _ _ w ?_
  by_cases hz:b2=0
  ·exact .inr (ord0_eq hz)
  ·exact .inl (ord0_lt hb2 (by omega))
 ·rw [if_neg h0];have hmx:=fun W ts t=>run_maxf hb1 (show -(M:Int)≤0∧(0:Int)≤M by omega) W ts t;rw [pat_zero] at hmx
  have hF:-(M:Int)≤max b1 0∧max b1 0≤M:=by omega
  have of:(FloatKind.f64.format.order (pat (max b1 0)) 0 == some Ordering.gt)=decide (0<b1):=by
   by_cases h:0<b1
   ·rw [ord0_gt hF (by omega),decide_eq_true h];rfl
   ·rw [ord0_eq (by omega),decide_eq_false h];rfl
  have S1:=fun W=>sign_any s1 g1 A1 n1 c1 E1 W;have S2:=fun W=>sign_any s2 g2 A2 n2 c2 E2 W;rw [h1.sg] at S1;rw [h2.sg] at S2;refine positive_walk _ _ s1 g1 A1 n1 c1 E1 s2 g2 A2 n2 c2 E2 _ _ x1 x2 _ _ _ _ _ _ _ _ _ _ _ _ _ w (ord0_gt hb2 (by omega)) hmx of S1 S2 rfl rfl rfl h1 h2 ⟨fun hc W he=>?_,fun hc hf W he=>?_,fun hc hf=>?_⟩ ⟨fun hc W he=>?_,fun hc hf W he=>?_,fun hc hf=>?_⟩ (fun W=>rcut2_any _ i j _ _ _ _ W hi hj (pA_rng (by have:=h1.1;omega)).1 (pA_rng (by have:=h1.1;omega)).2 (pB_rng (by have:=h2.1;omega)).1 (pB_rng (by have:=h2.1;omega)).2)
  ·have h:=over_any s1 g1 A1 n1 c1 E1 x1 b2 W he (by omega) hb2.2;unfold pA;rw [if_pos (of_decide_eq_true hc)]
   exact h
  ·have hb0:=of_decide_eq_true hf;have h:=over_any s1 g1 A1 n1 c1 E1 x1 b1 W he hb0 hb1.2;unfold pA;rw [if_neg (of_decide_eq_false hc),if_pos hb0,show max b1 0=b1 from by omega]
   exact h
  ·unfold pA;rw [if_neg (of_decide_eq_false hc),if_neg (of_decide_eq_false hf)]
   exact⟨pat_min,pat_min⟩
  ·have h:=over_any s2 g2 A2 n2 c2 E2 x2 b2 W he (by omega) hb2.2;unfold pB;rw [if_pos (of_decide_eq_true hc)]
   exact h
  ·have hb0:=of_decide_eq_true hf;have h:=over_any s2 g2 A2 n2 c2 E2 x2 b1 W he hb0 hb1.2;unfold pB;rw [if_neg (of_decide_eq_false hc),if_pos hb0,show max b1 0=b1 from by omega]
   exact h
  ·unfold pB;rw [if_neg (of_decide_eq_false hc),if_neg (of_decide_eq_false hf)]
   exact⟨pat_max,pat_max⟩
structure NumOk (s1:Int) (x1:Rat) (s2:Int) (x2:Rat):Prop where
 a1:s1=0∨s1=-1
 a2:s1≠0→x1=0
 b1:s2=0∨s2=1
 b2:s2≠0→x2=0
 le:s1=0→s2=0→x1≤x2
def PF(b1 b2:Int)(s1:Int)(x1:Rat)(s2:Int)(x2:Rat)(i j:Int):Int × Int:=
 if b2≤0 then ((M:Int),-(M:Int)) else pf (qA s1 x1 b1 b2).1 (qA s1 x1 b1 b2).2.1 (qA s1 x1 b1 b2).2.2 (qB s2 x2 b1 b2).1 (qB s2 x2 b1 b2).2.1 (qB s2 x2 b1 b2).2.2 i j
def Ne(i j:Int):Prop:=-(M:Int)≤i∧i≤j∧j≤M∧i<M∧-(M:Int)<j
theorem Ne.iv{i j:Int}(h:Ne i j):Iv i j:=.inl h
theorem Ne.neg{i j:Int}(h:Ne i j):Ne (-j) (-i):=by unfold Ne at *;omega
theorem po_PF{b1 b2 s1 s2:Int}{x1 x2:Rat}{i j:Int}(k:NumOk s1 x1 s2 x2)(hb:Ne b1 b2)(hx:Ne i j):po b1 b2 s1 x1 s2 x2 i j=PF b1 b2 s1 x1 s2 x2 i j:=by
 unfold po PF
 by_cases h:b2≤0
 ·rw [if_pos h,if_pos h]
 ·rw [if_neg h,if_neg h];unfold Ne at hb hx
  exact ct_pf k.a1 k.a2 k.b1 k.b2 k.le hb.2.1 (by omega) hb.2.2.1 hb.2.2.2.1 i j hx
theorem PF_iv{b1 b2 s1 s2:Int}{x1 x2:Rat}(k:NumOk s1 x1 s2 x2)(hb:Ne b1 b2)(i j:Int)(hx:Iv i j):Iv (PF b1 b2 s1 x1 s2 x2 i j).1 (PF b1 b2 s1 x1 s2 x2 i j).2:=by
 unfold PF
 by_cases h:b2≤0
 ·rw [if_pos h];exact Iv.none
 ·rw [if_neg h];unfold Ne at hb;refine pf_iv ?_ ?_ ?_ i j hx
  ·rcases qA_kind k.a1 k.a2 hb.2.1 (by omega) hb.2.2.1 hb.2.2.2.1 with k | k | k | k<;>omega
  ·rcases qB_kind k.b1 k.b2 hb.2.1 (by omega) hb.2.2.1 hb.2.2.2.1 with k | k | k | k<;>omega
  ·exact q_le k.a1 k.a2 k.b1 k.b2 k.le hb.2.1 (by omega) hb.2.2.1 hb.2.2.2.1
def fa(b1 b2:Int)(s1:Int)(x1:Rat)(s2:Int)(x2:Rat)(i j:Int):Int × Int:=
 if (b1≤0∧0≤b2)∧esx s1 x1≤0∧0≤esx s2 x2 then (i,j)
 else (min (PF b1 b2 s1 x1 s2 x2 i j).1 (-(PF (-b2) (-b1) s1 x1 s2 x2 (-j) (-i)).2),max (PF b1 b2 s1 x1 s2 x2 i j).2 (-(PF (-b2) (-b1) s1 x1 s2 x2 (-j) (-i)).1))
theorem mirror_idx(i j:Int)(w:World)(h:Iv i j):Calls Tryz.prog 59 #[.agg #[.float .f64 (pat i),.float .f64 (pat j)]] w fun e w'=>e=.returned (.agg #[.float .f64 (pat (-j)),.float .f64 (pat (-i))])∧Below w.heap.size w w':=by
 have h2:=mirrorf (pat i) (pat j) w (pat_lt h.lo.1 h.lo.2) (pat_lt h.hi.1 h.hi.2);rw [rd_pat h] at h2
 exact h2
theorem factor_any(b1 b2:Int)(s1:Int)(g1:Bool)(A1:Option Addr)(n1 c1:Nat)(E1:Int)(x1:Rat)(s2:Int)(g2:Bool)(A2:Option Addr)(n2 c2:Nat)(E2:Int)(x2:Rat)(i j:Int)(w:World)
  (hb:Ne b1 b2)(hx:Ne i j)(k:NumOk s1 x1 s2 x2)(h1:ExI w s1 g1 A1 n1 c1 E1 x1)(h2:ExI w s2 g2 A2 n2 c2 E2 x2):
  Calls Tryz.prog 116 #[.agg #[.float .f64 (pat b1),.float .f64 (pat b2)],.agg #[.int .i64 s1,.bool g1,.slice A1 n1 c1,.int .i64 E1],.agg #[.int .i64 s2,.bool g2,.slice A2 n2 c2,.int .i64 E2],.agg #[.float .f64 (pat i),.float .f64 (pat j)]] w
   fun e w'=>e=.returned (.agg #[.float .f64 (pat (fa b1 b2 s1 x1 s2 x2 i j).1),.float .f64 (pat (fa b1 b2 s1 x1 s2 x2 i j).2)])∧Below w.heap.size w w':=by
 have S1:=fun W=>sign_any s1 g1 A1 n1 c1 E1 W;have S2:=fun W=>sign_any s2 g2 A2 n2 c2 E2 W;rw [h1.sg] at S1;rw [h2.sg] at S2;have P1:=fun W e1 e2=>positive_any b1 b2 s1 g1 A1 n1 c1 E1 x1 s2 g2 A2 n2 c2 E2 x2 i j W hb.iv.lo hb.iv.hi hx.iv.lo hx.iv.hi e1 e2;have P2:=fun W e1 e2=>positive_any (-b2) (-b1) s1 g1 A1 n1 c1 E1 x1 s2 g2 A2 n2 c2 E2 x2 (-j) (-i) W hb.neg.iv.lo hb.neg.iv.hi hx.neg.iv.lo hx.neg.iv.hi e1 e2;rw [po_PF k hb hx] at P1;rw [po_PF k hb.neg hx.neg] at P2;have v1:=PF_iv k hb i j hx.iv;have v2:=PF_iv k hb.neg (-j) (-i) hx.neg.iv;have v3:Iv (-(PF (-b2) (-b1) s1 x1 s2 x2 (-j) (-i)).2) (-(PF (-b2) (-b1) s1 x1 s2 x2 (-j) (-i)).1):=v2.negg;have h:=factor_walk _ _ s1 g1 A1 n1 c1 E1 s2 g2 A2 n2 c2 E2 _ _ x1 x2 _ _ _ _ _ _ _ _ _ _ _ _ _ _ _ _ w S1 S2 h1 h2 (fun W=>has_any b1 b2 W hb.iv.lo hb.iv.hi) rfl P1 (fun W=>mirror_idx b1 b2 W hb.iv) (fun W=>mirror_idx i j W hx.iv) P2 (fun W=>mirror_idx _ _ W v2) (fun W=>hullf _ _ _ _ W v1 v3);refine h.mono ?_;rintro e w' ⟨rfl,hb'⟩;refine⟨?_,hb'⟩;unfold fa
 by_cases hc:(b1≤0∧0≤b2)∧esx s1 x1≤0∧0≤esx s2 x2
 ·rw [if_pos hc,decide_eq_true hc.1,decide_eq_true hc.2.1,decide_eq_true hc.2.2];rfl
 ·rw [if_neg hc]
  have:(decide (b1≤0∧0≤b2) && decide (esx s1 x1≤0) && decide (0≤esx s2 x2))=false:=by
   rw [Bool.eq_false_iff];intro h
   simp only [Bool.and_eq_true,decide_eq_true_eq] at h
   exact hc ⟨h.1.1,h.1.2,h.2⟩
  rw [this];rfl
theorem ne_or{i j:Int}(h:Iv i j)(h2:¬ j<i):Ne i j:=by
 rcases h with h | ⟨rfl,rfl⟩
 ·exact h
 ·have hM:(M:Int)=9218868437227405312:=rfl
  omega
theorem numok_sum{i j i' j':Int}(h:Ne i j)(h':Ne i' j'):NumOk (es2 (es i) (es i')) (ex2 (es i) (ex i) (es i') (ex i')) (es2 (es j) (es j')) (ex2 (es j) (ex j) (es j') (ex j')):=by
 have hM:(M:Int)=9218868437227405312:=rfl;unfold Ne at h h'
 have e1:es i=0∨es i=-1:=by unfold es;split<;>(try split)<;>omega
 have e2:es i'=0∨es i'=-1:=by unfold es;split<;>(try split)<;>omega
 have e3:es j=0∨es j=1:=by unfold es;split<;>(try split)<;>omega
 have e4:es j'=0∨es j'=1:=by unfold es;split<;>(try split)<;>omega
 have z:∀ k:Int,es k≠0→ex k=0:=fun k hk=>by unfold ex;rw [if_neg hk]
 have nz:∀ a b:Int,es2 (es a) (es b)≠0→ex2 (es a) (ex a) (es b) (ex b)=0:=fun a b hk=>by
  unfold es2 at hk;unfold ex2
  by_cases ha:es a≠0
  ·rw [if_pos ha];exact z a ha
  ·rw [if_neg ha] at hk;rw [if_neg ha,if_pos hk];exact z b hk
 have v0:∀ a b:Int,es2 (es a) (es b)=0→es a=0∧es b=0:=fun a b hk=>by
  unfold es2 at hk
  by_cases ha:es a=0
  ·rw [if_neg (by omega)] at hk;exact⟨ha,hk⟩
  ·rw [if_pos ha] at hk;exact absurd hk ha
 refine⟨?_,nz _ _,?_,nz _ _,fun p q=>?_⟩
 ·unfold es2;split<;>omega
 ·unfold es2;split<;>omega
 ·obtain⟨p1,p2⟩:=v0 _ _ p;obtain⟨q1,q2⟩:=v0 _ _ q;unfold ex2;rw [if_neg (by omega),if_neg (by omega),if_neg (by omega),if_neg (by omega),ex_zero p1,ex_zero p2,ex_zero q1,ex_zero q2];have a:=fl_le_iff.2 h.2.1;have b:=fl_le_iff.2 h'.2.1
  grind
def fmr(i1 j1 iz jz i2 j2 i3 j3:Int):Int × Int:=
 if j1<i1∨jz<iz∨j2<i2∨j3<i3 then ((M:Int),-(M:Int))
 else fa i1 j1 (es2 (es i2) (es (-jz))) (ex2 (es i2) (ex i2) (es (-jz)) (ex (-jz))) (es2 (es j2) (es (-iz))) (ex2 (es j2) (ex j2) (es (-iz)) (ex (-iz))) i3 j3
theorem fmarev_any(b1 b2 z1 z2 c1 c2 x y:Nat)(w:World)(hb1:b1<18446744073709551616)(hb2:b2<18446744073709551616)(hz1:z1<18446744073709551616)(hz2:z2<18446744073709551616)(hc1:c1<18446744073709551616)(hc2:c2<18446744073709551616)(hx:x<18446744073709551616)(hy:y<18446744073709551616):
  Calls Tryz.prog 44 #[.agg #[.float .f64 b1,.float .f64 b2],.agg #[.float .f64 z1,.float .f64 z2],.agg #[.float .f64 c1,.float .f64 c2],.agg #[.float .f64 x,.float .f64 y]] w fun e w'=>
   e=.returned (.agg #[.float .f64 (pat (fmr (rd b1 b2).1 (rd b1 b2).2 (rd z1 z2).1 (rd z1 z2).2 (rd c1 c2).1 (rd c1 c2).2 (rd x y).1 (rd x y).2).1),.float .f64 (pat (fmr (rd b1 b2).1 (rd b1 b2).2 (rd z1 z2).1 (rd z1 z2).2 (rd c1 c2).1 (rd c1 c2).2 (rd x y).1 (rd x y).2).2)])∧Below w.heap.size w w':=by
 have v1:=rd_iv b1 b2;have v2:=rd_iv z1 z2;have v3:=rd_iv c1 c2;have v4:=rd_iv x y;have t1:=fun W=>readf b1 b2 W hb1 hb2;have t2:=fun W=>readf z1 z2 W hz1 hz2;have t3:=fun W=>readf c1 c2 W hc1 hc2;have t4:=fun W=>readf x y W hx hy
 obtain⟨⟨i1,j1⟩,r1⟩:∃ z,rd b1 b2=z:=⟨_,rfl⟩
 obtain⟨⟨iz,jz⟩,r2⟩:∃ z,rd z1 z2=z:=⟨_,rfl⟩
 obtain⟨⟨i2,j2⟩,r3⟩:∃ z,rd c1 c2=z:=⟨_,rfl⟩
 obtain⟨⟨i3,j3⟩,r4⟩:∃ z,rd x y=z:=⟨_,rfl⟩
 rw [r1] at v1 t1;rw [r2] at v2 t2;rw [r3] at v3 t3;rw [r4] at v4 t4;rw [r1,r2,r3,r4]
 dsimp only at *
 have m1:=em_idx v1;have m2:=em_idx v2;have m3:=em_idx v3;have m4:=em_idx v4;unfold fmr
 by_cases hno:j1<i1∨jz<iz∨j2<i2∨j3<i3
 ·rw [if_pos hno,pat_max,pat_min]
  exact fmarev_none _ _ _ _ _ _ _ _ _ _ _ _ _ _ _ _ _ _ _ _ w t1 m1 t2 m2 t3 m3 t4 m4 (by simp;omega)
 ·rw [if_neg hno];have n1:=ne_or v1 (by omega);have n2:=ne_or v2 (by omega);have n3:=ne_or v3 (by omega);have n4:=ne_or v4 (by omega);have k:=numok_sum n3 n2.neg;have L1:=fun W=>less_gen i2 jz W v3.lo v2.hi;have L2:=fun W=>less_gen j2 iz W v3.hi v2.lo
  exact fmarev_some _ _ _ _ _ _ _ _ _ _ _ _ _ _ _ _ _ _ _ _ _ _ _ _ _ _ w t1 m1 t2 m2 t3 m3 t4 m4 (by simp;omega) L1 L2 (fun g1 A1 n1' c1' E1 g2 A2 n2' c2' E2 W e1 e2=>factor_any i1 j1 _ g1 A1 n1' c1' E1 _ _ g2 A2 n2' c2' E2 _ i3 j3 W n1 n4 k e1 e2)
theorem plus_any(A B:Option Addr)(n c m d:Nat)(xs ys:List Nat)(w:World)(hx:U32s w A n c xs)(hy:U32s w B m d ys)(hs1:n≤34359738360)(hs2:m≤34359738360):
  Calls Tryz.prog 197 #[.slice A n c,.slice B m d] w (NewU32 w (digs (num xs+num ys))):=by
 have HX:=Hd hx;have HY:=Hd hy;clear hx hy
 go_enter Tryz.func197,Tryz.ntmps197
 go_wp2
 go_loopw [5,6,7] (fun v cv iv wr=>∃ (i k:Nat) (ls:List Nat),iv=.int .i64 i∧cv=.int .u64 k∧i≤max n m∧PlusInv xs ys ls i k∧Own wr w.heap.size v ls∧Below w.heap.size w wr) (fun _ _ iv _=>max n m - (intOf iv).toNat)
 case atStart=>exact⟨0,0,[],rfl,rfl,Nat.zero_le _,PlusInv.start _ _,Own.nil _ _,Below.refl _ _⟩
 case round=>
  obtain⟨i,k,ls,rfl,rfl,hi,hinv,hown,hb⟩:=hrel;have hk1:=hinv.carry;have hlen:=hinv.len;have HI:=Hd hinv;have HO:=Hd hown;clear hinv hown;have hbs:=hb.size;have HL:=Hd hlen;clear hlen
  by_cases ha:i<n
  ·obtain⟨ad,e,hc⟩:=(HX.out.below hb).cell (j:=i) ha
   cases e
   have hx1:=HX.out.lt i
   by_cases hbb:i<m
   ·obtain⟨ad',e,hc'⟩:=(HY.out.below hb).cell (j:=i) hbb
    cases e
    have hy1:=HY.out.lt i;have hm:=mask32_i (a:=(k:Int)+((xs[i]?.getD 0:Nat):Int)+((ys[i]?.getD 0:Nat):Int)) (by omega) (by omega)
    go_wp2_with (at_builtin;refine wpList_append_u32 _ rfl _ _ rfl w.heap.size _ ls rfl (HO.out.alloc _) ⟨_,0,none⟩ 1 ((k+xs[i]?.getD 0+ys[i]?.getD 0) % 4294967296) rfl ?c1 ?c2 ?c3 ?_)
    case c1=>simp
    case c2=>rw [HL.out];omega
    case c3=>simp;omega
    intro v' w' hown' hgrow;have HO':=Hd hown';have hb':Below w.heap.size w w':=(hb.alloc hbs _).grown hgrow (by simp;omega) (fun g hg=>(HO.out.lt g hg).1);clear hown' hb hgrow hc hc' hbs hm;go_wp2
    go_roundw
    case rel=>exact⟨i+1,(k+xs[i]?.getD 0+ys[i]?.getD 0) / 4294967296,_,by go_num,by go_num,by omega,HI.out.step HX.out.w32 HY.out.w32 (by rfl),HO'.out,hb'⟩
    case measure=>simp [intOf];omega
   ·have HZ:=Hd (show ys[i]?.getD 0=0 by rw [List.getElem?_eq_none (by rw [HY.out.len];omega)];rfl);have hm:=mask32_i (a:=(k:Int)+((xs[i]?.getD 0:Nat):Int)) (by omega) (by omega)
    go_wp2_with (at_builtin;refine wpList_append_u32 _ rfl _ _ rfl w.heap.size _ ls rfl (HO.out.alloc _) ⟨_,0,none⟩ 1 ((k+xs[i]?.getD 0) % 4294967296) rfl ?c1 ?c2 ?c3 ?_)
    case c1=>simp
    case c2=>rw [HL.out];omega
    case c3=>simp;omega
    intro v' w' hown' hgrow;have HO':=Hd hown';have hb':Below w.heap.size w w':=(hb.alloc hbs _).grown hgrow (by simp;omega) (fun g hg=>(HO.out.lt g hg).1);clear hown' hb hgrow hc hbs hm;go_wp2
    go_roundw
    case rel=>exact⟨i+1,(k+xs[i]?.getD 0) / 4294967296,_,by go_num,by go_num,by omega,HI.out.step HX.out.w32 HY.out.w32 (by rw [HZ.out];rfl),HO'.out,hb'⟩
    case measure=>simp [intOf];omega
  ·have HZ:=Hd (show xs[i]?.getD 0=0 by rw [List.getElem?_eq_none (by rw [HX.out.len];omega)];rfl)
   by_cases hbb:i<m
   ·obtain⟨ad',e,hc'⟩:=(HY.out.below hb).cell (j:=i) hbb
    cases e
    have hy1:=HY.out.lt i;have hm:=mask32_i (a:=(k:Int)+((ys[i]?.getD 0:Nat):Int)) (by omega) (by omega)
    go_wp2_with (at_builtin;refine wpList_append_u32 _ rfl _ _ rfl w.heap.size _ ls rfl (HO.out.alloc _) ⟨_,0,none⟩ 1 ((k+ys[i]?.getD 0) % 4294967296) rfl ?c1 ?c2 ?c3 ?_)
    case c1=>simp
    case c2=>rw [HL.out];omega
    case c3=>simp;omega
    intro v' w' hown' hgrow;have HO':=Hd hown';have hb':Below w.heap.size w w':=(hb.alloc hbs _).grown hgrow (by simp;omega) (fun g hg=>(HO.out.lt g hg).1);clear hown' hb hgrow hc' hbs hm;go_wp2
    go_roundw
    case rel=>exact⟨i+1,(k+ys[i]?.getD 0) / 4294967296,_,by go_num,by go_num,by omega,HI.out.step HX.out.w32 HY.out.w32 (by rw [HZ.out];rfl),HO'.out,hb'⟩
    case measure=>simp [intOf];omega
   ·have hd:=HI.out.done (by rw [HX.out.len];omega) (by rw [HY.out.len];omega);have HD:=Hd hd;clear hd
    go_wp2_with (at_builtin;refine wpList_append_u32 _ rfl _ _ rfl w.heap.size _ ls rfl (HO.out.alloc _) ⟨_,0,none⟩ 1 k rfl ?c1 ?c2 ?c3 ?_)
    case c1=>simp
    case c2=>rw [HL.out];omega
    case c3=>simp;omega
    intro v' w' hown' hgrow;have HO':=Hd hown';have hb':Below w.heap.size w w':=(hb.alloc hbs _).grown hgrow (by simp;omega) (fun g hg=>(HO.out.lt g hg).1);clear hown' hb hgrow hbs;obtain⟨A',c',rfl⟩:=HO'.out.form_snoc;have hu:=HO'.out.u32s (by simp) HD.out.2 (by simp;rw [HL.out];omega);have hnorm:=norm_any _ _ _ _ w' hu (by rw [HL.out];omega);rw [HD.out.1] at hnorm;have HN:=Hd hnorm;clear hnorm hu;go_wp2_with fail;refine HN.out.mono ?_;rintro e w'' ⟨A2,n2,c2,rfl,hu2,hb2⟩;have H2:=Hd (show NewU32 w (digs (num xs+num ys)) (.returned (.slice A2 n2 c2)) w'' from NewU32.trans ⟨A2,n2,c2,rfl,hu2,hb2⟩ hb');clear hu2 hb2 hb';go_wp2
    go_ret
    exact H2.out
end Go.Proofs.YtmjkmoahkanblaaGreat
