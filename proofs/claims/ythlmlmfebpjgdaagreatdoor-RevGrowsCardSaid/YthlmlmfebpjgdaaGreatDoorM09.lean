/-
Lemmas for the statement: MuT Pv0T ClP Dek AddQ MlP RmP PartT SumT.
-/
import Derived.Test.YthlmlmfebpjgdaaGreatDoorM03
import Derived.Test.YthlmlmfebpjgdaaGreatDoorM07
import Derived.Test.YthlmlmfebpjgdaaGreatDoorM08
import Derived.Test.YthlmlmfebpjgdaaGreatDoorM02
import Derived.Test.YthlmlmfebpjgdaaGreatDoorM06
import Derived.Test.YthlmlmfebpjgdaaGreatDoorM05
import Derived.Test.YthlmlmfebpjgdaaGreatDoorM01
set_option linter.unusedSimpArgs false
set_option linter.unusedVariables false
set_option maxHeartbeats 12800000
namespace Go.Proofs.YthlmlmfebpjgdaaGreatDoor
section
open Go.RowKit
def po(b1 b2:Int)(s1:Int)(x1:Rat)(s2:Int)(x2:Rat)(i j:Int):Int × Int:=
 if b2<=0 then ((M:Int),-(M:Int)) else ctO (decide (0<esx s1 x1) || decide (esx s2 x2<0)) i j (pA s1 x1 b1 b2).1 (pA s1 x1 b1 b2).2 (pB s2 x2 b1 b2).1 (pB s2 x2 b1 b2).2
theorem ov_rng{s:Int}{x:Rat}{j:Int}(hs:s=0\/s=1\/s=-1):(-(M:Int)<=(ov s x j).1/\(ov s x j).1<=M)/\(-(M:Int)<=(ov s x j).2/\(ov s x j).2<=M):=by
 have hM:=M_val;unfold ov;have a:=rndI_down (x / fl j);have b:=rndI_up (x / fl j)
 split
 ·rcases hs with h | h | h<;>subst h<;>dsimp only<;>omega
 ·split<;>dsimp only<;>omega
theorem pA_rng{s:Int}{x:Rat}{b1 b2:Int}(hs:s=0\/s=1\/s=-1):(-(M:Int)<=(pA s x b1 b2).1/\(pA s x b1 b2).1<=M)/\(-(M:Int)<=(pA s x b1 b2).2/\(pA s x b1 b2).2<=M):=by
 have hM:=M_val;unfold pA
 split
 ·exact ov_rng hs
 ·split
  ·exact ov_rng hs
  ·dsimp only;omega
theorem pB_rng{s:Int}{x:Rat}{b1 b2:Int}(hs:s=0\/s=1\/s=-1):(-(M:Int)<=(pB s x b1 b2).1/\(pB s x b1 b2).1<=M)/\(-(M:Int)<=(pB s x b1 b2).2/\(pB s x b1 b2).2<=M):=by
 have hM:=M_val;unfold pB
 split
 ·exact ov_rng hs
 ·split
  ·exact ov_rng hs
  ·dsimp only;omega
theorem positive_any(b1 b2:Int)(s1:Int)(g1:Bool)(A1:Option Addr)(n1 c1:Nat)(E1:Int)(x1:Rat)(s2:Int)(g2:Bool)(A2:Option Addr)(n2 c2:Nat)(E2:Int)(x2:Rat)(i j:Int)(w:World)
  (hb1:-(M:Int)<=b1/\b1<=M)(hb2:-(M:Int)<=b2/\b2<=M)(hi:-(M:Int)<=i/\i<=M)(hj:-(M:Int)<=j/\j<=M)(h1:ExI w s1 g1 A1 n1 c1 E1 x1)(h2:ExI w s2 g2 A2 n2 c2 E2 x2):
  Calls Tryz.prog 101 #[Zf (pat b1) (pat b2),.agg #[.int .i64 s1,.bool g1,.slice A1 n1 c1,.int .i64 E1],.agg #[.int .i64 s2,.bool g2,.slice A2 n2 c2,.int .i64 E2],Zf (pat i) (pat j)] w
   fun e w'=>e=.returned (Zf (pat (po b1 b2 s1 x1 s2 x2 i j).1) (pat (po b1 b2 s1 x1 s2 x2 i j).2))/\Below w.heap.size w w':=by
 have hM:=M_val;unfold po
 by_cases h0:b2<=0
 ·rw [if_pos h0,pat_max,pat_min];refine positive_none _ _ s1 g1 A1 n1 c1 E1 s2 g2 A2 n2 c2 E2 _ _ w ?_
  by_cases hz:b2=0
  ·exact .inr (ord0_eq hz)
  ·exact .inl (ord0_lt hb2 (by omega))
 ·rw [if_neg h0];have hmx:=fun W ts t=>run_maxf hb1 (show -(M:Int)<=0/\(0:Int)<=M by omega) W ts t;rw [pat_zero] at hmx
  have hF:-(M:Int)<=max b1 0/\max b1 0<=M:=by omega
  have of:(FloatKind.f64.format.order (pat (max b1 0)) 0 == some Ordering.gt)=decide (0<b1):=by
   by_cases h:0<b1
   ·rw [ord0_gt hF (by omega),decide_eq_true h];rfl
   ·rw [ord0_eq (by omega),decide_eq_false h];rfl
  have S1:=fun W=>sign_any s1 g1 A1 n1 c1 E1 W;have S2:=fun W=>sign_any s2 g2 A2 n2 c2 E2 W;rw [h1.sg] at S1;rw [h2.sg] at S2;refine positive_walk _ _ s1 g1 A1 n1 c1 E1 s2 g2 A2 n2 c2 E2 _ _ x1 x2 _ _ _ _ _ _ _ _ _ _ _ _ _ w (ord0_gt hb2 (by omega)) hmx of S1 S2 rfl rfl rfl h1 h2 ⟨fun hc W he=>?_,fun hc hf W he=>?_,fun hc hf=>?_⟩ ⟨fun hc W he=>?_,fun hc hf W he=>?_,fun hc hf=>?_⟩ (fun W=>rcut2_any _ i j _ _ _ _ W hi hj (pA_rng (by have:=h1.1;omega)).1 (pA_rng (by have:=h1.1;omega)).2 (pB_rng (by have:=h2.1;omega)).1 (pB_rng (by have:=h2.1;omega)).2)
  ·have h:=over_any s1 g1 A1 n1 c1 E1 x1 b2 W he (by omega) hb2.2;unfold pA;rw [if_pos (of_decide_eq_true hc)]
   exact h
  ·have hb0:=of_decide_eq_true hf;have h:=over_any s1 g1 A1 n1 c1 E1 x1 b1 W he hb0 hb1.2;unfold pA;rw [if_neg (of_decide_eq_false hc),if_pos hb0,show max b1 0=b1 from by omega]
   exact h
  ·unfold pA;rw [if_neg (of_decide_eq_false hc),if_neg (of_decide_eq_false hf)]
   exact⟨pat_min,pat_min⟩
  ·have h:=over_any s2 g2 A2 n2 c2 E2 x2 b2 W he (by omega) hb2.2;unfold pB;rw [if_pos (of_decide_eq_true hc)]
   exact h
  ·have hb0:=of_decide_eq_true hf;have h:=over_any s2 g2 A2 n2 c2 E2 x2 b1 W he hb0 hb1.2;unfold pB;rw [if_neg (of_decide_eq_false hc),if_pos hb0,show max b1 0=b1 from by omega]
   exact h
  ·unfold pB;rw [if_neg (of_decide_eq_false hc),if_neg (of_decide_eq_false hf)]
   exact⟨pat_max,pat_max⟩
structure NumOk (s1:Int) (x1:Rat) (s2:Int) (x2:Rat):Prop where
 a1:s1=0\/s1=-1
 a2:s1≠0->x1=0
 b1:s2=0\/s2=1
 b2:s2≠0->x2=0
 le:s1=0->s2=0->x1<=x2
def PF(b1 b2:Int)(s1:Int)(x1:Rat)(s2:Int)(x2:Rat)(i j:Int):Int × Int:=
 if b2<=0 then ((M:Int),-(M:Int)) else pf (qA s1 x1 b1 b2).1 (qA s1 x1 b1 b2).2.1 (qA s1 x1 b1 b2).2.2 (qB s2 x2 b1 b2).1 (qB s2 x2 b1 b2).2.1 (qB s2 x2 b1 b2).2.2 i j
theorem po_PF{b1 b2 s1 s2:Int}{x1 x2:Rat}{i j:Int}(k:NumOk s1 x1 s2 x2)(hb:Ne b1 b2)(hx:Ne i j):po b1 b2 s1 x1 s2 x2 i j=PF b1 b2 s1 x1 s2 x2 i j:=by
 unfold po PF
 by_cases h:b2<=0
 ·rw [if_pos h,if_pos h]
 ·rw [if_neg h,if_neg h];unfold Ne at hb hx
  exact ct_pf k.a1 k.a2 k.b1 k.b2 k.le hb.2.1 (by omega) hb.2.2.1 hb.2.2.2.1 i j hx
theorem PF_iv{b1 b2 s1 s2:Int}{x1 x2:Rat}(k:NumOk s1 x1 s2 x2)(hb:Ne b1 b2)(i j:Int)(hx:Iv i j):Iv (PF b1 b2 s1 x1 s2 x2 i j).1 (PF b1 b2 s1 x1 s2 x2 i j).2:=by
 unfold PF
 by_cases h:b2<=0
 ·rw [if_pos h];exact Iv.none
 ·rw [if_neg h];unfold Ne at hb;refine pf_iv ?_ ?_ ?_ i j hx
  ·rcases qA_kind k.a1 k.a2 hb.2.1 (by omega) hb.2.2.1 hb.2.2.2.1 with k | k | k | k<;>omega
  ·rcases qB_kind k.b1 k.b2 hb.2.1 (by omega) hb.2.2.1 hb.2.2.2.1 with k | k | k | k<;>omega
  ·exact q_le k.a1 k.a2 k.b1 k.b2 k.le hb.2.1 (by omega) hb.2.2.1 hb.2.2.2.1
def fa(b1 b2:Int)(s1:Int)(x1:Rat)(s2:Int)(x2:Rat)(i j:Int):Int × Int:=
 if (b1<=0/\0<=b2)/\esx s1 x1<=0/\0<=esx s2 x2 then (i,j)
 else (min (PF b1 b2 s1 x1 s2 x2 i j).1 (-(PF (-b2) (-b1) s1 x1 s2 x2 (-j) (-i)).2),max (PF b1 b2 s1 x1 s2 x2 i j).2 (-(PF (-b2) (-b1) s1 x1 s2 x2 (-j) (-i)).1))
theorem mirror_idx(i j:Int)(w:World)(h:Iv i j):Rt 85 #[Zf (pat i) (pat j)] (Zf (pat (-j)) (pat (-i))) w:=by
 have h2:=mirrorf (pat i) (pat j) w (pat_lt h.lo.1 h.lo.2) (pat_lt h.hi.1 h.hi.2);rw [rd_pat h] at h2
 exact h2
theorem factor_any(b1 b2:Int)(s1:Int)(g1:Bool)(A1:Option Addr)(n1 c1:Nat)(E1:Int)(x1:Rat)(s2:Int)(g2:Bool)(A2:Option Addr)(n2 c2:Nat)(E2:Int)(x2:Rat)(i j:Int)(w:World)
  (hb:Ne b1 b2)(hx:Ne i j)(k:NumOk s1 x1 s2 x2)(h1:ExI w s1 g1 A1 n1 c1 E1 x1)(h2:ExI w s2 g2 A2 n2 c2 E2 x2):
  Calls Tryz.prog 90 #[Zf (pat b1) (pat b2),.agg #[.int .i64 s1,.bool g1,.slice A1 n1 c1,.int .i64 E1],.agg #[.int .i64 s2,.bool g2,.slice A2 n2 c2,.int .i64 E2],Zf (pat i) (pat j)] w
   fun e w'=>e=.returned (Zf (pat (fa b1 b2 s1 x1 s2 x2 i j).1) (pat (fa b1 b2 s1 x1 s2 x2 i j).2))/\Below w.heap.size w w':=by
 have S1:=fun W=>sign_any s1 g1 A1 n1 c1 E1 W;have S2:=fun W=>sign_any s2 g2 A2 n2 c2 E2 W;rw [h1.sg] at S1;rw [h2.sg] at S2;have P1:=fun W e1 e2=>positive_any b1 b2 s1 g1 A1 n1 c1 E1 x1 s2 g2 A2 n2 c2 E2 x2 i j W hb.iv.lo hb.iv.hi hx.iv.lo hx.iv.hi e1 e2;have P2:=fun W e1 e2=>positive_any (-b2) (-b1) s1 g1 A1 n1 c1 E1 x1 s2 g2 A2 n2 c2 E2 x2 (-j) (-i) W hb.neg.iv.lo hb.neg.iv.hi hx.neg.iv.lo hx.neg.iv.hi e1 e2;rw [po_PF k hb hx] at P1;rw [po_PF k hb.neg hx.neg] at P2;have v1:=PF_iv k hb i j hx.iv;have v2:=PF_iv k hb.neg (-j) (-i) hx.neg.iv;have v3:Iv (-(PF (-b2) (-b1) s1 x1 s2 x2 (-j) (-i)).2) (-(PF (-b2) (-b1) s1 x1 s2 x2 (-j) (-i)).1):=v2.negg;have h:=factor_walk _ _ s1 g1 A1 n1 c1 E1 s2 g2 A2 n2 c2 E2 _ _ x1 x2 _ _ _ _ _ _ _ _ _ _ _ _ _ _ _ _ w S1 S2 h1 h2 (fun W=>has_any b1 b2 W hb.iv.lo hb.iv.hi) rfl P1 (fun W=>mirror_idx b1 b2 W hb.iv) (fun W=>mirror_idx i j W hx.iv) P2 (fun W=>mirror_idx _ _ W v2) (fun W=>hullf _ _ _ _ W v1 v3);refine h.mono ?_;rintro e w' ⟨rfl,hb'⟩;refine⟨?_,hb'⟩;unfold fa
 by_cases hc:(b1<=0/\0<=b2)/\esx s1 x1<=0/\0<=esx s2 x2
 ·rw [if_pos hc,decide_eq_true hc.1,decide_eq_true hc.2.1,decide_eq_true hc.2.2];rfl
 ·rw [if_neg hc]
  have:(decide (b1<=0/\0<=b2) && decide (esx s1 x1<=0) && decide (0<=esx s2 x2))=false:=by
   rw [Bool.eq_false_iff];intro h
   simp only [Bool.and_eq_true,decide_eq_true_eq] at h
   exact hc ⟨h.1.1,h.1.2,h.2⟩
  rw [this];rfl
theorem numok_sum{i j i' j':Int}(h:Ne i j)(h':Ne i' j'):NumOk (es2 (es i) (es i')) (ex2 (es i) (ex i) (es i') (ex i')) (es2 (es j) (es j')) (ex2 (es j) (ex j) (es j') (ex j')):=by
 have hM:=M_val;unfold Ne at h h'
 have e1:es i=0\/es i=-1:=by unfold es;split<;>(try split)<;>omega
 have e2:es i'=0\/es i'=-1:=by unfold es;split<;>(try split)<;>omega
 have e3:es j=0\/es j=1:=by unfold es;split<;>(try split)<;>omega
 have e4:es j'=0\/es j'=1:=by unfold es;split<;>(try split)<;>omega
 have z:∀ k:Int,es k≠0->ex k=0:=fun k hk=>by unfold ex;rw [if_neg hk]
 have nz:∀ a b:Int,es2 (es a) (es b)≠0->ex2 (es a) (ex a) (es b) (ex b)=0:=fun a b hk=>by
  unfold es2 at hk;unfold ex2
  by_cases ha:es a≠0
  ·rw [if_pos ha];exact z a ha
  ·rw [if_neg ha] at hk;rw [if_neg ha,if_pos hk];exact z b hk
 have v0:∀ a b:Int,es2 (es a) (es b)=0->es a=0/\es b=0:=fun a b hk=>by
  unfold es2 at hk
  by_cases ha:es a=0
  ·rw [if_neg (by omega)] at hk;exact⟨ha,hk⟩
  ·rw [if_pos ha] at hk;exact absurd hk ha
 refine⟨?_,nz _ _,?_,nz _ _,fun p q=>?_⟩
 ·unfold es2;split<;>omega
 ·unfold es2;split<;>omega
 ·obtain⟨p1,p2⟩:=v0 _ _ p;obtain⟨q1,q2⟩:=v0 _ _ q;unfold ex2;rw [if_neg (by omega),if_neg (by omega),if_neg (by omega),if_neg (by omega),ex_zero p1,ex_zero p2,ex_zero q1,ex_zero q2];have a:=fl_le_iff.2 h.2.1;have b:=fl_le_iff.2 h'.2.1
  grind
theorem numok_idx{i j:Int}(h:Ne i j):NumOk (es i) (ex i) (es j) (ex j):=by
 have hM:=M_val;unfold Ne at h;refine⟨by unfold es;split<;>(try split)<;>omega,fun hk=>by unfold ex;rw [if_neg hk],by unfold es;split<;>(try split)<;>omega,fun hk=>by unfold ex;rw [if_neg hk],fun p q=>?_⟩;rw [ex_zero p,ex_zero q]
 exact fl_le_iff.2 h.2.1
def fmr(i1 j1 iz jz i2 j2 i3 j3:Int):Int × Int:=
 if j1<i1\/jz<iz\/j2<i2\/j3<i3 then ((M:Int),-(M:Int))
 else fa i1 j1 (es2 (es i2) (es (-jz))) (ex2 (es i2) (ex i2) (es (-jz)) (ex (-jz))) (es2 (es j2) (es (-iz))) (ex2 (es j2) (ex j2) (es (-iz)) (ex (-iz))) i3 j3
theorem fmarev_any(b1 b2 z1 z2 c1 c2 x y:Nat)(w:World)(hb1:b1<18446744073709551616)(hb2:b2<18446744073709551616)(hz1:z1<18446744073709551616)(hz2:z2<18446744073709551616)(hc1:c1<18446744073709551616)(hc2:c2<18446744073709551616)(hx:x<18446744073709551616)(hy:y<18446744073709551616):
  Rt 31 #[Zf b1 b2,Zf z1 z2,Zf c1 c2,Zf x y] (Zf (pat (fmr (rd b1 b2).1 (rd b1 b2).2 (rd z1 z2).1 (rd z1 z2).2 (rd c1 c2).1 (rd c1 c2).2 (rd x y).1 (rd x y).2).1) (pat (fmr (rd b1 b2).1 (rd b1 b2).2 (rd z1 z2).1 (rd z1 z2).2 (rd c1 c2).1 (rd c1 c2).2 (rd x y).1 (rd x y).2).2)) w:=by
 have v1:=rd_iv b1 b2;have v2:=rd_iv z1 z2;have v3:=rd_iv c1 c2;have v4:=rd_iv x y;have t1:=fun W=>readf b1 b2 W hb1 hb2;have t2:=fun W=>readf z1 z2 W hz1 hz2;have t3:=fun W=>readf c1 c2 W hc1 hc2;have t4:=fun W=>readf x y W hx hy
 obtain⟨⟨i1,j1⟩,r1⟩:∃ z,rd b1 b2=z:=⟨_,rfl⟩
 obtain⟨⟨iz,jz⟩,r2⟩:∃ z,rd z1 z2=z:=⟨_,rfl⟩
 obtain⟨⟨i2,j2⟩,r3⟩:∃ z,rd c1 c2=z:=⟨_,rfl⟩
 obtain⟨⟨i3,j3⟩,r4⟩:∃ z,rd x y=z:=⟨_,rfl⟩
 rw [r1] at v1 t1;rw [r2] at v2 t2;rw [r3] at v3 t3;rw [r4] at v4 t4;rw [r1,r2,r3,r4]
 dsimp only at *
 have m1:=em_idx v1;have m2:=em_idx v2;have m3:=em_idx v3;have m4:=em_idx v4;unfold fmr
 by_cases hno:j1<i1\/jz<iz\/j2<i2\/j3<i3
 ·rw [if_pos hno,pat_max,pat_min]
  exact fmarev_none _ _ _ _ _ _ _ _ _ _ _ _ _ _ _ _ _ _ _ _ w t1 m1 t2 m2 t3 m3 t4 m4 (by simp;omega)
 ·rw [if_neg hno];have n1:=ne_or v1 (by omega);have n2:=ne_or v2 (by omega);have n3:=ne_or v3 (by omega);have n4:=ne_or v4 (by omega);have k:=numok_sum n3 n2.neg;have L1:=fun W=>less_gen i2 jz W v3.lo v2.hi;have L2:=fun W=>less_gen j2 iz W v3.hi v2.lo
  exact fmarev_some _ _ _ _ _ _ _ _ _ _ _ _ _ _ _ _ _ _ _ _ _ _ _ _ _ _ w t1 m1 t2 m2 t3 m3 t4 m4 (by simp;omega) L1 L2 (fun g1 A1 n1' c1' E1 g2 A2 n2' c2' E2 W e1 e2=>factor_any i1 j1 _ g1 A1 n1' c1' E1 _ _ g2 A2 n2' c2' E2 _ i3 j3 W n1 n4 k e1 e2)
def mlr(i1 j1 i2 j2 i3 j3:Int):Int × Int:=
 if j1<i1\/j2<i2\/j3<i3 then ((M:Int),-(M:Int)) else fa i1 j1 (es i2) (ex i2) (es j2) (ex j2) i3 j3
theorem fmr_mlr{i1 j1 i2 j2 i3 j3:Int}(h2:Iv i2 j2):fmr i1 j1 0 0 i2 j2 i3 j3=mlr i1 j1 i2 j2 i3 j3:=by
 unfold fmr mlr
 by_cases hno:j1<i1\/j2<i2\/j3<i3
 ·rw [if_pos hno,if_pos (by omega)]
 ·rw [if_neg hno,if_neg (by omega)]
  have e1:∀ k:Int,es2 (es k) (es (-0))=es k:=fun k=>by
   unfold es2;rw [show es (-0)=0 from es_nought]
   split
   ·rfl
   ·omega
  have e2:∀ k:Int,ex2 (es k) (ex k) (es (-0)) (ex (-0))=ex k:=fun k=>by
   unfold ex2;rw [show es (-0)=0 from es_nought,show ex (-0)=0 from ex_nought]
   split
   ·rfl
   ·rw [if_neg (by omega)];grind
  rw [e1,e1,e2,e2]
theorem rd_nought:rd 0 0=(0,0):=by
 have h:=rd_pat (i:=0) (j:=0) (.inl (by have hM:=M_val;omega))
 rwa [pat_zero] at h
theorem mulrev_any(b1 b2 c1 c2 x y:Nat)(w:World)(hb1:b1<18446744073709551616)(hb2:b2<18446744073709551616)(hc1:c1<18446744073709551616)(hc2:c2<18446744073709551616)(hx:x<18446744073709551616)(hy:y<18446744073709551616):
  Rt 25 #[Zf b1 b2,Zf c1 c2,Zf x y] (Zf (pat (mlr (rd b1 b2).1 (rd b1 b2).2 (rd c1 c2).1 (rd c1 c2).2 (rd x y).1 (rd x y).2).1) (pat (mlr (rd b1 b2).1 (rd b1 b2).2 (rd c1 c2).1 (rd c1 c2).2 (rd x y).1 (rd x y).2).2)) w:=by
 refine mulrev_walk b1 b2 c1 c2 x y _ _ w fun W=>?_;have h:=fmarev_any b1 b2 0 0 c1 c2 x y W hb1 hb2 (by omega) (by omega) hc1 hc2 hx hy;rw [rd_nought,fmr_mlr (rd_iv c1 c2)] at h
 exact h
end
section
open Go.RowKit
def NewPcF(w:World)(F:Int->Int->Int × Int)(e:Ending)(w':World):Prop:=
 ∃ o s1 g1 A1 n1 c1 B1 m1 d1 N1 o1 s2 g2 A2 n2 c2 B2 m2 d2 N2 o2,
  e=.returned (.agg #[.bool o,.int .i64 s1,.bool g1,.slice A1 n1 c1,.slice B1 m1 d1,.int .i64 N1,.bool o1,.int .i64 s2,.bool g2,.slice A2 n2 c2,.slice B2 m2 d2,.int .i64 N2,.bool o2])/\PcW w' o s1 g1 A1 n1 c1 B1 m1 d1 N1 o1 s2 g2 A2 n2 c2 B2 m2 d2 N2 o2 F/\Below w.heap.size w w'
theorem NewPiece.up{w w':World}{K K':Nat}{o:Bool}{s:Int}{x:Rat}{N:Int}{p:Bool}{s':Int}{x':Rat}{N':Int}{p':Bool}{e:Ending}(h:NewPiece w K o s x N p s' x' N' p' e w')(hk:K<=K'):NewPiece w K' o s x N p s' x' N' p' e w':=by
 obtain⟨g,A,n,c,B,m,d,g',A',n',c',B',m',d',rfl,h1,h2,hb⟩:=h
 exact⟨g,A,n,c,B,m,d,g',A',n',c',B',m',d',rfl,h1.mono hk,h2.mono hk,hb⟩
def ngF(F:Int->Int->Int × Int):Int->Int->Int × Int:=fun i j=>(-(F (-j) (-i)).2,-(F (-j) (-i)).1)
def PcV(w:World)(o:Bool)(s1:Int)(g1:Bool)(A1:Option Addr)(n1 c1:Nat)(B1:Option Addr)(m1 d1:Nat)(N1:Int)(o1:Bool)(s2:Int)(g2:Bool)(A2:Option Addr)(n2 c2:Nat)(B2:Option Addr)(m2 d2:Nat)(N2:Int)(o2:Bool)(F:Int->Int->Int × Int):Prop:=
 PcW w o s1 g1 A1 n1 c1 B1 m1 d1 N1 o1 s2 g2 A2 n2 c2 B2 m2 d2 N2 o2 F/\∀ W,Below w.heap.size w W ->
  Calls Tryz.prog 109 #[.agg #[.bool o,.int .i64 s1,.bool g1,.slice A1 n1 c1,.slice B1 m1 d1,.int .i64 N1,.bool o1,.int .i64 s2,.bool g2,.slice A2 n2 c2,.slice B2 m2 d2,.int .i64 N2,.bool o2]] W (NewPcF W (ngF F))
section
variable {w w':World} {K:Nat} {o:Bool} {s1:Int} {g1:Bool} {A1:Option Addr} {n1 c1:Nat} {B1:Option Addr} {m1 d1:Nat} {N1:Int} {o1:Bool} {s2:Int} {g2:Bool} {A2:Option Addr} {n2 c2:Nat} {B2:Option Addr} {m2 d2:Nat} {N2:Int} {o2:Bool} {x1 x2:Rat} {F:Int->Int->Int × Int}
theorem PcV.below(h:PcV w o s1 g1 A1 n1 c1 B1 m1 d1 N1 o1 s2 g2 A2 n2 c2 B2 m2 d2 N2 o2 F)(hb:Below w.heap.size w w'):PcV w' o s1 g1 A1 n1 c1 B1 m1 d1 N1 o1 s2 g2 A2 n2 c2 B2 m2 d2 N2 o2 F:=
 ⟨h.1.below hb,fun W hW=>h.2 W (hb.trans (hW.mono hb.size))⟩
end
end
structure Cl (F:Int->Int->Int × Int):Prop where
 iv:∀ i j,Iv i j->Iv (F i j).1 (F i j).2
 sub:∀ i j,Iv i j->i<=(F i j).1/\(F i j).2<=j
 mono:∀ i j i' j',Iv i j->Iv i' j'->i'<=i->j<=j'->(F i' j').1<=(F i j).1/\(F i j).2<=(F i' j').2
 idem:∀ i j,Iv i j->F (F i j).1 (F i j).2=F i j
theorem Cl.none:Cl fun _ _=>((M:Int),-(M:Int)):=
 ⟨fun _ _ _=>Iv.none,fun _ _ h=>⟨h.lo.2,h.hi.1⟩,fun _ _ _ _ _ _ _ _=>⟨Int.le_refl _,Int.le_refl _⟩,fun _ _ _=>rfl⟩
theorem Cl.id:Cl fun i j=>(i,j):=
 ⟨fun _ _ h=>h,fun _ _ _=>⟨Int.le_refl _,Int.le_refl _⟩,fun _ _ _ _ _ _ h1 h2=>⟨h1,h2⟩,fun _ _ _=>rfl⟩
theorem Iv.hull{a b c d:Int}(h:Iv a b)(h':Iv c d):Iv (min a c) (max b d):=by
 have hM:=M_val;unfold Iv at *
 omega
theorem Iv.ng{a b:Int}(h:Iv a b):Iv (-b) (-a):=by
 have hM:=M_val;unfold Iv at *
 omega
theorem pair_le{p q:Int × Int}(h1:p.1<=q.1)(h2:q.1<=p.1)(h3:p.2<=q.2)(h4:q.2<=p.2):p=q:=Prod.ext (by omega) (by omega)
theorem Cl.hull{F G:Int->Int->Int × Int}(f:Cl F)(g:Cl G):Cl fun i j=>(min (F i j).1 (G i j).1,max (F i j).2 (G i j).2):=by
 refine⟨fun i j h=>(f.iv i j h).hull (g.iv i j h),fun i j h=>?_,fun i j i' j' h h' h1 h2=>?_,fun i j h=>?_⟩
 ·have a:=f.sub i j h;have b:=g.sub i j h
  dsimp only;omega
 ·have a:=f.mono i j i' j' h h' h1 h2;have b:=g.mono i j i' j' h h' h1 h2
  dsimp only;omega
 ·have vf:=f.iv i j h;have vg:=g.iv i j h;have hu:=vf.hull vg;have a:=f.sub i j h;have b:=g.sub i j h;have a1:=f.mono _ _ _ _ vf hu (Int.min_le_left _ _) (Int.le_max_left _ _);have a2:=f.mono _ _ _ _ hu h (by omega) (by omega);have a3:=f.idem i j h;have b1:=g.mono _ _ _ _ vg hu (Int.min_le_right _ _) (Int.le_max_right _ _);have b2:=g.mono _ _ _ _ hu h (by omega) (by omega);have b3:=g.idem i j h;rw [a3] at a1;rw [b3] at b1;have ea:F (min (F i j).1 (G i j).1) (max (F i j).2 (G i j).2)=F i j:=pair_le a1.1 a2.1 a2.2 a1.2;have eb:G (min (F i j).1 (G i j).1) (max (F i j).2 (G i j).2)=G i j:=pair_le b1.1 b2.1 b2.2 b1.2
  dsimp only
  rw [ea,eb]
theorem Cl.ng{F:Int->Int->Int × Int}(f:Cl F):Cl fun i j=>(-(F (-j) (-i)).2,-(F (-j) (-i)).1):=by
 refine⟨fun i j h=>(f.iv _ _ h.ng).ng,fun i j h=>?_,fun i j i' j' h h' h1 h2=>?_,fun i j h=>?_⟩
 ·have a:=f.sub _ _ h.ng
  dsimp only;omega
 ·have a:=f.mono _ _ _ _ h.ng h'.ng (show -j'<=-j by omega) (show -i<=-i' by omega)
  dsimp only;omega
 ·have a:=f.idem _ _ h.ng
  dsimp only
  rw [Int.neg_neg,Int.neg_neg,a]
def cto(o1 o2:Bool)(i j pd pu qd qu:Int):Int × Int:=
 if qd<i\/(qd=i/\qu=i/\o2=true)\/j<pu\/(pd=j/\pu=j/\o1=true) then ((M:Int),-(M:Int)) else (max i pd,min j qu)
theorem Cl.cto{o1 o2:Bool}{pd pu qd qu:Int}(h1:-(M:Int)<=pd/\pd<M)(h2:-(M:Int)<qu/\qu<=M)(hp:pd<=pu)(hq:qd<=qu)(hd:pd<=qd)(hu:pu<=qu)(ho:pd=qu->o1=false/\o2=false):Cl fun i j=>cto o1 o2 i j pd pu qd qu:=by
 have hM:=M_val
 have none:∀ a b:Int,¬ (Iv a b/\¬ (a=M/\b=-(M:Int))/\b<a):=by unfold Iv;omega
 refine⟨fun i j h=>?_,fun i j h=>?_,fun i j i' j' h h' k1 k2=>?_,fun i j h=>?_⟩
 ·unfold Go.Proofs.YthlmlmfebpjgdaaGreatDoor.cto
  split
  ·exact Iv.none
  ·unfold Iv at *
   dsimp only
   omega
 ·unfold Go.Proofs.YthlmlmfebpjgdaaGreatDoor.cto
  split
  ·exact⟨h.lo.2,h.hi.1⟩
  ·dsimp only;omega
 ·unfold Go.Proofs.YthlmlmfebpjgdaaGreatDoor.cto
  by_cases c:qd<i\/(qd=i/\qu=i/\o2=true)\/j<pu\/(pd=j/\pu=j/\o1=true)
  ·rw [if_pos c]
   split
   ·exact⟨Int.le_refl _,Int.le_refl _⟩
   ·have:=h'.lo;have:=h'.hi
    dsimp only
    omega
  ·rw [if_neg c,if_neg]
   ·dsimp only;omega
   ·rintro (q | ⟨q1,q2,q3⟩ | q | ⟨q1,q2,q3⟩)
    ·omega
    ·exact c (by rcases Int.lt_or_eq_of_le k1 with z | z
                 ·exact .inl (by omega)
                 ·exact .inr (.inl ⟨by omega,by omega,q3⟩))
    ·omega
    ·exact c (by rcases Int.lt_or_eq_of_le k2 with z | z
                 ·exact .inr (.inr (.inl (by omega)))
                 ·exact .inr (.inr (.inr ⟨by omega,by omega,q3⟩)))
 ·by_cases c:qd<i\/(qd=i/\qu=i/\o2=true)\/j<pu\/(pd=j/\pu=j/\o1=true)
  ·have e:Go.Proofs.YthlmlmfebpjgdaaGreatDoor.cto o1 o2 i j pd pu qd qu=((M:Int),-(M:Int)):=by unfold Go.Proofs.YthlmlmfebpjgdaaGreatDoor.cto;rw [if_pos c]
   rw [e];unfold Go.Proofs.YthlmlmfebpjgdaaGreatDoor.cto
   split
   ·rfl
   ·exact Prod.ext (by dsimp only;omega) (by dsimp only;omega)
  ·have e:Go.Proofs.YthlmlmfebpjgdaaGreatDoor.cto o1 o2 i j pd pu qd qu=(max i pd,min j qu):=by unfold Go.Proofs.YthlmlmfebpjgdaaGreatDoor.cto;rw [if_neg c]
   rw [e]
   dsimp only
   unfold Go.Proofs.YthlmlmfebpjgdaaGreatDoor.cto;rw [if_neg]
   ·exact Prod.ext (by dsimp only;omega) (by dsimp only;omega)
   ·rintro (q | ⟨q1,q2,q3⟩ | q | ⟨q1,q2,q3⟩)
    ·omega
    ·by_cases z:pd<=i
     ·exact c (.inr (.inl ⟨by omega,by omega,q3⟩))
     ·have:=(ho (by omega)).2;rw [this] at q3;cases q3
    ·omega
    ·by_cases z:j<=qu
     ·exact c (.inr (.inr (.inr ⟨by omega,by omega,q3⟩)))
     ·have:=(ho (by omega)).1;rw [this] at q3;cases q3
theorem ct_cto(i j pd pu qd qu:Int):ct i j pd pu qd qu=cto false false i j pd pu qd qu:=by
 unfold ct cto
 by_cases c:qd<i\/j<pu
 ·rw [if_pos c,if_pos (by rcases c with c | c;exact .inl c;exact .inr (.inr (.inl c)))]
 ·rw [if_neg c,if_neg (by rintro (q | ⟨-,-,q⟩ | q | ⟨-,-,q⟩);exact c (.inl q);cases q;exact c (.inr q);cases q)]
theorem Cl.ct{pd pu qd qu:Int}(h1:-(M:Int)<=pd/\pd<M)(h2:-(M:Int)<qu/\qu<=M)(hp:pd<=pu)(hq:qd<=qu)(hd:pd<=qd)(hu:pu<=qu):Cl fun i j=>Go.Proofs.YthlmlmfebpjgdaaGreatDoor.ct i j pd pu qd qu:=by
 have k:=Cl.cto (o1:=false) (o2:=false) h1 h2 hp hq hd hu (fun _=>⟨rfl,rfl⟩)
 have e:(fun i j=>Go.Proofs.YthlmlmfebpjgdaaGreatDoor.ct i j pd pu qd qu)=fun i j=>Go.Proofs.YthlmlmfebpjgdaaGreatDoor.cto false false i j pd pu qd qu:=by funext i j;exact ct_cto _ _ _ _ _ _
 rw [e];exact k
theorem Cl.congr{F G:Int->Int->Int × Int}(g:Cl G)(h:∀ i j,Iv i j->F i j=G i j):Cl F:=by
 refine⟨fun i j v=>by rw [h i j v];exact g.iv i j v,fun i j v=>by rw [h i j v];exact g.sub i j v,fun i j i' j' v v' h1 h2=>by rw [h i j v,h i' j' v'];exact g.mono i j i' j' v v' h1 h2,fun i j v=>?_⟩;rw [h i j v,h _ _ (g.iv i j v)]
 exact g.idem i j v
theorem Cl.empty{F:Int->Int->Int × Int}(f:Cl F){i j:Int}(v:Iv i j)(h:j<i):F i j=((M:Int),-(M:Int)):=by
 have hM:=M_val;have a:=f.iv i j v;have b:=f.sub i j v
 rcases v with v | ⟨rfl,rfl⟩
 ·omega
 ·unfold Iv at a
  exact Prod.ext (by dsimp only;omega) (by dsimp only;omega)
theorem Cl.cut{F G:Int->Int->Int × Int}(g:Cl G)(h:∀ i j,Ne i j->F i j=G i j)(h0:∀ i j,j<i->F i j=((M:Int),-(M:Int))):Cl F:=
 g.congr fun i j v=>by
  by_cases c:j<i
  ·rw [h0 i j c,g.empty v c]
  ·exact h i j (ne_or v c)
theorem ec_eq{i s:Int}{x:Rat}(hi:-(M:Int)<=i/\i<=M)(hs:s=0\/s=1\/s=-1):ec (es i) (ex i) s x=0↔dn s x=i/\up s x=i:=by
 have hM:=M_val
 by_cases h0:s=0
 ·subst h0;rw [dn_zero,up_zero];have a:=rndI_down x;have b:=rndI_up x
  by_cases h:es i=0
  ·have z:=es_zero h;rw [h,ec_zero,ex_zero h]
   constructor
   ·intro e
    have e2:fl i=x:=by
     unfold rc at e
     split at e
     ·omega
     ·split at e
      ·omega
      ·grind
    rw [<- e2]
    exact⟨rndI_fl (.inl rfl) (by omega) (by omega),rndI_fl (.inr rfl) (by omega) (by omega)⟩
   ·rintro⟨e1,e2⟩;have k1:=(a.2.2 i (by omega) (by omega)).1 (by omega);have k2:=(b.2.2 i (by omega) (by omega)).1 (by omega);unfold rc;rw [if_neg (by grind),if_neg (by grind)]
  ·have hi2:i=M\/i=-(M:Int):=by
    by_cases q:i=M
    ·exact .inl q
    ·by_cases q2:i=-(M:Int)
     ·exact .inr q2
     ·exact absurd (es_mid (by omega) (by omega)) h
   unfold ec;rw [if_neg h]
   constructor
   ·intro e;split at e<;>omega
   ·rintro⟨e1,e2⟩;omega
 ·have d1:dn s x=s*M:=by unfold dn;rw [if_neg h0]
  have d2:up s x=s*M:=by unfold up;rw [if_neg h0]
  rw [d1,d2];unfold ec es
  rcases hs with rfl | rfl | rfl
  ·omega
  ·by_cases q:i=M
   ·rw [if_pos q,if_pos rfl,if_neg (by omega)];omega
   ·by_cases q2:i=-(M:Int)
    ·rw [if_neg q,if_pos q2,if_neg (by omega),if_pos (by omega)];omega
    ·rw [if_neg q,if_neg q2,if_neg (by omega),if_pos (by omega)];omega
  ·by_cases q:i=M
   ·rw [if_pos q,if_neg (by omega),if_neg (by omega)];omega
   ·by_cases q2:i=-(M:Int)
    ·rw [if_neg q,if_pos q2,if_pos rfl,if_neg (by omega)];omega
    ·rw [if_neg q,if_neg q2,if_neg (by omega),if_neg (by omega)];omega
theorem pf_cto{s1:Int}{x1:Rat}{o1:Bool}{s2:Int}{x2:Rat}{o2:Bool}(hs1:s1=0\/s1=-1)(hs2:s2=0\/s2=1)(i j:Int)(h:Ne i j):
  pf s1 x1 o1 s2 x2 o2 i j=cto o1 o2 i j (dn s1 x1) (up s1 x1) (dn s2 x2) (up s2 x2):=by
 have hM:=M_val;unfold Ne at h;unfold pf;rw [if_neg (by omega)];unfold wg cto;rw [ec_lo_at (by omega) hs1,ec_hi_at (by omega) hs2];have e1:=ec_hi (i:=i) (s:=s2) (x:=x2) (by omega) hs2;have e2:=ec_lo (j:=j) (s:=s1) (x:=x1) (by omega) hs1;have e3:=ec_eq (i:=i) (s:=s2) (x:=x2) (by omega) (by omega);have e4:=ec_eq (i:=j) (s:=s1) (x:=x1) (by omega) (by omega)
 by_cases c:dn s2 x2<i\/(dn s2 x2=i/\up s2 x2=i/\o2=true)\/j<up s1 x1\/(dn s1 x1=j/\up s1 x1=j/\o1=true)
 ·rw [if_pos c,if_pos]
  rcases c with q | ⟨q1,q2,q3⟩ | q | ⟨q1,q2,q3⟩
  ·exact .inl (e1.2 q)
  ·exact .inr (.inl ⟨e3.2 ⟨q1,q2⟩,q3⟩)
  ·exact .inr (.inr (.inl (e2.2 q)))
  ·exact .inr (.inr (.inr ⟨e4.2 ⟨q1,q2⟩,q3⟩))
 ·rw [if_neg c,if_neg];rintro (q | ⟨q,q3⟩ | q | ⟨q,q3⟩)
  ·exact c (.inl (e1.1 q))
  ·exact c (.inr (.inl ⟨(e3.1 q).1,(e3.1 q).2,q3⟩))
  ·exact c (.inr (.inr (.inl (e2.1 q))))
  ·exact c (.inr (.inr (.inr ⟨(e4.1 q).1,(e4.1 q).2,q3⟩)))
def Od(s1:Int)(x1:Rat)(o1:Bool)(s2:Int)(x2:Rat)(o2:Bool):Prop:=s1=0->s2=0->x1<x2\/(x1=x2/\o1=false/\o2=false)
theorem Cl.pf{s1:Int}{x1:Rat}{o1:Bool}{s2:Int}{x2:Rat}{o2:Bool}(hs1:s1=0\/s1=-1)(hs2:s2=0\/s2=1)(h:Od s1 x1 o1 s2 x2 o2):Cl (Go.Proofs.YthlmlmfebpjgdaaGreatDoor.pf s1 x1 o1 s2 x2 o2):=by
 have hM:=M_val;have a:=dn_lt (x:=x1) hs1;have b:=up_gt (x:=x2) hs2;have p:=dn_le_up s1 x1;have q:=dn_le_up s2 x2
 have k:dn s1 x1<=dn s2 x2/\up s1 x1<=up s2 x2/\(dn s1 x1=up s2 x2->o1=false/\o2=false):=by
  by_cases c1:s1=0
  ·by_cases c2:s2=0
   ·have z:=h c1 c2;subst c1 c2;rw [dn_zero,up_zero,dn_zero,up_zero] at *
    have le:x1<=x2:=by rcases z with z | z<;>grind
    refine⟨rndI_mono (.inl rfl) le,rndI_mono (.inr rfl) le,fun e=>?_⟩
    rcases z with z | z
    ·exfalso
     have k1:=rndI_down x1;have k2:=rndI_up x2;have l1:=(k1.2.2 (rndI (-1) x1) (by omega) (by omega)).1 (Int.le_refl _);have l2:=(k2.2.2 (rndI (-1) x1) (by omega) (by omega)).1 (by omega)
     grind
    ·exact z.2
   ·have e1:dn s2 x2=M:=by unfold dn;rw [if_neg c2];rcases hs2 with r | r<;>first | omega | (rw [r];omega)
    have e2:up s2 x2=M:=by unfold up;rw [if_neg c2];rcases hs2 with r | r<;>first | omega | (rw [r];omega)
    have:=rndI_up x1
    have:up s1 x1<=M:=by rw [c1,up_zero];omega
    exact⟨by omega,by omega,fun e=>by omega⟩
  ·have e1:dn s1 x1=-(M:Int):=by unfold dn;rw [if_neg c1];rcases hs1 with r | r<;>first | omega | (rw [r];omega)
   have e2:up s1 x1=-(M:Int):=by unfold up;rw [if_neg c1];rcases hs1 with r | r<;>first | omega | (rw [r];omega)
   have:-(M:Int)<=dn s2 x2:=by
    rcases hs2 with r | r
    ·rw [r,dn_zero];have:=rndI_down x2;omega
    ·unfold dn;rw [if_neg (by omega),r];omega
   exact⟨by omega,by omega,fun e=>by omega⟩
 refine (Cl.cto (o1:=o1) (o2:=o2) a b p q k.1 k.2.1 k.2.2).cut (fun i j n=>pf_cto hs1 hs2 i j n) (fun i j c=>?_);unfold Go.Proofs.YthlmlmfebpjgdaaGreatDoor.pf;rw [if_pos c]
section
open Go.RowKit
theorem rep_dvd{n:Int}{k:Nat}(h:Rep n)(hn:2^(52+k)<=n.natAbs):(2:Int)^k ∣ n:=by
 obtain⟨q,j,hq,e⟩:=rep_iff.1 h
 have hj:k<=j:=by
  apply Nat.le_of_not_lt
  intro hlt;have h1:q*2^j<2^53*2^j:=Nat.mul_lt_mul_of_pos_right hq (Nat.two_pow_pos j)
  have h2:2^53*2^j<=2^(52+k):=by rw [<- Nat.pow_add];exact Nat.pow_le_pow_right (by omega) (by omega)
  rw [e] at hn
  exact absurd (Nat.lt_of_lt_of_le h1 (Nat.le_trans h2 hn)) (Nat.lt_irrefl _)
 exact Int.dvd_trans (pow_dvd_le hj) (dvd_of_natAbs e)
theorem R_err{n:Int}(k:Nat)(h:n.natAbs<=2^53*2^k):2*(n - R n).natAbs<=2^k:=by
 have hK:0<2^k:=Nat.two_pow_pos k
 have hKi:((2^k:Nat):Int)=(2:Int)^k:=by rw [Int.natCast_pow];rfl
 have hd:n=(2:Int)^k*(n / (2:Int)^k)+n % (2:Int)^k:=(Int.mul_ediv_add_emod n _).symm;have hb0:0<=n % (2:Int)^k:=Int.emod_nonneg _ (by omega);have hb1:n % (2:Int)^k<(2:Int)^k:=Int.emod_lt_of_pos _ (by omega);generalize n / (2:Int)^k=a at hd;generalize n % (2:Int)^k=b at hd hb0 hb1
 have rp:∀ c:Int,c.natAbs<=2^53->Rep ((2:Int)^k*c):=fun c hc=>rep_of_dvd k (Int.dvd_mul_right _ _) (by
  rw [Int.natAbs_mul,Int.natAbs_pow,Nat.mul_comm]
  exact Nat.mul_le_mul_right _ hc)
 have c1:a<=2^53:=by
  apply Int.le_of_not_gt;intro hlt
  have h1:(2:Int)^k*(2^53+1)<=(2:Int)^k*a:=Int.mul_le_mul_of_nonneg_left (by omega) (by omega)
  have h2:(n.natAbs:Int)<=2^53*2^k:=by exact_mod_cast h
  have h3:(2:Int)^k*(2^53+1)=2^53*2^k+2^k:=by rw [Int.mul_add,Int.mul_one,Int.mul_comm]
  omega
 have c2:-2^53<=a:=by
  apply Int.le_of_not_gt;intro hlt
  have h1:(2:Int)^k*a<=(2:Int)^k*(-2^53 - 1):=Int.mul_le_mul_of_nonneg_left (by omega) (by omega)
  have h2:(n.natAbs:Int)<=2^53*2^k:=by exact_mod_cast h
  have h3:(2:Int)^k*(-2^53 - 1)=-(2^53*2^k) - 2^k:=by rw [Int.mul_sub,Int.mul_one,Int.mul_comm,Int.neg_mul]
  omega
 have n1:=R_nearest (n:=n) (rp a (by omega))
 by_cases hb:b=0
 ·have e:n - (2:Int)^k*a=0:=by omega
  rw [e] at n1
  simp at n1
  omega
 ·have c3:a+1<=2^53:=by
   apply Int.le_of_not_gt;intro hlt
   have ea:a=2^53:=by omega
   have h2:(n.natAbs:Int)<=2^53*2^k:=by exact_mod_cast h
   have h3:(2:Int)^k*a=2^53*2^k:=by rw [ea,Int.mul_comm]
   omega
  have n2:=R_nearest (n:=n) (rp (a+1) (by omega));rw [Int.mul_add,Int.mul_one] at n2
  omega
theorem R_ge{n:Int}{t:Nat}(h:2^t<=n.natAbs):2^t<=(R n).natAbs:=by
 have h0:((2^t:Nat):Int)=(2:Int)^t:=by rw [Int.natCast_pow];rfl
 rcases Int.lt_or_le n 0 with hn | hn
 ·have h1:R n<=-(2:Int)^t:=R_le (rep_two_pow t).neg (by omega)
  omega
 ·have h1:(2:Int)^t<=R n:=le_R (rep_two_pow t) (by omega)
  omega
theorem cut_pos{m:Int}(h1:2^52<=m)(h2:m<2^53):
  ∃ q l:Int,R (R (134217729*m) - R (R (134217729*m) - m))=2^27*q/\m=2^27*q+l/\q.natAbs<=2^26/\l.natAbs<=2^26:=by
 have d1:(2:Int)^27 ∣ R (134217729*m):=rep_dvd (R_rep _) (R_ge (t:=52+27) (by omega));have e1:=R_err (n:=134217729*m) 28 (by omega);have e2:134217729*m<=2^80->2*(134217729*m - R (134217729*m)).natAbs<=2^27:=fun h=>R_err 27 (by omega);have e3:m=2^52->R (134217729*m)=134217729*m:=fun h=>R_of_rep (rep_of_dvd 27 ⟨2^52+2^25,by omega⟩ (by omega));generalize R (134217729*m)=t at *
 have b1:2^79<=t - m:=by
  by_cases hm:m=2^52
  ·have:=e3 hm;omega
  ·by_cases hc:134217729*m<=2^80
   ·have:=e2 hc;omega
   ·omega
 have b2:t - m<=2^80:=by omega
 have d2:(2:Int)^27 ∣ R (t - m):=rep_dvd (R_rep _) (R_ge (t:=52+27) (by omega));have e4:=R_err (n:=t - m) 27 (by omega);generalize R (t - m)=u at *;obtain⟨q,hq⟩:=Int.dvd_sub d1 d2;have hR:R (t - u)=t - u:=R_of_rep (rep_of_dvd 27 (Int.dvd_sub d1 d2) (by omega));refine⟨q,m - 2^27*q,by rw [hR,hq],by omega,by omega,by omega⟩
theorem dcut_any{m:Int}(h1:2^52<=m.natAbs)(h2:m.natAbs<2^53):
  ∃ q l:Int,R (R (134217729*m) - R (R (134217729*m) - m))=2^27*q/\m=2^27*q+l/\q.natAbs<=2^26/\l.natAbs<=2^26:=by
 rcases Int.lt_or_le m 0 with hm | hm
 ·obtain⟨q,l,a,b,c,d⟩:=cut_pos (m:=-m) (by omega) (by omega);refine⟨-q,-l,?_,by omega,by omega,by omega⟩
  rw [show (134217729:Int)*-m=-(134217729*m) from by omega,R_neg,show -R (134217729*m) - -m=-(R (134217729*m) - m) from by omega,R_neg,
   show -R (134217729*m) - -R (R (134217729*m) - m)=-(R (134217729*m) - R (R (134217729*m) - m)) from by omega,R_neg] at a
  omega
 ·exact cut_pos (by omega) (by omega)
theorem missed_at{m n q l q' l':Int}(m1:2^52<=m.natAbs)(m2:m.natAbs<2^53)(n1:2^52<=n.natAbs)(n2:n.natAbs<2^53)(em:m=2^27*q+l)(en:n=2^27*q'+l')(hq:q.natAbs<=2^26)(hl:l.natAbs<=2^26)(hq':q'.natAbs<=2^26)(hl':l'.natAbs<=2^26):
  Rep ((2^27*q)*(2^27*q'))/\Rep ((2^27*q)*l')/\Rep (l*(2^27*q'))/\Rep (l*l') /\
  Rep ((2^27*q)*(2^27*q') - R (m*n))/\Rep ((2^27*q)*(2^27*q') - R (m*n)+(2^27*q)*l')/\Rep ((2^27*q)*(2^27*q') - R (m*n)+(2^27*q)*l'+l*(2^27*q')) /\
  (2^27*q)*(2^27*q') - R (m*n)+(2^27*q)*l'+l*(2^27*q')+l*l'=m*n - R (m*n)/\Rep (m*n - R (m*n))/\(2*(m*n - R (m*n)).natAbs<=2^53):=by
 have p1:(m*n).natAbs<2^106:=by
  rw [Int.natAbs_mul]
  calc m.natAbs*n.natAbs<2^53*2^53:=Nat.mul_lt_mul_of_lt_of_lt m2 n2
   _=2^106:=rfl
 have p2:2^104<=(m*n).natAbs:=by
  rw [Int.natAbs_mul]
  calc 2^104=2^52*2^52:=rfl
   _<=m.natAbs*n.natAbs:=Nat.mul_le_mul m1 n1
 have bd:∀ a b:Int,a.natAbs<=2^26->b.natAbs<=2^26->(a*b).natAbs<=2^52:=fun a b ha hb=>by
  rw [Int.natAbs_mul];exact Nat.le_trans (Nat.mul_le_mul ha hb) (by decide)
 have z1:=bd _ _ hq hq';have z2:=bd _ _ hq hl';have z3:=bd _ _ hl hq';have z4:=bd _ _ hl hl';have err:=R_err (n:=m*n) 53 (by omega);have dv:(2:Int)^52 ∣ R (m*n):=rep_dvd (R_rep _) (R_ge (t:=52+52) p2)
 have f1:(2^27*q)*(2^27*q')=2^54*(q*q'):=by grind
 have f2:(2^27*q)*l'=2^27*(q*l'):=by grind
 have f3:l*(2^27*q')=2^27*(l*q'):=by grind
 have f4:m*n=2^54*(q*q')+2^27*(q*l')+2^27*(l*q')+l*l':=by rw [em,en];grind
 rw [f1,f2,f3];generalize q*q'=Z1 at *;generalize q*l'=Z2 at *;generalize l*q'=Z3 at *;generalize l*l'=Z4 at *;generalize R (m*n)=P at *;generalize m*n=N at *;obtain⟨P',rfl⟩:=dv;clear f1 f2 f3 bd em en;refine⟨rep_of_dvd 54 (Int.dvd_mul_right _ _) (by omega),rep_of_dvd 27 (Int.dvd_mul_right _ _) (by omega),rep_of_dvd 27 (Int.dvd_mul_right _ _) (by omega),rep_of_dvd 0 (Int.one_dvd _) (by omega),rep_of_dvd 52 ⟨4*Z1 - P',by omega⟩ (by omega),rep_of_dvd 27 ⟨2^27*Z1 - 2^25*P'+Z2,by omega⟩ (by omega),rep_of_dvd 0 (Int.one_dvd _) (by omega),by omega,rep_of_dvd 0 (Int.one_dvd _) (by omega),err⟩
theorem nearRung_scale(n d:Nat):nearRung (n*2^d) d=nearRung n 0:=by
 unfold nearRung;rw [Nat.mul_div_cancel _ (Nat.two_pow_pos d),Nat.pow_zero,Nat.div_one,bump_shift,Nat.zero_add]
theorem near_scale(n:Int)(d:Nat):near (n*2^d) d=near n 0:=by
 have hp:(0:Int)<2^d:=by exact_mod_cast Nat.two_pow_pos d
 have e:(n*2^d).natAbs=n.natAbs*2^d:=by rw [Int.natAbs_mul,Int.natAbs_pow];rfl
 unfold near;rw [e,nearRung_scale]
 by_cases h:n<0
 ·rw [if_pos h,if_pos (Int.mul_neg_of_neg_of_pos h hp)]
 ·rw [if_neg h,if_neg (by have:=Int.mul_nonneg (show 0<=n by omega) (Int.le_of_lt hp);omega)]
theorem mag_nearRung_fine{n d:Nat}(h:2^(53+d)<=n):mag (nearRung n d)*2^d=mag (nearRung n 0):=by
 have h0:n≠0:=by have:=Nat.two_pow_pos (53+d);omega
 have hl:53+d<=n.log2:=(Nat.le_log2 h0).2 h
 have eo:over n=over (n / 2^d)+d:=by unfold over;rw [log2_div_pow];omega
 have hk:=over_spec (n / 2^d);rw [mag_nearRung];unfold nearRung floorRung
 obtain⟨o,ho⟩:∃ o,over (n / 2^d)=o:=⟨_,rfl⟩
 rw [ho] at eo hk;rw [ho,eo,div_div_pow] at *;have hb:(bump n (d+o)).toNat<=1:=Bool.toNat_le _;rw [Nat.add_assoc,mag_form o _ (by omega) (by omega),Nat.mul_assoc,<- Nat.pow_add,Nat.add_comm d o]
theorem near_fine{n:Int}{d:Nat}(h:2^(53+d)<=n.natAbs)(hM:-(M:Int)<near n d/\near n d<M):val (near n d)*2^d=R n:=by
 have h1:=near_natAbs n d
 have h2:min (nearRung n.natAbs d) M=nearRung n.natAbs d:=by omega
 have h3:=mag_nearRung_fine h;unfold near R;rw [h2]
 split
 ·rw [val_neg,val_nat,Int.neg_mul]
  congr 1
  exact_mod_cast h3
 ·rw [val_nat]
  exact_mod_cast h3
end
section
open Go.RowKit Ieee
theorem inf_word{x:Nat}(hx:x<18446744073709551616)(h:rungOf x=M):double.write (.infinity (sgn x))=x:=by
 show double.word (sgn x) double.infRung=x
 rw [infRung_eq];have h1:=Is.word (sgn x) (r:=M) (Nat.le_refl _);have h2:=pat_cases (b:=double.word (sgn x) M) (by have:=h1.lt;omega);have h3:=pat_cases hx;have h4:=h1.idx
 obtain⟨b,hb⟩:∃ b,double.word (sgn x) M=b:=⟨_,rfl⟩
 rw [hb] at h2 h4 ⊢;rw [M_val] at h h4
 rcases h3 with ⟨a,b1,c,d⟩ | ⟨a,b1,c,d⟩
 ·rw [c] at h4
  simp only [Bool.false_eq_true,if_false] at h4
  omega
 ·rw [c] at h4
  simp only [if_true] at h4
  omega
theorem inf_pat{x:Nat}(hx:x<18446744073709551616)(h:rungOf x=M):pat (idx x)=x:=by
 have h3:=pat_cases hx;rw [M_val] at *
 rcases h3 with ⟨a,b1,c,d⟩ | ⟨a,b1,c,d⟩
 ·rw [pat_nn (by omega)];omega
 ·rw [pat_neg (by omega)];omega
theorem add_inf_left{x y:Nat}(hx:x<18446744073709551616)(h:rungOf x=M)(hy:rungOf y<=M)(hno:rungOf y=M->sgn x=sgn y):double.add x y=some (pat (idx x)):=by
 rw [inf_pat hx h];unfold Format.add;rw [read_inf h]
 by_cases h2:rungOf y=M
 ·rw [read_inf h2]
  simp only [Datum.sum]
  rw [if_pos (hno h2)]
  simp only [Option.map_some]
  rw [inf_word hx h]
 ·obtain⟨m,k,e,-,-⟩:=read_fin (show fin y from by unfold fin;omega);rw [e]
  simp only [Datum.sum,Option.map_some]
  rw [inf_word hx h]
theorem add_inf_right{x y:Nat}(hy:y<18446744073709551616)(h:rungOf y=M)(hx:rungOf x<M):double.add x y=some (pat (idx y)):=by
 rw [inf_pat hy h];unfold Format.add;obtain⟨m,k,e,-,-⟩:=read_fin (show fin x from hx);rw [read_inf h,e]
 simp only [Datum.sum,Option.map_some]
 rw [inf_word hy h]
def ad(d i j:Int):Int:=if i=M\/i=-(M:Int) then i else if j=M\/j=-(M:Int) then j else rndI d (fl i+fl j)
theorem nud_sum{d:Int}(hd:d=-1\/d=1){s e:Nat}{n:Int}{j k:Int}(hs:Fl s (R n))(he:Fl e (n - R n))(hn:val j+val k=n):nud d (idx s) (idx e)=rndI d (fl j+fl k):=by
 rw [fl_add,hn];have h0:=idx_natAbs s;have hf:rungOf s<M:=hs.fin
 have e1:idx e<0↔n<R n:=by
  have h:=@val_lt_iff (idx e) 0;rw [val_zero,he.val] at h
  omega
 have e2:0<idx e↔R n<n:=by
  have h:=@val_lt_iff 0 (idx e);rw [val_zero,he.val] at h
  omega
 rcases hd with rfl | rfl
 ·rw [near_down hs.val (by omega) (by omega)];unfold nud
  by_cases h:n<R n
  ·rw [if_pos h,if_pos ⟨rfl,e1.2 h⟩]
  ·rw [if_neg h,if_neg (fun h'=>h (e1.1 h'.2)),if_neg (by omega)]
 ·rw [near_up hs.val (by omega) (by omega)];unfold nud
  by_cases h:R n<n
  ·rw [if_pos h,if_neg (by omega),if_pos ⟨rfl,e2.2 h⟩]
  ·rw [if_neg h,if_neg (by omega),if_neg (fun h'=>h (e2.1 h'.2))]
theorem not_great{x t T:Nat}(h:rungOf x<=(t+1)*2^52)(hT:T=52+t):(val (idx x)).natAbs<=2^T:=by
 rw [val_natAbs,idx_natAbs];have h1:mag (rungOf x)<=mag ((t+1)*2^52):=mag_le_iff.2 h;rw [mag_two_pow,<- Nat.pow_add] at h1;rw [hT];exact h1
theorem Fl_self{x:Nat}(hx:x<18446744073709551616)(h:rungOf x<M):Fl x (val (idx x)):=⟨hx,h,rfl⟩
theorem great_ord{r:Nat}(h:r<=M):(r<=8660422083433463808/\(FloatKind.f64.format.order r 8660422083433463808=some .lt\/FloatKind.f64.format.order r 8660422083433463808=some .eq))\/(8660422083433463808<r/\FloatKind.f64.format.order r 8660422083433463808=some .gt):=by
 have hM:M=9218868437227405312:=rfl;have g1:rungOf 8660422083433463808=8660422083433463808/\idx 8660422083433463808=((8660422083433463808:Nat):Int):=rung_idx (by decide);have r1:=rung_idx (b:=r) (by omega)
 rcases Nat.lt_trichotomy r 8660422083433463808 with h1 | h1 | h1
 ·exact .inl ⟨by omega,.inl (ord_lt (by omega) (by omega) (by omega))⟩
 ·exact .inl ⟨by omega,.inr (ord_eq (by omega) (by omega) (by omega))⟩
 ·exact .inr ⟨h1,ord_gt (by omega) (by omega) (by omega)⟩
end
section
open Go.RowKit
theorem near_R2{n:Int}{Q:Nat}(hQ:Q<=2090)(h:n.natAbs<=2^Q):val (near n 0)=R n/\-(M:Int)<near n 0/\near n 0<M:=by
 have hM:M=2047*2^52:=rfl
 obtain⟨r,hr⟩:∃ r,mag r=2^Q*2^0/\r<M:=by
  by_cases hq:Q<52
  ·have h1:2^Q<2^52:=Nat.pow_lt_pow_right (by omega) hq
   exact⟨2^Q,by rw [mag_small h1,Nat.pow_zero,Nat.mul_one],by omega⟩
  ·obtain⟨t,rfl⟩:∃ t,Q=52+t:=⟨Q - 52,by omega⟩
   refine⟨(t+1)*2^52,by rw [mag_two_pow,Nat.pow_zero,Nat.mul_one,Nat.pow_add],?_⟩;have:(t+1)*2^52<=2040*2^52:=Nat.mul_le_mul_right _ (by omega)
   omega
 have h1:nearRung n.natAbs 0<=r:=nearRung_le (by rw [Nat.pow_zero,Nat.mul_one];rw [Nat.pow_zero,Nat.mul_one] at hr;rw [hr.1];exact h)
 have h2:min (nearRung n.natAbs 0) M=nearRung n.natAbs 0:=by omega
 unfold near R;rw [h2];refine⟨?_,by split<;>omega,by split<;>omega⟩
 split
 ·rw [val_neg,val_nat]
 ·rw [val_nat]
theorem Fl.of_is2{b:Nat}{n:Int}{Q:Nat}(hQ:Q<=2090)(h:Is b (near n 0))(hn:n.natAbs<=2^Q):Fl b (R n):=by
 obtain⟨h1,h2,h3⟩:=near_R2 hQ hn;refine⟨h.lt,?_,by rw [h.idx,h1]⟩;have:=idx_natAbs b;rw [h.idx] at this
 show rungOf b<M
 omega
theorem Fl.add2{x y:Nat}{m n:Int}{Q:Nat}(hQ:Q<=2090)(hx:Fl x m)(hy:Fl y n)(h:(m+n).natAbs<=2^Q):∃ r,FloatKind.f64.format.add x y=some r/\Fl r (R (m+n)):=by
 obtain⟨r,h1,h2⟩:=add_fin hx.fin hy.fin;rw [hx.val,hy.val] at h2
 exact⟨r,h1,Fl.of_is2 hQ h2 h⟩
theorem Fl.sub2{x y:Nat}{m n:Int}{Q:Nat}(hQ:Q<=2090)(hx:Fl x m)(hy:Fl y n)(h:(m - n).natAbs<=2^Q):∃ r,FloatKind.f64.format.sub x y=some r/\Fl r (R (m - n)):=by
 obtain⟨r,h1,h2⟩:=sub_fin hx.fin hy.fin;rw [hx.val,hy.val] at h2
 exact⟨r,h1,Fl.of_is2 hQ h2 h⟩
theorem Fl.mul_at{x y:Nat}{m n Z:Int}{Q U:Nat}(hQ:Q<=2090)(hU:U=1074)(hx:Fl x m)(hy:Fl y n)(hz:m*n=Z*2^U)(h:Z.natAbs<=2^Q):∃ r,FloatKind.f64.format.mul x y=some r/\Fl r (R Z):=by
 obtain⟨r,h1,h2⟩:=mul_fin hx.fin hy.fin;subst hU;rw [hx.val,hy.val,hz,near_scale] at h2
 exact⟨r,h1,Fl.of_is2 hQ h2 h⟩
theorem Rep.shift{n:Int}(h:Rep n)(k:Nat):Rep (n*2^k):=by
 have e:=R_shift n k;rw [R_of_rep h] at e;rw [<- e];exact R_rep _
theorem cut_const{U:Nat}(hU:U=1074):Fl 4728779608772575232 (134217729*2^U):=by
 have h0:rungOf 4728779608772575232=1049*2^52+(2^52+2^25):=by decide
 refine⟨by decide,by unfold fin;rw [h0];decide,?_⟩
 have h1:idx 4728779608772575232=((1049*2^52+(2^52+2^25):Nat):Int):=by decide
 rw [h1,val_nat,mag_form 1049 (2^52+2^25) (by omega) (by omega)]
 obtain⟨u,hu⟩:∃ u:Nat,u=1049:=⟨_,rfl⟩
 rw [<- hu,show U=25+u from by omega,Int.natCast_mul,Int.natCast_pow,show ((2^52+2^25:Nat):Int)=134217729*2^25 from by decide,show ((2:Nat):Int)=2 from rfl,Int.pow_add,Int.mul_assoc]
theorem quick_half{x:Nat}{m:Int}{a T U:Nat}(hT:T<=2000)(hU:U=1074)(hx:Fl x (m*2^a))(h1:2^52<=m.natAbs)(h2:m.natAbs<2^53)(hb:(m*2^a).natAbs<=2^T):
  ∃ t u h l:Nat,∃ q v:Int,FloatKind.f64.format.mul 4728779608772575232 x=some t/\FloatKind.f64.format.sub t x=some u/\FloatKind.f64.format.sub t u=some h/\FloatKind.f64.format.sub x h=some l /\
   Fl h (2^27*q*2^a)/\Fl l (v*2^a)/\m=2^27*q+v/\q.natAbs<=2^26/\v.natAbs<=2^26:=by
 obtain⟨q,v,e1,e2,hq,hv⟩:=dcut_any h1 h2
 have p1:2^(T+28)=268435456*2^T:=by rw [Nat.pow_add,Nat.mul_comm]
 have p2:2^(T+32)=4294967296*2^T:=by rw [Nat.pow_add,Nat.mul_comm]
 have hQ:T+32<=2090:=by omega
 have s1:(134217729:Int)*(m*2^a)=134217729*m*2^a:=by rw [Int.mul_assoc]
 have b0:(134217729*(m*2^a):Int).natAbs<=2^(T+28):=by
  rw [Int.natAbs_mul,p1,show (134217729:Int).natAbs=134217729 from rfl];omega
 obtain⟨t,g1,f1⟩:=Fl.mul_at (Q:=T+32) hQ hU (cut_const hU) hx (Z:=134217729*(m*2^a)) (by rw [Int.mul_assoc,Int.mul_comm (2^U),<- Int.mul_assoc]) (by omega);have b1:=R_bound b0;obtain⟨u,g2,f2⟩:=Fl.sub2 (Q:=T+32) hQ f1 hx (by omega);have b2:(R (R (134217729*(m*2^a)) - m*2^a)).natAbs<=2^(T+29):=R_bound (by rw [show 2^(T+29)=536870912*2^T from by rw [Nat.pow_add,Nat.mul_comm]];omega)
 have p3:2^(T+29)=536870912*2^T:=by rw [Nat.pow_add,Nat.mul_comm]
 obtain⟨h,g3,f3⟩:=Fl.sub2 (Q:=T+32) hQ f1 f2 (by omega)
 have eh:R (R (134217729*(m*2^a)) - R (R (134217729*(m*2^a)) - m*2^a))=2^27*q*2^a:=by
  rw [s1,R_shift,<- Int.sub_mul,R_shift,<- Int.sub_mul,R_shift,e1]
 have b3:=R_bound (n:=R (134217729*(m*2^a)) - R (R (134217729*(m*2^a)) - m*2^a)) (t:=T+30) (by rw [show 2^(T+30)=1073741824*2^T from by rw [Nat.pow_add,Nat.mul_comm]];omega)
 have p4:2^(T+30)=1073741824*2^T:=by rw [Nat.pow_add,Nat.mul_comm]
 rw [eh] at f3 b3;obtain⟨l,g4,f4⟩:=Fl.sub2 (Q:=T+32) hQ hx f3 (by omega)
 have el:m*2^a - 2^27*q*2^a=v*2^a:=by rw [<- Int.sub_mul,show m - 2^27*q=v from by omega]
 have rv:Rep v:=rep_of_dvd 0 ⟨v,by rw [Int.pow_zero,Int.one_mul]⟩ (by rw [Nat.pow_zero,Nat.mul_one];exact Nat.le_trans hv (by decide));rw [el,R_of_rep (rv.shift a)] at f4
 exact⟨t,u,h,l,q,v,g1,g2,g3,g4,f3,f4,e2,hq,hv⟩
theorem quick_mul{x y p:Nat}{m n:Int}{a b U T:Nat}(hU:U=1074)(hT:T=1974)(hx:Fl x (m*2^a))(m1:2^52<=m.natAbs)(m2:m.natAbs<2^53)(bx:(m*2^a).natAbs<=2^T)(hy:Fl y (n*2^b))(n1:2^52<=n.natAbs)(n2:n.natAbs<2^53)(by_:(n*2^b).natAbs<=2^T)
  (hp:FloatKind.f64.format.mul x y=some p)(hf:fin p)(bp:(val (idx p)).natAbs<=2^T)(hab:U<=a+b):
  ∃ xt xu xh xl yt yu yh yl z1 e0 z2 e1 z3 e2 z4 e:Nat,FloatKind.f64.format.mul 4728779608772575232 x=some xt/\FloatKind.f64.format.sub xt x=some xu/\FloatKind.f64.format.sub xt xu=some xh/\FloatKind.f64.format.sub x xh=some xl /\
   FloatKind.f64.format.mul 4728779608772575232 y=some yt/\FloatKind.f64.format.sub yt y=some yu/\FloatKind.f64.format.sub yt yu=some yh/\FloatKind.f64.format.sub y yh=some yl /\
   FloatKind.f64.format.mul xh yh=some z1/\FloatKind.f64.format.sub z1 p=some e0/\FloatKind.f64.format.mul xh yl=some z2/\FloatKind.f64.format.add e0 z2=some e1 /\
   FloatKind.f64.format.mul xl yh=some z3/\FloatKind.f64.format.add e1 z3=some e2/\FloatKind.f64.format.mul xl yl=some z4/\FloatKind.f64.format.add e2 z4=some e /\
   ∃ N:Int,(m*2^a)*(n*2^b)=N*2^U/\Fl p (R N)/\Fl e (N - R N):=by
 obtain⟨s,hs⟩:∃ s,a+b=s+U:=⟨a+b - U,by omega⟩
 have scale:∀ A B:Int,(A*2^a)*(B*2^b)=A*B*2^s*2^U:=fun A B=>by
  rw [Int.mul_assoc (A*B),<- Int.pow_add,<- hs,Int.pow_add];ac_rfl
 obtain⟨xt,xu,xh,xl,q,l,x1,x2,x3,x4,fxh,fxl,em,hq,hl⟩:=quick_half (T:=T) (by omega) hU hx m1 m2 bx;obtain⟨yt,yu,yh,yl,q',l',y1,y2,y3,y4,fyh,fyl,en,hq',hl'⟩:=quick_half (T:=T) (by omega) hU hy n1 n2 by_;obtain⟨r1,r2,r3,r4,r5,r6,r7,r8,r9,-⟩:=missed_at m1 m2 n1 n2 em en hq hl hq' hl'
 have big:2^104<=(m*n).natAbs:=by
  rw [Int.natAbs_mul]
  exact Nat.le_trans (by decide:2^104<=2^52*2^52) (Nat.mul_le_mul m1 n1)
 -- p
 have ep:val (idx p)=R (m*n)*2^s:=by
  obtain⟨p',hp',hi⟩:=mul_fin hx.fin hy.fin
  obtain rfl:p'=p:=Option.some.inj (hp'.symm.trans hp)
  rw [hx.val,hy.val,<- hU,scale,near_scale] at hi;have h1:=idx_natAbs p';have hff:rungOf p'<M:=hf
  have h2:=near_fine (n:=m*n*2^s) (d:=0) (by
   rw [Int.natAbs_mul,Int.natAbs_pow]
   calc 2^(53+0)<=2^104*1:=by decide
    _<=_:=Nat.mul_le_mul big (Nat.two_pow_pos s)) (by rw [<- hi.idx];omega)
  rw [Int.pow_zero,Int.mul_one,R_shift] at h2;rw [hi.idx,h2]
 have fp:Fl p (R (m*n)*2^s):=⟨by
  obtain⟨p',hp',hi⟩:=mul_fin hx.fin hy.fin
  obtain rfl:p'=p:=Option.some.inj (hp'.symm.trans hp)
  exact hi.lt,hf,ep⟩
 rw [ep] at bp
 -- sizes: all parts are below 2^(T+6)
 have sz:∀ A:Int,A.natAbs<=2^110->(A*2^s).natAbs<=2^(T+6):=fun A hA=>by
  have h1:2^104<=(R (m*n)).natAbs:=R_ge big;rw [Int.natAbs_mul,Int.natAbs_pow] at bp ⊢;have h2:2^104*2^s<=2^T:=Nat.le_trans (Nat.mul_le_mul_right _ h1) bp
  have h3:s+104<=T:=by
   apply Nat.le_of_not_lt;intro hlt
   rw [<- Nat.pow_add] at h2;have:=(Nat.pow_le_pow_iff_right (by omega:1<2)).1 h2
   omega
  calc A.natAbs*2^s<=2^110*2^(T - 104):=Nat.mul_le_mul hA (Nat.pow_le_pow_right (by omega) (by omega))
   _<=2^(T+6):=by rw [<- Nat.pow_add];exact Nat.pow_le_pow_right (by omega) (by omega)
 have bd:∀ A B:Int,A.natAbs<=2^53->B.natAbs<=2^53->(A*B).natAbs<=2^106:=fun A B hA hB=>by
  rw [Int.natAbs_mul];exact Nat.le_trans (Nat.mul_le_mul hA hB) (by decide)
 have k1:=bd (2^27*q) (2^27*q') (by omega) (by omega);have k2:=bd (2^27*q) l' (by omega) (by omega);have k3:=bd l (2^27*q') (by omega) (by omega);have k4:=bd l l' (by omega) (by omega);have k5:(R (m*n)).natAbs<=2^106:=R_bound (bd m n (by omega) (by omega));obtain⟨z1,c1,f1⟩:=Fl.mul_at (Q:=T+6) (by omega) hU fxh fyh (scale _ _) (sz _ (by omega));rw [R_of_rep (r1.shift s)] at f1;obtain⟨e0,c2,f2⟩:=Fl.sub2 (Q:=T+6) (by omega) f1 fp (by rw [<- Int.sub_mul];exact sz _ (by omega));rw [<- Int.sub_mul,R_of_rep (r5.shift s)] at f2;obtain⟨z2,c3,f3⟩:=Fl.mul_at (Q:=T+6) (by omega) hU fxh fyl (scale _ _) (sz _ (by omega));rw [R_of_rep (r2.shift s)] at f3;obtain⟨e1,c4,f4⟩:=Fl.add2 (Q:=T+6) (by omega) f2 f3 (by rw [<- Int.add_mul];exact sz _ (by omega));rw [<- Int.add_mul,R_of_rep (r6.shift s)] at f4;obtain⟨z3,c5,f5⟩:=Fl.mul_at (Q:=T+6) (by omega) hU fxl fyh (scale _ _) (sz _ (by omega));rw [R_of_rep (r3.shift s)] at f5;obtain⟨e2,c6,f6⟩:=Fl.add2 (Q:=T+6) (by omega) f4 f5 (by rw [<- Int.add_mul];exact sz _ (by omega));rw [<- Int.add_mul,R_of_rep (r7.shift s)] at f6;obtain⟨z4,c7,f7⟩:=Fl.mul_at (Q:=T+6) (by omega) hU fxl fyl (scale _ _) (sz _ (by omega));rw [R_of_rep (r4.shift s)] at f7;obtain⟨e,c8,f8⟩:=Fl.add2 (Q:=T+6) (by omega) f6 f7 (by rw [<- Int.add_mul];exact sz _ (by omega));rw [<- Int.add_mul,r8,R_of_rep (r9.shift s)] at f8;refine⟨xt,xu,xh,xl,yt,yu,yh,yl,z1,e0,z2,e1,z3,e2,z4,e,x1,x2,x3,x4,y1,y2,y3,y4,c1,c2,c3,c4,c5,c6,c7,c8,m*n*2^s,scale _ _,?_,?_⟩
 ·rw [R_shift];exact fp
 ·rw [R_shift,<- Int.sub_mul];exact f8
theorem middle_form{x T L:Nat}(hT:T=1974)(hL:L=174)(hx:x<18446744073709551616)(h1:553942754166571008<=rungOf x)(h2:rungOf x<=8660422083433463808):
  ∃ (m:Int) (a:Nat),Fl x (m*2^a)/\2^52<=m.natAbs/\m.natAbs<2^53/\(m*2^a).natAbs<=2^T/\2^L<=(m*2^a).natAbs:=by
 have hM:M=9218868437227405312:=rfl;obtain⟨k,q,e,hk,hq⟩:=rung_form (rungOf x);have hf:=Fl_self hx (by omega)
 have hmag:mag (rungOf x)=q*2^k:=by rw [e];exact mag_form k q hk (by omega)
 have hlo:mag ((122+1)*2^52)<=mag (rungOf x):=mag_le_iff.2 (by omega);have hhi:=not_great (x:=x) (t:=1922) (T:=T) (by omega) (by omega);rw [mag_two_pow,<- Nat.pow_add,show 52+122=L from by omega] at hlo
 have hv:(val (idx x)).natAbs=q*2^k:=by rw [val_natAbs,idx_natAbs,hmag]
 have q0:2^52<=q:=by omega
 have lo:2^L<=q*2^k:=by rw [<- hmag];exact hlo
 rcases Int.lt_or_le (val (idx x)) 0 with hn | hn
 ·have ev:val (idx x)=(-(q:Int))*2^k:=by
   have:((q*2^k:Nat):Int)=(q:Int)*2^k:=by push_cast;rfl
   rw [Int.neg_mul];omega
  rw [ev] at hf hv hhi
  exact⟨-(q:Int),k,hf,by omega,by omega,hhi,by rw [hv];exact lo⟩
 ·have ev:val (idx x)=(q:Int)*2^k:=by
   have:((q*2^k:Nat):Int)=(q:Int)*2^k:=by push_cast;rfl
   omega
  rw [ev] at hf hv hhi
  exact⟨(q:Int),k,hf,by omega,by omega,hhi,by rw [hv];exact lo⟩
end
section
open Go.RowKit Ieee
theorem nud_n{d:Int}(hd:d=-1\/d=1){s e:Nat}{n:Int}(hs:Fl s (R n))(he:Fl e (n - R n)):nud d (idx s) (idx e)=rndI d ((n:Rat)*2^(-1074:Int)):=by
 have h0:=idx_natAbs s;have hf:rungOf s<M:=hs.fin
 have e1:idx e<0↔n<R n:=by
  have h:=@val_lt_iff (idx e) 0;rw [val_zero,he.val] at h
  omega
 have e2:0<idx e↔R n<n:=by
  have h:=@val_lt_iff 0 (idx e);rw [val_zero,he.val] at h
  omega
 rcases hd with rfl | rfl
 ·rw [near_down hs.val (by omega) (by omega)];unfold nud
  by_cases h:n<R n
  ·rw [if_pos h,if_pos ⟨rfl,e1.2 h⟩]
  ·rw [if_neg h,if_neg (fun h'=>h (e1.1 h'.2)),if_neg (by omega)]
 ·rw [near_up hs.val (by omega) (by omega)];unfold nud
  by_cases h:R n<n
  ·rw [if_pos h,if_neg (by omega),if_pos ⟨rfl,e2.2 h⟩]
  ·rw [if_neg h,if_neg (by omega),if_neg (fun h'=>h (e2.1 h'.2))]
theorem fl_mul_units{i j N:Int}{U:Nat}(hU:U=1074)(h:val i*val j=N*2^U):fl i*fl j=(N:Rat)*2^(-1074:Int):=by
 have h1:((val i:Int):Rat)*((val j:Int):Rat)=(N:Rat)*2^(U:Int):=by
  rw [<- Rat.intCast_mul,h,Rat.intCast_mul,Rat.intCast_pow,Rat.zpow_natCast];rfl
 have h2:(2:Rat)^(U:Int)*2^(-1074:Int)=1:=by
  rw [<- zpow_add,show (U:Int)+-1074=0 from by omega];rfl
 unfold fl
 have h3:(val i:Rat)*2^(-1074:Int)*((val j:Rat)*2^(-1074:Int))=((val i:Rat)*(val j:Rat))*2^(-1074:Int)*2^(-1074:Int):=by grind
 rw [h3,h1]
 have h4:(N:Rat)*2^(U:Int)*2^(-1074:Int)*2^(-1074:Int)=(N:Rat)*(2^(U:Int)*2^(-1074:Int))*2^(-1074:Int):=by grind
 rw [h4,h2,Rat.mul_one]
def mid(b:Nat):Bool:=decide (553942754166571008<rungOf b) && decide (rungOf b<8660422083433463808)
theorem mid_iff{b:Nat}:mid b=true↔553942754166571008<rungOf b/\rungOf b<8660422083433463808:=by unfold mid;simp
theorem prod_small{m n V:Int}{a b U g:Nat}(hV:V=m*2^a*(n*2^b))(m2:m.natAbs<2^53)(n2:n.natAbs<2^53)(hg:54<=g)(h:a+b<U):nearRung V.natAbs U<=(g+1)*2^52:=by
 refine nearRung_le ?_;rw [hV,Int.natAbs_mul,Int.natAbs_mul,Int.natAbs_mul,Int.natAbs_pow,Int.natAbs_pow,mag_two_pow,<- Nat.pow_add]
 have k1:m.natAbs*2^a*(n.natAbs*2^b)=m.natAbs*n.natAbs*2^(a+b):=by rw [Nat.pow_add];ac_rfl
 show m.natAbs*2^a*(n.natAbs*2^b)<=_
 rw [k1];have k2:m.natAbs*n.natAbs<=2^53*2^53:=Nat.mul_le_mul (Nat.le_of_lt m2) (Nat.le_of_lt n2);have k3:2^(a+b)<=2^U:=Nat.pow_le_pow_right (by omega) (by omega)
 have k4:2^53*2^53<=2^(52+g):=by rw [<- Nat.pow_add];exact Nat.pow_le_pow_right (by omega) (by omega)
 exact Nat.mul_le_mul (Nat.le_trans k2 k4) k3
theorem quick_prod{d:Int}(hd:d=-1\/d=1){x y p:Nat}(hx:x<18446744073709551616)(hy:y<18446744073709551616)(mx:mid x=true)(my:mid y=true)(hp:FloatKind.f64.format.mul x y=some p)(mp:mid p=true):
  ∃ xt xu xh xl yt yu yh yl z1 e0 z2 e1 z3 e2 z4 e:Nat,FloatKind.f64.format.mul 4728779608772575232 x=some xt/\FloatKind.f64.format.sub xt x=some xu/\FloatKind.f64.format.sub xt xu=some xh/\FloatKind.f64.format.sub x xh=some xl /\
   FloatKind.f64.format.mul 4728779608772575232 y=some yt/\FloatKind.f64.format.sub yt y=some yu/\FloatKind.f64.format.sub yt yu=some yh/\FloatKind.f64.format.sub y yh=some yl /\
   FloatKind.f64.format.mul xh yh=some z1/\FloatKind.f64.format.sub z1 p=some e0/\FloatKind.f64.format.mul xh yl=some z2/\FloatKind.f64.format.add e0 z2=some e1 /\
   FloatKind.f64.format.mul xl yh=some z3/\FloatKind.f64.format.add e1 z3=some e2/\FloatKind.f64.format.mul xl yl=some z4/\FloatKind.f64.format.add e2 z4=some e /\
   p<18446744073709551616/\rungOf p<M/\rungOf e<=M/\nud d (idx p) (idx e)=rndI d (fl (idx x)*fl (idx y)):=by
 have hM:M=9218868437227405312:=rfl
 obtain⟨T,hT⟩:∃ T:Nat,T=1974:=⟨_,rfl⟩
 obtain⟨L,hL⟩:∃ T:Nat,T=174:=⟨_,rfl⟩
 obtain⟨U,hU⟩:∃ T:Nat,T=1074:=⟨_,rfl⟩
 have mx':=mid_iff.1 mx;have my':=mid_iff.1 my;have mp':=mid_iff.1 mp
 have pM:rungOf p<M:=by omega
 obtain⟨m,a,fx,m1,m2,bx,-⟩:=middle_form hT hL hx (by omega) (by omega);obtain⟨n,b,fy,n1,n2,by_,-⟩:=middle_form hT hL hy (by omega) (by omega);obtain⟨r,hr,his⟩:=mul_fin (show fin x by unfold fin;omega) (show fin y by unfold fin;omega)
 have e0:p=r:=by
  have:some p=some r:=by rw [<- hp];exact hr
  cases this;rfl
 subst e0;rw [<- hU] at his;have hip:=his.idx
 have hv:val (idx x)*val (idx y)=m*2^a*(n*2^b):=by rw [fx.val,fy.val]
 have hab:U<=a+b:=by
  rcases Nat.lt_or_ge (a+b) U with h | h
  ·exfalso
   obtain⟨g,hg⟩:∃ g:Nat,g=122:=⟨_,rfl⟩
   have h2:=prod_small (V:=val (idx x)*val (idx y)) hv m2 n2 (show 54<=g by omega) h;have h3:=near_natAbs (val (idx x)*val (idx y)) U;rw [<- hip,idx_natAbs] at h3;have h4:=mp'.1;clear bx by_ fx fy m1 m2 n1 n2 hv hT hL hU his hip mx my mp mx' my'
   omega
  ·exact h
 have fp:Fl p (val (idx p)):=⟨his.lt,by unfold fin;omega,rfl⟩
 have bp:=not_great (x:=p) (t:=1922) (T:=T) (by omega) (by omega);obtain⟨xt,xu,xh,xl,yt,yu,yh,yl,z1,e0,z2,e1,z3,e2,z4,e,q1,q2,q3,q4,q5,q6,q7,q8,q9,q10,q11,q12,q13,q14,q15,q16,N,hN,fpN,fe⟩:=quick_mul hU hT fx m1 m2 bx fy n1 n2 by_ hp fp.fin bp hab;refine⟨xt,xu,xh,xl,yt,yu,yh,yl,z1,e0,z2,e1,z3,e2,z4,e,q1,q2,q3,q4,q5,q6,q7,q8,q9,q10,q11,q12,q13,q14,q15,q16,his.lt,pM,Nat.le_of_lt fe.fin,?_⟩;have e5:fl (idx x)*fl (idx y)=(N:Rat)*2^(-1074:Int):=fl_mul_units hU (hv.trans hN);rw [e5]
 exact nud_n hd fpN fe
theorem inf_write(s:Bool):double.write (.infinity s)=pat (if s then -(M:Int) else M):=by
 cases s
 ·have h:=inf_word (x:=9218868437227405312) (by omega) (by decide);rw [show sgn 9218868437227405312=false from by decide] at h;rw [h];exact pat_max.symm
 ·have h:=inf_word (x:=18442240474082181120) (by omega) (by decide);rw [show sgn 18442240474082181120=true from by decide] at h;rw [h];exact pat_min.symm
theorem digits_pos{b m k:Nat}(h:m*2^k=mag (rungOf b))(hb:rungOf b≠0):m≠0:=by
 rintro rfl;rw [Nat.zero_mul] at h;have:=mag_lt_iff.2 (show 0<rungOf b by omega);rw [mag_zero] at this
 omega
theorem mul_inf{x y:Nat}(hx:rungOf x<=M)(hy:rungOf y<=M)(h:rungOf x=M\/rungOf y=M)(nx:rungOf x≠0)(ny:rungOf y≠0):double.mul x y=some (pat (if (sgn x ^^ sgn y) then -(M:Int) else M)):=by
 unfold Format.mul
 by_cases h1:rungOf x=M
 ·rw [read_inf h1]
  by_cases h2:rungOf y=M
  ·rw [read_inf h2]
   simp only [Datum.product,Option.map_some]
   rw [inf_write]
  ·obtain⟨m,k,e,hm,-⟩:=read_fin (show fin y from by unfold fin;omega);rw [e]
   simp only [Datum.product]
   rw [if_neg (digits_pos hm ny)]
   simp only [Option.map_some]
   rw [inf_write]
 ·have h2:rungOf y=M:=by omega
  rw [read_inf h2];obtain⟨m,k,e,hm,-⟩:=read_fin (show fin x from by unfold fin;omega);rw [e]
  simp only [Datum.product]
  rw [if_neg (digits_pos hm nx)]
  simp only [Option.map_some]
  rw [inf_write,Bool.xor_comm]
end
section
open Go.RowKit
attribute [local go_sem] run_store_float run_frombits run_bitsof run_negf
def NewDy(w:World)(neg:Bool)(S:Nat)(x:Int)(e:Ending)(w':World):Prop:=
 ∃ A n c,e=.returned (.agg #[.bool neg,.slice A n c,.int .i64 x])/\U32s w' A n c (digs S)/\Below w.heap.size w w'
theorem part_walk(b e f S:Nat)(neg:Bool)(w:World)(hb:b<18446744073709551616)(he:b / 4503599627370496 % 2048=e)(hff:b % 4503599627370496=f)(hn:(b / 9223372036854775808 == 1)=neg)(hS:S=if e=0 then f else f+4503599627370496):
  Calls Tryz.prog 189 #[.float .f64 b] w (NewDy w neg S ((if e=0 then (e:Int) else (e:Int) - 1) - 1074)):=by
 have m1:=mask52_u64 hb;rw [hff] at m1
 have m2:bits .and .u64 ((b:Int) / 4503599627370496) 2047=(e:Int):=by
  have h:=mask11_u64 (x:=b / 4503599627370496) (by omega);rw [he,show ((b / 4503599627370496:Nat):Int)=(b:Int) / 4503599627370496 from by omega] at h
  exact h
 have m3:((b:Int) / 9223372036854775808 == 1)=neg:=by
  rw [<- hn,Bool.eq_iff_iff]
  simp only [beq_iff_eq]
  omega
 have ff:=fun W=>run_bitsof b W
 have hf2:f<4503599627370496:=by omega
 have he2:e<2048:=by omega
 have hor:=or_join' (i:=52) (x:=1) (y:=f) (by omega) (by omega) (by omega);rw [show ((1*2^52:Nat):Int)=4503599627370496 from rfl,show (f+1*2^52:Nat)=f+4503599627370496 from rfl] at hor;clear hff hn he
 by_cases h0:e=0
 ·subst h0;rw [if_pos rfl] at hS ⊢;subst hS;have HS:=Hd fun W=>nsmall_any S W (by omega);clear hor;obtain⟨LB0,LR⟩:=bx1 w #[.bool false,.slice none 0 0,.int .i64 0] 168;have LR0:=Hd (HasBlk.of (n:=3) LR.out rfl rfl);clear LR
  go_enter Tryz.func189,Tryz.ntmps189
  go_wp2_with fail;refine (HS.out _).mono ?_;rintro e w1 ⟨A,n,c,rfl,hu,hb1⟩;have LB1:=stB LB0 hb1 LB0.out.size;have LR1:=stR LR0 hb1;clear LB0 LR0;obtain⟨ha0,hf0,ha1,hf1,ha2,hf2⟩:=LR1.out.sf3;obtain⟨hk0,hk1,hk2⟩:=LR1.out.sc3 (.bool neg) (.slice A n c) (.int .i64 (-1074));have F:=Hd (below_sets (w0:=w) (r:=w.heap.size) (by omega) [.bool neg,.slice A n c,.int .i64 (-1074)] 0 _ LB1.out)
  simp [sets] at hk0 hk1 hk2
  have FU:=Hd (LR1.out.u32s hu [.bool neg,.slice A n c,.int .i64 (-1074)]);clear hu hb1 HS;go_wp2;refine bodyPost_ret (v:=.agg #[.bool neg,.slice A n c,.int .i64 (-1074)]) (by simp [results,Tryz.results189,go_sem,hk0,hk1,hk2]) rfl ?_
  exact⟨A,n,c,rfl,FU.out,F.out⟩
 ·rw [if_neg h0] at hS ⊢;subst hS;have HS:=Hd fun W=>nsmall_any (f+4503599627370496) W (by omega)
  obtain⟨S,hS⟩:∃ S,f+4503599627370496=S:=⟨_,rfl⟩
  rw [hS] at HS hor ⊢
  have hei:(0:Int)<(e:Int):=by omega
  clear h0 hS;obtain⟨LB0,LR⟩:=bx1 w #[.bool false,.slice none 0 0,.int .i64 0] 168;have LR0:=Hd (HasBlk.of (n:=3) LR.out rfl rfl);clear LR
  go_enter Tryz.func189,Tryz.ntmps189
  go_wp2_with fail;refine (HS.out _).mono ?_;rintro e w1 ⟨A,n,c,rfl,hu,hb1⟩;have LB1:=stB LB0 hb1 LB0.out.size;have LR1:=stR LR0 hb1;clear LB0 LR0;obtain⟨ha0,hf0,ha1,hf1,ha2,hf2⟩:=LR1.out.sf3;obtain⟨hk0,hk1,hk2⟩:=LR1.out.sc3 (.bool neg) (.slice A n c) (.int .i64 ((e:Int) - 1 - 1074));have F:=Hd (below_sets (w0:=w) (r:=w.heap.size) (by omega) [.bool neg,.slice A n c,.int .i64 ((e:Int) - 1 - 1074)] 0 _ LB1.out)
  simp [sets] at hk0 hk1 hk2
  have FU:=Hd (LR1.out.u32s hu [.bool neg,.slice A n c,.int .i64 ((e:Int) - 1 - 1074)]);clear hu hb1 HS;go_wp2;refine bodyPost_ret (v:=.agg #[.bool neg,.slice A n c,.int .i64 ((e:Int) - 1 - 1074)]) (by simp [results,Tryz.results189,go_sem,hk0,hk1,hk2]) rfl ?_
  exact⟨A,n,c,rfl,FU.out,F.out⟩
theorem part_any(b:Nat)(hb:b<18446744073709551616)(hf:fin b):∃ (S:Nat) (x:Int),S<9007199254740992/\-1074<=x/\x<=971/\fl (idx b)=rv (sgn b) S 1*2^x/\∀ w,Calls Tryz.prog 189 #[.float .f64 b] w (NewDy w (sgn b) S x):=by
 have hp:=fl_parts (b:=b) hf rfl rfl rfl
 have hn:(b / 9223372036854775808 == 1)=sgn b:=by
  unfold sgn;rw [Bool.eq_iff_iff]
  simp only [beq_iff_eq]
  omega
 refine⟨_,_,?_,?_,?_,?_,fun w=>part_walk b _ _ _ (sgn b) w hb rfl rfl hn rfl⟩
 ·split<;>omega
 ·split<;>omega
 ·split<;>omega
 ·by_cases h0:b / 4503599627370496 % 2048=0
  ·rw [if_pos h0,if_pos h0];exact hp.2.2.2 h0
  ·rw [if_neg h0,if_neg h0];exact hp.2.2.1 (by omega)
end
section
open Go.RowKit
attribute [local go_sem] run_store_float run_frombits run_bitsof run_negf
theorem sum_left(n1:Bool)(A1:Option Addr)(m1 c1 S1:Nat)(e1:Int)(n2:Bool)(A2:Option Addr)(m2 c2 S2:Nat)(e2:Int)(w:World)(h2:U32s w A2 m2 c2 (digs S2))(hm:m1=0):Calls Tryz.prog 201 #[.agg #[.bool n1,.slice A1 m1 c1,.int .i64 e1],.agg #[.bool n2,.slice A2 m2 c2,.int .i64 e2]] w (NewDy w n2 S2 e2):=by
 subst hm;have H2:=Hd h2;clear h2;obtain⟨LB0,LG0_0,LG1_0,LR⟩:=bx3 w #[.bool n1,.slice A1 0 c1,.int .i64 e1] 168 #[.bool n2,.slice A2 m2 c2,.int .i64 e2] 168 #[.bool false,.slice none 0 0,.int .i64 0] 168;have LR0:=Hd (HasBlk.of (n:=3) LR.out rfl rfl);clear LR;clear LB0 LG0_0 LG1_0 LR0
 go_enter Tryz.func201,Tryz.ntmps201
 go_wp2;refine bodyPost_ret (v:=.agg #[.bool n2,.slice A2 m2 c2,.int .i64 e2]) (by simp [results,Tryz.results201,go_sem]) rfl ?_
 exact have b:=(((below_alloc w _).alloc (by simp<;>omega) _).alloc (by simp<;>omega) _);⟨A2,m2,c2,rfl,H2.out.below b,b⟩
theorem sum_right(n1:Bool)(A1:Option Addr)(m1 c1 S1:Nat)(e1:Int)(n2:Bool)(A2:Option Addr)(m2 c2 S2:Nat)(e2:Int)(w:World)(h1:U32s w A1 m1 c1 (digs S1))(hm1:0<m1)(hm:m2=0):Calls Tryz.prog 201 #[.agg #[.bool n1,.slice A1 m1 c1,.int .i64 e1],.agg #[.bool n2,.slice A2 m2 c2,.int .i64 e2]] w (NewDy w n1 S1 e1):=by
 subst hm
 have hq1:((m1:Int) == 0)=false:=by simp;omega
 have H1:=Hd h1;clear h1 hm1;obtain⟨LB0,LG0_0,LG1_0,LR⟩:=bx3 w #[.bool n1,.slice A1 m1 c1,.int .i64 e1] 168 #[.bool n2,.slice A2 0 c2,.int .i64 e2] 168 #[.bool false,.slice none 0 0,.int .i64 0] 168;have LR0:=Hd (HasBlk.of (n:=3) LR.out rfl rfl);clear LR;clear LB0 LG0_0 LG1_0 LR0
 go_enter Tryz.func201,Tryz.ntmps201
 go_wp2;refine bodyPost_ret (v:=.agg #[.bool n1,.slice A1 m1 c1,.int .i64 e1]) (by simp [results,Tryz.results201,go_sem]) rfl ?_
 exact have b:=(((below_alloc w _).alloc (by simp<;>omega) _).alloc (by simp<;>omega) _);⟨A1,m1,c1,rfl,H1.out.below b,b⟩
theorem sum_two(sw:Bool)(n1:Bool)(A1:Option Addr)(m1 c1 S1:Nat)(e1:Int)(n2:Bool)(A2:Option Addr)(m2 c2 S2:Nat)(e2:Int)(k:Nat)(w:World)(h1:U32s w A1 m1 c1 (digs S1))(h2:U32s w A2 m2 c2 (digs S2))(hS1:0<S1)(hS2:0<S2)(hle:e1<=e2)(hsw:sw=true->e1<e2)(hk:e2=e1+k)(he1:-1000000<=e1/\e1<=1000000)(he2:-1000000<=e2/\e2<=1000000)(hb1:blen S1<=500000)(hb2:blen S2+k<=500000):
  Calls Tryz.prog 201 #[cond sw (.agg #[.bool n2,.slice A2 m2 c2,.int .i64 e2]) (.agg #[.bool n1,.slice A1 m1 c1,.int .i64 e1]),cond sw (.agg #[.bool n1,.slice A1 m1 c1,.int .i64 e1]) (.agg #[.bool n2,.slice A2 m2 c2,.int .i64 e2])] w (NewDy w (dsum n1 S1 n2 (S2*2^k)).1 (dsum n1 S1 n2 (S2*2^k)).2 e1):=by
 have hq1:((m1:Int) == 0)=false:=by
  have:=digs_len_pos hS1 h1.len
  simp;omega
 have hq2:((m2:Int) == 0)=false:=by
  have:=digs_len_pos hS2 h2.len
  simp;omega
 have hek:e2 - e1=(k:Int):=by omega
 have hbq:=blen_shl S2 k hS2
 obtain⟨T,hT⟩:∃ T,S2*2^k=T:=⟨_,rfl⟩
 have HSH:=Hd fun W (hW:Below w.heap.size w W)=>nshl_any A2 m2 c2 k (digs S2) W (h2.below hW) (wlen_digs_le (K:=16384) (by omega)) (by rw [num_digs];omega);rw [num_digs,hT] at HSH;rw [hT] at hbq ⊢;have HP:=Hd h1;have HBP:=Hd hb1;have HBT:=Hd (show blen T<=500000 by omega);have HADD:=Hd fun W (B:Option Addr) (mB cB:Nat) (hW:Below w.heap.size w W) (hB:U32s W B mB cB (digs T))=>nadd_any A1 B m1 c1 mB cB (digs S1) (digs T) W (h1.below hW) hB (wlen_digs_le (K:=16383) (by omega)) (wlen_digs_le (K:=16383) (by omega));have HCMP:=Hd fun W (B:Option Addr) (mB cB:Nat) (hW:Below w.heap.size w W) (hB:U32s W B mB cB (digs T))=>ncmp_any A1 B m1 c1 mB cB (digs S1) (digs T) W (h1.below hW) hB;have HSB1:=Hd fun (hle:T<=S1) W (B:Option Addr) (mB cB:Nat) (hW:Below w.heap.size w W) (hB:U32s W B mB cB (digs T))=>nsub_any A1 B m1 c1 mB cB (digs S1) (digs T) W (h1.below hW) hB (wlen_digs_le (K:=16384) (by omega)) (wlen_digs_le (K:=16384) (by omega)) (by rw [num_digs,num_digs];exact hle);have HSB2:=Hd fun (hle:S1<=T) W (B:Option Addr) (mB cB:Nat) (hW:Below w.heap.size w W) (hB:U32s W B mB cB (digs T))=>nsub_any B A1 mB cB m1 c1 (digs T) (digs S1) W hB (h1.below hW) (wlen_digs_le (K:=16384) (by omega)) (wlen_digs_le (K:=16384) (by omega)) (by rw [num_digs,num_digs];exact hle);rw [num_digs,num_digs] at HADD HCMP HSB1 HSB2
 have hee:e1 - e2<=2000000/\-2000000<=e1 - e2:=by omega
 have hef:e2 - e1<=2000000/\-2000000<=e2 - e1:=by omega
 obtain⟨ng,hng⟩:∃ b,(dsum n1 S1 n2 T).1=b:=⟨_,rfl⟩
 obtain⟨Sg,hsg⟩:∃ b,(dsum n1 S1 n2 T).2=b:=⟨_,rfl⟩
 rw [hng,hsg];have HDS:=Hd (show dsum n1 S1 n2 T=(ng,Sg) from by rw [<- hng,<- hsg]);clear hng hsg;clear h1 h2 hS1 hS2 hT hbq hb1 hb2 hk
 cases sw
 all_goals
  dsimp only [cond]
  first
  | (replace hsw:=hsw rfl
     clear hle;obtain⟨LB0,LG0_0,LG1_0,LR⟩:=bx3 w #[.bool n2,.slice A2 m2 c2,.int .i64 e2] 168 #[.bool n1,.slice A1 m1 c1,.int .i64 e1] 168 #[.bool false,.slice none 0 0,.int .i64 0] 168;have LR0:=Hd (HasBlk.of (n:=3) LR.out rfl rfl);clear LR
     go_enter Tryz.func201,Tryz.ntmps201
     obtain⟨q0_0,q0_1,q0_2⟩:=LG0_0.out.c3;obtain⟨q1_0,q1_1,q1_2⟩:=LG1_0.out.c3;have hf00:=LG0_0.out.frozen 0;have hf01:=LG0_0.out.frozen 1;have hf02:=LG0_0.out.frozen 2;have hf10:=LG1_0.out.frozen 0;have hf11:=LG1_0.out.frozen 1;have hf12:=LG1_0.out.frozen 2
     go_upto_region 7 with fail
     clear q0_0 q0_1 q0_2 q1_0 q1_1 q1_2 hf00 hf01 hf02 hf10 hf11 hf12;clear LB0 LR0 LG0_0 LG1_0;obtain⟨LB0,LG0_0,LG1_0,LR⟩:=bx3 w #[.bool n1,.slice A1 m1 c1,.int .i64 e1] 168 #[.bool n2,.slice A2 m2 c2,.int .i64 e2] 168 #[.bool false,.slice none 0 0,.int .i64 0] 168;have LR0:=Hd (HasBlk.of (n:=3) LR.out rfl rfl);clear LR;obtain⟨q0_0,q0_1,q0_2⟩:=LG0_0.out.c3
     obtain⟨q1_0,q1_1,q1_2⟩:=LG1_0.out.c3)
  | (clear hsw
     obtain⟨LB0,LG0_0,LG1_0,LR⟩:=bx3 w #[.bool n1,.slice A1 m1 c1,.int .i64 e1] 168 #[.bool n2,.slice A2 m2 c2,.int .i64 e2] 168 #[.bool false,.slice none 0 0,.int .i64 0] 168;have LR0:=Hd (HasBlk.of (n:=3) LR.out rfl rfl);clear LR
     go_enter Tryz.func201,Tryz.ntmps201
     obtain⟨q0_0,q0_1,q0_2⟩:=LG0_0.out.c3
     obtain⟨q1_0,q1_1,q1_2⟩:=LG1_0.out.c3)
  go_wp2_with fail;refine (HSH.out _ LB0.out).mono ?_;rintro e w2 ⟨A3,m3,c3,rfl,hu3,hbb2⟩;have LB1:=stB LB0 hbb2 LB0.out.size;have LR1:=stR LR0 hbb2;have LG0_1:=stG LG0_0 hbb2;have LG1_1:=stG LG1_0 hbb2;clear LB0 LR0 LG0_0 LG1_0;clear hbb2 q0_0 q0_1 q0_2 q1_0 q1_1 q1_2;obtain⟨q1_0,q1_1,q1_2⟩:=LG1_1.out.c3;have hf1:=LG1_1.out.frozen 1
  go_upto_region 8 with fail
  clear q1_0 q1_1 q1_2 hf1;have hu3s:=hu3.carry LG1_1.out rfl 1 (.slice A3 m3 c3);have LB2:=Hd (LB1.out.setCell (p:=⟨(w.heap.size+1),1,none⟩) (show w.heap.size<=(w.heap.size+1) by omega) (.slice A3 m3 c3));have LR2:=Hd (show HasBlk (w2.setCell ⟨(w.heap.size+1),1,none⟩ (.slice A3 m3 c3)) (w.heap.size+2) 168 3 from LR1.out.other (by omega) 1 [.slice A3 m3 c3]);have LG0_2:=Hd (show Blk (w2.setCell ⟨(w.heap.size+1),1,none⟩ (.slice A3 m3 c3)) w.heap.size 168 #[.bool n1,.slice A1 m1 c1,.int .i64 e1] from LG0_1.out.other (by omega) 1 [.slice A3 m3 c3]);have LG1_2:=Hd (LG1_1.out.set 1 (.slice A3 m3 c3));clear LB1 LR1 LG0_1 LG1_1
  obtain⟨V3,hV3⟩:∃ X,(w2.setCell ⟨(w.heap.size+1),1,none⟩ (.slice A3 m3 c3))=X:=⟨_,rfl⟩
  rw [hV3] at hu3s LB2 LR2 LG0_2 LG1_2 ⊢;have HU3:=Hd hu3s;clear hV3 hu3 hu3s HSH
  by_cases hs:n1=n2
  ·subst hs;have HN:=Hd (show ng=n1/\Sg=S1+T from by have h:=HDS.out;unfold dsum at h;rw [if_pos rfl] at h;cases h;exact⟨rfl,rfl⟩);clear HDS;obtain⟨q0_0,q0_1,q0_2⟩:=LG0_2.out.c3;obtain⟨q1_0,q1_1,q1_2⟩:=LG1_2.out.c3;go_wp2_with fail;refine (HADD.out _ _ _ _ LB2.out HU3.out).mono ?_;rintro e w4 ⟨A4,m4,c4,rfl,hu4,hbb4⟩;have LB3:=stB LB2 hbb4 LB2.out.size;have LR3:=stR LR2 hbb4;have LG0_3:=stG LG0_2 hbb4;have LG1_3:=stG LG1_2 hbb4;clear LB2 LR2 LG0_2 LG1_2;clear hbb4 q0_0 q0_1 q0_2 q1_0 q1_1 q1_2;obtain⟨q0_0,q0_1,q0_2⟩:=LG0_3.out.c3;have hf1:=LG0_3.out.frozen 1;have hu4s:=hu4.carry LG0_3.out rfl 1 (.slice A4 m4 c4)
   go_upto_region 10 with fail
   clear q0_0 q0_1 q0_2 hf1;have LB4:=Hd (LB3.out.setCell (p:=⟨w.heap.size,1,none⟩) (show w.heap.size<=w.heap.size by omega) (.slice A4 m4 c4));have LR4:=Hd (show HasBlk (w4.setCell ⟨w.heap.size,1,none⟩ (.slice A4 m4 c4)) (w.heap.size+2) 168 3 from LR3.out.other (by omega) 1 [.slice A4 m4 c4]);have LG0_4:=Hd (LG0_3.out.set 1 (.slice A4 m4 c4));have LG1_4:=Hd (show Blk (w4.setCell ⟨w.heap.size,1,none⟩ (.slice A4 m4 c4)) (w.heap.size+1) 168 #[.bool n1,.slice A3 m3 c3,.int .i64 e2] from LG1_3.out.other (by omega) 1 [.slice A4 m4 c4]);clear LB3 LR3 LG0_3 LG1_3
   obtain⟨V4,hV4⟩:∃ X,(w4.setCell ⟨w.heap.size,1,none⟩ (.slice A4 m4 c4))=X:=⟨_,rfl⟩
   rw [hV4] at hu4s LB4 LR4 LG0_4 LG1_4 ⊢;clear hV4 hu4;obtain⟨q0_0,q0_1,q0_2⟩:=LG0_4.out.c3;obtain⟨ha0,hf0,ha1,hf1,ha2,hf2⟩:=LR4.out.sf3;obtain⟨hk0,hk1,hk2⟩:=LR4.out.sc3 (.bool n1) (.slice A4 m4 c4) (.int .i64 e1);have F:=Hd (below_sets (w0:=w) (r:=(w.heap.size+2)) (by omega) [.bool n1,.slice A4 m4 c4,.int .i64 e1] 0 _ LB4.out)
   simp [sets] at hk0 hk1 hk2
   have FU:=Hd (LR4.out.u32s hu4s [.bool n1,.slice A4 m4 c4,.int .i64 e1]);clear hu4s;go_wp2;refine bodyPost_ret (v:=.agg #[.bool n1,.slice A4 m4 c4,.int .i64 e1]) (by simp [results,Tryz.results201,go_sem,hk0,hk1,hk2]) rfl ?_
   exact⟨A4,m4,c4,by rw [HN.out.1],by rw [HN.out.2];exact FU.out,F.out⟩
  ·have hs2:(n1 == n2)=false:=by simp [hs]
   obtain⟨q0_0,q0_1,q0_2⟩:=LG0_2.out.c3;obtain⟨q1_0,q1_1,q1_2⟩:=LG1_2.out.c3;go_wp2_with fail;refine (HCMP.out _ _ _ _ LB2.out HU3.out).mono ?_;rintro e w3 ⟨rfl,z,hz⟩
   have hbb3:Below V3.heap.size V3 w3:=by rw [hz];exact below_drewN (Below.refl _ _) z
   have LB3:=stB LB2 hbb3 LB2.out.size;have LR3:=stR LR2 hbb3;have LG0_3:=stG LG0_2 hbb3;have LG1_3:=stG LG1_2 hbb3;clear LB2 LR2 LG0_2 LG1_2;have HU3b:=Hd (HU3.out.below hbb3);clear hz hbb3 HU3 q0_0 q0_1 q0_2 q1_0 q1_1 q1_2
   by_cases hlt:S1<T
   ·have HN:=Hd (show ng=n2/\Sg=T - S1 from by have h:=HDS.out;unfold dsum at h;rw [if_neg hs,if_pos hlt] at h;cases h;exact⟨rfl,rfl⟩);rw [cmp3_lt hlt];clear HDS hs;obtain⟨q0_0,q0_1,q0_2⟩:=LG0_3.out.c3;obtain⟨q1_0,q1_1,q1_2⟩:=LG1_3.out.c3;have hf0:=LG0_3.out.frozen 0
    go_upto_region 13 with fail
    clear q0_0 q0_1 q0_2 q1_0 q1_1 q1_2 hf0;have hu5:=HU3b.out.carry LG0_3.out rfl 0 (.bool n2);have LB4:=Hd (LB3.out.setCell (p:=⟨w.heap.size,0,none⟩) (show w.heap.size<=w.heap.size by omega) (.bool n2));have LR4:=Hd (show HasBlk (w3.setCell ⟨w.heap.size,0,none⟩ (.bool n2)) (w.heap.size+2) 168 3 from LR3.out.other (by omega) 0 [.bool n2]);have LG0_4:=Hd (LG0_3.out.set 0 (.bool n2));have LG1_4:=Hd (show Blk (w3.setCell ⟨w.heap.size,0,none⟩ (.bool n2)) (w.heap.size+1) 168 #[.bool n2,.slice A3 m3 c3,.int .i64 e2] from LG1_3.out.other (by omega) 0 [.bool n2]);clear LB3 LR3 LG0_3 LG1_3
    obtain⟨V5,hV5⟩:∃ X,(w3.setCell ⟨w.heap.size,0,none⟩ (.bool n2))=X:=⟨_,rfl⟩
    rw [hV5] at hu5 LB4 LR4 LG0_4 LG1_4 ⊢;clear hV5;obtain⟨q0_0,q0_1,q0_2⟩:=LG0_4.out.c3;obtain⟨q1_0,q1_1,q1_2⟩:=LG1_4.out.c3;have hf01:=LG0_4.out.frozen 1;have hf11:=LG1_4.out.frozen 1
    go_upto_region 14 with fail
    clear q0_0 q0_1 q0_2 q1_0 q1_1 q1_2 hf01 hf11;have hu6:=hu5.carry LG0_4.out rfl 1 (.slice A3 m3 c3);have LB5:=Hd (LB4.out.setCell (p:=⟨w.heap.size,1,none⟩) (show w.heap.size<=w.heap.size by omega) (.slice A3 m3 c3));have LR5:=Hd (show HasBlk (V5.setCell ⟨w.heap.size,1,none⟩ (.slice A3 m3 c3)) (w.heap.size+2) 168 3 from LR4.out.other (by omega) 1 [.slice A3 m3 c3]);have LG0_5:=Hd (LG0_4.out.set 1 (.slice A3 m3 c3));have LG1_5:=Hd (show Blk (V5.setCell ⟨w.heap.size,1,none⟩ (.slice A3 m3 c3)) (w.heap.size+1) 168 #[.bool n2,.slice A3 m3 c3,.int .i64 e2] from LG1_4.out.other (by omega) 1 [.slice A3 m3 c3]);clear LB4 LR4 LG0_4 LG1_4
    obtain⟨V6,hV6⟩:∃ X,(V5.setCell ⟨w.heap.size,1,none⟩ (.slice A3 m3 c3))=X:=⟨_,rfl⟩
    rw [hV6] at hu6 LB5 LR5 LG0_5 LG1_5 ⊢;clear hV6;have hu7:=hu6.carry LG1_5.out rfl 1 (.slice A1 m1 c1);have LB6:=Hd (LB5.out.setCell (p:=⟨(w.heap.size+1),1,none⟩) (show w.heap.size<=(w.heap.size+1) by omega) (.slice A1 m1 c1));have LR6:=Hd (show HasBlk (V6.setCell ⟨(w.heap.size+1),1,none⟩ (.slice A1 m1 c1)) (w.heap.size+2) 168 3 from LR5.out.other (by omega) 1 [.slice A1 m1 c1]);have LG0_6:=Hd (show Blk (V6.setCell ⟨(w.heap.size+1),1,none⟩ (.slice A1 m1 c1)) w.heap.size 168 #[.bool n2,.slice A3 m3 c3,.int .i64 e1] from LG0_5.out.other (by omega) 1 [.slice A1 m1 c1]);have LG1_6:=Hd (LG1_5.out.set 1 (.slice A1 m1 c1));clear LB5 LR5 LG0_5 LG1_5
    obtain⟨V7,hV7⟩:∃ X,(V6.setCell ⟨(w.heap.size+1),1,none⟩ (.slice A1 m1 c1))=X:=⟨_,rfl⟩
    rw [hV7] at hu7 LB6 LR6 LG0_6 LG1_6 ⊢;clear hV7 hu5 hu6;have HU7:=Hd hu7;clear hu7;obtain⟨q0_0,q0_1,q0_2⟩:=LG0_6.out.c3;obtain⟨q1_0,q1_1,q1_2⟩:=LG1_6.out.c3;go_wp2_with fail;refine (HSB2.out (Nat.le_of_lt hlt) _ _ _ _ LB6.out HU7.out).mono ?_;rintro e w4 ⟨A4,m4,c4,rfl,hu4,hbb4⟩;have LB7:=stB LB6 hbb4 LB6.out.size;have LR7:=stR LR6 hbb4;have LG0_7:=stG LG0_6 hbb4;have LG1_7:=stG LG1_6 hbb4;clear LB6 LR6 LG0_6 LG1_6;clear hbb4 q0_0 q0_1 q0_2 q1_0 q1_1 q1_2;obtain⟨q0_0,q0_1,q0_2⟩:=LG0_7.out.c3;have hf1:=LG0_7.out.frozen 1;have hu4s:=hu4.carry LG0_7.out rfl 1 (.slice A4 m4 c4)
    go_upto_region 15 with fail
    clear q0_0 q0_1 q0_2 hf1;have LB8:=Hd (LB7.out.setCell (p:=⟨w.heap.size,1,none⟩) (show w.heap.size<=w.heap.size by omega) (.slice A4 m4 c4));have LR8:=Hd (show HasBlk (w4.setCell ⟨w.heap.size,1,none⟩ (.slice A4 m4 c4)) (w.heap.size+2) 168 3 from LR7.out.other (by omega) 1 [.slice A4 m4 c4]);have LG0_8:=Hd (LG0_7.out.set 1 (.slice A4 m4 c4));have LG1_8:=Hd (show Blk (w4.setCell ⟨w.heap.size,1,none⟩ (.slice A4 m4 c4)) (w.heap.size+1) 168 #[.bool n2,.slice A1 m1 c1,.int .i64 e2] from LG1_7.out.other (by omega) 1 [.slice A4 m4 c4]);clear LB7 LR7 LG0_7 LG1_7
    obtain⟨V4,hV4⟩:∃ X,(w4.setCell ⟨w.heap.size,1,none⟩ (.slice A4 m4 c4))=X:=⟨_,rfl⟩
    rw [hV4] at hu4s LB8 LR8 LG0_8 LG1_8 ⊢;clear hV4 hu4;obtain⟨q0_0,q0_1,q0_2⟩:=LG0_8.out.c3;obtain⟨ha0,hf0,ha1,hf1,ha2,hf2⟩:=LR8.out.sf3;obtain⟨hk0,hk1,hk2⟩:=LR8.out.sc3 (.bool n2) (.slice A4 m4 c4) (.int .i64 e1);have F:=Hd (below_sets (w0:=w) (r:=(w.heap.size+2)) (by omega) [.bool n2,.slice A4 m4 c4,.int .i64 e1] 0 _ LB8.out)
    simp [sets] at hk0 hk1 hk2
    have FU:=Hd (LR8.out.u32s hu4s [.bool n2,.slice A4 m4 c4,.int .i64 e1]);clear hu4s;go_wp2;refine bodyPost_ret (v:=.agg #[.bool n2,.slice A4 m4 c4,.int .i64 e1]) (by simp [results,Tryz.results201,go_sem,hk0,hk1,hk2]) rfl ?_
    exact⟨A4,m4,c4,by rw [HN.out.1],by rw [HN.out.2];exact FU.out,F.out⟩
   ·have HN:=Hd (show ng=n1/\Sg=S1 - T from by have h:=HDS.out;unfold dsum at h;rw [if_neg hs,if_neg hlt] at h;cases h;exact⟨rfl,rfl⟩);clear HDS hs;have hc3:¬ cmp3 S1 T<0:=fun h=>hlt (cmp3_neg.1 h)
    obtain⟨r,hr⟩:∃ r,cmp3 S1 T=r:=⟨_,rfl⟩
    rw [hr] at hc3 ⊢;clear hr;obtain⟨q0_0,q0_1,q0_2⟩:=LG0_3.out.c3;obtain⟨q1_0,q1_1,q1_2⟩:=LG1_3.out.c3;go_wp2_with fail;refine (HSB1.out (Nat.le_of_not_lt hlt) _ _ _ _ LB3.out HU3b.out).mono ?_;rintro e w4 ⟨A4,m4,c4,rfl,hu4,hbb4⟩;have LB4:=stB LB3 hbb4 LB3.out.size;have LR4:=stR LR3 hbb4;have LG0_4:=stG LG0_3 hbb4;have LG1_4:=stG LG1_3 hbb4;clear LB3 LR3 LG0_3 LG1_3;clear hbb4 q0_0 q0_1 q0_2 q1_0 q1_1 q1_2;obtain⟨q0_0,q0_1,q0_2⟩:=LG0_4.out.c3;have hf1:=LG0_4.out.frozen 1;have hu4s:=hu4.carry LG0_4.out rfl 1 (.slice A4 m4 c4)
    go_upto_region 15 with fail
    clear q0_0 q0_1 q0_2 hf1;have LB5:=Hd (LB4.out.setCell (p:=⟨w.heap.size,1,none⟩) (show w.heap.size<=w.heap.size by omega) (.slice A4 m4 c4));have LR5:=Hd (show HasBlk (w4.setCell ⟨w.heap.size,1,none⟩ (.slice A4 m4 c4)) (w.heap.size+2) 168 3 from LR4.out.other (by omega) 1 [.slice A4 m4 c4]);have LG0_5:=Hd (LG0_4.out.set 1 (.slice A4 m4 c4));have LG1_5:=Hd (show Blk (w4.setCell ⟨w.heap.size,1,none⟩ (.slice A4 m4 c4)) (w.heap.size+1) 168 #[.bool n2,.slice A3 m3 c3,.int .i64 e2] from LG1_4.out.other (by omega) 1 [.slice A4 m4 c4]);clear LB4 LR4 LG0_4 LG1_4
    obtain⟨V4,hV4⟩:∃ X,(w4.setCell ⟨w.heap.size,1,none⟩ (.slice A4 m4 c4))=X:=⟨_,rfl⟩
    rw [hV4] at hu4s LB5 LR5 LG0_5 LG1_5 ⊢;clear hV4 hu4;obtain⟨q0_0,q0_1,q0_2⟩:=LG0_5.out.c3;obtain⟨ha0,hf0,ha1,hf1,ha2,hf2⟩:=LR5.out.sf3;obtain⟨hk0,hk1,hk2⟩:=LR5.out.sc3 (.bool n1) (.slice A4 m4 c4) (.int .i64 e1);have F:=Hd (below_sets (w0:=w) (r:=(w.heap.size+2)) (by omega) [.bool n1,.slice A4 m4 c4,.int .i64 e1] 0 _ LB5.out)
    simp [sets] at hk0 hk1 hk2
    have FU:=Hd (LR5.out.u32s hu4s [.bool n1,.slice A4 m4 c4,.int .i64 e1]);clear hu4s;go_wp2;refine bodyPost_ret (v:=.agg #[.bool n1,.slice A4 m4 c4,.int .i64 e1]) (by simp [results,Tryz.results201,go_sem,hk0,hk1,hk2]) rfl ?_
    exact⟨A4,m4,c4,by rw [HN.out.1],by rw [HN.out.2];exact FU.out,F.out⟩
end
end Go.Proofs.YthlmlmfebpjgdaaGreatDoor
