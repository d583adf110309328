/-
Lemmas for the statement: DvP DvtT PowT PwnT PlcT.
-/
import Derived.Test.YthlmlmfebpjgdaaGreatDoorPMinusT
import Derived.Test.YthlmlmfebpjgdaaGreatDoorPDiv2T
import Derived.Test.YthlmlmfebpjgdaaGreatDoorPBothT
import Derived.Test.YthlmlmfebpjgdaaGreatDoorPRoot2T
import Derived.Deep.DeepCutAuto
import Derived.Test.YthlmlmfebpjgdaaGreatDoorPAbT
import Derived.Test.YthlmlmfebpjgdaaGreatDoorPAddT
import Derived.Test.YthlmlmfebpjgdaaGreatDoorM14
set_option linter.unusedSimpArgs false
set_option linter.unusedVariables false
set_option maxHeartbeats 12800000
namespace Go.Proofs.YthlmlmfebpjgdaaGreatDoor
section
open Go.RowKit
def dvA(i1 j2:Int):Int × Rat × Bool:=if 0<i1/\j2<M then (0,fl i1 / fl j2,false) else (0,0,true)
def dvB(j1 i2:Int):Int × Rat × Bool:=if j1<M/\0<i2 then (0,fl j1 / fl i2,false) else (1,0,true)
def FD(i1 j1 i2 j2:Int)(i j:Int):Int × Int:=
 if j1<=0\/j2<=0 then ((M:Int),-(M:Int)) else pf (dvA i1 j2).1 (dvA i1 j2).2.1 (dvA i1 j2).2.2 (dvB j1 i2).1 (dvB j1 i2).2.1 (dvB j1 i2).2.2 i j
def dvs(i1 j1 i2 j2:Int)(i j:Int):Int × Int:=
 if j1<=0\/j2<=0 then ((M:Int),-(M:Int)) else
  ctO true i j (if 0<i1 then ov (es i1) (ex i1) j2 else (0,0)).1 (if 0<i1 then ov (es i1) (ex i1) j2 else (0,0)).2 (if 0<i2 then ov (es j1) (ex j1) i2 else ((M:Int),(M:Int))).1 (if 0<i2 then ov (es j1) (ex j1) i2 else ((M:Int),(M:Int))).2
theorem dvA_kind{i1 j2:Int}(h2:0<j2):(dvA i1 j2).1=0/\((dvA i1 j2).2.1=0/\(dvA i1 j2).2.2=true\/0<(dvA i1 j2).2.1/\(dvA i1 j2).2.2=false/\0<i1/\j2<M/\(dvA i1 j2).2.1=fl i1 / fl j2):=by
 unfold dvA
 by_cases h:0<i1/\j2<M
 ·rw [if_pos h];exact⟨rfl,.inr ⟨div_pos' (fl_pos h.1) (fl_pos h2),rfl,h.1,h.2,rfl⟩⟩
 ·rw [if_neg h];exact⟨rfl,.inl ⟨rfl,rfl⟩⟩
theorem dvB_kind{j1 i2:Int}(h1:0<j1):((dvB j1 i2).1=1/\(dvB j1 i2).2.1=0/\(dvB j1 i2).2.2=true)\/((dvB j1 i2).1=0/\0<(dvB j1 i2).2.1/\(dvB j1 i2).2.2=false/\0<i2/\j1<M/\(dvB j1 i2).2.1=fl j1 / fl i2):=by
 unfold dvB
 by_cases h:j1<M/\0<i2
 ·rw [if_pos h];exact .inr ⟨rfl,div_pos' (fl_pos h1) (fl_pos h.2),rfl,h.2,h.1,rfl⟩
 ·rw [if_neg h];exact .inl ⟨rfl,rfl,rfl⟩
theorem dv_le{i1 j1 i2 j2:Int}(h1:i1<=j1)(h2:i2<=j2)(p1:0<j1)(p2:0<j2):dn (dvA i1 j2).1 (dvA i1 j2).2.1<=up (dvB j1 i2).1 (dvB j1 i2).2.1:=by
 have hM:=M_val;obtain⟨a0,a⟩:=dvA_kind (i1:=i1) p2
 rcases dvB_kind (i2:=i2) p1 with ⟨b0,-,-⟩ | ⟨b0,b1,b2,b3,b4,b5⟩
 ·have:=dn_lt (s:=(dvA i1 j2).1) (x:=(dvA i1 j2).2.1) (.inl a0);unfold up;rw [b0,if_neg (by omega)];omega
 ·rw [a0,b0,dn_zero,up_zero];refine Int.le_trans (rndI_le _) (rndI_mono (.inr rfl) ?_)
  rcases a with ⟨a1,-⟩ | ⟨a1,a2,a3,a4,a5⟩
  ·rw [a1];grind
  ·rw [a5,b5];have f1:=fl_pos p2;have f2:=fl_pos b3;refine div_le_div f1 f2 ?_;have e1:fl i1<=fl j1:=fl_le_iff.2 h1;have e2:fl i2<=fl j2:=fl_le_iff.2 h2;have m1:fl i1*fl i2<=fl j1*fl i2:=(mul_le_pos f2).2 e1;have m2:fl i2*fl j1<=fl j2*fl j1:=(mul_le_pos (fl_pos p1)).2 e2
   grind
theorem FD_iv{i1 j1 i2 j2:Int}(h1:i1<=j1)(h2:i2<=j2)(i j:Int)(hx:Iv i j):Iv (FD i1 j1 i2 j2 i j).1 (FD i1 j1 i2 j2 i j).2:=by
 unfold FD
 by_cases h:j1<=0\/j2<=0
 ·rw [if_pos h];exact Iv.none
 ·rw [if_neg h];refine pf_iv (.inl (dvA_kind (i1:=i1) (show 0<j2 by omega)).1) ?_ (dv_le h1 h2 (by omega) (by omega)) i j hx
  rcases dvB_kind (j1:=j1) (i2:=i2) (by omega) with k | k<;>omega
theorem dvs_FD{i1 j1 i2 j2 i j:Int}(h1:Ne i1 j1)(h2:Ne i2 j2)(hx:Ne i j):dvs i1 j1 i2 j2 i j=FD i1 j1 i2 j2 i j:=by
 have hM:=M_val;unfold Ne at *;unfold dvs FD
 by_cases h:j1<=0\/j2<=0
 ·rw [if_pos h,if_pos h]
 ·rw [if_neg h,if_neg h];have z1:=rndI_zero (d:=-1) (.inl rfl);have z2:=rndI_zero (d:=1) (.inr rfl)
  have eA:(if 0<i1 then ov (es i1) (ex i1) j2 else (0,0))=(dn (dvA i1 j2).1 (dvA i1 j2).2.1,up (dvA i1 j2).1 (dvA i1 j2).2.1):=by
   by_cases p:0<i1
   ·rw [if_pos p,es_mid (by omega) (by omega),ex_mid (by omega) (by omega)];unfold ov;rw [if_neg (by omega)]
    by_cases q:j2<M
    ·have d:dvA i1 j2=(0,fl i1 / fl j2,false):=if_pos ⟨p,q⟩;rw [d,if_neg (by have:=fl_pos p;rintro (h | h);grind;omega)];rfl
    ·have d:dvA i1 j2=(0,0,true):=if_neg (by omega);rw [d,if_pos (.inr (by omega)),dn_zero,up_zero,z1,z2]
   ·have d:dvA i1 j2=(0,0,true):=if_neg (by omega);rw [d,if_neg p,dn_zero,up_zero,z1,z2]
  have eB:(if 0<i2 then ov (es j1) (ex j1) i2 else ((M:Int),(M:Int)))=(dn (dvB j1 i2).1 (dvB j1 i2).2.1,up (dvB j1 i2).1 (dvB j1 i2).2.1):=by
   have u1:dn 1 0=M:=by unfold dn;rw [if_neg (by omega)];omega
   have u2:up 1 0=M:=by unfold up;rw [if_neg (by omega)];omega
   by_cases p:0<i2
   ·rw [if_pos p];unfold ov
    by_cases q:j1<M
    ·have d:dvB j1 i2=(0,fl j1 / fl i2,false):=if_pos ⟨q,p⟩;rw [d,es_mid (by omega) (by omega),ex_mid (by omega) (by omega),if_neg (by omega),if_neg (by have:=fl_pos (show 0<j1 by omega);rintro (h | h);grind;omega)];rfl
    ·have d:dvB j1 i2=(1,0,true):=if_neg (by omega)
     obtain rfl:j1=M:=by omega
     rw [d,es_max,if_pos (by omega),u1,u2,Int.one_mul]
   ·have d:dvB j1 i2=(1,0,true):=if_neg (by omega);rw [d,if_neg p,u1,u2]
  rw [eA,eB];obtain⟨a0,a⟩:=dvA_kind (i1:=i1) (show 0<j2 by omega);have b:=dvB_kind (j1:=j1) (i2:=i2) (by omega)
  obtain⟨⟨sa,xa,fa⟩,ea⟩:∃ z,dvA i1 j2=z:=⟨_,rfl⟩
  obtain⟨⟨sb,xb,fb⟩,eb⟩:∃ z,dvB j1 i2=z:=⟨_,rfl⟩
  rw [ea] at a0 a;rw [eb] at b;rw [ea,eb]
  dsimp only at *
  subst a0;refine ct_tail hx (.inl rfl) (by rcases b with b | b<;>omega) ?_ ?_ ?_ ?_
  ·intro h;rcases a with ⟨a1,-⟩ | ⟨-,a1,-⟩
   ·exact .inr ⟨rfl,a1⟩
   ·rw [a1] at h;cases h
  ·intro h;rcases b with ⟨b1,-,-⟩ | ⟨-,-,b1,-⟩
   ·exact .inl b1
   ·rw [b1] at h;cases h
  ·rw [dn_zero,up_zero]
   rcases a with ⟨a1,a2⟩ | ⟨a1,a2,-⟩
   ·rw [a1,a2,z1,z2];simp
   ·constructor
    ·rintro⟨-,-,h⟩;have:=rndI_pos a1;omega
    ·rintro⟨-,h,-⟩;exfalso;grind
  ·rcases b with ⟨b1,b2,b3⟩ | ⟨b1,b2,b3,-⟩
   ·rw [b1]
    constructor
    ·rintro⟨-,h,-⟩;unfold dn at h;rw [if_neg (by omega)] at h;omega
    ·rintro⟨h,-⟩;omega
   ·rw [b1,up_zero]
    constructor
    ·rintro⟨-,-,h⟩;have:=rndI_pos b2;omega
    ·rintro⟨-,h,-⟩;exfalso;grind
end
section
open Go.RowKit
theorem es3(i:Int):es i=0\/es i=1\/es i=-1:=by unfold es;split<;>(try split)<;>omega
theorem up10:up 1 0=M:=by
 have hM:=M_val;unfold up;rw [if_neg (by omega)];omega
theorem dn10:dn 1 0=M:=by
 have hM:=M_val;unfold dn;rw [if_neg (by omega)];omega
theorem up_10:up (-1) 0=-(M:Int):=by
 have hM:=M_val;unfold up;rw [if_neg (by omega)];omega
theorem dn_10:dn (-1) 0=-(M:Int):=by
 have hM:=M_val;unfold dn;rw [if_neg (by omega)];omega
theorem up00:up 0 0=0:=rndI_zero (.inr rfl)
theorem dn00:dn 0 0=0:=rndI_zero (.inl rfl)
theorem zc1{i j:Int}(hx:Ne i j):ctO true i j (-(M:Int)) (-(M:Int)) 0 0=pf (-1) 0 true 0 0 true i j:=by
 have hM:=M_val
 have h:=ct_tail (op:=true) (sa:=-1) (xa:=0) (fa:=true) (sb:=0) (xb:=0) (fb:=true) hx (.inr rfl) (.inl rfl) (fun _=>.inl rfl) (fun _=>.inr ⟨rfl,rfl⟩)
  ⟨fun h=>by have h1:=h.2.1;rw [dn_10] at h1;omega,fun h=>by have h1:=h.1;omega⟩ ⟨fun _=>⟨rfl,rfl,rfl⟩,fun _=>⟨rfl,dn00,up00⟩⟩
 rw [dn_10,up_10,dn00,up00] at h
 exact h
theorem zc2{i j:Int}(hx:Ne i j):ctO true i j 0 0 M M=pf 0 0 true 1 0 true i j:=by
 have hM:=M_val
 have h:=ct_tail (op:=true) (sa:=0) (xa:=0) (fa:=true) (sb:=1) (xb:=0) (fb:=true) hx (.inl rfl) (.inr rfl) (fun _=>.inr ⟨rfl,rfl⟩) (fun _=>.inl rfl)
  ⟨fun _=>⟨rfl,rfl,rfl⟩,fun _=>⟨rfl,dn00,up00⟩⟩ ⟨fun h=>by have h1:=h.2.1;rw [dn10] at h1;omega,fun h=>by have h1:=h.1;omega⟩
 rw [dn10,up10,dn00,up00] at h
 exact h
theorem zc1_iv(i j:Int)(h:Iv i j):Iv (pf (-1) 0 true 0 0 true i j).1 (pf (-1) 0 true 0 0 true i j).2:=by
 have hM:=M_val
 exact pf_iv (.inr rfl) (.inl rfl) (by rw [dn_10,up00];omega) i j h
theorem zc2_iv(i j:Int)(h:Iv i j):Iv (pf 0 0 true 1 0 true i j).1 (pf 0 0 true 1 0 true i j).2:=by
 have hM:=M_val
 exact pf_iv (.inl rfl) (.inr rfl) (by rw [dn00,up10];omega) i j h
theorem divisor_any(i1 j1 i2 j2 i j:Int)(w:World)(h1:Ne i1 j1)(h2:Ne i2 j2)(hx:Ne i j):
  Rt 89 #[.agg #[.float .f64 (pat i1),.float .f64 (pat j1)],.agg #[.float .f64 (pat i2),.float .f64 (pat j2)],.agg #[.float .f64 (pat i),.float .f64 (pat j)]] (.agg #[.float .f64 (pat (FD i1 j1 i2 j2 i j).1),.float .f64 (pat (FD i1 j1 i2 j2 i j).2)]) w:=by
 have hM:=M_val;rw [<- dvs_FD h1 h2 hx];have r1:=h1.iv.lo;have r2:=h1.iv.hi;have r3:=h2.iv.lo;have r4:=h2.iv.hi;unfold dvs
 by_cases h:j1<=0\/j2<=0
 ·rw [if_pos h,pat_max,pat_min];refine divisor_none _ _ _ _ _ _ (compare j1 0) (compare j2 0) w (ord0 r2) (ord0 r4) ?_
  rcases h with h | h
  ·exact .inl fun e=>by have:=Int.compare_eq_gt.1 e;omega
  ·exact .inr fun e=>by have:=Int.compare_eq_gt.1 e;omega
 ·rw [if_neg h];have o1:FloatKind.f64.format.order (pat j1) 0=some .gt:=ord0_gt r2 (by omega);have o2:FloatKind.f64.format.order (pat j2) 0=some .gt:=ord0_gt r4 (by omega)
  have le:∀ k:Int,-(M:Int)<=k/\k<=M->¬ 0<k->FloatKind.f64.format.order (pat k) 0=some .eq\/FloatKind.f64.format.order (pat k) 0=some .lt:=fun k hk hn=>by
   by_cases h0:k=0
   ·exact .inl (ord0_eq h0)
   ·exact .inr (ord0_lt hk (by omega))
  have P1:=fun W=>point_gen i1 W r1;have P2:=fun W=>point_gen j1 W r2;have V1:=fun W g B n k E he=>over_any (es i1) g B n k E (ex i1) j2 W he (by omega) r4.2;have V2:=fun (q:0<i2) W g B n k E he=>over_any (es j1) g B n k E (ex j1) i2 W he q r3.2;have g1:=ov_rng (x:=ex i1) (j:=j2) (es3 i1);have g2:=ov_rng (x:=ex j1) (j:=i2) (es3 j1)
  have z0:-(M:Int)<=0/\(0:Int)<=M:=by omega
  have zM:-(M:Int)<=M/\(M:Int)<=M:=by omega
  have hc:=fun (pd pu qd qu:Int) k1 k2 k3 k4 W=>rcut2_any true i j pd pu qd qu W hx.iv.lo hx.iv.hi k1 k2 k3 k4
  by_cases p:0<i1
  ·rw [if_pos p]
   by_cases q:0<i2
   ·rw [if_pos q]
    exact divisor_pq _ _ _ _ _ _ _ _ _ _ _ _ _ _ _ _ w o1 o2 (ord0_gt r1 p) (ord0_gt r3 q) P1 V1 P2 (V2 q) (hc _ _ _ _ g1.1 g1.2 g2.1 g2.2)
   ·rw [if_neg q];have hc:=hc _ _ _ _ g1.1 g1.2 zM zM;rw [pat_max] at hc
    exact divisor_pi _ _ _ _ _ _ _ _ _ _ _ _ w o1 o2 (ord0_gt r1 p) (le i2 r3 q) P1 V1 hc
  ·rw [if_neg p]
   by_cases q:0<i2
   ·rw [if_pos q];have hc:=hc _ _ _ _ z0 z0 g2.1 g2.2;rw [pat_zero] at hc
    exact divisor_zq _ _ _ _ _ _ _ _ _ _ _ _ w o1 o2 (le i1 r1 p) (ord0_gt r3 q) P2 (V2 q) hc
   ·rw [if_neg q];have hc:=hc _ _ _ _ z0 z0 zM zM;rw [pat_zero,pat_max] at hc
    exact divisor_zi _ _ _ _ _ _ _ _ w o1 o2 (le i1 r1 p) (le i2 r3 q) hc
def dr2(i1 j1 i2 j2 i j:Int):Int × Int:=
 if j1<i1\/j2<i2\/j<i then ((M:Int),-(M:Int))
 else if (i1<=0/\0<=j1)/\(i2<=0/\0<=j2) then (min (pf (-1) 0 true 0 0 true i j).1 (pf 0 0 true 1 0 true i j).1,max (pf (-1) 0 true 0 0 true i j).2 (pf 0 0 true 1 0 true i j).2)
 else (min (min (FD i1 j1 i2 j2 i j).1 (FD (-j1) (-i1) (-j2) (-i2) i j).1) (-(max (FD (-j1) (-i1) i2 j2 (-j) (-i)).2 (FD i1 j1 (-j2) (-i2) (-j) (-i)).2)),
  max (max (FD i1 j1 i2 j2 i j).2 (FD (-j1) (-i1) (-j2) (-i2) i j).2) (-(min (FD (-j1) (-i1) i2 j2 (-j) (-i)).1 (FD i1 j1 (-j2) (-i2) (-j) (-i)).1)))
theorem hull_iv{i j i' j':Int}(h:Iv i j)(h':Iv i' j'):Iv (min i i') (max j j'):=by
 have hM:=M_val;unfold Iv at *
 omega
theorem divrev2_any(b1 b2 c1 c2 x y:Nat)(w:World)(hb1:b1<18446744073709551616)(hb2:b2<18446744073709551616)(hc1:c1<18446744073709551616)(hc2:c2<18446744073709551616)(hx:x<18446744073709551616)(hy:y<18446744073709551616):
  Rt 27 #[.agg #[.float .f64 b1,.float .f64 b2],.agg #[.float .f64 c1,.float .f64 c2],.agg #[.float .f64 x,.float .f64 y]] (.agg #[.float .f64 (pat (dr2 (rd b1 b2).1 (rd b1 b2).2 (rd c1 c2).1 (rd c1 c2).2 (rd x y).1 (rd x y).2).1),.float .f64 (pat (dr2 (rd b1 b2).1 (rd b1 b2).2 (rd c1 c2).1 (rd c1 c2).2 (rd x y).1 (rd x y).2).2)]) w:=by
 have hM:=M_val;have v1:=rd_iv b1 b2;have v2:=rd_iv c1 c2;have v3:=rd_iv x y;have t1:=fun W=>readf b1 b2 W hb1 hb2;have t2:=fun W=>readf c1 c2 W hc1 hc2;have t3:=fun W=>readf x y W hx hy
 obtain⟨⟨i1,j1⟩,r1⟩:∃ z,rd b1 b2=z:=⟨_,rfl⟩
 obtain⟨⟨i2,j2⟩,r2⟩:∃ z,rd c1 c2=z:=⟨_,rfl⟩
 obtain⟨⟨i3,j3⟩,r3⟩:∃ z,rd x y=z:=⟨_,rfl⟩
 rw [r1] at v1 t1;rw [r2] at v2 t2;rw [r3] at v3 t3;rw [r1,r2,r3]
 dsimp only at *
 have m1:=em_idx v1;have m2:=em_idx v2;have m3:=em_idx v3;unfold dr2
 by_cases hno:j1<i1\/j2<i2\/j3<i3
 ·rw [if_pos hno,pat_max,pat_min]
  exact divrev2_none _ _ _ _ _ _ _ _ _ _ _ _ _ _ _ w t1 m1 t2 m2 t3 m3 (by simp;omega)
 ·rw [if_neg hno]
  have hnn:(decide (j1<i1) || decide (j2<i2) || decide (j3<i3))=false:=by simp;omega
  have n1:=ne_or v1 (by omega);have n2:=ne_or v2 (by omega);have n3:=ne_or v3 (by omega);have H1:=fun W=>has_any i1 j1 W v1.lo v1.hi;have H2:=fun W=>has_any i2 j2 W v2.lo v2.hi
  by_cases hz:(i1<=0/\0<=j1)/\(i2<=0/\0<=j2)
  ·rw [if_pos hz];rw [decide_eq_true hz.1] at H1;rw [decide_eq_true hz.2] at H2
   have z0:-(M:Int)<=0/\(0:Int)<=M:=by omega
   have zM:-(M:Int)<=M/\(M:Int)<=M:=by omega
   have zN:-(M:Int)<=-(M:Int)/\-(M:Int)<=M:=by omega
   have C1:=fun W=>rcut2_any true i3 j3 (-(M:Int)) (-(M:Int)) 0 0 W v3.lo v3.hi zN zN z0 z0;have C2:=fun W=>rcut2_any true i3 j3 0 0 M M W v3.lo v3.hi z0 z0 zM zM;rw [zc1 n3,pat_min,pat_zero] at C1;rw [zc2 n3,pat_max,pat_zero] at C2
   exact divrev2_zero _ _ _ _ _ _ _ _ _ _ _ _ _ _ _ _ _ _ _ _ _ w t1 m1 t2 m2 t3 m3 hnn H1 H2 C1 C2 (fun W=>hullf _ _ _ _ W (zc1_iv _ _ v3) (zc2_iv _ _ v3))
  ·rw [if_neg hz];have n1':=n1;have n2':=n2;unfold Ne at n1' n2';have f1:=FD_iv n1'.2.1 n2'.2.1 i3 j3 v3;have f2:=FD_iv (show -j1<=-i1 by omega) (show -j2<=-i2 by omega) i3 j3 v3;have f3:=FD_iv (show -j1<=-i1 by omega) n2'.2.1 (-j3) (-i3) v3.negg;have f4:=FD_iv n1'.2.1 (show -j2<=-i2 by omega) (-j3) (-i3) v3.negg
   refine divrev2_some _ _ _ _ _ _ _ _ _ _ _ _ _ _ _ _ _ _ _ _ _ _ _ _ _ _ _ _ _ _ _ _ _ _ _ _ _ _ _ w t1 m1 t2 m2 t3 m3 hnn H1 H2 ?_ (fun W=>mirror_idx i1 j1 W v1) (fun W=>mirror_idx i2 j2 W v2) (fun W=>mirror_idx i3 j3 W v3) (fun W=>divisor_any i1 j1 i2 j2 i3 j3 W n1 n2 n3) (fun W=>divisor_any (-j1) (-i1) (-j2) (-i2) i3 j3 W n1.neg n2.neg n3) (fun W=>divisor_any (-j1) (-i1) i2 j2 (-j3) (-i3) W n1.neg n2 n3.neg) (fun W=>divisor_any i1 j1 (-j2) (-i2) (-j3) (-i3) W n1 n2.neg n3.neg)
    (fun W=>hullf _ _ _ _ W f1 f2) (fun W=>hullf _ _ _ _ W f3 f4) (fun W=>mirror_idx _ _ W (hull_iv f3 f4)) (fun W=>hullf _ _ _ _ W (hull_iv f1 f2) (hull_iv f3 f4).negg)
   by_cases ha:i1<=0/\0<=j1
   ·exact .inr ⟨decide_eq_true ha,decide_eq_false fun h=>hz ⟨ha,h⟩⟩
   ·exact .inl (decide_eq_false ha)
def K1:Int:=4607182418800017408
theorem pat_K1:pat K1=4607182418800017408:=by decide
theorem K1_iv:Iv K1 K1:=by
 have hM:=M_val;unfold K1;exact .inl (by omega)
theorem rd_K1:rd 4607182418800017408 4607182418800017408=(K1,K1):=by
 have h:=rd_pat K1_iv;rw [pat_K1] at h
 exact h
theorem reciprev_any(c1 c2 x y:Nat)(w:World)(hc1:c1<18446744073709551616)(hc2:c2<18446744073709551616)(hx:x<18446744073709551616)(hy:y<18446744073709551616):
  Rt 28 #[.agg #[.float .f64 c1,.float .f64 c2],.agg #[.float .f64 x,.float .f64 y]] (.agg #[.float .f64 (pat (dr2 K1 K1 (rd c1 c2).1 (rd c1 c2).2 (rd x y).1 (rd x y).2).1),.float .f64 (pat (dr2 K1 K1 (rd c1 c2).1 (rd c1 c2).2 (rd x y).1 (rd x y).2).2)]) w:=by
 refine reciprev_walk c1 c2 x y _ _ w fun W=>?_;have h:=divrev2_any 4607182418800017408 4607182418800017408 c1 c2 x y W (by omega) (by omega) hc1 hc2 hx hy;rw [rd_K1] at h
 exact h
end
section
open Go.RowKit
theorem zpow_neg'(x:Int):(2:Rat) ^ (-x)=1 / (2:Rat) ^ x:=by
 have h:(2:Rat) ^ x*2 ^ (-x)=1:=by rw [<- zpow_add,show x+-x=0 from by omega];rfl
 have hp:=zpow_pos x;have h2:(1 / (2:Rat) ^ x)*2 ^ x=1:=Rat.div_mul_cancel (by grind)
 have h3:((2:Rat) ^ (-x) - 1 / (2:Rat) ^ x)*2 ^ x=0:=by grind
 rcases Rat.mul_eq_zero.1 h3 with k | k
 ·grind
 ·grind
theorem recip_pow{S s z m:Nat}{e:Int}(hs:S=s*2 ^ z)(hs0:0<s):rv false 1 (s ^ m)*2 ^ (-(e+(z:Int))*(m:Int))=1 / ((S:Rat)*2 ^ e) ^ m:=by
 have e1:(S:Rat)*2 ^ e=(s:Rat)*2 ^ (e+(z:Int)):=by
  rw [hs,Rat.natCast_mul,Int.add_comm,zpow_add,zpow_nat];grind
 have e2:rv false 1 (s ^ m)=1 / (s:Rat) ^ m:=by
  unfold rv
  simp only [Bool.false_eq_true,if_false]
  rw [Rat.natCast_pow];rfl
 rw [e1,rmul_pow,zpow_pow,e2,Int.neg_mul,zpow_neg',Int.mul_comm (e+(z:Int))]
 have a:((s:Rat) ^ m)≠0:=by
  have:(0:Rat)<(s:Rat) ^ m:=Rat.pow_pos (by exact_mod_cast hs0)
  grind
 have b:(2:Rat) ^ ((m:Int)*(e+(z:Int)))≠0:=by have:=zpow_pos ((m:Int)*(e+(z:Int)));grind
 generalize (s:Rat) ^ m=x at *;generalize (2:Rat) ^ ((m:Int)*(e+(z:Int)))=y at *
 grind
set_option maxRecDepth 8000 in
theorem rpower_walk(d:Int)(S m r:Nat)(e:Int)(A:Option Addr)(k c:Nat)(w:World)(hd:d=-1\/d=1)(hu:U32s w A k c (digs S))(hS:0<S)(hS2:S<9007199254740992)(he:-1074<=e/\e<=971)(hm:1<=m)(hm2:m<=1024)(hT:Tab w)
  (hr:pat (rndI d (1 / ((S:Rat)*2 ^ e) ^ m))=r):
  Rt 269 #[.int .i64 d,.agg #[.bool false,.slice A k c,.int .i64 e],.int .i64 (-(m:Int))] (.float .f64 r) w:=by
 have HU:=Hd hu;have HTB:=Hd hT;have HZ:=Hd fun W (h:U32s W A k c (digs S)) (t:Tab W)=>nzeros_any A k c S W h hS (by omega) t
 have HSR:=Hd fun z W (h:U32s W A k c (digs S)) (hz:z<=1073741824)=>by
  have g:=nshr_any A k c z _ W h (wlen_digs_le (K:=16384) (by have:blen S<=53:=blen_le_iff.2 (show S<2^53 from hS2);omega)) hz;rw [num_digs] at g
  exact g
 have HRA:=Hd fun z s (hs:S=s*2 ^ z) (hz:z<64) W A1 k1 c1 A2 k2 c2 (h1:U32s W A1 k1 c1 (digs 1)) (h2:U32s W A2 k2 c2 (digs (s ^ m)))=>by
  have hs0:0<s:=by
   rcases Nat.eq_zero_or_pos s with h | h
   ·rw [h,Nat.zero_mul] at hs;omega
   ·exact h
  have hsl:s<=S:=by rw [hs];exact Nat.le_mul_of_pos_right _ (Nat.two_pow_pos z)
  have hb:blen (s ^ m)<=54272:=by
   obtain⟨B,hB⟩:∃ B:Nat,B=54272:=⟨_,rfl⟩
   rw [<- hB];refine blen_le_iff.2 ?_
   have h53:s<2^53:=by rw [show (2:Nat)^53=9007199254740992 by decide];omega
   refine Nat.lt_of_lt_of_le (Nat.pow_lt_pow_left h53 (by omega)) ?_;rw [<- Nat.pow_mul]
   exact Nat.pow_le_pow_right (by omega) (by omega)
  have hq:-1099511627776<=-(e+(z:Int))*(m:Int)/\-(e+(z:Int))*(m:Int)<=1099511627776:=by
   have a:-2000*(m:Int)<=-(e+(z:Int))*(m:Int):=Int.mul_le_mul_of_nonneg_right (by omega) (by omega);have b:-(e+(z:Int))*(m:Int)<=2000*(m:Int):=Int.mul_le_mul_of_nonneg_right (by omega) (by omega)
   omega
  have g:=ratio_any d false A1 A2 k1 c1 k2 c2 1 (s ^ m) (-(e+(z:Int))*(m:Int)) W h1 h2 (Nat.pow_pos hs0) (by have:blen 1<=2:=blen_le_iff.2 (by decide);omega) (by omega) hd hq.1 hq.2;unfold RtOf at g;rw [recip_pow hs hs0,hr] at g
  exact g
 have HP:=Hd fun z s (hs:S=s*2 ^ z) W A1 k1 c1 (h1:U32s W A1 k1 c1 (digs s))=>by
  have hsl:s<=S:=by rw [hs];exact Nat.le_mul_of_pos_right _ (Nat.two_pow_pos z)
  have hb:blen s<=53:=blen_le_iff.2 (by rw [show (2:Nat)^53=9007199254740992 by decide];omega)
  exact pow_d (w:=W) m h1 (by omega) (by omega) (by
   have:=Nat.mul_le_mul hb hm2
   omega)
 have hmn:-(m:Int)<0:=by omega
 clear hu hT hr hd hS hS2;have LL:=li1 w #[.bool false,.slice A k c,.int .i64 e] 168;have HU0:=Hd (HU.out.below LL.out.b);have HT0:=Hd (HTB.out.below LL.out.b);clear HU HTB
 go_enter Tryz.func269,Tryz.ntmps269
 obtain⟨q1_0,q1_1,q1_2⟩:=(LL.out.blk 0 rfl).c3;go_wp2_with fail;refine (HZ.out _ HU0.out HT0.out).mono ?_;rintro e1 w1 ⟨⟨z,rfl,hz,hdv⟩,rfl⟩
 obtain⟨s,hs⟩:∃ s,S=s*2 ^ z:=by obtain⟨q,hq⟩:=hdv;exact⟨q,by rw [hq,Nat.mul_comm]⟩
 have hsd:S / 2 ^ z=s:=by rw [hs,Nat.mul_div_cancel _ (Nat.two_pow_pos z)]
 have HSS:=Hd hs;have HSD:=Hd hsd;clear HZ hdv hs hsd q1_0 q1_1 q1_2
 obtain⟨wa,hwa⟩:∃ X,(w.alloc (.cells #[.bool false,.slice A k c,.int .i64 e] 168))=X:=⟨_,rfl⟩
 rw [hwa] at HU0 HT0 LL ⊢;clear hwa;obtain⟨q2_0,q2_1,q2_2⟩:=(LL.out.blk 0 rfl).c3;have HS1:=Hd (HSR.out z _ HU0.out (by omega));rw [HSD.out] at HS1;go_wp2_with fail;refine HS1.out.mono ?_;rintro e1 w2 ⟨A2,n2,c2,rfl,hu2,hb2⟩;have HU2:=Hd hu2;replace LL:=stL LL hb2;replace HT0:=Hd (HT0.out.below hb2);clear hu2 hb2 HS1 HSR HU0 HSD q2_0 q2_1 q2_2;obtain⟨q3_0,q3_1,q3_2⟩:=(LL.out.blk 0 rfl).c3
 have f1:IntKind.i64.wrap (e+(z:Int))=e+(z:Int):=by rw [IntKind.wrap_i64];omega
 have HP2:=Hd (HP.out z s HSS.out _ A2 n2 c2 HU2.out);go_wp2_with fail;refine HP2.out.mono ?_;rintro e1 w3 ⟨A3,n3,c3,rfl,hu3,hb3⟩;have HU3:=Hd hu3;replace LL:=stL LL hb3;clear hu3 hb3 HP2 HP HU2 HT0 q3_0 q3_1 q3_2;obtain⟨q4_0,q4_1,q4_2⟩:=(LL.out.blk 0 rfl).c3;have HR:=Hd (HRA.out z s HSS.out hz);clear HRA HSS
 obtain⟨E,hE⟩:∃ E,e+(z:Int)=E:=⟨_,rfl⟩
 have hEb:-1074<=E/\E<=1034:=by omega
 obtain⟨Q,hQ⟩:∃ Q,-E*(m:Int)=Q:=⟨_,rfl⟩
 have hQ2:IntKind.i64.wrap (-E*(m:Int))=Q:=by
  have a:-2000*(m:Int)<=-E*(m:Int):=Int.mul_le_mul_of_nonneg_right (by omega) (by omega);have b:-E*(m:Int)<=2000*(m:Int):=Int.mul_le_mul_of_nonneg_right (by omega) (by omega);rw [IntKind.wrap_i64,<- hQ];omega
 have hQ3:wrap64 (-E*(m:Int))=Q:=by
  have a:-2000*(m:Int)<=-E*(m:Int):=Int.mul_le_mul_of_nonneg_right (by omega) (by omega);have b:-E*(m:Int)<=2000*(m:Int):=Int.mul_le_mul_of_nonneg_right (by omega) (by omega);unfold wrap64;omega
 rw [hE] at HR f1 ⊢;rw [hQ] at HR;have hQ4:=hQ;clear hE
 have hQ5:wrap64 Q=Q:=by
  have a:-2000*(m:Int)<=-E*(m:Int):=Int.mul_le_mul_of_nonneg_right (by omega) (by omega);have b:-E*(m:Int)<=2000*(m:Int):=Int.mul_le_mul_of_nonneg_right (by omega) (by omega);unfold wrap64;omega
 have HD1:=Hd (show U32s (w3.alloc (.cells #[.int .u32 1] 117)) (some ⟨w3.heap.size,0,none⟩) 1 1 (digs 1) from by rw [digs_one];exact U32s.lit1 w3 117 (a:=1) (by omega));have HQ:=Hd (HR.out (w3.alloc (.cells #[.int .u32 1] 117)) _ 1 1 A3 n3 c3 HD1.out (HU3.out.alloc _));clear HR HD1;go_wp2_with fail;rw [hQ5];refine HQ.out.mono ?_;rintro e1 w4 ⟨rfl,hb4⟩;have LB:=Hd (LL.out.b.trans ((below_alloc w3 (.cells #[.int .u32 1] 117)).trans (hb4.mono (by simp)) |>.mono LL.out.b.size));clear hb4 HQ LL HU3 hQ hQ2 hQ3 hQ4 hQ5 f1;go_wp2
 go_ret
 exact⟨rfl,LB.out⟩
theorem isinfm(b:Nat)(w:World)(hb:b<18446744073709551616)(hr:rungOf b<=M)(hn:-(M:Int)<idx b):Calls Tryz.prog 161 #[.float .f64 b,.int .i64 (-1)] w fun e w'=>e=.returned (.bool false)/\w=w':=by
 have hM:M=9218868437227405312:=rfl;have nv:=negFloat_val hb
 have nr:rungOf (Op.negFloat .f64 b)<=M:=by rw [nv.2.1];exact hr
 have ho:FloatKind.f64.format.order (Op.negFloat .f64 b) 9218868437227405311=some .lt\/FloatKind.f64.format.order (Op.negFloat .f64 b) 9218868437227405311=some .eq:=by
  by_cases h2:idx b=-(M - 1:Nat)
  ·exact .inr (ord_eq nr real_top (by rw [idx_top,nv.2.2];omega))
  ·exact .inl (ord_lt nr real_top (by rw [idx_top,nv.2.2];omega))
 obtain⟨nb,hnb⟩:∃ x,Op.negFloat .f64 b=x:=⟨_,rfl⟩
 have hneg:=fun W=>run_negf Tryz.prog b W;rw [hnb] at ho hneg;clear nv nr hr hn hM hnb hb
 rcases ho with ho | ho
 all_goals
  go_enter Tryz.func161,Tryz.ntmps161
  go_wp2
  go_ret
  exact⟨rfl,rfl⟩
theorem rpow_walk(d:Int)(x m z S:Nat)(e:Int)(w:World)(hm:1<=m)(hm2:m<=1024)(hN:∀ W,Calls Tryz.prog 221 #[.float .f64 x] W fun e w'=>e=.returned (.bool false)/\W=w')(hF:∀ W,Calls Tryz.prog 161 #[.float .f64 x,.int .i64 0] W fun e w'=>e=.returned (.bool false)/\W=w')
  (hG:∀ W,Calls Tryz.prog 161 #[.float .f64 x,.int .i64 (-1)] W fun e w'=>e=.returned (.bool false)/\W=w')
  (ho:FloatKind.f64.format.order x 0=some .gt)(hP:∀ W,Calls Tryz.prog 189 #[.float .f64 x] W (NewDy W false S e))(hR:∀ A k c W,Below w.heap.size w W->U32s W A k c (digs S)->Calls Tryz.prog 269 #[.int .i64 d,.agg #[.bool false,.slice A k c,.int .i64 e],.int .i64 (-(m:Int))] W fun e' w'=>e'=.returned (.float .f64 z)/\Below W.heap.size W w'):
  Rt 248 #[.int .i64 d,.float .f64 x,.int .i64 (-(m:Int))] (.float .f64 z) w:=by
 have HN:=Hd hN;have HF:=Hd hF;have HG:=Hd hG;have HP:=Hd hP;have HR:=Hd hR
 have h1:¬ -(m:Int) < -1024:=by omega
 have h2:¬ (1024:Int) < -(m:Int):=by omega
 have h3:(-(m:Int) == 0)=false:=by simp;omega
 have h4:-(m:Int)<0:=by omega
 clear hN hF hG hP hR
 go_enter Tryz.func248,Tryz.ntmps248
 go_wp2_with fail;refine (HN.out _).mono ?_;rintro e w' ⟨rfl,rfl⟩;go_wp2_with fail;refine (HF.out _).mono ?_;rintro e w' ⟨rfl,rfl⟩;go_wp2_with fail;refine (HG.out _).mono ?_;rintro e w' ⟨rfl,rfl⟩;go_wp2_with fail;refine (HF.out _).mono ?_;rintro e w' ⟨rfl,rfl⟩;go_wp2_with fail;refine (HP.out _).mono ?_;rintro e' w1 ⟨A,k,c,rfl,hu,hb⟩;have HRR:=Hd (HR.out A k c w1 hb hu);have HB:=Hd hb;clear hu hb HR HP;go_wp2_with fail;refine HRR.out.mono ?_;rintro e' w2 ⟨rfl,hb2⟩;have HB2:=Hd (HB.out.trans (hb2.mono HB.out.size));clear hb2 HB HRR;go_wp2
 go_ret
 exact⟨rfl,HB2.out⟩
theorem rpow_neg(d i:Int)(m:Nat)(w:World)(hd:d=-1\/d=1)(h0:0<i)(h1:i<M)(hm:1<=m)(hm2:m<=1024)(hT:Tab w):
  Rt 248 #[.int .i64 d,.float .f64 (pat i),.int .i64 (-(m:Int))] (.float .f64 (pat (rndI d (1 / fl i ^ m)))) w:=by
 have hM:=M_val
 have hi:-(M:Int)<=i/\i<=M:=by omega
 obtain⟨S,e,b1,b2,b3,hv,hpt⟩:=part_any (pat i) (pat_lt hi.1 hi.2) (by unfold fin;rw [rung_pat hi.1 hi.2];omega);rw [idx_pat hi.1 hi.2,sgn_pat2 hi (by omega),decide_eq_false (by omega)] at hv;rw [sgn_pat2 hi (by omega),decide_eq_false (by omega)] at hpt
 have hf:fl i=(S:Rat)*2 ^ e:=by rw [hv];unfold rv;simp only [Bool.false_eq_true,if_false];grind
 have hS:0<S:=by
  rcases Nat.eq_zero_or_pos S with h | h
  ·exfalso
   have hz:fl i=0:=by rw [hf,h];grind
   have:=fl_lt_iff.2 h0;rw [fl_zero] at this;grind
  ·exact h
 have HF:=fun W=>isinff (pat i) W (pat_lt hi.1 hi.2) (by rw [rung_pat hi.1 hi.2];omega);rw [rung_pat hi.1 hi.2,decide_eq_false (show ¬ i.natAbs=M by omega)] at HF;have ho:=ord0 hi;rw [Int.compare_eq_gt.2 h0] at ho
 exact rpow_walk d (pat i) m _ S e w hm hm2 (fun W=>isnanf (pat i) W (by rw [rung_pat hi.1 hi.2];omega)) HF (fun W=>isinfm (pat i) W (pat_lt hi.1 hi.2) (by rw [rung_pat hi.1 hi.2];omega) (by rw [idx_pat hi.1 hi.2];omega)) ho hpt
  (fun A k c W hb hu=>rpower_walk d S m _ e A k c W hd hu hS b1 ⟨b2,b3⟩ hm hm2 (hT.below hb) (by rw [hf]))
end
section
open Go.RowKit
attribute [local go_sem] run_store_float run_negf
set_option maxRecDepth 8000 in
theorem pownz_lo(z:Int)(b1 b2 c1 c2 r1 r2:Nat)(w:World)(hz:z < -1024)(hR:∀ W,Rt 102 #[.agg #[.float .f64 c1,.float .f64 c2]] (.agg #[.float .f64 r1,.float .f64 r2]) W):
  Rt 39 #[.int .i64 z,.agg #[.float .f64 b1,.float .f64 b2],.agg #[.float .f64 c1,.float .f64 c2]] (.agg #[.float .f64 r1,.float .f64 r2]) w:=by
 have HR:=Hd hR;clear hR;have LL:=li3 w #[.float .f64 b1,.float .f64 b2] 28 #[.float .f64 c1,.float .f64 c2] 28 #[.float .f64 0,.float .f64 0] 28
 go_enter Tryz.func39,Tryz.ntmps39
 obtain⟨q1_0,q1_1⟩:=(LL.out.blk 1 rfl).c2;go_wp2_with fail;refine cx (HR.out _) fun wk hb=>?_;replace LL:=stL LL hb;clear hb q1_0 q1_1;replace LL:=Hd (LL.out.loose2 rfl);obtain⟨ha6_0,hf6_0,ha6_1,hf6_1⟩:=(LL.out.has 0 rfl).sf2;have LF:=Hd (LL.out.write [.float .f64 r1,.float .f64 r2] rfl (by omega) (by simp<;>omega) (by simp<;>omega));obtain⟨hk6_0,hk6_1⟩:=(LF.out.blk 2 rfl).c2
 simp [sets] at hk6_0 hk6_1
 clear LL;go_wp2;refine bodyPost_ret (v:=.agg #[.float .f64 r1,.float .f64 r2]) (by simp [results,Tryz.results39,go_sem,hk6_0,hk6_1]) rfl ?_
 exact⟨rfl,LF.out.b⟩
set_option maxRecDepth 8000 in
theorem pownz_hi(z:Int)(b1 b2 c1 c2 r1 r2:Nat)(w:World)(hz:1024<z)(hR:∀ W,Rt 102 #[.agg #[.float .f64 c1,.float .f64 c2]] (.agg #[.float .f64 r1,.float .f64 r2]) W):
  Rt 39 #[.int .i64 z,.agg #[.float .f64 b1,.float .f64 b2],.agg #[.float .f64 c1,.float .f64 c2]] (.agg #[.float .f64 r1,.float .f64 r2]) w:=by
 have hz2:¬ z < -1024:=by omega
 have HR:=Hd hR;clear hR;have LL:=li3 w #[.float .f64 b1,.float .f64 b2] 28 #[.float .f64 c1,.float .f64 c2] 28 #[.float .f64 0,.float .f64 0] 28
 go_enter Tryz.func39,Tryz.ntmps39
 obtain⟨q1_0,q1_1⟩:=(LL.out.blk 1 rfl).c2;go_wp2_with fail;refine cx (HR.out _) fun wk hb=>?_;replace LL:=stL LL hb;clear hb q1_0 q1_1;replace LL:=Hd (LL.out.loose2 rfl);obtain⟨ha6_0,hf6_0,ha6_1,hf6_1⟩:=(LL.out.has 0 rfl).sf2;have LF:=Hd (LL.out.write [.float .f64 r1,.float .f64 r2] rfl (by omega) (by simp<;>omega) (by simp<;>omega));obtain⟨hk6_0,hk6_1⟩:=(LF.out.blk 2 rfl).c2
 simp [sets] at hk6_0 hk6_1
 clear LL;go_wp2;refine bodyPost_ret (v:=.agg #[.float .f64 r1,.float .f64 r2]) (by simp [results,Tryz.results39,go_sem,hk6_0,hk6_1]) rfl ?_
 exact⟨rfl,LF.out.b⟩
set_option maxRecDepth 8000 in
theorem pownz_none(z:Int)(b1 b2 c1 c2 A1 A2 x1 x2:Nat)(d1 d2:Bool)(w:World)(t1:∀ W,Rt 102 #[.agg #[.float .f64 b1,.float .f64 b2]] (.agg #[.float .f64 A1,.float .f64 A2]) W)(m1:Em d1 A1 A2)(t2:∀ W,Rt 102 #[.agg #[.float .f64 c1,.float .f64 c2]] (.agg #[.float .f64 x1,.float .f64 x2]) W)(m2:Em d2 x1 x2)(h1:¬ z < -1024)(h2:¬ 1024<z)(hnn:(d1 || d2)=true):
  Rt 39 #[.int .i64 z,.agg #[.float .f64 b1,.float .f64 b2],.agg #[.float .f64 c1,.float .f64 c2]] (.agg #[.float .f64 9218868437227405312,.float .f64 18442240474082181120]) w:=by
 have HE:=Hd emptyf;have HRD:=readL32 w #[.float .f64 0,.float .f64 0] 28 t1 m1 t2 m2 hnn;clear t1 m1 t2 m2 hnn
 go_enter Tryz.func39,Tryz.ntmps39
 go_wp2_with fail;refine HRD.out.mono ?_;rintro e wk ⟨rfl,hl⟩;have LL:=Hd hl;clear hl HRD;go_wp2_with fail;refine cx (HE.out _) fun wk hb=>?_;replace LL:=stL LL hb;clear hb;replace LL:=Hd (LL.out.loose2 rfl);obtain⟨ha6_0,hf6_0,ha6_1,hf6_1⟩:=(LL.out.has 0 rfl).sf2;have LF:=Hd (LL.out.write [.float .f64 9218868437227405312,.float .f64 18442240474082181120] rfl (by omega) (by simp<;>omega) (by simp<;>omega));obtain⟨hk6_0,hk6_1⟩:=(LF.out.blk 2 rfl).c2
 simp [sets] at hk6_0 hk6_1
 clear LL;go_wp2;refine bodyPost_ret (v:=.agg #[.float .f64 9218868437227405312,.float .f64 18442240474082181120]) (by simp [results,Tryz.results39,go_sem,hk6_0,hk6_1]) rfl ?_
 exact⟨rfl,LF.out.b⟩
set_option maxRecDepth 8000 in
theorem pownz_in(b1 b2 c1 c2 A1 A2 x1 x2:Nat)(d1 d2:Bool)(o1 o2:Ordering)(w:World)(t1:∀ W,Rt 102 #[.agg #[.float .f64 b1,.float .f64 b2]] (.agg #[.float .f64 A1,.float .f64 A2]) W)(m1:Em d1 A1 A2)(t2:∀ W,Rt 102 #[.agg #[.float .f64 c1,.float .f64 c2]] (.agg #[.float .f64 x1,.float .f64 x2]) W)(m2:Em d2 x1 x2)(hnn:(d1 || d2)=false)(ho1:FloatKind.f64.format.order A1 4607182418800017408=some o1)(ho2:FloatKind.f64.format.order A2 4607182418800017408=some o2)(k1:o1=.lt\/o1=.eq)(k2:o2=.gt\/o2=.eq):
  Rt 39 #[.int .i64 0,.agg #[.float .f64 b1,.float .f64 b2],.agg #[.float .f64 c1,.float .f64 c2]] (.agg #[.float .f64 x1,.float .f64 x2]) w:=by
 rcases k1 with rfl | rfl<;>rcases k2 with rfl | rfl
 all_goals
  have HRD:=readL32 w #[.float .f64 0,.float .f64 0] 28 t1 m1 t2 m2 hnn;clear t1 m1 t2 m2 hnn
  go_enter Tryz.func39,Tryz.ntmps39
  go_wp2_with fail;refine HRD.out.mono ?_;rintro e wk ⟨rfl,hl⟩;have LL:=Hd hl;clear hl HRD;obtain⟨q1_0,q1_1⟩:=(LL.out.blk 0 rfl).c2;obtain⟨q2_0,q2_1⟩:=(LL.out.blk 1 rfl).c2
  go_upto_region 6 with fail
  clear ho1 ho2 q1_0 q1_1 q2_0 q2_1;obtain⟨q3_0,q3_1⟩:=(LL.out.blk 1 rfl).c2;replace LL:=Hd (LL.out.loose2 rfl);obtain⟨ha6_0,hf6_0,ha6_1,hf6_1⟩:=(LL.out.has 0 rfl).sf2;have LF:=Hd (LL.out.write [.float .f64 x1,.float .f64 x2] rfl (by omega) (by simp<;>omega) (by simp<;>omega));obtain⟨hk6_0,hk6_1⟩:=(LF.out.blk 2 rfl).c2
  simp [sets] at hk6_0 hk6_1
  clear LL;go_wp2;refine bodyPost_ret (v:=.agg #[.float .f64 x1,.float .f64 x2]) (by simp [results,Tryz.results39,go_sem,hk6_0,hk6_1]) rfl ?_
  exact⟨rfl,LF.out.b⟩
set_option maxRecDepth 8000 in
theorem pownz_out(b1 b2 c1 c2 A1 A2 x1 x2:Nat)(d1 d2:Bool)(o1 o2:Ordering)(w:World)(t1:∀ W,Rt 102 #[.agg #[.float .f64 b1,.float .f64 b2]] (.agg #[.float .f64 A1,.float .f64 A2]) W)(m1:Em d1 A1 A2)(t2:∀ W,Rt 102 #[.agg #[.float .f64 c1,.float .f64 c2]] (.agg #[.float .f64 x1,.float .f64 x2]) W)(m2:Em d2 x1 x2)(hnn:(d1 || d2)=false)(ho1:FloatKind.f64.format.order A1 4607182418800017408=some o1)(ho2:FloatKind.f64.format.order A2 4607182418800017408=some o2)(k:o1=.gt\/(o1=.lt/\o2=.lt)\/(o1=.eq/\o2=.lt)):
  Rt 39 #[.int .i64 0,.agg #[.float .f64 b1,.float .f64 b2],.agg #[.float .f64 c1,.float .f64 c2]] (.agg #[.float .f64 9218868437227405312,.float .f64 18442240474082181120]) w:=by
 have HE:=Hd emptyf
 rcases k with rfl | ⟨rfl,rfl⟩ | ⟨rfl,rfl⟩
 all_goals
  have HRD:=readL32 w #[.float .f64 0,.float .f64 0] 28 t1 m1 t2 m2 hnn;clear t1 m1 t2 m2 hnn
  go_enter Tryz.func39,Tryz.ntmps39
  go_wp2_with fail;refine HRD.out.mono ?_;rintro e wk ⟨rfl,hl⟩;have LL:=Hd hl;clear hl HRD;obtain⟨q1_0,q1_1⟩:=(LL.out.blk 0 rfl).c2;go_wp2_with fail;refine cx (HE.out _) fun wk hb=>?_;replace LL:=stL LL hb;clear hb q1_0 q1_1 ho1 ho2;replace LL:=Hd (LL.out.loose2 rfl);obtain⟨ha6_0,hf6_0,ha6_1,hf6_1⟩:=(LL.out.has 0 rfl).sf2;have LF:=Hd (LL.out.write [.float .f64 9218868437227405312,.float .f64 18442240474082181120] rfl (by omega) (by simp<;>omega) (by simp<;>omega));obtain⟨hk6_0,hk6_1⟩:=(LF.out.blk 2 rfl).c2
  simp [sets] at hk6_0 hk6_1
  clear LL;go_wp2;refine bodyPost_ret (v:=.agg #[.float .f64 9218868437227405312,.float .f64 18442240474082181120]) (by simp [results,Tryz.results39,go_sem,hk6_0,hk6_1]) rfl ?_
  exact⟨rfl,LF.out.b⟩
set_option maxRecDepth 8000 in
theorem pownz_neg(n:Nat)(b1 b2 c1 c2 A1 A2 x1 x2:Nat)(d1 d2:Bool)(w:World)(t1:∀ W,Rt 102 #[.agg #[.float .f64 b1,.float .f64 b2]] (.agg #[.float .f64 A1,.float .f64 A2]) W)(m1:Em d1 A1 A2)(t2:∀ W,Rt 102 #[.agg #[.float .f64 c1,.float .f64 c2]] (.agg #[.float .f64 x1,.float .f64 x2]) W)(m2:Em d2 x1 x2)(hn:1<=n)(hn2:n<=1024)(hp:n % 2=0)(hnn:(d1 || d2)=false)(ho:FloatKind.f64.format.order A2 0=some .lt):
  Rt 39 #[.int .i64 (-(n:Int)),.agg #[.float .f64 b1,.float .f64 b2],.agg #[.float .f64 c1,.float .f64 c2]] (.agg #[.float .f64 9218868437227405312,.float .f64 18442240474082181120]) w:=by
 have HE:=Hd emptyf
 have n1:¬ -(n:Int) < -1024:=by omega
 have n2:¬ (1024:Int) < -(n:Int):=by omega
 have n3:(-(n:Int) == 0)=false:=by simp;omega
 have n4:-(n:Int)<0:=by omega
 have n5:(-(n:Int)) % 2=0:=by omega
 have n6:(-(n:Int)).tmod 2=0:=by rw [Int.neg_tmod,Int.tmod_eq_emod_of_nonneg (by omega)];omega
 have n7:IntKind.i64.wrap (-(-(n:Int)))=(n:Int):=by rw [IntKind.wrap_i64];omega
 have n8:wrap64 (-(-(n:Int)))=(n:Int):=by unfold wrap64;omega
 have n9:-(-(n:Int))=(n:Int):=by omega
 clear hn hn2 hp;have HRD:=readL32 w #[.float .f64 0,.float .f64 0] 28 t1 m1 t2 m2 hnn;clear t1 m1 t2 m2 hnn
 go_enter Tryz.func39,Tryz.ntmps39
 go_wp2_with fail;refine HRD.out.mono ?_;rintro e wk ⟨rfl,hl⟩;have LL:=Hd hl;clear hl HRD;obtain⟨q1_0,q1_1⟩:=(LL.out.blk 0 rfl).c2;go_wp2_with fail;refine cx (HE.out _) fun wk hb=>?_;replace LL:=stL LL hb;clear hb q1_0 q1_1 ho;replace LL:=Hd (LL.out.loose2 rfl);obtain⟨ha6_0,hf6_0,ha6_1,hf6_1⟩:=(LL.out.has 0 rfl).sf2;have LF:=Hd (LL.out.write [.float .f64 9218868437227405312,.float .f64 18442240474082181120] rfl (by omega) (by simp<;>omega) (by simp<;>omega));obtain⟨hk6_0,hk6_1⟩:=(LF.out.blk 2 rfl).c2
 simp [sets] at hk6_0 hk6_1
 clear LL;go_wp2;refine bodyPost_ret (v:=.agg #[.float .f64 9218868437227405312,.float .f64 18442240474082181120]) (by simp [results,Tryz.results39,go_sem,hk6_0,hk6_1]) rfl ?_
 exact⟨rfl,LF.out.b⟩
set_option maxRecDepth 8000 in
theorem pownz_even(n:Nat)(b1 b2 c1 c2 A1 A2 x1 x2:Nat)(d1 d2:Bool)(o:Ordering)(r1 r2:Nat)(w:World)(t1:∀ W,Rt 102 #[.agg #[.float .f64 b1,.float .f64 b2]] (.agg #[.float .f64 A1,.float .f64 A2]) W)(m1:Em d1 A1 A2)(t2:∀ W,Rt 102 #[.agg #[.float .f64 c1,.float .f64 c2]] (.agg #[.float .f64 x1,.float .f64 x2]) W)(m2:Em d2 x1 x2)(hn:1<=n)(hn2:n<=1024)(hp:n % 2=0)(hnn:(d1 || d2)=false)(ho:FloatKind.f64.format.order A2 0=some o)(hoo:o=.eq\/o=.gt)(hB:∀ W,Tab W->Rt 103 #[.int .i64 (n:Int),.agg #[.float .f64 A1,.float .f64 A2],.agg #[.float .f64 x1,.float .f64 x2]] (.agg #[.float .f64 r1,.float .f64 r2]) W)(hT:Tab w):
  Rt 39 #[.int .i64 (-(n:Int)),.agg #[.float .f64 b1,.float .f64 b2],.agg #[.float .f64 c1,.float .f64 c2]] (.agg #[.float .f64 r1,.float .f64 r2]) w:=by
 have n1:¬ -(n:Int) < -1024:=by omega
 have n2:¬ (1024:Int) < -(n:Int):=by omega
 have n3:(-(n:Int) == 0)=false:=by simp;omega
 have n4:-(n:Int)<0:=by omega
 have n5:(-(n:Int)) % 2=0:=by omega
 have n6:(-(n:Int)).tmod 2=0:=by rw [Int.neg_tmod,Int.tmod_eq_emod_of_nonneg (by omega)];omega
 have n7:IntKind.i64.wrap (-(-(n:Int)))=(n:Int):=by rw [IntKind.wrap_i64];omega
 have n8:wrap64 (-(-(n:Int)))=(n:Int):=by unfold wrap64;omega
 have n9:-(-(n:Int))=(n:Int):=by omega
 clear hn hn2 hp;have HB:=Hd hB;clear hB
 rcases hoo with rfl | rfl
 all_goals
  have HRD:=readL32 w #[.float .f64 0,.float .f64 0] 28 t1 m1 t2 m2 hnn;clear t1 m1 t2 m2 hnn
  go_enter Tryz.func39,Tryz.ntmps39
  go_wp2_with fail;refine HRD.out.mono ?_;rintro e wk ⟨rfl,hl⟩;have LL:=Hd hl;clear hl HRD;have HT:=Hd (hT.below LL.out.b);clear hT;obtain⟨q1_0,q1_1⟩:=(LL.out.blk 0 rfl).c2;obtain⟨q2_0,q2_1⟩:=(LL.out.blk 1 rfl).c2;go_wp2_with fail;refine cx (HB.out _ HT.out) fun wk hb=>?_;replace LL:=stL LL hb;replace HT:=Hd (HT.out.below hb);clear hb q1_0 q1_1 q2_0 q2_1 ho;clear HT;replace LL:=Hd (LL.out.loose2 rfl);obtain⟨ha6_0,hf6_0,ha6_1,hf6_1⟩:=(LL.out.has 0 rfl).sf2;have LF:=Hd (LL.out.write [.float .f64 r1,.float .f64 r2] rfl (by omega) (by simp<;>omega) (by simp<;>omega));obtain⟨hk6_0,hk6_1⟩:=(LF.out.blk 2 rfl).c2
  simp [sets] at hk6_0 hk6_1
  clear LL;go_wp2;refine bodyPost_ret (v:=.agg #[.float .f64 r1,.float .f64 r2]) (by simp [results,Tryz.results39,go_sem,hk6_0,hk6_1]) rfl ?_
  exact⟨rfl,LF.out.b⟩
set_option maxRecDepth 8000 in
theorem pownz_odd(n:Nat)(b1 b2 c1 c2 A1 A2 x1 x2:Nat)(d1 d2:Bool)(r1 r2:Nat)(w:World)(t1:∀ W,Rt 102 #[.agg #[.float .f64 b1,.float .f64 b2]] (.agg #[.float .f64 A1,.float .f64 A2]) W)(m1:Em d1 A1 A2)(t2:∀ W,Rt 102 #[.agg #[.float .f64 c1,.float .f64 c2]] (.agg #[.float .f64 x1,.float .f64 x2]) W)(m2:Em d2 x1 x2)(hn:1<=n)(hn2:n<=1024)(hp:n % 2=1)(hnn:(d1 || d2)=false)(hB:∀ W,Tab W->Rt 103 #[.int .i64 (n:Int),.agg #[.float .f64 A1,.float .f64 A2],.agg #[.float .f64 x1,.float .f64 x2]] (.agg #[.float .f64 r1,.float .f64 r2]) W)(hT:Tab w):
  Rt 39 #[.int .i64 (-(n:Int)),.agg #[.float .f64 b1,.float .f64 b2],.agg #[.float .f64 c1,.float .f64 c2]] (.agg #[.float .f64 r1,.float .f64 r2]) w:=by
 have n1:¬ -(n:Int) < -1024:=by omega
 have n2:¬ (1024:Int) < -(n:Int):=by omega
 have n3:(-(n:Int) == 0)=false:=by simp;omega
 have n4:-(n:Int)<0:=by omega
 have n5:(-(n:Int)) % 2=1:=by omega
 have n6:(-(n:Int)).tmod 2=-1:=by rw [Int.neg_tmod,Int.tmod_eq_emod_of_nonneg (by omega)];omega
 have n7:IntKind.i64.wrap (-(-(n:Int)))=(n:Int):=by rw [IntKind.wrap_i64];omega
 have n8:wrap64 (-(-(n:Int)))=(n:Int):=by unfold wrap64;omega
 have n9:-(-(n:Int))=(n:Int):=by omega
 clear hn hn2 hp;have HB:=Hd hB;clear hB;have HRD:=readL32 w #[.float .f64 0,.float .f64 0] 28 t1 m1 t2 m2 hnn;clear t1 m1 t2 m2 hnn
 go_enter Tryz.func39,Tryz.ntmps39
 go_wp2_with fail;refine HRD.out.mono ?_;rintro e wk ⟨rfl,hl⟩;have LL:=Hd hl;clear hl HRD;have HT:=Hd (hT.below LL.out.b);clear hT;obtain⟨q1_0,q1_1⟩:=(LL.out.blk 0 rfl).c2;obtain⟨q2_0,q2_1⟩:=(LL.out.blk 1 rfl).c2;go_wp2_with fail;refine cx (HB.out _ HT.out) fun wk hb=>?_;replace LL:=stL LL hb;replace HT:=Hd (HT.out.below hb);clear hb q1_0 q1_1 q2_0 q2_1;clear HT;replace LL:=Hd (LL.out.loose2 rfl);obtain⟨ha6_0,hf6_0,ha6_1,hf6_1⟩:=(LL.out.has 0 rfl).sf2;have LF:=Hd (LL.out.write [.float .f64 r1,.float .f64 r2] rfl (by omega) (by simp<;>omega) (by simp<;>omega));obtain⟨hk6_0,hk6_1⟩:=(LF.out.blk 2 rfl).c2
 simp [sets] at hk6_0 hk6_1
 clear LL;go_wp2;refine bodyPost_ret (v:=.agg #[.float .f64 r1,.float .f64 r2]) (by simp [results,Tryz.results39,go_sem,hk6_0,hk6_1]) rfl ?_
 exact⟨rfl,LF.out.b⟩
end
section
open Go.RowKit
attribute [local go_sem] run_store_float run_frombits run_bitsof
theorem and_top{T:Nat}(h:T<9223372036854775808):bits .and .u64 (T:Int) 9223372036854775808=0:=by
 have e:=u64_and_nat T 9223372036854775808 (by omega) (by omega)
 have z:T &&& 9223372036854775808=0:=by
  apply Nat.eq_of_testBit_eq
  intro i;rw [Nat.testBit_and,show (9223372036854775808:Nat)=2 ^ 63 from rfl,Nat.testBit_two_pow]
  by_cases hi:63=i
  ·subst hi;rw [Nat.testBit_lt_two_pow (by simpa using h)];simp
  ·simp [hi]
 rw [z] at e
 exact e
theorem fnumber_any(T:Nat)(w:World):Calls Tryz.prog 268 #[.int .u64 (T:Int)] w fun e w'=>e=.returned (.float .f64 T)/\w=w':=by
 have HS:=Hd fsmall;have ff:=fun W=>run_frombits T W
 go_enter Tryz.func268,Tryz.ntmps268
 go_wp2_with fail;refine (HS.out _).mono ?_;rintro e w' ⟨rfl,rfl⟩;go_wp2
 go_ret
 exact⟨rfl,rfl⟩
theorem fplace_any(T:Nat)(w:World)(hT:T<=M):Rt 249 #[.float .f64 T] (.tuple #[.int .i64 (T:Int),.bool true]) w:=by
 have hM:=M_val;have HF:=Hd format_any;have HP:=Hd fun W=>pattern_any T W
 have hr:rungOf T=T:=by
  have h:=rung_pat (i:=(T:Int)) (by omega) (by omega);rw [pat_nn (by omega)] at h
  simpa using h
 have h1:=size_i (b:=T) (by omega);rw [hr] at h1;have h2:=and_top (T:=T) (by omega);have ho:FloatKind.f64.format.order T T=some .eq:=ord_eq (by omega) (by omega) rfl
 have hw:IntKind.i64.wrap (T:Int)=(T:Int):=by rw [IntKind.wrap_i64];omega
 clear hr hT hM
 go_enter Tryz.func249,Tryz.ntmps249
 go_wp2_with fail;refine cx (HF.out _) fun w1 hb=>?_;have HB:=Hd (hb.alloc hb.size (.cells #[.int .i64 52,.int .i64 (-1074),.int .i64 971,.int .u64 9218868437227405312,.int .u64 9223372036854775808] 185));have B:=Blk.new w1 185 #[.int .i64 52,.int .i64 (-1074),.int .i64 971,.int .u64 9218868437227405312,.int .u64 9223372036854775808];have q4:=B.ce 4 rfl;clear hb B HF;go_wp2_with fail;refine (HP.out _).mono ?_;rintro e w2 ⟨rfl,rfl⟩;go_wp2;refine bodyPost_ret (v:=.tuple #[.int .i64 (T:Int),.bool true]) (by simp [results,Tryz.results249,go_sem]) rfl ?_
 exact⟨rfl,HB.out⟩
theorem fat_any(T:Nat)(w:World)(hT:T<=M):Rt 247 #[.int .i64 (T:Int)] (.tuple #[.float .f64 T,.bool true]) w:=by
 have hM:=M_val;have HF:=Hd format_any;have HN:=Hd fun W=>fnumber_any T W
 have h1:¬ (9218868437227405312:Int)<(T:Int):=by omega
 have h2:¬ (T:Int) < -9218868437227405312:=by omega
 have h3:¬ (T:Int)<0:=by omega
 have hw:IntKind.u64.wrap (T:Int)=(T:Int):=by rw [IntKind.wrap_u64];omega
 clear hT hM
 go_enter Tryz.func247,Tryz.ntmps247
 go_wp2_with fail;refine cx (HF.out _) fun w1 hb=>?_;have HB:=Hd (hb.alloc hb.size (.cells #[.int .i64 52,.int .i64 (-1074),.int .i64 971,.int .u64 9218868437227405312,.int .u64 9223372036854775808] 185));have B:=Blk.new w1 185 #[.int .i64 52,.int .i64 (-1074),.int .i64 971,.int .u64 9218868437227405312,.int .u64 9223372036854775808];have q3:=B.ce 3 rfl;clear hb B HF;go_wp2_with fail;refine (HN.out _).mono ?_;rintro e w2 ⟨rfl,rfl⟩;go_wp2;refine bodyPost_ret (v:=.tuple #[.float .f64 T,.bool true]) (by simp [results,Tryz.results247,go_sem]) rfl ?_
 exact⟨rfl,HB.out⟩
end
end Go.Proofs.YthlmlmfebpjgdaaGreatDoor
