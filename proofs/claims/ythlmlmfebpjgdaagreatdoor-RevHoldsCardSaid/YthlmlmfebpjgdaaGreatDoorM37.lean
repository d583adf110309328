/-
Plain: divisors, as the program cuts them and as the reference has them; DivRev2 by indexes.
What divisor, DivRev2 and RecipRev of the program answer, by indexes.
-/
import Derived.Test.YthlmlmfebpjgdaaGreatDoorM22
import Derived.Test.YthlmlmfebpjgdaaGreatDoorPDiv2T
set_option linter.unusedSimpArgs false
set_option linter.unusedVariables false
set_option maxHeartbeats 12800000
namespace Go.Proofs.YthlmlmfebpjgdaaGreatDoor
open Go.RowKit
def dvA(i1 j2:Int):Int × Rat × Bool:=if 0<i1∧j2<M then (0,fl i1 / fl j2,false) else (0,0,true)
def dvB(j1 i2:Int):Int × Rat × Bool:=if j1<M∧0<i2 then (0,fl j1 / fl i2,false) else (1,0,true)
def FD(i1 j1 i2 j2:Int)(i j:Int):Int × Int:=
 if j1≤0∨j2≤0 then ((M:Int),-(M:Int)) else pf (dvA i1 j2).1 (dvA i1 j2).2.1 (dvA i1 j2).2.2 (dvB j1 i2).1 (dvB j1 i2).2.1 (dvB j1 i2).2.2 i j
def dvs(i1 j1 i2 j2:Int)(i j:Int):Int × Int:=
 if j1≤0∨j2≤0 then ((M:Int),-(M:Int)) else
  ctO true i j (if 0<i1 then ov (es i1) (ex i1) j2 else (0,0)).1 (if 0<i1 then ov (es i1) (ex i1) j2 else (0,0)).2 (if 0<i2 then ov (es j1) (ex j1) i2 else ((M:Int),(M:Int))).1 (if 0<i2 then ov (es j1) (ex j1) i2 else ((M:Int),(M:Int))).2
theorem dvA_kind{i1 j2:Int}(h2:0<j2):(dvA i1 j2).1=0∧((dvA i1 j2).2.1=0∧(dvA i1 j2).2.2=true∨0<(dvA i1 j2).2.1∧(dvA i1 j2).2.2=false∧0<i1∧j2<M∧(dvA i1 j2).2.1=fl i1 / fl j2):=by
 unfold dvA
 by_cases h:0<i1∧j2<M
 ·rw [if_pos h];exact⟨rfl,.inr ⟨div_pos' (fl_pos h.1) (fl_pos h2),rfl,h.1,h.2,rfl⟩⟩
 ·rw [if_neg h];exact⟨rfl,.inl ⟨rfl,rfl⟩⟩
theorem dvB_kind{j1 i2:Int}(h1:0<j1):((dvB j1 i2).1=1∧(dvB j1 i2).2.1=0∧(dvB j1 i2).2.2=true)∨((dvB j1 i2).1=0∧0<(dvB j1 i2).2.1∧(dvB j1 i2).2.2=false∧0<i2∧j1<M∧(dvB j1 i2).2.1=fl j1 / fl i2):=by
 unfold dvB
 by_cases h:j1<M∧0<i2
 ·rw [if_pos h];exact .inr ⟨rfl,div_pos' (fl_pos h1) (fl_pos h.2),rfl,h.2,h.1,rfl⟩
 ·rw [if_neg h];exact .inl ⟨rfl,rfl,rfl⟩
theorem dv_le{i1 j1 i2 j2:Int}(h1:i1≤j1)(h2:i2≤j2)(p1:0<j1)(p2:0<j2):dn (dvA i1 j2).1 (dvA i1 j2).2.1≤up (dvB j1 i2).1 (dvB j1 i2).2.1:=by
 have hM:(M:Int)=9218868437227405312:=rfl;obtain⟨a0,a⟩:=dvA_kind (i1:=i1) p2
 rcases dvB_kind (i2:=i2) p1 with ⟨b0,-,-⟩ | ⟨b0,b1,b2,b3,b4,b5⟩
 ·have:=dn_lt (s:=(dvA i1 j2).1) (x:=(dvA i1 j2).2.1) (.inl a0);unfold up;rw [b0,if_neg (by omega)];omega
 ·rw [a0,b0,dn_zero,up_zero];refine Int.le_trans (rndI_le _) (rndI_mono (.inr rfl) ?_)
  rcases a with ⟨a1,-⟩ | ⟨a1,a2,a3,a4,a5⟩
  ·rw [a1];grind
  ·rw [a5,b5];have f1:=fl_pos p2;have f2:=fl_pos b3;refine div_le_div f1 f2 ?_;have e1:fl i1≤fl j1:=fl_le_iff.2 h1;have e2:fl i2≤fl j2:=fl_le_iff.2 h2;have m1:fl i1*fl i2≤fl j1*fl i2:=(mul_le_pos f2).2 e1;have m2:fl i2*fl j1≤fl j2*fl j1:=(mul_le_pos (fl_pos p1)).2 e2
   grind
theorem FD_iv{i1 j1 i2 j2:Int}(h1:i1≤j1)(h2:i2≤j2)(i j:Int)(hx:Iv i j):Iv (FD i1 j1 i2 j2 i j).1 (FD i1 j1 i2 j2 i j).2:=by
 unfold FD
 by_cases h:j1≤0∨j2≤0
 ·rw [if_pos h];exact Iv.none
 ·rw [if_neg h];refine pf_iv (.inl (dvA_kind (i1:=i1) (show 0<j2 by omega)).1) ?_ (dv_le h1 h2 (by omega) (by omega)) i j hx
  rcases dvB_kind (j1:=j1) (i2:=i2) (by omega) with k | k<;>omega
theorem dvs_FD{i1 j1 i2 j2 i j:Int}(h1:Ne i1 j1)(h2:Ne i2 j2)(hx:Ne i j):dvs i1 j1 i2 j2 i j=FD i1 j1 i2 j2 i j:=by
 have hM:(M:Int)=9218868437227405312:=rfl;unfold Ne at *;unfold dvs FD
 by_cases h:j1≤0∨j2≤0
 ·rw [if_pos h,if_pos h]
 ·rw [if_neg h,if_neg h];have z1:=rndI_zero (d:=-1) (.inl rfl);have z2:=rndI_zero (d:=1) (.inr rfl)
  have eA:(if 0<i1 then ov (es i1) (ex i1) j2 else (0,0))=(dn (dvA i1 j2).1 (dvA i1 j2).2.1,up (dvA i1 j2).1 (dvA i1 j2).2.1):=by
   by_cases p:0<i1
   ·rw [if_pos p,es_mid (by omega) (by omega),ex_mid (by omega) (by omega)];unfold ov;rw [if_neg (by omega)]
    by_cases q:j2<M
    ·have d:dvA i1 j2=(0,fl i1 / fl j2,false):=if_pos ⟨p,q⟩;rw [d,if_neg (by have:=fl_pos p;rintro (h | h);grind;omega)];rfl
    ·have d:dvA i1 j2=(0,0,true):=if_neg (by omega);rw [d,if_pos (.inr (by omega)),dn_zero,up_zero,z1,z2]
   ·have d:dvA i1 j2=(0,0,true):=if_neg (by omega);rw [d,if_neg p,dn_zero,up_zero,z1,z2]
  have eB:(if 0<i2 then ov (es j1) (ex j1) i2 else ((M:Int),(M:Int)))=(dn (dvB j1 i2).1 (dvB j1 i2).2.1,up (dvB j1 i2).1 (dvB j1 i2).2.1):=by
   have u1:dn 1 0=M:=by unfold dn;rw [if_neg (by omega)];omega
   have u2:up 1 0=M:=by unfold up;rw [if_neg (by omega)];omega
   by_cases p:0<i2
   ·rw [if_pos p];unfold ov
    by_cases q:j1<M
    ·have d:dvB j1 i2=(0,fl j1 / fl i2,false):=if_pos ⟨q,p⟩;rw [d,es_mid (by omega) (by omega),ex_mid (by omega) (by omega),if_neg (by omega),if_neg (by have:=fl_pos (show 0<j1 by omega);rintro (h | h);grind;omega)];rfl
    ·have d:dvB j1 i2=(1,0,true):=if_neg (by omega)
     obtain rfl:j1=M:=by omega
     rw [d,es_max,if_pos (by omega),u1,u2,Int.one_mul]
   ·have d:dvB j1 i2=(1,0,true):=if_neg (by omega);rw [d,if_neg p,u1,u2]
  rw [eA,eB];obtain⟨a0,a⟩:=dvA_kind (i1:=i1) (show 0<j2 by omega);have b:=dvB_kind (j1:=j1) (i2:=i2) (by omega)
  obtain⟨⟨sa,xa,fa⟩,ea⟩:∃ z,dvA i1 j2=z:=⟨_,rfl⟩
  obtain⟨⟨sb,xb,fb⟩,eb⟩:∃ z,dvB j1 i2=z:=⟨_,rfl⟩
  rw [ea] at a0 a;rw [eb] at b;rw [ea,eb]
  dsimp only at *
  subst a0;refine ct_tail hx (.inl rfl) (by rcases b with b | b<;>omega) ?_ ?_ ?_ ?_
  ·intro h;rcases a with ⟨a1,-⟩ | ⟨-,a1,-⟩
   ·exact .inr ⟨rfl,a1⟩
   ·rw [a1] at h;cases h
  ·intro h;rcases b with ⟨b1,-,-⟩ | ⟨-,-,b1,-⟩
   ·exact .inl b1
   ·rw [b1] at h;cases h
  ·rw [dn_zero,up_zero]
   rcases a with ⟨a1,a2⟩ | ⟨a1,a2,-⟩
   ·rw [a1,a2,z1,z2];simp
   ·constructor
    ·rintro⟨-,-,h⟩;have:=rndI_pos a1;omega
    ·rintro⟨-,h,-⟩;exfalso;grind
  ·rcases b with ⟨b1,b2,b3⟩ | ⟨b1,b2,b3,-⟩
   ·rw [b1]
    constructor
    ·rintro⟨-,h,-⟩;unfold dn at h;rw [if_neg (by omega)] at h;omega
    ·rintro⟨h,-⟩;omega
   ·rw [b1,up_zero]
    constructor
    ·rintro⟨-,-,h⟩;have:=rndI_pos b2;omega
    ·rintro⟨-,h,-⟩;exfalso;grind
theorem es3(i:Int):es i=0∨es i=1∨es i=-1:=by unfold es;split<;>(try split)<;>omega
theorem up10:up 1 0=M:=by
 have hM:(M:Int)=9218868437227405312:=rfl;unfold up;rw [if_neg (by omega)];omega
theorem dn10:dn 1 0=M:=by
 have hM:(M:Int)=9218868437227405312:=rfl;unfold dn;rw [if_neg (by omega)];omega
theorem up_10:up (-1) 0=-(M:Int):=by
 have hM:(M:Int)=9218868437227405312:=rfl;unfold up;rw [if_neg (by omega)];omega
theorem dn_10:dn (-1) 0=-(M:Int):=by
 have hM:(M:Int)=9218868437227405312:=rfl;unfold dn;rw [if_neg (by omega)];omega
theorem up00:up 0 0=0:=rndI_zero (.inr rfl)
theorem dn00:dn 0 0=0:=rndI_zero (.inl rfl)
theorem zc1{i j:Int}(hx:Ne i j):ctO true i j (-(M:Int)) (-(M:Int)) 0 0=pf (-1) 0 true 0 0 true i j:=by
 have hM:(M:Int)=9218868437227405312:=rfl
 have h:=ct_tail (op:=true) (sa:=-1) (xa:=0) (fa:=true) (sb:=0) (xb:=0) (fb:=true) hx (.inr rfl) (.inl rfl) (fun _=>.inl rfl) (fun _=>.inr ⟨rfl,rfl⟩)
  ⟨fun h=>by have h1:=h.2.1;rw [dn_10] at h1;omega,fun h=>by have h1:=h.1;omega⟩ ⟨fun _=>⟨rfl,rfl,rfl⟩,fun _=>⟨rfl,dn00,up00⟩⟩
 rw [dn_10,up_10,dn00,up00] at h
 exact h
theorem zc2{i j:Int}(hx:Ne i j):ctO true i j 0 0 M M=pf 0 0 true 1 0 true i j:=by
 have hM:(M:Int)=9218868437227405312:=rfl
 have h:=ct_tail (op:=true) (sa:=0) (xa:=0) (fa:=true) (sb:=1) (xb:=0) (fb:=true) hx (.inl rfl) (.inr rfl) (fun _=>.inr ⟨rfl,rfl⟩) (fun _=>.inl rfl)
  ⟨fun _=>⟨rfl,rfl,rfl⟩,fun _=>⟨rfl,dn00,up00⟩⟩ ⟨fun h=>by have h1:=h.2.1;rw [dn10] at h1;omega,fun h=>by have h1:=h.1;omega⟩
 rw [dn10,up10,dn00,up00] at h
 exact h
theorem zc1_iv(i j:Int)(h:Iv i j):Iv (pf (-1) 0 true 0 0 true i j).1 (pf (-1) 0 true 0 0 true i j).2:=by
 have hM:(M:Int)=9218868437227405312:=rfl
 exact pf_iv (.inr rfl) (.inl rfl) (by rw [dn_10,up00];omega) i j h
theorem zc2_iv(i j:Int)(h:Iv i j):Iv (pf 0 0 true 1 0 true i j).1 (pf 0 0 true 1 0 true i j).2:=by
 have hM:(M:Int)=9218868437227405312:=rfl
 exact pf_iv (.inl rfl) (.inr rfl) (by rw [dn00,up10];omega) i j h
theorem divisor_any(i1 j1 i2 j2 i j:Int)(w:World)(h1:Ne i1 j1)(h2:Ne i2 j2)(hx:Ne i j):
  Calls Tryz.prog 89 #[.agg #[.float .f64 (pat i1),.float .f64 (pat j1)],.agg #[.float .f64 (pat i2),.float .f64 (pat j2)],.agg #[.float .f64 (pat i),.float .f64 (pat j)]] w fun e w'=>
   e=.returned (.agg #[.float .f64 (pat (FD i1 j1 i2 j2 i j).1),.float .f64 (pat (FD i1 j1 i2 j2 i j).2)])∧Below w.heap.size w w':=by
 have hM:(M:Int)=9218868437227405312:=rfl;rw [← dvs_FD h1 h2 hx];have r1:=h1.iv.lo;have r2:=h1.iv.hi;have r3:=h2.iv.lo;have r4:=h2.iv.hi;unfold dvs
 by_cases h:j1≤0∨j2≤0
 ·rw [if_pos h,pat_max,pat_min];refine divisor_none _ _ _ _ _ _ (compare j1 0) (compare j2 0) w (ord0 r2) (ord0 r4) ?_
  rcases h with h | h
  ·exact .inl fun e=>by have:=Int.compare_eq_gt.1 e;omega
  ·exact .inr fun e=>by have:=Int.compare_eq_gt.1 e;omega
 ·rw [if_neg h];have o1:FloatKind.f64.format.order (pat j1) 0=some .gt:=ord0_gt r2 (by omega);have o2:FloatKind.f64.format.order (pat j2) 0=some .gt:=ord0_gt r4 (by omega)
  have le:∀ k:Int,-(M:Int)≤k∧k≤M→¬ 0<k→FloatKind.f64.format.order (pat k) 0=some .eq∨FloatKind.f64.format.order (pat k) 0=some .lt:=fun k hk hn=>by
   by_cases h0:k=0
   ·exact .inl (ord0_eq h0)
   ·exact .inr (ord0_lt hk (by omega))
  have P1:=fun W=>point_gen i1 W r1;have P2:=fun W=>point_gen j1 W r2;have V1:=fun W g B n k E he=>over_any (es i1) g B n k E (ex i1) j2 W he (by omega) r4.2;have V2:=fun (q:0<i2) W g B n k E he=>over_any (es j1) g B n k E (ex j1) i2 W he q r3.2;have g1:=ov_rng (x:=ex i1) (j:=j2) (es3 i1);have g2:=ov_rng (x:=ex j1) (j:=i2) (es3 j1)
  have z0:-(M:Int)≤0∧(0:Int)≤M:=by omega
  have zM:-(M:Int)≤M∧(M:Int)≤M:=by omega
  have hc:=fun (pd pu qd qu:Int) k1 k2 k3 k4 W=>rcut2_any true i j pd pu qd qu W hx.iv.lo hx.iv.hi k1 k2 k3 k4
  by_cases p:0<i1
  ·rw [if_pos p]
   by_cases q:0<i2
   ·rw [if_pos q]
    exact divisor_pq _ _ _ _ _ _ _ _ _ _ _ _ _ _ _ _ w o1 o2 (ord0_gt r1 p) (ord0_gt r3 q) P1 V1 P2 (V2 q) (hc _ _ _ _ g1.1 g1.2 g2.1 g2.2)
   ·rw [if_neg q];have hc:=hc _ _ _ _ g1.1 g1.2 zM zM;rw [pat_max] at hc
    exact divisor_pi _ _ _ _ _ _ _ _ _ _ _ _ w o1 o2 (ord0_gt r1 p) (le i2 r3 q) P1 V1 hc
  ·rw [if_neg p]
   by_cases q:0<i2
   ·rw [if_pos q];have hc:=hc _ _ _ _ z0 z0 g2.1 g2.2;rw [pat_zero] at hc
    exact divisor_zq _ _ _ _ _ _ _ _ _ _ _ _ w o1 o2 (le i1 r1 p) (ord0_gt r3 q) P2 (V2 q) hc
   ·rw [if_neg q];have hc:=hc _ _ _ _ z0 z0 zM zM;rw [pat_zero,pat_max] at hc
    exact divisor_zi _ _ _ _ _ _ _ _ w o1 o2 (le i1 r1 p) (le i2 r3 q) hc
def dr2(i1 j1 i2 j2 i j:Int):Int × Int:=
 if j1<i1∨j2<i2∨j<i then ((M:Int),-(M:Int))
 else if (i1≤0∧0≤j1)∧(i2≤0∧0≤j2) then (min (pf (-1) 0 true 0 0 true i j).1 (pf 0 0 true 1 0 true i j).1,max (pf (-1) 0 true 0 0 true i j).2 (pf 0 0 true 1 0 true i j).2)
 else (min (min (FD i1 j1 i2 j2 i j).1 (FD (-j1) (-i1) (-j2) (-i2) i j).1) (-(max (FD (-j1) (-i1) i2 j2 (-j) (-i)).2 (FD i1 j1 (-j2) (-i2) (-j) (-i)).2)),
  max (max (FD i1 j1 i2 j2 i j).2 (FD (-j1) (-i1) (-j2) (-i2) i j).2) (-(min (FD (-j1) (-i1) i2 j2 (-j) (-i)).1 (FD i1 j1 (-j2) (-i2) (-j) (-i)).1)))
theorem hull_iv{i j i' j':Int}(h:Iv i j)(h':Iv i' j'):Iv (min i i') (max j j'):=by
 have hM:(M:Int)=9218868437227405312:=rfl;unfold Iv at *
 omega
theorem divrev2_any(b1 b2 c1 c2 x y:Nat)(w:World)(hb1:b1<18446744073709551616)(hb2:b2<18446744073709551616)(hc1:c1<18446744073709551616)(hc2:c2<18446744073709551616)(hx:x<18446744073709551616)(hy:y<18446744073709551616):
  Calls Tryz.prog 27 #[.agg #[.float .f64 b1,.float .f64 b2],.agg #[.float .f64 c1,.float .f64 c2],.agg #[.float .f64 x,.float .f64 y]] w fun e w'=>
   e=.returned (.agg #[.float .f64 (pat (dr2 (rd b1 b2).1 (rd b1 b2).2 (rd c1 c2).1 (rd c1 c2).2 (rd x y).1 (rd x y).2).1),.float .f64 (pat (dr2 (rd b1 b2).1 (rd b1 b2).2 (rd c1 c2).1 (rd c1 c2).2 (rd x y).1 (rd x y).2).2)])∧Below w.heap.size w w':=by
 have hM:(M:Int)=9218868437227405312:=rfl;have v1:=rd_iv b1 b2;have v2:=rd_iv c1 c2;have v3:=rd_iv x y;have t1:=fun W=>readf b1 b2 W hb1 hb2;have t2:=fun W=>readf c1 c2 W hc1 hc2;have t3:=fun W=>readf x y W hx hy
 obtain⟨⟨i1,j1⟩,r1⟩:∃ z,rd b1 b2=z:=⟨_,rfl⟩
 obtain⟨⟨i2,j2⟩,r2⟩:∃ z,rd c1 c2=z:=⟨_,rfl⟩
 obtain⟨⟨i3,j3⟩,r3⟩:∃ z,rd x y=z:=⟨_,rfl⟩
 rw [r1] at v1 t1;rw [r2] at v2 t2;rw [r3] at v3 t3;rw [r1,r2,r3]
 dsimp only at *
 have m1:=em_idx v1;have m2:=em_idx v2;have m3:=em_idx v3;unfold dr2
 by_cases hno:j1<i1∨j2<i2∨j3<i3
 ·rw [if_pos hno,pat_max,pat_min]
  exact divrev2_none _ _ _ _ _ _ _ _ _ _ _ _ _ _ _ w t1 m1 t2 m2 t3 m3 (by simp;omega)
 ·rw [if_neg hno]
  have hnn:(decide (j1<i1) || decide (j2<i2) || decide (j3<i3))=false:=by simp;omega
  have n1:=ne_or v1 (by omega);have n2:=ne_or v2 (by omega);have n3:=ne_or v3 (by omega);have H1:=fun W=>has_any i1 j1 W v1.lo v1.hi;have H2:=fun W=>has_any i2 j2 W v2.lo v2.hi
  by_cases hz:(i1≤0∧0≤j1)∧(i2≤0∧0≤j2)
  ·rw [if_pos hz];rw [decide_eq_true hz.1] at H1;rw [decide_eq_true hz.2] at H2
   have z0:-(M:Int)≤0∧(0:Int)≤M:=by omega
   have zM:-(M:Int)≤M∧(M:Int)≤M:=by omega
   have zN:-(M:Int)≤-(M:Int)∧-(M:Int)≤M:=by omega
   have C1:=fun W=>rcut2_any true i3 j3 (-(M:Int)) (-(M:Int)) 0 0 W v3.lo v3.hi zN zN z0 z0;have C2:=fun W=>rcut2_any true i3 j3 0 0 M M W v3.lo v3.hi z0 z0 zM zM;rw [zc1 n3,pat_min,pat_zero] at C1;rw [zc2 n3,pat_max,pat_zero] at C2
   exact divrev2_zero _ _ _ _ _ _ _ _ _ _ _ _ _ _ _ _ _ _ _ _ _ w t1 m1 t2 m2 t3 m3 hnn H1 H2 C1 C2 (fun W=>hullf _ _ _ _ W (zc1_iv _ _ v3) (zc2_iv _ _ v3))
  ·rw [if_neg hz];have n1':=n1;have n2':=n2;unfold Ne at n1' n2';have f1:=FD_iv n1'.2.1 n2'.2.1 i3 j3 v3;have f2:=FD_iv (show -j1≤-i1 by omega) (show -j2≤-i2 by omega) i3 j3 v3;have f3:=FD_iv (show -j1≤-i1 by omega) n2'.2.1 (-j3) (-i3) v3.negg;have f4:=FD_iv n1'.2.1 (show -j2≤-i2 by omega) (-j3) (-i3) v3.negg
   refine divrev2_some _ _ _ _ _ _ _ _ _ _ _ _ _ _ _ _ _ _ _ _ _ _ _ _ _ _ _ _ _ _ _ _ _ _ _ _ _ _ _ w t1 m1 t2 m2 t3 m3 hnn H1 H2 ?_ (fun W=>mirror_idx i1 j1 W v1) (fun W=>mirror_idx i2 j2 W v2) (fun W=>mirror_idx i3 j3 W v3) (fun W=>divisor_any i1 j1 i2 j2 i3 j3 W n1 n2 n3) (fun W=>divisor_any (-j1) (-i1) (-j2) (-i2) i3 j3 W n1.neg n2.neg n3) (fun W=>divisor_any (-j1) (-i1) i2 j2 (-j3) (-i3) W n1.neg n2 n3.neg) (fun W=>divisor_any i1 j1 (-j2) (-i2) (-j3) (-i3) W n1 n2.neg n3.neg)
    (fun W=>hullf _ _ _ _ W f1 f2) (fun W=>hullf _ _ _ _ W f3 f4) (fun W=>mirror_idx _ _ W (hull_iv f3 f4)) (fun W=>hullf _ _ _ _ W (hull_iv f1 f2) (hull_iv f3 f4).negg)
   by_cases ha:i1≤0∧0≤j1
   ·exact .inr ⟨decide_eq_true ha,decide_eq_false fun h=>hz ⟨ha,h⟩⟩
   ·exact .inl (decide_eq_false ha)
def K1:Int:=4607182418800017408
end Go.Proofs.YthlmlmfebpjgdaaGreatDoor
