/-
Plain: products, as the program cuts them and as the reference has them; DivRev1 by indexes.
DivRev1 by indexes, the program's.
-/
import Derived.Test.YthlmlmfebpjgdaaGreatDoorM34
import Derived.Test.YthlmlmfebpjgdaaGreatDoorM22
set_option linter.unusedSimpArgs false
set_option linter.unusedVariables false
set_option maxHeartbeats 12800000
namespace Go.Proofs.YthlmlmfebpjgdaaGreatDoor
open Go.RowKit
def prb(a b:Int):Int × Rat × Bool:=if a=0 then (0,0,false) else if b=0 then (0,0,true) else if es a≠0∨es b≠0 then ((if 0<a then 1 else -1),0,true) else (0,fl a*fl b,false)
def vdA(i1 j1 i2:Int):Int × Rat × Bool:=if 0<i2 then prb i2 (max i1 0) else prb i2 j1
def vdB(i1 j1 j2:Int):Int × Rat × Bool:=if j2<0 then prb j2 (max i1 0) else prb j2 j1
def FV(i1 j1 i2 j2:Int)(i j:Int):Int × Int:=
 if j1≤0∨j2<i2 then ((M:Int),-(M:Int)) else pf (vdA i1 j1 i2).1 (vdA i1 j1 i2).2.1 (vdA i1 j1 i2).2.2 (vdB i1 j1 j2).1 (vdB i1 j1 j2).2.1 (vdB i1 j1 j2).2.2 i j
def pdP(i1 j1 i2:Int):Int × Int:=if i2<0 then (mu (-1) i2 j1,mu 1 i2 j1) else if 0<i2∧0<i1 then (mu (-1) i2 i1,mu 1 i2 i1) else (0,0)
def pdQ(i1 j1 j2:Int):Int × Int:=if 0<j2 then (mu (-1) j2 j1,mu 1 j2 j1) else if j2<0∧0<i1 then (mu (-1) j2 i1,mu 1 j2 i1) else (0,0)
def dvd(i1 j1 i2 j2:Int)(i j:Int):Int × Int:=
 if j1≤0 then ((M:Int),-(M:Int)) else ctO (!decide (i2≤0∧0≤j2)) i j (pdP i1 j1 i2).1 (pdP i1 j1 i2).2 (pdQ i1 j1 j2).1 (pdQ i1 j1 j2).2
theorem fl_neg_lt{j:Int}(h:j<0):fl j<0:=by have:=fl_lt_iff.2 h;rwa [fl_zero] at this
theorem mu_prb{a b:Int}(ha:-(M:Int)≤a∧a≤M)(hb:0<b∧b≤M)(na:a≠0):mu (-1) a b=dn (prb a b).1 (prb a b).2.1∧mu 1 a b=up (prb a b).1 (prb a b).2.1:=by
 have hM:(M:Int)=9218868437227405312:=rfl;unfold prb mu;rw [if_neg na,if_neg (show ¬ b=0 by omega)]
 by_cases h:a=M∨a=-(M:Int)∨b=M∨b=-(M:Int)
 ·have h2:es a≠0∨es b≠0:=by
   rcases h with h | h | h | h
   ·left;rw [h,es_max];omega
   ·left;rw [h,es_min];omega
   ·right;rw [h,es_max];omega
   ·omega
  rw [if_pos h,if_pos h,if_pos h2];rw [decide_eq_false (show ¬ b<0 by omega)]
  by_cases h3:0<a
  ·rw [decide_eq_false (show ¬ a<0 by omega),if_pos h3]
   have d1:(M:Int)=dn 1 0:=by unfold dn;rw [if_neg (by omega)];omega
   have u1:(M:Int)=up 1 0:=by unfold up;rw [if_neg (by omega)];omega
   exact⟨d1,u1⟩
  ·rw [decide_eq_true (show a<0 by omega),if_neg h3]
   have d1:-(M:Int)=dn (-1) 0:=by unfold dn;rw [if_neg (by omega)];omega
   have u1:-(M:Int)=up (-1) 0:=by unfold up;rw [if_neg (by omega)];omega
   exact⟨d1,u1⟩
 ·have h2:¬ (es a≠0∨es b≠0):=by
   rw [es_mid (by omega) (by omega),es_mid (by omega) (by omega)];omega
  rw [if_neg h,if_neg h,if_neg h2]
  exact⟨rfl,rfl⟩
theorem prb_kind{a b:Int}(hb:0≤b):(a=0∧prb a b=(0,0,false))∨(a≠0∧b=0∧prb a b=(0,0,true))∨(a≠0∧0<b∧(es a≠0∨es b≠0)∧prb a b=((if 0<a then 1 else -1),0,true))∨(a≠0∧0<b∧es a=0∧es b=0∧prb a b=(0,fl a*fl b,false)):=by
 unfold prb
 by_cases h:a=0
 ·exact .inl ⟨h,if_pos h⟩
 ·rw [if_neg h]
  by_cases h2:b=0
  ·exact .inr (.inl ⟨h,h2,if_pos h2⟩)
  ·rw [if_neg h2]
   by_cases h3:es a≠0∨es b≠0
   ·exact .inr (.inr (.inl ⟨h,by omega,h3,if_pos h3⟩))
   ·exact .inr (.inr (.inr ⟨h,by omega,by omega,by omega,if_neg h3⟩))
theorem prb_val{a b:Int}(h:(prb a b).1=0):(prb a b).2.1=fl a*fl b:=by
 revert h
 unfold prb
 by_cases h1:a=0
 ·subst h1;rw [if_pos rfl,fl_zero];intro _;grind
 ·rw [if_neg h1]
  by_cases h2:b=0
  ·subst h2;rw [if_pos rfl,fl_zero];intro _;grind
  ·rw [if_neg h2]
   by_cases h3:es a≠0∨es b≠0
   ·rw [if_pos h3];intro h
    exfalso
    dsimp only at h
    split at h<;>omega
   ·rw [if_neg h3];intro _;rfl
theorem mul_mono_r{a b c:Rat}(h:a≤b)(hc:0≤c):a*c≤b*c:=by
 by_cases h0:c=0
 ·subst h0;grind
 ·exact (mul_le_pos (by grind)).2 h
theorem mul_pos2{a b:Rat}(ha:0<a)(hb:0<b):0<a*b:=by
 have h:=(mul_le_pos (a:=a*b) (b:=0) hb)
 have h2:=(mul_le_pos (a:=a) (b:=0) hb)
 by_cases c:a*b≤0
 ·exfalso
  have:=h2.1 (by grind)
  grind
 ·grind
theorem vdA_kind{i1 j1 i2:Int}(h1:Ne i1 j1)(p1:0<j1)(h2:i2<M):
  ((vdA i1 j1 i2).1=0∨(vdA i1 j1 i2).1=-1)∧((vdA i1 j1 i2).2.2=true→(vdA i1 j1 i2).1=-1∨(vdA i1 j1 i2).1=0∧(vdA i1 j1 i2).2.1=0):=by
 have hM:(M:Int)=9218868437227405312:=rfl;unfold Ne at h1;unfold vdA
 by_cases h:0<i2
 ·rw [if_pos h]
  rcases prb_kind (a:=i2) (b:=max i1 0) (by omega) with ⟨k,e⟩ | ⟨-,k,e⟩ | ⟨-,k,k2,e⟩ | ⟨-,k,k2,k3,e⟩
  ·omega
  ·rw [e];exact⟨.inl rfl,fun _=>.inr ⟨rfl,rfl⟩⟩
  ·exfalso
   rcases k2 with k2 | k2
   ·exact k2 (es_mid (by omega) (by omega))
   ·exact k2 (es_mid (by omega) (by omega))
  ·rw [e];exact⟨.inl rfl,fun h=>by cases h⟩
 ·rw [if_neg h]
  rcases prb_kind (a:=i2) (b:=j1) (by omega) with ⟨k,e⟩ | ⟨-,k,e⟩ | ⟨-,k,k2,e⟩ | ⟨-,k,k2,k3,e⟩
  ·rw [e];exact⟨.inl rfl,fun h=>by cases h⟩
  ·omega
  ·rw [e,if_neg h];exact⟨.inr rfl,fun _=>.inl rfl⟩
  ·rw [e];exact⟨.inl rfl,fun h=>by cases h⟩
theorem vdB_kind{i1 j1 j2:Int}(h1:Ne i1 j1)(p1:0<j1)(h2:-(M:Int)<j2):
  ((vdB i1 j1 j2).1=0∨(vdB i1 j1 j2).1=1)∧((vdB i1 j1 j2).2.2=true→(vdB i1 j1 j2).1=1∨(vdB i1 j1 j2).1=0∧(vdB i1 j1 j2).2.1=0):=by
 have hM:(M:Int)=9218868437227405312:=rfl;unfold Ne at h1;unfold vdB
 by_cases h:j2<0
 ·rw [if_pos h]
  rcases prb_kind (a:=j2) (b:=max i1 0) (by omega) with ⟨k,e⟩ | ⟨-,k,e⟩ | ⟨-,k,k2,e⟩ | ⟨-,k,k2,k3,e⟩
  ·omega
  ·rw [e];exact⟨.inl rfl,fun _=>.inr ⟨rfl,rfl⟩⟩
  ·exfalso
   rcases k2 with k2 | k2
   ·exact k2 (es_mid (by omega) (by omega))
   ·exact k2 (es_mid (by omega) (by omega))
  ·rw [e];exact⟨.inl rfl,fun h=>by cases h⟩
 ·rw [if_neg h]
  rcases prb_kind (a:=j2) (b:=j1) (by omega) with ⟨k,e⟩ | ⟨-,k,e⟩ | ⟨k0,k,k2,e⟩ | ⟨-,k,k2,k3,e⟩
  ·rw [e];exact⟨.inl rfl,fun h=>by cases h⟩
  ·omega
  ·rw [e,if_pos (by omega)];exact⟨.inr rfl,fun _=>.inl rfl⟩
  ·rw [e];exact⟨.inl rfl,fun h=>by cases h⟩
theorem vd_le{i1 j1 i2 j2:Int}(h1:Ne i1 j1)(h2:Ne i2 j2)(p1:0<j1):dn (vdA i1 j1 i2).1 (vdA i1 j1 i2).2.1≤up (vdB i1 j1 j2).1 (vdB i1 j1 j2).2.1:=by
 have hM:(M:Int)=9218868437227405312:=rfl;have n1:=h1;have n2:=h2;unfold Ne at n1 n2;obtain⟨ka,-⟩:=vdA_kind h1 p1 n2.2.2.2.1;obtain⟨kb,-⟩:=vdB_kind h1 p1 n2.2.2.2.2
 rcases ka with ka | ka
 ·rcases kb with kb | kb
  ·rw [ka,kb,dn_zero,up_zero];refine Int.le_trans (rndI_le _) (rndI_mono (.inr rfl) ?_);have ga:=fl_nonneg (j:=max i1 0) (by omega);have gb:=fl_pos p1;have gc:=fl_le_iff.2 (show max i1 0≤j1 by omega);have gd:=fl_le_iff.2 n2.2.1
   revert ka kb
   unfold vdA vdB
   by_cases hi:0<i2
   ·rw [if_pos hi,if_neg (show ¬ j2<0 by omega)];intro ka kb;rw [prb_val ka,prb_val kb];have ci:=fl_pos hi;have m1:=mul_mono_r (c:=fl i2) gc (by grind);have m2:=mul_mono_r (c:=fl j1) gd (by grind)
    grind
   ·rw [if_neg hi]
    have ci:fl i2≤0:=by have:=fl_le_iff.2 (show i2≤0 by omega);rwa [fl_zero] at this
    by_cases hj:j2<0
    ·rw [if_pos hj];intro ka kb;rw [prb_val ka,prb_val kb]
     have cj:fl j2≤0:=by have:=fl_le_iff.2 (show j2≤0 by omega);rwa [fl_zero] at this
     have m1:=mul_mono_r (c:=-fl j2) gc (by grind);have m2:=mul_mono_r (c:=fl j1) gd (by grind)
     grind
    ·rw [if_neg hj];intro ka kb;rw [prb_val ka,prb_val kb];have m2:=mul_mono_r (c:=fl j1) gd (by grind)
     exact m2
  ·rw [kb];have:=dn_lt (s:=(vdA i1 j1 i2).1) (x:=(vdA i1 j1 i2).2.1) (.inl ka);unfold up;rw [if_neg (by omega)];omega
 ·rw [ka];unfold dn;rw [if_neg (by omega)]
  rcases kb with kb | kb
  ·rw [kb,up_zero];have:=rndI_up (vdB i1 j1 j2).2.1
   omega
  ·unfold up;rw [kb,if_neg (by omega)];omega
theorem FV_iv{i1 j1 i2 j2:Int}(h1:Ne i1 j1)(h2:Iv i2 j2)(i j:Int)(hx:Iv i j):Iv (FV i1 j1 i2 j2 i j).1 (FV i1 j1 i2 j2 i j).2:=by
 unfold FV
 by_cases h:j1≤0∨j2<i2
 ·rw [if_pos h];exact Iv.none
 ·rw [if_neg h];have n2:=ne_or h2 (by omega);have n2':=n2;unfold Ne at n2'
  exact pf_iv (vdA_kind h1 (by omega) (by omega)).1 (vdB_kind h1 (by omega) (by omega)).1 (vd_le h1 n2 (by omega)) i j hx
theorem dvd_FV{i1 j1 i2 j2 i j:Int}(h1:Ne i1 j1)(h2:Ne i2 j2)(hx:Ne i j):dvd i1 j1 i2 j2 i j=FV i1 j1 i2 j2 i j:=by
 have hM:(M:Int)=9218868437227405312:=rfl;have n1:=h1;have n2:=h2;unfold Ne at n1 n2;unfold dvd FV
 by_cases h:j1≤0
 ·rw [if_pos h,if_pos (.inl h)]
 ·rw [if_neg h,if_neg (by omega)];have z1:=rndI_zero (d:=-1) (.inl rfl);have z2:=rndI_zero (d:=1) (.inr rfl)
  have eA:pdP i1 j1 i2=(dn (vdA i1 j1 i2).1 (vdA i1 j1 i2).2.1,up (vdA i1 j1 i2).1 (vdA i1 j1 i2).2.1):=by
   unfold pdP vdA
   by_cases a:i2<0
   ·rw [if_pos a,if_neg (show ¬ 0<i2 by omega)];have m:=mu_prb (a:=i2) (b:=j1) (by omega) (by omega) (by omega);rw [m.1,m.2]
   ·rw [if_neg a]
    by_cases c:0<i2
    ·rw [if_pos c]
     by_cases f:0<i1
     ·rw [if_pos ⟨c,f⟩,show max i1 0=i1 from by omega];have m:=mu_prb (a:=i2) (b:=i1) (by omega) (by omega) (by omega);rw [m.1,m.2]
     ·rw [if_neg (by omega),show max i1 0=0 from by omega]
      have e:prb i2 0=(0,0,true):=by unfold prb;rw [if_neg (by omega),if_pos rfl]
      rw [e,dn_zero,up_zero,z1,z2]
    ·rw [if_neg (by omega),if_neg c,show i2=0 from by omega]
     have e:prb 0 j1=(0,0,false):=by unfold prb;rw [if_pos rfl]
     rw [e,dn_zero,up_zero,z1,z2]
  have eB:pdQ i1 j1 j2=(dn (vdB i1 j1 j2).1 (vdB i1 j1 j2).2.1,up (vdB i1 j1 j2).1 (vdB i1 j1 j2).2.1):=by
   unfold pdQ vdB
   by_cases a:0<j2
   ·rw [if_pos a,if_neg (show ¬ j2<0 by omega)];have m:=mu_prb (a:=j2) (b:=j1) (by omega) (by omega) (by omega);rw [m.1,m.2]
   ·rw [if_neg a]
    by_cases c:j2<0
    ·rw [if_pos c]
     by_cases f:0<i1
     ·rw [if_pos ⟨c,f⟩,show max i1 0=i1 from by omega];have m:=mu_prb (a:=j2) (b:=i1) (by omega) (by omega) (by omega);rw [m.1,m.2]
     ·rw [if_neg (by omega),show max i1 0=0 from by omega]
      have e:prb j2 0=(0,0,true):=by unfold prb;rw [if_neg (by omega),if_pos rfl]
      rw [e,dn_zero,up_zero,z1,z2]
    ·rw [if_neg (by omega),if_neg c,show j2=0 from by omega]
     have e:prb 0 j1=(0,0,false):=by unfold prb;rw [if_pos rfl]
     rw [e,dn_zero,up_zero,z1,z2]
  rw [eA,eB];obtain⟨ka,wa⟩:=vdA_kind h1 (by omega) n2.2.2.2.1;obtain⟨kb,wb⟩:=vdB_kind h1 (by omega) n2.2.2.2.2
  have hop:(!decide (i2≤0∧0≤j2))=true↔(0<i2∨j2<0):=by simp<;>omega
  refine ct_tail hx ka kb wa wb ?_ ?_
  ·rw [hop];unfold vdA
   by_cases a:0<i2
   ·rw [if_pos a]
    by_cases f:0<i1
    ·have m:=prb_kind (a:=i2) (b:=max i1 0) (by omega);rw [show max i1 0=i1 from by omega] at m ⊢
     rcases m with ⟨k,e⟩ | ⟨-,k,e⟩ | ⟨-,k,k2,e⟩ | ⟨-,k,k2,k3,e⟩
     ·omega
     ·omega
     ·exfalso
      rcases k2 with k2 | k2
      ·exact k2 (es_mid (by omega) (by omega))
      ·exact k2 (es_mid (by omega) (by omega))
     ·rw [e];have p:=mul_pos2 (fl_pos a) (fl_pos f);have q:=rndI_pos p
      constructor
      ·rintro⟨-,-,u⟩;rw [up_zero] at u;dsimp only at u;omega
      ·rintro⟨-,-,u⟩;cases u
    ·rw [show max i1 0=0 from by omega]
     have e:prb i2 0=(0,0,true):=by unfold prb;rw [if_neg (by omega),if_pos rfl]
     rw [e]
     exact⟨fun _=>⟨rfl,rfl,rfl⟩,fun _=>⟨.inl a,by rw [dn_zero];exact z1,by rw [up_zero];exact z2⟩⟩
   ·rw [if_neg a]
    rcases prb_kind (a:=i2) (b:=j1) (by omega) with ⟨k,e⟩ | ⟨-,k,e⟩ | ⟨k0,k,k2,e⟩ | ⟨k0,k,k2,k3,e⟩
    ·rw [e]
     constructor
     ·rintro⟨u,-⟩;omega
     ·rintro⟨-,-,u⟩;cases u
    ·omega
    ·rw [e,if_neg a]
     constructor
     ·rintro⟨-,u,-⟩;unfold dn at u;rw [if_neg (by omega)] at u;omega
     ·rintro⟨u,-⟩;omega
    ·rw [e]
     constructor
     ·rintro⟨-,u,-⟩;have p:=mul_pos2 (a:=-fl i2) (by have:=fl_neg_lt (show i2<0 by omega);grind) (fl_pos k);have q:=rndI_neg' (x:=fl i2*fl j1) (by grind);rw [dn_zero] at u;dsimp only at u;omega
     ·rintro⟨-,-,u⟩;cases u
  ·rw [hop];unfold vdB
   by_cases a:j2<0
   ·rw [if_pos a]
    by_cases f:0<i1
    ·have m:=prb_kind (a:=j2) (b:=max i1 0) (by omega);rw [show max i1 0=i1 from by omega] at m ⊢
     rcases m with ⟨k,e⟩ | ⟨-,k,e⟩ | ⟨-,k,k2,e⟩ | ⟨-,k,k2,k3,e⟩
     ·omega
     ·omega
     ·exfalso
      rcases k2 with k2 | k2
      ·exact k2 (es_mid (by omega) (by omega))
      ·exact k2 (es_mid (by omega) (by omega))
     ·rw [e];have p:=mul_pos2 (a:=-fl j2) (by have:=fl_neg_lt a;grind) (fl_pos f);have q:=rndI_neg' (x:=fl j2*fl i1) (by grind)
      constructor
      ·rintro⟨-,u,-⟩;rw [dn_zero] at u;dsimp only at u;omega
      ·rintro⟨-,-,u⟩;cases u
    ·rw [show max i1 0=0 from by omega]
     have e:prb j2 0=(0,0,true):=by unfold prb;rw [if_neg (by omega),if_pos rfl]
     rw [e]
     exact⟨fun _=>⟨rfl,rfl,rfl⟩,fun _=>⟨.inr a,by rw [dn_zero];exact z1,by rw [up_zero];exact z2⟩⟩
   ·rw [if_neg a]
    rcases prb_kind (a:=j2) (b:=j1) (by omega) with ⟨k,e⟩ | ⟨-,k,e⟩ | ⟨k0,k,k2,e⟩ | ⟨k0,k,k2,k3,e⟩
    ·rw [e]
     constructor
     ·rintro⟨u,-⟩;omega
     ·rintro⟨-,-,u⟩;cases u
    ·omega
    ·rw [e,if_pos (show 0<j2 by omega)]
     constructor
     ·rintro⟨-,u,-⟩;unfold dn at u;rw [if_neg (by omega)] at u;omega
     ·rintro⟨u,-⟩;omega
    ·rw [e]
     constructor
     ·rintro⟨-,-,u⟩;have q:=rndI_pos (mul_pos2 (fl_pos (show 0<j2 by omega)) (fl_pos k));rw [up_zero] at u;dsimp only at u;omega
     ·rintro⟨-,-,u⟩;cases u
theorem mu_rng{d a b:Int}(hd:d=-1∨d=1):-(M:Int)≤mu d a b∧mu d a b≤M:=by
 have hM:(M:Int)=9218868437227405312:=rfl;unfold mu;have h1:=rndI_down (fl a*fl b);have h2:=rndI_up (fl a*fl b)
 split
 ·split<;>omega
 ·rcases hd with rfl | rfl<;>omega
theorem product_any(a b:Int)(w:World)(ha:-(M:Int)≤a∧a≤M)(hb:-(M:Int)≤b∧b≤M)(na:a≠0)(nb:b≠0):
  Calls Tryz.prog 78 #[.float .f64 (pat a),.float .f64 (pat b)] w fun e w'=>e=.returned (.agg #[.float .f64 (pat (mu (-1) a b)),.float .f64 (pat (mu 1 a b))])∧Below w.heap.size w w':=
 product_walk _ _ _ _ w (fun W=>rmul_pat (-1) a b W (.inl rfl) ha hb na nb) (fun W=>rmul_pat 1 a b W (.inr rfl) ha hb na nb)
theorem dividend_any(i1 j1 i2 j2 i j:Int)(w:World)(h1:Ne i1 j1)(h2:Ne i2 j2)(hx:Ne i j):
  Calls Tryz.prog 86 #[.agg #[.float .f64 (pat i1),.float .f64 (pat j1)],.agg #[.float .f64 (pat i2),.float .f64 (pat j2)],.agg #[.float .f64 (pat i),.float .f64 (pat j)]] w fun e w'=>
   e=.returned (.agg #[.float .f64 (pat (FV i1 j1 i2 j2 i j).1),.float .f64 (pat (FV i1 j1 i2 j2 i j).2)])∧Below w.heap.size w w':=by
 have hM:(M:Int)=9218868437227405312:=rfl;rw [← dvd_FV h1 h2 hx];have r1:=h1.iv.lo;have r2:=h1.iv.hi;have r3:=h2.iv.lo;have r4:=h2.iv.hi;unfold dvd
 by_cases h:j1≤0
 ·rw [if_pos h,pat_max,pat_min];refine dividend_none _ _ _ _ _ _ w ?_
  by_cases h0:j1=0
  ·exact .inl (ord0_eq h0)
  ·exact .inr (ord0_lt r2 (by omega))
 ·rw [if_neg h];have hmx:=fun W ts t=>run_maxf r1 (show -(M:Int)≤0∧(0:Int)≤M by omega) W ts t;rw [pat_zero] at hmx
  have rF:-(M:Int)≤max i1 0∧max i1 0≤M:=by omega
  have gP:(-(M:Int)≤(pdP i1 j1 i2).1∧(pdP i1 j1 i2).1≤M)∧(-(M:Int)≤(pdP i1 j1 i2).2∧(pdP i1 j1 i2).2≤M):=by
   have a1:=mu_rng (d:=-1) (a:=i2) (b:=j1) (.inl rfl);have a2:=mu_rng (d:=1) (a:=i2) (b:=j1) (.inr rfl);have a3:=mu_rng (d:=-1) (a:=i2) (b:=i1) (.inl rfl);have a4:=mu_rng (d:=1) (a:=i2) (b:=i1) (.inr rfl);unfold pdP
   split
   ·exact⟨a1,a2⟩
   ·split
    ·exact⟨a3,a4⟩
    ·dsimp only;omega
  have gQ:(-(M:Int)≤(pdQ i1 j1 j2).1∧(pdQ i1 j1 j2).1≤M)∧(-(M:Int)≤(pdQ i1 j1 j2).2∧(pdQ i1 j1 j2).2≤M):=by
   have a1:=mu_rng (d:=-1) (a:=j2) (b:=j1) (.inl rfl);have a2:=mu_rng (d:=1) (a:=j2) (b:=j1) (.inr rfl);have a3:=mu_rng (d:=-1) (a:=j2) (b:=i1) (.inl rfl);have a4:=mu_rng (d:=1) (a:=j2) (b:=i1) (.inr rfl);unfold pdQ
   split
   ·exact⟨a1,a2⟩
   ·split
    ·exact⟨a3,a4⟩
    ·dsimp only;omega
  refine dividend_walk _ _ _ _ _ _ (pat (max i1 0)) (pat (pdP i1 j1 i2).1) (pat (pdP i1 j1 i2).2) (pat (pdQ i1 j1 j2).1) (pat (pdQ i1 j1 j2).2) _ _ (compare (max i1 0) 0) (compare i2 0) (compare j2 0) _ w (ord0_gt r2 (by omega)) hmx (ord0 rF) (ord0 r3) (ord0 r4) ?_ ?_ (fun W=>has_any i2 j2 W r3 r4) (fun W=>rcut2_any _ i j _ _ _ _ W hx.iv.lo hx.iv.hi gP.1 gP.2 gQ.1 gQ.2)
  ·by_cases a:i2<0
   ·have e:pdP i1 j1 i2=(mu (-1) i2 j1,mu 1 i2 j1):=if_pos a;rw [e]
    exact .inl ⟨Int.compare_eq_lt.2 a,fun W=>product_any i2 j1 W r3 r2 (by omega) (by omega)⟩
   ·by_cases c:0<i2∧0<i1
    ·have e:pdP i1 j1 i2=(mu (-1) i2 i1,mu 1 i2 i1):=by unfold pdP;rw [if_neg a,if_pos c]
     rw [e,show max i1 0=i1 from by omega]
     exact .inr (.inl ⟨Int.compare_eq_gt.2 c.1,Int.compare_eq_gt.2 c.2,fun W=>product_any i2 i1 W r3 r1 (by omega) (by omega)⟩)
    ·have e:pdP i1 j1 i2=(0,0):=by unfold pdP;rw [if_neg a,if_neg c]
     rw [e];refine .inr (.inr ⟨?_,pat_zero,pat_zero⟩)
     by_cases z:i2=0
     ·exact .inl (Int.compare_eq_eq.2 z)
     ·exact .inr ⟨Int.compare_eq_gt.2 (by omega),Int.compare_eq_eq.2 (by omega)⟩
  ·by_cases a:0<j2
   ·have e:pdQ i1 j1 j2=(mu (-1) j2 j1,mu 1 j2 j1):=if_pos a;rw [e]
    exact .inl ⟨Int.compare_eq_gt.2 a,fun W=>product_any j2 j1 W r4 r2 (by omega) (by omega)⟩
   ·by_cases c:j2<0∧0<i1
    ·have e:pdQ i1 j1 j2=(mu (-1) j2 i1,mu 1 j2 i1):=by unfold pdQ;rw [if_neg a,if_pos c]
     rw [e,show max i1 0=i1 from by omega]
     exact .inr (.inl ⟨Int.compare_eq_lt.2 c.1,Int.compare_eq_gt.2 c.2,fun W=>product_any j2 i1 W r4 r1 (by omega) (by omega)⟩)
    ·have e:pdQ i1 j1 j2=(0,0):=by unfold pdQ;rw [if_neg a,if_neg c]
     rw [e];refine .inr (.inr ⟨?_,pat_zero,pat_zero⟩)
     by_cases z:j2=0
     ·exact .inl (Int.compare_eq_eq.2 z)
     ·exact .inr ⟨Int.compare_eq_lt.2 (by omega),Int.compare_eq_eq.2 (by omega)⟩
def dr1(i1 j1 i2 j2 i j:Int):Int × Int:=
 if j1<i1∨j2<i2∨j<i then ((M:Int),-(M:Int))
 else (min (FV i1 j1 i2 j2 i j).1 (-(FV (-j1) (-i1) i2 j2 (-j) (-i)).2),max (FV i1 j1 i2 j2 i j).2 (-(FV (-j1) (-i1) i2 j2 (-j) (-i)).1))
theorem divrev1_any(b1 b2 c1 c2 x y:Nat)(w:World)(hb1:b1<18446744073709551616)(hb2:b2<18446744073709551616)(hc1:c1<18446744073709551616)(hc2:c2<18446744073709551616)(hx:x<18446744073709551616)(hy:y<18446744073709551616):
  Calls Tryz.prog 26 #[.agg #[.float .f64 b1,.float .f64 b2],.agg #[.float .f64 c1,.float .f64 c2],.agg #[.float .f64 x,.float .f64 y]] w fun e w'=>
   e=.returned (.agg #[.float .f64 (pat (dr1 (rd b1 b2).1 (rd b1 b2).2 (rd c1 c2).1 (rd c1 c2).2 (rd x y).1 (rd x y).2).1),.float .f64 (pat (dr1 (rd b1 b2).1 (rd b1 b2).2 (rd c1 c2).1 (rd c1 c2).2 (rd x y).1 (rd x y).2).2)])∧Below w.heap.size w w':=by
 have hM:(M:Int)=9218868437227405312:=rfl;have v1:=rd_iv b1 b2;have v2:=rd_iv c1 c2;have v3:=rd_iv x y;have t1:=fun W=>readf b1 b2 W hb1 hb2;have t2:=fun W=>readf c1 c2 W hc1 hc2;have t3:=fun W=>readf x y W hx hy
 obtain⟨⟨i1,j1⟩,r1⟩:∃ z,rd b1 b2=z:=⟨_,rfl⟩
 obtain⟨⟨i2,j2⟩,r2⟩:∃ z,rd c1 c2=z:=⟨_,rfl⟩
 obtain⟨⟨i3,j3⟩,r3⟩:∃ z,rd x y=z:=⟨_,rfl⟩
 rw [r1] at v1 t1;rw [r2] at v2 t2;rw [r3] at v3 t3;rw [r1,r2,r3]
 dsimp only at *
 have m1:=em_idx v1;have m2:=em_idx v2;have m3:=em_idx v3;unfold dr1
 by_cases hno:j1<i1∨j2<i2∨j3<i3
 ·rw [if_pos hno,pat_max,pat_min]
  exact divrev1_none _ _ _ _ _ _ _ _ _ _ _ _ _ _ _ w t1 m1 t2 m2 t3 m3 (by simp;omega)
 ·rw [if_neg hno]
  have hnn:(decide (j1<i1) || decide (j2<i2) || decide (j3<i3))=false:=by simp;omega
  have n1:=ne_or v1 (by omega);have n2:=ne_or v2 (by omega);have n3:=ne_or v3 (by omega);have f1:=FV_iv n1 v2 i3 j3 v3;have f2:=FV_iv n1.neg v2 (-j3) (-i3) v3.negg
  exact divrev1_some _ _ _ _ _ _ _ _ _ _ _ _ _ _ _ _ _ _ _ _ _ _ _ _ _ _ _ w t1 m1 t2 m2 t3 m3 hnn (fun W=>dividend_any i1 j1 i2 j2 i3 j3 W n1 n2 n3) (fun W=>mirror_idx i1 j1 W v1) (fun W=>mirror_idx i3 j3 W v3) (fun W=>dividend_any (-j1) (-i1) i2 j2 (-j3) (-i3) W n1.neg n2 n3.neg) (fun W=>mirror_idx _ _ W f2) (fun W=>hullf _ _ _ _ W f1 f2.negg)
end Go.Proofs.YthlmlmfebpjgdaaGreatDoor
