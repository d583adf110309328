/-
Lemmas for the statement: VdP DvP ClQ HdP PnP PrT FmP RfmaT.
-/
import Derived.Test.YthlmlmfebpjgdaaGreatDoorM11
import Derived.Test.YthlmlmfebpjgdaaGreatDoorM09
import Derived.Test.YthlmlmfebpjgdaaGreatDoorM10
set_option linter.unusedSimpArgs false
set_option linter.unusedVariables false
set_option maxHeartbeats 12800000
namespace Go.Proofs.YthlmlmfebpjgdaaGreatDoor
section
open Go.RowKit
def prb(a b:Int):Int × Rat × Bool:=if a=0 then (0,0,false) else if b=0 then (0,0,true) else if es a≠0\/es b≠0 then ((if 0<a then 1 else -1),0,true) else (0,fl a*fl b,false)
def vdA(i1 j1 i2:Int):Int × Rat × Bool:=if 0<i2 then prb i2 (max i1 0) else prb i2 j1
def vdB(i1 j1 j2:Int):Int × Rat × Bool:=if j2<0 then prb j2 (max i1 0) else prb j2 j1
def FV(i1 j1 i2 j2:Int)(i j:Int):Int × Int:=
 if j1<=0\/j2<i2 then ((M:Int),-(M:Int)) else pf (vdA i1 j1 i2).1 (vdA i1 j1 i2).2.1 (vdA i1 j1 i2).2.2 (vdB i1 j1 j2).1 (vdB i1 j1 j2).2.1 (vdB i1 j1 j2).2.2 i j
def pdP(i1 j1 i2:Int):Int × Int:=if i2<0 then (mu (-1) i2 j1,mu 1 i2 j1) else if 0<i2/\0<i1 then (mu (-1) i2 i1,mu 1 i2 i1) else (0,0)
def pdQ(i1 j1 j2:Int):Int × Int:=if 0<j2 then (mu (-1) j2 j1,mu 1 j2 j1) else if j2<0/\0<i1 then (mu (-1) j2 i1,mu 1 j2 i1) else (0,0)
def dvd(i1 j1 i2 j2:Int)(i j:Int):Int × Int:=
 if j1<=0 then ((M:Int),-(M:Int)) else ctO (!decide (i2<=0/\0<=j2)) i j (pdP i1 j1 i2).1 (pdP i1 j1 i2).2 (pdQ i1 j1 j2).1 (pdQ i1 j1 j2).2
theorem fl_neg_lt{j:Int}(h:j<0):fl j<0:=by have:=fl_lt_iff.2 h;rwa [fl_zero] at this
theorem mu_prb{a b:Int}(ha:-(M:Int)<=a/\a<=M)(hb:0<b/\b<=M)(na:a≠0):mu (-1) a b=dn (prb a b).1 (prb a b).2.1/\mu 1 a b=up (prb a b).1 (prb a b).2.1:=by
 have hM:=M_val;unfold prb mu;rw [if_neg na,if_neg (show ¬ b=0 by omega)]
 by_cases h:a=M\/a=-(M:Int)\/b=M\/b=-(M:Int)
 ·have h2:es a≠0\/es b≠0:=by
   rcases h with h | h | h | h
   ·left;rw [h,es_max];omega
   ·left;rw [h,es_min];omega
   ·right;rw [h,es_max];omega
   ·omega
  rw [if_pos h,if_pos h,if_pos h2];rw [decide_eq_false (show ¬ b<0 by omega)]
  by_cases h3:0<a
  ·rw [decide_eq_false (show ¬ a<0 by omega),if_pos h3]
   have d1:(M:Int)=dn 1 0:=by unfold dn;rw [if_neg (by omega)];omega
   have u1:(M:Int)=up 1 0:=by unfold up;rw [if_neg (by omega)];omega
   exact⟨d1,u1⟩
  ·rw [decide_eq_true (show a<0 by omega),if_neg h3]
   have d1:-(M:Int)=dn (-1) 0:=by unfold dn;rw [if_neg (by omega)];omega
   have u1:-(M:Int)=up (-1) 0:=by unfold up;rw [if_neg (by omega)];omega
   exact⟨d1,u1⟩
 ·have h2:¬ (es a≠0\/es b≠0):=by
   rw [es_mid (by omega) (by omega),es_mid (by omega) (by omega)];omega
  rw [if_neg h,if_neg h,if_neg h2]
  exact⟨rfl,rfl⟩
theorem prb_kind{a b:Int}(hb:0<=b):(a=0/\prb a b=(0,0,false))\/(a≠0/\b=0/\prb a b=(0,0,true))\/(a≠0/\0<b/\(es a≠0\/es b≠0)/\prb a b=((if 0<a then 1 else -1),0,true))\/(a≠0/\0<b/\es a=0/\es b=0/\prb a b=(0,fl a*fl b,false)):=by
 unfold prb
 by_cases h:a=0
 ·exact .inl ⟨h,if_pos h⟩
 ·rw [if_neg h]
  by_cases h2:b=0
  ·exact .inr (.inl ⟨h,h2,if_pos h2⟩)
  ·rw [if_neg h2]
   by_cases h3:es a≠0\/es b≠0
   ·exact .inr (.inr (.inl ⟨h,by omega,h3,if_pos h3⟩))
   ·exact .inr (.inr (.inr ⟨h,by omega,by omega,by omega,if_neg h3⟩))
theorem prb_val{a b:Int}(h:(prb a b).1=0):(prb a b).2.1=fl a*fl b:=by
 revert h
 unfold prb
 by_cases h1:a=0
 ·subst h1;rw [if_pos rfl,fl_zero];intro _;grind
 ·rw [if_neg h1]
  by_cases h2:b=0
  ·subst h2;rw [if_pos rfl,fl_zero];intro _;grind
  ·rw [if_neg h2]
   by_cases h3:es a≠0\/es b≠0
   ·rw [if_pos h3];intro h
    exfalso
    dsimp only at h
    split at h<;>omega
   ·rw [if_neg h3];intro _;rfl
theorem mul_mono_r{a b c:Rat}(h:a<=b)(hc:0<=c):a*c<=b*c:=by
 by_cases h0:c=0
 ·subst h0;grind
 ·exact (mul_le_pos (by grind)).2 h
theorem mul_pos2{a b:Rat}(ha:0<a)(hb:0<b):0<a*b:=by
 have h:=(mul_le_pos (a:=a*b) (b:=0) hb)
 have h2:=(mul_le_pos (a:=a) (b:=0) hb)
 by_cases c:a*b<=0
 ·exfalso
  have:=h2.1 (by grind)
  grind
 ·grind
theorem vdA_kind{i1 j1 i2:Int}(h1:Ne i1 j1)(p1:0<j1)(h2:i2<M):
  ((vdA i1 j1 i2).1=0\/(vdA i1 j1 i2).1=-1)/\((vdA i1 j1 i2).2.2=true->(vdA i1 j1 i2).1=-1\/(vdA i1 j1 i2).1=0/\(vdA i1 j1 i2).2.1=0):=by
 have hM:=M_val;unfold Ne at h1;unfold vdA
 by_cases h:0<i2
 ·rw [if_pos h]
  rcases prb_kind (a:=i2) (b:=max i1 0) (by omega) with ⟨k,e⟩ | ⟨-,k,e⟩ | ⟨-,k,k2,e⟩ | ⟨-,k,k2,k3,e⟩
  ·omega
  ·rw [e];exact⟨.inl rfl,fun _=>.inr ⟨rfl,rfl⟩⟩
  ·exfalso
   rcases k2 with k2 | k2
   ·exact k2 (es_mid (by omega) (by omega))
   ·exact k2 (es_mid (by omega) (by omega))
  ·rw [e];exact⟨.inl rfl,fun h=>by cases h⟩
 ·rw [if_neg h]
  rcases prb_kind (a:=i2) (b:=j1) (by omega) with ⟨k,e⟩ | ⟨-,k,e⟩ | ⟨-,k,k2,e⟩ | ⟨-,k,k2,k3,e⟩
  ·rw [e];exact⟨.inl rfl,fun h=>by cases h⟩
  ·omega
  ·rw [e,if_neg h];exact⟨.inr rfl,fun _=>.inl rfl⟩
  ·rw [e];exact⟨.inl rfl,fun h=>by cases h⟩
theorem vdB_kind{i1 j1 j2:Int}(h1:Ne i1 j1)(p1:0<j1)(h2:-(M:Int)<j2):
  ((vdB i1 j1 j2).1=0\/(vdB i1 j1 j2).1=1)/\((vdB i1 j1 j2).2.2=true->(vdB i1 j1 j2).1=1\/(vdB i1 j1 j2).1=0/\(vdB i1 j1 j2).2.1=0):=by
 have hM:=M_val;unfold Ne at h1;unfold vdB
 by_cases h:j2<0
 ·rw [if_pos h]
  rcases prb_kind (a:=j2) (b:=max i1 0) (by omega) with ⟨k,e⟩ | ⟨-,k,e⟩ | ⟨-,k,k2,e⟩ | ⟨-,k,k2,k3,e⟩
  ·omega
  ·rw [e];exact⟨.inl rfl,fun _=>.inr ⟨rfl,rfl⟩⟩
  ·exfalso
   rcases k2 with k2 | k2
   ·exact k2 (es_mid (by omega) (by omega))
   ·exact k2 (es_mid (by omega) (by omega))
  ·rw [e];exact⟨.inl rfl,fun h=>by cases h⟩
 ·rw [if_neg h]
  rcases prb_kind (a:=j2) (b:=j1) (by omega) with ⟨k,e⟩ | ⟨-,k,e⟩ | ⟨k0,k,k2,e⟩ | ⟨-,k,k2,k3,e⟩
  ·rw [e];exact⟨.inl rfl,fun h=>by cases h⟩
  ·omega
  ·rw [e,if_pos (by omega)];exact⟨.inr rfl,fun _=>.inl rfl⟩
  ·rw [e];exact⟨.inl rfl,fun h=>by cases h⟩
theorem vd_le{i1 j1 i2 j2:Int}(h1:Ne i1 j1)(h2:Ne i2 j2)(p1:0<j1):dn (vdA i1 j1 i2).1 (vdA i1 j1 i2).2.1<=up (vdB i1 j1 j2).1 (vdB i1 j1 j2).2.1:=by
 have hM:=M_val;have n1:=h1;have n2:=h2;unfold Ne at n1 n2;obtain⟨ka,-⟩:=vdA_kind h1 p1 n2.2.2.2.1;obtain⟨kb,-⟩:=vdB_kind h1 p1 n2.2.2.2.2
 rcases ka with ka | ka
 ·rcases kb with kb | kb
  ·rw [ka,kb,dn_zero,up_zero];refine Int.le_trans (rndI_le _) (rndI_mono (.inr rfl) ?_);have ga:=fl_nonneg (j:=max i1 0) (by omega);have gb:=fl_pos p1;have gc:=fl_le_iff.2 (show max i1 0<=j1 by omega);have gd:=fl_le_iff.2 n2.2.1
   revert ka kb
   unfold vdA vdB
   by_cases hi:0<i2
   ·rw [if_pos hi,if_neg (show ¬ j2<0 by omega)];intro ka kb;rw [prb_val ka,prb_val kb];have ci:=fl_pos hi;have m1:=mul_mono_r (c:=fl i2) gc (by grind);have m2:=mul_mono_r (c:=fl j1) gd (by grind)
    grind
   ·rw [if_neg hi]
    have ci:fl i2<=0:=by have:=fl_le_iff.2 (show i2<=0 by omega);rwa [fl_zero] at this
    by_cases hj:j2<0
    ·rw [if_pos hj];intro ka kb;rw [prb_val ka,prb_val kb]
     have cj:fl j2<=0:=by have:=fl_le_iff.2 (show j2<=0 by omega);rwa [fl_zero] at this
     have m1:=mul_mono_r (c:=-fl j2) gc (by grind);have m2:=mul_mono_r (c:=fl j1) gd (by grind)
     grind
    ·rw [if_neg hj];intro ka kb;rw [prb_val ka,prb_val kb];have m2:=mul_mono_r (c:=fl j1) gd (by grind)
     exact m2
  ·rw [kb];have:=dn_lt (s:=(vdA i1 j1 i2).1) (x:=(vdA i1 j1 i2).2.1) (.inl ka);unfold up;rw [if_neg (by omega)];omega
 ·rw [ka];unfold dn;rw [if_neg (by omega)]
  rcases kb with kb | kb
  ·rw [kb,up_zero];have:=rndI_up (vdB i1 j1 j2).2.1
   omega
  ·unfold up;rw [kb,if_neg (by omega)];omega
theorem FV_iv{i1 j1 i2 j2:Int}(h1:Ne i1 j1)(h2:Iv i2 j2)(i j:Int)(hx:Iv i j):Iv (FV i1 j1 i2 j2 i j).1 (FV i1 j1 i2 j2 i j).2:=by
 unfold FV
 by_cases h:j1<=0\/j2<i2
 ·rw [if_pos h];exact Iv.none
 ·rw [if_neg h];have n2:=ne_or h2 (by omega);have n2':=n2;unfold Ne at n2'
  exact pf_iv (vdA_kind h1 (by omega) (by omega)).1 (vdB_kind h1 (by omega) (by omega)).1 (vd_le h1 n2 (by omega)) i j hx
theorem dvd_FV{i1 j1 i2 j2 i j:Int}(h1:Ne i1 j1)(h2:Ne i2 j2)(hx:Ne i j):dvd i1 j1 i2 j2 i j=FV i1 j1 i2 j2 i j:=by
 have hM:=M_val;have n1:=h1;have n2:=h2;unfold Ne at n1 n2;unfold dvd FV
 by_cases h:j1<=0
 ·rw [if_pos h,if_pos (.inl h)]
 ·rw [if_neg h,if_neg (by omega)];have z1:=rndI_zero (d:=-1) (.inl rfl);have z2:=rndI_zero (d:=1) (.inr rfl)
  have eA:pdP i1 j1 i2=(dn (vdA i1 j1 i2).1 (vdA i1 j1 i2).2.1,up (vdA i1 j1 i2).1 (vdA i1 j1 i2).2.1):=by
   unfold pdP vdA
   by_cases a:i2<0
   ·rw [if_pos a,if_neg (show ¬ 0<i2 by omega)];have m:=mu_prb (a:=i2) (b:=j1) (by omega) (by omega) (by omega);rw [m.1,m.2]
   ·rw [if_neg a]
    by_cases c:0<i2
    ·rw [if_pos c]
     by_cases f:0<i1
     ·rw [if_pos ⟨c,f⟩,show max i1 0=i1 from by omega];have m:=mu_prb (a:=i2) (b:=i1) (by omega) (by omega) (by omega);rw [m.1,m.2]
     ·rw [if_neg (by omega),show max i1 0=0 from by omega]
      have e:prb i2 0=(0,0,true):=by unfold prb;rw [if_neg (by omega),if_pos rfl]
      rw [e,dn_zero,up_zero,z1,z2]
    ·rw [if_neg (by omega),if_neg c,show i2=0 from by omega]
     have e:prb 0 j1=(0,0,false):=by unfold prb;rw [if_pos rfl]
     rw [e,dn_zero,up_zero,z1,z2]
  have eB:pdQ i1 j1 j2=(dn (vdB i1 j1 j2).1 (vdB i1 j1 j2).2.1,up (vdB i1 j1 j2).1 (vdB i1 j1 j2).2.1):=by
   unfold pdQ vdB
   by_cases a:0<j2
   ·rw [if_pos a,if_neg (show ¬ j2<0 by omega)];have m:=mu_prb (a:=j2) (b:=j1) (by omega) (by omega) (by omega);rw [m.1,m.2]
   ·rw [if_neg a]
    by_cases c:j2<0
    ·rw [if_pos c]
     by_cases f:0<i1
     ·rw [if_pos ⟨c,f⟩,show max i1 0=i1 from by omega];have m:=mu_prb (a:=j2) (b:=i1) (by omega) (by omega) (by omega);rw [m.1,m.2]
     ·rw [if_neg (by omega),show max i1 0=0 from by omega]
      have e:prb j2 0=(0,0,true):=by unfold prb;rw [if_neg (by omega),if_pos rfl]
      rw [e,dn_zero,up_zero,z1,z2]
    ·rw [if_neg (by omega),if_neg c,show j2=0 from by omega]
     have e:prb 0 j1=(0,0,false):=by unfold prb;rw [if_pos rfl]
     rw [e,dn_zero,up_zero,z1,z2]
  rw [eA,eB];obtain⟨ka,wa⟩:=vdA_kind h1 (by omega) n2.2.2.2.1;obtain⟨kb,wb⟩:=vdB_kind h1 (by omega) n2.2.2.2.2
  have hop:(!decide (i2<=0/\0<=j2))=true↔(0<i2\/j2<0):=by simp<;>omega
  refine ct_tail hx ka kb wa wb ?_ ?_
  ·rw [hop];unfold vdA
   by_cases a:0<i2
   ·rw [if_pos a]
    by_cases f:0<i1
    ·have m:=prb_kind (a:=i2) (b:=max i1 0) (by omega);rw [show max i1 0=i1 from by omega] at m ⊢
     rcases m with ⟨k,e⟩ | ⟨-,k,e⟩ | ⟨-,k,k2,e⟩ | ⟨-,k,k2,k3,e⟩
     ·omega
     ·omega
     ·exfalso
      rcases k2 with k2 | k2
      ·exact k2 (es_mid (by omega) (by omega))
      ·exact k2 (es_mid (by omega) (by omega))
     ·rw [e];have p:=mul_pos2 (fl_pos a) (fl_pos f);have q:=rndI_pos p
      constructor
      ·rintro⟨-,-,u⟩;rw [up_zero] at u;dsimp only at u;omega
      ·rintro⟨-,-,u⟩;cases u
    ·rw [show max i1 0=0 from by omega]
     have e:prb i2 0=(0,0,true):=by unfold prb;rw [if_neg (by omega),if_pos rfl]
     rw [e]
     exact⟨fun _=>⟨rfl,rfl,rfl⟩,fun _=>⟨.inl a,by rw [dn_zero];exact z1,by rw [up_zero];exact z2⟩⟩
   ·rw [if_neg a]
    rcases prb_kind (a:=i2) (b:=j1) (by omega) with ⟨k,e⟩ | ⟨-,k,e⟩ | ⟨k0,k,k2,e⟩ | ⟨k0,k,k2,k3,e⟩
    ·rw [e]
     constructor
     ·rintro⟨u,-⟩;omega
     ·rintro⟨-,-,u⟩;cases u
    ·omega
    ·rw [e,if_neg a]
     constructor
     ·rintro⟨-,u,-⟩;unfold dn at u;rw [if_neg (by omega)] at u;omega
     ·rintro⟨u,-⟩;omega
    ·rw [e]
     constructor
     ·rintro⟨-,u,-⟩;have p:=mul_pos2 (a:=-fl i2) (by have:=fl_neg_lt (show i2<0 by omega);grind) (fl_pos k);have q:=rndI_neg' (x:=fl i2*fl j1) (by grind);rw [dn_zero] at u;dsimp only at u;omega
     ·rintro⟨-,-,u⟩;cases u
  ·rw [hop];unfold vdB
   by_cases a:j2<0
   ·rw [if_pos a]
    by_cases f:0<i1
    ·have m:=prb_kind (a:=j2) (b:=max i1 0) (by omega);rw [show max i1 0=i1 from by omega] at m ⊢
     rcases m with ⟨k,e⟩ | ⟨-,k,e⟩ | ⟨-,k,k2,e⟩ | ⟨-,k,k2,k3,e⟩
     ·omega
     ·omega
     ·exfalso
      rcases k2 with k2 | k2
      ·exact k2 (es_mid (by omega) (by omega))
      ·exact k2 (es_mid (by omega) (by omega))
     ·rw [e];have p:=mul_pos2 (a:=-fl j2) (by have:=fl_neg_lt a;grind) (fl_pos f);have q:=rndI_neg' (x:=fl j2*fl i1) (by grind)
      constructor
      ·rintro⟨-,u,-⟩;rw [dn_zero] at u;dsimp only at u;omega
      ·rintro⟨-,-,u⟩;cases u
    ·rw [show max i1 0=0 from by omega]
     have e:prb j2 0=(0,0,true):=by unfold prb;rw [if_neg (by omega),if_pos rfl]
     rw [e]
     exact⟨fun _=>⟨rfl,rfl,rfl⟩,fun _=>⟨.inr a,by rw [dn_zero];exact z1,by rw [up_zero];exact z2⟩⟩
   ·rw [if_neg a]
    rcases prb_kind (a:=j2) (b:=j1) (by omega) with ⟨k,e⟩ | ⟨-,k,e⟩ | ⟨k0,k,k2,e⟩ | ⟨k0,k,k2,k3,e⟩
    ·rw [e]
     constructor
     ·rintro⟨u,-⟩;omega
     ·rintro⟨-,-,u⟩;cases u
    ·omega
    ·rw [e,if_pos (show 0<j2 by omega)]
     constructor
     ·rintro⟨-,u,-⟩;unfold dn at u;rw [if_neg (by omega)] at u;omega
     ·rintro⟨u,-⟩;omega
    ·rw [e]
     constructor
     ·rintro⟨-,-,u⟩;have q:=rndI_pos (mul_pos2 (fl_pos (show 0<j2 by omega)) (fl_pos k));rw [up_zero] at u;dsimp only at u;omega
     ·rintro⟨-,-,u⟩;cases u
end
section
open Go.RowKit
def dvA(i1 j2:Int):Int × Rat × Bool:=if 0<i1/\j2<M then (0,fl i1 / fl j2,false) else (0,0,true)
def dvB(j1 i2:Int):Int × Rat × Bool:=if j1<M/\0<i2 then (0,fl j1 / fl i2,false) else (1,0,true)
def FD(i1 j1 i2 j2:Int)(i j:Int):Int × Int:=
 if j1<=0\/j2<=0 then ((M:Int),-(M:Int)) else pf (dvA i1 j2).1 (dvA i1 j2).2.1 (dvA i1 j2).2.2 (dvB j1 i2).1 (dvB j1 i2).2.1 (dvB j1 i2).2.2 i j
def dvs(i1 j1 i2 j2:Int)(i j:Int):Int × Int:=
 if j1<=0\/j2<=0 then ((M:Int),-(M:Int)) else
  ctO true i j (if 0<i1 then ov (es i1) (ex i1) j2 else (0,0)).1 (if 0<i1 then ov (es i1) (ex i1) j2 else (0,0)).2 (if 0<i2 then ov (es j1) (ex j1) i2 else ((M:Int),(M:Int))).1 (if 0<i2 then ov (es j1) (ex j1) i2 else ((M:Int),(M:Int))).2
theorem dvA_kind{i1 j2:Int}(h2:0<j2):(dvA i1 j2).1=0/\((dvA i1 j2).2.1=0/\(dvA i1 j2).2.2=true\/0<(dvA i1 j2).2.1/\(dvA i1 j2).2.2=false/\0<i1/\j2<M/\(dvA i1 j2).2.1=fl i1 / fl j2):=by
 unfold dvA
 by_cases h:0<i1/\j2<M
 ·rw [if_pos h];exact⟨rfl,.inr ⟨div_pos' (fl_pos h.1) (fl_pos h2),rfl,h.1,h.2,rfl⟩⟩
 ·rw [if_neg h];exact⟨rfl,.inl ⟨rfl,rfl⟩⟩
theorem dvB_kind{j1 i2:Int}(h1:0<j1):((dvB j1 i2).1=1/\(dvB j1 i2).2.1=0/\(dvB j1 i2).2.2=true)\/((dvB j1 i2).1=0/\0<(dvB j1 i2).2.1/\(dvB j1 i2).2.2=false/\0<i2/\j1<M/\(dvB j1 i2).2.1=fl j1 / fl i2):=by
 unfold dvB
 by_cases h:j1<M/\0<i2
 ·rw [if_pos h];exact .inr ⟨rfl,div_pos' (fl_pos h1) (fl_pos h.2),rfl,h.2,h.1,rfl⟩
 ·rw [if_neg h];exact .inl ⟨rfl,rfl,rfl⟩
theorem dv_le{i1 j1 i2 j2:Int}(h1:i1<=j1)(h2:i2<=j2)(p1:0<j1)(p2:0<j2):dn (dvA i1 j2).1 (dvA i1 j2).2.1<=up (dvB j1 i2).1 (dvB j1 i2).2.1:=by
 have hM:=M_val;obtain⟨a0,a⟩:=dvA_kind (i1:=i1) p2
 rcases dvB_kind (i2:=i2) p1 with ⟨b0,-,-⟩ | ⟨b0,b1,b2,b3,b4,b5⟩
 ·have:=dn_lt (s:=(dvA i1 j2).1) (x:=(dvA i1 j2).2.1) (.inl a0);unfold up;rw [b0,if_neg (by omega)];omega
 ·rw [a0,b0,dn_zero,up_zero];refine Int.le_trans (rndI_le _) (rndI_mono (.inr rfl) ?_)
  rcases a with ⟨a1,-⟩ | ⟨a1,a2,a3,a4,a5⟩
  ·rw [a1];grind
  ·rw [a5,b5];have f1:=fl_pos p2;have f2:=fl_pos b3;refine div_le_div f1 f2 ?_;have e1:fl i1<=fl j1:=fl_le_iff.2 h1;have e2:fl i2<=fl j2:=fl_le_iff.2 h2;have m1:fl i1*fl i2<=fl j1*fl i2:=(mul_le_pos f2).2 e1;have m2:fl i2*fl j1<=fl j2*fl j1:=(mul_le_pos (fl_pos p1)).2 e2
   grind
theorem FD_iv{i1 j1 i2 j2:Int}(h1:i1<=j1)(h2:i2<=j2)(i j:Int)(hx:Iv i j):Iv (FD i1 j1 i2 j2 i j).1 (FD i1 j1 i2 j2 i j).2:=by
 unfold FD
 by_cases h:j1<=0\/j2<=0
 ·rw [if_pos h];exact Iv.none
 ·rw [if_neg h];refine pf_iv (.inl (dvA_kind (i1:=i1) (show 0<j2 by omega)).1) ?_ (dv_le h1 h2 (by omega) (by omega)) i j hx
  rcases dvB_kind (j1:=j1) (i2:=i2) (by omega) with k | k<;>omega
theorem dvs_FD{i1 j1 i2 j2 i j:Int}(h1:Ne i1 j1)(h2:Ne i2 j2)(hx:Ne i j):dvs i1 j1 i2 j2 i j=FD i1 j1 i2 j2 i j:=by
 have hM:=M_val;unfold Ne at *;unfold dvs FD
 by_cases h:j1<=0\/j2<=0
 ·rw [if_pos h,if_pos h]
 ·rw [if_neg h,if_neg h];have z1:=rndI_zero (d:=-1) (.inl rfl);have z2:=rndI_zero (d:=1) (.inr rfl)
  have eA:(if 0<i1 then ov (es i1) (ex i1) j2 else (0,0))=(dn (dvA i1 j2).1 (dvA i1 j2).2.1,up (dvA i1 j2).1 (dvA i1 j2).2.1):=by
   by_cases p:0<i1
   ·rw [if_pos p,es_mid (by omega) (by omega),ex_mid (by omega) (by omega)];unfold ov;rw [if_neg (by omega)]
    by_cases q:j2<M
    ·have d:dvA i1 j2=(0,fl i1 / fl j2,false):=if_pos ⟨p,q⟩;rw [d,if_neg (by have:=fl_pos p;rintro (h | h);grind;omega)];rfl
    ·have d:dvA i1 j2=(0,0,true):=if_neg (by omega);rw [d,if_pos (.inr (by omega)),dn_zero,up_zero,z1,z2]
   ·have d:dvA i1 j2=(0,0,true):=if_neg (by omega);rw [d,if_neg p,dn_zero,up_zero,z1,z2]
  have eB:(if 0<i2 then ov (es j1) (ex j1) i2 else ((M:Int),(M:Int)))=(dn (dvB j1 i2).1 (dvB j1 i2).2.1,up (dvB j1 i2).1 (dvB j1 i2).2.1):=by
   have u1:dn 1 0=M:=by unfold dn;rw [if_neg (by omega)];omega
   have u2:up 1 0=M:=by unfold up;rw [if_neg (by omega)];omega
   by_cases p:0<i2
   ·rw [if_pos p];unfold ov
    by_cases q:j1<M
    ·have d:dvB j1 i2=(0,fl j1 / fl i2,false):=if_pos ⟨q,p⟩;rw [d,es_mid (by omega) (by omega),ex_mid (by omega) (by omega),if_neg (by omega),if_neg (by have:=fl_pos (show 0<j1 by omega);rintro (h | h);grind;omega)];rfl
    ·have d:dvB j1 i2=(1,0,true):=if_neg (by omega)
     obtain rfl:j1=M:=by omega
     rw [d,es_max,if_pos (by omega),u1,u2,Int.one_mul]
   ·have d:dvB j1 i2=(1,0,true):=if_neg (by omega);rw [d,if_neg p,u1,u2]
  rw [eA,eB];obtain⟨a0,a⟩:=dvA_kind (i1:=i1) (show 0<j2 by omega);have b:=dvB_kind (j1:=j1) (i2:=i2) (by omega)
  obtain⟨⟨sa,xa,fa⟩,ea⟩:∃ z,dvA i1 j2=z:=⟨_,rfl⟩
  obtain⟨⟨sb,xb,fb⟩,eb⟩:∃ z,dvB j1 i2=z:=⟨_,rfl⟩
  rw [ea] at a0 a;rw [eb] at b;rw [ea,eb]
  dsimp only at *
  subst a0;refine ct_tail hx (.inl rfl) (by rcases b with b | b<;>omega) ?_ ?_ ?_ ?_
  ·intro h;rcases a with ⟨a1,-⟩ | ⟨-,a1,-⟩
   ·exact .inr ⟨rfl,a1⟩
   ·rw [a1] at h;cases h
  ·intro h;rcases b with ⟨b1,-,-⟩ | ⟨-,-,b1,-⟩
   ·exact .inl b1
   ·rw [b1] at h;cases h
  ·rw [dn_zero,up_zero]
   rcases a with ⟨a1,a2⟩ | ⟨a1,a2,-⟩
   ·rw [a1,a2,z1,z2];simp
   ·constructor
    ·rintro⟨-,-,h⟩;have:=rndI_pos a1;omega
    ·rintro⟨-,h,-⟩;exfalso;grind
  ·rcases b with ⟨b1,b2,b3⟩ | ⟨b1,b2,b3,-⟩
   ·rw [b1]
    constructor
    ·rintro⟨-,h,-⟩;unfold dn at h;rw [if_neg (by omega)] at h;omega
    ·rintro⟨h,-⟩;omega
   ·rw [b1,up_zero]
    constructor
    ·rintro⟨-,-,h⟩;have:=rndI_pos b2;omega
    ·rintro⟨-,h,-⟩;exfalso;grind
end
theorem q_od{s1 s2:Int}{x1 x2:Rat}{b1 b2:Int}(hs1:s1=0\/s1=-1)(hx1:s1≠0->x1=0)(hs2:s2=0\/s2=1)(hx2:s2≠0->x2=0)(hle:s1=0->s2=0->x1<=x2)(hb:b1<=b2)(h2:0<b2)(h3:b2<=M)(h1:b1<M):
  Od (qA s1 x1 b1 b2).1 (qA s1 x1 b1 b2).2.1 (qA s1 x1 b1 b2).2.2 (qB s2 x2 b1 b2).1 (qB s2 x2 b1 b2).2.1 (qB s2 x2 b1 b2).2.2:=by
 have hM:=M_val;have ka:=qA_kind hs1 hx1 hb h2 h3 h1;have kb:=qB_kind hs2 hx2 hb h2 h3 h1;have f2:=fl_pos h2;intro y1 y2
 rcases ka with ⟨a1,-,-,-⟩ | ⟨a1,a2,-,a4,a5⟩ | ⟨a1,a2,a3,a4⟩ | ⟨a1,a0,a3,a4,a5⟩
 ·omega
 all_goals rcases kb with ⟨c1,-,-,-⟩ | ⟨c1,c2,-,c4,c5⟩ | ⟨c1,c2,c3,c4⟩ | ⟨c1,c0,c3,c4,c5⟩
 all_goals first
  | omega
  | skip
 ·have p:=esx_pos hs1 a4;have q:=esx_lt hs2 c4;have:=hle p.1 q.1;exfalso;grind
 ·have p:=esx_pos hs1 a4;have q:=(esx_zero hx2).1 c4;have:=hle p.1 q.1;exfalso;grind
 ·have p:=esx_pos hs1 a4;have:=hle p.1 c3
  left
  rcases c5 with ⟨d1,d2,d3⟩ | ⟨d1,d2,d3⟩
  ·exfalso;grind
  ·rw [a2,d3];exact div_pos' d1 (fl_pos d2)
 ·have p:=(esx_zero hx1).1 a4;have q:=esx_lt hs2 c4;have:=hle p.1 q.1;exfalso;grind
 ·right
  rw [a2,c2];exact⟨rfl,a3,c3⟩
 ·have p:=(esx_zero hx1).1 a4;have:=hle p.1 c3
  left
  rcases c5 with ⟨d1,d2,d3⟩ | ⟨d1,d2,d3⟩
  ·exfalso;grind
  ·rw [a2,d3];exact div_pos' d1 (fl_pos d2)
 ·have q:=esx_lt hs2 c4;have:=hle a3 q.1
  left
  rcases a5 with ⟨d1,d2,d3⟩ | ⟨d1,d2,d3⟩
  ·exfalso;grind
  ·rw [c2,d3];exact div_neg' d1 (fl_pos d2)
 ·have q:=(esx_zero hx2).1 c4;have:=hle a3 q.1
  left
  rcases a5 with ⟨d1,d2,d3⟩ | ⟨d1,d2,d3⟩
  ·exfalso;grind
  ·rw [c2,d3];exact div_neg' d1 (fl_pos d2)
 ·have hh:=hle a3 c3;have fb:0<b1->fl b1<=fl b2:=fun _=>fl_le_iff.2 hb
  have le:(qA s1 x1 b1 b2).2.1<=(qB s2 x2 b1 b2).2.1:=by
   rcases a5 with ⟨d1,d2,d3⟩ | ⟨d1,d2,d3⟩
   ·rcases c5 with ⟨e1,e2,e3⟩ | ⟨e1,e2,e3⟩
    ·exfalso;grind
    ·rw [d3,e3];have f1:=fl_pos e2;refine div_le_div f2 f1 ?_;have m1:x1*fl b1<=x2*fl b1:=(mul_le_pos f1).2 hh;have m2:fl b1*x2<=fl b2*x2:=(mul_le_pos e1).2 (fb e2)
     grind
   ·have f1:=fl_pos d2
    rcases c5 with ⟨e1,e2,e3⟩ | ⟨e1,e2,e3⟩
    ·rw [d3,e3];refine div_le_div f1 f2 ?_;have m1:x1*fl b2<=x2*fl b2:=(mul_le_pos f2).2 hh;have m2:fl b1*(-x2)<=fl b2*(-x2):=(mul_le_pos (by grind)).2 (fb d2)
     grind
    ·rw [d3,e3];have:=div_neg' d1 f1;have:=div_pos' e1 f1
     grind
  by_cases e:(qA s1 x1 b1 b2).2.1=(qB s2 x2 b1 b2).2.1
  ·exact .inr ⟨e,a0,c0⟩
  ·exact .inl (by grind)
theorem Cl.PF{b1 b2 s1 s2:Int}{x1 x2:Rat}(k:NumOk s1 x1 s2 x2)(hb:Ne b1 b2):Cl (Go.Proofs.YthlmlmfebpjgdaaGreatDoor.PF b1 b2 s1 x1 s2 x2):=by
 by_cases h:b2<=0
 ·have e:Go.Proofs.YthlmlmfebpjgdaaGreatDoor.PF b1 b2 s1 x1 s2 x2=fun _ _=>((M:Int),-(M:Int)):=by funext i j;unfold Go.Proofs.YthlmlmfebpjgdaaGreatDoor.PF;rw [if_pos h]
  rw [e];exact Cl.none
 ·have e:Go.Proofs.YthlmlmfebpjgdaaGreatDoor.PF b1 b2 s1 x1 s2 x2=Go.Proofs.YthlmlmfebpjgdaaGreatDoor.pf (qA s1 x1 b1 b2).1 (qA s1 x1 b1 b2).2.1 (qA s1 x1 b1 b2).2.2 (qB s2 x2 b1 b2).1 (qB s2 x2 b1 b2).2.1 (qB s2 x2 b1 b2).2.2:=by funext i j;unfold Go.Proofs.YthlmlmfebpjgdaaGreatDoor.PF;rw [if_neg h]
  rw [e];unfold Ne at hb;refine Cl.pf ?_ ?_ (q_od k.a1 k.a2 k.b1 k.b2 k.le hb.2.1 (by omega) hb.2.2.1 hb.2.2.2.1)
  ·rcases qA_kind k.a1 k.a2 hb.2.1 (by omega) hb.2.2.1 hb.2.2.2.1 with k | k | k | k<;>omega
  ·rcases qB_kind k.b1 k.b2 hb.2.1 (by omega) hb.2.2.1 hb.2.2.2.1 with k | k | k | k<;>omega
theorem Cl.fa{b1 b2 s1 s2:Int}{x1 x2:Rat}(k:NumOk s1 x1 s2 x2)(hb:Ne b1 b2):Cl (Go.Proofs.YthlmlmfebpjgdaaGreatDoor.fa b1 b2 s1 x1 s2 x2):=by
 by_cases h:(b1<=0/\0<=b2)/\esx s1 x1<=0/\0<=esx s2 x2
 ·have e:Go.Proofs.YthlmlmfebpjgdaaGreatDoor.fa b1 b2 s1 x1 s2 x2=fun i j=>(i,j):=by funext i j;unfold Go.Proofs.YthlmlmfebpjgdaaGreatDoor.fa;rw [if_pos h]
  rw [e];exact Cl.id
 ·have e:Go.Proofs.YthlmlmfebpjgdaaGreatDoor.fa b1 b2 s1 x1 s2 x2=fun i j=>(min (Go.Proofs.YthlmlmfebpjgdaaGreatDoor.PF b1 b2 s1 x1 s2 x2 i j).1 (-(Go.Proofs.YthlmlmfebpjgdaaGreatDoor.PF (-b2) (-b1) s1 x1 s2 x2 (-j) (-i)).2),max (Go.Proofs.YthlmlmfebpjgdaaGreatDoor.PF b1 b2 s1 x1 s2 x2 i j).2 (-(Go.Proofs.YthlmlmfebpjgdaaGreatDoor.PF (-b2) (-b1) s1 x1 s2 x2 (-j) (-i)).1)):=by funext i j;unfold Go.Proofs.YthlmlmfebpjgdaaGreatDoor.fa;rw [if_neg h]
  rw [e]
  exact (Cl.PF k hb).hull (Cl.PF k hb.neg).ng
theorem dv_od{i1 j1 i2 j2:Int}(h1:i1<=j1)(h2:i2<=j2)(p1:0<j1)(p2:0<j2):Od (dvA i1 j2).1 (dvA i1 j2).2.1 (dvA i1 j2).2.2 (dvB j1 i2).1 (dvB j1 i2).2.1 (dvB j1 i2).2.2:=by
 have hM:=M_val;intro y1 y2;obtain⟨a0,a⟩:=dvA_kind (i1:=i1) p2
 rcases dvB_kind (i2:=i2) p1 with ⟨b0,-,-⟩ | ⟨b0,b1,b2,b3,b4,b5⟩
 ·omega
 ·rcases a with ⟨a1,-⟩ | ⟨a1,a2,a3,a4,a5⟩
  ·left;rw [a1];exact b1
  ·have le:(dvA i1 j2).2.1<=(dvB j1 i2).2.1:=by
    rw [a5,b5];have f1:=fl_pos p2;have f2:=fl_pos b3;refine div_le_div f1 f2 ?_;have e1:fl i1<=fl j1:=fl_le_iff.2 h1;have e2:fl i2<=fl j2:=fl_le_iff.2 h2;have m1:fl i1*fl i2<=fl j1*fl i2:=(mul_le_pos f2).2 e1;have m2:fl i2*fl j1<=fl j2*fl j1:=(mul_le_pos (fl_pos p1)).2 e2
    grind
   by_cases e:(dvA i1 j2).2.1=(dvB j1 i2).2.1
   ·exact .inr ⟨e,a2,b2⟩
   ·exact .inl (by grind)
theorem Cl.FD{i1 j1 i2 j2:Int}(h1:i1<=j1)(h2:i2<=j2):Cl (Go.Proofs.YthlmlmfebpjgdaaGreatDoor.FD i1 j1 i2 j2):=by
 by_cases h:j1<=0\/j2<=0
 ·have e:Go.Proofs.YthlmlmfebpjgdaaGreatDoor.FD i1 j1 i2 j2=fun _ _=>((M:Int),-(M:Int)):=by funext i j;unfold Go.Proofs.YthlmlmfebpjgdaaGreatDoor.FD;rw [if_pos h]
  rw [e];exact Cl.none
 ·have e:Go.Proofs.YthlmlmfebpjgdaaGreatDoor.FD i1 j1 i2 j2=Go.Proofs.YthlmlmfebpjgdaaGreatDoor.pf (dvA i1 j2).1 (dvA i1 j2).2.1 (dvA i1 j2).2.2 (dvB j1 i2).1 (dvB j1 i2).2.1 (dvB j1 i2).2.2:=by funext i j;unfold Go.Proofs.YthlmlmfebpjgdaaGreatDoor.FD;rw [if_neg h]
  rw [e];refine Cl.pf (.inl (dvA_kind (i1:=i1) (show 0<j2 by omega)).1) ?_ (dv_od h1 h2 (by omega) (by omega))
  rcases dvB_kind (j1:=j1) (i2:=i2) (by omega) with k | k<;>omega
theorem vd_od{i1 j1 i2 j2:Int}(h1:Ne i1 j1)(h2:Ne i2 j2)(p1:0<j1):Od (vdA i1 j1 i2).1 (vdA i1 j1 i2).2.1 (vdA i1 j1 i2).2.2 (vdB i1 j1 j2).1 (vdB i1 j1 j2).2.1 (vdB i1 j1 j2).2.2:=by
 have hM:=M_val;have n1:=h1;have n2:=h2;unfold Ne at n1 n2;intro ka kb;have oa:=(vdA_kind (i2:=i2) h1 p1 n2.2.2.2.1).2;have ob:=(vdB_kind (j2:=j2) h1 p1 n2.2.2.2.2).2;have ga:=fl_nonneg (j:=max i1 0) (by omega);have gb:=fl_pos p1;have gc:=fl_le_iff.2 (show max i1 0<=j1 by omega);have gd:=fl_le_iff.2 n2.2.1
 have le:(vdA i1 j1 i2).2.1<=(vdB i1 j1 j2).2.1:=by
  revert ka kb
  clear oa ob;unfold vdA vdB
  by_cases hi:0<i2
  ·rw [if_pos hi,if_neg (show ¬ j2<0 by omega)];intro ka kb;rw [prb_val ka,prb_val kb];have ci:=fl_pos hi;have m1:=mul_mono_r (c:=fl i2) gc (by grind);have m2:=mul_mono_r (c:=fl j1) gd (by grind)
   grind
  ·rw [if_neg hi]
   have ci:fl i2<=0:=by have:=fl_le_iff.2 (show i2<=0 by omega);rwa [fl_zero] at this
   by_cases hj:j2<0
   ·rw [if_pos hj];intro ka kb;rw [prb_val ka,prb_val kb]
    have cj:fl j2<=0:=by have:=fl_le_iff.2 (show j2<=0 by omega);rwa [fl_zero] at this
    have m1:=mul_mono_r (c:=-fl j2) gc (by grind);have m2:=mul_mono_r (c:=fl j1) gd (by grind)
    grind
   ·rw [if_neg hj];intro ka kb;rw [prb_val ka,prb_val kb]
    exact mul_mono_r (c:=fl j1) gd (by grind)
 by_cases e:(vdA i1 j1 i2).2.1=(vdB i1 j1 j2).2.1
 ·right
  refine⟨e,?_,?_⟩
  ·by_cases o:(vdA i1 j1 i2).2.2=true
   ·exfalso
    have z:(vdA i1 j1 i2).2.1=0:=by rcases oa o with q | q;omega;exact q.2
    -- the lower bound is 0 and open: i2 above 0
    have e2:(vdB i1 j1 j2).2.1=0:=by rw [<- e];exact z
    revert z e2 o ka kb
    clear e le oa ob;unfold vdA vdB
    by_cases hi:0<i2
    ·rw [if_pos hi,if_neg (show ¬ j2<0 by omega)];intro ka kb o z e2;rw [prb_val kb] at e2;have:=mul_pos2 (fl_pos (show 0<j2 by omega)) gb
     grind
    ·rw [if_neg hi];intro ka kb o z e2;rw [prb_val ka] at z
     by_cases h0:i2=0
     ·subst h0;unfold prb at o;rw [if_pos rfl] at o;cases o
     ·have ci:fl i2<0:=by have:=fl_lt_iff.2 (show i2<0 by omega);rwa [fl_zero] at this
      have:=mul_pos2 (show 0 < -fl i2 by grind) gb
      grind
   ·exact Bool.eq_false_iff.2 o
  ·by_cases o:(vdB i1 j1 j2).2.2=true
   ·exfalso
    have z:(vdB i1 j1 j2).2.1=0:=by rcases ob o with q | q;omega;exact q.2
    have e2:(vdA i1 j1 i2).2.1=0:=by rw [e];exact z
    revert z e2 o ka kb
    clear e le oa ob;unfold vdA vdB
    by_cases hj:j2<0
    ·rw [if_neg (show ¬ 0<i2 by omega),if_pos hj];intro ka kb o z e2;rw [prb_val ka] at e2
     have ci:fl i2<0:=by have:=fl_lt_iff.2 (show i2<0 by omega);rwa [fl_zero] at this
     have:=mul_pos2 (show 0 < -fl i2 by grind) gb
     grind
    ·rw [if_neg hj];intro ka kb o z e2;rw [prb_val kb] at z
     by_cases h0:j2=0
     ·subst h0;unfold prb at o;rw [if_pos rfl] at o;cases o
     ·have:=mul_pos2 (fl_pos (show 0<j2 by omega)) gb
      grind
   ·exact Bool.eq_false_iff.2 o
 ·exact .inl (by grind)
theorem Cl.FV{i1 j1 i2 j2:Int}(h1:Ne i1 j1)(h2:Ne i2 j2):Cl (Go.Proofs.YthlmlmfebpjgdaaGreatDoor.FV i1 j1 i2 j2):=by
 by_cases h:j1<=0\/j2<i2
 ·have e:Go.Proofs.YthlmlmfebpjgdaaGreatDoor.FV i1 j1 i2 j2=fun _ _=>((M:Int),-(M:Int)):=by funext i j;unfold Go.Proofs.YthlmlmfebpjgdaaGreatDoor.FV;rw [if_pos h]
  rw [e];exact Cl.none
 ·have e:Go.Proofs.YthlmlmfebpjgdaaGreatDoor.FV i1 j1 i2 j2=Go.Proofs.YthlmlmfebpjgdaaGreatDoor.pf (vdA i1 j1 i2).1 (vdA i1 j1 i2).2.1 (vdA i1 j1 i2).2.2 (vdB i1 j1 j2).1 (vdB i1 j1 j2).2.1 (vdB i1 j1 j2).2.2:=by funext i j;unfold Go.Proofs.YthlmlmfebpjgdaaGreatDoor.FV;rw [if_neg h]
  rw [e];have n2:=h2;unfold Ne at n2;have ka:=(vdA_kind (i2:=i2) h1 (by omega) n2.2.2.2.1).1;have kb:=(vdB_kind (j2:=j2) h1 (by omega) n2.2.2.2.2).1
  exact Cl.pf ka kb (vd_od h1 h2 (by omega))
section
open Go.RowKit
def In(i j:Int)(v:Rat):Prop:=i<=rndI (-1) v/\rndI 1 v<=j
theorem In.neg{i j:Int}{v:Rat}(h:In i j v):In (-j) (-i) (-v):=by
 have a:=rndI_neg (d:=1) (.inr rfl) v;have b:=rndI_neg (d:=-1) (.inl rfl) v;rw [show (-(1:Int))=-1 from rfl] at a;rw [show (-(-1:Int))=1 from rfl] at b;obtain⟨h1,h2⟩:=h
 exact⟨by omega,by omega⟩
theorem In.lo{i j:Int}{v:Rat}(h:In i j v)(h1:-(M:Int)<i):fl i<=v:=by
 have a:=rndI_down v
 exact (a.2.2 i h1 (by have:=h.1;omega)).1 h.1
theorem In.hi{i j:Int}{v:Rat}(h:In i j v)(h1:j<M):v<=fl j:=by
 have a:=rndI_up v
 exact (a.2.2 j (by have:=h.2;omega) h1).1 h.2
theorem In.hull{a b c d:Int}{v:Rat}(h:In a b v\/In c d v):In (min a c) (max b d) v:=by
 rcases h with h | h
 ·exact⟨by have:=h.1;omega,by have:=h.2;omega⟩
 ·exact⟨by have:=h.1;omega,by have:=h.2;omega⟩
end
section
open Go.RowKit
end
section
open Go.RowKit Ieee
theorem R_stay{r e:Int}(hr:Rep r){l:Nat}(h1:2^(54+l)<=r.natAbs)(h2:r.natAbs<2^(55+l))(he:e.natAbs*2^55<r.natAbs):R (r+e)=r:=by
 have p0:2^(55+l)=2^55*2^l:=Nat.pow_add 2 55 l;have p1:2^(54+l)=2^54*2^l:=Nat.pow_add 2 54 l
 have p2:2^(52+(l+1))=2^53*2^l:=by rw [show 52+(l+1)=53+l from by omega,Nat.pow_add]
 have p3:2^(l+1)=2*2^l:=by rw [Nat.pow_succ,Nat.mul_comm]
 have hl:0<2^l:=Nat.two_pow_pos l;have near:=R_nearest (n:=r+e) hr
 have he2:e.natAbs<2^l:=by
  have:e.natAbs*2^55<2^l*2^55:=by rw [Nat.mul_comm (2^l)];omega
  exact Nat.lt_of_mul_lt_mul_right this
 have hd:(R (r+e) - r).natAbs<2^(l+1):=by omega
 have k1:=rep_dvd (k:=l+1) hr (by omega);have k2:=rep_dvd (k:=l+1) (R_rep (r+e)) (by omega);obtain⟨a,ha⟩:=k1;obtain⟨b,hb⟩:=k2
 have e1:R (r+e) - r=2^(l+1)*(b - a):=by rw [hb];conv=>lhs;rw [ha]
                                         rw [Int.mul_sub]
 rw [e1,Int.natAbs_mul,Int.natAbs_pow] at hd
 have h0:(b - a).natAbs=0:=by
  rcases Nat.eq_zero_or_pos (b - a).natAbs with h | h
  ·exact h
  ·exfalso
   have:2^(l+1)*1<=2^(l+1)*(b - a).natAbs:=Nat.mul_le_mul_left _ h;have e2:(2:Int).natAbs=2:=rfl;rw [e2] at hd
   omega
 have:b=a:=by omega
 rw [this,Int.sub_self,Int.mul_zero] at e1
 omega
theorem R_stays{r e:Int}(hr:Rep r)(h1:2^54<=r.natAbs)(he:e.natAbs*2^55<r.natAbs):R (r+e)=r:=by
 have n0:r.natAbs≠0:=by have:=Nat.two_pow_pos 54;omega
 have a:=Nat.log2_self_le n0;have b:=@Nat.lt_log2_self r.natAbs;have c:54<=r.natAbs.log2:=(Nat.le_log2 n0).2 h1
 obtain⟨l,hl⟩:∃ l,r.natAbs.log2=54+l:=⟨_,(Nat.add_sub_cancel' c).symm⟩
 rw [hl] at a b
 exact R_stay hr a (by rw [show 54+l+1=55+l from by omega] at b;exact b) he
theorem add_nought{x y:Nat}{m:Int}(hx:Fl x m)(hy:Fl y 0):(∃ r,FloatKind.f64.format.add x y=some r/\Fl r m)/\∃ r,FloatKind.f64.format.add y x=some r/\Fl r m:=by
 have hM:M=9218868437227405312:=rfl;have h1:=idx_natAbs x;have hf:rungOf x<M:=hx.fin;have e:near (val (idx x)) 0=idx x:=near_val_zero (by omega) (by omega)
 have key:∀ r,Is r (idx x)->Fl r m:=fun r h=>by
  have h2:=idx_natAbs r;rw [h.idx] at h2
  exact⟨h.lt,by unfold fin;omega,by rw [h.idx,hx.val]⟩
 constructor
 ·obtain⟨r,hr,hi⟩:=add_fin hx.fin hy.fin;rw [hy.val,Int.add_zero,e] at hi
  exact⟨r,hr,key r hi⟩
 ·obtain⟨r,hr,hi⟩:=add_fin hy.fin hx.fin;rw [hy.val,Int.zero_add,e] at hi
  exact⟨r,hr,key r hi⟩
theorem fma_good{d:Int}(hd:d=-1\/d=1){s f e:Nat}{N P Z n:Int}(hn:n=P+Z)(fs:Fl s (R n))(ff:Fl f (n - R n))(fe:Fl e (N - P))(hc:N - P=0\/(n - R n=0/\2^54<=(R n).natAbs/\(N - P).natAbs*2^55<(R n).natAbs)):
  ∃ g,FloatKind.f64.format.add e f=some g/\rungOf g<=M/\nud d (idx s) (idx g)=rndI d (((N+Z:Int):Rat)*2^(-1074:Int)):=by
 rcases hc with h | ⟨h,h2,h3⟩
 ·rw [h] at fe;obtain⟨g,hg,fg⟩:=(add_nought ff fe).2
  have e1:N+Z=n:=by omega
  refine⟨g,hg,Nat.le_of_lt fg.fin,?_⟩;rw [e1]
  exact nud_n hd fs fg
 ·rw [h] at ff;obtain⟨g,hg,fg⟩:=(add_nought fe ff).1
  have e1:R (N+Z)=R n:=by
   rw [show N+Z=R n+(N - P) from by omega]
   exact R_stays (R_rep n) h2 h3
  refine⟨g,hg,Nat.le_of_lt fg.fin,?_⟩;rw [<- e1] at fs;rw [show N - P=N+Z - R (N+Z) from by rw [e1];omega] at fg
  exact nud_n hd fs fg
end
section
open Go.RowKit
attribute [local go_sem] run_store_float run_frombits run_bitsof run_negf
theorem odd_one(g x:Nat)(w:World)(hx:x<18446744073709551616)(rx:rungOf x<=M)(c0:w.cell? ⟨g,0,none⟩=some (.float .f64 x)):
  Calls Tryz.prog 183 #[.slice (some ⟨g,0,none⟩) 1 1] w fun e w'=>e=.returned (.bool (decide (rungOf x=M)))/\w=w':=by
 have N0:=Hd (isnanf x w rx);have I0:=Hd (isinff x w hx rx)
 obtain⟨b0,e0⟩:∃ p,decide (rungOf x=M)=p:=⟨_,rfl⟩
 rw [e0] at I0 ⊢;clear e0 rx hx
 go_enter Tryz.func183,Tryz.ntmps183
 go_wp2
 go_loop [4,7] (fun _ v=>∃ k:Nat,k<=1/\v=.int .i64 k/\(0<k->b0=false)) (fun _ v=>1 - (intOf v).toNat)
 case atStart=>exact⟨0,by omega,rfl,by omega⟩
 case round=>
  obtain⟨k,hk,rfl,hk0⟩:=hrel
  match k,hk with
  | 0,_=>
   clear hk0
   cases b0
   ·go_wp2_with fail;refine N0.out.mono ?_;rintro e w' ⟨rfl,rfl⟩;go_wp2_with fail;refine I0.out.mono ?_;rintro e w' ⟨rfl,rfl⟩;go_wp2
    go_round
    case rel=>exact⟨1,by omega,rfl,by simp⟩
    case measure=>simp [intOf]
   ·go_wp2_with fail;refine N0.out.mono ?_;rintro e w' ⟨rfl,rfl⟩;go_wp2_with fail;refine I0.out.mono ?_;rintro e w' ⟨rfl,rfl⟩;go_wp2
    go_ret
    exact⟨rfl,rfl⟩
  | 1,_=>
   have h0:=hk0 (by omega);subst h0;clear hk0;go_wp2
   go_ret
   exact⟨rfl,rfl⟩
theorem rfma_inf(d:Int)(x y z p r:Nat)(w:World)(hx:x<18446744073709551616)(hy:y<18446744073709551616)(hz:z<18446744073709551616)(rx:rungOf x<=M)(ry:rungOf y<=M)(ho:(decide (rungOf x=M) || decide (rungOf y=M))=true)(hp:floatBits .mul .f64 x y=some p)(hr:floatBits .add .f64 p z=some r):
  Rt 162 #[.int .i64 d,.float .f64 x,.float .f64 y,.float .f64 z] (.float .f64 r) w:=by
 have HA:=fun W=>run_float_arith (P:=Tryz.prog) W .mul 26 .f64 x y p hp;have HB:=fun W=>run_float_arith (P:=Tryz.prog) W .add 26 .f64 p z r hr;have HO0:=fun (W:World) (hb:Below w.heap.size w W)=>odd_two W.heap.size x y (W.alloc (.cells (Zv x y) 26)) hx hy (by omega) (by omega) (by simp [World.cell?_alloc_new]) (by simp [World.cell?_alloc_new]);rw [ho] at HO0;have HO:=Hd HO0;have LB:=Hd (below_alloc w (.cells (Zv x y) 26));clear HO0 ho hp hr rx ry hx hy hz
 go_enter Tryz.func162,Tryz.ntmps162
 go_wp2_with fail
 go_step3
 go_wp2_with fail;refine cy (HO.out _ (Below.refl _ _)) ?_;go_wp2
 try rw [Exit.noGoto_ret]
 go_ret
 exact⟨rfl,LB.out⟩
set_option maxRecDepth 8000 in
theorem rfma_quick(d:Int)(x y z p e s t a b c f g q r:Nat)(of oe o2:Ordering)(w:World)(hx:x<18446744073709551616)(hy:y<18446744073709551616)(hz:z<18446744073709551616)(rx:rungOf x<M)(ry:rungOf y<M)(rz:rungOf z<M)(hp:FloatKind.f64.format.mul x y=some p)(hp1:p<18446744073709551616)(hp2:rungOf p<=M)(mx:mid x=true)(my:mid y=true)(mp:mid p=true)
  (gz:(FloatKind.f64.format.order (rungOf z) 8660422083433463808 == some Ordering.gt)=false)(hmi:∀ W,Calls Tryz.prog 187 #[.float .f64 x,.float .f64 y,.float .f64 p] W fun e' w'=>e'=.returned (.float .f64 e)/\W=w')(q1:FloatKind.f64.format.add p z=some s)(q2:FloatKind.f64.format.sub s p=some t)(q3:FloatKind.f64.format.sub s t=some a)(q4:FloatKind.f64.format.sub p a=some b)(q5:FloatKind.f64.format.sub z t=some c)(q6:FloatKind.f64.format.add b c=some f)(he:e<18446744073709551616)(hs:s<18446744073709551616)(hfz:FloatKind.f64.format.order f 0=some of)(hez:FloatKind.f64.format.order e 0=some oe)
  (hsm:(FloatKind.f64.format.order (rungOf s) 553942754166571008 == some Ordering.lt)=false)(hq:FloatKind.f64.format.mul (rungOf s) 4359484439294640128=some q)(ho2:FloatKind.f64.format.order (rungOf e) q=some o2)(hc:((of=.lt\/of=.gt)/\oe=.eq)\/(of=.eq/\o2=.lt))
  (hg:FloatKind.f64.format.add e f=some g)(hn:∀ W,Calls Tryz.prog 186 #[.int .i64 d,.float .f64 s,.float .f64 g] W fun e w'=>e=.returned (.float .f64 r)/\W=w'):
  Rt 162 #[.int .i64 d,.float .f64 x,.float .f64 y,.float .f64 z] (.float .f64 r) w:=by
 have hM:M=9218868437227405312:=rfl;have A1:=fun W=>run_float_arith (P:=Tryz.prog) W .mul 26 .f64 x y p hp;have A2:=fun W=>run_float_arith (P:=Tryz.prog) W .add 26 .f64 p z s q1;have A3:=fun W=>run_float_arith (P:=Tryz.prog) W .sub 26 .f64 s p t q2;have A4:=fun W=>run_float_arith (P:=Tryz.prog) W .sub 26 .f64 s t a q3;have A5:=fun W=>run_float_arith (P:=Tryz.prog) W .sub 26 .f64 p a b q4;have A6:=fun W=>run_float_arith (P:=Tryz.prog) W .sub 26 .f64 z t c q5;have A7:=fun W=>run_float_arith (P:=Tryz.prog) W .add 26 .f64 b c f q6;have A8:=fun W=>run_float_arith (P:=Tryz.prog) W .mul 26 .f64 (rungOf s) 4359484439294640128 q hq;have A9:=fun W=>run_float_arith (P:=Tryz.prog) W .add 26 .f64 e f g hg;have HX0:=fun W=>middle_any x W hx (by omega);have HY0:=fun W=>middle_any y W hy (by omega);have HQ0:=fun W=>middle_any p W hp1 hp2;rw [mx] at HX0;rw [my] at HY0;rw [mp] at HQ0;have HX:=Hd HX0;have HY:=Hd HY0;have HQ:=Hd HQ0;have HZ:=Hd fun W=>abs_any z W hz;have HE:=Hd fun W=>abs_any e W he;have HS:=Hd fun W=>abs_any s W hs;have HMI:=Hd hmi;have HN:=Hd hn
 have ho:(decide (rungOf x=M) || decide (rungOf y=M))=false:=by
  rw [decide_eq_false (by omega),decide_eq_false (by omega)];rfl
 have HO0:=fun (W:World) (hb:Below w.heap.size w W)=>odd_two W.heap.size x y (W.alloc (.cells (Zv x y) 26)) hx hy (by omega) (by omega) (by simp [World.cell?_alloc_new]) (by simp [World.cell?_alloc_new]);rw [ho] at HO0;have HO:=Hd HO0
 have HP0:=odd_one (w.heap.size+1) z ((w.alloc (.cells (Zv x y) 26)).alloc (.cells #[.float .f64 z] 26)) hz (by omega) (by
  have h:=World.cell?_alloc_new (w.alloc (.cells (Zv x y) 26)) #[.float .f64 z] 26 0;rw [show (w.alloc (.cells (Zv x y) 26)).heap.size=w.heap.size+1 from by simp] at h
  rw [h];rfl)
 rw [show decide (rungOf z=M)=false from decide_eq_false (by omega)] at HP0;have HOZ:=Hd HP0;have LB:=Hd (show Below w.heap.size w ((w.alloc (.cells (Zv x y) 26)).alloc (.cells #[.float .f64 z] 26)) from (below_alloc w _).alloc (by simp) _)
 obtain⟨Z,eZ⟩:∃ v,rungOf z=v:=⟨_,rfl⟩
 obtain⟨E,eE⟩:∃ v,rungOf e=v:=⟨_,rfl⟩
 obtain⟨S,eS⟩:∃ v,rungOf s=v:=⟨_,rfl⟩
 rw [eZ] at HZ gz;rw [eE] at HE ho2;rw [eS] at HS hsm A8;clear HO0 HP0 ho rx ry rz hx hy hz hM hp hp1 hp2 mx my mp HX0 HY0 HQ0 hmi hn q1 q2 q3 q4 q5 q6 he hs hq hg eZ eE eS;have GZh:=Hd gz;have HFZh:=Hd hfz;have HEZh:=Hd hez;have HSMh:=Hd hsm;have A8h:=Hd A8;have HO2h:=Hd ho2;clear gz hfz hez hsm A8 ho2
 rcases hc with ⟨k1,rfl⟩ | ⟨rfl,rfl⟩
 ·rcases k1 with rfl | rfl
  all_goals
   go_enter Tryz.func162,Tryz.ntmps162
   go_wp2_with fail
   go_step3
   go_wp2_with fail;refine cy (HO.out _ (Below.refl _ _)) ?_;go_wp2_with fail;refine cy (HOZ.out) ?_;go_wp2_with fail;refine cy (HX.out _) ?_;go_wp2_with fail;refine cy (HY.out _) ?_;go_wp2_with fail;refine cy (HQ.out _) ?_;go_wp2_with fail;refine cy (HZ.out _) ?_
   have gz:(FloatKind.f64.format.order Z 8660422083433463808 == some Ordering.gt)=false:=by have h:=GZh.out;simpa using h
   go_wp2_with fail;clear gz;refine cy (HMI.out _) ?_;have hfz:=HFZh.out;have hez:=HEZh.out;go_wp2_with fail;refine cy (HS.out _) ?_
   have hsm:(FloatKind.f64.format.order S 553942754166571008 == some Ordering.lt)=false:=by have h:=HSMh.out;simpa using h
   go_wp2_with fail;refine cy (HN.out _) ?_;go_wp2
   try rw [Exit.noGoto_ret]
   go_ret
   exact⟨rfl,LB.out⟩
 ·skip
  go_enter Tryz.func162,Tryz.ntmps162
  go_wp2_with fail
  go_step3
  go_wp2_with fail;refine cy (HO.out _ (Below.refl _ _)) ?_;go_wp2_with fail;refine cy (HOZ.out) ?_;go_wp2_with fail;refine cy (HX.out _) ?_;go_wp2_with fail;refine cy (HY.out _) ?_;go_wp2_with fail;refine cy (HQ.out _) ?_;go_wp2_with fail;refine cy (HZ.out _) ?_
  have gz:(FloatKind.f64.format.order Z 8660422083433463808 == some Ordering.gt)=false:=by have h:=GZh.out;simpa using h
  go_wp2_with fail;clear gz;refine cy (HMI.out _) ?_;have hfz:=HFZh.out;go_wp2_with fail;refine cy (HS.out _) ?_
  have hsm:(FloatKind.f64.format.order S 553942754166571008 == some Ordering.lt)=false:=by have h:=HSMh.out;simpa using h
  go_wp2_with fail;refine cy (HE.out _) ?_;go_wp2_with fail;refine cy (HS.out _) ?_;have A8:=A8h.out;have ho2:=HO2h.out;go_wp2_with fail;refine cy (HN.out _) ?_;go_wp2
  try rw [Exit.noGoto_ret]
  go_ret
  exact⟨rfl,LB.out⟩
set_option maxRecDepth 8000 in
theorem rfma_exact1(d:Int)(x y z p:Nat)(w:World)(hd:d=-1\/d=1)(hx:x<18446744073709551616)(hy:y<18446744073709551616)(hz:z<18446744073709551616)(rx:rungOf x<M)(ry:rungOf y<M)(rz:rungOf z<M)(hp:FloatKind.f64.format.mul x y=some p)(hp1:p<18446744073709551616)(hp2:rungOf p<=M)(gz:Bool)
  (hgz:(FloatKind.f64.format.order (rungOf z) 8660422083433463808 == some Ordering.gt)=gz)(hm:¬ (mid x=true/\mid y=true/\mid p=true/\gz=false)):
  Rt 162 #[.int .i64 d,.float .f64 x,.float .f64 y,.float .f64 z] (.float .f64 (pat (rndI d (fl (idx x)*fl (idx y)+fl (idx z))))) w:=by
 have hM:M=9218868437227405312:=rfl;have A1:=fun W=>run_float_arith (P:=Tryz.prog) W .mul 26 .f64 x y p hp;obtain⟨S1,e1,b1,l1,u1,v1,HP1⟩:=part_any x hx rx;obtain⟨S2,e2,b2,l2,u2,v2,HP2⟩:=part_any y hy ry;obtain⟨S3,e3,b3,l3,u3,v3,HP3⟩:=part_any z hz rz;have k1:blen S1<=53:=blen_le_iff.2 (show S1<2^53 from b1);have k2:blen S2<=53:=blen_le_iff.2 (show S2<2^53 from b2);have k3:blen S3<=53:=blen_le_iff.2 (show S3<2^53 from b3)
 have kb:blen (S1*S2)<=106:=blen_le_iff.2 (by
  refine Nat.lt_of_le_of_lt (Nat.mul_le_mul_left S1 (Nat.le_of_lt b2)) ?_;rw [show (2:Nat)^106=2^53*2^53 from by rw [<- Nat.pow_add]]
  exact (Nat.mul_lt_mul_right (by omega)).2 b1)
 have hV:rv (sgn x != sgn y) (S1*S2) 1*2^(e1+e2)=fl (idx x)*fl (idx y):=by
  have hm:=rv_mul (sgn x) (sgn y) S1 1 S2 1;rw [Nat.mul_one] at hm;rw [v1,v2,zpow_add,<- hm]
  grind
 have HM0:=fun (A1:Option Addr) (m1 c1:Nat) (A2:Option Addr) (m2 c2:Nat) (W:World) (h1:U32s W A1 m1 c1 (digs S1)) (h2:U32s W A2 m2 c2 (digs S2))=>rprod_any (sgn x) A1 m1 c1 S1 e1 (sgn y) A2 m2 c2 S2 e2 W h1 h2 b1 b2 (by omega) (by omega)
 obtain⟨np,hnp⟩:∃ v,(sgn x != sgn y)=v:=⟨_,rfl⟩
 obtain⟨SP,hSP⟩:∃ v,S1*S2=v:=⟨_,rfl⟩
 obtain⟨eP,heP⟩:∃ v,e1+e2=v:=⟨_,rfl⟩
 rw [hnp,hSP,heP] at hV HM0;rw [hSP] at kb;have hB:=dsF_bound np SP eP (sgn z) S3 e3 4000 (by omega) (by omega);have hW:=dsF_val np SP eP (sgn z) S3 e3;rw [hV,<- v3] at hW;have HS0:=fun (A1:Option Addr) (m1 c1:Nat) (A2:Option Addr) (m2 c2:Nat) (W:World) (h1:U32s W A1 m1 c1 (digs SP)) (h2:U32s W A2 m2 c2 (digs S3))=>sum_any np A1 m1 c1 SP eP (sgn z) A2 m2 c2 S3 e3 W h1 h2 (by omega) (by omega) (by omega) (by omega)
 obtain⟨n,hn⟩:∃ v,(dsF np SP eP (sgn z) S3 e3).1=v:=⟨_,rfl⟩
 obtain⟨S,hS⟩:∃ v,(dsF np SP eP (sgn z) S3 e3).2.1=v:=⟨_,rfl⟩
 obtain⟨E,hE⟩:∃ v,(dsF np SP eP (sgn z) S3 e3).2.2=v:=⟨_,rfl⟩
 rw [hn,hS,hE] at HS0 hW;rw [hS,hE] at hB;have HT0:=fun (A:Option Addr) (m c:Nat) (W:World) (h:U32s W A m c (digs S))=>to_any d n A m c S E W h hd (by omega) (by omega) (by omega);rw [hW] at HT0;have HPR:=Hd HM0;have HSU:=Hd HS0;have HT:=Hd HT0;have HX1:=Hd HP1;have HX2:=Hd HP2;have HX3:=Hd HP3
 obtain⟨n1,hn1⟩:∃ v,sgn x=v:=⟨_,rfl⟩
 obtain⟨n2,hn2⟩:∃ v,sgn y=v:=⟨_,rfl⟩
 obtain⟨n3,hn3⟩:∃ v,sgn z=v:=⟨_,rfl⟩
 rw [hn1] at HX1 HPR;rw [hn2] at HX2 HPR;rw [hn3] at HX3 HSU;clear HP1 HP2 HP3 HM0 HS0 HT0 hS hE hn hW hV hB kb k1 k2 k3 b1 b2 b3 l1 l2 l3 u1 u2 u3 v1 v2 v3 hn1 hn2 hn3 hnp hSP heP
 have ho:(decide (rungOf x=M) || decide (rungOf y=M))=false:=by
  rw [decide_eq_false (by omega),decide_eq_false (by omega)];rfl
 have HO0:=fun (W:World) (hb:Below w.heap.size w W)=>odd_two W.heap.size x y (W.alloc (.cells (Zv x y) 26)) hx hy (by omega) (by omega) (by simp [World.cell?_alloc_new]) (by simp [World.cell?_alloc_new]);rw [ho] at HO0;have HO:=Hd HO0
 have HP0:=odd_one (w.heap.size+1) z ((w.alloc (.cells (Zv x y) 26)).alloc (.cells #[.float .f64 z] 26)) hz (by omega) (by
  have h:=World.cell?_alloc_new (w.alloc (.cells (Zv x y) 26)) #[.float .f64 z] 26 0;rw [show (w.alloc (.cells (Zv x y) 26)).heap.size=w.heap.size+1 from by simp] at h
  rw [h];rfl)
 rw [show decide (rungOf z=M)=false from decide_eq_false (by omega)] at HP0;have HOZ:=Hd HP0;have LB:=Hd (show Below w.heap.size w ((w.alloc (.cells (Zv x y) 26)).alloc (.cells #[.float .f64 z] 26)) from (below_alloc w _).alloc (by simp) _);have HX0:=fun W=>middle_any x W hx (by omega);have HY0:=fun W=>middle_any y W hy (by omega);have HQ0:=fun W=>middle_any p W hp1 hp2
 obtain⟨mx,ex⟩:∃ v,mid x=v:=⟨_,rfl⟩
 obtain⟨my,ey⟩:∃ v,mid y=v:=⟨_,rfl⟩
 obtain⟨mp,ep⟩:∃ v,mid p=v:=⟨_,rfl⟩
 rw [ex] at HX0 hm;rw [ey] at HY0 hm;rw [ep] at HQ0 hm;have HX:=Hd HX0;have HY:=Hd HY0;have HQ:=Hd HQ0;have HZ:=Hd fun W=>abs_any z W hz
 have hc:mx=false\/(mx=true/\my=false)\/(mx=true/\my=true/\mp=false)\/(mx=true/\my=true/\mp=true/\gz=true):=by
  cases mx
  ·exact .inl rfl
  ·cases my
   ·exact .inr (.inl ⟨rfl,rfl⟩)
   ·cases mp
    ·exact .inr (.inr (.inl ⟨rfl,rfl,rfl⟩))
    ·cases gz
     ·exact absurd ⟨rfl,rfl,rfl,rfl⟩ hm
     ·exact .inr (.inr (.inr ⟨rfl,rfl,rfl,rfl⟩))
 obtain⟨r,hr⟩:∃ r,pat (rndI d (fl (idx x)*fl (idx y)+fl (idx z)))=r:=⟨_,rfl⟩
 rw [hr] at HT ⊢
 obtain⟨Z,eZ⟩:∃ v,rungOf z=v:=⟨_,rfl⟩
 rw [eZ] at HZ hgz;clear HO0 HP0 ho hr rx ry rz hx hy hz hd hM hm ex ey ep HX0 HY0 HQ0 hp1 hp2 hp eZ;have GZh:=Hd hgz;clear hgz
 rcases hc with rfl | ⟨rfl,rfl⟩ | ⟨rfl,rfl,rfl⟩ | ⟨rfl,rfl,rfl,rfl⟩
 ·skip
  go_enter Tryz.func162,Tryz.ntmps162
  go_wp2_with fail
  apply scope_once 0 _ _ rfl
  focus
   go_wp2_with fail;refine cy (HO.out _ (Below.refl _ _)) ?_;go_wp2_with fail;refine cy (HOZ.out) ?_;go_wp2_with fail;refine cy (HX.out _) ?_;go_wp2_with fail
   try go_step3
   exact⟨rfl,rfl,rfl⟩
  clear HO HOZ HX HY HQ HZ GZh A1;generalize (w.alloc (.cells (Zv x y) 26)).alloc (.cells #[.float .f64 z] 26)=wa at LB ⊢;go_wp2_with fail;refine (HX1.out _).mono ?_;rintro e w1 ⟨A1,m1,c1,rfl,hu1,hb1⟩;have LB1:=Hd (LB.out.trans (hb1.mono LB.out.size));have U1:=Hd hu1;clear hu1 hb1 LB;go_wp2_with fail;refine (HX2.out _).mono ?_;rintro e w2 ⟨A2,m2,c2,rfl,hu2,hb2⟩;have LB2:=stB LB1 hb2 LB1.out.size;have V1:=Hd (U1.out.below hb2);have V2:=Hd hu2;clear hu2 hb2 LB1 U1;go_wp2_with fail;refine (HPR.out _ _ _ _ _ _ _ V1.out V2.out).mono ?_;rintro e w3 ⟨A3,m3,c3,rfl,hu3,hb3⟩;have LB3:=stB LB2 hb3 LB2.out.size;have V3:=Hd hu3;clear hu3 hb3 LB2 V1 V2;go_wp2_with fail;refine (HX3.out _).mono ?_;rintro e w4 ⟨A4,m4,c4,rfl,hu4,hb4⟩;have LB4:=stB LB3 hb4 LB3.out.size;have V4:=Hd (V3.out.below hb4);have V5:=Hd hu4;clear hu4 hb4 LB3 V3;go_wp2_with fail;refine (HSU.out _ _ _ _ _ _ _ V4.out V5.out).mono ?_;rintro e w5 ⟨A5,m5,c5,rfl,hu5,hb5⟩;have LB5:=stB LB4 hb5 LB4.out.size;have V6:=Hd hu5;clear hu5 hb5 LB4 V4 V5;go_wp2_with fail;refine cx (HT.out _ _ _ _ V6.out) fun w6 hb6=>?_;have LB6:=stB LB5 hb6 LB5.out.size;clear hb6 LB5 V6;go_wp2
  simp only [Exit.jump]
  go_ret
  exact⟨rfl,LB6.out⟩
 ·skip
  go_enter Tryz.func162,Tryz.ntmps162
  go_wp2_with fail
  apply scope_once 0 _ _ rfl
  focus
   go_wp2_with fail;refine cy (HO.out _ (Below.refl _ _)) ?_;go_wp2_with fail;refine cy (HOZ.out) ?_;go_wp2_with fail;refine cy (HX.out _) ?_;go_wp2_with fail;refine cy (HY.out _) ?_;go_wp2_with fail
   try go_step3
   exact⟨rfl,rfl,rfl⟩
  clear HO HOZ HX HY HQ HZ GZh A1;generalize (w.alloc (.cells (Zv x y) 26)).alloc (.cells #[.float .f64 z] 26)=wa at LB ⊢;go_wp2_with fail;refine (HX1.out _).mono ?_;rintro e w1 ⟨A1,m1,c1,rfl,hu1,hb1⟩;have LB1:=Hd (LB.out.trans (hb1.mono LB.out.size));have U1:=Hd hu1;clear hu1 hb1 LB;go_wp2_with fail;refine (HX2.out _).mono ?_;rintro e w2 ⟨A2,m2,c2,rfl,hu2,hb2⟩;have LB2:=stB LB1 hb2 LB1.out.size;have V1:=Hd (U1.out.below hb2);have V2:=Hd hu2;clear hu2 hb2 LB1 U1;go_wp2_with fail;refine (HPR.out _ _ _ _ _ _ _ V1.out V2.out).mono ?_;rintro e w3 ⟨A3,m3,c3,rfl,hu3,hb3⟩;have LB3:=stB LB2 hb3 LB2.out.size;have V3:=Hd hu3;clear hu3 hb3 LB2 V1 V2;go_wp2_with fail;refine (HX3.out _).mono ?_;rintro e w4 ⟨A4,m4,c4,rfl,hu4,hb4⟩;have LB4:=stB LB3 hb4 LB3.out.size;have V4:=Hd (V3.out.below hb4);have V5:=Hd hu4;clear hu4 hb4 LB3 V3;go_wp2_with fail;refine (HSU.out _ _ _ _ _ _ _ V4.out V5.out).mono ?_;rintro e w5 ⟨A5,m5,c5,rfl,hu5,hb5⟩;have LB5:=stB LB4 hb5 LB4.out.size;have V6:=Hd hu5;clear hu5 hb5 LB4 V4 V5;go_wp2_with fail;refine cx (HT.out _ _ _ _ V6.out) fun w6 hb6=>?_;have LB6:=stB LB5 hb6 LB5.out.size;clear hb6 LB5 V6;go_wp2
  simp only [Exit.jump]
  go_ret
  exact⟨rfl,LB6.out⟩
 ·skip
  go_enter Tryz.func162,Tryz.ntmps162
  go_wp2_with fail
  apply scope_once 0 _ _ rfl
  focus
   go_wp2_with fail;refine cy (HO.out _ (Below.refl _ _)) ?_;go_wp2_with fail;refine cy (HOZ.out) ?_;go_wp2_with fail;refine cy (HX.out _) ?_;go_wp2_with fail;refine cy (HY.out _) ?_;go_wp2_with fail;refine cy (HQ.out _) ?_;go_wp2_with fail
   try go_step3
   exact⟨rfl,rfl,rfl⟩
  clear HO HOZ HX HY HQ HZ GZh A1;generalize (w.alloc (.cells (Zv x y) 26)).alloc (.cells #[.float .f64 z] 26)=wa at LB ⊢;go_wp2_with fail;refine (HX1.out _).mono ?_;rintro e w1 ⟨A1,m1,c1,rfl,hu1,hb1⟩;have LB1:=Hd (LB.out.trans (hb1.mono LB.out.size));have U1:=Hd hu1;clear hu1 hb1 LB;go_wp2_with fail;refine (HX2.out _).mono ?_;rintro e w2 ⟨A2,m2,c2,rfl,hu2,hb2⟩;have LB2:=stB LB1 hb2 LB1.out.size;have V1:=Hd (U1.out.below hb2);have V2:=Hd hu2;clear hu2 hb2 LB1 U1;go_wp2_with fail;refine (HPR.out _ _ _ _ _ _ _ V1.out V2.out).mono ?_;rintro e w3 ⟨A3,m3,c3,rfl,hu3,hb3⟩;have LB3:=stB LB2 hb3 LB2.out.size;have V3:=Hd hu3;clear hu3 hb3 LB2 V1 V2;go_wp2_with fail;refine (HX3.out _).mono ?_;rintro e w4 ⟨A4,m4,c4,rfl,hu4,hb4⟩;have LB4:=stB LB3 hb4 LB3.out.size;have V4:=Hd (V3.out.below hb4);have V5:=Hd hu4;clear hu4 hb4 LB3 V3;go_wp2_with fail;refine (HSU.out _ _ _ _ _ _ _ V4.out V5.out).mono ?_;rintro e w5 ⟨A5,m5,c5,rfl,hu5,hb5⟩;have LB5:=stB LB4 hb5 LB4.out.size;have V6:=Hd hu5;clear hu5 hb5 LB4 V4 V5;go_wp2_with fail;refine cx (HT.out _ _ _ _ V6.out) fun w6 hb6=>?_;have LB6:=stB LB5 hb6 LB5.out.size;clear hb6 LB5 V6;go_wp2
  simp only [Exit.jump]
  go_ret
  exact⟨rfl,LB6.out⟩
 ·skip
  go_enter Tryz.func162,Tryz.ntmps162
  go_wp2_with fail
  apply scope_once 0 _ _ rfl
  focus
   go_wp2_with fail;refine cy (HO.out _ (Below.refl _ _)) ?_;go_wp2_with fail;refine cy (HOZ.out) ?_;go_wp2_with fail;refine cy (HX.out _) ?_;go_wp2_with fail;refine cy (HY.out _) ?_;go_wp2_with fail;refine cy (HQ.out _) ?_;go_wp2_with fail;refine cy (HZ.out _) ?_
   have gz:(FloatKind.f64.format.order Z 8660422083433463808 == some Ordering.gt)=true:=by have h:=GZh.out;simpa using h
   go_wp2_with fail
   try go_step3
   exact⟨rfl,rfl,rfl⟩
  clear HO HOZ HX HY HQ HZ GZh A1;generalize (w.alloc (.cells (Zv x y) 26)).alloc (.cells #[.float .f64 z] 26)=wa at LB ⊢;go_wp2_with fail;refine (HX1.out _).mono ?_;rintro e w1 ⟨A1,m1,c1,rfl,hu1,hb1⟩;have LB1:=Hd (LB.out.trans (hb1.mono LB.out.size));have U1:=Hd hu1;clear hu1 hb1 LB;go_wp2_with fail;refine (HX2.out _).mono ?_;rintro e w2 ⟨A2,m2,c2,rfl,hu2,hb2⟩;have LB2:=stB LB1 hb2 LB1.out.size;have V1:=Hd (U1.out.below hb2);have V2:=Hd hu2;clear hu2 hb2 LB1 U1;go_wp2_with fail;refine (HPR.out _ _ _ _ _ _ _ V1.out V2.out).mono ?_;rintro e w3 ⟨A3,m3,c3,rfl,hu3,hb3⟩;have LB3:=stB LB2 hb3 LB2.out.size;have V3:=Hd hu3;clear hu3 hb3 LB2 V1 V2;go_wp2_with fail;refine (HX3.out _).mono ?_;rintro e w4 ⟨A4,m4,c4,rfl,hu4,hb4⟩;have LB4:=stB LB3 hb4 LB3.out.size;have V4:=Hd (V3.out.below hb4);have V5:=Hd hu4;clear hu4 hb4 LB3 V3;go_wp2_with fail;refine (HSU.out _ _ _ _ _ _ _ V4.out V5.out).mono ?_;rintro e w5 ⟨A5,m5,c5,rfl,hu5,hb5⟩;have LB5:=stB LB4 hb5 LB4.out.size;have V6:=Hd hu5;clear hu5 hb5 LB4 V4 V5;go_wp2_with fail;refine cx (HT.out _ _ _ _ V6.out) fun w6 hb6=>?_;have LB6:=stB LB5 hb6 LB5.out.size;clear hb6 LB5 V6;go_wp2
  simp only [Exit.jump]
  go_ret
  exact⟨rfl,LB6.out⟩
set_option maxRecDepth 8000 in
theorem rfma_exact2(d:Int)(x y z p e s t a b c f q:Nat)(sm:Bool)(of oe o2:Ordering)(w:World)(hd:d=-1\/d=1)(hx:x<18446744073709551616)(hy:y<18446744073709551616)(hz:z<18446744073709551616)(rx:rungOf x<M)(ry:rungOf y<M)(rz:rungOf z<M)(hp:FloatKind.f64.format.mul x y=some p)(hp1:p<18446744073709551616)(hp2:rungOf p<=M)(mx:mid x=true)(my:mid y=true)(mp:mid p=true)
  (gz:(FloatKind.f64.format.order (rungOf z) 8660422083433463808 == some Ordering.gt)=false)(hmi:∀ W,Calls Tryz.prog 187 #[.float .f64 x,.float .f64 y,.float .f64 p] W fun e' w'=>e'=.returned (.float .f64 e)/\W=w')(q1:FloatKind.f64.format.add p z=some s)(q2:FloatKind.f64.format.sub s p=some t)(q3:FloatKind.f64.format.sub s t=some a)(q4:FloatKind.f64.format.sub p a=some b)(q5:FloatKind.f64.format.sub z t=some c)(q6:FloatKind.f64.format.add b c=some f)(he:e<18446744073709551616)(hs:s<18446744073709551616)(hfz:FloatKind.f64.format.order f 0=some of)(hez:FloatKind.f64.format.order e 0=some oe)
  (hsm:(FloatKind.f64.format.order (rungOf s) 553942754166571008 == some Ordering.lt)=sm)(hc:((of=.lt\/of=.gt)/\(oe=.lt\/oe=.gt))\/((of=.lt\/of=.gt)/\oe=.eq/\sm=true)\/(of=.eq/\sm=true)\/(of=.eq/\sm=false/\FloatKind.f64.format.mul (rungOf s) 4359484439294640128=some q/\FloatKind.f64.format.order (rungOf e) q=some o2/\(o2=.eq\/o2=.gt))):
  Rt 162 #[.int .i64 d,.float .f64 x,.float .f64 y,.float .f64 z] (.float .f64 (pat (rndI d (fl (idx x)*fl (idx y)+fl (idx z))))) w:=by
 have hM:M=9218868437227405312:=rfl;have A1:=fun W=>run_float_arith (P:=Tryz.prog) W .mul 26 .f64 x y p hp;have A2:=fun W=>run_float_arith (P:=Tryz.prog) W .add 26 .f64 p z s q1;have A3:=fun W=>run_float_arith (P:=Tryz.prog) W .sub 26 .f64 s p t q2;have A4:=fun W=>run_float_arith (P:=Tryz.prog) W .sub 26 .f64 s t a q3;have A5:=fun W=>run_float_arith (P:=Tryz.prog) W .sub 26 .f64 p a b q4;have A6:=fun W=>run_float_arith (P:=Tryz.prog) W .sub 26 .f64 z t c q5;have A7:=fun W=>run_float_arith (P:=Tryz.prog) W .add 26 .f64 b c f q6;obtain⟨S1,e1,b1,l1,u1,v1,HP1⟩:=part_any x hx rx;obtain⟨S2,e2,b2,l2,u2,v2,HP2⟩:=part_any y hy ry;obtain⟨S3,e3,b3,l3,u3,v3,HP3⟩:=part_any z hz rz;have k1:blen S1<=53:=blen_le_iff.2 (show S1<2^53 from b1);have k2:blen S2<=53:=blen_le_iff.2 (show S2<2^53 from b2);have k3:blen S3<=53:=blen_le_iff.2 (show S3<2^53 from b3)
 have kb:blen (S1*S2)<=106:=blen_le_iff.2 (by
  refine Nat.lt_of_le_of_lt (Nat.mul_le_mul_left S1 (Nat.le_of_lt b2)) ?_;rw [show (2:Nat)^106=2^53*2^53 from by rw [<- Nat.pow_add]]
  exact (Nat.mul_lt_mul_right (by omega)).2 b1)
 have hV:rv (sgn x != sgn y) (S1*S2) 1*2^(e1+e2)=fl (idx x)*fl (idx y):=by
  have hm:=rv_mul (sgn x) (sgn y) S1 1 S2 1;rw [Nat.mul_one] at hm;rw [v1,v2,zpow_add,<- hm]
  grind
 have HM0:=fun (A1:Option Addr) (m1 c1:Nat) (A2:Option Addr) (m2 c2:Nat) (W:World) (h1:U32s W A1 m1 c1 (digs S1)) (h2:U32s W A2 m2 c2 (digs S2))=>rprod_any (sgn x) A1 m1 c1 S1 e1 (sgn y) A2 m2 c2 S2 e2 W h1 h2 b1 b2 (by omega) (by omega)
 obtain⟨np,hnp⟩:∃ v,(sgn x != sgn y)=v:=⟨_,rfl⟩
 obtain⟨SP,hSP⟩:∃ v,S1*S2=v:=⟨_,rfl⟩
 obtain⟨eP,heP⟩:∃ v,e1+e2=v:=⟨_,rfl⟩
 rw [hnp,hSP,heP] at hV HM0;rw [hSP] at kb;have hB:=dsF_bound np SP eP (sgn z) S3 e3 4000 (by omega) (by omega);have hW:=dsF_val np SP eP (sgn z) S3 e3;rw [hV,<- v3] at hW;have HS0:=fun (A1:Option Addr) (m1 c1:Nat) (A2:Option Addr) (m2 c2:Nat) (W:World) (h1:U32s W A1 m1 c1 (digs SP)) (h2:U32s W A2 m2 c2 (digs S3))=>sum_any np A1 m1 c1 SP eP (sgn z) A2 m2 c2 S3 e3 W h1 h2 (by omega) (by omega) (by omega) (by omega)
 obtain⟨n,hn⟩:∃ v,(dsF np SP eP (sgn z) S3 e3).1=v:=⟨_,rfl⟩
 obtain⟨S,hS⟩:∃ v,(dsF np SP eP (sgn z) S3 e3).2.1=v:=⟨_,rfl⟩
 obtain⟨E,hE⟩:∃ v,(dsF np SP eP (sgn z) S3 e3).2.2=v:=⟨_,rfl⟩
 rw [hn,hS,hE] at HS0 hW;rw [hS,hE] at hB;have HT0:=fun (A:Option Addr) (m c:Nat) (W:World) (h:U32s W A m c (digs S))=>to_any d n A m c S E W h hd (by omega) (by omega) (by omega);rw [hW] at HT0;have HPR:=Hd HM0;have HSU:=Hd HS0;have HT:=Hd HT0;have HX1:=Hd HP1;have HX2:=Hd HP2;have HX3:=Hd HP3
 obtain⟨n1,hn1⟩:∃ v,sgn x=v:=⟨_,rfl⟩
 obtain⟨n2,hn2⟩:∃ v,sgn y=v:=⟨_,rfl⟩
 obtain⟨n3,hn3⟩:∃ v,sgn z=v:=⟨_,rfl⟩
 rw [hn1] at HX1 HPR;rw [hn2] at HX2 HPR;rw [hn3] at HX3 HSU;clear HP1 HP2 HP3 HM0 HS0 HT0 hS hE hn hW hV hB kb k1 k2 k3 b1 b2 b3 l1 l2 l3 u1 u2 u3 v1 v2 v3 hn1 hn2 hn3 hnp hSP heP
 have ho:(decide (rungOf x=M) || decide (rungOf y=M))=false:=by
  rw [decide_eq_false (by omega),decide_eq_false (by omega)];rfl
 have HO0:=fun (W:World) (hb:Below w.heap.size w W)=>odd_two W.heap.size x y (W.alloc (.cells (Zv x y) 26)) hx hy (by omega) (by omega) (by simp [World.cell?_alloc_new]) (by simp [World.cell?_alloc_new]);rw [ho] at HO0;have HO:=Hd HO0
 have HP0:=odd_one (w.heap.size+1) z ((w.alloc (.cells (Zv x y) 26)).alloc (.cells #[.float .f64 z] 26)) hz (by omega) (by
  have h:=World.cell?_alloc_new (w.alloc (.cells (Zv x y) 26)) #[.float .f64 z] 26 0;rw [show (w.alloc (.cells (Zv x y) 26)).heap.size=w.heap.size+1 from by simp] at h
  rw [h];rfl)
 rw [show decide (rungOf z=M)=false from decide_eq_false (by omega)] at HP0;have HOZ:=Hd HP0;have LB:=Hd (show Below w.heap.size w ((w.alloc (.cells (Zv x y) 26)).alloc (.cells #[.float .f64 z] 26)) from (below_alloc w _).alloc (by simp) _);have HX0:=fun W=>middle_any x W hx (by omega);have HY0:=fun W=>middle_any y W hy (by omega);have HQ0:=fun W=>middle_any p W hp1 hp2;rw [mx] at HX0;rw [my] at HY0;rw [mp] at HQ0;have HX:=Hd HX0;have HY:=Hd HY0;have HQ:=Hd HQ0;have HZ:=Hd fun W=>abs_any z W hz;have HE:=Hd fun W=>abs_any e W he;have HS:=Hd fun W=>abs_any s W hs;have HMI:=Hd hmi
 obtain⟨r,hr⟩:∃ r,pat (rndI d (fl (idx x)*fl (idx y)+fl (idx z)))=r:=⟨_,rfl⟩
 rw [hr] at HT ⊢
 obtain⟨Z,eZ⟩:∃ v,rungOf z=v:=⟨_,rfl⟩
 obtain⟨E',eE⟩:∃ v,rungOf e=v:=⟨_,rfl⟩
 obtain⟨S',eS⟩:∃ v,rungOf s=v:=⟨_,rfl⟩
 rw [eZ] at HZ gz;rw [eE] at HE hc;rw [eS] at HS hsm hc;clear HO0 HP0 ho hr rx ry rz hx hy hz hd hM hp hp1 hp2 mx my mp HX0 HY0 HQ0 hmi q1 q2 q3 q4 q5 q6 he hs eZ eE eS;have GZh:=Hd gz;have HFZh:=Hd hfz;have HEZh:=Hd hez;have HSMh:=Hd hsm;clear gz hfz hez hsm
 rcases hc with ⟨k1,k2⟩ | ⟨k1,rfl,rfl⟩ | ⟨rfl,rfl⟩ | ⟨rfl,rfl,hq,ho2,k1⟩
 ·rcases k1 with rfl | rfl<;>rcases k2 with rfl | rfl
  all_goals
   go_enter Tryz.func162,Tryz.ntmps162
   go_wp2_with fail
   apply scope_once 0 _ _ rfl
   focus
    go_wp2_with fail;refine cy (HO.out _ (Below.refl _ _)) ?_;go_wp2_with fail;refine cy (HOZ.out) ?_;go_wp2_with fail;refine cy (HX.out _) ?_;go_wp2_with fail;refine cy (HY.out _) ?_;go_wp2_with fail;refine cy (HQ.out _) ?_;go_wp2_with fail;refine cy (HZ.out _) ?_
    have gz:(FloatKind.f64.format.order Z 8660422083433463808 == some Ordering.gt)=false:=by have h:=GZh.out;simpa using h
    go_wp2_with fail;clear gz;refine cy (HMI.out _) ?_;have hfz:=HFZh.out;have hez:=HEZh.out;go_wp2_with fail
    try go_step3
    exact⟨rfl,rfl,rfl⟩
   clear HO HOZ HX HY HQ HZ HE HS HMI A1 A2 A3 A4 A5 A6 A7 GZh HFZh HEZh HSMh;generalize (w.alloc (.cells (Zv x y) 26)).alloc (.cells #[.float .f64 z] 26)=wa at LB ⊢;go_wp2_with fail;refine (HX1.out _).mono ?_;rintro e w1 ⟨A1,m1,c1,rfl,hu1,hb1⟩;have LB1:=Hd (LB.out.trans (hb1.mono LB.out.size));have U1:=Hd hu1;clear hu1 hb1 LB;go_wp2_with fail;refine (HX2.out _).mono ?_;rintro e w2 ⟨A2,m2,c2,rfl,hu2,hb2⟩;have LB2:=stB LB1 hb2 LB1.out.size;have V1:=Hd (U1.out.below hb2);have V2:=Hd hu2;clear hu2 hb2 LB1 U1;go_wp2_with fail;refine (HPR.out _ _ _ _ _ _ _ V1.out V2.out).mono ?_;rintro e w3 ⟨A3,m3,c3,rfl,hu3,hb3⟩;have LB3:=stB LB2 hb3 LB2.out.size;have V3:=Hd hu3;clear hu3 hb3 LB2 V1 V2;go_wp2_with fail;refine (HX3.out _).mono ?_;rintro e w4 ⟨A4,m4,c4,rfl,hu4,hb4⟩;have LB4:=stB LB3 hb4 LB3.out.size;have V4:=Hd (V3.out.below hb4);have V5:=Hd hu4;clear hu4 hb4 LB3 V3;go_wp2_with fail;refine (HSU.out _ _ _ _ _ _ _ V4.out V5.out).mono ?_;rintro e w5 ⟨A5,m5,c5,rfl,hu5,hb5⟩;have LB5:=stB LB4 hb5 LB4.out.size;have V6:=Hd hu5;clear hu5 hb5 LB4 V4 V5;go_wp2_with fail;refine cx (HT.out _ _ _ _ V6.out) fun w6 hb6=>?_;have LB6:=stB LB5 hb6 LB5.out.size;clear hb6 LB5 V6;go_wp2
   simp only [Exit.jump]
   go_ret
   exact⟨rfl,LB6.out⟩
 ·rcases k1 with rfl | rfl
  all_goals
   go_enter Tryz.func162,Tryz.ntmps162
   go_wp2_with fail
   apply scope_once 0 _ _ rfl
   focus
    go_wp2_with fail;refine cy (HO.out _ (Below.refl _ _)) ?_;go_wp2_with fail;refine cy (HOZ.out) ?_;go_wp2_with fail;refine cy (HX.out _) ?_;go_wp2_with fail;refine cy (HY.out _) ?_;go_wp2_with fail;refine cy (HQ.out _) ?_;go_wp2_with fail;refine cy (HZ.out _) ?_
    have gz:(FloatKind.f64.format.order Z 8660422083433463808 == some Ordering.gt)=false:=by have h:=GZh.out;simpa using h
    go_wp2_with fail;clear gz;refine cy (HMI.out _) ?_;have hfz:=HFZh.out;have hez:=HEZh.out;go_wp2_with fail;refine cy (HS.out _) ?_
    have hsm:(FloatKind.f64.format.order S' 553942754166571008 == some Ordering.lt)=true:=by have h:=HSMh.out;simpa using h
    go_wp2_with fail
    try go_step3
    exact⟨rfl,rfl,rfl⟩
   clear HO HOZ HX HY HQ HZ HE HS HMI A1 A2 A3 A4 A5 A6 A7 GZh HFZh HEZh HSMh;generalize (w.alloc (.cells (Zv x y) 26)).alloc (.cells #[.float .f64 z] 26)=wa at LB ⊢;go_wp2_with fail;refine (HX1.out _).mono ?_;rintro e w1 ⟨A1,m1,c1,rfl,hu1,hb1⟩;have LB1:=Hd (LB.out.trans (hb1.mono LB.out.size));have U1:=Hd hu1;clear hu1 hb1 LB;go_wp2_with fail;refine (HX2.out _).mono ?_;rintro e w2 ⟨A2,m2,c2,rfl,hu2,hb2⟩;have LB2:=stB LB1 hb2 LB1.out.size;have V1:=Hd (U1.out.below hb2);have V2:=Hd hu2;clear hu2 hb2 LB1 U1;go_wp2_with fail;refine (HPR.out _ _ _ _ _ _ _ V1.out V2.out).mono ?_;rintro e w3 ⟨A3,m3,c3,rfl,hu3,hb3⟩;have LB3:=stB LB2 hb3 LB2.out.size;have V3:=Hd hu3;clear hu3 hb3 LB2 V1 V2;go_wp2_with fail;refine (HX3.out _).mono ?_;rintro e w4 ⟨A4,m4,c4,rfl,hu4,hb4⟩;have LB4:=stB LB3 hb4 LB3.out.size;have V4:=Hd (V3.out.below hb4);have V5:=Hd hu4;clear hu4 hb4 LB3 V3;go_wp2_with fail;refine (HSU.out _ _ _ _ _ _ _ V4.out V5.out).mono ?_;rintro e w5 ⟨A5,m5,c5,rfl,hu5,hb5⟩;have LB5:=stB LB4 hb5 LB4.out.size;have V6:=Hd hu5;clear hu5 hb5 LB4 V4 V5;go_wp2_with fail;refine cx (HT.out _ _ _ _ V6.out) fun w6 hb6=>?_;have LB6:=stB LB5 hb6 LB5.out.size;clear hb6 LB5 V6;go_wp2
   simp only [Exit.jump]
   go_ret
   exact⟨rfl,LB6.out⟩
 ·skip
  go_enter Tryz.func162,Tryz.ntmps162
  go_wp2_with fail
  apply scope_once 0 _ _ rfl
  focus
   go_wp2_with fail;refine cy (HO.out _ (Below.refl _ _)) ?_;go_wp2_with fail;refine cy (HOZ.out) ?_;go_wp2_with fail;refine cy (HX.out _) ?_;go_wp2_with fail;refine cy (HY.out _) ?_;go_wp2_with fail;refine cy (HQ.out _) ?_;go_wp2_with fail;refine cy (HZ.out _) ?_
   have gz:(FloatKind.f64.format.order Z 8660422083433463808 == some Ordering.gt)=false:=by have h:=GZh.out;simpa using h
   go_wp2_with fail;clear gz;refine cy (HMI.out _) ?_;have hfz:=HFZh.out;go_wp2_with fail;refine cy (HS.out _) ?_
   have hsm:(FloatKind.f64.format.order S' 553942754166571008 == some Ordering.lt)=true:=by have h:=HSMh.out;simpa using h
   go_wp2_with fail
   try go_step3
   exact⟨rfl,rfl,rfl⟩
  clear HO HOZ HX HY HQ HZ HE HS HMI A1 A2 A3 A4 A5 A6 A7 GZh HFZh HEZh HSMh;generalize (w.alloc (.cells (Zv x y) 26)).alloc (.cells #[.float .f64 z] 26)=wa at LB ⊢;go_wp2_with fail;refine (HX1.out _).mono ?_;rintro e w1 ⟨A1,m1,c1,rfl,hu1,hb1⟩;have LB1:=Hd (LB.out.trans (hb1.mono LB.out.size));have U1:=Hd hu1;clear hu1 hb1 LB;go_wp2_with fail;refine (HX2.out _).mono ?_;rintro e w2 ⟨A2,m2,c2,rfl,hu2,hb2⟩;have LB2:=stB LB1 hb2 LB1.out.size;have V1:=Hd (U1.out.below hb2);have V2:=Hd hu2;clear hu2 hb2 LB1 U1;go_wp2_with fail;refine (HPR.out _ _ _ _ _ _ _ V1.out V2.out).mono ?_;rintro e w3 ⟨A3,m3,c3,rfl,hu3,hb3⟩;have LB3:=stB LB2 hb3 LB2.out.size;have V3:=Hd hu3;clear hu3 hb3 LB2 V1 V2;go_wp2_with fail;refine (HX3.out _).mono ?_;rintro e w4 ⟨A4,m4,c4,rfl,hu4,hb4⟩;have LB4:=stB LB3 hb4 LB3.out.size;have V4:=Hd (V3.out.below hb4);have V5:=Hd hu4;clear hu4 hb4 LB3 V3;go_wp2_with fail;refine (HSU.out _ _ _ _ _ _ _ V4.out V5.out).mono ?_;rintro e w5 ⟨A5,m5,c5,rfl,hu5,hb5⟩;have LB5:=stB LB4 hb5 LB4.out.size;have V6:=Hd hu5;clear hu5 hb5 LB4 V4 V5;go_wp2_with fail;refine cx (HT.out _ _ _ _ V6.out) fun w6 hb6=>?_;have LB6:=stB LB5 hb6 LB5.out.size;clear hb6 LB5 V6;go_wp2
  simp only [Exit.jump]
  go_ret
  exact⟨rfl,LB6.out⟩
 ·rcases k1 with rfl | rfl
  all_goals
   have A8:=fun W=>run_float_arith (P:=Tryz.prog) W .mul 26 .f64 S' 4359484439294640128 q hq;have A8h:=Hd A8;have HO2h:=Hd ho2;clear hq A8 ho2
   go_enter Tryz.func162,Tryz.ntmps162
   go_wp2_with fail
   apply scope_once 0 _ _ rfl
   focus
    go_wp2_with fail;refine cy (HO.out _ (Below.refl _ _)) ?_;go_wp2_with fail;refine cy (HOZ.out) ?_;go_wp2_with fail;refine cy (HX.out _) ?_;go_wp2_with fail;refine cy (HY.out _) ?_;go_wp2_with fail;refine cy (HQ.out _) ?_;go_wp2_with fail;refine cy (HZ.out _) ?_
    have gz:(FloatKind.f64.format.order Z 8660422083433463808 == some Ordering.gt)=false:=by have h:=GZh.out;simpa using h
    go_wp2_with fail;clear gz;refine cy (HMI.out _) ?_;have hfz:=HFZh.out;go_wp2_with fail;refine cy (HS.out _) ?_
    have hsm:(FloatKind.f64.format.order S' 553942754166571008 == some Ordering.lt)=false:=by have h:=HSMh.out;simpa using h
    go_wp2_with fail;refine cy (HE.out _) ?_;go_wp2_with fail;refine cy (HS.out _) ?_;have A8:=A8h.out;have ho2:=HO2h.out;go_wp2_with fail
    try go_step3
    exact⟨rfl,rfl,rfl⟩
   clear HO HOZ HX HY HQ HZ HE HS HMI A1 A2 A3 A4 A5 A6 A7 GZh HFZh HEZh HSMh A8h HO2h;generalize (w.alloc (.cells (Zv x y) 26)).alloc (.cells #[.float .f64 z] 26)=wa at LB ⊢;go_wp2_with fail;refine (HX1.out _).mono ?_;rintro e w1 ⟨A1,m1,c1,rfl,hu1,hb1⟩;have LB1:=Hd (LB.out.trans (hb1.mono LB.out.size));have U1:=Hd hu1;clear hu1 hb1 LB;go_wp2_with fail;refine (HX2.out _).mono ?_;rintro e w2 ⟨A2,m2,c2,rfl,hu2,hb2⟩;have LB2:=stB LB1 hb2 LB1.out.size;have V1:=Hd (U1.out.below hb2);have V2:=Hd hu2;clear hu2 hb2 LB1 U1;go_wp2_with fail;refine (HPR.out _ _ _ _ _ _ _ V1.out V2.out).mono ?_;rintro e w3 ⟨A3,m3,c3,rfl,hu3,hb3⟩;have LB3:=stB LB2 hb3 LB2.out.size;have V3:=Hd hu3;clear hu3 hb3 LB2 V1 V2;go_wp2_with fail;refine (HX3.out _).mono ?_;rintro e w4 ⟨A4,m4,c4,rfl,hu4,hb4⟩;have LB4:=stB LB3 hb4 LB3.out.size;have V4:=Hd (V3.out.below hb4);have V5:=Hd hu4;clear hu4 hb4 LB3 V3;go_wp2_with fail;refine (HSU.out _ _ _ _ _ _ _ V4.out V5.out).mono ?_;rintro e w5 ⟨A5,m5,c5,rfl,hu5,hb5⟩;have LB5:=stB LB4 hb5 LB4.out.size;have V6:=Hd hu5;clear hu5 hb5 LB4 V4 V5;go_wp2_with fail;refine cx (HT.out _ _ _ _ V6.out) fun w6 hb6=>?_;have LB6:=stB LB5 hb6 LB5.out.size;clear hb6 LB5 V6;go_wp2
   simp only [Exit.jump]
   go_ret
   exact⟨rfl,LB6.out⟩
end
end Go.Proofs.YthlmlmfebpjgdaaGreatDoor
