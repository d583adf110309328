/-
Lemmas for the statement: MuP Kp ReadN KnbT Rdl IraT PosT.
-/
import Derived.Test.YthlmlmfebpjgdaaGreatDoorM06
import Derived.Test.YthlmlmfebpjgdaaGreatDoorM03
import Derived.Test.YthlmlmfebpjgdaaGreatDoorM01
import Derived.Deep.DeepCutAuto
import Derived.Deep.RegionHeld3
import Derived.Test.YthlmlmfebpjgdaaGreatDoorM02
import Derived.Deep.CutBlock
set_option linter.unusedSimpArgs false
set_option linter.unusedVariables false
set_option maxHeartbeats 12800000
namespace Go.Proofs.YthlmlmfebpjgdaaGreatDoor
section
open Go.RowKit
theorem rsg_neg(x:Rat):rsg (-x)=- rsg x:=by
 unfold rsg
 by_cases h:x=0
 ·subst h;simp
 ·rw [if_neg h,if_neg (by grind)]
  by_cases h2:x<0
  ·rw [if_pos h2,if_neg (by grind)];rfl
  ·rw [if_neg h2,if_pos (by grind)]
theorem esx_neg(s:Int)(x:Rat):esx (-s) (-x)=- esx s x:=by
 unfold esx
 by_cases h:s=0
 ·subst h;simp [rsg_neg]
 ·rw [if_pos (by omega),if_pos h]
theorem rt_neg(s:Int)(x:Rat)(t:Int)(y:Rat):rt (-s) (-x) t y=(-(rt s x t y).1,-(rt s x t y).2.1,(rt s x t y).2.2):=by
 unfold rt;rw [esx_neg]
 by_cases h:esx s x=0
 ·rw [if_pos h,if_pos (by omega)];simp
 ·rw [if_neg h,if_neg (by omega)]
  by_cases h2:t=0
  ·rw [if_neg (show ¬ t≠0 by simpa using h2),if_neg (show ¬ t≠0 by simpa using h2)]
   by_cases h3:s≠0\/y=0
   ·rw [if_pos h3,if_pos (show -s≠0\/y=0 by rcases h3 with h | h;exact .inl (by omega);exact .inr h)];simp
   ·rw [if_neg h3,if_neg (show ¬ (-s≠0\/y=0) by rintro (h | h);exact h3 (.inl (by omega));exact h3 (.inr h))]
    simp [Rat.div_def,Rat.neg_mul]
  ·rw [if_pos h2,if_pos h2];simp
theorem dn_neg(s:Int)(x:Rat):dn (-s) (-x)=- up s x:=by
 unfold dn up
 by_cases h:s=0
 ·subst h;simp only [Int.neg_zero,if_true];have:=rndI_neg (d:=1) (.inr rfl) x
  exact this
 ·rw [if_neg (by omega),if_neg h,Int.neg_mul]
theorem up_neg(s:Int)(x:Rat):up (-s) (-x)=- dn s x:=by
 have h:=dn_neg (-s) (-x);rw [Int.neg_neg,Rat.neg_neg] at h
 omega
theorem ov_neg(s:Int)(x:Rat)(j:Int):ov (-s) (-x) j=(-(ov s x j).2,-(ov s x j).1):=by
 unfold ov
 by_cases h:s=0
 ·subst h
  simp only [Int.neg_zero,ne_eq,not_true_eq_false,if_false]
  by_cases h2:x=0\/j=M
  ·rw [if_pos h2,if_pos (by rcases h2 with h | h;exact .inl (by grind);exact .inr h)];simp
  ·rw [if_neg h2,if_neg (by intro h;apply h2;rcases h with h | h;exact .inl (by grind);exact .inr h)]
   have e:-x / fl j=-(x / fl j):=by rw [Rat.div_def,Rat.div_def,Rat.neg_mul]
   have a:=rndI_neg (d:=1) (.inr rfl) (x / fl j);have b:=rndI_neg (d:=-1) (.inl rfl) (x / fl j);rw [e,show (1:Int)=- -1 from rfl,b,show (-(1:Int))=-1 from rfl];rw [show (- -1:Int)=1 from rfl,a]
 ·rw [if_pos (by omega),if_pos h,Int.neg_mul]
theorem fl_pos{j:Int}(h:0<j):0<fl j:=by have:=fl_lt_iff.2 h;rwa [fl_zero] at this
theorem fl_nonneg{j:Int}(h:0<=j):0<=fl j:=by have:=fl_le_iff.2 h;rwa [fl_zero] at this
theorem esx_zero{s:Int}{x:Rat}(hx:s≠0->x=0):esx s x=0↔s=0/\x=0:=by
 unfold esx
 by_cases h:s=0
 ·subst h
  simp only [ne_eq,not_true_eq_false,if_false,true_and]
  unfold rsg
  by_cases h2:x=0
  ·simp [h2]
  ·rw [if_neg h2]
   constructor
   ·intro h3;split at h3<;>omega
   ·intro h3;exact absurd h3 h2
 ·rw [if_pos h]
  constructor
  ·intro h3;exact absurd h3 h
  ·intro h3;exact absurd h3.1 h
theorem ov_rt{s:Int}{x:Rat}{j:Int}(hx:s≠0->x=0)(hj:0<j)(hj2:j<=M)(h:s=0\/j<M):
  ov s x j=(dn (rt s x (es j) (ex j)).1 (rt s x (es j) (ex j)).2.1,up (rt s x (es j) (ex j)).1 (rt s x (es j) (ex j)).2.1):=by
 have hM:=M_val;have z1:=rndI_zero (d:=-1) (.inl rfl);have z2:=rndI_zero (d:=1) (.inr rfl);unfold ov rt
 by_cases hs:s=0
 ·subst hs
  simp only [ne_eq,not_true_eq_false,if_false,false_or]
  by_cases h0:x=0
  ·rw [if_pos (.inl h0),if_pos ((esx_zero hx).2 ⟨rfl,h0⟩)]
   simp only [dn_zero,up_zero,z1,z2]
  ·rw [if_neg (fun h=>h0 ((esx_zero hx).1 h).2)]
   by_cases hm:j=M
   ·subst hm;rw [if_pos (.inr rfl),if_pos (by rw [es_max];omega)]
    simp only [dn_zero,up_zero,z1,z2]
   ·rw [if_neg (by intro h;rcases h with h | h;exact h0 h;exact hm h),if_neg (by rw [es_mid (by omega) (by omega)];omega),ex_mid (by omega) (by omega),if_neg (by have:=fl_pos hj;grind)]
    simp only [dn_zero,up_zero]
 ·rw [if_pos hs,if_neg (fun h=>hs ((esx_zero hx).1 h).1),if_neg (by rw [es_mid (by omega) (by omega)];omega),if_pos (.inl hs)];unfold dn up esx
  simp only [ne_eq,hs,not_false_eq_true,if_true,if_false]
def qA(s:Int)(x:Rat)(b1 b2:Int):Int × Rat × Bool:=if 0<esx s x then rt s x (es b2) (ex b2) else rt s x (es (max b1 0)) (ex (max b1 0))
def pA(s:Int)(x:Rat)(b1 b2:Int):Int × Int:=if 0<=esx s x then ov s x b2 else if 0<b1 then ov s x b1 else (-(M:Int),-(M:Int))
def qB(s:Int)(x:Rat)(b1 b2:Int):Int × Rat × Bool:=if esx s x<0 then rt s x (es b2) (ex b2) else rt s x (es (max b1 0)) (ex (max b1 0))
def pB(s:Int)(x:Rat)(b1 b2:Int):Int × Int:=if esx s x<=0 then ov s x b2 else if 0<b1 then ov s x b1 else ((M:Int),(M:Int))
theorem es_nought:es 0=0:=by decide
theorem ex_nought:ex 0=0:=by unfold ex;rw [if_pos es_nought,fl_zero]
theorem rt_nought{s:Int}{x:Rat}(t:Int)(y:Rat)(h:esx s x=0):rt s x t y=(0,0,false):=by unfold rt;rw [if_pos h]
theorem esx_rng{s:Int}{x:Rat}(hs:s=0\/s=-1):esx s x=-1\/esx s x=0\/esx s x=1:=by
 unfold esx rsg
 rcases hs with rfl | rfl
 ·rw [if_neg (by omega)]
  split
  ·exact .inr (.inl rfl)
  ·split
   ·exact .inl rfl
   ·exact .inr (.inr rfl)
 ·rw [if_pos (by omega)];exact .inl rfl
theorem pA_qA{s:Int}{x:Rat}{b1 b2:Int}(hs:s=0\/s=-1)(hx:s≠0->x=0)(hb:b1<=b2)(h2:0<b2)(h3:b2<=M)(h1:b1<M):
  pA s x b1 b2=(dn (qA s x b1 b2).1 (qA s x b1 b2).2.1,up (qA s x b1 b2).1 (qA s x b1 b2).2.1):=by
 unfold pA qA;have z1:=rndI_zero (d:=-1) (.inl rfl);have z2:=rndI_zero (d:=1) (.inr rfl)
 rcases esx_rng (x:=x) hs with he | he | he
 ·rw [if_neg (show ¬ 0<=esx s x by omega),if_neg (show ¬ 0<esx s x by omega)]
  by_cases hb0:0<b1
  ·rw [if_pos hb0,show max b1 0=b1 from by omega]
   exact ov_rt hx hb0 (by omega) (.inr h1)
  ·rw [if_neg hb0,show max b1 0=0 from by omega,es_nought,ex_nought];unfold rt;rw [if_neg (by omega),if_neg (by omega),if_pos (.inr rfl),he];unfold dn up
   simp only
   rw [if_neg (by omega),if_neg (by omega)]
   simp
 ·rw [if_pos (show 0<=esx s x by omega),if_neg (show ¬ 0<esx s x by omega)];have hz:=(esx_zero hx).1 he;rw [ov_rt hx h2 h3 (.inl hz.1),rt_nought _ _ he,rt_nought _ _ he]
 ·rw [if_pos (show 0<=esx s x by omega),if_pos (show 0<esx s x by omega)]
  have hz:s=0:=by
   rcases hs with h | h
   ·exact h
   ·exfalso;subst h;unfold esx at he;rw [if_pos (by omega)] at he;omega
  exact ov_rt hx h2 h3 (.inl hz)
theorem qB_neg(s:Int)(x:Rat)(b1 b2:Int):qB s x b1 b2=(-(qA (-s) (-x) b1 b2).1,-(qA (-s) (-x) b1 b2).2.1,(qA (-s) (-x) b1 b2).2.2):=by
 unfold qA qB;rw [esx_neg,rt_neg,rt_neg]
 by_cases h:esx s x<0
 ·rw [if_pos h,if_pos (show 0 < -esx s x by omega)];simp [Rat.neg_neg]
 ·rw [if_neg h,if_neg (show ¬ 0 < -esx s x by omega)];simp [Rat.neg_neg]
theorem pB_neg(s:Int)(x:Rat)(b1 b2:Int):pB s x b1 b2=(-(pA (-s) (-x) b1 b2).2,-(pA (-s) (-x) b1 b2).1):=by
 unfold pA pB;rw [esx_neg,ov_neg,ov_neg]
 by_cases h:esx s x<=0
 ·rw [if_pos h,if_pos (show 0<=-esx s x by omega)];simp
 ·rw [if_neg h,if_neg (show ¬ 0<=-esx s x by omega)]
  by_cases h2:0<b1
  ·rw [if_pos h2,if_pos h2];simp
  ·rw [if_neg h2,if_neg h2];simp
theorem pB_qB{s:Int}{x:Rat}{b1 b2:Int}(hs:s=0\/s=1)(hx:s≠0->x=0)(hb:b1<=b2)(h2:0<b2)(h3:b2<=M)(h1:b1<M):
  pB s x b1 b2=(dn (qB s x b1 b2).1 (qB s x b1 b2).2.1,up (qB s x b1 b2).1 (qB s x b1 b2).2.1):=by
 rw [pB_neg,qB_neg,pA_qA (s:=-s) (x:=-x) (by omega) (fun h=>by rw [hx (by omega)];rfl) hb h2 h3 h1]
 simp only [dn_neg,up_neg]
theorem qA_kind{s:Int}{x:Rat}{b1 b2:Int}(hs:s=0\/s=-1)(hx:s≠0->x=0)(hb:b1<=b2)(h2:0<b2)(h3:b2<=M)(h1:b1<M):
  ((qA s x b1 b2).1=-1/\(qA s x b1 b2).2.1=0/\(qA s x b1 b2).2.2=true/\esx s x<0) \/
  ((qA s x b1 b2).1=0/\(qA s x b1 b2).2.1=0/\(qA s x b1 b2).2.2=true/\0<esx s x/\b2=M) \/
  ((qA s x b1 b2).1=0/\(qA s x b1 b2).2.1=0/\(qA s x b1 b2).2.2=false/\esx s x=0) \/
  ((qA s x b1 b2).1=0/\(qA s x b1 b2).2.2=false/\s=0/\x≠0/\((0<x/\b2<M/\(qA s x b1 b2).2.1=x / fl b2)\/(x<0/\0<b1/\(qA s x b1 b2).2.1=x / fl b1))):=by
 have hM:=M_val;unfold qA
 rcases esx_rng (x:=x) hs with he | he | he
 ·rw [if_neg (by omega)]
  have hm:max b1 0<M:=by omega
  have hm0:0<=max b1 0:=by omega
  unfold rt;rw [if_neg (by omega),if_neg (by rw [es_mid (by omega) hm];omega)]
  by_cases h:s≠0\/ex (max b1 0)=0
  ·rw [if_pos h];exact .inl ⟨he,rfl,rfl,by omega⟩
  ·rw [if_neg h]
   have h4:s=0:=by
    rcases hs with h5 | h5
    ·exact h5
    ·exact absurd (.inl (by omega)) h
   have h6:0<b1:=by
    rcases Int.lt_or_le 0 b1 with h7 | h7
    ·exact h7
    ·exact absurd (.inr (by rw [show max b1 0=0 from by omega,ex_nought])) h
   have h8:x<0:=by
    unfold esx rsg at he;rw [if_neg (by omega)] at he
    split at he
    ·omega
    ·split at he
     ·assumption
     ·omega
   refine .inr (.inr (.inr ⟨rfl,rfl,h4,by grind,.inr ⟨h8,h6,?_⟩⟩));rw [show max b1 0=b1 from by omega,ex_mid (by omega) h1]
 ·rw [if_neg (by omega),rt_nought _ _ he]
  exact .inr (.inr (.inl ⟨rfl,rfl,rfl,he⟩))
 ·rw [if_pos (by omega)]
  have h4:s=0:=by
   rcases hs with h | h
   ·exact h
   ·exfalso;subst h;unfold esx at he;rw [if_pos (by omega)] at he;omega
  have h8:0<x:=by
   unfold esx rsg at he;rw [if_neg (by omega)] at he
   split at he
   ·omega
   ·split at he
    ·omega
    ·grind
  unfold rt;rw [if_neg (by omega)]
  by_cases hm:b2=M
  ·subst hm;rw [if_pos (by rw [es_max];omega)]
   exact .inr (.inl ⟨rfl,rfl,rfl,by omega,rfl⟩)
  ·rw [if_neg (by rw [es_mid (by omega) (by omega)];omega),ex_mid (by omega) (by omega),if_neg (by have:=fl_pos h2;rintro (h | h);exact h h4;grind)]
   exact .inr (.inr (.inr ⟨rfl,rfl,h4,by grind,.inl ⟨h8,by omega,rfl⟩⟩))
theorem qB_kind{s:Int}{x:Rat}{b1 b2:Int}(hs:s=0\/s=1)(hx:s≠0->x=0)(hb:b1<=b2)(h2:0<b2)(h3:b2<=M)(h1:b1<M):
  ((qB s x b1 b2).1=1/\(qB s x b1 b2).2.1=0/\(qB s x b1 b2).2.2=true/\0<esx s x) \/
  ((qB s x b1 b2).1=0/\(qB s x b1 b2).2.1=0/\(qB s x b1 b2).2.2=true/\esx s x<0/\b2=M) \/
  ((qB s x b1 b2).1=0/\(qB s x b1 b2).2.1=0/\(qB s x b1 b2).2.2=false/\esx s x=0) \/
  ((qB s x b1 b2).1=0/\(qB s x b1 b2).2.2=false/\s=0/\x≠0/\((x<0/\b2<M/\(qB s x b1 b2).2.1=x / fl b2)\/(0<x/\0<b1/\(qB s x b1 b2).2.1=x / fl b1))):=by
 have k:=qA_kind (s:=-s) (x:=-x) (by omega) (fun h=>by rw [hx (by omega)];rfl) hb h2 h3 h1;rw [esx_neg] at k;rw [qB_neg]
 dsimp only
 have dv:∀ c:Rat,-(-x / c)=x / c:=fun c=>by rw [Rat.div_def,Rat.div_def,Rat.neg_mul,Rat.neg_neg]
 rcases k with ⟨a,b,c,d⟩ | ⟨a,b,c,d,e⟩ | ⟨a,b,c,d⟩ | ⟨a,b,c,d,e⟩
 ·exact .inl ⟨by omega,by rw [b];rfl,c,by omega⟩
 ·exact .inr (.inl ⟨by omega,by rw [b];rfl,c,by omega,e⟩)
 ·exact .inr (.inr (.inl ⟨by omega,by rw [b];rfl,c,by omega⟩))
 ·refine .inr (.inr (.inr ⟨by omega,b,by omega,by grind,?_⟩))
  rcases e with ⟨e1,e2,e3⟩ | ⟨e1,e2,e3⟩
  ·exact .inl ⟨by grind,e2,by rw [e3,dv]⟩
  ·exact .inr ⟨by grind,e2,by rw [e3,dv]⟩
theorem div_le_div{x y c d:Rat}(hc:0<c)(hd:0<d)(h:x*d<=y*c):x / c<=y / d:=by
 have hk:0<c*d:=Rat.mul_pos hc hd;refine (mul_le_pos hk).1 ?_
 have e1:x / c*(c*d)=x*d:=by rw [<- Rat.mul_assoc,Rat.div_mul_cancel (by grind)]
 have e2:y / d*(c*d)=y*c:=by rw [Rat.mul_comm c d,<- Rat.mul_assoc,Rat.div_mul_cancel (by grind)]
 rw [e1,e2];exact h
theorem div_pos'{x c:Rat}(hx:0<x)(hc:0<c):0<x / c:=by
 have h1:=Rat.inv_pos.2 hc;rw [Rat.div_def];exact Rat.mul_pos hx h1
theorem div_neg'{x c:Rat}(hx:x<0)(hc:0<c):x / c<0:=by
 have h:=div_pos' (x:=-x) (by grind) hc;rw [Rat.div_def,Rat.neg_mul,<- Rat.div_def] at h
 grind
theorem esx_pos{s:Int}{x:Rat}(hs:s=0\/s=-1)(h:0<esx s x):s=0/\0<x:=by
 unfold esx at h
 rcases hs with rfl | rfl
 ·rw [if_neg (by omega)] at h;refine⟨rfl,?_⟩;unfold rsg at h
  split at h
  ·omega
  ·split at h
   ·omega
   ·grind
 ·rw [if_pos (by omega)] at h;omega
theorem esx_lt{s:Int}{x:Rat}(hs:s=0\/s=1)(h:esx s x<0):s=0/\x<0:=by
 have k:=esx_pos (s:=-s) (x:=-x) (by omega) (by rw [esx_neg];omega)
 exact⟨by omega,by grind⟩
theorem q_le{s1 s2:Int}{x1 x2:Rat}{b1 b2:Int}(hs1:s1=0\/s1=-1)(hx1:s1≠0->x1=0)(hs2:s2=0\/s2=1)(hx2:s2≠0->x2=0)(hle:s1=0->s2=0->x1<=x2)(hb:b1<=b2)(h2:0<b2)(h3:b2<=M)(h1:b1<M):
  dn (qA s1 x1 b1 b2).1 (qA s1 x1 b1 b2).2.1<=up (qB s2 x2 b1 b2).1 (qB s2 x2 b1 b2).2.1:=by
 have hM:=M_val;have ka:=qA_kind hs1 hx1 hb h2 h3 h1;have kb:=qB_kind hs2 hx2 hb h2 h3 h1;have f2:=fl_pos h2
 have fin:(qA s1 x1 b1 b2).1=0->(qB s2 x2 b1 b2).1=0->(qA s1 x1 b1 b2).2.1<=(qB s2 x2 b1 b2).2.1->dn (qA s1 x1 b1 b2).1 (qA s1 x1 b1 b2).2.1<=up (qB s2 x2 b1 b2).1 (qB s2 x2 b1 b2).2.1:=fun e1 e2 h=>by
  rw [e1,e2,dn_zero,up_zero]
  exact Int.le_trans (rndI_le _) (rndI_mono (.inr rfl) h)
 rcases ka with ⟨a1,-,-,-⟩ | ⟨a1,a2,-,a4,a5⟩ | ⟨a1,a2,-,a4⟩ | ⟨a1,-,a3,a4,a5⟩
 ·have:=up_gt (s:=(qB s2 x2 b1 b2).1) (x:=(qB s2 x2 b1 b2).2.1) (by rcases kb with k | k | k | k<;>omega);unfold dn;rw [a1,if_neg (by omega)];omega
 all_goals rcases kb with ⟨c1,-,-,-⟩ | ⟨c1,c2,-,c4,c5⟩ | ⟨c1,c2,-,c4⟩ | ⟨c1,-,c3,c4,c5⟩
 all_goals first
  | (have:=dn_lt (s:=(qA s1 x1 b1 b2).1) (x:=(qA s1 x1 b1 b2).2.1) (.inl a1);unfold up;rw [c1,if_neg (by omega)];omega)
  | skip
 ·have p:=esx_pos hs1 a4;have q:=esx_lt hs2 c4;have:=hle p.1 q.1;exfalso;grind
 ·have p:=esx_pos hs1 a4;have q:=(esx_zero hx2).1 c4;have:=hle p.1 q.1;exfalso;grind
 ·have p:=esx_pos hs1 a4;have:=hle p.1 c3;refine fin a1 c1 ?_
  rcases c5 with ⟨d1,d2,d3⟩ | ⟨d1,d2,d3⟩
  ·exfalso;grind
  ·rw [a2,d3];have:=div_pos' d1 (fl_pos d2);grind
 ·have p:=(esx_zero hx1).1 a4;have q:=esx_lt hs2 c4;have:=hle p.1 q.1;exfalso;grind
 ·refine fin a1 c1 ?_;rw [a2,c2];exact Rat.le_refl
 ·have p:=(esx_zero hx1).1 a4;have:=hle p.1 c3;refine fin a1 c1 ?_
  rcases c5 with ⟨d1,d2,d3⟩ | ⟨d1,d2,d3⟩
  ·exfalso;grind
  ·rw [a2,d3];have:=div_pos' d1 (fl_pos d2);grind
 ·have q:=esx_lt hs2 c4;have:=hle a3 q.1;refine fin a1 c1 ?_
  rcases a5 with ⟨d1,d2,d3⟩ | ⟨d1,d2,d3⟩
  ·exfalso;grind
  ·rw [c2,d3];have:=div_neg' d1 (fl_pos d2);grind
 ·have q:=(esx_zero hx2).1 c4;have:=hle a3 q.1;refine fin a1 c1 ?_
  rcases a5 with ⟨d1,d2,d3⟩ | ⟨d1,d2,d3⟩
  ·exfalso;grind
  ·rw [c2,d3];have:=div_neg' d1 (fl_pos d2);grind
 ·have hh:=hle a3 c3;have fb:0<b1->fl b1<=fl b2:=fun _=>fl_le_iff.2 hb;refine fin a1 c1 ?_
  rcases a5 with ⟨d1,d2,d3⟩ | ⟨d1,d2,d3⟩
  ·rcases c5 with ⟨e1,e2,e3⟩ | ⟨e1,e2,e3⟩
   ·exfalso;grind
   ·rw [d3,e3];have f1:=fl_pos e2;refine div_le_div f2 f1 ?_;have m1:x1*fl b1<=x2*fl b1:=(mul_le_pos f1).2 hh;have m2:fl b1*x2<=fl b2*x2:=(mul_le_pos e1).2 (fb e2)
    grind
  ·have f1:=fl_pos d2
   rcases c5 with ⟨e1,e2,e3⟩ | ⟨e1,e2,e3⟩
   ·rw [d3,e3];refine div_le_div f1 f2 ?_;have m1:x1*fl b2<=x2*fl b2:=(mul_le_pos f2).2 hh;have m2:fl b1*(-x2)<=fl b2*(-x2):=(mul_le_pos (by grind)).2 (fb d2)
    grind
   ·rw [d3,e3];have:=div_neg' d1 f1;have:=div_pos' e1 f1
    grind
theorem rndI_pos{x:Rat}(h:0<x):0<rndI 1 x:=by
 have hM:=M_val;have h1:=mt ((rndI_up x).2.2 0 (by omega) (by omega)).1 (by rw [fl_zero];grind)
 omega
theorem rndI_neg'{x:Rat}(h:x<0):rndI (-1) x<0:=by
 have hM:=M_val;have h1:=mt ((rndI_down x).2.2 0 (by omega) (by omega)).1 (by rw [fl_zero];grind)
 omega
theorem openA{s1 s2:Int}{x1 x2:Rat}{b1 b2:Int}(hs1:s1=0\/s1=-1)(hx1:s1≠0->x1=0)(hs2:s2=0\/s2=1)(hle:s1=0->s2=0->x1<=x2)(hb:b1<=b2)(h2:0<b2)(h3:b2<=M)(h1:b1<M):
  ((0<esx s1 x1\/esx s2 x2<0)/\dn (qA s1 x1 b1 b2).1 (qA s1 x1 b1 b2).2.1=0/\up (qA s1 x1 b1 b2).1 (qA s1 x1 b1 b2).2.1=0)↔((qA s1 x1 b1 b2).1=0/\(qA s1 x1 b1 b2).2.1=0/\(qA s1 x1 b1 b2).2.2=true):=by
 have hM:=M_val;have z1:=rndI_zero (d:=-1) (.inl rfl);have z2:=rndI_zero (d:=1) (.inr rfl)
 rcases qA_kind hs1 hx1 hb h2 h3 h1 with ⟨a1,-,-,-⟩ | ⟨a1,a2,a3,a4,a5⟩ | ⟨a1,a2,a3,a4⟩ | ⟨a1,a2,a3,a4,a5⟩
 ·constructor
  ·rintro⟨-,h,-⟩;unfold dn at h;rw [a1,if_neg (by omega)] at h;omega
  ·rintro⟨h,-⟩;omega
 ·refine⟨fun _=>⟨a1,a2,a3⟩,fun _=>⟨.inl a4,?_⟩⟩;rw [a1,a2,dn_zero,up_zero];exact⟨z1,z2⟩
 ·constructor
  ·rintro⟨h | h,-⟩
   ·omega
   ·have q:=esx_lt hs2 h;have r:=(esx_zero hx1).1 a4;have:=hle r.1 q.1
    exfalso;grind
  ·rintro⟨-,-,h⟩;rw [a3] at h;cases h
 ·constructor
  ·rintro⟨-,h,h'⟩;rw [a1,dn_zero] at h;rw [a1,up_zero] at h'
   rcases a5 with ⟨d1,d2,d3⟩ | ⟨d1,d2,d3⟩
   ·have:=rndI_pos (div_pos' d1 (fl_pos h2));rw [d3] at h';omega
   ·have:=rndI_neg' (div_neg' d1 (fl_pos d2));rw [d3] at h;omega
  ·rintro⟨-,-,h⟩;rw [a2] at h;cases h
theorem openB{s1 s2:Int}{x1 x2:Rat}{b1 b2:Int}(hs1:s1=0\/s1=-1)(hs2:s2=0\/s2=1)(hx2:s2≠0->x2=0)(hle:s1=0->s2=0->x1<=x2)(hb:b1<=b2)(h2:0<b2)(h3:b2<=M)(h1:b1<M):
  ((0<esx s1 x1\/esx s2 x2<0)/\dn (qB s2 x2 b1 b2).1 (qB s2 x2 b1 b2).2.1=0/\up (qB s2 x2 b1 b2).1 (qB s2 x2 b1 b2).2.1=0)↔((qB s2 x2 b1 b2).1=0/\(qB s2 x2 b1 b2).2.1=0/\(qB s2 x2 b1 b2).2.2=true):=by
 have k:=openA (s1:=-s2) (x1:=-x2) (s2:=-s1) (x2:=-x1) (by omega) (fun h=>by rw [hx2 (by omega)];rfl) (by omega) (fun a b=>by have:=hle (by omega) (by omega);grind) hb h2 h3 h1;rw [esx_neg,esx_neg] at k;rw [qB_neg]
 dsimp only
 rw [dn_neg,up_neg]
 constructor
 ·rintro⟨a,b,c⟩;have:=k.1 ⟨by omega,by omega,by omega⟩
  exact⟨by omega,by rw [this.2.1];rfl,this.2.2⟩
 ·rintro⟨a,b,c⟩;have:=k.2 ⟨by omega,by grind,c⟩
  exact⟨by omega,by omega,by omega⟩
theorem ct_tail{op:Bool}{sa:Int}{xa:Rat}{fa:Bool}{sb:Int}{xb:Rat}{fb:Bool}{i j:Int}(h:-(M:Int)<=i/\i<=j/\j<=M/\i<M/\-(M:Int)<j)(ka:sa=0\/sa=-1)(kb:sb=0\/sb=1)
  (wa:fa=true->sa=-1\/sa=0/\xa=0)(wb:fb=true->sb=1\/sb=0/\xb=0)(oa:(op=true/\dn sa xa=0/\up sa xa=0)↔(sa=0/\xa=0/\fa=true))(ob:(op=true/\dn sb xb=0/\up sb xb=0)↔(sb=0/\xb=0/\fb=true)):
  ctO op i j (dn sa xa) (up sa xa) (dn sb xb) (up sb xb)=pf sa xa fa sb xb fb i j:=by
 have hM:=M_val;unfold pf;rw [if_neg (by omega)];unfold wg ctO;rw [ec_lo_at (by omega) ka,ec_hi_at (by omega) kb];have e1:=ec_hi (i:=i) (s:=sb) (x:=xb) (by omega) kb;have e2:=ec_lo (j:=j) (s:=sa) (x:=xa) (by omega) ka
 have z0:∀ k:Int,-(M:Int)<=k->k<=M->(ec (es k) (ex k) 0 0=0↔k=0):=fun k k1 k2=>by
  have h:=ec_idx (i:=k) (b:=0) k1 k2 (by omega) (by omega);rw [es_nought,ex_nought] at h;unfold SameSign at h
  omega
 have e3:(ec (es i) (ex i) sb xb=0/\fb=true)↔(op=true/\dn sb xb=0/\up sb xb=0/\i=0):=by
  constructor
  ·rintro⟨a,b⟩
   rcases wb b with k | k
   ·exact absurd a (ec_hi_open (by omega) k)
   ·have q:=ob.2 ⟨k.1,k.2,b⟩;rw [k.1,k.2] at a
    exact⟨q.1,q.2.1,q.2.2,(z0 i (by omega) (by omega)).1 a⟩
  ·rintro⟨a,b,c,d⟩;have q:=ob.1 ⟨a,b,c⟩;rw [q.1,q.2.1]
   exact⟨(z0 i (by omega) (by omega)).2 d,q.2.2⟩
 have e4:(ec (es j) (ex j) sa xa=0/\fa=true)↔(op=true/\dn sa xa=0/\up sa xa=0/\j=0):=by
  constructor
  ·rintro⟨a,b⟩
   rcases wa b with k | k
   ·exact absurd a (ec_lo_open (by omega) k)
   ·have q:=oa.2 ⟨k.1,k.2,b⟩;rw [k.1,k.2] at a
    exact⟨q.1,q.2.1,q.2.2,(z0 j (by omega) (by omega)).1 a⟩
  ·rintro⟨a,b,c,d⟩;have q:=oa.1 ⟨a,b,c⟩;rw [q.1,q.2.1]
   exact⟨(z0 j (by omega) (by omega)).2 d,q.2.2⟩
 by_cases hc:dn sb xb<i\/j<up sa xa
 ·rw [if_pos hc,if_pos]
  rcases hc with h1 | h1
  ·exact .inl (e1.2 h1)
  ·exact .inr (.inr (.inl (e2.2 h1)))
 ·rw [if_neg hc]
  by_cases hd:op=true/\((dn sa xa=0/\up sa xa=0/\j<=0)\/(dn sb xb=0/\up sb xb=0/\0<=i))
  ·rw [if_pos hd,if_pos];obtain⟨ho,hd | hd⟩:=hd
   ·exact .inr (.inr (.inr (e4.2 ⟨ho,hd.1,hd.2.1,by omega⟩)))
   ·exact .inr (.inl (e3.2 ⟨ho,hd.1,hd.2.1,by omega⟩))
  ·rw [if_neg hd,if_neg];rintro (h1 | h1 | h1 | h1)
   ·exact hc (.inl (e1.1 h1))
   ·have q:=e3.1 h1
    exact hd ⟨q.1,.inr ⟨q.2.1,q.2.2.1,by omega⟩⟩
   ·exact hc (.inr (e2.1 h1))
   ·have q:=e4.1 h1
    exact hd ⟨q.1,.inl ⟨q.2.1,q.2.2.1,by omega⟩⟩
theorem ct_pf{s1 s2:Int}{x1 x2:Rat}{b1 b2:Int}(hs1:s1=0\/s1=-1)(hx1:s1≠0->x1=0)(hs2:s2=0\/s2=1)(hx2:s2≠0->x2=0)(hle:s1=0->s2=0->x1<=x2)(hb:b1<=b2)(h2:0<b2)(h3:b2<=M)(h1:b1<M)
  (i j:Int)(h:-(M:Int)<=i/\i<=j/\j<=M/\i<M/\-(M:Int)<j):
  ctO (decide (0<esx s1 x1) || decide (esx s2 x2<0)) i j (pA s1 x1 b1 b2).1 (pA s1 x1 b1 b2).2 (pB s2 x2 b1 b2).1 (pB s2 x2 b1 b2).2=pf (qA s1 x1 b1 b2).1 (qA s1 x1 b1 b2).2.1 (qA s1 x1 b1 b2).2.2 (qB s2 x2 b1 b2).1 (qB s2 x2 b1 b2).2.1 (qB s2 x2 b1 b2).2.2 i j:=by
 have hM:=M_val;rw [pA_qA hs1 hx1 hb h2 h3 h1,pB_qB hs2 hx2 hb h2 h3 h1];have oa:=openA hs1 hx1 hs2 hle hb h2 h3 h1;have ob:=openB hs1 hs2 hx2 hle hb h2 h3 h1
 have ka:(qA s1 x1 b1 b2).1=0\/(qA s1 x1 b1 b2).1=-1:=by rcases qA_kind hs1 hx1 hb h2 h3 h1 with k | k | k | k<;>omega
 have kb:(qB s2 x2 b1 b2).1=0\/(qB s2 x2 b1 b2).1=1:=by rcases qB_kind hs2 hx2 hb h2 h3 h1 with k | k | k | k<;>omega
 have wa:(qA s1 x1 b1 b2).2.2=true->(qA s1 x1 b1 b2).1=-1\/(qA s1 x1 b1 b2).1=0/\(qA s1 x1 b1 b2).2.1=0:=fun o=>by
  rcases qA_kind hs1 hx1 hb h2 h3 h1 with k | k | k | k
  ·exact .inl k.1
  ·exact .inr ⟨k.1,k.2.1⟩
  ·rw [k.2.2.1] at o;cases o
  ·rw [k.2.1] at o;cases o
 have wb:(qB s2 x2 b1 b2).2.2=true->(qB s2 x2 b1 b2).1=1\/(qB s2 x2 b1 b2).1=0/\(qB s2 x2 b1 b2).2.1=0:=fun o=>by
  rcases qB_kind hs2 hx2 hb h2 h3 h1 with k | k | k | k
  ·exact .inl k.1
  ·exact .inr ⟨k.1,k.2.1⟩
  ·rw [k.2.2.1] at o;cases o
  ·rw [k.2.1] at o;cases o
 obtain⟨⟨sa,xa,fa⟩,ea⟩:∃ z,qA s1 x1 b1 b2=z:=⟨_,rfl⟩
 obtain⟨⟨sb,xb,fb⟩,eb⟩:∃ z,qB s2 x2 b1 b2=z:=⟨_,rfl⟩
 rw [ea] at oa ka wa;rw [eb] at ob kb wb;rw [ea,eb]
 obtain⟨op,hop⟩:∃ o,(decide (0<esx s1 x1) || decide (esx s2 x2<0))=o:=⟨_,rfl⟩
 have hop2:(0<esx s1 x1\/esx s2 x2<0)↔op=true:=by rw [<- hop];simp
 rw [hop2] at oa ob;rw [hop]
 dsimp only at *
 exact ct_tail h ka kb wa wb oa ob
end
section
open Go.RowKit
def Bx(w:World)(g p q:Nat):Prop:=Blk w g 28 (Zv p q)
theorem Bx.keep{w w':World}{g p q:Nat}(h:Bx w g p q)(hb:Below w.heap.size w w'):Bx w' g p q:=Blk.keep h hb
theorem Bx.set{w:World}{g p q:Nat}(h:Bx w g p q)(a b:Nat):Bx ((w.setCell ⟨g,0,none⟩ (.float .f64 a)).setCell ⟨g,1,none⟩ (.float .f64 b)) g a b:=by
 have h1:=Blk.sets [.float .f64 a,.float .f64 b] 0 _ _ h;unfold Bx
 simpa [laid,sets] using h1
theorem Bx.far{w:World}{g p q r:Nat}(h:Bx w g p q)(hr:g≠r)(a b:Value):Bx ((w.setCell ⟨r,0,none⟩ a).setCell ⟨r,1,none⟩ b) g p q:=Blk.other h hr 0 [a,b]
structure Kp (g0 g1 g2:Nat) (w w':World):Prop where
 os:w'.os=w.os
 tape:w'.tape=w.tape
 output:w'.output=w.output
 size:w.heap.size<=w'.heap.size
 block:∀ k,k<w.heap.size->k≠g0->k≠g1->k≠g2->w'.heap[k]?=w.heap[k]?
theorem Kp.refl(g0 g1 g2:Nat)(w:World):Kp g0 g1 g2 w w:=⟨rfl,rfl,rfl,Nat.le_refl _,fun _ _ _ _ _=>rfl⟩
theorem Kp.below{g0 g1 g2:Nat}{w w1 w2:World}(h:Kp g0 g1 g2 w w1)(hb:Below w1.heap.size w1 w2):Kp g0 g1 g2 w w2:=
 ⟨hb.os.trans h.os,hb.tape.trans h.tape,hb.output.trans h.output,Nat.le_trans h.size hb.size,fun k hk a b c=>(hb.block k (Nat.lt_of_lt_of_le hk h.size)).trans (h.block k hk a b c)⟩
theorem Kp.set{g0 g1 g2 r:Nat}{w w1:World}(h:Kp g0 g1 g2 w w1)(hr:r=g0\/r=g1\/r=g2)(a b:Value):Kp g0 g1 g2 w ((w1.setCell ⟨r,0,none⟩ a).setCell ⟨r,1,none⟩ b):=
 ⟨h.os,h.tape,h.output,by have:=size_sets (r:=r) [a,b] 0 w1;have:=h.size;show w.heap.size<=(sets w1 r 0 [a,b]).heap.size;omega,
  fun k hk x y z=>(heap_sets (r:=r) (k:=k) (by rintro rfl;rcases hr with e | e | e<;>contradiction) [a,b] 0 w1).trans (h.block k hk x y z)⟩
theorem Kp.cell{g0 g1 g2:Nat}{w w1:World}(h:Kp g0 g1 g2 w w1){ad:Addr}{v:Value}(hc:w.cell? ad=some v)(h0:ad.block≠g0)(h1:ad.block≠g1)(h2:ad.block≠g2):w1.cell? ad=some v:=by
 have hlt:ad.block<w.heap.size:=by
  unfold World.cell? at hc
  split at hc
  ·rename_i e
   exact (Array.getElem?_eq_some_iff.1 e).1
  ·cases hc
 rw [World.cell?_of_block (w:=w)]
 ·exact hc
 ·exact h.block _ hlt h0 h1 h2
theorem Kp.toBl{g0 g1 g2 B:Nat}{w0 w w':World}(h:Kp g0 g1 g2 w w')(hb:Below B w0 w)(hB:B<=w.heap.size)(h0:B<=g0)(h1:B<=g1)(h2:B<=g2):Below B w0 w':=
 ⟨h.os.trans hb.os,h.tape.trans hb.tape,h.output.trans hb.output,Nat.le_trans hb.size h.size,fun k hk=>(h.block k (by omega) (by omega) (by omega) (by omega)).trans (hb.block k hk)⟩
theorem Iv.negg{i j:Int}(h:Iv i j):Iv (-j) (-i):=by
 unfold Iv at *;rw [M_val] at *
 omega
end
section
open Go.RowKit
attribute [local go_sem] run_store_float run_eqf
def anyB(f:Nat->Bool):Nat->Bool
 | 0=>false
 | n+1=>anyB f n || f n
structure KeepN (G n:Nat) (w w':World):Prop where
 os:w'.os=w.os
 tape:w'.tape=w.tape
 output:w'.output=w.output
 size:w.heap.size<=w'.heap.size
 block:∀ k,k<w.heap.size->(k<G\/G+n<=k)->w'.heap[k]?=w.heap[k]?
theorem KeepN.refl(G n:Nat)(w:World):KeepN G n w w:=⟨rfl,rfl,rfl,Nat.le_refl _,fun _ _ _=>rfl⟩
theorem KeepN.below{G n:Nat}{w w1 w2:World}(h:KeepN G n w w1)(hb:Below w1.heap.size w1 w2):KeepN G n w w2:=
 ⟨hb.os.trans h.os,hb.tape.trans h.tape,hb.output.trans h.output,Nat.le_trans h.size hb.size,fun k hk a=>(hb.block k (Nat.lt_of_lt_of_le hk h.size)).trans (h.block k hk a)⟩
theorem KeepN.drew{G n:Nat}{w w1:World}(h:KeepN G n w w1):KeepN G n w w1.drew:=⟨h.os,h.tape,h.output,h.size,h.block⟩
theorem KeepN.set{G n t:Nat}{w w1:World}(h:KeepN G n w w1)(ht:t<n)(a b:Value):KeepN G n w ((w1.setCell ⟨G+t,0,none⟩ a).setCell ⟨G+t,1,none⟩ b):=
 ⟨h.os,h.tape,h.output,by have:=size_sets (r:=G+t) [a,b] 0 w1;have:=h.size;show w.heap.size<=(sets w1 (G+t) 0 [a,b]).heap.size;omega,
  fun k hk x=>(heap_sets (r:=G+t) (k:=k) (by omega) [a,b] 0 w1).trans (h.block k hk x)⟩
theorem KeepN.cell{G n:Nat}{w w1:World}(h:KeepN G n w w1){ad:Addr}{v:Value}(hc:w.cell? ad=some v)(h0:ad.block<G\/G+n<=ad.block):w1.cell? ad=some v:=by
 have hlt:ad.block<w.heap.size:=by
  unfold World.cell? at hc
  split at hc
  ·rename_i e
   exact (Array.getElem?_eq_some_iff.1 e).1
  ·cases hc
 rw [World.cell?_of_block (w:=w)]
 ·exact hc
 ·exact h.block _ hlt h0
theorem KeepN.toBl{G n B:Nat}{w0 w w':World}(h:KeepN G n w w')(hb:Below B w0 w)(hB:B<=w.heap.size)(h0:B<=G):Below B w0 w':=
 ⟨h.os.trans hb.os,h.tape.trans hb.tape,h.output.trans hb.output,Nat.le_trans hb.size h.size,fun k hk=>(h.block k (by omega) (by omega)).trans (hb.block k hk)⟩
theorem read_n(G n gl cap:Nat)(xs ps:Nat->Nat × Nat)(em:Nat->Bool)(w:World)(hn:n<=100)(hgl:G+n<=gl)
  (hc:∀ k:Nat,k<n->w.cell? ⟨gl,k,none⟩=some (.pointer (some ⟨G+k,0,none⟩)))(hb:∀ k:Nat,k<n->Bx w (G+k) (xs k).1 (xs k).2)
  (hr:∀ k:Nat,k<n->∀ W,Rt 102 #[.agg #[.float .f64 (xs k).1,.float .f64 (xs k).2]] (.agg #[.float .f64 (ps k).1,.float .f64 (ps k).2]) W)
  (he:∀ k:Nat,k<n->Em (em k) (ps k).1 (ps k).2):
  Calls Tryz.prog 75 #[.slice (some ⟨gl,0,none⟩) n cap] w fun e w'=>e=.returned (.bool (anyB em n))/\(∀ k:Nat,k<n->Bx w' (G+k) (ps k).1 (ps k).2)/\KeepN G n w w':=by
 have HC:=Hd hc;have HB:=Hd hb;have HR:=Hd hr;have HE:=Hd he;have HEM:=Hd emptyf;clear hc hb hr he
 go_enter Tryz.func75,Tryz.ntmps75
 go_wp2
 go_loopw [3,5,8] (fun nv _ iv wr=>∃ k:Nat,iv=.int .i64 k/\nv=.bool (anyB em k)/\k<=n/\(∀ t:Nat,t<k->Bx wr (G+t) (ps t).1 (ps t).2)/\(∀ t:Nat,k<=t->t<n->Bx wr (G+t) (xs t).1 (xs t).2)/\KeepN G n w wr) (fun _ _ iv _=>n - (intOf iv).toNat)
 case atStart=>exact⟨0,rfl,rfl,Nat.zero_le _,fun t h=>absurd h (by omega),fun t _ h=>HB.out t h,KeepN.refl _ _ _⟩
 case round=>
  obtain⟨k,rfl,rfl,hk,hd,hl,hkp⟩:=hrel;have HD:=Hd hd;have HL:=Hd hl;have HK:=Hd hkp;clear hd hl hkp
  by_cases hlt:k<n
  ·have hc:=HK.out.cell (HC.out k hlt) (.inr hgl);have hbx:=HL.out k (Nat.le_refl _) hlt;have hem:=HE.out k hlt;have hrd:=HR.out k hlt;have hS:anyB em (k+1)=(anyB em k || em k):=rfl
   obtain⟨p,hp⟩:∃ p,(ps k).1=p:=⟨_,rfl⟩
   obtain⟨q,hq⟩:∃ p,(ps k).2=p:=⟨_,rfl⟩
   obtain⟨x,hx⟩:∃ p,(xs k).1=p:=⟨_,rfl⟩
   obtain⟨y,hy⟩:∃ p,(xs k).2=p:=⟨_,rfl⟩
   rw [hp,hq] at hem hrd;rw [hx,hy] at hrd hbx
   obtain⟨na,hna⟩:∃ b,anyB em k=b:=⟨_,rfl⟩
   obtain⟨ea,hea⟩:∃ b,em k=b:=⟨_,rfl⟩
   rw [hna,hea] at hS;rw [hea] at hem;rw [hna];have HRD:=Hd hrd;have HMM:=Hd hem;have HP:=Hd hp;have HQ:=Hd hq;have HS:=Hd hS;clear hem hrd hp hq hx hy hna hea hS;have q0:_=some (.float .f64 x:Value):=Blk.cell hbx 0;have q1:_=some (.float .f64 y:Value):=Blk.cell hbx 1;go_wp2_with fail;refine cx (HRD.out _) fun w1 hb1=>?_;have hb2:=Bx.keep hbx hb1;have HD1:=Hd fun t h=>(HD.out t h).keep hb1;have HL1:=Hd fun t h h'=>(HL.out t h h').keep hb1;have HK1:=Hd (HK.out.below hb1);clear hb1 q0 q1 HRD HD HL HK hc hbx;have q0:_=some (.float .f64 x:Value):=Blk.cell hb2 0;have q1:_=some (.float .f64 y:Value):=Blk.cell hb2 1;have f0:=Blk.frozen hb2 0;have f1:=Blk.frozen hb2 1;have HB2:=Hd (hb2.set p q)
   go_upto_region 6 with fail
   have HS6:=Hd (show (∀ t:Nat,t<k+1->Bx ((w1.setCell ⟨G+k,0,none⟩ (.float .f64 p)).setCell ⟨G+k,1,none⟩ (.float .f64 q)) (G+t) (ps t).1 (ps t).2)/\(∀ t:Nat,k+1<=t->t<n->Bx ((w1.setCell ⟨G+k,0,none⟩ (.float .f64 p)).setCell ⟨G+k,1,none⟩ (.float .f64 q)) (G+t) (xs t).1 (xs t).2)/\KeepN G n w ((w1.setCell ⟨G+k,0,none⟩ (.float .f64 p)).setCell ⟨G+k,1,none⟩ (.float .f64 q)) from
    ⟨fun t h=>by
      by_cases e:t=k
      ·subst e;rw [HP.out,HQ.out];exact HB2.out
      ·exact (HD1.out t (by omega)).far (by omega) _ _,fun t h h'=>(HL1.out t (by omega) h').far (by omega) _ _,HK1.out.set hlt _ _⟩)
   obtain⟨W2,hW2⟩:∃ W,(w1.setCell ⟨G+k,0,none⟩ (.float .f64 p)).setCell ⟨G+k,1,none⟩ (.float .f64 q)=W:=⟨_,rfl⟩
   rw [hW2] at HS6 ⊢;clear hW2 q0 q1 f0 f1 hb2 HB2 HD1 HL1 HK1
   cases na
   ·obtain⟨hm1,hm2⟩:=HMM.out;clear HMM
    cases ea
    ·have m1:=hm2 rfl;clear hm1 hm2;refine wp_region_held_drew (S:=fun W'=>(∀ t:Nat,t<k+1->Bx W' (G+t) (ps t).1 (ps t).2)/\(∀ t:Nat,k+1<=t->t<n->Bx W' (G+t) (xs t).1 (xs t).2)/\KeepN G n w W') (by kernel_rfl) (by exact⟨fun t h=>HS6.out.1 t h,fun t h h2=>HS6.out.2.1 t h h2,HS6.out.2.2.drew⟩) (fun hHeld=>?_);refine tks 0 ?_;refine tks 1 ?_;refine tks 2 ?_;refine tks 3 ?_;refine tks 4 ?_ (hv:=by intro W2 hSw;have hbx:=hSw.1 k (by omega);rw [HP.out,HQ.out] at hbx;have q0:_=some (.float .f64 p:Value):=Blk.cell hbx 0;have q1:_=some (.float .f64 q:Value):=Blk.cell hbx 1;go_simp;(try with_reducible rfl));refine rdy 5 fun KK hKK=>?_;go_simp;refine cx (HEM.out _) fun w3 hbE=>?_;go_wp2_with fail;refine hKK.out _ _ (⟨fun t h=>(hHeld.1 t h).keep hbE,fun t h h2=>(hHeld.2.1 t h h2).keep hbE,hHeld.2.2.below hbE⟩) (fun _=>?_);clear hKK KK hHeld;rename_i hHeld;(try simp only [Act.put,lay]);refine tks 6 ?_;refine tks 7 ?_;refine tks 8 ?_;refine wpAnyH_done (by kernel_rfl) ?_ _;go_wp2
     go_roundw
     case rel=>exact⟨k+1,by go_num,by rw [HS.out];rfl,by omega,hHeld.1,hHeld.2.1,hHeld.2.2⟩
     case measure=>simp [intOf];omega
    ·obtain⟨m1,m2⟩:=hm1 rfl;clear hm1 hm2;refine wp_region_held_drew (S:=fun W'=>(∀ t:Nat,t<k+1->Bx W' (G+t) (ps t).1 (ps t).2)/\(∀ t:Nat,k+1<=t->t<n->Bx W' (G+t) (xs t).1 (xs t).2)/\KeepN G n w W') (by kernel_rfl) (by exact⟨fun t h=>HS6.out.1 t h,fun t h h2=>HS6.out.2.1 t h h2,HS6.out.2.2.drew⟩) (fun hHeld=>?_);refine tks 0 ?_;refine tks 1 ?_;refine tks 2 ?_;refine tks 3 ?_;refine tks 4 ?_ (hv:=by intro W2 hSw;have hbx:=hSw.1 k (by omega);rw [HP.out,HQ.out] at hbx;have q0:_=some (.float .f64 p:Value):=Blk.cell hbx 0;have q1:_=some (.float .f64 q:Value):=Blk.cell hbx 1;go_simp;(try with_reducible rfl));refine rdy 5 fun KK hKK=>?_;go_simp;refine cx (HEM.out _) fun w3 hbE=>?_;go_wp2_with fail;refine hKK.out _ _ (⟨fun t h=>(hHeld.1 t h).keep hbE,fun t h h2=>(hHeld.2.1 t h h2).keep hbE,hHeld.2.2.below hbE⟩) (fun _=>?_);clear hKK KK hHeld;rename_i hHeld;(try simp only [Act.put,lay]);refine tks 6 ?_;refine tks 7 ?_;refine tks 8 ?_;refine wpAnyH_done (by kernel_rfl) ?_ _;go_wp2
     go_roundw
     case rel=>exact⟨k+1,by go_num,by rw [HS.out];rfl,by omega,hHeld.1,hHeld.2.1,hHeld.2.2⟩
     case measure=>simp [intOf];omega
   ·skip;refine wp_region_held_drew (S:=fun W'=>(∀ t:Nat,t<k+1->Bx W' (G+t) (ps t).1 (ps t).2)/\(∀ t:Nat,k+1<=t->t<n->Bx W' (G+t) (xs t).1 (xs t).2)/\KeepN G n w W') (by kernel_rfl) (by exact⟨fun t h=>HS6.out.1 t h,fun t h h2=>HS6.out.2.1 t h h2,HS6.out.2.2.drew⟩) (fun hHeld=>?_);refine tks 0 ?_;refine tks 1 ?_;refine tkns 2 ?_;refine tkns 3 ?_;refine tkns 4 ?_;refine tkns 5 ?_;refine tkns 6 ?_;refine tks 7 ?_;refine tks 8 ?_;refine wpAnyH_done (by kernel_rfl) ?_ _;go_wp2
    go_roundw
    case rel=>exact⟨k+1,by go_num,by rw [HS.out];rfl,by omega,hHeld.1,hHeld.2.1,hHeld.2.2⟩
    case measure=>simp [intOf];omega
  ·obtain rfl:k=n:=by omega
   go_wp2
   go_ret
   exact⟨rfl,HD.out,HK.out⟩
end
section
open Go.RowKit
theorem KeepN.blk{G n r:Nat}{t:TypeId}{cs:Array Value}{w w':World}(h:KeepN G n w w')(hr:Blk w r t cs)(h0:r<G\/G+n<=r):Blk w' r t cs:=(h.block r hr.lt h0).trans hr
end
section
open Go.RowKit
theorem readL32(w:World){b1 c1 b2 c2 p1 q1 p2 q2:Nat}{d1 d2 d:Bool}(e3:Array Value)(t3:TypeId)(s1:∀ W,Rt 102 #[Zf b1 c1] (Zf p1 q1) W)(m1:Em d1 p1 q1)(s2:∀ W,Rt 102 #[Zf b2 c2] (Zf p2 q2) W)(m2:Em d2 p2 q2)(hnn:(d1 || d2)=d):
  Hid (Calls Tryz.prog 75 #[.slice (some ⟨w.heap.size+1+1+1,0,none⟩) 2 2] ((((w.alloc (.cells (Zv b1 c1) 28)).alloc (.cells (Zv b2 c2) 28)).alloc (.cells e3 t3)).alloc (.cells #[.pointer (some ⟨w.heap.size,0,none⟩),.pointer (some ⟨w.heap.size+1,0,none⟩)] 75)) fun e wk=>e=.returned (.bool d)/\Lies w wk [(w.heap.size,28,(Zv p1 q1)),((w.heap.size+1),28,(Zv p2 q2)),((w.heap.size+2),t3,e3)] []):=by
 have LL:=li3 w (Zv b1 c1) 28 (Zv b2 c2) 28 e3 t3;have hrow:=Blk.at (W:=(((w.alloc (.cells (Zv b1 c1) 28)).alloc (.cells (Zv b2 c2) 28)).alloc (.cells e3 t3))) (g:=w.heap.size+1+1+1) (by simp) 75 #[.pointer (some ⟨w.heap.size,0,none⟩),.pointer (some ⟨w.heap.size+1,0,none⟩)]
 have HRD:=read_n w.heap.size 2 (w.heap.size+1+1+1) 2 (fun k:Nat=>if k=0 then (b1,c1) else (b2,c2)) (fun k:Nat=>if k=0 then (p1,q1) else (p2,q2)) (fun k:Nat=>if k=0 then d1 else d2) _ (by omega) (by omega)
  (fun k hk=>by match k,hk with | 0,_=>exact hrow.cell 0 | 1,_=>exact hrow.cell 1) (fun k hk=>by match k,hk with | 0,_=>exact (LL.out.blk 0 rfl).alloc (.cells #[.pointer (some ⟨w.heap.size,0,none⟩),.pointer (some ⟨w.heap.size+1,0,none⟩)] 75) | 1,_=>exact (LL.out.blk 1 rfl).alloc (.cells #[.pointer (some ⟨w.heap.size,0,none⟩),.pointer (some ⟨w.heap.size+1,0,none⟩)] 75)) (fun k hk=>by match k,hk with | 0,_=>exact s1 | 1,_=>exact s2) (fun k hk=>by match k,hk with | 0,_=>exact m1 | 1,_=>exact m2)
 rw [show anyB (fun k:Nat=>if k=0 then d1 else d2) 2=(d1 || d2) from by simp [anyB],hnn] at HRD;have LLR:=LL.out.alloc (.cells #[.pointer (some ⟨w.heap.size,0,none⟩),.pointer (some ⟨w.heap.size+1,0,none⟩)] 75)
 have HSZ:w.heap.size<=((((w.alloc (.cells (Zv b1 c1) 28)).alloc (.cells (Zv b2 c2) 28)).alloc (.cells e3 t3)).alloc (.cells #[.pointer (some ⟨w.heap.size,0,none⟩),.pointer (some ⟨w.heap.size+1,0,none⟩)] 75)).heap.size:=by simp;omega
 refine Hd (HRD.mono ?_);rintro e wk ⟨rfl,hd,kp⟩
 exact⟨rfl,kp.toBl LLR.b HSZ (Nat.le_refl _),by simp only [List.mem_cons,List.not_mem_nil,or_false,forall_eq_or_imp,forall_eq];exact⟨show Blk wk w.heap.size 28 (Zv p1 q1) from hd 0 (by omega),show Blk wk (w.heap.size+1) 28 (Zv p2 q2) from hd 1 (by omega),kp.blk (LLR.blk 2 rfl) (by omega)⟩,by simp⟩
theorem readL43(w:World){b1 c1 b2 c2 b3 c3 p1 q1 p2 q2 p3 q3:Nat}{d1 d2 d3 d:Bool}(e4:Array Value)(t4:TypeId)(s1:∀ W,Rt 102 #[Zf b1 c1] (Zf p1 q1) W)(m1:Em d1 p1 q1)(s2:∀ W,Rt 102 #[Zf b2 c2] (Zf p2 q2) W)(m2:Em d2 p2 q2)(s3:∀ W,Rt 102 #[Zf b3 c3] (Zf p3 q3) W)(m3:Em d3 p3 q3)(hnn:(d1 || d2 || d3)=d):
  Hid (Calls Tryz.prog 75 #[.slice (some ⟨w.heap.size+1+1+1+1,0,none⟩) 3 3] (((((w.alloc (.cells (Zv b1 c1) 28)).alloc (.cells (Zv b2 c2) 28)).alloc (.cells (Zv b3 c3) 28)).alloc (.cells e4 t4)).alloc (.cells #[.pointer (some ⟨w.heap.size,0,none⟩),.pointer (some ⟨w.heap.size+1,0,none⟩),.pointer (some ⟨w.heap.size+2,0,none⟩)] 75)) fun e wk=>e=.returned (.bool d)/\Lies w wk [(w.heap.size,28,(Zv p1 q1)),((w.heap.size+1),28,(Zv p2 q2)),((w.heap.size+2),28,(Zv p3 q3)),((w.heap.size+3),t4,e4)] []):=by
 have LL:=li4 w (Zv b1 c1) 28 (Zv b2 c2) 28 (Zv b3 c3) 28 e4 t4;have hrow:=Blk.at (W:=((((w.alloc (.cells (Zv b1 c1) 28)).alloc (.cells (Zv b2 c2) 28)).alloc (.cells (Zv b3 c3) 28)).alloc (.cells e4 t4))) (g:=w.heap.size+1+1+1+1) (by simp) 75 #[.pointer (some ⟨w.heap.size,0,none⟩),.pointer (some ⟨w.heap.size+1,0,none⟩),.pointer (some ⟨w.heap.size+2,0,none⟩)]
 have HRD:=read_n w.heap.size 3 (w.heap.size+1+1+1+1) 3 (fun k:Nat=>if k=0 then (b1,c1) else if k=1 then (b2,c2) else (b3,c3)) (fun k:Nat=>if k=0 then (p1,q1) else if k=1 then (p2,q2) else (p3,q3)) (fun k:Nat=>if k=0 then d1 else if k=1 then d2 else d3) _ (by omega) (by omega)
  (fun k hk=>by match k,hk with | 0,_=>exact hrow.cell 0 | 1,_=>exact hrow.cell 1 | 2,_=>exact hrow.cell 2) (fun k hk=>by match k,hk with | 0,_=>exact (LL.out.blk 0 rfl).alloc (.cells #[.pointer (some ⟨w.heap.size,0,none⟩),.pointer (some ⟨w.heap.size+1,0,none⟩),.pointer (some ⟨w.heap.size+2,0,none⟩)] 75) | 1,_=>exact (LL.out.blk 1 rfl).alloc (.cells #[.pointer (some ⟨w.heap.size,0,none⟩),.pointer (some ⟨w.heap.size+1,0,none⟩),.pointer (some ⟨w.heap.size+2,0,none⟩)] 75) | 2,_=>exact (LL.out.blk 2 rfl).alloc (.cells #[.pointer (some ⟨w.heap.size,0,none⟩),.pointer (some ⟨w.heap.size+1,0,none⟩),.pointer (some ⟨w.heap.size+2,0,none⟩)] 75)) (fun k hk=>by match k,hk with | 0,_=>exact s1 | 1,_=>exact s2 | 2,_=>exact s3) (fun k hk=>by match k,hk with | 0,_=>exact m1 | 1,_=>exact m2 | 2,_=>exact m3)
 rw [show anyB (fun k:Nat=>if k=0 then d1 else if k=1 then d2 else d3) 3=(d1 || d2 || d3) from by simp [anyB],hnn] at HRD;have LLR:=LL.out.alloc (.cells #[.pointer (some ⟨w.heap.size,0,none⟩),.pointer (some ⟨w.heap.size+1,0,none⟩),.pointer (some ⟨w.heap.size+2,0,none⟩)] 75)
 have HSZ:w.heap.size<=(((((w.alloc (.cells (Zv b1 c1) 28)).alloc (.cells (Zv b2 c2) 28)).alloc (.cells (Zv b3 c3) 28)).alloc (.cells e4 t4)).alloc (.cells #[.pointer (some ⟨w.heap.size,0,none⟩),.pointer (some ⟨w.heap.size+1,0,none⟩),.pointer (some ⟨w.heap.size+2,0,none⟩)] 75)).heap.size:=by simp;omega
 refine Hd (HRD.mono ?_);rintro e wk ⟨rfl,hd,kp⟩
 exact⟨rfl,kp.toBl LLR.b HSZ (Nat.le_refl _),by simp only [List.mem_cons,List.not_mem_nil,or_false,forall_eq_or_imp,forall_eq];exact⟨show Blk wk w.heap.size 28 (Zv p1 q1) from hd 0 (by omega),show Blk wk (w.heap.size+1) 28 (Zv p2 q2) from hd 1 (by omega),show Blk wk (w.heap.size+2) 28 (Zv p3 q3) from hd 2 (by omega),kp.blk (LLR.blk 3 rfl) (by omega)⟩,by simp⟩
theorem readL54(w:World){b1 c1 b2 c2 b3 c3 b4 c4 p1 q1 p2 q2 p3 q3 p4 q4:Nat}{d1 d2 d3 d4 d:Bool}(e5:Array Value)(t5:TypeId)(s1:∀ W,Rt 102 #[Zf b1 c1] (Zf p1 q1) W)(m1:Em d1 p1 q1)(s2:∀ W,Rt 102 #[Zf b2 c2] (Zf p2 q2) W)(m2:Em d2 p2 q2)(s3:∀ W,Rt 102 #[Zf b3 c3] (Zf p3 q3) W)(m3:Em d3 p3 q3)(s4:∀ W,Rt 102 #[Zf b4 c4] (Zf p4 q4) W)(m4:Em d4 p4 q4)(hnn:(d1 || d2 || d3 || d4)=d):
  Hid (Calls Tryz.prog 75 #[.slice (some ⟨w.heap.size+1+1+1+1+1,0,none⟩) 4 4] ((((((w.alloc (.cells (Zv b1 c1) 28)).alloc (.cells (Zv b2 c2) 28)).alloc (.cells (Zv b3 c3) 28)).alloc (.cells (Zv b4 c4) 28)).alloc (.cells e5 t5)).alloc (.cells #[.pointer (some ⟨w.heap.size,0,none⟩),.pointer (some ⟨w.heap.size+1,0,none⟩),.pointer (some ⟨w.heap.size+2,0,none⟩),.pointer (some ⟨w.heap.size+3,0,none⟩)] 75)) fun e wk=>e=.returned (.bool d)/\Lies w wk [(w.heap.size,28,(Zv p1 q1)),((w.heap.size+1),28,(Zv p2 q2)),((w.heap.size+2),28,(Zv p3 q3)),((w.heap.size+3),28,(Zv p4 q4)),((w.heap.size+4),t5,e5)] []):=by
 have LL:=li5 w (Zv b1 c1) 28 (Zv b2 c2) 28 (Zv b3 c3) 28 (Zv b4 c4) 28 e5 t5;have hrow:=Blk.at (W:=(((((w.alloc (.cells (Zv b1 c1) 28)).alloc (.cells (Zv b2 c2) 28)).alloc (.cells (Zv b3 c3) 28)).alloc (.cells (Zv b4 c4) 28)).alloc (.cells e5 t5))) (g:=w.heap.size+1+1+1+1+1) (by simp) 75 #[.pointer (some ⟨w.heap.size,0,none⟩),.pointer (some ⟨w.heap.size+1,0,none⟩),.pointer (some ⟨w.heap.size+2,0,none⟩),.pointer (some ⟨w.heap.size+3,0,none⟩)]
 have HRD:=read_n w.heap.size 4 (w.heap.size+1+1+1+1+1) 4 (fun k:Nat=>if k=0 then (b1,c1) else if k=1 then (b2,c2) else if k=2 then (b3,c3) else (b4,c4)) (fun k:Nat=>if k=0 then (p1,q1) else if k=1 then (p2,q2) else if k=2 then (p3,q3) else (p4,q4)) (fun k:Nat=>if k=0 then d1 else if k=1 then d2 else if k=2 then d3 else d4) _ (by omega) (by omega)
  (fun k hk=>by match k,hk with | 0,_=>exact hrow.cell 0 | 1,_=>exact hrow.cell 1 | 2,_=>exact hrow.cell 2 | 3,_=>exact hrow.cell 3) (fun k hk=>by match k,hk with | 0,_=>exact (LL.out.blk 0 rfl).alloc (.cells #[.pointer (some ⟨w.heap.size,0,none⟩),.pointer (some ⟨w.heap.size+1,0,none⟩),.pointer (some ⟨w.heap.size+2,0,none⟩),.pointer (some ⟨w.heap.size+3,0,none⟩)] 75) | 1,_=>exact (LL.out.blk 1 rfl).alloc (.cells #[.pointer (some ⟨w.heap.size,0,none⟩),.pointer (some ⟨w.heap.size+1,0,none⟩),.pointer (some ⟨w.heap.size+2,0,none⟩),.pointer (some ⟨w.heap.size+3,0,none⟩)] 75) | 2,_=>exact (LL.out.blk 2 rfl).alloc (.cells #[.pointer (some ⟨w.heap.size,0,none⟩),.pointer (some ⟨w.heap.size+1,0,none⟩),.pointer (some ⟨w.heap.size+2,0,none⟩),.pointer (some ⟨w.heap.size+3,0,none⟩)] 75) | 3,_=>exact (LL.out.blk 3 rfl).alloc (.cells #[.pointer (some ⟨w.heap.size,0,none⟩),.pointer (some ⟨w.heap.size+1,0,none⟩),.pointer (some ⟨w.heap.size+2,0,none⟩),.pointer (some ⟨w.heap.size+3,0,none⟩)] 75)) (fun k hk=>by match k,hk with | 0,_=>exact s1 | 1,_=>exact s2 | 2,_=>exact s3 | 3,_=>exact s4) (fun k hk=>by match k,hk with | 0,_=>exact m1 | 1,_=>exact m2 | 2,_=>exact m3 | 3,_=>exact m4)
 rw [show anyB (fun k:Nat=>if k=0 then d1 else if k=1 then d2 else if k=2 then d3 else d4) 4=(d1 || d2 || d3 || d4) from by simp [anyB],hnn] at HRD;have LLR:=LL.out.alloc (.cells #[.pointer (some ⟨w.heap.size,0,none⟩),.pointer (some ⟨w.heap.size+1,0,none⟩),.pointer (some ⟨w.heap.size+2,0,none⟩),.pointer (some ⟨w.heap.size+3,0,none⟩)] 75)
 have HSZ:w.heap.size<=((((((w.alloc (.cells (Zv b1 c1) 28)).alloc (.cells (Zv b2 c2) 28)).alloc (.cells (Zv b3 c3) 28)).alloc (.cells (Zv b4 c4) 28)).alloc (.cells e5 t5)).alloc (.cells #[.pointer (some ⟨w.heap.size,0,none⟩),.pointer (some ⟨w.heap.size+1,0,none⟩),.pointer (some ⟨w.heap.size+2,0,none⟩),.pointer (some ⟨w.heap.size+3,0,none⟩)] 75)).heap.size:=by simp;omega
 refine Hd (HRD.mono ?_);rintro e wk ⟨rfl,hd,kp⟩
 exact⟨rfl,kp.toBl LLR.b HSZ (Nat.le_refl _),by simp only [List.mem_cons,List.not_mem_nil,or_false,forall_eq_or_imp,forall_eq];exact⟨show Blk wk w.heap.size 28 (Zv p1 q1) from hd 0 (by omega),show Blk wk (w.heap.size+1) 28 (Zv p2 q2) from hd 1 (by omega),show Blk wk (w.heap.size+2) 28 (Zv p3 q3) from hd 2 (by omega),show Blk wk (w.heap.size+3) 28 (Zv p4 q4) from hd 3 (by omega),kp.blk (LLR.blk 4 rfl) (by omega)⟩,by simp⟩
end
section
open Go.RowKit
attribute [local go_sem] run_store_float run_eqf
set_option maxRecDepth 8000 in
theorem both_gen(u1 u2 v1 v2 p1 p2 q1 q2:Nat)(a b:Bool)(w:World)(hx:∀ W,Rt 102 #[Zf u1 u2] (Zf p1 p2) W)(hy:∀ W,Rt 102 #[Zf v1 v2] (Zf q1 q2) W)(ha:Em a p1 p2)(hb:Em b q1 q2):
  Rt 138 #[Zf u1 u2,Zf v1 v2] (.tuple #[Zf p1 p2,Zf q1 q2,.int .i64 ((if a then 1 else 0)+(if b then 2 else 0))]) w:=by
 have HE:=Hd emptyf
 have o01:bits .or .i64 0 1=1:=by decide
 have o02:bits .or .i64 0 2=2:=by decide
 have o12:bits .or .i64 1 2=3:=by decide
 have HX:=Hd hx;have HY:=Hd hy;have HA:=Hd ha;have HB:=Hd hb;clear hx hy ha hb;have LL:=li4 w (Zv u1 u2) 28 (Zv v1 v2) 28 (Zv 0 0) 28 (Zv 0 0) 28
 go_enter Tryz.func138,Tryz.ntmps138
 have PB2:=Hd (LL.out.blk 0 rfl);have PB3:=Hd (LL.out.blk 1 rfl)
 go_upto_region 1 with fail
 go_cut [7] (fun s7 wx=>s7=undef/\Lies w wx [((w.heap.size+2),28,(Zv 0 0)),((w.heap.size+3),28,(Zv 0 0)),((w.heap.size+1),28,(Zv q1 q2)),(w.heap.size,28,(Zv p1 p2))] [])
 case first=>
  replace LL:=Hd (LL.out.loose0 rfl);replace LL:=Hd (LL.out.loose0 rfl);refine regL LL (fun hHeld=>?_);clear LL
  obtain⟨wk,hwk⟩:∃ X,(((((w.alloc (.cells (Zv u1 u2) 28)).alloc (.cells (Zv v1 v2) 28)).alloc (.cells (Zv 0 0) 28)).alloc (.cells (Zv 0 0) 28))).drew=X:=⟨_,rfl⟩
  replace PB2:=Hd PB2.out.drew;replace PB3:=Hd PB3.out.drew;rw [hwk] at hHeld PB2 PB3 ⊢;clear hwk
  repeat' first
   | (have hx:=hR0;clear hx;have BXo:=PB2.out;obtain⟨qr0,qr1⟩:=BXo.c2;go_simp;refine hR0.out _ _ hHeld (fun _=>?_);clear hR0 KK hHeld BXo qr0 qr1;rename_i hHeld;(try simp only [Act.put,lay]);have mk0:=True.intro)
   | (have hx:=hC1;clear hx;go_simp;refine (HX.out _).mono ?_;rintro e wk ⟨rfl,hb1⟩;go_wp2_with fail;refine hC1.out _ _ (hHeld.keep hb1) (fun _=>?_);clear hC1 KK hHeld;rename_i hHeld;(try simp only [Act.put,lay]);(try replace PB2:=Hd (PB2.out.keep hb1));(try replace PB3:=Hd (PB3.out.keep hb1));clear hb1;have mk1:=True.intro)
   | (have hx:=hR2;clear hx;have BXo:=PB3.out;obtain⟨qr0,qr1⟩:=BXo.c2;go_simp;refine hR2.out _ _ hHeld (fun _=>?_);clear hR2 KK hHeld BXo qr0 qr1;rename_i hHeld;(try simp only [Act.put,lay]);have mk2:=True.intro)
   | (have hx:=hC3;clear hx;go_simp;refine (HY.out _).mono ?_;rintro e wk ⟨rfl,hb2⟩;go_wp2_with fail;refine hC3.out _ _ (hHeld.keep hb2) (fun _=>?_);clear hC3 KK hHeld;rename_i hHeld;(try simp only [Act.put,lay]);(try replace PB2:=Hd (PB2.out.keep hb2));(try replace PB3:=Hd (PB3.out.keep hb2));clear hb2;have mk3:=True.intro)
   | (have hx:=hS4;clear hx;obtain⟨ha0,hf0,ha1,hf1⟩:=(hHeld.has 1 rfl).sf2;obtain⟨csx,hbx,-,hcx⟩:=hHeld.has 1 rfl;(try clear PB2);(try clear PB3);clear hbx hcx;go_simp;have HS_1:=(hHeld.has 1 rfl).laid [.float .f64 p1,.float .f64 p2] rfl;refine hS4.out _ _ (hHeld.over 1 rfl [.float .f64 p1,.float .f64 p2] rfl rfl (by first | omega | exact hHeld.le_of 1 rfl) (by simp<;>omega) (by simp<;>omega)) (fun _=>?_);clear hS4 KK hHeld;rename_i hHeld;(try simp only [Act.put,lay]);(try replace HS_0:=HS_0.other (r:=w.heap.size) (by omega) 0 [.float .f64 p1,.float .f64 p2]);replace hHeld:=(show Lies _ (sets wk w.heap.size 0 [.float .f64 p1,.float .f64 p2]) _ _ from hHeld);obtain⟨wk,hwn⟩:∃ X,sets wk w.heap.size 0 [.float .f64 p1,.float .f64 p2]=X:=⟨_,rfl⟩;rw [hwn] at hHeld HS_1;(try rw [hwn] at HS_0);simp only [sets] at hwn;rw [hwn];clear hwn ha0 hf0 ha1 hf1;have mk4:=True.intro)
   | (have hx:=hS5;clear hx;obtain⟨ha0,hf0,ha1,hf1⟩:=(hHeld.has 0 rfl).sf2;obtain⟨csx,hbx,-,hcx⟩:=hHeld.has 0 rfl;(try clear PB2);(try clear PB3);clear hbx hcx;go_simp;have HS_0:=(hHeld.has 0 rfl).laid [.float .f64 q1,.float .f64 q2] rfl;refine hS5.out _ _ (hHeld.over 0 rfl [.float .f64 q1,.float .f64 q2] rfl rfl (by first | omega | exact hHeld.le_of 0 rfl) (by simp<;>omega) (by simp<;>omega)) (fun _=>?_);clear hS5 KK hHeld;rename_i hHeld;(try simp only [Act.put,lay]);(try replace HS_1:=HS_1.other (r:=(w.heap.size+1)) (by omega) 0 [.float .f64 q1,.float .f64 q2]);replace hHeld:=(show Lies _ (sets wk (w.heap.size+1) 0 [.float .f64 q1,.float .f64 q2]) _ _ from hHeld);obtain⟨wk,hwn⟩:∃ X,sets wk (w.heap.size+1) 0 [.float .f64 q1,.float .f64 q2]=X:=⟨_,rfl⟩;rw [hwn] at hHeld HS_0;(try rw [hwn] at HS_1);simp only [sets] at hwn;rw [hwn];clear hwn ha0 hf0 ha1 hf1;have mk5:=True.intro)
   | (have hx:=mk0;have hx:=mk1;have hx:=mk2;have hx:=mk3;have hx:=mk4;have hx:=mk5;refine wpAnyH_done (by kernel_rfl) ?_ _;clear hx mk0 mk1 mk2 mk3 mk4 mk5;go_wp2_with fail;go_meet;exact⟨rfl,(hHeld.tight HS_0).tight HS_1⟩)
   | (have hx:=mk0;have hx:=mk1;have hx:=mk2;have hx:=mk3;have hx:=mk4;refine rdy 5 (fun KK hS5=>?_))
   | (have hx:=mk0;have hx:=mk1;have hx:=mk2;have hx:=mk3;refine rdy 4 (fun KK hS4=>?_))
   | (have hx:=mk0;have hx:=mk1;have hx:=mk2;refine rdy 3 (fun KK hC3=>?_))
   | (have hx:=mk0;have hx:=mk2;refine rdy 1 (fun KK hC1=>?_))
   | (have hx:=mk0;have hx:=mk1;refine rdy 2 (fun KK hR2=>?_))
   | (have hx:=mk2;refine rdy 0 (fun KK hR0=>?_))
   | (have hx:=mk0;refine rd2 1 2 (fun KK hC1=>?_) (fun KK hR2=>?_))
   | (refine rd2 0 2 (fun KK hR0=>?_) (fun KK hR2=>?_))
 case rest=>
 obtain⟨rfl,hcl⟩:=hcut;rename World=>wx;clear LL HX HY PB2 PB3;have LL:=Hd hcl;clear hcl;obtain⟨ha1,ha2⟩:=HA.out;obtain⟨hb1,hb2⟩:=HB.out;clear HA HB
 cases a<;>cases b
 all_goals
  first
  | have e1:=ha2 rfl
  | obtain⟨e1,e2⟩:=ha1 rfl
  first
  | have e3:=hb2 rfl
  | obtain⟨e3,e4⟩:=hb1 rfl
  clear ha1 ha2 hb1 hb2;have E3:=Hd e3
  try have E4:=Hd e4
  clear e3
  try clear e4
  go_wp2_with fail;refine regL LL (fun hHeld=>?_);clear LL
  obtain⟨wk,hwk⟩:∃ X,(wx).drew=X:=⟨_,rfl⟩
  rw [hwk] at hHeld  ⊢;clear hwk;refine tkb 0 (fun _ h=>(h.blk 3 rfl).c2) ?_;refine rdy 1 fun KK hKK=>?_;go_simp;refine cs (HE.out _) ?_;clear hKK KK hHeld;intro wk hb1 hHeld;clear hb1;refine tks 2 ?_;refine wpAnyH_done (by kernel_rfl) ?_ _;have LL:=Hd hHeld;clear hHeld;have e3:=E3.out
  try have e4:=E4.out
  go_wp2_with fail;refine regL LL (fun hHeld=>?_);clear LL
  obtain⟨wk,hwk⟩:∃ X,(wk).drew=X:=⟨_,rfl⟩
  rw [hwk] at hHeld  ⊢;clear hwk;refine tkb 0 (fun _ h=>(h.blk 2 rfl).c2) ?_;refine rdy 1 fun KK hKK=>?_;go_simp;refine cs (HE.out _) ?_;clear hKK KK hHeld;intro wk hb1 hHeld;clear hb1;refine tks 2 ?_;refine wpAnyH_done (by kernel_rfl) ?_ _;have LL:=Hd hHeld;clear hHeld;clear e1
  try clear e2
  go_wp2_with fail;clear e3
  try clear e4
  replace LL:=Hd (LL.out.loose0 rfl);replace LL:=Hd (LL.out.loose0 rfl);refine regL LL (fun hHeld=>?_);clear LL
  obtain⟨wk,hwk⟩:∃ X,(wk).drew=X:=⟨_,rfl⟩
  rw [hwk] at hHeld  ⊢;clear hwk;refine tkb 0 (fun _ h=>(h.blk 1 rfl).c2) ?_;refine tkb 1 (fun _ h=>(h.blk 0 rfl).c2) ?_;refine tks 2 ?_;refine rdy 3 fun KK hKK=>?_;obtain⟨ha0,hf0,ha1,hf1⟩:=(hHeld.has 1 rfl).sf2;go_simp;have HS_1:=(hHeld.has 1 rfl).laid [.float .f64 p1,.float .f64 p2] rfl;refine hKK.out _ _ (hHeld.over 1 rfl [.float .f64 p1,.float .f64 p2] rfl rfl (by first | omega | exact hHeld.le_of 1 rfl) (by simp<;>omega) (by simp<;>omega)) (fun _=>?_);clear hKK KK hHeld;rename_i hHeld;(try simp only [Act.put,lay])
  replace hHeld:=(show Lies _ (sets wk (w.heap.size+2) 0 [.float .f64 p1,.float .f64 p2]) _ _ from hHeld)
  obtain⟨wk,hwn⟩:∃ X,sets wk (w.heap.size+2) 0 [.float .f64 p1,.float .f64 p2]=X:=⟨_,rfl⟩
  rw [hwn] at hHeld  HS_1
  simp only [sets] at hwn
  rw [hwn];clear hwn;refine rdy 4 fun KK hKK=>?_;obtain⟨ha0,hf0,ha1,hf1⟩:=(hHeld.has 0 rfl).sf2;go_simp;have HS_0:=(hHeld.has 0 rfl).laid [.float .f64 q1,.float .f64 q2] rfl;refine hKK.out _ _ (hHeld.over 0 rfl [.float .f64 q1,.float .f64 q2] rfl rfl (by first | omega | exact hHeld.le_of 0 rfl) (by simp<;>omega) (by simp<;>omega)) (fun _=>?_);clear hKK KK hHeld;rename_i hHeld;(try simp only [Act.put,lay]);replace HS_1:=HS_1.other (r:=(w.heap.size+3)) (by omega) 0 [.float .f64 q1,.float .f64 q2];refine tks 5 ?_;refine wpAnyH_done (by kernel_rfl) ?_ _;have LB:=Hd hHeld.b;clear hHeld;obtain⟨hk4_0,hk4_1⟩:=HS_1.c2;clear HS_1;obtain⟨hk5_0,hk5_1⟩:=HS_0.c2;clear HS_0
  simp [sets] at hk4_0 hk4_1 hk5_0 hk5_1
  go_wp2;refine bodyPost_ret ?_ rfl ⟨rfl,LB.out⟩
  simp [results,Tryz.results138,go_sem,hk4_0,hk4_1,hk5_0,hk5_1]
set_option maxRecDepth 8000 in
theorem inter_in(u1 u2 v1 v2 p1 p2 q1 q2 m1 m2:Nat)(kk:Int)(w:World)(hB:∀ W,Rt 138 #[Zf u1 u2,Zf v1 v2] (.tuple #[Zf p1 p2,Zf q1 q2,.int .i64 kk]) W)
  (hmx:∀ W ts t,(Builtin.max_ ts t (Zv p1 q1)).run Tryz.prog W=.ok (.float .f64 m1) W)(hmn:∀ W ts t,(Builtin.min_ ts t (Zv p2 q2)).run Tryz.prog W=.ok (.float .f64 m2) W)(hk:kk=0)(ho:(FloatKind.f64.format.order m1 m2 == some Ordering.gt)=false):
  Rt 62 #[Zf u1 u2,Zf v1 v2] (Zf m1 m2) w:=by
 have HB:=Hd hB;have HMX:=Hd hmx;have HMN:=Hd hmn;have HO:=Hd ho;clear hB hmx hmn ho;subst hk;have LL:=li3 w (Zv u1 u2) 28 (Zv v1 v2) 28 (Zv 0 0) 28
 go_enter Tryz.func62,Tryz.ntmps62
 obtain⟨q1_0,q1_1⟩:=(LL.out.blk 0 rfl).c2;obtain⟨q2_0,q2_1⟩:=(LL.out.blk 1 rfl).c2;go_wp2_with fail;refine cx (HB.out _) fun wk hb=>?_;replace LL:=stL LL hb;clear hb q1_0 q1_1 q2_0 q2_1;obtain⟨q3_0,q3_1⟩:=(LL.out.blk 0 rfl).c2;obtain⟨q4_0,q4_1⟩:=(LL.out.blk 1 rfl).c2;have fz2_0:=(LL.out.blk 0 rfl).frozen 0;have fz2_1:=(LL.out.blk 0 rfl).frozen 1;have fz3_0:=(LL.out.blk 1 rfl).frozen 0;have fz3_1:=(LL.out.blk 1 rfl).frozen 1
 go_upto_region 2 with fail
 clear q3_0 q3_1 q4_0 q4_1 fz2_0 fz2_1 fz3_0 fz3_1;replace LL:=Hd (LL.out.part 0 rfl 0 [.float .f64 p1,.float .f64 p2] (by omega) (by simp<;>omega) (by simp<;>omega))
 simp only [List.eraseIdx,laid,List.cons_append,List.nil_append,List.setIfInBounds_toArray,List.set_cons_zero,List.set_cons_succ,Nat.zero_add,Nat.reduceAdd] at LL
 replace LL:=Hd (LL.out.part 0 rfl 0 [.float .f64 q1,.float .f64 q2] (by omega) (by simp<;>omega) (by simp<;>omega))
 simp only [List.eraseIdx,laid,List.cons_append,List.nil_append,List.setIfInBounds_toArray,List.set_cons_zero,List.set_cons_succ,Nat.zero_add,Nat.reduceAdd] at LL
 obtain⟨wn,hwn⟩:∃ X,(sets (sets wk w.heap.size 0 [.float .f64 p1,.float .f64 p2]) (w.heap.size+1) 0 [.float .f64 q1,.float .f64 q2])=X:=⟨_,rfl⟩
 rw [hwn] at LL
 simp only [sets,Nat.reduceAdd] at hwn
 rw [hwn];clear hwn;obtain⟨q5_0,q5_1⟩:=(LL.out.blk 1 rfl).c2;obtain⟨q6_0,q6_1⟩:=(LL.out.blk 2 rfl).c2;have hmx:=HMX.out;have hmn:=HMN.out
 go_upto_region 3 with fail
 clear hmx hmn q5_0 q5_1 q6_0 q6_1;obtain⟨j6,hg,hb_j6,hl_j6,hr_j6,-⟩:=LL.out.fresh 28 (Zv m1 m2)
 simp only [List.mem_cons,List.not_mem_nil,or_false,forall_eq_or_imp,forall_eq,false_imp_iff,implies_true] at hl_j6 hr_j6
 replace LL:=Hd (LL.out.new 28 (Zv m1 m2))
 simp only [List.cons_append,List.nil_append] at LL
 rw [hg] at LL ⊢;clear hg
 obtain⟨wn,hwn⟩:∃ X,wn.alloc (.cells (Zv m1 m2) 28)=X:=⟨_,rfl⟩
 rw [hwn] at LL  ⊢;clear hwn;obtain⟨q7_0,q7_1⟩:=(LL.out.blk 3 rfl).c2;have ho:=HO.out;replace LL:=Hd (LL.out.loose0 rfl);obtain⟨ha4_0,hf4_0,ha4_1,hf4_1⟩:=(LL.out.has 0 rfl).sf2;have LF:=Hd (LL.out.wr [.float .f64 m1,.float .f64 m2]);obtain⟨hk4_0,hk4_1⟩:=(LF.out.blk 3 rfl).c2
 simp [sets] at hk4_0 hk4_1
 clear LL;go_wp2;refine bodyPost_ret (v:=Zf m1 m2) (by simp [results,Tryz.results62,go_sem,hk4_0,hk4_1]) rfl ?_
 exact⟨rfl,LF.out.b⟩
set_option maxRecDepth 8000 in
theorem inter_out(u1 u2 v1 v2 p1 p2 q1 q2 m1 m2:Nat)(kk:Int)(w:World)(hB:∀ W,Rt 138 #[Zf u1 u2,Zf v1 v2] (.tuple #[Zf p1 p2,Zf q1 q2,.int .i64 kk]) W)
  (hmx:∀ W ts t,(Builtin.max_ ts t (Zv p1 q1)).run Tryz.prog W=.ok (.float .f64 m1) W)(hmn:∀ W ts t,(Builtin.min_ ts t (Zv p2 q2)).run Tryz.prog W=.ok (.float .f64 m2) W)(hk:kk≠0\/kk=0/\FloatKind.f64.format.order m1 m2=some Ordering.gt):
  Rt 62 #[Zf u1 u2,Zf v1 v2] (Zf 9218868437227405312 18442240474082181120) w:=by
 have HB:=Hd hB;have HMX:=Hd hmx;have HMN:=Hd hmn;clear hB hmx hmn;have HE:=Hd emptyf
 rcases hk with hk | ⟨rfl,ho⟩
 ·skip;have LL:=li3 w (Zv u1 u2) 28 (Zv v1 v2) 28 (Zv 0 0) 28;have HO:=Hd hk;clear hk
  go_enter Tryz.func62,Tryz.ntmps62
  obtain⟨q1_0,q1_1⟩:=(LL.out.blk 0 rfl).c2;obtain⟨q2_0,q2_1⟩:=(LL.out.blk 1 rfl).c2;go_wp2_with fail;refine cx (HB.out _) fun wk hb=>?_;replace LL:=stL LL hb;clear hb q1_0 q1_1 q2_0 q2_1;obtain⟨q3_0,q3_1⟩:=(LL.out.blk 0 rfl).c2;obtain⟨q4_0,q4_1⟩:=(LL.out.blk 1 rfl).c2;have fz2_0:=(LL.out.blk 0 rfl).frozen 0;have fz2_1:=(LL.out.blk 0 rfl).frozen 1;have fz3_0:=(LL.out.blk 1 rfl).frozen 0;have fz3_1:=(LL.out.blk 1 rfl).frozen 1
  go_upto_region 2 with fail
  clear q3_0 q3_1 q4_0 q4_1 fz2_0 fz2_1 fz3_0 fz3_1;replace LL:=Hd (LL.out.part 0 rfl 0 [.float .f64 p1,.float .f64 p2] (by omega) (by simp<;>omega) (by simp<;>omega))
  simp only [List.eraseIdx,laid,List.cons_append,List.nil_append,List.setIfInBounds_toArray,List.set_cons_zero,List.set_cons_succ,Nat.zero_add,Nat.reduceAdd] at LL
  replace LL:=Hd (LL.out.part 0 rfl 0 [.float .f64 q1,.float .f64 q2] (by omega) (by simp<;>omega) (by simp<;>omega))
  simp only [List.eraseIdx,laid,List.cons_append,List.nil_append,List.setIfInBounds_toArray,List.set_cons_zero,List.set_cons_succ,Nat.zero_add,Nat.reduceAdd] at LL
  obtain⟨wn,hwn⟩:∃ X,(sets (sets wk w.heap.size 0 [.float .f64 p1,.float .f64 p2]) (w.heap.size+1) 0 [.float .f64 q1,.float .f64 q2])=X:=⟨_,rfl⟩
  rw [hwn] at LL
  simp only [sets,Nat.reduceAdd] at hwn
  rw [hwn];clear hwn;obtain⟨q5_0,q5_1⟩:=(LL.out.blk 1 rfl).c2;obtain⟨q6_0,q6_1⟩:=(LL.out.blk 2 rfl).c2;have hmx:=HMX.out;have hmn:=HMN.out
  go_upto_region 3 with fail
  clear hmx hmn q5_0 q5_1 q6_0 q6_1;obtain⟨j6,hg,hb_j6,hl_j6,hr_j6,-⟩:=LL.out.fresh 28 (Zv m1 m2)
  simp only [List.mem_cons,List.not_mem_nil,or_false,forall_eq_or_imp,forall_eq,false_imp_iff,implies_true] at hl_j6 hr_j6
  replace LL:=Hd (LL.out.new 28 (Zv m1 m2))
  simp only [List.cons_append,List.nil_append] at LL
  rw [hg] at LL ⊢;clear hg
  obtain⟨wn,hwn⟩:∃ X,wn.alloc (.cells (Zv m1 m2) 28)=X:=⟨_,rfl⟩
  rw [hwn] at LL  ⊢;clear hwn;have hk:=HO.out;obtain⟨q7_0,q7_1⟩:=(LL.out.blk 3 rfl).c2;go_wp2_with fail;refine cx (HE.out _) fun wk hb=>?_;replace LL:=stL LL hb;clear hb q7_0 q7_1 hk;replace LL:=Hd (LL.out.loose0 rfl);obtain⟨ha4_0,hf4_0,ha4_1,hf4_1⟩:=(LL.out.has 0 rfl).sf2;have LF:=Hd (LL.out.wr [.float .f64 9218868437227405312,.float .f64 18442240474082181120]);obtain⟨hk4_0,hk4_1⟩:=(LF.out.blk 3 rfl).c2
  simp [sets] at hk4_0 hk4_1
  clear LL;go_wp2;refine bodyPost_ret (v:=Zf 9218868437227405312 18442240474082181120) (by simp [results,Tryz.results62,go_sem,hk4_0,hk4_1]) rfl ?_
  exact⟨rfl,LF.out.b⟩
 ·skip;have LL:=li3 w (Zv u1 u2) 28 (Zv v1 v2) 28 (Zv 0 0) 28;have HO:=Hd ho;clear ho
  go_enter Tryz.func62,Tryz.ntmps62
  obtain⟨q1_0,q1_1⟩:=(LL.out.blk 0 rfl).c2;obtain⟨q2_0,q2_1⟩:=(LL.out.blk 1 rfl).c2;go_wp2_with fail;refine cx (HB.out _) fun wk hb=>?_;replace LL:=stL LL hb;clear hb q1_0 q1_1 q2_0 q2_1;obtain⟨q3_0,q3_1⟩:=(LL.out.blk 0 rfl).c2;obtain⟨q4_0,q4_1⟩:=(LL.out.blk 1 rfl).c2;have fz2_0:=(LL.out.blk 0 rfl).frozen 0;have fz2_1:=(LL.out.blk 0 rfl).frozen 1;have fz3_0:=(LL.out.blk 1 rfl).frozen 0;have fz3_1:=(LL.out.blk 1 rfl).frozen 1
  go_upto_region 2 with fail
  clear q3_0 q3_1 q4_0 q4_1 fz2_0 fz2_1 fz3_0 fz3_1;replace LL:=Hd (LL.out.part 0 rfl 0 [.float .f64 p1,.float .f64 p2] (by omega) (by simp<;>omega) (by simp<;>omega))
  simp only [List.eraseIdx,laid,List.cons_append,List.nil_append,List.setIfInBounds_toArray,List.set_cons_zero,List.set_cons_succ,Nat.zero_add,Nat.reduceAdd] at LL
  replace LL:=Hd (LL.out.part 0 rfl 0 [.float .f64 q1,.float .f64 q2] (by omega) (by simp<;>omega) (by simp<;>omega))
  simp only [List.eraseIdx,laid,List.cons_append,List.nil_append,List.setIfInBounds_toArray,List.set_cons_zero,List.set_cons_succ,Nat.zero_add,Nat.reduceAdd] at LL
  obtain⟨wn,hwn⟩:∃ X,(sets (sets wk w.heap.size 0 [.float .f64 p1,.float .f64 p2]) (w.heap.size+1) 0 [.float .f64 q1,.float .f64 q2])=X:=⟨_,rfl⟩
  rw [hwn] at LL
  simp only [sets,Nat.reduceAdd] at hwn
  rw [hwn];clear hwn;obtain⟨q5_0,q5_1⟩:=(LL.out.blk 1 rfl).c2;obtain⟨q6_0,q6_1⟩:=(LL.out.blk 2 rfl).c2;have hmx:=HMX.out;have hmn:=HMN.out
  go_upto_region 3 with fail
  clear hmx hmn q5_0 q5_1 q6_0 q6_1;obtain⟨j6,hg,hb_j6,hl_j6,hr_j6,-⟩:=LL.out.fresh 28 (Zv m1 m2)
  simp only [List.mem_cons,List.not_mem_nil,or_false,forall_eq_or_imp,forall_eq,false_imp_iff,implies_true] at hl_j6 hr_j6
  replace LL:=Hd (LL.out.new 28 (Zv m1 m2))
  simp only [List.cons_append,List.nil_append] at LL
  rw [hg] at LL ⊢;clear hg
  obtain⟨wn,hwn⟩:∃ X,wn.alloc (.cells (Zv m1 m2) 28)=X:=⟨_,rfl⟩
  rw [hwn] at LL  ⊢;clear hwn;have ho:=HO.out;obtain⟨q7_0,q7_1⟩:=(LL.out.blk 3 rfl).c2;go_wp2_with fail;refine cx (HE.out _) fun wk hb=>?_;replace LL:=stL LL hb;clear hb q7_0 q7_1 ho;replace LL:=Hd (LL.out.loose0 rfl);obtain⟨ha4_0,hf4_0,ha4_1,hf4_1⟩:=(LL.out.has 0 rfl).sf2;have LF:=Hd (LL.out.wr [.float .f64 9218868437227405312,.float .f64 18442240474082181120]);obtain⟨hk4_0,hk4_1⟩:=(LF.out.blk 3 rfl).c2
  simp [sets] at hk4_0 hk4_1
  clear LL;go_wp2;refine bodyPost_ret (v:=Zf 9218868437227405312 18442240474082181120) (by simp [results,Tryz.results62,go_sem,hk4_0,hk4_1]) rfl ?_
  exact⟨rfl,LF.out.b⟩
theorem inter_gen(i j i' j':Int)(u1 u2 v1 v2:Nat)(w:World)(h:Iv i j)(h':Iv i' j')(r1:∀ W,Rt 102 #[Zf u1 u2] (Zf (pat i) (pat j)) W)
  (r2:∀ W,Rt 102 #[Zf v1 v2] (.agg #[.float .f64 (pat i'),.float .f64 (pat j')]) W):
  Rt 62 #[Zf u1 u2,Zf v1 v2] (Zf (pat (it i j i' j').1) (pat (it i j i' j').2)) w:=by
 have HB:=fun W=>both_gen u1 u2 v1 v2 (pat i) (pat j) (pat i') (pat j') _ _ W r1 r2 (em_idx h) (em_idx h');have hmx:=fun W ts t=>run_maxf h.lo h'.lo W ts t;have hmn:=fun W ts t=>run_minf h.hi h'.hi W ts t
 have bz1:-(M:Int)<=max i i'/\max i i'<=M:=by have:=h.lo;have:=h'.lo;omega
 have bz2:-(M:Int)<=min j j'/\min j j'<=M:=by have:=h.hi;have:=h'.hi;omega
 have ho:=order_pat bz1.1 bz1.2 bz2.1 bz2.2;unfold it
 by_cases hc:j<i\/j'<i'\/min j j'<max i i'
 ·rw [if_pos hc,pat_max,pat_min];refine inter_out _ _ _ _ _ _ _ _ _ _ _ w HB hmx hmn ?_
  by_cases c:j<i\/j'<i'
  ·refine .inl ?_
   rcases c with c | c
   ·rw [decide_eq_true c];cases decide (j'<i')<;>decide
   ·rw [decide_eq_true c];cases decide (j<i)<;>decide
  ·refine .inr ⟨?_,?_⟩
   ·rw [decide_eq_false (show ¬ j<i by omega),decide_eq_false (show ¬ j'<i' by omega)];rfl
   ·rw [ho,Int.compare_eq_gt.2 (by omega)]
 ·rw [if_neg hc];refine inter_in _ _ _ _ _ _ _ _ _ _ _ w HB hmx hmn ?_ ?_
  ·rw [decide_eq_false (show ¬ j<i by omega),decide_eq_false (show ¬ j'<i' by omega)];rfl
  ·rw [ho]
   rcases Int.lt_or_eq_of_le (show max i i'<=min j j' by omega) with k | k
   ·rw [Int.compare_eq_lt.2 k];rfl
   ·rw [Int.compare_eq_eq.2 k];rfl
theorem both_any(p1 p2 q1 q2:Nat)(a b:Bool)(w:World)(hx:∀ W,Rt 102 #[Zf p1 p2] (Zf p1 p2) W)
  (hy:∀ W,Rt 102 #[Zf q1 q2] (Zf q1 q2) W)(ha:Em a p1 p2)(hb:Em b q1 q2):
  Rt 138 #[Zf p1 p2,Zf q1 q2] (.tuple #[Zf p1 p2,Zf q1 q2,.int .i64 ((if a then 1 else 0)+(if b then 2 else 0))]) w:=
 both_gen p1 p2 q1 q2 p1 p2 q1 q2 a b w hx hy ha hb
theorem inter_idx(i j i' j':Int)(w:World)(h:Iv i j)(h':Iv i' j'):
  Rt 62 #[Zf (pat i) (pat j),.agg #[.float .f64 (pat i'),.float .f64 (pat j')]] (Zf (pat (it i j i' j').1) (pat (it i j i' j').2)) w:=
 inter_gen i j i' j' _ _ _ _ w h h' (fun W=>readf_idx i j W h) (fun W=>readf_idx i' j' W h')
end
section
open Go.RowKit
attribute [local go_sem] run_store_float run_eqf
theorem NoWd.floats(a b:Nat):NoWd (Zv a b):=NoWd.of (by rw [<- Array.all_toList];rfl)
theorem ExI.sets{w:World}{s:Int}{g:Bool}{A:Option Addr}{n c:Nat}{E:Int}{x:Rat}(h:ExI w s g A n c E x){r:Nat}{t:TypeId}{a b:Nat}(hb:Blk w r t (Zv a b))(i:Nat)(vs:List Value):ExI (Proofs.YthlmlmfebpjgdaaGreatDoor.sets w r i vs) s g A n c E x:=
 h.keep fun _ hu=>hu.sets hb (NoWd.floats a b) i vs
theorem positive_none(b1 b2:Nat)(s1:Int)(g1:Bool)(A1:Option Addr)(n1 c1:Nat)(E1:Int)(s2:Int)(g2:Bool)(A2:Option Addr)(n2 c2:Nat)(E2:Int)(i j:Nat)(w:World)(o1:FloatKind.f64.format.order b2 0=some .lt\/FloatKind.f64.format.order b2 0=some .eq):
  Rt 101 #[Zf b1 b2,.agg #[.int .i64 s1,.bool g1,.slice A1 n1 c1,.int .i64 E1],.agg #[.int .i64 s2,.bool g2,.slice A2 n2 c2,.int .i64 E2],Zf i j] (Zf 9218868437227405312 18442240474082181120) w:=by
 have HE:=Hd emptyf
 rcases o1 with o1 | o1
 all_goals
  obtain⟨LB0,LG0_0,LG1_0,LG2_0,LG3_0,LR⟩:=bx5 w (Zv b1 b2) 28 #[.int .i64 s1,.bool g1,.slice A1 n1 c1,.int .i64 E1] 97 #[.int .i64 s2,.bool g2,.slice A2 n2 c2,.int .i64 E2] 97 (Zv i j) 28 (Zv 0 0) 28;have LR0:=Hd (HasBlk.of (n:=2) LR.out rfl rfl);clear LR
  go_enter Tryz.func101,Tryz.ntmps101
  obtain⟨q0_0,q0_1⟩:=LG0_0.out.c2;go_wp2_with fail;refine cx (HE.out _) fun w1 hb1=>?_;have LB1:=stB LB0 hb1 LB0.out.size;have LR1:=stR LR0 hb1;have LG0_1:=stG LG0_0 hb1;have LG1_1:=stG LG1_0 hb1;have LG2_1:=stG LG2_0 hb1;have LG3_1:=stG LG3_0 hb1;clear LB0 LR0 LG0_0 LG1_0 LG2_0 LG3_0;clear hb1 HE q0_0 q0_1;obtain⟨ha0,hf0,ha1,hf1⟩:=LR1.out.sf2;obtain⟨hk0,hk1⟩:=LR1.out.sc2 (.float .f64 9218868437227405312) (.float .f64 18442240474082181120);have F:=Hd (below_sets (w0:=w) (r:=(w.heap.size+4)) (by omega) [.float .f64 9218868437227405312,.float .f64 18442240474082181120] 0 _ LB1.out)
  simp [sets] at hk0 hk1
  go_wp2;refine bodyPost_ret (v:=Zf 9218868437227405312 18442240474082181120) (by simp [results,Tryz.results101,go_sem,hk0,hk1]) rfl ?_
  exact⟨rfl,F.out⟩
theorem ExI.setC{w:World}{s:Int}{g:Bool}{A:Option Addr}{n c:Nat}{E:Int}{x:Rat}(h:ExI w s g A n c E x){r:Nat}{t:TypeId}{cs:Array Value}(hb:Blk w r t cs)(hc:NoWd cs)(i:Nat)(vs:List Value):ExI (Proofs.YthlmlmfebpjgdaaGreatDoor.sets w r i vs) s g A n c E x:=
 h.keep fun _ hu=>hu.sets hb hc i vs
set_option maxRecDepth 8000 in
theorem positive_walk(b1 b2:Nat)(s1:Int)(g1:Bool)(A1:Option Addr)(n1 c1:Nat)(E1:Int)(s2:Int)(g2:Bool)(A2:Option Addr)(n2 c2:Nat)(E2:Int)(i j:Nat)(x1 x2:Rat)(F P1 P2 Q1 Q2 r1 r2:Nat)(sg1 sg2:Int)(cP cQ f op:Bool)(w:World)(o1:FloatKind.f64.format.order b2 0=some .gt)
  (m1:∀ W ts t,(Builtin.max_ ts t (Zv b1 0)).run Tryz.prog W=.ok (.float .f64 F) W)(of:(FloatKind.f64.format.order F 0 == some Ordering.gt)=f)
  (S1:∀ W,Rt 158 #[.agg #[.int .i64 s1,.bool g1,.slice A1 n1 c1,.int .i64 E1]] (.int .i64 sg1) W)(S2:∀ W,Rt 158 #[.agg #[.int .i64 s2,.bool g2,.slice A2 n2 c2,.int .i64 E2]] (.int .i64 sg2) W)
  (z1:decide (0<=sg1)=cP)(z2:decide (sg2<=0)=cQ)(z3:(decide (0<sg1) || decide (sg2<0))=op)(h1:ExI w s1 g1 A1 n1 c1 E1 x1)(h2:ExI w s2 g2 A2 n2 c2 E2 x2)
  (P:(cP=true->∀ W,ExI W s1 g1 A1 n1 c1 E1 x1->Rt 157 #[.agg #[.int .i64 s1,.bool g1,.slice A1 n1 c1,.int .i64 E1],.float .f64 b2] (Zf P1 P2) W)/\(cP=false->f=true->∀ W,ExI W s1 g1 A1 n1 c1 E1 x1->Rt 157 #[.agg #[.int .i64 s1,.bool g1,.slice A1 n1 c1,.int .i64 E1],.float .f64 F] (Zf P1 P2) W)/\(cP=false->f=false->P1=18442240474082181120/\P2=18442240474082181120))
  (Q:(cQ=true->∀ W,ExI W s2 g2 A2 n2 c2 E2 x2->Rt 157 #[.agg #[.int .i64 s2,.bool g2,.slice A2 n2 c2,.int .i64 E2],.float .f64 b2] (Zf Q1 Q2) W)/\(cQ=false->f=true->∀ W,ExI W s2 g2 A2 n2 c2 E2 x2->Rt 157 #[.agg #[.int .i64 s2,.bool g2,.slice A2 n2 c2,.int .i64 E2],.float .f64 F] (Zf Q1 Q2) W)/\(cQ=false->f=false->Q1=9218868437227405312/\Q2=9218868437227405312))
  (C:∀ W,Rt 77 #[Zf i j,Zf P1 P2,Zf Q1 Q2,.bool op] (Zf r1 r2) W):
  Rt 101 #[Zf b1 b2,.agg #[.int .i64 s1,.bool g1,.slice A1 n1 c1,.int .i64 E1],.agg #[.int .i64 s2,.bool g2,.slice A2 n2 c2,.int .i64 E2],Zf i j] (Zf r1 r2) w:=by
 have HM:=Hd m1;have HOF:=Hd of;have HS1:=Hd S1;have HS2:=Hd S2;have HZ1:=Hd z1;have HZ2:=Hd z2;have HZ3:=Hd z3;have HP:=Hd P;have HQ:=Hd Q;have HC:=Hd C;have HI1:=Hd fun W=>inf_neg W;have HI2:=Hd fun W=>inf_pos W;have HA1:=Hd fun W=>at_any 18442240474082181120 W;have HA2:=Hd fun W=>at_any 9218868437227405312 W;have X0:=Hd h1;have Y0:=Hd h2;clear m1 of S1 S2 z1 z2 z3 P Q C h1 h2;have LL:=li5 w (Zv b1 b2) 28 #[.int .i64 s1,.bool g1,.slice A1 n1 c1,.int .i64 E1] 97 #[.int .i64 s2,.bool g2,.slice A2 n2 c2,.int .i64 E2] 97 (Zv i j) 28 (Zv 0 0) 28;have HX:=Hd (X0.out.below LL.out.b);have HY:=Hd (Y0.out.below LL.out.b);clear X0 Y0
 go_enter Tryz.func101,Tryz.ntmps101
 obtain⟨q1_0,q1_1⟩:=(LL.out.blk 0 rfl).c2;have m1:=HM.out
 go_upto_region 3 with fail
 clear q1_0 q1_1;refine regL LL (fun hHeld=>?_);clear LL;replace HX:=Hd (HX.out.below (Below.refl _ _).drew);replace HY:=Hd (HY.out.below (Below.refl _ _).drew);generalize World.drew _=wk at hHeld HX HY ⊢;refine tks 0 ?_;refine tkb 1 (fun _ h=>(h.blk 0 rfl).c2) ?_;refine tks 3 ?_;refine tkb 4 (fun _ h=>(h.blk 0 rfl).c2) ?_;refine rdy 2 fun KK hKK=>?_;go_simp;refine hKK.out _ _ hHeld (fun _=>?_);clear hKK KK hHeld;rename_i hHeld;(try simp only [Act.put,lay]);refine tks 5 ?_;refine tks 6 ?_;refine wpAnyH_done (by kernel_rfl) ?_ _;have LL:=Hd hHeld;clear hHeld;clear m1 HM o1;go_wp2_with fail;refine cy (HI1.out _) ?_;clear HI1;go_wp2_with fail;refine cx (HA1.out _) fun wk hb=>?_;replace LL:=stL LL hb;replace HX:=Hd (HX.out.below hb);replace HY:=Hd (HY.out.below hb);clear hb HA1;go_wp2_with fail;refine cy (HI2.out _) ?_;clear HI2;go_wp2_with fail;refine cx (HA2.out _) fun wk hb=>?_;replace LL:=stL LL hb;replace HX:=Hd (HX.out.below hb);replace HY:=Hd (HY.out.below hb);clear hb HA2
 go_upto_block 0 with fail
 have hl_h:=LL.out.lts;generalize hwm:World.alloc wk _=wm;replace HX:=Hd (HX.out.below (below_allocE hwm));replace HY:=Hd (HY.out.below (below_allocE hwm));replace LL:=Hd (LL.out.newE hwm)
 have hz:wm.heap.size=wk.heap.size+1:=by rw [<- hwm];simp
 clear hwm;generalize hwn:World.alloc wm _=wn;replace HX:=Hd (HX.out.below (below_allocE hwn));replace HY:=Hd (HY.out.below (below_allocE hwn));replace LL:=Hd (LL.out.newE hwn);rw [hz] at LL
 simp only [List.cons_append,List.nil_append] at LL
 simp only [List.mem_cons,List.not_mem_nil,or_false,forall_eq_or_imp,forall_eq,false_imp_iff,implies_true,and_true] at hl_h
 clear hwn hz;generalize wk.heap.size=h at LL hl_h ⊢
 go_cut [11] (fun s11 wx=>s11=.pointer (some ⟨h,0,none⟩)/\Lies w wx [(w.heap.size,28,(Zv b1 b2)),((w.heap.size+1),97,#[.int .i64 s1,.bool g1,.slice A1 n1 c1,.int .i64 E1]),((w.heap.size+2),97,#[.int .i64 s2,.bool g2,.slice A2 n2 c2,.int .i64 E2]),((w.heap.size+3),28,(Zv i j)),((w.heap.size+4),28,(Zv 0 0)),((h+1),78,(Zv 9218868437227405312 9218868437227405312)),(h,78,(Zv P1 P2))] []/\ExI wx s1 g1 A1 n1 c1 E1 x1/\ExI wx s2 g2 A2 n2 c2 E2 x2)
 case first=>
  by_cases hz:cP=false/\f=false
  ·skip;obtain⟨hc,hf⟩:=hz;obtain⟨ea,eb⟩:=HP.out.2.2 hc hf;have EA:=Hd ea;have EB:=Hd eb;have z:=HZ1.out;rw [hc,decide_eq_false_iff_not] at z;have of:=HOF.out;rw [hf] at of;clear ea eb hc hf;obtain⟨q2_0,q2_1,q2_2,q2_3⟩:=(LL.out.blk 1 rfl).c4;go_wp2_with fail;refine cx (HS1.out _) fun wk hb=>?_;replace LL:=stL LL hb;replace HX:=Hd (HX.out.below hb);replace HY:=Hd (HY.out.below hb);clear hb q2_0 q2_1 q2_2 q2_3;go_wp2_with fail
   go_meet
   case rel=>exact⟨rfl,by rw [EA.out,EB.out];exact LL.out.perm (by simp) (by simp),HX.out,HY.out⟩
  ·skip
   have hc:cP=true\/(cP=false/\f=true):=by
    cases cP
    ·cases f
     ·exact absurd ⟨rfl,rfl⟩ hz
     ·exact .inr ⟨rfl,rfl⟩
    ·exact .inl rfl
   clear hz
   rcases hc with hc | ⟨hc,hf⟩
   all_goals
    first
    | have K:=Hd (HP.out.1 hc)
    | have K:=Hd (HP.out.2.1 hc hf)
    have z:=HZ1.out;rw [hc] at z
    first
    | rw [decide_eq_true_eq] at z
    | (rw [decide_eq_false_iff_not] at z;have of:=HOF.out;rw [hf] at of;clear hf)
    clear hc;obtain⟨q2_0,q2_1,q2_2,q2_3⟩:=(LL.out.blk 1 rfl).c4;go_wp2_with fail;refine cx (HS1.out _) fun wk hb=>?_;replace LL:=stL LL hb;replace HX:=Hd (HX.out.below hb);replace HY:=Hd (HY.out.below hb);clear hb q2_0 q2_1 q2_2 q2_3;obtain⟨q3_0,q3_1,q3_2,q3_3⟩:=(LL.out.blk 1 rfl).c4;go_wp2_with fail;refine cx (K.out _ HX.out) fun wk hb=>?_;replace LL:=stL LL hb;replace HX:=Hd (HX.out.below hb);replace HY:=Hd (HY.out.below hb);clear hb q3_0 q3_1 q3_2 q3_3;obtain⟨q4_0,q4_1⟩:=(LL.out.blk 5 rfl).c2;have fz0:=(LL.out.blk 5 rfl).frozen 0;have fz1:=(LL.out.blk 5 rfl).frozen 1;go_wp2_with fail;clear z K q4_0 q4_1 fz0 fz1;have PB_11:=LL.out.blk 5 rfl;replace LL:=Hd (LL.out.part 5 rfl 0 [.float .f64 P1,.float .f64 P2] (by omega) (by simp<;>omega) (by simp<;>omega))
    simp only [List.eraseIdx,laid,List.cons_append,List.nil_append,List.setIfInBounds_toArray,List.set_cons_zero,List.set_cons_succ,Nat.zero_add,Nat.reduceAdd] at LL
    replace HX:=Hd (HX.out.setC PB_11 (nowd rfl) 0 [.float .f64 P1,.float .f64 P2]);replace HY:=Hd (HY.out.setC PB_11 (nowd rfl) 0 [.float .f64 P1,.float .f64 P2])
    obtain⟨wn,hwn⟩:∃ X,(sets wk h 0 [.float .f64 P1,.float .f64 P2])=X:=⟨_,rfl⟩
    rw [hwn] at LL HX HY
    simp only [sets,Nat.reduceAdd] at hwn
    rw [hwn];clear hwn PB_11
    go_meet
    case rel=>exact⟨rfl,LL.out.perm (by simp) (by simp),HX.out,HY.out⟩
 case rest=>
 obtain⟨rfl,hcl,hx,hy⟩:=hcut;rename World=>wx;clear LL HX HY HP HZ1;have LL:=Hd hcl;have HX:=Hd hx;have HY:=Hd hy;clear hcl hx hy
 go_upto_block 1 with fail
 go_cut [12] (fun s12 wx=>s12=.pointer (some ⟨(h+1),0,none⟩)/\Lies w wx [(w.heap.size,28,(Zv b1 b2)),((w.heap.size+1),97,#[.int .i64 s1,.bool g1,.slice A1 n1 c1,.int .i64 E1]),((w.heap.size+2),97,#[.int .i64 s2,.bool g2,.slice A2 n2 c2,.int .i64 E2]),((w.heap.size+3),28,(Zv i j)),((w.heap.size+4),28,(Zv 0 0)),(h,78,(Zv P1 P2)),((h+1),78,(Zv Q1 Q2))] []/\ExI wx s1 g1 A1 n1 c1 E1 x1/\ExI wx s2 g2 A2 n2 c2 E2 x2)
 case first=>
  by_cases hz:cQ=false/\f=false
  ·skip;obtain⟨hc,hf⟩:=hz;obtain⟨ea,eb⟩:=HQ.out.2.2 hc hf;have EA:=Hd ea;have EB:=Hd eb;have z:=HZ2.out;rw [hc,decide_eq_false_iff_not] at z;have of:=HOF.out;rw [hf] at of;clear ea eb hc hf;obtain⟨q2_0,q2_1,q2_2,q2_3⟩:=(LL.out.blk 2 rfl).c4;go_wp2_with fail;refine cx (HS2.out _) fun wk hb=>?_;replace LL:=stL LL hb;replace HX:=Hd (HX.out.below hb);replace HY:=Hd (HY.out.below hb);clear hb q2_0 q2_1 q2_2 q2_3;go_wp2_with fail
   go_meet
   case rel=>exact⟨rfl,by rw [EA.out,EB.out];exact LL.out.perm (by simp) (by simp),HX.out,HY.out⟩
  ·skip
   have hc:cQ=true\/(cQ=false/\f=true):=by
    cases cQ
    ·cases f
     ·exact absurd ⟨rfl,rfl⟩ hz
     ·exact .inr ⟨rfl,rfl⟩
    ·exact .inl rfl
   clear hz
   rcases hc with hc | ⟨hc,hf⟩
   all_goals
    first
    | have K:=Hd (HQ.out.1 hc)
    | have K:=Hd (HQ.out.2.1 hc hf)
    have z:=HZ2.out;rw [hc] at z
    first
    | rw [decide_eq_true_eq] at z
    | (rw [decide_eq_false_iff_not] at z;have of:=HOF.out;rw [hf] at of;clear hf)
    clear hc;obtain⟨q2_0,q2_1,q2_2,q2_3⟩:=(LL.out.blk 2 rfl).c4;go_wp2_with fail;refine cx (HS2.out _) fun wk hb=>?_;replace LL:=stL LL hb;replace HX:=Hd (HX.out.below hb);replace HY:=Hd (HY.out.below hb);clear hb q2_0 q2_1 q2_2 q2_3;obtain⟨q3_0,q3_1,q3_2,q3_3⟩:=(LL.out.blk 2 rfl).c4;go_wp2_with fail;refine cx (K.out _ HY.out) fun wk hb=>?_;replace LL:=stL LL hb;replace HX:=Hd (HX.out.below hb);replace HY:=Hd (HY.out.below hb);clear hb q3_0 q3_1 q3_2 q3_3;obtain⟨q4_0,q4_1⟩:=(LL.out.blk 5 rfl).c2;have fz0:=(LL.out.blk 5 rfl).frozen 0;have fz1:=(LL.out.blk 5 rfl).frozen 1;go_wp2_with fail;clear z K q4_0 q4_1 fz0 fz1;have PB_12:=LL.out.blk 5 rfl;replace LL:=Hd (LL.out.part 5 rfl 0 [.float .f64 Q1,.float .f64 Q2] (by omega) (by simp<;>omega) (by simp<;>omega))
    simp only [List.eraseIdx,laid,List.cons_append,List.nil_append,List.setIfInBounds_toArray,List.set_cons_zero,List.set_cons_succ,Nat.zero_add,Nat.reduceAdd] at LL
    replace HX:=Hd (HX.out.setC PB_12 (nowd rfl) 0 [.float .f64 Q1,.float .f64 Q2]);replace HY:=Hd (HY.out.setC PB_12 (nowd rfl) 0 [.float .f64 Q1,.float .f64 Q2])
    obtain⟨wn,hwn⟩:∃ X,(sets wk (h+1) 0 [.float .f64 Q1,.float .f64 Q2])=X:=⟨_,rfl⟩
    rw [hwn] at LL HX HY
    simp only [sets,Nat.reduceAdd] at hwn
    rw [hwn];clear hwn PB_12
    go_meet
    case rel=>exact⟨rfl,LL.out.perm (by simp) (by simp),HX.out,HY.out⟩
 case rest=>
 obtain⟨rfl,hcl,hx,hy⟩:=hcut;rename World=>wx;clear LL HX HY HQ HZ2;have LL:=Hd hcl;have HX:=Hd hx;have HY:=Hd hy;clear hcl hx hy;clear HX HY HOF;have z3:=HZ3.out;clear HZ3
 go_upto_region 13 with fail
 rcases Bool.eq_false_or_eq_true (decide (0<sg1)) with hp | hp
 ·skip
  have hop:op=true:=by rw [<- z3,hp];rfl
  subst hop;clear z3 HS2;replace LL:=Hd (LL.out.loose 4 rfl rfl)
  simp only [List.eraseIdx,List.size_toArray,List.length_cons,List.length_nil,Nat.zero_add,Nat.reduceAdd] at LL
  refine regL LL (fun hHeld=>?_);clear LL;generalize World.drew _=wk at hHeld  ⊢;refine tkb 0 (fun _ h=>(h.blk 3 rfl).c2) ?_;refine tkb 1 (fun _ h=>(h.blk 4 rfl).c2) ?_;refine tkb 2 (fun _ h=>(h.blk 5 rfl).c2) ?_;refine tkb 3 (fun _ h=>(h.blk 1 rfl).c4) ?_;refine rdy 4 fun KK hKK=>?_;go_simp;refine cs (HS1.out _) ?_;clear hKK KK hHeld;intro wk hb1 hHeld;clear hb1;refine tks 5 ?_;refine tks 6 ?_;refine tkns 7 ?_;refine tkns 8 ?_;refine tkns 9 ?_;refine tks 10 ?_;refine rdy 11 fun KK hKK=>?_;go_simp;refine cs (HC.out _) ?_;clear hKK KK hHeld;intro wk hb3 hHeld;clear hb3;refine rdy 12 fun KK hKK=>?_;obtain⟨ha0,hf0,ha1,hf1⟩:=(hHeld.has 0 rfl).sf2;go_simp;have HS_0:=(hHeld.has 0 rfl).laid [.float .f64 r1,.float .f64 r2] rfl;refine hKK.out _ _ (hHeld.over 0 rfl [.float .f64 r1,.float .f64 r2] rfl rfl (by first | omega | exact hHeld.le_of 0 rfl) (by simp<;>omega) (by simp<;>omega)) (fun _=>?_);clear hKK KK hHeld;rename_i hHeld;(try simp only [Act.put,lay]);refine wpAnyH_done (by kernel_rfl) ?_ _;have LB:=Hd hHeld.b;clear hHeld;obtain⟨hk8_0,hk8_1⟩:=HS_0.c2;clear HS_0
  simp [sets] at hk8_0 hk8_1
  go_wp2;refine bodyPost_ret (v:=Zf r1 r2) (by simp [results,Tryz.results101,go_sem,hk8_0,hk8_1]) rfl ?_
  exact⟨rfl,LB.out⟩
 ·skip
  have hop:op=decide (sg2<0):=by rw [<- z3,hp];rfl
  subst hop;clear z3;replace LL:=Hd (LL.out.loose 4 rfl rfl)
  simp only [List.eraseIdx,List.size_toArray,List.length_cons,List.length_nil,Nat.zero_add,Nat.reduceAdd] at LL
  refine regL LL (fun hHeld=>?_);clear LL;generalize World.drew _=wk at hHeld  ⊢;refine tkb 0 (fun _ h=>(h.blk 3 rfl).c2) ?_;refine tkb 1 (fun _ h=>(h.blk 4 rfl).c2) ?_;refine tkb 2 (fun _ h=>(h.blk 5 rfl).c2) ?_;refine tkb 3 (fun _ h=>(h.blk 1 rfl).c4) ?_;refine rdy 4 fun KK hKK=>?_;go_simp;refine cs (HS1.out _) ?_;clear hKK KK hHeld;intro wk hb1 hHeld;clear hb1;refine tks 5 ?_;refine tks 6 ?_;refine tkb 7 (fun _ h=>(h.blk 2 rfl).c4) ?_;refine rdy 8 fun KK hKK=>?_;go_simp;refine cs (HS2.out _) ?_;clear hKK KK hHeld;intro wk hb2 hHeld;clear hb2;refine tks 9 ?_;refine tks 10 ?_;refine rdy 11 fun KK hKK=>?_;go_simp;refine cs (HC.out _) ?_;clear hKK KK hHeld;intro wk hb3 hHeld;clear hb3;refine rdy 12 fun KK hKK=>?_;obtain⟨ha0,hf0,ha1,hf1⟩:=(hHeld.has 0 rfl).sf2;go_simp;have HS_0:=(hHeld.has 0 rfl).laid [.float .f64 r1,.float .f64 r2] rfl;refine hKK.out _ _ (hHeld.over 0 rfl [.float .f64 r1,.float .f64 r2] rfl rfl (by first | omega | exact hHeld.le_of 0 rfl) (by simp<;>omega) (by simp<;>omega)) (fun _=>?_);clear hKK KK hHeld;rename_i hHeld;(try simp only [Act.put,lay]);refine wpAnyH_done (by kernel_rfl) ?_ _;have LB:=Hd hHeld.b;clear hHeld;obtain⟨hk8_0,hk8_1⟩:=HS_0.c2;clear HS_0
  simp [sets] at hk8_0 hk8_1
  go_wp2;refine bodyPost_ret (v:=Zf r1 r2) (by simp [results,Tryz.results101,go_sem,hk8_0,hk8_1]) rfl ?_
  exact⟨rfl,LB.out⟩
end
end Go.Proofs.YthlmlmfebpjgdaaGreatDoor
