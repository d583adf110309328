/-
Plain: products of ends, the least and the greatest of them, what is left of a number less one of them.
rev.FMARevAdd by indexes.
Walks: package vergeref6, Upper; package vergeref10, quotients, minus (of a piece), zero.
-/
import Derived.Test.YtmjkmoahkanblaaGreatPPairT
import Derived.Test.YtmjkmoahkanblaaGreatM31
import Derived.Test.YtmjkmoahkanblaaGreatPMinusT
import Derived.Test.YtmjkmoahkanblaaGreatM04
import Derived.Test.YtmjkmoahkanblaaGreatM20
set_option linter.unusedSimpArgs false
set_option linter.unusedVariables false
set_option maxHeartbeats 12800000
namespace Go.Proofs.YtmjkmoahkanblaaGreat
open Go.RowKit
def pq(a b:Int):Int × Rat:=if a=0∨b=0 then (0,0) else if es a≠0∨es b≠0 then ((if 0<a then 1 else -1)*(if 0<b then 1 else -1),0) else (0,fl a*fl b)
def eL(a b:Int × Rat):Int × Rat:=if ec b.1 b.2 a.1 a.2<0 then b else a
def eG(a b:Int × Rat):Int × Rat:=if 0<ec b.1 b.2 a.1 a.2 then b else a
def EOk(e:Int × Rat):Prop:=(e.1=0∨e.1=1∨e.1=-1)∧(e.1≠0→e.2=0)
theorem pq_ok(a b:Int):EOk (pq a b):=by
 unfold pq EOk
 by_cases h:a=0∨b=0
 ·rw [if_pos h];exact⟨.inl rfl,fun h=>absurd rfl h⟩
 ·rw [if_neg h]
  by_cases h2:es a≠0∨es b≠0
  ·rw [if_pos h2];refine⟨?_,fun _=>rfl⟩
   dsimp only
   split<;>split<;>omega
  ·rw [if_neg h2];exact⟨.inl rfl,fun h=>absurd rfl h⟩
theorem eL_ok{a b:Int × Rat}(ha:EOk a)(hb:EOk b):EOk (eL a b):=by unfold eL;split<;>assumption
theorem eG_ok{a b:Int × Rat}(ha:EOk a)(hb:EOk b):EOk (eG a b):=by unfold eG;split<;>assumption
def De(d c:Int)(e:Int × Rat):Int:=if c=M∨c=-(M:Int) then c else if e.1≠0 then -e.1*M else rndI d (fl c - e.2)
theorem De_lt{d c:Int}(hd:d=-1∨d=1){e f:Int × Rat}(he:EOk e)(hf:EOk f)(h:0<ec f.1 f.2 e.1 e.2):De d c f≤De d c e:=by
 have hM:(M:Int)=9218868437227405312:=rfl;unfold De
 by_cases hc:c=M∨c=-(M:Int)
 ·rw [if_pos hc,if_pos hc];omega
 ·rw [if_neg hc,if_neg hc];have r1:=rndI_down (fl c - e.2);have r2:=rndI_up (fl c - e.2);have r3:=rndI_down (fl c - f.2);have r4:=rndI_up (fl c - f.2);obtain⟨he,-⟩:=he;obtain⟨hf,-⟩:=hf;unfold ec at h
  by_cases k:f.1=e.1
  ·rw [if_pos k] at h
   by_cases k2:f.1=0
   ·rw [if_pos k2] at h;rw [if_neg (by omega),if_neg (by omega)];have:=rc_pos_iff.1 h
    exact rndI_mono hd (by grind)
   ·rw [if_neg k2] at h;omega
  ·rw [if_neg k] at h
   have k2:e.1<f.1:=by split at h<;>omega
   split<;>split<;>rcases hd with rfl | rfl<;>rcases he with he | he | he<;>rcases hf with hf | hf | hf<;>(try rw [he])<;>(try rw [hf])<;>omega
theorem De_le{d c:Int}(hd:d=-1∨d=1){e f:Int × Rat}(he:EOk e)(hf:EOk f)(h:¬ 0<ec f.1 f.2 e.1 e.2):De d c e≤De d c f:=by
 have hM:(M:Int)=9218868437227405312:=rfl;unfold De
 by_cases hc:c=M∨c=-(M:Int)
 ·rw [if_pos hc,if_pos hc];omega
 ·rw [if_neg hc,if_neg hc];have r1:=rndI_down (fl c - e.2);have r2:=rndI_up (fl c - e.2);have r3:=rndI_down (fl c - f.2);have r4:=rndI_up (fl c - f.2);obtain⟨he,-⟩:=he;obtain⟨hf,-⟩:=hf;unfold ec at h
  by_cases k:f.1=e.1
  ·rw [if_pos k] at h
   by_cases k2:f.1=0
   ·rw [if_pos k2] at h;rw [if_neg (by omega),if_neg (by omega)];have:¬ e.2<f.2:=fun q=>h (rc_pos_iff.2 q)
    exact rndI_mono hd (by grind)
   ·rw [if_pos (by omega),if_pos (by omega),k];omega
  ·rw [if_neg k] at h
   have k2:f.1<e.1:=by split at h<;>omega
   split<;>split<;>rcases hd with rfl | rfl<;>rcases he with he | he | he<;>rcases hf with hf | hf | hf<;>(try rw [he])<;>(try rw [hf])<;>omega
theorem De_G{d c:Int}(hd:d=-1∨d=1){e f:Int × Rat}(he:EOk e)(hf:EOk f):De d c (eG e f)=min (De d c e) (De d c f):=by
 unfold eG
 by_cases h:0<ec f.1 f.2 e.1 e.2
 ·rw [if_pos h];have:=De_lt (c:=c) hd he hf h;omega
 ·rw [if_neg h];have:=De_le (c:=c) hd he hf h;omega
theorem ec_swap(s:Int)(x:Rat)(t:Int)(y:Rat):ec s x t y=- ec t y s x:=by
 unfold ec
 by_cases h:s=t
 ·subst h;rw [if_pos rfl,if_pos rfl]
  split
  ·exact rc_swap x y
  ·omega
 ·rw [if_neg h,if_neg (show ¬ t=s from fun k=>h k.symm)]
  split<;>split<;>omega
theorem De_L{d c:Int}(hd:d=-1∨d=1){e f:Int × Rat}(he:EOk e)(hf:EOk f):De d c (eL e f)=max (De d c e) (De d c f):=by
 unfold eL;have hs:=ec_swap f.1 f.2 e.1 e.2
 by_cases h:ec f.1 f.2 e.1 e.2<0
 ·rw [if_pos h];have:=De_lt (c:=c) hd hf he (by omega);omega
 ·rw [if_neg h];have:=De_le (c:=c) hd hf he (by omega);omega
theorem wt_De{c u v:Int}(hc:-(M:Int)≤c∧c≤M)(hu:-(M:Int)≤u∧u≤M)(hv:-(M:Int)≤v∧v≤M):wt c u v=(De (-1) c (pq u v),De 1 c (pq u v)):=by
 have hM:(M:Int)=9218868437227405312:=rfl;unfold wt De pq
 by_cases h1:c=M∨c=-(M:Int)
 ·rw [if_pos (by omega),if_pos h1,if_pos h1]
 ·by_cases h2:u=0∨v=0
  ·rw [if_pos (by omega),if_neg h1,if_neg h1,if_pos h2]
   have e:fl c - 0=fl c:=by grind
   dsimp only
   rw [if_neg (by omega),if_neg (by omega),e,rndI_fl (.inl rfl) (by omega) (by omega),rndI_fl (.inr rfl) (by omega) (by omega)]
  ·rw [if_neg (by omega),if_neg h1,if_neg h1,if_neg h2];unfold fm
   by_cases h3:es u≠0∨es v≠0
   ·have h4:-u=M∨-u=-(M:Int)∨v=M∨v=-(M:Int):=by
     rcases h3 with h3 | h3
     ·have:=es_ne.1 h3;omega
     ·have:=es_ne.1 h3;omega
    rw [if_pos h3,if_pos h4,if_pos h4]
    dsimp only
    by_cases p:0<u
    ·by_cases q:0<v
     ·rw [if_pos p,if_pos q,decide_eq_true (show -u<0 by omega),decide_eq_false (show ¬ v<0 by omega)];simp
     ·rw [if_pos p,if_neg q,decide_eq_true (show -u<0 by omega),decide_eq_true (show v<0 by omega)];simp
    ·by_cases q:0<v
     ·rw [if_neg p,if_pos q,decide_eq_false (show ¬ -u<0 by omega),decide_eq_false (show ¬ v<0 by omega)];simp
     ·rw [if_neg p,if_neg q,decide_eq_false (show ¬ -u<0 by omega),decide_eq_true (show v<0 by omega)];simp
   ·have h4:¬ (-u=M∨-u=-(M:Int)∨v=M∨v=-(M:Int)):=by
     have a:¬ (u=M∨u=-(M:Int)):=fun k=>h3 (.inl (es_ne.2 k));have b:¬ (v=M∨v=-(M:Int)):=fun k=>h3 (.inr (es_ne.2 k))
     omega
    rw [if_neg h3,if_neg h4,if_neg h4]
    dsimp only
    rw [if_neg (by omega),if_neg (by omega),fl_neg]
    have e:-fl u*fl v+fl c=fl c - fl u*fl v:=by grind
    rw [e]
theorem sum_De(f:Int→Rat→Int)(d:Int)(hf:∀ a:Int,-(M:Int)≤a∧a≤M→f (es a) (ex a)=a)(h0:∀ x,f 0 x=rndI d x)(h1:∀ s,s≠0→f s 0=s*M){c:Int}(hc:-(M:Int)≤c∧c≤M){e:Int × Rat}(he:EOk e):
  f (es2 (es c) (-e.1)) (ex2 (es c) (ex c) (-e.1) (-e.2))=De d c e:=by
 unfold es2 ex2 De
 by_cases h:c=M∨c=-(M:Int)
 ·rw [if_pos (es_ne.2 h),if_pos (es_ne.2 h),if_pos h,hf c hc]
 ·have hz:es c=0:=by
   by_cases k:es c=0
   ·exact k
   ·exact absurd (es_ne.1 k) h
  rw [if_neg (by omega),if_neg (by omega),if_neg h]
  by_cases k:e.1=0
  ·rw [if_neg (by omega),if_neg (by omega),k,show -(0:Int)=0 from rfl,h0,ex_zero hz]
   congr 1
   grind
  ·rw [if_pos (by omega),if_pos k,he.2 k,show -(0:Rat)=0 from by grind,h1 _ (by omega)]
theorem dn_De{c:Int}(hc:-(M:Int)≤c∧c≤M){e:Int × Rat}(he:EOk e):dn (es2 (es c) (-e.1)) (ex2 (es c) (ex c) (-e.1) (-e.2))=De (-1) c e:=
 sum_De dn (-1) (fun _ h=>dn_idx h) dn_zero (fun s h=>if_neg h) hc he
theorem up_De{c:Int}(hc:-(M:Int)≤c∧c≤M){e:Int × Rat}(he:EOk e):up (es2 (es c) (-e.1)) (ex2 (es c) (ex c) (-e.1) (-e.2))=De 1 c e:=
 sum_De up 1 (fun _ h=>up_idx h) up_zero (fun s h=>if_neg h) hc he
def tA(i1 j1 i2 j2:Int):Int × Rat:=eL (eL (pq i1 i2) (pq i1 j2)) (eL (pq j1 i2) (pq j1 j2))
def tB(i1 j1 i2 j2:Int):Int × Rat:=eG (eG (pq i1 i2) (pq i1 j2)) (eG (pq j1 i2) (pq j1 j2))
theorem tA_ok(i1 j1 i2 j2:Int):EOk (tA i1 j1 i2 j2):=eL_ok (eL_ok (pq_ok _ _) (pq_ok _ _)) (eL_ok (pq_ok _ _) (pq_ok _ _))
theorem tB_ok(i1 j1 i2 j2:Int):EOk (tB i1 j1 i2 j2):=eG_ok (eG_ok (pq_ok _ _) (pq_ok _ _)) (eG_ok (pq_ok _ _) (pq_ok _ _))
theorem De_tA{d c:Int}(hd:d=-1∨d=1)(i1 j1 i2 j2:Int):De d c (tA i1 j1 i2 j2)=max (max (De d c (pq i1 i2)) (De d c (pq i1 j2))) (max (De d c (pq j1 i2)) (De d c (pq j1 j2))):=by
 unfold tA;rw [De_L hd (eL_ok (pq_ok _ _) (pq_ok _ _)) (eL_ok (pq_ok _ _) (pq_ok _ _)),De_L hd (pq_ok _ _) (pq_ok _ _),De_L hd (pq_ok _ _) (pq_ok _ _)]
theorem De_tB{d c:Int}(hd:d=-1∨d=1)(i1 j1 i2 j2:Int):De d c (tB i1 j1 i2 j2)=min (min (De d c (pq i1 i2)) (De d c (pq i1 j2))) (min (De d c (pq j1 i2)) (De d c (pq j1 j2))):=by
 unfold tB;rw [De_G hd (eG_ok (pq_ok _ _) (pq_ok _ _)) (eG_ok (pq_ok _ _) (pq_ok _ _)),De_G hd (pq_ok _ _) (pq_ok _ _),De_G hd (pq_ok _ _) (pq_ok _ _)]
theorem pq_sign{a b:Int}:((pq a b).1=-1→((0<a∧b<0)∨(a<0∧0<b))∧(a=M∨a=-(M:Int)∨b=M∨b=-(M:Int)))∧((pq a b).1=1→((0<a∧0<b)∨(a<0∧b<0))∧(a=M∨a=-(M:Int)∨b=M∨b=-(M:Int))):=by
 unfold pq
 by_cases h:a=0∨b=0
 ·rw [if_pos h];exact⟨fun h=>absurd h (by simp),fun h=>absurd h (by simp)⟩
 ·rw [if_neg h]
  by_cases h2:es a≠0∨es b≠0
  ·rw [if_pos h2]
   have h3:a=M∨a=-(M:Int)∨b=M∨b=-(M:Int):=by
    rcases h2 with h2 | h2
    ·have:=es_ne.1 h2;omega
    ·have:=es_ne.1 h2;omega
   dsimp only
   refine⟨fun k=>⟨?_,h3⟩,fun k=>⟨?_,h3⟩⟩<;>(split at k<;>split at k<;>omega)
  ·rw [if_neg h2];exact⟨fun h=>absurd h (by simp),fun h=>absurd h (by simp)⟩
theorem ec_sign{s:Int}{x:Rat}{t:Int}{y:Rat}:(ec s x t y<0→s≤t)∧(¬ ec s x t y<0→t≤s):=by
 unfold ec
 by_cases h:s=t
 ·exact⟨fun _=>by omega,fun _=>by omega⟩
 ·rw [if_neg h]
  split<;>constructor<;>omega
theorem eL_le(a b:Int × Rat):(eL a b).1≤a.1∧(eL a b).1≤b.1:=by
 have h:=@ec_sign b.1 b.2 a.1 a.2;unfold eL
 split
 ·rename_i k;have:=h.1 k;exact⟨this,Int.le_refl _⟩
 ·rename_i k;have:=h.2 k;exact⟨Int.le_refl _,this⟩
theorem eG_le(a b:Int × Rat):a.1≤(eG a b).1∧b.1≤(eG a b).1:=by
 have h:=@ec_sign a.1 a.2 b.1 b.2;have hs:=ec_swap b.1 b.2 a.1 a.2;unfold eG
 split
 ·rename_i k;have:=h.1 (by omega);exact⟨this,Int.le_refl _⟩
 ·rename_i k;have:=h.2 (by omega);exact⟨Int.le_refl _,this⟩
theorem tA_sign{i1 j1 i2 j2:Int}(h1:Ne i1 j1)(h2:Ne i2 j2):(tA i1 j1 i2 j2).1=0∨(tA i1 j1 i2 j2).1=-1:=by
 have hM:(M:Int)=9218868437227405312:=rfl;unfold Ne at h1 h2;have k:=(tA_ok i1 j1 i2 j2).1
 rcases k with k | k | k
 ·exact .inl k
 ·exfalso
  unfold tA at k;have a:=eL_le (eL (pq i1 i2) (pq i1 j2)) (eL (pq j1 i2) (pq j1 j2));have b:=eL_le (pq i1 i2) (pq i1 j2);have c:=eL_le (pq j1 i2) (pq j1 j2);have o1:=(pq_ok i1 i2).1;have o2:=(pq_ok i1 j2).1;have o3:=(pq_ok j1 i2).1;have o4:=(pq_ok j1 j2).1;have s1:=(pq_sign (a:=i1) (b:=i2)).2 (by omega);have s2:=(pq_sign (a:=i1) (b:=j2)).2 (by omega);have s3:=(pq_sign (a:=j1) (b:=i2)).2 (by omega);have s4:=(pq_sign (a:=j1) (b:=j2)).2 (by omega);clear a b c o1 o2 o3 o4 k
  omega
 ·exact .inr k
theorem tB_sign{i1 j1 i2 j2:Int}(h1:Ne i1 j1)(h2:Ne i2 j2):(tB i1 j1 i2 j2).1=0∨(tB i1 j1 i2 j2).1=1:=by
 have hM:(M:Int)=9218868437227405312:=rfl;unfold Ne at h1 h2;have k:=(tB_ok i1 j1 i2 j2).1
 rcases k with k | k | k
 ·exact .inl k
 ·exact .inr k
 ·exfalso
  unfold tB at k;have a:=eG_le (eG (pq i1 i2) (pq i1 j2)) (eG (pq j1 i2) (pq j1 j2));have b:=eG_le (pq i1 i2) (pq i1 j2);have c:=eG_le (pq j1 i2) (pq j1 j2);have o1:=(pq_ok i1 i2).1;have o2:=(pq_ok i1 j2).1;have o3:=(pq_ok j1 i2).1;have o4:=(pq_ok j1 j2).1;have s1:=(pq_sign (a:=i1) (b:=i2)).1 (by omega);have s2:=(pq_sign (a:=i1) (b:=j2)).1 (by omega);have s3:=(pq_sign (a:=j1) (b:=i2)).1 (by omega);have s4:=(pq_sign (a:=j1) (b:=j2)).1 (by omega);clear a b c o1 o2 o3 o4 k
  omega
theorem De_c{c c':Int}(hc:-(M:Int)≤c∧c<M)(hc':-(M:Int)<c'∧c'≤M)(h:c≤c'){e:Int × Rat}(he:EOk e):De (-1) c e≤De 1 c' e:=by
 have hM:(M:Int)=9218868437227405312:=rfl;have r1:=rndI_down (fl c - e.2);have r2:=rndI_up (fl c' - e.2);unfold De
 by_cases h1:c=M∨c=-(M:Int)
 ·rw [if_pos h1]
  split
  ·omega
  ·split
   ·rcases he.1 with k | k | k<;>rw [k]<;>omega
   ·omega
 ·rw [if_neg h1]
  by_cases h2:c'=M∨c'=-(M:Int)
  ·rw [if_pos h2]
   split
   ·rcases he.1 with k | k | k<;>rw [k]<;>omega
   ·omega
  ·rw [if_neg h2]
   split
   ·omega
   ·have l1:=fl_le_iff.2 h
    exact Int.le_trans (rndI_le _) (rndI_mono (.inr rfl) (by grind))
def Fad(i1 j1 i2 j2 c1 c2:Int):Int→Int→Int × Int:=
 if j1<i1∨j2<i2∨c2<c1 then fun _ _=>((M:Int),-(M:Int))
 else pf (es2 (es c1) (-(tB i1 j1 i2 j2).1)) (ex2 (es c1) (ex c1) (-(tB i1 j1 i2 j2).1) (-(tB i1 j1 i2 j2).2)) (decide (es2 (es c1) (-(tB i1 j1 i2 j2).1)≠0))
  (es2 (es c2) (-(tA i1 j1 i2 j2).1)) (ex2 (es c2) (ex c2) (-(tA i1 j1 i2 j2).1) (-(tA i1 j1 i2 j2).2)) (decide (es2 (es c2) (-(tA i1 j1 i2 j2).1)≠0))
def fad(i1 j1 i2 j2 c1 c2 i j:Int):Int × Int:=
 if j1<i1∨j2<i2∨c2<c1∨j<i then ((M:Int),-(M:Int))
 else ct i j (min (min (min (min M (wt c1 i1 i2).1) (wt c1 i1 j2).1) (wt c1 j1 i2).1) (wt c1 j1 j2).1) (min (min (min (min M (wt c1 i1 i2).2) (wt c1 i1 j2).2) (wt c1 j1 i2).2) (wt c1 j1 j2).2)
  (max (max (max (max (-(M:Int)) (wt c2 i1 i2).1) (wt c2 i1 j2).1) (wt c2 j1 i2).1) (wt c2 j1 j2).1) (max (max (max (max (-(M:Int)) (wt c2 i1 i2).2) (wt c2 i1 j2).2) (wt c2 j1 i2).2) (wt c2 j1 j2).2)
theorem left_lo{i1 j1 i2 j2 c:Int}(h1:Ne i1 j1)(h2:Ne i2 j2)(hc:-(M:Int)≤c∧c<M):es2 (es c) (-(tB i1 j1 i2 j2).1)=0∨es2 (es c) (-(tB i1 j1 i2 j2).1)=-1:=by
 have hM:(M:Int)=9218868437227405312:=rfl;have k:=tB_sign h1 h2
 have e:es c=0∨es c=-1:=by unfold es;split<;>(try split)<;>omega
 unfold es2
 split<;>omega
theorem left_hi{i1 j1 i2 j2 c:Int}(h1:Ne i1 j1)(h2:Ne i2 j2)(hc:-(M:Int)<c∧c≤M):es2 (es c) (-(tA i1 j1 i2 j2).1)=0∨es2 (es c) (-(tA i1 j1 i2 j2).1)=1:=by
 have hM:(M:Int)=9218868437227405312:=rfl;have k:=tA_sign h1 h2
 have e:es c=0∨es c=1:=by unfold es;split<;>(try split)<;>omega
 unfold es2
 split<;>omega
theorem left_le{i1 j1 i2 j2 c c':Int}(hc:-(M:Int)≤c∧c<M)(hc':-(M:Int)<c'∧c'≤M)(h:c≤c'):De (-1) c (tB i1 j1 i2 j2)≤De 1 c' (tA i1 j1 i2 j2):=by
 rw [De_tA (.inr rfl),De_tB (.inl rfl)];have:=De_c hc hc' h (pq_ok i1 i2)
 omega
theorem fad_Fad{i1 j1 i2 j2 c1 c2 i j:Int}(h1:Iv i1 j1)(h2:Iv i2 j2)(hc:Iv c1 c2)(h:Iv i j):Fad i1 j1 i2 j2 c1 c2 i j=fad i1 j1 i2 j2 c1 c2 i j:=by
 have hM:(M:Int)=9218868437227405312:=rfl;unfold Fad fad
 by_cases k:j1<i1∨j2<i2∨c2<c1
 ·rw [if_pos k,if_pos (by omega)]
 ·rw [if_neg k]
  by_cases k2:j<i
  ·rw [if_pos (by omega)];unfold pf;rw [if_pos k2]
  ·rw [if_neg (by omega)];have n1:=ne_or h1 (by omega);have n2:=ne_or h2 (by omega);have n3:=ne_or hc (by omega);have n4:=ne_or h (by omega);have q1:=n1.iv.lo;have q2:=n1.iv.hi;have q3:=n2.iv.lo;have q4:=n2.iv.hi;have q5:=n3.iv.lo;have q6:=n3.iv.hi;unfold Ne at n3 n4;rw [pf_closed (left_lo n1 n2 (by omega)) (left_hi n1 n2 (by omega)) i j n4,dn_De q5 (tB_ok _ _ _ _),up_De q5 (tB_ok _ _ _ _),dn_De q6 (tA_ok _ _ _ _),up_De q6 (tA_ok _ _ _ _),De_tA (.inl rfl),De_tA (.inr rfl),De_tB (.inl rfl),De_tB (.inr rfl)];have w1:=wt_rng (c:=c1) (u:=i1) (v:=i2) q5;have w2:=wt_rng (c:=c2) (u:=i1) (v:=i2) q6;rw [wt_De q5 q1 q3] at w1;rw [wt_De q6 q1 q3] at w2;rw [wt_De q5 q1 q3,wt_De q5 q1 q4,wt_De q5 q2 q3,wt_De q5 q2 q4,wt_De q6 q1 q3,wt_De q6 q1 q4,wt_De q6 q2 q3,wt_De q6 q2 q4]
   dsimp only at *
   congr 1<;>omega
def ul(a b:Int)(i:Nat):Int:=if i=0 then a else b
def mnk(f:Nat→Nat→Int):Nat→Int
 | 0=>M
 | k+1=>min (mnk f k) (f (k / 2) (k % 2))
def mxk(f:Nat→Nat→Int):Nat→Int
 | 0=>-(M:Int)
 | k+1=>max (mxk f k) (f (k / 2) (k % 2))
theorem mnk_rng{f:Nat→Nat→Int}(h:∀ i j,-(M:Int)≤f i j∧f i j≤M)(k:Nat):-(M:Int)≤mnk f k∧mnk f k≤M:=by
 have hM:(M:Int)=9218868437227405312:=rfl
 induction k with
 | zero=>show -(M:Int)≤(M:Int)∧(M:Int)≤M;omega
 | succ k ih=>have:=h (k / 2) (k % 2);show -(M:Int)≤min _ _∧min _ _≤(M:Int);omega
theorem mxk_rng{f:Nat→Nat→Int}(h:∀ i j,-(M:Int)≤f i j∧f i j≤M)(k:Nat):-(M:Int)≤mxk f k∧mxk f k≤M:=by
 have hM:(M:Int)=9218868437227405312:=rfl
 induction k with
 | zero=>show -(M:Int)≤-(M:Int)∧-(M:Int)≤M;omega
 | succ k ih=>have:=h (k / 2) (k % 2);show -(M:Int)≤max _ _∧max _ _≤(M:Int);omega
theorem mnk_step(f:Nat→Nat→Int)(i j:Nat)(hj:j<2):min (mnk f (2*i+j)) (f i j)=mnk f (2*i+j+1):=by
 show _=min (mnk f (2*i+j)) (f ((2*i+j) / 2) ((2*i+j) % 2))
 rw [show (2*i+j) / 2=i by omega,show (2*i+j) % 2=j by omega]
theorem mxk_step(f:Nat→Nat→Int)(i j:Nat)(hj:j<2):max (mxk f (2*i+j)) (f i j)=mxk f (2*i+j+1):=by
 show _=max (mxk f (2*i+j)) (f ((2*i+j) / 2) ((2*i+j) % 2))
 rw [show (2*i+j) / 2=i by omega,show (2*i+j) % 2=j by omega]
theorem ul_rng{i j:Int}(h:Iv i j)(k:Nat):-(M:Int)≤ul i j k∧ul i j k≤M:=by
 unfold ul
 split
 ·exact h.lo
 ·exact h.hi
theorem ctO_false(i j a b c d:Int):ctO false i j a b c d=ct i j a b c d:=by
 unfold ctO ct
 by_cases h:c<i∨j<b
 ·rw [if_pos h,if_pos h]
 ·rw [if_neg h,if_neg h,if_neg (by rintro⟨h,-⟩;cases h)]
theorem fad_k(i1 j1 i2 j2 c1 c2 i j:Int):fad i1 j1 i2 j2 c1 c2 i j=if j1<i1∨j2<i2∨c2<c1∨j<i then ((M:Int),-(M:Int)) else
  ct i j (mnk (fun k l=>(wt c1 (ul i1 j1 k) (ul i2 j2 l)).1) 4) (mnk (fun k l=>(wt c1 (ul i1 j1 k) (ul i2 j2 l)).2) 4) (mxk (fun k l=>(wt c2 (ul i1 j1 k) (ul i2 j2 l)).1) 4) (mxk (fun k l=>(wt c2 (ul i1 j1 k) (ul i2 j2 l)).2) 4):=rfl
theorem fmaadd_any(a1 a2 b1 b2 c1 c2 x y:Nat)(w:World)(ha1:a1<18446744073709551616)(ha2:a2<18446744073709551616)(hb1:b1<18446744073709551616)(hb2:b2<18446744073709551616)(hc1:c1<18446744073709551616)(hc2:c2<18446744073709551616)(hx:x<18446744073709551616)(hy:y<18446744073709551616):
  Calls Tryz.prog 46 #[.agg #[.float .f64 a1,.float .f64 a2],.agg #[.float .f64 b1,.float .f64 b2],.agg #[.float .f64 c1,.float .f64 c2],.agg #[.float .f64 x,.float .f64 y]] w fun e w'=>
   e=.returned (.agg #[.float .f64 (pat (fad (rd a1 a2).1 (rd a1 a2).2 (rd b1 b2).1 (rd b1 b2).2 (rd c1 c2).1 (rd c1 c2).2 (rd x y).1 (rd x y).2).1),.float .f64 (pat (fad (rd a1 a2).1 (rd a1 a2).2 (rd b1 b2).1 (rd b1 b2).2 (rd c1 c2).1 (rd c1 c2).2 (rd x y).1 (rd x y).2).2)])∧Below w.heap.size w w':=by
 have hM:(M:Int)=9218868437227405312:=rfl;have v1:=rd_iv a1 a2;have v2:=rd_iv b1 b2;have v3:=rd_iv c1 c2;have v4:=rd_iv x y;have t1:=fun W=>readf a1 a2 W ha1 ha2;have t2:=fun W=>readf b1 b2 W hb1 hb2;have t3:=fun W=>readf c1 c2 W hc1 hc2;have t4:=fun W=>readf x y W hx hy
 obtain⟨⟨i1,j1⟩,r1⟩:∃ z,rd a1 a2=z:=⟨_,rfl⟩
 obtain⟨⟨i2,j2⟩,r2⟩:∃ z,rd b1 b2=z:=⟨_,rfl⟩
 obtain⟨⟨i3,j3⟩,r3⟩:∃ z,rd c1 c2=z:=⟨_,rfl⟩
 obtain⟨⟨i4,j4⟩,r4⟩:∃ z,rd x y=z:=⟨_,rfl⟩
 rw [r1] at v1 t1;rw [r2] at v2 t2;rw [r3] at v3 t3;rw [r4] at v4 t4;rw [r1,r2,r3,r4]
 dsimp only at *
 have m1:=em_idx v1;have m2:=em_idx v2;have m3:=em_idx v3;have m4:=em_idx v4;rw [fad_k]
 by_cases hno:j1<i1∨j2<i2∨j3<i3∨j4<i4
 ·rw [if_pos hno,pat_max,pat_min]
  exact fmaadd_none _ _ _ _ _ _ _ _ _ _ _ _ _ _ _ _ _ _ _ _ w t1 m1 t2 m2 t3 m3 t4 m4 (by simp;omega)
 ·rw [if_neg hno];have g1:=fun i j=>wt_rng (c:=i3) (u:=ul i1 j1 i) (v:=ul i2 j2 j) v3.lo;have g2:=fun i j=>wt_rng (c:=j3) (u:=ul i1 j1 i) (v:=ul i2 j2 j) v3.hi;have q1:=mnk_rng (f:=fun k l=>(wt i3 (ul i1 j1 k) (ul i2 j2 l)).1) (fun i j=>(g1 i j).1);have q2:=mnk_rng (f:=fun k l=>(wt i3 (ul i1 j1 k) (ul i2 j2 l)).2) (fun i j=>(g1 i j).2);have q3:=mxk_rng (f:=fun k l=>(wt j3 (ul i1 j1 k) (ul i2 j2 l)).1) (fun i j=>(g2 i j).1);have q4:=mxk_rng (f:=fun k l=>(wt j3 (ul i1 j1 k) (ul i2 j2 l)).2) (fun i j=>(g2 i j).2)
  refine fmaadd_some a1 a2 b1 b2 c1 c2 x y _ _ _ _ _ _ _ _ _ _ (fun i=>pat (ul i1 j1 i)) (fun i=>pat (ul i2 j2 i)) (fun k=>pat (mnk (fun k l=>(wt i3 (ul i1 j1 k) (ul i2 j2 l)).1) k)) (fun k=>pat (mnk (fun k l=>(wt i3 (ul i1 j1 k) (ul i2 j2 l)).2) k)) (fun k=>pat (mxk (fun k l=>(wt j3 (ul i1 j1 k) (ul i2 j2 l)).1) k)) (fun k=>pat (mxk (fun k l=>(wt j3 (ul i1 j1 k) (ul i2 j2 l)).2) k))
   (fun i j=>pat (wt i3 (ul i1 j1 i) (ul i2 j2 j)).1) (fun i j=>pat (wt i3 (ul i1 j1 i) (ul i2 j2 j)).2) (fun i j=>pat (wt j3 (ul i1 j1 i) (ul i2 j2 j)).1) (fun i j=>pat (wt j3 (ul i1 j1 i) (ul i2 j2 j)).2) _ _ _ _ w t1 m1 t2 m2 t3 m3 t4 m4 (by simp;omega) ⟨rfl,rfl⟩ ⟨rfl,rfl⟩ ⟨pat_max,pat_max⟩ ⟨pat_min,pat_min⟩
   (fun i j _ _ W=>without_any i3 _ _ W v3.lo (ul_rng v1 i) (ul_rng v2 j)) (fun i j _ _ W=>without_any j3 _ _ W v3.hi (ul_rng v1 i) (ul_rng v2 j)) (fun i j _ hj W ts t=>?_) (fun i j _ hj W ts t=>?_) (fun i j _ hj W ts t=>?_) (fun i j _ hj W ts t=>?_) (fun W=>?_)
  ·rw [← mnk_step _ i j hj]
   exact run_minf (q1 _) (g1 i j).1 W ts t
  ·rw [← mnk_step _ i j hj]
   exact run_minf (q2 _) (g1 i j).2 W ts t
  ·rw [← mxk_step _ i j hj]
   exact run_maxf (q3 _) (g2 i j).1 W ts t
  ·rw [← mxk_step _ i j hj]
   exact run_maxf (q4 _) (g2 i j).2 W ts t
  ·rw [← ctO_false]
   exact rcut2_any false i4 j4 _ _ _ _ W v4.lo v4.hi (q1 4) (q2 4) (q3 4) (q4 4)
theorem upper_none(K:Nat)(o:Bool)(s1:Int)(g1:Bool)(A1:Option Addr)(n1 c1:Nat)(B1:Option Addr)(m1 d1:Nat)(x1:Rat)(s2:Int)(g2:Bool)(A2:Option Addr)(n2 c2:Nat)(B2:Option Addr)(m2 d2:Nat)(x2:Rat)(w:World)(h2:RatV w K g2 (.slice A2 n2 c2) (.slice B2 m2 d2) x2)(hK:K≤1073741824)(ho:o=true∨esx s2 x2≤0):
  Calls Tryz.prog 146 #[.agg #[.bool o,.int .i64 s1,.bool g1,.slice A1 n1 c1,.slice B1 m1 d1,.int .i64 s2,.bool g2,.slice A2 n2 c2,.slice B2 m2 d2]] w (NewSet w 1 true 0 0 0 0):=by
 have HN:=Hd none6;have HS:=Hd fun W (hW:Below w.heap.size w W)=>sign6_any K s2 g2 A2 n2 c2 B2 m2 d2 x2 W (h2.below hW) hK
 obtain⟨sg,hsg⟩:∃ z,esx s2 x2=z:=⟨_,rfl⟩
 rw [hsg] at HS ho;clear h2 hK hsg
 cases o
 ·have LB0:=Hd (show Below w.heap.size w ((w.alloc (.cells #[.bool false,.int .i64 s1,.bool g1,.slice A1 n1 c1,.slice B1 m1 d1,.int .i64 s2,.bool g2,.slice A2 n2 c2,.slice B2 m2 d2] 69)).alloc (.cells #[.bool false,.int .i64 0,.bool false,.slice none 0 0,.slice none 0 0,.int .i64 0,.bool false,.slice none 0 0,.slice none 0 0] 69)) from ((below_alloc w _).alloc (by simp<;>omega) _));have LG0_0:=Hd (((Blk.at (W:=w) (g:=w.heap.size) (by simp<;>omega) 69 #[.bool false,.int .i64 s1,.bool g1,.slice A1 n1 c1,.slice B1 m1 d1,.int .i64 s2,.bool g2,.slice A2 n2 c2,.slice B2 m2 d2]).alloc (.cells #[.bool false,.int .i64 0,.bool false,.slice none 0 0,.slice none 0 0,.int .i64 0,.bool false,.slice none 0 0,.slice none 0 0] 69)));have LR0:=Hd (HasBlk.of (n:=9) (Blk.at (W:=(w.alloc (.cells #[.bool false,.int .i64 s1,.bool g1,.slice A1 n1 c1,.slice B1 m1 d1,.int .i64 s2,.bool g2,.slice A2 n2 c2,.slice B2 m2 d2] 69))) (g:=(w.heap.size+1)) (by simp<;>omega) 69 #[.bool false,.int .i64 0,.bool false,.slice none 0 0,.slice none 0 0,.int .i64 0,.bool false,.slice none 0 0,.slice none 0 0]) rfl rfl)
  go_enter Tryz.func146,Tryz.ntmps146
  have hz:sg≤0:=by rcases ho with h | h;cases h;exact h
  clear ho;have q0_0:=LG0_0.out.ce 0 rfl;have q0_1:=LG0_0.out.ce 1 rfl;have q0_2:=LG0_0.out.ce 2 rfl;have q0_3:=LG0_0.out.ce 3 rfl;have q0_4:=LG0_0.out.ce 4 rfl;have q0_5:=LG0_0.out.ce 5 rfl;have q0_6:=LG0_0.out.ce 6 rfl;have q0_7:=LG0_0.out.ce 7 rfl;have q0_8:=LG0_0.out.ce 8 rfl;go_wp2_with fail;refine (HS.out _ LB0.out).mono ?_;rintro e w1 ⟨rfl,hb1⟩;have LB1:=stB LB0 hb1 LB0.out.size;have LR1:=stR LR0 hb1;have LG0_1:=stG LG0_0 hb1;clear LB0 LR0 LG0_0;clear hb1 HS q0_0 q0_1 q0_2 q0_3 q0_4 q0_5 q0_6 q0_7 q0_8;go_wp2_with fail;refine (HN.out _).mono ?_;rintro e wN ⟨p1,P1,q1,r1,Q1,t1,u1,p2,P2,q2,r2,Q2,t2,u2,rfl,hR1,hR2,hbN⟩;have LB2:=stB LB1 hbN LB1.out.size;have LR2:=stR LR1 hbN;have LG0_2:=stG LG0_1 hbN;clear LB1 LR1 LG0_1;have FR1:=Hd (LR2.out.rat hR1 [.bool true,.int .i64 0,.bool p1,.slice P1 q1 r1,.slice Q1 t1 u1,.int .i64 0,.bool p2,.slice P2 q2 r2,.slice Q2 t2 u2]);have FR2:=Hd (LR2.out.rat hR2 [.bool true,.int .i64 0,.bool p1,.slice P1 q1 r1,.slice Q1 t1 u1,.int .i64 0,.bool p2,.slice P2 q2 r2,.slice Q2 t2 u2]);clear hR1 hR2 hbN HN;obtain⟨ha0,hf0,ha1,hf1,ha2,hf2,ha3,hf3,ha4,hf4,ha5,hf5,ha6,hf6,ha7,hf7,ha8,hf8⟩:=LR2.out.sf9;obtain⟨hk0,hk1,hk2,hk3,hk4,hk5,hk6,hk7,hk8⟩:=LR2.out.sc9 (.bool true) (.int .i64 0) (.bool p1) (.slice P1 q1 r1) (.slice Q1 t1 u1) (.int .i64 0) (.bool p2) (.slice P2 q2 r2) (.slice Q2 t2 u2);have F:=Hd (below_sets (w0:=w) (r:=(w.heap.size+1)) (by omega) [.bool true,.int .i64 0,.bool p1,.slice P1 q1 r1,.slice Q1 t1 u1,.int .i64 0,.bool p2,.slice P2 q2 r2,.slice Q2 t2 u2] 0 _ LB2.out)
  simp [sets] at hk0 hk1 hk2 hk3 hk4 hk5 hk6 hk7 hk8
  go_wp2;refine bodyPost_ret (v:=.agg #[.bool true,.int .i64 0,.bool p1,.slice P1 q1 r1,.slice Q1 t1 u1,.int .i64 0,.bool p2,.slice P2 q2 r2,.slice Q2 t2 u2]) (by simp [results,Tryz.results146,go_sem,hk0,hk1,hk2,hk3,hk4,hk5,hk6,hk7,hk8]) rfl ?_
  exact⟨_,_,_,_,_,_,_,_,_,_,_,_,_,_,rfl,FR1.out,FR2.out,F.out⟩
 ·have LB0:=Hd (show Below w.heap.size w ((w.alloc (.cells #[.bool true,.int .i64 s1,.bool g1,.slice A1 n1 c1,.slice B1 m1 d1,.int .i64 s2,.bool g2,.slice A2 n2 c2,.slice B2 m2 d2] 69)).alloc (.cells #[.bool false,.int .i64 0,.bool false,.slice none 0 0,.slice none 0 0,.int .i64 0,.bool false,.slice none 0 0,.slice none 0 0] 69)) from ((below_alloc w _).alloc (by simp<;>omega) _));have LG0_0:=Hd (((Blk.at (W:=w) (g:=w.heap.size) (by simp<;>omega) 69 #[.bool true,.int .i64 s1,.bool g1,.slice A1 n1 c1,.slice B1 m1 d1,.int .i64 s2,.bool g2,.slice A2 n2 c2,.slice B2 m2 d2]).alloc (.cells #[.bool false,.int .i64 0,.bool false,.slice none 0 0,.slice none 0 0,.int .i64 0,.bool false,.slice none 0 0,.slice none 0 0] 69)));have LR0:=Hd (HasBlk.of (n:=9) (Blk.at (W:=(w.alloc (.cells #[.bool true,.int .i64 s1,.bool g1,.slice A1 n1 c1,.slice B1 m1 d1,.int .i64 s2,.bool g2,.slice A2 n2 c2,.slice B2 m2 d2] 69))) (g:=(w.heap.size+1)) (by simp<;>omega) 69 #[.bool false,.int .i64 0,.bool false,.slice none 0 0,.slice none 0 0,.int .i64 0,.bool false,.slice none 0 0,.slice none 0 0]) rfl rfl)
  go_enter Tryz.func146,Tryz.ntmps146
  have q0_0:=LG0_0.out.ce 0 rfl;have q0_1:=LG0_0.out.ce 1 rfl;have q0_2:=LG0_0.out.ce 2 rfl;have q0_3:=LG0_0.out.ce 3 rfl;have q0_4:=LG0_0.out.ce 4 rfl;have q0_5:=LG0_0.out.ce 5 rfl;have q0_6:=LG0_0.out.ce 6 rfl;have q0_7:=LG0_0.out.ce 7 rfl;have q0_8:=LG0_0.out.ce 8 rfl;clear HS ho;go_wp2_with fail;refine (HN.out _).mono ?_;rintro e wN ⟨p1,P1,q1,r1,Q1,t1,u1,p2,P2,q2,r2,Q2,t2,u2,rfl,hR1,hR2,hbN⟩;have LB1:=stB LB0 hbN LB0.out.size;have LR1:=stR LR0 hbN;have LG0_1:=stG LG0_0 hbN;clear LB0 LR0 LG0_0;have FR1:=Hd (LR1.out.rat hR1 [.bool true,.int .i64 0,.bool p1,.slice P1 q1 r1,.slice Q1 t1 u1,.int .i64 0,.bool p2,.slice P2 q2 r2,.slice Q2 t2 u2]);have FR2:=Hd (LR1.out.rat hR2 [.bool true,.int .i64 0,.bool p1,.slice P1 q1 r1,.slice Q1 t1 u1,.int .i64 0,.bool p2,.slice P2 q2 r2,.slice Q2 t2 u2]);clear hR1 hR2 hbN HN;obtain⟨ha0,hf0,ha1,hf1,ha2,hf2,ha3,hf3,ha4,hf4,ha5,hf5,ha6,hf6,ha7,hf7,ha8,hf8⟩:=LR1.out.sf9;obtain⟨hk0,hk1,hk2,hk3,hk4,hk5,hk6,hk7,hk8⟩:=LR1.out.sc9 (.bool true) (.int .i64 0) (.bool p1) (.slice P1 q1 r1) (.slice Q1 t1 u1) (.int .i64 0) (.bool p2) (.slice P2 q2 r2) (.slice Q2 t2 u2);have F:=Hd (below_sets (w0:=w) (r:=(w.heap.size+1)) (by omega) [.bool true,.int .i64 0,.bool p1,.slice P1 q1 r1,.slice Q1 t1 u1,.int .i64 0,.bool p2,.slice P2 q2 r2,.slice Q2 t2 u2] 0 _ LB1.out)
  simp [sets] at hk0 hk1 hk2 hk3 hk4 hk5 hk6 hk7 hk8
  go_wp2;refine bodyPost_ret (v:=.agg #[.bool true,.int .i64 0,.bool p1,.slice P1 q1 r1,.slice Q1 t1 u1,.int .i64 0,.bool p2,.slice P2 q2 r2,.slice Q2 t2 u2]) (by simp [results,Tryz.results146,go_sem,hk0,hk1,hk2,hk3,hk4,hk5,hk6,hk7,hk8]) rfl ?_
  exact⟨_,_,_,_,_,_,_,_,_,_,_,_,_,_,rfl,FR1.out,FR2.out,F.out⟩
theorem upper_some(K:Nat)(s1:Int)(g1:Bool)(A1:Option Addr)(n1 c1:Nat)(B1:Option Addr)(m1 d1:Nat)(x1:Rat)(s2:Int)(g2:Bool)(A2:Option Addr)(n2 c2:Nat)(B2:Option Addr)(m2 d2:Nat)(x2:Rat)(w:World)(h1:RatV w K g1 (.slice A1 n1 c1) (.slice B1 m1 d1) x1)(h2:RatV w K g2 (.slice A2 n2 c2) (.slice B2 m2 d2) x2)(hK0:1≤K)(hK:K≤1073741824)(ho:0<esx s2 x2):
  Calls Tryz.prog 146 #[.agg #[.bool false,.int .i64 s1,.bool g1,.slice A1 n1 c1,.slice B1 m1 d1,.int .i64 s2,.bool g2,.slice A2 n2 c2,.slice B2 m2 d2]] w (NewSet w K false (if 0<ec 0 0 s1 x1 then 0 else s1) (if 0<ec 0 0 s1 x1 then 0 else x1) s2 x2):=by
 have HS:=Hd fun W (hW:Below w.heap.size w W)=>sign6_any K s2 g2 A2 n2 c2 B2 m2 d2 x2 W (h2.below hW) hK;have HF:=Hd (show ∀ W,Calls Tryz.prog 95 #[.int .i64 0] W (NewEnd W 1 0 0) from fun W=>finite_nat 0 W (by omega));have HG:=Hd fun W (gf:Bool) (Af:Option Addr) (nf cf:Nat) (Bf:Option Addr) (mf df:Nat) (hW:Below w.heap.size w W) (hf:RatV W K gf (.slice Af nf cf) (.slice Bf mf df) 0)=>greater_any K s1 g1 A1 n1 c1 B1 m1 d1 x1 0 gf Af nf cf Bf mf df 0 W (h1.below hW) hf hK;have Y0:=Hd h2
 obtain⟨u,hu⟩:∃ z,(if 0<ec 0 0 s1 x1 then 0 else s1)=z:=⟨_,rfl⟩
 obtain⟨v,hv⟩:∃ z,(if 0<ec 0 0 s1 x1 then 0 else x1)=z:=⟨_,rfl⟩
 rw [hu,hv] at HG ⊢
 obtain⟨sg,hsg⟩:∃ z,esx s2 x2=z:=⟨_,rfl⟩
 rw [hsg] at HS ho
 have hz:¬ sg≤0:=by omega
 have HK0:=Hd hK0;clear h1 h2 hK0 hK hu hv hsg ho;obtain⟨LB0,LG0_0,LR⟩:=bx2 w #[.bool false,.int .i64 s1,.bool g1,.slice A1 n1 c1,.slice B1 m1 d1,.int .i64 s2,.bool g2,.slice A2 n2 c2,.slice B2 m2 d2] 69 #[.bool false,.int .i64 0,.bool false,.slice none 0 0,.slice none 0 0,.int .i64 0,.bool false,.slice none 0 0,.slice none 0 0] 69;have LR0:=Hd (HasBlk.of (n:=9) LR.out rfl rfl);clear LR
 go_enter Tryz.func146,Tryz.ntmps146
 obtain⟨q0_0,q0_1,q0_2,q0_3,q0_4,q0_5,q0_6,q0_7,q0_8⟩:=LG0_0.out.c9;go_wp2_with fail;refine (HS.out _ LB0.out).mono ?_;rintro e w1 ⟨rfl,hb1⟩;have LB1:=stB LB0 hb1 LB0.out.size;have LR1:=stR LR0 hb1;have LG0_1:=stG LG0_0 hb1;clear LB0 LR0 LG0_0;clear hb1 HS q0_0 q0_1 q0_2 q0_3 q0_4 q0_5 q0_6 q0_7 q0_8;go_wp2_with fail;refine wp_region_held_drew (S:=fun W'=>Blk W' w.heap.size 69 #[.bool false,.int .i64 s1,.bool g1,.slice A1 n1 c1,.slice B1 m1 d1,.int .i64 s2,.bool g2,.slice A2 n2 c2,.slice B2 m2 d2]∧HasBlk W' (w.heap.size+1) 69 9∧Below w.heap.size w W') (by kernel_rfl) (by exact⟨LG0_1.out.drew,LR1.out.drew,LB1.out.drew⟩) (fun hHeld=>?_);refine tk 0 ?_;(try simp only [Act.put,lay]);refine tk 1 ?_ (hv:=by intro W2 hSw;obtain⟨q0,q1,q2,q3,q4,q5,q6,q7,q8⟩:=hSw.1.c9;go_simp;(try with_reducible rfl));(try simp only [Act.put,lay]);refine tk 4 ?_;(try simp only [Act.put,lay]);refine tk 5 ?_ (hv:=by intro W2 hSw;obtain⟨q0,q1,q2,q3,q4,q5,q6,q7,q8⟩:=hSw.1.c9;go_simp;(try with_reducible rfl));(try simp only [Act.put,lay]);refine rdy 2 (fun KK hKK=>?_);go_simp;refine (HF.out _).mono ?_;rintro e w2 ⟨gf,Af,nf,cf,Bf,mf,df,rfl,hRf,hbA⟩;go_wp2_with fail;refine hKK.out _ _ (⟨hHeld.1.keep hbA,hHeld.2.1.keep hbA,hHeld.2.2.trans (hbA.mono hHeld.2.2.size)⟩) (fun _=>?_);clear hKK KK hHeld;rename_i hHeld;(try simp only [Act.put,lay]);refine rdy 3 (fun KK hKK=>?_);go_simp;refine (HG.out _ _ _ _ _ _ _ _ hHeld.2.2 (hRf.mono HK0.out)).mono ?_;rintro e w3 ⟨ga,AA,na,ca,BA,ma,da,rfl,hRa,hbB⟩;go_wp2_with fail;refine hKK.out _ _ (⟨hHeld.1.keep hbB,hHeld.2.1.keep hbB,hHeld.2.2.trans (hbB.mono hHeld.2.2.size)⟩) (fun _=>?_)
 clear hKK KK hHeld;rename_i hHeld;(try simp only [Act.put,lay]);refine tk 6 ?_;(try simp only [Act.put,lay]);refine rdy 7 (fun KK hKK=>?_);have ha0:=hHeld.2.1.someCell 0 (by decide);have hf0:=hHeld.2.1.frozen 0;have ha1:=hHeld.2.1.someCell 1 (by decide);have hf1:=hHeld.2.1.frozen 1;have ha2:=hHeld.2.1.someCell 2 (by decide);have hf2:=hHeld.2.1.frozen 2;have ha3:=hHeld.2.1.someCell 3 (by decide);have hf3:=hHeld.2.1.frozen 3;have ha4:=hHeld.2.1.someCell 4 (by decide);have hf4:=hHeld.2.1.frozen 4;have ha5:=hHeld.2.1.someCell 5 (by decide);have hf5:=hHeld.2.1.frozen 5;have ha6:=hHeld.2.1.someCell 6 (by decide);have hf6:=hHeld.2.1.frozen 6;have ha7:=hHeld.2.1.someCell 7 (by decide);have hf7:=hHeld.2.1.frozen 7;have ha8:=hHeld.2.1.someCell 8 (by decide);have hf8:=hHeld.2.1.frozen 8;have HK:=Hd (hHeld.2.1.setCell [.bool false,.int .i64 u,.bool ga,.slice AA na ca,.slice BA ma da,.int .i64 s2,.bool g2,.slice A2 n2 c2,.slice B2 m2 d2] rfl);have F:=Hd (below_sets (w0:=w) (r:=(w.heap.size+1)) (by omega) [.bool false,.int .i64 u,.bool ga,.slice AA na ca,.slice BA ma da,.int .i64 s2,.bool g2,.slice A2 n2 c2,.slice B2 m2 d2] 0 _ hHeld.2.2);have FR1:=Hd (hHeld.2.1.rat hRa [.bool false,.int .i64 u,.bool ga,.slice AA na ca,.slice BA ma da,.int .i64 s2,.bool g2,.slice A2 n2 c2,.slice B2 m2 d2]);have FR2:=Hd (hHeld.2.1.rat (Y0.out.below hHeld.2.2) [.bool false,.int .i64 u,.bool ga,.slice AA na ca,.slice BA ma da,.int .i64 s2,.bool g2,.slice A2 n2 c2,.slice B2 m2 d2]);go_simp;refine hKK.out _ _ (⟨hHeld.1.other (by omega) 0 [.bool false,.int .i64 u,.bool ga,.slice AA na ca,.slice BA ma da,.int .i64 s2,.bool g2,.slice A2 n2 c2,.slice B2 m2 d2],hHeld.2.1.sets [.bool false,.int .i64 u,.bool ga,.slice AA na ca,.slice BA ma da,.int .i64 s2,.bool g2,.slice A2 n2 c2,.slice B2 m2 d2] rfl rfl,below_sets (by omega) [.bool false,.int .i64 u,.bool ga,.slice AA na ca,.slice BA ma da,.int .i64 s2,.bool g2,.slice A2 n2 c2,.slice B2 m2 d2] 0 _ hHeld.2.2⟩) (fun _=>?_)
 clear hKK KK hHeld;rename_i hHeld;(try simp only [Act.put,lay]);refine wpAnyH_done (by kernel_rfl) ?_ _;have hk0:=HK.out 0 (by decide);have hk1:=HK.out 1 (by decide);have hk2:=HK.out 2 (by decide);have hk3:=HK.out 3 (by decide);have hk4:=HK.out 4 (by decide);have hk5:=HK.out 5 (by decide);have hk6:=HK.out 6 (by decide);have hk7:=HK.out 7 (by decide);have hk8:=HK.out 8 (by decide)
 simp [sets] at hk0 hk1 hk2 hk3 hk4 hk5 hk6 hk7 hk8
 clear hHeld HK hRf hbA hRa hbB;clear LB1 LR1 LG0_1;go_wp2;refine bodyPost_ret (v:=.agg #[.bool false,.int .i64 u,.bool ga,.slice AA na ca,.slice BA ma da,.int .i64 s2,.bool g2,.slice A2 n2 c2,.slice B2 m2 d2]) (by simp [results,Tryz.results146,go_sem,hk0,hk1,hk2,hk3,hk4,hk5,hk6,hk7,hk8]) rfl ?_
 exact⟨_,_,_,_,_,_,_,_,_,_,_,_,_,_,rfl,FR1.out,FR2.out,F.out⟩
theorem zero_any(K:Nat)(o:Bool)(s1:Int)(g1:Bool)(A1:Option Addr)(n1 c1:Nat)(B1:Option Addr)(m1 d1:Nat)(x1:Rat)(s2:Int)(g2:Bool)(A2:Option Addr)(n2 c2:Nat)(B2:Option Addr)(m2 d2:Nat)(x2:Rat)(w:World)(h1:RatV w K g1 (.slice A1 n1 c1) (.slice B1 m1 d1) x1)(h2:RatV w K g2 (.slice A2 n2 c2) (.slice B2 m2 d2) x2)(hK:K≤1073741824):
  Calls Tryz.prog 85 #[.agg #[.bool o,.int .i64 s1,.bool g1,.slice A1 n1 c1,.slice B1 m1 d1,.int .i64 s2,.bool g2,.slice A2 n2 c2,.slice B2 m2 d2]] w fun e w'=>e=.returned (.bool (!o && decide (esx s1 x1≤0) && decide (0≤esx s2 x2)))∧Below w.heap.size w w':=by
 have HS:=Hd fun W (hW:Below w.heap.size w W)=>sign6_any K s1 g1 A1 n1 c1 B1 m1 d1 x1 W (h1.below hW) hK;have HT:=Hd fun W (hW:Below w.heap.size w W)=>sign6_any K s2 g2 A2 n2 c2 B2 m2 d2 x2 W (h2.below hW) hK
 obtain⟨sg,hsg⟩:∃ z,esx s1 x1=z:=⟨_,rfl⟩
 obtain⟨tg,htg⟩:∃ z,esx s2 x2=z:=⟨_,rfl⟩
 rw [hsg] at HS ⊢;rw [htg] at HT ⊢;clear h1 h2 hK hsg htg
 cases o
 ·have LB0:=Hd (show Below w.heap.size w (w.alloc (.cells #[.bool false,.int .i64 s1,.bool g1,.slice A1 n1 c1,.slice B1 m1 d1,.int .i64 s2,.bool g2,.slice A2 n2 c2,.slice B2 m2 d2] 69)) from (below_alloc w _));have LG0_0:=Hd ((Blk.at (W:=w) (g:=w.heap.size) (by simp<;>omega) 69 #[.bool false,.int .i64 s1,.bool g1,.slice A1 n1 c1,.slice B1 m1 d1,.int .i64 s2,.bool g2,.slice A2 n2 c2,.slice B2 m2 d2]))
  go_enter Tryz.func85,Tryz.ntmps85
  have q0_0:=LG0_0.out.ce 0 rfl;have q0_1:=LG0_0.out.ce 1 rfl;have q0_2:=LG0_0.out.ce 2 rfl;have q0_3:=LG0_0.out.ce 3 rfl;have q0_4:=LG0_0.out.ce 4 rfl;have q0_5:=LG0_0.out.ce 5 rfl;have q0_6:=LG0_0.out.ce 6 rfl;have q0_7:=LG0_0.out.ce 7 rfl;have q0_8:=LG0_0.out.ce 8 rfl;go_wp2_with fail;refine (HS.out _ LB0.out).mono ?_;rintro e w1 ⟨rfl,hb1⟩;have LB1:=stB LB0 hb1 LB0.out.size;have LG0_1:=stG LG0_0 hb1;clear LB0 LG0_0;clear hb1 HS q0_0 q0_1 q0_2 q0_3 q0_4 q0_5 q0_6 q0_7 q0_8;have q0_0:=LG0_1.out.ce 0 rfl;have q0_1:=LG0_1.out.ce 1 rfl;have q0_2:=LG0_1.out.ce 2 rfl;have q0_3:=LG0_1.out.ce 3 rfl;have q0_4:=LG0_1.out.ce 4 rfl;have q0_5:=LG0_1.out.ce 5 rfl;have q0_6:=LG0_1.out.ce 6 rfl;have q0_7:=LG0_1.out.ce 7 rfl;have q0_8:=LG0_1.out.ce 8 rfl
  by_cases hz:sg≤0
  ·have hzb:=decide_eq_true hz;go_wp2_with fail;refine (HT.out _ LB1.out).mono ?_;rintro e w2 ⟨rfl,hb2⟩;have F:=Hd (LB1.out.trans (hb2.mono LB1.out.size));clear hb2;go_wp2
   go_ret
   exact⟨ret_bool (by rw [hzb];rfl),F.out⟩
  ·have hzb:=decide_eq_false hz;have F:=Hd LB1.out;go_wp2
   go_ret
   exact⟨ret_bool (by rw [hzb];rfl),F.out⟩
 ·have LB0:=Hd (show Below w.heap.size w (w.alloc (.cells #[.bool true,.int .i64 s1,.bool g1,.slice A1 n1 c1,.slice B1 m1 d1,.int .i64 s2,.bool g2,.slice A2 n2 c2,.slice B2 m2 d2] 69)) from (below_alloc w _));have LG0_0:=Hd ((Blk.at (W:=w) (g:=w.heap.size) (by simp<;>omega) 69 #[.bool true,.int .i64 s1,.bool g1,.slice A1 n1 c1,.slice B1 m1 d1,.int .i64 s2,.bool g2,.slice A2 n2 c2,.slice B2 m2 d2]));have F:=Hd LB0.out
  go_enter Tryz.func85,Tryz.ntmps85
  have q0_0:=LG0_0.out.ce 0 rfl;have q0_1:=LG0_0.out.ce 1 rfl;have q0_2:=LG0_0.out.ce 2 rfl;have q0_3:=LG0_0.out.ce 3 rfl;have q0_4:=LG0_0.out.ce 4 rfl;have q0_5:=LG0_0.out.ce 5 rfl;have q0_6:=LG0_0.out.ce 6 rfl;have q0_7:=LG0_0.out.ce 7 rfl;have q0_8:=LG0_0.out.ce 8 rfl;go_wp2
  go_ret
  exact⟨rfl,F.out⟩
end Go.Proofs.YtmjkmoahkanblaaGreat
