/-
Plain: the one rounded answer of a rational number; an end of a piece (a number, or an infinity) and its two neighbours.
Walks: package vergeref2, RQuo.
The model's sums and products of words, as the nearest index.
Rounding whole numbers of units to 53 binary digits: representable numbers, the nearest one, sums that lose nothing.
Floats made whole: what math.Floor, Ceil, Trunc, RoundToEven make of an index.
-/
import Derived.Test.YtfcpabgampebaaaGreatM09
import Derived.Test.YtfcpabgampebaaaGreatM03
import Derived.Test.YtfcpabgampebaaaGreatPMinusT
import Derived.Test.YtfcpabgampebaaaGreatM04
set_option linter.unusedSimpArgs false
set_option linter.unusedVariables false
set_option maxHeartbeats 12800000
namespace Go.Proofs.YtfcpabgampebaaaGreat
open Go.RowKit
theorem num_neg_iff{x:Rat}:x.num<0↔x<0:=by rw [← Int.not_le,Rat.num_nonneg,Rat.not_le]
theorem rat_rv(x:Rat):rv (decide (x<0)) x.num.natAbs x.den=x:=by
 have h:(x.num:Rat) / (x.den:Rat)=x:=by rw [← Rat.mkRat_eq_div,Rat.mkRat_self]
 unfold rv
 by_cases h0:x<0
 ·have h1:x.num<0:=num_neg_iff.2 h0
  have h2:((x.num.natAbs:Nat):Int)=-x.num:=by omega
  have h3:((x.num.natAbs:Nat):Rat)=-(x.num:Rat):=by rw [← Rat.intCast_natCast,h2,Rat.intCast_neg]
  simp only [h0,decide_true,if_true,h3,Rat.neg_neg]
  exact h
 ·have h1:¬ x.num<0:=fun h=>h0 (num_neg_iff.1 h)
  have h2:((x.num.natAbs:Nat):Int)=x.num:=by omega
  have h3:((x.num.natAbs:Nat):Rat)=(x.num:Rat):=by rw [← Rat.intCast_natCast,h2]
  simp only [h0,decide_false,h3]
  exact h
theorem Rnd.dir{d:Int}{x:Rat}{i:Int}(h:Rnd d x i):d=-1∨d=1:=by
 rcases h with ⟨h,_⟩ | ⟨h,_⟩
 ·exact .inl h
 ·exact .inr h
theorem Rnd.unique{d:Int}{x:Rat}{i j:Int}(h:Rnd d x i)(h':Rnd d x j):i=j:=by
 rcases h with ⟨rfl,a1,a2,a3⟩ | ⟨rfl,a1,a2,a3⟩
 ·rcases h' with ⟨-,b1,b2,b3⟩ | ⟨h,_⟩
  ·rcases Int.lt_trichotomy i j with h | h | h
   ·have:=(a3 j (by omega) b2).2 ((b3 j (by omega) b2).1 (Int.le_refl _));omega
   ·exact h
   ·have:=(b3 i (by omega) a2).2 ((a3 i (by omega) a2).1 (Int.le_refl _));omega
  ·omega
 ·rcases h' with ⟨h,_⟩ | ⟨-,b1,b2,b3⟩
  ·omega
  ·rcases Int.lt_trichotomy i j with h | h | h
   ·have:=(b3 i a1 (by omega)).2 ((a3 i a1 (by omega)).1 (Int.le_refl _));omega
   ·exact h
   ·have:=(a3 j b1 (by omega)).2 ((b3 j b1 (by omega)).1 (Int.le_refl _));omega
def rndI(d:Int)(x:Rat):Int:=
 if x=0 then 0 else sg (decide (x<0)) (ansT x.num.natAbs x.den (fout x.num.natAbs x.den ((blen x.num.natAbs:Int) - blen x.den)) (decide (d=1) != decide (x<0)))
theorem rnd_rndI{d:Int}(hd:d=-1∨d=1)(x:Rat):Rnd d x (rndI d x):=by
 unfold rndI
 by_cases h0:x=0
 ·rw [if_pos h0,h0];exact rnd_zero hd
 ·rw [if_neg h0]
  have hp:0<x.num.natAbs:=by
   have:x.num≠0:=fun h=>h0 (Rat.num_eq_zero.1 h)
   omega
  have h:=rnd_ans (neg:=decide (x<0)) hp x.den_pos (fout_sc hp x.den_pos rfl) hd;rw [rat_rv] at h
  exact h
theorem Rnd.eq{d:Int}{x:Rat}{i:Int}(h:Rnd d x i):i=rndI d x:=h.unique (rnd_rndI h.dir x)
theorem rndI_fl{d a:Int}(hd:d=-1∨d=1)(h0:-(M:Int)<a)(h1:a<M):rndI d (fl a)=a:=(rnd_rndI hd (fl a)).exact h0 h1
theorem rndI_zero{d:Int}(hd:d=-1∨d=1):rndI d 0=0:=(rnd_zero hd).eq.symm
theorem rndI_down(x:Rat):-(M:Int)≤rndI (-1) x∧rndI (-1) x<M∧∀ j:Int,-(M:Int)<j→j<M→(j≤rndI (-1) x↔fl j≤x):=by
 rcases rnd_rndI (.inl rfl) x with ⟨-,h⟩ | ⟨h,_⟩
 ·exact h
 ·omega
theorem rndI_up(x:Rat):-(M:Int)<rndI 1 x∧rndI 1 x≤M∧∀ j:Int,-(M:Int)<j→j<M→(rndI 1 x≤j↔x≤fl j):=by
 rcases rnd_rndI (.inr rfl) x with ⟨h,_⟩ | ⟨-,h⟩
 ·omega
 ·exact h
theorem rndI_mono{d:Int}(hd:d=-1∨d=1){x y:Rat}(h:x≤y):rndI d x≤rndI d y:=by
 rcases hd with rfl | rfl
 ·have h1:=rndI_down x;have h2:=rndI_down y
  by_cases hc:rndI (-1) x≤rndI (-1) y
  ·exact hc
  ·have h3:=(h1.2.2 (rndI (-1) x) (by omega) h1.2.1).1 (Int.le_refl _)
   exact (h2.2.2 _ (by omega) h1.2.1).2 (Rat.le_trans h3 h)
 ·have h1:=rndI_up x;have h2:=rndI_up y
  by_cases hc:rndI 1 x≤rndI 1 y
  ·exact hc
  ·have h3:=(h2.2.2 (rndI 1 y) h2.1 (by omega)).1 (Int.le_refl _)
   exact (h1.2.2 _ h2.1 (by omega)).2 (Rat.le_trans h h3)
theorem rndI_le(x:Rat):rndI (-1) x≤rndI 1 x:=by
 have h1:=rndI_down x;have h2:=rndI_up x
 by_cases hc:rndI (-1) x≤rndI 1 x
 ·exact hc
 ·have h3:=(h2.2.2 (rndI 1 x) h2.1 (by omega)).1 (Int.le_refl _)
  by_cases h4:rndI 1 x<rndI (-1) x
  ·have h5:=(h1.2.2 (rndI (-1) x) (by omega) h1.2.1).1 (Int.le_refl _);have:=fl_lt_iff.2 h4
   grind
  ·omega
def dn(s:Int)(x:Rat):Int:=if s=0 then rndI (-1) x else s*M
def up(s:Int)(x:Rat):Int:=if s=0 then rndI 1 x else s*M
theorem dn_zero(x:Rat):dn 0 x=rndI (-1) x:=rfl
theorem up_zero(x:Rat):up 0 x=rndI 1 x:=rfl
theorem rc_neg_iff{x y:Rat}:rc x y<0↔x<y:=by
 unfold rc
 by_cases h:x<y
 ·simp [h]
 ·rw [if_neg h]
  by_cases h':y<x<;>simp [h,h']
theorem rc_pos_iff{x y:Rat}:0<rc x y↔y<x:=by
 unfold rc
 by_cases h:x<y
 ·have:¬ y<x:=by grind
  simp [h,this]
 ·rw [if_neg h]
  by_cases h':y<x<;>simp [h']
theorem rc_zero_iff{x y:Rat}:rc x y=0↔x=y:=by
 unfold rc
 by_cases h:x<y
 ·have:x≠y:=by grind
  simp [h,this]
 ·rw [if_neg h]
  by_cases h':y<x
  ·have:x≠y:=by grind
   simp [h',this]
  ·have:x=y:=by grind
   simp [this]
theorem ec_hi{i s:Int}{x:Rat}(hi:-(M:Int)≤i∧i<M)(hs:s=0∨s=1):0<ec (es i) (ex i) s x↔dn s x<i:=by
 have hM:M=9218868437227405312:=rfl
 rcases hs with rfl | rfl
 ·rw [dn_zero];have h:=rndI_down x
  by_cases h0:i=-(M:Int)
  ·subst h0;rw [es_min,ec_lt _ _ (by omega)];omega
  ·rw [es_mid (by omega) hi.2,ec_zero,ex_mid (by omega) hi.2,rc_pos_iff];have h1:=h.2.2 i (by omega) hi.2;rw [← Int.not_le,h1];grind
 ·have h1:es i<1:=by have:=es_bounds i;unfold es;split<;>(try split)<;>omega
  rw [ec_lt _ _ h1];unfold dn;rw [if_neg (by omega)];omega
theorem ec_lo{j s:Int}{x:Rat}(hj:-(M:Int)<j∧j≤M)(hs:s=0∨s=-1):ec (es j) (ex j) s x<0↔j<up s x:=by
 have hM:M=9218868437227405312:=rfl
 rcases hs with rfl | rfl
 ·rw [up_zero];have h:=rndI_up x
  by_cases h0:j=(M:Int)
  ·subst h0;rw [es_max,ec_gt _ _ (by omega)];omega
  ·rw [es_mid (by omega) (by omega),ec_zero,ex_mid (by omega) (by omega),rc_neg_iff];have h1:=h.2.2 j hj.1 (by omega);rw [← Int.not_le,h1];grind
 ·have h1:-1<es j:=by unfold es;split<;>(try split)<;>omega
  rw [ec_gt _ _ h1];unfold up;rw [if_neg (by omega)];omega
theorem ec_lo_at{i s:Int}{x:Rat}(hi:-(M:Int)≤i∧i<M)(hs:s=0∨s=-1):(if ec (es i) (ex i) s x<0 then rndI (-1) x else i)=max i (dn s x):=by
 have hM:M=9218868437227405312:=rfl
 rcases hs with rfl | rfl
 ·rw [dn_zero];have h:=rndI_down x
  by_cases h0:i=-(M:Int)
  ·subst h0;rw [es_min,ec_lt _ _ (by omega),if_pos (by omega)];omega
  ·rw [es_mid (by omega) hi.2,ec_zero,ex_mid (by omega) hi.2];have h1:=h.2.2 i (by omega) hi.2
   by_cases hc:fl i<x
   ·rw [if_pos (rc_neg_iff.2 hc)];have:=h1.2 (by grind);omega
   ·rw [if_neg (fun h=>hc (rc_neg_iff.1 h))]
    have:rndI (-1) x≤i:=by
     by_cases h2:rndI (-1) x=-(M:Int)
     ·omega
     ·have h3:=(h.2.2 (rndI (-1) x) (by omega) h.2.1).1 (Int.le_refl _);rw [← fl_le_iff];grind
    omega
 ·have h1:-1≤es i:=(es_bounds i).1
  have h2:¬ ec (es i) (ex i) (-1) x<0:=by
   by_cases h3:es i=-1
   ·rw [ec_inf _ _ h3 (by omega)];omega
   ·rw [ec_gt _ _ (by omega)];omega
  rw [if_neg h2];unfold dn;rw [if_neg (by omega)];omega
theorem ec_hi_at{j s:Int}{x:Rat}(hj:-(M:Int)<j∧j≤M)(hs:s=0∨s=1):(if 0<ec (es j) (ex j) s x then rndI 1 x else j)=min j (up s x):=by
 have hM:M=9218868437227405312:=rfl
 rcases hs with rfl | rfl
 ·rw [up_zero];have h:=rndI_up x
  by_cases h0:j=(M:Int)
  ·subst h0;rw [es_max,ec_gt _ _ (by omega),if_pos (by omega)];omega
  ·rw [es_mid (by omega) (by omega),ec_zero,ex_mid (by omega) (by omega)];have h1:=h.2.2 j hj.1 (by omega)
   by_cases hc:x<fl j
   ·rw [if_pos (rc_pos_iff.2 hc)];have:=h1.2 (by grind);omega
   ·rw [if_neg (fun h=>hc (rc_pos_iff.1 h))]
    have:j≤rndI 1 x:=by
     by_cases h2:rndI 1 x=(M:Int)
     ·omega
     ·have h3:=(h.2.2 (rndI 1 x) h.1 (by omega)).1 (Int.le_refl _);rw [← fl_le_iff];grind
    omega
 ·have h1:es j≤1:=(es_bounds j).2
  have h2:¬ 0<ec (es j) (ex j) 1 x:=by
   by_cases h3:es j=1
   ·rw [ec_inf _ _ h3 (by omega)];omega
   ·rw [ec_lt _ _ (by omega)];omega
  rw [if_neg h2];unfold up;rw [if_neg (by omega)];omega
theorem times_q(A B:Option Addr)(n c m d a b:Nat)(w:World)(hx:U32s w A n c (digs a))(hy:U32s w B m d (digs b))(hs1:n≤8589934592)(hs2:m≤8589934592):
  Calls Tryz.prog 54 #[.slice A n c,.slice B m d] w (NewU32 w (digs (a*b))):=by
 have h:=times_any A B n c m d _ _ w hx hy hs1 hs2;rw [num_digs,num_digs] at h;exact h
theorem pow_mm{K:Nat}(a b:Nat)(ha:a<2^(32*K))(hb:b<2^(32*K)):a*b<2^(32*(2*K)):=by
 have h:2^(32*(2*K))=2^(32*K)*2^(32*K):=by rw [← Nat.pow_add];congr 1;omega
 rw [h]
 exact Nat.mul_lt_mul'' ha hb
theorem rv_mul(g1 g2:Bool)(p1 q1 p2 q2:Nat):rv g1 p1 q1*rv g2 p2 q2=rv (g1 != g2) (p1*p2) (q1*q2):=by
 unfold rv
 cases g1<;>cases g2<;>simp [Rat.div_def,Rat.natCast_mul,Rat.inv_mul_rev]<;>grind
theorem rv_ne(g:Bool){p q:Nat}(hp:0<p)(hq:0<q):rv g p q≠0:=by
 have h1:=mt (rv_le_false (p:=p) (p':=0) hq (q':=1) (by omega)).1 (by omega);rw [rv_zero] at h1
 cases g
 ·grind
 ·rw [rv_true];grind
theorem rv_quo(g1 g2:Bool)(p1 q1 p2 q2:Nat)(h1:0<q1)(h2:0<q2)(h3:0<p2):rv g1 p1 q1 / rv g2 p2 q2=rv (g1 != g2) (p1*q2) (q1*p2):=by
 refine div_eq (rv_ne g2 h3 h2) ?_;rw [rv_mul,show ((g1 != g2) != g2)=g1 from by cases g1<;>cases g2<;>rfl]
 exact rv_eq h1 (Nat.mul_pos (Nat.mul_pos h1 h3) h2) (by ac_rfl)
theorem rquo_walk(K:Nat)(g1 g2:Bool)(p1 q1 p2 q2:Nat)(A1:Option Addr)(n1 c1:Nat)(B1:Option Addr)(m1 d1:Nat)(A2:Option Addr)(n2 c2:Nat)(B2:Option Addr)(m2 d2:Nat)(w:World)(u1:U32s w A1 n1 c1 (digs p1))(v1:U32s w B1 m1 d1 (digs q1))(u2:U32s w A2 n2 c2 (digs p2))(v2:U32s w B2 m2 d2 (digs q2))(l1:n1≤8589934592)(l2:m1≤8589934592)(l3:n2≤8589934592)(l4:m2≤8589934592)(hD:0<q1*p2)(k1:p1*q2<2^(32*K))(k2:q1*p2<2^(32*K))(hK:1≤K)(hK2:K≤1073741824):
  Calls Tryz.prog 83 #[.agg #[.bool g1,.slice A1 n1 c1,.slice B1 m1 d1],.agg #[.bool g2,.slice A2 n2 c2,.slice B2 m2 d2]] w (NewRat w K (rv (g1 != g2) (p1*q2) (q1*p2))):=by
 have T1:=Hd fun W (hW:Below w.heap.size w W)=>times_q A1 B2 n1 c1 m2 d2 p1 q2 W (u1.below hW) (v2.below hW) l1 l4;have T2:=Hd fun W (hW:Below w.heap.size w W)=>times_q B1 A2 m1 d1 n2 c2 q1 p2 W (v1.below hW) (u2.below hW) l2 l3
 obtain⟨X,eX⟩:∃ x,p1*q2=x:=⟨_,rfl⟩
 obtain⟨D,eD⟩:∃ x,q1*p2=x:=⟨_,rfl⟩
 rw [eX] at T1 k1 ⊢;rw [eD] at T2 k2 hD ⊢;have T3:=Hd fun g W (A:Option Addr) (n c:Nat) (B:Option Addr) (m d:Nat) (hx:U32s W A n c (digs X)) (hy:U32s W B m d (digs D))=>frac_plain g A B n c m d K X D W hx hy hD k1 k2 hK hK2;clear u1 v1 u2 v2 l1 l2 l3 l4 hD k1 k2 hK hK2 eX eD;obtain⟨LB0,LG0_0,LG1_0,LR⟩:=bx3 w #[.bool g1,.slice A1 n1 c1,.slice B1 m1 d1] 41 #[.bool g2,.slice A2 n2 c2,.slice B2 m2 d2] 41 #[.bool false,.slice none 0 0,.slice none 0 0] 41;have LR0:=Hd (HasBlk.of (n:=3) LR.out rfl rfl);clear LR
 go_enter Tryz.func83,Tryz.ntmps83
 go_wp2_with fail;refine wp_region_held_drew (S:=fun W'=>Blk W' w.heap.size 41 #[.bool g1,.slice A1 n1 c1,.slice B1 m1 d1]∧Blk W' (w.heap.size+1) 41 #[.bool g2,.slice A2 n2 c2,.slice B2 m2 d2]∧HasBlk W' (w.heap.size+2) 41 3∧Below w.heap.size w W') (by kernel_rfl) (by exact⟨LG0_0.out.drew,LG1_0.out.drew,LR0.out.drew,LB0.out.drew⟩) (fun hHeld=>?_);refine tk 0 ?_;(try simp only [Act.put,lay]);refine tk 1 ?_ (hv:=by intro W2 hSw;obtain⟨q0,q1,q2⟩:=hSw.1.c3;go_simp;(try with_reducible rfl));(try simp only [Act.put,lay]);refine tk 2 ?_;(try simp only [Act.put,lay]);refine tk 3 ?_ (hv:=by intro W2 hSw;obtain⟨q0,q1,q2⟩:=hSw.2.1.c3;go_simp;(try with_reducible rfl));(try simp only [Act.put,lay]);refine tk 4 ?_;(try simp only [Act.put,lay]);refine tk 5 ?_;(try simp only [Act.put,lay]);refine tk 6 ?_ (hv:=by intro W2 hSw;obtain⟨q0,q1,q2⟩:=hSw.1.c3;go_simp;(try with_reducible rfl));(try simp only [Act.put,lay]);refine tk 7 ?_;(try simp only [Act.put,lay]);refine tk 8 ?_ (hv:=by intro W2 hSw;obtain⟨q0,q1,q2⟩:=hSw.2.1.c3;go_simp;(try with_reducible rfl));(try simp only [Act.put,lay]);refine tk 10 ?_;(try simp only [Act.put,lay]);refine tk 11 ?_ (hv:=by intro W2 hSw;obtain⟨q0,q1,q2⟩:=hSw.1.c3;go_simp;(try with_reducible rfl));(try simp only [Act.put,lay]);refine tk 12 ?_;(try simp only [Act.put,lay]);refine tk 13 ?_ (hv:=by intro W2 hSw;obtain⟨q0,q1,q2⟩:=hSw.2.1.c3;go_simp;(try with_reducible rfl));(try simp only [Act.put,lay]);refine rdy 9 (fun KK hKK=>?_);go_simp;refine (T1.out _ hHeld.2.2.2).mono ?_
 rintro e w1 ⟨AX,nX,cX,rfl,hX,hbA⟩;go_wp2_with fail;refine hKK.out _ _ (⟨hHeld.1.keep hbA,hHeld.2.1.keep hbA,hHeld.2.2.1.keep hbA,hHeld.2.2.2.trans (hbA.mono hHeld.2.2.2.size)⟩) (fun _=>?_);clear hKK KK hHeld;rename_i hHeld;(try simp only [Act.put,lay]);refine rdy 14 (fun KK hKK=>?_);go_simp;refine (T2.out _ hHeld.2.2.2).mono ?_;rintro e w2 ⟨AY,nY,cY,rfl,hY,hbB⟩;go_wp2_with fail;refine hKK.out _ _ (⟨hHeld.1.keep hbB,hHeld.2.1.keep hbB,hHeld.2.2.1.keep hbB,hHeld.2.2.2.trans (hbB.mono hHeld.2.2.2.size)⟩) (fun _=>?_);clear hKK KK hHeld;rename_i hHeld;(try simp only [Act.put,lay]);refine rdy 15 (fun KK hKK=>?_);go_simp;refine (T3.out _ _ _ _ _ _ _ _ (hX.below hbB) hY).mono ?_;rintro e w3 ⟨gz,vn,vd,rfl,hR,hbC⟩;obtain⟨AZ,nZ,cZ,BZ,mZ,dZ,rfl,rfl⟩:=hR.shape;go_wp2_with fail;refine hKK.out _ _ (⟨hHeld.1.keep hbC,hHeld.2.1.keep hbC,hHeld.2.2.1.keep hbC,hHeld.2.2.2.trans (hbC.mono hHeld.2.2.2.size)⟩) (fun _=>?_);clear hKK KK hHeld;rename_i hHeld;(try simp only [Act.put,lay]);refine rdy 16 (fun KK hKK=>?_);have ha0:=hHeld.2.2.1.someCell 0 (by decide);have hf0:=hHeld.2.2.1.frozen 0;have ha1:=hHeld.2.2.1.someCell 1 (by decide);have hf1:=hHeld.2.2.1.frozen 1;have ha2:=hHeld.2.2.1.someCell 2 (by decide);have hf2:=hHeld.2.2.1.frozen 2;have HK:=Hd (hHeld.2.2.1.setCell [.bool gz,.slice AZ nZ cZ,.slice BZ mZ dZ] rfl);have F:=Hd (below_sets (w0:=w) (r:=(w.heap.size+2)) (by omega) [.bool gz,.slice AZ nZ cZ,.slice BZ mZ dZ] 0 _ hHeld.2.2.2);have FR:=Hd (hHeld.2.2.1.rat hR [.bool gz,.slice AZ nZ cZ,.slice BZ mZ dZ])
 go_simp;refine hKK.out _ _ (⟨hHeld.1.other (by omega) 0 [.bool gz,.slice AZ nZ cZ,.slice BZ mZ dZ],hHeld.2.1.other (by omega) 0 [.bool gz,.slice AZ nZ cZ,.slice BZ mZ dZ],hHeld.2.2.1.sets [.bool gz,.slice AZ nZ cZ,.slice BZ mZ dZ] rfl rfl,below_sets (by omega) [.bool gz,.slice AZ nZ cZ,.slice BZ mZ dZ] 0 _ hHeld.2.2.2⟩) (fun _=>?_);clear hKK KK hHeld;rename_i hHeld;(try simp only [Act.put,lay]);refine wpAnyH_done (by kernel_rfl) ?_ _;have hk0:=HK.out 0 (by decide);have hk1:=HK.out 1 (by decide);have hk2:=HK.out 2 (by decide)
 simp [sets] at hk0 hk1 hk2
 clear hHeld HK hX hbA hY hbB hR hbC;clear LB0 LR0 LG0_0 LG1_0;go_wp2;refine bodyPost_ret (v:=.agg #[.bool gz,.slice AZ nZ cZ,.slice BZ mZ dZ]) (by simp [results,Tryz.results83,go_sem,hk0,hk1,hk2]) rfl ?_
 exact⟨_,_,_,rfl,FR.out,F.out⟩
theorem rquo_v(K:Nat)(g1:Bool)(vn1 vd1:Value)(x1:Rat)(g2:Bool)(vn2 vd2:Value)(x2:Rat)(w:World)(h1:RatV w K g1 vn1 vd1 x1)(h2:RatV w K g2 vn2 vd2 x2)(hK0:1≤K)(hK:K≤1048576)(hx:x2≠0):
  Calls Tryz.prog 83 #[.agg #[.bool g1,vn1,vd1],.agg #[.bool g2,vn2,vd2]] w (NewRat w (2*K) (x1 / x2)):=by
 obtain⟨p1,q1,A1,n1,c1,B1,m1,d1,rfl,rfl,u1,v1,hq1,-,k1,k2,rfl⟩:=h1;obtain⟨p2,q2,A2,n2,c2,B2,m2,d2,rfl,rfl,u2,v2,hq2,-,k3,k4,rfl⟩:=h2;have l1:=u1.len_le k1;have l2:=v1.len_le k2;have l3:=u2.len_le k3;have l4:=v2.len_le k4
 have hp2:0<p2:=by
  rcases Nat.eq_zero_or_pos p2 with h | h
  ·exact absurd (by rw [h,rv_zero]) hx
  ·exact h
 rw [rv_quo _ _ _ _ _ _ hq1 hq2 hp2]
 exact rquo_walk (2*K) g1 g2 p1 q1 p2 q2 A1 n1 c1 B1 m1 d1 A2 n2 c2 B2 m2 d2 w u1 v1 u2 v2 (by omega) (by omega) (by omega) (by omega) (Nat.mul_pos hq1 hp2) (pow_mm _ _ k1 k4) (pow_mm _ _ k2 k3) (by omega) (by omega)
end Go.Proofs.YtfcpabgampebaaaGreat
namespace Go.Proofs.YtfcpabgampebaaaGreat
open Ieee
def near(n:Int)(d:Nat):Int:=if n<0 then -((min (nearRung n.natAbs d) M:Nat):Int) else (min (nearRung n.natAbs d) M:Nat)
theorem near_neg(n:Int)(d:Nat):near (-n) d=-near n d:=by
 unfold near;rw [Int.natAbs_neg]
 rcases Int.lt_trichotomy n 0 with h | h | h
 ·rw [if_neg (by omega),if_pos h];omega
 ·subst h;have:nearRung 0 d=0:=Nat.le_zero.1 (nearRung_le (Nat.zero_le _))
  simp [this]
 ·rw [if_pos (by omega),if_neg (by omega)]
theorem val_scale_nat(r d:Nat):val (r:Int)*2^d=((mag r*2^d:Nat):Int):=by rw [val_nat];simp
theorem le_near{i:Int}{n:Int}{d:Nat}(hi:i≤M)(h:val i*2^d≤n):i≤near n d:=by
 have hp:(0:Int)<2^d:=by exact_mod_cast Nat.two_pow_pos d
 rcases Int.lt_or_le i 0 with h0 | h0
 ·-- below 0
  unfold near
  split
  ·obtain⟨r,rfl⟩:∃ r:Nat,i=-(r:Int):=⟨i.natAbs,by omega⟩
   rw [val_neg,Int.neg_mul,val_scale_nat] at h;have:nearRung n.natAbs d≤r:=nearRung_le (by omega)
   omega
  ·omega
 ·obtain⟨r,rfl⟩:∃ r:Nat,i=(r:Int):=⟨i.natAbs,by omega⟩
  rw [val_scale_nat] at h
  have h2:(0:Int)≤n:=by omega
  unfold near;rw [if_neg (by omega)];have:r≤nearRung n.natAbs d:=le_nearRung (by omega)
  omega
theorem near_le{i:Int}{n:Int}{d:Nat}(hi:-(M:Int)≤i)(h:n≤val i*2^d):near n d≤i:=by
 have:=@le_near (-i) (-n) d (by omega) (by rw [val_neg,Int.neg_mul];omega);rw [near_neg] at this
 omega
theorem near_val{i:Int}(h1:-(M:Int)≤i)(h2:i≤M)(d:Nat):near (val i*2^d) d=i:=
 Int.le_antisymm (near_le h1 (Int.le_refl _)) (le_near h2 (Int.le_refl _))
theorem near_val_zero{i:Int}(h1:-(M:Int)≤i)(h2:i≤M):near (val i) 0=i:=by
 have:=near_val h1 h2 0
 simpa using this
theorem word_false(r:Nat):double.word false r=r:=rfl
theorem word_true(r:Nat):double.word true r=2^63+r:=by unfold Format.word;rw [signWeight_eq];rfl
theorem word_lt64(s:Bool){r:Nat}(h:r<2^63):double.word s r<2^64:=by
 cases s
 ·rw [word_false];omega
 ·rw [word_true];omega
theorem rungOf_word(s:Bool){r:Nat}(h:r<2^63):rungOf (double.word s r)=r:=by
 unfold rungOf
 cases s
 ·rw [word_false];omega
 ·rw [word_true];omega
theorem sgn_word(s:Bool){r:Nat}(h:r<2^63):sgn (double.word s r)=s:=by
 unfold sgn
 cases s
 ·rw [word_false,show r / 2^63=0 from by omega];rfl
 ·rw [word_true,show (2^63+r) / 2^63=1 from by omega];rfl
theorem idx_word(s:Bool){r:Nat}(h:r<2^63):idx (double.word s r)=if s then -(r:Int) else r:=by
 unfold idx;rw [sgn_word s h,rungOf_word s h]
theorem M_lt:M<2^63:=by decide
structure Is (b:Nat) (i:Int):Prop where
 lt:b<2^64
 real:real b
 idx:idx b=i
theorem Is.word(s:Bool){r:Nat}(h:r≤M):Is (double.word s r) (if s then -(r:Int) else r):=by
 have:=M_lt
 have h':r<2^63:=by omega
 exact⟨word_lt64 s h',by unfold Proofs.YtfcpabgampebaaaGreat.real;rw [rungOf_word s h'];exact h,idx_word s h'⟩
theorem Is.near{s:Bool}{n:Int}{d:Nat}(h:n≠0→s=decide (n<0)):Is (double.word s (min (nearRung n.natAbs d) M)) (near n d):=by
 have h1:=Is.word s (r:=min (nearRung n.natAbs d) M) (Nat.min_le_right _ _)
 have e:(if s=true then -((min (nearRung n.natAbs d) M:Nat):Int) else ((min (nearRung n.natAbs d) M:Nat):Int))=Proofs.YtfcpabgampebaaaGreat.near n d:=by
  unfold Proofs.YtfcpabgampebaaaGreat.near
  by_cases h0:n=0
  ·subst h0;have:nearRung (0:Int).natAbs d=0:=Nat.le_zero.1 (nearRung_le (Nat.zero_le _))
   rw [this];cases s<;>simp
  ·rw [h h0]
   by_cases h2:n<0
   ·rw [if_pos h2,if_pos (by simpa using h2)]
   ·rw [if_neg h2,if_neg (by simpa using h2)]
 rw [e] at h1;exact h1
theorem write_num(s:Bool)(m:Nat)(p:Int):double.write (.number s m p)=double.nearest s m p:=rfl
theorem sum_fin{x y:Nat}{sy:Bool}{m n k l:Nat}(hm:m*2^k=mag (rungOf x))(hn:n*2^l=mag (rungOf y)):
  ∃ z:Bool,((Datum.number (sgn x) m (-1074+(k:Int))).sum (.number sy n (-1074+(l:Int)))).map double.write
   = some (double.word (if val (idx x)+signed sy (mag (rungOf y)) 0=0 then z else decide (val (idx x)+signed sy (mag (rungOf y)) 0<0)) (min (nearRung (val (idx x)+signed sy (mag (rungOf y)) 0).natAbs 0) M)):=by
 refine⟨sgn x && sy,?_⟩
 have key:∀ b:Nat,b≤k→b≤l→double.nearest (if signed (sgn x) m (k - b)+signed sy n (l - b)=0 then sgn x && sy else decide (signed (sgn x) m (k - b)+signed sy n (l - b)<0)) (signed (sgn x) m (k - b)+signed sy n (l - b)).natAbs (-1074+(b:Int))=double.word (if val (idx x)+signed sy (mag (rungOf y)) 0=0 then sgn x && sy else decide (val (idx x)+signed sy (mag (rungOf y)) 0<0)) (min (nearRung (val (idx x)+signed sy (mag (rungOf y)) 0).natAbs 0) M):=by
  intro b hk hl;rw [nearest_high]
  have hp:(0:Int)<2^b:=by exact_mod_cast Nat.two_pow_pos b
  have e1:signed (sgn x) m (k - b)*2^b=val (idx x):=by rw [← signed_split,Nat.sub_add_cancel hk,read_val hm]
  have e2:signed sy n (l - b)*2^b=signed sy (mag (rungOf y)) 0:=by
   rw [← signed_split,Nat.sub_add_cancel hl,signed_eq,signed_eq,hn,Nat.pow_zero,Nat.mul_one]
  have e3:val (idx x)+signed sy (mag (rungOf y)) 0=(signed (sgn x) m (k - b)+signed sy n (l - b))*2^b:=by rw [← e1,← e2,Int.add_mul]
  rw [e3];generalize signed (sgn x) m (k - b)+signed sy n (l - b)=t
  have e4:(t*2^b).natAbs=t.natAbs*2^b:=by rw [Int.natAbs_mul,Int.natAbs_pow];rfl
  have e5:(t*2^b=0)↔t=0:=by
   constructor
   ·intro h
    rcases Int.mul_eq_zero.1 h with h | h
    ·exact h
    ·omega
   ·rintro rfl;simp
  have e6:(t*2^b<0)↔t<0:=by
   constructor
   ·intro h
    rcases Int.lt_or_le t 0 with h2 | h2
    ·exact h2
    ·have:=Int.mul_nonneg h2 (Int.le_of_lt hp);omega
   ·intro h;exact Int.mul_neg_of_neg_of_pos h hp
  rw [e4]
  congr 1
  by_cases h0:t=0
  ·rw [if_pos h0,if_pos (e5.2 h0)]
  ·rw [if_neg h0,if_neg (fun h=>h0 (e5.1 h))]
   exact decide_eq_decide.2 e6.symm
 simp only [Datum.sum,Option.map_some,write_num]
 congr 1
 rcases Nat.le_total k l with h | h
 ·have:=key k (Nat.le_refl _) h;rw [show min (-1074+(k:Int)) (-1074+(l:Int))=-1074+(k:Int) from by omega,show (-1074+(k:Int) - (-1074+(k:Int))).toNat=k - k from by omega,show (-1074+(l:Int) - (-1074+(k:Int))).toNat=l - k from by omega];rw [← this]
 ·have:=key l h (Nat.le_refl _);rw [show min (-1074+(k:Int)) (-1074+(l:Int))=-1074+(l:Int) from by omega,show (-1074+(l:Int) - (-1074+(l:Int))).toNat=l - l from by omega,show (-1074+(k:Int) - (-1074+(l:Int))).toNat=k - l from by omega];rw [← this]
theorem add_fin{x y:Nat}(hx:fin x)(hy:fin y):∃ r,double.add x y=some r∧Is r (near (val (idx x)+val (idx y)) 0):=by
 obtain⟨m,k,e,hm,_⟩:=read_fin hx;obtain⟨n,l,e',hn,_⟩:=read_fin hy;obtain⟨z,h⟩:=sum_fin (sy:=sgn y) hm hn;rw [show signed (sgn y) (mag (rungOf y)) 0=val (idx y) from by rw [signed_eq,val_idx,Nat.pow_zero,Nat.mul_one]] at h;unfold Format.add;rw [e,e'];refine⟨_,h,Is.near ?_⟩;intro h0;rw [if_neg h0]
theorem sub_fin{x y:Nat}(hx:fin x)(hy:fin y):∃ r,double.sub x y=some r∧Is r (near (val (idx x) - val (idx y)) 0):=by
 obtain⟨m,k,e,hm,_⟩:=read_fin hx;obtain⟨n,l,e',hn,_⟩:=read_fin hy;obtain⟨z,h⟩:=sum_fin (sy:=!sgn y) hm hn
 have e2:signed (!sgn y) (mag (rungOf y)) 0=-val (idx y):=by
  rw [signed_eq,val_idx,Nat.pow_zero,Nat.mul_one]
  cases sgn y<;>simp
 rw [e2,← Int.sub_eq_add_neg] at h;unfold Format.sub;rw [e,e'];refine⟨_,h,Is.near ?_⟩;intro h0;rw [if_neg h0]
theorem mul_fin{x y:Nat}(hx:fin x)(hy:fin y):∃ r,double.mul x y=some r∧Is r (near (val (idx x)*val (idx y)) 1074):=by
 obtain⟨m,k,e,hm,_⟩:=read_fin hx;obtain⟨n,l,e',hn,_⟩:=read_fin hy;unfold Format.mul;rw [e,e']
 simp only [Datum.product,Option.map_some,write_num]
 refine⟨_,rfl,?_⟩;rw [show (-1074+(k:Int)+(-1074+(l:Int)))=-1074 - ((1074:Nat):Int)+((k+l:Nat):Int) from by omega,nearest_shift,nearest_low]
 have e1:(val (idx x)*val (idx y)).natAbs=m*n*2^(k+l):=by
  rw [Int.natAbs_mul,val_natAbs,val_natAbs,idx_natAbs,idx_natAbs,← hm,← hn,Nat.pow_add];rw [Nat.mul_assoc,Nat.mul_assoc,Nat.mul_left_comm (2^k)]
 rw [← e1];refine Is.near ?_;intro h0;rw [val_idx,val_idx] at h0 ⊢;generalize mag (rungOf x)=a at h0 ⊢;generalize mag (rungOf y)=b at h0 ⊢;have hab:(0:Int)≤(a:Int)*(b:Int):=Int.mul_nonneg (by omega) (by omega)
 cases sgn x<;>cases sgn y<;>simp [Int.neg_mul,Int.mul_neg] at h0 ⊢
 ·exact hab
 ·have:(0:Int)<(a:Int)*(b:Int):=Int.mul_pos (by omega) (by omega)
  omega
 ·have:(0:Int)<(a:Int)*(b:Int):=Int.mul_pos (by omega) (by omega)
  omega
 ·exact hab
def Rep(n:Int):Prop:=∃ i:Int,val i=n
theorem Rep.val(i:Int):Rep (val i):=⟨i,rfl⟩
theorem Rep.zero:Rep 0:=⟨0,rfl⟩
theorem Rep.neg{n:Int}(h:Rep n):Rep (-n):=by obtain⟨i,rfl⟩:=h;exact⟨-i,val_neg i⟩
theorem mag_of_le(q k:Nat)(hq:q≤2^53):∃ r,mag r=q*2^k:=by
 -- lower the power until the significand is full,or the power is spent
 induction k generalizing q with
 | zero=>
  exact⟨0*2^52+q,mag_form 0 q (.inl rfl) hq⟩
 | succ k ih=>
  rcases Nat.lt_or_ge q (2^52) with h | h
  ·obtain⟨r,hr⟩:=ih (q*2) (by omega)
   exact⟨r,by rw [hr,Nat.pow_succ,Nat.mul_assoc,Nat.mul_comm 2]⟩
  ·exact⟨(k+1)*2^52+q,mag_form (k+1) q (.inr h) hq⟩
theorem rep_iff{n:Int}:Rep n↔∃ q k:Nat,q<2^53∧n.natAbs=q*2^k:=by
 constructor
 ·rintro⟨i,rfl⟩;obtain⟨k,q,e,h,hq⟩:=rung_form i.natAbs
  exact⟨q,k,hq,by rw [val_natAbs,e,mag_form k q h (by omega)]⟩
 ·rintro⟨q,k,hq,h⟩;obtain⟨r,hr⟩:=mag_of_le q k (by omega)
  rcases Int.lt_or_le n 0 with h0 | h0
  ·exact⟨-(r:Int),by rw [val_neg,val_nat];omega⟩
  ·exact⟨(r:Int),by rw [val_nat];omega⟩
theorem rep_of_dvd{n:Int}(k:Nat)(hd:(2:Int)^k ∣ n)(hn:n.natAbs≤2^53*2^k):Rep n:=by
 obtain⟨m,rfl⟩:=hd;have hp:=Nat.two_pow_pos k
 have e:((2:Int)^k*m).natAbs=m.natAbs*2^k:=by rw [Int.natAbs_mul,Int.natAbs_pow,Nat.mul_comm];rfl
 rw [e] at hn;have hm:m.natAbs≤2^53:=Nat.le_of_mul_le_mul_right hn hp;obtain⟨r,hr⟩:=mag_of_le m.natAbs k hm;rw [← e] at hr
 rcases Int.lt_or_le ((2:Int)^k*m) 0 with h0 | h0
 ·exact⟨-(r:Int),by rw [val_neg,val_nat];omega⟩
 ·exact⟨(r:Int),by rw [val_nat];omega⟩
theorem dvd_of_natAbs{n:Int}{k q:Nat}(h:n.natAbs=q*2^k):(2:Int)^k ∣ n:=by
 have:((2^k:Nat):Int) ∣ n:=Int.ofNat_dvd_left.2 ⟨q,by rw [h,Nat.mul_comm]⟩
 simpa using this
theorem pow_dvd_le{k l:Nat}(h:k≤l):(2:Int)^k ∣ 2^l:=⟨2^(l - k),by rw [← Int.pow_add];congr 1;omega⟩
theorem Rep.two{n:Int}(h:Rep n):Rep (2*n):=by
 obtain⟨q,k,hq,e⟩:=rep_iff.1 h
 exact rep_iff.2 ⟨q,k+1,hq,by rw [Int.natAbs_mul,e,Nat.pow_succ];show 2*(q*2^k)=_;rw [Nat.mul_left_comm,Nat.mul_comm 2]⟩
theorem rep_add{x y:Int}(hx:Rep x)(hy:Rep y)(h1:(x+y).natAbs≤x.natAbs)(h2:(x+y).natAbs≤y.natAbs):Rep (x+y):=by
 obtain⟨p,a,hp,ex⟩:=rep_iff.1 hx;obtain⟨q,b,hq,ey⟩:=rep_iff.1 hy;have dx:=dvd_of_natAbs ex;have dy:=dvd_of_natAbs ey
 rcases Nat.le_total a b with h | h
 ·refine rep_of_dvd a (Int.dvd_add dx (Int.dvd_trans (pow_dvd_le h) dy)) ?_;rw [ex] at h1
  exact Nat.le_trans h1 (Nat.mul_le_mul_right _ (by omega))
 ·refine rep_of_dvd b (Int.dvd_add (Int.dvd_trans (pow_dvd_le h) dx) dy) ?_;rw [ey] at h2
  exact Nat.le_trans h2 (Nat.mul_le_mul_right _ (by omega))
theorem rep_sub{x y:Int}(hx:Rep x)(hy:Rep y)(h1:(x - y).natAbs≤x.natAbs)(h2:(x - y).natAbs≤y.natAbs):Rep (x - y):=by
 have:=rep_add hx hy.neg (by rwa [← Int.sub_eq_add_neg]) (by rw [Int.natAbs_neg,← Int.sub_eq_add_neg];exact h2)
 rwa [← Int.sub_eq_add_neg] at this
def R(n:Int):Int:=if n<0 then -(mag (nearRung n.natAbs 0):Int) else mag (nearRung n.natAbs 0)
theorem nearRung_zero(d:Nat):nearRung 0 d=0:=Nat.le_zero.1 (nearRung_le (Nat.zero_le _))
theorem R_neg(n:Int):R (-n)=-R n:=by
 unfold R;rw [Int.natAbs_neg]
 rcases Int.lt_trichotomy n 0 with h | h | h
 ·rw [if_neg (by omega),if_pos h];omega
 ·subst h;simp [nearRung_zero,mag_zero]
 ·rw [if_pos (by omega),if_neg (by omega)]
theorem R_rep(n:Int):Rep (R n):=by
 unfold R
 split
 ·exact⟨-(nearRung n.natAbs 0:Int),by rw [val_neg,val_nat]⟩
 ·exact⟨(nearRung n.natAbs 0:Int),by rw [val_nat]⟩
theorem le_R{r n:Int}(hr:Rep r)(h:r≤n):r≤R n:=by
 obtain⟨i,rfl⟩:=hr;unfold R
 rcases Int.lt_or_le n 0 with h0 | h0
 ·rw [if_pos h0];have hi:i<0:=val_neg_iff.1 (by omega)
  obtain⟨r,rfl⟩:∃ r:Nat,i=-(r:Int):=⟨i.natAbs,by omega⟩
  rw [val_neg,val_nat] at h ⊢;have:nearRung n.natAbs 0≤r:=nearRung_le (by simp;omega);have:=mag_le_iff.2 this
  omega
 ·rw [if_neg (by omega)]
  rcases Int.lt_or_le i 0 with hi | hi
  ·have:=val_neg_iff.2 hi;omega
  ·obtain⟨r,rfl⟩:∃ r:Nat,i=(r:Int):=⟨i.natAbs,by omega⟩
   rw [val_nat] at h ⊢;have:r≤nearRung n.natAbs 0:=le_nearRung (by simp;omega);have:=mag_le_iff.2 this
   omega
theorem R_le{r n:Int}(hr:Rep r)(h:n≤r):R n≤r:=by
 have:=@le_R (-r) (-n) hr.neg (by omega);rw [R_neg] at this;omega
theorem R_of_rep{n:Int}(h:Rep n):R n=n:=Int.le_antisymm (R_le h (Int.le_refl _)) (le_R h (Int.le_refl _))
theorem bump_cases(n:Nat):(nearRung n 0=floorRung n∧n - mag (floorRung n)≤mag (floorRung n+1) - n) ∨
  (nearRung n 0=floorRung n+1∧mag (floorRung n+1) - n≤n - mag (floorRung n)):=by
 have hk:=over_spec n
 have hc:mag (floorRung n+1)=(n / 2^over n+1)*2^over n:=by
  unfold floorRung;rw [Nat.add_assoc,mag_form _ _ (by omega) (by omega)]
 have hf:=mag_floorRung n;have hdm:=Nat.div_add_mod n (2^over n);rw [Nat.mul_comm,← hf] at hdm;rw [Nat.add_mul,← hf,Nat.one_mul] at hc
 have hb:nearRung n 0=floorRung n+(bump n (over n)).toNat:=by
  unfold nearRung;rw [Nat.pow_zero,Nat.div_one,Nat.zero_add]
 rw [hb,hc];unfold bump;clear hk hf hc hb;generalize mag (floorRung n)=f at *;generalize n % 2^over n=r at *;generalize 2^over n=p at *;generalize floorRung n=g
 by_cases h1:p<2*r
 ·right
  rw [decide_eq_true h1]
  exact⟨rfl,by omega⟩
 ·rw [decide_eq_false h1,Bool.false_or]
  cases h2:(p == 2*r && n / p % 2 == 1)
  ·left;exact⟨rfl,by omega⟩
  ·right
   simp at h2
   exact⟨rfl,by omega⟩
theorem R_nearest_nat(n i:Nat):((n:Int) - mag (nearRung n 0)).natAbs≤((n:Int) - mag i).natAbs:=by
 have f1:=mag_floorRung_le n;have f2:=lt_mag_floorRung_succ n
 have h3:mag i≤mag (floorRung n)∨mag (floorRung n+1)≤mag i:=by
  rw [mag_le_iff,mag_le_iff];omega
 rcases bump_cases n with ⟨e,h⟩ | ⟨e,h⟩<;>rw [e]<;>omega
theorem R_nearest{n r:Int}(hr:Rep r):(n - R n).natAbs≤(n - r).natAbs:=by
 obtain⟨i,rfl⟩:=hr;have h:=R_nearest_nat n.natAbs i.natAbs;rw [← val_natAbs i] at h;unfold R
 split<;>omega
theorem bump_shift(n k a:Nat):bump (n*2^k) (k+a)=bump n a:=by
 have hp:=Nat.two_pow_pos k
 have e1:n*2^k / 2^(k+a)=n / 2^a:=by rw [Nat.pow_add,Nat.mul_comm n,Nat.mul_div_mul_left _ _ hp]
 have e2:n*2^k % 2^(k+a)=2^k*(n % 2^a):=by rw [Nat.pow_add,Nat.mul_comm n,Nat.mul_mod_mul_left]
 unfold bump;rw [e1,e2,Nat.pow_add];generalize 2^a=x;generalize n % x=y;generalize 2^k=p at hp
 have c1:decide (p*x<2*(p*y))=decide (x<2*y):=by
  rw [show 2*(p*y)=p*(2*y) from by rw [Nat.mul_left_comm]]
  simp [Nat.mul_lt_mul_left hp]
 have c2:(p*x == 2*(p*y))=(x == 2*y):=by
  rw [show 2*(p*y)=p*(2*y) from by rw [Nat.mul_left_comm]];rw [Bool.eq_iff_iff];simp [Nat.mul_right_inj (by omega:p≠0)]
 rw [c1,c2]
theorem log2_mul_pow{n:Nat}(h0:n≠0)(k:Nat):(n*2^k).log2=n.log2+k:=by
 rw [Nat.log2_eq_iff (Nat.mul_ne_zero h0 (by have:=Nat.two_pow_pos k;omega))];have h1:=Nat.log2_self_le h0;have h2:n<2^(n.log2+1):=Nat.lt_log2_self
 constructor
 ·rw [Nat.pow_add];exact Nat.mul_le_mul_right _ h1
 ·rw [show n.log2+k+1=n.log2+1+k from by omega,Nat.pow_add 2 (n.log2+1)];exact Nat.mul_lt_mul_of_pos_right h2 (Nat.two_pow_pos k)
theorem mag_nearRung(n:Nat):mag (nearRung n 0)=(n / 2^over n+(bump n (over n)).toNat)*2^over n:=by
 have hk:=over_spec n;unfold nearRung floorRung;rw [Nat.pow_zero,Nat.div_one,Nat.zero_add,Nat.add_assoc,mag_form]
 ·omega
 ·cases bump n (over n)<;>simp<;>omega
theorem mag_nearRung_shift(n k:Nat):mag (nearRung (n*2^k) 0)=mag (nearRung n 0)*2^k:=by
 by_cases h:n<2^53
 ·obtain⟨r,hr⟩:=mag_of_le n k (by omega);obtain⟨s,hs⟩:=mag_of_le n 0 (by omega);rw [Nat.pow_zero,Nat.mul_one] at hs;have e1:=nearRung_mag r 0;have e2:=nearRung_mag s 0;rw [Nat.pow_zero,Nat.mul_one] at e1 e2;rw [← hr,e1,hr,← hs,e2]
 ·have h0:n≠0:=by omega
  have hl:53≤n.log2:=(Nat.le_log2 h0).2 (by omega)
  have ho:over (n*2^k)=k+over n:=by unfold over;rw [log2_mul_pow h0];omega
  rw [mag_nearRung,mag_nearRung,ho,bump_shift];have hp:=Nat.two_pow_pos k;rw [show n*2^k / 2^(k+over n)=n / 2^over n from by rw [Nat.pow_add,Nat.mul_comm n,Nat.mul_div_mul_left _ _ hp]];rw [Nat.add_comm k,Nat.pow_add,Nat.mul_assoc]
theorem R_shift(n:Int)(k:Nat):R (n*2^k)=R n*2^k:=by
 have hp:(0:Int)<2^k:=by exact_mod_cast Nat.two_pow_pos k
 have e:(n*2^k).natAbs=n.natAbs*2^k:=by rw [Int.natAbs_mul,Int.natAbs_pow];rfl
 unfold R;rw [e,mag_nearRung_shift]
 rcases Int.lt_or_le n 0 with h | h
 ·rw [if_pos h,if_pos (Int.mul_neg_of_neg_of_pos h hp),Int.natCast_mul,Int.neg_mul];simp
 ·rw [if_neg (Int.not_lt.2 h),if_neg (by have:=Int.mul_nonneg h (Int.le_of_lt hp);omega),Int.natCast_mul];simp
theorem R_two(n:Int):R (2*n)=2*R n:=by
 have:=R_shift n 1;rw [show (2:Int)^1=2 from rfl,Int.mul_comm,Int.mul_comm (R n)] at this
 exact this
theorem R_dvd{n:Int}{k:Nat}(h:(2:Int)^k ∣ n):(2:Int)^k ∣ R n:=by
 obtain⟨m,rfl⟩:=h;rw [Int.mul_comm,R_shift]
 exact Int.dvd_mul_left _ _
theorem R_nonneg{n:Int}(h:0≤n):0≤R n:=le_R Rep.zero h
theorem R_nonpos{n:Int}(h:n≤0):R n≤0:=R_le Rep.zero h
theorem rep_err{x y:Int}(hx:Rep x)(hy:Rep y):Rep (x+y - R (x+y)):=by
 obtain⟨p,a,hp,ex⟩:=rep_iff.1 hx;obtain⟨q,b,hq,ey⟩:=rep_iff.1 hy;have dx:=dvd_of_natAbs ex;have dy:=dvd_of_natAbs ey
 rcases Nat.le_total a b with h | h
 ·have hd:(2:Int)^a ∣ x+y:=Int.dvd_add dx (Int.dvd_trans (pow_dvd_le h) dy);refine rep_of_dvd a (Int.dvd_sub hd (R_dvd hd)) ?_;have:=R_nearest (n:=x+y) hy;rw [show x+y - y=x from by omega,ex] at this
  exact Nat.le_trans this (Nat.mul_le_mul_right _ (by omega))
 ·have hd:(2:Int)^b ∣ x+y:=Int.dvd_add (Int.dvd_trans (pow_dvd_le h) dx) dy;refine rep_of_dvd b (Int.dvd_sub hd (R_dvd hd)) ?_;have:=R_nearest (n:=x+y) hx;rw [show x+y - x=y from by omega,ey] at this
  exact Nat.le_trans this (Nat.mul_le_mul_right _ (by omega))
theorem two_sum_steps{x y s t:Int}(hx:Rep x)(hy:Rep y)(hs:s=R (x+y))(ht:t=R (s - x))(hv:Rep (s - t))(hb:Rep (y - t)):
  R (R (x - R (s - t))+R (y - t))=x+y - s:=by
 have es:=rep_err (R_rep (x+y)) hx.neg;rw [← hs,← Int.sub_eq_add_neg,← ht] at es
 have h1:R (x - R (s - t))=x - (s - t):=by
  rw [R_of_rep hv];refine R_of_rep ?_;have:=es.neg
  rwa [show -(s - x - t)=x - (s - t) from by omega] at this
 rw [h1,R_of_rep hb,show x - (s - t)+(y - t)=x+y - s from by omega];have:=rep_err hx hy;rw [← hs] at this
 exact R_of_rep this
theorem two_sum_exact{x y s:Int}(hx:Rep x)(hy:Rep y)(hs:s=R (x+y))(h:Rep (s - x)):
  R (R (x - R (s - R (s - x)))+R (y - R (s - x)))=x+y - s:=by
 refine two_sum_steps hx hy hs rfl ?_ ?_
 ·rw [R_of_rep h,show s - (s - x)=x from by omega];exact hx
 ·rw [R_of_rep h,show y - (s - x)=x+y - s from by omega];have:=rep_err hx hy;rw [← hs] at this;exact this
theorem two_sum_pos{x y s:Int}(hx:Rep x)(hy:Rep y)(hs:s=R (x+y))(hy0:0≤y):
  R (R (x - R (s - R (s - x)))+R (y - R (s - x)))=x+y - s:=by
 have sr:Rep s:=hs ▸ R_rep _
 by_cases hr:Rep (s - x)
 ·exact two_sum_exact hx hy hs hr
 rcases Int.lt_or_le x 0 with hx0 | hx0
 ·rcases Int.lt_or_le y (-x) with hc | hc
  ·-- y below the size of x: s - x would be a number
   exfalso;apply hr
   have a1:s≤0:=by rw [hs];exact R_nonpos (by omega)
   rcases Int.lt_or_le (-x) (2*y) with h2 | h2
   ·have e:s=x+y:=by
     rw [hs];refine R_of_rep (rep_add hx hy (by omega) (by omega))
    rw [e,show x+y - x=y from by omega];exact hy
   ·-- 2 s is at or below x
    have a2:2*s≤x:=by
     rw [hs,← R_two];exact R_le hx (by omega)
    have a3:x≤s:=by rw [hs];exact le_R hx (by omega)
    exact rep_sub sr hx (by omega) (by omega)
  ·have a1:0≤s:=by rw [hs];exact R_nonneg (by omega)
   have a0:s≤y:=by rw [hs];exact R_le hy (by omega)
   rcases Int.lt_or_le y (-2*x) with h2 | h2
   ·exfalso;apply hr
    have e:s=x+y:=by
     rw [hs];refine R_of_rep (rep_add hx hy (by omega) (by omega))
    rw [e,show x+y - x=y from by omega];exact hy
   ·have a2:y≤2*s:=by
     rw [hs,← R_two];exact le_R hy (by omega)
    have tr:Rep (R (s - x)):=R_rep _;have t1:s≤R (s - x):=le_R sr (by omega);have t2:R (s - x)≤2*s:=R_le sr.two (by omega)
    have b1:R (s - x)≤2*y:=by omega
    have b2:y≤2*R (s - x):=by omega
    exact two_sum_steps hx hy hs rfl (rep_sub sr tr (by omega) (by omega)) (rep_sub hy tr (by omega) (by omega))
 ·have a1:x≤s:=by rw [hs];exact le_R hx (by omega)
  have a2:y≤s:=by rw [hs];exact le_R hy (by omega)
  rcases Int.lt_or_le s (2*x) with h2 | h2
  ·exfalso;exact hr (rep_sub sr hx (by omega) (by omega))
  ·have tr:Rep (R (s - x)):=R_rep _;have t1:R (s - x)≤s:=R_le sr (by omega)
   have t2:s≤2*R (s - x):=by rw [← R_two];exact le_R sr (by omega)
   -- x is not above y here
   rcases Int.lt_or_le y x with h3 | h3
   ·exfalso
    have:s≤2*x:=by rw [hs];exact R_le hx.two (by omega)
    have e:s=2*x:=by omega
    apply hr;rw [e,show 2*x - x=x from by omega];exact hx
   ·have a3:s≤2*y:=by rw [hs];exact R_le hy.two (by omega)
    exact two_sum_steps hx hy hs rfl (rep_sub sr tr (by omega) (by omega)) (rep_sub hy tr (by omega) (by omega))
theorem two_sum{x y s:Int}(hx:Rep x)(hy:Rep y)(hs:s=R (x+y)):
  R (R (x - R (s - R (s - x)))+R (y - R (s - x)))=x+y - s:=by
 rcases Int.lt_or_le y 0 with h | h
 ·have h1:=two_sum_pos (s:=-s) hx.neg hy.neg (by rw [hs,← R_neg];congr 1;omega) (by omega);rw [show -s - -x=-(s - x) from by omega,R_neg,show -s - -R (s - x)=-(s - R (s - x)) from by omega,R_neg,show -x - -R (s - R (s - x))=-(x - R (s - R (s - x))) from by omega,R_neg,show -y - -R (s - x)=-(y - R (s - x)) from by omega,R_neg,← Int.neg_add,R_neg] at h1
  omega
 ·exact two_sum_pos hx hy hs h
def fI(a D:Int):Int:=a / D
def cI(a D:Int):Int:=-((-a) / D)
def tI(a D:Int):Int:=if a<0 then cI a D else fI a D
def eI(a D:Int):Int:=a / D+(if D<2*(a % D)∨(D=2*(a % D)∧(a / D) % 2=1) then 1 else 0)
def wI(a D:Int):Int:=a / D+(if D<2*(a % D)∨(D=2*(a % D)∧0≤a) then 1 else 0)
theorem neg_div{a D:Int}(hD:0<D):(-a) / D=-(a / D) - (if a % D=0 then 0 else 1)∧(-a) % D=if a % D=0 then 0 else D - a % D:=by
 have h1:=Int.emod_nonneg a (by omega:D≠0);have h2:=Int.emod_lt_of_pos a hD;have h3:=Int.mul_ediv_add_emod a D
 split<;>rename_i h0
 ·rw [h0] at h3
  have e:-a=D*(-(a / D)):=by rw [Int.mul_neg];omega
  refine⟨?_,?_⟩
  ·rw [e,Int.mul_ediv_cancel_left _ (by omega)];omega
  ·rw [e,Int.mul_emod_right]
 ·have e:-a=(D - a % D)+D*(-(a / D) - 1):=by
   have:D*(-(a / D) - 1)=-(D*(a / D)) - D:=by rw [Int.mul_sub,Int.mul_neg,Int.mul_one]
   rw [this];omega
  have e1:(D - a % D) / D=0:=Int.ediv_eq_zero_of_lt (by omega) (by omega);have e2:(D - a % D) % D=D - a % D:=Int.emod_eq_of_lt (by omega) (by omega);refine⟨?_,?_⟩
  ·rw [e,Int.add_mul_ediv_left _ _ (by omega),e1];omega
  ·rw [e,Int.add_mul_emod_self_left,e2]
theorem toNat_if{p:Prop}[Decidable p]:(decide p).toNat=if p then 1 else 0:=by by_cases h:p<;>simp [h]
theorem cut_way(way:Toward)(hw:way≠.even)(neg:Bool)(n k:Nat):way.cut neg n k=n / 2^k+if (way=.down∧neg=true∨way=.up∧neg=false)∧n % 2^k≠0 then 1 else 0:=by
 unfold Toward.cut
 simp only [Nat.shiftLeft_eq,Nat.one_mul]
 rcases Nat.lt_or_ge (n.log2+2) k with h | h
 ·rw [Nat.min_eq_right (by omega)];have h2:n<2^(n.log2+1):=Nat.lt_log2_self;have h3:2^(n.log2+2)≤2^k:=Nat.pow_le_pow_right (by omega) (by omega)
  have h4:2^(n.log2+2)=2*2^(n.log2+1):=by rw [Nat.pow_succ];omega
  rw [Nat.div_eq_of_lt (by omega),Nat.div_eq_of_lt (show n<2^k by omega),Nat.mod_eq_of_lt (by omega),Nat.mod_eq_of_lt (show n<2^k by omega)]
  cases way
  ·exact absurd rfl hw
  all_goals
   cases neg<;>by_cases h0:n=0<;>simp [h0]
 ·rw [Nat.min_eq_left h]
  cases way
  ·exact absurd rfl hw
  all_goals
   cases neg<;>by_cases h0:n % 2^k=0<;>simp [h0]
def gI:Toward→Int→Int→Int
 | .down=>fI | .up=>cI | .zero=>tI | .even=>eI
theorem cut_gI(way:Toward)(s:Bool)(n k:Nat):(if s then -(way.cut s n k:Int) else (way.cut s n k:Int))=gI way (if s then -(n:Int) else n) ((2^k:Nat):Int):=by
 have hp:=Nat.two_pow_pos k;generalize hD:(2^k:Nat)=D at *
 have hq:((n:Int) / D)=((n / D:Nat):Int):=by simp
 have hr:((n:Int) % D)=((n % D:Nat):Int):=by simp
 have hlt:=Nat.mod_lt n hp;obtain⟨e1,e2⟩:=neg_div (a:=(n:Int)) (D:=(D:Int)) (by omega);rw [hq,hr] at e1;rw [hr] at e2
 have hn:(n % D=0→n / D=0→n=0):=fun a b=>by have:=Nat.div_add_mod n D;rw [a,b] at this;omega
 by_cases hw:way=.even
 ·subst hw;rw [cut_even]
  have eb:(bump n k).toNat=if D<2*(n % D)∨D=2*(n % D)∧n / D % 2=1 then 1 else 0:=by
   rw [← toNat_if];unfold bump;rw [hD]
   congr 1
   rw [Bool.eq_iff_iff]
   simp
  rw [eb,hD];unfold gI eI
  cases s
  ·simp only [Bool.false_eq_true,if_false]
   rw [hq,hr];generalize n / D=q at *;generalize n % D=r at *;clear hq hr e1 e2 eb hn
   by_cases c:D<2*r∨D=2*r∧q % 2=1
   ·rw [if_pos c,if_pos (by omega)];omega
   ·rw [if_neg c,if_neg (by omega)];omega
  ·simp only [if_true]
   rw [e1,e2];generalize n / D=q at *;generalize n % D=r at *;clear hq hr e1 e2 eb hn
   by_cases c0:r=0
   ·subst c0;have z:((0:Nat):Int)=0:=rfl;rw [if_neg (show ¬ (D<2*0∨D=2*0∧q % 2=1) by omega)]
    simp only [z,if_true]
    rw [if_neg (by omega)];omega
   ·rw [if_neg (show ¬ (r:Int)=0 by omega),if_neg (show ¬ (r:Int)=0 by omega)]
    by_cases c:D<2*r∨D=2*r∧q % 2=1
    ·rw [if_pos c,if_neg (show ¬ ((D:Int)<2*((D:Int) - (r:Int))∨(D:Int)=2*((D:Int) - (r:Int))∧(-(q:Int) - 1) % 2=1) by omega)];omega
    ·rw [if_neg c,if_pos (show ((D:Int)<2*((D:Int) - (r:Int))∨(D:Int)=2*((D:Int) - (r:Int))∧(-(q:Int) - 1) % 2=1) by omega)];omega
 ·rw [cut_way way hw,hD]
  have hz:(n:Int)<0↔False:=⟨fun h=>absurd h (by omega),False.elim⟩
  have hz':-(n:Int)<0↔n≠0:=⟨fun h=>by omega,fun h=>by omega⟩
  have h0:n=0→n / D=0∧n % D=0:=by rintro rfl;simp
  have hne:(-(n:Int)) / D=-((n / D:Nat):Int) - if ((n % D:Nat):Int)=0 then 0 else 1:=e1
  cases way
  ·exact absurd rfl hw
  all_goals
   cases s
   all_goals
    simp only [gI,fI,cI,tI,Bool.false_eq_true,if_false,if_true,Int.neg_neg,hne,hq,hz,hz']
    generalize n / D=q at *;generalize n % D=r at *;clear hq hr e1 e2 hne
    by_cases c0:r=0
    ·first
     | (by_cases c1:n=0<;>simp [c0,c1]<;>omega)
     | (simp [c0]<;>omega)
    ·first
     | (by_cases c1:n=0<;>simp [c0,c1]<;>omega)
     | (simp [c0]<;>omega)
def rK:Nat→Rat→Int
 | 0,x=>if x<0 then -1 else if x=0 then 0 else 1
 | 1,x=>x.floor
 | 2,x=>x.ceil
 | 3,x=>if x<0 then x.ceil else x.floor
 | 4,x=>x.floor+if (1/2:Rat)<x - x.floor∨x - x.floor=1/2∧x.floor % 2=1 then 1 else 0
 | _,x=>x.floor+if (1/2:Rat)<x - x.floor∨x - x.floor=1/2∧0≤x then 1 else 0
section
variable {x:Rat} {a D:Int}
theorem rmul_le{a b c:Rat}(hc:0<c):a*c≤b*c↔a≤b:=by
 rw [← Rat.not_lt,← Rat.not_lt,Rat.mul_lt_mul_right hc]
theorem fdiv_floor(hD:0<D)(h:x*D=a):a / D=x.floor:=by
 have hD':(0:Rat)<(D:Rat):=by rw [← Rat.intCast_zero,Rat.intCast_lt_intCast];exact hD
 apply Int.le_antisymm
 ·rw [Rat.le_floor_iff,← rmul_le hD',h,← Rat.intCast_mul,Rat.intCast_le_intCast]
  exact Int.ediv_mul_le _ (by omega)
 ·rw [Int.le_ediv_iff_mul_le hD,← Rat.intCast_le_intCast,Rat.intCast_mul,← h,rmul_le hD']
  exact Rat.floor_le x
theorem cdiv_ceil(hD:0<D)(h:x*D=a):-((-a) / D)=x.ceil:=by
 rw [fdiv_floor (x:=-x) hD (by rw [Rat.intCast_neg,← h];grind),Rat.ceil_eq_neg_floor_neg]
theorem a_lt_zero(hD:0<D)(h:x*D=a):a<0↔x<0:=by
 have hD':(0:Rat)<(D:Rat):=by rw [← Rat.intCast_zero,Rat.intCast_lt_intCast];exact hD
 have k:=Rat.mul_lt_mul_right (a:=x) (b:=0) hD';rw [Rat.zero_mul] at k;rw [← Rat.intCast_lt_intCast,← h,Rat.intCast_zero,k]
theorem rest_half(hD:0<D)(h:x*D=a):(D<2*(a % D)↔(1/2:Rat)<x - x.floor)∧(D=2*(a % D)↔x - x.floor=1/2):=by
 have hD':(0:Rat)<(D:Rat):=by rw [← Rat.intCast_zero,Rat.intCast_lt_intCast];exact hD
 have e:((a % D:Int):Rat)=(x - x.floor)*D:=by
  rw [Int.emod_def,fdiv_floor hD h,Rat.intCast_sub,Rat.intCast_mul,← h];grind
 have e2:((2*(a % D):Int):Rat)=2*(x - x.floor)*D:=by rw [Rat.intCast_mul,e];grind
 have l:∀ y:Rat,((D:Rat)<2*y*D↔(1/2:Rat)<y)∧((D:Rat)=2*y*D↔y=1/2):=by
  intro y;refine⟨⟨fun k=>?_,fun k=>?_⟩,fun k=>?_,fun k=>?_⟩
  ·have k':1*(D:Rat)<2*y*D:=by grind
   rw [Rat.mul_lt_mul_right hD'] at k'
   grind
  ·have k':1*(D:Rat)<2*y*D:=by rw [Rat.mul_lt_mul_right hD'];grind
   grind
  ·have k':(2*y - 1)*(D:Rat)=0:=by grind
   rcases Rat.mul_eq_zero.1 k' with k'' | k''<;>grind
  ·subst k;grind
 constructor
 ·rw [← Rat.intCast_lt_intCast,e2,(l _).1]
 ·rw [← Rat.intCast_inj,e2,(l _).2]
theorem eI_rK(hD:0<D)(h:x*D=a):eI a D=rK 4 x:=by
 unfold eI rK
 simp only [(rest_half hD h).1,(rest_half hD h).2,fdiv_floor hD h]
theorem wI_rK(hD:0<D)(h:x*D=a):wI a D=rK 5 x:=by
 have hz:0≤a↔0≤x:=by
  have:=a_lt_zero hD h
  constructor
  ·intro k;by_cases c:0≤x
   ·exact c
   ·exact absurd (this.2 (by grind)) (by omega)
  ·intro k;by_cases c:0≤a
   ·exact c
   ·have:=this.1 (by omega);grind
 unfold wI rK
 simp only [(rest_half hD h).1,(rest_half hD h).2,fdiv_floor hD h,hz]
def kW:Toward→Nat
 | .down=>1 | .up=>2 | .zero=>3 | .even=>4
theorem gI_rK(way:Toward)(hD:0<D)(h:x*D=a):gI way a D=rK (kW way) x:=by
 cases way
 ·exact eI_rK hD h
 ·exact fdiv_floor hD h
 ·exact cdiv_ceil hD h
 ·unfold gI tI kW rK cI fI
  simp only [a_lt_zero hD h,cdiv_ceil hD h,fdiv_floor hD h]
end
theorem fl_mul{U:Nat}(hU:U=1074)(i:Int):fl i*(((2^U:Nat):Int):Rat)=(val i:Rat):=by
 unfold fl;have e:(((2^U:Nat):Int):Rat)=((2^U:Nat):Rat):=rfl;rw [e,← zpow_nat,show (-1074:Int)=-(U:Int) from by omega,Rat.mul_assoc,← zpow_add,show -(U:Int)+(U:Int)=0 from by omega,Rat.zpow_zero,Rat.mul_one]
theorem rK_near{w:Nat}(hw:1≤w)(x:Rat):x.floor≤rK w x∧rK w x≤x.floor+1:=by
 have hc:x.floor≤x.ceil∧x.ceil≤x.floor+1:=by
  rw [Rat.ceil_eq_neg_floor_neg];have h1:=Rat.floor_le x;have h2:=Rat.lt_floor_add_one x
  have h3:x.floor≤-(-x).floor:=by
   have:(-x).floor≤-x.floor:=by
    have k:=Rat.floor_le (-x);rw [← Rat.intCast_le_intCast,Rat.intCast_neg]
    grind
   omega
  have h4:-(x.floor+1)≤(-x).floor:=by
   rw [Rat.le_floor_iff,Rat.intCast_neg]
   grind
  omega
 match w,hw with
 | 1,_=>exact⟨Int.le_refl _,by show x.floor≤_;omega⟩
 | 2,_=>exact hc
 | 3,_=>unfold rK;split<;>omega
 | 4,_=>unfold rK;split<;>omega
 | w+5,_=>unfold rK;split<;>omega
theorem rK_int{w:Nat}(hw:1≤w)(z:Int):rK w (z:Rat)=z:=by
 have e:(z:Rat) - ((z:Rat).floor:Rat)=0:=by rw [Rat.floor_intCast];grind
 match w,hw with
 | 1,_=>exact Rat.floor_intCast z
 | 2,_=>show Rat.ceil _=z;rw [Rat.ceil_eq_neg_floor_neg,← Rat.intCast_neg,Rat.floor_intCast];exact Int.neg_neg z
 | 3,_=>show (if _ then Rat.ceil _ else Rat.floor _)=z;rw [Rat.ceil_eq_neg_floor_neg,← Rat.intCast_neg,Rat.floor_intCast,Rat.floor_intCast,show -(-z)=z from Int.neg_neg z];split<;>rfl
 | 4,_=>show Rat.floor _+(if _∨_ then 1 else 0)=z;rw [e,Rat.floor_intCast,if_neg (by intro h;rcases h with h | h<;>grind)];omega
 | w+5,_=>show Rat.floor _+(if _∨_ then 1 else 0)=z;rw [e,Rat.floor_intCast,if_neg (by intro h;rcases h with h | h<;>grind)];omega
theorem whole_fl{w:Nat}(hw:1≤w){i:Int}(h0:-(M:Int)<i)(h1:i<M):∃ j:Int,fl j=(rK w (fl i):Rat)∧-(M:Int)<j∧j<M:=by
 obtain⟨U,hU⟩:∃ U:Nat,U=1074:=⟨_,rfl⟩
 have hp:=Nat.two_pow_pos U
 have hD:(0:Int)<((2^U:Nat):Int):=by omega
 have hf:=fl_mul hU i
 by_cases hd:((2^U:Nat):Int) ∣ val i
 ·obtain⟨z,hz⟩:=hd
  have e:fl i=(z:Rat):=by
   have hD':(((2^U:Nat):Int):Rat)≠0:=by
    intro h;have:((2^U:Nat):Int)=0:=Rat.intCast_inj.1 (by rw [h];rfl)
    omega
   rw [hz,Rat.intCast_mul] at hf
   have k:(fl i - z)*(((2^U:Nat):Int):Rat)=0:=by grind
   rcases Rat.mul_eq_zero.1 k with k | k
   ·grind
   ·exact absurd k hD'
  refine⟨i,?_,h0,h1⟩;rw [e,rK_int hw]
 ·obtain⟨q,k,hq,hk⟩:=rep_iff.1 (Rep.val i)
  have hkU:k<U:=by
   rcases Nat.lt_or_ge k U with h | h
   ·exact h
   ·exfalso
    apply hd
    have:=Int.dvd_trans (pow_dvd_le h) (dvd_of_natAbs hk)
    rwa [Int.natCast_pow]
  have hlt:(val i).natAbs<2^53*2^U:=by
   rw [hk]
   exact Nat.lt_of_lt_of_le ((Nat.mul_lt_mul_right (Nat.two_pow_pos k)).2 hq) (Nat.mul_le_mul_left _ (Nat.pow_le_pow_right (by omega) (by omega)))
  obtain⟨n1,n2⟩:=rK_near hw (fl i);have f1:=fdiv_floor hD hf
  have hb:-(9007199254740992:Int)≤(fl i).floor∧(fl i).floor<9007199254740992:=by
   rw [← f1];generalize (2^U:Nat)=D at *
   constructor
   ·rw [Int.le_ediv_iff_mul_le hD]
    have:(9007199254740992:Int)*(D:Int)=((2^53*D:Nat):Int):=by rw [Int.natCast_mul];rfl
    have e3:-(9007199254740992:Int)*(D:Int)=-((2^53*D:Nat):Int):=by rw [← this,Int.neg_mul]
    omega
   ·rw [Int.ediv_lt_iff_lt_mul hD]
    have:(9007199254740992:Int)*(D:Int)=((2^53*D:Nat):Int):=by rw [Int.natCast_mul];rfl
    omega
  have hK:(rK w (fl i)).natAbs≤2^53:=by omega
  generalize rK w (fl i)=K at *
  have hrep:Rep (K*((2^U:Nat):Int)):=by
   refine rep_of_dvd U ⟨K,?_⟩ ?_
   ·rw [Int.mul_comm,Int.natCast_pow];rfl
   ·rw [Int.natAbs_mul]
    exact Nat.mul_le_mul_right _ hK
  obtain⟨j,hj⟩:=hrep;refine⟨j,?_,?_⟩
  ·have k:=fl_mul hU j;rw [hj,Rat.intCast_mul] at k
   have hD':(((2^U:Nat):Int):Rat)≠0:=by
    intro h;have:((2^U:Nat):Int)=0:=Rat.intCast_inj.1 (by rw [h];rfl)
    omega
   have k':(fl j - K)*(((2^U:Nat):Int):Rat)=0:=by grind
   rcases Rat.mul_eq_zero.1 k' with k' | k'
   ·grind
   ·exact absurd k' hD'
  ·have a1:mag j.natAbs≤mag (U*2^52+2^53):=by
    rw [← val_natAbs,hj,mag_form U (2^53) (.inr (by omega)) (by omega),Int.natAbs_mul]
    exact Nat.mul_le_mul_right _ hK
   have a2:=mag_le_iff.1 a1;have a3:=M_val
   omega
end Go.Proofs.YtfcpabgampebaaaGreat
