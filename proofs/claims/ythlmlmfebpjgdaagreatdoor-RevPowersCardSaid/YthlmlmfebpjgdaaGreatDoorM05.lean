/-
Lemmas for the statement: RndB IntT PatT MadeT IvT Read6 NegTrue RCmpT.
-/
import Derived.Test.YthlmlmfebpjgdaaGreatDoorM04
import Derived.Test.YthlmlmfebpjgdaaGreatDoorM03
import Derived.Test.YthlmlmfebpjgdaaGreatDoorM02
set_option linter.unusedSimpArgs false
set_option linter.unusedVariables false
set_option maxHeartbeats 12800000
namespace Go.Proofs.YthlmlmfebpjgdaaGreatDoor
section
open Go.RowKit
def cutT(n m:Nat)(e:Int):Nat:=(e+1074).toNat*2^52+upN n e / upM m e
def capT(n m:Nat)(e:Int):Nat:=(e+1074).toNat*2^52+(upN n e / upM m e+if upN n e % upM m e=0 then 0 else 1)
theorem lastBit_bounds{f:Int}(hf:f≤1023):-1074≤lastBit f∧lastBit f≤971:=by unfold lastBit;split<;>omega
theorem mag_cut{n m:Nat}{f:Int}(hm:0<m)(h:Sc n m f)(c:Nat)(hc:c≤1):
  mag ((lastBit f+1074).toNat*2^52+(upN n (lastBit f) / upM m (lastBit f)+c))=(upN n (lastBit f) / upM m (lastBit f)+c)*2^(lastBit f+1074).toNat:=by
 have h1:=w_lt hm h;refine mag_form _ _ ?_ (by omega)
 by_cases hb:-1074<lastBit f
 ·have:=w_ge hm h hb;right;omega
 ·left;omega
theorem cut_lt{n m:Nat}{f:Int}(hm:0<m)(h:Sc n m f)(hf:f≤1023):cutT n m (lastBit f)<M:=by
 have h1:=w_lt hm h;have h2:=lastBit_bounds hf;unfold cutT;rw [M_val];omega
theorem cap_le{n m:Nat}{f:Int}(hm:0<m)(h:Sc n m f)(hf:f≤1023):capT n m (lastBit f)≤M:=by
 have h1:=w_lt hm h;have h2:=lastBit_bounds hf
 unfold capT;rw [M_val];split<;>omega
theorem cut_law{n m U:Nat}{f:Int}(hU:U=1074)(hm:0<m)(h:Sc n m f)(hf:f≤1023)(r:Nat):r≤cutT n m (lastBit f)↔mag r*m≤n*2^U:=by
 have hb:=lastBit_bounds hf;obtain⟨u1,u2,-,-⟩:=units (n:=n) (U:=U) hm (show -(U:Int)≤lastBit f by omega);have m0:=mag_cut hm h 0 (by omega);have m1:=mag_cut hm h 1 (by omega);rw [Nat.add_zero] at m0;rw [show (lastBit f+(U:Int)).toNat=(lastBit f+1074).toNat from by omega] at u1 u2;rw [← m0] at u1;rw [← m1] at u2
 have e:(lastBit f+1074).toNat*2^52+(upN n (lastBit f) / upM m (lastBit f)+1)=cutT n m (lastBit f)+1:=by unfold cutT;omega
 rw [e] at u2
 constructor
 ·intro hr;have h1:mag r≤mag (cutT n m (lastBit f)):=mag_le_iff.2 hr
  exact Nat.le_trans (Nat.mul_le_mul_right m h1) u1
 ·intro hr
  by_cases hc:r≤cutT n m (lastBit f)
  ·exact hc
  ·have h1:mag (cutT n m (lastBit f)+1)≤mag r:=mag_le_iff.2 (by omega);have h2:=Nat.mul_le_mul_right m h1
   exact absurd (Nat.lt_of_lt_of_le u2 h2) (by omega)
theorem cap_law{n m U:Nat}{f:Int}(hU:U=1074)(hm:0<m)(h:Sc n m f)(hf:f≤1023)(r:Nat):capT n m (lastBit f)≤r↔n*2^U≤mag r*m:=by
 have hb:=lastBit_bounds hf;obtain⟨u1,u2,u3,u4⟩:=units (n:=n) (U:=U) hm (show -(U:Int)≤lastBit f by omega);have m0:=mag_cut hm h 0 (by omega);have m1:=mag_cut hm h 1 (by omega);rw [Nat.add_zero] at m0;rw [show (lastBit f+(U:Int)).toNat=(lastBit f+1074).toNat from by omega] at u1 u2 u3 u4;rw [← m0] at u1 u3 u4;rw [← m1] at u2
 have e:(lastBit f+1074).toNat*2^52+(upN n (lastBit f) / upM m (lastBit f)+1)=cutT n m (lastBit f)+1:=by unfold cutT;omega
 have e0:(lastBit f+1074).toNat*2^52+(upN n (lastBit f) / upM m (lastBit f))=cutT n m (lastBit f):=rfl;rw [e] at u2;rw [e0] at u1 u3 u4
 by_cases hz:upN n (lastBit f) % upM m (lastBit f)=0
 ·have hc:capT n m (lastBit f)=cutT n m (lastBit f):=by unfold capT cutT;rw [if_pos hz,Nat.add_zero]
  rw [hc,u3 hz]
  constructor
  ·intro hr;exact Nat.mul_le_mul_right m (mag_le_iff.2 hr)
  ·intro hr
   exact mag_le_iff.1 (Nat.le_of_mul_le_mul_right hr hm)
 ·have hc:capT n m (lastBit f)=cutT n m (lastBit f)+1:=by unfold capT cutT;rw [if_neg hz];omega
  rw [hc];have u4:=u4 hz
  constructor
  ·intro hr
   exact Nat.le_trans (Nat.le_of_lt u2) (Nat.mul_le_mul_right m (mag_le_iff.2 hr))
  ·intro hr;have h2:=Nat.lt_of_mul_lt_mul_right (Nat.lt_of_lt_of_le u4 hr);have:=mag_lt_iff.1 h2
   omega
theorem over_law{n m U:Nat}{f:Int}(hU:U=1074)(hm:0<m)(h:Sc n m f)(hf:1023<f)(r:Nat)(hr:r<M):mag r*m<n*2^U:=by
 have h1:=(h.1 (by omega)).1;have h2:mag r<mag M:=mag_lt_iff.2 hr
 have h3:mag M=2^52*2^2046:=by
  have:=mag_form 2046 (2^52) (.inr (Nat.le_refl _)) (by decide);rw [← this];rfl
 rw [h3] at h2
 obtain⟨k,rfl⟩:∃ k:Nat,f=((1024+k:Nat):Int):=⟨(f - 1024).toNat,by omega⟩
 rw [Int.toNat_natCast] at h1
 obtain⟨V,hV⟩:∃ V,V=2046:=⟨_,rfl⟩
 rw [← hV] at h2
 calc mag r*m<2^52*2^V*m:=Nat.mul_lt_mul_of_pos_right h2 hm
  _=m*2^(52+V):=by rw [Nat.pow_add];ac_rfl
  _≤m*2^(1024+k+U):=Nat.mul_le_mul_left _ (Nat.pow_le_pow_right (by omega) (by omega))
  _=m*2^(1024+k)*2^U:=by rw [Nat.pow_add 2 (1024+k) U,Nat.mul_assoc]
  _≤n*2^U:=Nat.mul_le_mul_right _ h1
theorem rv_le_false{p q p' q':Nat}(hq:0<q)(hq':0<q'):rv false p q≤rv false p' q'↔p*q'≤p'*q:=by
 have:=rv_lt_false (p:=p') (p':=p) hq' hq
 constructor
 ·intro h
  by_cases hc:p*q'≤p'*q
  ·exact hc
  ·exact absurd (this.2 (by omega)) (by grind)
 ·intro h
  by_cases hc:rv false p q≤rv false p' q'
  ·exact hc
  ·have:=this.1 (by grind);omega
theorem fl_nat(r:Nat){U:Nat}(hU:U=1074):fl (r:Int)=rv false (mag r) (2^U):=by
 unfold rv fl;rw [if_neg (by decide),val_nat];refine eq_div (cast_ne (Nat.two_pow_pos U)) ?_;rw [← zpow_nat,show (-1074:Int)=-(U:Int) from by omega,Rat.mul_assoc,← zpow_add,show -(U:Int)+(U:Int)=0 from by omega,Rat.zpow_zero,Rat.mul_one]
 rfl
theorem fl_neg(i:Int):fl (-i)=- fl i:=by
 unfold fl;rw [val_neg,Rat.intCast_neg];grind
theorem fl_lt_iff{i j:Int}:fl i<fl j↔i<j:=by
 unfold fl;rw [Rat.mul_lt_mul_right (zpow_pos _),Rat.intCast_lt_intCast,val_lt_iff]
theorem fl_le_iff{i j:Int}:fl i≤fl j↔i≤j:=by
 have:=@fl_lt_iff j i
 constructor
 ·intro h
  by_cases hc:i≤j
  ·exact hc
  ·exact absurd (this.2 (by omega)) (by grind)
 ·intro h
  by_cases hc:fl i≤fl j
  ·exact hc
  ·have:=this.1 (by grind);omega
theorem fl_zero:fl 0=0:=by unfold fl;rw [val_zero];grind
def Rnd(d:Int)(x:Rat)(i:Int):Prop:=
 (d=-1∧-(M:Int)≤i∧i<M∧∀ j:Int,-(M:Int)<j→j<M→(j≤i↔fl j≤x)) ∨
 (d=1∧-(M:Int)<i∧i≤M∧∀ j:Int,-(M:Int)<j→j<M→(i≤j↔x≤fl j))
theorem Rnd.neg{d:Int}{x:Rat}{i:Int}(h:Rnd d x i):Rnd (-d) (-x) (-i):=by
 rcases h with ⟨rfl,h1,h2,h3⟩ | ⟨rfl,h1,h2,h3⟩
 ·refine .inr ⟨rfl,by omega,by omega,fun j hj hj'=>?_⟩;have:=h3 (-j) (by omega) (by omega);rw [fl_neg] at this
  constructor
  ·intro h;have:=this.1 (by omega);grind
  ·intro h;have:=this.2 (by grind);omega
 ·refine .inl ⟨rfl,by omega,by omega,fun j hj hj'=>?_⟩;have:=h3 (-j) (by omega) (by omega);rw [fl_neg] at this
  constructor
  ·intro h;have:=this.1 (by omega);grind
  ·intro h;have:=this.2 (by grind);omega
theorem Rnd.exact{d a i:Int}(h:Rnd d (fl a) i)(h0:-(M:Int)<a)(h1:a<M):i=a:=by
 rcases h with ⟨rfl,a1,a2,a3⟩ | ⟨rfl,a1,a2,a3⟩
 ·have h2:=(a3 a h0 h1).2 Rat.le_refl
  by_cases hc:i=a
  ·exact hc
  ·have:=(a3 i (by omega) a2).1 (by omega);rw [fl_le_iff] at this;omega
 ·have h2:=(a3 a h0 h1).2 Rat.le_refl
  by_cases hc:i=a
  ·exact hc
  ·have:=(a3 i a1 (by omega)).1 (by omega);rw [fl_le_iff] at this;omega
theorem rnd_zero{d:Int}(hd:d=-1∨d=1):Rnd d 0 0:=by
 rw [← fl_zero]
 rcases hd with rfl | rfl
 ·exact .inl ⟨rfl,by rw [M_val];omega,by rw [M_val];omega,fun j _ _=>fl_le_iff.symm⟩
 ·exact .inr ⟨rfl,by rw [M_val];omega,by rw [M_val];omega,fun j _ _=>fl_le_iff.symm⟩
theorem rnd_down{n m t U:Nat}(hU:U=1074)(hn:0<n)(hm:0<m)(ht:t<M)(h:∀ r:Nat,r<M→(r≤t↔mag r*m≤n*2^U)):Rnd (-1) (rv false n m) t:=by
 refine .inl ⟨rfl,by omega,by omega,fun j hj hj'=>?_⟩
 rcases Int.lt_or_le j 0 with h0 | h0
 ·have h1:fl j<fl 0:=fl_lt_iff.2 h0;rw [fl_zero] at h1;have h2:=rv_pos hn hm
  constructor
  ·intro _;grind
  ·intro _;omega
 ·obtain⟨r,rfl⟩:∃ r:Nat,j=r:=⟨j.toNat,by omega⟩
  rw [fl_nat r hU,rv_le_false (Nat.two_pow_pos U) hm,← h r (by omega)]
  omega
theorem rnd_up{n m t U:Nat}(hU:U=1074)(hn:0<n)(hm:0<m)(ht:t≤M)(h:∀ r:Nat,r<M→(t≤r↔n*2^U≤mag r*m)):Rnd 1 (rv false n m) t:=by
 have hp:0<n*2^U:=Nat.mul_pos hn (Nat.two_pow_pos U)
 have h0:0<t:=by
  have h1:=h 0 (by rw [M_val];omega);rw [mag_zero,Nat.zero_mul] at h1
  omega
 refine .inr ⟨rfl,by omega,by omega,fun j hj hj'=>?_⟩
 rcases Int.lt_or_le j 0 with h0 | h0
 ·have h1:fl j<fl 0:=fl_lt_iff.2 h0;rw [fl_zero] at h1;have h2:=rv_pos hn hm
  constructor
  ·intro _;omega
  ·intro _;grind
 ·obtain⟨r,rfl⟩:∃ r:Nat,j=r:=⟨j.toNat,by omega⟩
  rw [fl_nat r hU,rv_le_false hm (Nat.two_pow_pos U),← h r (by omega)]
  omega
def sg(neg:Bool)(t:Nat):Int:=if neg then -(t:Int) else (t:Int)
def ansT(p q:Nat)(f:Int)(away:Bool):Nat:=if 1023<f then (if away then M else M - 1) else (if away then capT p q (lastBit f) else cutT p q (lastBit f))
theorem rnd_ans{p q:Nat}{f d:Int}{neg:Bool}(hp:0<p)(hq:0<q)(h:Sc p q f)(hd:d=-1∨d=1):Rnd d (rv neg p q) (sg neg (ansT p q f (decide (d=1) != neg))):=by
 obtain⟨U,hU⟩:∃ U,U=1074:=⟨_,rfl⟩
 have up:Rnd 1 (rv false p q) (ansT p q f true):=by
  unfold ansT
  by_cases hf:1023<f
  ·rw [if_pos hf,if_pos rfl];refine rnd_up hU hp hq (Nat.le_refl _) fun r hr=>?_;have:=over_law hU hq h hf r hr
   omega
  ·rw [if_neg hf,if_pos rfl]
   exact rnd_up hU hp hq (cap_le hq h (by omega)) fun r _=>cap_law hU hq h (by omega) r
 have down:Rnd (-1) (rv false p q) (ansT p q f false):=by
  unfold ansT
  by_cases hf:1023<f
  ·rw [if_pos hf,if_neg (by decide)];refine rnd_down hU hp hq (by rw [M_val];omega) fun r hr=>?_;have:=over_law hU hq h hf r hr
   omega
  ·rw [if_neg hf,if_neg (by decide)]
   exact rnd_down hU hp hq (cut_lt hq h (by omega)) fun r _=>cut_law hU hq h (by omega) r
 rcases hd with rfl | rfl<;>cases neg
 ·exact down
 ·have:=up.neg;rw [← rv_true] at this
  exact this
 ·exact up
 ·have:=down.neg;rw [← rv_true] at this
  exact this
end
section
open Go.RowKit
theorem rv_nat(v:Nat):rv false v 1=(v:Rat):=by
 unfold rv
 exact div_eq (by decide) (by show (v:Rat)=v*1;rw [Rat.mul_one])
theorem int_K(K v:Nat)(w:World)(hK:K=1)(hv:v<4294967296):
  Calls Tryz.prog 51 #[.int .i64 (v:Int)] w (NewRat w K (rv false v 1)):=by
 have hvk:v<2^(32*K):=by subst hK;exact hv
 have h1k:1<2^(32*K):=by subst hK;decide
 have ba:=below_alloc w (.cells #[.bool false,.slice none 0 0,.slice none 0 0] 42);have BA:=Hd ba;have BLK:=Hd (Blk.new w 42 #[.bool false,.slice none 0 0,.slice none 0 0]);have HS:=Hd (small_any v (w.alloc (.cells #[.bool false,.slice none 0 0,.slice none 0 0] 42)) (by omega));have HV:=Hd hvk;have H1:=Hd h1k;have HK34:=Hd hK
 have hv0:(0:Int)≤(v:Int):=by omega
 clear ba hvk h1k hK
 go_enter Tryz.func51,Tryz.ntmps51
 go_wp2_with fail;refine HS.out.mono ?_;rintro e1 w1 ⟨A,n,c,rfl,hu1,hb1⟩;have hW:Below w.heap.size w (w1.alloc (.cells #[wd 1] 117)):=(BA.out.trans (hb1.mono BA.out.size)).alloc (by have:=BA.out.size;have:=hb1.size;omega) _;have hKK:=(BLK.out.keep hb1).alloc (.cells #[wd 1] 117);have HF:=Hd (frac_plain false A (some ⟨w1.heap.size,0,none⟩) n c 1 1 K v 1 (w1.alloc (.cells #[wd 1] 117)) (hu1.alloc _) (by rw [digs_one];exact U32s.lit1 w1 117 (a:=1) (by omega)) (by omega) HV.out H1.out (by have:=HK34.out;omega) (by have:=HK34.out;omega));have HW:=Hd hW;have HK:=Hd hKK;clear hu1 hb1 hW hKK HS;go_wp2_with fail;refine HF.out.mono ?_;rintro e2 w2 ⟨neg2,vn,vd,rfl,hr,hb2⟩;obtain⟨A5,n5,c5,A6,n6,c6,rfl,rfl⟩:=hr.shape;have hblk:=HK.out.keep hb2;have k0:=hblk.cell 0;have k1:=hblk.cell 1;have k2:=hblk.cell 2;have f0:=hblk.frozen 0;have f1:=hblk.frozen 1;have f2:=hblk.frozen 2;have hlt:=hblk.lt;have FF:=Hd (NewRat.lay hr HW.out hb2 HK.out NoWd.zero (Nat.le_refl _));clear hblk hb2 hr HF
 simp at k0 k1 k2
 go_wp2;refine bodyPost_ret (v:=.agg #[.bool neg2,.slice A5 n5 c5,.slice A6 n6 c6]) (by simp [results,Tryz.results51,go_sem,k0,k1,k2]) rfl ?_
 exact FF.out
theorem int_nat(v:Nat)(w:World)(hv:v<4294967296):
  Calls Tryz.prog 51 #[.int .i64 (v:Int)] w (NewRat w 1 (v:Rat)):=by
 have h:=int_K 1 v w rfl hv;rw [rv_nat] at h
 exact h
end
section
open Go.RowKit
theorem size_i{b:Nat}(hb:b<18446744073709551616):bits .andNot .u64 (b:Int) 9223372036854775808=((rungOf b:Nat):Int):=by
 have:=u64_andNot_nat b 9223372036854775808 hb (by omega);rw [show (18446744073709551615 - 9223372036854775808:Nat)=2^63 - 1 from rfl,Nat.and_two_pow_sub_one_eq_mod] at this
 exact this
theorem isnan_any(b:Nat)(w:World)(hb:b<18446744073709551616):
  Calls Tryz.prog 204 #[.int .u64 (b:Int)] w fun e w'=>e=.returned (.bool (decide (M<rungOf b)))∧∃ k,w'=w.drewN k:=by
 have H:=Hd (size_i hb)
 go_enter Tryz.func204,Tryz.ntmps204
 go_wp2
 go_ret
 rw [H.out,M_val]
 exact⟨ret_bool (by simp only [decide_eq_decide];omega),0,rfl⟩
theorem isinf_any(b:Nat)(w:World)(hb:b<18446744073709551616):
  Calls Tryz.prog 235 #[.int .u64 (b:Int)] w fun e w'=>e=.returned (.bool (decide (rungOf b=M)))∧∃ k,w'=w.drewN k:=by
 have H:=Hd (size_i hb)
 go_enter Tryz.func235,Tryz.ntmps235
 go_wp2
 go_ret
 rw [H.out,M_val];refine⟨ret_bool ?_,0,rfl⟩;rw [Bool.eq_iff_iff]
 simp only [beq_iff_eq,decide_eq_true_eq]
 omega
theorem plain_any(b:Nat)(w:World)(hb:b<18446744073709551616):
  Calls Tryz.prog 175 #[.int .u64 (b:Int)] w fun e w'=>e=.returned (.int .u64 (pl b:Int))∧∃ k,w'=w.drewN k:=by
 have H:=Hd fun W=>isnan_any b W hb
 rcases Nat.lt_trichotomy b 9223372036854775808 with h | h | h
 all_goals
  first
  | (subst h
     go_enter Tryz.func175,Tryz.ntmps175
     go_wp2
     go_ret
     exact⟨ret_int rfl,0,rfl⟩)
  | (have h1:((b:Int) == 9223372036854775808)=false:=by simp;omega
     have hp:pl b=if M<rungOf b then 9221120237041090561 else b:=by unfold pl;rw [if_neg (by omega)]
     have HP:=Hd hp
     rcases Nat.lt_or_ge M (rungOf b) with h2 | h2
     ·rw [if_pos h2] at hp;rw [decide_eq_true h2] at H;rw [hp];clear h hp HP h2
      go_enter Tryz.func175,Tryz.ntmps175
      go_wp2_with (refine (H.out _).mono ?_;rintro e w1 ⟨rfl,k,rfl⟩)
      go_ret
      exact⟨rfl,k,rfl⟩
     ·rw [if_neg (by omega)] at hp;rw [decide_eq_false (show ¬ M<rungOf b from by omega)] at H;rw [hp];clear h hp HP h2
      go_enter Tryz.func175,Tryz.ntmps175
      go_wp2_with (refine (H.out _).mono ?_;rintro e w1 ⟨rfl,k,rfl⟩)
      go_ret
      exact⟨rfl,k,rfl⟩)
theorem key_any(b:Nat)(w:World)(hb:b<18446744073709551616):
  Calls Tryz.prog 205 #[.int .u64 (b:Int)] w fun e w'=>e=.returned (.int .u64 (keyOf b:Int))∧∃ k,w'=w.drewN k:=by
 have H:=Hd fun W=>plain_any b W hb;have hp:=pl_lt b hb
 obtain⟨p,hpp⟩:∃ p,pl b=p:=⟨_,rfl⟩
 have hk:keyOf b=if 9223372036854775808≤p then 18446744073709551615 - p else p+9223372036854775808:=by unfold keyOf;rw [hpp]
 rw [hpp] at H hp;rw [hk];have HP:=Hd hp
 obtain⟨r,hr⟩:∃ r,(if 9223372036854775808≤p then 18446744073709551615 - p else p+9223372036854775808)=r:=⟨_,rfl⟩
 rw [hr]
 rcases Nat.lt_or_ge p 9223372036854775808 with h | h
 ·rw [if_neg (by omega)] at hr
  have h1:decide (9223372036854775808≤(p:Int))=false:=by simp;omega
  have h2:bits .or .u64 (p:Int) 9223372036854775808=((r:Nat):Int):=by
   have:=u64_or_nat p 9223372036854775808 hp (by omega);rw [Nat.or_comm,nat_join 63 _ _ (by decide) (by exact h),Nat.add_comm,hr] at this;exact this
  clear h hp hk hpp hr
  go_enter Tryz.func205,Tryz.ntmps205
  go_wp2_with fail;refine (H.out _).mono ?_;rintro e w1 ⟨rfl,k,rfl⟩;go_wp2
  go_ret
  exact⟨ret_int rfl,k,rfl⟩
 ·rw [if_pos h] at hr
  have h1:(9223372036854775808≤(p:Int)):=by omega
  have h2:bits .xor .u64 18446744073709551615 (p:Int)=((r:Nat):Int):=by
   have:=u64_xor_nat 18446744073709551615 p (by omega) hp;rw [show (18446744073709551615:Nat)=2^64 - 1 from rfl] at this;rw [show ((18446744073709551615:Int))=((2^64 - 1:Nat):Int) from rfl,this,← hr]
   congr 1
   apply Nat.eq_of_testBit_eq
   intro i;rw [Nat.testBit_xor,Nat.testBit_two_pow_sub_one,show 2^64 - 1 - p=2^64 - (p+1) from by omega,Nat.testBit_two_pow_sub_succ hp]
   by_cases hi:i<64
   ·simp [hi]
   ·simp [hi]
    exact Nat.testBit_lt_two_pow (Nat.lt_of_lt_of_le hp (Nat.pow_le_pow_right (n:=2) (by omega) (by omega:64≤i)))
  have H2:=Hd h2;clear h hp hk hpp h2 hr
  go_enter Tryz.func205,Tryz.ntmps205
  go_wp2_with (refine (H.out _).mono ?_;rintro e w1 ⟨rfl,k,rfl⟩)
  go_ret
  exact⟨ret_int H2.out,k,rfl⟩
theorem above_any(x y:Nat)(w:World)(hx:x<18446744073709551616)(hy:y<18446744073709551616):
  Calls Tryz.prog 144 #[.int .u64 (x:Int),.int .u64 (y:Int)] w fun e w'=>e=.returned (.bool (decide (rungOf x≤M∧rungOf y≤M∧idx y<idx x)))∧∃ k,w'=w.drewN k:=by
 have H1:=Hd fun W=>isnan_any x W hx;have H2:=Hd fun W=>isnan_any y W hy;have K1:=Hd fun W=>key_any x W hx;have K2:=Hd fun W=>key_any y W hy
 by_cases h1:M<rungOf x
 ·rw [decide_eq_true h1] at H1;rw [decide_eq_false (show ¬ (rungOf x≤M∧rungOf y≤M∧idx y<idx x) from by omega)];clear h1
  go_enter Tryz.func144,Tryz.ntmps144
  go_wp2_with (first | (go_at_call 204;refine (H1.out _).mono ?_;rintro e w1 ⟨rfl,k,rfl⟩))
  go_ret
  exact⟨rfl,k,rfl⟩
 ·rw [decide_eq_false h1] at H1
  by_cases h2:M<rungOf y
  ·rw [decide_eq_true h2] at H2;rw [decide_eq_false (show ¬ (rungOf x≤M∧rungOf y≤M∧idx y<idx x) from by omega)];clear h1 h2
   go_enter Tryz.func144,Tryz.ntmps144
   go_wp2_with fail;refine (H1.out _).mono ?_;rintro e w1 ⟨rfl,k,rfl⟩;go_wp2_with fail;refine (H2.out _).mono ?_;rintro e w1 ⟨rfl,k2,rfl⟩;go_wp2
   go_ret
   exact⟨rfl,k+k2,rfl⟩
  ·rw [decide_eq_false h2] at H2;have hk:=key_lt hy hx (by omega) (by omega)
   have hd:decide (rungOf x≤M∧rungOf y≤M∧idx y<idx x)=decide (keyOf y<keyOf x):=by
    rw [decide_eq_decide];omega
   rw [hd];clear h1 h2 hk hd
   go_enter Tryz.func144,Tryz.ntmps144
   go_wp2_with fail;refine (H1.out _).mono ?_;rintro e w1 ⟨rfl,k,rfl⟩;go_wp2_with fail;refine (H2.out _).mono ?_;rintro e w1 ⟨rfl,k2,rfl⟩;go_wp2_with fail;refine (K1.out _).mono ?_;rintro e w1 ⟨rfl,k3,rfl⟩;go_wp2_with fail;refine (K2.out _).mono ?_;rintro e w1 ⟨rfl,k4,rfl⟩;go_wp2
   go_ret
   exact⟨rfl,k+k2+k3+k4,rfl⟩
end
section
open Go.RowKit
theorem infinite_any(neg:Bool)(w:World):
  Calls Tryz.prog 259 #[.bool neg] w fun e w'=>e=.returned (.int .u64 (pat (sg neg M):Int))∧w=w':=by
 cases neg
 ·rw [show pat (sg false M)=9218868437227405312 from by decide]
  go_enter Tryz.func259,Tryz.ntmps259
  go_wp2
  go_ret
  exact⟨rfl,rfl⟩
 ·rw [show pat (sg true M)=18442240474082181120 from by decide]
  go_enter Tryz.func259,Tryz.ntmps259
  go_wp2
  go_ret
  exact⟨rfl,rfl⟩
theorem made_any(neg:Bool)(s k:Nat)(w:World)(hs:s≤9007199254740992)(hk:k≤2045)(hf:k=0∨4503599627370496≤s)(hT:k*4503599627370496+s<9218868437227405312):
  Calls Tryz.prog 262 #[.bool neg,.int .u64 (s:Int),.int .i64 ((k:Int) - 1074)] w fun e w'=>e=.returned (.int .u64 (pat (sg neg (k*4503599627370496+s)):Int))∧w=w':=by
 rcases Nat.eq_zero_or_pos s with h0 | h0
 ·subst h0
  have hk0:k=0:=by omega
  subst hk0;rw [show pat (sg neg (0*4503599627370496+0))=0 from by cases neg<;>rfl]
  go_enter Tryz.func262,Tryz.ntmps262
  go_wp2
  go_ret
  exact⟨rfl,rfl⟩
 ·obtain⟨T,hTT⟩:∃ T,k*4503599627370496+s=T:=⟨_,rfl⟩
  rw [hTT] at hT ⊢
  obtain⟨P,hP⟩:∃ P,pat (sg neg T)=P:=⟨_,rfl⟩
  rw [hP]
  have hT0:0<T:=by omega
  have hP0:neg=false→P=T:=by rintro rfl;rw [← hP];show pat (T:Int)=T;rw [pat_nn (by omega)];omega
  have hP1:neg=true→bits .or .u64 (T:Int) 9223372036854775808=(P:Int):=by
   rintro rfl;have:=u64_or_nat T 9223372036854775808 (by omega) (by omega);rw [Nat.or_comm,nat_join 63 _ _ (by decide) (by omega)] at this;rw [← hP];show _=((pat (-(T:Int)):Nat):Int);rw [pat_neg (by omega),Int.natAbs_neg,Int.natAbs_natCast];exact this
  have HP0:=Hd hP0;have HP1:=Hd hP1;have HT:=Hd hT;clear hP hP0 hP1 hT
  go_enter Tryz.func262,Tryz.ntmps262
  have hs0:((s:Int) == 0)=false:=by simp;omega
  go_wp2
  go_loop [1,2] (fun v y=>∃ s k:Nat,v=.int .u64 (s:Int)∧y=.int .i64 ((k:Int) - 1074)∧0<s∧s≤9007199254740992∧k≤2046∧(k=0∨4503599627370496≤s)∧k*4503599627370496+s=T) (fun v _=>(intOf v).toNat)
  case atStart=>exact⟨s,k,rfl,rfl,h0,hs,by omega,hf,hTT⟩
  case round=>
   clear hs0 hs hk hf hTT h0;obtain⟨s,k,rfl,rfl,h0,hs,hk,hf,hTT⟩:=hrel
   by_cases h1:9007199254740992≤s
   ·have c1:decide (9007199254740992≤(s:Int))=true:=by simp;omega
    have h3:s=9007199254740992:=by omega
    have hTl:=HT.out
    have hA:4503599627370496≤s / 2:=by omega
    have hB:(k+1)*4503599627370496+s / 2=T:=by
     have e1:s / 2=4503599627370496:=by omega
     have e2:=Nat.succ_mul k 4503599627370496;rw [show (k+1)*4503599627370496=k*4503599627370496+4503599627370496 from e2,e1,Nat.add_assoc,← hTT,h3]
    have hC:k+1≤2046:=by omega
    have hD:s / 2≤9007199254740992:=by omega
    have hE:0<s / 2:=by omega
    have HA:=Hd hA;have HB:=Hd hB;have HC:=Hd hC;have HD:=Hd hD;have HE:=Hd hE;clear hTT hf h1 h3 hA hB hC hD hE hTl;go_wp2
    go_round
    case rel=>exact⟨s / 2,k+1,by go_num,by go_num,HE.out,HD.out,HC.out,.inr HA.out,HB.out⟩
    case measure=>simp [intOf];omega
   ·have c1:decide (9007199254740992≤(s:Int))=false:=by simp;omega
    have m1:=and1_u64 (x:=s) (by omega)
    have c2:decide ((k:Int) - 1074 < -1074)=false:=by simp;omega
    obtain⟨r,hr⟩:∃ r,s % 2=r:=⟨_,rfl⟩
    rw [hr] at m1
    have hr2:r=0∨r=1:=by omega
    have HTT:=Hd hTT;have HF:=Hd hf;clear hr hTT hf
    rcases hr2 with rfl | rfl
    all_goals
     go_wp2
     go_loop [1,2] (fun v y=>v=.int .u64 (s:Int)∧y=.int .i64 ((k:Int) - 1074)) (fun _ _=>0)
     case atStart=>exact⟨rfl,rfl⟩
     case round=>
      obtain⟨rfl,rfl⟩:=hrel
      by_cases h2:4503599627370496≤s
      ·have c3:decide ((s:Int)<4503599627370496)=false:=by simp;omega
       have c4:decide (4503599627370496≤(s:Int))=true:=by simp;omega
       have he:(s:Int) - 4503599627370496+((k:Int) - 1074+1075)*4503599627370496=(T:Int):=by have:=HTT.out;omega
       cases neg
       ·go_wp2
        go_ret
        exact⟨ret_int (by have:=HP0.out trivial;omega),rfl⟩
       ·go_wp2
        go_ret
        exact⟨ret_int (HP1.out trivial),rfl⟩
      ·have c3:decide ((s:Int)<4503599627370496)=true:=by simp;omega
       have c4:decide (4503599627370496≤(s:Int))=false:=by simp;omega
       have hk0:k=0:=by have:=HF.out;omega
       have c5:decide (-1074<(k:Int) - 1074)=false:=by simp;omega
       have he:s=T:=by have:=HTT.out;omega
       have HE:=Hd he;clear hk0 he h2
       cases neg
       ·go_wp2
        go_ret
        exact⟨ret_int (by have:=HP0.out trivial;have:=HE.out;omega),rfl⟩
       ·go_wp2
        go_ret
        exact⟨ret_int (by have:=HP1.out trivial;rw [← HE.out] at this;exact this),rfl⟩
theorem greatest_any(neg:Bool)(w:World):
  Calls Tryz.prog 260 #[.bool neg,.int .i64 53,.int .i64 1023] w fun e w'=>e=.returned (.int .u64 (pat (sg neg (M - 1)):Int))∧w=w':=by
 have HM:=Hd (made_any neg 9007199254740991 2045 w (by omega) (by omega) (by omega) (by omega));rw [show 2045*4503599627370496+9007199254740991=M - 1 from by rw [M_val]] at HM
 obtain⟨P,hP⟩:∃ P,pat (sg neg (M - 1))=P:=⟨_,rfl⟩
 rw [hP] at HM ⊢;clear hP
 go_enter Tryz.func260,Tryz.ntmps260
 go_wp2_with fail;refine HM.out.mono ?_;rintro e w1 ⟨rfl,rfl⟩;go_wp2
 go_ret
 exact⟨rfl,rfl⟩
end
section
open Go.RowKit
theorem empty6(w:World):
  Calls Tryz.prog 107 #[] w fun e w'=>e=.returned (.agg #[.int .u64 9218868437227405312,.int .u64 18442240474082181120])∧Below w.heap.size w w':=by
 have hb:=Hd fun cs=>below_alloc w (.cells cs 24)
 go_enter Tryz.func107,Tryz.ntmps107
 go_wp2;refine bodyPost_ret (v:=.agg #[.int .u64 9218868437227405312,.int .u64 18442240474082181120]) (by simp [results,Tryz.results107,go_sem]) rfl ?_
 exact⟨rfl,hb.out _⟩
theorem entire6(w:World):
  Calls Tryz.prog 206 #[] w fun e w'=>e=.returned (.agg #[.int .u64 18442240474082181120,.int .u64 9218868437227405312])∧Below w.heap.size w w':=by
 have hb:=Hd fun cs=>below_alloc w (.cells cs 24)
 go_enter Tryz.func206,Tryz.ntmps206
 go_wp2;refine bodyPost_ret (v:=.agg #[.int .u64 18442240474082181120,.int .u64 9218868437227405312]) (by simp [results,Tryz.results206,go_sem]) rfl ?_
 exact⟨rfl,hb.out _⟩
theorem sound6(x y:Nat)(w:World)(hx:x<18446744073709551616)(hy:y<18446744073709551616):
  Calls Tryz.prog 143 #[.agg #[.int .u64 (x:Int),.int .u64 (y:Int)]] w fun e w'=>e=.returned (.bool (snd x y))∧Below w.heap.size w w':=by
 have hb:=Hd (below_alloc w (.cells #[.int .u64 (x:Int),.int .u64 (y:Int)] 24));have H1:=Hd fun W=>isnan_any x W hx;have H2:=Hd fun W=>isnan_any y W hy;have H3:=Hd fun W=>above_any x y W hx hy
 obtain⟨s,hs⟩:∃ s,snd x y=s:=⟨_,rfl⟩
 rw [hs]
 by_cases h1:M<rungOf x
 ·rw [decide_eq_true h1] at H1
  have h0:s=false:=by rw [← hs];exact decide_eq_false (by omega)
  subst h0;clear h1 hs
  go_enter Tryz.func143,Tryz.ntmps143
  go_wp2_with fail;refine (H1.out _).mono ?_;rintro e w1 ⟨rfl,k,rfl⟩;go_wp2
  go_ret
  exact⟨rfl,below_drewN hb.out k⟩
 ·rw [decide_eq_false h1] at H1
  by_cases h2:M<rungOf y
  ·rw [decide_eq_true h2] at H2
   have h0:s=false:=by rw [← hs];exact decide_eq_false (by omega)
   subst h0;clear h1 h2 hs
   go_enter Tryz.func143,Tryz.ntmps143
   go_wp2_with fail;refine (H1.out _).mono ?_;rintro e w1 ⟨rfl,k,rfl⟩;go_wp2_with fail;refine (H2.out _).mono ?_;rintro e w1 ⟨rfl,k2,rfl⟩;go_wp2
   go_ret
   exact⟨rfl,below_drewN hb.out _⟩
  ·rw [decide_eq_false h2] at H2
   by_cases h3:idx y<idx x
   ·rw [decide_eq_true (show rungOf x≤M∧rungOf y≤M∧idx y<idx x from⟨by omega,by omega,h3⟩)] at H3
    have h0:s=false:=by rw [← hs];exact decide_eq_false (by omega)
    subst h0;clear h1 h2 h3 hs
    go_enter Tryz.func143,Tryz.ntmps143
    go_wp2_with fail;refine (H1.out _).mono ?_;rintro e w1 ⟨rfl,k,rfl⟩;go_wp2_with fail;refine (H2.out _).mono ?_;rintro e w1 ⟨rfl,k2,rfl⟩;go_wp2_with fail;refine (H3.out _).mono ?_;rintro e w1 ⟨rfl,k3,rfl⟩;go_wp2
    go_ret
    exact⟨rfl,below_drewN hb.out _⟩
   ·rw [decide_eq_false (show ¬ (rungOf x≤M∧rungOf y≤M∧idx y<idx x) from fun h=>h3 h.2.2)] at H3;have c1:=pat_cases hx;have c2:=pat_cases hy
    have h0:s=((!((x:Int) == 9218868437227405312)) && (!((y:Int) == 18442240474082181120))):=by
     rw [← hs];unfold snd;rw [M_val] at *;rw [Bool.eq_iff_iff]
     simp only [decide_eq_true_eq,Bool.and_eq_true,Bool.not_eq_true',beq_eq_false_iff_ne,ne_eq]
     omega
    have HS:=Hd h0;clear h1 h2 h3 hs c1 c2 h0
    by_cases h4:x=9218868437227405312
    ·subst h4
     go_enter Tryz.func143,Tryz.ntmps143
     go_wp2_with fail;refine (H1.out _).mono ?_;rintro e w1 ⟨rfl,k,rfl⟩;go_wp2_with fail;refine (H2.out _).mono ?_;rintro e w1 ⟨rfl,k2,rfl⟩;go_wp2_with fail;refine (H3.out _).mono ?_;rintro e w1 ⟨rfl,k3,rfl⟩;go_wp2
     go_ret
     exact⟨ret_bool HS.out.symm,below_drewN hb.out _⟩
    ·have h5:((x:Int) == 9218868437227405312)=false:=by simp;omega
     rw [h5] at HS
     have h6:((x:Int) != 9218868437227405312)=true:=by simp;omega
     have HS2:=Hd (show s=((y:Int) != 18442240474082181120) from by rw [HS.out];rfl);clear h4 h5 HS
     go_enter Tryz.func143,Tryz.ntmps143
     go_wp2_with fail;refine (H1.out _).mono ?_;rintro e w1 ⟨rfl,k,rfl⟩;go_wp2_with fail;refine (H2.out _).mono ?_;rintro e w1 ⟨rfl,k2,rfl⟩;go_wp2_with fail;refine (H3.out _).mono ?_;rintro e w1 ⟨rfl,k3,rfl⟩;go_wp2
     go_ret
     exact⟨ret_bool HS2.out.symm,below_drewN hb.out _⟩
end
section
open Go.RowKit
theorem plain_b(b:Nat)(w:World)(hb:b<18446744073709551616):
  Calls Tryz.prog 175 #[.int .u64 (b:Int)] w fun e w'=>e=.returned (.int .u64 (pl b:Int))∧Below w.heap.size w w':=
 (plain_any b w hb).mono (by rintro e w' ⟨h,k,rfl⟩;exact⟨h,below_drewN (Below.refl _ _) k⟩)
theorem read6(x y:Nat)(w:World)(hx:x<18446744073709551616)(hy:y<18446744073709551616):
  Calls Tryz.prog 106 #[.agg #[.int .u64 (x:Int),.int .u64 (y:Int)]] w fun e w'=>e=.returned (.agg #[.int .u64 (pat (rd x y).1:Int),.int .u64 (pat (rd x y).2:Int)])∧Below w.heap.size w w':=by
 have ba:Below w.heap.size w ((w.alloc (.cells #[.int .u64 (x:Int),.int .u64 (y:Int)] 24)).alloc (.cells #[.int .u64 0,.int .u64 0] 24)):=(below_alloc w _).alloc (by simp) _;have HS:=Hd fun W=>sound6 x y W hx hy;have g1:=(Blk.new w 24 #[.int .u64 (x:Int),.int .u64 (y:Int)]).alloc (.cells #[.int .u64 0,.int .u64 0] 24);have g2:=Blk.new2 w (.cells #[.int .u64 (x:Int),.int .u64 (y:Int)] 24) 24 #[.int .u64 0,.int .u64 0];have G1:=Hd g1;have G2:=Hd g2;have BA:=Hd ba;clear g1 g2 ba
 obtain⟨s,hs⟩:∃ s,snd x y=s:=⟨_,rfl⟩
 rw [hs] at HS;unfold rd;rw [hs]
 cases s
 ·simp only [Bool.false_eq_true,if_false]
  rw [pat_max,pat_min];clear hs;have HE:=Hd empty6
  go_enter Tryz.func106,Tryz.ntmps106
  go_wp2_with fail;refine (HS.out _).mono ?_;rintro e w1 ⟨rfl,hb1⟩;have B1:=Hd (BA.out.trans (hb1.mono BA.out.size));have K1:=Hd (HasBlk.of (n:=2) (G2.out.keep hb1) rfl rfl);clear hb1;go_wp2_with fail;refine (HE.out _).mono ?_;rintro e w2 ⟨rfl,hb2⟩;have B2:=Hd (B1.out.trans (hb2.mono B1.out.size));have K2:=Hd (K1.out.keep hb2);clear hb2;obtain⟨cs,hblk,hsz,hnw⟩:=K2.out;have c0:=hblk.someCell (j:=0) (by omega);have c1:=hblk.someCell (j:=1) (by omega);have f0:=hblk.frozen 0;have f1:=hblk.frozen 1;have k0:=sets_cell hblk [.int .u64 9218868437227405312,.int .u64 18442240474082181120] 0 (by decide) (by simp;omega);have k1:=sets_cell hblk [.int .u64 9218868437227405312,.int .u64 18442240474082181120] 1 (by decide) (by simp;omega);have F:=Hd (below_sets (w0:=w) (r:=w.heap.size+1) (by omega) [.int .u64 9218868437227405312,.int .u64 18442240474082181120] 0 _ B2.out)
  simp [sets] at k0 k1
  clear hblk hsz hnw;go_wp2;refine bodyPost_ret (v:=.agg #[.int .u64 9218868437227405312,.int .u64 18442240474082181120]) (by simp [results,Tryz.results106,go_sem,k0,k1]) rfl ?_
  exact⟨rfl,F.out⟩
 ·simp only [if_true]
  have hd:=of_decide_eq_true hs;rw [← pl_real hx hd.1,← pl_real hy hd.2.1];clear hs hd;have P1:=Hd fun W=>plain_b x W hx;have P2:=Hd fun W=>plain_b y W hy
  go_enter Tryz.func106,Tryz.ntmps106
  go_wp2_with fail;refine (HS.out _).mono ?_;rintro e w1 ⟨rfl,hb1⟩
  have g0:Blk w1.drew w.heap.size 24 #[.int .u64 (x:Int),.int .u64 (y:Int)]∧HasBlk w1.drew (w.heap.size+1) 24 2∧Below w.heap.size w w1.drew:=⟨G1.out.keep hb1.drew,HasBlk.of (G2.out.keep hb1.drew) rfl rfl,(BA.out.trans (hb1.mono BA.out.size)).drew⟩
  clear hb1;go_wp2_with fail;refine wp_region_held_drew (S:=fun W'=>Blk W' w.heap.size 24 #[.int .u64 (x:Int),.int .u64 (y:Int)]∧HasBlk W' (w.heap.size+1) 24 2∧Below w.heap.size w W') (by kernel_rfl) (g0) (fun hHeld=>?_);refine tk 0 ?_;(try simp only [Act.put,List.setIfInBounds_toArray,List.set_cons_zero,List.set_cons_succ]);refine tk 1 ?_ (hv:=by intro W2 hSw;have q:=hSw.1.cell 0;have q1:=hSw.1.cell 1;simp at q q1;go_simp;(try with_reducible rfl));(try simp only [Act.put,List.setIfInBounds_toArray,List.set_cons_zero,List.set_cons_succ]);refine tk 3 ?_;(try simp only [Act.put,List.setIfInBounds_toArray,List.set_cons_zero,List.set_cons_succ]);refine tk 4 ?_ (hv:=by intro W2 hSw;have q:=hSw.1.cell 0;have q1:=hSw.1.cell 1;simp at q q1;go_simp;(try with_reducible rfl));(try simp only [Act.put,List.setIfInBounds_toArray,List.set_cons_zero,List.set_cons_succ]);refine rdy 2 (fun KK hKK=>?_);go_simp;refine (P1.out _).mono ?_;rintro e w2 ⟨rfl,hb2⟩;go_wp2_with fail;refine hKK.out _ _ (⟨hHeld.1.keep hb2,hHeld.2.1.keep hb2,hHeld.2.2.trans (hb2.mono hHeld.2.2.size)⟩) (fun _=>?_);clear hKK KK hHeld;rename_i hHeld;(try simp only [Act.put,List.setIfInBounds_toArray,List.set_cons_zero,List.set_cons_succ]);refine rdy 5 (fun KK hKK=>?_);go_simp;refine (P2.out _).mono ?_;rintro e w3 ⟨rfl,hb3⟩;go_wp2_with fail;refine hKK.out _ _ (⟨hHeld.1.keep hb3,hHeld.2.1.keep hb3,hHeld.2.2.trans (hb3.mono hHeld.2.2.size)⟩) (fun _=>?_);clear hKK KK hHeld;rename_i hHeld;(try simp only [Act.put,List.setIfInBounds_toArray,List.set_cons_zero,List.set_cons_succ])
  refine tk 6 ?_;(try simp only [Act.put,List.setIfInBounds_toArray,List.set_cons_zero,List.set_cons_succ]);refine rdy 7 (fun KK hKK=>?_);have c0:=hHeld.2.1.someCell 0 (by decide);have c1:=hHeld.2.1.someCell 1 (by decide);have f0:=hHeld.2.1.frozen 0;have f1:=hHeld.2.1.frozen 1;have HK:=Hd (hHeld.2.1.setCell [.int .u64 (pl x:Int),.int .u64 (pl y:Int)] rfl);have F:=Hd (below_sets (w0:=w) (r:=w.heap.size+1) (by omega) [.int .u64 (pl x:Int),.int .u64 (pl y:Int)] 0 _ hHeld.2.2);go_simp;refine hKK.out _ _ (show _∧_ from⟨hHeld.1.other (by omega) 0 [.int .u64 (pl x:Int),.int .u64 (pl y:Int)],hHeld.2.1.sets [.int .u64 (pl x:Int),.int .u64 (pl y:Int)] rfl rfl,below_sets (by omega) [.int .u64 (pl x:Int),.int .u64 (pl y:Int)] 0 _ hHeld.2.2⟩) (fun _=>?_);clear hKK KK hHeld;rename_i hHeld;(try simp only [Act.put,List.setIfInBounds_toArray,List.set_cons_zero,List.set_cons_succ]);refine wpAnyH_done (by kernel_rfl) ?_ _;have k0:=HK.out 0 (by decide);have k1:=HK.out 1 (by decide)
  simp [sets] at k0 k1
  clear hHeld HK;go_wp2;refine bodyPost_ret (v:=.agg #[.int .u64 (pl x:Int),.int .u64 (pl y:Int)]) (by simp [results,Tryz.results106,go_sem,k0,k1]) rfl ?_
  exact⟨rfl,F.out⟩
end
section
open Go.RowKit
theorem rneg_true(K:Nat)(vn vd:Value)(x:Rat)(w:World)(h:RatV w K true vn vd x)(hK:K≤1073741824):
  Calls Tryz.prog 47 #[.agg #[.bool true,vn,vd]] w (NewRat w K (-x)):=by
 obtain⟨p,q,A,n,c,B,m,d,rfl,rfl,hu,hv,hq,h0,hp,hq2,rfl⟩:=h;have hn:=hu.len_le hp;have hm:=hv.len_le hq2;have HU:=Hd hu;have HV:=Hd hv
 have hz:n=0↔p=0:=by
  have:=@digs_length_eq_zero p;rw [hu.len] at this;exact this
 have HP:=Hd hp;have HQ:=Hd hq2;have H0:=Hd h0;have HZ:=Hd hz;clear hp hq2 hu hv h0 hz
 have HN:∀ (W:World) (A:Option Addr) (n c v:Nat),Below w.heap.size w W→U32s w A n c (digs v)→n≤K→Calls Tryz.prog 93 #[.slice A n c] W fun e w'=>∃ A1 n1 c1,e=.returned (.slice A1 n1 c1)∧U32s w' A1 n1 c1 (digs v)∧Below W.heap.size W w'∧Below w.heap.size w w':=fun W A n c v hW hu hn=>
  (norm_v A n c _ W (hu.below hW) (by omega) (num_digs v)).mono (by
   rintro e w' ⟨A1,n1,c1,h1,h2,h3,h4,h5⟩
   exact⟨A1,n1,c1,h1,h2,h5,hW.trans (h5.mono hW.size)⟩)
 have H:=Hd HN;clear HN
 go_enter Tryz.func47,Tryz.ntmps47
 go_wp2_with fail
 refine wp_region_held_drew (S:=(fun w'=>w'.cell? ⟨w.heap.size,0,none⟩=some (.bool true)∧w'.cell? ⟨w.heap.size,1,none⟩=some (.slice A n c)∧w'.cell? ⟨w.heap.size,2,none⟩=some (.slice B m d) ∧
   w'.cell? ⟨w.heap.size+1,0,none⟩=some (cellOf w' ⟨w.heap.size+1,0,none⟩)∧w'.cell? ⟨w.heap.size+1,1,none⟩=some (cellOf w' ⟨w.heap.size+1,1,none⟩)∧w'.cell? ⟨w.heap.size+1,2,none⟩=some (cellOf w' ⟨w.heap.size+1,2,none⟩) ∧
   w'.frozen? ⟨w.heap.size+1,0,none⟩=false∧w'.frozen? ⟨w.heap.size+1,1,none⟩=false∧w'.frozen? ⟨w.heap.size+1,2,none⟩=false∧Below w.heap.size w w')) (by kernel_rfl) (by refine⟨?_,?_,?_,?_,?_,?_,?_,?_,?_,?_⟩<;>first | exact below_two _ _ _ | (simp [cellOf];done)) (fun hHeld=>?_)
 refine tk 0 ?_ (hv:=by intro W2 hSw;(try dsimp only at hSw);go_simp;(try with_reducible rfl));(try simp only [Act.put,List.setIfInBounds_toArray,List.set_cons_zero,List.set_cons_succ]);refine tk 1 ?_ (hv:=by intro W2 hSw;(try dsimp only at hSw);go_simp;(try with_reducible rfl));(try simp only [Act.put,List.setIfInBounds_toArray,List.set_cons_zero,List.set_cons_succ]);refine tk 2 ?_ (hv:=by intro W2 hSw;(try dsimp only at hSw);go_simp;(try with_reducible rfl));(try simp only [Act.put,List.setIfInBounds_toArray,List.set_cons_zero,List.set_cons_succ]);refine tk 3 ?_ (hv:=by intro W2 hSw;(try dsimp only at hSw);go_simp;(try with_reducible rfl));(try simp only [Act.put,List.setIfInBounds_toArray,List.set_cons_zero,List.set_cons_succ]);refine tkn 4 ?_;(try simp only [Act.put,List.setIfInBounds_toArray,List.set_cons_zero,List.set_cons_succ]);refine tkn 5 ?_;(try simp only [Act.put,List.setIfInBounds_toArray,List.set_cons_zero,List.set_cons_succ]);refine tkn 6 ?_;(try simp only [Act.put,List.setIfInBounds_toArray,List.set_cons_zero,List.set_cons_succ]);refine tkn 7 ?_;(try simp only [Act.put,List.setIfInBounds_toArray,List.set_cons_zero,List.set_cons_succ]);refine tk 8 ?_ (hv:=by intro W2 hSw;(try dsimp only at hSw);go_simp;(try with_reducible rfl));(try simp only [Act.put,List.setIfInBounds_toArray,List.set_cons_zero,List.set_cons_succ]);refine tk 9 ?_ (hv:=by intro W2 hSw;(try dsimp only at hSw);go_simp;(try with_reducible rfl));(try simp only [Act.put,List.setIfInBounds_toArray,List.set_cons_zero,List.set_cons_succ])
 refine tk 10 ?_ (hv:=by intro W2 hSw;(try dsimp only at hSw);go_simp;(try with_reducible rfl));(try simp only [Act.put,List.setIfInBounds_toArray,List.set_cons_zero,List.set_cons_succ]);refine tk 12 ?_ (hv:=by intro W2 hSw;(try dsimp only at hSw);go_simp;(try with_reducible rfl));(try simp only [Act.put,List.setIfInBounds_toArray,List.set_cons_zero,List.set_cons_succ]);refine tk 13 ?_ (hv:=by intro W2 hSw;(try dsimp only at hSw);go_simp;(try with_reducible rfl));(try simp only [Act.put,List.setIfInBounds_toArray,List.set_cons_zero,List.set_cons_succ]);refine rdy 11 (fun KK hKK=>?_);go_simp;refine (H.out _ _ _ _ ?_ ?_ ?_ ?_).mono ?_;rotate_left;(first | exact below_two _ _ _ | assumption);(first | exact HU.out | exact HV.out);(assumption);rintro e wa ⟨Aa,na,ca,rfl,hua,hba,hbwa⟩;go_wp2_with fail;refine hKK.out _ _ (held3 hHeld hba) (fun _=>?_);clear hKK KK hHeld;rename_i hHeld;(try simp only [Act.put,List.setIfInBounds_toArray,List.set_cons_zero,List.set_cons_succ]);refine rdy 14 (fun KK hKK=>?_);go_simp;refine (H.out _ _ _ _ ?_ ?_ ?_ ?_).mono ?_;rotate_left;(first | exact below_two _ _ _ | assumption);(first | exact HU.out | exact HV.out);(assumption);rintro e w1 ⟨A1,n1,c1,rfl,hu1,hb1,hbw⟩;go_wp2_with fail;refine hKK.out _ _ (held3 hHeld hb1) (fun _=>?_);clear hKK KK hHeld;rename_i hHeld;(try simp only [Act.put,List.setIfInBounds_toArray,List.set_cons_zero,List.set_cons_succ]);refine tk 15 ?_ (hv:=by intro W2 hSw;(try dsimp only at hSw);go_simp;(try with_reducible rfl));(try simp only [Act.put,List.setIfInBounds_toArray,List.set_cons_zero,List.set_cons_succ])
 refine rdy 16 (fun KK hKK=>?_);go_simp;refine hKK.out _ _ (held3_set (by omega) (by omega) hHeld _ _ _ _ rfl) (fun hHeld1=>?_);refine wpAnyH_done (by kernel_rfl) ?_ _;have hblk:=(((Blk.new2 w (.cells #[.bool true,.slice A n c,.slice B m d] 42) 42 #[.bool false,.slice none 0 0,.slice none 0 0]).drewN 1).keep hba).keep hb1
 have z2:-rv true p q=rv false p q:=by
  rw [rv_true];grind
 have hNR:NewRat w K (-rv true p q) (.returned (.agg #[.bool false,.slice Aa na ca,.slice A1 n1 c1])) _:=
  RatV.ret (g:=w.heap.size+1) ⟨p,q,Aa,na,ca,A1,n1,c1,rfl,rfl,hua.below hb1,hu1,hq,(fun _=>rfl),HP.out,HQ.out,z2⟩ hbw hblk NoWd.zero (by omega)
 have k:=set3_cells (hblk.cell 0) (hblk.cell 1) (hblk.cell 2) (.bool false) (.slice Aa na ca) (.slice A1 n1 c1);have HNR:=Hd hNR;obtain⟨k0,k1,k2⟩:=k;clear hKK KK hHeld hHeld1 hNR hblk z2 hba hbwa hua hu1 hb1 hbw;go_wp2
 exact bodyPost_ret (v:=.agg #[.bool false,.slice Aa na ca,.slice A1 n1 c1]) (by simp [results,Tryz.results47,go_sem,k0,k1,k2]) rfl HNR.out
theorem rneg_any(K:Nat)(neg:Bool)(vn vd:Value)(x:Rat)(w:World)(h:RatV w K neg vn vd x)(hK:K≤1073741824):
  Calls Tryz.prog 47 #[.agg #[.bool neg,vn,vd]] w (NewRat w K (-x)):=by
 cases neg
 ·exact rneg_false K vn vd x w h hK
 ·exact rneg_true K vn vd x w h hK
end
section
open Go.RowKit
theorem heldc{w W W':World}{a0 a1 a2 b1 b2:Addr}{v0 v1 v2 u1 u2:Value}(h:W.cell? a0=some v0∧W.cell? a1=some v1∧W.cell? a2=some v2∧W.cell? b1=some u1∧W.cell? b2=some u2∧Below w.heap.size w W)(hb:Below W.heap.size W W'):
  W'.cell? a0=some v0∧W'.cell? a1=some v1∧W'.cell? a2=some v2∧W'.cell? b1=some u1∧W'.cell? b2=some u2∧Below w.heap.size w W':=by
 obtain⟨h0,h1,h2,h3,h4,h5⟩:=h
 exact⟨cell_below h0 hb,cell_below h1 hb,cell_below h2 hb,cell_below h3 hb,cell_below h4 hb,h5.trans (hb.mono h5.size)⟩
theorem rcmp_any(K:Nat)(neg:Bool)(vn vd:Value)(x:Rat)(neg':Bool)(vn' vd':Value)(y:Rat)(w:World)(h:RatV w K neg vn vd x)(h':RatV w K neg' vn' vd' y)(hK:K≤1073741824):
  Calls Tryz.prog 113 #[.agg #[.bool neg,vn,vd],.agg #[.bool neg',vn',vd']] w fun e w'=>e=.returned (.int .i64 (rc x y))∧Below w.heap.size w w':=by
 obtain⟨A,n,c,B,m,d,rfl,rfl⟩:=h.shape;obtain⟨A',n',c',B',m',d',rfl,rfl⟩:=h'.shape;have H:=Hd h;have H':=Hd h';have ba:Below w.heap.size w ((w.alloc (.cells #[.bool neg,.slice A n c,.slice B m d] 42)).alloc (.cells #[.bool neg',.slice A' n' c',.slice B' m' d'] 42)):=(below_alloc w _).alloc (by simp) _;have h1:=Hd (rsign_any K neg _ _ x _ (h.below ba) hK);have BA:=Hd ba;clear h h' ba
 go_enter Tryz.func113,Tryz.ntmps113
 go_wp2_with fail;refine h1.out.mono ?_;rintro e w1 ⟨rfl,hb1⟩;have B1:=Hd (BA.out.trans (hb1.mono BA.out.size));have K1:=Hd (((Blk.new w 42 #[.bool neg,.slice A n c,.slice B m d]).alloc (.cells #[.bool neg',.slice A' n' c',.slice B' m' d'] 42)).keep hb1);have K2:=Hd ((Blk.new2 w (.cells #[.bool neg,.slice A n c,.slice B m d] 42) 42 #[.bool neg',.slice A' n' c',.slice B' m' d']).keep hb1);have k0:=K2.out.cell 0;have k1:=K2.out.cell 1;have k2:=K2.out.cell 2;have h2:=Hd (rsign_any K neg' _ _ y _ (H'.out.below B1.out) hK);clear hb1 h1
 simp at k0 k1 k2
 go_wp2_with fail;refine h2.out.mono ?_;rintro e w2 ⟨rfl,hb2⟩;have B2:=Hd (B1.out.trans (hb2.mono B1.out.size));have Q1:=Hd (K1.out.keep hb2);have Q2:=Hd (K2.out.keep hb2);clear hb2 k0 k1 k2 K1 K2 h2 B1 BA
 obtain⟨s,hs⟩:∃ s,rsg x=s:=⟨_,rfl⟩
 obtain⟨t,ht⟩:∃ t,rsg y=t:=⟨_,rfl⟩
 have HS:=Hd hs;have HT:=Hd ht;rw [hs,ht];clear hs ht
 rcases Int.lt_trichotomy s t with h0 | h0 | h0
 ·go_wp2
  go_ret
  exact⟨ret_int (by rw [rc_below (by rw [HS.out,HT.out];exact h0)]),B2.out⟩
 ·subst h0;obtain⟨p,q,A1,n1,c1,D1,m1,d1,e1,e2,hu,hv,hq,hp0,hp,hq2,rfl⟩:=H.out;obtain⟨p',q',A2,n2,c2,D2,m2,d2,e3,e4,hu',hv',hq',hp0',hp',hq2',rfl⟩:=H'.out
  cases e1;cases e2;cases e3;cases e4
  have l1:=hu.len_le hp;have l2:=hv.len_le hq2;have l3:=hu'.len_le hp';have l4:=hv'.len_le hq2'
  have HTm:∀ (W:World) (A B:Option Addr) (n c m d a b:Nat),Below w.heap.size w W→U32s w A n c (digs a)→U32s w B m d (digs b)→n≤K→m≤K→Calls Tryz.prog 95 #[.slice A n c,.slice B m d] W fun e w'=>∃ A1 n1 c1,e=.returned (.slice A1 n1 c1)∧U32s w' A1 n1 c1 (digs (a*b))∧Below W.heap.size W w'∧Below w.heap.size w w':=fun W A B n c m d a b hW h1 h2 h3 h4=>
   (times_any A B n c m d _ _ W (h1.below hW) (h2.below hW) (by omega) (by omega)).mono (by
    rintro e w' ⟨A1,n1,c1,h5,h6,h7⟩;rw [num_digs,num_digs] at h6
    exact⟨A1,n1,c1,h5,h6,h7,hW.trans (h7.mono hW.size)⟩)
  have HCm:∀ (W:World) (A B:Option Addr) (n c m d a b:Nat),Below w.heap.size w W→U32s W A n c (digs a)→U32s W B m d (digs b)→Calls Tryz.prog 98 #[.slice A n c,.slice B m d] W fun e w'=>e=.returned (.int .i64 (cmp3 a b))∧Below W.heap.size W w'∧Below w.heap.size w w':=fun W A B n c m d a b hW h1 h2=>
   (cmp_any A B n c m d _ _ W h1 h2).mono (by
    rintro e w' ⟨h5,k,rfl⟩;rw [num_digs,num_digs] at h5
    exact⟨h5,below_drewN (Below.refl _ _) k,below_drewN hW k⟩)
  have R:=Hd (rc_same hq hq' hp0 hp0' (by rw [HS.out,HT.out]));have HU:=Hd hu;have HV:=Hd hv;have HU':=Hd hu';have HV':=Hd hv';have HTm:=Hd HTm;have HCm:=Hd HCm;have k0:=Q1.out.cell 0;have k1:=Q1.out.cell 1;have k2:=Q1.out.cell 2;have j1:=Q2.out.cell 1;have j2:=Q2.out.cell 2;have b2:=B2.out
  simp at k0 k1 k2 j1 j2
  clear hu hv hu' hv' hp hq2 hp' hq2' hp0 hp0' H H' hq hq' Q1 Q2;go_wp2_with fail
  go_region_held3 (fun w'=>w'.cell? ⟨w.heap.size,0,none⟩=some (.bool neg)∧w'.cell? ⟨w.heap.size,1,none⟩=some (.slice A n c)∧w'.cell? ⟨w.heap.size,2,none⟩=some (.slice B m d)∧w'.cell? ⟨w.heap.size+1,1,none⟩=some (.slice A' n' c')∧w'.cell? ⟨w.heap.size+1,2,none⟩=some (.slice B' m' d')∧Below w.heap.size w w')
   (first | (exact heldc (by assumption) hb1) | (exact⟨k0,k1,k2,j1,j2,b2.drew⟩))
   (first | (go_at_call 95;refine (HTm.out _ _ _ _ _ _ _ ?_ ?_ ?_ ?_ ?_ ?_ ?_).mono ?_;rotate_left;rotate_left;(first | exact B2.out.drew | assumption);(first | exact HU.out | exact HU'.out);(first | exact HV.out | exact HV'.out);(assumption);(assumption);rintro e w1 ⟨A1,n1,c1,rfl,hu1,hb1,hbw⟩) | (go_at_call 98;refine (HCm.out _ _ _ _ _ _ _ ?_ ?_ ?_ ?_ ?_).mono ?_;rotate_left;rotate_left;(assumption);(exact U32s.below (by assumption) hb1);(assumption);rintro e w1 ⟨rfl,hb1,hbw⟩))
  rename_i hHeld;have kk:=hHeld.1;have BW:=Hd hbw;have hc:=cmp3_range (p*q') (p'*q)
  obtain⟨r,hr⟩:∃ r,rc (rv neg p q) (rv neg' p' q')=r:=⟨_,rfl⟩
  have R:=R.out;rw [hr,HS.out] at R
  obtain⟨c,hcc⟩:∃ c,cmp3 (p*q') (p'*q)=c:=⟨_,rfl⟩
  rw [hcc] at R hc ⊢;have Hr:=Hd hr
  have r0:s=0→r=0:=by intro h;rw [if_pos h] at R;exact R
  have r1:s≠0→neg=true→r=-c:=by intro h h2;rw [if_neg h,if_pos h2] at R;exact R
  have r2:s≠0→neg=false→r=c:=by intro h h2;rw [if_neg h,h2] at R;exact R
  have R0:=Hd r0;have R1:=Hd r1;have R2:=Hd r2;clear R r0 r1 r2 hr hcc hHeld hbw hb1 hu1 HS HT HCm HTm HU HV HU' HV' k0 k1 k2 j1 j2 b2
  rcases Int.lt_trichotomy s 0 with hs | hs | hs
  ·have hs1:(s == 0)=false:=by simp;omega
   cases neg
   ·go_wp2
    go_ret
    exact⟨ret_int (Hr.out.trans (R2.out (by omega) (by simp))).symm,BW.out⟩
   ·go_wp2
    go_ret
    exact⟨ret_int (Hr.out.trans (R1.out (by omega) (by simp))).symm,BW.out⟩
  ·subst hs
   cases neg
   ·go_wp2
    go_ret
    exact⟨ret_int (Hr.out.trans (R0.out (by simp))).symm,BW.out⟩
   ·go_wp2
    go_ret
    exact⟨ret_int (Hr.out.trans (R0.out (by simp))).symm,BW.out⟩
  ·have hs1:(s == 0)=false:=by simp;omega
   cases neg
   ·go_wp2
    go_ret
    exact⟨ret_int (Hr.out.trans (R2.out (by omega) (by simp))).symm,BW.out⟩
   ·go_wp2
    go_ret
    exact⟨ret_int (Hr.out.trans (R1.out (by omega) (by simp))).symm,BW.out⟩
 ·have h0':¬ s<t:=by omega
  go_wp2
  go_ret
  exact⟨ret_int (by rw [rc_above (by rw [HS.out,HT.out];exact h0)]),B2.out⟩
end
end Go.Proofs.YthlmlmfebpjgdaaGreatDoor
