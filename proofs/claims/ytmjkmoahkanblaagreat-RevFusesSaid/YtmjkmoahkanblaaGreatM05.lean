/-
Walks: package vergeref2, FromBits.
Walks: package vergeref2, Int of a natural.
Walks: packages vergeref3 and vergeref6, patterns.
Walks: package vergeref6, intervals of patterns.
Walks: package vergeref6, Read.
-/
import Derived.Test.YtmjkmoahkanblaaGreatM03
import Derived.Test.YtmjkmoahkanblaaGreatM04
set_option linter.unusedSimpArgs false
set_option linter.unusedVariables false
set_option maxHeartbeats 12800000
namespace Go.Proofs.YtmjkmoahkanblaaGreat
open Go.RowKit
def fl(i:Int):Rat:=(val i:Rat)*2^(-1074:Int)
theorem rv_one(neg:Bool)(s k:Nat):rv neg s 1*2^((k:Int) - 1074)=((if neg then -((s*2^k:Nat):Int) else ((s*2^k:Nat):Int):Int):Rat)*2^(-1074:Int):=by
 rw [show ((k:Int) - 1074)=(k:Int)+(-1074) from by omega,zpow_add,zpow_nat];unfold rv;have h1:((1:Nat):Rat)=1:=rfl;have h2:∀ x:Rat,x / ((1:Nat):Rat)=x:=fun x=>div_eq (by rw [h1];decide) (by rw [h1,Rat.mul_one]);rw [h2]
 cases neg
 ·simp only [Bool.false_eq_true,if_false]
  rw [Rat.intCast_natCast,Rat.natCast_mul];grind
 ·simp only [if_true]
  rw [Rat.intCast_neg,Rat.intCast_natCast,Rat.natCast_mul];grind
theorem fl_parts{b e f:Nat}{neg:Bool}(hf:fin b)(he:b / 4503599627370496 % 2048=e)(hff:b % 4503599627370496=f)(hn:sgn b=neg):
  e<2047∧f<4503599627370496∧(0<e→fl (idx b)=rv neg (f+4503599627370496) 1*2^((e:Int) - 1 - 1074))∧(e=0→fl (idx b)=rv neg f 1*2^((e:Int) - 1074)):=by
 unfold fin rungOf M at hf
 have e1:b % 2^63 / 2^52=e:=by omega
 have e2:b % 2^63 % 2^52=f:=by omega
 refine⟨by omega,by omega,fun h=>?_,fun h=>?_⟩
 ·rw [show (e:Int) - 1 - 1074=((e - 1:Nat):Int) - 1074 from by omega,rv_one];unfold fl;have e0:(2:Nat)^52=4503599627370496:=rfl
  have e3:mag (b % 2^63)=(f+4503599627370496)*2^(e - 1):=by
   unfold mag;rw [if_neg (show ¬ b % 2^63<2^52 from by omega),e1,e2,e0,Nat.add_comm 4503599627370496 f]
  rw [val_idx,hn];unfold rungOf;rw [e3]
 ·subst h;rw [show ((0:Nat):Int) - 1074=((0:Nat):Int) - 1074 from rfl,rv_one];unfold fl;rw [val_idx,hn];unfold rungOf;rw [mag_small (by omega),show b % 2^63=f from by omega,Nat.pow_zero,Nat.mul_one]
theorem NewRat.lay{w W w1:World}{K g:Nat}{t:TypeId}{cs:Array Value}{neg:Bool}{vn vd:Value}{x:Rat}(h:RatV w1 K neg vn vd x)(hb:Below w.heap.size w W)(hb1:Below W.heap.size W w1)(hk:Blk W g t cs)(hc:NoWd cs)(hg:w.heap.size≤g):
  NewRat w K x (.returned (.agg #[.bool neg,vn,vd])) (((w1.setCell ⟨g,0,none⟩ (.bool neg)).setCell ⟨g,1,none⟩ vn).setCell ⟨g,2,none⟩ vd):=
 h.ret (hb.trans (hb1.mono hb.size)) (hk.keep hb1) hc hg
theorem pow_34{f K:Nat}(hK:K=34)(hf:f<2^53){x:Int}(hx:x≤971):f*2^x.toNat<2^(32*K):=by
 obtain⟨k,hk⟩:∃ k,x.toNat=k:=⟨_,rfl⟩
 rw [hk];have h1:f*2^k<2^53*2^k:=Nat.mul_lt_mul_of_pos_right hf (Nat.two_pow_pos k);rw [← Nat.pow_add] at h1
 exact Nat.lt_of_lt_of_le h1 (Nat.pow_le_pow_right (by omega) (by omega))
theorem pow_34'{x:Int}{K:Nat}(hK:K=34)(hx:-1074≤x):1*2^(-x).toNat<2^(32*K):=by
 rw [Nat.one_mul]
 exact Nat.pow_lt_pow_right (by omega) (by omega)
theorem frombits_K(K b:Nat)(w:World)(hK:K=34)(hb:b<18446744073709551616)(hf:fin b):
  Calls Tryz.prog 70 #[.int .u64 (b:Int)] w (NewRat w K (fl (idx b))):=by
 obtain⟨e,he⟩:∃ e,b / 4503599627370496 % 2048=e:=⟨_,rfl⟩
 obtain⟨f,hff⟩:∃ f,b % 4503599627370496=f:=⟨_,rfl⟩
 obtain⟨neg,hn⟩:∃ neg,sgn b=neg:=⟨_,rfl⟩
 obtain⟨he1,hf1,v1,v2⟩:=fl_parts hf he hff hn;have m1:=mask11_u64 (x:=b / 4503599627370496) (by omega);rw [he,show ((b / 4503599627370496:Nat):Int)=(b:Int) / 4503599627370496 from by omega] at m1;have m2:=mask52_u64 (x:=b) hb;rw [hff] at m2
 have m3:((b:Int) / 9223372036854775808 == 1)=neg:=by
  rw [← hn];unfold sgn
  have:b / 2^63 % 2=b / 9223372036854775808:=by omega
  rw [this]
  rcases Nat.eq_zero_or_pos (b / 9223372036854775808) with h | h
  ·rw [h,show (b:Int) / 9223372036854775808=0 from by omega];rfl
  ·rw [show b / 9223372036854775808=1 from by omega,show (b:Int) / 9223372036854775808=1 from by omega];rfl
 obtain⟨x,hx⟩:∃ x,fl (idx b)=x:=⟨_,rfl⟩
 rw [hx] at v1 v2 ⊢;have HK34:=Hd hK;have V1:=Hd v1;have V2:=Hd v2;have M1:=Hd m1;have M2:=Hd m2;have M3:=Hd m3;have ba:=below_alloc w (.cells #[.bool false,.slice none 0 0,.slice none 0 0] 60);have BA:=Hd ba;have BLK:=Hd (Blk.new w 60 #[.bool false,.slice none 0 0,.slice none 0 0]);clear v1 v2 hx hn hff he hf ba m1 m2 m3 hK
 rcases Nat.eq_zero_or_pos e with h0 | h0
 ·have hs:=small_any (f) (w.alloc (.cells #[.bool false,.slice none 0 0,.slice none 0 0] 60)) (by omega);have HS:=Hd hs;clear hs;have m1:=M1.out;have m2:=M2.out;have m3:=M3.out
  have hei:(e:Int)≤0:=by omega
  have H0:=Hd h0;clear h0
  go_enter Tryz.func70,Tryz.ntmps70
  go_wp2_with fail;refine HS.out.mono ?_;rintro e1 w1 ⟨A,n,c,rfl,hu1,hb1⟩;have hn2:n≤2:=hu1.len_le (k:=2) (Nat.lt_of_lt_of_le (show f<2^53 from by omega) (by decide));have hW:Below w.heap.size w (w1.alloc (.cells #[wd 1] 124)):=(BA.out.trans (hb1.mono BA.out.size)).alloc (by have:=BA.out.size;have:=hb1.size;omega) _;have hKK:=(BLK.out.keep hb1).alloc (.cells #[wd 1] 124)
  have HF:=Hd (frac_any neg A (some ⟨w1.heap.size,0,none⟩) n c 1 1 K (f) 1 _ [1] ((e:Int) - 1074) (w1.alloc (.cells #[wd 1] 124)) (hu1.alloc _) (U32s.lit1 w1 124 (a:=1) (by omega)) (by omega) (by omega) (num_digs _) (by decide) (by omega) (by omega) (by omega)
   (pow_34 HK34.out (by omega) (by omega)) (pow_34' HK34.out (by omega)) (by have:=HK34.out;omega))
  have HW:=Hd hW;have HK:=Hd hKK;clear hu1 hb1 hW hKK HS;have m1:=M1.out;have m3:=M3.out;go_wp2_with fail;refine HF.out.mono ?_;rintro e2 w2 ⟨neg2,vn,vd,rfl,hr,hb2⟩;rw [← V2.out H0.out] at hr;obtain⟨A5,n5,c5,A6,n6,c6,rfl,rfl⟩:=hr.shape;have hblk:=HK.out.keep hb2;have k0:=hblk.cell 0;have k1:=hblk.cell 1;have k2:=hblk.cell 2;have f0:=hblk.frozen 0;have f1:=hblk.frozen 1;have f2:=hblk.frozen 2;have hlt:=hblk.lt;have FF:=Hd (NewRat.lay hr HW.out hb2 HK.out NoWd.zero (Nat.le_refl _));clear hblk hb2 hr HF
  simp at k0 k1 k2
  go_wp2;refine bodyPost_ret (v:=.agg #[.bool neg2,.slice A5 n5 c5,.slice A6 n6 c6]) (by simp [results,Tryz.results70,go_sem,k0,k1,k2]) rfl ?_
  exact FF.out
 ·have hs:=small_any (f+4503599627370496) (w.alloc (.cells #[.bool false,.slice none 0 0,.slice none 0 0] 60)) (by omega);rw [show ((f+4503599627370496:Nat):Int)=(f:Int)+4503599627370496 from by omega] at hs;have HS:=Hd hs;clear hs;have m1:=M1.out;have m2:=M2.out;have m3:=M3.out
  have hei:(0:Int)<(e:Int):=by omega
  go_enter Tryz.func70,Tryz.ntmps70
  go_wp2_with fail;refine HS.out.mono ?_;rintro e1 w1 ⟨A,n,c,rfl,hu1,hb1⟩;have hn2:n≤2:=hu1.len_le (k:=2) (Nat.lt_of_lt_of_le (show f+4503599627370496<2^53 from by omega) (by decide));have hW:Below w.heap.size w (w1.alloc (.cells #[wd 1] 124)):=(BA.out.trans (hb1.mono BA.out.size)).alloc (by have:=BA.out.size;have:=hb1.size;omega) _;have hKK:=(BLK.out.keep hb1).alloc (.cells #[wd 1] 124)
  have HF:=Hd (frac_any neg A (some ⟨w1.heap.size,0,none⟩) n c 1 1 K (f+4503599627370496) 1 _ [1] ((e:Int) - 1 - 1074) (w1.alloc (.cells #[wd 1] 124)) (hu1.alloc _) (U32s.lit1 w1 124 (a:=1) (by omega)) (by omega) (by omega) (num_digs _) (by decide) (by omega) (by omega) (by omega)
   (pow_34 HK34.out (by omega) (by omega)) (pow_34' HK34.out (by omega)) (by have:=HK34.out;omega))
  have HW:=Hd hW;have HK:=Hd hKK;clear hu1 hb1 hW hKK HS;have m1:=M1.out;have m3:=M3.out;go_wp2_with fail;refine HF.out.mono ?_;rintro e2 w2 ⟨neg2,vn,vd,rfl,hr,hb2⟩;rw [← V1.out h0] at hr;obtain⟨A5,n5,c5,A6,n6,c6,rfl,rfl⟩:=hr.shape;have hblk:=HK.out.keep hb2;have k0:=hblk.cell 0;have k1:=hblk.cell 1;have k2:=hblk.cell 2;have f0:=hblk.frozen 0;have f1:=hblk.frozen 1;have f2:=hblk.frozen 2;have hlt:=hblk.lt;have FF:=Hd (NewRat.lay hr HW.out hb2 HK.out NoWd.zero (Nat.le_refl _));clear hblk hb2 hr HF
  simp at k0 k1 k2
  go_wp2;refine bodyPost_ret (v:=.agg #[.bool neg2,.slice A5 n5 c5,.slice A6 n6 c6]) (by simp [results,Tryz.results70,go_sem,k0,k1,k2]) rfl ?_
  exact FF.out
theorem frombits_any(b:Nat)(w:World)(hb:b<18446744073709551616)(hf:fin b):
  Calls Tryz.prog 70 #[.int .u64 (b:Int)] w (NewRat w 34 (fl (idx b))):=frombits_K 34 b w rfl hb hf
theorem rv_nat(v:Nat):rv false v 1=(v:Rat):=by
 unfold rv
 exact div_eq (by decide) (by show (v:Rat)=v*1;rw [Rat.mul_one])
theorem int_K(K v:Nat)(w:World)(hK:K=1)(hv:v<4294967296):
  Calls Tryz.prog 149 #[.int .i64 (v:Int)] w (NewRat w K (rv false v 1)):=by
 have hvk:v<2^(32*K):=by subst hK;exact hv
 have h1k:1<2^(32*K):=by subst hK;decide
 have ba:=below_alloc w (.cells #[.bool false,.slice none 0 0,.slice none 0 0] 60);have BA:=Hd ba;have BLK:=Hd (Blk.new w 60 #[.bool false,.slice none 0 0,.slice none 0 0]);have HS:=Hd (small_any v (w.alloc (.cells #[.bool false,.slice none 0 0,.slice none 0 0] 60)) (by omega));have HV:=Hd hvk;have H1:=Hd h1k;have HK34:=Hd hK
 have hv0:(0:Int)≤(v:Int):=by omega
 clear ba hvk h1k hK
 go_enter Tryz.func149,Tryz.ntmps149
 go_wp2_with fail;refine HS.out.mono ?_;rintro e1 w1 ⟨A,n,c,rfl,hu1,hb1⟩;have hW:Below w.heap.size w (w1.alloc (.cells #[wd 1] 124)):=(BA.out.trans (hb1.mono BA.out.size)).alloc (by have:=BA.out.size;have:=hb1.size;omega) _;have hKK:=(BLK.out.keep hb1).alloc (.cells #[wd 1] 124);have HF:=Hd (frac_plain false A (some ⟨w1.heap.size,0,none⟩) n c 1 1 K v 1 (w1.alloc (.cells #[wd 1] 124)) (hu1.alloc _) (by rw [digs_one];exact U32s.lit1 w1 124 (a:=1) (by omega)) (by omega) HV.out H1.out (by have:=HK34.out;omega) (by have:=HK34.out;omega));have HW:=Hd hW;have HK:=Hd hKK;clear hu1 hb1 hW hKK HS;go_wp2_with fail;refine HF.out.mono ?_;rintro e2 w2 ⟨neg2,vn,vd,rfl,hr,hb2⟩;obtain⟨A5,n5,c5,A6,n6,c6,rfl,rfl⟩:=hr.shape;have hblk:=HK.out.keep hb2;have k0:=hblk.cell 0;have k1:=hblk.cell 1;have k2:=hblk.cell 2;have f0:=hblk.frozen 0;have f1:=hblk.frozen 1;have f2:=hblk.frozen 2;have hlt:=hblk.lt;have FF:=Hd (NewRat.lay hr HW.out hb2 HK.out NoWd.zero (Nat.le_refl _));clear hblk hb2 hr HF
 simp at k0 k1 k2
 go_wp2;refine bodyPost_ret (v:=.agg #[.bool neg2,.slice A5 n5 c5,.slice A6 n6 c6]) (by simp [results,Tryz.results149,go_sem,k0,k1,k2]) rfl ?_
 exact FF.out
theorem int_nat(v:Nat)(w:World)(hv:v<4294967296):
  Calls Tryz.prog 149 #[.int .i64 (v:Int)] w (NewRat w 1 (v:Rat)):=by
 have h:=int_K 1 v w rfl hv;rw [rv_nat] at h
 exact h
theorem size_i{b:Nat}(hb:b<18446744073709551616):bits .andNot .u64 (b:Int) 9223372036854775808=((rungOf b:Nat):Int):=by
 have:=u64_andNot_nat b 9223372036854775808 hb (by omega);rw [show (18446744073709551615 - 9223372036854775808:Nat)=2^63 - 1 from rfl,Nat.and_two_pow_sub_one_eq_mod] at this
 exact this
theorem isnan_any(b:Nat)(w:World)(hb:b<18446744073709551616):
  Calls Tryz.prog 195 #[.int .u64 (b:Int)] w fun e w'=>e=.returned (.bool (decide (M<rungOf b)))∧∃ k,w'=w.drewN k:=by
 have H:=Hd (size_i hb)
 go_enter Tryz.func195,Tryz.ntmps195
 go_wp2
 go_ret
 rw [H.out,M_val]
 exact⟨ret_bool (by simp only [decide_eq_decide];omega),0,rfl⟩
theorem isinf_any(b:Nat)(w:World)(hb:b<18446744073709551616):
  Calls Tryz.prog 137 #[.int .u64 (b:Int)] w fun e w'=>e=.returned (.bool (decide (rungOf b=M)))∧∃ k,w'=w.drewN k:=by
 have H:=Hd (size_i hb)
 go_enter Tryz.func137,Tryz.ntmps137
 go_wp2
 go_ret
 rw [H.out,M_val];refine⟨ret_bool ?_,0,rfl⟩;rw [Bool.eq_iff_iff]
 simp only [beq_iff_eq,decide_eq_true_eq]
 omega
theorem plain_any(b:Nat)(w:World)(hb:b<18446744073709551616):
  Calls Tryz.prog 136 #[.int .u64 (b:Int)] w fun e w'=>e=.returned (.int .u64 (pl b:Int))∧∃ k,w'=w.drewN k:=by
 have H:=Hd fun W=>isnan_any b W hb
 rcases Nat.lt_trichotomy b 9223372036854775808 with h | h | h
 all_goals
  first
  | (subst h
     go_enter Tryz.func136,Tryz.ntmps136
     go_wp2
     go_ret
     exact⟨ret_int rfl,0,rfl⟩)
  | (have h1:((b:Int) == 9223372036854775808)=false:=by simp;omega
     have hp:pl b=if M<rungOf b then 9221120237041090561 else b:=by unfold pl;rw [if_neg (by omega)]
     have HP:=Hd hp
     rcases Nat.lt_or_ge M (rungOf b) with h2 | h2
     ·rw [if_pos h2] at hp;rw [decide_eq_true h2] at H;rw [hp];clear h hp HP h2
      go_enter Tryz.func136,Tryz.ntmps136
      go_wp2_with (refine (H.out _).mono ?_;rintro e w1 ⟨rfl,k,rfl⟩)
      go_ret
      exact⟨rfl,k,rfl⟩
     ·rw [if_neg (by omega)] at hp;rw [decide_eq_false (show ¬ M<rungOf b from by omega)] at H;rw [hp];clear h hp HP h2
      go_enter Tryz.func136,Tryz.ntmps136
      go_wp2_with (refine (H.out _).mono ?_;rintro e w1 ⟨rfl,k,rfl⟩)
      go_ret
      exact⟨rfl,k,rfl⟩)
theorem key_any(b:Nat)(w:World)(hb:b<18446744073709551616):
  Calls Tryz.prog 231 #[.int .u64 (b:Int)] w fun e w'=>e=.returned (.int .u64 (keyOf b:Int))∧∃ k,w'=w.drewN k:=by
 have H:=Hd fun W=>plain_any b W hb;have hp:=pl_lt b hb
 obtain⟨p,hpp⟩:∃ p,pl b=p:=⟨_,rfl⟩
 have hk:keyOf b=if 9223372036854775808≤p then 18446744073709551615 - p else p+9223372036854775808:=by unfold keyOf;rw [hpp]
 rw [hpp] at H hp;rw [hk];have HP:=Hd hp
 obtain⟨r,hr⟩:∃ r,(if 9223372036854775808≤p then 18446744073709551615 - p else p+9223372036854775808)=r:=⟨_,rfl⟩
 rw [hr]
 rcases Nat.lt_or_ge p 9223372036854775808 with h | h
 ·rw [if_neg (by omega)] at hr
  have h1:decide (9223372036854775808≤(p:Int))=false:=by simp;omega
  have h2:bits .or .u64 (p:Int) 9223372036854775808=((r:Nat):Int):=by
   have:=u64_or_nat p 9223372036854775808 hp (by omega);rw [Nat.or_comm,nat_join 63 _ _ (by decide) (by exact h),Nat.add_comm,hr] at this;exact this
  clear h hp hk hpp hr
  go_enter Tryz.func231,Tryz.ntmps231
  go_wp2_with fail;refine (H.out _).mono ?_;rintro e w1 ⟨rfl,k,rfl⟩;go_wp2
  go_ret
  exact⟨ret_int rfl,k,rfl⟩
 ·rw [if_pos h] at hr
  have h1:(9223372036854775808≤(p:Int)):=by omega
  have h2:bits .xor .u64 18446744073709551615 (p:Int)=((r:Nat):Int):=by
   have:=u64_xor_nat 18446744073709551615 p (by omega) hp;rw [show (18446744073709551615:Nat)=2^64 - 1 from rfl] at this;rw [show ((18446744073709551615:Int))=((2^64 - 1:Nat):Int) from rfl,this,← hr]
   congr 1
   apply Nat.eq_of_testBit_eq
   intro i;rw [Nat.testBit_xor,Nat.testBit_two_pow_sub_one,show 2^64 - 1 - p=2^64 - (p+1) from by omega,Nat.testBit_two_pow_sub_succ hp]
   by_cases hi:i<64
   ·simp [hi]
   ·simp [hi]
    exact Nat.testBit_lt_two_pow (Nat.lt_of_lt_of_le hp (Nat.pow_le_pow_right (n:=2) (by omega) (by omega:64≤i)))
  have H2:=Hd h2;clear h hp hk hpp h2 hr
  go_enter Tryz.func231,Tryz.ntmps231
  go_wp2_with (refine (H.out _).mono ?_;rintro e w1 ⟨rfl,k,rfl⟩)
  go_ret
  exact⟨ret_int H2.out,k,rfl⟩
theorem above_any(x y:Nat)(w:World)(hx:x<18446744073709551616)(hy:y<18446744073709551616):
  Calls Tryz.prog 196 #[.int .u64 (x:Int),.int .u64 (y:Int)] w fun e w'=>e=.returned (.bool (decide (rungOf x≤M∧rungOf y≤M∧idx y<idx x)))∧∃ k,w'=w.drewN k:=by
 have H1:=Hd fun W=>isnan_any x W hx;have H2:=Hd fun W=>isnan_any y W hy;have K1:=Hd fun W=>key_any x W hx;have K2:=Hd fun W=>key_any y W hy
 by_cases h1:M<rungOf x
 ·rw [decide_eq_true h1] at H1;rw [decide_eq_false (show ¬ (rungOf x≤M∧rungOf y≤M∧idx y<idx x) from by omega)];clear h1
  go_enter Tryz.func196,Tryz.ntmps196
  go_wp2_with (first | (go_at_call 195;refine (H1.out _).mono ?_;rintro e w1 ⟨rfl,k,rfl⟩))
  go_ret
  exact⟨rfl,k,rfl⟩
 ·rw [decide_eq_false h1] at H1
  by_cases h2:M<rungOf y
  ·rw [decide_eq_true h2] at H2;rw [decide_eq_false (show ¬ (rungOf x≤M∧rungOf y≤M∧idx y<idx x) from by omega)];clear h1 h2
   go_enter Tryz.func196,Tryz.ntmps196
   go_wp2_with fail;refine (H1.out _).mono ?_;rintro e w1 ⟨rfl,k,rfl⟩;go_wp2_with fail;refine (H2.out _).mono ?_;rintro e w1 ⟨rfl,k2,rfl⟩;go_wp2
   go_ret
   exact⟨rfl,k+k2,rfl⟩
  ·rw [decide_eq_false h2] at H2;have hk:=key_lt hy hx (by omega) (by omega)
   have hd:decide (rungOf x≤M∧rungOf y≤M∧idx y<idx x)=decide (keyOf y<keyOf x):=by
    rw [decide_eq_decide];omega
   rw [hd];clear h1 h2 hk hd
   go_enter Tryz.func196,Tryz.ntmps196
   go_wp2_with fail;refine (H1.out _).mono ?_;rintro e w1 ⟨rfl,k,rfl⟩;go_wp2_with fail;refine (H2.out _).mono ?_;rintro e w1 ⟨rfl,k2,rfl⟩;go_wp2_with fail;refine (K1.out _).mono ?_;rintro e w1 ⟨rfl,k3,rfl⟩;go_wp2_with fail;refine (K2.out _).mono ?_;rintro e w1 ⟨rfl,k4,rfl⟩;go_wp2
   go_ret
   exact⟨rfl,k+k2+k3+k4,rfl⟩
theorem empty6(w:World):
  Calls Tryz.prog 66 #[] w fun e w'=>e=.returned (.agg #[.int .u64 9218868437227405312,.int .u64 18442240474082181120])∧Below w.heap.size w w':=by
 have hb:=Hd fun cs=>below_alloc w (.cells cs 24)
 go_enter Tryz.func66,Tryz.ntmps66
 go_wp2;refine bodyPost_ret (v:=.agg #[.int .u64 9218868437227405312,.int .u64 18442240474082181120]) (by simp [results,Tryz.results66,go_sem]) rfl ?_
 exact⟨rfl,hb.out _⟩
theorem entire6(w:World):
  Calls Tryz.prog 68 #[] w fun e w'=>e=.returned (.agg #[.int .u64 18442240474082181120,.int .u64 9218868437227405312])∧Below w.heap.size w w':=by
 have hb:=Hd fun cs=>below_alloc w (.cells cs 24)
 go_enter Tryz.func68,Tryz.ntmps68
 go_wp2;refine bodyPost_ret (v:=.agg #[.int .u64 18442240474082181120,.int .u64 9218868437227405312]) (by simp [results,Tryz.results68,go_sem]) rfl ?_
 exact⟨rfl,hb.out _⟩
theorem sound6(x y:Nat)(w:World)(hx:x<18446744073709551616)(hy:y<18446744073709551616):
  Calls Tryz.prog 135 #[.agg #[.int .u64 (x:Int),.int .u64 (y:Int)]] w fun e w'=>e=.returned (.bool (snd x y))∧Below w.heap.size w w':=by
 have hb:=Hd (below_alloc w (.cells #[.int .u64 (x:Int),.int .u64 (y:Int)] 24));have H1:=Hd fun W=>isnan_any x W hx;have H2:=Hd fun W=>isnan_any y W hy;have H3:=Hd fun W=>above_any x y W hx hy
 obtain⟨s,hs⟩:∃ s,snd x y=s:=⟨_,rfl⟩
 rw [hs]
 by_cases h1:M<rungOf x
 ·rw [decide_eq_true h1] at H1
  have h0:s=false:=by rw [← hs];exact decide_eq_false (by omega)
  subst h0;clear h1 hs
  go_enter Tryz.func135,Tryz.ntmps135
  go_wp2_with fail;refine (H1.out _).mono ?_;rintro e w1 ⟨rfl,k,rfl⟩;go_wp2
  go_ret
  exact⟨rfl,below_drewN hb.out k⟩
 ·rw [decide_eq_false h1] at H1
  by_cases h2:M<rungOf y
  ·rw [decide_eq_true h2] at H2
   have h0:s=false:=by rw [← hs];exact decide_eq_false (by omega)
   subst h0;clear h1 h2 hs
   go_enter Tryz.func135,Tryz.ntmps135
   go_wp2_with fail;refine (H1.out _).mono ?_;rintro e w1 ⟨rfl,k,rfl⟩;go_wp2_with fail;refine (H2.out _).mono ?_;rintro e w1 ⟨rfl,k2,rfl⟩;go_wp2
   go_ret
   exact⟨rfl,below_drewN hb.out _⟩
  ·rw [decide_eq_false h2] at H2
   by_cases h3:idx y<idx x
   ·rw [decide_eq_true (show rungOf x≤M∧rungOf y≤M∧idx y<idx x from⟨by omega,by omega,h3⟩)] at H3
    have h0:s=false:=by rw [← hs];exact decide_eq_false (by omega)
    subst h0;clear h1 h2 h3 hs
    go_enter Tryz.func135,Tryz.ntmps135
    go_wp2_with fail;refine (H1.out _).mono ?_;rintro e w1 ⟨rfl,k,rfl⟩;go_wp2_with fail;refine (H2.out _).mono ?_;rintro e w1 ⟨rfl,k2,rfl⟩;go_wp2_with fail;refine (H3.out _).mono ?_;rintro e w1 ⟨rfl,k3,rfl⟩;go_wp2
    go_ret
    exact⟨rfl,below_drewN hb.out _⟩
   ·rw [decide_eq_false (show ¬ (rungOf x≤M∧rungOf y≤M∧idx y<idx x) from fun h=>h3 h.2.2)] at H3;have c1:=pat_cases hx;have c2:=pat_cases hy
    have h0:s=((!((x:Int) == 9218868437227405312)) && (!((y:Int) == 18442240474082181120))):=by
     rw [← hs];unfold snd;rw [M_val] at *;rw [Bool.eq_iff_iff]
     simp only [decide_eq_true_eq,Bool.and_eq_true,Bool.not_eq_true',beq_eq_false_iff_ne,ne_eq]
     omega
    have HS:=Hd h0;clear h1 h2 h3 hs c1 c2 h0
    by_cases h4:x=9218868437227405312
    ·subst h4
     go_enter Tryz.func135,Tryz.ntmps135
     go_wp2_with fail;refine (H1.out _).mono ?_;rintro e w1 ⟨rfl,k,rfl⟩;go_wp2_with fail;refine (H2.out _).mono ?_;rintro e w1 ⟨rfl,k2,rfl⟩;go_wp2_with fail;refine (H3.out _).mono ?_;rintro e w1 ⟨rfl,k3,rfl⟩;go_wp2
     go_ret
     exact⟨ret_bool HS.out.symm,below_drewN hb.out _⟩
    ·have h5:((x:Int) == 9218868437227405312)=false:=by simp;omega
     rw [h5] at HS
     have h6:((x:Int) != 9218868437227405312)=true:=by simp;omega
     have HS2:=Hd (show s=((y:Int) != 18442240474082181120) from by rw [HS.out];rfl);clear h4 h5 HS
     go_enter Tryz.func135,Tryz.ntmps135
     go_wp2_with fail;refine (H1.out _).mono ?_;rintro e w1 ⟨rfl,k,rfl⟩;go_wp2_with fail;refine (H2.out _).mono ?_;rintro e w1 ⟨rfl,k2,rfl⟩;go_wp2_with fail;refine (H3.out _).mono ?_;rintro e w1 ⟨rfl,k3,rfl⟩;go_wp2
     go_ret
     exact⟨ret_bool HS2.out.symm,below_drewN hb.out _⟩
theorem plain_b(b:Nat)(w:World)(hb:b<18446744073709551616):
  Calls Tryz.prog 136 #[.int .u64 (b:Int)] w fun e w'=>e=.returned (.int .u64 (pl b:Int))∧Below w.heap.size w w':=
 (plain_any b w hb).mono (by rintro e w' ⟨h,k,rfl⟩;exact⟨h,below_drewN (Below.refl _ _) k⟩)
theorem read6(x y:Nat)(w:World)(hx:x<18446744073709551616)(hy:y<18446744073709551616):
  Calls Tryz.prog 65 #[.agg #[.int .u64 (x:Int),.int .u64 (y:Int)]] w fun e w'=>e=.returned (.agg #[.int .u64 (pat (rd x y).1:Int),.int .u64 (pat (rd x y).2:Int)])∧Below w.heap.size w w':=by
 have ba:Below w.heap.size w ((w.alloc (.cells #[.int .u64 (x:Int),.int .u64 (y:Int)] 24)).alloc (.cells #[.int .u64 0,.int .u64 0] 24)):=(below_alloc w _).alloc (by simp) _;have HS:=Hd fun W=>sound6 x y W hx hy;have g1:=(Blk.new w 24 #[.int .u64 (x:Int),.int .u64 (y:Int)]).alloc (.cells #[.int .u64 0,.int .u64 0] 24);have g2:=Blk.new2 w (.cells #[.int .u64 (x:Int),.int .u64 (y:Int)] 24) 24 #[.int .u64 0,.int .u64 0];have G1:=Hd g1;have G2:=Hd g2;have BA:=Hd ba;clear g1 g2 ba
 obtain⟨s,hs⟩:∃ s,snd x y=s:=⟨_,rfl⟩
 rw [hs] at HS;unfold rd;rw [hs]
 cases s
 ·simp only [Bool.false_eq_true,if_false]
  rw [pat_max,pat_min];clear hs;have HE:=Hd empty6
  go_enter Tryz.func65,Tryz.ntmps65
  go_wp2_with fail;refine (HS.out _).mono ?_;rintro e w1 ⟨rfl,hb1⟩;have B1:=Hd (BA.out.trans (hb1.mono BA.out.size));have K1:=Hd (HasBlk.of (n:=2) (G2.out.keep hb1) rfl rfl);clear hb1;go_wp2_with fail;refine (HE.out _).mono ?_;rintro e w2 ⟨rfl,hb2⟩;have B2:=Hd (B1.out.trans (hb2.mono B1.out.size));have K2:=Hd (K1.out.keep hb2);clear hb2;obtain⟨cs,hblk,hsz,hnw⟩:=K2.out;have c0:=hblk.someCell (j:=0) (by omega);have c1:=hblk.someCell (j:=1) (by omega);have f0:=hblk.frozen 0;have f1:=hblk.frozen 1;have k0:=sets_cell hblk [.int .u64 9218868437227405312,.int .u64 18442240474082181120] 0 (by decide) (by simp;omega);have k1:=sets_cell hblk [.int .u64 9218868437227405312,.int .u64 18442240474082181120] 1 (by decide) (by simp;omega);have F:=Hd (below_sets (w0:=w) (r:=w.heap.size+1) (by omega) [.int .u64 9218868437227405312,.int .u64 18442240474082181120] 0 _ B2.out)
  simp [sets] at k0 k1
  clear hblk hsz hnw;go_wp2;refine bodyPost_ret (v:=.agg #[.int .u64 9218868437227405312,.int .u64 18442240474082181120]) (by simp [results,Tryz.results65,go_sem,k0,k1]) rfl ?_
  exact⟨rfl,F.out⟩
 ·simp only [if_true]
  have hd:=of_decide_eq_true hs;rw [← pl_real hx hd.1,← pl_real hy hd.2.1];clear hs hd;have P1:=Hd fun W=>plain_b x W hx;have P2:=Hd fun W=>plain_b y W hy
  go_enter Tryz.func65,Tryz.ntmps65
  go_wp2_with fail;refine (HS.out _).mono ?_;rintro e w1 ⟨rfl,hb1⟩
  have g0:Blk w1.drew w.heap.size 24 #[.int .u64 (x:Int),.int .u64 (y:Int)]∧HasBlk w1.drew (w.heap.size+1) 24 2∧Below w.heap.size w w1.drew:=⟨G1.out.keep hb1.drew,HasBlk.of (G2.out.keep hb1.drew) rfl rfl,(BA.out.trans (hb1.mono BA.out.size)).drew⟩
  clear hb1;go_wp2_with fail;refine wp_region_held_drew (S:=fun W'=>Blk W' w.heap.size 24 #[.int .u64 (x:Int),.int .u64 (y:Int)]∧HasBlk W' (w.heap.size+1) 24 2∧Below w.heap.size w W') (by kernel_rfl) (g0) (fun hHeld=>?_);refine tk 0 ?_;(try simp only [Act.put,List.setIfInBounds_toArray,List.set_cons_zero,List.set_cons_succ]);refine tk 1 ?_ (hv:=by intro W2 hSw;have q:=hSw.1.cell 0;have q1:=hSw.1.cell 1;simp at q q1;go_simp;(try with_reducible rfl));(try simp only [Act.put,List.setIfInBounds_toArray,List.set_cons_zero,List.set_cons_succ]);refine tk 3 ?_;(try simp only [Act.put,List.setIfInBounds_toArray,List.set_cons_zero,List.set_cons_succ]);refine tk 4 ?_ (hv:=by intro W2 hSw;have q:=hSw.1.cell 0;have q1:=hSw.1.cell 1;simp at q q1;go_simp;(try with_reducible rfl));(try simp only [Act.put,List.setIfInBounds_toArray,List.set_cons_zero,List.set_cons_succ]);refine rdy 2 (fun KK hKK=>?_);go_simp;refine (P1.out _).mono ?_;rintro e w2 ⟨rfl,hb2⟩;go_wp2_with fail;refine hKK.out _ _ (⟨hHeld.1.keep hb2,hHeld.2.1.keep hb2,hHeld.2.2.trans (hb2.mono hHeld.2.2.size)⟩) (fun _=>?_);clear hKK KK hHeld;rename_i hHeld;(try simp only [Act.put,List.setIfInBounds_toArray,List.set_cons_zero,List.set_cons_succ]);refine rdy 5 (fun KK hKK=>?_);go_simp;refine (P2.out _).mono ?_;rintro e w3 ⟨rfl,hb3⟩;go_wp2_with fail;refine hKK.out _ _ (⟨hHeld.1.keep hb3,hHeld.2.1.keep hb3,hHeld.2.2.trans (hb3.mono hHeld.2.2.size)⟩) (fun _=>?_);clear hKK KK hHeld;rename_i hHeld;(try simp only [Act.put,List.setIfInBounds_toArray,List.set_cons_zero,List.set_cons_succ])
  refine tk 6 ?_;(try simp only [Act.put,List.setIfInBounds_toArray,List.set_cons_zero,List.set_cons_succ]);refine rdy 7 (fun KK hKK=>?_);have c0:=hHeld.2.1.someCell 0 (by decide);have c1:=hHeld.2.1.someCell 1 (by decide);have f0:=hHeld.2.1.frozen 0;have f1:=hHeld.2.1.frozen 1;have HK:=Hd (hHeld.2.1.setCell [.int .u64 (pl x:Int),.int .u64 (pl y:Int)] rfl);have F:=Hd (below_sets (w0:=w) (r:=w.heap.size+1) (by omega) [.int .u64 (pl x:Int),.int .u64 (pl y:Int)] 0 _ hHeld.2.2);go_simp;refine hKK.out _ _ (show _∧_ from⟨hHeld.1.other (by omega) 0 [.int .u64 (pl x:Int),.int .u64 (pl y:Int)],hHeld.2.1.sets [.int .u64 (pl x:Int),.int .u64 (pl y:Int)] rfl rfl,below_sets (by omega) [.int .u64 (pl x:Int),.int .u64 (pl y:Int)] 0 _ hHeld.2.2⟩) (fun _=>?_);clear hKK KK hHeld;rename_i hHeld;(try simp only [Act.put,List.setIfInBounds_toArray,List.set_cons_zero,List.set_cons_succ]);refine wpAnyH_done (by kernel_rfl) ?_ _;have k0:=HK.out 0 (by decide);have k1:=HK.out 1 (by decide)
  simp [sets] at k0 k1
  clear hHeld HK;go_wp2;refine bodyPost_ret (v:=.agg #[.int .u64 (pl x:Int),.int .u64 (pl y:Int)]) (by simp [results,Tryz.results65,go_sem,k0,k1]) rfl ?_
  exact⟨rfl,F.out⟩
end Go.Proofs.YtmjkmoahkanblaaGreat
