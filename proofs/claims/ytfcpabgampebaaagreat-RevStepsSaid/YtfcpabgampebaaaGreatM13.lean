/-
Walks: package vergeref10, power (of exponent one).
Walks: package vergeref10, against.
Walks: package vergeref10, Within of pieces whose bounds are numbers or infinities.
-/
import Derived.Test.YtfcpabgampebaaaGreatM03
import Derived.Test.YtfcpabgampebaaaGreatM09
import Derived.Test.YtfcpabgampebaaaGreatM02
import Derived.Deep.DeepCutAuto
set_option linter.unusedSimpArgs false
set_option linter.unusedVariables false
set_option maxHeartbeats 12800000
namespace Go.Proofs.YtfcpabgampebaaaGreat
open Go.RowKit
theorem rc_false{p q p' q':Nat}(hq:0<q)(hq':0<q'):rc (rv false p q) (rv false p' q')=cmp3 (p*q') (p'*q):=by
 have h1:=rv_lt_false (p:=p) (p':=p') hq hq';have h2:=rv_lt_false (p:=p') (p':=p) hq' hq;unfold rc cmp3
 by_cases a:p*q'<p'*q
 ·rw [if_pos (h1.2 a),if_pos a]
 ·rw [if_neg (fun h=>a (h1.1 h)),if_neg a]
  by_cases b:p'*q<p*q'
  ·rw [if_pos (h2.2 b),if_pos b]
  ·rw [if_neg (fun h=>b (h2.1 h)),if_neg b]
theorem pw_above{a b:Nat}{E:Int}(ha:0<a)(h:(blen b:Int)+1<(blen a:Int)+E):cmp3 (a*2^E.toNat) (b*2^(-E).toNat)=1:=by
 refine cmp3_gt ?_;obtain⟨L,e1,a1,a2⟩:=blen_bounds ha;have b2:=lt_pow_blen b
 rcases Int.lt_or_le E 0 with h0 | h0
 ·rw [show E.toNat=0 from by omega,Nat.pow_zero,Nat.mul_one]
  calc b*2^(-E).toNat<2^(blen b)*2^(-E).toNat:=Nat.mul_lt_mul_of_pos_right b2 (Nat.two_pow_pos _)
   _=2^(blen b+(-E).toNat):=by rw [← Nat.pow_add]
   _≤2^L:=Nat.pow_le_pow_right (by omega) (by omega)
   _≤a:=a1
 ·rw [show (-E).toNat=0 from by omega,Nat.pow_zero,Nat.mul_one]
  calc b<2^(blen b):=b2
   _≤2^(L+E.toNat):=Nat.pow_le_pow_right (by omega) (by omega)
   _=2^L*2^E.toNat:=by rw [Nat.pow_add]
   _≤a*2^E.toNat:=Nat.mul_le_mul_right _ a1
theorem pw_below{a b:Nat}{E:Int}(h:(blen a:Int)+E<(blen b:Int) - 1)(hb:0<b):cmp3 (a*2^E.toNat) (b*2^(-E).toNat)=-1:=by
 refine cmp3_lt ?_;obtain⟨L,e1,b1,b2⟩:=blen_bounds hb;have a2:=lt_pow_blen a
 rcases Int.lt_or_le E 0 with h0 | h0
 ·rw [show E.toNat=0 from by omega,Nat.pow_zero,Nat.mul_one]
  calc a<2^(blen a):=a2
   _≤2^(L+(-E).toNat):=Nat.pow_le_pow_right (by omega) (by omega)
   _=2^L*2^(-E).toNat:=by rw [Nat.pow_add]
   _≤b*2^(-E).toNat:=Nat.mul_le_mul_right _ b1
 ·rw [show (-E).toNat=0 from by omega,Nat.pow_zero,Nat.mul_one]
  calc a*2^E.toNat<2^(blen a)*2^E.toNat:=Nat.mul_lt_mul_of_pos_right a2 (Nat.two_pow_pos _)
   _=2^(blen a+E.toNat):=by rw [← Nat.pow_add]
   _≤2^L:=Nat.pow_le_pow_right (by omega) (by omega)
   _≤b:=b1
theorem pw_rc{F p q:Nat}{E:Int}{x:Rat}(hq:0<q)(hx:x=rv false F 1*2^E):rc x (rv false p q)=cmp3 (F*q*2^E.toNat) (p*2^(-E).toNat):=by
 have:=rv_scale false (p:=F) (q:=1) (by omega) E;rw [Nat.one_mul] at this;rw [hx,← this,rc_false (Nat.two_pow_pos _) hq]
 congr 1
 rw [Nat.mul_assoc,Nat.mul_comm (2^E.toNat) q,← Nat.mul_assoc]
set_option maxRecDepth 4000 in
theorem power_fin(K b:Nat)(A B:Option Addr)(n c m d p q:Nat)(w:World)(hb:b<9218868437227405312)(hb0:0<b)(hu:U32s w A n c (digs p))(hv:U32s w B m d (digs q))(hp:0<p)(hq:0<q)(hpK:p<2^(32*K))(hqK:q<2^(32*K))(hK:K≤1048576):
  Calls Tryz.prog 111 #[.int .u64 (b:Int),.int .i64 1,.agg #[.bool false,.slice A n c,.slice B m d]] w fun e w'=>e=.returned (.int .i64 (rc (fl (b:Int)) (rv false p q)))∧Below w.heap.size w w':=by
 have hc:=pat_cases (b:=b) (by omega)
 have hfin:fin b:=by show rungOf b<M;rw [M_val];omega
 have hidx:idx b=(b:Int):=by omega
 have hsg:sgn b=false:=by
  rcases hc with h | h
  ·exact h.2.2.1
  ·omega
 obtain⟨e0,he⟩:∃ e,b / 4503599627370496 % 2048=e:=⟨_,rfl⟩
 obtain⟨f0,hff⟩:∃ f,b % 4503599627370496=f:=⟨_,rfl⟩
 obtain⟨he1,hf1,v1,v2⟩:=fl_parts hfin he hff hsg;rw [hidx] at v1 v2
 have he':b / 4503599627370496=e0:=by omega
 have m1:(b:Int) / 4503599627370496=(e0:Int):=by omega
 have m2:=mask52_u64 (x:=b) (by omega);rw [hff] at m2
 obtain⟨F,E,hF0,hF,hE1,hE2,hfl,hFe⟩:∃ (F:Nat) (E:Int),0<F∧F<9007199254740992∧-1074≤E∧E≤971∧fl (b:Int)=rv false F 1*2^E∧((0<e0∧F=f0+4503599627370496∧(e0:Int) - 1 - 1074=E)∨(e0=0∧F=f0∧(e0:Int) - 1074=E)):=by
  rcases Nat.eq_zero_or_pos e0 with h | h
  ·exact⟨f0,(e0:Int) - 1074,by omega,by omega,by omega,by omega,v2 h,.inr ⟨h,rfl,rfl⟩⟩
  ·exact⟨f0+4503599627370496,(e0:Int) - 1 - 1074,by omega,by omega,by omega,by omega,v1 h,.inl ⟨h,rfl,rfl⟩⟩
 rw [pw_rc hq hfl];have hn1:=hu.len_le hpK;have hm1:=hv.len_le hqK;have HU:=Hd hu;have HV:=Hd hv
 have haK:F*q<2^(32*(K+2)):=by
  calc F*q<2^64*2^(32*K):=Nat.mul_lt_mul'' (by omega) hqK
   _=2^(32*(K+2)):=by rw [← Nat.pow_add];congr 1;omega
 have bp:blen p≤33554432:=Nat.le_trans (blen_le_iff.2 hpK) (by omega);have ba:blen (F*q)≤33554496:=Nat.le_trans (blen_le_iff.2 haK) (by omega);have hab:0<F*q:=Nat.mul_pos hF0 hq;have HSM:=Hd fun W=>small_any F W (by omega)
 obtain⟨a,ha⟩:∃ a,F*q=a:=⟨_,rfl⟩
 have T0:∀ (W:World) (A1:Option Addr) (n1 c1:Nat),Below w.heap.size w W→U32s W A1 n1 c1 (digs F)→Calls Tryz.prog 54 #[.slice A1 n1 c1,.slice B m d] W (NewU32 W (digs a)):=by
  intro W A1 n1 c1 hW h1;have:=times_any A1 B n1 c1 m d _ _ W h1 (HV.out.below hW) (by have:=h1.len_le (k:=2) (Nat.lt_of_lt_of_le hF (by decide));omega) (by omega);rw [num_digs,num_digs,ha] at this
  exact this
 have P0:∀ (W:World) (A1:Option Addr) (n1 c1:Nat),U32s W A1 n1 c1 (digs F)→Calls Tryz.prog 127 #[.slice A1 n1 c1,.int .i64 1] W (NewU32 W (digs F)):=by
  intro W A1 n1 c1 h1;have h2:F<2^(32*2):=Nat.lt_of_lt_of_le hF (by decide);have:=power_any A1 n1 c1 1 2 _ W h1 (by have:=h1.len_le h2;omega) (by rw [num_digs];exact hF0) (by rw [num_digs];exact h2) (by rw [num_digs,Nat.pow_one];exact h2) (by omega) (by omega);rw [num_digs,Nat.pow_one] at this
  exact this
 rw [ha] at haK ba hab ⊢;have TT:=Hd T0;have PT:=Hd P0;have PA:=Hd fun h=>pw_above (b:=p) (E:=E) hab h;have PB:=Hd fun h=>pw_below (a:=a) (E:=E) h hp
 obtain⟨r,hr⟩:∃ r,cmp3 (a*2^E.toNat) (p*2^(-E).toNat)=r:=⟨_,rfl⟩
 rw [hr] at PA PB ⊢;have HR:=Hd hr
 obtain⟨K2,hK2⟩:∃ x,K+2=x:=⟨_,rfl⟩
 rw [hK2] at haK
 have hK3:K2≤1048578:=by omega
 have HAK:=Hd haK;clear hK2;have HFE:=Hd hFe;clear hr T0 P0 haK hab hFe hfl v1 v2 hc hfin hidx hsg he hff he' hu hv hp hq hpK hqK ha hF0
 rcases HFE.out with ⟨h0,hFF,hEE⟩ | ⟨h0,hFF,hEE⟩
 ·skip;obtain⟨LB0,LG0_0⟩:=bx1 w #[.bool false,.slice A n c,.slice B m d] 41
  have h1:(f0:Int)+4503599627370496=(F:Int):=by omega
  have h3:(0:Int)<(e0:Int):=by omega
  clear hFF h0;clear HFE
  go_enter Tryz.func111,Tryz.ntmps111
  go_upto_region 7 with fail
  refine wp_region_held_drew (S:=fun W'=>Blk W' w.heap.size 41 #[.bool false,.slice A n c,.slice B m d]∧Below w.heap.size w W') (by kernel_rfl) (by exact⟨LG0_0.out.drew,LB0.out.drew⟩) (fun hHeld=>?_);refine tk 0 ?_;(try simp only [Act.put,lay]);refine tk 2 ?_;(try simp only [Act.put,lay]);refine tk 4 ?_;(try simp only [Act.put,lay]);refine tk 5 ?_ (hv:=by intro W2 hSw;obtain⟨q0,q1,q2⟩:=hSw.1.c3;go_simp;(try with_reducible rfl));(try simp only [Act.put,lay]);refine rdy 1 (fun KK hKK=>?_);go_simp;refine (HSM.out _).mono ?_;rintro e w1 ⟨A1,n1,c1,rfl,hu1,hb1⟩;go_wp2_with fail;refine hKK.out _ _ (⟨hHeld.1.keep hb1,hHeld.2.trans (hb1.mono hHeld.2.size)⟩) (fun _=>?_);clear hKK KK hHeld;rename_i hHeld;(try simp only [Act.put,lay]);refine rdy 3 (fun KK hKK=>?_);go_simp;refine (PT.out _ A1 n1 c1 hu1).mono ?_;rintro e w2 ⟨A2,n2,c2,rfl,hu2,hb2⟩;go_wp2_with fail;refine hKK.out _ _ (⟨hHeld.1.keep hb2,hHeld.2.trans (hb2.mono hHeld.2.size)⟩) (fun _=>?_);clear hKK KK hHeld;rename_i hHeld;(try simp only [Act.put,lay]);refine rdy 6 (fun KK hKK=>?_);go_simp;refine (TT.out _ A2 n2 c2 ?_ hu2).mono ?_;exact hHeld.2;rintro e w3 ⟨A3,n3,c3,rfl,hu3,hb3⟩;go_wp2_with fail;refine hKK.out _ _ (⟨hHeld.1.keep hb3,hHeld.2.trans (hb3.mono hHeld.2.size)⟩) (fun _=>?_);clear hKK KK hHeld;rename_i hHeld;(try simp only [Act.put,lay]);refine tk 7 ?_;(try simp only [Act.put,lay]);refine wpAnyH_done (by kernel_rfl) ?_ _;have LB3:=Hd hHeld.2;have LG0_3:=Hd hHeld.1;have HU3:=Hd hu3;have hn3:=hu3.len_le HAK.out
  clear hHeld hu1 hu2 hu3 hb1 hb2 hb3 HSM PT TT LB0 LG0_0
  obtain⟨la,hla⟩:∃ x,blen a=x:=⟨_,rfl⟩
  obtain⟨lp,hlp⟩:∃ x,blen p=x:=⟨_,rfl⟩
  have H1:=Hd (len_v A3 n3 c3 w3 HU3.out);have H2:=Hd (len_v A n c w3 (HU.out.below LB3.out));rw [hla] at H1 PA PB ba;rw [hlp] at H2 PA PB bp;clear hla hlp;obtain⟨q0_0,q0_1,q0_2⟩:=LG0_3.out.c3
  by_cases ho:(lp:Int)+1<(la:Int)+E
  ·have hr:=PA.out ho;clear PA PB HR;go_wp2_with fail;refine H1.out.mono ?_;rintro e w4 ⟨rfl,rfl⟩;go_wp2_with fail;refine H2.out.mono ?_;rintro e w4 ⟨rfl,rfl⟩;have HRR:=Hd hr;clear hr;go_wp2
   go_ret
   exact⟨ret_int HRR.out.symm,LB3.out⟩
  ·by_cases hu:(la:Int)+E<(lp:Int) - 1
   ·have hr:=PB.out hu;clear PA PB HR;go_wp2_with fail;refine H1.out.mono ?_;rintro e w4 ⟨rfl,rfl⟩;go_wp2_with fail;refine H2.out.mono ?_;rintro e w4 ⟨rfl,rfl⟩;go_wp2_with fail;refine H1.out.mono ?_;rintro e w4 ⟨rfl,rfl⟩;go_wp2_with fail;refine H2.out.mono ?_;rintro e w4 ⟨rfl,rfl⟩;have HRR:=Hd hr;clear hr;go_wp2
    go_ret
    exact⟨ret_int HRR.out.symm,LB3.out⟩
   ·clear PA PB;go_wp2_with fail;refine H1.out.mono ?_;rintro e w4 ⟨rfl,rfl⟩;go_wp2_with fail;refine H2.out.mono ?_;rintro e w4 ⟨rfl,rfl⟩;go_wp2_with fail;refine H1.out.mono ?_;rintro e w4 ⟨rfl,rfl⟩;go_wp2_with fail;refine H2.out.mono ?_;rintro e w4 ⟨rfl,rfl⟩;clear H1 H2
    by_cases hE:0≤E
    ·skip
     obtain⟨g,hg⟩:∃ g:Nat,E=g:=⟨E.toNat,by omega⟩
     subst hg
     have hg2:g≤971:=by omega
     have hr:=HR.out;rw [show (-(g:Int)).toNat=0 from by omega,Int.toNat_natCast,Nat.pow_zero,Nat.mul_one] at hr;have HLL:=Hd (left_v (v:=a) A3 n3 c3 g w3 HU3.out (by omega) (by omega));have HRR:=Hd hr;clear hr HR;go_wp2_with fail;refine HLL.out.mono ?_;rintro e w5 ⟨A5,n5,c5,rfl,hu5,hb5⟩;have LB5:=stB LB3 hb5 LB3.out.size;have HC:=Hd (cmp_v A5 A n5 c5 n c w5 hu5 (HU.out.below LB5.out));rw [HRR.out] at HC;clear hb5 hu5 HLL;go_wp2_with fail;refine HC.out.mono ?_;rintro e w6 ⟨rfl,kk,rfl⟩;go_wp2
     go_ret
     exact⟨rfl,below_drewN LB5.out kk⟩
    ·skip
     obtain⟨g,hg⟩:∃ g:Nat,-E=g:=⟨(-E:Int).toNat,by omega⟩
     have hg2:g≤1074:=by omega
     have hr:=HR.out;rw [show (E:Int).toNat=0 from by omega,show (-E:Int).toNat=g from by omega,Nat.pow_zero,Nat.mul_one] at hr;have HLL:=Hd (left_v (v:=p) A n c g w3 (HU.out.below LB3.out) (by omega) (by omega));have HRR:=Hd hr;clear hr HR
     have c2:E<0:=by omega
     go_wp2_with fail;refine HLL.out.mono ?_;rintro e w5 ⟨A5,n5,c5,rfl,hu5,hb5⟩;have HC:=Hd (cmp_v A3 A5 n3 c3 n5 c5 w5 (HU3.out.below hb5) hu5);have LB5:=stB LB3 hb5 LB3.out.size;rw [HRR.out] at HC;clear hb5 hu5 HLL;go_wp2_with fail;refine HC.out.mono ?_;rintro e w6 ⟨rfl,kk,rfl⟩;go_wp2
     go_ret
     exact⟨rfl,below_drewN LB5.out kk⟩
 ·skip;obtain⟨LB0,LG0_0⟩:=bx1 w #[.bool false,.slice A n c,.slice B m d] 41;subst h0;subst hFF
  obtain rfl:E=-1074:=by omega
  clear hEE;clear HFE
  go_enter Tryz.func111,Tryz.ntmps111
  go_upto_region 7 with fail
  refine wp_region_held_drew (S:=fun W'=>Blk W' w.heap.size 41 #[.bool false,.slice A n c,.slice B m d]∧Below w.heap.size w W') (by kernel_rfl) (by exact⟨LG0_0.out.drew,LB0.out.drew⟩) (fun hHeld=>?_);refine tk 0 ?_;(try simp only [Act.put,lay]);refine tk 2 ?_;(try simp only [Act.put,lay]);refine tk 4 ?_;(try simp only [Act.put,lay]);refine tk 5 ?_ (hv:=by intro W2 hSw;obtain⟨q0,q1,q2⟩:=hSw.1.c3;go_simp;(try with_reducible rfl));(try simp only [Act.put,lay]);refine rdy 1 (fun KK hKK=>?_);go_simp;refine (HSM.out _).mono ?_;rintro e w1 ⟨A1,n1,c1,rfl,hu1,hb1⟩;go_wp2_with fail;refine hKK.out _ _ (⟨hHeld.1.keep hb1,hHeld.2.trans (hb1.mono hHeld.2.size)⟩) (fun _=>?_);clear hKK KK hHeld;rename_i hHeld;(try simp only [Act.put,lay]);refine rdy 3 (fun KK hKK=>?_);go_simp;refine (PT.out _ A1 n1 c1 hu1).mono ?_;rintro e w2 ⟨A2,n2,c2,rfl,hu2,hb2⟩;go_wp2_with fail;refine hKK.out _ _ (⟨hHeld.1.keep hb2,hHeld.2.trans (hb2.mono hHeld.2.size)⟩) (fun _=>?_);clear hKK KK hHeld;rename_i hHeld;(try simp only [Act.put,lay]);refine rdy 6 (fun KK hKK=>?_);go_simp;refine (TT.out _ A2 n2 c2 ?_ hu2).mono ?_;exact hHeld.2;rintro e w3 ⟨A3,n3,c3,rfl,hu3,hb3⟩;go_wp2_with fail;refine hKK.out _ _ (⟨hHeld.1.keep hb3,hHeld.2.trans (hb3.mono hHeld.2.size)⟩) (fun _=>?_);clear hKK KK hHeld;rename_i hHeld;(try simp only [Act.put,lay]);refine tk 7 ?_;(try simp only [Act.put,lay]);refine wpAnyH_done (by kernel_rfl) ?_ _;have LB3:=Hd hHeld.2;have LG0_3:=Hd hHeld.1;have HU3:=Hd hu3;have hn3:=hu3.len_le HAK.out
  clear hHeld hu1 hu2 hu3 hb1 hb2 hb3 HSM PT TT LB0 LG0_0
  obtain⟨la,hla⟩:∃ x,blen a=x:=⟨_,rfl⟩
  obtain⟨lp,hlp⟩:∃ x,blen p=x:=⟨_,rfl⟩
  have H1:=Hd (len_v A3 n3 c3 w3 HU3.out);have H2:=Hd (len_v A n c w3 (HU.out.below LB3.out));rw [hla] at H1 PA PB ba;rw [hlp] at H2 PA PB bp;clear hla hlp;obtain⟨q0_0,q0_1,q0_2⟩:=LG0_3.out.c3
  by_cases ho:(lp:Int)+1<(la:Int)+(-1074)
  ·have hr:=PA.out ho;clear PA PB HR;go_wp2_with fail;refine H1.out.mono ?_;rintro e w4 ⟨rfl,rfl⟩;go_wp2_with fail;refine H2.out.mono ?_;rintro e w4 ⟨rfl,rfl⟩;have HRR:=Hd hr;clear hr;go_wp2
   go_ret
   exact⟨ret_int HRR.out.symm,LB3.out⟩
  ·by_cases hu:(la:Int)+(-1074)<(lp:Int) - 1
   ·have hr:=PB.out hu;clear PA PB HR;go_wp2_with fail;refine H1.out.mono ?_;rintro e w4 ⟨rfl,rfl⟩;go_wp2_with fail;refine H2.out.mono ?_;rintro e w4 ⟨rfl,rfl⟩;go_wp2_with fail;refine H1.out.mono ?_;rintro e w4 ⟨rfl,rfl⟩;go_wp2_with fail;refine H2.out.mono ?_;rintro e w4 ⟨rfl,rfl⟩;have HRR:=Hd hr;clear hr;go_wp2
    go_ret
    exact⟨ret_int HRR.out.symm,LB3.out⟩
   ·clear PA PB;go_wp2_with fail;refine H1.out.mono ?_;rintro e w4 ⟨rfl,rfl⟩;go_wp2_with fail;refine H2.out.mono ?_;rintro e w4 ⟨rfl,rfl⟩;go_wp2_with fail;refine H1.out.mono ?_;rintro e w4 ⟨rfl,rfl⟩;go_wp2_with fail;refine H2.out.mono ?_;rintro e w4 ⟨rfl,rfl⟩;clear H1 H2
    obtain⟨g,hg⟩:∃ g:Nat,g=1074:=⟨_,rfl⟩
    have hr:=HR.out;rw [show ((-1074):Int).toNat=0 from by omega,show (-(-1074):Int).toNat=g from by omega,Nat.pow_zero,Nat.mul_one] at hr;have HLL:=Hd (left_v (v:=p) A n c g w3 (HU.out.below LB3.out) (by omega) (by omega));rw [show ((g:Nat):Int)=1074 from by omega] at HLL;clear hg;have HRR:=Hd hr;clear hr HR;go_wp2_with fail;refine HLL.out.mono ?_;rintro e w5 ⟨A5,n5,c5,rfl,hu5,hb5⟩;have HC:=Hd (cmp_v A3 A5 n3 c3 n5 c5 w5 (HU3.out.below hb5) hu5);have LB5:=stB LB3 hb5 LB3.out.size;rw [HRR.out] at HC;clear hb5 hu5 HLL;go_wp2_with fail;refine HC.out.mono ?_;rintro e w6 ⟨rfl,kk,rfl⟩;go_wp2
    go_ret
    exact⟨rfl,below_drewN LB5.out kk⟩
theorem rc_neg(x y:Rat):rc (-x) (-y)=- rc x y:=by
 unfold rc
 by_cases h:x<y
 ·rw [if_neg (show ¬ -x < -y by grind),if_pos (show -y < -x by grind),if_pos h];rfl
 ·by_cases h2:y<x
  ·rw [if_pos (show -x < -y by grind),if_neg h,if_pos h2]
  ·rw [if_neg (show ¬ -x < -y by grind),if_neg (show ¬ -y < -x by grind),if_neg h,if_neg h2];rfl
theorem rc_range(x y:Rat):-1≤rc x y∧rc x y≤1:=by unfold rc;split<;>(try split)<;>omega
theorem rsg_range(x:Rat):-1≤rsg x∧rsg x≤1:=by unfold rsg;split<;>(try split)<;>omega
theorem rc_zero_zero:rc 0 0=0:=by decide
theorem rsg_zero_iff{x:Rat}:rsg x=0↔x=0:=by
 unfold rsg
 constructor
 ·intro h
  split at h
  ·assumption
  ·split at h<;>cases h
 ·rintro rfl;rfl
def SameSign(r c:Int):Prop:=(r<0↔c<0)∧(0<r↔0<c)
theorem SameSign.refl(c:Int):SameSign c c:=⟨Iff.rfl,Iff.rfl⟩
theorem same_diff{x y:Rat}(h:rsg x≠rsg y):SameSign (rsg x - rsg y) (rc x y):=by
 rcases Int.lt_trichotomy (rsg x) (rsg y) with h1 | h1 | h1
 ·rw [rc_below h1];unfold SameSign;omega
 ·exact absurd h1 h
 ·rw [rc_above h1];unfold SameSign;omega
def Ag(w:World)(c:Int)(e:Ending)(w':World):Prop:=∃ r:Int,e=.returned (.int .i64 r)∧SameSign r c∧Below w.heap.size w w'
theorem against_inf{N1:Int}(K:Nat)(i:Int)(s1:Int)(g1:Bool)(A1:Option Addr)(n1 c1:Nat)(B1:Option Addr)(m1 d1:Nat)(x1:Rat)(o1:Bool)(w:World)(hi:i=M∨i=-(M:Int))(h1:RatV w K g1 (.slice A1 n1 c1) (.slice B1 m1 d1) x1)(hK:34≤K)(hK2:K≤1048576):
  Calls Tryz.prog 89 #[.int .u64 (pat i:Int),.agg #[.int .i64 s1,.bool g1,.slice A1 n1 c1,.slice B1 m1 d1,.int .i64 N1,.bool o1]] w (Ag w (ec (es i) (ex i) s1 x1)):=by
 have hM:M=9218868437227405312:=rfl;have hr:=rung_pat (i:=i) (by omega) (by omega);have hpl:=pat_lt (i:=i) (by omega) (by omega);have HI:=Hd fun W=>isinf_any (pat i) W hpl;have HB:=Hd fun W=>bound_raw (pat i) W hpl (by rw [hr];omega);rw [idx_pat (by omega) (by omega)] at HB;rw [hr,show decide (i.natAbs=M)=true from by simp;omega] at HI;have HC:=Hd fun W (g:Bool) (A:Option Addr) (n c:Nat) (B:Option Addr) (m d:Nat) (hW:Below w.heap.size w W) (h:RatV W 34 g (.slice A n c) (.slice B m d) (ex i))=>ecmp_any K (es i) g A n c B m d (ex i) s1 g1 A1 n1 c1 B1 m1 d1 x1 W (h.mono hK) (h1.below hW) (by omega)
 obtain⟨P,hP⟩:∃ P,pat i=P:=⟨_,rfl⟩
 rw [hP] at HI HB hpl ⊢
 obtain⟨s0,e1⟩:∃ s,es i=s:=⟨_,rfl⟩
 obtain⟨x0,e2⟩:∃ s,ex i=s:=⟨_,rfl⟩
 rw [e1,e2] at HB HC ⊢
 obtain⟨r,hr⟩:∃ r,ec s0 x0 s1 x1=r:=⟨_,rfl⟩
 rw [hr] at HC ⊢;clear hi hM hP e1 e2 hr h1 hpl hK hK2;obtain⟨LB0,LG0_0⟩:=bx1 w #[.int .i64 s1,.bool g1,.slice A1 n1 c1,.slice B1 m1 d1,.int .i64 N1,.bool o1] 51
 go_enter Tryz.func89,Tryz.ntmps89
 go_wp2_with fail;refine (HI.out _).mono ?_;rintro e w1 ⟨rfl,k,rfl⟩;have LB1:=Hd (below_drewN LB0.out k);have LG0_1:=Hd (LG0_0.out.drewN k);clear LB0 LG0_0;have q0_0:=LG0_1.out.ce 0 rfl
 go_upto_region 2 with fail
 clear q0_0;refine wp_region_held_drew (S:=fun W'=>Blk W' w.heap.size 51 #[.int .i64 s1,.bool g1,.slice A1 n1 c1,.slice B1 m1 d1,.int .i64 N1,.bool o1]∧Below w.heap.size w W') (by kernel_rfl) (by exact⟨LG0_1.out.drew,LB1.out.drew⟩) (fun hHeld=>?_);refine tk 0 ?_;(try simp only [Act.put,lay]);refine tk 2 ?_;(try simp only [Act.put,lay]);refine tk 3 ?_ (hv:=by intro W2 hSw;obtain⟨q0,q1,q2,q3,q4,q5⟩:=hSw.1.c6;go_simp;(try with_reducible rfl));(try simp only [Act.put,lay]);refine tk 4 ?_;(try simp only [Act.put,lay]);refine tk 5 ?_ (hv:=by intro W2 hSw;obtain⟨q0,q1,q2,q3,q4,q5⟩:=hSw.1.c6;go_simp;(try with_reducible rfl));(try simp only [Act.put,lay]);refine tk 6 ?_;(try simp only [Act.put,lay]);refine rdy 1 (fun KK hKK=>?_);go_simp;refine (HB.out _).mono ?_;rintro e w2 ⟨g2,A2,n2,c2,B2,m2,d2,rfl,h2,hb2⟩;go_wp2_with fail;refine hKK.out _ _ (⟨hHeld.1.keep hb2,hHeld.2.trans (hb2.mono hHeld.2.size)⟩) (fun _=>?_);clear hKK KK hHeld;rename_i hHeld;(try simp only [Act.put,lay]);refine rdy 7 (fun KK hKK=>?_);go_simp;refine (HC.out _ g2 A2 n2 c2 B2 m2 d2 hHeld.2 h2).mono ?_;rintro e w3 ⟨rfl,hb3⟩;go_wp2_with fail;refine hKK.out _ _ (⟨hHeld.1.keep hb3,hHeld.2.trans (hb3.mono hHeld.2.size)⟩) (fun _=>?_);clear hKK KK hHeld;rename_i hHeld;(try simp only [Act.put,lay]);refine tk 8 ?_;(try simp only [Act.put,lay]);refine wpAnyH_done (by kernel_rfl) ?_ _;have LB3:=Hd hHeld.2;clear hHeld hb2 hb3 h2 LB1 LG0_1 HB HC HI;go_wp2
 go_ret
 exact⟨r,rfl,SameSign.refl r,LB3.out⟩
theorem against_far{N1:Int}(K:Nat)(i:Int)(s1:Int)(g1:Bool)(A1:Option Addr)(n1 c1:Nat)(B1:Option Addr)(m1 d1:Nat)(x1:Rat)(o1:Bool)(w:World)(hi:-(M:Int)<i∧i<M)(hs:s1≠0)(h1:RatV w K g1 (.slice A1 n1 c1) (.slice B1 m1 d1) x1)(hK:34≤K)(hK2:K≤1048576):
  Calls Tryz.prog 89 #[.int .u64 (pat i:Int),.agg #[.int .i64 s1,.bool g1,.slice A1 n1 c1,.slice B1 m1 d1,.int .i64 N1,.bool o1]] w (Ag w (ec (es i) (ex i) s1 x1)):=by
 have hM:M=9218868437227405312:=rfl;have hr:=rung_pat (i:=i) (by omega) (by omega);have hpl:=pat_lt (i:=i) (by omega) (by omega);have HI:=Hd fun W=>isinf_any (pat i) W hpl;have HB:=Hd fun W=>bound_raw (pat i) W hpl (by rw [hr];omega);rw [idx_pat (by omega) (by omega)] at HB;rw [hr,show decide (i.natAbs=M)=false from by simp;omega] at HI;have HC:=Hd fun W (g:Bool) (A:Option Addr) (n c:Nat) (B:Option Addr) (m d:Nat) (hW:Below w.heap.size w W) (h:RatV W 34 g (.slice A n c) (.slice B m d) (ex i))=>ecmp_any K (es i) g A n c B m d (ex i) s1 g1 A1 n1 c1 B1 m1 d1 x1 W (h.mono hK) (h1.below hW) (by omega)
 obtain⟨P,hP⟩:∃ P,pat i=P:=⟨_,rfl⟩
 rw [hP] at HI HB hpl ⊢
 obtain⟨s0,e1⟩:∃ s,es i=s:=⟨_,rfl⟩
 obtain⟨x0,e2⟩:∃ s,ex i=s:=⟨_,rfl⟩
 rw [e1,e2] at HB HC ⊢
 obtain⟨r,hr⟩:∃ r,ec s0 x0 s1 x1=r:=⟨_,rfl⟩
 rw [hr] at HC ⊢
 have hq:(s1 == 0)=false:=by simp;omega
 clear hi hM hP e1 e2 hr h1 hpl hK hK2;obtain⟨LB0,LG0_0⟩:=bx1 w #[.int .i64 s1,.bool g1,.slice A1 n1 c1,.slice B1 m1 d1,.int .i64 N1,.bool o1] 51
 go_enter Tryz.func89,Tryz.ntmps89
 go_wp2_with fail;refine (HI.out _).mono ?_;rintro e w1 ⟨rfl,k,rfl⟩;have LB1:=Hd (below_drewN LB0.out k);have LG0_1:=Hd (LG0_0.out.drewN k);clear LB0 LG0_0;have q0_0:=LG0_1.out.ce 0 rfl
 go_upto_region 2 with fail
 clear q0_0;refine wp_region_held_drew (S:=fun W'=>Blk W' w.heap.size 51 #[.int .i64 s1,.bool g1,.slice A1 n1 c1,.slice B1 m1 d1,.int .i64 N1,.bool o1]∧Below w.heap.size w W') (by kernel_rfl) (by exact⟨LG0_1.out.drew,LB1.out.drew⟩) (fun hHeld=>?_);refine tk 0 ?_;(try simp only [Act.put,lay]);refine tk 2 ?_;(try simp only [Act.put,lay]);refine tk 3 ?_ (hv:=by intro W2 hSw;obtain⟨q0,q1,q2,q3,q4,q5⟩:=hSw.1.c6;go_simp;(try with_reducible rfl));(try simp only [Act.put,lay]);refine tk 4 ?_;(try simp only [Act.put,lay]);refine tk 5 ?_ (hv:=by intro W2 hSw;obtain⟨q0,q1,q2,q3,q4,q5⟩:=hSw.1.c6;go_simp;(try with_reducible rfl));(try simp only [Act.put,lay]);refine tk 6 ?_;(try simp only [Act.put,lay]);refine rdy 1 (fun KK hKK=>?_);go_simp;refine (HB.out _).mono ?_;rintro e w2 ⟨g2,A2,n2,c2,B2,m2,d2,rfl,h2,hb2⟩;go_wp2_with fail;refine hKK.out _ _ (⟨hHeld.1.keep hb2,hHeld.2.trans (hb2.mono hHeld.2.size)⟩) (fun _=>?_);clear hKK KK hHeld;rename_i hHeld;(try simp only [Act.put,lay]);refine rdy 7 (fun KK hKK=>?_);go_simp;refine (HC.out _ g2 A2 n2 c2 B2 m2 d2 hHeld.2 h2).mono ?_;rintro e w3 ⟨rfl,hb3⟩;go_wp2_with fail;refine hKK.out _ _ (⟨hHeld.1.keep hb3,hHeld.2.trans (hb3.mono hHeld.2.size)⟩) (fun _=>?_);clear hKK KK hHeld;rename_i hHeld;(try simp only [Act.put,lay]);refine tk 8 ?_;(try simp only [Act.put,lay]);refine wpAnyH_done (by kernel_rfl) ?_ _;have LB3:=Hd hHeld.2;clear hHeld hb2 hb3 h2 LB1 LG0_1 HB HC HI;go_wp2
 go_ret
 exact⟨r,rfl,SameSign.refl r,LB3.out⟩
set_option maxRecDepth 2000 in
theorem against_fin(K:Nat)(i:Int)(g1:Bool)(A1:Option Addr)(n1 c1:Nat)(B1:Option Addr)(m1 d1:Nat)(x1:Rat)(o1:Bool)(w:World)(hi:-(M:Int)<i∧i<M)(h1:RatV w K g1 (.slice A1 n1 c1) (.slice B1 m1 d1) x1)(hK:34≤K)(hK2:K≤1048576):
  Calls Tryz.prog 89 #[.int .u64 (pat i:Int),.agg #[.int .i64 0,.bool g1,.slice A1 n1 c1,.slice B1 m1 d1,.int .i64 1,.bool o1]] w (Ag w (rc (fl i) x1)):=by
 have hM:M=9218868437227405312:=rfl;have hr:=rung_pat (i:=i) (by omega) (by omega);have hpl:=pat_lt (i:=i) (by omega) (by omega);have HI:=Hd fun W=>isinf_any (pat i) W hpl;have HF:=Hd fun W=>(frombits_any (pat i) W hpl (by show rungOf _<M;rw [hr];omega)).mono fun _ _ h=>h.s;rw [idx_pat (by omega) (by omega)] at HF;rw [hr,show decide (i.natAbs=M)=false from by simp;omega] at HI;have HZ:=Hd (size_i hpl);rw [hr] at HZ;have HS1:=Hd fun W (g:Bool) (A:Option Addr) (n c:Nat) (B:Option Addr) (m d:Nat) (h:RatV W 34 g (.slice A n c) (.slice B m d) (fl i))=>rsign_any 34 g _ _ (fl i) W h (by omega);have HS2:=Hd fun W (hW:Below w.heap.size w W)=>rsign_any K g1 _ _ x1 W (h1.below hW) (by omega);have hs1:=rsg_range (fl i);have hs2:=rsg_range x1
 have HPW:∀ W,Below w.heap.size w W→rsg (fl i)=rsg x1→rsg (fl i)≠0→Calls Tryz.prog 111 #[.int .u64 (i.natAbs:Int),.int .i64 1,.agg #[.bool false,.slice A1 n1 c1,.slice B1 m1 d1]] W fun e w'=>∃ r:Int,e=.returned (.int .i64 r)∧-1≤r∧r≤1∧rsg (fl i)*r=rc (fl i) x1∧Below W.heap.size W w':=by
  intro W hW he h0;obtain⟨p,q,A,n,c,B,m,d,e1,e2,hu,hv,hq,hp0,hpK,hqK,rfl⟩:=h1
  cases e1;cases e2
  have hp:0<p:=by
   rcases Nat.eq_zero_or_pos p with h | h
   ·subst h;rw [rv_zero] at he;exact absurd (he.trans (rsg_zero_iff.2 rfl)) h0
   ·exact h
  have hi0:i≠0:=by rintro rfl;rw [fl_zero] at h0;exact h0 (rsg_zero_iff.2 rfl)
  refine (power_fin K i.natAbs A1 B1 n1 c1 m1 d1 p q W (by omega) (by omega) (hu.below hW) (hv.below hW) hp hq hpK hqK hK2).mono ?_;rintro e w' ⟨rfl,hb⟩;refine⟨_,rfl,(rc_range _ _).1,(rc_range _ _).2,?_,hb⟩;rw [rsg_rv hq hp0,if_neg (by omega)] at he
  rcases Int.lt_or_le i 0 with h | h
  ·have hneg:fl i<0:=by rw [← fl_zero];exact fl_lt_iff.2 h
   have hr1:rsg (fl i)=-1:=by unfold rsg;rw [if_neg (by grind),if_pos hneg]
   rw [hr1] at he ⊢
   have hg:g1=true:=by
    cases g1
    ·simp at he
    ·rfl
   subst hg;rw [rv_true,show i=-((i.natAbs:Nat):Int) from by omega,fl_neg,rc_neg,Int.natAbs_neg,Int.natAbs_natCast]
   omega
  ·have hpos:0<fl i:=by rw [← fl_zero];exact fl_lt_iff.2 (by omega)
   have hr1:rsg (fl i)=1:=by unfold rsg;rw [if_neg (by grind),if_neg (by grind)]
   rw [hr1] at he ⊢
   have hg:g1=false:=by
    cases g1
    ·rfl
    ·simp at he
   subst hg;rw [show i=((i.natAbs:Nat):Int) from by omega,Int.natAbs_natCast,Int.one_mul]
 have HD:=Hd (same_diff (x:=fl i) (y:=x1))
 have HZZ:rsg (fl i)=0→rsg x1=0→rc (fl i) x1=0:=by
  intro a b;rw [rsg_zero_iff.1 a,rsg_zero_iff.1 b];exact rc_zero_zero
 obtain⟨P,hP⟩:∃ P,pat i=P:=⟨_,rfl⟩
 rw [hP] at HI HF HZ ⊢
 obtain⟨N,hN⟩:∃ N,i.natAbs=N:=⟨_,rfl⟩
 rw [hN] at HZ HPW
 obtain⟨z,hz⟩:∃ z,fl i=z:=⟨_,rfl⟩
 rw [hz] at HF HS1 HPW HD HZZ hs1 ⊢
 obtain⟨s,hs⟩:∃ s,rsg z=s:=⟨_,rfl⟩
 obtain⟨t,ht⟩:∃ t,rsg x1=t:=⟨_,rfl⟩
 obtain⟨r,hr⟩:∃ r,rc z x1=r:=⟨_,rfl⟩
 rw [hs] at HS1 hs1 HPW HD HZZ;rw [ht] at HS2 hs2 HPW HD HZZ;rw [hr] at HPW HD HZZ ⊢;have HPW:=Hd HPW;have HZZ:=Hd HZZ;have zz:=HZ.out;clear hi hM hP hz hN hs ht hr h1 hpl hK hK2 HZ
 by_cases hst:s=t
 ·subst hst
  by_cases h0:s=0
  ·subst h0;have hr0:=HZZ.out rfl rfl;obtain⟨LB0,LG0_0⟩:=bx1 w #[.int .i64 0,.bool g1,.slice A1 n1 c1,.slice B1 m1 d1,.int .i64 1,.bool o1] 51
   go_enter Tryz.func89,Tryz.ntmps89
   go_wp2_with fail;refine (HI.out _).mono ?_;rintro e w1 ⟨rfl,k,rfl⟩;have LB1:=Hd (below_drewN LB0.out k);have LG0_1:=Hd (LG0_0.out.drewN k);clear LB0 LG0_0;go_wp2_with fail;refine (HF.out _).mono ?_;rintro e w2 ⟨g2,A2,n2,c2,B2,m2,d2,rfl,h2,hb2⟩;have LB2:=stB LB1 hb2 LB1.out.size;have LG0_2:=stG LG0_1 hb2;clear LB1 LG0_1
   go_upto_region 4 with fail
   have h3:=h2.below (below_alloc w2 (.cells #[.bool g2,.slice A2 n2 c2,.slice B2 m2 d2] 41));have LB3:=Hd (LB2.out.alloc LB2.out.size (.cells #[.bool g2,.slice A2 n2 c2,.slice B2 m2 d2] 41));have LG0_3:=Hd (LG0_2.out.alloc (.cells #[.bool g2,.slice A2 n2 c2,.slice B2 m2 d2] 41));have LG1_3:=Hd (Blk.new w2 41 #[.bool g2,.slice A2 n2 c2,.slice B2 m2 d2]);clear LB2 LG0_2;rw [show w2.heap.size=w2.heap.size from rfl]
   obtain⟨V3,hV3⟩:∃ X,w2.alloc (.cells #[.bool g2,.slice A2 n2 c2,.slice B2 m2 d2] 41)=X:=⟨_,rfl⟩
   rw [hV3] at LB3 LG0_3 LG1_3 h3 ⊢;clear hV3 h2 hb2;obtain⟨q1_0,q1_1,q1_2⟩:=LG1_3.out.c3;go_wp2_with fail;refine (HS1.out V3 g2 A2 n2 c2 B2 m2 d2 h3).mono ?_;rintro e w4 ⟨rfl,hb4⟩;have LB4:=stB LB3 hb4 LB3.out.size;have LG0_4:=stG LG0_3 hb4;have LG1_4:=stG LG1_3 hb4;clear LB3 LG0_3 LG1_3;clear h3 hb4 q1_0 q1_1 q1_2;obtain⟨q0_0,q0_1,q0_2,q0_3,q0_4,q0_5⟩:=LG0_4.out.c6;go_wp2_with fail;refine (HS2.out _ LB4.out).mono ?_;rintro e w5 ⟨rfl,hb5⟩;have LB5:=stB LB4 hb5 LB4.out.size;have LG0_5:=stG LG0_4 hb5;have LG1_5:=stG LG1_4 hb5;clear LB4 LG0_4 LG1_4;clear hb5 q0_0 q0_1 q0_2 q0_3 q0_4 q0_5;go_wp2
   go_ret
   exact⟨0,rfl,by rw [hr0];exact SameSign.refl 0,LB5.out⟩
  ·have hq:(s == 0)=false:=by simp;omega
   have hs3:s=-1∨s=1:=by omega
   clear h0
   rcases hs3 with rfl | rfl
   all_goals
    obtain⟨LB0,LG0_0⟩:=bx1 w #[.int .i64 0,.bool g1,.slice A1 n1 c1,.slice B1 m1 d1,.int .i64 1,.bool o1] 51
    go_enter Tryz.func89,Tryz.ntmps89
    go_wp2_with fail;refine (HI.out _).mono ?_;rintro e w1 ⟨rfl,k,rfl⟩;have LB1:=Hd (below_drewN LB0.out k);have LG0_1:=Hd (LG0_0.out.drewN k);clear LB0 LG0_0;go_wp2_with fail;refine (HF.out _).mono ?_;rintro e w2 ⟨g2,A2,n2,c2,B2,m2,d2,rfl,h2,hb2⟩;have LB2:=stB LB1 hb2 LB1.out.size;have LG0_2:=stG LG0_1 hb2;clear LB1 LG0_1
    go_upto_region 4 with fail
    have h3:=h2.below (below_alloc w2 (.cells #[.bool g2,.slice A2 n2 c2,.slice B2 m2 d2] 41));have LB3:=Hd (LB2.out.alloc LB2.out.size (.cells #[.bool g2,.slice A2 n2 c2,.slice B2 m2 d2] 41));have LG0_3:=Hd (LG0_2.out.alloc (.cells #[.bool g2,.slice A2 n2 c2,.slice B2 m2 d2] 41));have LG1_3:=Hd (Blk.new w2 41 #[.bool g2,.slice A2 n2 c2,.slice B2 m2 d2]);clear LB2 LG0_2;rw [show w2.heap.size=w2.heap.size from rfl]
    obtain⟨V3,hV3⟩:∃ X,w2.alloc (.cells #[.bool g2,.slice A2 n2 c2,.slice B2 m2 d2] 41)=X:=⟨_,rfl⟩
    rw [hV3] at LB3 LG0_3 LG1_3 h3 ⊢;clear hV3 h2 hb2;obtain⟨q1_0,q1_1,q1_2⟩:=LG1_3.out.c3;go_wp2_with fail;refine (HS1.out V3 g2 A2 n2 c2 B2 m2 d2 h3).mono ?_;rintro e w4 ⟨rfl,hb4⟩;have LB4:=stB LB3 hb4 LB3.out.size;have LG0_4:=stG LG0_3 hb4;have LG1_4:=stG LG1_3 hb4;clear LB3 LG0_3 LG1_3;clear h3 hb4 q1_0 q1_1 q1_2;obtain⟨q0_0,q0_1,q0_2,q0_3,q0_4,q0_5⟩:=LG0_4.out.c6;go_wp2_with fail;refine (HS2.out _ LB4.out).mono ?_;rintro e w5 ⟨rfl,hb5⟩;have LB5:=stB LB4 hb5 LB4.out.size;have LG0_5:=stG LG0_4 hb5;have LG1_5:=stG LG1_4 hb5;clear LB4 LG0_4 LG1_4;clear hb5 q0_0 q0_1 q0_2 q0_3 q0_4 q0_5;obtain⟨q0_0,q0_1,q0_2,q0_3,q0_4,q0_5⟩:=LG0_5.out.c6
    go_upto_region 10 with fail
    clear q0_0 q0_1 q0_2 q0_3 q0_4 q0_5;have LB6:=Hd (LB5.out.alloc LB5.out.size (.cells #[.bool false,.slice A1 n1 c1,.slice B1 m1 d1] 41));have LG0_6:=Hd (LG0_5.out.alloc (.cells #[.bool false,.slice A1 n1 c1,.slice B1 m1 d1] 41));have LG1_6:=Hd (LG1_5.out.alloc (.cells #[.bool false,.slice A1 n1 c1,.slice B1 m1 d1] 41));have LG2_6:=Hd (Blk.new w5 41 #[.bool false,.slice A1 n1 c1,.slice B1 m1 d1]);clear LB5 LG0_5 LG1_5
    obtain⟨V6,hV6⟩:∃ X,(w5.alloc (.cells #[.bool false,.slice A1 n1 c1,.slice B1 m1 d1] 41))=X:=⟨_,rfl⟩
    rw [hV6] at LB6 LG0_6 LG1_6 LG2_6 ⊢;clear hV6;have q0_4:=LG0_6.out.ce 4 rfl;obtain⟨q2_0,q2_1,q2_2⟩:=LG2_6.out.c3;go_wp2_with fail;refine (HPW.out _ LB6.out trivial (by decide)).mono ?_;rintro e w6 ⟨r0,rfl,hr1,hr2,hr3,hb6⟩;have LBF:=Hd (LB6.out.trans (hb6.mono LB6.out.size));have HR3:=Hd hr3;clear hb6 hr3 q0_4 q2_0 q2_1 q2_2;go_wp2
    go_ret
    exact⟨_,rfl,by rw [← HR3.out];exact⟨by omega,by omega⟩,LBF.out⟩
 ·have hq:(s == t)=false:=by simp;omega
  have HDD:=Hd (HD.out hst);clear hst;obtain⟨LB0,LG0_0⟩:=bx1 w #[.int .i64 0,.bool g1,.slice A1 n1 c1,.slice B1 m1 d1,.int .i64 1,.bool o1] 51
  go_enter Tryz.func89,Tryz.ntmps89
  go_wp2_with fail;refine (HI.out _).mono ?_;rintro e w1 ⟨rfl,k,rfl⟩;have LB1:=Hd (below_drewN LB0.out k);have LG0_1:=Hd (LG0_0.out.drewN k);clear LB0 LG0_0;go_wp2_with fail;refine (HF.out _).mono ?_;rintro e w2 ⟨g2,A2,n2,c2,B2,m2,d2,rfl,h2,hb2⟩;have LB2:=stB LB1 hb2 LB1.out.size;have LG0_2:=stG LG0_1 hb2;clear LB1 LG0_1
  go_upto_region 4 with fail
  have h3:=h2.below (below_alloc w2 (.cells #[.bool g2,.slice A2 n2 c2,.slice B2 m2 d2] 41));have LB3:=Hd (LB2.out.alloc LB2.out.size (.cells #[.bool g2,.slice A2 n2 c2,.slice B2 m2 d2] 41));have LG0_3:=Hd (LG0_2.out.alloc (.cells #[.bool g2,.slice A2 n2 c2,.slice B2 m2 d2] 41));have LG1_3:=Hd (Blk.new w2 41 #[.bool g2,.slice A2 n2 c2,.slice B2 m2 d2]);clear LB2 LG0_2;rw [show w2.heap.size=w2.heap.size from rfl]
  obtain⟨V3,hV3⟩:∃ X,w2.alloc (.cells #[.bool g2,.slice A2 n2 c2,.slice B2 m2 d2] 41)=X:=⟨_,rfl⟩
  rw [hV3] at LB3 LG0_3 LG1_3 h3 ⊢;clear hV3 h2 hb2;obtain⟨q1_0,q1_1,q1_2⟩:=LG1_3.out.c3;go_wp2_with fail;refine (HS1.out V3 g2 A2 n2 c2 B2 m2 d2 h3).mono ?_;rintro e w4 ⟨rfl,hb4⟩;have LB4:=stB LB3 hb4 LB3.out.size;have LG0_4:=stG LG0_3 hb4;have LG1_4:=stG LG1_3 hb4;clear LB3 LG0_3 LG1_3;clear h3 hb4 q1_0 q1_1 q1_2;obtain⟨q0_0,q0_1,q0_2,q0_3,q0_4,q0_5⟩:=LG0_4.out.c6;go_wp2_with fail;refine (HS2.out _ LB4.out).mono ?_;rintro e w5 ⟨rfl,hb5⟩;have LB5:=stB LB4 hb5 LB4.out.size;have LG0_5:=stG LG0_4 hb5;have LG1_5:=stG LG1_4 hb5;clear LB4 LG0_4 LG1_4;clear hb5 q0_0 q0_1 q0_2 q0_3 q0_4 q0_5;go_wp2
  go_ret
  exact⟨_,rfl,HDD.out,LB5.out⟩
theorem ec_idx{i b:Int}(h1:-(M:Int)≤i)(h2:i≤M)(h3:-(M:Int)≤b)(h4:b≤M):SameSign (ec (es i) (ex i) (es b) (ex b)) (i - b):=by
 have hM:M=9218868437227405312:=rfl
 have ei:es i=if i=M then 1 else if i=-(M:Int) then -1 else 0:=rfl
 have eb:es b=if b=M then 1 else if b=-(M:Int) then -1 else 0:=rfl
 rcases Int.lt_trichotomy (es i) (es b) with h | h | h
 ·rw [ec_lt _ _ h];rw [ei,eb] at h;unfold SameSign
  split at h<;>split at h<;>(try split at h)<;>(try split at h)<;>omega
 ·by_cases h0:es i=0
  ·have h0':es b=0:=by omega
   rw [h0,h0',ec_zero,ex_zero h0,ex_zero h0'];unfold rc SameSign
   by_cases hc:i<b
   ·rw [if_pos (fl_lt_iff.2 hc)];omega
   ·rw [if_neg (fun h=>hc (fl_lt_iff.1 h))]
    by_cases hd:b<i
    ·rw [if_pos (fl_lt_iff.2 hd)];omega
    ·rw [if_neg (fun h=>hd (fl_lt_iff.1 h))];omega
  ·rw [ec_inf _ _ h h0];rw [ei,eb] at h;rw [ei] at h0;unfold SameSign
   split at h0<;>(try split at h0)<;>split at h<;>(try split at h)<;>(try split at h)<;>(try split at h)<;>omega
 ·rw [ec_gt _ _ h];rw [ei,eb] at h;unfold SameSign
  split at h<;>split at h<;>(try split at h)<;>(try split at h)<;>omega
theorem SameSign.trans{a b c:Int}(h:SameSign a b)(h':SameSign b c):SameSign a c:=⟨h.1.trans h'.1,h.2.trans h'.2⟩
theorem Ag.trans{w w':World}{a b:Int}{e:Ending}(h:Ag w a e w')(h':SameSign a b):Ag w b e w':=by
 obtain⟨r,h1,h2,h3⟩:=h
 exact⟨r,h1,h2.trans h',h3⟩
theorem rounded10(K:Nat)(g1:Bool)(A1:Option Addr)(n1 c1:Nat)(B1:Option Addr)(m1 d1:Nat)(s1:Int)(x1:Rat)(o1:Bool)(dd:Int)(w:World)(h1:RatV w K g1 (.slice A1 n1 c1) (.slice B1 m1 d1) x1)(hK:K≤1048576)(hd:dd=-1∨dd=1):
  Calls Tryz.prog 90 #[.int .i64 dd,.agg #[.int .i64 s1,.bool g1,.slice A1 n1 c1,.slice B1 m1 d1,.int .i64 1,.bool o1]] w (IsRnd w dd x1):=by
 have HB:=Hd fun W (hW:Below w.heap.size w W)=>bits_any K g1 A1 B1 n1 c1 m1 d1 x1 dd W (h1.below hW) hK hd;clear h1 hd;obtain⟨LB0,LG0_0⟩:=bx1 w #[.int .i64 s1,.bool g1,.slice A1 n1 c1,.slice B1 m1 d1,.int .i64 1,.bool o1] 51
 go_enter Tryz.func90,Tryz.ntmps90
 go_wp2_with fail;refine (HB.out _ LB0.out).mono ?_;rintro e w1 ⟨i,rfl,hr,hb1⟩;have LB1:=stB LB0 hb1 LB0.out.size;have LG0_1:=stG LG0_0 hb1;clear LB0 LG0_0;have HR:=Hd hr;clear hr hb1;go_wp2
 go_ret
 exact⟨i,rfl,HR.out,LB1.out⟩
theorem within_none(s1:Int)(g1:Bool)(A1:Option Addr)(n1 c1:Nat)(B1:Option Addr)(m1 d1:Nat)(x1:Rat)(s2:Int)(g2:Bool)(A2:Option Addr)(n2 c2:Nat)(B2:Option Addr)(m2 d2:Nat)(x2:Rat)(o1 o2:Bool)(w:World):
  Calls Tryz.prog 60 #[.agg #[.int .u64 9218868437227405312,.int .u64 18442240474082181120],.agg #[.bool false,.int .i64 s1,.bool g1,.slice A1 n1 c1,.slice B1 m1 d1,.int .i64 1,.bool o1,.int .i64 s2,.bool g2,.slice A2 n2 c2,.slice B2 m2 d2,.int .i64 1,.bool o2]] w fun e w'=>e=.returned (.agg #[.int .u64 9218868437227405312,.int .u64 18442240474082181120])∧Below w.heap.size w w':=by
 have HE:=Hd empty6;obtain⟨LB0,LG0_0,LG1_0,LR⟩:=bx3 w #[.int .u64 9218868437227405312,.int .u64 18442240474082181120] 24 #[.bool false,.int .i64 s1,.bool g1,.slice A1 n1 c1,.slice B1 m1 d1,.int .i64 1,.bool o1,.int .i64 s2,.bool g2,.slice A2 n2 c2,.slice B2 m2 d2,.int .i64 1,.bool o2] 54 #[.int .u64 0,.int .u64 0] 24;have LR0:=Hd (HasBlk.of (n:=2) LR.out rfl rfl);clear LR
 go_enter Tryz.func60,Tryz.ntmps60
 go_wp2_with fail;refine wp_region_held_drew (S:=fun W'=>Blk W' w.heap.size 24 #[.int .u64 9218868437227405312,.int .u64 18442240474082181120]∧Blk W' (w.heap.size+1) 54 #[.bool false,.int .i64 s1,.bool g1,.slice A1 n1 c1,.slice B1 m1 d1,.int .i64 1,.bool o1,.int .i64 s2,.bool g2,.slice A2 n2 c2,.slice B2 m2 d2,.int .i64 1,.bool o2]∧HasBlk W' (w.heap.size+2) 24 2∧Below w.heap.size w W') (by kernel_rfl) (by exact⟨LG0_0.out.drew,LG1_0.out.drew,LR0.out.drew,LB0.out.drew⟩) (fun hHeld=>?_);refine tk 0 ?_;(try simp only [Act.put,lay]);refine tk 1 ?_ (hv:=by intro W2 hSw;obtain⟨q0,q1,q2,q3,q4,q5,q6,q7,q8,q9,q10,q11,q12⟩:=hSw.2.1.c13;go_simp;(try with_reducible rfl));(try simp only [Act.put,lay]);refine tk 2 ?_;(try simp only [Act.put,lay]);refine tk 3 ?_ (hv:=by intro W2 hSw;obtain⟨q0,q1⟩:=hSw.1.c2;go_simp;(try with_reducible rfl));(try simp only [Act.put,lay]);refine rdy 4 (fun KK hKK=>?_);go_simp;refine (HE.out _).mono ?_;rintro e w1 ⟨rfl,hb1⟩;go_wp2_with fail;refine hKK.out _ _ (⟨hHeld.1.keep hb1,hHeld.2.1.keep hb1,hHeld.2.2.1.keep hb1,hHeld.2.2.2.trans (hb1.mono hHeld.2.2.2.size)⟩) (fun _=>?_);clear hKK KK hHeld;rename_i hHeld;(try simp only [Act.put,lay]);refine tk 5 ?_;(try simp only [Act.put,lay]);refine tk 6 ?_;(try simp only [Act.put,lay]);refine wpAnyH_done (by kernel_rfl) ?_ _;have LB1:=Hd hHeld.2.2.2;have LR1:=Hd hHeld.2.2.1;have LG0_1:=Hd hHeld.1;have LG1_1:=Hd hHeld.2.1;clear hHeld hb1 LB0 LR0 LG0_0 LG1_0;go_wp2_with fail;refine (HE.out _).mono ?_;rintro e w2 ⟨rfl,hb2⟩
 have LB2:=stB LB1 hb2 LB1.out.size;have LR2:=stR LR1 hb2;have LG0_2:=stG LG0_1 hb2;have LG1_2:=stG LG1_1 hb2;clear LB1 LR1 LG0_1 LG1_1;clear hb2;obtain⟨ha0,hf0,ha1,hf1⟩:=LR2.out.sf2;obtain⟨hk0,hk1⟩:=LR2.out.sc2 (.int .u64 9218868437227405312) (.int .u64 18442240474082181120);have F:=Hd (below_sets (w0:=w) (r:=(w.heap.size+2)) (by omega) [.int .u64 9218868437227405312,.int .u64 18442240474082181120] 0 _ LB2.out)
 simp [sets] at hk0 hk1
 go_wp2;refine bodyPost_ret (v:=.agg #[.int .u64 9218868437227405312,.int .u64 18442240474082181120]) (by simp [results,Tryz.results60,go_sem,hk0,hk1]) rfl ?_
 exact⟨rfl,F.out⟩
end Go.Proofs.YtfcpabgampebaaaGreat
