/-
Lemmas for the statement: WholeT Rtf RootT Root2T Sq2T SrT PowT PwnT.
-/
import Derived.Test.YthlmlmfebpjgdaaGreatDoorM13
import Derived.Deep.DeepCutAuto
import Derived.Test.YthlmlmfebpjgdaaGreatDoorM03
import Derived.Test.YthlmlmfebpjgdaaGreatDoorM06
import Derived.Test.YthlmlmfebpjgdaaGreatDoorM09
import Derived.Test.YthlmlmfebpjgdaaGreatDoorM02
import Derived.Test.YthlmlmfebpjgdaaGreatDoorM07
import Derived.Test.YthlmlmfebpjgdaaGreatDoorM12
set_option linter.unusedSimpArgs false
set_option linter.unusedVariables false
set_option maxHeartbeats 12800000
namespace Go.Proofs.YthlmlmfebpjgdaaGreatDoor
section
open Go.RowKit
theorem digs_32:digs 32=[32]:=by rw [digs_pos (by omega)];simp [digs_zero]
theorem whole_start{a n h r r':Nat}(hn:0<n)(hr:IsR a n r)(hr':IsR (a / 2 ^ (h*n)) n r'):r<=(r'+1)*2 ^ h/\blen (r'+1)<=(blen a - h*n) / n+2:=by
 refine⟨root_shift hr hr',?_⟩;have h1:=hr'.1;have h2:a<2 ^ blen a:=blen_le_iff.1 (Nat.le_refl _)
 have h3:a / 2 ^ (h*n)<2 ^ (blen a - h*n):=by
  rw [Nat.div_lt_iff_lt_mul (Nat.two_pow_pos _),<- Nat.pow_add]
  exact Nat.lt_of_lt_of_le h2 (Nat.pow_le_pow_right (by omega) (by omega))
 obtain⟨t,ht⟩:∃ t,blen a - h*n=t:=⟨_,rfl⟩
 rw [ht] at h3 ⊢
 have h4:r'<2 ^ (t / n+1):=by
  rcases Nat.lt_or_ge r' (2 ^ (t / n+1)) with k | k
  ·exact k
  ·exfalso
   have h5:=Nat.pow_le_pow_left k n;rw [<- Nat.pow_mul] at h5
   have h6:t<=(t / n+1)*n:=by
    have:=Nat.div_add_mod t n;have:=Nat.mod_lt t hn;rw [Nat.add_mul,Nat.one_mul,Nat.mul_comm];omega
   have h7:(2:Nat) ^ t<=2 ^ ((t / n+1)*n):=Nat.pow_le_pow_right (by omega) h6
   omega
 refine blen_le_iff.2 ?_;rw [Nat.pow_succ]
 omega
set_option maxRecDepth 8000 in
theorem whole_any(n:Nat)(hn:1<=n)(hn2:n<=1024)(L:Nat):∀ (a r:Nat) (A:Option Addr) (m c:Nat) (w:World),blen a<=L->L<=140000->0<a->U32s w A m c (digs a)->IsR a n r ->
  Calls Tryz.prog 250 #[.slice A m c,.int .i64 (n:Int)] w (NewU32 w (digs r)):=by
 induction L using Nat.strongRecOn with
 | ind L ih=>
 intro a r A m c w hL hL2 ha hx hr
 by_cases h1:n=1
 ·subst h1;rw [hr.one];have HX:=Hd hx;clear hx ih hr
  go_enter Tryz.func250,Tryz.ntmps250
  go_wp2
  go_ret
  exact⟨A,m,c,rfl,HX.out,Below.refl _ _⟩
 have hne:((n:Int) == 1)=false:=by simp;omega
 have HX:=Hd hx;have HR:=Hd hr;have HLN:=Hd (len_d hx);have HIH:=Hd fun (b r':Nat) (B:Option Addr) (m' c':Nat) (W:World) (h:blen b<L) (h0:0<b) (hb:U32s W B m' c' (digs b)) (hr':IsR b n r')=>ih (blen b) h b r' B m' c' W (Nat.le_refl _) (by omega) h0 hb hr'
 obtain⟨l,hl⟩:∃ l,blen a=l:=⟨_,rfl⟩
 rw [hl] at hL HLN;have HLL:=Hd hl;have HA0:=Hd ha
 obtain⟨qn,hqn⟩:∃ q,l / n=q:=⟨_,rfl⟩
 have hq:qn<=l:=by rw [<- hqn];exact Nat.div_le_self _ _
 have HQN:=Hd hqn
 have e0:(l:Int) / (n:Int)=(qn:Int):=by rw [<- hqn];rfl
 obtain⟨h,hh⟩:∃ h,qn / 2=h:=⟨_,rfl⟩
 have HH:=Hd hh
 have e2:(qn:Int) / 2=(h:Int):=by rw [<- hh];rfl
 have hn0:¬ (n:Int)=0:=by omega
 clear hx hr ih hl hh hqn ha
 go_enter Tryz.func250,Tryz.ntmps250
 go_wp2_with fail;refine HLN.out.mono ?_;rintro e w' ⟨rfl,rfl⟩;clear HLN
 go_upto_region 4 with fail
 skip;clear e2 e0
 go_upto_if 26 with fail
 go_cut [6,7,8,9] (fun s6 s7 s8 s9 wx=>∃ (x:Nat) (Ax:Option Addr) (nx cx:Nat),s6=.slice Ax nx cx/\U32s wx Ax nx cx (digs x)/\r<=x/\blen x<=qn+7/\0<x/\U32s wx A m c (digs a)/\Below w.heap.size w wx)
 case first=>
  by_cases h2:h<2
  ·have hi:(h:Int)<2:=by omega
   have hs:r<=32:=root_small HR.out (by
    have e:=HLL.out;have e3:=HH.out
    have e4:l / n<4:=by rw [HQN.out];omega
    rw [Nat.div_lt_iff_lt_mul (by omega)] at e4
    exact Nat.lt_of_lt_of_le (blen_le_iff.1 (Nat.le_refl _)) (Nat.pow_le_pow_right (by omega) (by rw [e];omega)))
   have HSM:=Hd hs;have HB3:=Hd (show blen 32<=qn+7 from by have:blen 32<=6:=blen_le_iff.2 (by omega);omega);clear hs h2 HIH;go_wp2_with fail
   go_meet
   case rel=>exact⟨32,_,1,1,rfl,by rw [digs_32];exact U32s.lit1 w 117 (a:=32) (by omega),HSM.out,HB3.out,by omega,HX.out.alloc _,below_alloc w _⟩
  ·have hi:¬ (h:Int)<2:=by omega
   have hhn:h*n<=l:=by
    have e:=HH.out;have e3:=HQN.out
    have e4:h<=l / n:=by omega
    exact (Nat.le_div_iff_mul_le (by omega)).1 e4
   have hhn2:2*1<=h*n:=Nat.mul_le_mul (by omega) hn
   obtain⟨k,hk⟩:∃ k,h*n=k:=⟨_,rfl⟩
   rw [hk] at hhn hhn2
   have ek:(h:Int)*(n:Int)=(k:Int):=by rw [<- hk];rfl
   obtain⟨r',hr'⟩:=exists_root n (by omega) (a / 2 ^ k);have hst:=whole_start (h:=h) (by omega) HR.out (by rw [hk];exact hr');rw [hk,HLL.out] at hst
   have hb:blen (a / 2 ^ k)<=l - k:=by
    refine blen_le_iff.2 ?_;rw [Nat.div_lt_iff_lt_mul (Nat.two_pow_pos _),<- Nat.pow_add]
    exact Nat.lt_of_lt_of_le (blen_le_iff.1 (Nat.le_refl _)) (Nat.pow_le_pow_right (by omega) (by rw [HLL.out];omega))
   have hq2:(l - k) / n+h<=qn:=by
    have e3:=HQN.out;rw [<- hk,<- e3,Nat.mul_comm h n,Nat.sub_mul_div]
    have:h<=l / n:=by rw [e3];have:=HH.out;omega
    omega
   have HSH:=Hd (shr_d k HX.out (by rw [HLL.out];omega) (by omega));have HS1:=Hd hst.1;have hb2:=blen_mul (r'+1) (2 ^ h);have hb3:blen (2 ^ h)<=h+1:=blen_le_iff.2 (Nat.pow_lt_pow_right (by omega) (by omega));have HBX:=Hd (show blen ((r'+1)*2 ^ h)<=qn+7 from by have:=hst.2;omega);have HB1:=Hd (show blen (r'+1)+h<=500000/\blen r'<=500000 from⟨by have:=hst.2;omega,by have:=hst.2;have:=blen_mono (show r'<=r'+1 by omega);omega⟩);have HRR:=Hd hr';have HLB:=Hd (show blen (a / 2 ^ k)<L by omega)
   have HB0:=Hd (show 0<a / 2 ^ k from by
    have h5:2*k<=l:=by
     have e3:=HQN.out;have e4:=HH.out
     have e5:2*h<=l / n:=by omega
     have e6:=(Nat.le_div_iff_mul_le (by omega)).1 e5;rw [<- hk,<- Nat.mul_assoc];exact e6
    refine Nat.div_pos ?_ (Nat.two_pow_pos _)
    rcases Nat.lt_or_ge a (2 ^ k) with c | c
    ·have:=blen_le_iff.2 c;rw [HLL.out] at this;omega
    ·exact c)
   have ek2:wrap64 (k:Int)=(k:Int):=by unfold wrap64;omega
   clear hk hhn hhn2 hr' hst hb hq2 hb2 hb3 h2;go_wp2_with fail;refine HSH.out.mono ?_;rintro e w1 ⟨A1,n1,c1,rfl,hu1,hb1⟩;have HI:=Hd (HIH.out _ r' A1 n1 c1 w1 HLB.out HB0.out hu1 HRR.out);have HX1:=Hd (HX.out.below hb1);have HBW1:=Hd hb1;clear hu1 hb1 HSH HIH HLB HB0 HRR ek ek2 HX;go_wp2_with fail;refine HI.out.mono ?_;rintro e w2 ⟨A2,n2,c2,rfl,hu2,hb2⟩;have HU2:=Hd hu2;have HX2:=Hd (HX1.out.below hb2);have HBW2:=Hd (HBW1.out.trans (hb2.mono HBW1.out.size));clear hu2 hb2 HI HX1 HBW1
   have hl1:U32s (w2.alloc (.cells #[.int .u32 1] 117)) (some ⟨w2.heap.size,0,none⟩) 1 1 (digs 1):=by rw [digs_one];exact U32s.lit1 w2 117 (a:=1) (by omega)
   have HAD:=Hd (add_d (HU2.out.alloc (.cells #[.int .u32 1] 117)) hl1 HB1.out.2 (by have:blen 1<=1:=blen_le_iff.2 (by omega);omega));have HX3:=Hd (HX2.out.alloc (.cells #[.int .u32 1] 117));have HBW3:=Hd (HBW2.out.alloc HBW2.out.size (.cells #[.int .u32 1] 117));clear hl1 HX2 HBW2 HU2;go_wp2_with fail;refine HAD.out.mono ?_;rintro e w4 ⟨A4,n4,c4,rfl,hu4,hb4⟩;have HSL:=Hd (shl_d h hu4 HB1.out.1);have HX4:=Hd (HX3.out.below hb4);have HBW4:=Hd (HBW3.out.trans (hb4.mono HBW3.out.size));clear hu4 hb4 HAD HX3 HBW3;go_wp2_with fail;refine HSL.out.mono ?_;rintro e w5 ⟨A5,n5,c5,rfl,hu5,hb5⟩;have HU5:=Hd hu5;have HX5:=Hd (HX4.out.below hb5);have HBW5:=Hd (HBW4.out.trans (hb5.mono HBW4.out.size));clear hu5 hb5 HSL HX4 HBW4;go_wp2_with fail
   go_meet
   case rel=>exact⟨_,A5,n5,c5,rfl,HU5.out,HS1.out,HBX.out,Nat.mul_pos (by omega) (Nat.two_pow_pos _),HX5.out,HBW5.out⟩
 case rest=>
  obtain⟨x0,Ax0,nx0,cx0,rfl,hu,hr1,hb1,hp1,hxa,hbw⟩:=hcut;rename World=>wx;have HU:=Hd hu;have HXA:=Hd hxa;have HBW:=Hd hbw
  obtain⟨n1,hn1⟩:∃ k,n=k+1:=⟨n - 1,by omega⟩
  have en:(n:Int) - 1=(n1:Int):=by omega
  have HQB:=Hd (show (qn+7)*n1<=160000 from by
   have e:=HQN.out
   have e2:qn*n<=l:=by rw [<- e];exact Nat.div_mul_le_self _ _
   rw [hn1,Nat.mul_add,Nat.mul_one] at e2
   rw [Nat.add_mul];omega)
  have HN1:=Hd hn1
  have hn1s:n1<=1023:=by omega
  clear hu hxa hbw HX HIH HH hn1;go_wp2
  go_loopw [6] (fun xv wr=>∃ (x:Nat) (Ax:Option Addr) (nx cx:Nat),xv=.slice Ax nx cx/\U32s wr Ax nx cx (digs x)/\r<=x/\blen x<=qn+7/\0<x/\U32s wr A m c (digs a)/\Below w.heap.size w wr) (fun xv wr=>xval wr xv)
  case atStart=>exact⟨x0,Ax0,nx0,cx0,rfl,HU.out,hr1,hb1,hp1,HXA.out,HBW.out⟩
  case round=>
   obtain⟨x,Ax,nx,cx,rfl,hu,hrx,hbx,hpx,hxa,hbw⟩:=hrel;have hmul:blen x*n1<=160000:=Nat.le_trans (Nat.mul_le_mul_right _ hbx) HQB.out;have hst:=newton_step (a:=a) (m:=n1) (r:=r) (x:=x) (by have:=HR.out;rwa [HN1.out] at this) hpx hrx;have hpp:=blen_pow x n1
   obtain⟨P,hP⟩:∃ P,x ^ n1=P:=⟨_,rfl⟩
   have hP0:0<P:=by rw [<- hP];exact Nat.pow_pos hpx
   have HPW:=Hd (pow_d n1 hu (by omega) (by omega) (by omega));rw [hP] at hst HPW hpp;have hy1:=blen_mul x n1;have hn1b:blen n1<=11:=blen_le_iff.2 (by omega)
   have hqa:blen (a / P)<=l:=by rw [<- HLL.out];exact blen_mono (Nat.div_le_self _ _)
   obtain⟨Qt,hQt⟩:∃ q,a / P=q:=⟨_,rfl⟩
   rw [hQt] at hst hqa;have hya:=blen_add (x*n1) Qt 200000 (by omega) (by omega)
   obtain⟨Y,hY⟩:∃ y,(x*n1+Qt) / (n1+1)=y:=⟨_,rfl⟩
   rw [hY] at hst;have HXR:=Hd hu;have HAR:=Hd hxa;have HBR:=Hd hbw;have HST:=Hd hst;have HXV:=Hd (xval_eq hu);have HFX:=Hd (And.intro hbx (And.intro hpx hrx));have HPF:=Hd (And.intro hP0 hpp);have HQT:=Hd hQt;have HYY:=Hd hY;have HYB:=Hd (And.intro hy1 (And.intro hqa hya));have hml:=hmul;clear hu hxa hbw hst hrx hpx hP0 hpp hP hy1 hqa hya hQt hY HU HXA HBW hr1 hb1 hp1;go_wp2_with fail;refine HPW.out.mono ?_;rintro e w1 ⟨A1,m1,c1,rfl,hu1,hb1⟩;have HA1:=Hd (HAR.out.below hb1);have HX1:=Hd (HXR.out.below hb1);have HB1:=Hd (HBR.out.trans (hb1.mono HBR.out.size));have HP1:=Hd hu1;have HQ1:=Hd (quo_d HA1.out hu1 (by rw [HLL.out];omega) (by have:=HPF.out.2;omega) HPF.out.1);rw [HQT.out] at HQ1;clear hu1 hb1 HPW HAR HXR HBR;go_wp2_with fail;refine HQ1.out.mono ?_;rintro e w2 ⟨A2,m2,c2,B2,p2,d2,rfl,hu2,-,hb2⟩;have HA2:=Hd (HA1.out.below hb2);have HX2:=Hd (HX1.out.below hb2);have HB2:=Hd (HB1.out.trans (hb2.mono HB1.out.size));have HQ2:=Hd hu2;have HS2:=Hd (nsmall_any n1 w2 (by omega));clear hu2 hb2 HQ1 HA1 HX1 HB1 HP1;go_wp2_with fail;refine HS2.out.mono ?_;rintro e w3 ⟨A3,m3,c3,rfl,hu3,hb3⟩;have HA3:=Hd (HA2.out.below hb3);have HX3:=Hd (HX2.out.below hb3);have HQ3:=Hd (HQ2.out.below hb3);have HB3:=Hd (HB2.out.trans (hb3.mono HB2.out.size));have HM3:=Hd (mul_d HX3.out hu3 (by have:=HFX.out.1;omega) (by omega));clear hu3 hb3 HS2 HA2 HX2 HB2 HQ2;go_wp2_with fail;refine HM3.out.mono ?_
   rintro e w4 ⟨A4,m4,c4,rfl,hu4,hb4⟩;have HA4:=Hd (HA3.out.below hb4);have HX4:=Hd (HX3.out.below hb4);have HB4:=Hd (HB3.out.trans (hb4.mono HB3.out.size));have HD4:=Hd (add_d hu4 (HQ3.out.below hb4) (by have:=HYB.out.1;omega) (by have:=HYB.out.2.1;omega));clear hu4 hb4 HM3 HA3 HX3 HB3 HQ3;go_wp2_with fail;refine HD4.out.mono ?_;rintro e w5 ⟨A5,m5,c5,rfl,hu5,hb5⟩;have HA5:=Hd (HA4.out.below hb5);have HX5:=Hd (HX4.out.below hb5);have HY5:=Hd hu5;have HB5:=Hd (HB4.out.trans (hb5.mono HB4.out.size));have HS5:=Hd (show Calls Tryz.prog 169 #[.int .u64 (n:Int)] w5 (NewU32 w5 (digs (n1+1))) from by have h:=nsmall_any n w5 (by omega);rwa [HN1.out] at h ⊢);clear hu5 hb5 HD4 HA4 HX4 HB4;go_wp2_with fail;refine HS5.out.mono ?_;rintro e w6 ⟨A6,m6,c6,rfl,hu6,hb6⟩;have HA6:=Hd (HA5.out.below hb6);have HX6:=Hd (HX5.out.below hb6);have HB6:=Hd (HB5.out.trans (hb6.mono HB5.out.size));have HQ6:=Hd (quo_d (HY5.out.below hb6) hu6 (by have:=HYB.out.2.2;omega) (by have:blen (n1+1)<=11:=blen_le_iff.2 (by omega);omega) (by omega));rw [HYY.out] at HQ6;clear hu6 hb6 HS5 HA5 HX5 HB5 HY5;go_wp2_with fail;refine HQ6.out.mono ?_;rintro e w7 ⟨A7,m7,c7,B7,p7,d7,rfl,hu7,-,hb7⟩;have HX7:=Hd (HX6.out.below hb7);have hc7:=cmp_d hu7 HX7.out;have HA7:=Hd (HA6.out.below hb7);have HY7:=Hd hu7;have HB7:=Hd (HB6.out.trans (hb7.mono HB6.out.size))
   obtain⟨cc,hcc⟩:∃ z,cmp3 Y x=z:=⟨_,rfl⟩
   rw [hcc] at hc7;have HC7:=Hd hc7;have HCC:=Hd hcc;clear hu7 hb7 HQ6 HA6 HX6 HB6 hc7 hcc;go_wp2_with fail;refine HC7.out.mono ?_;rintro e w8 ⟨rfl,k8,hk8⟩
   have hb8:Below w7.heap.size w7 w8:=by rw [hk8];exact below_drewN (Below.refl _ _) k8
   have HX8:=Hd (HX7.out.below hb8);have HA8:=Hd (HA7.out.below hb8);have HY8:=Hd (HY7.out.below hb8);have HB8:=Hd (HB7.out.trans (hb8.mono HB7.out.size));clear hb8 hk8 HC7 HX7 HA7 HY7 HB7
   by_cases hneg:cc<0
   ·have hlt:Y<x:=cmp3_neg.1 (by rw [HCC.out];exact hneg);have HLT:=Hd hlt;have HV8:=Hd (xval_eq HY8.out);clear hlt HCC;go_wp2
    go_roundw
    case rel=>exact⟨Y,A7,m7,c7,rfl,HY8.out,HST.out.1,Nat.le_trans (blen_mono (Nat.le_of_lt HLT.out)) HFX.out.1,Nat.lt_of_lt_of_le (HR.out.pos HA0.out) HST.out.1,HA8.out,HB8.out⟩
    case measure=>show xval w8 (.slice A7 m7 c7)<xval wr (.slice Ax nx cx);rw [HV8.out,HXV.out];exact HLT.out
   ·have hge:x<=Y:=cmp3_nonneg.1 (by rw [HCC.out];omega);have HRX:=Hd (HST.out.2 hge);have hng:¬ cc<0:=hneg;clear hge HCC HST;go_wp2
    go_ret
    exact⟨Ax,nx,cx,rfl,by rw [HRX.out];exact HX8.out,HB8.out⟩
end
theorem rmul_pow(a b:Rat)(n:Nat):(a*b) ^ n=a ^ n*b ^ n:=by
 induction n with
 | zero=>simp [Rat.pow_zero]
 | succ n ih=>rw [Rat.pow_succ,Rat.pow_succ,Rat.pow_succ,ih];grind
theorem rpow_le{a b:Rat}(h0:0<=a)(h:a<=b)(n:Nat):a ^ n<=b ^ n:=by
 induction n with
 | zero=>rw [Rat.pow_zero,Rat.pow_zero];grind
 | succ n ih=>
  rw [Rat.pow_succ,Rat.pow_succ]
  have h1:a ^ n*a<=b ^ n*a:=by rw [Rat.mul_comm _ a,Rat.mul_comm _ a];exact Rat.mul_le_mul_of_nonneg_left ih h0
  have h2:b ^ n*a<=b ^ n*b:=Rat.mul_le_mul_of_nonneg_left h (Rat.pow_nonneg (by grind))
  grind
theorem rpow_lt{a b:Rat}(h0:0<=a)(h:a<b)(n:Nat)(hn:0<n):a ^ n<b ^ n:=by
 obtain⟨m,rfl⟩:∃ m,n=m+1:=⟨n - 1,by omega⟩
 rw [Rat.pow_succ,Rat.pow_succ]
 have hb:0<b:=by grind
 have h1:a ^ m*a<=b ^ m*a:=by rw [Rat.mul_comm _ a,Rat.mul_comm _ a];exact Rat.mul_le_mul_of_nonneg_left (rpow_le h0 (by grind) m) h0
 have h2:b ^ m*a<b ^ m*b:=Rat.mul_lt_mul_of_pos_left h (Rat.pow_pos hb)
 grind
theorem zpow_pow(E:Int)(n:Nat):((2:Rat) ^ E) ^ n=2 ^ ((n:Int)*E):=by
 induction n with
 | zero=>rw [Rat.pow_zero];simp
 | succ n ih=>
  rw [Rat.pow_succ,ih,<- zpow_add]
  congr 1
  rw [show ((n+1:Nat):Int)=(n:Int)+1 from by omega,Int.add_mul,Int.one_mul]
theorem nat_le_c{c:Rat}(hc:0<c)(a b:Nat):(a:Rat)*c<=(b:Rat)*c↔a<=b:=by
 rw [mul_le_pos hc];exact Rat.natCast_le_natCast
theorem pow_le_iff(Z R n:Nat)(hn:0<n):Z ^ n<=R ^ n↔Z<=R:=by
 constructor
 ·intro h
  rcases Nat.lt_or_ge R Z with k | k
  ·have:=Nat.pow_lt_pow_left k (show n≠0 by omega);omega
  ·exact k
 ·exact fun h=>Nat.pow_le_pow_left h n
def rq(s n R:Nat)(c:Rat):Rat:=if R ^ n=s then (R:Rat)*c else ((2*R+1:Nat):Rat)*(c / 2)
theorem root_cmp{c f:Rat}{s n R:Nat}(hc:0<c)(hn:0<n)(hR:IsR s n R)(hf:(∃ Z:Nat,f=(Z:Rat)*c)\/(0<=f/\f<(R:Rat)*c)):
  (f<=rq s n R c↔f ^ n<=(s:Rat)*c ^ n)/\(rq s n R c<=f↔(s:Rat)*c ^ n<=f ^ n):=by
 have hcn:0<c ^ n:=Rat.pow_pos hc
 have hc2:0<c / 2:=by grind
 rcases hf with ⟨Z,rfl⟩ | ⟨h0,hlt⟩
 ·rw [rmul_pow,<- Rat.natCast_pow,nat_le_c hcn,nat_le_c hcn];unfold rq
  by_cases h:R ^ n=s
  ·rw [if_pos h,nat_le_c hc,nat_le_c hc,<- h,pow_le_iff _ _ _ hn,pow_le_iff _ _ _ hn]
   exact⟨Iff.rfl,Iff.rfl⟩
  ·rw [if_neg h]
   have e:(Z:Rat)*c=((2*Z:Nat):Rat)*(c / 2):=by push_cast;grind
   rw [e,nat_le_c hc2,nat_le_c hc2]
   constructor
   ·constructor
    ·intro k;have:=Nat.pow_le_pow_left (show Z<=R by omega) n;have:=hR.1;omega
    ·intro k;have:=hR.ge k;omega
   ·constructor
    ·intro k;have:=Nat.pow_le_pow_left (show R+1<=Z by omega) n;have:=hR.2;omega
    ·intro k;have h1:=hR.1
     rcases Nat.lt_or_ge R Z with q | q
     ·omega
     ·have:=Nat.pow_le_pow_left q n;omega
 ·have h1:(R:Rat)*c<=rq s n R c:=by
   unfold rq
   split
   ·grind
   ·have:((R:Rat)*c)=((2*R:Nat):Rat)*(c / 2):=by push_cast;grind
    rw [this,nat_le_c hc2];omega
  have h2:f ^ n<((R:Rat)*c) ^ n:=rpow_lt h0 hlt n hn
  have h3:((R:Rat)*c) ^ n<=(s:Rat)*c ^ n:=by
   rw [rmul_pow,<- Rat.natCast_pow,nat_le_c hcn];exact hR.1
  constructor
  ·exact⟨fun _=>by grind,fun _=>by grind⟩
  ·exact⟨fun _=>by grind,fun _=>by grind⟩
theorem fl_dig{j:Int}(hj:0<=j)(E:Int)(R:Nat)(hR:144115188075855872<=R):(∃ Z:Nat,fl j=(Z:Rat)*2 ^ E)\/(0<=fl j/\fl j<(R:Rat)*2 ^ E):=by
 obtain⟨k,q,e,hk,hq⟩:=rung_form j.toNat
 have hm:mag j.natAbs=q*2 ^ k:=by
  rw [show j.natAbs=j.toNat by omega,e];exact mag_form k q hk (by omega)
 have hv:val j=((q*2 ^ k:Nat):Int):=by
  have h1:=val_natAbs j;rw [hm] at h1
  have h2:0<=val j:=by
   rcases Int.lt_or_eq_of_le hj with h | h
   ·have:=(@val_lt_iff 0 j).2 h;rw [val_zero] at this;omega
   ·rw [<- h,val_zero];omega
  omega
 have hf:fl j=(q:Rat)*2 ^ ((k:Int) - 1074):=by
  unfold fl;rw [hv,show ((k:Int) - 1074)=(k:Int)+(-1074) from by omega,zpow_add,zpow_nat];generalize (2:Rat) ^ (-1074:Int)=z
  push_cast
  grind
 by_cases h:E<=(k:Int) - 1074
 ·left
  obtain⟨t,ht⟩:∃ t:Nat,(k:Int) - 1074=(t:Int)+E:=⟨((k:Int) - 1074 - E).toNat,by omega⟩
  refine⟨q*2 ^ t,?_⟩;rw [hf,ht,zpow_add,zpow_nat]
  push_cast
  grind
 ·right
  obtain⟨t,ht⟩:∃ t:Nat,E=(t:Int)+((k:Int) - 1074):=⟨(E - ((k:Int) - 1074)).toNat,by omega⟩
  have hp:=zpow_pos ((k:Int) - 1074)
  have h53:(2:Nat) ^ 53=9007199254740992:=by decide
  refine⟨fl_le_iff.2 hj |> fun h=>by rwa [fl_zero] at h,?_⟩;rw [hf,ht,zpow_add,zpow_nat,<- Rat.mul_assoc,<- Rat.natCast_mul]
  have h1:((q+1:Nat):Rat)*2 ^ ((k:Int) - 1074)<=((R*2 ^ t:Nat):Rat)*2 ^ ((k:Int) - 1074):=by
   rw [nat_le_c hp];have:=Nat.mul_le_mul_left R (Nat.one_le_two_pow (n:=t))
   omega
  push_cast at h1 ⊢
  grind
def RtOk(i:Int)(n:Nat)(q:Rat):Prop:=0<q/\∀ j:Int,0<=j->(fl j<=q↔fl j ^ n<=fl i)/\(q<=fl j↔fl i<=fl j ^ n)
theorem RtOk.le{i:Int}{n:Nat}{q q':Rat}(h:RtOk i n q)(h':RtOk i n q')(j:Int):(fl j<=q↔fl j<=q')/\(q<=fl j↔q'<=fl j):=by
 by_cases hj:0<=j
 ·rw [(h.2 j hj).1,(h'.2 j hj).1,(h.2 j hj).2,(h'.2 j hj).2];exact⟨Iff.rfl,Iff.rfl⟩
 ·have h1:fl j<0:=by have:=fl_lt_iff.2 (show j<0 by omega);rwa [fl_zero] at this
  have h2:=h.1;have h3:=h'.1
  exact⟨⟨fun _=>by grind,fun _=>by grind⟩,⟨fun _=>by grind,fun _=>by grind⟩⟩
theorem RtOk.rnd{i:Int}{n:Nat}{q q':Rat}(h:RtOk i n q)(h':RtOk i n q'){d:Int}(hd:d=-1\/d=1):rndI d q=rndI d q':=by
 rcases hd with rfl | rfl
 ·obtain⟨a1,a2,a3⟩:=rndI_down q;obtain⟨b1,b2,b3⟩:=rndI_down q';have hM:=M_val
  by_cases c1:rndI (-1) q=-(M:Int)
  ·by_cases c2:rndI (-1) q'=-(M:Int)
   ·omega
   ·have:=(a3 _ (by omega) b2).2 ((h.le h' _).1.2 ((b3 _ (by omega) b2).1 (Int.le_refl _)))
    omega
  ·have l1:=(b3 _ (by omega) a2).2 ((h.le h' _).1.1 ((a3 _ (by omega) a2).1 (Int.le_refl _)));have l2:=(a3 (rndI (-1) q') (by omega) b2).2 ((h.le h' _).1.2 ((b3 _ (by omega) b2).1 (Int.le_refl _)))
   omega
 ·obtain⟨a1,a2,a3⟩:=rndI_up q;obtain⟨b1,b2,b3⟩:=rndI_up q';have hM:=M_val
  by_cases c1:rndI 1 q=M
  ·by_cases c2:rndI 1 q'=M
   ·omega
   ·have:=(a3 _ b1 (by omega)).2 ((h.le h' _).2.2 ((b3 _ b1 (by omega)).1 (Int.le_refl _)))
    omega
  ·have l1:=(b3 _ a1 (by omega)).2 ((h.le h' _).2.1 ((a3 _ a1 (by omega)).1 (Int.le_refl _)));have l2:=(a3 (rndI 1 q') b1 (by omega)).2 ((h.le h' _).2.2 ((b3 _ b1 (by omega)).1 (Int.le_refl _)))
   omega
theorem rq_pos{s n R:Nat}{c:Rat}(hc:0<c)(hR:0<R):0<rq s n R c:=by
 unfold rq
 split
 ·exact Rat.mul_pos (by exact_mod_cast hR) hc
 ·exact Rat.mul_pos (by exact_mod_cast (show 0<2*R+1 by omega)) (by grind)
theorem rq_ok{i:Int}{n s R:Nat}{E:Int}(hn:0<n)(hR:IsR s n R)(h57:144115188075855872<=R)(hi:fl i=(s:Rat)*2 ^ ((n:Int)*E)):RtOk i n (rq s n R (2 ^ E)):=by
 have hc:=zpow_pos E;refine⟨rq_pos hc (by omega),fun j hj=>?_⟩;have h:=root_cmp hc hn hR (fl_dig hj E R h57);rw [zpow_pow,<- hi] at h
 exact h
open Classical in
noncomputable def rootq(i:Int)(n:Nat):Rat:=if h:∃ q,RtOk i n q then h.choose else 0
theorem rootq_ok{i:Int}{n:Nat}{q:Rat}(h:RtOk i n q):RtOk i n (rootq i n):=by
 unfold rootq
 have k:∃ q,RtOk i n q:=⟨q,h⟩
 rw [dif_pos k]
 exact k.choose_spec
noncomputable def rt1(d i:Int)(n:Nat):Int:=if i=0\/i=M then i else rndI d (rootq i n)
noncomputable def rti(d i:Int)(n:Nat):Int:=if i<0 then -(rt1 (-d) (-i) n) else rt1 d i n
theorem rt1_of{d i:Int}{n:Nat}{q:Rat}(hd:d=-1\/d=1)(h:RtOk i n q)(h0:i≠0)(h1:i≠M):rt1 d i n=rndI d q:=by
 unfold rt1;rw [if_neg (by omega)]
 exact (rootq_ok h).rnd h hd
section
open Go.RowKit
theorem cmp_b{A B:Option Addr}{n c m d x y:Nat}{w:World}{cc:Int}(hx:U32s w A n c (digs x))(hy:U32s w B m d (digs y))(h:cmp3 x y=cc):Rt 142 #[.slice A n c,.slice B m d] (.int .i64 cc) w:=by
 rw [<- h];refine (cmp_d hx hy).mono ?_;rintro e w' ⟨he,k,hk⟩
 exact⟨he,by rw [hk];exact below_drewN (Below.refl _ _) k⟩
theorem run_max_int{a b E:Int}(h:max a b=E)(W:World)(ts:Array TypeId)(t:TypeId):(Builtin.max_ ts t #[.int .i64 a,.int .i64 b]).run Tryz.prog W=.ok (.int .i64 E) W:=by
 have e:(Builtin.max_ ts t #[.int .i64 a,.int .i64 b])=Builtin.max2 (.int .i64 a) (.int .i64 b):=by simp [Builtin.max_]
 rw [e];unfold Builtin.max2;subst h
 simp [Int.max_def]
 split<;>split<;>omega
set_option maxRecDepth 8000 in
theorem root_walk(d:Int)(neg more:Bool)(S n k0 J r s z:Nat)(e E cc:Int)(A:Option Addr)(m c:Nat)(w:World)(hu:U32s w A m c (digs S))(hS:blen S<=64)(hn:1<=n)(hn2:n<=1024)(he:-2000<=e/\e<=2000)(hk0:max 0 (58*(n:Int) - (blen S:Int))=(k0:Int))(hJ:J<=1024)
  (hj1:∀ i:Nat,i<J->¬ (e - ((k0+i:Nat):Int)).tmod (n:Int)=0)(hj2:(e - ((k0+J:Nat):Int)).tmod (n:Int)=0)(hE:(e - ((k0+J:Nat):Int)).tdiv (n:Int)=E)(hEb:-100000<=E/\E<=100000)(hs:S*2 ^ (k0+J)=s)(hs0:0<s)(hr:IsR s n r)(hcc:cmp3 (r ^ n) s=cc)(hm:(!(cc == 0))=more)
  (hof:∀ W B m' c',U32s W B m' c' (digs r)->Rt 230 #[.int .i64 d,.bool neg,.slice B m' c',.int .i64 E,.bool more] (.float .f64 z) W):
  Rt 223 #[.int .i64 d,.agg #[.bool neg,.slice A m c,.int .i64 e],.int .i64 (n:Int)] (.float .f64 z) w:=by
 have hb1:k0<=58*1024:=by omega
 have hsb:blen s<=70000:=by rw [<- hs];have:=blen_mul S (2 ^ (k0+J));have:blen (2 ^ (k0+J))<=k0+J+1:=blen_le_iff.2 (Nat.pow_lt_pow_right (by omega) (by omega));omega
 have hrb:blen r<=70000:=by
  refine Nat.le_trans (blen_mono ?_) hsb;refine Nat.le_trans ?_ hr.1
  rcases Nat.eq_zero_or_pos r with h | h
  ·omega
  ·calc r=r ^ 1:=(Nat.pow_one r).symm
    _<=r ^ n:=Nat.pow_le_pow_right h hn
 have hrn:blen r*n<=200000:=by
  have h1:=hr.1
  rcases Nat.eq_zero_or_pos r with h | h
  ·subst h;rw [blen_zero];omega
  ·have h2:2 ^ (blen r - 1)<=r:=by
    rcases Nat.lt_or_ge r (2 ^ (blen r - 1)) with q | q
    ·have:=blen_le_iff.2 q
     have:blen r≠0:=fun h0=>by have:=blen_eq_zero.1 h0;omega
     omega
    ·exact q
   have h3:=Nat.pow_le_pow_left h2 n;rw [<- Nat.pow_mul] at h3;have h4:2 ^ ((blen r - 1)*n)<2 ^ blen s:=Nat.lt_of_le_of_lt (Nat.le_trans h3 h1) (blen_le_iff.1 (Nat.le_refl _));have h5:=(Nat.pow_lt_pow_iff_right (show 1<2 by omega)).1 h4;rw [Nat.sub_mul] at h5
   omega
 have HU:=Hd hu;have HLN:=Hd fun W (h:U32s W A m c (digs S))=>len_d h
 obtain⟨b,hb⟩:∃ b,blen S=b:=⟨_,rfl⟩
 rw [hb] at hk0 hS HLN;have HMX:=Hd fun (W:World) (ts:Array TypeId) (t:TypeId)=>run_max_int hk0 W ts t
 have hw1:wrap64 (58*(n:Int))=58*(n:Int):=by unfold wrap64;omega
 have hw2:wrap64 (58*(n:Int) - (b:Int))=58*(n:Int) - (b:Int):=by unfold wrap64;omega
 have HSL:=Hd fun W (h:U32s W A m c (digs S))=>shl_d (k0+J) h (by rw [hb];omega);rw [hs] at HSL;have HWH:=Hd fun W B m' c' (h:U32s W B m' c' (digs s))=>whole_any n hn hn2 140000 s r B m' c' W (by omega) (by omega) hs0 h hr;have HPW:=Hd fun W B m' c' (h:U32s W B m' c' (digs r))=>pow_d (w:=W) n h (by omega) (by omega) (by omega);have HCM:=Hd fun W B m' c' C p q (h:U32s W B m' c' (digs (r ^ n))) (h2:U32s W C p q (digs s))=>cmp_b h h2 hcc;have HJ1:=Hd hj1;have HJ2:=Hd hj2;have HE:=Hd hE;have HOF:=Hd hof;have HM:=Hd hm
 have hn0:¬ (n:Int)=0:=by omega
 clear hu hs hr hcc hof hj1 hj2 hE hsb hrb hrn hb hs0 hm;have LL:=li1 w #[.bool neg,.slice A m c,.int .i64 e] 168;have HU0:=Hd (HU.out.below LL.out.b);clear HU
 go_enter Tryz.func223,Tryz.ntmps223
 obtain⟨q1_0,q1_1,q1_2⟩:=(LL.out.blk 0 rfl).c3;have hmx:=HMX.out;go_wp2_with fail;refine (HLN.out _ HU0.out).mono ?_;rintro e1 w1 ⟨rfl,rfl⟩;clear HLN q1_0 q1_1 q1_2
 obtain⟨wa,hwa⟩:∃ X,(w.alloc (.cells #[.bool neg,.slice A m c,.int .i64 e] 168))=X:=⟨_,rfl⟩
 rw [hwa] at HU0 LL ⊢;clear hwa;obtain⟨q2_0,q2_1,q2_2⟩:=(LL.out.blk 0 rfl).c3;go_wp2;clear hmx HMX hw1 hw2 q2_0 q2_1 q2_2
 go_loopw [7] (fun kv wr=>∃ i:Nat,kv=.int .i64 ((k0+i:Nat):Int)/\i<=J/\wr=wa) (fun kv _=>k0+J - (intOf kv).toNat)
 case atStart=>exact⟨0,rfl,by omega,rfl⟩
 case round=>
  obtain⟨i,rfl,hi,hwr⟩:=hrel;subst hwr
  have hk:(0:Int)<=((k0+i:Nat):Int)/\((k0+i:Nat):Int)<=61000:=by omega
  obtain⟨kk,hkk⟩:∃ z:Int,((k0+i:Nat):Int)=z:=⟨_,rfl⟩
  have hw3:wrap64 (e - kk)=e - kk:=by unfold wrap64;omega
  by_cases hlt:i<J
  ·skip;obtain⟨q3_0,q3_1,q3_2⟩:=(LL.out.blk 0 rfl).c3;have t1:=HJ1.out i hlt;rw [hkk] at t1 hk ⊢
   have t2:((e - kk).tmod (n:Int) == 0)=false:=by simpa using t1
   go_wp2
   exact⟨⟨i+1,by rw [<- hkk,show k0+(i+1)=k0+i+1 from by omega];rfl,by omega,trivial⟩,by simp [intOf];omega⟩
  ·skip
   obtain rfl:i=J:=by omega
   have t1:=HJ2.out;have te:=HE.out;rw [hkk] at t1 te hk ⊢;have HT1:=Hd t1;have HSK:=Hd (HSL.out _ HU0.out);rw [hkk] at HSK;have hkh:=Hd hkk;clear HJ1 HJ2 HE HSL hlt hi hkk;obtain⟨q4_0,q4_1,q4_2⟩:=(LL.out.blk 0 rfl).c3;go_wp2_with fail;refine HSK.out.mono ?_;rintro e2 w2 ⟨A2,m2,c2,rfl,hu2,hb2⟩;have HU2:=Hd hu2;replace LL:=stL LL hb2;clear hu2 hb2 HSK HU0 q4_0 q4_1 q4_2;have HW2:=Hd (HWH.out _ A2 m2 c2 HU2.out);go_wp2_with fail;refine HW2.out.mono ?_;rintro e2 w3 ⟨A3,m3,c3,rfl,hu3,hb3⟩;have HU3:=Hd hu3;replace HU2:=Hd (HU2.out.below hb3);replace LL:=stL LL hb3;clear hu3 hb3 HW2 HWH;have HW3:=Hd (HPW.out _ A3 m3 c3 HU3.out);go_wp2_with fail;refine HW3.out.mono ?_;rintro e2 w4 ⟨A4,m4,c4,rfl,hu4,hb4⟩;have HU4:=Hd hu4;replace HU2:=Hd (HU2.out.below hb4);replace HU3:=Hd (HU3.out.below hb4);replace LL:=stL LL hb4;clear hu4 hb4 HW3 HPW
   have hn1:¬ n=0:=by omega
   have f1:IntKind.i64.wrap (e - kk)=e - kk:=by rw [IntKind.wrap_i64];omega
   have f2:IntKind.i64.wrap E=E:=by rw [IntKind.wrap_i64];omega
   have hm1:(cc != 0)=more:=HM.out;have hm2:(!(cc == 0))=more:=HM.out
   have hm3:(!decide (cc=0))=more:=by rw [<- HM.out];rfl
   have hm4:decide (¬ cc=0)=more:=by rw [<- hm3];simp
   go_wp2_with fail;refine regL LL (fun hHeld=>?_);clear LL;replace HU2:=Hd (HU2.out.below (Below.refl _ _).drew);replace HU3:=Hd (HU3.out.below (Below.refl _ _).drew);replace HU4:=Hd (HU4.out.below (Below.refl _ _).drew);generalize World.drew _=wk at hHeld HU2 HU3 HU4 ⊢;refine tks 0 ?_;refine tks 1 ?_;refine tkb 2 (fun _ h=>(h.blk 0 rfl).c3) ?_;refine tks 3 ?_;refine tks 4 ?_;refine tkb 5 (fun _ h=>(h.blk 0 rfl).c3) ?_;refine tks 6 ?_;refine tks 7 ?_;refine tks 8 ?_;refine tks 9 ?_;refine tks 10 ?_;refine tks 11 ?_;refine rdy 12 fun KK hKK=>?_;go_simp;refine cs (HCM.out _ A4 m4 c4 A2 m2 c2 HU4.out HU2.out) ?_;clear hKK KK hHeld;intro wk hb5 hHeld;replace HU2:=Hd (HU2.out.below hb5);replace HU3:=Hd (HU3.out.below hb5);replace HU4:=Hd (HU4.out.below hb5);clear hb5;refine tks 13 ?_;refine rdy 14 fun KK hKK=>?_;go_simp;refine cs (HOF.out _ A3 m3 c3 HU3.out) ?_;clear hKK KK hHeld;intro wk hb6 hHeld;replace HU2:=Hd (HU2.out.below hb6);replace HU3:=Hd (HU3.out.below hb6);replace HU4:=Hd (HU4.out.below hb6);clear hb6;refine tks 15 ?_;refine wpAnyH_done (by kernel_rfl) ?_ _;have LL:=Hd hHeld;clear hHeld;go_wp2
   go_ret
   exact⟨rfl,LL.out.b⟩
end
section
open Go.RowKit
theorem sgn_pat2{i:Int}(h:-(M:Int)<=i/\i<=M)(h0:i≠0):sgn (pat i)=decide (i<0):=by
 have c:=pat_cases (pat_lt h.1 h.2);rw [idx_pat h.1 h.2] at c
 rcases c with ⟨c1,c2,c3,c4⟩ | ⟨c1,c2,c3,c4⟩
 ·rw [c3,decide_eq_false (by omega)]
 ·rw [c3,decide_eq_true (by omega)]
theorem rv_rq{s n R:Nat}(neg:Bool)(E:Int):(if R ^ n=s then rv neg R 1*2 ^ E else rv neg (2*R+1) 2*2 ^ E)=if neg=true then - rq s n R (2 ^ E) else rq s n R (2 ^ E):=by
 unfold rq rv
 by_cases h:R ^ n=s
 ·rw [if_pos h,if_pos h]
  cases neg<;>simp<;>grind
 ·rw [if_neg h,if_neg h]
  cases neg
  ·simp only [Bool.false_eq_true,if_false];push_cast;grind
  ·simp only [if_true];push_cast;grind
theorem root_q(S n:Nat)(e:Int)(hS:0<S)(hS2:S<9007199254740992)(he:-1074<=e/\e<=971)(hn:1<=n)(hn2:n<=1024):∃ q:Rat,(∀ i:Int,fl i=(S:Rat)*2 ^ e->RtOk i n q) /\
  ∀ (d:Int) (neg:Bool) (A:Option Addr) (m c:Nat) (w:World),d=-1\/d=1->U32s w A m c (digs S) ->
   Calls Tryz.prog 223 #[.int .i64 d,.agg #[.bool neg,.slice A m c,.int .i64 e],.int .i64 (n:Int)] w fun e' w'=>e'=.returned (.float .f64 (pat (rndI d (if neg=true then -q else q))))/\Below w.heap.size w w':=by
 have hb:blen S<=53:=blen_le_iff.2 (by omega)
 have hb0:0<blen S:=by
  rcases Nat.eq_zero_or_pos (blen S) with h | h
  ·have:=blen_eq_zero.1 h;omega
  ·exact h
 obtain⟨k0,hk0⟩:∃ k:Nat,max 0 (58*(n:Int) - (blen S:Int))=(k:Int):=⟨58*n - blen S,by omega⟩
 have hn0:(0:Int)<(n:Int):=by omega
 have hm1:=Int.emod_nonneg (e - (k0:Int)) (show (n:Int)≠0 by omega);have hm2:=Int.emod_lt_of_pos (e - (k0:Int)) hn0;have hdm:=Int.mul_ediv_add_emod (e - (k0:Int)) (n:Int)
 obtain⟨J,hJ⟩:∃ J:Nat,(e - (k0:Int)) % (n:Int)=(J:Int):=⟨((e - (k0:Int)) % (n:Int)).toNat,by omega⟩
 obtain⟨E,hE⟩:∃ E:Int,(e - (k0:Int)) / (n:Int)=E:=⟨_,rfl⟩
 rw [hJ,hE] at hdm;rw [hJ] at hm2
 have hek:e - ((k0+J:Nat):Int)=(n:Int)*E:=by omega
 have hEb:-100000<=E/\E<=100000:=by
  rw [<- hE]
  constructor
  ·rw [Int.le_ediv_iff_mul_le hn0];omega
  ·exact Int.le_of_lt (Int.ediv_lt_of_lt_mul hn0 (by omega))
 obtain⟨s,hs⟩:∃ s,S*2 ^ (k0+J)=s:=⟨_,rfl⟩
 have hs0:0<s:=by rw [<- hs];exact Nat.mul_pos hS (Nat.two_pow_pos _)
 obtain⟨r,hr⟩:=exists_root n (by omega) s
 have h58:2 ^ (58*n - 1)<=s:=by
  rw [<- hs]
  have h1:2 ^ (blen S - 1)<=S:=by
   rcases Nat.lt_or_ge S (2 ^ (blen S - 1)) with q | q
   ·have:=blen_le_iff.2 q;omega
   ·exact q
  calc 2 ^ (58*n - 1)<=2 ^ (blen S - 1+(k0+J)):=Nat.pow_le_pow_right (by omega) (by omega)
   _=2 ^ (blen S - 1)*2 ^ (k0+J):=Nat.pow_add ..
   _<=S*2 ^ (k0+J):=Nat.mul_le_mul_right _ h1
 have hR:144115188075855872<=r:=by
  rcases Nat.lt_or_ge r 144115188075855872 with q | q
  ·exfalso
   have h2:=Nat.pow_le_pow_left (show r+1<=2 ^ 57 by omega) n;rw [<- Nat.pow_mul] at h2;have h3:(2:Nat) ^ (57*n)<=2 ^ (58*n - 1):=Nat.pow_le_pow_right (by omega) (by omega);have:=hr.2
   omega
  ·exact q
 refine⟨rq s n r (2 ^ E),fun i hi=>?_,fun d neg A m c w hd hu=>?_⟩
 ·refine rq_ok (by omega) hr hR ?_;rw [hi,<- hek,<- hs,show e=((k0+J:Nat):Int)+(e - ((k0+J:Nat):Int)) from by omega,zpow_add,zpow_nat]
  push_cast
  rw [show ((k0:Int)+(J:Int)+(e - ((k0:Int)+(J:Int))) - ((k0:Int)+(J:Int)))=e - ((k0:Int)+(J:Int)) from by omega]
  grind
 ·have hrb:blen r<=70000:=by
   have h1:r<=s:=by
    refine Nat.le_trans ?_ hr.1
    calc r=r ^ 1:=(Nat.pow_one r).symm
     _<=r ^ n:=Nat.pow_le_pow_right (by omega) hn
   refine Nat.le_trans (blen_mono h1) ?_;rw [<- hs];have:=blen_mul S (2 ^ (k0+J));have:blen (2 ^ (k0+J))<=k0+J+1:=blen_le_iff.2 (Nat.pow_lt_pow_right (by omega) (by omega))
   omega
  have hb58:58<=blen r:=by
   rcases Nat.lt_or_ge (blen r) 58 with q | q
   ·have:=blen_le_iff.1 (show blen r<=57 by omega);omega
   ·exact q
  obtain⟨more,hmo⟩:∃ b,(!(cmp3 (r ^ n) s == 0))=b:=⟨_,rfl⟩
  refine root_walk d neg more S n k0 J r s _ e E _ A m c w hu (by omega) hn hn2 (by omega) hk0 (by omega) (fun i hi=>?_) ?_ ?_ hEb hs hs0 hr rfl hmo (fun W B m' c' hB=>?_)
  ·rw [<- Int.dvd_iff_tmod_eq_zero];rintro⟨t,ht⟩
   have h1:(e - ((k0+i:Nat):Int))=(n:Int)*E+((J:Int) - (i:Int)):=by omega
   have h2:(n:Int)*(t - E)=(J:Int) - (i:Int):=by rw [Int.mul_sub];omega
   have h3:0<t - E:=by
    rcases Int.lt_or_le 0 (t - E) with q | q
    ·exact q
    ·have:=Int.mul_nonneg (show 0<=(n:Int) by omega) (show 0<=-(t - E) by omega);rw [Int.mul_neg] at this;omega
   have h4:(n:Int)*1<=(n:Int)*(t - E):=Int.mul_le_mul_of_nonneg_left (by omega) (by omega)
   omega
  ·rw [hek,Int.mul_tmod_right]
  ·rw [hek,Int.mul_tdiv_cancel_left _ (by omega)]
  ·rw [<- rv_rq]
   by_cases h:r ^ n=s
   ·rw [if_pos h]
    have e1:more=false:=by rw [<- hmo,cmp3_eq h];rfl
    rw [e1];have ho:=of_quo d neg B m' c' r 1 0 E W (by omega) (by omega) (by omega) (by omega) (by have:blen 1<=1:=blen_le_iff.2 (by omega);omega) (by rw [Nat.pow_zero,Nat.mul_one,Nat.div_one];exact hB) hd (by omega) (by omega);rw [Nat.pow_zero,Nat.mul_one,Nat.mod_one,show (E - ((0:Nat):Int))=E from by omega] at ho
    exact ho
   ·rw [if_neg h]
    have e1:more=true:=by
     rw [<- hmo];have:cmp3 (r ^ n) s≠0:=fun k=>h (cmp3_zero.1 k)
     simpa using this
    rw [e1]
    have b2:blen (2*r+1)<=blen r+1:=by
     have:=blen_le_iff.1 (Nat.le_refl (blen r))
     exact blen_le_iff.2 (by rw [Nat.pow_succ];omega)
    have b3:blen r+1<=blen (2*r+1):=by
     have:=blen_half (n:=2*r+1) (by omega);rw [show (2*r+1) / 2=r by omega] at this;omega
    have ho:=of_quo d neg B m' c' (2*r+1) 2 0 E W (by omega) (by omega) (by omega) (by omega) (by have:blen 2<=2:=blen_le_iff.2 (by omega);omega) (by rw [Nat.pow_zero,Nat.mul_one,show (2*r+1) / 2=r by omega];exact hB) hd (by omega) (by omega);rw [Nat.pow_zero,Nat.mul_one,show (2*r+1) % 2=1 by omega,show (E - ((0:Nat):Int))=E from by omega] at ho
    exact ho
theorem root_nought(d:Int)(n:Nat)(w:World)(hn:1<=n)(hn2:n<=1024):
  Rt 174 #[.int .i64 d,.float .f64 0,.int .i64 (n:Int)] (.float .f64 0) w:=by
 have hM:=M_val;have HN:=Hd fun W=>isnanf (pat 0) W (by rw [rung_pat (by omega) (by omega)];omega);have o:=ord0_eq (i:=0) rfl;rw [pat_zero] at HN o
 have h1:¬ (n:Int)<1:=by omega
 have h2:¬ (1024:Int)<(n:Int):=by omega
 rcases Nat.mod_two_eq_zero_or_one n with hp | hp
 all_goals
  have hpi:(n:Int) % 2=((n % 2:Nat):Int):=by omega
  rw [hp] at hpi;clear hp
  go_enter Tryz.func174,Tryz.ntmps174
  go_wp2_with fail;refine cy (HN.out _) ?_;go_wp2
  go_ret
  exact⟨rfl,Below.refl _ _⟩
theorem root_far(d i:Int)(n:Nat)(o:Ordering)(w:World)(hn:1<=n)(hn2:n<=1024)(hi:i=M\/i=-(M:Int))(hp:n % 2=1\/i=M):
  Rt 174 #[.int .i64 d,.float .f64 (pat i),.int .i64 (n:Int)] (.float .f64 (pat i)) w:=by
 have hM:=M_val
 have hr:-(M:Int)<=i/\i<=M:=by omega
 have HN:=Hd fun W=>isnanf (pat i) W (by rw [rung_pat hr.1 hr.2];omega);have HF:=Hd fun W=>isinff (pat i) W (pat_lt hr.1 hr.2) (by rw [rung_pat hr.1 hr.2];omega);rw [rung_pat hr.1 hr.2,decide_eq_true (show i.natAbs=M by omega)] at HF;have o:=ord0 hr
 obtain⟨x,hx⟩:∃ x,pat i=x:=⟨_,rfl⟩
 rw [hx] at HN HF o ⊢
 have h1:¬ (n:Int)<1:=by omega
 have h2:¬ (1024:Int)<(n:Int):=by omega
 have hpi:(n:Int) % 2=((n % 2:Nat):Int):=by omega
 have hc:(n % 2=1/\(compare i 0=.lt\/compare i 0=.gt))\/(n % 2=0/\compare i 0=.gt):=by
  rcases hi with hi | hi
  ·have:compare i 0=.gt:=Int.compare_eq_gt.2 (by omega)
   rcases Nat.mod_two_eq_zero_or_one n with hp | hp
   ·exact .inr ⟨hp,this⟩
   ·exact .inl ⟨hp,.inr this⟩
  ·exact .inl ⟨by rcases hp with h | h<;>omega,.inl (Int.compare_eq_lt.2 (by omega))⟩
 clear hi hp hr hx
 rcases hc with ⟨e1,e2 | e2⟩ | ⟨e1,e2⟩
 all_goals
  rw [e1] at hpi;rw [e2] at o;clear e1 e2
  go_enter Tryz.func174,Tryz.ntmps174
  go_wp2_with fail;refine cy (HN.out _) ?_;go_wp2_with fail;refine cy (HF.out _) ?_;go_wp2
  go_ret
  exact⟨rfl,Below.refl _ _⟩
theorem root_some(d:Int)(x n z:Nat)(neg:Bool)(S:Nat)(e:Int)(o:Ordering)(w:World)(hn:1<=n)(hn2:n<=1024)(hN:∀ W,Calls Tryz.prog 221 #[.float .f64 x] W fun e w'=>e=.returned (.bool false)/\W=w')(hF:∀ W,Calls Tryz.prog 161 #[.float .f64 x,.int .i64 0] W fun e w'=>e=.returned (.bool false)/\W=w')
  (ho:FloatKind.f64.format.order x 0=some o)(hc:(n % 2=1/\(o=.lt\/o=.gt))\/(n % 2=0/\o=.gt))(hP:∀ W,Calls Tryz.prog 189 #[.float .f64 x] W (NewDy W neg S e))(hR:∀ A m c W,U32s W A m c (digs S)->Calls Tryz.prog 223 #[.int .i64 d,.agg #[.bool neg,.slice A m c,.int .i64 e],.int .i64 (n:Int)] W fun e' w'=>e'=.returned (.float .f64 z)/\Below W.heap.size W w'):
  Rt 174 #[.int .i64 d,.float .f64 x,.int .i64 (n:Int)] (.float .f64 z) w:=by
 have HN:=Hd hN;have HF:=Hd hF;have HP:=Hd hP;have HR:=Hd hR
 have h1:¬ (n:Int)<1:=by omega
 have h2:¬ (1024:Int)<(n:Int):=by omega
 have hpi:(n:Int) % 2=((n % 2:Nat):Int):=by omega
 clear hN hF hP hR
 rcases hc with ⟨e1,rfl | rfl⟩ | ⟨e1,rfl⟩
 all_goals
  rw [e1] at hpi;clear e1
  go_enter Tryz.func174,Tryz.ntmps174
  go_wp2_with fail;refine cy (HN.out _) ?_;go_wp2_with fail;refine cy (HF.out _) ?_;go_wp2_with fail;refine (HP.out _).mono ?_;rintro e' w1 ⟨A,m,c,rfl,hu,hb⟩;have HRR:=Hd (HR.out A m c w1 hu);have HB:=Hd hb;clear hu hb HR HP;go_wp2_with fail;refine HRR.out.mono ?_;rintro e' w2 ⟨rfl,hb2⟩;have HB2:=Hd (HB.out.trans (hb2.mono HB.out.size));clear hb2 HB HRR;go_wp2
  go_ret
  exact⟨rfl,HB2.out⟩
theorem rt_ok{i:Int}{n:Nat}(h0:0<i)(h1:i<M)(hn:1<=n)(hn2:n<=1024):RtOk i n (rootq i n):=by
 have hM:=M_val
 have hi:-(M:Int)<=i/\i<=M:=by omega
 obtain⟨S,e,b1,b2,b3,hv,-⟩:=part_any (pat i) (pat_lt hi.1 hi.2) (by unfold fin;rw [rung_pat hi.1 hi.2];omega);rw [idx_pat hi.1 hi.2,sgn_pat2 hi (by omega),decide_eq_false (by omega)] at hv
 have hf:fl i=(S:Rat)*2 ^ e:=by
  rw [hv];unfold rv;simp only [Bool.false_eq_true,if_false];grind
 have hS:0<S:=by
  rcases Nat.eq_zero_or_pos S with h | h
  ·exfalso
   have hz:fl i=0:=by rw [hf,h];grind
   have:=fl_lt_iff.2 h0;rw [fl_zero] at this;grind
  ·exact h
 obtain⟨q,hq,-⟩:=root_q S n e hS b1 ⟨b2,b3⟩ hn hn2
 exact rootq_ok (hq i hf)
theorem rti_lo{d a:Int}{n:Nat}(hd:d=-1\/d=1)(h0:0<=a)(h1:a<=M)(hn:1<=n)(hn2:n<=1024):0<=rti d a n/\rti d a n<=M/\(d=-1->a<M->rti d a n<M):=by
 have hM:=M_val;unfold rti rt1;rw [if_neg (by omega)]
 by_cases h:a=0\/a=M
 ·rw [if_pos h];omega
 ·rw [if_neg h];have hq:=(rt_ok (i:=a) (n:=n) (by omega) (by omega) hn hn2).1;have r1:=rndI_down (rootq a n);have r2:=rndI_up (rootq a n);have r3:=rndI_mono hd (x:=0) (y:=rootq a n) (by grind);rw [rndI_zero hd] at r3
  rcases hd with rfl | rfl<;>omega
theorem rti_mono{a b:Int}{n:Nat}(h0:0<=a)(hab:a<=b)(ha:a<M)(h1:b<=M)(hn:1<=n)(hn2:n<=1024):rti (-1) a n<=rti 1 b n:=by
 have hM:=M_val;have ra:=rti_lo (d:=-1) (a:=a) (n:=n) (.inl rfl) h0 (by omega) hn hn2;have rb:=rti_lo (d:=1) (a:=b) (n:=n) (.inr rfl) (by omega) h1 hn hn2;unfold rti rt1 at *;rw [if_neg (by omega)] at *
 by_cases hb:b=M
 ·have eb:(if b<0 then -(if -b=0\/-b=(M:Int) then -b else rndI (-1) (rootq (-b) n)) else if b=0\/b=(M:Int) then b else rndI 1 (rootq b n))=M:=by
   rw [if_neg (by omega),if_pos (.inr hb)];exact hb
  rw [eb];omega
 ·by_cases hz:a=0
  ·rw [if_pos (.inl hz)];omega
  ·rw [if_neg (by omega)] at *;rw [if_neg (by omega)] at *;rw [if_neg (by omega)] at *;have qa:=rt_ok (i:=a) (n:=n) (by omega) ha hn hn2;have qb:=rt_ok (i:=b) (n:=n) (by omega) (by omega) hn hn2;have da:=rndI_down (rootq a n);have ub:=rndI_up (rootq b n);have f1:=(da.2.2 (rndI (-1) (rootq a n)) (by omega) (by omega)).1 (Int.le_refl _);have f2:=(qa.2 _ ra.1).1.1 f1;have f3:fl a<=fl b:=fl_le_iff.2 hab;have f4:=(qb.2 _ ra.1).1.2 (Rat.le_trans f2 f3)
   by_cases hu:rndI 1 (rootq b n)=M
   ·omega
   ·have f5:=(ub.2.2 (rndI 1 (rootq b n)) (by omega) (by omega)).1 (Int.le_refl _)
    exact fl_le_iff.1 (Rat.le_trans f4 f5)
theorem rroot_any(d i:Int)(n:Nat)(w:World)(hd:d=-1\/d=1)(hi:-(M:Int)<=i/\i<=M)(hn:1<=n)(hn2:n<=1024)(hp:n % 2=1\/0<=i):
  Rt 174 #[.int .i64 d,.float .f64 (pat i),.int .i64 (n:Int)] (.float .f64 (pat (rti d i n))) w:=by
 have hM:=M_val
 by_cases h0:i=0
 ·subst h0
  have e:rti d 0 n=0:=by unfold rti rt1;rw [if_neg (by omega),if_pos (.inl rfl)]
  rw [e,pat_zero]
  exact root_nought d n w hn hn2
 by_cases h1:i=M\/i=-(M:Int)
 ·have e:rti d i n=i:=by
   unfold rti rt1
   split
   ·rw [if_pos (by omega)];omega
   ·rw [if_pos (by omega)]
  rw [e]
  exact root_far d i n .eq w hn hn2 h1 (by omega)
 obtain⟨S,e,b1,b2,b3,hv,hpt⟩:=part_any (pat i) (pat_lt hi.1 hi.2) (by unfold fin;rw [rung_pat hi.1 hi.2];omega);rw [idx_pat hi.1 hi.2,sgn_pat2 hi h0] at hv;rw [sgn_pat2 hi h0] at hpt
 have hS:0<S:=by
  rcases Nat.eq_zero_or_pos S with h | h
  ·exfalso
   have hz:fl i=0:=by rw [hv,h];unfold rv;split<;>grind
   rcases Int.lt_or_lt_of_ne h0 with c | c
   ·have:=fl_lt_iff.2 c;rw [fl_zero] at this;grind
   ·have:=fl_lt_iff.2 c;rw [fl_zero] at this;grind
  ·exact h
 obtain⟨q,hq,hroot⟩:=root_q S n e hS b1 ⟨b2,b3⟩ hn hn2;have HF:=fun W=>isinff (pat i) W (pat_lt hi.1 hi.2) (by rw [rung_pat hi.1 hi.2];omega);rw [rung_pat hi.1 hi.2,decide_eq_false (show ¬ i.natAbs=M by omega)] at HF
 have er:rndI d (if decide (i<0)=true then -q else q)=rti d i n:=by
  unfold rti
  by_cases hneg:i<0
  ·rw [if_pos (decide_eq_true hneg),if_pos hneg]
   have hf:fl (-i)=(S:Rat)*2 ^ e:=by
    rw [fl_neg,hv,decide_eq_true hneg];unfold rv;simp only [if_true];grind
   rw [rt1_of (by omega) (hq (-i) hf) (by omega) (by omega),<- rndI_neg (by omega),Int.neg_neg]
  ·rw [if_neg (by simpa using hneg),if_neg hneg]
   have hf:fl i=(S:Rat)*2 ^ e:=by
    rw [hv,decide_eq_false hneg];unfold rv;simp only [Bool.false_eq_true,if_false];grind
   rw [rt1_of hd (hq i hf) h0 (by omega)]
 rw [<- er]
 exact root_some d (pat i) n _ (decide (i<0)) S e (compare i 0) w hn hn2 (fun W=>isnanf (pat i) W (by rw [rung_pat hi.1 hi.2];omega)) HF (ord0 hi) (by
  rcases Int.lt_or_lt_of_ne h0 with c | c
  ·exact .inl ⟨by omega,.inl (Int.compare_eq_lt.2 c)⟩
  ·rcases Nat.mod_two_eq_zero_or_one n with k | k
   ·exact .inr ⟨k,Int.compare_eq_gt.2 c⟩
   ·exact .inl ⟨k,.inr (Int.compare_eq_gt.2 c)⟩) hpt (fun A m c W hu=>hroot d _ A m c W hd hu)
end
section
open Go.RowKit
theorem rti_rng{d a:Int}{n:Nat}(hd:d=-1\/d=1)(h:-(M:Int)<=a/\a<=M)(hn:1<=n)(hn2:n<=1024):-(M:Int)<=rti d a n/\rti d a n<=M:=by
 have hM:=M_val
 by_cases h0:a<0
 ·have r:=rti_lo (d:=-d) (a:=-a) (n:=n) (by omega) (by omega) (by omega) hn hn2;unfold rti at *;rw [if_neg (by omega)] at r;rw [if_pos h0];omega
 ·have r:=rti_lo (d:=d) (a:=a) (n:=n) hd (by omega) h.2 hn hn2
  omega
theorem revroot_any(i:Int)(n:Nat)(w:World)(hi:-(M:Int)<=i/\i<=M)(hn:1<=n)(hn2:n<=1024)(hp:n % 2=1\/0<=i):
  Rt 105 #[.float .f64 (pat i),.int .i64 (n:Int)] (Zf (pat (rti (-1) i n)) (pat (rti 1 i n))) w:=
 revroot_walk _ n _ _ w (fun W=>rroot_any (-1) i n W (.inl rfl) hi hn hn2 hp) (fun W=>rroot_any 1 i n W (.inr rfl) hi hn hn2 hp)
def tw(i j pd pu qd qu:Int):Int × Int:=(min (ctO false i j pd pu qd qu).1 (ctO false i j (-qu) (-qd) (-pu) (-pd)).1,max (ctO false i j pd pu qd qu).2 (ctO false i j (-qu) (-qd) (-pu) (-pd)).2)
theorem ctO_iv2{i j pd pu qd qu:Int}(h:Iv i j)(h0:¬ j<i)(h1:-(M:Int)<=pd/\pd<M)(h2:-(M:Int)<qu/\qu<=M)(a:pd<=pu)(b:qd<=qu)(c:pd<=qu):Iv (ctO false i j pd pu qd qu).1 (ctO false i j pd pu qd qu).2:=by
 have hM:=M_val;unfold ctO
 by_cases k:qd<i\/j<pu
 ·rw [if_pos k];exact Iv.none
 ·rw [if_neg k,if_neg (by rintro⟨h,-⟩;cases h)];have n:=ne_or h h0;unfold Ne at n
  exact .inl ⟨by dsimp only;omega,by dsimp only;omega,by dsimp only;omega,by dsimp only;omega,by dsimp only;omega⟩
theorem twice_any(i j pd pu qd qu:Int)(w:World)(h:Iv i j)(h0:¬ j<i)(h1:-(M:Int)<=pd/\pd<M)(h2:-(M:Int)<qu/\qu<=M)(h3:-(M:Int)<=pu/\pu<=M)(h4:-(M:Int)<=qd/\qd<=M)(a:pd<=pu)(b:qd<=qu)(c:pd<=qu):
  Rt 104 #[Zf (pat i) (pat j),Zf (pat pd) (pat pu),Zf (pat qd) (pat qu),.bool false] (Zf (pat (tw i j pd pu qd qu).1) (pat (tw i j pd pu qd qu).2)) w:=
 twice_walk _ _ _ _ _ _ _ _ _ _ _ _ _ _ _ _ false w (fun W=>rcut2_any false i j pd pu qd qu W h.lo h.hi (by omega) h3 h4 (by omega)) (fun W=>turned_idx qd qu W h4 (by omega)) (fun W=>turned_idx pd pu W (by omega) h3) (fun W=>rcut2_any false i j (-qu) (-qd) (-pu) (-pd) W h.lo h.hi (by omega) (by omega) (by omega) (by omega))
  (fun W=>hullf _ _ _ _ W (ctO_iv2 h h0 h1 h2 a b c) (ctO_iv2 h h0 (by omega) (by omega) (by omega) (by omega) (by omega)))
noncomputable def pwr(n:Nat)(i2 j2 i j:Int):Int × Int:=
 if j2<i2\/j<i\/(n % 2=0/\j2<0) then ((M:Int),-(M:Int))
 else if n % 2=0 then tw i j (rti (-1) (max i2 0) n) (rti 1 (max i2 0) n) (rti (-1) j2 n) (rti 1 j2 n)
 else ctO false i j (rti (-1) i2 n) (rti 1 i2 n) (rti (-1) j2 n) (rti 1 j2 n)
theorem pown_any(n c1 c2 x y:Nat)(w:World)(hn:1<=n)(hn2:n<=1024)(hc1:c1<18446744073709551616)(hc2:c2<18446744073709551616)(hx:x<18446744073709551616)(hy:y<18446744073709551616):
  Rt 39 #[.int .i64 (n:Int),Zf c1 c2,Zf x y] (Zf (pat (pwr n (rd c1 c2).1 (rd c1 c2).2 (rd x y).1 (rd x y).2).1) (pat (pwr n (rd c1 c2).1 (rd c1 c2).2 (rd x y).1 (rd x y).2).2)) w:=by
 have hM:=M_val;have v2:=rd_iv c1 c2;have v3:=rd_iv x y;have t2:=fun W=>readf c1 c2 W hc1 hc2;have t3:=fun W=>readf x y W hx hy
 obtain⟨⟨i2,j2⟩,r2⟩:∃ z,rd c1 c2=z:=⟨_,rfl⟩
 obtain⟨⟨i3,j3⟩,r3⟩:∃ z,rd x y=z:=⟨_,rfl⟩
 rw [r2] at v2 t2;rw [r3] at v3 t3;rw [r2,r3]
 dsimp only at *
 have m2:=em_idx v2;have m3:=em_idx v3;unfold pwr
 by_cases hno:j2<i2\/j3<i3
 ·rw [if_pos (by omega),pat_max,pat_min]
  exact pown_none n _ _ _ _ _ _ _ _ _ _ w t2 m2 t3 m3 hn hn2 (by simp;omega)
 have hnn:(decide (j2<i2) || decide (j3<i3))=false:=by simp;omega
 have k2:=ne_or v2 (by omega);unfold Ne at k2
 rcases Nat.mod_two_eq_zero_or_one n with hp | hp
 ·by_cases h0:j2<0
  ·rw [if_pos (by omega),pat_max,pat_min]
   exact pown_neg n _ _ _ _ _ _ _ _ _ _ w t2 m2 t3 m3 hn hn2 hp hnn (ord0_lt v2.hi h0)
  ·rw [if_neg (by omega),if_pos hp];have hmx:=fun W ts t=>run_maxf v2.lo (show -(M:Int)<=0/\(0:Int)<=M by omega) W ts t;rw [pat_zero] at hmx;have a1:=rti_lo (d:=-1) (a:=max i2 0) (n:=n) (.inl rfl) (by omega) (by omega) hn hn2;have a2:=rti_lo (d:=1) (a:=max i2 0) (n:=n) (.inr rfl) (by omega) (by omega) hn hn2;have b1:=rti_lo (d:=-1) (a:=j2) (n:=n) (.inl rfl) (by omega) (by omega) hn hn2;have b2:=rti_lo (d:=1) (a:=j2) (n:=n) (.inr rfl) (by omega) (by omega) hn hn2;have c1':=rti_mono (a:=max i2 0) (b:=max i2 0) (n:=n) (by omega) (by omega) (by omega) (by omega) hn hn2;have c3':=rti_mono (a:=max i2 0) (b:=j2) (n:=n) (by omega) (by omega) (by omega) (by omega) hn hn2
   have c2':rti (-1) j2 n<=rti 1 j2 n:=by
    by_cases hj:j2=M
    ·have e:rti 1 j2 n=M:=by unfold rti rt1;rw [if_neg (by omega),if_pos (.inr hj)];exact hj
     omega
    ·exact rti_mono (by omega) (Int.le_refl _) (by omega) (by omega) hn hn2
   have a3:=a1.2.2 rfl (by omega)
   exact pown_even n _ _ _ _ _ _ _ _ _ _ _ _ _ _ _ (compare j2 0) _ _ w t2 m2 t3 m3 hn hn2 hp hnn (ord0 v2.hi) (by
    by_cases h:j2=0
    ·exact .inl (Int.compare_eq_eq.2 h)
    ·exact .inr (Int.compare_eq_gt.2 (by omega))) hmx (fun W=>revroot_any (max i2 0) n W (by omega) hn hn2 (.inr (by omega))) (fun W=>revroot_any j2 n W v2.hi hn hn2 (.inr (by omega)))
    (fun W=>twice_any i3 j3 _ _ _ _ W v3 (by omega) (by omega) (by omega) (by omega) (by omega) c1' c2' c3')
 ·rw [if_neg (by omega),if_neg (by omega)]
  exact pown_odd n _ _ _ _ _ _ _ _ _ _ _ _ _ _ _ _ w t2 m2 t3 m3 hn hn2 hp hnn (fun W=>revroot_any i2 n W v2.lo hn hn2 (.inl hp)) (fun W=>revroot_any j2 n W v2.hi hn hn2 (.inl hp))
   (fun W=>rcut2_any false i3 j3 _ _ _ _ W v3.lo v3.hi (rti_rng (.inl rfl) v2.lo hn hn2) (rti_rng (.inr rfl) v2.lo hn hn2) (rti_rng (.inl rfl) v2.hi hn hn2) (rti_rng (.inr rfl) v2.hi hn hn2))
theorem sqrrev_any(c1 c2 x y:Nat)(w:World)(hc1:c1<18446744073709551616)(hc2:c2<18446744073709551616)(hx:x<18446744073709551616)(hy:y<18446744073709551616):
  Rt 14 #[Zf c1 c2,Zf x y] (Zf (pat (pwr 2 (rd c1 c2).1 (rd c1 c2).2 (rd x y).1 (rd x y).2).1) (pat (pwr 2 (rd c1 c2).1 (rd c1 c2).2 (rd x y).1 (rd x y).2).2)) w:=
 sqr_walk _ _ _ _ _ _ w (fun W=>pown_any 2 c1 c2 x y W (by omega) (by omega) hc1 hc2 hx hy)
end
section
open Go.RowKit
attribute [local go_sem] run_store_float run_negf
set_option maxRecDepth 8000 in
theorem sqrt_none(b1 b2 c1 c2 A1 A2 x1 x2:Nat)(d1 d2:Bool)(w:World)(t1:∀ W,Rt 102 #[Zf b1 b2] (Zf A1 A2) W)(m1:Em d1 A1 A2)(t2:∀ W,Rt 102 #[Zf c1 c2] (Zf x1 x2) W)(m2:Em d2 x1 x2)(hnn:(d1 || d2)=true):
  Rt 17 #[Zf b1 b2,Zf c1 c2] (Zf 9218868437227405312 18442240474082181120) w:=by
 have HE:=Hd emptyf;have HRD:=readL32 w (Zv 0 0) 28 t1 m1 t2 m2 hnn;clear t1 m1 t2 m2 hnn
 go_enter Tryz.func17,Tryz.ntmps17
 go_wp2_with fail;refine HRD.out.mono ?_;rintro e wk ⟨rfl,hl⟩;have LL:=Hd hl;clear hl HRD;go_wp2_with fail;refine cx (HE.out _) fun wk hb=>?_;replace LL:=stL LL hb;clear hb;replace LL:=Hd (LL.out.loose2 rfl);obtain⟨ha4_0,hf4_0,ha4_1,hf4_1⟩:=(LL.out.has 0 rfl).sf2;have LF:=Hd (LL.out.wr [.float .f64 9218868437227405312,.float .f64 18442240474082181120]);obtain⟨hk4_0,hk4_1⟩:=(LF.out.blk 2 rfl).c2
 simp [sets] at hk4_0 hk4_1
 clear LL;go_wp2;refine bodyPost_ret (v:=Zf 9218868437227405312 18442240474082181120) (by simp [results,Tryz.results17,go_sem,hk4_0,hk4_1]) rfl ?_
 exact⟨rfl,LF.out.b⟩
set_option maxRecDepth 8000 in
theorem sqrt_neg(b1 b2 c1 c2 A1 A2 x1 x2:Nat)(d1 d2:Bool)(w:World)(t1:∀ W,Rt 102 #[Zf b1 b2] (Zf A1 A2) W)(m1:Em d1 A1 A2)(t2:∀ W,Rt 102 #[Zf c1 c2] (Zf x1 x2) W)(m2:Em d2 x1 x2)(hnn:(d1 || d2)=false)(ho:FloatKind.f64.format.order A2 0=some .lt):
  Rt 17 #[Zf b1 b2,Zf c1 c2] (Zf 9218868437227405312 18442240474082181120) w:=by
 have HE:=Hd emptyf;have HRD:=readL32 w (Zv 0 0) 28 t1 m1 t2 m2 hnn;clear t1 m1 t2 m2 hnn
 go_enter Tryz.func17,Tryz.ntmps17
 go_wp2_with fail;refine HRD.out.mono ?_;rintro e wk ⟨rfl,hl⟩;have LL:=Hd hl;clear hl HRD;obtain⟨q1_0,q1_1⟩:=(LL.out.blk 0 rfl).c2;go_wp2_with fail;refine cx (HE.out _) fun wk hb=>?_;replace LL:=stL LL hb;clear hb q1_0 q1_1 ho;replace LL:=Hd (LL.out.loose2 rfl);obtain⟨ha4_0,hf4_0,ha4_1,hf4_1⟩:=(LL.out.has 0 rfl).sf2;have LF:=Hd (LL.out.wr [.float .f64 9218868437227405312,.float .f64 18442240474082181120]);obtain⟨hk4_0,hk4_1⟩:=(LF.out.blk 2 rfl).c2
 simp [sets] at hk4_0 hk4_1
 clear LL;go_wp2;refine bodyPost_ret (v:=Zf 9218868437227405312 18442240474082181120) (by simp [results,Tryz.results17,go_sem,hk4_0,hk4_1]) rfl ?_
 exact⟨rfl,LF.out.b⟩
set_option maxRecDepth 8000 in
theorem sqrt_some(b1 b2 c1 c2 A1 A2 x1 x2 mx p1 p2 q1 q2 r1 r2:Nat)(o:Ordering)(d1 d2:Bool)(w:World)(t1:∀ W,Rt 102 #[Zf b1 b2] (Zf A1 A2) W)(m1:Em d1 A1 A2)(t2:∀ W,Rt 102 #[Zf c1 c2] (Zf x1 x2) W)(m2:Em d2 x1 x2)(hnn:(d1 || d2)=false)(ho:FloatKind.f64.format.order A2 0=some o)(hoo:o=.eq\/o=.gt)
  (hmx:∀ W ts t,(Builtin.max_ ts t (Zv A1 0)).run Tryz.prog W=.ok (.float .f64 mx) W)(h1:∀ W,Calls Tryz.prog 78 (Zv mx mx) W fun e w'=>e=.returned (Zf p1 p2)/\Below W.heap.size W w')(h2:∀ W,Calls Tryz.prog 78 (Zv A2 A2) W fun e w'=>e=.returned (Zf q1 q2)/\Below W.heap.size W w')(ht:∀ W,Rt 77 #[Zf x1 x2,Zf p1 p2,Zf q1 q2,.bool false] (Zf r1 r2) W):
  Rt 17 #[Zf b1 b2,Zf c1 c2] (Zf r1 r2) w:=by
 have H1:=Hd h1;have H2:=Hd h2;have HT:=Hd ht;clear h1 h2 ht
 rcases hoo with rfl | rfl
 all_goals
  have HRD:=readL32 w (Zv 0 0) 28 t1 m1 t2 m2 hnn;clear t1 m1 t2 m2 hnn
  go_enter Tryz.func17,Tryz.ntmps17
  go_wp2_with fail;refine HRD.out.mono ?_;rintro e wk ⟨rfl,hl⟩;have LL:=Hd hl;clear hl HRD;obtain⟨q1_0,q1_1⟩:=(LL.out.blk 0 rfl).c2
  go_upto_region 4 with fail
  clear ho q1_0 q1_1;replace LL:=Hd (LL.out.loose2 rfl);refine regL LL (fun hHeld=>?_);clear LL;generalize World.drew _=wk at hHeld  ⊢;refine tkb 0 (fun _ h=>(h.blk 1 rfl).c2) ?_;refine tks 1 ?_;refine tks 2 ?_;refine tks 4 ?_;refine tkb 5 (fun _ h=>(h.blk 0 rfl).c2) ?_;refine tks 6 ?_;refine tkb 7 (fun _ h=>(h.blk 0 rfl).c2) ?_;refine rdy 3 fun KK hKK=>?_;go_simp;refine cs (H1.out _) ?_;clear hKK KK hHeld;intro wk hb1 hHeld;clear hb1;refine rdy 8 fun KK hKK=>?_;go_simp;refine cs (H2.out _) ?_;clear hKK KK hHeld;intro wk hb2 hHeld;clear hb2;refine rdy 9 fun KK hKK=>?_;go_simp;refine cs (HT.out _) ?_;clear hKK KK hHeld;intro wk hb3 hHeld;clear hb3;refine rdy 10 fun KK hKK=>?_;obtain⟨ha0,hf0,ha1,hf1⟩:=(hHeld.has 0 rfl).sf2;go_simp;have HS_0:=(hHeld.has 0 rfl).laid [.float .f64 r1,.float .f64 r2] rfl;refine hKK.out _ _ (hHeld.over 0 rfl [.float .f64 r1,.float .f64 r2] rfl rfl (by first | omega | exact hHeld.le_of 0 rfl) (by simp<;>omega) (by simp<;>omega)) (fun _=>?_);clear hKK KK hHeld;rename_i hHeld;(try simp only [Act.put,lay]);refine wpAnyH_done (by kernel_rfl) ?_ _;have LB:=Hd hHeld.b;clear hHeld;obtain⟨hk4_0,hk4_1⟩:=HS_0.c2;clear HS_0
  simp [sets] at hk4_0 hk4_1
  go_wp2;refine bodyPost_ret (v:=Zf r1 r2) (by simp [results,Tryz.results17,go_sem,hk4_0,hk4_1]) rfl ?_
  exact⟨rfl,LB.out⟩
def sq(d i:Int):Int:=if i=0 then 0 else mu d i i
theorem mul_nought(d:Int)(w:World)(hd:d=-1\/d=1):Rt 119 #[.int .i64 d,.float .f64 0,.float .f64 0] (.float .f64 0) w:=by
 have h:=rmul_exact d 0 0 0 w hd (by decide) (by decide) (by decide) (by decide) (by kernel_rfl) (by decide) (by decide) (by decide)
 have e:rndI d (fl (idx 0)*fl (idx 0))=0:=by
  rw [show idx 0=0 from by decide,fl_zero,show (0:Rat)*0=0 from by grind];exact rndI_zero hd
 rw [e,pat_zero] at h
 exact h
theorem sq_any(i:Int)(w:World)(hi:0<=i/\i<=M):Calls Tryz.prog 78 (Zv (pat i) (pat i)) w fun e w'=>e=.returned (Zf (pat (sq (-1) i)) (pat (sq 1 i)))/\Below w.heap.size w w':=by
 have hM:=M_val;unfold sq
 by_cases h:i=0
 ·subst h;rw [if_pos rfl,if_pos rfl,pat_zero]
  exact product_walk _ _ _ _ w (fun W=>mul_nought (-1) W (.inl rfl)) (fun W=>mul_nought 1 W (.inr rfl))
 ·rw [if_neg h,if_neg h]
  exact product_walk _ _ _ _ w (fun W=>rmul_pat (-1) i i W (.inl rfl) (by omega) (by omega) h h) (fun W=>rmul_pat 1 i i W (.inr rfl) (by omega) (by omega) h h)
theorem sq_rng{d i:Int}(hd:d=-1\/d=1)(hi:0<=i/\i<=M):-(M:Int)<=sq d i/\sq d i<=M:=by
 have hM:=M_val;unfold sq mu;have a:=rndI_down (fl i*fl i);have b:=rndI_up (fl i*fl i)
 split
 ·omega
 ·split
  ·split<;>omega
  ·rcases hd with rfl | rfl<;>omega
def sqt(i2 j2 i j:Int):Int × Int:=
 if j2<i2\/j<i\/j2<0 then ((M:Int),-(M:Int)) else ctO false i j (sq (-1) (max i2 0)) (sq 1 (max i2 0)) (sq (-1) j2) (sq 1 j2)
theorem sqrtrev_any(c1 c2 x y:Nat)(w:World)(hc1:c1<18446744073709551616)(hc2:c2<18446744073709551616)(hx:x<18446744073709551616)(hy:y<18446744073709551616):
  Rt 17 #[Zf c1 c2,Zf x y] (Zf (pat (sqt (rd c1 c2).1 (rd c1 c2).2 (rd x y).1 (rd x y).2).1) (pat (sqt (rd c1 c2).1 (rd c1 c2).2 (rd x y).1 (rd x y).2).2)) w:=by
 have hM:=M_val;have v2:=rd_iv c1 c2;have v3:=rd_iv x y;have t2:=fun W=>readf c1 c2 W hc1 hc2;have t3:=fun W=>readf x y W hx hy
 obtain⟨⟨i2,j2⟩,r2⟩:∃ z,rd c1 c2=z:=⟨_,rfl⟩
 obtain⟨⟨i3,j3⟩,r3⟩:∃ z,rd x y=z:=⟨_,rfl⟩
 rw [r2] at v2 t2;rw [r3] at v3 t3;rw [r2,r3]
 dsimp only at *
 have m2:=em_idx v2;have m3:=em_idx v3;unfold sqt
 by_cases hno:j2<i2\/j3<i3
 ·rw [if_pos (by omega),pat_max,pat_min]
  exact sqrt_none _ _ _ _ _ _ _ _ _ _ w t2 m2 t3 m3 (by simp;omega)
 have hnn:(decide (j2<i2) || decide (j3<i3))=false:=by simp;omega
 have k2:=ne_or v2 (by omega);unfold Ne at k2
 by_cases h0:j2<0
 ·rw [if_pos (by omega),pat_max,pat_min]
  exact sqrt_neg _ _ _ _ _ _ _ _ _ _ w t2 m2 t3 m3 hnn (ord0_lt v2.hi h0)
 ·rw [if_neg (by omega)];have hmx:=fun W ts t=>run_maxf v2.lo (show -(M:Int)<=0/\(0:Int)<=M by omega) W ts t;rw [pat_zero] at hmx
  exact sqrt_some _ _ _ _ _ _ _ _ _ _ _ _ _ _ _ (compare j2 0) _ _ w t2 m2 t3 m3 hnn (ord0 v2.hi) (by
   by_cases h:j2=0
   ·exact .inl (Int.compare_eq_eq.2 h)
   ·exact .inr (Int.compare_eq_gt.2 (by omega))) hmx (fun W=>sq_any (max i2 0) W (by omega)) (fun W=>sq_any j2 W (by omega))
   (fun W=>rcut2_any false i3 j3 _ _ _ _ W v3.lo v3.hi (sq_rng (.inl rfl) (by omega)) (sq_rng (.inr rfl) (by omega)) (sq_rng (.inl rfl) (by omega)) (sq_rng (.inr rfl) (by omega)))
end
section
open Go.RowKit
theorem zpow_neg'(x:Int):(2:Rat) ^ (-x)=1 / (2:Rat) ^ x:=by
 have h:(2:Rat) ^ x*2 ^ (-x)=1:=by rw [<- zpow_add,show x+-x=0 from by omega];rfl
 have hp:=zpow_pos x;have h2:(1 / (2:Rat) ^ x)*2 ^ x=1:=Rat.div_mul_cancel (by grind)
 have h3:((2:Rat) ^ (-x) - 1 / (2:Rat) ^ x)*2 ^ x=0:=by grind
 rcases Rat.mul_eq_zero.1 h3 with k | k
 ·grind
 ·grind
theorem recip_pow{S s z m:Nat}{e:Int}(hs:S=s*2 ^ z)(hs0:0<s):rv false 1 (s ^ m)*2 ^ (-(e+(z:Int))*(m:Int))=1 / ((S:Rat)*2 ^ e) ^ m:=by
 have e1:(S:Rat)*2 ^ e=(s:Rat)*2 ^ (e+(z:Int)):=by
  rw [hs,Rat.natCast_mul,Int.add_comm,zpow_add,zpow_nat];grind
 have e2:rv false 1 (s ^ m)=1 / (s:Rat) ^ m:=by
  unfold rv
  simp only [Bool.false_eq_true,if_false]
  rw [Rat.natCast_pow];rfl
 rw [e1,rmul_pow,zpow_pow,e2,Int.neg_mul,zpow_neg',Int.mul_comm (e+(z:Int))]
 have a:((s:Rat) ^ m)≠0:=by
  have:(0:Rat)<(s:Rat) ^ m:=Rat.pow_pos (by exact_mod_cast hs0)
  grind
 have b:(2:Rat) ^ ((m:Int)*(e+(z:Int)))≠0:=by have:=zpow_pos ((m:Int)*(e+(z:Int)));grind
 generalize (s:Rat) ^ m=x at *;generalize (2:Rat) ^ ((m:Int)*(e+(z:Int)))=y at *
 grind
set_option maxRecDepth 8000 in
theorem rpower_walk(d:Int)(S m r:Nat)(e:Int)(A:Option Addr)(k c:Nat)(w:World)(hd:d=-1\/d=1)(hu:U32s w A k c (digs S))(hS:0<S)(hS2:S<9007199254740992)(he:-1074<=e/\e<=971)(hm:1<=m)(hm2:m<=1024)(hT:Tab w)
  (hr:pat (rndI d (1 / ((S:Rat)*2 ^ e) ^ m))=r):
  Rt 269 #[.int .i64 d,.agg #[.bool false,.slice A k c,.int .i64 e],.int .i64 (-(m:Int))] (.float .f64 r) w:=by
 have HU:=Hd hu;have HTB:=Hd hT;have HZ:=Hd fun W (h:U32s W A k c (digs S)) (t:Tab W)=>nzeros_any A k c S W h hS (by omega) t
 have HSR:=Hd fun z W (h:U32s W A k c (digs S)) (hz:z<=1073741824)=>by
  have g:=nshr_any A k c z _ W h (wlen_digs_le (K:=16384) (by have:blen S<=53:=blen_le_iff.2 (show S<2^53 from hS2);omega)) hz;rw [num_digs] at g
  exact g
 have HRA:=Hd fun z s (hs:S=s*2 ^ z) (hz:z<64) W A1 k1 c1 A2 k2 c2 (h1:U32s W A1 k1 c1 (digs 1)) (h2:U32s W A2 k2 c2 (digs (s ^ m)))=>by
  have hs0:0<s:=by
   rcases Nat.eq_zero_or_pos s with h | h
   ·rw [h,Nat.zero_mul] at hs;omega
   ·exact h
  have hsl:s<=S:=by rw [hs];exact Nat.le_mul_of_pos_right _ (Nat.two_pow_pos z)
  have hb:blen (s ^ m)<=54272:=by
   obtain⟨B,hB⟩:∃ B:Nat,B=54272:=⟨_,rfl⟩
   rw [<- hB];refine blen_le_iff.2 ?_
   have h53:s<2^53:=by rw [show (2:Nat)^53=9007199254740992 by decide];omega
   refine Nat.lt_of_lt_of_le (Nat.pow_lt_pow_left h53 (by omega)) ?_;rw [<- Nat.pow_mul]
   exact Nat.pow_le_pow_right (by omega) (by omega)
  have hq:-1099511627776<=-(e+(z:Int))*(m:Int)/\-(e+(z:Int))*(m:Int)<=1099511627776:=by
   have a:-2000*(m:Int)<=-(e+(z:Int))*(m:Int):=Int.mul_le_mul_of_nonneg_right (by omega) (by omega);have b:-(e+(z:Int))*(m:Int)<=2000*(m:Int):=Int.mul_le_mul_of_nonneg_right (by omega) (by omega)
   omega
  have g:=ratio_any d false A1 A2 k1 c1 k2 c2 1 (s ^ m) (-(e+(z:Int))*(m:Int)) W h1 h2 (Nat.pow_pos hs0) (by have:blen 1<=2:=blen_le_iff.2 (by decide);omega) (by omega) hd hq.1 hq.2;unfold RtOf at g;rw [recip_pow hs hs0,hr] at g
  exact g
 have HP:=Hd fun z s (hs:S=s*2 ^ z) W A1 k1 c1 (h1:U32s W A1 k1 c1 (digs s))=>by
  have hsl:s<=S:=by rw [hs];exact Nat.le_mul_of_pos_right _ (Nat.two_pow_pos z)
  have hb:blen s<=53:=blen_le_iff.2 (by rw [show (2:Nat)^53=9007199254740992 by decide];omega)
  exact pow_d (w:=W) m h1 (by omega) (by omega) (by
   have:=Nat.mul_le_mul hb hm2
   omega)
 have hmn:-(m:Int)<0:=by omega
 clear hu hT hr hd hS hS2;have LL:=li1 w #[.bool false,.slice A k c,.int .i64 e] 168;have HU0:=Hd (HU.out.below LL.out.b);have HT0:=Hd (HTB.out.below LL.out.b);clear HU HTB
 go_enter Tryz.func269,Tryz.ntmps269
 obtain⟨q1_0,q1_1,q1_2⟩:=(LL.out.blk 0 rfl).c3;go_wp2_with fail;refine (HZ.out _ HU0.out HT0.out).mono ?_;rintro e1 w1 ⟨⟨z,rfl,hz,hdv⟩,rfl⟩
 obtain⟨s,hs⟩:∃ s,S=s*2 ^ z:=by obtain⟨q,hq⟩:=hdv;exact⟨q,by rw [hq,Nat.mul_comm]⟩
 have hsd:S / 2 ^ z=s:=by rw [hs,Nat.mul_div_cancel _ (Nat.two_pow_pos z)]
 have HSS:=Hd hs;have HSD:=Hd hsd;clear HZ hdv hs hsd q1_0 q1_1 q1_2
 obtain⟨wa,hwa⟩:∃ X,(w.alloc (.cells #[.bool false,.slice A k c,.int .i64 e] 168))=X:=⟨_,rfl⟩
 rw [hwa] at HU0 HT0 LL ⊢;clear hwa;obtain⟨q2_0,q2_1,q2_2⟩:=(LL.out.blk 0 rfl).c3;have HS1:=Hd (HSR.out z _ HU0.out (by omega));rw [HSD.out] at HS1;go_wp2_with fail;refine HS1.out.mono ?_;rintro e1 w2 ⟨A2,n2,c2,rfl,hu2,hb2⟩;have HU2:=Hd hu2;replace LL:=stL LL hb2;replace HT0:=Hd (HT0.out.below hb2);clear hu2 hb2 HS1 HSR HU0 HSD q2_0 q2_1 q2_2;obtain⟨q3_0,q3_1,q3_2⟩:=(LL.out.blk 0 rfl).c3
 have f1:IntKind.i64.wrap (e+(z:Int))=e+(z:Int):=by rw [IntKind.wrap_i64];omega
 have HP2:=Hd (HP.out z s HSS.out _ A2 n2 c2 HU2.out);go_wp2_with fail;refine HP2.out.mono ?_;rintro e1 w3 ⟨A3,n3,c3,rfl,hu3,hb3⟩;have HU3:=Hd hu3;replace LL:=stL LL hb3;clear hu3 hb3 HP2 HP HU2 HT0 q3_0 q3_1 q3_2;obtain⟨q4_0,q4_1,q4_2⟩:=(LL.out.blk 0 rfl).c3;have HR:=Hd (HRA.out z s HSS.out hz);clear HRA HSS
 obtain⟨E,hE⟩:∃ E,e+(z:Int)=E:=⟨_,rfl⟩
 have hEb:-1074<=E/\E<=1034:=by omega
 obtain⟨Q,hQ⟩:∃ Q,-E*(m:Int)=Q:=⟨_,rfl⟩
 have hQ2:IntKind.i64.wrap (-E*(m:Int))=Q:=by
  have a:-2000*(m:Int)<=-E*(m:Int):=Int.mul_le_mul_of_nonneg_right (by omega) (by omega);have b:-E*(m:Int)<=2000*(m:Int):=Int.mul_le_mul_of_nonneg_right (by omega) (by omega);rw [IntKind.wrap_i64,<- hQ];omega
 have hQ3:wrap64 (-E*(m:Int))=Q:=by
  have a:-2000*(m:Int)<=-E*(m:Int):=Int.mul_le_mul_of_nonneg_right (by omega) (by omega);have b:-E*(m:Int)<=2000*(m:Int):=Int.mul_le_mul_of_nonneg_right (by omega) (by omega);unfold wrap64;omega
 rw [hE] at HR f1 ⊢;rw [hQ] at HR;have hQ4:=hQ;clear hE
 have hQ5:wrap64 Q=Q:=by
  have a:-2000*(m:Int)<=-E*(m:Int):=Int.mul_le_mul_of_nonneg_right (by omega) (by omega);have b:-E*(m:Int)<=2000*(m:Int):=Int.mul_le_mul_of_nonneg_right (by omega) (by omega);unfold wrap64;omega
 have HD1:=Hd (show U32s (w3.alloc (.cells #[.int .u32 1] 117)) (some ⟨w3.heap.size,0,none⟩) 1 1 (digs 1) from by rw [digs_one];exact U32s.lit1 w3 117 (a:=1) (by omega));have HQ:=Hd (HR.out (w3.alloc (.cells #[.int .u32 1] 117)) _ 1 1 A3 n3 c3 HD1.out (HU3.out.alloc _));clear HR HD1;go_wp2_with fail;rw [hQ5];refine HQ.out.mono ?_;rintro e1 w4 ⟨rfl,hb4⟩;have LB:=Hd (LL.out.b.trans ((below_alloc w3 (.cells #[.int .u32 1] 117)).trans (hb4.mono (by simp)) |>.mono LL.out.b.size));clear hb4 HQ LL HU3 hQ hQ2 hQ3 hQ4 hQ5 f1;go_wp2
 go_ret
 exact⟨rfl,LB.out⟩
theorem isinfm(b:Nat)(w:World)(hb:b<18446744073709551616)(hr:rungOf b<=M)(hn:-(M:Int)<idx b):Calls Tryz.prog 161 #[.float .f64 b,.int .i64 (-1)] w fun e w'=>e=.returned (.bool false)/\w=w':=by
 have hM:M=9218868437227405312:=rfl;have nv:=negFloat_val hb
 have nr:rungOf (Op.negFloat .f64 b)<=M:=by rw [nv.2.1];exact hr
 have ho:FloatKind.f64.format.order (Op.negFloat .f64 b) 9218868437227405311=some .lt\/FloatKind.f64.format.order (Op.negFloat .f64 b) 9218868437227405311=some .eq:=by
  by_cases h2:idx b=-(M - 1:Nat)
  ·exact .inr (ord_eq nr real_top (by rw [idx_top,nv.2.2];omega))
  ·exact .inl (ord_lt nr real_top (by rw [idx_top,nv.2.2];omega))
 obtain⟨nb,hnb⟩:∃ x,Op.negFloat .f64 b=x:=⟨_,rfl⟩
 have hneg:=fun W=>run_negf Tryz.prog b W;rw [hnb] at ho hneg;clear nv nr hr hn hM hnb hb
 rcases ho with ho | ho
 all_goals
  go_enter Tryz.func161,Tryz.ntmps161
  go_wp2
  go_ret
  exact⟨rfl,rfl⟩
theorem rpow_walk(d:Int)(x m z S:Nat)(e:Int)(w:World)(hm:1<=m)(hm2:m<=1024)(hN:∀ W,Calls Tryz.prog 221 #[.float .f64 x] W fun e w'=>e=.returned (.bool false)/\W=w')(hF:∀ W,Calls Tryz.prog 161 #[.float .f64 x,.int .i64 0] W fun e w'=>e=.returned (.bool false)/\W=w')
  (hG:∀ W,Calls Tryz.prog 161 #[.float .f64 x,.int .i64 (-1)] W fun e w'=>e=.returned (.bool false)/\W=w')
  (ho:FloatKind.f64.format.order x 0=some .gt)(hP:∀ W,Calls Tryz.prog 189 #[.float .f64 x] W (NewDy W false S e))(hR:∀ A k c W,Below w.heap.size w W->U32s W A k c (digs S)->Calls Tryz.prog 269 #[.int .i64 d,.agg #[.bool false,.slice A k c,.int .i64 e],.int .i64 (-(m:Int))] W fun e' w'=>e'=.returned (.float .f64 z)/\Below W.heap.size W w'):
  Rt 248 #[.int .i64 d,.float .f64 x,.int .i64 (-(m:Int))] (.float .f64 z) w:=by
 have HN:=Hd hN;have HF:=Hd hF;have HG:=Hd hG;have HP:=Hd hP;have HR:=Hd hR
 have h1:¬ -(m:Int) < -1024:=by omega
 have h2:¬ (1024:Int) < -(m:Int):=by omega
 have h3:(-(m:Int) == 0)=false:=by simp;omega
 have h4:-(m:Int)<0:=by omega
 clear hN hF hG hP hR
 go_enter Tryz.func248,Tryz.ntmps248
 go_wp2_with fail;refine cy (HN.out _) ?_;go_wp2_with fail;refine cy (HF.out _) ?_;go_wp2_with fail;refine cy (HG.out _) ?_;go_wp2_with fail;refine cy (HF.out _) ?_;go_wp2_with fail;refine (HP.out _).mono ?_;rintro e' w1 ⟨A,k,c,rfl,hu,hb⟩;have HRR:=Hd (HR.out A k c w1 hb hu);have HB:=Hd hb;clear hu hb HR HP;go_wp2_with fail;refine HRR.out.mono ?_;rintro e' w2 ⟨rfl,hb2⟩;have HB2:=Hd (HB.out.trans (hb2.mono HB.out.size));clear hb2 HB HRR;go_wp2
 go_ret
 exact⟨rfl,HB2.out⟩
theorem rpow_neg(d i:Int)(m:Nat)(w:World)(hd:d=-1\/d=1)(h0:0<i)(h1:i<M)(hm:1<=m)(hm2:m<=1024)(hT:Tab w):
  Rt 248 #[.int .i64 d,.float .f64 (pat i),.int .i64 (-(m:Int))] (.float .f64 (pat (rndI d (1 / fl i ^ m)))) w:=by
 have hM:=M_val
 have hi:-(M:Int)<=i/\i<=M:=by omega
 obtain⟨S,e,b1,b2,b3,hv,hpt⟩:=part_any (pat i) (pat_lt hi.1 hi.2) (by unfold fin;rw [rung_pat hi.1 hi.2];omega);rw [idx_pat hi.1 hi.2,sgn_pat2 hi (by omega),decide_eq_false (by omega)] at hv;rw [sgn_pat2 hi (by omega),decide_eq_false (by omega)] at hpt
 have hf:fl i=(S:Rat)*2 ^ e:=by rw [hv];unfold rv;simp only [Bool.false_eq_true,if_false];grind
 have hS:0<S:=by
  rcases Nat.eq_zero_or_pos S with h | h
  ·exfalso
   have hz:fl i=0:=by rw [hf,h];grind
   have:=fl_lt_iff.2 h0;rw [fl_zero] at this;grind
  ·exact h
 have HF:=fun W=>isinff (pat i) W (pat_lt hi.1 hi.2) (by rw [rung_pat hi.1 hi.2];omega);rw [rung_pat hi.1 hi.2,decide_eq_false (show ¬ i.natAbs=M by omega)] at HF;have ho:=ord0 hi;rw [Int.compare_eq_gt.2 h0] at ho
 exact rpow_walk d (pat i) m _ S e w hm hm2 (fun W=>isnanf (pat i) W (by rw [rung_pat hi.1 hi.2];omega)) HF (fun W=>isinfm (pat i) W (pat_lt hi.1 hi.2) (by rw [rung_pat hi.1 hi.2];omega) (by rw [idx_pat hi.1 hi.2];omega)) ho hpt
  (fun A k c W hb hu=>rpower_walk d S m _ e A k c W hd hu hS b1 ⟨b2,b3⟩ hm hm2 (hT.below hb) (by rw [hf]))
end
section
open Go.RowKit
attribute [local go_sem] run_store_float run_negf
set_option maxRecDepth 8000 in
theorem pownz_lo(z:Int)(b1 b2 c1 c2 r1 r2:Nat)(w:World)(hz:z < -1024)(hR:∀ W,Rt 102 #[Zf c1 c2] (Zf r1 r2) W):
  Rt 39 #[.int .i64 z,Zf b1 b2,Zf c1 c2] (Zf r1 r2) w:=by
 have HR:=Hd hR;clear hR;have LL:=li3 w (Zv b1 b2) 28 (Zv c1 c2) 28 (Zv 0 0) 28
 go_enter Tryz.func39,Tryz.ntmps39
 obtain⟨q1_0,q1_1⟩:=(LL.out.blk 1 rfl).c2;go_wp2_with fail;refine cx (HR.out _) fun wk hb=>?_;replace LL:=stL LL hb;clear hb q1_0 q1_1;replace LL:=Hd (LL.out.loose2 rfl);obtain⟨ha6_0,hf6_0,ha6_1,hf6_1⟩:=(LL.out.has 0 rfl).sf2;have LF:=Hd (LL.out.wr [.float .f64 r1,.float .f64 r2]);obtain⟨hk6_0,hk6_1⟩:=(LF.out.blk 2 rfl).c2
 simp [sets] at hk6_0 hk6_1
 clear LL;go_wp2;refine bodyPost_ret (v:=Zf r1 r2) (by simp [results,Tryz.results39,go_sem,hk6_0,hk6_1]) rfl ?_
 exact⟨rfl,LF.out.b⟩
set_option maxRecDepth 8000 in
theorem pownz_hi(z:Int)(b1 b2 c1 c2 r1 r2:Nat)(w:World)(hz:1024<z)(hR:∀ W,Rt 102 #[Zf c1 c2] (Zf r1 r2) W):
  Rt 39 #[.int .i64 z,Zf b1 b2,Zf c1 c2] (Zf r1 r2) w:=by
 have hz2:¬ z < -1024:=by omega
 have HR:=Hd hR;clear hR;have LL:=li3 w (Zv b1 b2) 28 (Zv c1 c2) 28 (Zv 0 0) 28
 go_enter Tryz.func39,Tryz.ntmps39
 obtain⟨q1_0,q1_1⟩:=(LL.out.blk 1 rfl).c2;go_wp2_with fail;refine cx (HR.out _) fun wk hb=>?_;replace LL:=stL LL hb;clear hb q1_0 q1_1;replace LL:=Hd (LL.out.loose2 rfl);obtain⟨ha6_0,hf6_0,ha6_1,hf6_1⟩:=(LL.out.has 0 rfl).sf2;have LF:=Hd (LL.out.wr [.float .f64 r1,.float .f64 r2]);obtain⟨hk6_0,hk6_1⟩:=(LF.out.blk 2 rfl).c2
 simp [sets] at hk6_0 hk6_1
 clear LL;go_wp2;refine bodyPost_ret (v:=Zf r1 r2) (by simp [results,Tryz.results39,go_sem,hk6_0,hk6_1]) rfl ?_
 exact⟨rfl,LF.out.b⟩
set_option maxRecDepth 8000 in
theorem pownz_none(z:Int)(b1 b2 c1 c2 A1 A2 x1 x2:Nat)(d1 d2:Bool)(w:World)(t1:∀ W,Rt 102 #[Zf b1 b2] (Zf A1 A2) W)(m1:Em d1 A1 A2)(t2:∀ W,Rt 102 #[Zf c1 c2] (Zf x1 x2) W)(m2:Em d2 x1 x2)(h1:¬ z < -1024)(h2:¬ 1024<z)(hnn:(d1 || d2)=true):
  Rt 39 #[.int .i64 z,Zf b1 b2,Zf c1 c2] (Zf 9218868437227405312 18442240474082181120) w:=by
 have HE:=Hd emptyf;have HRD:=readL32 w (Zv 0 0) 28 t1 m1 t2 m2 hnn;clear t1 m1 t2 m2 hnn
 go_enter Tryz.func39,Tryz.ntmps39
 go_wp2_with fail;refine HRD.out.mono ?_;rintro e wk ⟨rfl,hl⟩;have LL:=Hd hl;clear hl HRD;go_wp2_with fail;refine cx (HE.out _) fun wk hb=>?_;replace LL:=stL LL hb;clear hb;replace LL:=Hd (LL.out.loose2 rfl);obtain⟨ha6_0,hf6_0,ha6_1,hf6_1⟩:=(LL.out.has 0 rfl).sf2;have LF:=Hd (LL.out.wr [.float .f64 9218868437227405312,.float .f64 18442240474082181120]);obtain⟨hk6_0,hk6_1⟩:=(LF.out.blk 2 rfl).c2
 simp [sets] at hk6_0 hk6_1
 clear LL;go_wp2;refine bodyPost_ret (v:=Zf 9218868437227405312 18442240474082181120) (by simp [results,Tryz.results39,go_sem,hk6_0,hk6_1]) rfl ?_
 exact⟨rfl,LF.out.b⟩
set_option maxRecDepth 8000 in
theorem pownz_in(b1 b2 c1 c2 A1 A2 x1 x2:Nat)(d1 d2:Bool)(o1 o2:Ordering)(w:World)(t1:∀ W,Rt 102 #[Zf b1 b2] (Zf A1 A2) W)(m1:Em d1 A1 A2)(t2:∀ W,Rt 102 #[Zf c1 c2] (Zf x1 x2) W)(m2:Em d2 x1 x2)(hnn:(d1 || d2)=false)(ho1:FloatKind.f64.format.order A1 4607182418800017408=some o1)(ho2:FloatKind.f64.format.order A2 4607182418800017408=some o2)(k1:o1=.lt\/o1=.eq)(k2:o2=.gt\/o2=.eq):
  Rt 39 #[.int .i64 0,Zf b1 b2,Zf c1 c2] (Zf x1 x2) w:=by
 rcases k1 with rfl | rfl<;>rcases k2 with rfl | rfl
 all_goals
  have HRD:=readL32 w (Zv 0 0) 28 t1 m1 t2 m2 hnn;clear t1 m1 t2 m2 hnn
  go_enter Tryz.func39,Tryz.ntmps39
  go_wp2_with fail;refine HRD.out.mono ?_;rintro e wk ⟨rfl,hl⟩;have LL:=Hd hl;clear hl HRD;obtain⟨q1_0,q1_1⟩:=(LL.out.blk 0 rfl).c2;obtain⟨q2_0,q2_1⟩:=(LL.out.blk 1 rfl).c2
  go_upto_region 6 with fail
  clear ho1 ho2 q1_0 q1_1 q2_0 q2_1;obtain⟨q3_0,q3_1⟩:=(LL.out.blk 1 rfl).c2;replace LL:=Hd (LL.out.loose2 rfl);obtain⟨ha6_0,hf6_0,ha6_1,hf6_1⟩:=(LL.out.has 0 rfl).sf2;have LF:=Hd (LL.out.wr [.float .f64 x1,.float .f64 x2]);obtain⟨hk6_0,hk6_1⟩:=(LF.out.blk 2 rfl).c2
  simp [sets] at hk6_0 hk6_1
  clear LL;go_wp2;refine bodyPost_ret (v:=Zf x1 x2) (by simp [results,Tryz.results39,go_sem,hk6_0,hk6_1]) rfl ?_
  exact⟨rfl,LF.out.b⟩
set_option maxRecDepth 8000 in
theorem pownz_out(b1 b2 c1 c2 A1 A2 x1 x2:Nat)(d1 d2:Bool)(o1 o2:Ordering)(w:World)(t1:∀ W,Rt 102 #[Zf b1 b2] (Zf A1 A2) W)(m1:Em d1 A1 A2)(t2:∀ W,Rt 102 #[Zf c1 c2] (Zf x1 x2) W)(m2:Em d2 x1 x2)(hnn:(d1 || d2)=false)(ho1:FloatKind.f64.format.order A1 4607182418800017408=some o1)(ho2:FloatKind.f64.format.order A2 4607182418800017408=some o2)(k:o1=.gt\/(o1=.lt/\o2=.lt)\/(o1=.eq/\o2=.lt)):
  Rt 39 #[.int .i64 0,Zf b1 b2,Zf c1 c2] (Zf 9218868437227405312 18442240474082181120) w:=by
 have HE:=Hd emptyf
 rcases k with rfl | ⟨rfl,rfl⟩ | ⟨rfl,rfl⟩
 all_goals
  have HRD:=readL32 w (Zv 0 0) 28 t1 m1 t2 m2 hnn;clear t1 m1 t2 m2 hnn
  go_enter Tryz.func39,Tryz.ntmps39
  go_wp2_with fail;refine HRD.out.mono ?_;rintro e wk ⟨rfl,hl⟩;have LL:=Hd hl;clear hl HRD;obtain⟨q1_0,q1_1⟩:=(LL.out.blk 0 rfl).c2;go_wp2_with fail;refine cx (HE.out _) fun wk hb=>?_;replace LL:=stL LL hb;clear hb q1_0 q1_1 ho1 ho2;replace LL:=Hd (LL.out.loose2 rfl);obtain⟨ha6_0,hf6_0,ha6_1,hf6_1⟩:=(LL.out.has 0 rfl).sf2;have LF:=Hd (LL.out.wr [.float .f64 9218868437227405312,.float .f64 18442240474082181120]);obtain⟨hk6_0,hk6_1⟩:=(LF.out.blk 2 rfl).c2
  simp [sets] at hk6_0 hk6_1
  clear LL;go_wp2;refine bodyPost_ret (v:=Zf 9218868437227405312 18442240474082181120) (by simp [results,Tryz.results39,go_sem,hk6_0,hk6_1]) rfl ?_
  exact⟨rfl,LF.out.b⟩
set_option maxRecDepth 8000 in
theorem pownz_neg(n:Nat)(b1 b2 c1 c2 A1 A2 x1 x2:Nat)(d1 d2:Bool)(w:World)(t1:∀ W,Rt 102 #[Zf b1 b2] (Zf A1 A2) W)(m1:Em d1 A1 A2)(t2:∀ W,Rt 102 #[Zf c1 c2] (Zf x1 x2) W)(m2:Em d2 x1 x2)(hn:1<=n)(hn2:n<=1024)(hp:n % 2=0)(hnn:(d1 || d2)=false)(ho:FloatKind.f64.format.order A2 0=some .lt):
  Rt 39 #[.int .i64 (-(n:Int)),Zf b1 b2,Zf c1 c2] (Zf 9218868437227405312 18442240474082181120) w:=by
 have HE:=Hd emptyf
 have n1:¬ -(n:Int) < -1024:=by omega
 have n2:¬ (1024:Int) < -(n:Int):=by omega
 have n3:(-(n:Int) == 0)=false:=by simp;omega
 have n4:-(n:Int)<0:=by omega
 have n5:(-(n:Int)) % 2=0:=by omega
 have n6:(-(n:Int)).tmod 2=0:=by rw [Int.neg_tmod,Int.tmod_eq_emod_of_nonneg (by omega)];omega
 have n7:IntKind.i64.wrap (-(-(n:Int)))=(n:Int):=by rw [IntKind.wrap_i64];omega
 have n8:wrap64 (-(-(n:Int)))=(n:Int):=by unfold wrap64;omega
 have n9:-(-(n:Int))=(n:Int):=by omega
 clear hn hn2 hp;have HRD:=readL32 w (Zv 0 0) 28 t1 m1 t2 m2 hnn;clear t1 m1 t2 m2 hnn
 go_enter Tryz.func39,Tryz.ntmps39
 go_wp2_with fail;refine HRD.out.mono ?_;rintro e wk ⟨rfl,hl⟩;have LL:=Hd hl;clear hl HRD;obtain⟨q1_0,q1_1⟩:=(LL.out.blk 0 rfl).c2;go_wp2_with fail;refine cx (HE.out _) fun wk hb=>?_;replace LL:=stL LL hb;clear hb q1_0 q1_1 ho;replace LL:=Hd (LL.out.loose2 rfl);obtain⟨ha6_0,hf6_0,ha6_1,hf6_1⟩:=(LL.out.has 0 rfl).sf2;have LF:=Hd (LL.out.wr [.float .f64 9218868437227405312,.float .f64 18442240474082181120]);obtain⟨hk6_0,hk6_1⟩:=(LF.out.blk 2 rfl).c2
 simp [sets] at hk6_0 hk6_1
 clear LL;go_wp2;refine bodyPost_ret (v:=Zf 9218868437227405312 18442240474082181120) (by simp [results,Tryz.results39,go_sem,hk6_0,hk6_1]) rfl ?_
 exact⟨rfl,LF.out.b⟩
set_option maxRecDepth 8000 in
theorem pownz_even(n:Nat)(b1 b2 c1 c2 A1 A2 x1 x2:Nat)(d1 d2:Bool)(o:Ordering)(r1 r2:Nat)(w:World)(t1:∀ W,Rt 102 #[Zf b1 b2] (Zf A1 A2) W)(m1:Em d1 A1 A2)(t2:∀ W,Rt 102 #[Zf c1 c2] (Zf x1 x2) W)(m2:Em d2 x1 x2)(hn:1<=n)(hn2:n<=1024)(hp:n % 2=0)(hnn:(d1 || d2)=false)(ho:FloatKind.f64.format.order A2 0=some o)(hoo:o=.eq\/o=.gt)(hB:∀ W,Tab W->Rt 103 #[.int .i64 (n:Int),Zf A1 A2,Zf x1 x2] (Zf r1 r2) W)(hT:Tab w):
  Rt 39 #[.int .i64 (-(n:Int)),Zf b1 b2,Zf c1 c2] (Zf r1 r2) w:=by
 have n1:¬ -(n:Int) < -1024:=by omega
 have n2:¬ (1024:Int) < -(n:Int):=by omega
 have n3:(-(n:Int) == 0)=false:=by simp;omega
 have n4:-(n:Int)<0:=by omega
 have n5:(-(n:Int)) % 2=0:=by omega
 have n6:(-(n:Int)).tmod 2=0:=by rw [Int.neg_tmod,Int.tmod_eq_emod_of_nonneg (by omega)];omega
 have n7:IntKind.i64.wrap (-(-(n:Int)))=(n:Int):=by rw [IntKind.wrap_i64];omega
 have n8:wrap64 (-(-(n:Int)))=(n:Int):=by unfold wrap64;omega
 have n9:-(-(n:Int))=(n:Int):=by omega
 clear hn hn2 hp;have HB:=Hd hB;clear hB
 rcases hoo with rfl | rfl
 all_goals
  have HRD:=readL32 w (Zv 0 0) 28 t1 m1 t2 m2 hnn;clear t1 m1 t2 m2 hnn
  go_enter Tryz.func39,Tryz.ntmps39
  go_wp2_with fail;refine HRD.out.mono ?_;rintro e wk ⟨rfl,hl⟩;have LL:=Hd hl;clear hl HRD;have HT:=Hd (hT.below LL.out.b);clear hT;obtain⟨q1_0,q1_1⟩:=(LL.out.blk 0 rfl).c2;obtain⟨q2_0,q2_1⟩:=(LL.out.blk 1 rfl).c2;go_wp2_with fail;refine cx (HB.out _ HT.out) fun wk hb=>?_;replace LL:=stL LL hb;replace HT:=Hd (HT.out.below hb);clear hb q1_0 q1_1 q2_0 q2_1 ho;clear HT;replace LL:=Hd (LL.out.loose2 rfl);obtain⟨ha6_0,hf6_0,ha6_1,hf6_1⟩:=(LL.out.has 0 rfl).sf2;have LF:=Hd (LL.out.wr [.float .f64 r1,.float .f64 r2]);obtain⟨hk6_0,hk6_1⟩:=(LF.out.blk 2 rfl).c2
  simp [sets] at hk6_0 hk6_1
  clear LL;go_wp2;refine bodyPost_ret (v:=Zf r1 r2) (by simp [results,Tryz.results39,go_sem,hk6_0,hk6_1]) rfl ?_
  exact⟨rfl,LF.out.b⟩
set_option maxRecDepth 8000 in
theorem pownz_odd(n:Nat)(b1 b2 c1 c2 A1 A2 x1 x2:Nat)(d1 d2:Bool)(r1 r2:Nat)(w:World)(t1:∀ W,Rt 102 #[Zf b1 b2] (Zf A1 A2) W)(m1:Em d1 A1 A2)(t2:∀ W,Rt 102 #[Zf c1 c2] (Zf x1 x2) W)(m2:Em d2 x1 x2)(hn:1<=n)(hn2:n<=1024)(hp:n % 2=1)(hnn:(d1 || d2)=false)(hB:∀ W,Tab W->Rt 103 #[.int .i64 (n:Int),Zf A1 A2,Zf x1 x2] (Zf r1 r2) W)(hT:Tab w):
  Rt 39 #[.int .i64 (-(n:Int)),Zf b1 b2,Zf c1 c2] (Zf r1 r2) w:=by
 have n1:¬ -(n:Int) < -1024:=by omega
 have n2:¬ (1024:Int) < -(n:Int):=by omega
 have n3:(-(n:Int) == 0)=false:=by simp;omega
 have n4:-(n:Int)<0:=by omega
 have n5:(-(n:Int)) % 2=1:=by omega
 have n6:(-(n:Int)).tmod 2=-1:=by rw [Int.neg_tmod,Int.tmod_eq_emod_of_nonneg (by omega)];omega
 have n7:IntKind.i64.wrap (-(-(n:Int)))=(n:Int):=by rw [IntKind.wrap_i64];omega
 have n8:wrap64 (-(-(n:Int)))=(n:Int):=by unfold wrap64;omega
 have n9:-(-(n:Int))=(n:Int):=by omega
 clear hn hn2 hp;have HB:=Hd hB;clear hB;have HRD:=readL32 w (Zv 0 0) 28 t1 m1 t2 m2 hnn;clear t1 m1 t2 m2 hnn
 go_enter Tryz.func39,Tryz.ntmps39
 go_wp2_with fail;refine HRD.out.mono ?_;rintro e wk ⟨rfl,hl⟩;have LL:=Hd hl;clear hl HRD;have HT:=Hd (hT.below LL.out.b);clear hT;obtain⟨q1_0,q1_1⟩:=(LL.out.blk 0 rfl).c2;obtain⟨q2_0,q2_1⟩:=(LL.out.blk 1 rfl).c2;go_wp2_with fail;refine cx (HB.out _ HT.out) fun wk hb=>?_;replace LL:=stL LL hb;replace HT:=Hd (HT.out.below hb);clear hb q1_0 q1_1 q2_0 q2_1;clear HT;replace LL:=Hd (LL.out.loose2 rfl);obtain⟨ha6_0,hf6_0,ha6_1,hf6_1⟩:=(LL.out.has 0 rfl).sf2;have LF:=Hd (LL.out.wr [.float .f64 r1,.float .f64 r2]);obtain⟨hk6_0,hk6_1⟩:=(LF.out.blk 2 rfl).c2
 simp [sets] at hk6_0 hk6_1
 clear LL;go_wp2;refine bodyPost_ret (v:=Zf r1 r2) (by simp [results,Tryz.results39,go_sem,hk6_0,hk6_1]) rfl ?_
 exact⟨rfl,LF.out.b⟩
end
end Go.Proofs.YthlmlmfebpjgdaaGreatDoor
