/-
Lemmas for the statement: WholeT Rtf RootT.
-/
import Derived.Test.YthlmlmfebpjgdaaGreatDoorM25
import Derived.Deep.DeepCutAuto
import Derived.Test.YthlmlmfebpjgdaaGreatDoorPAbT
import Derived.Test.YthlmlmfebpjgdaaGreatDoorM07
import Derived.Test.YthlmlmfebpjgdaaGreatDoorM08
import Derived.Test.YthlmlmfebpjgdaaGreatDoorM16
import Derived.Test.YthlmlmfebpjgdaaGreatDoorPPartT
import Derived.Test.YthlmlmfebpjgdaaGreatDoorPBothT
set_option linter.unusedSimpArgs false
set_option linter.unusedVariables false
set_option maxHeartbeats 12800000
namespace Go.Proofs.YthlmlmfebpjgdaaGreatDoor
section
open Go.RowKit
theorem digs_32:digs 32=[32]:=by rw [digs_pos (by omega)];simp [digs_zero]
theorem whole_start{a n h r r':Nat}(hn:0<n)(hr:IsR a n r)(hr':IsR (a / 2 ^ (h*n)) n r'):r<=(r'+1)*2 ^ h/\blen (r'+1)<=(blen a - h*n) / n+2:=by
 refine⟨root_shift hr hr',?_⟩;have h1:=hr'.1;have h2:a<2 ^ blen a:=blen_le_iff.1 (Nat.le_refl _)
 have h3:a / 2 ^ (h*n)<2 ^ (blen a - h*n):=by
  rw [Nat.div_lt_iff_lt_mul (Nat.two_pow_pos _),<- Nat.pow_add]
  exact Nat.lt_of_lt_of_le h2 (Nat.pow_le_pow_right (by omega) (by omega))
 obtain⟨t,ht⟩:∃ t,blen a - h*n=t:=⟨_,rfl⟩
 rw [ht] at h3 ⊢
 have h4:r'<2 ^ (t / n+1):=by
  rcases Nat.lt_or_ge r' (2 ^ (t / n+1)) with k | k
  ·exact k
  ·exfalso
   have h5:=Nat.pow_le_pow_left k n;rw [<- Nat.pow_mul] at h5
   have h6:t<=(t / n+1)*n:=by
    have:=Nat.div_add_mod t n;have:=Nat.mod_lt t hn;rw [Nat.add_mul,Nat.one_mul,Nat.mul_comm];omega
   have h7:(2:Nat) ^ t<=2 ^ ((t / n+1)*n):=Nat.pow_le_pow_right (by omega) h6
   omega
 refine blen_le_iff.2 ?_;rw [Nat.pow_succ]
 omega
set_option maxRecDepth 8000 in
theorem whole_any(n:Nat)(hn:1<=n)(hn2:n<=1024)(L:Nat):∀ (a r:Nat) (A:Option Addr) (m c:Nat) (w:World),blen a<=L->L<=140000->0<a->U32s w A m c (digs a)->IsR a n r ->
  Calls Tryz.prog 250 #[.slice A m c,.int .i64 (n:Int)] w (NewU32 w (digs r)):=by
 induction L using Nat.strongRecOn with
 | ind L ih=>
 intro a r A m c w hL hL2 ha hx hr
 by_cases h1:n=1
 ·subst h1;rw [hr.one];have HX:=Hd hx;clear hx ih hr
  go_enter Tryz.func250,Tryz.ntmps250
  go_wp2
  go_ret
  exact⟨A,m,c,rfl,HX.out,Below.refl _ _⟩
 have hne:((n:Int) == 1)=false:=by simp;omega
 have HX:=Hd hx;have HR:=Hd hr;have HLN:=Hd (len_d hx);have HIH:=Hd fun (b r':Nat) (B:Option Addr) (m' c':Nat) (W:World) (h:blen b<L) (h0:0<b) (hb:U32s W B m' c' (digs b)) (hr':IsR b n r')=>ih (blen b) h b r' B m' c' W (Nat.le_refl _) (by omega) h0 hb hr'
 obtain⟨l,hl⟩:∃ l,blen a=l:=⟨_,rfl⟩
 rw [hl] at hL HLN;have HLL:=Hd hl;have HA0:=Hd ha
 obtain⟨qn,hqn⟩:∃ q,l / n=q:=⟨_,rfl⟩
 have hq:qn<=l:=by rw [<- hqn];exact Nat.div_le_self _ _
 have HQN:=Hd hqn
 have e0:(l:Int) / (n:Int)=(qn:Int):=by rw [<- hqn];rfl
 obtain⟨h,hh⟩:∃ h,qn / 2=h:=⟨_,rfl⟩
 have HH:=Hd hh
 have e2:(qn:Int) / 2=(h:Int):=by rw [<- hh];rfl
 have hn0:¬ (n:Int)=0:=by omega
 clear hx hr ih hl hh hqn ha
 go_enter Tryz.func250,Tryz.ntmps250
 go_wp2_with fail;refine HLN.out.mono ?_;rintro e w' ⟨rfl,rfl⟩;clear HLN
 go_upto_region 4 with fail
 skip;clear e2 e0
 go_upto_if 26 with fail
 go_cut [6,7,8,9] (fun s6 s7 s8 s9 wx=>∃ (x:Nat) (Ax:Option Addr) (nx cx:Nat),s6=.slice Ax nx cx/\U32s wx Ax nx cx (digs x)/\r<=x/\blen x<=qn+7/\0<x/\U32s wx A m c (digs a)/\Below w.heap.size w wx)
 case first=>
  by_cases h2:h<2
  ·have hi:(h:Int)<2:=by omega
   have hs:r<=32:=root_small HR.out (by
    have e:=HLL.out;have e3:=HH.out
    have e4:l / n<4:=by rw [HQN.out];omega
    rw [Nat.div_lt_iff_lt_mul (by omega)] at e4
    exact Nat.lt_of_lt_of_le (blen_le_iff.1 (Nat.le_refl _)) (Nat.pow_le_pow_right (by omega) (by rw [e];omega)))
   have HSM:=Hd hs;have HB3:=Hd (show blen 32<=qn+7 from by have:blen 32<=6:=blen_le_iff.2 (by omega);omega);clear hs h2 HIH;go_wp2_with fail
   go_meet
   case rel=>exact⟨32,_,1,1,rfl,by rw [digs_32];exact U32s.lit1 w 117 (a:=32) (by omega),HSM.out,HB3.out,by omega,HX.out.alloc _,below_alloc w _⟩
  ·have hi:¬ (h:Int)<2:=by omega
   have hhn:h*n<=l:=by
    have e:=HH.out;have e3:=HQN.out
    have e4:h<=l / n:=by omega
    exact (Nat.le_div_iff_mul_le (by omega)).1 e4
   have hhn2:2*1<=h*n:=Nat.mul_le_mul (by omega) hn
   obtain⟨k,hk⟩:∃ k,h*n=k:=⟨_,rfl⟩
   rw [hk] at hhn hhn2
   have ek:(h:Int)*(n:Int)=(k:Int):=by rw [<- hk];rfl
   obtain⟨r',hr'⟩:=exists_root n (by omega) (a / 2 ^ k);have hst:=whole_start (h:=h) (by omega) HR.out (by rw [hk];exact hr');rw [hk,HLL.out] at hst
   have hb:blen (a / 2 ^ k)<=l - k:=by
    refine blen_le_iff.2 ?_;rw [Nat.div_lt_iff_lt_mul (Nat.two_pow_pos _),<- Nat.pow_add]
    exact Nat.lt_of_lt_of_le (blen_le_iff.1 (Nat.le_refl _)) (Nat.pow_le_pow_right (by omega) (by rw [HLL.out];omega))
   have hq2:(l - k) / n+h<=qn:=by
    have e3:=HQN.out;rw [<- hk,<- e3,Nat.mul_comm h n,Nat.sub_mul_div]
    have:h<=l / n:=by rw [e3];have:=HH.out;omega
    omega
   have HSH:=Hd (shr_d k HX.out (by rw [HLL.out];omega) (by omega));have HS1:=Hd hst.1;have hb2:=blen_mul (r'+1) (2 ^ h);have hb3:blen (2 ^ h)<=h+1:=blen_le_iff.2 (Nat.pow_lt_pow_right (by omega) (by omega));have HBX:=Hd (show blen ((r'+1)*2 ^ h)<=qn+7 from by have:=hst.2;omega);have HB1:=Hd (show blen (r'+1)+h<=500000/\blen r'<=500000 from⟨by have:=hst.2;omega,by have:=hst.2;have:=blen_mono (show r'<=r'+1 by omega);omega⟩);have HRR:=Hd hr';have HLB:=Hd (show blen (a / 2 ^ k)<L by omega)
   have HB0:=Hd (show 0<a / 2 ^ k from by
    have h5:2*k<=l:=by
     have e3:=HQN.out;have e4:=HH.out
     have e5:2*h<=l / n:=by omega
     have e6:=(Nat.le_div_iff_mul_le (by omega)).1 e5;rw [<- hk,<- Nat.mul_assoc];exact e6
    refine Nat.div_pos ?_ (Nat.two_pow_pos _)
    rcases Nat.lt_or_ge a (2 ^ k) with c | c
    ·have:=blen_le_iff.2 c;rw [HLL.out] at this;omega
    ·exact c)
   have ek2:wrap64 (k:Int)=(k:Int):=by unfold wrap64;omega
   clear hk hhn hhn2 hr' hst hb hq2 hb2 hb3 h2;go_wp2_with fail;refine HSH.out.mono ?_;rintro e w1 ⟨A1,n1,c1,rfl,hu1,hb1⟩;have HI:=Hd (HIH.out _ r' A1 n1 c1 w1 HLB.out HB0.out hu1 HRR.out);have HX1:=Hd (HX.out.below hb1);have HBW1:=Hd hb1;clear hu1 hb1 HSH HIH HLB HB0 HRR ek ek2 HX;go_wp2_with fail;refine HI.out.mono ?_;rintro e w2 ⟨A2,n2,c2,rfl,hu2,hb2⟩;have HU2:=Hd hu2;have HX2:=Hd (HX1.out.below hb2);have HBW2:=Hd (HBW1.out.trans (hb2.mono HBW1.out.size));clear hu2 hb2 HI HX1 HBW1
   have hl1:U32s (w2.alloc (.cells #[.int .u32 1] 117)) (some ⟨w2.heap.size,0,none⟩) 1 1 (digs 1):=by rw [digs_one];exact U32s.lit1 w2 117 (a:=1) (by omega)
   have HAD:=Hd (add_d (HU2.out.alloc (.cells #[.int .u32 1] 117)) hl1 HB1.out.2 (by have:blen 1<=1:=blen_le_iff.2 (by omega);omega));have HX3:=Hd (HX2.out.alloc (.cells #[.int .u32 1] 117));have HBW3:=Hd (HBW2.out.alloc HBW2.out.size (.cells #[.int .u32 1] 117));clear hl1 HX2 HBW2 HU2;go_wp2_with fail;refine HAD.out.mono ?_;rintro e w4 ⟨A4,n4,c4,rfl,hu4,hb4⟩;have HSL:=Hd (shl_d h hu4 HB1.out.1);have HX4:=Hd (HX3.out.below hb4);have HBW4:=Hd (HBW3.out.trans (hb4.mono HBW3.out.size));clear hu4 hb4 HAD HX3 HBW3;go_wp2_with fail;refine HSL.out.mono ?_;rintro e w5 ⟨A5,n5,c5,rfl,hu5,hb5⟩;have HU5:=Hd hu5;have HX5:=Hd (HX4.out.below hb5);have HBW5:=Hd (HBW4.out.trans (hb5.mono HBW4.out.size));clear hu5 hb5 HSL HX4 HBW4;go_wp2_with fail
   go_meet
   case rel=>exact⟨_,A5,n5,c5,rfl,HU5.out,HS1.out,HBX.out,Nat.mul_pos (by omega) (Nat.two_pow_pos _),HX5.out,HBW5.out⟩
 case rest=>
  obtain⟨x0,Ax0,nx0,cx0,rfl,hu,hr1,hb1,hp1,hxa,hbw⟩:=hcut;rename World=>wx;have HU:=Hd hu;have HXA:=Hd hxa;have HBW:=Hd hbw
  obtain⟨n1,hn1⟩:∃ k,n=k+1:=⟨n - 1,by omega⟩
  have en:(n:Int) - 1=(n1:Int):=by omega
  have HQB:=Hd (show (qn+7)*n1<=160000 from by
   have e:=HQN.out
   have e2:qn*n<=l:=by rw [<- e];exact Nat.div_mul_le_self _ _
   rw [hn1,Nat.mul_add,Nat.mul_one] at e2
   rw [Nat.add_mul];omega)
  have HN1:=Hd hn1
  have hn1s:n1<=1023:=by omega
  clear hu hxa hbw HX HIH HH hn1;go_wp2
  go_loopw [6] (fun xv wr=>∃ (x:Nat) (Ax:Option Addr) (nx cx:Nat),xv=.slice Ax nx cx/\U32s wr Ax nx cx (digs x)/\r<=x/\blen x<=qn+7/\0<x/\U32s wr A m c (digs a)/\Below w.heap.size w wr) (fun xv wr=>xval wr xv)
  case atStart=>exact⟨x0,Ax0,nx0,cx0,rfl,HU.out,hr1,hb1,hp1,HXA.out,HBW.out⟩
  case round=>
   obtain⟨x,Ax,nx,cx,rfl,hu,hrx,hbx,hpx,hxa,hbw⟩:=hrel;have hmul:blen x*n1<=160000:=Nat.le_trans (Nat.mul_le_mul_right _ hbx) HQB.out;have hst:=newton_step (a:=a) (m:=n1) (r:=r) (x:=x) (by have:=HR.out;rwa [HN1.out] at this) hpx hrx;have hpp:=blen_pow x n1
   obtain⟨P,hP⟩:∃ P,x ^ n1=P:=⟨_,rfl⟩
   have hP0:0<P:=by rw [<- hP];exact Nat.pow_pos hpx
   have HPW:=Hd (pow_d n1 hu (by omega) (by omega) (by omega));rw [hP] at hst HPW hpp;have hy1:=blen_mul x n1;have hn1b:blen n1<=11:=blen_le_iff.2 (by omega)
   have hqa:blen (a / P)<=l:=by rw [<- HLL.out];exact blen_mono (Nat.div_le_self _ _)
   obtain⟨Qt,hQt⟩:∃ q,a / P=q:=⟨_,rfl⟩
   rw [hQt] at hst hqa;have hya:=blen_add (x*n1) Qt 200000 (by omega) (by omega)
   obtain⟨Y,hY⟩:∃ y,(x*n1+Qt) / (n1+1)=y:=⟨_,rfl⟩
   rw [hY] at hst;have HXR:=Hd hu;have HAR:=Hd hxa;have HBR:=Hd hbw;have HST:=Hd hst;have HXV:=Hd (xval_eq hu);have HFX:=Hd (And.intro hbx (And.intro hpx hrx));have HPF:=Hd (And.intro hP0 hpp);have HQT:=Hd hQt;have HYY:=Hd hY;have HYB:=Hd (And.intro hy1 (And.intro hqa hya));have hml:=hmul;clear hu hxa hbw hst hrx hpx hP0 hpp hP hy1 hqa hya hQt hY HU HXA HBW hr1 hb1 hp1;go_wp2_with fail;refine HPW.out.mono ?_;rintro e w1 ⟨A1,m1,c1,rfl,hu1,hb1⟩;have HA1:=Hd (HAR.out.below hb1);have HX1:=Hd (HXR.out.below hb1);have HB1:=Hd (HBR.out.trans (hb1.mono HBR.out.size));have HP1:=Hd hu1;have HQ1:=Hd (quo_d HA1.out hu1 (by rw [HLL.out];omega) (by have:=HPF.out.2;omega) HPF.out.1);rw [HQT.out] at HQ1;clear hu1 hb1 HPW HAR HXR HBR;go_wp2_with fail;refine HQ1.out.mono ?_;rintro e w2 ⟨A2,m2,c2,B2,p2,d2,rfl,hu2,-,hb2⟩;have HA2:=Hd (HA1.out.below hb2);have HX2:=Hd (HX1.out.below hb2);have HB2:=Hd (HB1.out.trans (hb2.mono HB1.out.size));have HQ2:=Hd hu2;have HS2:=Hd (nsmall_any n1 w2 (by omega));clear hu2 hb2 HQ1 HA1 HX1 HB1 HP1;go_wp2_with fail;refine HS2.out.mono ?_;rintro e w3 ⟨A3,m3,c3,rfl,hu3,hb3⟩;have HA3:=Hd (HA2.out.below hb3);have HX3:=Hd (HX2.out.below hb3);have HQ3:=Hd (HQ2.out.below hb3);have HB3:=Hd (HB2.out.trans (hb3.mono HB2.out.size));have HM3:=Hd (mul_d HX3.out hu3 (by have:=HFX.out.1;omega) (by omega));clear hu3 hb3 HS2 HA2 HX2 HB2 HQ2;go_wp2_with fail;refine HM3.out.mono ?_
   rintro e w4 ⟨A4,m4,c4,rfl,hu4,hb4⟩;have HA4:=Hd (HA3.out.below hb4);have HX4:=Hd (HX3.out.below hb4);have HB4:=Hd (HB3.out.trans (hb4.mono HB3.out.size));have HD4:=Hd (add_d hu4 (HQ3.out.below hb4) (by have:=HYB.out.1;omega) (by have:=HYB.out.2.1;omega));clear hu4 hb4 HM3 HA3 HX3 HB3 HQ3;go_wp2_with fail;refine HD4.out.mono ?_;rintro e w5 ⟨A5,m5,c5,rfl,hu5,hb5⟩;have HA5:=Hd (HA4.out.below hb5);have HX5:=Hd (HX4.out.below hb5);have HY5:=Hd hu5;have HB5:=Hd (HB4.out.trans (hb5.mono HB4.out.size));have HS5:=Hd (show Calls Tryz.prog 169 #[.int .u64 (n:Int)] w5 (NewU32 w5 (digs (n1+1))) from by have h:=nsmall_any n w5 (by omega);rwa [HN1.out] at h ⊢);clear hu5 hb5 HD4 HA4 HX4 HB4;go_wp2_with fail;refine HS5.out.mono ?_;rintro e w6 ⟨A6,m6,c6,rfl,hu6,hb6⟩;have HA6:=Hd (HA5.out.below hb6);have HX6:=Hd (HX5.out.below hb6);have HB6:=Hd (HB5.out.trans (hb6.mono HB5.out.size));have HQ6:=Hd (quo_d (HY5.out.below hb6) hu6 (by have:=HYB.out.2.2;omega) (by have:blen (n1+1)<=11:=blen_le_iff.2 (by omega);omega) (by omega));rw [HYY.out] at HQ6;clear hu6 hb6 HS5 HA5 HX5 HB5 HY5;go_wp2_with fail;refine HQ6.out.mono ?_;rintro e w7 ⟨A7,m7,c7,B7,p7,d7,rfl,hu7,-,hb7⟩;have HX7:=Hd (HX6.out.below hb7);have hc7:=cmp_d hu7 HX7.out;have HA7:=Hd (HA6.out.below hb7);have HY7:=Hd hu7;have HB7:=Hd (HB6.out.trans (hb7.mono HB6.out.size))
   obtain⟨cc,hcc⟩:∃ z,cmp3 Y x=z:=⟨_,rfl⟩
   rw [hcc] at hc7;have HC7:=Hd hc7;have HCC:=Hd hcc;clear hu7 hb7 HQ6 HA6 HX6 HB6 hc7 hcc;go_wp2_with fail;refine HC7.out.mono ?_;rintro e w8 ⟨rfl,k8,hk8⟩
   have hb8:Below w7.heap.size w7 w8:=by rw [hk8];exact below_drewN (Below.refl _ _) k8
   have HX8:=Hd (HX7.out.below hb8);have HA8:=Hd (HA7.out.below hb8);have HY8:=Hd (HY7.out.below hb8);have HB8:=Hd (HB7.out.trans (hb8.mono HB7.out.size));clear hb8 hk8 HC7 HX7 HA7 HY7 HB7
   by_cases hneg:cc<0
   ·have hlt:Y<x:=cmp3_neg.1 (by rw [HCC.out];exact hneg);have HLT:=Hd hlt;have HV8:=Hd (xval_eq HY8.out);clear hlt HCC;go_wp2
    go_roundw
    case rel=>exact⟨Y,A7,m7,c7,rfl,HY8.out,HST.out.1,Nat.le_trans (blen_mono (Nat.le_of_lt HLT.out)) HFX.out.1,Nat.lt_of_lt_of_le (HR.out.pos HA0.out) HST.out.1,HA8.out,HB8.out⟩
    case measure=>show xval w8 (.slice A7 m7 c7)<xval wr (.slice Ax nx cx);rw [HV8.out,HXV.out];exact HLT.out
   ·have hge:x<=Y:=cmp3_nonneg.1 (by rw [HCC.out];omega);have HRX:=Hd (HST.out.2 hge);have hng:¬ cc<0:=hneg;clear hge HCC HST;go_wp2
    go_ret
    exact⟨Ax,nx,cx,rfl,by rw [HRX.out];exact HX8.out,HB8.out⟩
end
theorem rmul_pow(a b:Rat)(n:Nat):(a*b) ^ n=a ^ n*b ^ n:=by
 induction n with
 | zero=>simp [Rat.pow_zero]
 | succ n ih=>rw [Rat.pow_succ,Rat.pow_succ,Rat.pow_succ,ih];grind
theorem rpow_le{a b:Rat}(h0:0<=a)(h:a<=b)(n:Nat):a ^ n<=b ^ n:=by
 induction n with
 | zero=>rw [Rat.pow_zero,Rat.pow_zero];grind
 | succ n ih=>
  rw [Rat.pow_succ,Rat.pow_succ]
  have h1:a ^ n*a<=b ^ n*a:=by rw [Rat.mul_comm _ a,Rat.mul_comm _ a];exact Rat.mul_le_mul_of_nonneg_left ih h0
  have h2:b ^ n*a<=b ^ n*b:=Rat.mul_le_mul_of_nonneg_left h (Rat.pow_nonneg (by grind))
  grind
theorem rpow_lt{a b:Rat}(h0:0<=a)(h:a<b)(n:Nat)(hn:0<n):a ^ n<b ^ n:=by
 obtain⟨m,rfl⟩:∃ m,n=m+1:=⟨n - 1,by omega⟩
 rw [Rat.pow_succ,Rat.pow_succ]
 have hb:0<b:=by grind
 have h1:a ^ m*a<=b ^ m*a:=by rw [Rat.mul_comm _ a,Rat.mul_comm _ a];exact Rat.mul_le_mul_of_nonneg_left (rpow_le h0 (by grind) m) h0
 have h2:b ^ m*a<b ^ m*b:=Rat.mul_lt_mul_of_pos_left h (Rat.pow_pos hb)
 grind
theorem zpow_pow(E:Int)(n:Nat):((2:Rat) ^ E) ^ n=2 ^ ((n:Int)*E):=by
 induction n with
 | zero=>rw [Rat.pow_zero];simp
 | succ n ih=>
  rw [Rat.pow_succ,ih,<- zpow_add]
  congr 1
  rw [show ((n+1:Nat):Int)=(n:Int)+1 from by omega,Int.add_mul,Int.one_mul]
theorem nat_le_c{c:Rat}(hc:0<c)(a b:Nat):(a:Rat)*c<=(b:Rat)*c↔a<=b:=by
 rw [mul_le_pos hc];exact Rat.natCast_le_natCast
theorem pow_le_iff(Z R n:Nat)(hn:0<n):Z ^ n<=R ^ n↔Z<=R:=by
 constructor
 ·intro h
  rcases Nat.lt_or_ge R Z with k | k
  ·have:=Nat.pow_lt_pow_left k (show n≠0 by omega);omega
  ·exact k
 ·exact fun h=>Nat.pow_le_pow_left h n
def rq(s n R:Nat)(c:Rat):Rat:=if R ^ n=s then (R:Rat)*c else ((2*R+1:Nat):Rat)*(c / 2)
theorem root_cmp{c f:Rat}{s n R:Nat}(hc:0<c)(hn:0<n)(hR:IsR s n R)(hf:(∃ Z:Nat,f=(Z:Rat)*c)\/(0<=f/\f<(R:Rat)*c)):
  (f<=rq s n R c↔f ^ n<=(s:Rat)*c ^ n)/\(rq s n R c<=f↔(s:Rat)*c ^ n<=f ^ n):=by
 have hcn:0<c ^ n:=Rat.pow_pos hc
 have hc2:0<c / 2:=by grind
 rcases hf with ⟨Z,rfl⟩ | ⟨h0,hlt⟩
 ·rw [rmul_pow,<- Rat.natCast_pow,nat_le_c hcn,nat_le_c hcn];unfold rq
  by_cases h:R ^ n=s
  ·rw [if_pos h,nat_le_c hc,nat_le_c hc,<- h,pow_le_iff _ _ _ hn,pow_le_iff _ _ _ hn]
   exact⟨Iff.rfl,Iff.rfl⟩
  ·rw [if_neg h]
   have e:(Z:Rat)*c=((2*Z:Nat):Rat)*(c / 2):=by push_cast;grind
   rw [e,nat_le_c hc2,nat_le_c hc2]
   constructor
   ·constructor
    ·intro k;have:=Nat.pow_le_pow_left (show Z<=R by omega) n;have:=hR.1;omega
    ·intro k;have:=hR.ge k;omega
   ·constructor
    ·intro k;have:=Nat.pow_le_pow_left (show R+1<=Z by omega) n;have:=hR.2;omega
    ·intro k;have h1:=hR.1
     rcases Nat.lt_or_ge R Z with q | q
     ·omega
     ·have:=Nat.pow_le_pow_left q n;omega
 ·have h1:(R:Rat)*c<=rq s n R c:=by
   unfold rq
   split
   ·grind
   ·have:((R:Rat)*c)=((2*R:Nat):Rat)*(c / 2):=by push_cast;grind
    rw [this,nat_le_c hc2];omega
  have h2:f ^ n<((R:Rat)*c) ^ n:=rpow_lt h0 hlt n hn
  have h3:((R:Rat)*c) ^ n<=(s:Rat)*c ^ n:=by
   rw [rmul_pow,<- Rat.natCast_pow,nat_le_c hcn];exact hR.1
  constructor
  ·exact⟨fun _=>by grind,fun _=>by grind⟩
  ·exact⟨fun _=>by grind,fun _=>by grind⟩
theorem fl_dig{j:Int}(hj:0<=j)(E:Int)(R:Nat)(hR:144115188075855872<=R):(∃ Z:Nat,fl j=(Z:Rat)*2 ^ E)\/(0<=fl j/\fl j<(R:Rat)*2 ^ E):=by
 obtain⟨k,q,e,hk,hq⟩:=rung_form j.toNat
 have hm:mag j.natAbs=q*2 ^ k:=by
  rw [show j.natAbs=j.toNat by omega,e];exact mag_form k q hk (by omega)
 have hv:val j=((q*2 ^ k:Nat):Int):=by
  have h1:=val_natAbs j;rw [hm] at h1
  have h2:0<=val j:=by
   rcases Int.lt_or_eq_of_le hj with h | h
   ·have:=(@val_lt_iff 0 j).2 h;rw [val_zero] at this;omega
   ·rw [<- h,val_zero];omega
  omega
 have hf:fl j=(q:Rat)*2 ^ ((k:Int) - 1074):=by
  unfold fl;rw [hv,show ((k:Int) - 1074)=(k:Int)+(-1074) from by omega,zpow_add,zpow_nat];generalize (2:Rat) ^ (-1074:Int)=z
  push_cast
  grind
 by_cases h:E<=(k:Int) - 1074
 ·left
  obtain⟨t,ht⟩:∃ t:Nat,(k:Int) - 1074=(t:Int)+E:=⟨((k:Int) - 1074 - E).toNat,by omega⟩
  refine⟨q*2 ^ t,?_⟩;rw [hf,ht,zpow_add,zpow_nat]
  push_cast
  grind
 ·right
  obtain⟨t,ht⟩:∃ t:Nat,E=(t:Int)+((k:Int) - 1074):=⟨(E - ((k:Int) - 1074)).toNat,by omega⟩
  have hp:=zpow_pos ((k:Int) - 1074)
  have h53:(2:Nat) ^ 53=9007199254740992:=by decide
  refine⟨fl_le_iff.2 hj |> fun h=>by rwa [fl_zero] at h,?_⟩;rw [hf,ht,zpow_add,zpow_nat,<- Rat.mul_assoc,<- Rat.natCast_mul]
  have h1:((q+1:Nat):Rat)*2 ^ ((k:Int) - 1074)<=((R*2 ^ t:Nat):Rat)*2 ^ ((k:Int) - 1074):=by
   rw [nat_le_c hp];have:=Nat.mul_le_mul_left R (Nat.one_le_two_pow (n:=t))
   omega
  push_cast at h1 ⊢
  grind
def RtOk(i:Int)(n:Nat)(q:Rat):Prop:=0<q/\∀ j:Int,0<=j->(fl j<=q↔fl j ^ n<=fl i)/\(q<=fl j↔fl i<=fl j ^ n)
theorem RtOk.le{i:Int}{n:Nat}{q q':Rat}(h:RtOk i n q)(h':RtOk i n q')(j:Int):(fl j<=q↔fl j<=q')/\(q<=fl j↔q'<=fl j):=by
 by_cases hj:0<=j
 ·rw [(h.2 j hj).1,(h'.2 j hj).1,(h.2 j hj).2,(h'.2 j hj).2];exact⟨Iff.rfl,Iff.rfl⟩
 ·have h1:fl j<0:=by have:=fl_lt_iff.2 (show j<0 by omega);rwa [fl_zero] at this
  have h2:=h.1;have h3:=h'.1
  exact⟨⟨fun _=>by grind,fun _=>by grind⟩,⟨fun _=>by grind,fun _=>by grind⟩⟩
theorem RtOk.rnd{i:Int}{n:Nat}{q q':Rat}(h:RtOk i n q)(h':RtOk i n q'){d:Int}(hd:d=-1\/d=1):rndI d q=rndI d q':=by
 rcases hd with rfl | rfl
 ·obtain⟨a1,a2,a3⟩:=rndI_down q;obtain⟨b1,b2,b3⟩:=rndI_down q';have hM:=M_val
  by_cases c1:rndI (-1) q=-(M:Int)
  ·by_cases c2:rndI (-1) q'=-(M:Int)
   ·omega
   ·have:=(a3 _ (by omega) b2).2 ((h.le h' _).1.2 ((b3 _ (by omega) b2).1 (Int.le_refl _)))
    omega
  ·have l1:=(b3 _ (by omega) a2).2 ((h.le h' _).1.1 ((a3 _ (by omega) a2).1 (Int.le_refl _)));have l2:=(a3 (rndI (-1) q') (by omega) b2).2 ((h.le h' _).1.2 ((b3 _ (by omega) b2).1 (Int.le_refl _)))
   omega
 ·obtain⟨a1,a2,a3⟩:=rndI_up q;obtain⟨b1,b2,b3⟩:=rndI_up q';have hM:=M_val
  by_cases c1:rndI 1 q=M
  ·by_cases c2:rndI 1 q'=M
   ·omega
   ·have:=(a3 _ b1 (by omega)).2 ((h.le h' _).2.2 ((b3 _ b1 (by omega)).1 (Int.le_refl _)))
    omega
  ·have l1:=(b3 _ a1 (by omega)).2 ((h.le h' _).2.1 ((a3 _ a1 (by omega)).1 (Int.le_refl _)));have l2:=(a3 (rndI 1 q') b1 (by omega)).2 ((h.le h' _).2.2 ((b3 _ b1 (by omega)).1 (Int.le_refl _)))
   omega
theorem rq_pos{s n R:Nat}{c:Rat}(hc:0<c)(hR:0<R):0<rq s n R c:=by
 unfold rq
 split
 ·exact Rat.mul_pos (by exact_mod_cast hR) hc
 ·exact Rat.mul_pos (by exact_mod_cast (show 0<2*R+1 by omega)) (by grind)
theorem rq_ok{i:Int}{n s R:Nat}{E:Int}(hn:0<n)(hR:IsR s n R)(h57:144115188075855872<=R)(hi:fl i=(s:Rat)*2 ^ ((n:Int)*E)):RtOk i n (rq s n R (2 ^ E)):=by
 have hc:=zpow_pos E;refine⟨rq_pos hc (by omega),fun j hj=>?_⟩;have h:=root_cmp hc hn hR (fl_dig hj E R h57);rw [zpow_pow,<- hi] at h
 exact h
open Classical in
noncomputable def rootq(i:Int)(n:Nat):Rat:=if h:∃ q,RtOk i n q then h.choose else 0
theorem rootq_ok{i:Int}{n:Nat}{q:Rat}(h:RtOk i n q):RtOk i n (rootq i n):=by
 unfold rootq
 have k:∃ q,RtOk i n q:=⟨q,h⟩
 rw [dif_pos k]
 exact k.choose_spec
noncomputable def rt1(d i:Int)(n:Nat):Int:=if i=0\/i=M then i else rndI d (rootq i n)
noncomputable def rti(d i:Int)(n:Nat):Int:=if i<0 then -(rt1 (-d) (-i) n) else rt1 d i n
theorem rt1_of{d i:Int}{n:Nat}{q:Rat}(hd:d=-1\/d=1)(h:RtOk i n q)(h0:i≠0)(h1:i≠M):rt1 d i n=rndI d q:=by
 unfold rt1;rw [if_neg (by omega)]
 exact (rootq_ok h).rnd h hd
section
open Go.RowKit
theorem cmp_b{A B:Option Addr}{n c m d x y:Nat}{w:World}{cc:Int}(hx:U32s w A n c (digs x))(hy:U32s w B m d (digs y))(h:cmp3 x y=cc):Rt 142 #[.slice A n c,.slice B m d] (.int .i64 cc) w:=by
 rw [<- h];refine (cmp_d hx hy).mono ?_;rintro e w' ⟨he,k,hk⟩
 exact⟨he,by rw [hk];exact below_drewN (Below.refl _ _) k⟩
theorem run_max_int{a b E:Int}(h:max a b=E)(W:World)(ts:Array TypeId)(t:TypeId):(Builtin.max_ ts t #[.int .i64 a,.int .i64 b]).run Tryz.prog W=.ok (.int .i64 E) W:=by
 have e:(Builtin.max_ ts t #[.int .i64 a,.int .i64 b])=Builtin.max2 (.int .i64 a) (.int .i64 b):=by simp [Builtin.max_]
 rw [e];unfold Builtin.max2;subst h
 simp [Int.max_def]
 split<;>split<;>omega
set_option maxRecDepth 8000 in
theorem root_walk(d:Int)(neg more:Bool)(S n k0 J r s z:Nat)(e E cc:Int)(A:Option Addr)(m c:Nat)(w:World)(hu:U32s w A m c (digs S))(hS:blen S<=64)(hn:1<=n)(hn2:n<=1024)(he:-2000<=e/\e<=2000)(hk0:max 0 (58*(n:Int) - (blen S:Int))=(k0:Int))(hJ:J<=1024)
  (hj1:∀ i:Nat,i<J->¬ (e - ((k0+i:Nat):Int)).tmod (n:Int)=0)(hj2:(e - ((k0+J:Nat):Int)).tmod (n:Int)=0)(hE:(e - ((k0+J:Nat):Int)).tdiv (n:Int)=E)(hEb:-100000<=E/\E<=100000)(hs:S*2 ^ (k0+J)=s)(hs0:0<s)(hr:IsR s n r)(hcc:cmp3 (r ^ n) s=cc)(hm:(!(cc == 0))=more)
  (hof:∀ W B m' c',U32s W B m' c' (digs r)->Rt 230 #[.int .i64 d,.bool neg,.slice B m' c',.int .i64 E,.bool more] (.float .f64 z) W):
  Rt 223 #[.int .i64 d,.agg #[.bool neg,.slice A m c,.int .i64 e],.int .i64 (n:Int)] (.float .f64 z) w:=by
 have hb1:k0<=58*1024:=by omega
 have hsb:blen s<=70000:=by rw [<- hs];have:=blen_mul S (2 ^ (k0+J));have:blen (2 ^ (k0+J))<=k0+J+1:=blen_le_iff.2 (Nat.pow_lt_pow_right (by omega) (by omega));omega
 have hrb:blen r<=70000:=by
  refine Nat.le_trans (blen_mono ?_) hsb;refine Nat.le_trans ?_ hr.1
  rcases Nat.eq_zero_or_pos r with h | h
  ·omega
  ·calc r=r ^ 1:=(Nat.pow_one r).symm
    _<=r ^ n:=Nat.pow_le_pow_right h hn
 have hrn:blen r*n<=200000:=by
  have h1:=hr.1
  rcases Nat.eq_zero_or_pos r with h | h
  ·subst h;rw [blen_zero];omega
  ·have h2:2 ^ (blen r - 1)<=r:=by
    rcases Nat.lt_or_ge r (2 ^ (blen r - 1)) with q | q
    ·have:=blen_le_iff.2 q
     have:blen r≠0:=fun h0=>by have:=blen_eq_zero.1 h0;omega
     omega
    ·exact q
   have h3:=Nat.pow_le_pow_left h2 n;rw [<- Nat.pow_mul] at h3;have h4:2 ^ ((blen r - 1)*n)<2 ^ blen s:=Nat.lt_of_le_of_lt (Nat.le_trans h3 h1) (blen_le_iff.1 (Nat.le_refl _));have h5:=(Nat.pow_lt_pow_iff_right (show 1<2 by omega)).1 h4;rw [Nat.sub_mul] at h5
   omega
 have HU:=Hd hu;have HLN:=Hd fun W (h:U32s W A m c (digs S))=>len_d h
 obtain⟨b,hb⟩:∃ b,blen S=b:=⟨_,rfl⟩
 rw [hb] at hk0 hS HLN;have HMX:=Hd fun (W:World) (ts:Array TypeId) (t:TypeId)=>run_max_int hk0 W ts t
 have hw1:wrap64 (58*(n:Int))=58*(n:Int):=by unfold wrap64;omega
 have hw2:wrap64 (58*(n:Int) - (b:Int))=58*(n:Int) - (b:Int):=by unfold wrap64;omega
 have HSL:=Hd fun W (h:U32s W A m c (digs S))=>shl_d (k0+J) h (by rw [hb];omega);rw [hs] at HSL;have HWH:=Hd fun W B m' c' (h:U32s W B m' c' (digs s))=>whole_any n hn hn2 140000 s r B m' c' W (by omega) (by omega) hs0 h hr;have HPW:=Hd fun W B m' c' (h:U32s W B m' c' (digs r))=>pow_d (w:=W) n h (by omega) (by omega) (by omega);have HCM:=Hd fun W B m' c' C p q (h:U32s W B m' c' (digs (r ^ n))) (h2:U32s W C p q (digs s))=>cmp_b h h2 hcc;have HJ1:=Hd hj1;have HJ2:=Hd hj2;have HE:=Hd hE;have HOF:=Hd hof;have HM:=Hd hm
 have hn0:¬ (n:Int)=0:=by omega
 clear hu hs hr hcc hof hj1 hj2 hE hsb hrb hrn hb hs0 hm;have LL:=li1 w #[.bool neg,.slice A m c,.int .i64 e] 168;have HU0:=Hd (HU.out.below LL.out.b);clear HU
 go_enter Tryz.func223,Tryz.ntmps223
 obtain⟨q1_0,q1_1,q1_2⟩:=(LL.out.blk 0 rfl).c3;have hmx:=HMX.out;go_wp2_with fail;refine (HLN.out _ HU0.out).mono ?_;rintro e1 w1 ⟨rfl,rfl⟩;clear HLN q1_0 q1_1 q1_2
 obtain⟨wa,hwa⟩:∃ X,(w.alloc (.cells #[.bool neg,.slice A m c,.int .i64 e] 168))=X:=⟨_,rfl⟩
 rw [hwa] at HU0 LL ⊢;clear hwa;obtain⟨q2_0,q2_1,q2_2⟩:=(LL.out.blk 0 rfl).c3;go_wp2;clear hmx HMX hw1 hw2 q2_0 q2_1 q2_2
 go_loopw [7] (fun kv wr=>∃ i:Nat,kv=.int .i64 ((k0+i:Nat):Int)/\i<=J/\wr=wa) (fun kv _=>k0+J - (intOf kv).toNat)
 case atStart=>exact⟨0,rfl,by omega,rfl⟩
 case round=>
  obtain⟨i,rfl,hi,hwr⟩:=hrel;subst hwr
  have hk:(0:Int)<=((k0+i:Nat):Int)/\((k0+i:Nat):Int)<=61000:=by omega
  obtain⟨kk,hkk⟩:∃ z:Int,((k0+i:Nat):Int)=z:=⟨_,rfl⟩
  have hw3:wrap64 (e - kk)=e - kk:=by unfold wrap64;omega
  by_cases hlt:i<J
  ·skip;obtain⟨q3_0,q3_1,q3_2⟩:=(LL.out.blk 0 rfl).c3;have t1:=HJ1.out i hlt;rw [hkk] at t1 hk ⊢
   have t2:((e - kk).tmod (n:Int) == 0)=false:=by simpa using t1
   go_wp2
   exact⟨⟨i+1,by rw [<- hkk,show k0+(i+1)=k0+i+1 from by omega];rfl,by omega,trivial⟩,by simp [intOf];omega⟩
  ·skip
   obtain rfl:i=J:=by omega
   have t1:=HJ2.out;have te:=HE.out;rw [hkk] at t1 te hk ⊢;have HT1:=Hd t1;have HSK:=Hd (HSL.out _ HU0.out);rw [hkk] at HSK;have hkh:=Hd hkk;clear HJ1 HJ2 HE HSL hlt hi hkk;obtain⟨q4_0,q4_1,q4_2⟩:=(LL.out.blk 0 rfl).c3;go_wp2_with fail;refine HSK.out.mono ?_;rintro e2 w2 ⟨A2,m2,c2,rfl,hu2,hb2⟩;have HU2:=Hd hu2;replace LL:=stL LL hb2;clear hu2 hb2 HSK HU0 q4_0 q4_1 q4_2;have HW2:=Hd (HWH.out _ A2 m2 c2 HU2.out);go_wp2_with fail;refine HW2.out.mono ?_;rintro e2 w3 ⟨A3,m3,c3,rfl,hu3,hb3⟩;have HU3:=Hd hu3;replace HU2:=Hd (HU2.out.below hb3);replace LL:=stL LL hb3;clear hu3 hb3 HW2 HWH;have HW3:=Hd (HPW.out _ A3 m3 c3 HU3.out);go_wp2_with fail;refine HW3.out.mono ?_;rintro e2 w4 ⟨A4,m4,c4,rfl,hu4,hb4⟩;have HU4:=Hd hu4;replace HU2:=Hd (HU2.out.below hb4);replace HU3:=Hd (HU3.out.below hb4);replace LL:=stL LL hb4;clear hu4 hb4 HW3 HPW
   have hn1:¬ n=0:=by omega
   have f1:IntKind.i64.wrap (e - kk)=e - kk:=by rw [IntKind.wrap_i64];omega
   have f2:IntKind.i64.wrap E=E:=by rw [IntKind.wrap_i64];omega
   have hm1:(cc != 0)=more:=HM.out;have hm2:(!(cc == 0))=more:=HM.out
   have hm3:(!decide (cc=0))=more:=by rw [<- HM.out];rfl
   have hm4:decide (¬ cc=0)=more:=by rw [<- hm3];simp
   go_wp2_with fail;refine regL LL (fun hHeld=>?_);clear LL;replace HU2:=Hd (HU2.out.below (Below.refl _ _).drew);replace HU3:=Hd (HU3.out.below (Below.refl _ _).drew);replace HU4:=Hd (HU4.out.below (Below.refl _ _).drew);generalize World.drew _=wk at hHeld HU2 HU3 HU4 ⊢;refine tks 0 ?_;refine tks 1 ?_;refine tkb 2 (fun _ h=>(h.blk 0 rfl).c3) ?_;refine tks 3 ?_;refine tks 4 ?_;refine tkb 5 (fun _ h=>(h.blk 0 rfl).c3) ?_;refine tks 6 ?_;refine tks 7 ?_;refine tks 8 ?_;refine tks 9 ?_;refine tks 10 ?_;refine tks 11 ?_;refine rdy 12 (fun KK hKK=>?_);go_simp;refine cs (HCM.out _ A4 m4 c4 A2 m2 c2 HU4.out HU2.out) ?_;clear hKK KK hHeld;intro wk hb5 hHeld;replace HU2:=Hd (HU2.out.below hb5);replace HU3:=Hd (HU3.out.below hb5);replace HU4:=Hd (HU4.out.below hb5);clear hb5;refine tks 13 ?_;refine rdy 14 (fun KK hKK=>?_);go_simp;refine cs (HOF.out _ A3 m3 c3 HU3.out) ?_;clear hKK KK hHeld;intro wk hb6 hHeld;replace HU2:=Hd (HU2.out.below hb6);replace HU3:=Hd (HU3.out.below hb6);replace HU4:=Hd (HU4.out.below hb6);clear hb6;refine tks 15 ?_;refine wpAnyH_done (by kernel_rfl) ?_ _;have LL:=Hd hHeld;clear hHeld;go_wp2
   go_ret
   exact⟨rfl,LL.out.b⟩
end
end Go.Proofs.YthlmlmfebpjgdaaGreatDoor
