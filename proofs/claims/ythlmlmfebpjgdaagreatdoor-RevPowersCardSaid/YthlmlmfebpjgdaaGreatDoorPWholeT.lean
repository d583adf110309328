/-
Lemmas for the statement: WholeT.
-/
import Derived.Test.YthlmlmfebpjgdaaGreatDoorM32
import Derived.Deep.DeepCutAuto
set_option linter.unusedSimpArgs false
set_option linter.unusedVariables false
set_option maxHeartbeats 12800000
namespace Go.Proofs.YthlmlmfebpjgdaaGreatDoor
section
open Go.RowKit
theorem digs_32:digs 32=[32]:=by rw [digs_pos (by omega)];simp [digs_zero]
theorem whole_start{a n h r r':Nat}(hn:0<n)(hr:IsR a n r)(hr':IsR (a / 2 ^ (h*n)) n r'):r≤(r'+1)*2 ^ h∧blen (r'+1)≤(blen a - h*n) / n+2:=by
 refine⟨root_shift hr hr',?_⟩;have h1:=hr'.1;have h2:a<2 ^ blen a:=blen_le_iff.1 (Nat.le_refl _)
 have h3:a / 2 ^ (h*n)<2 ^ (blen a - h*n):=by
  rw [Nat.div_lt_iff_lt_mul (Nat.two_pow_pos _),← Nat.pow_add]
  exact Nat.lt_of_lt_of_le h2 (Nat.pow_le_pow_right (by omega) (by omega))
 obtain⟨t,ht⟩:∃ t,blen a - h*n=t:=⟨_,rfl⟩
 rw [ht] at h3 ⊢
 have h4:r'<2 ^ (t / n+1):=by
  rcases Nat.lt_or_ge r' (2 ^ (t / n+1)) with k | k
  ·exact k
  ·exfalso
   have h5:=Nat.pow_le_pow_left k n;rw [← Nat.pow_mul] at h5
   have h6:t≤(t / n+1)*n:=by
    have:=Nat.div_add_mod t n;have:=Nat.mod_lt t hn;rw [Nat.add_mul,Nat.one_mul,Nat.mul_comm];omega
   have h7:(2:Nat) ^ t≤2 ^ ((t / n+1)*n):=Nat.pow_le_pow_right (by omega) h6
   omega
 refine blen_le_iff.2 ?_;rw [Nat.pow_succ]
 omega
set_option maxRecDepth 8000 in
theorem whole_any(n:Nat)(hn:1≤n)(hn2:n≤1024)(L:Nat):∀ (a r:Nat) (A:Option Addr) (m c:Nat) (w:World),blen a≤L→L≤140000→0<a→U32s w A m c (digs a)→IsR a n r →
  Calls Tryz.prog 250 #[.slice A m c,.int .i64 (n:Int)] w (NewU32 w (digs r)):=by
 induction L using Nat.strongRecOn with
 | ind L ih=>
 intro a r A m c w hL hL2 ha hx hr
 by_cases h1:n=1
 ·subst h1;rw [hr.one];have HX:=Hd hx;clear hx ih hr
  go_enter Tryz.func250,Tryz.ntmps250
  go_wp2
  go_ret
  exact⟨A,m,c,rfl,HX.out,Below.refl _ _⟩
 have hne:((n:Int) == 1)=false:=by simp;omega
 have HX:=Hd hx;have HR:=Hd hr;have HLN:=Hd (len_d hx);have HIH:=Hd fun (b r':Nat) (B:Option Addr) (m' c':Nat) (W:World) (h:blen b<L) (h0:0<b) (hb:U32s W B m' c' (digs b)) (hr':IsR b n r')=>ih (blen b) h b r' B m' c' W (Nat.le_refl _) (by omega) h0 hb hr'
 obtain⟨l,hl⟩:∃ l,blen a=l:=⟨_,rfl⟩
 rw [hl] at hL HLN;have HLL:=Hd hl;have HA0:=Hd ha
 obtain⟨qn,hqn⟩:∃ q,l / n=q:=⟨_,rfl⟩
 have hq:qn≤l:=by rw [← hqn];exact Nat.div_le_self _ _
 have HQN:=Hd hqn
 have e0:(l:Int) / (n:Int)=(qn:Int):=by rw [← hqn];rfl
 obtain⟨h,hh⟩:∃ h,qn / 2=h:=⟨_,rfl⟩
 have HH:=Hd hh
 have e2:(qn:Int) / 2=(h:Int):=by rw [← hh];rfl
 have hn0:¬ (n:Int)=0:=by omega
 clear hx hr ih hl hh hqn ha
 go_enter Tryz.func250,Tryz.ntmps250
 go_wp2_with fail;refine HLN.out.mono ?_;rintro e w' ⟨rfl,rfl⟩;clear HLN
 go_upto_region 4 with fail
 skip;clear e2 e0
 go_upto_if 26 with fail
 go_cut [6,7,8,9] (fun s6 s7 s8 s9 wx=>∃ (x:Nat) (Ax:Option Addr) (nx cx:Nat),s6=.slice Ax nx cx∧U32s wx Ax nx cx (digs x)∧r≤x∧blen x≤qn+7∧0<x∧U32s wx A m c (digs a)∧Below w.heap.size w wx)
 case first=>
  by_cases h2:h<2
  ·have hi:(h:Int)<2:=by omega
   have hs:r≤32:=root_small HR.out (by
    have e:=HLL.out;have e3:=HH.out
    have e4:l / n<4:=by rw [HQN.out];omega
    rw [Nat.div_lt_iff_lt_mul (by omega)] at e4
    exact Nat.lt_of_lt_of_le (blen_le_iff.1 (Nat.le_refl _)) (Nat.pow_le_pow_right (by omega) (by rw [e];omega)))
   have HSM:=Hd hs;have HB3:=Hd (show blen 32≤qn+7 from by have:blen 32≤6:=blen_le_iff.2 (by omega);omega);clear hs h2 HIH;go_wp2_with fail
   go_meet
   case rel=>exact⟨32,_,1,1,rfl,by rw [digs_32];exact U32s.lit1 w 117 (a:=32) (by omega),HSM.out,HB3.out,by omega,HX.out.alloc _,below_alloc w _⟩
  ·have hi:¬ (h:Int)<2:=by omega
   have hhn:h*n≤l:=by
    have e:=HH.out;have e3:=HQN.out
    have e4:h≤l / n:=by omega
    exact (Nat.le_div_iff_mul_le (by omega)).1 e4
   have hhn2:2*1≤h*n:=Nat.mul_le_mul (by omega) hn
   obtain⟨k,hk⟩:∃ k,h*n=k:=⟨_,rfl⟩
   rw [hk] at hhn hhn2
   have ek:(h:Int)*(n:Int)=(k:Int):=by rw [← hk];rfl
   obtain⟨r',hr'⟩:=exists_root n (by omega) (a / 2 ^ k);have hst:=whole_start (h:=h) (by omega) HR.out (by rw [hk];exact hr');rw [hk,HLL.out] at hst
   have hb:blen (a / 2 ^ k)≤l - k:=by
    refine blen_le_iff.2 ?_;rw [Nat.div_lt_iff_lt_mul (Nat.two_pow_pos _),← Nat.pow_add]
    exact Nat.lt_of_lt_of_le (blen_le_iff.1 (Nat.le_refl _)) (Nat.pow_le_pow_right (by omega) (by rw [HLL.out];omega))
   have hq2:(l - k) / n+h≤qn:=by
    have e3:=HQN.out;rw [← hk,← e3,Nat.mul_comm h n,Nat.sub_mul_div]
    have:h≤l / n:=by rw [e3];have:=HH.out;omega
    omega
   have HSH:=Hd (shr_d k HX.out (by rw [HLL.out];omega) (by omega));have HS1:=Hd hst.1;have hb2:=blen_mul (r'+1) (2 ^ h);have hb3:blen (2 ^ h)≤h+1:=blen_le_iff.2 (Nat.pow_lt_pow_right (by omega) (by omega));have HBX:=Hd (show blen ((r'+1)*2 ^ h)≤qn+7 from by have:=hst.2;omega);have HB1:=Hd (show blen (r'+1)+h≤500000∧blen r'≤500000 from⟨by have:=hst.2;omega,by have:=hst.2;have:=blen_mono (show r'≤r'+1 by omega);omega⟩);have HRR:=Hd hr';have HLB:=Hd (show blen (a / 2 ^ k)<L by omega)
   have HB0:=Hd (show 0<a / 2 ^ k from by
    have h5:2*k≤l:=by
     have e3:=HQN.out;have e4:=HH.out
     have e5:2*h≤l / n:=by omega
     have e6:=(Nat.le_div_iff_mul_le (by omega)).1 e5;rw [← hk,← Nat.mul_assoc];exact e6
    refine Nat.div_pos ?_ (Nat.two_pow_pos _)
    rcases Nat.lt_or_ge a (2 ^ k) with c | c
    ·have:=blen_le_iff.2 c;rw [HLL.out] at this;omega
    ·exact c)
   have ek2:wrap64 (k:Int)=(k:Int):=by unfold wrap64;omega
   clear hk hhn hhn2 hr' hst hb hq2 hb2 hb3 h2;go_wp2_with fail;refine HSH.out.mono ?_;rintro e w1 ⟨A1,n1,c1,rfl,hu1,hb1⟩;have HI:=Hd (HIH.out _ r' A1 n1 c1 w1 HLB.out HB0.out hu1 HRR.out);have HX1:=Hd (HX.out.below hb1);have HBW1:=Hd hb1;clear hu1 hb1 HSH HIH HLB HB0 HRR ek ek2 HX;go_wp2_with fail;refine HI.out.mono ?_;rintro e w2 ⟨A2,n2,c2,rfl,hu2,hb2⟩;have HU2:=Hd hu2;have HX2:=Hd (HX1.out.below hb2);have HBW2:=Hd (HBW1.out.trans (hb2.mono HBW1.out.size));clear hu2 hb2 HI HX1 HBW1
   have hl1:U32s (w2.alloc (.cells #[.int .u32 1] 117)) (some ⟨w2.heap.size,0,none⟩) 1 1 (digs 1):=by rw [digs_one];exact U32s.lit1 w2 117 (a:=1) (by omega)
   have HAD:=Hd (add_d (HU2.out.alloc (.cells #[.int .u32 1] 117)) hl1 HB1.out.2 (by have:blen 1≤1:=blen_le_iff.2 (by omega);omega));have HX3:=Hd (HX2.out.alloc (.cells #[.int .u32 1] 117));have HBW3:=Hd (HBW2.out.alloc HBW2.out.size (.cells #[.int .u32 1] 117));clear hl1 HX2 HBW2 HU2;go_wp2_with fail;refine HAD.out.mono ?_;rintro e w4 ⟨A4,n4,c4,rfl,hu4,hb4⟩;have HSL:=Hd (shl_d h hu4 HB1.out.1);have HX4:=Hd (HX3.out.below hb4);have HBW4:=Hd (HBW3.out.trans (hb4.mono HBW3.out.size));clear hu4 hb4 HAD HX3 HBW3;go_wp2_with fail;refine HSL.out.mono ?_;rintro e w5 ⟨A5,n5,c5,rfl,hu5,hb5⟩;have HU5:=Hd hu5;have HX5:=Hd (HX4.out.below hb5);have HBW5:=Hd (HBW4.out.trans (hb5.mono HBW4.out.size));clear hu5 hb5 HSL HX4 HBW4;go_wp2_with fail
   go_meet
   case rel=>exact⟨_,A5,n5,c5,rfl,HU5.out,HS1.out,HBX.out,Nat.mul_pos (by omega) (Nat.two_pow_pos _),HX5.out,HBW5.out⟩
 case rest=>
  obtain⟨x0,Ax0,nx0,cx0,rfl,hu,hr1,hb1,hp1,hxa,hbw⟩:=hcut;rename World=>wx;have HU:=Hd hu;have HXA:=Hd hxa;have HBW:=Hd hbw
  obtain⟨n1,hn1⟩:∃ k,n=k+1:=⟨n - 1,by omega⟩
  have en:(n:Int) - 1=(n1:Int):=by omega
  have HQB:=Hd (show (qn+7)*n1≤160000 from by
   have e:=HQN.out
   have e2:qn*n≤l:=by rw [← e];exact Nat.div_mul_le_self _ _
   rw [hn1,Nat.mul_add,Nat.mul_one] at e2
   rw [Nat.add_mul];omega)
  have HN1:=Hd hn1
  have hn1s:n1≤1023:=by omega
  clear hu hxa hbw HX HIH HH hn1;go_wp2
  go_loopw [6] (fun xv wr=>∃ (x:Nat) (Ax:Option Addr) (nx cx:Nat),xv=.slice Ax nx cx∧U32s wr Ax nx cx (digs x)∧r≤x∧blen x≤qn+7∧0<x∧U32s wr A m c (digs a)∧Below w.heap.size w wr) (fun xv wr=>xval wr xv)
  case atStart=>exact⟨x0,Ax0,nx0,cx0,rfl,HU.out,hr1,hb1,hp1,HXA.out,HBW.out⟩
  case round=>
   obtain⟨x,Ax,nx,cx,rfl,hu,hrx,hbx,hpx,hxa,hbw⟩:=hrel;have hmul:blen x*n1≤160000:=Nat.le_trans (Nat.mul_le_mul_right _ hbx) HQB.out;have hst:=newton_step (a:=a) (m:=n1) (r:=r) (x:=x) (by have:=HR.out;rwa [HN1.out] at this) hpx hrx;have hpp:=blen_pow x n1
   obtain⟨P,hP⟩:∃ P,x ^ n1=P:=⟨_,rfl⟩
   have hP0:0<P:=by rw [← hP];exact Nat.pow_pos hpx
   have HPW:=Hd (pow_d n1 hu (by omega) (by omega) (by omega));rw [hP] at hst HPW hpp;have hy1:=blen_mul x n1;have hn1b:blen n1≤11:=blen_le_iff.2 (by omega)
   have hqa:blen (a / P)≤l:=by rw [← HLL.out];exact blen_mono (Nat.div_le_self _ _)
   obtain⟨Qt,hQt⟩:∃ q,a / P=q:=⟨_,rfl⟩
   rw [hQt] at hst hqa;have hya:=blen_add (x*n1) Qt 200000 (by omega) (by omega)
   obtain⟨Y,hY⟩:∃ y,(x*n1+Qt) / (n1+1)=y:=⟨_,rfl⟩
   rw [hY] at hst;have HXR:=Hd hu;have HAR:=Hd hxa;have HBR:=Hd hbw;have HST:=Hd hst;have HXV:=Hd (xval_eq hu);have HFX:=Hd (And.intro hbx (And.intro hpx hrx));have HPF:=Hd (And.intro hP0 hpp);have HQT:=Hd hQt;have HYY:=Hd hY;have HYB:=Hd (And.intro hy1 (And.intro hqa hya));have hml:=hmul;clear hu hxa hbw hst hrx hpx hP0 hpp hP hy1 hqa hya hQt hY HU HXA HBW hr1 hb1 hp1;go_wp2_with fail;refine HPW.out.mono ?_;rintro e w1 ⟨A1,m1,c1,rfl,hu1,hb1⟩;have HA1:=Hd (HAR.out.below hb1);have HX1:=Hd (HXR.out.below hb1);have HB1:=Hd (HBR.out.trans (hb1.mono HBR.out.size));have HP1:=Hd hu1;have HQ1:=Hd (quo_d HA1.out hu1 (by rw [HLL.out];omega) (by have:=HPF.out.2;omega) HPF.out.1);rw [HQT.out] at HQ1;clear hu1 hb1 HPW HAR HXR HBR;go_wp2_with fail;refine HQ1.out.mono ?_;rintro e w2 ⟨A2,m2,c2,B2,p2,d2,rfl,hu2,-,hb2⟩;have HA2:=Hd (HA1.out.below hb2);have HX2:=Hd (HX1.out.below hb2);have HB2:=Hd (HB1.out.trans (hb2.mono HB1.out.size));have HQ2:=Hd hu2;have HS2:=Hd (nsmall_any n1 w2 (by omega));clear hu2 hb2 HQ1 HA1 HX1 HB1 HP1;go_wp2_with fail;refine HS2.out.mono ?_;rintro e w3 ⟨A3,m3,c3,rfl,hu3,hb3⟩;have HA3:=Hd (HA2.out.below hb3);have HX3:=Hd (HX2.out.below hb3);have HQ3:=Hd (HQ2.out.below hb3);have HB3:=Hd (HB2.out.trans (hb3.mono HB2.out.size));have HM3:=Hd (mul_d HX3.out hu3 (by have:=HFX.out.1;omega) (by omega));clear hu3 hb3 HS2 HA2 HX2 HB2 HQ2;go_wp2_with fail;refine HM3.out.mono ?_
   rintro e w4 ⟨A4,m4,c4,rfl,hu4,hb4⟩;have HA4:=Hd (HA3.out.below hb4);have HX4:=Hd (HX3.out.below hb4);have HB4:=Hd (HB3.out.trans (hb4.mono HB3.out.size));have HD4:=Hd (add_d hu4 (HQ3.out.below hb4) (by have:=HYB.out.1;omega) (by have:=HYB.out.2.1;omega));clear hu4 hb4 HM3 HA3 HX3 HB3 HQ3;go_wp2_with fail;refine HD4.out.mono ?_;rintro e w5 ⟨A5,m5,c5,rfl,hu5,hb5⟩;have HA5:=Hd (HA4.out.below hb5);have HX5:=Hd (HX4.out.below hb5);have HY5:=Hd hu5;have HB5:=Hd (HB4.out.trans (hb5.mono HB4.out.size));have HS5:=Hd (show Calls Tryz.prog 169 #[.int .u64 (n:Int)] w5 (NewU32 w5 (digs (n1+1))) from by have h:=nsmall_any n w5 (by omega);rwa [HN1.out] at h ⊢);clear hu5 hb5 HD4 HA4 HX4 HB4;go_wp2_with fail;refine HS5.out.mono ?_;rintro e w6 ⟨A6,m6,c6,rfl,hu6,hb6⟩;have HA6:=Hd (HA5.out.below hb6);have HX6:=Hd (HX5.out.below hb6);have HB6:=Hd (HB5.out.trans (hb6.mono HB5.out.size));have HQ6:=Hd (quo_d (HY5.out.below hb6) hu6 (by have:=HYB.out.2.2;omega) (by have:blen (n1+1)≤11:=blen_le_iff.2 (by omega);omega) (by omega));rw [HYY.out] at HQ6;clear hu6 hb6 HS5 HA5 HX5 HB5 HY5;go_wp2_with fail;refine HQ6.out.mono ?_;rintro e w7 ⟨A7,m7,c7,B7,p7,d7,rfl,hu7,-,hb7⟩;have HX7:=Hd (HX6.out.below hb7);have hc7:=cmp_d hu7 HX7.out;have HA7:=Hd (HA6.out.below hb7);have HY7:=Hd hu7;have HB7:=Hd (HB6.out.trans (hb7.mono HB6.out.size))
   obtain⟨cc,hcc⟩:∃ z,cmp3 Y x=z:=⟨_,rfl⟩
   rw [hcc] at hc7;have HC7:=Hd hc7;have HCC:=Hd hcc;clear hu7 hb7 HQ6 HA6 HX6 HB6 hc7 hcc;go_wp2_with fail;refine HC7.out.mono ?_;rintro e w8 ⟨rfl,k8,hk8⟩
   have hb8:Below w7.heap.size w7 w8:=by rw [hk8];exact below_drewN (Below.refl _ _) k8
   have HX8:=Hd (HX7.out.below hb8);have HA8:=Hd (HA7.out.below hb8);have HY8:=Hd (HY7.out.below hb8);have HB8:=Hd (HB7.out.trans (hb8.mono HB7.out.size));clear hb8 hk8 HC7 HX7 HA7 HY7 HB7
   by_cases hneg:cc<0
   ·have hlt:Y<x:=cmp3_neg.1 (by rw [HCC.out];exact hneg);have HLT:=Hd hlt;have HV8:=Hd (xval_eq HY8.out);clear hlt HCC;go_wp2
    go_roundw
    case rel=>exact⟨Y,A7,m7,c7,rfl,HY8.out,HST.out.1,Nat.le_trans (blen_mono (Nat.le_of_lt HLT.out)) HFX.out.1,Nat.lt_of_lt_of_le (HR.out.pos HA0.out) HST.out.1,HA8.out,HB8.out⟩
    case measure=>show xval w8 (.slice A7 m7 c7)<xval wr (.slice Ax nx cx);rw [HV8.out,HXV.out];exact HLT.out
   ·have hge:x≤Y:=cmp3_nonneg.1 (by rw [HCC.out];omega);have HRX:=Hd (HST.out.2 hge);have hng:¬ cc<0:=hneg;clear hge HCC HST;go_wp2
    go_ret
    exact⟨Ax,nx,cx,rfl,by rw [HRX.out];exact HX8.out,HB8.out⟩
end
end Go.Proofs.YthlmlmfebpjgdaaGreatDoor
