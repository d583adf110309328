/-
Lemmas for the statement: Sq2T SrT PowT PwnT PlcT RchT InvT DivP StepP.
-/
import Derived.Test.YthlmlmfebpjgdaaGreatDoorM14
import Derived.Test.YthlmlmfebpjgdaaGreatDoorM08
import Derived.Test.YthlmlmfebpjgdaaGreatDoorM12
import Derived.Deep.DeepCutAuto
import Derived.Test.YthlmlmfebpjgdaaGreatDoorM02
import Derived.Test.YthlmlmfebpjgdaaGreatDoorM04
import Derived.Test.YthlmlmfebpjgdaaGreatDoorM01
import Derived.Test.YthlmlmfebpjgdaaGreatDoorM05
import Derived.Test.YthlmlmfebpjgdaaGreatDoorM07
import Derived.Test.YthlmlmfebpjgdaaGreatDoorM10
import Derived.Test.YthlmlmfebpjgdaaGreatDoorM03
set_option linter.unusedSimpArgs false
set_option linter.unusedVariables false
set_option maxHeartbeats 12800000
namespace Go.Proofs.YthlmlmfebpjgdaaGreatDoor
section
open Go.RowKit
theorem rti_rng{d a:Int}{n:Nat}(hd:d=-1\/d=1)(h:-(M:Int)<=a/\a<=M)(hn:1<=n)(hn2:n<=1024):-(M:Int)<=rti d a n/\rti d a n<=M:=by
 have hM:=M_val
 by_cases h0:a<0
 ·have r:=rti_lo (d:=-d) (a:=-a) (n:=n) (by omega) (by omega) (by omega) hn hn2;unfold rti at *;rw [if_neg (by omega)] at r;rw [if_pos h0];omega
 ·have r:=rti_lo (d:=d) (a:=a) (n:=n) hd (by omega) h.2 hn hn2
  omega
theorem revroot_any(i:Int)(n:Nat)(w:World)(hi:-(M:Int)<=i/\i<=M)(hn:1<=n)(hn2:n<=1024)(hp:n % 2=1\/0<=i):
  Rt 105 #[.float .f64 (pat i),.int .i64 (n:Int)] (Zf (pat (rti (-1) i n)) (pat (rti 1 i n))) w:=
 revroot_walk _ n _ _ w (fun W=>rroot_any (-1) i n W (.inl rfl) hi hn hn2 hp) (fun W=>rroot_any 1 i n W (.inr rfl) hi hn hn2 hp)
def tw(i j pd pu qd qu:Int):Int × Int:=(min (ctO false i j pd pu qd qu).1 (ctO false i j (-qu) (-qd) (-pu) (-pd)).1,max (ctO false i j pd pu qd qu).2 (ctO false i j (-qu) (-qd) (-pu) (-pd)).2)
theorem ctO_iv2{i j pd pu qd qu:Int}(h:Iv i j)(h0:¬ j<i)(h1:-(M:Int)<=pd/\pd<M)(h2:-(M:Int)<qu/\qu<=M)(a:pd<=pu)(b:qd<=qu)(c:pd<=qu):Iv (ctO false i j pd pu qd qu).1 (ctO false i j pd pu qd qu).2:=by
 have hM:=M_val;unfold ctO
 by_cases k:qd<i\/j<pu
 ·rw [if_pos k];exact Iv.none
 ·rw [if_neg k,if_neg (by rintro⟨h,-⟩;cases h)];have n:=ne_or h h0;unfold Ne at n
  exact .inl ⟨by dsimp only;omega,by dsimp only;omega,by dsimp only;omega,by dsimp only;omega,by dsimp only;omega⟩
theorem twice_any(i j pd pu qd qu:Int)(w:World)(h:Iv i j)(h0:¬ j<i)(h1:-(M:Int)<=pd/\pd<M)(h2:-(M:Int)<qu/\qu<=M)(h3:-(M:Int)<=pu/\pu<=M)(h4:-(M:Int)<=qd/\qd<=M)(a:pd<=pu)(b:qd<=qu)(c:pd<=qu):
  Rt 104 #[Zf (pat i) (pat j),Zf (pat pd) (pat pu),Zf (pat qd) (pat qu),.bool false] (Zf (pat (tw i j pd pu qd qu).1) (pat (tw i j pd pu qd qu).2)) w:=
 twice_walk _ _ _ _ _ _ _ _ _ _ _ _ _ _ _ _ false w (fun W=>rcut2_any false i j pd pu qd qu W h.lo h.hi (by omega) h3 h4 (by omega)) (fun W=>turned_idx qd qu W h4 (by omega)) (fun W=>turned_idx pd pu W (by omega) h3) (fun W=>rcut2_any false i j (-qu) (-qd) (-pu) (-pd) W h.lo h.hi (by omega) (by omega) (by omega) (by omega))
  (fun W=>hullf _ _ _ _ W (ctO_iv2 h h0 h1 h2 a b c) (ctO_iv2 h h0 (by omega) (by omega) (by omega) (by omega) (by omega)))
noncomputable def pwr(n:Nat)(i2 j2 i j:Int):Int × Int:=
 if j2<i2\/j<i\/(n % 2=0/\j2<0) then ((M:Int),-(M:Int))
 else if n % 2=0 then tw i j (rti (-1) (max i2 0) n) (rti 1 (max i2 0) n) (rti (-1) j2 n) (rti 1 j2 n)
 else ctO false i j (rti (-1) i2 n) (rti 1 i2 n) (rti (-1) j2 n) (rti 1 j2 n)
theorem pown_any(n c1 c2 x y:Nat)(w:World)(hn:1<=n)(hn2:n<=1024)(hc1:c1<18446744073709551616)(hc2:c2<18446744073709551616)(hx:x<18446744073709551616)(hy:y<18446744073709551616):
  Rt 39 #[.int .i64 (n:Int),Zf c1 c2,Zf x y] (Zf (pat (pwr n (rd c1 c2).1 (rd c1 c2).2 (rd x y).1 (rd x y).2).1) (pat (pwr n (rd c1 c2).1 (rd c1 c2).2 (rd x y).1 (rd x y).2).2)) w:=by
 have hM:=M_val;have v2:=rd_iv c1 c2;have v3:=rd_iv x y;have t2:=fun W=>readf c1 c2 W hc1 hc2;have t3:=fun W=>readf x y W hx hy
 obtain⟨⟨i2,j2⟩,r2⟩:∃ z,rd c1 c2=z:=⟨_,rfl⟩
 obtain⟨⟨i3,j3⟩,r3⟩:∃ z,rd x y=z:=⟨_,rfl⟩
 rw [r2] at v2 t2;rw [r3] at v3 t3;rw [r2,r3]
 dsimp only at *
 have m2:=em_idx v2;have m3:=em_idx v3;unfold pwr
 by_cases hno:j2<i2\/j3<i3
 ·rw [if_pos (by omega),pat_max,pat_min]
  exact pown_none n _ _ _ _ _ _ _ _ _ _ w t2 m2 t3 m3 hn hn2 (by simp;omega)
 have hnn:(decide (j2<i2) || decide (j3<i3))=false:=by simp;omega
 have k2:=ne_or v2 (by omega);unfold Ne at k2
 rcases Nat.mod_two_eq_zero_or_one n with hp | hp
 ·by_cases h0:j2<0
  ·rw [if_pos (by omega),pat_max,pat_min]
   exact pown_neg n _ _ _ _ _ _ _ _ _ _ w t2 m2 t3 m3 hn hn2 hp hnn (ord0_lt v2.hi h0)
  ·rw [if_neg (by omega),if_pos hp];have hmx:=fun W ts t=>run_maxf v2.lo (show -(M:Int)<=0/\(0:Int)<=M by omega) W ts t;rw [pat_zero] at hmx;have a1:=rti_lo (d:=-1) (a:=max i2 0) (n:=n) (.inl rfl) (by omega) (by omega) hn hn2;have a2:=rti_lo (d:=1) (a:=max i2 0) (n:=n) (.inr rfl) (by omega) (by omega) hn hn2;have b1:=rti_lo (d:=-1) (a:=j2) (n:=n) (.inl rfl) (by omega) (by omega) hn hn2;have b2:=rti_lo (d:=1) (a:=j2) (n:=n) (.inr rfl) (by omega) (by omega) hn hn2;have c1':=rti_mono (a:=max i2 0) (b:=max i2 0) (n:=n) (by omega) (by omega) (by omega) (by omega) hn hn2;have c3':=rti_mono (a:=max i2 0) (b:=j2) (n:=n) (by omega) (by omega) (by omega) (by omega) hn hn2
   have c2':rti (-1) j2 n<=rti 1 j2 n:=by
    by_cases hj:j2=M
    ·have e:rti 1 j2 n=M:=by unfold rti rt1;rw [if_neg (by omega),if_pos (.inr hj)];exact hj
     omega
    ·exact rti_mono (by omega) (Int.le_refl _) (by omega) (by omega) hn hn2
   have a3:=a1.2.2 rfl (by omega)
   exact pown_even n _ _ _ _ _ _ _ _ _ _ _ _ _ _ _ (compare j2 0) _ _ w t2 m2 t3 m3 hn hn2 hp hnn (ord0 v2.hi) (by
    by_cases h:j2=0
    ·exact .inl (Int.compare_eq_eq.2 h)
    ·exact .inr (Int.compare_eq_gt.2 (by omega))) hmx (fun W=>revroot_any (max i2 0) n W (by omega) hn hn2 (.inr (by omega))) (fun W=>revroot_any j2 n W v2.hi hn hn2 (.inr (by omega)))
    (fun W=>twice_any i3 j3 _ _ _ _ W v3 (by omega) (by omega) (by omega) (by omega) (by omega) c1' c2' c3')
 ·rw [if_neg (by omega),if_neg (by omega)]
  exact pown_odd n _ _ _ _ _ _ _ _ _ _ _ _ _ _ _ _ w t2 m2 t3 m3 hn hn2 hp hnn (fun W=>revroot_any i2 n W v2.lo hn hn2 (.inl hp)) (fun W=>revroot_any j2 n W v2.hi hn hn2 (.inl hp))
   (fun W=>rcut2_any false i3 j3 _ _ _ _ W v3.lo v3.hi (rti_rng (.inl rfl) v2.lo hn hn2) (rti_rng (.inr rfl) v2.lo hn hn2) (rti_rng (.inl rfl) v2.hi hn hn2) (rti_rng (.inr rfl) v2.hi hn hn2))
theorem sqrrev_any(c1 c2 x y:Nat)(w:World)(hc1:c1<18446744073709551616)(hc2:c2<18446744073709551616)(hx:x<18446744073709551616)(hy:y<18446744073709551616):
  Rt 14 #[Zf c1 c2,Zf x y] (Zf (pat (pwr 2 (rd c1 c2).1 (rd c1 c2).2 (rd x y).1 (rd x y).2).1) (pat (pwr 2 (rd c1 c2).1 (rd c1 c2).2 (rd x y).1 (rd x y).2).2)) w:=
 sqr_walk _ _ _ _ _ _ w (fun W=>pown_any 2 c1 c2 x y W (by omega) (by omega) hc1 hc2 hx hy)
end
section
open Go.RowKit
attribute [local go_sem] run_store_float run_negf
end
section
open Go.RowKit
theorem zpow_neg'(x:Int):(2:Rat) ^ (-x)=1 / (2:Rat) ^ x:=by
 have h:(2:Rat) ^ x*2 ^ (-x)=1:=by rw [<- zpow_add,show x+-x=0 from by omega];rfl
 have hp:=zpow_pos x;have h2:(1 / (2:Rat) ^ x)*2 ^ x=1:=Rat.div_mul_cancel (by grind)
 have h3:((2:Rat) ^ (-x) - 1 / (2:Rat) ^ x)*2 ^ x=0:=by grind
 rcases Rat.mul_eq_zero.1 h3 with k | k
 ·grind
 ·grind
theorem recip_pow{S s z m:Nat}{e:Int}(hs:S=s*2 ^ z)(hs0:0<s):rv false 1 (s ^ m)*2 ^ (-(e+(z:Int))*(m:Int))=1 / ((S:Rat)*2 ^ e) ^ m:=by
 have e1:(S:Rat)*2 ^ e=(s:Rat)*2 ^ (e+(z:Int)):=by
  rw [hs,Rat.natCast_mul,Int.add_comm,zpow_add,zpow_nat];grind
 have e2:rv false 1 (s ^ m)=1 / (s:Rat) ^ m:=by
  unfold rv
  simp only [Bool.false_eq_true,if_false]
  rw [Rat.natCast_pow];rfl
 rw [e1,rmul_pow,zpow_pow,e2,Int.neg_mul,zpow_neg',Int.mul_comm (e+(z:Int))]
 have a:((s:Rat) ^ m)≠0:=by
  have:(0:Rat)<(s:Rat) ^ m:=Rat.pow_pos (by exact_mod_cast hs0)
  grind
 have b:(2:Rat) ^ ((m:Int)*(e+(z:Int)))≠0:=by have:=zpow_pos ((m:Int)*(e+(z:Int)));grind
 generalize (s:Rat) ^ m=x at *;generalize (2:Rat) ^ ((m:Int)*(e+(z:Int)))=y at *
 grind
set_option maxRecDepth 8000 in
theorem rpower_walk(d:Int)(S m r:Nat)(e:Int)(A:Option Addr)(k c:Nat)(w:World)(hd:d=-1\/d=1)(hu:U32s w A k c (digs S))(hS:0<S)(hS2:S<9007199254740992)(he:-1074<=e/\e<=971)(hm:1<=m)(hm2:m<=1024)(hT:Tab w)
  (hr:pat (rndI d (1 / ((S:Rat)*2 ^ e) ^ m))=r):
  Rt 269 #[.int .i64 d,.agg #[.bool false,.slice A k c,.int .i64 e],.int .i64 (-(m:Int))] (.float .f64 r) w:=by
 have HU:=Hd hu;have HTB:=Hd hT;have HZ:=Hd fun W (h:U32s W A k c (digs S)) (t:Tab W)=>nzeros_any A k c S W h hS (by omega) t
 have HSR:=Hd fun z W (h:U32s W A k c (digs S)) (hz:z<=1073741824)=>by
  have g:=nshr_any A k c z _ W h (wlen_digs_le (K:=16384) (by have:blen S<=53:=blen_le_iff.2 (show S<2^53 from hS2);omega)) hz;rw [num_digs] at g
  exact g
 have HRA:=Hd fun z s (hs:S=s*2 ^ z) (hz:z<64) W A1 k1 c1 A2 k2 c2 (h1:U32s W A1 k1 c1 (digs 1)) (h2:U32s W A2 k2 c2 (digs (s ^ m)))=>by
  have hs0:0<s:=by
   rcases Nat.eq_zero_or_pos s with h | h
   ·rw [h,Nat.zero_mul] at hs;omega
   ·exact h
  have hsl:s<=S:=by rw [hs];exact Nat.le_mul_of_pos_right _ (Nat.two_pow_pos z)
  have hb:blen (s ^ m)<=54272:=by
   obtain⟨B,hB⟩:∃ B:Nat,B=54272:=⟨_,rfl⟩
   rw [<- hB];refine blen_le_iff.2 ?_
   have h53:s<2^53:=by rw [show (2:Nat)^53=9007199254740992 by decide];omega
   refine Nat.lt_of_lt_of_le (Nat.pow_lt_pow_left h53 (by omega)) ?_;rw [<- Nat.pow_mul]
   exact Nat.pow_le_pow_right (by omega) (by omega)
  have hq:-1099511627776<=-(e+(z:Int))*(m:Int)/\-(e+(z:Int))*(m:Int)<=1099511627776:=by
   have a:-2000*(m:Int)<=-(e+(z:Int))*(m:Int):=Int.mul_le_mul_of_nonneg_right (by omega) (by omega);have b:-(e+(z:Int))*(m:Int)<=2000*(m:Int):=Int.mul_le_mul_of_nonneg_right (by omega) (by omega)
   omega
  have g:=ratio_any d false A1 A2 k1 c1 k2 c2 1 (s ^ m) (-(e+(z:Int))*(m:Int)) W h1 h2 (Nat.pow_pos hs0) (by have:blen 1<=2:=blen_le_iff.2 (by decide);omega) (by omega) hd hq.1 hq.2;unfold RtOf at g;rw [recip_pow hs hs0,hr] at g
  exact g
 have HP:=Hd fun z s (hs:S=s*2 ^ z) W A1 k1 c1 (h1:U32s W A1 k1 c1 (digs s))=>by
  have hsl:s<=S:=by rw [hs];exact Nat.le_mul_of_pos_right _ (Nat.two_pow_pos z)
  have hb:blen s<=53:=blen_le_iff.2 (by rw [show (2:Nat)^53=9007199254740992 by decide];omega)
  exact pow_d (w:=W) m h1 (by omega) (by omega) (by
   have:=Nat.mul_le_mul hb hm2
   omega)
 have hmn:-(m:Int)<0:=by omega
 clear hu hT hr hd hS hS2;have LL:=li1 w #[.bool false,.slice A k c,.int .i64 e] 168;have HU0:=Hd (HU.out.below LL.out.b);have HT0:=Hd (HTB.out.below LL.out.b);clear HU HTB
 go_enter Tryz.func269,Tryz.ntmps269
 obtain⟨q1_0,q1_1,q1_2⟩:=(LL.out.blk 0 rfl).c3;go_wp2_with fail;refine (HZ.out _ HU0.out HT0.out).mono ?_;rintro e1 w1 ⟨⟨z,rfl,hz,hdv⟩,rfl⟩
 obtain⟨s,hs⟩:∃ s,S=s*2 ^ z:=by obtain⟨q,hq⟩:=hdv;exact⟨q,by rw [hq,Nat.mul_comm]⟩
 have hsd:S / 2 ^ z=s:=by rw [hs,Nat.mul_div_cancel _ (Nat.two_pow_pos z)]
 have HSS:=Hd hs;have HSD:=Hd hsd;clear HZ hdv hs hsd q1_0 q1_1 q1_2
 obtain⟨wa,hwa⟩:∃ X,(w.alloc (.cells #[.bool false,.slice A k c,.int .i64 e] 168))=X:=⟨_,rfl⟩
 rw [hwa] at HU0 HT0 LL ⊢;clear hwa;obtain⟨q2_0,q2_1,q2_2⟩:=(LL.out.blk 0 rfl).c3;have HS1:=Hd (HSR.out z _ HU0.out (by omega));rw [HSD.out] at HS1;go_wp2_with fail;refine HS1.out.mono ?_;rintro e1 w2 ⟨A2,n2,c2,rfl,hu2,hb2⟩;have HU2:=Hd hu2;replace LL:=stL LL hb2;replace HT0:=Hd (HT0.out.below hb2);clear hu2 hb2 HS1 HSR HU0 HSD q2_0 q2_1 q2_2;obtain⟨q3_0,q3_1,q3_2⟩:=(LL.out.blk 0 rfl).c3
 have f1:IntKind.i64.wrap (e+(z:Int))=e+(z:Int):=by rw [IntKind.wrap_i64];omega
 have HP2:=Hd (HP.out z s HSS.out _ A2 n2 c2 HU2.out);go_wp2_with fail;refine HP2.out.mono ?_;rintro e1 w3 ⟨A3,n3,c3,rfl,hu3,hb3⟩;have HU3:=Hd hu3;replace LL:=stL LL hb3;clear hu3 hb3 HP2 HP HU2 HT0 q3_0 q3_1 q3_2;obtain⟨q4_0,q4_1,q4_2⟩:=(LL.out.blk 0 rfl).c3;have HR:=Hd (HRA.out z s HSS.out hz);clear HRA HSS
 obtain⟨E,hE⟩:∃ E,e+(z:Int)=E:=⟨_,rfl⟩
 have hEb:-1074<=E/\E<=1034:=by omega
 obtain⟨Q,hQ⟩:∃ Q,-E*(m:Int)=Q:=⟨_,rfl⟩
 have hQ2:IntKind.i64.wrap (-E*(m:Int))=Q:=by
  have a:-2000*(m:Int)<=-E*(m:Int):=Int.mul_le_mul_of_nonneg_right (by omega) (by omega);have b:-E*(m:Int)<=2000*(m:Int):=Int.mul_le_mul_of_nonneg_right (by omega) (by omega);rw [IntKind.wrap_i64,<- hQ];omega
 have hQ3:wrap64 (-E*(m:Int))=Q:=by
  have a:-2000*(m:Int)<=-E*(m:Int):=Int.mul_le_mul_of_nonneg_right (by omega) (by omega);have b:-E*(m:Int)<=2000*(m:Int):=Int.mul_le_mul_of_nonneg_right (by omega) (by omega);unfold wrap64;omega
 rw [hE] at HR f1 ⊢;rw [hQ] at HR;have hQ4:=hQ;clear hE
 have hQ5:wrap64 Q=Q:=by
  have a:-2000*(m:Int)<=-E*(m:Int):=Int.mul_le_mul_of_nonneg_right (by omega) (by omega);have b:-E*(m:Int)<=2000*(m:Int):=Int.mul_le_mul_of_nonneg_right (by omega) (by omega);unfold wrap64;omega
 have HD1:=Hd (show U32s (w3.alloc (.cells #[.int .u32 1] 117)) (some ⟨w3.heap.size,0,none⟩) 1 1 (digs 1) from by rw [digs_one];exact U32s.lit1 w3 117 (a:=1) (by omega));have HQ:=Hd (HR.out (w3.alloc (.cells #[.int .u32 1] 117)) _ 1 1 A3 n3 c3 HD1.out (HU3.out.alloc _));clear HR HD1;go_wp2_with fail;rw [hQ5];refine HQ.out.mono ?_;rintro e1 w4 ⟨rfl,hb4⟩;have LB:=Hd (LL.out.b.trans ((below_alloc w3 (.cells #[.int .u32 1] 117)).trans (hb4.mono (by simp)) |>.mono LL.out.b.size));clear hb4 HQ LL HU3 hQ hQ2 hQ3 hQ4 hQ5 f1;go_wp2
 go_ret
 exact⟨rfl,LB.out⟩
theorem isinfm(b:Nat)(w:World)(hb:b<18446744073709551616)(hr:rungOf b<=M)(hn:-(M:Int)<idx b):Calls Tryz.prog 161 #[.float .f64 b,.int .i64 (-1)] w fun e w'=>e=.returned (.bool false)/\w=w':=by
 have hM:M=9218868437227405312:=rfl;have nv:=negFloat_val hb
 have nr:rungOf (Op.negFloat .f64 b)<=M:=by rw [nv.2.1];exact hr
 have ho:FloatKind.f64.format.order (Op.negFloat .f64 b) 9218868437227405311=some .lt\/FloatKind.f64.format.order (Op.negFloat .f64 b) 9218868437227405311=some .eq:=by
  by_cases h2:idx b=-(M - 1:Nat)
  ·exact .inr (ord_eq nr real_top (by rw [idx_top,nv.2.2];omega))
  ·exact .inl (ord_lt nr real_top (by rw [idx_top,nv.2.2];omega))
 obtain⟨nb,hnb⟩:∃ x,Op.negFloat .f64 b=x:=⟨_,rfl⟩
 have hneg:=fun W=>run_negf Tryz.prog b W;rw [hnb] at ho hneg;clear nv nr hr hn hM hnb hb
 rcases ho with ho | ho
 all_goals
  go_enter Tryz.func161,Tryz.ntmps161
  go_wp2
  go_ret
  exact⟨rfl,rfl⟩
theorem rpow_walk(d:Int)(x m z S:Nat)(e:Int)(w:World)(hm:1<=m)(hm2:m<=1024)(hN:∀ W,Calls Tryz.prog 221 #[.float .f64 x] W fun e w'=>e=.returned (.bool false)/\W=w')(hF:∀ W,Calls Tryz.prog 161 #[.float .f64 x,.int .i64 0] W fun e w'=>e=.returned (.bool false)/\W=w')
  (hG:∀ W,Calls Tryz.prog 161 #[.float .f64 x,.int .i64 (-1)] W fun e w'=>e=.returned (.bool false)/\W=w')
  (ho:FloatKind.f64.format.order x 0=some .gt)(hP:∀ W,Calls Tryz.prog 189 #[.float .f64 x] W (NewDy W false S e))(hR:∀ A k c W,Below w.heap.size w W->U32s W A k c (digs S)->Calls Tryz.prog 269 #[.int .i64 d,.agg #[.bool false,.slice A k c,.int .i64 e],.int .i64 (-(m:Int))] W fun e' w'=>e'=.returned (.float .f64 z)/\Below W.heap.size W w'):
  Rt 248 #[.int .i64 d,.float .f64 x,.int .i64 (-(m:Int))] (.float .f64 z) w:=by
 have HN:=Hd hN;have HF:=Hd hF;have HG:=Hd hG;have HP:=Hd hP;have HR:=Hd hR
 have h1:¬ -(m:Int) < -1024:=by omega
 have h2:¬ (1024:Int) < -(m:Int):=by omega
 have h3:(-(m:Int) == 0)=false:=by simp;omega
 have h4:-(m:Int)<0:=by omega
 clear hN hF hG hP hR
 go_enter Tryz.func248,Tryz.ntmps248
 go_wp2_with fail;refine cy (HN.out _) ?_;go_wp2_with fail;refine cy (HF.out _) ?_;go_wp2_with fail;refine cy (HG.out _) ?_;go_wp2_with fail;refine cy (HF.out _) ?_;go_wp2_with fail;refine (HP.out _).mono ?_;rintro e' w1 ⟨A,k,c,rfl,hu,hb⟩;have HRR:=Hd (HR.out A k c w1 hb hu);have HB:=Hd hb;clear hu hb HR HP;go_wp2_with fail;refine HRR.out.mono ?_;rintro e' w2 ⟨rfl,hb2⟩;have HB2:=Hd (HB.out.trans (hb2.mono HB.out.size));clear hb2 HB HRR;go_wp2
 go_ret
 exact⟨rfl,HB2.out⟩
theorem rpow_neg(d i:Int)(m:Nat)(w:World)(hd:d=-1\/d=1)(h0:0<i)(h1:i<M)(hm:1<=m)(hm2:m<=1024)(hT:Tab w):
  Rt 248 #[.int .i64 d,.float .f64 (pat i),.int .i64 (-(m:Int))] (.float .f64 (pat (rndI d (1 / fl i ^ m)))) w:=by
 have hM:=M_val
 have hi:-(M:Int)<=i/\i<=M:=by omega
 obtain⟨S,e,b1,b2,b3,hv,hpt⟩:=part_any (pat i) (pat_lt hi.1 hi.2) (by unfold fin;rw [rung_pat hi.1 hi.2];omega);rw [idx_pat hi.1 hi.2,sgn_pat2 hi (by omega),decide_eq_false (by omega)] at hv;rw [sgn_pat2 hi (by omega),decide_eq_false (by omega)] at hpt
 have hf:fl i=(S:Rat)*2 ^ e:=by rw [hv];unfold rv;simp only [Bool.false_eq_true,if_false];grind
 have hS:0<S:=by
  rcases Nat.eq_zero_or_pos S with h | h
  ·exfalso
   have hz:fl i=0:=by rw [hf,h];grind
   have:=fl_lt_iff.2 h0;rw [fl_zero] at this;grind
  ·exact h
 have HF:=fun W=>isinff (pat i) W (pat_lt hi.1 hi.2) (by rw [rung_pat hi.1 hi.2];omega);rw [rung_pat hi.1 hi.2,decide_eq_false (show ¬ i.natAbs=M by omega)] at HF;have ho:=ord0 hi;rw [Int.compare_eq_gt.2 h0] at ho
 exact rpow_walk d (pat i) m _ S e w hm hm2 (fun W=>isnanf (pat i) W (by rw [rung_pat hi.1 hi.2];omega)) HF (fun W=>isinfm (pat i) W (pat_lt hi.1 hi.2) (by rw [rung_pat hi.1 hi.2];omega) (by rw [idx_pat hi.1 hi.2];omega)) ho hpt
  (fun A k c W hb hu=>rpower_walk d S m _ e A k c W hd hu hS b1 ⟨b2,b3⟩ hm hm2 (hT.below hb) (by rw [hf]))
end
section
open Go.RowKit
attribute [local go_sem] run_store_float run_negf
set_option maxRecDepth 8000 in
theorem pownz_lo(z:Int)(b1 b2 c1 c2 r1 r2:Nat)(w:World)(hz:z < -1024)(hR:∀ W,Rt 102 #[Zf c1 c2] (Zf r1 r2) W):
  Rt 39 #[.int .i64 z,Zf b1 b2,Zf c1 c2] (Zf r1 r2) w:=by
 have HR:=Hd hR;clear hR;have LL:=li3 w (Zv b1 b2) 28 (Zv c1 c2) 28 (Zv 0 0) 28
 go_enter Tryz.func39,Tryz.ntmps39
 obtain⟨q1_0,q1_1⟩:=(LL.out.blk 1 rfl).c2;go_wp2_with fail;refine cx (HR.out _) fun wk hb=>?_;replace LL:=stL LL hb;clear hb q1_0 q1_1;replace LL:=Hd (LL.out.loose2 rfl);obtain⟨ha6_0,hf6_0,ha6_1,hf6_1⟩:=(LL.out.has 0 rfl).sf2;have LF:=Hd (LL.out.wr [.float .f64 r1,.float .f64 r2]);obtain⟨hk6_0,hk6_1⟩:=(LF.out.blk 2 rfl).c2
 simp [sets] at hk6_0 hk6_1
 clear LL;go_wp2;refine bodyPost_ret (v:=Zf r1 r2) (by simp [results,Tryz.results39,go_sem,hk6_0,hk6_1]) rfl ?_
 exact⟨rfl,LF.out.b⟩
set_option maxRecDepth 8000 in
theorem pownz_hi(z:Int)(b1 b2 c1 c2 r1 r2:Nat)(w:World)(hz:1024<z)(hR:∀ W,Rt 102 #[Zf c1 c2] (Zf r1 r2) W):
  Rt 39 #[.int .i64 z,Zf b1 b2,Zf c1 c2] (Zf r1 r2) w:=by
 have hz2:¬ z < -1024:=by omega
 have HR:=Hd hR;clear hR;have LL:=li3 w (Zv b1 b2) 28 (Zv c1 c2) 28 (Zv 0 0) 28
 go_enter Tryz.func39,Tryz.ntmps39
 obtain⟨q1_0,q1_1⟩:=(LL.out.blk 1 rfl).c2;go_wp2_with fail;refine cx (HR.out _) fun wk hb=>?_;replace LL:=stL LL hb;clear hb q1_0 q1_1;replace LL:=Hd (LL.out.loose2 rfl);obtain⟨ha6_0,hf6_0,ha6_1,hf6_1⟩:=(LL.out.has 0 rfl).sf2;have LF:=Hd (LL.out.wr [.float .f64 r1,.float .f64 r2]);obtain⟨hk6_0,hk6_1⟩:=(LF.out.blk 2 rfl).c2
 simp [sets] at hk6_0 hk6_1
 clear LL;go_wp2;refine bodyPost_ret (v:=Zf r1 r2) (by simp [results,Tryz.results39,go_sem,hk6_0,hk6_1]) rfl ?_
 exact⟨rfl,LF.out.b⟩
set_option maxRecDepth 8000 in
theorem pownz_none(z:Int)(b1 b2 c1 c2 A1 A2 x1 x2:Nat)(d1 d2:Bool)(w:World)(t1:∀ W,Rt 102 #[Zf b1 b2] (Zf A1 A2) W)(m1:Em d1 A1 A2)(t2:∀ W,Rt 102 #[Zf c1 c2] (Zf x1 x2) W)(m2:Em d2 x1 x2)(h1:¬ z < -1024)(h2:¬ 1024<z)(hnn:(d1 || d2)=true):
  Rt 39 #[.int .i64 z,Zf b1 b2,Zf c1 c2] (Zf 9218868437227405312 18442240474082181120) w:=by
 have HE:=Hd emptyf;have HRD:=readL32 w (Zv 0 0) 28 t1 m1 t2 m2 hnn;clear t1 m1 t2 m2 hnn
 go_enter Tryz.func39,Tryz.ntmps39
 go_wp2_with fail;refine HRD.out.mono ?_;rintro e wk ⟨rfl,hl⟩;have LL:=Hd hl;clear hl HRD;go_wp2_with fail;refine cx (HE.out _) fun wk hb=>?_;replace LL:=stL LL hb;clear hb;replace LL:=Hd (LL.out.loose2 rfl);obtain⟨ha6_0,hf6_0,ha6_1,hf6_1⟩:=(LL.out.has 0 rfl).sf2;have LF:=Hd (LL.out.wr [.float .f64 9218868437227405312,.float .f64 18442240474082181120]);obtain⟨hk6_0,hk6_1⟩:=(LF.out.blk 2 rfl).c2
 simp [sets] at hk6_0 hk6_1
 clear LL;go_wp2;refine bodyPost_ret (v:=Zf 9218868437227405312 18442240474082181120) (by simp [results,Tryz.results39,go_sem,hk6_0,hk6_1]) rfl ?_
 exact⟨rfl,LF.out.b⟩
set_option maxRecDepth 8000 in
theorem pownz_in(b1 b2 c1 c2 A1 A2 x1 x2:Nat)(d1 d2:Bool)(o1 o2:Ordering)(w:World)(t1:∀ W,Rt 102 #[Zf b1 b2] (Zf A1 A2) W)(m1:Em d1 A1 A2)(t2:∀ W,Rt 102 #[Zf c1 c2] (Zf x1 x2) W)(m2:Em d2 x1 x2)(hnn:(d1 || d2)=false)(ho1:FloatKind.f64.format.order A1 4607182418800017408=some o1)(ho2:FloatKind.f64.format.order A2 4607182418800017408=some o2)(k1:o1=.lt\/o1=.eq)(k2:o2=.gt\/o2=.eq):
  Rt 39 #[.int .i64 0,Zf b1 b2,Zf c1 c2] (Zf x1 x2) w:=by
 rcases k1 with rfl | rfl<;>rcases k2 with rfl | rfl
 all_goals
  have HRD:=readL32 w (Zv 0 0) 28 t1 m1 t2 m2 hnn;clear t1 m1 t2 m2 hnn
  go_enter Tryz.func39,Tryz.ntmps39
  go_wp2_with fail;refine HRD.out.mono ?_;rintro e wk ⟨rfl,hl⟩;have LL:=Hd hl;clear hl HRD;obtain⟨q1_0,q1_1⟩:=(LL.out.blk 0 rfl).c2;obtain⟨q2_0,q2_1⟩:=(LL.out.blk 1 rfl).c2
  go_upto_region 6 with fail
  clear ho1 ho2 q1_0 q1_1 q2_0 q2_1;obtain⟨q3_0,q3_1⟩:=(LL.out.blk 1 rfl).c2;replace LL:=Hd (LL.out.loose2 rfl);obtain⟨ha6_0,hf6_0,ha6_1,hf6_1⟩:=(LL.out.has 0 rfl).sf2;have LF:=Hd (LL.out.wr [.float .f64 x1,.float .f64 x2]);obtain⟨hk6_0,hk6_1⟩:=(LF.out.blk 2 rfl).c2
  simp [sets] at hk6_0 hk6_1
  clear LL;go_wp2;refine bodyPost_ret (v:=Zf x1 x2) (by simp [results,Tryz.results39,go_sem,hk6_0,hk6_1]) rfl ?_
  exact⟨rfl,LF.out.b⟩
set_option maxRecDepth 8000 in
theorem pownz_out(b1 b2 c1 c2 A1 A2 x1 x2:Nat)(d1 d2:Bool)(o1 o2:Ordering)(w:World)(t1:∀ W,Rt 102 #[Zf b1 b2] (Zf A1 A2) W)(m1:Em d1 A1 A2)(t2:∀ W,Rt 102 #[Zf c1 c2] (Zf x1 x2) W)(m2:Em d2 x1 x2)(hnn:(d1 || d2)=false)(ho1:FloatKind.f64.format.order A1 4607182418800017408=some o1)(ho2:FloatKind.f64.format.order A2 4607182418800017408=some o2)(k:o1=.gt\/(o1=.lt/\o2=.lt)\/(o1=.eq/\o2=.lt)):
  Rt 39 #[.int .i64 0,Zf b1 b2,Zf c1 c2] (Zf 9218868437227405312 18442240474082181120) w:=by
 have HE:=Hd emptyf
 rcases k with rfl | ⟨rfl,rfl⟩ | ⟨rfl,rfl⟩
 all_goals
  have HRD:=readL32 w (Zv 0 0) 28 t1 m1 t2 m2 hnn;clear t1 m1 t2 m2 hnn
  go_enter Tryz.func39,Tryz.ntmps39
  go_wp2_with fail;refine HRD.out.mono ?_;rintro e wk ⟨rfl,hl⟩;have LL:=Hd hl;clear hl HRD;obtain⟨q1_0,q1_1⟩:=(LL.out.blk 0 rfl).c2;go_wp2_with fail;refine cx (HE.out _) fun wk hb=>?_;replace LL:=stL LL hb;clear hb q1_0 q1_1 ho1 ho2;replace LL:=Hd (LL.out.loose2 rfl);obtain⟨ha6_0,hf6_0,ha6_1,hf6_1⟩:=(LL.out.has 0 rfl).sf2;have LF:=Hd (LL.out.wr [.float .f64 9218868437227405312,.float .f64 18442240474082181120]);obtain⟨hk6_0,hk6_1⟩:=(LF.out.blk 2 rfl).c2
  simp [sets] at hk6_0 hk6_1
  clear LL;go_wp2;refine bodyPost_ret (v:=Zf 9218868437227405312 18442240474082181120) (by simp [results,Tryz.results39,go_sem,hk6_0,hk6_1]) rfl ?_
  exact⟨rfl,LF.out.b⟩
set_option maxRecDepth 8000 in
theorem pownz_neg(n:Nat)(b1 b2 c1 c2 A1 A2 x1 x2:Nat)(d1 d2:Bool)(w:World)(t1:∀ W,Rt 102 #[Zf b1 b2] (Zf A1 A2) W)(m1:Em d1 A1 A2)(t2:∀ W,Rt 102 #[Zf c1 c2] (Zf x1 x2) W)(m2:Em d2 x1 x2)(hn:1<=n)(hn2:n<=1024)(hp:n % 2=0)(hnn:(d1 || d2)=false)(ho:FloatKind.f64.format.order A2 0=some .lt):
  Rt 39 #[.int .i64 (-(n:Int)),Zf b1 b2,Zf c1 c2] (Zf 9218868437227405312 18442240474082181120) w:=by
 have HE:=Hd emptyf
 have n1:¬ -(n:Int) < -1024:=by omega
 have n2:¬ (1024:Int) < -(n:Int):=by omega
 have n3:(-(n:Int) == 0)=false:=by simp;omega
 have n4:-(n:Int)<0:=by omega
 have n5:(-(n:Int)) % 2=0:=by omega
 have n6:(-(n:Int)).tmod 2=0:=by rw [Int.neg_tmod,Int.tmod_eq_emod_of_nonneg (by omega)];omega
 have n7:IntKind.i64.wrap (-(-(n:Int)))=(n:Int):=by rw [IntKind.wrap_i64];omega
 have n8:wrap64 (-(-(n:Int)))=(n:Int):=by unfold wrap64;omega
 have n9:-(-(n:Int))=(n:Int):=by omega
 clear hn hn2 hp;have HRD:=readL32 w (Zv 0 0) 28 t1 m1 t2 m2 hnn;clear t1 m1 t2 m2 hnn
 go_enter Tryz.func39,Tryz.ntmps39
 go_wp2_with fail;refine HRD.out.mono ?_;rintro e wk ⟨rfl,hl⟩;have LL:=Hd hl;clear hl HRD;obtain⟨q1_0,q1_1⟩:=(LL.out.blk 0 rfl).c2;go_wp2_with fail;refine cx (HE.out _) fun wk hb=>?_;replace LL:=stL LL hb;clear hb q1_0 q1_1 ho;replace LL:=Hd (LL.out.loose2 rfl);obtain⟨ha6_0,hf6_0,ha6_1,hf6_1⟩:=(LL.out.has 0 rfl).sf2;have LF:=Hd (LL.out.wr [.float .f64 9218868437227405312,.float .f64 18442240474082181120]);obtain⟨hk6_0,hk6_1⟩:=(LF.out.blk 2 rfl).c2
 simp [sets] at hk6_0 hk6_1
 clear LL;go_wp2;refine bodyPost_ret (v:=Zf 9218868437227405312 18442240474082181120) (by simp [results,Tryz.results39,go_sem,hk6_0,hk6_1]) rfl ?_
 exact⟨rfl,LF.out.b⟩
set_option maxRecDepth 8000 in
theorem pownz_even(n:Nat)(b1 b2 c1 c2 A1 A2 x1 x2:Nat)(d1 d2:Bool)(o:Ordering)(r1 r2:Nat)(w:World)(t1:∀ W,Rt 102 #[Zf b1 b2] (Zf A1 A2) W)(m1:Em d1 A1 A2)(t2:∀ W,Rt 102 #[Zf c1 c2] (Zf x1 x2) W)(m2:Em d2 x1 x2)(hn:1<=n)(hn2:n<=1024)(hp:n % 2=0)(hnn:(d1 || d2)=false)(ho:FloatKind.f64.format.order A2 0=some o)(hoo:o=.eq\/o=.gt)(hB:∀ W,Tab W->Rt 103 #[.int .i64 (n:Int),Zf A1 A2,Zf x1 x2] (Zf r1 r2) W)(hT:Tab w):
  Rt 39 #[.int .i64 (-(n:Int)),Zf b1 b2,Zf c1 c2] (Zf r1 r2) w:=by
 have n1:¬ -(n:Int) < -1024:=by omega
 have n2:¬ (1024:Int) < -(n:Int):=by omega
 have n3:(-(n:Int) == 0)=false:=by simp;omega
 have n4:-(n:Int)<0:=by omega
 have n5:(-(n:Int)) % 2=0:=by omega
 have n6:(-(n:Int)).tmod 2=0:=by rw [Int.neg_tmod,Int.tmod_eq_emod_of_nonneg (by omega)];omega
 have n7:IntKind.i64.wrap (-(-(n:Int)))=(n:Int):=by rw [IntKind.wrap_i64];omega
 have n8:wrap64 (-(-(n:Int)))=(n:Int):=by unfold wrap64;omega
 have n9:-(-(n:Int))=(n:Int):=by omega
 clear hn hn2 hp;have HB:=Hd hB;clear hB
 rcases hoo with rfl | rfl
 all_goals
  have HRD:=readL32 w (Zv 0 0) 28 t1 m1 t2 m2 hnn;clear t1 m1 t2 m2 hnn
  go_enter Tryz.func39,Tryz.ntmps39
  go_wp2_with fail;refine HRD.out.mono ?_;rintro e wk ⟨rfl,hl⟩;have LL:=Hd hl;clear hl HRD;have HT:=Hd (hT.below LL.out.b);clear hT;obtain⟨q1_0,q1_1⟩:=(LL.out.blk 0 rfl).c2;obtain⟨q2_0,q2_1⟩:=(LL.out.blk 1 rfl).c2;go_wp2_with fail;refine cx (HB.out _ HT.out) fun wk hb=>?_;replace LL:=stL LL hb;replace HT:=Hd (HT.out.below hb);clear hb q1_0 q1_1 q2_0 q2_1 ho;clear HT;replace LL:=Hd (LL.out.loose2 rfl);obtain⟨ha6_0,hf6_0,ha6_1,hf6_1⟩:=(LL.out.has 0 rfl).sf2;have LF:=Hd (LL.out.wr [.float .f64 r1,.float .f64 r2]);obtain⟨hk6_0,hk6_1⟩:=(LF.out.blk 2 rfl).c2
  simp [sets] at hk6_0 hk6_1
  clear LL;go_wp2;refine bodyPost_ret (v:=Zf r1 r2) (by simp [results,Tryz.results39,go_sem,hk6_0,hk6_1]) rfl ?_
  exact⟨rfl,LF.out.b⟩
set_option maxRecDepth 8000 in
theorem pownz_odd(n:Nat)(b1 b2 c1 c2 A1 A2 x1 x2:Nat)(d1 d2:Bool)(r1 r2:Nat)(w:World)(t1:∀ W,Rt 102 #[Zf b1 b2] (Zf A1 A2) W)(m1:Em d1 A1 A2)(t2:∀ W,Rt 102 #[Zf c1 c2] (Zf x1 x2) W)(m2:Em d2 x1 x2)(hn:1<=n)(hn2:n<=1024)(hp:n % 2=1)(hnn:(d1 || d2)=false)(hB:∀ W,Tab W->Rt 103 #[.int .i64 (n:Int),Zf A1 A2,Zf x1 x2] (Zf r1 r2) W)(hT:Tab w):
  Rt 39 #[.int .i64 (-(n:Int)),Zf b1 b2,Zf c1 c2] (Zf r1 r2) w:=by
 have n1:¬ -(n:Int) < -1024:=by omega
 have n2:¬ (1024:Int) < -(n:Int):=by omega
 have n3:(-(n:Int) == 0)=false:=by simp;omega
 have n4:-(n:Int)<0:=by omega
 have n5:(-(n:Int)) % 2=1:=by omega
 have n6:(-(n:Int)).tmod 2=-1:=by rw [Int.neg_tmod,Int.tmod_eq_emod_of_nonneg (by omega)];omega
 have n7:IntKind.i64.wrap (-(-(n:Int)))=(n:Int):=by rw [IntKind.wrap_i64];omega
 have n8:wrap64 (-(-(n:Int)))=(n:Int):=by unfold wrap64;omega
 have n9:-(-(n:Int))=(n:Int):=by omega
 clear hn hn2 hp;have HB:=Hd hB;clear hB;have HRD:=readL32 w (Zv 0 0) 28 t1 m1 t2 m2 hnn;clear t1 m1 t2 m2 hnn
 go_enter Tryz.func39,Tryz.ntmps39
 go_wp2_with fail;refine HRD.out.mono ?_;rintro e wk ⟨rfl,hl⟩;have LL:=Hd hl;clear hl HRD;have HT:=Hd (hT.below LL.out.b);clear hT;obtain⟨q1_0,q1_1⟩:=(LL.out.blk 0 rfl).c2;obtain⟨q2_0,q2_1⟩:=(LL.out.blk 1 rfl).c2;go_wp2_with fail;refine cx (HB.out _ HT.out) fun wk hb=>?_;replace LL:=stL LL hb;replace HT:=Hd (HT.out.below hb);clear hb q1_0 q1_1 q2_0 q2_1;clear HT;replace LL:=Hd (LL.out.loose2 rfl);obtain⟨ha6_0,hf6_0,ha6_1,hf6_1⟩:=(LL.out.has 0 rfl).sf2;have LF:=Hd (LL.out.wr [.float .f64 r1,.float .f64 r2]);obtain⟨hk6_0,hk6_1⟩:=(LF.out.blk 2 rfl).c2
 simp [sets] at hk6_0 hk6_1
 clear LL;go_wp2;refine bodyPost_ret (v:=Zf r1 r2) (by simp [results,Tryz.results39,go_sem,hk6_0,hk6_1]) rfl ?_
 exact⟨rfl,LF.out.b⟩
end
section
open Go.RowKit
attribute [local go_sem] run_store_float run_frombits run_bitsof
theorem and_top{T:Nat}(h:T<9223372036854775808):bits .and .u64 (T:Int) 9223372036854775808=0:=by
 have e:=u64_and_nat T 9223372036854775808 (by omega) (by omega)
 have z:T &&& 9223372036854775808=0:=by
  apply Nat.eq_of_testBit_eq
  intro i;rw [Nat.testBit_and,show (9223372036854775808:Nat)=2 ^ 63 from rfl,Nat.testBit_two_pow]
  by_cases hi:63=i
  ·subst hi;rw [Nat.testBit_lt_two_pow (by simpa using h)];simp
  ·simp [hi]
 rw [z] at e
 exact e
theorem fnumber_any(T:Nat)(w:World):Calls Tryz.prog 268 #[.int .u64 (T:Int)] w fun e w'=>e=.returned (.float .f64 T)/\w=w':=by
 have HS:=Hd fsmall;have ff:=fun W=>run_frombits T W
 go_enter Tryz.func268,Tryz.ntmps268
 go_wp2_with fail;refine cy (HS.out _) ?_;go_wp2
 go_ret
 exact⟨rfl,rfl⟩
theorem fplace_any(T:Nat)(w:World)(hT:T<=M):Rt 249 #[.float .f64 T] (.tuple #[.int .i64 (T:Int),.bool true]) w:=by
 have hM:=M_val;have HF:=Hd format_any;have HP:=Hd fun W=>pattern_any T W
 have hr:rungOf T=T:=by
  have h:=rung_pat (i:=(T:Int)) (by omega) (by omega);rw [pat_nn (by omega)] at h
  simpa using h
 have h1:=size_i (b:=T) (by omega);rw [hr] at h1;have h2:=and_top (T:=T) (by omega);have ho:FloatKind.f64.format.order T T=some .eq:=ord_eq (by omega) (by omega) rfl
 have hw:IntKind.i64.wrap (T:Int)=(T:Int):=by rw [IntKind.wrap_i64];omega
 clear hr hT hM
 go_enter Tryz.func249,Tryz.ntmps249
 go_wp2_with fail;refine cx (HF.out _) fun w1 hb=>?_;have HB:=Hd (hb.alloc hb.size (.cells #[.int .i64 52,.int .i64 (-1074),.int .i64 971,.int .u64 9218868437227405312,.int .u64 9223372036854775808] 185));have B:=Blk.new w1 185 #[.int .i64 52,.int .i64 (-1074),.int .i64 971,.int .u64 9218868437227405312,.int .u64 9223372036854775808];have q4:=B.ce 4 rfl;clear hb B HF;go_wp2_with fail;refine (HP.out _).mono ?_;rintro e w2 ⟨rfl,rfl⟩;go_wp2;refine bodyPost_ret (v:=.tuple #[.int .i64 (T:Int),.bool true]) (by simp [results,Tryz.results249,go_sem]) rfl ?_
 exact⟨rfl,HB.out⟩
theorem fat_any(T:Nat)(w:World)(hT:T<=M):Rt 247 #[.int .i64 (T:Int)] (.tuple #[.float .f64 T,.bool true]) w:=by
 have hM:=M_val;have HF:=Hd format_any;have HN:=Hd fun W=>fnumber_any T W
 have h1:¬ (9218868437227405312:Int)<(T:Int):=by omega
 have h2:¬ (T:Int) < -9218868437227405312:=by omega
 have h3:¬ (T:Int)<0:=by omega
 have hw:IntKind.u64.wrap (T:Int)=(T:Int):=by rw [IntKind.wrap_u64];omega
 clear hT hM
 go_enter Tryz.func247,Tryz.ntmps247
 go_wp2_with fail;refine cx (HF.out _) fun w1 hb=>?_;have HB:=Hd (hb.alloc hb.size (.cells #[.int .i64 52,.int .i64 (-1074),.int .i64 971,.int .u64 9218868437227405312,.int .u64 9223372036854775808] 185));have B:=Blk.new w1 185 #[.int .i64 52,.int .i64 (-1074),.int .i64 971,.int .u64 9218868437227405312,.int .u64 9223372036854775808];have q3:=B.ce 3 rfl;clear hb B HF;go_wp2_with fail;refine (HN.out _).mono ?_;rintro e w2 ⟨rfl,rfl⟩;go_wp2;refine bodyPost_ret (v:=.tuple #[.float .f64 T,.bool true]) (by simp [results,Tryz.results247,go_sem]) rfl ?_
 exact⟨rfl,HB.out⟩
end
section
open Go.RowKit
def rch(j:Int)(n k:Nat):Bool:=decide (k=0\/((k:Int)<M/\j<=rndI (-1) (1 / fl (k:Int) ^ n)))
def CapR(w W':World)(Bn By n:Nat)(j:Int):Prop:=W'.cell? ⟨Bn,0,none⟩=some (.int .i64 (n:Int))/\W'.cell? ⟨By,0,none⟩=some (.float .f64 (pat j))/\Tab W'/\(Bn<W'.heap.size/\By<W'.heap.size)/\Below w.heap.size w W'
theorem CapR.after{w W':World}{Bn By n:Nat}{j:Int}(h:CapR w w Bn By n j)(hb0:Below w.heap.size w W'):CapR w W' Bn By n j:=by
 have hHeld:=h
 exact⟨(hb0.cell (p:=⟨Bn,0,none⟩) hHeld.2.2.2.1.1).trans hHeld.1,(hb0.cell (p:=⟨By,0,none⟩) hHeld.2.2.2.1.2).trans hHeld.2.1,hHeld.2.2.1.below hb0,⟨Nat.lt_of_lt_of_le hHeld.2.2.2.1.1 hb0.size,Nat.lt_of_lt_of_le hHeld.2.2.2.1.2 hb0.size⟩,hb0⟩
theorem CapR.drewS{w W':World}{Bn By n:Nat}{j:Int}(h:CapR w W' Bn By n j):W'.drew.cell? ⟨Bn,0,none⟩=some (.int .i64 (n:Int))/\W'.drew.cell? ⟨By,0,none⟩=some (.float .f64 (pat j))/\Tab W'.drew/\(Bn<W'.drew.heap.size/\By<W'.drew.heap.size)/\Below w.heap.size w W'.drew:=by
 obtain⟨h1,h2,h3,⟨h4,h5⟩,h6⟩:=h
 exact⟨by simpa using h1,by simpa using h2,h3.drew,⟨by simpa using h4,by simpa using h5⟩,h6.drew⟩
set_option maxRecDepth 8000 in
theorem reaches_walk(n k Bn By r:Nat)(j:Int)(o:Ordering)(i b:Bool)(w:World)(hk:(k:Int)<9223372036854775807)(hn2:n<=1024)
  (hA:∀ W,Rt 247 #[.int .i64 (k:Int)] (.tuple #[.float .f64 k,.bool true]) W)
  (hI:∀ W,Rt 161 #[.float .f64 k,.int .i64 1] (.bool i) W)
  (hP:k≠0->i=false->∀ W,Tab W->Rt 248 #[.int .i64 (-1),.float .f64 k,.int .i64 (-(n:Int))] (.float .f64 r) W)
  (ho:FloatKind.f64.format.order r (pat j)=some o)(hb:b=decide (k=0\/(i=false/\o≠.lt)))
  (hc:CapR w w Bn By n j):
  Rt 246 #[.int .i64 (k:Int),.pointer (some ⟨Bn,0,none⟩),.pointer (some ⟨By,0,none⟩)] (.bool b) w:=by
 have HA:=Hd hA;have HI:=Hd hI;have HC:=Hd hc
 have hw:IntKind.i64.wrap (-(n:Int))=-(n:Int):=by rw [IntKind.wrap_i64];omega
 have hw2:wrap64 (-(n:Int))=-(n:Int):=by unfold wrap64;omega
 clear hA hI hc
 rcases Nat.eq_zero_or_pos k with h0 | h0
 ·subst h0
  have hb1:b=true:=by rw [hb];simp
  subst hb1;clear hb hP ho
  go_enter Tryz.func246,Tryz.ntmps246
  go_wp2_with fail;refine cx (HA.out _) fun w1 hb0=>?_;have HS:=Hd (CapR.after HC.out hb0);clear hb0 HC HA;go_wp2_with fail;refine wp_region_held_drew (S:=fun W'=>W'.cell? ⟨Bn,0,none⟩=some (.int .i64 (n:Int))/\W'.cell? ⟨By,0,none⟩=some (.float .f64 (pat j))/\Tab W'/\(Bn<W'.heap.size/\By<W'.heap.size)/\Below w.heap.size w W') (by kernel_rfl) (by exact HS.out.drewS) (fun hHeld=>?_);refine tks 0 ?_;refine tks 1 ?_;refine tks 2 ?_;refine tkns 3 ?_;refine tkns 4 ?_;refine tkns 5 ?_;refine tkns 6 ?_;refine tkns 7 ?_;refine tkns 8 ?_;refine tkns 9 ?_;refine tkns 10 ?_;refine tkns 11 ?_;refine tkns 12 ?_;refine tkns 13 ?_;refine tks 14 ?_;refine tks 15 ?_;refine wpAnyH_done (by kernel_rfl) ?_ _;have HB:=Hd hHeld.2.2.2.2;clear hHeld;go_wp2
  go_ret
  exact⟨rfl,HB.out⟩
 ·have hz:((k:Int) == 0)=false:=by simp;omega
  cases i
  ·have HP:=Hd (hP (by omega) rfl)
   have hbo:b=decide (o≠.lt):=by rw [hb];simp;omega
   clear hP hb
   cases o
   all_goals
    simp at hbo
    subst hbo
    go_enter Tryz.func246,Tryz.ntmps246
    go_wp2_with fail;refine cx (HA.out _) fun w1 hb0=>?_;have HS:=Hd (CapR.after HC.out hb0);clear hb0 HC HA;go_wp2_with fail;refine wp_region_held_drew (S:=fun W'=>W'.cell? ⟨Bn,0,none⟩=some (.int .i64 (n:Int))/\W'.cell? ⟨By,0,none⟩=some (.float .f64 (pat j))/\Tab W'/\(Bn<W'.heap.size/\By<W'.heap.size)/\Below w.heap.size w W') (by kernel_rfl) (by exact HS.out.drewS) (fun hHeld=>?_);refine tks 0 ?_;refine tks 1 ?_;refine tks 2 ?_;refine tks 3 ?_;refine rdy 4 fun KK hKK=>?_;go_simp;refine cx (HI.out _) fun wi hbi=>?_;go_wp2_with fail;refine hKK.out _ _ (⟨(hbi.cell (p:=⟨Bn,0,none⟩) hHeld.2.2.2.1.1).trans hHeld.1,(hbi.cell (p:=⟨By,0,none⟩) hHeld.2.2.2.1.2).trans hHeld.2.1,hHeld.2.2.1.below hbi,⟨Nat.lt_of_lt_of_le hHeld.2.2.2.1.1 hbi.size,Nat.lt_of_lt_of_le hHeld.2.2.2.1.2 hbi.size⟩,hHeld.2.2.2.2.trans (hbi.mono hHeld.2.2.2.2.size)⟩) (fun _=>?_);clear hKK KK hHeld;rename_i hHeld;(try simp only [Act.put,lay]);refine tks 5 ?_;refine tks 6 ?_;refine tks 7 ?_;refine tks 8 ?_ (hv:=by intro W2 hSw;(try dsimp only at hSw);have q:=hSw.1;go_simp;(try with_reducible rfl));refine tks 9 ?_;refine tks 11 ?_ (hv:=by intro W2 hSw;(try dsimp only at hSw);have q:=hSw.2.1;go_simp;(try with_reducible rfl));refine rdy 10 fun KK hKK=>?_;go_simp;refine cx (HP.out _ hHeld.2.2.1) fun wp hbp=>?_;go_wp2_with fail;refine hKK.out _ _ (⟨(hbp.cell (p:=⟨Bn,0,none⟩) hHeld.2.2.2.1.1).trans hHeld.1,(hbp.cell (p:=⟨By,0,none⟩) hHeld.2.2.2.1.2).trans hHeld.2.1,hHeld.2.2.1.below hbp,⟨Nat.lt_of_lt_of_le hHeld.2.2.2.1.1 hbp.size,Nat.lt_of_lt_of_le hHeld.2.2.2.1.2 hbp.size⟩,hHeld.2.2.2.2.trans (hbp.mono hHeld.2.2.2.2.size)⟩) (fun _=>?_)
    clear hKK KK hHeld;rename_i hHeld;(try simp only [Act.put,lay]);refine tks 12 ?_;refine tks 13 ?_;refine tks 14 ?_;refine tks 15 ?_;refine wpAnyH_done (by kernel_rfl) ?_ _;have HB:=Hd hHeld.2.2.2.2;clear hHeld;go_wp2
    go_ret
    exact⟨rfl,HB.out⟩
  ·have hbo:b=false:=by rw [hb];simp;omega
   subst hbo;clear hP hb ho
   go_enter Tryz.func246,Tryz.ntmps246
   go_wp2_with fail;refine cx (HA.out _) fun w1 hb0=>?_;have HS:=Hd (CapR.after HC.out hb0);clear hb0 HC HA;go_wp2_with fail;refine wp_region_held_drew (S:=fun W'=>W'.cell? ⟨Bn,0,none⟩=some (.int .i64 (n:Int))/\W'.cell? ⟨By,0,none⟩=some (.float .f64 (pat j))/\Tab W'/\(Bn<W'.heap.size/\By<W'.heap.size)/\Below w.heap.size w W') (by kernel_rfl) (by exact HS.out.drewS) (fun hHeld=>?_);refine tks 0 ?_;refine tks 1 ?_;refine tks 2 ?_;refine tks 3 ?_;refine rdy 4 fun KK hKK=>?_;go_simp;refine cx (HI.out _) fun wi hbi=>?_;go_wp2_with fail;refine hKK.out _ _ (⟨(hbi.cell (p:=⟨Bn,0,none⟩) hHeld.2.2.2.1.1).trans hHeld.1,(hbi.cell (p:=⟨By,0,none⟩) hHeld.2.2.2.1.2).trans hHeld.2.1,hHeld.2.2.1.below hbi,⟨Nat.lt_of_lt_of_le hHeld.2.2.2.1.1 hbi.size,Nat.lt_of_lt_of_le hHeld.2.2.2.1.2 hbi.size⟩,hHeld.2.2.2.2.trans (hbi.mono hHeld.2.2.2.2.size)⟩) (fun _=>?_);clear hKK KK hHeld;rename_i hHeld;(try simp only [Act.put,lay]);refine tks 5 ?_;refine tks 6 ?_;refine tkns 7 ?_;refine tkns 8 ?_;refine tkns 9 ?_;refine tkns 10 ?_;refine tkns 11 ?_;refine tkns 12 ?_;refine tks 13 ?_;refine tks 14 ?_;refine tks 15 ?_;refine wpAnyH_done (by kernel_rfl) ?_ _;have HB:=Hd hHeld.2.2.2.2;clear hHeld;go_wp2
   go_ret
   exact⟨rfl,HB.out⟩
end
section
open Go.RowKit
attribute [local go_sem] run_store_float
set_option maxRecDepth 8000 in
theorem inverse_inf(y n:Nat)(w:World)(hI:∀ W,Calls Tryz.prog 161 #[.float .f64 y,.int .i64 1] W fun e w'=>e=.returned (.bool true)/\W=w')(hA:∀ W,Rt 88 #[.float .f64 0] (Zf 0 0) W):
  Rt 220 #[.float .f64 y,.int .i64 (n:Int)] (Zf 0 0) w:=by
 have HI:=Hd hI;have HA:=Hd hA;clear hI hA;have LL:=li3 w #[.float .f64 y] 26 #[.int .i64 (n:Int)] 3 (Zv 0 0) 78
 go_enter Tryz.func220,Tryz.ntmps220
 have q1_0:=(LL.out.blk 0 rfl).ce 0 rfl;go_wp2_with fail;refine (HI.out _).mono ?_;rintro e w9 ⟨rfl,rfl⟩;go_wp2_with fail;refine cx (HA.out _) fun wk hb=>?_;replace LL:=stL LL hb;clear hb q1_0;replace LL:=Hd (LL.out.loose2 rfl);obtain⟨ha4_0,hf4_0,ha4_1,hf4_1⟩:=(LL.out.has 0 rfl).sf2;have LF:=Hd (LL.out.wr [.float .f64 0,.float .f64 0]);obtain⟨hk4_0,hk4_1⟩:=(LF.out.blk 2 rfl).c2
 simp [sets] at hk4_0 hk4_1
 clear LL;go_wp2;refine bodyPost_ret (v:=Zf 0 0) (by simp [results,Tryz.results220,go_sem,hk4_0,hk4_1]) rfl ?_
 exact⟨rfl,LF.out.b⟩
set_option maxRecDepth 8000 in
theorem inverse_one(y r1 r2:Nat)(w:World)(hI:∀ W,Calls Tryz.prog 161 #[.float .f64 y,.int .i64 1] W fun e w'=>e=.returned (.bool false)/\W=w')(hD:∀ W,Rt 245 #[.int .i64 (-1),.float .f64 4607182418800017408,.float .f64 y] (.float .f64 r1) W)(hU:∀ W,Rt 245 #[.int .i64 1,.float .f64 4607182418800017408,.float .f64 y] (.float .f64 r2) W):
  Rt 220 #[.float .f64 y,.int .i64 1] (Zf r1 r2) w:=by
 have HI:=Hd hI;have HD:=Hd hD;have HU:=Hd hU;clear hI hD hU;have LL:=li3 w #[.float .f64 y] 26 #[.int .i64 1] 3 (Zv 0 0) 78
 go_enter Tryz.func220,Tryz.ntmps220
 have q1_0:=(LL.out.blk 0 rfl).ce 0 rfl;have q2_0:=(LL.out.blk 1 rfl).ce 0 rfl;go_wp2_with fail;refine (HI.out _).mono ?_;rintro e w9 ⟨rfl,rfl⟩;go_wp2_with fail;clear q1_0 q2_0;replace LL:=Hd (LL.out.loose2 rfl);refine regL LL (fun hHeld=>?_);clear LL;generalize World.drew _=wk at hHeld  ⊢;refine tkb 0 (fun _ h=>(h.blk 0 rfl).ce 0 rfl) ?_;refine tkb 2 (fun _ h=>(h.blk 0 rfl).ce 0 rfl) ?_;refine rdy 1 fun KK hKK=>?_;go_simp;refine cs (HD.out _) ?_;clear hKK KK hHeld;intro wk hb1 hHeld;clear hb1;refine rdy 3 fun KK hKK=>?_;go_simp;refine cs (HU.out _) ?_;clear hKK KK hHeld;intro wk hb2 hHeld;clear hb2;refine tks 4 ?_;refine rdy 5 fun KK hKK=>?_;obtain⟨ha0,hf0,ha1,hf1⟩:=(hHeld.has 0 rfl).sf2;go_simp;have HS_0:=(hHeld.has 0 rfl).laid [.float .f64 r1,.float .f64 r2] rfl;refine hKK.out _ _ (hHeld.over 0 rfl [.float .f64 r1,.float .f64 r2] rfl rfl (by first | omega | exact hHeld.le_of 0 rfl) (by simp<;>omega) (by simp<;>omega)) (fun _=>?_);clear hKK KK hHeld;rename_i hHeld;(try simp only [Act.put,lay]);refine wpAnyH_done (by kernel_rfl) ?_ _;have LB:=Hd hHeld.b;clear hHeld;obtain⟨hk4_0,hk4_1⟩:=HS_0.c2;clear HS_0
 simp [sets] at hk4_0 hk4_1
 go_wp2;refine bodyPost_ret (v:=Zf r1 r2) (by simp [results,Tryz.results220,go_sem,hk4_0,hk4_1]) rfl ?_
 exact⟨rfl,LB.out⟩
set_option maxRecDepth 8000 in
theorem inverse_search(y n T1 T2:Nat)(f:Nat->Bool)(r1 r2:Nat->Nat)(o1 o2:Nat->Ordering)(w:World)(hn:((n:Int) == 1)=false)(hn2:n<=1024)(hI:∀ W,Calls Tryz.prog 161 #[.float .f64 y,.int .i64 1] W fun e w'=>e=.returned (.bool false)/\W=w')
  (hJ:∀ W,Calls Tryz.prog 19 #[.int .i64 1] W fun e w'=>e=.returned (.float .f64 9218868437227405312)/\W=w')
  (hL:∀ (k:Nat) W,k<=9218868437227405312->Rt 249 #[.float .f64 k] (.tuple #[.int .i64 (k:Int),.bool true]) W)
  (hA:∀ (k:Nat) W,k<=9218868437227405312->Rt 247 #[.int .i64 (k:Int)] (.tuple #[.float .f64 k,.bool true]) W)
  (hB:∀ (b:Nat) W,Rt 88 #[.float .f64 b] (Zf b b) W)
  (hD:∀ W,Rt 245 #[.int .i64 0,.float .f64 4607182418800017408,.float .f64 y] (.float .f64 T1) W)(hR:∀ W,Rt 174 #[.int .i64 0,.float .f64 T1,.int .i64 (n:Int)] (.float .f64 T2) W)(hT2:T2<=9218868437227405312)
  (hC:∀ (k:Nat) W,k<=9218868437227405312->W.cell? ⟨w.heap.size+1,0,none⟩=some (.int .i64 (n:Int))->W.cell? ⟨w.heap.size,0,none⟩=some (.float .f64 y)->Tab W->w.heap.size+1<W.heap.size->Rt 246 #[.int .i64 (k:Int),.pointer (some ⟨w.heap.size+1,0,none⟩),.pointer (some ⟨w.heap.size,0,none⟩)] (.bool (f k)) W)(hf0:f 0=true)(hfM:f 9218868437227405312=false)(hP1:∀ (k:Nat) W,k<9218868437227405312->Tab W->Rt 248 #[.int .i64 (-1),.float .f64 k,.int .i64 (-(n:Int))] (.float .f64 (r1 k)) W)(hP2:∀ (k:Nat) W,k<9218868437227405312->Tab W->Rt 248 #[.int .i64 1,.float .f64 k,.int .i64 (-(n:Int))] (.float .f64 (r2 k)) W)(ho1:∀ k:Nat,k<9218868437227405312->FloatKind.f64.format.order (r1 k) y=some (o1 k))(ho2:∀ k:Nat,k<9218868437227405312->FloatKind.f64.format.order (r2 k) y=some (o2 k))(hT:Tab w):
  Calls Tryz.prog 220 #[.float .f64 y,.int .i64 (n:Int)] w fun e w'=>∃ k:Nat,k<9218868437227405312/\f k=true/\f (k+1)=false/\e=.returned (.agg #[.float .f64 k,.float .f64 (if o1 k=.eq/\o2 k=.eq then k else k+1)])/\Below w.heap.size w w':=by
 have hw0:IntKind.i64.wrap (-(n:Int))=-(n:Int):=by rw [IntKind.wrap_i64];omega
 have hw1:wrap64 (-(n:Int))=-(n:Int):=by unfold wrap64;omega
 have HI:=Hd hI;have HJ:=Hd hJ;have HL:=Hd hL;have HA:=Hd hA;have HB:=Hd hB;have HD:=Hd hD;have HR:=Hd hR;have HC:=Hd hC;have HP1:=Hd hP1;have HP2:=Hd hP2;have HO1:=Hd ho1;have HO2:=Hd ho2;clear hI hJ hL hA hB hD hR hC hP1 hP2 ho1 ho2;have LL:=li3 w #[.float .f64 y] 26 #[.int .i64 (n:Int)] 3 (Zv 0 0) 78;have HT:=Hd (hT.below LL.out.b);clear hT
 go_enter Tryz.func220,Tryz.ntmps220
 have q1_0:=(LL.out.blk 0 rfl).ce 0 rfl;have q2_0:=(LL.out.blk 1 rfl).ce 0 rfl;go_wp2_with fail;refine (HI.out _).mono ?_;rintro e w9 ⟨rfl,rfl⟩;go_wp2_with fail;refine (HJ.out _).mono ?_;rintro e w9 ⟨rfl,rfl⟩;go_wp2_with fail;refine cx (HL.out 9218868437227405312 _ (by omega)) fun wk hb=>?_;replace LL:=stL LL hb;replace HT:=Hd (HT.out.below hb);clear hb q1_0 q2_0;clear HI HJ
 go_upto_region 8 with fail
 refine regL LL (fun hHeld=>?_);clear LL;replace HT:=Hd (HT.out.below (Below.refl _ _).drew);generalize World.drew _=wk at hHeld HT ⊢;refine tkb 0 (fun _ h=>(h.blk 0 rfl).ce 0 rfl) ?_;refine tkb 2 (fun _ h=>(h.blk 1 rfl).ce 0 rfl) ?_;refine rdy 1 fun KK hKK=>?_;go_simp;refine cs (HD.out _) ?_;clear hKK KK hHeld;intro wk hb1 hHeld;replace HT:=Hd (HT.out.below hb1);clear hb1;refine rdy 3 fun KK hKK=>?_;go_simp;refine cs (HR.out _) ?_;clear hKK KK hHeld;intro wk hb2 hHeld;replace HT:=Hd (HT.out.below hb2);clear hb2;refine rdy 4 fun KK hKK=>?_;go_simp;refine cs (HL.out T2 _ hT2) ?_;clear hKK KK hHeld;intro wk hb3 hHeld;replace HT:=Hd (HT.out.below hb3);clear hb3;refine tks 5 ?_;refine tks 6 ?_;refine tks 7 ?_;refine tks 8 ?_;refine tks 9 ?_;refine wpAnyH_done (by kernel_rfl) ?_ _;have LL:=Hd hHeld;clear hHeld;clear HD HR HL
 obtain⟨z,hz⟩:∃ z:Int,(T2:Int)=z:=⟨_,rfl⟩
 rw [hz];have HZ:=Hd hz;clear hz
 go_upto_region 9 with fail
 go_cut [62] from 39 to 62 (fun s62 wx=>∃ acc:Bool,s62=.bool acc/\(acc=true->∃ k1 k2:Nat,z - 3=(k1:Int)/\z+3=(k2:Int)/\k2<=9218868437227405312/\f k1=true/\f k2=false)/\Lies w wx [(w.heap.size,26,#[.float .f64 y]),((w.heap.size+1),3,#[.int .i64 (n:Int)]),((w.heap.size+2),78,(Zv 0 0))] []/\Tab wx)
 case first=>
  have hz:=HZ.out
  by_cases c1:3<z
  ·by_cases c2:z<9218868437227405309
   ·skip
    obtain⟨k1,hk1⟩:∃ k:Nat,z - 3=(k:Int):=⟨(z - 3).toNat,by omega⟩
    obtain⟨k2,hk2⟩:∃ k:Nat,z+3=(k:Int):=⟨(z+3).toNat,by omega⟩
    have a1:wrap64 (z - 3)=(k1:Int):=by unfold wrap64;omega
    have a2:wrap64 (z+3)=(k2:Int):=by unfold wrap64;omega
    have a3:IntKind.i64.wrap (z - 3)=(k1:Int):=by rw [IntKind.wrap_i64];omega
    have a4:IntKind.i64.wrap (z+3)=(k2:Int):=by rw [IntKind.wrap_i64];omega
    have HK:=Hd (show k1<k2/\k2<=9218868437227405312/\z - 3=(k1:Int)/\z+3=(k2:Int) from⟨by omega,by omega,hk1,hk2⟩);clear hk1 hk2 hz;have q3_0:=(LL.out.blk 0 rfl).ce 0 rfl;have q4_0:=(LL.out.blk 1 rfl).ce 0 rfl;go_wp2_with fail;refine cx (HC.out k1 _ (by have:=HK.out;omega) q4_0 q3_0 HT.out (by have:=(LL.out.blk 1 rfl).lt;exact this)) fun wk hb=>?_;replace LL:=stL LL hb;replace HT:=Hd (HT.out.below hb);clear hb q3_0 q4_0
    cases g1:f k1
    ·skip;go_wp2_with fail
     go_meet
     case rel=>exact⟨false,rfl,fun h=>absurd h (by decide),LL.out,HT.out⟩
    ·skip;have q5_0:=(LL.out.blk 0 rfl).ce 0 rfl;have q6_0:=(LL.out.blk 1 rfl).ce 0 rfl;go_wp2_with fail;refine cx (HC.out k2 _ (by have:=HK.out;omega) q6_0 q5_0 HT.out (by have:=(LL.out.blk 1 rfl).lt;exact this)) fun wk hb=>?_;replace LL:=stL LL hb;replace HT:=Hd (HT.out.below hb);clear hb q5_0 q6_0
     cases g2:f k2
     ·go_wp2_with fail
      go_meet
      case rel=>exact⟨true,rfl,fun _=>⟨k1,k2,HK.out.2.2.1,HK.out.2.2.2,HK.out.2.1,g1,g2⟩,LL.out,HT.out⟩
     ·go_wp2_with fail
      go_meet
      case rel=>exact⟨false,rfl,fun h=>absurd h (by decide),LL.out,HT.out⟩
   ·skip;go_wp2_with fail
    go_meet
    case rel=>exact⟨false,rfl,fun h=>absurd h (by decide),LL.out,HT.out⟩
  ·skip;go_wp2_with fail
   go_meet
   case rel=>exact⟨false,rfl,fun h=>absurd h (by decide),LL.out,HT.out⟩
 case rest=>
 obtain⟨acc,rfl,hacc,hcl,ht⟩:=hcut;rename World=>wx;clear LL HT hT2 HZ;have LL:=Hd hcl;have HT:=Hd ht;clear hcl ht;have HAC:=Hd hacc;clear hacc
 go_upto_if 62 with fail
 go_cut [6,7] from 63 to 66 (fun s6 s7 wx=>∃ lo hi:Nat,s6=.int .i64 (lo:Int)/\s7=.int .i64 (hi:Int)/\lo<hi/\hi<=9218868437227405312/\f lo=true/\f hi=false/\Lies w wx [(w.heap.size,26,#[.float .f64 y]),((w.heap.size+1),3,#[.int .i64 (n:Int)]),((w.heap.size+2),78,(Zv 0 0))] []/\Tab wx)
 case first=>
  cases acc
  ·clear HAC;go_wp2_with fail
   go_meet
   case rel=>exact⟨0,9218868437227405312,rfl,rfl,by omega,by omega,hf0,hfM,LL.out,HT.out⟩
  ·obtain⟨k1,k2,hk1,hk2,hk3,g1,g2⟩:=HAC.out rfl
   have a1:wrap64 (z - 3)=(k1:Int):=by unfold wrap64;omega
   have a2:wrap64 (z+3)=(k2:Int):=by unfold wrap64;omega
   have a3:IntKind.i64.wrap (z - 3)=(k1:Int):=by rw [IntKind.wrap_i64];omega
   have a4:IntKind.i64.wrap (z+3)=(k2:Int):=by rw [IntKind.wrap_i64];omega
   have HK:=Hd (show k1<k2 by omega);clear hk1 hk2 HAC;go_wp2_with fail
   go_meet
   case rel=>exact⟨k1,k2,rfl,rfl,HK.out,hk3,g1,g2,LL.out,HT.out⟩
 case rest=>
 obtain⟨lo0,hi0,rfl,rfl,hl0,hm0,hfl0,hfh0,hcl,ht⟩:=hcut;rename World=>wx;clear LL HT HAC hf0 hfM;have LL:=Hd hcl;have HT:=Hd ht;clear hcl ht;go_wp2
 go_loopw [6,7,10] (fun a b _ wr=>∃ lo hi:Nat,a=.int .i64 (lo:Int)/\b=.int .i64 (hi:Int)/\lo<hi/\hi<=9218868437227405312/\f lo=true/\f hi=false/\Lies w wr [(w.heap.size,26,#[.float .f64 y]),((w.heap.size+1),3,#[.int .i64 (n:Int)]),((w.heap.size+2),78,(Zv 0 0))] []/\Tab wr) (fun a b _ _=>(intOf b - intOf a).toNat)
 case atStart=>exact⟨lo0,hi0,rfl,rfl,hl0,hm0,hfl0,hfh0,LL.out,HT.out⟩
 case round=>
  obtain⟨lo,hi,rfl,rfl,hl,hm,hfl,hfh,hcl,ht⟩:=hrel;rename World=>wr;clear LL HT hl0 hm0 hfl0 hfh0;have LL:=Hd hcl;have HT:=Hd ht;clear hcl ht
  obtain⟨D,hD0⟩:∃ D:Nat,hi=lo+D:=⟨hi - lo,by omega⟩
  subst hD0
  obtain⟨LO,hLO⟩:∃ z:Int,(lo:Int)=z:=⟨_,rfl⟩
  obtain⟨HI,hHI⟩:∃ z:Int,((lo+D:Nat):Int)=z:=⟨_,rfl⟩
  have b1:wrap64 (HI - LO)=(D:Int):=by unfold wrap64;omega
  have b2:IntKind.i64.wrap (HI - LO)=(D:Int):=by rw [IntKind.wrap_i64];omega
  rw [hLO,hHI]
  by_cases hd:1<D
  ·skip
   obtain⟨m,hm1⟩:∃ m:Nat,LO+(D:Int) / 2=(m:Int):=⟨lo+D / 2,by omega⟩
   have b3:wrap64 (LO+(D:Int) / 2)=(m:Int):=by unfold wrap64;omega
   have b4:IntKind.i64.wrap (LO+(D:Int) / 2)=(m:Int):=by rw [IntKind.wrap_i64];omega
   have b5:(1:Int)<(D:Int):=by omega
   have b6:(D:Int).tdiv 2=(D:Int) / 2:=Int.tdiv_eq_ediv_of_nonneg (by omega);have HM:=Hd (show lo<m/\m<lo+D by omega);have HLO:=Hd hLO;have HHI:=Hd hHI;clear hm1 hLO hHI;have q3_0:=(LL.out.blk 0 rfl).ce 0 rfl;have q4_0:=(LL.out.blk 1 rfl).ce 0 rfl;go_wp2_with fail;refine cx (HC.out m _ (by have:=HM.out;omega) q4_0 q3_0 HT.out (by have:=(LL.out.blk 1 rfl).lt;exact this)) fun wk hb=>?_;replace LL:=stL LL hb;replace HT:=Hd (HT.out.below hb);clear hb q3_0 q4_0
   cases g:f m
   ·go_wp2
    exact⟨⟨lo,m,by rw [HLO.out],rfl,HM.out.1,by have:=HM.out;omega,hfl,g,LL.out,HT.out⟩,by have:=HM.out;have:=HLO.out;have:=HHI.out;simp [intOf];omega⟩
   ·go_wp2
    exact⟨⟨m,lo+D,rfl,by rw [HHI.out],HM.out.2,hm,g,hfh,LL.out,HT.out⟩,by have:=HM.out;have:=HLO.out;have:=HHI.out;simp [intOf];omega⟩
  ·skip
   obtain rfl:D=1:=by omega
   have c1:¬ (1:Int)<((1:Nat):Int):=by omega
   subst hLO;subst hHI;have HO1:=Hd (HO1.out lo (by omega));have HO2:=Hd (HO2.out lo (by omega));have HP1:=Hd fun W=>HP1.out lo W (by omega);have HP2:=Hd fun W=>HP2.out lo W (by omega);have HA1:=Hd fun W=>HA.out lo W (by omega);have HA2:=Hd fun W=>HA.out (lo+1) W (by omega);have HFF:=Hd (show lo<9218868437227405312/\f lo=true/\f (lo+1)=false from⟨by omega,hfl,hfh⟩)
   obtain⟨R1,hR1⟩:∃ z,r1 lo=z:=⟨_,rfl⟩
   obtain⟨R2,hR2⟩:∃ z,r2 lo=z:=⟨_,rfl⟩
   obtain⟨q1,hq1⟩:∃ z,o1 lo=z:=⟨_,rfl⟩
   obtain⟨q2,hq2⟩:∃ z,o2 lo=z:=⟨_,rfl⟩
   rw [hR1] at HP1 HO1;rw [hR2] at HP2 HO2;rw [hq1] at HO1;rw [hq2] at HO2;have HQ:=Hd (show o1 lo=q1/\o2 lo=q2 from⟨hq1,hq2⟩);clear hR1 hR2 hq1 hq2 hfl hfh hl hm HC HA hd;go_wp2_with fail;refine cx (HA1.out _) fun wk hb=>?_;replace LL:=stL LL hb;replace HT:=Hd (HT.out.below hb);clear hb;go_wp2_with fail
   cases q1
   ·skip;have ho1:=HO1.out;refine regL LL (fun hHeld=>?_);clear LL;replace HT:=Hd (HT.out.below (Below.refl _ _).drew);generalize World.drew _=wk at hHeld HT ⊢;refine tks 0 ?_;refine tkb 1 (fun _ h=>(h.blk 1 rfl).ce 0 rfl) ?_;refine tks 2 ?_;refine tkb 4 (fun _ h=>(h.blk 0 rfl).ce 0 rfl) ?_;refine rdy 3 fun KK hKK=>?_;go_simp;refine cs (HP1.out _ HT.out) ?_;clear hKK KK hHeld;intro wk hbp1 hHeld;replace HT:=Hd (HT.out.below hbp1);clear hbp1;refine tks 5 ?_;refine tks 6 ?_;refine tkns 7 ?_;refine tkns 8 ?_;refine tkns 9 ?_;refine tkns 10 ?_;refine tkns 11 ?_;refine tkns 12 ?_;refine tks 13 ?_;refine wpAnyH_done (by kernel_rfl) ?_ _;have LL:=Hd hHeld;clear hHeld;clear ho1;go_wp2_with fail;refine cx (HA2.out _) fun wk hb=>?_;replace LL:=stL LL hb;replace HT:=Hd (HT.out.below hb);clear hb;clear HT;replace LL:=Hd (LL.out.loose2 rfl);obtain⟨ha4_0,hf4_0,ha4_1,hf4_1⟩:=(LL.out.has 0 rfl).sf2;have LF:=Hd (LL.out.wr [.float .f64 lo,.float .f64 (lo+1)]);obtain⟨hk4_0,hk4_1⟩:=(LF.out.blk 2 rfl).c2
    simp [sets] at hk4_0 hk4_1
    clear LL;go_wp2;refine bodyPost_ret (v:=.agg #[.float .f64 lo,.float .f64 (lo+1)]) (by simp [results,Tryz.results220,go_sem,hk4_0,hk4_1]) rfl ?_
    exact⟨lo,HFF.out.1,HFF.out.2.1,HFF.out.2.2,by rw [HQ.out.1,HQ.out.2,if_neg (by simp)],LF.out.b⟩
   ·cases q2
    ·skip;have ho1:=HO1.out;have ho2:=HO2.out;refine regL LL (fun hHeld=>?_);clear LL;replace HT:=Hd (HT.out.below (Below.refl _ _).drew);generalize World.drew _=wk at hHeld HT ⊢;refine tks 0 ?_;refine tkb 1 (fun _ h=>(h.blk 1 rfl).ce 0 rfl) ?_;refine tks 2 ?_;refine tkb 4 (fun _ h=>(h.blk 0 rfl).ce 0 rfl) ?_;refine rdy 3 fun KK hKK=>?_;go_simp;refine cs (HP1.out _ HT.out) ?_;clear hKK KK hHeld;intro wk hbp1 hHeld;replace HT:=Hd (HT.out.below hbp1);clear hbp1;refine tks 5 ?_;refine tks 6 ?_;refine tks 7 ?_;refine tkb 8 (fun _ h=>(h.blk 1 rfl).ce 0 rfl) ?_;refine tks 9 ?_;refine tkb 11 (fun _ h=>(h.blk 0 rfl).ce 0 rfl) ?_;refine rdy 10 fun KK hKK=>?_;go_simp;refine cs (HP2.out _ HT.out) ?_;clear hKK KK hHeld;intro wk hbp2 hHeld;replace HT:=Hd (HT.out.below hbp2);clear hbp2;refine tks 12 ?_;refine tks 13 ?_;refine wpAnyH_done (by kernel_rfl) ?_ _;have LL:=Hd hHeld;clear hHeld;clear ho1 ho2;go_wp2_with fail;refine cx (HA2.out _) fun wk hb=>?_;replace LL:=stL LL hb;replace HT:=Hd (HT.out.below hb);clear hb;clear HT;replace LL:=Hd (LL.out.loose2 rfl);obtain⟨ha4_0,hf4_0,ha4_1,hf4_1⟩:=(LL.out.has 0 rfl).sf2;have LF:=Hd (LL.out.wr [.float .f64 lo,.float .f64 (lo+1)]);obtain⟨hk4_0,hk4_1⟩:=(LF.out.blk 2 rfl).c2
     simp [sets] at hk4_0 hk4_1
     clear LL;go_wp2;refine bodyPost_ret (v:=.agg #[.float .f64 lo,.float .f64 (lo+1)]) (by simp [results,Tryz.results220,go_sem,hk4_0,hk4_1]) rfl ?_
     exact⟨lo,HFF.out.1,HFF.out.2.1,HFF.out.2.2,by rw [HQ.out.1,HQ.out.2,if_neg (by simp)],LF.out.b⟩
    ·skip;have ho1:=HO1.out;have ho2:=HO2.out;refine regL LL (fun hHeld=>?_);clear LL;replace HT:=Hd (HT.out.below (Below.refl _ _).drew);generalize World.drew _=wk at hHeld HT ⊢;refine tks 0 ?_;refine tkb 1 (fun _ h=>(h.blk 1 rfl).ce 0 rfl) ?_;refine tks 2 ?_;refine tkb 4 (fun _ h=>(h.blk 0 rfl).ce 0 rfl) ?_;refine rdy 3 fun KK hKK=>?_;go_simp;refine cs (HP1.out _ HT.out) ?_;clear hKK KK hHeld;intro wk hbp1 hHeld;replace HT:=Hd (HT.out.below hbp1);clear hbp1;refine tks 5 ?_;refine tks 6 ?_;refine tks 7 ?_;refine tkb 8 (fun _ h=>(h.blk 1 rfl).ce 0 rfl) ?_;refine tks 9 ?_;refine tkb 11 (fun _ h=>(h.blk 0 rfl).ce 0 rfl) ?_;refine rdy 10 fun KK hKK=>?_;go_simp;refine cs (HP2.out _ HT.out) ?_;clear hKK KK hHeld;intro wk hbp2 hHeld;replace HT:=Hd (HT.out.below hbp2);clear hbp2;refine tks 12 ?_;refine tks 13 ?_;refine wpAnyH_done (by kernel_rfl) ?_ _;have LL:=Hd hHeld;clear hHeld;clear ho1 ho2;go_wp2_with fail;refine cx (HB.out lo _) fun wk hb=>?_;replace LL:=stL LL hb;replace HT:=Hd (HT.out.below hb);clear hb;clear HT;replace LL:=Hd (LL.out.loose2 rfl);obtain⟨ha4_0,hf4_0,ha4_1,hf4_1⟩:=(LL.out.has 0 rfl).sf2;have LF:=Hd (LL.out.wr [.float .f64 lo,.float .f64 lo]);obtain⟨hk4_0,hk4_1⟩:=(LF.out.blk 2 rfl).c2
     simp [sets] at hk4_0 hk4_1
     clear LL;go_wp2;refine bodyPost_ret (v:=Zf lo lo) (by simp [results,Tryz.results220,go_sem,hk4_0,hk4_1]) rfl ?_
     exact⟨lo,HFF.out.1,HFF.out.2.1,HFF.out.2.2,by rw [HQ.out.1,HQ.out.2,if_pos ⟨rfl,rfl⟩],LF.out.b⟩
    ·skip;have ho1:=HO1.out;have ho2:=HO2.out;refine regL LL (fun hHeld=>?_);clear LL;replace HT:=Hd (HT.out.below (Below.refl _ _).drew);generalize World.drew _=wk at hHeld HT ⊢;refine tks 0 ?_;refine tkb 1 (fun _ h=>(h.blk 1 rfl).ce 0 rfl) ?_;refine tks 2 ?_;refine tkb 4 (fun _ h=>(h.blk 0 rfl).ce 0 rfl) ?_;refine rdy 3 fun KK hKK=>?_;go_simp;refine cs (HP1.out _ HT.out) ?_;clear hKK KK hHeld;intro wk hbp1 hHeld;replace HT:=Hd (HT.out.below hbp1);clear hbp1;refine tks 5 ?_;refine tks 6 ?_;refine tks 7 ?_;refine tkb 8 (fun _ h=>(h.blk 1 rfl).ce 0 rfl) ?_;refine tks 9 ?_;refine tkb 11 (fun _ h=>(h.blk 0 rfl).ce 0 rfl) ?_;refine rdy 10 fun KK hKK=>?_;go_simp;refine cs (HP2.out _ HT.out) ?_;clear hKK KK hHeld;intro wk hbp2 hHeld;replace HT:=Hd (HT.out.below hbp2);clear hbp2;refine tks 12 ?_;refine tks 13 ?_;refine wpAnyH_done (by kernel_rfl) ?_ _;have LL:=Hd hHeld;clear hHeld;clear ho1 ho2;go_wp2_with fail;refine cx (HA2.out _) fun wk hb=>?_;replace LL:=stL LL hb;replace HT:=Hd (HT.out.below hb);clear hb;clear HT;replace LL:=Hd (LL.out.loose2 rfl);obtain⟨ha4_0,hf4_0,ha4_1,hf4_1⟩:=(LL.out.has 0 rfl).sf2;have LF:=Hd (LL.out.wr [.float .f64 lo,.float .f64 (lo+1)]);obtain⟨hk4_0,hk4_1⟩:=(LF.out.blk 2 rfl).c2
     simp [sets] at hk4_0 hk4_1
     clear LL;go_wp2;refine bodyPost_ret (v:=.agg #[.float .f64 lo,.float .f64 (lo+1)]) (by simp [results,Tryz.results220,go_sem,hk4_0,hk4_1]) rfl ?_
     exact⟨lo,HFF.out.1,HFF.out.2.1,HFF.out.2.2,by rw [HQ.out.1,HQ.out.2,if_neg (by simp)],LF.out.b⟩
   ·skip;have ho1:=HO1.out;refine regL LL (fun hHeld=>?_);clear LL;replace HT:=Hd (HT.out.below (Below.refl _ _).drew);generalize World.drew _=wk at hHeld HT ⊢;refine tks 0 ?_;refine tkb 1 (fun _ h=>(h.blk 1 rfl).ce 0 rfl) ?_;refine tks 2 ?_;refine tkb 4 (fun _ h=>(h.blk 0 rfl).ce 0 rfl) ?_;refine rdy 3 fun KK hKK=>?_;go_simp;refine cs (HP1.out _ HT.out) ?_;clear hKK KK hHeld;intro wk hbp1 hHeld;replace HT:=Hd (HT.out.below hbp1);clear hbp1;refine tks 5 ?_;refine tks 6 ?_;refine tkns 7 ?_;refine tkns 8 ?_;refine tkns 9 ?_;refine tkns 10 ?_;refine tkns 11 ?_;refine tkns 12 ?_;refine tks 13 ?_;refine wpAnyH_done (by kernel_rfl) ?_ _;have LL:=Hd hHeld;clear hHeld;clear ho1;go_wp2_with fail;refine cx (HA2.out _) fun wk hb=>?_;replace LL:=stL LL hb;replace HT:=Hd (HT.out.below hb);clear hb;clear HT;replace LL:=Hd (LL.out.loose2 rfl);obtain⟨ha4_0,hf4_0,ha4_1,hf4_1⟩:=(LL.out.has 0 rfl).sf2;have LF:=Hd (LL.out.wr [.float .f64 lo,.float .f64 (lo+1)]);obtain⟨hk4_0,hk4_1⟩:=(LF.out.blk 2 rfl).c2
    simp [sets] at hk4_0 hk4_1
    clear LL;go_wp2;refine bodyPost_ret (v:=.agg #[.float .f64 lo,.float .f64 (lo+1)]) (by simp [results,Tryz.results220,go_sem,hk4_0,hk4_1]) rfl ?_
    exact⟨lo,HFF.out.1,HFF.out.2.1,HFF.out.2.2,by rw [HQ.out.1,HQ.out.2,if_neg (by simp)],LF.out.b⟩
end
section
open Go.RowKit Ieee
theorem quo_digits(N n:Nat)(hn:0<n)(A:Nat):(A*n<=2*N->A<=2*(N / n)+(N % n != 0).toNat)/\(2*N<=A*n->2*(N / n)+(N % n != 0).toNat<=A):=by
 have h1:=Nat.div_add_mod N n;have h2:=Nat.mod_lt N hn;generalize N / n=q at *;generalize N % n=r at *;rw [<- h1]
 have e:2*(n*q+r)=(2*q)*n+2*r:=by
  rw [Nat.mul_add,Nat.mul_comm n q,Nat.mul_assoc]
 rw [e]
 by_cases r0:r=0
 ·subst r0;have z:((0:Nat) != 0).toNat=0:=rfl;rw [z]
  exact⟨fun h=>Nat.le_of_mul_le_mul_right (by omega:A*n<=(2*q)*n) hn,fun h=>Nat.le_of_mul_le_mul_right (by omega:(2*q+0)*n<=A*n) hn⟩
 ·have z:(r != 0).toNat=1:=by simp [r0]
  rw [z]
  have e2:(2*q+2)*n=2*q*n+2*n:=by rw [Nat.add_mul]
  constructor
  ·intro h;have:=Nat.lt_of_mul_lt_mul_right (a:=n) (show A*n<(2*q+2)*n by omega)
   omega
  ·intro h;have:=Nat.lt_of_mul_lt_mul_right (a:=n) (show (2*q)*n<A*n by omega)
   omega
theorem quo_great(m n:Nat)(hm:m≠0)(hn:n≠0):2^53*n<=m*2^(54+n.log2 - m.log2):=by
 have h1:=Nat.log2_self_le hm;have h2:n<2^(n.log2+1):=Nat.lt_log2_self;have h3:2^(n.log2+54)<=2^(m.log2+(54+n.log2 - m.log2)):=Nat.pow_le_pow_right (by omega) (by omega);have h4:2^m.log2*2^(54+n.log2 - m.log2)<=m*2^(54+n.log2 - m.log2):=Nat.mul_le_mul_right _ h1
 have h5:(2:Nat)^(n.log2+54)=2^53*2^(n.log2+1):=by rw [<- Nat.pow_add];congr 1;omega
 rw [<- Nat.pow_add] at h4;have h6:2^53*n<=2^53*2^(n.log2+1):=Nat.mul_le_mul_left _ (by omega)
 omega
theorem mag_even{i K:Nat}(h:2^54*2^K<=mag i):∃ B:Nat,mag i=2*B*2^K:=by
 obtain⟨k,q,e,hk,hq⟩:=rung_form i
 have hm:mag i=q*2^k:=by rw [e];exact mag_form k q hk (by omega)
 have hk2:K+1<=k:=by
  rcases Nat.lt_or_ge k (K+1) with c | c
  ·exfalso
   have h1:2^k<=2^K:=Nat.pow_le_pow_right (by omega) (by omega);have h2:q*2^k<=2^53*2^K:=Nat.mul_le_mul (by omega) h1;have:=Nat.two_pow_pos K
   omega
  ·exact c
 refine⟨q*2^(k - K - 1),?_⟩;rw [hm]
 have e2:(2:Nat)^k=2*2^(k - K - 1)*2^K:=by
  rw [Nat.mul_assoc,<- Nat.pow_add,<- Nat.pow_succ'];congr 1;omega
 rw [e2];ac_rfl
theorem div_pos{x y U:Nat}(hU:U=1074)(hx:fin x)(hy:fin y)(sx:sgn x=false)(sy:sgn y=false)(h0:rungOf x≠0)(h1:rungOf y≠0):
  ∃ r t:Nat,double.div x y=some r/\Is r (t:Int)/\t<=M/\(∀ i:Nat,i<=M->mag i*mag (rungOf y)<=mag (rungOf x)*2^U->i<=t)/\(∀ i:Nat,mag (rungOf x)*2^U<=mag i*mag (rungOf y)->t<=i):=by
 obtain⟨m,k,ex,hm,-⟩:=read_fin hx;obtain⟨n,l,ey,hn,-⟩:=read_fin hy;clear hx hy;have m0:=digits_pos hm h0;have n0:=digits_pos hn h1
 have n1:0<n:=by omega
 obtain⟨more,hmore⟩:∃ more,54+n.log2 - m.log2=more:=⟨_,rfl⟩
 have great:=quo_great m n m0 n0;rw [hmore] at great
 obtain⟨N,hN⟩:∃ N,m*2^more=N:=⟨_,rfl⟩
 rw [hN] at great
 obtain⟨T,hT⟩:∃ T,2*(N / n)+(N % n != 0).toNat=T:=⟨_,rfl⟩
 have hquo:=fun A=>quo_digits N n n1 A;rw [hT] at hquo
 have hr:double.div x y=some (double.nearest false T (-1074+(k:Int) - (-1074+(l:Int)) - (more:Int) - 1)):=by
  unfold Format.div;rw [ex,ey]
  simp only [Datum.quotient]
  rw [if_neg n0]
  simp only [Option.map_some,write_num]
  rw [show double.fractionBits+2=54 from by decide,hmore,Nat.shiftLeft_eq,hN,hT,sx,sy]
  rfl
 rw [hr,<- hm,<- hn]
 have T54:2^54<=T:=(hquo (2^54)).1 (by
  have:2^54*n=2*(2^53*n):=by rw [<- Nat.mul_assoc]
  omega)
 rcases Nat.le_total (k+U) (l+more+1) with c | c
 ·obtain⟨d,hd⟩:∃ d,l+more+1=k+U+d:=⟨l+more+1 - (k+U),by omega⟩
  rw [show (-1074+(k:Int) - (-1074+(l:Int)) - (more:Int) - 1)=-1074 - (d:Int) from by omega,nearest_low]
  have hp:2^k*2^U*2^d=2*2^more*2^l:=by
   rw [<- Nat.pow_add,<- Nat.pow_add,<- Nat.pow_succ',<- Nat.pow_add];congr 1;omega
  have key:∀ i:Nat,mag i*(n*2^l)*2^d=(mag i*2^d*n)*2^l:=fun i=>by ac_rfl
  have key2:m*2^k*2^U*2^d=(2*N)*2^l:=by
   rw [<- hN]
   calc m*2^k*2^U*2^d=m*(2^k*2^U*2^d):=by ac_rfl
    _=m*(2*2^more*2^l):=by rw [hp]
    _=_:=by ac_rfl
  refine⟨_,min (nearRung T d) M,rfl,?_,Nat.min_le_right _ _,fun i hi h=>?_,fun i h=>?_⟩
  ·have:=Is.word false (r:=min (nearRung T d) M) (Nat.min_le_right _ _)
   exact this
  ·have h2:=Nat.mul_le_mul_right (2^d) h;rw [key,key2] at h2;have h3:=(hquo _).1 (Nat.le_of_mul_le_mul_right h2 (Nat.two_pow_pos l))
   exact Nat.le_min.2 ⟨le_nearRung h3,hi⟩
  ·have h2:=Nat.mul_le_mul_right (2^d) h;rw [key,key2] at h2;have h3:=(hquo _).2 (Nat.le_of_mul_le_mul_right h2 (Nat.two_pow_pos l))
   exact Nat.le_trans (Nat.min_le_left _ _) (nearRung_le h3)
 ·obtain⟨K,hK⟩:∃ K,k+U=l+more+1+K:=⟨k+U - (l+more+1),by omega⟩
  rw [show (-1074+(k:Int) - (-1074+(l:Int)) - (more:Int) - 1)=-1074+(K:Int) from by omega,nearest_high]
  have hp:2^k*2^U=2*2^more*2^K*2^l:=by
   rw [<- Nat.pow_add,<- Nat.pow_succ',<- Nat.pow_add,<- Nat.pow_add];congr 1;omega
  have key:∀ i:Nat,mag i*(n*2^l)=(mag i*n)*2^l:=fun i=>by ac_rfl
  have key2:m*2^k*2^U=(2*N*2^K)*2^l:=by
   rw [<- hN]
   calc m*2^k*2^U=m*(2^k*2^U):=by ac_rfl
    _=m*(2*2^more*2^K*2^l):=by rw [hp]
    _=_:=by ac_rfl
  have hK0:=Nat.two_pow_pos K;refine⟨_,min (nearRung (T*2^K) 0) M,rfl,?_,Nat.min_le_right _ _,fun i hi h=>?_,fun i h=>?_⟩
  ·have:=Is.word false (r:=min (nearRung (T*2^K) 0) M) (Nat.min_le_right _ _)
   exact this
  ·rw [key,key2] at h;have h2:=Nat.le_of_mul_le_mul_right h (Nat.two_pow_pos l)
   have h3:mag i*2^0<=T*2^K:=by
    rw [Nat.pow_zero,Nat.mul_one]
    rcases Nat.lt_or_ge (mag i) (2^54*2^K) with g | g
    ·have:=Nat.mul_le_mul_right (2^K) T54
     omega
    ·obtain⟨B,hB⟩:=mag_even g;rw [hB] at h2 ⊢
     have h4:(2*B*n)*2^K<=(2*N)*2^K:=by
      have:2*B*2^K*n=(2*B*n)*2^K:=by ac_rfl
      omega
     exact Nat.mul_le_mul_right _ ((hquo _).1 (Nat.le_of_mul_le_mul_right h4 hK0))
   exact Nat.le_min.2 ⟨le_nearRung h3,hi⟩
  ·rw [key,key2] at h;have h2:=Nat.le_of_mul_le_mul_right h (Nat.two_pow_pos l)
   have h3:T*2^K<=mag i*2^0:=by
    rw [Nat.pow_zero,Nat.mul_one]
    rcases Nat.lt_or_ge (mag i) (2^54*2^K) with g | g
    ·exfalso
     have h5:mag i*n<2^54*2^K*n:=(Nat.mul_lt_mul_right n1).2 g;have h6:2*(2^53*n)*2^K<=2*N*2^K:=Nat.mul_le_mul_right _ (Nat.mul_le_mul_left _ great)
     have h7:2*(2^53*n)*2^K=2^54*2^K*n:=by
      rw [<- Nat.mul_assoc 2 (2^53) n,<- Nat.pow_succ'];ac_rfl
     omega
    ·obtain⟨B,hB⟩:=mag_even g;rw [hB] at h2 ⊢
     have h4:(2*N)*2^K<=(2*B*n)*2^K:=by
      have:2*B*2^K*n=(2*B*n)*2^K:=by ac_rfl
      omega
     exact Nat.mul_le_mul_right _ ((hquo _).2 (Nat.le_of_mul_le_mul_right h4 hK0))
   exact Nat.le_trans (Nat.min_le_left _ _) (nearRung_le h3)
end
section
open Ieee
def fI(a D:Int):Int:=a / D
def cI(a D:Int):Int:=-((-a) / D)
def tI(a D:Int):Int:=if a<0 then cI a D else fI a D
def eI(a D:Int):Int:=a / D+(if D<2*(a % D)\/(D=2*(a % D)/\(a / D) % 2=1) then 1 else 0)
theorem neg_div{a D:Int}(hD:0<D):(-a) / D=-(a / D) - (if a % D=0 then 0 else 1)/\(-a) % D=if a % D=0 then 0 else D - a % D:=by
 have h1:=Int.emod_nonneg a (by omega:D≠0);have h2:=Int.emod_lt_of_pos a hD;have h3:=Int.mul_ediv_add_emod a D
 split<;>rename_i h0
 ·rw [h0] at h3
  have e:-a=D*(-(a / D)):=by rw [Int.mul_neg];omega
  refine⟨?_,?_⟩
  ·rw [e,Int.mul_ediv_cancel_left _ (by omega)];omega
  ·rw [e,Int.mul_emod_right]
 ·have e:-a=(D - a % D)+D*(-(a / D) - 1):=by
   have:D*(-(a / D) - 1)=-(D*(a / D)) - D:=by rw [Int.mul_sub,Int.mul_neg,Int.mul_one]
   rw [this];omega
  have e1:(D - a % D) / D=0:=Int.ediv_eq_zero_of_lt (by omega) (by omega);have e2:(D - a % D) % D=D - a % D:=Int.emod_eq_of_lt (by omega) (by omega);refine⟨?_,?_⟩
  ·rw [e,Int.add_mul_ediv_left _ _ (by omega),e1];omega
  ·rw [e,Int.add_mul_emod_self_left,e2]
theorem toNat_if{p:Prop}[Decidable p]:(decide p).toNat=if p then 1 else 0:=by by_cases h:p<;>simp [h]
theorem cut_way(way:Toward)(hw:way≠.even)(neg:Bool)(n k:Nat):way.cut neg n k=n / 2^k+if (way=.down/\neg=true\/way=.up/\neg=false)/\n % 2^k≠0 then 1 else 0:=by
 unfold Toward.cut
 simp only [Nat.shiftLeft_eq,Nat.one_mul]
 rcases Nat.lt_or_ge (n.log2+2) k with h | h
 ·rw [Nat.min_eq_right (by omega)];have h2:n<2^(n.log2+1):=Nat.lt_log2_self;have h3:2^(n.log2+2)<=2^k:=Nat.pow_le_pow_right (by omega) (by omega)
  have h4:2^(n.log2+2)=2*2^(n.log2+1):=by rw [Nat.pow_succ];omega
  rw [Nat.div_eq_of_lt (by omega),Nat.div_eq_of_lt (show n<2^k by omega),Nat.mod_eq_of_lt (by omega),Nat.mod_eq_of_lt (show n<2^k by omega)]
  cases way
  ·exact absurd rfl hw
  all_goals
   cases neg<;>by_cases h0:n=0<;>simp [h0]
 ·rw [Nat.min_eq_left h]
  cases way
  ·exact absurd rfl hw
  all_goals
   cases neg<;>by_cases h0:n % 2^k=0<;>simp [h0]
def gI:Toward->Int->Int->Int
 | .down=>fI | .up=>cI | .zero=>tI | .even=>eI
theorem cut_gI(way:Toward)(s:Bool)(n k:Nat):(if s then -(way.cut s n k:Int) else (way.cut s n k:Int))=gI way (if s then -(n:Int) else n) ((2^k:Nat):Int):=by
 have hp:=Nat.two_pow_pos k;generalize hD:(2^k:Nat)=D at *
 have hq:((n:Int) / D)=((n / D:Nat):Int):=by simp
 have hr:((n:Int) % D)=((n % D:Nat):Int):=by simp
 have hlt:=Nat.mod_lt n hp;obtain⟨e1,e2⟩:=neg_div (a:=(n:Int)) (D:=(D:Int)) (by omega);rw [hq,hr] at e1;rw [hr] at e2
 have hn:(n % D=0->n / D=0->n=0):=fun a b=>by have:=Nat.div_add_mod n D;rw [a,b] at this;omega
 by_cases hw:way=.even
 ·subst hw;rw [cut_even]
  have eb:(bump n k).toNat=if D<2*(n % D)\/D=2*(n % D)/\n / D % 2=1 then 1 else 0:=by
   rw [<- toNat_if];unfold bump;rw [hD]
   congr 1
   rw [Bool.eq_iff_iff]
   simp
  rw [eb,hD];unfold gI eI
  cases s
  ·simp only [Bool.false_eq_true,if_false]
   rw [hq,hr];generalize n / D=q at *;generalize n % D=r at *;clear hq hr e1 e2 eb hn
   by_cases c:D<2*r\/D=2*r/\q % 2=1
   ·rw [if_pos c,if_pos (by omega)];omega
   ·rw [if_neg c,if_neg (by omega)];omega
  ·simp only [if_true]
   rw [e1,e2];generalize n / D=q at *;generalize n % D=r at *;clear hq hr e1 e2 eb hn
   by_cases c0:r=0
   ·subst c0;have z:((0:Nat):Int)=0:=rfl;rw [if_neg (show ¬ (D<2*0\/D=2*0/\q % 2=1) by omega)]
    simp only [z,if_true]
    rw [if_neg (by omega)];omega
   ·rw [if_neg (show ¬ (r:Int)=0 by omega),if_neg (show ¬ (r:Int)=0 by omega)]
    by_cases c:D<2*r\/D=2*r/\q % 2=1
    ·rw [if_pos c,if_neg (show ¬ ((D:Int)<2*((D:Int) - (r:Int))\/(D:Int)=2*((D:Int) - (r:Int))/\(-(q:Int) - 1) % 2=1) by omega)];omega
    ·rw [if_neg c,if_pos (show ((D:Int)<2*((D:Int) - (r:Int))\/(D:Int)=2*((D:Int) - (r:Int))/\(-(q:Int) - 1) % 2=1) by omega)];omega
 ·rw [cut_way way hw,hD]
  have hz:(n:Int)<0↔False:=⟨fun h=>absurd h (by omega),False.elim⟩
  have hz':-(n:Int)<0↔n≠0:=⟨fun h=>by omega,fun h=>by omega⟩
  have h0:n=0->n / D=0/\n % D=0:=by rintro rfl;simp
  have hne:(-(n:Int)) / D=-((n / D:Nat):Int) - if ((n % D:Nat):Int)=0 then 0 else 1:=e1
  cases way
  ·exact absurd rfl hw
  all_goals
   cases s
   all_goals
    simp only [gI,fI,cI,tI,Bool.false_eq_true,if_false,if_true,Int.neg_neg,hne,hq,hz,hz']
    generalize n / D=q at *;generalize n % D=r at *;clear hq hr e1 e2 hne
    by_cases c0:r=0
    ·first
     | (by_cases c1:n=0<;>simp [c0,c1]<;>omega)
     | (simp [c0]<;>omega)
    ·first
     | (by_cases c1:n=0<;>simp [c0,c1]<;>omega)
     | (simp [c0]<;>omega)
def rK:Nat->Rat->Int
 | 0,x=>if x<0 then -1 else if x=0 then 0 else 1
 | 1,x=>x.floor
 | 2,x=>x.ceil
 | 3,x=>if x<0 then x.ceil else x.floor
 | 4,x=>x.floor+if (1/2:Rat)<x - x.floor\/x - x.floor=1/2/\x.floor % 2=1 then 1 else 0
 | _,x=>x.floor+if (1/2:Rat)<x - x.floor\/x - x.floor=1/2/\0<=x then 1 else 0
section
variable {x:Rat} {a D:Int}
theorem rmul_le{a b c:Rat}(hc:0<c):a*c<=b*c↔a<=b:=by
 rw [<- Rat.not_lt,<- Rat.not_lt,Rat.mul_lt_mul_right hc]
theorem fdiv_floor(hD:0<D)(h:x*D=a):a / D=x.floor:=by
 have hD':(0:Rat)<(D:Rat):=by rw [<- Rat.intCast_zero,Rat.intCast_lt_intCast];exact hD
 apply Int.le_antisymm
 ·rw [Rat.le_floor_iff,<- rmul_le hD',h,<- Rat.intCast_mul,Rat.intCast_le_intCast]
  exact Int.ediv_mul_le _ (by omega)
 ·rw [Int.le_ediv_iff_mul_le hD,<- Rat.intCast_le_intCast,Rat.intCast_mul,<- h,rmul_le hD']
  exact Rat.floor_le x
theorem cdiv_ceil(hD:0<D)(h:x*D=a):-((-a) / D)=x.ceil:=by
 rw [fdiv_floor (x:=-x) hD (by rw [Rat.intCast_neg,<- h];grind),Rat.ceil_eq_neg_floor_neg]
theorem a_lt_zero(hD:0<D)(h:x*D=a):a<0↔x<0:=by
 have hD':(0:Rat)<(D:Rat):=by rw [<- Rat.intCast_zero,Rat.intCast_lt_intCast];exact hD
 have k:=Rat.mul_lt_mul_right (a:=x) (b:=0) hD';rw [Rat.zero_mul] at k;rw [<- Rat.intCast_lt_intCast,<- h,Rat.intCast_zero,k]
theorem rest_half(hD:0<D)(h:x*D=a):(D<2*(a % D)↔(1/2:Rat)<x - x.floor)/\(D=2*(a % D)↔x - x.floor=1/2):=by
 have hD':(0:Rat)<(D:Rat):=by rw [<- Rat.intCast_zero,Rat.intCast_lt_intCast];exact hD
 have e:((a % D:Int):Rat)=(x - x.floor)*D:=by
  rw [Int.emod_def,fdiv_floor hD h,Rat.intCast_sub,Rat.intCast_mul,<- h];grind
 have e2:((2*(a % D):Int):Rat)=2*(x - x.floor)*D:=by rw [Rat.intCast_mul,e];grind
 have l:∀ y:Rat,((D:Rat)<2*y*D↔(1/2:Rat)<y)/\((D:Rat)=2*y*D↔y=1/2):=by
  intro y;refine⟨⟨fun k=>?_,fun k=>?_⟩,fun k=>?_,fun k=>?_⟩
  ·have k':1*(D:Rat)<2*y*D:=by grind
   rw [Rat.mul_lt_mul_right hD'] at k'
   grind
  ·have k':1*(D:Rat)<2*y*D:=by rw [Rat.mul_lt_mul_right hD'];grind
   grind
  ·have k':(2*y - 1)*(D:Rat)=0:=by grind
   rcases Rat.mul_eq_zero.1 k' with k'' | k''<;>grind
  ·subst k;grind
 constructor
 ·rw [<- Rat.intCast_lt_intCast,e2,(l _).1]
 ·rw [<- Rat.intCast_inj,e2,(l _).2]
theorem eI_rK(hD:0<D)(h:x*D=a):eI a D=rK 4 x:=by
 unfold eI rK
 simp only [(rest_half hD h).1,(rest_half hD h).2,fdiv_floor hD h]
def kW:Toward->Nat
 | .down=>1 | .up=>2 | .zero=>3 | .even=>4
theorem gI_rK(way:Toward)(hD:0<D)(h:x*D=a):gI way a D=rK (kW way) x:=by
 cases way
 ·exact eI_rK hD h
 ·exact fdiv_floor hD h
 ·exact cdiv_ceil hD h
 ·unfold gI tI kW rK cI fI
  simp only [a_lt_zero hD h,cdiv_ceil hD h,fdiv_floor hD h]
end
theorem fl_mul{U:Nat}(hU:U=1074)(i:Int):fl i*(((2^U:Nat):Int):Rat)=(val i:Rat):=by
 unfold fl;have e:(((2^U:Nat):Int):Rat)=((2^U:Nat):Rat):=rfl;rw [e,<- zpow_nat,show (-1074:Int)=-(U:Int) from by omega,Rat.mul_assoc,<- zpow_add,show -(U:Int)+(U:Int)=0 from by omega,Rat.zpow_zero,Rat.mul_one]
theorem rK_near{w:Nat}(hw:1<=w)(x:Rat):x.floor<=rK w x/\rK w x<=x.floor+1:=by
 have hc:x.floor<=x.ceil/\x.ceil<=x.floor+1:=by
  rw [Rat.ceil_eq_neg_floor_neg];have h1:=Rat.floor_le x;have h2:=Rat.lt_floor_add_one x
  have h3:x.floor<=-(-x).floor:=by
   have:(-x).floor<=-x.floor:=by
    have k:=Rat.floor_le (-x);rw [<- Rat.intCast_le_intCast,Rat.intCast_neg]
    grind
   omega
  have h4:-(x.floor+1)<=(-x).floor:=by
   rw [Rat.le_floor_iff,Rat.intCast_neg]
   grind
  omega
 match w,hw with
 | 1,_=>exact⟨Int.le_refl _,by show x.floor<=_;omega⟩
 | 2,_=>exact hc
 | 3,_=>unfold rK;split<;>omega
 | 4,_=>unfold rK;split<;>omega
 | w+5,_=>unfold rK;split<;>omega
theorem rK_int{w:Nat}(hw:1<=w)(z:Int):rK w (z:Rat)=z:=by
 have e:(z:Rat) - ((z:Rat).floor:Rat)=0:=by rw [Rat.floor_intCast];grind
 match w,hw with
 | 1,_=>exact Rat.floor_intCast z
 | 2,_=>show Rat.ceil _=z;rw [Rat.ceil_eq_neg_floor_neg,<- Rat.intCast_neg,Rat.floor_intCast];exact Int.neg_neg z
 | 3,_=>show (if _ then Rat.ceil _ else Rat.floor _)=z;rw [Rat.ceil_eq_neg_floor_neg,<- Rat.intCast_neg,Rat.floor_intCast,Rat.floor_intCast,show -(-z)=z from Int.neg_neg z];split<;>rfl
 | 4,_=>show Rat.floor _+(if _\/_ then 1 else 0)=z;rw [e,Rat.floor_intCast,if_neg (by intro h;rcases h with h | h<;>grind)];omega
 | w+5,_=>show Rat.floor _+(if _\/_ then 1 else 0)=z;rw [e,Rat.floor_intCast,if_neg (by intro h;rcases h with h | h<;>grind)];omega
theorem whole_fl{w:Nat}(hw:1<=w){i:Int}(h0:-(M:Int)<i)(h1:i<M):∃ j:Int,fl j=(rK w (fl i):Rat)/\-(M:Int)<j/\j<M:=by
 obtain⟨U,hU⟩:∃ U:Nat,U=1074:=⟨_,rfl⟩
 have hp:=Nat.two_pow_pos U
 have hD:(0:Int)<((2^U:Nat):Int):=by omega
 have hf:=fl_mul hU i
 by_cases hd:((2^U:Nat):Int) ∣ val i
 ·obtain⟨z,hz⟩:=hd
  have e:fl i=(z:Rat):=by
   have hD':(((2^U:Nat):Int):Rat)≠0:=by
    intro h;have:((2^U:Nat):Int)=0:=Rat.intCast_inj.1 (by rw [h];rfl)
    omega
   rw [hz,Rat.intCast_mul] at hf
   have k:(fl i - z)*(((2^U:Nat):Int):Rat)=0:=by grind
   rcases Rat.mul_eq_zero.1 k with k | k
   ·grind
   ·exact absurd k hD'
  refine⟨i,?_,h0,h1⟩;rw [e,rK_int hw]
 ·obtain⟨q,k,hq,hk⟩:=rep_iff.1 (Rep.val i)
  have hkU:k<U:=by
   rcases Nat.lt_or_ge k U with h | h
   ·exact h
   ·exfalso
    apply hd
    have:=Int.dvd_trans (pow_dvd_le h) (dvd_of_natAbs hk)
    rwa [Int.natCast_pow]
  have hlt:(val i).natAbs<2^53*2^U:=by
   rw [hk]
   exact Nat.lt_of_lt_of_le ((Nat.mul_lt_mul_right (Nat.two_pow_pos k)).2 hq) (Nat.mul_le_mul_left _ (Nat.pow_le_pow_right (by omega) (by omega)))
  obtain⟨n1,n2⟩:=rK_near hw (fl i);have f1:=fdiv_floor hD hf
  have hb:-(9007199254740992:Int)<=(fl i).floor/\(fl i).floor<9007199254740992:=by
   rw [<- f1];generalize (2^U:Nat)=D at *
   constructor
   ·rw [Int.le_ediv_iff_mul_le hD]
    have:(9007199254740992:Int)*(D:Int)=((2^53*D:Nat):Int):=by rw [Int.natCast_mul];rfl
    have e3:-(9007199254740992:Int)*(D:Int)=-((2^53*D:Nat):Int):=by rw [<- this,Int.neg_mul]
    omega
   ·rw [Int.ediv_lt_iff_lt_mul hD]
    have:(9007199254740992:Int)*(D:Int)=((2^53*D:Nat):Int):=by rw [Int.natCast_mul];rfl
    omega
  have hK:(rK w (fl i)).natAbs<=2^53:=by omega
  generalize rK w (fl i)=K at *
  have hrep:Rep (K*((2^U:Nat):Int)):=by
   refine rep_of_dvd U ⟨K,?_⟩ ?_
   ·rw [Int.mul_comm,Int.natCast_pow];rfl
   ·rw [Int.natAbs_mul]
    exact Nat.mul_le_mul_right _ hK
  obtain⟨j,hj⟩:=hrep;refine⟨j,?_,?_⟩
  ·have k:=fl_mul hU j;rw [hj,Rat.intCast_mul] at k
   have hD':(((2^U:Nat):Int):Rat)≠0:=by
    intro h;have:((2^U:Nat):Int)=0:=Rat.intCast_inj.1 (by rw [h];rfl)
    omega
   have k':(fl j - K)*(((2^U:Nat):Int):Rat)=0:=by grind
   rcases Rat.mul_eq_zero.1 k' with k' | k'
   ·grind
   ·exact absurd k' hD'
  ·have a1:mag j.natAbs<=mag (U*2^52+2^53):=by
    rw [<- val_natAbs,hj,mag_form U (2^53) (.inr (by omega)) (by omega),Int.natAbs_mul]
    exact Nat.mul_le_mul_right _ hK
   have a2:=mag_le_iff.1 a1;have a3:=M_val
   omega
end
end Go.Proofs.YthlmlmfebpjgdaaGreatDoor
