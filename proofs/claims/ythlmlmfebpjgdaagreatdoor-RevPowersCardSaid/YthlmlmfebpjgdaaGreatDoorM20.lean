/-
Lemmas for the statement: RofT RtP RatioT OverT QtT.
-/
import Derived.Test.YthlmlmfebpjgdaaGreatDoorM19
import Derived.Deep.DeepCutAuto
import Derived.Deep.CutBlock
import Derived.Test.YthlmlmfebpjgdaaGreatDoorM09
import Derived.Test.YthlmlmfebpjgdaaGreatDoorM11
import Derived.Test.YthlmlmfebpjgdaaGreatDoorM03
import Derived.Test.YthlmlmfebpjgdaaGreatDoorPNwT
import Derived.Test.YthlmlmfebpjgdaaGreatDoorPMinusT
import Derived.Test.YthlmlmfebpjgdaaGreatDoorM13
set_option linter.unusedSimpArgs false
set_option linter.unusedVariables false
set_option maxHeartbeats 12800000
namespace Go.Proofs.YthlmlmfebpjgdaaGreatDoor
section
open Go.RowKit Ieee
attribute [local go_sem] run_store_float run_frombits run_bitsof run_negf
theorem neg_pat{i:Int}(h0:-(M:Int)≤i)(h1:i≤M)(hi:i≠0):Op.negFloat .f64 (pat i)=pat (-i):=by
 have h:=negFloat_val (pat_lt h0 h1);rw [idx_pat h0 h1,rung_pat h0 h1] at h;have hM:M=9218868437227405312:=rfl;have h2:=pl_real h.1 (by omega);rw [h.2.2] at h2;have hc:=pat_cases h.1;unfold pl at h2;rw [if_neg (by omega),if_neg (by omega)] at h2
 exact h2
theorem beyond_any(d:Int)(neg:Bool)(w:World)(hd:d=-1∨d=1):
  Calls Tryz.prog 253 #[.int .i64 d,.bool neg] w fun e w'=>e=.returned (.float .f64 (pat (sg neg (if (decide (d=1) != neg) then M else M - 1))))∧w=w':=by
 have HP:=Hd (inf_pos w)
 have n1:Op.negFloat .f64 9218868437227405312=18442240474082181120:=by decide
 have n2:Op.negFloat .f64 9218868437227405311=18442240474082181119:=by decide
 rcases hd with rfl | rfl<;>cases neg
 ·rw [show pat (sg false (if (decide ((-1:Int)=1) != false) then M else M - 1))=9218868437227405311 from by decide]
  go_enter Tryz.func253,Tryz.ntmps253
  go_wp2_with fail;refine HP.out.mono ?_;rintro e w' ⟨rfl,rfl⟩;go_wp2
  go_ret
  exact⟨rfl,rfl⟩
 ·rw [show pat (sg true (if (decide ((-1:Int)=1) != true) then M else M - 1))=18442240474082181120 from by decide]
  go_enter Tryz.func253,Tryz.ntmps253
  go_wp2_with fail;refine HP.out.mono ?_;rintro e w' ⟨rfl,rfl⟩;go_wp2
  go_ret
  exact⟨rfl,rfl⟩
 ·rw [show pat (sg false (if (decide ((1:Int)=1) != false) then M else M - 1))=9218868437227405312 from by decide]
  go_enter Tryz.func253,Tryz.ntmps253
  go_wp2_with fail;refine HP.out.mono ?_;rintro e w' ⟨rfl,rfl⟩;go_wp2
  go_ret
  exact⟨rfl,rfl⟩
 ·rw [show pat (sg true (if (decide ((1:Int)=1) != true) then M else M - 1))=18442240474082181119 from by decide]
  go_enter Tryz.func253,Tryz.ntmps253
  go_wp2_with fail;refine HP.out.mono ?_;rintro e w' ⟨rfl,rfl⟩;go_wp2
  go_ret
  exact⟨rfl,rfl⟩
def Cutd(S:Nat)(exp E:Int)(v:Nat)(lost more:Bool):Prop:=
 (0≤E - 2 - exp→v=S / 2^(E - 2 - exp).toNat∧(lost=true↔S % 2^(E - 2 - exp).toNat≠0))∧(E - 2 - exp<0→v=S*2^(-(E - 2 - exp)).toNat∧lost=false∧more=false)
theorem of_pos(d:Int)(neg more:Bool)(A:Option Addr)(n c S p q:Nat)(xs:List Nat)(exp:Int)(w:World)(hx:U32s w A n c xs)(hS:num xs=S)(hS0:0<S)(hl:wlen xs≤16384)(hd:d=-1∨d=1)
  (hD:Dg S p q exp more)(hq:0<q)(hmore:more=true→55≤blen S)(he1:-1000000≤exp)(he2:exp≤1099511627776):
  Calls Tryz.prog 230 #[.int .i64 d,.bool neg,.slice A n c,.int .i64 exp,.bool more] w fun e w'=>e=.returned (.float .f64 (pat (rndI d (rv neg p q))))∧Below w.heap.size w w':=by
 have hL:=nlen_any A n c xs w hx;rw [hS] at hL;have hsc:=hD.sc hS0
 have hp:0<p:=by
  obtain⟨U,h1,h2,h3,h4,-⟩:=hD
  rcases Nat.eq_zero_or_pos p with h | h
  ·subst h;have:0<S*2^(exp+U).toNat*q:=Nat.mul_pos (Nat.mul_pos hS0 (Nat.two_pow_pos _)) hq
   omega
  ·exact h
 have hrnd:=(rnd_ans (neg:=neg) hp hq hsc hd).eq;rw [← hrnd]
 have hbl:blen S≤524288:=by
  obtain⟨K,hK⟩:∃ K,K=524288:=⟨_,rfl⟩
  have h1:=num_lt_wlen hx.w32;rw [hS] at h1;rw [← hK]
  exact blen_le_iff.2 (Nat.lt_of_lt_of_le h1 (Nat.pow_le_pow_right (by omega) (by omega)))
 have hb0:0<blen S:=by
  rcases Nat.eq_zero_or_pos (blen S) with h | h
  ·rw [blen_eq_zero] at h;omega
  ·exact h
 obtain⟨b,hb⟩:∃ b,blen S=b:=⟨_,rfl⟩
 obtain⟨f,hf⟩:∃ f:Int,(b:Int) - 1+exp=f:=⟨_,rfl⟩
 rw [hb] at hL hsc hmore hbl hb0 hrnd ⊢;rw [hf] at hsc hrnd ⊢
 obtain⟨away,haw⟩:∃ a,(decide (d=1) != neg)=a:=⟨_,rfl⟩
 have HBY:=Hd (beyond_any d neg w hd);rw [haw] at HBY ⊢;have HL:=Hd hL;have HSC:=Hd hsc;have HX:=Hd hx;have HD:=Hd hD;have HAW:=Hd haw;have HS:=Hd hS;have HHD:=Hd hd
 have hqe:((b:Int) == 0)=false:=by simp;omega
 clear hL hsc hx hD haw hS hd hrnd hp
 by_cases hov:1023<f
 ·have hP:ansT p q f away=if away then M else M - 1:=by unfold ansT;rw [if_pos hov]
  rw [← hP] at HBY
  obtain⟨T,hT⟩:∃ T,pat (sg neg (ansT p q f away))=T:=⟨_,rfl⟩
  rw [hT] at HBY ⊢;clear hP hT
  go_enter Tryz.func230,Tryz.ntmps230
  go_wp2_with fail;refine HL.out.mono ?_;rintro e w' ⟨rfl,rfl⟩;go_wp2_with fail;refine HBY.out.mono ?_;rintro e w' ⟨rfl,rfl⟩;go_wp2
  go_ret
  exact⟨rfl,Below.refl _ _⟩
 ·have hfe:=lastBit_bounds (f:=f) (by omega);have hwlt:=w_lt hq HSC.out;have hwge:=w_ge hq HSC.out
  have hP:ansT p q f away=if away then capT p q (lastBit f) else cutT p q (lastBit f):=by unfold ansT;rw [if_neg hov]
  obtain⟨E,hE⟩:∃ E,lastBit f=E:=⟨_,rfl⟩
  rw [hE] at hfe hwlt hwge hP
  have hE2:max ((b:Int) - 53+exp) (-1074)=E:=by unfold lastBit at hE;split at hE<;>omega
  have HP:=Hd hP
  obtain⟨C,hC⟩:∃ C,E - 2 - exp=C:=⟨_,rfl⟩
  have HC:=Hd hC
  obtain⟨AA,hAA⟩:∃ AA,pat (sg neg (ansT p q f away))=AA:=⟨_,rfl⟩
  rw [hAA];have HAA:=Hd hAA;clear hP hE hAA
  go_enter Tryz.func230,Tryz.ntmps230
  go_wp2_with fail;refine HL.out.mono ?_;rintro e w' ⟨rfl,rfl⟩
  go_upto_if 44 with fail
  clear hC
  obtain⟨cb,hcb⟩:∃ x,decide (0<C)=x:=⟨_,rfl⟩
  rw [hcb];have HCB:=Hd hcb;clear hcb
  go_cut [14,15] from 45 to 58 (fun s14 s15 wx=>∃ A1 n1 c1 lost v,s14=.slice A1 n1 c1∧s15=.bool lost∧U32s wx A1 n1 c1 (digs v)∧Cutd S exp E v lost more∧Below w.heap.size w wx)
  case first=>
   have hC:=HC.out
   by_cases hc:0<C
   ·obtain⟨k,hk⟩:∃ k:Nat,E - 2 - exp=k:=⟨(E - 2 - exp).toNat,by omega⟩
    obtain rfl:C=k:=by omega
    obtain rfl:cb=true:=by rw [← HCB.out];exact decide_eq_true hc
    have HSH:=Hd (nshr_any A n c k xs w HX.out hl (by omega));rw [HS.out] at HSH;have HCU:=Hd (show Cutd S exp E (S / 2^k) (decide (S % 2^k≠0)) more from⟨fun _=>by rw [hk,Int.toNat_natCast];exact⟨rfl,by simp⟩,fun h=>by omega⟩)
    obtain⟨lost,hlo⟩:∃ l,decide (S % 2^k≠0)=l:=⟨_,rfl⟩
    obtain⟨v,hv⟩:∃ l,S / 2^k=l:=⟨_,rfl⟩
    rw [hlo,hv] at HSH HCU;clear hc HCB hk hC HC hlo hv hE2 hfe hwlt hwge hf hov hmore he1 he2;go_wp2_with fail;refine HSH.out.mono ?_;rintro e w1 ⟨A2,n2,c2,rfl,hu,hb⟩;have HU:=Hd hu;have HB:=Hd hb;clear hu hb;go_wp2_with fail
    go_meet
    exact⟨A2,n2,c2,lost,v,rfl,rfl,HU.out,HCU.out,HB.out⟩
   ·obtain⟨k,hk⟩:∃ k:Nat,-(E - 2 - exp)=k:=⟨(-(E - 2 - exp)).toNat,by omega⟩
    have hmf:E - 2 - exp<0→more=false:=by
     intro h
     cases more with
     | false=>rfl
     | true=>have:=hmore rfl;omega
    have HSH:=Hd (nshl_any A n c k xs w HX.out hl (by rw [HS.out,hb];omega));rw [HS.out] at HSH
    have HCU:=Hd (show Cutd S exp E (S*2^k) false more from⟨fun h=>by
     have hk0:k=0:=by omega
     rw [show (E - 2 - exp).toNat=0 from by omega,hk0]
     simp [Nat.mod_one],fun h=>⟨by rw [hk,Int.toNat_natCast],rfl,hmf h⟩⟩)
    obtain⟨v,hv⟩:∃ l,S*2^k=l:=⟨_,rfl⟩
    rw [hv] at HSH HCU
    have hkb:k≤2000:=by omega
    obtain rfl:C=-(k:Int):=by omega
    obtain rfl:cb=false:=by rw [← HCB.out];exact decide_eq_false hc
    clear hc;clear HCB hk hC HC hv hmf hE2 hfe hwlt hwge hf hov hmore he1 he2;go_wp2_with fail;refine HSH.out.mono ?_;rintro e w1 ⟨A2,n2,c2,rfl,hu,hb⟩;have HU:=Hd hu;have HB:=Hd hb;clear hu hb;go_wp2_with fail
    go_meet
    exact⟨A2,n2,c2,false,v,rfl,rfl,HU.out,HCU.out,HB.out⟩
  case rest=>
  obtain⟨A1,n1,c1,lost,v,rfl,rfl,hu,hcu,hb1⟩:=hcut;have hda:=digits_at HD.out hq hfe.1 hcu.1 hcu.2
  obtain⟨V,hV⟩:∃ V,marked v (lost || more)=V:=⟨_,rfl⟩
  have hvv:v / 4=V / 4:=by rw [← hV,marked_div]
  rw [hV] at hda
  have hv64:v<18446744073709551616:=by have:=hda.1;omega
  have hV64:V<18446744073709551616:=by have:=hda.1;omega
  have HWD:=Hd (nword_any A1 n1 c1 (digs v) wc hu (by
   rw [wlen_digs];exact digs_length_le (k:=2) (by omega)))
  rw [num_digs] at HWD;have HB1:=Hd hb1;have HV:=Hd hV;have HDA:=Hd hda;clear hu hcu hb1 hV hda;go_wp2_with fail;refine HWD.out.mono ?_;rintro e w2 ⟨rfl,z,hz⟩;have HB2:=Hd (show Below w.heap.size w w2 from by rw [hz];exact below_drewN HB1.out z);clear hz HB1 HWD
  go_upto_region 13 with fail
  go_cut [67] from 64 to 66 (fun s67 wx=>s67=.bool (lost || more)∧wx=w2)
  case first=>
   cases lost<;>cases more<;>(go_wp2_with fail;go_meet;exact⟨rfl,rfl⟩)
  case rest=>
  obtain⟨rfl,rfl⟩:=hcut
  obtain⟨L,hL⟩:∃ L,(lost || more)=L:=⟨_,rfl⟩
  rw [hL] at HV ⊢;clear hL
  go_upto_if 67 with fail
  go_cut [16] from 68 to 69 (fun s16 wx=>s16=.int .u64 (V:Int)∧wc=wx)
  case first=>
   have hor:bits .or .u64 (v:Int) 1=((2*(v / 2)+1:Nat):Int):=by
    have h:=u64_or_nat v 1 hv64 (by omega);rw [or_one] at h;exact h
   have hv:=HV.out
   cases L
   ·have e:v=V:=by rw [← hv];rfl
    subst e;go_wp2_with fail
    go_meet
    exact⟨rfl,rfl⟩
   ·have e:2*(v / 2)+1=V:=by rw [← hv];rfl
    rw [e] at hor;go_wp2_with fail
    go_meet
    exact⟨rfl,rfl⟩
  case rest=>
  obtain⟨rfl,rfl⟩:=hcut
  have h3:bits .and .u64 (V:Int) 3=((V % 4:Nat):Int):=by
   have h:=u64_and_nat V 3 hV64 (by omega);rw [show (3:Nat)=2^2 - 1 from rfl,Nat.and_two_pow_sub_one_eq_mod] at h
   exact h
  obtain⟨R,hR⟩:∃ R,V % 4=R:=⟨_,rfl⟩
  obtain⟨W,hW⟩:∃ W,V / 4=W:=⟨_,rfl⟩
  rw [hR] at h3;have hda:=HDA.out;rw [hR,hW] at hda;rw [← hda.1] at hwlt hwge
  have h4:(V:Int) / 4=(W:Int):=by omega
  obtain⟨Z,hZ⟩:∃ Z,W+(if away=true∧R≠0 then 1 else 0)=Z:=⟨_,rfl⟩
  have hT:ansT p q f away=(E+1074).toNat*4503599627370496+Z:=by
   rw [HP.out,← hZ,hda.1];unfold capT cutT
   by_cases hr:R=0
   ·have h5:=hda.2.1 hr;rw [if_pos h5]
    cases away<;>simp [hr]
   ·have h5:¬ upN p E % upM q E=0:=fun h=>hr (hda.2.2 h);rw [if_neg h5]
    cases away<;>simp [hr]
  have hZ1:Z≤9007199254740992:=by rw [← hZ];split<;>omega
  have hZ2:E=-1074∨4503599627370496≤Z:=by
   by_cases h:-1074<E
   ·right
    have h6:=hwge h
    rw [← hZ];split<;>omega
   ·left;omega
  have HLD:=Hd fun W'=>ldexp_any Z E W' hZ1 hfe hZ2
  obtain⟨T,hTT⟩:∃ T,(E+1074).toNat*4503599627370496+Z=T:=⟨_,rfl⟩
  have hTM:T≤M:=by
   have hM:M=2045*4503599627370496+9007199254740992:=rfl;rw [← hTT,hM]
   exact Nat.add_le_add (Nat.mul_le_mul_right _ (by omega)) hZ1
  rw [hTT] at HLD hT;have HT:=Hd hT;have HZ:=Hd hZ;have hWb:W<9007199254740992:=hwlt;clear hT hZ hTT hda hR hW hwlt hwge hZ2 hvv HV hfe HDA HP
  go_upto_block 0 with fail
  go_cut [18] from 74 to 104 (fun s18 wx=>s18=.int .u64 (Z:Int)∧wc=wx)
  case first=>
   have haw:=HAW.out;have hz:=HZ.out
   rcases Nat.eq_zero_or_pos R with hr | hr
   ·subst hr
    have hz2:Z=W:=by rw [← hz];simp
    subst hz2;clear haw hz
    rcases HHD.out with rfl | rfl<;>cases neg<;>(go_wp2_with fail;go_meet;exact⟨rfl,rfl⟩)
   ·have hr2:¬ R=0:=by omega
    rcases HHD.out with rfl | rfl<;>cases neg<;>simp at haw<;>subst haw<;>simp [hr2] at hz<;>subst hz<;>clear hr2<;>(go_wp2_with fail;go_meet;exact⟨rfl,rfl⟩)
  case rest=>
  obtain⟨rfl,rfl⟩:=hcut;clear HZ HAW;go_wp2_with fail;refine (HLD.out _).mono ?_;rintro e w3 ⟨rfl,rfl⟩;have hTr:=rung_idx (b:=T) (by have hM:M=9218868437227405312:=rfl;omega)
  have hpt:pat (T:Int)=T:=by rw [pat_nn (by omega)];rfl
  have haa:=HAA.out;rw [HT.out] at haa
  cases neg
  ·have e:=Hd (show T=AA by rw [← haa];exact hpt.symm);clear haa hpt hTr hTM;go_wp2
   go_ret
   exact⟨by rw [← e.out];rfl,HB2.out⟩
  ·rcases Nat.eq_zero_or_pos T with h0 | h0
   ·subst h0;have ho:=ord_eq (a:=0) (b:=0) real_zero real_zero rfl;have e:=Hd (show 0=AA by rw [← haa];rfl)
    have hqz:(FloatKind.f64.format.order 0 0 != some Ordering.eq)=false:=by rw [ho];rfl
    clear haa hpt hTr hTM ho;go_wp2
    go_ret
    exact⟨by rw [← e.out];rfl,HB2.out⟩
   ·have ho:=ord_gt (a:=T) (b:=0) (by omega) real_zero (by rw [idx_zero];omega);have hn:=neg_pat (i:=(T:Int)) (by omega) (by omega) (by omega);rw [hpt] at hn;have e:=Hd (show Op.negFloat .f64 T=AA by rw [← haa];exact hn);clear hn hpt hTr h0 hTM haa;go_wp2
    go_ret
    exact⟨by rw [← e.out];rfl,HB2.out⟩
end
section
open Go.RowKit
theorem Dg.quo{N D k:Nat}{exp:Int}(hD:0<D):Dg (N*2^k / D) (N*2^exp.toNat) (D*2^(-exp).toNat) (exp - k) (decide (0<N*2^k % D)):=by
 obtain⟨U,hU⟩:∃ U,3000+exp.natAbs+k=U:=⟨_,rfl⟩
 refine⟨U,by omega,by omega,?_⟩
 obtain⟨E,hE⟩:∃ E,(exp - k+U).toNat=E:=⟨_,rfl⟩
 have e1:N*2^exp.toNat*2^U=N*2^k*(2^E*2^(-exp).toNat):=by
  rw [Nat.mul_assoc,Nat.mul_assoc,← Nat.pow_add,← Nat.pow_add,← Nat.pow_add];congr 2;omega
 have e2:∀ s:Nat,s*2^E*(D*2^(-exp).toNat)=s*D*(2^E*2^(-exp).toNat):=fun s=>by ac_rfl
 have hc:0<2^E*2^(-exp).toNat:=Nat.mul_pos (Nat.two_pow_pos _) (Nat.two_pow_pos _);rw [hE,e1,e2,e2];have h1:=Nat.div_add_mod (N*2^k) D;have h2:=Nat.mod_lt (N*2^k) hD;rw [Nat.mul_comm] at h1;refine⟨Nat.mul_le_mul_right _ (by omega),(Nat.mul_lt_mul_right hc).2 (by rw [Nat.add_mul];omega),?_⟩;rw [Nat.mul_left_inj (by omega)]
 simp only [decide_eq_false_iff_not]
 omega
theorem quo_blen{N D k n m t:Nat}(hN:0<N)(hD:0<D)(hn:blen N=n)(hm:blen D=m)(h:m+t≤n+k)(ht:0<t):t≤blen (N*2^k / D):=by
 have h1:=pow_blen_le hN;have h2:=lt_pow_blen D;rw [hn] at h1;rw [hm] at h2
 have hn0:0<n:=by
  rcases Nat.eq_zero_or_pos n with h0 | h0
  ·rw [h0,blen_eq_zero] at hn;omega
  ·exact h0
 have h3:2^(t - 1)*D≤N*2^k:=by
  have a1:2^(t - 1)*D≤2^(t - 1)*2^m:=Nat.mul_le_mul_left _ (by omega);have a2:2^(n - 1)*2^k≤N*2^k:=Nat.mul_le_mul_right _ h1
  have a3:2^(t - 1)*2^m≤2^(n - 1)*2^k:=by
   rw [← Nat.pow_add,← Nat.pow_add];exact Nat.pow_le_pow_right (by omega) (by omega)
  omega
 have h4:2^(t - 1)≤N*2^k / D:=(Nat.le_div_iff_mul_le hD).2 h3
 rcases Nat.lt_or_ge (blen (N*2^k / D)) t with h5 | h5
 ·exfalso
  have h6:=lt_pow_blen (N*2^k / D);have h7:2^blen (N*2^k / D)≤2^(t - 1):=Nat.pow_le_pow_right (by omega) (by omega)
  omega
 ·exact h5
theorem quo_blen_le{N D k n b:Nat}(hn:blen N=n)(h:n+k≤b):blen (N*2^k / D)≤b:=by
 rw [blen_le_iff];have h1:=lt_pow_blen N;rw [hn] at h1;have h2:N*2^k / D≤N*2^k:=Nat.div_le_self _ _;have h3:N*2^k<2^n*2^k:=(Nat.mul_lt_mul_right (Nat.two_pow_pos _)).2 h1;rw [← Nat.pow_add] at h3;have h4:2^(n+k)≤2^b:=Nat.pow_le_pow_right (by omega) h
 omega
theorem rndI_tiny_pos{p q U:Nat}(hU:U=1074)(hp:0<p)(hq:0<q)(h:p*2^U<q):rndI (-1) (rv false p q)=0∧rndI 1 (rv false p q)=1:=by
 have hx:0<rv false p q:=by
  have h1:=mt (rv_le_false (p:=p) (p':=0) hq (q':=1) (by omega)).1 (by omega);rw [rv_zero] at h1
  grind
 have e1:fl (1:Int)=rv false 1 (2^U):=by
  have:=fl_nat 1 hU
  rwa [mag_small (by decide)] at this
 have hlt:¬ rv false 1 (2^U)≤rv false p q:=by
  rw [rv_le_false (Nat.two_pow_pos _) hq];omega
 have hM:(M:Int)=9218868437227405312:=rfl
 constructor
 ·have h1:=rndI_down (rv false p q);have h2:=(h1.2.2 0 (by omega) (by omega)).2 (by rw [fl_zero];grind);have h3:=mt (h1.2.2 1 (by omega) (by omega)).1 (by rw [e1];exact hlt)
  omega
 ·have h1:=rndI_up (rv false p q);have h2:=(h1.2.2 1 (by omega) (by omega)).2 (by rw [e1];exact (rv_le_false hq (Nat.two_pow_pos _)).2 (by omega));have h3:=mt (h1.2.2 0 (by omega) (by omega)).1 (by rw [fl_zero];grind)
  omega
theorem rndI_tiny{d:Int}{neg:Bool}{p q p' q' U:Nat}(hd:d=-1∨d=1)(hU:U=1074)(hp:0<p)(hq:0<q)(h:p*2^U<q)(hp':0<p')(hq':0<q')(h':p'*2^U<q'):
  rndI d (rv neg p q)=rndI d (rv neg p' q'):=by
 have a:=rndI_tiny_pos hU hp hq h;have b:=rndI_tiny_pos hU hp' hq' h'
 cases neg
 ·rcases hd with rfl | rfl
  ·rw [a.1,b.1]
  ·rw [a.2,b.2]
 ·rw [rv_true,rv_true]
  rcases hd with rfl | rfl
  ·have h1:=rndI_neg (d:=1) (.inr rfl) (rv false p q);have h2:=rndI_neg (d:=1) (.inr rfl) (rv false p' q');rw [show ((-1:Int))=-1 from rfl,h1,h2,a.2,b.2]
  ·have h1:=rndI_neg (d:=-1) (.inl rfl) (rv false p q);have h2:=rndI_neg (d:=-1) (.inl rfl) (rv false p' q');rw [show ((1:Int))=- -1 from rfl,h1,h2,a.1,b.1]
theorem tiny_of{N D n m U:Nat}{exp:Int}(hU:U=1074)(hD:0<D)(hn:blen N=n)(hm:blen D=m)(h:(n:Int) - m+exp < -1100):N*2^exp.toNat*2^U<D*2^(-exp).toNat:=by
 have h1:=lt_pow_blen N;have h2:=pow_blen_le hD;rw [hn] at h1;rw [hm] at h2
 have hm0:0<m:=by
  rcases Nat.eq_zero_or_pos m with h0 | h0
  ·rw [h0,blen_eq_zero] at hm;omega
  ·exact h0
 have a1:N*(2^exp.toNat*2^U)<2^n*(2^exp.toNat*2^U):=(Nat.mul_lt_mul_right (Nat.mul_pos (Nat.two_pow_pos _) (Nat.two_pow_pos _))).2 h1;have a2:2^(m - 1)*2^(-exp).toNat≤D*2^(-exp).toNat:=Nat.mul_le_mul_right _ h2
 have a3:2^n*(2^exp.toNat*2^U)≤2^(m - 1)*2^(-exp).toNat:=by
  rw [← Nat.pow_add,← Nat.pow_add,← Nat.pow_add];exact Nat.pow_le_pow_right (by omega) (by omega)
 rw [Nat.mul_assoc];omega
end
section
open Go.RowKit Ieee
attribute [local go_sem] run_store_float
theorem hold_any(x:Int)(w:World)(h1:-1099511627776≤x)(h2:x≤1099511627776):
  Calls Tryz.prog 239 #[.int .i64 x] w fun e w'=>e=.returned (.int .i64 x)∧w=w':=by
 have e1:max x (-1099511627776)=x:=by omega
 have e2:min x 1099511627776=x:=by omega
 go_enter Tryz.func239,Tryz.ntmps239
 go_wp2
 go_ret
 exact⟨rfl,rfl⟩
def RtOf(w:World)(d:Int)(neg:Bool)(N D:Nat)(exp:Int)(e:Ending)(w':World):Prop:=
 e=.returned (.float .f64 (pat (rndI d (rv neg N D*2^exp))))∧Below w.heap.size w w'
theorem of_quo(d:Int)(neg:Bool)(A:Option Addr)(n c N D k:Nat)(exp:Int)(w:World)(hN:0<N)(hD:0<D)(hb:blen N≤300000)(hk:k≤200000)(h57:blen D+57≤blen N+k)(hu:U32s w A n c (digs (N*2^k / D)))(hd:d=-1∨d=1)
  (he1:-700000≤exp)(he2:exp≤1099511627776):
  Calls Tryz.prog 230 #[.int .i64 d,.bool neg,.slice A n c,.int .i64 (exp - (k:Int)),.bool (decide (0<N*2^k % D))] w (RtOf w d neg N D exp):=by
 have h1:=quo_blen (t:=57) hN hD rfl rfl h57 (by omega);have h2:=quo_blen_le (D:=D) (b:=500000) (k:=k) (N:=N) rfl (by omega)
 have hS:0<N*2^k / D:=by
  rcases Nat.eq_zero_or_pos (N*2^k / D) with h | h
  ·rw [h,blen_zero] at h1;omega
  ·exact h
 have hl:=wlen_digs_le (K:=16384) (S:=N*2^k / D) (by omega);have h:=of_pos d neg (decide (0<N*2^k % D)) A n c (N*2^k / D) (N*2^exp.toNat) (D*2^(-exp).toNat) _ (exp - (k:Int)) w hu (num_digs _) hS hl hd (Dg.quo hD) (Nat.mul_pos hD (Nat.two_pow_pos _)) (fun _=>by omega) (by omega) (by omega);rw [rv_scale neg hD exp] at h
 exact h
theorem long_plain(d:Int)(neg:Bool)(A B:Option Addr)(n c m c2 N D:Nat)(exp:Int)(w:World)(hu:U32s w A n c (digs N))(hv:U32s w B m c2 (digs D))(hN:0<N)(hD:0<D)(hbN:blen N≤300000)(hbD:blen D≤200000)(h57:blen D+57≤blen N)(hd:d=-1∨d=1)
  (he1:-700000≤exp)(he2:exp≤1099511627776):
  Calls Tryz.prog 241 #[.int .i64 d,.bool neg,.slice A n c,.slice B m c2,.int .i64 exp] w (RtOf w d neg N D exp):=by
 have L1:=nlen_any A n c _ w hu;have L2:=nlen_any B m c2 _ w hv;have wN:=wlen_digs_le (K:=16384) (S:=N) (by omega);have wD:=wlen_digs_le (K:=16384) (S:=D) (by omega);have HS:=nshl_any A n c 0 _ w hu wN (by rw [num_digs];omega);rw [num_digs] at L1 L2 HS;rw [Nat.pow_zero,Nat.mul_one] at HS;have hq57:=quo_blen (k:=0) (t:=57) hN hD rfl rfl (by omega) (by omega);have hq2:=quo_blen_le (D:=D) (b:=500000) (k:=0) (N:=N) rfl (by omega);have HF:=Hd fun A n c W h=>of_quo d neg A n c N D 0 exp W hN hD hbN (by omega) (by omega) h hd he1 he2;rw [Nat.pow_zero,Nat.mul_one] at hq57 HF;rw [show ((0:Nat):Int)=0 from rfl] at HS HF;rw [Int.sub_zero] at HF
 obtain⟨bn,hbn⟩:∃ b,blen N=b:=⟨_,rfl⟩
 obtain⟨bd,hbd⟩:∃ b,blen D=b:=⟨_,rfl⟩
 rw [hbn] at L1 hbN h57;rw [hbd] at L2 hbD h57
 have hmx:max 0 ((bd:Int) - (bn:Int))=0:=by omega
 have K1:=Hd L1;have K2:=Hd L2;have KS:=Hd HS;have HV:=Hd hv
 have HQ:=Hd fun A B n c m d W (h1:U32s W A n c (digs N)) (h2:U32s W B m d (digs D))=>(by
  have h:=nquo_any A B n c m d _ _ W h1 h2 wN wD (by rw [num_digs];exact hD)
  rw [num_digs,num_digs] at h;exact h:Calls Tryz.prog 240 #[.slice A n c,.slice B m d] W (NewQR W (N / D) (N % D)))
 obtain⟨Q,hQ⟩:∃ z,N / D=z:=⟨_,rfl⟩
 obtain⟨R,hR⟩:∃ z,N % D=z:=⟨_,rfl⟩
 rw [hQ] at hq57 HQ HF;rw [hR] at HQ HF
 have HL:=Hd fun A n c W (h:U32s W A n c (digs Q))=>(by
  have h:=nlen_any A n c _ W h
  rw [num_digs] at h;exact h:Calls Tryz.prog 232 #[.slice A n c] W fun e w'=>e=.returned (.int .i64 (blen Q:Int))∧W=w')
 obtain⟨bq,hbq⟩:∃ b,blen Q=b:=⟨_,rfl⟩
 rw [hbq] at hq57 HL
 have h57i:¬ (bq:Int)<57:=by omega
 have hlr:=fun (m:Nat) (h:(digs R).length=m)=>(show decide (0<R)=decide (0<m) from by
  rcases Nat.eq_zero_or_pos R with h0 | h0
  ·subst h0;rw [digs_zero] at h;subst h;rfl
  ·have:=digs_len_pos (by omega) h
   rw [decide_eq_true h0,decide_eq_true this])
 have HLR:=Hd hlr;clear hu hv hN hD L1 L2 HS wN wD hq2 hbn hbd hQ hR hbq hlr hq57 h57
 go_enter Tryz.func241,Tryz.ntmps241
 go_wp2_with fail;refine K2.out.mono ?_;rintro e w' ⟨rfl,rfl⟩;go_wp2_with fail;refine K1.out.mono ?_;rintro e w' ⟨rfl,rfl⟩;go_wp2_with fail;refine KS.out.mono ?_;rintro e w1 ⟨A1,n1,c1,rfl,hu1,hb1⟩;have HU1:=Hd hu1;have HV1:=Hd (HV.out.below hb1);have HB1:=Hd hb1;clear hu1 hb1 K1 K2 KS HV;go_wp2_with fail;refine (HQ.out _ _ _ _ _ _ _ HU1.out HV1.out).mono ?_;rintro e w2 ⟨A2,n2,c3,B2,m2,d2,rfl,hq,hr,hb2⟩;have HB2:=Hd (HB1.out.trans (hb2.mono HB1.out.size));have HQ2:=Hd hq;have HRL:=Hd (HLR.out _ hr.len);clear hq hr hb2 HU1 HV1 HB1 HQ HLR;have hi0:max 0 ((bd:Int) - (bn:Int))=0:=hmx;go_wp2
 go_loopw [11,14,15,17,18] (fun kv qv rv _ _ wr=>kv=.int .i64 0∧qv=.slice A2 n2 c3∧rv=.slice B2 m2 d2∧wr=w2) (fun _ _ _ _ _ _=>0)
 case atStart=>exact⟨rfl,rfl,rfl,rfl⟩
 case round=>
  obtain⟨rfl,rfl,rfl,rfl⟩:=hrel;go_wp2_with fail;refine (HL.out _ _ _ _ HQ2.out).mono ?_;rintro e w' ⟨rfl,rfl⟩;go_wp2_with fail;have h:=HF.out _ _ _ _ HQ2.out;rw [HRL.out] at h;refine h.mono ?_;rintro e w3 ⟨rfl,hb3⟩;have HB3:=Hd (HB2.out.trans (hb3.mono HB2.out.size));clear hb3 h;go_wp2
  go_ret
  exact⟨rfl,HB3.out⟩
theorem of_tiny(d:Int)(neg:Bool)(N D:Nat)(exp:Int)(w:World)(hN:0<N)(hD:0<D)(h:(blen N:Int) - blen D+exp < -1100)(hd:d=-1∨d=1):
  Calls Tryz.prog 230 #[.int .i64 d,.bool neg,.slice (some ⟨w.heap.size,0,none⟩) 1 1,.int .i64 (-1200),.bool false] (w.alloc (.cells #[.int .u32 1] 117)) (RtOf w d neg N D exp):=by
 obtain⟨U,hU⟩:∃ U,U=1074:=⟨_,rfl⟩
 obtain⟨V,hV⟩:∃ V,V=1200:=⟨_,rfl⟩
 have e0:(-1200:Int)=-(V:Int):=by omega
 have e1:(-(-(V:Int))).toNat=V:=by omega
 have e2:(-(V:Int)).toNat=0:=by omega
 have hdg:=Dg.exact 1 (-(V:Int));have hx:=U32s.lit1 w 117 (a:=1) (by omega)
 have hb1:blen 1=1:=by decide
 have ht:=tiny_of hU hD rfl rfl h;have h1:=of_pos d neg false (some ⟨w.heap.size,0,none⟩) 1 1 1 _ _ [1] (-(V:Int)) _ hx (by decide) (by omega) (by decide) hd hdg (Nat.two_pow_pos _) (fun h=>by cases h) (by omega) (by omega);rw [e1,e2,Nat.pow_zero] at h1
 have h2:rndI d (rv neg (1*1) (2^V))=rndI d (rv neg (N*2^exp.toNat) (D*2^(-exp).toNat)):=by
  refine rndI_tiny hd hU (by omega) (Nat.two_pow_pos _) ?_ (Nat.mul_pos hN (Nat.two_pow_pos _)) (Nat.mul_pos hD (Nat.two_pow_pos _)) ht;rw [Nat.mul_one,Nat.one_mul]
  exact Nat.pow_lt_pow_right (by omega) (by omega)
 rw [h2,rv_scale neg hD exp] at h1;rw [e0];refine h1.mono ?_;rintro e w' ⟨rfl,hb⟩
 exact⟨rfl,(below_alloc w _).trans (hb.mono (by simp))⟩
theorem ratio_any(d:Int)(neg:Bool)(A B:Option Addr)(n c m c2 N D:Nat)(exp:Int)(w:World)(hu:U32s w A n c (digs N))(hv:U32s w B m c2 (digs D))(hD:0<D)(hbN:blen N≤200000)(hbD:blen D≤150000)(hd:d=-1∨d=1)
  (he1:-1099511627776≤exp)(he2:exp≤1099511627776):
  Calls Tryz.prog 211 #[.int .i64 d,.bool neg,.slice A n c,.slice B m c2,.int .i64 exp] w (RtOf w d neg N D exp):=by
 have L1:=nlen_any A n c _ w hu;have L2:=nlen_any B m c2 _ w hv;rw [num_digs] at L1 L2
 have hbD0:blen D≠0:=fun h=>by rw [blen_eq_zero] at h;omega
 rcases Nat.eq_zero_or_pos N with h0 | hN
 ·subst h0;have K1:=Hd L1;have K2:=Hd L2;rw [blen_zero] at K1
  obtain⟨bd,hbd⟩:∃ b,blen D=b:=⟨_,rfl⟩
  rw [hbd] at K2 hbD hbD0
  have hz:((bd:Int) == 0)=false:=by simp;omega
  have hP:=Hd (show pat (rndI d (rv neg 0 D*2^exp))=0 from by rw [rv_zero,Rat.zero_mul,rndI_zero hd];rfl);clear L1 L2 hbd hu hv hbN
  go_enter Tryz.func211,Tryz.ntmps211
  go_wp2_with fail;refine K1.out.mono ?_;rintro e w' ⟨rfl,rfl⟩;go_wp2_with fail;refine K2.out.mono ?_;rintro e w' ⟨rfl,rfl⟩;clear K1 K2;go_wp2
  go_ret
  exact⟨by rw [hP.out];rfl,Below.refl _ _⟩
 ·have hbN0:blen N≠0:=fun h=>by rw [blen_eq_zero] at h;omega
  have HT:=Hd fun W h=>of_tiny d neg N D exp W hN hD h hd;have HLG:=Hd fun h57 h1=>long_plain d neg A B n c m c2 N D exp w hu hv hN hD (by omega) (by omega) h57 hd h1 he2;have wN:=wlen_digs_le (K:=16384) (S:=N) (by omega)
  have HS:=Hd fun k (hk:blen N+k≤524288)=>(by
   have h:=nshl_any A n c k _ w hu wN (by rw [num_digs];omega)
   rw [num_digs] at h;exact h:Calls Tryz.prog 202 #[.slice A n c,.int .i64 (k:Int)] w (NewU32E w (digs (N*2^k))))
  have HQ:=Hd fun k (hk:blen N+k≤524288) A B n c m d W (h1:U32s W A n c (digs (N*2^k))) (h2:U32s W B m d (digs D))=>(by
   have h:=nquo_any A B n c m d _ _ W h1 h2 (wlen_digs_le (K:=16384) (by rw [blen_shl _ _ hN];omega)) (wlen_digs_le (K:=16384) (by omega)) (by rw [num_digs];exact hD)
   rw [num_digs,num_digs] at h;exact h:Calls Tryz.prog 240 #[.slice A n c,.slice B m d] W (NewQR W (N*2^k / D) (N*2^k % D)))
  have HF:=Hd fun k A n c W hk h57 h h1=>of_quo d neg A n c N D k exp W hN hD (by omega) hk h57 h hd h1 he2;have HH:=Hd fun W=>hold_any exp W he1 he2;have HV:=Hd hv;have K1:=Hd L1;have K2:=Hd L2
  obtain⟨bd,hbd⟩:∃ b,blen D=b:=⟨_,rfl⟩
  obtain⟨bn,hbn⟩:∃ b,blen N=b:=⟨_,rfl⟩
  rw [hbd] at K2 hbD hbD0 HT HLG HF;rw [hbn] at K1 hbN hbN0 HT HLG HS HQ HF
  have hz1:((bd:Int) == 0)=false:=by simp;omega
  have hz2:((bn:Int) == 0)=false:=by simp;omega
  clear L1 L2 hbd hbn hu hv wN hN hD hd hbD0 hbN0
  go_enter Tryz.func211,Tryz.ntmps211
  go_wp2_with fail;refine K1.out.mono ?_;rintro e w' ⟨rfl,rfl⟩;go_wp2_with fail;refine K2.out.mono ?_;rintro e w' ⟨rfl,rfl⟩;clear K1 K2;go_wp2_with fail;refine (HH.out _).mono ?_;rintro e w' ⟨rfl,rfl⟩;clear HH
  by_cases ht:(bn:Int) - (bd:Int)+exp < -1100
  ·have K:=Hd (HT.out w ht);clear HT HLG HS HQ HF HV;go_wp2_with fail;refine K.out.mono ?_;rintro e w' ⟨rfl,hb⟩;have HB:=Hd hb;clear hb K;go_wp2
   go_ret
   exact⟨rfl,HB.out⟩
  ·by_cases hk:57+(bd:Int) - (bn:Int)≤0
   ·have K:=Hd (HLG.out (by omega) (by omega));clear HT HLG HS HQ HF HV;go_wp2_with fail;refine K.out.mono ?_;rintro e w' ⟨rfl,hb⟩;have HB:=Hd hb;clear hb K;go_wp2
    go_ret
    exact⟨rfl,HB.out⟩
   ·obtain⟨k,hkk⟩:∃ k:Nat,57+(bd:Int) - (bn:Int)=(k:Int):=⟨(57+(bd:Int) - (bn:Int)).toNat,by omega⟩
    have hk0:¬ (k:Int)≤0:=by omega
    have KS:=Hd (HS.out k (by omega));have KQ:=Hd (HQ.out k (by omega));have KF:=Hd fun A n c W h=>HF.out k A n c W (by omega) (by omega) h (by omega)
    obtain⟨Q,hQ⟩:∃ z,N*2^k / D=z:=⟨_,rfl⟩
    obtain⟨R,hR⟩:∃ z,N*2^k % D=z:=⟨_,rfl⟩
    rw [hQ] at KQ KF;rw [hR] at KQ KF
    have HLR:=Hd fun (m:Nat) (h:(digs R).length=m)=>(show decide (0<R)=decide (0<m) from by
     rcases Nat.eq_zero_or_pos R with h0 | h0
     ·subst h0;rw [digs_zero] at h;subst h;rfl
     ·have:=digs_len_pos (by omega) h
      rw [decide_eq_true h0,decide_eq_true this])
    have hk2:(k:Int)≤200000:=by omega
    have hk3:¬ (bn:Int) - (bd:Int)+exp < -1100:=ht;clear HT HLG HS HQ HF hQ hR hk;go_wp2_with fail;refine KS.out.mono ?_;rintro e w1 ⟨A1,n1,c1,rfl,hu1,hb1⟩;have HU1:=Hd hu1;have HV1:=Hd (HV.out.below hb1);have HB1:=Hd hb1;clear hu1 hb1 KS HV;go_wp2_with fail;refine (KQ.out _ _ _ _ _ _ _ HU1.out HV1.out).mono ?_;rintro e w2 ⟨A2,n2,c3,B2,m2,d2,rfl,hq,hr,hb2⟩;have HB2:=Hd (HB1.out.trans (hb2.mono HB1.out.size));have HQ2:=Hd hq;have HRL:=Hd (HLR.out _ hr.len);clear hq hr hb2 HU1 HV1 HB1 KQ HLR;go_wp2_with fail;have h:=KF.out _ _ _ _ HQ2.out;rw [HRL.out] at h;refine h.mono ?_;rintro e w3 ⟨rfl,hb3⟩;have HB3:=Hd (HB2.out.trans (hb3.mono HB2.out.size));clear hb3 h KF HRL HQ2 HB2;go_wp2
    go_ret
    exact⟨rfl,HB3.out⟩
end
section
open Go.RowKit
attribute [local go_sem] run_store_float run_negf
theorem at_any(b:Nat)(w:World):Calls Tryz.prog 88 #[.float .f64 b] w fun e w'=>e=.returned (.agg #[.float .f64 b,.float .f64 b])∧Below w.heap.size w w':=by
 obtain⟨LB0,LR⟩:=bx1 w #[.float .f64 0,.float .f64 0] 78;have LR0:=Hd (HasBlk.of (n:=2) LR.out rfl rfl);clear LR
 go_enter Tryz.func88,Tryz.ntmps88
 obtain⟨ha0,hf0,ha1,hf1⟩:=LR0.out.sf2;obtain⟨hk0,hk1⟩:=LR0.out.sc2 (.float .f64 b) (.float .f64 b);have F:=Hd (below_sets (w0:=w) (r:=w.heap.size) (by omega) [.float .f64 b,.float .f64 b] 0 _ LB0.out)
 simp [sets] at hk0 hk1
 go_wp2;refine bodyPost_ret (v:=.agg #[.float .f64 b,.float .f64 b]) (by simp [results,Tryz.results88,go_sem,hk0,hk1]) rfl ?_
 exact⟨rfl,below_alloc _ _⟩
def ExI(w:World)(s:Int)(g:Bool)(A:Option Addr)(n c:Nat)(E:Int)(x:Rat):Prop:=
 (s=0∨s=1∨s=-1)∧(s=0→∃ S,U32s w A n c (digs S)∧blen S≤5000∧-1074≤E∧E≤971∧x=rv g S 1*2^E)
theorem ExI.below{w w':World}{s:Int}{g:Bool}{A:Option Addr}{n c:Nat}{E:Int}{x:Rat}(h:ExI w s g A n c E x)(hb:Below w.heap.size w w'):ExI w' s g A n c E x:=
 ⟨h.1,fun h0=>by obtain⟨S,h1,h2⟩:=h.2 h0;exact⟨S,h1.below hb,h2⟩⟩
theorem ExI.keep{w w':World}{s:Int}{g:Bool}{A:Option Addr}{n c:Nat}{E:Int}{x:Rat}(h:ExI w s g A n c E x)(hs:∀ xs,U32s w A n c xs→U32s w' A n c xs):ExI w' s g A n c E x:=
 ⟨h.1,fun h0=>by obtain⟨S,h1,h2⟩:=h.2 h0;exact⟨S,hs _ h1,h2⟩⟩
def esx(s:Int)(x:Rat):Int:=if s≠0 then s else rsg x
def ov(s:Int)(x:Rat)(j:Int):Int × Int:=if s≠0 then (s*M,s*M) else if x=0∨j=M then (0,0) else (rndI (-1) (x / fl j),rndI 1 (x / fl j))
end
section
open Go.RowKit
theorem sign6_any(K:Nat)(s1:Int)(g1:Bool)(A1:Option Addr)(n1 c1:Nat)(B1:Option Addr)(m1 d1:Nat)(x1:Rat)(w:World)(h1:RatV w K g1 (.slice A1 n1 c1) (.slice B1 m1 d1) x1)(hK:K≤1073741824):
  Calls Tryz.prog 152 #[.agg #[.int .i64 s1,.bool g1,.slice A1 n1 c1,.slice B1 m1 d1]] w fun e w'=>e=.returned (.int .i64 (esx s1 x1))∧Below w.heap.size w w':=by
 have HS:=Hd fun W (hW:Below w.heap.size w W)=>rsign_any K g1 (.slice A1 n1 c1) (.slice B1 m1 d1) x1 W (h1.below hW) hK;unfold esx;clear h1 hK;obtain⟨LB0,LG0_0⟩:=bx1 w #[.int .i64 s1,.bool g1,.slice A1 n1 c1,.slice B1 m1 d1] 87
 by_cases hs:s1=0
 ·subst hs
  simp only [ne_eq,not_true_eq_false,if_false]
  obtain⟨r,hr⟩:∃ r,rsg x1=r:=⟨_,rfl⟩
  rw [hr] at HS ⊢;clear hr
  go_enter Tryz.func152,Tryz.ntmps152
  obtain⟨q0_0,q0_1,q0_2,q0_3⟩:=LG0_0.out.c4;go_wp2_with fail;refine (HS.out _ LB0.out).mono ?_;rintro e w1 ⟨rfl,hb1⟩;have F:=Hd (LB0.out.trans (hb1.mono LB0.out.size));clear hb1;go_wp2
  go_ret
  exact⟨rfl,F.out⟩
 ·rw [if_pos hs]
  have hz:(s1 == 0)=false:=by simpa using hs
  have hz2:(s1 != 0)=true:=by simp [hs]
  clear hs HS;have F:=Hd LB0.out
  go_enter Tryz.func152,Tryz.ntmps152
  obtain⟨q0_0,q0_1,q0_2,q0_3⟩:=LG0_0.out.c4;go_wp2
  go_ret
  exact⟨rfl,F.out⟩
theorem ratio_nought(K:Nat)(s1:Int)(g1:Bool)(A1:Option Addr)(n1 c1:Nat)(B1:Option Addr)(m1 d1:Nat)(x1:Rat)(s2:Int)(g2:Bool)(A2:Option Addr)(n2 c2:Nat)(B2:Option Addr)(m2 d2:Nat)(x2:Rat)(w:World)(h1:RatV w K g1 (.slice A1 n1 c1) (.slice B1 m1 d1) x1)(h2:RatV w K g2 (.slice A2 n2 c2) (.slice B2 m2 d2) x2)(hK0:1≤K)(hK:K≤1048576)(hs:esx s1 x1=0):
  Calls Tryz.prog 179 #[.agg #[.int .i64 s1,.bool g1,.slice A1 n1 c1,.slice B1 m1 d1],.agg #[.int .i64 s2,.bool g2,.slice A2 n2 c2,.slice B2 m2 d2]] w (NewBd w 1 0 0 1 false):=by
 have HS:=Hd fun W (hW:Below w.heap.size w W)=>sign6_any K s1 g1 A1 n1 c1 B1 m1 d1 x1 W (h1.below hW) (by omega);rw [hs] at HS;have HW:=Hd fun W=>whole_nat 0 false W (by omega);clear h1 h2 hs hK0 hK;obtain⟨LB0,LG0_0,LG1_0,LR⟩:=bx3 w #[.int .i64 s1,.bool g1,.slice A1 n1 c1,.slice B1 m1 d1] 87 #[.int .i64 s2,.bool g2,.slice A2 n2 c2,.slice B2 m2 d2] 87 #[.int .i64 0,.bool false,.slice none 0 0,.slice none 0 0,.int .i64 0,.bool false] 82;have LR0:=Hd (HasBlk.of (n:=6) LR.out rfl rfl);clear LR
 go_enter Tryz.func179,Tryz.ntmps179
 obtain⟨q0_0,q0_1,q0_2,q0_3⟩:=LG0_0.out.c4;go_wp2_with fail;refine (HS.out _ LB0.out).mono ?_;rintro e w1 ⟨rfl,hb1⟩;have LB1:=stB LB0 hb1 LB0.out.size;have LR1:=stR LR0 hb1;have LG0_1:=stG LG0_0 hb1;have LG1_1:=stG LG1_0 hb1;clear LB0 LR0 LG0_0 LG1_0;clear hb1 HS q0_0 q0_1 q0_2 q0_3;go_wp2_with fail;refine (HW.out _).mono ?_;rintro e w2 ⟨gz,AZ,nZ,cZ,BZ,mZ,dZ,rfl,hR,hb2⟩;have LB2:=stB LB1 hb2 LB1.out.size;have LR2:=stR LR1 hb2;have LG0_2:=stG LG0_1 hb2;have LG1_2:=stG LG1_1 hb2;clear LB1 LR1 LG0_1 LG1_1;clear HW;have FR:=Hd (LR2.out.rat hR [.int .i64 0,.bool gz,.slice AZ nZ cZ,.slice BZ mZ dZ,.int .i64 1,.bool false]);clear hR hb2;obtain⟨ha0,hf0,ha1,hf1,ha2,hf2,ha3,hf3,ha4,hf4,ha5,hf5⟩:=LR2.out.sf6;obtain⟨hk0,hk1,hk2,hk3,hk4,hk5⟩:=LR2.out.sc6 (.int .i64 0) (.bool gz) (.slice AZ nZ cZ) (.slice BZ mZ dZ) (.int .i64 1) (.bool false);have F:=Hd (below_sets (w0:=w) (r:=(w.heap.size+2)) (by omega) [.int .i64 0,.bool gz,.slice AZ nZ cZ,.slice BZ mZ dZ,.int .i64 1,.bool false] 0 _ LB2.out)
 simp [sets] at hk0 hk1 hk2 hk3 hk4 hk5
 go_wp2;refine bodyPost_ret (v:=.agg #[.int .i64 0,.bool gz,.slice AZ nZ cZ,.slice BZ mZ dZ,.int .i64 1,.bool false]) (by simp [results,Tryz.results179,go_sem,hk0,hk1,hk2,hk3,hk4,hk5]) rfl ?_
 exact⟨_,_,_,_,_,_,_,rfl,FR.out,F.out⟩
theorem ratio_inf(K:Nat)(s1:Int)(g1:Bool)(A1:Option Addr)(n1 c1:Nat)(B1:Option Addr)(m1 d1:Nat)(x1:Rat)(s2:Int)(g2:Bool)(A2:Option Addr)(n2 c2:Nat)(B2:Option Addr)(m2 d2:Nat)(x2:Rat)(w:World)(h1:RatV w K g1 (.slice A1 n1 c1) (.slice B1 m1 d1) x1)(h2:RatV w K g2 (.slice A2 n2 c2) (.slice B2 m2 d2) x2)(hK0:1≤K)(hK:K≤1048576)(hs:esx s1 x1≠0)(ht:s2≠0):
  Calls Tryz.prog 179 #[.agg #[.int .i64 s1,.bool g1,.slice A1 n1 c1,.slice B1 m1 d1],.agg #[.int .i64 s2,.bool g2,.slice A2 n2 c2,.slice B2 m2 d2]] w (NewBd w 1 0 0 1 true):=by
 have HS:=Hd fun W (hW:Below w.heap.size w W)=>sign6_any K s1 g1 A1 n1 c1 B1 m1 d1 x1 W (h1.below hW) (by omega)
 obtain⟨sg,hsg⟩:∃ z,esx s1 x1=z:=⟨_,rfl⟩
 rw [hsg] at HS hs
 have hz:(sg == 0)=false:=by simpa using hs
 have HW:=Hd fun W=>whole_nat 0 true W (by omega)
 have hz2:(s2 == 0)=false:=by simpa using ht
 have hz3:(s2 != 0)=true:=by simp [ht]
 clear h1 h2 hs hsg ht hK0 hK;obtain⟨LB0,LG0_0,LG1_0,LR⟩:=bx3 w #[.int .i64 s1,.bool g1,.slice A1 n1 c1,.slice B1 m1 d1] 87 #[.int .i64 s2,.bool g2,.slice A2 n2 c2,.slice B2 m2 d2] 87 #[.int .i64 0,.bool false,.slice none 0 0,.slice none 0 0,.int .i64 0,.bool false] 82;have LR0:=Hd (HasBlk.of (n:=6) LR.out rfl rfl);clear LR
 go_enter Tryz.func179,Tryz.ntmps179
 obtain⟨q0_0,q0_1,q0_2,q0_3⟩:=LG0_0.out.c4;go_wp2_with fail;refine (HS.out _ LB0.out).mono ?_;rintro e w1 ⟨rfl,hb1⟩;have LB1:=stB LB0 hb1 LB0.out.size;have LR1:=stR LR0 hb1;have LG0_1:=stG LG0_0 hb1;have LG1_1:=stG LG1_0 hb1;clear LB0 LR0 LG0_0 LG1_0;clear hb1 HS q0_0 q0_1 q0_2 q0_3;obtain⟨q1_0,q1_1,q1_2,q1_3⟩:=LG1_1.out.c4;go_wp2_with fail;refine (HW.out _).mono ?_;rintro e w2 ⟨gz,AZ,nZ,cZ,BZ,mZ,dZ,rfl,hR,hb2⟩;have LB2:=stB LB1 hb2 LB1.out.size;have LR2:=stR LR1 hb2;have LG0_2:=stG LG0_1 hb2;have LG1_2:=stG LG1_1 hb2;clear LB1 LR1 LG0_1 LG1_1;clear HW q1_0 q1_1 q1_2 q1_3;have FR:=Hd (LR2.out.rat hR [.int .i64 0,.bool gz,.slice AZ nZ cZ,.slice BZ mZ dZ,.int .i64 1,.bool true]);clear hR hb2;obtain⟨ha0,hf0,ha1,hf1,ha2,hf2,ha3,hf3,ha4,hf4,ha5,hf5⟩:=LR2.out.sf6;obtain⟨hk0,hk1,hk2,hk3,hk4,hk5⟩:=LR2.out.sc6 (.int .i64 0) (.bool gz) (.slice AZ nZ cZ) (.slice BZ mZ dZ) (.int .i64 1) (.bool true);have F:=Hd (below_sets (w0:=w) (r:=(w.heap.size+2)) (by omega) [.int .i64 0,.bool gz,.slice AZ nZ cZ,.slice BZ mZ dZ,.int .i64 1,.bool true] 0 _ LB2.out)
 simp [sets] at hk0 hk1 hk2 hk3 hk4 hk5
 go_wp2;refine bodyPost_ret (v:=.agg #[.int .i64 0,.bool gz,.slice AZ nZ cZ,.slice BZ mZ dZ,.int .i64 1,.bool true]) (by simp [results,Tryz.results179,go_sem,hk0,hk1,hk2,hk3,hk4,hk5]) rfl ?_
 exact⟨_,_,_,_,_,_,_,rfl,FR.out,F.out⟩
theorem ratio_far(K:Nat)(s1:Int)(g1:Bool)(A1:Option Addr)(n1 c1:Nat)(B1:Option Addr)(m1 d1:Nat)(x1:Rat)(s2:Int)(g2:Bool)(A2:Option Addr)(n2 c2:Nat)(B2:Option Addr)(m2 d2:Nat)(x2:Rat)(w:World)(h1:RatV w K g1 (.slice A1 n1 c1) (.slice B1 m1 d1) x1)(h2:RatV w K g2 (.slice A2 n2 c2) (.slice B2 m2 d2) x2)(hK0:1≤K)(hK:K≤1048576)(hs:esx s1 x1≠0)(h0:s2=0)(ht:s1≠0):
  Calls Tryz.prog 179 #[.agg #[.int .i64 s1,.bool g1,.slice A1 n1 c1,.slice B1 m1 d1],.agg #[.int .i64 s2,.bool g2,.slice A2 n2 c2,.slice B2 m2 d2]] w (NewBd w 1 (esx s1 x1) 0 1 true):=by
 have HS:=Hd fun W (hW:Below w.heap.size w W)=>sign6_any K s1 g1 A1 n1 c1 B1 m1 d1 x1 W (h1.below hW) (by omega)
 obtain⟨sg,hsg⟩:∃ z,esx s1 x1=z:=⟨_,rfl⟩
 rw [hsg] at HS hs
 have hz:(sg == 0)=false:=by simpa using hs
 have HW:=Hd fun W=>far_any sg W
 have hz3:(s1 == 0)=false:=by simpa using ht
 have hz4:(s1 != 0)=true:=by simp [ht]
 rw [hsg];subst h0;clear h1 h2 hs hsg ht hK0 hK;obtain⟨LB0,LG0_0,LG1_0,LR⟩:=bx3 w #[.int .i64 s1,.bool g1,.slice A1 n1 c1,.slice B1 m1 d1] 87 #[.int .i64 0,.bool g2,.slice A2 n2 c2,.slice B2 m2 d2] 87 #[.int .i64 0,.bool false,.slice none 0 0,.slice none 0 0,.int .i64 0,.bool false] 82;have LR0:=Hd (HasBlk.of (n:=6) LR.out rfl rfl);clear LR
 go_enter Tryz.func179,Tryz.ntmps179
 obtain⟨q0_0,q0_1,q0_2,q0_3⟩:=LG0_0.out.c4;go_wp2_with fail;refine (HS.out _ LB0.out).mono ?_;rintro e w1 ⟨rfl,hb1⟩;have LB1:=stB LB0 hb1 LB0.out.size;have LR1:=stR LR0 hb1;have LG0_1:=stG LG0_0 hb1;have LG1_1:=stG LG1_0 hb1;clear LB0 LR0 LG0_0 LG1_0;clear hb1 HS q0_0 q0_1 q0_2 q0_3;obtain⟨q0_0,q0_1,q0_2,q0_3⟩:=LG0_1.out.c4;obtain⟨q1_0,q1_1,q1_2,q1_3⟩:=LG1_1.out.c4;go_wp2_with fail;refine (HW.out _).mono ?_;rintro e w2 ⟨gz,AZ,nZ,cZ,BZ,mZ,dZ,rfl,hR,hb2⟩;have LB2:=stB LB1 hb2 LB1.out.size;have LR2:=stR LR1 hb2;have LG0_2:=stG LG0_1 hb2;have LG1_2:=stG LG1_1 hb2;clear LB1 LR1 LG0_1 LG1_1;clear HW q0_0 q0_1 q0_2 q0_3 q1_0 q1_1 q1_2 q1_3;have FR:=Hd (LR2.out.rat hR [.int .i64 sg,.bool gz,.slice AZ nZ cZ,.slice BZ mZ dZ,.int .i64 1,.bool true]);clear hR hb2;obtain⟨ha0,hf0,ha1,hf1,ha2,hf2,ha3,hf3,ha4,hf4,ha5,hf5⟩:=LR2.out.sf6;obtain⟨hk0,hk1,hk2,hk3,hk4,hk5⟩:=LR2.out.sc6 (.int .i64 sg) (.bool gz) (.slice AZ nZ cZ) (.slice BZ mZ dZ) (.int .i64 1) (.bool true);have F:=Hd (below_sets (w0:=w) (r:=(w.heap.size+2)) (by omega) [.int .i64 sg,.bool gz,.slice AZ nZ cZ,.slice BZ mZ dZ,.int .i64 1,.bool true] 0 _ LB2.out)
 simp [sets] at hk0 hk1 hk2 hk3 hk4 hk5
 go_wp2;refine bodyPost_ret (v:=.agg #[.int .i64 sg,.bool gz,.slice AZ nZ cZ,.slice BZ mZ dZ,.int .i64 1,.bool true]) (by simp [results,Tryz.results179,go_sem,hk0,hk1,hk2,hk3,hk4,hk5]) rfl ?_
 exact⟨_,_,_,_,_,_,_,rfl,FR.out,F.out⟩
theorem ratio_zero(K:Nat)(s1:Int)(g1:Bool)(A1:Option Addr)(n1 c1:Nat)(B1:Option Addr)(m1 d1:Nat)(x1:Rat)(s2:Int)(g2:Bool)(A2:Option Addr)(n2 c2:Nat)(B2:Option Addr)(m2 d2:Nat)(x2:Rat)(w:World)(h1:RatV w K g1 (.slice A1 n1 c1) (.slice B1 m1 d1) x1)(h2:RatV w K g2 (.slice A2 n2 c2) (.slice B2 m2 d2) x2)(hK0:1≤K)(hK:K≤1048576)(hs:esx s1 x1≠0)(h0:s2=0)(ht:s1=0)(hx:x2=0):
  Calls Tryz.prog 179 #[.agg #[.int .i64 s1,.bool g1,.slice A1 n1 c1,.slice B1 m1 d1],.agg #[.int .i64 s2,.bool g2,.slice A2 n2 c2,.slice B2 m2 d2]] w (NewBd w 1 (esx s1 x1) 0 1 true):=by
 have HS:=Hd fun W (hW:Below w.heap.size w W)=>sign6_any K s1 g1 A1 n1 c1 B1 m1 d1 x1 W (h1.below hW) (by omega)
 obtain⟨sg,hsg⟩:∃ z,esx s1 x1=z:=⟨_,rfl⟩
 rw [hsg] at HS hs
 have hz:(sg == 0)=false:=by simpa using hs
 have HT:=Hd fun W (hW:Below w.heap.size w W)=>sign6_any K 0 g2 A2 n2 c2 B2 m2 d2 x2 W (h2.below hW) (by omega);rw [show esx 0 x2=0 from by rw [hx];rfl] at HT;have HW:=Hd fun W=>far_any sg W;rw [hsg];subst h0;subst ht;clear h1 h2 hs hsg hx hK0 hK;obtain⟨LB0,LG0_0,LG1_0,LR⟩:=bx3 w #[.int .i64 0,.bool g1,.slice A1 n1 c1,.slice B1 m1 d1] 87 #[.int .i64 0,.bool g2,.slice A2 n2 c2,.slice B2 m2 d2] 87 #[.int .i64 0,.bool false,.slice none 0 0,.slice none 0 0,.int .i64 0,.bool false] 82;have LR0:=Hd (HasBlk.of (n:=6) LR.out rfl rfl);clear LR
 go_enter Tryz.func179,Tryz.ntmps179
 obtain⟨q0_0,q0_1,q0_2,q0_3⟩:=LG0_0.out.c4;go_wp2_with fail;refine (HS.out _ LB0.out).mono ?_;rintro e w1 ⟨rfl,hb1⟩;have LB1:=stB LB0 hb1 LB0.out.size;have LR1:=stR LR0 hb1;have LG0_1:=stG LG0_0 hb1;have LG1_1:=stG LG1_0 hb1;clear LB0 LR0 LG0_0 LG1_0;clear hb1 HS q0_0 q0_1 q0_2 q0_3;obtain⟨q0_0,q0_1,q0_2,q0_3⟩:=LG0_1.out.c4;obtain⟨q1_0,q1_1,q1_2,q1_3⟩:=LG1_1.out.c4;go_wp2_with fail;refine (HT.out _ LB1.out).mono ?_;rintro e w2 ⟨rfl,hb2⟩;have LB2:=stB LB1 hb2 LB1.out.size;have LR2:=stR LR1 hb2;have LG0_2:=stG LG0_1 hb2;have LG1_2:=stG LG1_1 hb2;clear LB1 LR1 LG0_1 LG1_1;clear hb2 HT q0_0 q0_1 q0_2 q0_3 q1_0 q1_1 q1_2 q1_3;go_wp2_with fail;refine (HW.out _).mono ?_;rintro e w3 ⟨gz,AZ,nZ,cZ,BZ,mZ,dZ,rfl,hR,hb3⟩;have LB3:=stB LB2 hb3 LB2.out.size;have LR3:=stR LR2 hb3;have LG0_3:=stG LG0_2 hb3;have LG1_3:=stG LG1_2 hb3;clear LB2 LR2 LG0_2 LG1_2;clear HW;have FR:=Hd (LR3.out.rat hR [.int .i64 sg,.bool gz,.slice AZ nZ cZ,.slice BZ mZ dZ,.int .i64 1,.bool true]);clear hR hb3;obtain⟨ha0,hf0,ha1,hf1,ha2,hf2,ha3,hf3,ha4,hf4,ha5,hf5⟩:=LR3.out.sf6;obtain⟨hk0,hk1,hk2,hk3,hk4,hk5⟩:=LR3.out.sc6 (.int .i64 sg) (.bool gz) (.slice AZ nZ cZ) (.slice BZ mZ dZ) (.int .i64 1) (.bool true);have F:=Hd (below_sets (w0:=w) (r:=(w.heap.size+2)) (by omega) [.int .i64 sg,.bool gz,.slice AZ nZ cZ,.slice BZ mZ dZ,.int .i64 1,.bool true] 0 _ LB3.out)
 simp [sets] at hk0 hk1 hk2 hk3 hk4 hk5
 go_wp2;refine bodyPost_ret (v:=.agg #[.int .i64 sg,.bool gz,.slice AZ nZ cZ,.slice BZ mZ dZ,.int .i64 1,.bool true]) (by simp [results,Tryz.results179,go_sem,hk0,hk1,hk2,hk3,hk4,hk5]) rfl ?_
 exact⟨_,_,_,_,_,_,_,rfl,FR.out,F.out⟩
theorem ratio_fin(K:Nat)(s1:Int)(g1:Bool)(A1:Option Addr)(n1 c1:Nat)(B1:Option Addr)(m1 d1:Nat)(x1:Rat)(s2:Int)(g2:Bool)(A2:Option Addr)(n2 c2:Nat)(B2:Option Addr)(m2 d2:Nat)(x2:Rat)(w:World)(h1:RatV w K g1 (.slice A1 n1 c1) (.slice B1 m1 d1) x1)(h2:RatV w K g2 (.slice A2 n2 c2) (.slice B2 m2 d2) x2)(hK0:1≤K)(hK:K≤1048576)(hs:esx s1 x1≠0)(h0:s2=0)(ht:s1=0)(hx:x2≠0):
  Calls Tryz.prog 179 #[.agg #[.int .i64 s1,.bool g1,.slice A1 n1 c1,.slice B1 m1 d1],.agg #[.int .i64 s2,.bool g2,.slice A2 n2 c2,.slice B2 m2 d2]] w (NewBd w (2*K) 0 (x1 / x2) 1 false):=by
 have HS:=Hd fun W (hW:Below w.heap.size w W)=>sign6_any K s1 g1 A1 n1 c1 B1 m1 d1 x1 W (h1.below hW) (by omega)
 obtain⟨sg,hsg⟩:∃ z,esx s1 x1=z:=⟨_,rfl⟩
 rw [hsg] at HS hs
 have hz:(sg == 0)=false:=by simpa using hs
 have HT:=Hd fun W (hW:Below w.heap.size w W)=>sign6_any K 0 g2 A2 n2 c2 B2 m2 d2 x2 W (h2.below hW) (by omega)
 obtain⟨tg,htg⟩:∃ z,esx 0 x2=z:=⟨_,rfl⟩
 rw [htg] at HT
 have hz5:(tg == 0)=false:=by
  rw [← htg];unfold esx rsg;rw [if_neg (by omega),if_neg hx]
  split<;>rfl
 have HW:=Hd fun W (hW:Below w.heap.size w W)=>(rquo_v K g1 (.slice A1 n1 c1) (.slice B1 m1 d1) x1 g2 (.slice A2 n2 c2) (.slice B2 m2 d2) x2 W (h1.below hW) (h2.below hW) hK0 hK hx).mono fun _ _ h=>h.s;subst h0;subst ht;clear h1 h2 hs hsg hx htg hK0 hK;obtain⟨LB0,LG0_0,LG1_0,LR⟩:=bx3 w #[.int .i64 0,.bool g1,.slice A1 n1 c1,.slice B1 m1 d1] 87 #[.int .i64 0,.bool g2,.slice A2 n2 c2,.slice B2 m2 d2] 87 #[.int .i64 0,.bool false,.slice none 0 0,.slice none 0 0,.int .i64 0,.bool false] 82;have LR0:=Hd (HasBlk.of (n:=6) LR.out rfl rfl);clear LR
 go_enter Tryz.func179,Tryz.ntmps179
 obtain⟨q0_0,q0_1,q0_2,q0_3⟩:=LG0_0.out.c4;go_wp2_with fail;refine (HS.out _ LB0.out).mono ?_;rintro e w1 ⟨rfl,hb1⟩;have LB1:=stB LB0 hb1 LB0.out.size;have LR1:=stR LR0 hb1;have LG0_1:=stG LG0_0 hb1;have LG1_1:=stG LG1_0 hb1;clear LB0 LR0 LG0_0 LG1_0;clear hb1 HS q0_0 q0_1 q0_2 q0_3;obtain⟨q0_0,q0_1,q0_2,q0_3⟩:=LG0_1.out.c4;obtain⟨q1_0,q1_1,q1_2,q1_3⟩:=LG1_1.out.c4;go_wp2_with fail;refine (HT.out _ LB1.out).mono ?_;rintro e w2 ⟨rfl,hb2⟩;have LB2:=stB LB1 hb2 LB1.out.size;have LR2:=stR LR1 hb2;have LG0_2:=stG LG0_1 hb2;have LG1_2:=stG LG1_1 hb2;clear LB1 LR1 LG0_1 LG1_1;clear hb2 HT q0_0 q0_1 q0_2 q0_3 q1_0 q1_1 q1_2 q1_3;obtain⟨q0_0,q0_1,q0_2,q0_3⟩:=LG0_2.out.c4;obtain⟨q1_0,q1_1,q1_2,q1_3⟩:=LG1_2.out.c4;go_wp2_with fail;refine (HW.out _ LB2.out).mono ?_;rintro e w3 ⟨gz,AZ,nZ,cZ,BZ,mZ,dZ,rfl,hR,hb3⟩;have LB3:=stB LB2 hb3 LB2.out.size;have LR3:=stR LR2 hb3;have LG0_3:=stG LG0_2 hb3;have LG1_3:=stG LG1_2 hb3;clear LB2 LR2 LG0_2 LG1_2;clear HW q0_0 q0_1 q0_2 q0_3 q1_0 q1_1 q1_2 q1_3;have FR:=Hd (LR3.out.rat hR [.int .i64 0,.bool gz,.slice AZ nZ cZ,.slice BZ mZ dZ,.int .i64 1,.bool false]);clear hR hb3;obtain⟨ha0,hf0,ha1,hf1,ha2,hf2,ha3,hf3,ha4,hf4,ha5,hf5⟩:=LR3.out.sf6;obtain⟨hk0,hk1,hk2,hk3,hk4,hk5⟩:=LR3.out.sc6 (.int .i64 0) (.bool gz) (.slice AZ nZ cZ) (.slice BZ mZ dZ) (.int .i64 1) (.bool false);have F:=Hd (below_sets (w0:=w) (r:=(w.heap.size+2)) (by omega) [.int .i64 0,.bool gz,.slice AZ nZ cZ,.slice BZ mZ dZ,.int .i64 1,.bool false] 0 _ LB3.out)
 simp [sets] at hk0 hk1 hk2 hk3 hk4 hk5
 go_wp2;refine bodyPost_ret (v:=.agg #[.int .i64 0,.bool gz,.slice AZ nZ cZ,.slice BZ mZ dZ,.int .i64 1,.bool false]) (by simp [results,Tryz.results179,go_sem,hk0,hk1,hk2,hk3,hk4,hk5]) rfl ?_
 exact⟨_,_,_,_,_,_,_,rfl,FR.out,F.out⟩
theorem NewBd.up{w w':World}{K K':Nat}{s:Int}{x:Rat}{N:Int}{o:Bool}{e:Ending}(h:NewBd w K s x N o e w')(hk:K≤K'):NewBd w K' s x N o e w':=by
 obtain⟨g,A,n,c,B,m,d,rfl,hr,hb⟩:=h
 exact⟨g,A,n,c,B,m,d,rfl,hr.mono hk,hb⟩
def rt(s1:Int)(x1:Rat)(s2:Int)(x2:Rat):Int × Rat × Bool:=
 if esx s1 x1=0 then (0,0,false) else if s2≠0 then (0,0,true) else if s1≠0∨x2=0 then (esx s1 x1,0,true) else (0,x1 / x2,false)
theorem ratio_gen(K:Nat)(s1:Int)(g1:Bool)(A1:Option Addr)(n1 c1:Nat)(B1:Option Addr)(m1 d1:Nat)(x1:Rat)(s2:Int)(g2:Bool)(A2:Option Addr)(n2 c2:Nat)(B2:Option Addr)(m2 d2:Nat)(x2:Rat)(w:World)(h1:RatV w K g1 (.slice A1 n1 c1) (.slice B1 m1 d1) x1)(h2:RatV w K g2 (.slice A2 n2 c2) (.slice B2 m2 d2) x2)(hK0:1≤K)(hK:K≤1048576):
  Calls Tryz.prog 179 #[.agg #[.int .i64 s1,.bool g1,.slice A1 n1 c1,.slice B1 m1 d1],.agg #[.int .i64 s2,.bool g2,.slice A2 n2 c2,.slice B2 m2 d2]] w (NewBd w (2*K) (rt s1 x1 s2 x2).1 (rt s1 x1 s2 x2).2.1 1 (rt s1 x1 s2 x2).2.2):=by
 unfold rt
 by_cases hs:esx s1 x1=0
 ·rw [if_pos hs]
  exact (ratio_nought K s1 g1 A1 n1 c1 B1 m1 d1 x1 s2 g2 A2 n2 c2 B2 m2 d2 x2 w h1 h2 hK0 hK hs).mono fun _ _ h=>h.up (by omega)
 ·rw [if_neg hs]
  by_cases ht:s2=0
  ·rw [if_neg (by simpa using ht)]
   by_cases h3:s1=0
   ·by_cases hx:x2=0
    ·rw [if_pos (.inr hx)]
     exact (ratio_zero K s1 g1 A1 n1 c1 B1 m1 d1 x1 s2 g2 A2 n2 c2 B2 m2 d2 x2 w h1 h2 hK0 hK hs ht h3 hx).mono fun _ _ h=>h.up (by omega)
    ·rw [if_neg (by rintro (h | h);exact h h3;exact hx h)]
     exact ratio_fin K s1 g1 A1 n1 c1 B1 m1 d1 x1 s2 g2 A2 n2 c2 B2 m2 d2 x2 w h1 h2 hK0 hK hs ht h3 hx
   ·rw [if_pos (.inl h3)]
    exact (ratio_far K s1 g1 A1 n1 c1 B1 m1 d1 x1 s2 g2 A2 n2 c2 B2 m2 d2 x2 w h1 h2 hK0 hK hs ht h3).mono fun _ _ h=>h.up (by omega)
  ·rw [if_pos ht]
   exact (ratio_inf K s1 g1 A1 n1 c1 B1 m1 d1 x1 s2 g2 A2 n2 c2 B2 m2 d2 x2 w h1 h2 hK0 hK hs ht).mono fun _ _ h=>h.up (by omega)
end
end Go.Proofs.YthlmlmfebpjgdaaGreatDoor
