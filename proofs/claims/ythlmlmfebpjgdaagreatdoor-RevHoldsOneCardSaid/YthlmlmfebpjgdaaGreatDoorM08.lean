/-
Lemmas for the statement: RofT RtP RatioT OverT QtT.
-/
import Derived.Test.YthlmlmfebpjgdaaGreatDoorM07
import Derived.Deep.DeepCutAuto
import Derived.Deep.CutBlock
import Derived.Test.YthlmlmfebpjgdaaGreatDoorM05
import Derived.Test.YthlmlmfebpjgdaaGreatDoorM04
import Derived.Test.YthlmlmfebpjgdaaGreatDoorM03
import Derived.Test.YthlmlmfebpjgdaaGreatDoorM06
set_option linter.unusedSimpArgs false
set_option linter.unusedVariables false
set_option maxHeartbeats 12800000
namespace Go.Proofs.YthlmlmfebpjgdaaGreatDoor
open Go.Proofs.Tryz
open Go.RowKit
section
open Go.RowKit Ieee
attribute [local go_sem] run_store_float run_frombits run_bitsof run_negf
theorem neg_pat{i:Int}(h0:-(M:Int)<=i)(h1:i<=M)(hi:i≠0):Op.negFloat .f64 (pat i)=pat (-i):=by
 have h:=negFloat_val (pat_lt h0 h1);rw [idx_pat h0 h1,rung_pat h0 h1] at h;have hM:M=9218868437227405312:=rfl;have h2:=pl_real h.1 (by omega);rw [h.2.2] at h2;have hc:=pat_cases h.1;unfold pl at h2;rw [if_neg (by omega),if_neg (by omega)] at h2
 exact h2
theorem beyond_any(d:Int)(neg:Bool)(w:World)(hd:d=-1\/d=1):
  Calls prog 253 #[.int .i64 d,.bool neg] w fun e w'=>e=.returned (.float .f64 (pat (sg neg (if (decide (d=1) != neg) then M else M - 1))))/\w=w':=by
 have HP:=Hd (inf_pos w)
 have n1:Op.negFloat .f64 9218868437227405312=18442240474082181120:=by decide
 have n2:Op.negFloat .f64 9218868437227405311=18442240474082181119:=by decide
 rcases hd with rfl | rfl<;>cases neg
 ·rw [show pat (sg false (if (decide ((-1:Int)=1) != false) then M else M - 1))=9218868437227405311 from by decide]
  go_enter func253,ntmps253
  go_wp2_with fail;refine HP.out.mono ?_;rintro e w' ⟨rfl,rfl⟩;go_wp2
  go_ret
  exact⟨rfl,rfl⟩
 ·rw [show pat (sg true (if (decide ((-1:Int)=1) != true) then M else M - 1))=18442240474082181120 from by decide]
  go_enter func253,ntmps253
  go_wp2_with fail;refine HP.out.mono ?_;rintro e w' ⟨rfl,rfl⟩;go_wp2
  go_ret
  exact⟨rfl,rfl⟩
 ·rw [show pat (sg false (if (decide ((1:Int)=1) != false) then M else M - 1))=9218868437227405312 from by decide]
  go_enter func253,ntmps253
  go_wp2_with fail;refine HP.out.mono ?_;rintro e w' ⟨rfl,rfl⟩;go_wp2
  go_ret
  exact⟨rfl,rfl⟩
 ·rw [show pat (sg true (if (decide ((1:Int)=1) != true) then M else M - 1))=18442240474082181119 from by decide]
  go_enter func253,ntmps253
  go_wp2_with fail;refine HP.out.mono ?_;rintro e w' ⟨rfl,rfl⟩;go_wp2
  go_ret
  exact⟨rfl,rfl⟩
theorem of_nought(d:Int)(neg more:Bool)(A:Option Addr)(n c:Nat)(xs:List Nat)(exp:Int)(w:World)(hx:U32s w A n c xs)(h0:num xs=0):
  Calls prog 230 #[.int .i64 d,.bool neg,.slice A n c,.int .i64 exp,.bool more] w fun e w'=>e=.returned (.float .f64 0)/\w=w':=by
 have HL:=Hd (nlen_any A n c xs w hx);rw [h0,blen_zero] at HL
 go_enter func230,ntmps230
 go_wp2_with fail;refine HL.out.mono ?_;rintro e w' ⟨rfl,rfl⟩;go_wp2
 go_ret
 exact⟨rfl,rfl⟩
def Cutd(S:Nat)(exp E:Int)(v:Nat)(lost more:Bool):Prop:=
 (0<=E - 2 - exp->v=S / 2^(E - 2 - exp).toNat/\(lost=true↔S % 2^(E - 2 - exp).toNat≠0))/\(E - 2 - exp<0->v=S*2^(-(E - 2 - exp)).toNat/\lost=false/\more=false)
theorem of_pos(d:Int)(neg more:Bool)(A:Option Addr)(n c S p q:Nat)(xs:List Nat)(exp:Int)(w:World)(hx:U32s w A n c xs)(hS:num xs=S)(hS0:0<S)(hl:wlen xs<=16384)(hd:d=-1\/d=1)
  (hD:Dg S p q exp more)(hq:0<q)(hmore:more=true->55<=blen S)(he1:-1000000<=exp)(he2:exp<=1099511627776):
  Rt 230 #[.int .i64 d,.bool neg,.slice A n c,.int .i64 exp,.bool more] (.float .f64 (pat (rndI d (rv neg p q)))) w:=by
 have hL:=nlen_any A n c xs w hx;rw [hS] at hL;have hsc:=hD.sc hS0
 have hp:0<p:=by
  obtain⟨U,h1,h2,h3,h4,-⟩:=hD
  rcases Nat.eq_zero_or_pos p with h | h
  ·subst h;have:0<S*2^(exp+U).toNat*q:=Nat.mul_pos (Nat.mul_pos hS0 (Nat.two_pow_pos _)) hq
   omega
  ·exact h
 have hrnd:=(rnd_ans (neg:=neg) hp hq hsc hd).eq;rw [<- hrnd]
 have hbl:blen S<=524288:=by
  obtain⟨K,hK⟩:∃ K,K=524288:=⟨_,rfl⟩
  have h1:=num_lt_wlen hx.w32;rw [hS] at h1;rw [<- hK]
  exact blen_le_iff.2 (Nat.lt_of_lt_of_le h1 (Nat.pow_le_pow_right (by omega) (by omega)))
 have hb0:0<blen S:=by
  rcases Nat.eq_zero_or_pos (blen S) with h | h
  ·rw [blen_eq_zero] at h;omega
  ·exact h
 obtain⟨b,hb⟩:∃ b,blen S=b:=⟨_,rfl⟩
 obtain⟨f,hf⟩:∃ f:Int,(b:Int) - 1+exp=f:=⟨_,rfl⟩
 rw [hb] at hL hsc hmore hbl hb0 hrnd ⊢;rw [hf] at hsc hrnd ⊢
 obtain⟨away,haw⟩:∃ a,(decide (d=1) != neg)=a:=⟨_,rfl⟩
 have HBY:=Hd (beyond_any d neg w hd);rw [haw] at HBY ⊢;have HL:=Hd hL;have HSC:=Hd hsc;have HX:=Hd hx;have HD:=Hd hD;have HAW:=Hd haw;have HS:=Hd hS;have HHD:=Hd hd
 have hqe:((b:Int) == 0)=false:=by simp;omega
 clear hL hsc hx hD haw hS hd hrnd hp
 by_cases hov:1023<f
 ·have hP:ansT p q f away=if away then M else M - 1:=by unfold ansT;rw [if_pos hov]
  rw [<- hP] at HBY
  obtain⟨T,hT⟩:∃ T,pat (sg neg (ansT p q f away))=T:=⟨_,rfl⟩
  rw [hT] at HBY ⊢;clear hP hT
  go_enter func230,ntmps230
  go_wp2_with fail;refine HL.out.mono ?_;rintro e w' ⟨rfl,rfl⟩;go_wp2_with fail;refine HBY.out.mono ?_;rintro e w' ⟨rfl,rfl⟩;go_wp2
  go_ret
  exact⟨rfl,Below.refl _ _⟩
 ·have hfe:=lastBit_bounds (f:=f) (by omega);have hwlt:=w_lt hq HSC.out;have hwge:=w_ge hq HSC.out
  have hP:ansT p q f away=if away then capT p q (lastBit f) else cutT p q (lastBit f):=by unfold ansT;rw [if_neg hov]
  obtain⟨E,hE⟩:∃ E,lastBit f=E:=⟨_,rfl⟩
  rw [hE] at hfe hwlt hwge hP
  have hE2:max ((b:Int) - 53+exp) (-1074)=E:=by unfold lastBit at hE;split at hE<;>omega
  have HP:=Hd hP
  obtain⟨C,hC⟩:∃ C,E - 2 - exp=C:=⟨_,rfl⟩
  have HC:=Hd hC
  obtain⟨AA,hAA⟩:∃ AA,pat (sg neg (ansT p q f away))=AA:=⟨_,rfl⟩
  rw [hAA];have HAA:=Hd hAA;clear hP hE hAA
  go_enter func230,ntmps230
  go_wp2_with fail;refine HL.out.mono ?_;rintro e w' ⟨rfl,rfl⟩
  go_upto_if 44 with fail
  clear hC
  obtain⟨cb,hcb⟩:∃ x,decide (0<C)=x:=⟨_,rfl⟩
  rw [hcb];have HCB:=Hd hcb;clear hcb
  go_cut [14,15] from 45 to 58 (fun s14 s15 wx=>∃ A1 n1 c1 lost v,s14=.slice A1 n1 c1/\s15=.bool lost/\U32s wx A1 n1 c1 (digs v)/\Cutd S exp E v lost more/\Below w.heap.size w wx)
  case first=>
   have hC:=HC.out
   by_cases hc:0<C
   ·obtain⟨k,hk⟩:∃ k:Nat,E - 2 - exp=k:=⟨(E - 2 - exp).toNat,by omega⟩
    obtain rfl:C=k:=by omega
    obtain rfl:cb=true:=by rw [<- HCB.out];exact decide_eq_true hc
    have HSH:=Hd (nshr_any A n c k xs w HX.out hl (by omega));rw [HS.out] at HSH;have HCU:=Hd (show Cutd S exp E (S / 2^k) (decide (S % 2^k≠0)) more from⟨fun _=>by rw [hk,Int.toNat_natCast];exact⟨rfl,by simp⟩,fun h=>by omega⟩)
    obtain⟨lost,hlo⟩:∃ l,decide (S % 2^k≠0)=l:=⟨_,rfl⟩
    obtain⟨v,hv⟩:∃ l,S / 2^k=l:=⟨_,rfl⟩
    rw [hlo,hv] at HSH HCU;clear hc HCB hk hC HC hlo hv hE2 hfe hwlt hwge hf hov hmore he1 he2;go_wp2_with fail;refine HSH.out.mono ?_;rintro e w1 ⟨A2,n2,c2,rfl,hu,hb⟩;have HU:=Hd hu;have HB:=Hd hb;clear hu hb;go_wp2_with fail
    go_meet
    exact⟨A2,n2,c2,lost,v,rfl,rfl,HU.out,HCU.out,HB.out⟩
   ·obtain⟨k,hk⟩:∃ k:Nat,-(E - 2 - exp)=k:=⟨(-(E - 2 - exp)).toNat,by omega⟩
    have hmf:E - 2 - exp<0->more=false:=by
     intro h
     cases more with
     | false=>rfl
     | true=>have:=hmore rfl;omega
    have HSH:=Hd (nshl_any A n c k xs w HX.out hl (by rw [HS.out,hb];omega));rw [HS.out] at HSH
    have HCU:=Hd (show Cutd S exp E (S*2^k) false more from⟨fun h=>by
     have hk0:k=0:=by omega
     rw [show (E - 2 - exp).toNat=0 from by omega,hk0]
     simp [Nat.mod_one],fun h=>⟨by rw [hk,Int.toNat_natCast],rfl,hmf h⟩⟩)
    obtain⟨v,hv⟩:∃ l,S*2^k=l:=⟨_,rfl⟩
    rw [hv] at HSH HCU
    have hkb:k<=2000:=by omega
    obtain rfl:C=-(k:Int):=by omega
    obtain rfl:cb=false:=by rw [<- HCB.out];exact decide_eq_false hc
    clear hc;clear HCB hk hC HC hv hmf hE2 hfe hwlt hwge hf hov hmore he1 he2;go_wp2_with fail;refine HSH.out.mono ?_;rintro e w1 ⟨A2,n2,c2,rfl,hu,hb⟩;have HU:=Hd hu;have HB:=Hd hb;clear hu hb;go_wp2_with fail
    go_meet
    exact⟨A2,n2,c2,false,v,rfl,rfl,HU.out,HCU.out,HB.out⟩
  case rest=>
  obtain⟨A1,n1,c1,lost,v,rfl,rfl,hu,hcu,hb1⟩:=hcut;have hda:=digits_at HD.out hq hfe.1 hcu.1 hcu.2
  obtain⟨V,hV⟩:∃ V,marked v (lost || more)=V:=⟨_,rfl⟩
  have hvv:v / 4=V / 4:=by rw [<- hV,marked_div]
  rw [hV] at hda
  have hv64:v<18446744073709551616:=by have:=hda.1;omega
  have hV64:V<18446744073709551616:=by have:=hda.1;omega
  have HWD:=Hd (nword_any A1 n1 c1 (digs v) wc hu (by
   rw [wlen_digs];exact digs_length_le (k:=2) (by omega)))
  rw [num_digs] at HWD;have HB1:=Hd hb1;have HV:=Hd hV;have HDA:=Hd hda;clear hu hcu hb1 hV hda;go_wp2_with fail;refine HWD.out.mono ?_;rintro e w2 ⟨rfl,z,hz⟩;have HB2:=Hd (show Below w.heap.size w w2 from by rw [hz];exact below_drewN HB1.out z);clear hz HB1 HWD
  go_upto_region 13 with fail
  go_cut [67] from 64 to 66 (fun s67 wx=>s67=.bool (lost || more)/\wx=w2)
  case first=>
   cases lost<;>cases more<;>(go_wp2_with fail;go_meet;exact⟨rfl,rfl⟩)
  case rest=>
  obtain⟨rfl,rfl⟩:=hcut
  obtain⟨L,hL⟩:∃ L,(lost || more)=L:=⟨_,rfl⟩
  rw [hL] at HV ⊢;clear hL
  go_upto_if 67 with fail
  go_cut [16] from 68 to 69 (fun s16 wx=>s16=.int .u64 (V:Int)/\wc=wx)
  case first=>
   have hor:bits .or .u64 (v:Int) 1=((2*(v / 2)+1:Nat):Int):=by
    have h:=u64_or_nat v 1 hv64 (by omega);rw [or_one] at h;exact h
   have hv:=HV.out
   cases L
   ·have e:v=V:=by rw [<- hv];rfl
    subst e;go_wp2_with fail
    go_meet
    exact⟨rfl,rfl⟩
   ·have e:2*(v / 2)+1=V:=by rw [<- hv];rfl
    rw [e] at hor;go_wp2_with fail
    go_meet
    exact⟨rfl,rfl⟩
  case rest=>
  obtain⟨rfl,rfl⟩:=hcut
  have h3:bits .and .u64 (V:Int) 3=((V % 4:Nat):Int):=by
   have h:=u64_and_nat V 3 hV64 (by omega);rw [show (3:Nat)=2^2 - 1 from rfl,Nat.and_two_pow_sub_one_eq_mod] at h
   exact h
  obtain⟨R,hR⟩:∃ R,V % 4=R:=⟨_,rfl⟩
  obtain⟨W,hW⟩:∃ W,V / 4=W:=⟨_,rfl⟩
  rw [hR] at h3;have hda:=HDA.out;rw [hR,hW] at hda;rw [<- hda.1] at hwlt hwge
  have h4:(V:Int) / 4=(W:Int):=by omega
  obtain⟨Z,hZ⟩:∃ Z,W+(if away=true/\R≠0 then 1 else 0)=Z:=⟨_,rfl⟩
  have hT:ansT p q f away=(E+1074).toNat*4503599627370496+Z:=by
   rw [HP.out,<- hZ,hda.1];unfold capT cutT
   by_cases hr:R=0
   ·have h5:=hda.2.1 hr;rw [if_pos h5]
    cases away<;>simp [hr]
   ·have h5:¬ upN p E % upM q E=0:=fun h=>hr (hda.2.2 h);rw [if_neg h5]
    cases away<;>simp [hr]
  have hZ1:Z<=9007199254740992:=by rw [<- hZ];split<;>omega
  have hZ2:E=-1074\/4503599627370496<=Z:=by
   by_cases h:-1074<E
   ·right
    have h6:=hwge h
    rw [<- hZ];split<;>omega
   ·left;omega
  have HLD:=Hd fun W'=>ldexp_any Z E W' hZ1 hfe hZ2
  obtain⟨T,hTT⟩:∃ T,(E+1074).toNat*4503599627370496+Z=T:=⟨_,rfl⟩
  have hTM:T<=M:=by
   have hM:M=2045*4503599627370496+9007199254740992:=rfl;rw [<- hTT,hM]
   exact Nat.add_le_add (Nat.mul_le_mul_right _ (by omega)) hZ1
  rw [hTT] at HLD hT;have HT:=Hd hT;have HZ:=Hd hZ;have hWb:W<9007199254740992:=hwlt;clear hT hZ hTT hda hR hW hwlt hwge hZ2 hvv HV hfe HDA HP
  go_upto_block 0 with fail
  go_cut [18] from 74 to 104 (fun s18 wx=>s18=.int .u64 (Z:Int)/\wc=wx)
  case first=>
   have haw:=HAW.out;have hz:=HZ.out
   rcases Nat.eq_zero_or_pos R with hr | hr
   ·subst hr
    have hz2:Z=W:=by rw [<- hz];simp
    subst hz2;clear haw hz
    rcases HHD.out with rfl | rfl<;>cases neg<;>(go_wp2_with fail;go_meet;exact⟨rfl,rfl⟩)
   ·have hr2:¬ R=0:=by omega
    rcases HHD.out with rfl | rfl<;>cases neg<;>simp at haw<;>subst haw<;>simp [hr2] at hz<;>subst hz<;>clear hr2<;>(go_wp2_with fail;go_meet;exact⟨rfl,rfl⟩)
  case rest=>
  obtain⟨rfl,rfl⟩:=hcut;clear HZ HAW;go_wp2_with fail;refine (HLD.out _).mono ?_;rintro e w3 ⟨rfl,rfl⟩;have hTr:=rung_idx (b:=T) (by have hM:M=9218868437227405312:=rfl;omega)
  have hpt:pat (T:Int)=T:=by rw [pat_nn (by omega)];rfl
  have haa:=HAA.out;rw [HT.out] at haa
  cases neg
  ·have e:=Hd (show T=AA by rw [<- haa];exact hpt.symm);clear haa hpt hTr hTM;go_wp2
   go_ret
   exact⟨by rw [<- e.out];rfl,HB2.out⟩
  ·rcases Nat.eq_zero_or_pos T with h0 | h0
   ·subst h0;have ho:=ord_eq (a:=0) (b:=0) real_zero real_zero rfl;have e:=Hd (show 0=AA by rw [<- haa];rfl)
    have hqz:(FloatKind.f64.format.order 0 0 != some Ordering.eq)=false:=by rw [ho];rfl
    clear haa hpt hTr hTM ho;go_wp2
    go_ret
    exact⟨by rw [<- e.out];rfl,HB2.out⟩
   ·have ho:=ord_gt (a:=T) (b:=0) (by omega) real_zero (by rw [idx_zero];omega);have hn:=neg_pat (i:=(T:Int)) (by omega) (by omega) (by omega);rw [hpt] at hn;have e:=Hd (show Op.negFloat .f64 T=AA by rw [<- haa];exact hn);clear hn hpt hTr h0 hTM haa;go_wp2
    go_ret
    exact⟨by rw [<- e.out];rfl,HB2.out⟩
end
theorem Dg.quo{N D k:Nat}{exp:Int}(hD:0<D):Dg (N*2^k / D) (N*2^exp.toNat) (D*2^(-exp).toNat) (exp - k) (decide (0<N*2^k % D)):=by
 obtain⟨U,hU⟩:∃ U,3000+exp.natAbs+k=U:=⟨_,rfl⟩
 refine⟨U,by omega,by omega,?_⟩
 obtain⟨E,hE⟩:∃ E,(exp - k+U).toNat=E:=⟨_,rfl⟩
 have e1:N*2^exp.toNat*2^U=N*2^k*(2^E*2^(-exp).toNat):=by
  rw [Nat.mul_assoc,Nat.mul_assoc,<- Nat.pow_add,<- Nat.pow_add,<- Nat.pow_add];congr 2;omega
 have e2:∀ s:Nat,s*2^E*(D*2^(-exp).toNat)=s*D*(2^E*2^(-exp).toNat):=fun s=>by ac_rfl
 have hc:0<2^E*2^(-exp).toNat:=Nat.mul_pos (Nat.two_pow_pos _) (Nat.two_pow_pos _);rw [hE,e1,e2,e2];have h1:=Nat.div_add_mod (N*2^k) D;have h2:=Nat.mod_lt (N*2^k) hD;rw [Nat.mul_comm] at h1;refine⟨Nat.mul_le_mul_right _ (by omega),(Nat.mul_lt_mul_right hc).2 (by rw [Nat.add_mul];omega),?_⟩;rw [Nat.mul_left_inj (by omega)]
 simp only [decide_eq_false_iff_not]
 omega
theorem quo_blen{N D k n m t:Nat}(hN:0<N)(hD:0<D)(hn:blen N=n)(hm:blen D=m)(h:m+t<=n+k)(ht:0<t):t<=blen (N*2^k / D):=by
 have h1:=pow_blen_le hN;have h2:=lt_pow_blen D;rw [hn] at h1;rw [hm] at h2
 have hn0:0<n:=by
  rcases Nat.eq_zero_or_pos n with h0 | h0
  ·rw [h0,blen_eq_zero] at hn;omega
  ·exact h0
 have h3:2^(t - 1)*D<=N*2^k:=by
  have a1:2^(t - 1)*D<=2^(t - 1)*2^m:=Nat.mul_le_mul_left _ (by omega);have a2:2^(n - 1)*2^k<=N*2^k:=Nat.mul_le_mul_right _ h1
  have a3:2^(t - 1)*2^m<=2^(n - 1)*2^k:=by
   rw [<- Nat.pow_add,<- Nat.pow_add];exact Nat.pow_le_pow_right (by omega) (by omega)
  omega
 have h4:2^(t - 1)<=N*2^k / D:=(Nat.le_div_iff_mul_le hD).2 h3
 rcases Nat.lt_or_ge (blen (N*2^k / D)) t with h5 | h5
 ·exfalso
  have h6:=lt_pow_blen (N*2^k / D);have h7:2^blen (N*2^k / D)<=2^(t - 1):=Nat.pow_le_pow_right (by omega) (by omega)
  omega
 ·exact h5
theorem quo_blen_le{N D k n b:Nat}(hn:blen N=n)(h:n+k<=b):blen (N*2^k / D)<=b:=by
 rw [blen_le_iff];have h1:=lt_pow_blen N;rw [hn] at h1;have h2:N*2^k / D<=N*2^k:=Nat.div_le_self _ _;have h3:N*2^k<2^n*2^k:=(Nat.mul_lt_mul_right (Nat.two_pow_pos _)).2 h1;rw [<- Nat.pow_add] at h3;have h4:2^(n+k)<=2^b:=Nat.pow_le_pow_right (by omega) h
 omega
theorem rndI_tiny_pos{p q U:Nat}(hU:U=1074)(hp:0<p)(hq:0<q)(h:p*2^U<q):rndI (-1) (rv false p q)=0/\rndI 1 (rv false p q)=1:=by
 have hx:0<rv false p q:=by
  have h1:=mt (rv_le_false (p:=p) (p':=0) hq (q':=1) (by omega)).1 (by omega);rw [rv_zero] at h1
  grind
 have e1:fl (1:Int)=rv false 1 (2^U):=by
  have:=fl_nat 1 hU
  rwa [mag_small (by decide)] at this
 have hlt:¬ rv false 1 (2^U)<=rv false p q:=by
  rw [rv_le_false (Nat.two_pow_pos _) hq];omega
 have hM:=M_val
 constructor
 ·have h1:=rndI_down (rv false p q);have h2:=(h1.2.2 0 (by omega) (by omega)).2 (by rw [fl_zero];grind);have h3:=mt (h1.2.2 1 (by omega) (by omega)).1 (by rw [e1];exact hlt)
  omega
 ·have h1:=rndI_up (rv false p q);have h2:=(h1.2.2 1 (by omega) (by omega)).2 (by rw [e1];exact (rv_le_false hq (Nat.two_pow_pos _)).2 (by omega));have h3:=mt (h1.2.2 0 (by omega) (by omega)).1 (by rw [fl_zero];grind)
  omega
theorem rndI_tiny{d:Int}{neg:Bool}{p q p' q' U:Nat}(hd:d=-1\/d=1)(hU:U=1074)(hp:0<p)(hq:0<q)(h:p*2^U<q)(hp':0<p')(hq':0<q')(h':p'*2^U<q'):
  rndI d (rv neg p q)=rndI d (rv neg p' q'):=by
 have a:=rndI_tiny_pos hU hp hq h;have b:=rndI_tiny_pos hU hp' hq' h'
 cases neg
 ·rcases hd with rfl | rfl
  ·rw [a.1,b.1]
  ·rw [a.2,b.2]
 ·rw [rv_true,rv_true]
  rcases hd with rfl | rfl
  ·have h1:=rndI_neg (d:=1) (.inr rfl) (rv false p q);have h2:=rndI_neg (d:=1) (.inr rfl) (rv false p' q');rw [show ((-1:Int))=-1 from rfl,h1,h2,a.2,b.2]
  ·have h1:=rndI_neg (d:=-1) (.inl rfl) (rv false p q);have h2:=rndI_neg (d:=-1) (.inl rfl) (rv false p' q');rw [show ((1:Int))=- -1 from rfl,h1,h2,a.1,b.1]
theorem tiny_of{N D n m U:Nat}{exp:Int}(hU:U=1074)(hD:0<D)(hn:blen N=n)(hm:blen D=m)(h:(n:Int) - m+exp < -1100):N*2^exp.toNat*2^U<D*2^(-exp).toNat:=by
 have h1:=lt_pow_blen N;have h2:=pow_blen_le hD;rw [hn] at h1;rw [hm] at h2
 have hm0:0<m:=by
  rcases Nat.eq_zero_or_pos m with h0 | h0
  ·rw [h0,blen_eq_zero] at hm;omega
  ·exact h0
 have a1:N*(2^exp.toNat*2^U)<2^n*(2^exp.toNat*2^U):=(Nat.mul_lt_mul_right (Nat.mul_pos (Nat.two_pow_pos _) (Nat.two_pow_pos _))).2 h1;have a2:2^(m - 1)*2^(-exp).toNat<=D*2^(-exp).toNat:=Nat.mul_le_mul_right _ h2
 have a3:2^n*(2^exp.toNat*2^U)<=2^(m - 1)*2^(-exp).toNat:=by
  rw [<- Nat.pow_add,<- Nat.pow_add,<- Nat.pow_add];exact Nat.pow_le_pow_right (by omega) (by omega)
 rw [Nat.mul_assoc];omega
section
open Go.RowKit Ieee
attribute [local go_sem] run_store_float
theorem hold_any(x:Int)(w:World)(h1:-1099511627776<=x)(h2:x<=1099511627776):
  Calls prog 239 #[.int .i64 x] w fun e w'=>e=.returned (.int .i64 x)/\w=w':=by
 have e1:max x (-1099511627776)=x:=by omega
 have e2:min x 1099511627776=x:=by omega
 go_enter func239,ntmps239
 go_wp2
 go_ret
 exact⟨rfl,rfl⟩
def RtOf(w:World)(d:Int)(neg:Bool)(N D:Nat)(exp:Int)(e:Ending)(w':World):Prop:=
 e=.returned (.float .f64 (pat (rndI d (rv neg N D*2^exp))))/\Below w.heap.size w w'
theorem of_quo(d:Int)(neg:Bool)(A:Option Addr)(n c N D k:Nat)(exp:Int)(w:World)(hN:0<N)(hD:0<D)(hb:blen N<=300000)(hk:k<=200000)(h57:blen D+57<=blen N+k)(hu:U32s w A n c (digs (N*2^k / D)))(hd:d=-1\/d=1)
  (he1:-700000<=exp)(he2:exp<=1099511627776):
  Calls prog 230 #[.int .i64 d,.bool neg,.slice A n c,.int .i64 (exp - (k:Int)),.bool (decide (0<N*2^k % D))] w (RtOf w d neg N D exp):=by
 have h1:=quo_blen (t:=57) hN hD rfl rfl h57 (by omega);have h2:=quo_blen_le (D:=D) (b:=500000) (k:=k) (N:=N) rfl (by omega)
 have hS:0<N*2^k / D:=by
  rcases Nat.eq_zero_or_pos (N*2^k / D) with h | h
  ·rw [h,blen_zero] at h1;omega
  ·exact h
 have hl:=wlen_digs_le (K:=16384) (S:=N*2^k / D) (by omega);have h:=of_pos d neg (decide (0<N*2^k % D)) A n c (N*2^k / D) (N*2^exp.toNat) (D*2^(-exp).toNat) _ (exp - (k:Int)) w hu (num_digs _) hS hl hd (Dg.quo hD) (Nat.mul_pos hD (Nat.two_pow_pos _)) (fun _=>by omega) (by omega) (by omega);rw [rv_scale neg hD exp] at h
 exact h
theorem long_plain(d:Int)(neg:Bool)(A B:Option Addr)(n c m c2 N D:Nat)(exp:Int)(w:World)(hu:U32s w A n c (digs N))(hv:U32s w B m c2 (digs D))(hN:0<N)(hD:0<D)(hbN:blen N<=300000)(hbD:blen D<=200000)(h57:blen D+57<=blen N)(hd:d=-1\/d=1)
  (he1:-700000<=exp)(he2:exp<=1099511627776):
  Calls prog 241 #[.int .i64 d,.bool neg,.slice A n c,.slice B m c2,.int .i64 exp] w (RtOf w d neg N D exp):=by
 have L1:=nlen_any A n c _ w hu;have L2:=nlen_any B m c2 _ w hv;have wN:=wlen_digs_le (K:=16384) (S:=N) (by omega);have wD:=wlen_digs_le (K:=16384) (S:=D) (by omega);have HS:=nshl_any A n c 0 _ w hu wN (by rw [num_digs];omega);rw [num_digs] at L1 L2 HS;rw [Nat.pow_zero,Nat.mul_one] at HS;have hq57:=quo_blen (k:=0) (t:=57) hN hD rfl rfl (by omega) (by omega);have hq2:=quo_blen_le (D:=D) (b:=500000) (k:=0) (N:=N) rfl (by omega);have HF:=Hd fun A n c W h=>of_quo d neg A n c N D 0 exp W hN hD hbN (by omega) (by omega) h hd he1 he2;rw [Nat.pow_zero,Nat.mul_one] at hq57 HF;rw [show ((0:Nat):Int)=0 from rfl] at HS HF;rw [Int.sub_zero] at HF
 obtain⟨bn,hbn⟩:∃ b,blen N=b:=⟨_,rfl⟩
 obtain⟨bd,hbd⟩:∃ b,blen D=b:=⟨_,rfl⟩
 rw [hbn] at L1 hbN h57;rw [hbd] at L2 hbD h57
 have hmx:max 0 ((bd:Int) - (bn:Int))=0:=by omega
 have K1:=Hd L1;have K2:=Hd L2;have KS:=Hd HS;have HV:=Hd hv
 have HQ:=Hd fun A B n c m d W (h1:U32s W A n c (digs N)) (h2:U32s W B m d (digs D))=>(by
  have h:=nquo_any A B n c m d _ _ W h1 h2 wN wD (by rw [num_digs];exact hD)
  rw [num_digs,num_digs] at h;exact h:Calls prog 240 #[.slice A n c,.slice B m d] W (NewQR W (N / D) (N % D)))
 obtain⟨Q,hQ⟩:∃ z,N / D=z:=⟨_,rfl⟩
 obtain⟨R,hR⟩:∃ z,N % D=z:=⟨_,rfl⟩
 rw [hQ] at hq57 HQ HF;rw [hR] at HQ HF
 have HL:=Hd fun A n c W (h:U32s W A n c (digs Q))=>(by
  have h:=nlen_any A n c _ W h
  rw [num_digs] at h;exact h:Calls prog 232 #[.slice A n c] W fun e w'=>e=.returned (.int .i64 (blen Q:Int))/\W=w')
 obtain⟨bq,hbq⟩:∃ b,blen Q=b:=⟨_,rfl⟩
 rw [hbq] at hq57 HL
 have h57i:¬ (bq:Int)<57:=by omega
 have hlr:=fun (m:Nat) (h:(digs R).length=m)=>(show decide (0<R)=decide (0<m) from by
  rcases Nat.eq_zero_or_pos R with h0 | h0
  ·subst h0;rw [digs_zero] at h;subst h;rfl
  ·have:=digs_len_pos (by omega) h
   rw [decide_eq_true h0,decide_eq_true this])
 have HLR:=Hd hlr;clear hu hv hN hD L1 L2 HS wN wD hq2 hbn hbd hQ hR hbq hlr hq57 h57
 go_enter func241,ntmps241
 go_wp2_with fail;refine K2.out.mono ?_;rintro e w' ⟨rfl,rfl⟩;go_wp2_with fail;refine K1.out.mono ?_;rintro e w' ⟨rfl,rfl⟩;go_wp2_with fail;refine KS.out.mono ?_;rintro e w1 ⟨A1,n1,c1,rfl,hu1,hb1⟩;have HU1:=Hd hu1;have HV1:=Hd (HV.out.below hb1);have HB1:=Hd hb1;clear hu1 hb1 K1 K2 KS HV;go_wp2_with fail;refine (HQ.out _ _ _ _ _ _ _ HU1.out HV1.out).mono ?_;rintro e w2 ⟨A2,n2,c3,B2,m2,d2,rfl,hq,hr,hb2⟩;have HB2:=Hd (HB1.out.trans (hb2.mono HB1.out.size));have HQ2:=Hd hq;have HRL:=Hd (HLR.out _ hr.len);clear hq hr hb2 HU1 HV1 HB1 HQ HLR;have hi0:max 0 ((bd:Int) - (bn:Int))=0:=hmx;go_wp2
 go_loopw [11,14,15,17,18] (fun kv qv rv _ _ wr=>kv=.int .i64 0/\qv=.slice A2 n2 c3/\rv=.slice B2 m2 d2/\wr=w2) (fun _ _ _ _ _ _=>0)
 case atStart=>exact⟨rfl,rfl,rfl,rfl⟩
 case round=>
  obtain⟨rfl,rfl,rfl,rfl⟩:=hrel;go_wp2_with fail;refine cy (HL.out _ _ _ _ HQ2.out) ?_;go_wp2_with fail;have h:=HF.out _ _ _ _ HQ2.out;rw [HRL.out] at h;refine h.mono ?_;rintro e w3 ⟨rfl,hb3⟩;have HB3:=Hd (HB2.out.trans (hb3.mono HB2.out.size));clear hb3 h;go_wp2
  go_ret
  exact⟨rfl,HB3.out⟩
theorem of_tiny(d:Int)(neg:Bool)(N D:Nat)(exp:Int)(w:World)(hN:0<N)(hD:0<D)(h:(blen N:Int) - blen D+exp < -1100)(hd:d=-1\/d=1):
  Calls prog 230 #[.int .i64 d,.bool neg,.slice (some ⟨w.heap.size,0,none⟩) 1 1,.int .i64 (-1200),.bool false] (w.alloc (.cells #[.int .u32 1] 117)) (RtOf w d neg N D exp):=by
 obtain⟨U,hU⟩:∃ U,U=1074:=⟨_,rfl⟩
 obtain⟨V,hV⟩:∃ V,V=1200:=⟨_,rfl⟩
 have e0:(-1200:Int)=-(V:Int):=by omega
 have e1:(-(-(V:Int))).toNat=V:=by omega
 have e2:(-(V:Int)).toNat=0:=by omega
 have hdg:=Dg.exact 1 (-(V:Int));have hx:=U32s.lit1 w 117 (a:=1) (by omega)
 have hb1:blen 1=1:=by decide
 have ht:=tiny_of hU hD rfl rfl h;have h1:=of_pos d neg false (some ⟨w.heap.size,0,none⟩) 1 1 1 _ _ [1] (-(V:Int)) _ hx (by decide) (by omega) (by decide) hd hdg (Nat.two_pow_pos _) (fun h=>by cases h) (by omega) (by omega);rw [e1,e2,Nat.pow_zero] at h1
 have h2:rndI d (rv neg (1*1) (2^V))=rndI d (rv neg (N*2^exp.toNat) (D*2^(-exp).toNat)):=by
  refine rndI_tiny hd hU (by omega) (Nat.two_pow_pos _) ?_ (Nat.mul_pos hN (Nat.two_pow_pos _)) (Nat.mul_pos hD (Nat.two_pow_pos _)) ht;rw [Nat.mul_one,Nat.one_mul]
  exact Nat.pow_lt_pow_right (by omega) (by omega)
 rw [h2,rv_scale neg hD exp] at h1;rw [e0];refine h1.mono ?_;rintro e w' ⟨rfl,hb⟩
 exact⟨rfl,(below_alloc w _).trans (hb.mono (by simp))⟩
theorem ratio_any(d:Int)(neg:Bool)(A B:Option Addr)(n c m c2 N D:Nat)(exp:Int)(w:World)(hu:U32s w A n c (digs N))(hv:U32s w B m c2 (digs D))(hD:0<D)(hbN:blen N<=200000)(hbD:blen D<=150000)(hd:d=-1\/d=1)
  (he1:-1099511627776<=exp)(he2:exp<=1099511627776):
  Calls prog 211 #[.int .i64 d,.bool neg,.slice A n c,.slice B m c2,.int .i64 exp] w (RtOf w d neg N D exp):=by
 have L1:=nlen_any A n c _ w hu;have L2:=nlen_any B m c2 _ w hv;rw [num_digs] at L1 L2
 have hbD0:blen D≠0:=fun h=>by rw [blen_eq_zero] at h;omega
 rcases Nat.eq_zero_or_pos N with h0 | hN
 ·subst h0;have K1:=Hd L1;have K2:=Hd L2;rw [blen_zero] at K1
  obtain⟨bd,hbd⟩:∃ b,blen D=b:=⟨_,rfl⟩
  rw [hbd] at K2 hbD hbD0
  have hz:((bd:Int) == 0)=false:=by simp;omega
  have hP:=Hd (show pat (rndI d (rv neg 0 D*2^exp))=0 from by rw [rv_zero,Rat.zero_mul,rndI_zero hd];rfl);clear L1 L2 hbd hu hv hbN
  go_enter func211,ntmps211
  go_wp2_with fail;refine K1.out.mono ?_;rintro e w' ⟨rfl,rfl⟩;go_wp2_with fail;refine K2.out.mono ?_;rintro e w' ⟨rfl,rfl⟩;clear K1 K2;go_wp2
  go_ret
  exact⟨by rw [hP.out];rfl,Below.refl _ _⟩
 ·have hbN0:blen N≠0:=fun h=>by rw [blen_eq_zero] at h;omega
  have HT:=Hd fun W h=>of_tiny d neg N D exp W hN hD h hd;have HLG:=Hd fun h57 h1=>long_plain d neg A B n c m c2 N D exp w hu hv hN hD (by omega) (by omega) h57 hd h1 he2;have wN:=wlen_digs_le (K:=16384) (S:=N) (by omega)
  have HS:=Hd fun k (hk:blen N+k<=524288)=>(by
   have h:=nshl_any A n c k _ w hu wN (by rw [num_digs];omega)
   rw [num_digs] at h;exact h:Calls prog 202 #[.slice A n c,.int .i64 (k:Int)] w (NewU32E w (digs (N*2^k))))
  have HQ:=Hd fun k (hk:blen N+k<=524288) A B n c m d W (h1:U32s W A n c (digs (N*2^k))) (h2:U32s W B m d (digs D))=>(by
   have h:=nquo_any A B n c m d _ _ W h1 h2 (wlen_digs_le (K:=16384) (by rw [blen_shl _ _ hN];omega)) (wlen_digs_le (K:=16384) (by omega)) (by rw [num_digs];exact hD)
   rw [num_digs,num_digs] at h;exact h:Calls prog 240 #[.slice A n c,.slice B m d] W (NewQR W (N*2^k / D) (N*2^k % D)))
  have HF:=Hd fun k A n c W hk h57 h h1=>of_quo d neg A n c N D k exp W hN hD (by omega) hk h57 h hd h1 he2;have HH:=Hd fun W=>hold_any exp W he1 he2;have HV:=Hd hv;have K1:=Hd L1;have K2:=Hd L2
  obtain⟨bd,hbd⟩:∃ b,blen D=b:=⟨_,rfl⟩
  obtain⟨bn,hbn⟩:∃ b,blen N=b:=⟨_,rfl⟩
  rw [hbd] at K2 hbD hbD0 HT HLG HF;rw [hbn] at K1 hbN hbN0 HT HLG HS HQ HF
  have hz1:((bd:Int) == 0)=false:=by simp;omega
  have hz2:((bn:Int) == 0)=false:=by simp;omega
  clear L1 L2 hbd hbn hu hv wN hN hD hd hbD0 hbN0
  go_enter func211,ntmps211
  go_wp2_with fail;refine K1.out.mono ?_;rintro e w' ⟨rfl,rfl⟩;go_wp2_with fail;refine K2.out.mono ?_;rintro e w' ⟨rfl,rfl⟩;clear K1 K2;go_wp2_with fail;refine cy (HH.out _) ?_;clear HH
  by_cases ht:(bn:Int) - (bd:Int)+exp < -1100
  ·have K:=Hd (HT.out w ht);clear HT HLG HS HQ HF HV;go_wp2_with fail;refine K.out.mono ?_;rintro e w' ⟨rfl,hb⟩;have HB:=Hd hb;clear hb K;go_wp2
   go_ret
   exact⟨rfl,HB.out⟩
  ·by_cases hk:57+(bd:Int) - (bn:Int)<=0
   ·have K:=Hd (HLG.out (by omega) (by omega));clear HT HLG HS HQ HF HV;go_wp2_with fail;refine K.out.mono ?_;rintro e w' ⟨rfl,hb⟩;have HB:=Hd hb;clear hb K;go_wp2
    go_ret
    exact⟨rfl,HB.out⟩
   ·obtain⟨k,hkk⟩:∃ k:Nat,57+(bd:Int) - (bn:Int)=(k:Int):=⟨(57+(bd:Int) - (bn:Int)).toNat,by omega⟩
    have hk0:¬ (k:Int)<=0:=by omega
    have KS:=Hd (HS.out k (by omega));have KQ:=Hd (HQ.out k (by omega));have KF:=Hd fun A n c W h=>HF.out k A n c W (by omega) (by omega) h (by omega)
    obtain⟨Q,hQ⟩:∃ z,N*2^k / D=z:=⟨_,rfl⟩
    obtain⟨R,hR⟩:∃ z,N*2^k % D=z:=⟨_,rfl⟩
    rw [hQ] at KQ KF;rw [hR] at KQ KF
    have HLR:=Hd fun (m:Nat) (h:(digs R).length=m)=>(show decide (0<R)=decide (0<m) from by
     rcases Nat.eq_zero_or_pos R with h0 | h0
     ·subst h0;rw [digs_zero] at h;subst h;rfl
     ·have:=digs_len_pos (by omega) h
      rw [decide_eq_true h0,decide_eq_true this])
    have hk2:(k:Int)<=200000:=by omega
    have hk3:¬ (bn:Int) - (bd:Int)+exp < -1100:=ht;clear HT HLG HS HQ HF hQ hR hk;go_wp2_with fail;refine KS.out.mono ?_;rintro e w1 ⟨A1,n1,c1,rfl,hu1,hb1⟩;have HU1:=Hd hu1;have HV1:=Hd (HV.out.below hb1);have HB1:=Hd hb1;clear hu1 hb1 KS HV;go_wp2_with fail;refine (KQ.out _ _ _ _ _ _ _ HU1.out HV1.out).mono ?_;rintro e w2 ⟨A2,n2,c3,B2,m2,d2,rfl,hq,hr,hb2⟩;have HB2:=Hd (HB1.out.trans (hb2.mono HB1.out.size));have HQ2:=Hd hq;have HRL:=Hd (HLR.out _ hr.len);clear hq hr hb2 HU1 HV1 HB1 KQ HLR;go_wp2_with fail;have h:=KF.out _ _ _ _ HQ2.out;rw [HRL.out] at h;refine h.mono ?_;rintro e w3 ⟨rfl,hb3⟩;have HB3:=Hd (HB2.out.trans (hb3.mono HB2.out.size));clear hb3 h KF HRL HQ2 HB2;go_wp2
    go_ret
    exact⟨rfl,HB3.out⟩
end
section
attribute [local go_sem] run_store_float run_negf
def esg(s:Int)(g:Bool)(n:Nat):Int:=if s≠0 then s else if n=0 then 0 else if g then -1 else 1
theorem sign_inf(s:Int)(g:Bool)(n:Nat)(A:Option Addr)(c:Nat)(E:Int)(w:World)(hs:s≠0):Rt 158 #[.agg #[.int .i64 s,.bool g,.slice A n c,.int .i64 E]] (.int .i64 (s)) w:=by
 have h0:(s == 0)=false:=by simpa using hs
 have h1:(s != 0)=true:=by simp [hs]
 obtain⟨LB0,LG0_0⟩:=bx1 w #[.int .i64 s,.bool g,.slice A n c,.int .i64 E] 97;have q0:=LG0_0.out.cell 0;have q1:=LG0_0.out.cell 1;have q2:=LG0_0.out.cell 2;have F:=Hd LB0.out
 go_enter func158,ntmps158
 go_wp2
 go_ret
 exact⟨rfl,F.out⟩
theorem sign_nil(g:Bool)(A:Option Addr)(c:Nat)(E:Int)(w:World):Rt 158 #[.agg #[.int .i64 0,.bool g,.slice A 0 c,.int .i64 E]] (.int .i64 (0)) w:=by
 obtain⟨LB0,LG0_0⟩:=bx1 w #[.int .i64 0,.bool g,.slice A 0 c,.int .i64 E] 97;have q0:=LG0_0.out.cell 0;have q1:=LG0_0.out.cell 1;have q2:=LG0_0.out.cell 2;have F:=Hd LB0.out
 go_enter func158,ntmps158
 go_wp2
 go_ret
 exact⟨rfl,F.out⟩
theorem sign_neg(n:Nat)(A:Option Addr)(c:Nat)(E:Int)(w:World)(hn:0<n):Rt 158 #[.agg #[.int .i64 0,.bool true,.slice A n c,.int .i64 E]] (.int .i64 (-1)) w:=by
 have h0:((n:Int) == 0)=false:=by simp;omega
 obtain⟨LB0,LG0_0⟩:=bx1 w #[.int .i64 0,.bool true,.slice A n c,.int .i64 E] 97;have q0:=LG0_0.out.cell 0;have q1:=LG0_0.out.cell 1;have q2:=LG0_0.out.cell 2;have F:=Hd LB0.out
 go_enter func158,ntmps158
 go_wp2
 go_ret
 exact⟨rfl,F.out⟩
theorem sign_pos(n:Nat)(A:Option Addr)(c:Nat)(E:Int)(w:World)(hn:0<n):Rt 158 #[.agg #[.int .i64 0,.bool false,.slice A n c,.int .i64 E]] (.int .i64 (1)) w:=by
 have h0:((n:Int) == 0)=false:=by simp;omega
 obtain⟨LB0,LG0_0⟩:=bx1 w #[.int .i64 0,.bool false,.slice A n c,.int .i64 E] 97;have q0:=LG0_0.out.cell 0;have q1:=LG0_0.out.cell 1;have q2:=LG0_0.out.cell 2;have F:=Hd LB0.out
 go_enter func158,ntmps158
 go_wp2
 go_ret
 exact⟨rfl,F.out⟩
theorem sign_any(s:Int)(g:Bool)(A:Option Addr)(n c:Nat)(E:Int)(w:World):Rt 158 #[.agg #[.int .i64 s,.bool g,.slice A n c,.int .i64 E]] (.int .i64 (esg s g n)) w:=by
 unfold esg
 by_cases hs:s=0
 ·subst hs;rw [if_neg (by omega)]
  rcases Nat.eq_zero_or_pos n with hn | hn
  ·subst hn;rw [if_pos rfl];exact sign_nil g A c E w
  ·rw [if_neg (by omega)]
   cases g
   ·exact sign_pos n A c E w hn
   ·exact sign_neg n A c E w hn
 ·rw [if_pos hs];exact sign_inf s g n A c E w hs
theorem at_any(b:Nat)(w:World):Rt 88 #[.float .f64 b] (Zf b b) w:=by
 obtain⟨LB0,LR⟩:=bx1 w (Zv 0 0) 78;have LR0:=Hd (HasBlk.of (n:=2) LR.out rfl rfl);clear LR
 go_enter func88,ntmps88
 obtain⟨ha0,hf0,ha1,hf1⟩:=LR0.out.sf2;obtain⟨hk0,hk1⟩:=LR0.out.sc2 (.float .f64 b) (.float .f64 b);have F:=Hd (below_sets (w0:=w) (r:=w.heap.size) (by omega) [.float .f64 b,.float .f64 b] 0 _ LB0.out)
 simp [sets] at hk0 hk1
 go_wp2;refine bodyPost_ret (v:=Zf b b) (by simp [results,results88,go_sem,hk0,hk1]) rfl ?_
 exact⟨rfl,below_alloc _ _⟩
theorem over_nought(A:Option Addr)(c:Nat)(E:Int)(y:Nat)(w:World)(s:Int)(g:Bool)(n:Nat)(hs:esg s g n=0):Rt 157 #[.agg #[.int .i64 s,.bool g,.slice A n c,.int .i64 E],.float .f64 y] (Zf 0 0) w:=by
 have HS:=Hd fun W=>sign_any s g A n c E W;rw [hs] at HS;have HA:=Hd fun W=>at_any 0 W;obtain⟨LB0,LG0_0,LR⟩:=bx2 w #[.int .i64 s,.bool g,.slice A n c,.int .i64 E] 97 (Zv 0 0) 78;have LR0:=Hd (HasBlk.of (n:=2) LR.out rfl rfl);clear LR
 go_enter func157,ntmps157
 obtain⟨q0_0,q0_1,q0_2,q0_3⟩:=LG0_0.out.c4;go_wp2_with fail;refine cx (HS.out _) fun w1 hb1=>?_;have LB1:=stB LB0 hb1 LB0.out.size;have LR1:=stR LR0 hb1;have LG0_1:=stG LG0_0 hb1;clear LB0 LR0 LG0_0;clear hb1 HS q0_0 q0_1 q0_2 q0_3;have q0_0:=LG0_1.out.ce 0 rfl;go_wp2_with fail;refine cx (HA.out _) fun w2 hb2=>?_;have LB2:=stB LB1 hb2 LB1.out.size;have LR2:=stR LR1 hb2;have LG0_2:=stG LG0_1 hb2;clear LB1 LR1 LG0_1;clear hb2 HA q0_0;obtain⟨ha0,hf0,ha1,hf1⟩:=LR2.out.sf2;obtain⟨hk0,hk1⟩:=LR2.out.sc2 (.float .f64 0) (.float .f64 0);have F:=Hd (below_sets (w0:=w) (r:=(w.heap.size+1)) (by omega) [.float .f64 0,.float .f64 0] 0 _ LB2.out)
 simp [sets] at hk0 hk1
 go_wp2;refine bodyPost_ret (v:=Zf 0 0) (by simp [results,results157,go_sem,hk0,hk1]) rfl ?_
 exact⟨rfl,F.out⟩
theorem over_far(A:Option Addr)(c:Nat)(E:Int)(y:Nat)(w:World)(g:Bool)(n:Nat)(hs:esg 0 g n≠0)(hI:∀ W,Calls prog 161 #[.float .f64 y,.int .i64 1] W fun e w'=>e=.returned (.bool true)/\W=w'):Rt 157 #[.agg #[.int .i64 0,.bool g,.slice A n c,.int .i64 E],.float .f64 y] (Zf 0 0) w:=by
 have HS:=Hd fun W=>sign_any 0 g A n c E W
 obtain⟨sg,hsg⟩:∃ z,esg 0 g n=z:=⟨_,rfl⟩
 rw [hsg] at HS hs
 have hz:(sg == 0)=false:=by simpa using hs
 clear hsg hs;have HI:=Hd hI;clear hI;have HA:=Hd fun W=>at_any 0 W;obtain⟨LB0,LG0_0,LR⟩:=bx2 w #[.int .i64 0,.bool g,.slice A n c,.int .i64 E] 97 (Zv 0 0) 78;have LR0:=Hd (HasBlk.of (n:=2) LR.out rfl rfl);clear LR
 go_enter func157,ntmps157
 obtain⟨q0_0,q0_1,q0_2,q0_3⟩:=LG0_0.out.c4;go_wp2_with fail;refine cx (HS.out _) fun w1 hb1=>?_;have LB1:=stB LB0 hb1 LB0.out.size;have LR1:=stR LR0 hb1;have LG0_1:=stG LG0_0 hb1;clear LB0 LR0 LG0_0;clear hb1 HS q0_0 q0_1 q0_2 q0_3;have q0_0:=LG0_1.out.ce 0 rfl;go_wp2_with fail;refine cy (HI.out _) ?_;clear HI;go_wp2_with fail;refine cx (HA.out _) fun w2 hb2=>?_;have LB2:=stB LB1 hb2 LB1.out.size;have LR2:=stR LR1 hb2;have LG0_2:=stG LG0_1 hb2;clear LB1 LR1 LG0_1;clear hb2 HA q0_0;obtain⟨ha0,hf0,ha1,hf1⟩:=LR2.out.sf2;obtain⟨hk0,hk1⟩:=LR2.out.sc2 (.float .f64 0) (.float .f64 0);have F:=Hd (below_sets (w0:=w) (r:=(w.heap.size+1)) (by omega) [.float .f64 0,.float .f64 0] 0 _ LB2.out)
 simp [sets] at hk0 hk1
 go_wp2;refine bodyPost_ret (v:=Zf 0 0) (by simp [results,results157,go_sem,hk0,hk1]) rfl ?_
 exact⟨rfl,F.out⟩
theorem over_inf_pos(g:Bool)(n:Nat)(A:Option Addr)(c:Nat)(E:Int)(y:Nat)(b:Bool)(w:World)(hI:∀ W,Calls prog 161 #[.float .f64 y,.int .i64 1] W fun e w'=>e=.returned (.bool b)/\W=w'):Rt 157 #[.agg #[.int .i64 1,.bool g,.slice A n c,.int .i64 E],.float .f64 y] (Zf 9218868437227405312 9218868437227405312) w:=by
 have HS:=Hd fun W=>sign_inf 1 g n A c E W (by omega);have HI:=Hd hI;clear hI;have HA:=Hd fun W=>at_any 9218868437227405312 W;have HN:=Hd fun W=>inf_pos W
 cases b
 all_goals
  have LB0:=Hd (show Below w.heap.size w ((w.alloc (.cells #[.int .i64 1,.bool g,.slice A n c,.int .i64 E] 97)).alloc (.cells (Zv 0 0) 78)) from ((below_alloc w _).alloc (by simp<;>omega) _));have LG0_0:=Hd (((Blk.at (W:=w) (g:=w.heap.size) (by simp<;>omega) 97 #[.int .i64 1,.bool g,.slice A n c,.int .i64 E]).alloc (.cells (Zv 0 0) 78)));have LR0:=Hd (HasBlk.of (n:=2) (Blk.at (W:=(w.alloc (.cells #[.int .i64 1,.bool g,.slice A n c,.int .i64 E] 97))) (g:=(w.heap.size+1)) (by simp<;>omega) 78 (Zv 0 0)) rfl rfl)
  go_enter func157,ntmps157
  have q0_0:=LG0_0.out.ce 0 rfl;have q0_1:=LG0_0.out.ce 1 rfl;have q0_2:=LG0_0.out.ce 2 rfl;have q0_3:=LG0_0.out.ce 3 rfl;go_wp2_with fail;refine cx (HS.out _) fun w1 hb1=>?_;have LB1:=stB LB0 hb1 LB0.out.size;have LR1:=stR LR0 hb1;have LG0_1:=stG LG0_0 hb1;clear LB0 LR0 LG0_0;clear hb1 HS q0_0 q0_1 q0_2 q0_3;have q0_0:=LG0_1.out.ce 0 rfl;go_wp2_with fail;refine cy (HI.out _) ?_;clear HI;go_wp2_with fail;refine cy (HN.out _) ?_;clear HN;go_wp2_with fail;refine cx (HA.out _) fun w2 hb2=>?_;have LB2:=stB LB1 hb2 LB1.out.size;have LR2:=stR LR1 hb2;have LG0_2:=stG LG0_1 hb2;clear LB1 LR1 LG0_1;clear hb2 HA q0_0;obtain⟨ha0,hf0,ha1,hf1⟩:=LR2.out.sf2;obtain⟨hk0,hk1⟩:=LR2.out.sc2 (.float .f64 9218868437227405312) (.float .f64 9218868437227405312);have F:=Hd (below_sets (w0:=w) (r:=(w.heap.size+1)) (by omega) [.float .f64 9218868437227405312,.float .f64 9218868437227405312] 0 _ LB2.out)
  simp [sets] at hk0 hk1
  go_wp2;refine bodyPost_ret (v:=Zf 9218868437227405312 9218868437227405312) (by simp [results,results157,go_sem,hk0,hk1]) rfl ?_
  exact⟨rfl,F.out⟩
theorem over_inf_neg(g:Bool)(n:Nat)(A:Option Addr)(c:Nat)(E:Int)(y:Nat)(b:Bool)(w:World)(hI:∀ W,Calls prog 161 #[.float .f64 y,.int .i64 1] W fun e w'=>e=.returned (.bool b)/\W=w'):Rt 157 #[.agg #[.int .i64 (-1),.bool g,.slice A n c,.int .i64 E],.float .f64 y] (Zf 18442240474082181120 18442240474082181120) w:=by
 have HS:=Hd fun W=>sign_inf (-1) g n A c E W (by omega);have HI:=Hd hI;clear hI;have HA:=Hd fun W=>at_any 18442240474082181120 W;have HN:=Hd fun W=>inf_neg W
 cases b
 all_goals
  have LB0:=Hd (show Below w.heap.size w ((w.alloc (.cells #[.int .i64 (-1),.bool g,.slice A n c,.int .i64 E] 97)).alloc (.cells (Zv 0 0) 78)) from ((below_alloc w _).alloc (by simp<;>omega) _));have LG0_0:=Hd (((Blk.at (W:=w) (g:=w.heap.size) (by simp<;>omega) 97 #[.int .i64 (-1),.bool g,.slice A n c,.int .i64 E]).alloc (.cells (Zv 0 0) 78)));have LR0:=Hd (HasBlk.of (n:=2) (Blk.at (W:=(w.alloc (.cells #[.int .i64 (-1),.bool g,.slice A n c,.int .i64 E] 97))) (g:=(w.heap.size+1)) (by simp<;>omega) 78 (Zv 0 0)) rfl rfl)
  go_enter func157,ntmps157
  have q0_0:=LG0_0.out.ce 0 rfl;have q0_1:=LG0_0.out.ce 1 rfl;have q0_2:=LG0_0.out.ce 2 rfl;have q0_3:=LG0_0.out.ce 3 rfl;go_wp2_with fail;refine cx (HS.out _) fun w1 hb1=>?_;have LB1:=stB LB0 hb1 LB0.out.size;have LR1:=stR LR0 hb1;have LG0_1:=stG LG0_0 hb1;clear LB0 LR0 LG0_0;clear hb1 HS q0_0 q0_1 q0_2 q0_3;have q0_0:=LG0_1.out.ce 0 rfl;go_wp2_with fail;refine cy (HI.out _) ?_;clear HI;go_wp2_with fail;refine cy (HN.out _) ?_;clear HN;go_wp2_with fail;refine cx (HA.out _) fun w2 hb2=>?_;have LB2:=stB LB1 hb2 LB1.out.size;have LR2:=stR LR1 hb2;have LG0_2:=stG LG0_1 hb2;clear LB1 LR1 LG0_1;clear hb2 HA q0_0;obtain⟨ha0,hf0,ha1,hf1⟩:=LR2.out.sf2;obtain⟨hk0,hk1⟩:=LR2.out.sc2 (.float .f64 18442240474082181120) (.float .f64 18442240474082181120);have F:=Hd (below_sets (w0:=w) (r:=(w.heap.size+1)) (by omega) [.float .f64 18442240474082181120,.float .f64 18442240474082181120] 0 _ LB2.out)
  simp [sets] at hk0 hk1
  go_wp2;refine bodyPost_ret (v:=Zf 18442240474082181120 18442240474082181120) (by simp [results,results157,go_sem,hk0,hk1]) rfl ?_
  exact⟨rfl,F.out⟩
theorem over_fin(g:Bool)(n:Nat)(A:Option Addr)(c S:Nat)(E:Int)(y SY:Nat)(ey:Int)(V1 V2:Nat)(w:World)(hs:esg 0 g n≠0)(hI:∀ W,Calls prog 161 #[.float .f64 y,.int .i64 1] W fun e w'=>e=.returned (.bool false)/\W=w')(h1:U32s w A n c (digs S))
  (hS:∀ w,Calls prog 168 #[.float .f64 y] w (SplitTo w false SY ey))(hSY:L64 SY)(hE:-1074<=E/\E<=971)(hey:-1074<=ey/\ey<=971)
  (hR:∀ B m d W,U32s W A n c (digs S)->U32s W B m d (digs SY)->(Rt 211 #[.int .i64 (-1),.bool g,.slice A n c,.slice B m d,.int .i64 (E - ey)] (.float .f64 V1) W)/\(Rt 211 #[.int .i64 1,.bool g,.slice A n c,.slice B m d,.int .i64 (E - ey)] (.float .f64 V2) W)):
  Rt 157 #[.agg #[.int .i64 0,.bool g,.slice A n c,.int .i64 E],.float .f64 y] (Zf V1 V2) w:=by
 have HS:=Hd fun W=>sign_any 0 g A n c E W
 obtain⟨sg,hsg⟩:∃ z,esg 0 g n=z:=⟨_,rfl⟩
 rw [hsg] at HS hs
 have hz:(sg == 0)=false:=by simpa using hs
 have e0:=hE.1;have e1:=hE.2;have e2:=hey.1;have e3:=hey.2
 have hw:IntKind.i64.wrap (E - ey)=E - ey:=by rw [IntKind.wrap_i64];omega
 have HI:=Hd hI;have HP:=Hd hS;have HM:=Hd fun W=>nsmall_any SY W hSY;have HR:=Hd hR;have U0:=Hd h1;clear hsg hs hI hS hSY hR hE hey h1;obtain⟨LB0,LG0_0,LR⟩:=bx2 w #[.int .i64 0,.bool g,.slice A n c,.int .i64 E] 97 (Zv 0 0) 78;have LR0:=Hd (HasBlk.of (n:=2) LR.out rfl rfl);clear LR;have U1:=Hd (U0.out.below LB0.out);clear U0
 go_enter func157,ntmps157
 obtain⟨q0_0,q0_1,q0_2,q0_3⟩:=LG0_0.out.c4;go_wp2_with fail;refine cx (HS.out _) fun w1 hb1=>?_;have LB1:=stB LB0 hb1 LB0.out.size;have LR1:=stR LR0 hb1;have LG0_1:=stG LG0_0 hb1;clear LB0 LR0 LG0_0;have U2:=Hd (U1.out.below hb1);clear hb1 HS U1 q0_0 q0_1 q0_2 q0_3;obtain⟨q0_0,q0_1,q0_2,q0_3⟩:=LG0_1.out.c4;go_wp2_with fail;refine cy (HI.out _) ?_;clear HI;go_wp2_with fail;refine cx (HP.out _) fun w2 hb2=>?_;have LB2:=stB LB1 hb2 LB1.out.size;have LR2:=stR LR1 hb2;have LG0_2:=stG LG0_1 hb2;clear LB1 LR1 LG0_1;have U3:=Hd (U2.out.below hb2);clear hb2 HP U2 q0_0 q0_1 q0_2 q0_3;go_wp2_with fail;refine (HM.out _).mono ?_;rintro e w3 ⟨B,m,d,rfl,hu3,hb3⟩;have LB3:=stB LB2 hb3 LB2.out.size;have LR3:=stR LR2 hb3;have LG0_3:=stG LG0_2 hb3;clear LB2 LR2 LG0_2;have U4:=Hd (U3.out.below hb3);have V4:=Hd hu3;clear hu3 hb3 HM U3;go_wp2_with fail;refine wp_region_held_drew (S:=fun W'=>Blk W' w.heap.size 97 #[.int .i64 0,.bool g,.slice A n c,.int .i64 E]/\HasBlk W' (w.heap.size+1) 78 2/\Below w.heap.size w W') (by kernel_rfl) (by exact⟨LG0_3.out.drew,LR3.out.drew,LB3.out.drew⟩) (fun hHeld=>?_);refine tks 0 ?_;refine tkb 1 (fun _ h=>h.1.c4) ?_;refine tks 2 ?_;refine tkb 3 (fun _ h=>h.1.c4) ?_;refine tks 4 ?_;refine tks 5 ?_;refine tkb 6 (fun _ h=>h.1.c4) ?_;refine tks 7 ?_;refine tks 8 ?_;refine tks 10 ?_;refine tkb 11 (fun _ h=>h.1.c4) ?_;refine tks 12 ?_;refine tkb 13 (fun _ h=>h.1.c4) ?_;refine tks 14 ?_;refine tks 15 ?_;refine tkb 16 (fun _ h=>h.1.c4) ?_;refine tks 17 ?_;refine tks 18 ?_
 refine rdy 9 fun KK hKK=>?_;go_simp;refine (HR.out _ _ _ _ U4.out.drew V4.out.drew).1.mono ?_;rintro e w4 ⟨rfl,hbA⟩;go_wp2_with fail;refine hKK.out _ _ (⟨hHeld.1.keep hbA,hHeld.2.1.keep hbA,hHeld.2.2.trans (hbA.mono hHeld.2.2.size)⟩) (fun _=>?_);clear hKK KK hHeld;rename_i hHeld;(try simp only [Act.put,lay]);refine rdy 19 fun KK hKK=>?_;go_simp;refine (HR.out _ _ _ _ (U4.out.drew.below hbA) (V4.out.drew.below hbA)).2.mono ?_;rintro e w5 ⟨rfl,hbB⟩;go_wp2_with fail;refine hKK.out _ _ (⟨hHeld.1.keep hbB,hHeld.2.1.keep hbB,hHeld.2.2.trans (hbB.mono hHeld.2.2.size)⟩) (fun _=>?_);clear hKK KK hHeld;rename_i hHeld;(try simp only [Act.put,lay]);refine tks 20 ?_;refine rdy 21 fun KK hKK=>?_;have ha0:=hHeld.2.1.someCell 0 (by decide);have hf0:=hHeld.2.1.frozen 0;have ha1:=hHeld.2.1.someCell 1 (by decide);have hf1:=hHeld.2.1.frozen 1;have HK:=Hd (hHeld.2.1.setCell [.float .f64 V1,.float .f64 V2] rfl);have F:=Hd (below_sets (w0:=w) (r:=(w.heap.size+1)) (by omega) [.float .f64 V1,.float .f64 V2] 0 _ hHeld.2.2);go_simp;refine hKK.out _ _ (⟨hHeld.1.other (by omega) 0 [.float .f64 V1,.float .f64 V2],hHeld.2.1.sets [.float .f64 V1,.float .f64 V2] rfl rfl,below_sets (by omega) [.float .f64 V1,.float .f64 V2] 0 _ hHeld.2.2⟩) (fun _=>?_);clear hKK KK hHeld;rename_i hHeld;(try simp only [Act.put,lay]);refine wpAnyH_done (by kernel_rfl) ?_ _;have hk0:=HK.out 0 (by decide);have hk1:=HK.out 1 (by decide)
 simp [sets] at hk0 hk1
 clear hHeld HK hbA hbB;clear LB3 LR3 LG0_3;go_wp2;refine bodyPost_ret (v:=Zf V1 V2) (by simp [results,results157,go_sem,hk0,hk1]) rfl ?_
 exact⟨rfl,F.out⟩
def ExI(w:World)(s:Int)(g:Bool)(A:Option Addr)(n c:Nat)(E:Int)(x:Rat):Prop:=
 (s=0\/s=1\/s=-1)/\(s=0->∃ S,U32s w A n c (digs S)/\blen S<=5000/\-1074<=E/\E<=971/\x=rv g S 1*2^E)
theorem ExI.below{w w':World}{s:Int}{g:Bool}{A:Option Addr}{n c:Nat}{E:Int}{x:Rat}(h:ExI w s g A n c E x)(hb:Below w.heap.size w w'):ExI w' s g A n c E x:=
 ⟨h.1,fun h0=>by obtain⟨S,h1,h2⟩:=h.2 h0;exact⟨S,h1.below hb,h2⟩⟩
theorem ExI.keep{w w':World}{s:Int}{g:Bool}{A:Option Addr}{n c:Nat}{E:Int}{x:Rat}(h:ExI w s g A n c E x)(hs:∀ xs,U32s w A n c xs->U32s w' A n c xs):ExI w' s g A n c E x:=
 ⟨h.1,fun h0=>by obtain⟨S,h1,h2⟩:=h.2 h0;exact⟨S,hs _ h1,h2⟩⟩
def esx(s:Int)(x:Rat):Int:=if s≠0 then s else rsg x
theorem rv_pow_pos{S:Nat}{E:Int}(hS:0<S):0<rv false S 1*2^E:=by
 have h1:0<rv false S 1:=by
  have h1:=mt (rv_le_false (p:=S) (p':=0) (q:=1) (by omega) (q':=1) (by omega)).1 (by omega);rw [rv_zero] at h1
  grind
 exact Rat.mul_pos h1 (zpow_pos E)
theorem ExI.sg{w:World}{s:Int}{g:Bool}{A:Option Addr}{n c:Nat}{E:Int}{x:Rat}(h:ExI w s g A n c E x):esg s g n=esx s x:=by
 unfold esg esx
 by_cases hs:s=0
 ·subst hs
  simp only [ne_eq,not_true_eq_false,if_false]
  obtain⟨S,hu,-,-,-,rfl⟩:=h.2 rfl
  rcases Nat.eq_zero_or_pos S with h0 | h0
  ·subst h0;have:=hu.len;rw [digs_zero] at this;rw [if_pos (show n=0 from this.symm),rv_zero];simp [rsg]
  ·have hn:=digs_len_pos h0 hu.len;have hp:=rv_pow_pos (E:=E) h0;rw [if_neg (by omega)];unfold rsg
   cases g
   ·have a1:¬ rv false S 1*2^E=0:=by grind
    have a2:¬ rv false S 1*2^E<0:=by grind
    rw [if_neg a1,if_neg a2];rfl
   ·rw [rv_true,Rat.neg_mul]
    have a1:¬ -(rv false S 1*2^E)=0:=by grind
    have a2:-(rv false S 1*2^E)<0:=by grind
    rw [if_neg a1,if_pos a2];rfl
 ·rw [if_pos hs,if_pos hs]
def ov(s:Int)(x:Rat)(j:Int):Int × Int:=if s≠0 then (s*M,s*M) else if x=0\/j=M then (0,0) else (rndI (-1) (x / fl j),rndI 1 (x / fl j))
theorem div_dyad(g:Bool)(S SY:Nat)(E ey:Int)(h:0<SY):rv g S SY*2^(E - ey)=rv g S 1*2^E / (rv false SY 1*2^ey):=by
 have h1:=zpow_ne ey;have h2:(SY:Rat)≠0:=cast_ne h
 have e1:rv false SY 1=(SY:Rat):=by unfold rv;simp [Rat.div_def];grind
 have e2:(2:Rat)^E=2^(E - ey)*2^ey:=by rw [<- zpow_add];congr 1;omega
 rw [rv_over g S SY,e1]
 have h3:(SY:Rat)*2^ey≠0:=by
  intro h4
  rcases Rat.mul_eq_zero.1 h4 with h5 | h5
  ·exact h2 h5
  ·exact h1 h5
 refine eq_div h3 ?_;rw [e2];have h4:(SY:Rat)⁻¹*SY=1:=Rat.inv_mul_cancel _ h2
 have h5:rv g S 1*(SY:Rat)⁻¹*2 ^ (E - ey)*(↑SY*2 ^ ey)=rv g S 1*(2^(E - ey)*2^ey)*((SY:Rat)⁻¹*SY):=by grind
 rw [h5,h4];grind
theorem over_any(s:Int)(g:Bool)(A:Option Addr)(n c:Nat)(E:Int)(x:Rat)(j:Int)(w:World)(h:ExI w s g A n c E x)(hj:0<j)(hj2:j<=M):
  Rt 157 #[.agg #[.int .i64 s,.bool g,.slice A n c,.int .i64 E],.float .f64 (pat j)] (Zf (pat (ov s x j).1) (pat (ov s x j).2)) w:=by
 have hM:=M_val;have hpj:idx (pat j)=j:=idx_pat (by omega) hj2
 have hrj:rungOf (pat j)<=M:=by rw [rung_pat (by omega) hj2];omega
 have HI:=fun W=>isinf1 (pat j) W hrj;rw [hpj] at HI;have hsg:=h.sg;unfold ov
 rcases h.1 with rfl | rfl | rfl
 ·rw [if_neg (by omega)]
  by_cases hx:x=0
  ·rw [if_pos (.inl hx)];refine over_nought A c E (pat j) w 0 g n ?_;rw [hsg,hx];simp [esx,rsg]
  ·have hne:esg 0 g n≠0:=by
    rw [hsg];unfold esx rsg;rw [if_neg (by omega),if_neg hx]
    split<;>omega
   by_cases hjm:j=M
   ·rw [if_pos (.inr hjm)];rw [decide_eq_true hjm] at HI
    exact over_far A c E (pat j) w g n hne HI
   ·rw [if_neg (by intro h;rcases h with h | h;exact hx h;exact hjm h)];rw [decide_eq_false hjm] at HI;obtain⟨S,hu,hbS,hE1,hE2,rfl⟩:=h.2 rfl
    have hfin:fin (pat j):=by show rungOf (pat j)<M;rw [rung_pat (by omega) hj2];omega
    obtain⟨SY,ey,k1,k2,k3,k4,k5⟩:=split_any (pat j) (pat_lt (by omega) hj2) hfin;rw [hpj,decide_eq_false (by omega)] at k4 k5
    have hSY:0<SY:=by
     rcases Nat.eq_zero_or_pos SY with h0 | h0
     ·rw [h0,rv_zero,Rat.zero_mul] at k4;have:=fl_lt_iff.2 hj;rw [fl_zero,k4] at this;grind
     ·exact h0
    have hbY:blen SY<=53:=blen_le_iff.2 (by omega);have hdv:=div_dyad g S SY E ey hSY;rw [<- k4] at hdv;rw [<- hdv]
    exact over_fin g n A c S E (pat j) SY ey _ _ w hne HI hu k5 (by omega) ⟨hE1,hE2⟩ ⟨k2,k3⟩ (fun B m d W u1 u2=>⟨ratio_any (-1) g A B n c m d S SY (E - ey) W u1 u2 hSY (by omega) (by omega) (.inl rfl) (by omega) (by omega),ratio_any 1 g A B n c m d S SY (E - ey) W u1 u2 hSY (by omega) (by omega) (.inr rfl) (by omega) (by omega)⟩)
 ·rw [if_pos (by omega)];have h:=over_inf_pos g n A c E (pat j) _ w HI
  exact h
 ·rw [if_pos (by omega)];have h:=over_inf_neg g n A c E (pat j) _ w HI
  exact h
end
theorem NewBd.up{w w':World}{K K':Nat}{s:Int}{x:Rat}{N:Int}{o:Bool}{e:Ending}(h:NewBd w K s x N o e w')(hk:K<=K'):NewBd w K' s x N o e w':=by
 obtain⟨g,A,n,c,B,m,d,rfl,hr,hb⟩:=h
 exact⟨g,A,n,c,B,m,d,rfl,hr.mono hk,hb⟩
def rt(s1:Int)(x1:Rat)(s2:Int)(x2:Rat):Int × Rat × Bool:=
 if esx s1 x1=0 then (0,0,false) else if s2≠0 then (0,0,true) else if s1≠0\/x2=0 then (esx s1 x1,0,true) else (0,x1 / x2,false)
end Go.Proofs.YthlmlmfebpjgdaaGreatDoor
