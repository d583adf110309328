/-
Walks: package vergeref3, rounded, Bits.
Walks: package vergeref2, Plus.
-/
import Derived.Test.YtfcpabgampebaaaGreatM05
import Derived.Test.YtfcpabgampebaaaGreatM06
import Derived.Deep.DeepCutAuto
import Derived.Test.YtfcpabgampebaaaGreatM02
import Derived.Test.YtfcpabgampebaaaGreatM01
set_option linter.unusedSimpArgs false
set_option linter.unusedVariables false
set_option maxHeartbeats 12800000
namespace Go.Proofs.YtfcpabgampebaaaGreat
open Go.RowKit
theorem by_v{a b:Nat}(A B:Option Addr)(n c m d:Nat)(w:World)(hx:U32s w A n c (digs a))(hy:U32s w B m d (digs b))(hs:n≤1073741824)(hm:m≤1073741824)(h0:0<b):
  Calls Tryz.prog 76 #[.slice A n c,.slice B m d] w (NewU32s w (digs (a / b)) (digs (a % b))):=by
 rcases Nat.lt_or_ge a b with h | h
 ·have:=by_less A B n c m d _ _ w hx hy (by omega) (by rw [num_digs,num_digs];exact h);rw [num_digs] at this;rw [Nat.div_eq_of_lt h,Nat.mod_eq_of_lt h,digs_zero]
  exact this
 ·have:=by_main A B n c m d _ _ w hx hy hs hm (by rw [num_digs];exact h0) (by rw [num_digs,num_digs];exact h);rw [num_digs,num_digs] at this
  exact this
theorem len_v{a:Nat}(A:Option Addr)(n c:Nat)(w:World)(hx:U32s w A n c (digs a)):
  Calls Tryz.prog 105 #[.slice A n c] w fun e w'=>e=.returned (.int .i64 (blen a:Int))∧w=w':=by
 have:=len_any A n c _ w hx;rw [num_digs] at this
 exact this
theorem cmp_v{a b:Nat}(A B:Option Addr)(n c m d:Nat)(w:World)(hx:U32s w A n c (digs a))(hy:U32s w B m d (digs b)):
  Calls Tryz.prog 53 #[.slice A n c,.slice B m d] w fun e w'=>e=.returned (.int .i64 (cmp3 a b))∧∃ k,w'=w.drewN k:=by
 have:=cmp_any A B n c m d _ _ w hx hy;rw [num_digs,num_digs] at this
 exact this
theorem word_v{a:Nat}(A:Option Addr)(n c:Nat)(w:World)(hx:U32s w A n c (digs a))(h:a<18446744073709551616):
  Calls Tryz.prog 125 #[.slice A n c] w fun e w'=>e=.returned (.tuple #[.int .u64 (a:Int),.bool true])∧w=w':=by
 have h2:n≤2:=hx.len_le (k:=2) (Nat.lt_of_lt_of_le h (by decide));have:=word_any A n c _ w hx (by have:=wlen_le (digs a);have:=hx.len;omega);rw [num_digs] at this
 exact this
def fdec(p q:Nat)(f:Int):Bool:=if 0≤f then decide (p<q*2^f.toNat) else decide (p*2^(-f).toNat<q)
def fout(p q:Nat)(f:Int):Int:=if fdec p q f then f - 1 else f
theorem fout_sc{p q:Nat}{f:Int}(hp:0<p)(hq:0<q)(hf:f=(blen p:Int) - blen q):Sc p q (fout p q f):=by
 unfold fout
 by_cases h:fdec p q f=true
 ·rw [if_pos h];unfold fdec at h;refine scale_down hp hq hf (fun h0=>?_) (fun h0=>?_)
  ·rw [if_pos h0] at h;exact of_decide_eq_true h
  ·rw [if_neg (by omega)] at h;exact of_decide_eq_true h
 ·rw [if_neg h];unfold fdec at h;refine scale_keep hp hq hf (fun h0=>?_) (fun h0=>?_)
  ·rw [if_pos h0] at h;simp at h;exact h
  ·rw [if_neg (by omega)] at h;simp at h;exact h
theorem cmp3_lt_iff{a b:Nat}:decide (cmp3 a b<0)=decide (a<b):=by
 rw [decide_eq_decide];unfold cmp3
 split
 ·constructor<;>intro<;>omega
 ·split<;>constructor<;>intro<;>omega
theorem upN_lt{p K:Nat}{E:Int}(hp:p<2^(32*K))(hE:-1074≤E):upN p E<2^(32*(K+34)):=by
 unfold upN
 calc p*2^(-E).toNat<2^(32*K)*2^(-E).toNat:=Nat.mul_lt_mul_of_pos_right hp (Nat.two_pow_pos _)
  _=2^(32*K+(-E).toNat):=by rw [← Nat.pow_add]
  _≤2^(32*(K+34)):=Nat.pow_le_pow_right (by omega) (by omega)
theorem upM_lt{p K:Nat}{E:Int}(hp:p<2^(32*K))(hE:E≤971):upM p E<2^(32*(K+34)):=by
 unfold upM
 calc p*2^E.toNat<2^(32*K)*2^E.toNat:=Nat.mul_lt_mul_of_pos_right hp (Nat.two_pow_pos _)
  _=2^(32*K+E.toNat):=by rw [← Nat.pow_add]
  _≤2^(32*(K+34)):=Nat.pow_le_pow_right (by omega) (by omega)
set_option maxRecDepth 8000 in
theorem rounded_pos(K:Nat)(neg:Bool)(A B:Option Addr)(n c m d p q:Nat)(dd:Int)(w:World)(hu:U32s w A n c (digs p))(hv:U32s w B m d (digs q))(hp:0<p)(hq:0<q)(hpK:p<2^(32*K))(hqK:q<2^(32*K))(hK:K≤1048576)(hd:dd=-1∨dd=1):
  Calls Tryz.prog 109 #[.int .i64 dd,.agg #[.bool neg,.slice A n c,.slice B m d],.int .i64 53,.int .i64 1023] w fun e w'=>
   e=.returned (.int .u64 (pat (sg neg (ansT p q (fout p q ((blen p:Int) - blen q)) (decide (dd=1) != neg))):Int))∧Below w.heap.size w w':=by
 have hr:RatV w K neg (.slice A n c) (.slice B m d) (rv neg p q):=⟨p,q,A,n,c,B,m,d,rfl,rfl,hu,hv,hq,fun h=>by omega,hpK,hqK,rfl⟩
 have ba:=below_alloc w (.cells #[.bool neg,.slice A n c,.slice B m d] 41);have HS:=Hd fun W (hW:Below w.heap.size w W)=>rsign_any K neg _ _ _ W (hr.below hW) (by omega);rw [rsg_rv hq (fun h=>by omega),if_neg (by omega)] at HS;have HL1:=Hd fun W (hW:Below w.heap.size w W)=>len_v A n c W (hu.below hW);have HL2:=Hd fun W (hW:Below w.heap.size w W)=>len_v B m d W (hv.below hW);have bp:blen p≤33554432:=Nat.le_trans (blen_le_iff.2 hpK) (by omega);have bq:blen q≤33554432:=Nat.le_trans (blen_le_iff.2 hqK) (by omega)
 obtain⟨f0,hf0⟩:∃ f0,(blen p:Int) - blen q=f0:=⟨_,rfl⟩
 have hsc:=fout_sc hp hq hf0.symm;rw [hf0]
 obtain⟨s,hs⟩:∃ s:Int,(if neg=true then -1 else 1)=s:=⟨_,rfl⟩
 rw [hs] at HS
 have hs0:(s == 0)=false:=by rw [← hs];cases neg<;>rfl
 obtain⟨away,haw⟩:∃ a,(decide (dd=1) != neg)=a:=⟨_,rfl⟩
 rw [haw]
 obtain⟨f,hff⟩:∃ f,fout p q f0=f:=⟨_,rfl⟩
 rw [hff] at hsc ⊢
 obtain⟨PP,hPP⟩:∃ P,pat (sg neg (ansT p q f away))=P:=⟨_,rfl⟩
 rw [hPP];have HPP:=Hd hPP;have HFF:=Hd hff;clear hPP hff;have hn1:=hu.len_le hpK;have hm1:=hv.len_le hqK;have HU:=Hd hu;have HV:=Hd hv;have G0:=Hd (Blk.new w 41 #[.bool neg,.slice A n c,.slice B m d]);have BA:=Hd ba;have HF0:=Hd hf0;have HAW:=Hd haw;have HSS:=Hd hs;have HSC:=Hd hsc;have HPK:=Hd hpK;have HQK:=Hd hqK;have HP:=Hd hp;have HQ:=Hd hq;clear hr ba hu hv hsc haw hs hpK hqK hp hq;have HHd:=Hd hd;clear hd
 go_enter Tryz.func109,Tryz.ntmps109
 go_wp2_with fail;refine (HS.out _ BA.out).mono ?_;rintro e w1 ⟨rfl,hb1⟩;have B1:=Hd (BA.out.trans (hb1.mono BA.out.size));have G1:=Hd (G0.out.keep hb1);clear hb1 BA G0 HS
 go_upto_region 4 with fail
 go_cut [10] (fun s10 wx=>s10=.bool away∧wx=w1)
 case first=>
  have haw:=HAW.out;have hs:=HSS.out
  rcases HHd.out with rfl | rfl<;>cases neg<;>simp at haw hs<;>subst haw<;>subst hs<;>(go_wp2_with fail;go_meet;exact⟨rfl,rfl⟩)
 case rest=>
 obtain⟨rfl,rfl⟩:=hcut
 go_upto_region 5 with fail
 go_cut [11] (fun s11 wx=>s11=.bool false∧wc=wx)
 case first=>
  rcases HHd.out with rfl | rfl<;>(go_wp2_with fail;go_meet;exact⟨rfl,rfl⟩)
 case rest=>
 obtain⟨rfl,rfl⟩:=hcut;have q1:=G1.out.cell 1;have q2:=G1.out.cell 2
 simp at q1 q2
 go_wp2_with fail;refine (HL1.out _ B1.out).mono ?_;rintro e w2 ⟨rfl,rfl⟩;go_wp2_with fail;refine (HL2.out _ B1.out).mono ?_;rintro e w2 ⟨rfl,rfl⟩
 obtain⟨dec,hdec⟩:∃ b,fdec p q f0=b:=⟨_,rfl⟩
 have HDEC:=Hd hdec;clear hdec q1 q2;have HLf:=Hd fun (g:Nat) W (hg:g≤33554432) (hW:Below w.heap.size w W)=>left_v (v:=q) B m d g W (HV.out.below hW) (by omega) (by omega);have HLg:=Hd fun (g:Nat) W (hg:g≤33554432) (hW:Below w.heap.size w W)=>left_v (v:=p) A n c g W (HU.out.below hW) (by omega) (by omega)
 go_upto_region 9 with fail
 go_cut [76] (fun s76 wx=>s76=.bool dec∧Below w.heap.size w wx)
 case first=>
  rcases Int.lt_or_le f0 0 with h0 | h0
  ·obtain⟨g,hg⟩:∃ g:Nat,-f0=g:=⟨(-f0).toNat,by omega⟩
   have hg2:g≤33554432:=by omega
   have hd:=HDEC.out;unfold fdec at hd;rw [if_neg (by omega),show (-f0).toNat=g from by omega,← cmp3_lt_iff] at hd
   have c1:decide (0≤f0)=false:=by simp;omega
   have c2:decide (f0<0)=true:=by simp;omega
   obtain⟨cv,hcv⟩:∃ cv,cmp3 (p*2^g) q=cv:=⟨_,rfl⟩
   rw [hcv] at hd;have HCV:=Hd hcv;clear hcv h0 hf0;go_wp2_with fail;refine (HLg.out g _ hg2 B1.out).mono ?_;rintro e w3 ⟨A3,n3,c3,rfl,hu3,hb3⟩;have B3:=Hd (B1.out.trans (hb3.mono B1.out.size));have HC:=Hd (cmp_v A3 B n3 c3 m d w3 hu3 (HV.out.below B3.out));rw [HCV.out] at HC;clear hu3 hb3;go_wp2_with fail;refine HC.out.mono ?_;rintro e w4 ⟨rfl,k,rfl⟩
   cases dec<;>(go_wp2_with fail;go_meet;exact⟨rfl,below_drewN B3.out k⟩)
  ·obtain⟨g,hg⟩:∃ g:Nat,f0=g:=⟨f0.toNat,by omega⟩
   subst hg
   have hg2:g≤33554432:=by omega
   have hd:=HDEC.out;unfold fdec at hd;rw [if_pos h0,Int.toNat_natCast,← cmp3_lt_iff] at hd
   obtain⟨cv,hcv⟩:∃ cv,cmp3 p (q*2^g)=cv:=⟨_,rfl⟩
   rw [hcv] at hd
   have c2:decide ((g:Int)<0)=false:=by simp
   have HCV:=Hd hcv;clear hcv h0 hf0;go_wp2_with fail;refine (HLf.out g _ hg2 B1.out).mono ?_;rintro e w3 ⟨A3,n3,c3,rfl,hu3,hb3⟩;have B3:=Hd (B1.out.trans (hb3.mono B1.out.size));have HC:=Hd (cmp_v A A3 n c n3 c3 w3 (HU.out.below B3.out) hu3);rw [HCV.out] at HC;clear hu3 hb3;go_wp2_with fail;refine HC.out.mono ?_;rintro e w4 ⟨rfl,k,rfl⟩
   cases dec<;>(go_wp2_with fail;go_meet;exact⟨rfl,below_drewN B3.out k⟩)
 case rest=>
 obtain⟨rfl,hbc⟩:=hcut;have B4:=Hd hbc;clear hbc B1 G1 HLf HLg
 have hfo:(if dec=true then f0 - 1 else f0)=f:=by rw [← HFF.out];unfold fout;rw [HDEC.out]
 have HFO:=Hd hfo;clear hfo
 go_upto_if 76 with fail
 go_cut [14] (fun s14 wx=>s14=.int .i64 f∧Below w.heap.size w wx)
 case first=>
  have hfo:=HFO.out
  cases dec
  ·rw [if_neg (by decide)] at hfo;go_wp2_with fail
   go_meet
   exact⟨by first | rfl | rw [hfo],B4.out⟩
  ·rw [if_pos rfl] at hfo;go_wp2_with fail
   go_meet
   exact⟨by first | rfl | rw [hfo],B4.out⟩
 case rest=>
 obtain⟨rfl,hbc⟩:=hcut;have B5:=Hd hbc;clear hbc B4
 have hfb:-33554434≤f∧f≤33554433:=by
  have:=HFO.out
  split at this<;>omega
 have hsn:decide (s<0)=neg:=by rw [← HSS.out];cases neg<;>rfl
 clear HL1 HL2 hf0
 by_cases hov:1023<f
 ·have hpp:=HPP.out;unfold ansT at hpp;rw [if_pos hov] at hpp;have HI:=Hd fun W=>infinite_any neg W;have HG:=Hd fun W=>greatest_any neg W
  cases away
  ·rw [if_neg (by decide)] at hpp;rw [hpp] at HG;clear hpp;go_wp2_with fail;refine (HG.out _).mono ?_;rintro e w6 ⟨rfl,rfl⟩;go_wp2
   go_ret
   exact⟨rfl,B5.out⟩
  ·rw [if_pos rfl] at hpp;rw [hpp] at HI;clear hpp;go_wp2_with fail;refine (HI.out _).mono ?_;rintro e w6 ⟨rfl,rfl⟩;go_wp2
   go_ret
   exact⟨rfl,B5.out⟩
 ·have hov2:f≤1023:=by omega
  have hov3:decide (1023<f)=false:=by simp;omega
  obtain⟨E,hE⟩:∃ E,lastBit f=E:=⟨_,rfl⟩
  have hEb:=lastBit_bounds hov2;rw [hE] at hEb;have hpp:=HPP.out;unfold ansT at hpp;rw [if_neg hov,hE] at hpp;have HPP:=Hd hpp;have HE:=Hd hE;have HOV2:=Hd hov2;clear hpp hE hov hov2
  go_upto_if 103 with fail
  go_cut [15] (fun s15 wx=>s15=.int .i64 E∧wc=wx)
  case first=>
   have hE:=HE.out;unfold lastBit at hE
   by_cases h:f - 52 < -1074
   ·rw [if_pos h] at hE
    have h2:decide (f - 53+1 < -1074)=true:=by simp;omega
    go_wp2_with fail
    go_meet
    exact⟨by first | rfl | rw [hE],rfl⟩
   ·rw [if_neg h] at hE
    have h2:decide (f - 53+1 < -1074)=false:=by simp;omega
    have h3:f - 53+1=E:=by omega
    go_wp2_with fail
    go_meet
    exact⟨by first | rfl | rw [h3],rfl⟩
  case rest=>
  obtain⟨rfl,rfl⟩:=hcut;have HLm:=Hd fun (g:Nat) W (hg:g≤33554432) (hW:Below w.heap.size w W)=>left_v (v:=q) B m d g W (HV.out.below hW) (by omega) (by omega);have HLn:=Hd fun (g:Nat) W (hg:g≤33554432) (hW:Below w.heap.size w W)=>left_v (v:=p) A n c g W (HU.out.below hW) (by omega) (by omega)
  go_upto_if 109 with fail
  go_cut [12,13] (fun s12 s13 wx=>∃ A1 n1 c1 B1 m1 d1,s12=.slice A1 n1 c1∧s13=.slice B1 m1 d1∧U32s wx A1 n1 c1 (digs (upN p E))∧U32s wx B1 m1 d1 (digs (upM q E))∧Below w.heap.size w wx)
  case first=>
   rcases Int.lt_or_le E 0 with h0 | h0
   ·obtain⟨g,hg⟩:∃ g:Nat,-E=g:=⟨(-E).toNat,by omega⟩
    have hg2:g≤33554432:=by omega
    have e1:upN p E=p*2^g:=by unfold upN;rw [show (-E).toNat=g from by omega]
    have e2:upM q E=q:=by unfold upM;rw [show E.toNat=0 from by omega,Nat.pow_zero,Nat.mul_one]
    have E1:=Hd e1;have E2:=Hd e2
    have c1:decide (0≤E)=false:=by simp;omega
    have c2:¬ (0≤E):=by omega
    clear e1 e2;go_wp2_with fail;refine (HLn.out g _ hg2 B5.out).mono ?_;rintro e w6 ⟨A3,n3,c3,rfl,hu3,hb3⟩;have HU3:=Hd hu3;have B6:=Hd (B5.out.trans (hb3.mono B5.out.size));clear hu3 hb3;go_wp2_with fail
    go_meet
    exact⟨A3,n3,c3,B,m,d,rfl,rfl,by rw [E1.out];exact HU3.out,by rw [E2.out];exact HV.out.below B6.out,B6.out⟩
   ·obtain⟨g,hg⟩:∃ g:Nat,E=g:=⟨E.toNat,by omega⟩
    subst hg
    have hg2:g≤33554432:=by omega
    have e1:upM q (g:Int)=q*2^g:=by unfold upM;rw [Int.toNat_natCast]
    have e2:upN p (g:Int)=p:=by unfold upN;rw [show (-(g:Int)).toNat=0 from by omega,Nat.pow_zero,Nat.mul_one]
    have E1:=Hd e1;have E2:=Hd e2;clear e1 e2 h0;go_wp2_with fail;refine (HLm.out g _ hg2 B5.out).mono ?_;rintro e w6 ⟨A3,n3,c3,rfl,hu3,hb3⟩;have HU3:=Hd hu3;have B6:=Hd (B5.out.trans (hb3.mono B5.out.size));clear hu3 hb3;go_wp2_with fail
    go_meet
    exact⟨A,n,c,A3,n3,c3,rfl,rfl,by rw [E2.out];exact HU.out.below B6.out,by rw [E1.out];exact HU3.out,B6.out⟩
  case rest=>
  obtain⟨A1,n1,c1,B1,m1,d1,rfl,rfl,hu1,hv1,hb1⟩:=hcut;have ln1:=hu1.len_le (upN_lt HPK.out hEb.1);have lm1:=hv1.len_le (upM_lt HQK.out hEb.2);have hwlt:=w_lt HQ.out HSC.out;have hwge:=w_ge HQ.out HSC.out;rw [HE.out] at hwlt hwge;have hM:0<upM q E:=Nat.mul_pos HQ.out (Nat.two_pow_pos _);have hpp:=HPP.out;unfold capT cutT at hpp
  obtain⟨a,ha⟩:∃ a,upN p E=a:=⟨_,rfl⟩
  obtain⟨b,hb⟩:∃ a,upM q E=a:=⟨_,rfl⟩
  rw [ha] at hu1 hwlt hwge hpp;rw [hb] at hv1 hwlt hwge hpp hM;have HBY:=Hd (by_v A1 B1 n1 c1 m1 d1 wc hu1 hv1 (by omega) (by omega) hM)
  obtain⟨W,hW⟩:∃ x,a / b=x:=⟨_,rfl⟩
  obtain⟨R,hR⟩:∃ x,a % b=x:=⟨_,rfl⟩
  rw [hW] at hwlt hwge hpp HBY;rw [hR] at hpp HBY
  have hRlt:R<2^(32*(K+34)):=by
   have h1:=Nat.mod_lt a hM;have h2:=upM_lt HQK.out hEb.2;rw [hb] at h2
   omega
  obtain⟨k,hk⟩:∃ k:Nat,(E+1074).toNat=k:=⟨_,rfl⟩
  rw [hk] at hpp
  have hEk:((k:Int) - 1074)=E:=by omega
  have hk2:k≤2045:=by omega
  have hform:k=0∨4503599627370496≤W:=by
   by_cases h:-1074<E
   ·right;exact hwge h
   ·left;omega
  have hWlt:W<9007199254740992:=hwlt;have HRLT:=Hd hRlt;have HPP3:=Hd hpp;have B7:=Hd hb1;have HV1:=Hd hv1;have HB0:=Hd hM;clear hu1 hv1 hb1 hwlt hwge hM hpp ha hb hW hR hRlt hk HPP HE HLm HLn HPK HQK HP HQ HSC HU HV HDEC HFO HFF HF0 HHd HAW HSS HOV2;have HI:=Hd fun W=>infinite_any neg W;have HMD:=Hd fun (sg:Nat) X (h1:sg≤9007199254740992) (h2:k=0∨4503599627370496≤sg) (h3:k*4503599627370496+sg<9218868437227405312)=>made_any neg sg k X h1 hk2 h2 h3;rw [hEk] at HMD;have HEk:=Hd hEk;have HK2:=Hd hk2;have HFM:=Hd hform;clear hEk hk2 hform;go_wp2_with fail;refine HBY.out.mono ?_;rintro e w7 ⟨A2,n2,c2,A3,n3,c3,rfl,hu2,hu3,hb7⟩;have B8:=Hd (B7.out.trans (hb7.mono B7.out.size));have HWD:=Hd (word_v A2 n2 c2 w7 hu2 (by omega));have hn3:=hu3.len_le HRLT.out
  have hn0:n3=0↔R=0:=by
   have:=@digs_length_eq_zero R;rw [hu3.len] at this;exact this
  have HL3:=Hd (left_v (v:=R) A3 n3 c3 1 w7 hu3 (by omega) (by omega));have HV7:=Hd (HV1.out.below hb7);have HN0:=Hd hn0;clear hu2 hu3 hb7 hn0 HBY HV1;go_wp2_with fail;refine HWD.out.mono ?_;rintro e w8 ⟨rfl,rfl⟩;go_wp2_with fail;refine HL3.out.mono ?_;rintro e w8 ⟨A4,n4,c4,rfl,hu4,hb8⟩;have B9:=Hd (B8.out.trans (hb8.mono B8.out.size));have HC4:=Hd (cmp_v A4 B1 n4 c4 m1 d1 w8 hu4 (HV7.out.below hb8));clear hu4 hb8 HWD HL3
  obtain⟨hf,hhf⟩:∃ x,cmp3 (R*2^1) b=x:=⟨_,rfl⟩
  rw [hhf] at HC4;clear hhf;go_wp2_with fail;refine HC4.out.mono ?_;rintro e w9 ⟨rfl,kk,rfl⟩;clear HC4;have hpp:=HPP3.out;have hEk:=HEk.out;have hk2:=HK2.out
  cases away
  ·rw [if_neg (by decide)] at hpp
   have hc:((W:Int) == 9007199254740992)=false:=by simp;omega
   have HM1:=Hd fun X=>HMD.out W X (by omega) HFM.out (by omega);rw [show k*4503599627370496+W=k*2^52+W from rfl,hpp] at HM1;clear hpp hEk hk2 HFM HMD HPP3;go_wp2_with fail;refine (HM1.out _).mono ?_;rintro e w10 ⟨rfl,rfl⟩;go_wp2
   go_ret
   exact⟨rfl,below_drewN B9.out _⟩
  ·rw [if_pos rfl] at hpp
   rcases Nat.eq_zero_or_pos R with hR | hR
   ·rw [if_pos hR,Nat.add_zero] at hpp
    obtain rfl:n3=0:=HN0.out.2 hR
    clear hR
    have hc:((W:Int) == 9007199254740992)=false:=by simp;omega
    have HM1:=Hd fun X=>HMD.out W X (by omega) HFM.out (by omega);rw [show k*4503599627370496+W=k*2^52+W from rfl,hpp] at HM1;clear hpp hEk hk2 HFM HMD HPP3;go_wp2_with fail;refine (HM1.out _).mono ?_;rintro e w10 ⟨rfl,rfl⟩;go_wp2
    go_ret
    exact⟨rfl,below_drewN B9.out _⟩
   ·rw [if_neg (by omega)] at hpp
    have hn30:0<n3:=by
     rcases Nat.eq_zero_or_pos n3 with h | h
     ·have:=HN0.out.1 h;omega
     ·exact h
    have hn31:decide (0<n3)=true:=by simp;exact hn30
    have hn32:decide ((0:Int)<(n3:Int))=true:=by simp;exact hn30
    clear hR
    by_cases h53:W+1=9007199254740992
    ·have hc:((W:Int)+1 == 9007199254740992)=true:=by simp;omega
     by_cases hov:970<E
     ·have hc2:decide (1023<E+53)=true:=by simp;omega
      have HI1:=HI
      have hk3:k=2045:=by omega
      have e3:2045*2^52+9007199254740992=M:=by decide
      rw [h53,hk3,e3] at hpp;rw [hpp] at HI1;clear hpp hEk hk2 HFM HMD HPP3 HI;go_wp2_with fail;refine (HI1.out _).mono ?_;rintro e w10 ⟨rfl,rfl⟩;go_wp2
      go_ret
      exact⟨rfl,below_drewN B9.out _⟩
     ·have hc2:decide (1023<E+53)=false:=by simp;omega
      have HM1:=Hd fun X=>HMD.out (W+1) X (by omega) (by have:=HFM.out;omega) (by omega);rw [show k*4503599627370496+(W+1)=k*2^52+(W+1) from rfl,hpp,show ((W+1:Nat):Int)=(W:Int)+1 from by omega] at HM1;clear hpp hEk hk2 HFM HMD HPP3;go_wp2_with fail;refine (HM1.out _).mono ?_;rintro e w10 ⟨rfl,rfl⟩;go_wp2
      go_ret
      exact⟨rfl,below_drewN B9.out _⟩
    ·have hc:((W:Int)+1 == 9007199254740992)=false:=by simp;omega
     have HM1:=Hd fun X=>HMD.out (W+1) X (by omega) (by have:=HFM.out;omega) (by omega);rw [show k*4503599627370496+(W+1)=k*2^52+(W+1) from rfl,hpp,show ((W+1:Nat):Int)=(W:Int)+1 from by omega] at HM1;clear hpp hEk hk2 HFM HMD HPP3;go_wp2_with fail;refine (HM1.out _).mono ?_;rintro e w10 ⟨rfl,rfl⟩;go_wp2
     go_ret
     exact⟨rfl,below_drewN B9.out _⟩
theorem plus_any(A B:Option Addr)(n c m d:Nat)(xs ys:List Nat)(w:World)(hx:U32s w A n c xs)(hy:U32s w B m d ys)(hs1:n≤34359738360)(hs2:m≤34359738360):
  Calls Tryz.prog 77 #[.slice A n c,.slice B m d] w (NewU32 w (digs (num xs+num ys))):=by
 have HX:=Hd hx;have HY:=Hd hy;clear hx hy
 go_enter Tryz.func77,Tryz.ntmps77
 go_wp2
 go_loopw [5,6,7] (fun v cv iv wr=>∃ (i k:Nat) (ls:List Nat),iv=.int .i64 i∧cv=.int .u64 k∧i≤max n m∧PlusInv xs ys ls i k∧Own wr w.heap.size v ls∧Below w.heap.size w wr) (fun _ _ iv _=>max n m - (intOf iv).toNat)
 case atStart=>exact⟨0,0,[],rfl,rfl,Nat.zero_le _,PlusInv.start _ _,Own.nil _ _,Below.refl _ _⟩
 case round=>
  obtain⟨i,k,ls,rfl,rfl,hi,hinv,hown,hb⟩:=hrel;have hk1:=hinv.carry;have hlen:=hinv.len;have HI:=Hd hinv;have HO:=Hd hown;clear hinv hown;have hbs:=hb.size;have HL:=Hd hlen;clear hlen
  by_cases ha:i<n
  ·obtain⟨ad,e,hc⟩:=(HX.out.below hb).cell (j:=i) ha
   cases e
   have hx1:=HX.out.lt i
   by_cases hbb:i<m
   ·obtain⟨ad',e,hc'⟩:=(HY.out.below hb).cell (j:=i) hbb
    cases e
    have hy1:=HY.out.lt i;have hm:=mask32_i (a:=(k:Int)+((xs[i]?.getD 0:Nat):Int)+((ys[i]?.getD 0:Nat):Int)) (by omega) (by omega)
    go_wp2_with (at_builtin;refine wpList_append_u32 _ rfl _ _ rfl w.heap.size _ ls rfl (HO.out.alloc _) ⟨_,0,none⟩ 1 ((k+xs[i]?.getD 0+ys[i]?.getD 0) % 4294967296) rfl ?c1 ?c2 ?c3 ?_)
    case c1=>simp
    case c2=>rw [HL.out];omega
    case c3=>simp;omega
    intro v' w' hown' hgrow;have HO':=Hd hown';have hb':Below w.heap.size w w':=(hb.alloc hbs _).grown hgrow (by simp;omega) (fun g hg=>(HO.out.lt g hg).1);clear hown' hb hgrow hc hc' hbs hm;go_wp2
    go_roundw
    case rel=>exact⟨i+1,(k+xs[i]?.getD 0+ys[i]?.getD 0) / 4294967296,_,by go_num,by go_num,by omega,HI.out.step HX.out.w32 HY.out.w32 (by rfl),HO'.out,hb'⟩
    case measure=>simp [intOf];omega
   ·have HZ:=Hd (show ys[i]?.getD 0=0 by rw [List.getElem?_eq_none (by rw [HY.out.len];omega)];rfl);have hm:=mask32_i (a:=(k:Int)+((xs[i]?.getD 0:Nat):Int)) (by omega) (by omega)
    go_wp2_with (at_builtin;refine wpList_append_u32 _ rfl _ _ rfl w.heap.size _ ls rfl (HO.out.alloc _) ⟨_,0,none⟩ 1 ((k+xs[i]?.getD 0) % 4294967296) rfl ?c1 ?c2 ?c3 ?_)
    case c1=>simp
    case c2=>rw [HL.out];omega
    case c3=>simp;omega
    intro v' w' hown' hgrow;have HO':=Hd hown';have hb':Below w.heap.size w w':=(hb.alloc hbs _).grown hgrow (by simp;omega) (fun g hg=>(HO.out.lt g hg).1);clear hown' hb hgrow hc hbs hm;go_wp2
    go_roundw
    case rel=>exact⟨i+1,(k+xs[i]?.getD 0) / 4294967296,_,by go_num,by go_num,by omega,HI.out.step HX.out.w32 HY.out.w32 (by rw [HZ.out];rfl),HO'.out,hb'⟩
    case measure=>simp [intOf];omega
  ·have HZ:=Hd (show xs[i]?.getD 0=0 by rw [List.getElem?_eq_none (by rw [HX.out.len];omega)];rfl)
   by_cases hbb:i<m
   ·obtain⟨ad',e,hc'⟩:=(HY.out.below hb).cell (j:=i) hbb
    cases e
    have hy1:=HY.out.lt i;have hm:=mask32_i (a:=(k:Int)+((ys[i]?.getD 0:Nat):Int)) (by omega) (by omega)
    go_wp2_with (at_builtin;refine wpList_append_u32 _ rfl _ _ rfl w.heap.size _ ls rfl (HO.out.alloc _) ⟨_,0,none⟩ 1 ((k+ys[i]?.getD 0) % 4294967296) rfl ?c1 ?c2 ?c3 ?_)
    case c1=>simp
    case c2=>rw [HL.out];omega
    case c3=>simp;omega
    intro v' w' hown' hgrow;have HO':=Hd hown';have hb':Below w.heap.size w w':=(hb.alloc hbs _).grown hgrow (by simp;omega) (fun g hg=>(HO.out.lt g hg).1);clear hown' hb hgrow hc' hbs hm;go_wp2
    go_roundw
    case rel=>exact⟨i+1,(k+ys[i]?.getD 0) / 4294967296,_,by go_num,by go_num,by omega,HI.out.step HX.out.w32 HY.out.w32 (by rw [HZ.out];rfl),HO'.out,hb'⟩
    case measure=>simp [intOf];omega
   ·have hd:=HI.out.done (by rw [HX.out.len];omega) (by rw [HY.out.len];omega);have HD:=Hd hd;clear hd
    go_wp2_with (at_builtin;refine wpList_append_u32 _ rfl _ _ rfl w.heap.size _ ls rfl (HO.out.alloc _) ⟨_,0,none⟩ 1 k rfl ?c1 ?c2 ?c3 ?_)
    case c1=>simp
    case c2=>rw [HL.out];omega
    case c3=>simp;omega
    intro v' w' hown' hgrow;have HO':=Hd hown';have hb':Below w.heap.size w w':=(hb.alloc hbs _).grown hgrow (by simp;omega) (fun g hg=>(HO.out.lt g hg).1);clear hown' hb hgrow hbs;obtain⟨A',c',rfl⟩:=HO'.out.form_snoc;have hu:=HO'.out.u32s (by simp) HD.out.2 (by simp;rw [HL.out];omega);have hnorm:=norm_any _ _ _ _ w' hu (by rw [HL.out];omega);rw [HD.out.1] at hnorm;have HN:=Hd hnorm;clear hnorm hu;go_wp2_with fail;refine HN.out.mono ?_;rintro e w'' ⟨A2,n2,c2,rfl,hu2,hb2⟩;have H2:=Hd (show NewU32 w (digs (num xs+num ys)) (.returned (.slice A2 n2 c2)) w'' from NewU32.trans ⟨A2,n2,c2,rfl,hu2,hb2⟩ hb');clear hu2 hb2 hb';go_wp2
    go_ret
    exact H2.out
end Go.Proofs.YtfcpabgampebaaaGreat
