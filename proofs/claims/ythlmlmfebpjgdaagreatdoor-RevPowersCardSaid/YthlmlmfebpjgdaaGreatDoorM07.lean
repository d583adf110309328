/-
Lemmas for the statement: RoundT BitsT OfT MinT.
-/
import Derived.Test.YthlmlmfebpjgdaaGreatDoorM05
import Derived.Test.YthlmlmfebpjgdaaGreatDoorM06
import Derived.Deep.DeepCutAuto
import Derived.Test.YthlmlmfebpjgdaaGreatDoorM03
set_option linter.unusedSimpArgs false
set_option linter.unusedVariables false
set_option maxHeartbeats 12800000
namespace Go.Proofs.YthlmlmfebpjgdaaGreatDoor
section
open Go.RowKit
theorem by_v{a b:Nat}(A B:Option Addr)(n c m d:Nat)(w:World)(hx:U32s w A n c (digs a))(hy:U32s w B m d (digs b))(hs:n≤1073741824)(hm:m≤1073741824)(h0:0<b):
  Calls Tryz.prog 182 #[.slice A n c,.slice B m d] w (NewU32s w (digs (a / b)) (digs (a % b))):=by
 rcases Nat.lt_or_ge a b with h | h
 ·have:=by_less A B n c m d _ _ w hx hy (by omega) (by rw [num_digs,num_digs];exact h);rw [num_digs] at this;rw [Nat.div_eq_of_lt h,Nat.mod_eq_of_lt h,digs_zero]
  exact this
 ·have:=by_main A B n c m d _ _ w hx hy hs hm (by rw [num_digs];exact h0) (by rw [num_digs,num_digs];exact h);rw [num_digs,num_digs] at this
  exact this
theorem len_v{a:Nat}(A:Option Addr)(n c:Nat)(w:World)(hx:U32s w A n c (digs a)):
  Calls Tryz.prog 224 #[.slice A n c] w fun e w'=>e=.returned (.int .i64 (blen a:Int))∧w=w':=by
 have:=len_any A n c _ w hx;rw [num_digs] at this
 exact this
theorem cmp_v{a b:Nat}(A B:Option Addr)(n c m d:Nat)(w:World)(hx:U32s w A n c (digs a))(hy:U32s w B m d (digs b)):
  Calls Tryz.prog 98 #[.slice A n c,.slice B m d] w fun e w'=>e=.returned (.int .i64 (cmp3 a b))∧∃ k,w'=w.drewN k:=by
 have:=cmp_any A B n c m d _ _ w hx hy;rw [num_digs,num_digs] at this
 exact this
theorem word_v{a:Nat}(A:Option Addr)(n c:Nat)(w:World)(hx:U32s w A n c (digs a))(h:a<18446744073709551616):
  Calls Tryz.prog 261 #[.slice A n c] w fun e w'=>e=.returned (.tuple #[.int .u64 (a:Int),.bool true])∧w=w':=by
 have h2:n≤2:=hx.len_le (k:=2) (Nat.lt_of_lt_of_le h (by decide));have:=word_any A n c _ w hx (by have:=wlen_le (digs a);have:=hx.len;omega);rw [num_digs] at this
 exact this
def fdec(p q:Nat)(f:Int):Bool:=if 0≤f then decide (p<q*2^f.toNat) else decide (p*2^(-f).toNat<q)
def fout(p q:Nat)(f:Int):Int:=if fdec p q f then f - 1 else f
theorem fout_sc{p q:Nat}{f:Int}(hp:0<p)(hq:0<q)(hf:f=(blen p:Int) - blen q):Sc p q (fout p q f):=by
 unfold fout
 by_cases h:fdec p q f=true
 ·rw [if_pos h];unfold fdec at h;refine scale_down hp hq hf (fun h0=>?_) (fun h0=>?_)
  ·rw [if_pos h0] at h;exact of_decide_eq_true h
  ·rw [if_neg (by omega)] at h;exact of_decide_eq_true h
 ·rw [if_neg h];unfold fdec at h;refine scale_keep hp hq hf (fun h0=>?_) (fun h0=>?_)
  ·rw [if_pos h0] at h;simp at h;exact h
  ·rw [if_neg (by omega)] at h;simp at h;exact h
theorem cmp3_lt_iff{a b:Nat}:decide (cmp3 a b<0)=decide (a<b):=by
 rw [decide_eq_decide];unfold cmp3
 split
 ·constructor<;>intro<;>omega
 ·split<;>constructor<;>intro<;>omega
theorem upN_lt{p K:Nat}{E:Int}(hp:p<2^(32*K))(hE:-1074≤E):upN p E<2^(32*(K+34)):=by
 unfold upN
 calc p*2^(-E).toNat<2^(32*K)*2^(-E).toNat:=Nat.mul_lt_mul_of_pos_right hp (Nat.two_pow_pos _)
  _=2^(32*K+(-E).toNat):=by rw [← Nat.pow_add]
  _≤2^(32*(K+34)):=Nat.pow_le_pow_right (by omega) (by omega)
theorem upM_lt{p K:Nat}{E:Int}(hp:p<2^(32*K))(hE:E≤971):upM p E<2^(32*(K+34)):=by
 unfold upM
 calc p*2^E.toNat<2^(32*K)*2^E.toNat:=Nat.mul_lt_mul_of_pos_right hp (Nat.two_pow_pos _)
  _=2^(32*K+E.toNat):=by rw [← Nat.pow_add]
  _≤2^(32*(K+34)):=Nat.pow_le_pow_right (by omega) (by omega)
set_option maxRecDepth 8000 in
theorem rounded_pos(K:Nat)(neg:Bool)(A B:Option Addr)(n c m d p q:Nat)(dd:Int)(w:World)(hu:U32s w A n c (digs p))(hv:U32s w B m d (digs q))(hp:0<p)(hq:0<q)(hpK:p<2^(32*K))(hqK:q<2^(32*K))(hK:K≤1048576)(hd:dd=-1∨dd=1):
  Calls Tryz.prog 234 #[.int .i64 dd,.agg #[.bool neg,.slice A n c,.slice B m d],.int .i64 53,.int .i64 1023] w fun e w'=>
   e=.returned (.int .u64 (pat (sg neg (ansT p q (fout p q ((blen p:Int) - blen q)) (decide (dd=1) != neg))):Int))∧Below w.heap.size w w':=by
 have hr:RatV w K neg (.slice A n c) (.slice B m d) (rv neg p q):=⟨p,q,A,n,c,B,m,d,rfl,rfl,hu,hv,hq,fun h=>by omega,hpK,hqK,rfl⟩
 have ba:=below_alloc w (.cells #[.bool neg,.slice A n c,.slice B m d] 42);have HS:=Hd fun W (hW:Below w.heap.size w W)=>rsign_any K neg _ _ _ W (hr.below hW) (by omega);rw [rsg_rv hq (fun h=>by omega),if_neg (by omega)] at HS;have HL1:=Hd fun W (hW:Below w.heap.size w W)=>len_v A n c W (hu.below hW);have HL2:=Hd fun W (hW:Below w.heap.size w W)=>len_v B m d W (hv.below hW);have bp:blen p≤33554432:=Nat.le_trans (blen_le_iff.2 hpK) (by omega);have bq:blen q≤33554432:=Nat.le_trans (blen_le_iff.2 hqK) (by omega)
 obtain⟨f0,hf0⟩:∃ f0,(blen p:Int) - blen q=f0:=⟨_,rfl⟩
 have hsc:=fout_sc hp hq hf0.symm;rw [hf0]
 obtain⟨s,hs⟩:∃ s:Int,(if neg=true then -1 else 1)=s:=⟨_,rfl⟩
 rw [hs] at HS
 have hs0:(s == 0)=false:=by rw [← hs];cases neg<;>rfl
 obtain⟨away,haw⟩:∃ a,(decide (dd=1) != neg)=a:=⟨_,rfl⟩
 rw [haw]
 obtain⟨f,hff⟩:∃ f,fout p q f0=f:=⟨_,rfl⟩
 rw [hff] at hsc ⊢
 obtain⟨PP,hPP⟩:∃ P,pat (sg neg (ansT p q f away))=P:=⟨_,rfl⟩
 rw [hPP];have HPP:=Hd hPP;have HFF:=Hd hff;clear hPP hff;have hn1:=hu.len_le hpK;have hm1:=hv.len_le hqK;have HU:=Hd hu;have HV:=Hd hv;have G0:=Hd (Blk.new w 42 #[.bool neg,.slice A n c,.slice B m d]);have BA:=Hd ba;have HF0:=Hd hf0;have HAW:=Hd haw;have HSS:=Hd hs;have HSC:=Hd hsc;have HPK:=Hd hpK;have HQK:=Hd hqK;have HP:=Hd hp;have HQ:=Hd hq;clear hr ba hu hv hsc haw hs hpK hqK hp hq;have HHd:=Hd hd;clear hd
 go_enter Tryz.func234,Tryz.ntmps234
 go_wp2_with fail;refine (HS.out _ BA.out).mono ?_;rintro e w1 ⟨rfl,hb1⟩;have B1:=Hd (BA.out.trans (hb1.mono BA.out.size));have G1:=Hd (G0.out.keep hb1);clear hb1 BA G0 HS
 go_upto_region 4 with fail
 go_cut [10] (fun s10 wx=>s10=.bool away∧wx=w1)
 case first=>
  have haw:=HAW.out;have hs:=HSS.out
  rcases HHd.out with rfl | rfl<;>cases neg<;>simp at haw hs<;>subst haw<;>subst hs<;>(go_wp2_with fail;go_meet;exact⟨rfl,rfl⟩)
 case rest=>
 obtain⟨rfl,rfl⟩:=hcut
 go_upto_region 5 with fail
 go_cut [11] (fun s11 wx=>s11=.bool false∧wc=wx)
 case first=>
  rcases HHd.out with rfl | rfl<;>(go_wp2_with fail;go_meet;exact⟨rfl,rfl⟩)
 case rest=>
 obtain⟨rfl,rfl⟩:=hcut;have q1:=G1.out.cell 1;have q2:=G1.out.cell 2
 simp at q1 q2
 go_wp2_with fail;refine (HL1.out _ B1.out).mono ?_;rintro e w2 ⟨rfl,rfl⟩;go_wp2_with fail;refine (HL2.out _ B1.out).mono ?_;rintro e w2 ⟨rfl,rfl⟩
 obtain⟨dec,hdec⟩:∃ b,fdec p q f0=b:=⟨_,rfl⟩
 have HDEC:=Hd hdec;clear hdec q1 q2;have HLf:=Hd fun (g:Nat) W (hg:g≤33554432) (hW:Below w.heap.size w W)=>left_v (v:=q) B m d g W (HV.out.below hW) (by omega) (by omega);have HLg:=Hd fun (g:Nat) W (hg:g≤33554432) (hW:Below w.heap.size w W)=>left_v (v:=p) A n c g W (HU.out.below hW) (by omega) (by omega)
 go_upto_region 9 with fail
 go_cut [76] (fun s76 wx=>s76=.bool dec∧Below w.heap.size w wx)
 case first=>
  rcases Int.lt_or_le f0 0 with h0 | h0
  ·obtain⟨g,hg⟩:∃ g:Nat,-f0=g:=⟨(-f0).toNat,by omega⟩
   have hg2:g≤33554432:=by omega
   have hd:=HDEC.out;unfold fdec at hd;rw [if_neg (by omega),show (-f0).toNat=g from by omega,← cmp3_lt_iff] at hd
   have c1:decide (0≤f0)=false:=by simp;omega
   have c2:decide (f0<0)=true:=by simp;omega
   obtain⟨cv,hcv⟩:∃ cv,cmp3 (p*2^g) q=cv:=⟨_,rfl⟩
   rw [hcv] at hd;have HCV:=Hd hcv;clear hcv h0 hf0;go_wp2_with fail;refine (HLg.out g _ hg2 B1.out).mono ?_;rintro e w3 ⟨A3,n3,c3,rfl,hu3,hb3⟩;have B3:=Hd (B1.out.trans (hb3.mono B1.out.size));have HC:=Hd (cmp_v A3 B n3 c3 m d w3 hu3 (HV.out.below B3.out));rw [HCV.out] at HC;clear hu3 hb3;go_wp2_with fail;refine HC.out.mono ?_;rintro e w4 ⟨rfl,k,rfl⟩
   cases dec<;>(go_wp2_with fail;go_meet;exact⟨rfl,below_drewN B3.out k⟩)
  ·obtain⟨g,hg⟩:∃ g:Nat,f0=g:=⟨f0.toNat,by omega⟩
   subst hg
   have hg2:g≤33554432:=by omega
   have hd:=HDEC.out;unfold fdec at hd;rw [if_pos h0,Int.toNat_natCast,← cmp3_lt_iff] at hd
   obtain⟨cv,hcv⟩:∃ cv,cmp3 p (q*2^g)=cv:=⟨_,rfl⟩
   rw [hcv] at hd
   have c2:decide ((g:Int)<0)=false:=by simp
   have HCV:=Hd hcv;clear hcv h0 hf0;go_wp2_with fail;refine (HLf.out g _ hg2 B1.out).mono ?_;rintro e w3 ⟨A3,n3,c3,rfl,hu3,hb3⟩;have B3:=Hd (B1.out.trans (hb3.mono B1.out.size));have HC:=Hd (cmp_v A A3 n c n3 c3 w3 (HU.out.below B3.out) hu3);rw [HCV.out] at HC;clear hu3 hb3;go_wp2_with fail;refine HC.out.mono ?_;rintro e w4 ⟨rfl,k,rfl⟩
   cases dec<;>(go_wp2_with fail;go_meet;exact⟨rfl,below_drewN B3.out k⟩)
 case rest=>
 obtain⟨rfl,hbc⟩:=hcut;have B4:=Hd hbc;clear hbc B1 G1 HLf HLg
 have hfo:(if dec=true then f0 - 1 else f0)=f:=by rw [← HFF.out];unfold fout;rw [HDEC.out]
 have HFO:=Hd hfo;clear hfo
 go_upto_if 76 with fail
 go_cut [14] (fun s14 wx=>s14=.int .i64 f∧Below w.heap.size w wx)
 case first=>
  have hfo:=HFO.out
  cases dec
  ·rw [if_neg (by decide)] at hfo;go_wp2_with fail
   go_meet
   exact⟨by first | rfl | rw [hfo],B4.out⟩
  ·rw [if_pos rfl] at hfo;go_wp2_with fail
   go_meet
   exact⟨by first | rfl | rw [hfo],B4.out⟩
 case rest=>
 obtain⟨rfl,hbc⟩:=hcut;have B5:=Hd hbc;clear hbc B4
 have hfb:-33554434≤f∧f≤33554433:=by
  have:=HFO.out
  split at this<;>omega
 have hsn:decide (s<0)=neg:=by rw [← HSS.out];cases neg<;>rfl
 clear HL1 HL2 hf0
 by_cases hov:1023<f
 ·have hpp:=HPP.out;unfold ansT at hpp;rw [if_pos hov] at hpp;have HI:=Hd fun W=>infinite_any neg W;have HG:=Hd fun W=>greatest_any neg W
  cases away
  ·rw [if_neg (by decide)] at hpp;rw [hpp] at HG;clear hpp;go_wp2_with fail;refine (HG.out _).mono ?_;rintro e w6 ⟨rfl,rfl⟩;go_wp2
   go_ret
   exact⟨rfl,B5.out⟩
  ·rw [if_pos rfl] at hpp;rw [hpp] at HI;clear hpp;go_wp2_with fail;refine (HI.out _).mono ?_;rintro e w6 ⟨rfl,rfl⟩;go_wp2
   go_ret
   exact⟨rfl,B5.out⟩
 ·have hov2:f≤1023:=by omega
  have hov3:decide (1023<f)=false:=by simp;omega
  obtain⟨E,hE⟩:∃ E,lastBit f=E:=⟨_,rfl⟩
  have hEb:=lastBit_bounds hov2;rw [hE] at hEb;have hpp:=HPP.out;unfold ansT at hpp;rw [if_neg hov,hE] at hpp;have HPP:=Hd hpp;have HE:=Hd hE;have HOV2:=Hd hov2;clear hpp hE hov hov2
  go_upto_if 103 with fail
  go_cut [15] (fun s15 wx=>s15=.int .i64 E∧wc=wx)
  case first=>
   have hE:=HE.out;unfold lastBit at hE
   by_cases h:f - 52 < -1074
   ·rw [if_pos h] at hE
    have h2:decide (f - 53+1 < -1074)=true:=by simp;omega
    go_wp2_with fail
    go_meet
    exact⟨by first | rfl | rw [hE],rfl⟩
   ·rw [if_neg h] at hE
    have h2:decide (f - 53+1 < -1074)=false:=by simp;omega
    have h3:f - 53+1=E:=by omega
    go_wp2_with fail
    go_meet
    exact⟨by first | rfl | rw [h3],rfl⟩
  case rest=>
  obtain⟨rfl,rfl⟩:=hcut;have HLm:=Hd fun (g:Nat) W (hg:g≤33554432) (hW:Below w.heap.size w W)=>left_v (v:=q) B m d g W (HV.out.below hW) (by omega) (by omega);have HLn:=Hd fun (g:Nat) W (hg:g≤33554432) (hW:Below w.heap.size w W)=>left_v (v:=p) A n c g W (HU.out.below hW) (by omega) (by omega)
  go_upto_if 109 with fail
  go_cut [12,13] (fun s12 s13 wx=>∃ A1 n1 c1 B1 m1 d1,s12=.slice A1 n1 c1∧s13=.slice B1 m1 d1∧U32s wx A1 n1 c1 (digs (upN p E))∧U32s wx B1 m1 d1 (digs (upM q E))∧Below w.heap.size w wx)
  case first=>
   rcases Int.lt_or_le E 0 with h0 | h0
   ·obtain⟨g,hg⟩:∃ g:Nat,-E=g:=⟨(-E).toNat,by omega⟩
    have hg2:g≤33554432:=by omega
    have e1:upN p E=p*2^g:=by unfold upN;rw [show (-E).toNat=g from by omega]
    have e2:upM q E=q:=by unfold upM;rw [show E.toNat=0 from by omega,Nat.pow_zero,Nat.mul_one]
    have E1:=Hd e1;have E2:=Hd e2
    have c1:decide (0≤E)=false:=by simp;omega
    have c2:¬ (0≤E):=by omega
    clear e1 e2;go_wp2_with fail;refine (HLn.out g _ hg2 B5.out).mono ?_;rintro e w6 ⟨A3,n3,c3,rfl,hu3,hb3⟩;have HU3:=Hd hu3;have B6:=Hd (B5.out.trans (hb3.mono B5.out.size));clear hu3 hb3;go_wp2_with fail
    go_meet
    exact⟨A3,n3,c3,B,m,d,rfl,rfl,by rw [E1.out];exact HU3.out,by rw [E2.out];exact HV.out.below B6.out,B6.out⟩
   ·obtain⟨g,hg⟩:∃ g:Nat,E=g:=⟨E.toNat,by omega⟩
    subst hg
    have hg2:g≤33554432:=by omega
    have e1:upM q (g:Int)=q*2^g:=by unfold upM;rw [Int.toNat_natCast]
    have e2:upN p (g:Int)=p:=by unfold upN;rw [show (-(g:Int)).toNat=0 from by omega,Nat.pow_zero,Nat.mul_one]
    have E1:=Hd e1;have E2:=Hd e2;clear e1 e2 h0;go_wp2_with fail;refine (HLm.out g _ hg2 B5.out).mono ?_;rintro e w6 ⟨A3,n3,c3,rfl,hu3,hb3⟩;have HU3:=Hd hu3;have B6:=Hd (B5.out.trans (hb3.mono B5.out.size));clear hu3 hb3;go_wp2_with fail
    go_meet
    exact⟨A,n,c,A3,n3,c3,rfl,rfl,by rw [E2.out];exact HU.out.below B6.out,by rw [E1.out];exact HU3.out,B6.out⟩
  case rest=>
  obtain⟨A1,n1,c1,B1,m1,d1,rfl,rfl,hu1,hv1,hb1⟩:=hcut;have ln1:=hu1.len_le (upN_lt HPK.out hEb.1);have lm1:=hv1.len_le (upM_lt HQK.out hEb.2);have hwlt:=w_lt HQ.out HSC.out;have hwge:=w_ge HQ.out HSC.out;rw [HE.out] at hwlt hwge;have hM:0<upM q E:=Nat.mul_pos HQ.out (Nat.two_pow_pos _);have hpp:=HPP.out;unfold capT cutT at hpp
  obtain⟨a,ha⟩:∃ a,upN p E=a:=⟨_,rfl⟩
  obtain⟨b,hb⟩:∃ a,upM q E=a:=⟨_,rfl⟩
  rw [ha] at hu1 hwlt hwge hpp;rw [hb] at hv1 hwlt hwge hpp hM;have HBY:=Hd (by_v A1 B1 n1 c1 m1 d1 wc hu1 hv1 (by omega) (by omega) hM)
  obtain⟨W,hW⟩:∃ x,a / b=x:=⟨_,rfl⟩
  obtain⟨R,hR⟩:∃ x,a % b=x:=⟨_,rfl⟩
  rw [hW] at hwlt hwge hpp HBY;rw [hR] at hpp HBY
  have hRlt:R<2^(32*(K+34)):=by
   have h1:=Nat.mod_lt a hM;have h2:=upM_lt HQK.out hEb.2;rw [hb] at h2
   omega
  obtain⟨k,hk⟩:∃ k:Nat,(E+1074).toNat=k:=⟨_,rfl⟩
  rw [hk] at hpp
  have hEk:((k:Int) - 1074)=E:=by omega
  have hk2:k≤2045:=by omega
  have hform:k=0∨4503599627370496≤W:=by
   by_cases h:-1074<E
   ·right;exact hwge h
   ·left;omega
  have hWlt:W<9007199254740992:=hwlt;have HRLT:=Hd hRlt;have HPP3:=Hd hpp;have B7:=Hd hb1;have HV1:=Hd hv1;have HB0:=Hd hM;clear hu1 hv1 hb1 hwlt hwge hM hpp ha hb hW hR hRlt hk HPP HE HLm HLn HPK HQK HP HQ HSC HU HV HDEC HFO HFF HF0 HHd HAW HSS HOV2;have HI:=Hd fun W=>infinite_any neg W;have HMD:=Hd fun (sg:Nat) X (h1:sg≤9007199254740992) (h2:k=0∨4503599627370496≤sg) (h3:k*4503599627370496+sg<9218868437227405312)=>made_any neg sg k X h1 hk2 h2 h3;rw [hEk] at HMD;have HEk:=Hd hEk;have HK2:=Hd hk2;have HFM:=Hd hform;clear hEk hk2 hform;go_wp2_with fail;refine HBY.out.mono ?_;rintro e w7 ⟨A2,n2,c2,A3,n3,c3,rfl,hu2,hu3,hb7⟩;have B8:=Hd (B7.out.trans (hb7.mono B7.out.size));have HWD:=Hd (word_v A2 n2 c2 w7 hu2 (by omega));have hn3:=hu3.len_le HRLT.out
  have hn0:n3=0↔R=0:=by
   have:=@digs_length_eq_zero R;rw [hu3.len] at this;exact this
  have HL3:=Hd (left_v (v:=R) A3 n3 c3 1 w7 hu3 (by omega) (by omega));have HV7:=Hd (HV1.out.below hb7);have HN0:=Hd hn0;clear hu2 hu3 hb7 hn0 HBY HV1;go_wp2_with fail;refine HWD.out.mono ?_;rintro e w8 ⟨rfl,rfl⟩;go_wp2_with fail;refine HL3.out.mono ?_;rintro e w8 ⟨A4,n4,c4,rfl,hu4,hb8⟩;have B9:=Hd (B8.out.trans (hb8.mono B8.out.size));have HC4:=Hd (cmp_v A4 B1 n4 c4 m1 d1 w8 hu4 (HV7.out.below hb8));clear hu4 hb8 HWD HL3
  obtain⟨hf,hhf⟩:∃ x,cmp3 (R*2^1) b=x:=⟨_,rfl⟩
  rw [hhf] at HC4;clear hhf;go_wp2_with fail;refine HC4.out.mono ?_;rintro e w9 ⟨rfl,kk,rfl⟩;clear HC4;have hpp:=HPP3.out;have hEk:=HEk.out;have hk2:=HK2.out
  cases away
  ·rw [if_neg (by decide)] at hpp
   have hc:((W:Int) == 9007199254740992)=false:=by simp;omega
   have HM1:=Hd fun X=>HMD.out W X (by omega) HFM.out (by omega);rw [show k*4503599627370496+W=k*2^52+W from rfl,hpp] at HM1;clear hpp hEk hk2 HFM HMD HPP3;go_wp2_with fail;refine (HM1.out _).mono ?_;rintro e w10 ⟨rfl,rfl⟩;go_wp2
   go_ret
   exact⟨rfl,below_drewN B9.out _⟩
  ·rw [if_pos rfl] at hpp
   rcases Nat.eq_zero_or_pos R with hR | hR
   ·rw [if_pos hR,Nat.add_zero] at hpp
    obtain rfl:n3=0:=HN0.out.2 hR
    clear hR
    have hc:((W:Int) == 9007199254740992)=false:=by simp;omega
    have HM1:=Hd fun X=>HMD.out W X (by omega) HFM.out (by omega);rw [show k*4503599627370496+W=k*2^52+W from rfl,hpp] at HM1;clear hpp hEk hk2 HFM HMD HPP3;go_wp2_with fail;refine (HM1.out _).mono ?_;rintro e w10 ⟨rfl,rfl⟩;go_wp2
    go_ret
    exact⟨rfl,below_drewN B9.out _⟩
   ·rw [if_neg (by omega)] at hpp
    have hn30:0<n3:=by
     rcases Nat.eq_zero_or_pos n3 with h | h
     ·have:=HN0.out.1 h;omega
     ·exact h
    have hn31:decide (0<n3)=true:=by simp;exact hn30
    have hn32:decide ((0:Int)<(n3:Int))=true:=by simp;exact hn30
    clear hR
    by_cases h53:W+1=9007199254740992
    ·have hc:((W:Int)+1 == 9007199254740992)=true:=by simp;omega
     by_cases hov:970<E
     ·have hc2:decide (1023<E+53)=true:=by simp;omega
      have HI1:=HI
      have hk3:k=2045:=by omega
      have e3:2045*2^52+9007199254740992=M:=by decide
      rw [h53,hk3,e3] at hpp;rw [hpp] at HI1;clear hpp hEk hk2 HFM HMD HPP3 HI;go_wp2_with fail;refine (HI1.out _).mono ?_;rintro e w10 ⟨rfl,rfl⟩;go_wp2
      go_ret
      exact⟨rfl,below_drewN B9.out _⟩
     ·have hc2:decide (1023<E+53)=false:=by simp;omega
      have HM1:=Hd fun X=>HMD.out (W+1) X (by omega) (by have:=HFM.out;omega) (by omega);rw [show k*4503599627370496+(W+1)=k*2^52+(W+1) from rfl,hpp,show ((W+1:Nat):Int)=(W:Int)+1 from by omega] at HM1;clear hpp hEk hk2 HFM HMD HPP3;go_wp2_with fail;refine (HM1.out _).mono ?_;rintro e w10 ⟨rfl,rfl⟩;go_wp2
      go_ret
      exact⟨rfl,below_drewN B9.out _⟩
    ·have hc:((W:Int)+1 == 9007199254740992)=false:=by simp;omega
     have HM1:=Hd fun X=>HMD.out (W+1) X (by omega) (by have:=HFM.out;omega) (by omega);rw [show k*4503599627370496+(W+1)=k*2^52+(W+1) from rfl,hpp,show ((W+1:Nat):Int)=(W:Int)+1 from by omega] at HM1;clear hpp hEk hk2 HFM HMD HPP3;go_wp2_with fail;refine (HM1.out _).mono ?_;rintro e w10 ⟨rfl,rfl⟩;go_wp2
     go_ret
     exact⟨rfl,below_drewN B9.out _⟩
end
section
open Go.RowKit
set_option maxRecDepth 8000 in
theorem rounded_zero(K:Nat)(neg:Bool)(A B:Option Addr)(n c m d:Nat)(dd:Int)(w:World)(h:RatV w K neg (.slice A n c) (.slice B m d) 0)(hK:K≤1048576):
  Calls Tryz.prog 234 #[.int .i64 dd,.agg #[.bool neg,.slice A n c,.slice B m d],.int .i64 53,.int .i64 1023] w fun e w'=>e=.returned (.int .u64 0)∧Below w.heap.size w w':=by
 have ba:=below_alloc w (.cells #[.bool neg,.slice A n c,.slice B m d] 42);have HS:=Hd fun W (hW:Below w.heap.size w W)=>rsign_any K neg _ _ _ W (h.below hW) (by omega);rw [show rsg 0=0 from rfl] at HS;have BA:=Hd ba;clear ba h
 go_enter Tryz.func234,Tryz.ntmps234
 go_wp2_with fail;refine (HS.out _ BA.out).mono ?_;rintro e w1 ⟨rfl,hb1⟩;have B1:=Hd (BA.out.trans (hb1.mono BA.out.size));clear hb1;go_wp2
 go_ret
 exact⟨rfl,B1.out⟩
def IsRnd(w:World)(d:Int)(x:Rat)(e:Ending)(w':World):Prop:=∃ i,e=.returned (.int .u64 (pat i:Int))∧Rnd d x i∧Below w.heap.size w w'
theorem rounded_any(K:Nat)(neg:Bool)(A B:Option Addr)(n c m d:Nat)(x:Rat)(dd:Int)(w:World)(h:RatV w K neg (.slice A n c) (.slice B m d) x)(hK:K≤1048576)(hd:dd=-1∨dd=1):
  Calls Tryz.prog 234 #[.int .i64 dd,.agg #[.bool neg,.slice A n c,.slice B m d],.int .i64 53,.int .i64 1023] w (IsRnd w dd x):=by
 have h':=h;obtain⟨p,q,A',n',c',B',m',d',e1,e2,hu,hv,hq,h0,hpK,hqK,rfl⟩:=h'
 cases e1;cases e2
 rcases Nat.eq_zero_or_pos p with hp | hp
 ·subst hp;rw [rv_zero] at h;refine (rounded_zero K neg A B n c m d dd w h hK).mono ?_;rintro e w' ⟨rfl,hb⟩;refine⟨0,rfl,?_,hb⟩;rw [rv_zero]
  exact rnd_zero hd
 ·refine (rounded_pos K neg A B n c m d p q dd w hu hv hp hq hpK hqK hK hd).mono ?_;rintro e w' ⟨rfl,hb⟩
  exact⟨_,rfl,rnd_ans hp hq (fout_sc hp hq rfl) hd,hb⟩
theorem bits_any(K:Nat)(neg:Bool)(A B:Option Addr)(n c m d:Nat)(x:Rat)(dd:Int)(w:World)(h:RatV w K neg (.slice A n c) (.slice B m d) x)(hK:K≤1048576)(hd:dd=-1∨dd=1):
  Calls Tryz.prog 207 #[.int .i64 dd,.agg #[.bool neg,.slice A n c,.slice B m d]] w (IsRnd w dd x):=by
 have ba:=below_alloc w (.cells #[.bool neg,.slice A n c,.slice B m d] 42);have HS:=Hd fun W (hW:Below w.heap.size w W)=>rounded_any K neg A B n c m d x dd W (h.below hW) hK hd;have BA:=Hd ba;clear ba h hd
 go_enter Tryz.func207,Tryz.ntmps207
 go_wp2_with fail;refine (HS.out _ BA.out).mono ?_;rintro e w1 ⟨i,rfl,hr,hb1⟩;have B1:=Hd (BA.out.trans (hb1.mono BA.out.size));have HR:=Hd hr;clear hb1 hr;go_wp2
 go_ret
 exact⟨i,rfl,HR.out,B1.out⟩
end
section
open Go.RowKit
theorem pat_ne_max{i:Int}(h0:-(M:Int)≤i)(h1:i<M):((pat i:Int) == 9218868437227405312)=false:=by
 rw [beq_eq_false_iff_ne];intro h;have:=pat_inj h0 (by omega) (show -(M:Int)≤(M:Int) by rw [M_val];omega) (Int.le_refl _) (by rw [pat_max];omega)
 omega
theorem of_none(x y:Nat)(w:World)(hx:x<18446744073709551616)(hy:y<18446744073709551616)(h:snd x y=false):
  Calls Tryz.prog 83 #[.agg #[.int .u64 (x:Int),.int .u64 (y:Int)]] w (NewSet w 1 true 0 0 0 0):=by
 have h1:rd x y=((M:Int),-(M:Int)):=by unfold rd;rw [h];rfl
 have HR:=Hd fun W=>read6 x y W hx hy;rw [h1] at HR
 simp only [pat_max,pat_min] at HR
 have HE:=Hd empty6;have HF:=Hd fun W=>finite_nat 0 W (by omega);clear h h1;obtain⟨LB0,LG0_0,LR⟩:=bx2 w #[.int .u64 (x:Int),.int .u64 (y:Int)] 24 #[.bool false,.int .i64 0,.bool false,.slice none 0 0,.slice none 0 0,.int .i64 0,.bool false,.slice none 0 0,.slice none 0 0] 89;have LR0:=Hd (HasBlk.of (n:=9) LR.out rfl rfl);clear LR
 go_enter Tryz.func83,Tryz.ntmps83
 go_wp2_with fail;refine (HR.out _).mono ?_;rintro e w1 ⟨rfl,hb1⟩;have LB1:=stB LB0 hb1 LB0.out.size;have LR1:=stR LR0 hb1;have LG0_1:=stG LG0_0 hb1;clear LB0 LR0 LG0_0;have hlt2:=LR1.out.lt;have LB2:=Hd (LB1.out.alloc LB1.out.size (.cells #[.int .u64 9218868437227405312,.int .u64 18442240474082181120] 24));have LR2:=Hd (LR1.out.alloc (.cells #[.int .u64 9218868437227405312,.int .u64 18442240474082181120] 24));have LG0_2:=Hd (LG0_1.out.alloc (.cells #[.int .u64 9218868437227405312,.int .u64 18442240474082181120] 24));have LG1_2:=Hd (Blk.new w1 24 #[.int .u64 9218868437227405312,.int .u64 18442240474082181120]);clear LB1 LR1 LG0_1;go_wp2_with fail;refine wp_region_held_drew (S:=fun W'=>Blk W' w.heap.size 24 #[.int .u64 (x:Int),.int .u64 (y:Int)]∧Blk W' w1.heap.size 24 #[.int .u64 9218868437227405312,.int .u64 18442240474082181120]∧HasBlk W' (w.heap.size+1) 89 9∧Below w.heap.size w W') (by kernel_rfl) (by exact⟨LG0_2.out.drew,LG1_2.out.drew,LR2.out.drew,LB2.out.drew⟩) (fun hHeld=>?_);refine tk 0 ?_ (hv:=by intro W2 hSw;obtain⟨q0,q1⟩:=hSw.2.1.c2;go_simp;(try with_reducible rfl));(try simp only [Act.put,lay]);refine rdy 1 (fun KK hKK=>?_);go_simp;refine (HE.out _).mono ?_;rintro e w2 ⟨rfl,hb2⟩;go_wp2_with fail;refine hKK.out _ _ (⟨hHeld.1.keep hb2,hHeld.2.1.keep hb2,hHeld.2.2.1.keep hb2,hHeld.2.2.2.trans (hb2.mono hHeld.2.2.2.size)⟩) (fun _=>?_);clear hKK KK hHeld;rename_i hHeld;(try simp only [Act.put,lay]);refine tk 2 ?_;(try simp only [Act.put,lay]);refine wpAnyH_done (by kernel_rfl) ?_ _
 have LB3:=Hd hHeld.2.2.2;have LR3:=Hd hHeld.2.2.1;have LG0_3:=Hd hHeld.1;have LG1_3:=Hd hHeld.2.1;clear hHeld LB2 LR2 LG0_2 LG1_2;go_wp2_with fail;refine (HF.out _).mono ?_;rintro e w3 ⟨g1,A1,n1,c1,B1,m1,d1,rfl,h1,hb1⟩;have LB4:=stB LB3 hb1 LB3.out.size;have LR4:=stR LR3 hb1;have LG0_4:=stG LG0_3 hb1;have LG1_4:=stG LG1_3 hb1;clear LB3 LR3 LG0_3 LG1_3;go_wp2_with fail;refine (HF.out _).mono ?_;rintro e w4 ⟨g2,A2,n2,c2,B2,m2,d2,rfl,h2,hb2⟩;have LB5:=stB LB4 hb2 LB4.out.size;have LR5:=stR LR4 hb2;have LG0_5:=stG LG0_4 hb2;have LG1_5:=stG LG1_4 hb2;clear LB4 LR4 LG0_4 LG1_4;obtain⟨ha0,hf0,ha1,hf1,ha2,hf2,ha3,hf3,ha4,hf4,ha5,hf5,ha6,hf6,ha7,hf7,ha8,hf8⟩:=LR5.out.sf9;obtain⟨hk0,hk1,hk2,hk3,hk4,hk5,hk6,hk7,hk8⟩:=LR5.out.sc9 (.bool true) (.int .i64 0) (.bool g1) (.slice A1 n1 c1) (.slice B1 m1 d1) (.int .i64 0) (.bool g2) (.slice A2 n2 c2) (.slice B2 m2 d2);have F:=Hd (below_sets (w0:=w) (r:=(w.heap.size+1)) (by omega) [.bool true,.int .i64 0,.bool g1,.slice A1 n1 c1,.slice B1 m1 d1,.int .i64 0,.bool g2,.slice A2 n2 c2,.slice B2 m2 d2] 0 _ LB5.out)
 simp [sets] at hk0 hk1 hk2 hk3 hk4 hk5 hk6 hk7 hk8
 have FR1:=Hd (LR5.out.rat (h1.below hb2) [.bool true,.int .i64 0,.bool g1,.slice A1 n1 c1,.slice B1 m1 d1,.int .i64 0,.bool g2,.slice A2 n2 c2,.slice B2 m2 d2]);have FR2:=Hd (LR5.out.rat h2 [.bool true,.int .i64 0,.bool g1,.slice A1 n1 c1,.slice B1 m1 d1,.int .i64 0,.bool g2,.slice A2 n2 c2,.slice B2 m2 d2]);clear hb1 hb2 h1 h2 LR5 LB5 LG0_5 LG1_5;go_wp2;refine bodyPost_ret (v:=.agg #[.bool true,.int .i64 0,.bool g1,.slice A1 n1 c1,.slice B1 m1 d1,.int .i64 0,.bool g2,.slice A2 n2 c2,.slice B2 m2 d2]) (by simp [results,Tryz.results83,go_sem,hk0,hk1,hk2,hk3,hk4,hk5,hk6,hk7,hk8]) rfl ?_
 exact⟨_,_,_,_,_,_,_,_,_,_,_,_,_,_,rfl,FR1.out,FR2.out,F.out⟩
theorem of_full(x y:Nat)(w:World)(hx:x<18446744073709551616)(hy:y<18446744073709551616)(h:snd x y=true):
  Calls Tryz.prog 83 #[.agg #[.int .u64 (x:Int),.int .u64 (y:Int)]] w (NewSet w 34 false (es (idx x)) (ex (idx x)) (es (idx y)) (ex (idx y))):=by
 have h1:rd x y=(idx x,idx y):=by unfold rd;rw [h];rfl
 have hd:=of_decide_eq_true h;have hi:=idx_bounds hd.1;have hj:=idx_bounds hd.2.1;have HR:=Hd fun W=>read6 x y W hx hy;rw [h1] at HR;have H1:=Hd fun W=>bound_raw (pat (idx x)) W (pat_lt hi.1 hi.2) (by rw [rung_pat hi.1 hi.2];omega);have H2:=Hd fun W=>bound_raw (pat (idx y)) W (pat_lt hj.1 hj.2) (by rw [rung_pat hj.1 hj.2];omega);rw [idx_pat hi.1 hi.2] at H1;rw [idx_pat hj.1 hj.2] at H2;have hp:=pat_ne_max hi.1 hd.2.2.2.1
 dsimp only at HR
 obtain⟨p,hpp⟩:∃ p,pat (idx x)=p:=⟨_,rfl⟩
 obtain⟨q,hqq⟩:∃ q,pat (idx y)=q:=⟨_,rfl⟩
 obtain⟨s1,e1⟩:∃ s,es (idx x)=s:=⟨_,rfl⟩
 obtain⟨x1,e2⟩:∃ s,ex (idx x)=s:=⟨_,rfl⟩
 obtain⟨s2,e3⟩:∃ s,es (idx y)=s:=⟨_,rfl⟩
 obtain⟨x2,e4⟩:∃ s,ex (idx y)=s:=⟨_,rfl⟩
 rw [hpp] at HR H1 hp;rw [hqq] at HR H2;rw [e1,e2] at H1 ⊢;rw [e3,e4] at H2 ⊢;have HE:=Hd empty6;clear h h1 hd hi hj hpp hqq e1 e2 e3 e4;obtain⟨LB0,LG0_0,LR⟩:=bx2 w #[.int .u64 (x:Int),.int .u64 (y:Int)] 24 #[.bool false,.int .i64 0,.bool false,.slice none 0 0,.slice none 0 0,.int .i64 0,.bool false,.slice none 0 0,.slice none 0 0] 89;have LR0:=Hd (HasBlk.of (n:=9) LR.out rfl rfl);clear LR
 go_enter Tryz.func83,Tryz.ntmps83
 go_wp2_with fail;refine (HR.out _).mono ?_;rintro e w1 ⟨rfl,hb1⟩;have LB1:=stB LB0 hb1 LB0.out.size;have LR1:=stR LR0 hb1;have LG0_1:=stG LG0_0 hb1;clear LB0 LR0 LG0_0;have hlt2:=LR1.out.lt;have LB2:=Hd (LB1.out.alloc LB1.out.size (.cells #[.int .u64 (p:Int),.int .u64 (q:Int)] 24));have LR2:=Hd (LR1.out.alloc (.cells #[.int .u64 (p:Int),.int .u64 (q:Int)] 24));have LG0_2:=Hd (LG0_1.out.alloc (.cells #[.int .u64 (p:Int),.int .u64 (q:Int)] 24));have LG1_2:=Hd (Blk.new w1 24 #[.int .u64 (p:Int),.int .u64 (q:Int)]);clear LB1 LR1 LG0_1;go_wp2_with fail;refine wp_region_held_drew (S:=fun W'=>Blk W' w.heap.size 24 #[.int .u64 (x:Int),.int .u64 (y:Int)]∧Blk W' w1.heap.size 24 #[.int .u64 (p:Int),.int .u64 (q:Int)]∧HasBlk W' (w.heap.size+1) 89 9∧Below w.heap.size w W') (by kernel_rfl) (by exact⟨LG0_2.out.drew,LG1_2.out.drew,LR2.out.drew,LB2.out.drew⟩) (fun hHeld=>?_);refine tk 0 ?_ (hv:=by intro W2 hSw;obtain⟨q0,q1⟩:=hSw.2.1.c2;go_simp;(try with_reducible rfl));(try simp only [Act.put,lay]);refine rdy 1 (fun KK hKK=>?_);go_simp;refine (HE.out _).mono ?_;rintro e w2 ⟨rfl,hb2⟩;go_wp2_with fail;refine hKK.out _ _ (⟨hHeld.1.keep hb2,hHeld.2.1.keep hb2,hHeld.2.2.1.keep hb2,hHeld.2.2.2.trans (hb2.mono hHeld.2.2.2.size)⟩) (fun _=>?_);clear hKK KK hHeld;rename_i hHeld;(try simp only [Act.put,lay]);refine tk 2 ?_;(try simp only [Act.put,lay]);refine wpAnyH_done (by kernel_rfl) ?_ _;have LB3:=Hd hHeld.2.2.2;have LR3:=Hd hHeld.2.2.1;have LG0_3:=Hd hHeld.1;have LG1_3:=Hd hHeld.2.1
 clear hHeld LB2 LR2 LG0_2 LG1_2;go_wp2_with fail;refine wp_region_held_drew (S:=fun W'=>Blk W' w.heap.size 24 #[.int .u64 (x:Int),.int .u64 (y:Int)]∧Blk W' w1.heap.size 24 #[.int .u64 (p:Int),.int .u64 (q:Int)]∧HasBlk W' (w.heap.size+1) 89 9∧Below w.heap.size w W') (by kernel_rfl) (by exact⟨LG0_3.out.drew,LG1_3.out.drew,LR3.out.drew,LB3.out.drew⟩) (fun hHeld=>?_);refine tk 0 ?_;(try simp only [Act.put,lay]);refine tk 1 ?_ (hv:=by intro W2 hSw;obtain⟨q0,q1⟩:=hSw.2.1.c2;go_simp;(try with_reducible rfl));(try simp only [Act.put,lay]);refine tk 3 ?_;(try simp only [Act.put,lay]);refine tk 4 ?_ (hv:=by intro W2 hSw;obtain⟨q0,q1⟩:=hSw.2.1.c2;go_simp;(try with_reducible rfl));(try simp only [Act.put,lay]);refine rdy 2 (fun KK hKK=>?_);go_simp;refine (H1.out _).mono ?_;rintro e w3 ⟨g1,A1,n1,c1,B1,m1,d1,rfl,h1,hb1⟩;go_wp2_with fail;refine hKK.out _ _ (⟨hHeld.1.keep hb1,hHeld.2.1.keep hb1,hHeld.2.2.1.keep hb1,hHeld.2.2.2.trans (hb1.mono hHeld.2.2.2.size)⟩) (fun _=>?_);clear hKK KK hHeld;rename_i hHeld;(try simp only [Act.put,lay]);refine rdy 5 (fun KK hKK=>?_);go_simp;refine (H2.out _).mono ?_;rintro e w4 ⟨g2,A2,n2,c2,B2,m2,d2,rfl,h2,hb2⟩;go_wp2_with fail;refine hKK.out _ _ (⟨hHeld.1.keep hb2,hHeld.2.1.keep hb2,hHeld.2.2.1.keep hb2,hHeld.2.2.2.trans (hb2.mono hHeld.2.2.2.size)⟩) (fun _=>?_);clear hKK KK hHeld;rename_i hHeld;(try simp only [Act.put,lay]);refine tk 6 ?_;(try simp only [Act.put,lay]);refine rdy 7 (fun KK hKK=>?_);have ha0:=hHeld.2.2.1.someCell 0 (by decide);have hf0:=hHeld.2.2.1.frozen 0;have ha1:=hHeld.2.2.1.someCell 1 (by decide);have hf1:=hHeld.2.2.1.frozen 1;have ha2:=hHeld.2.2.1.someCell 2 (by decide);have hf2:=hHeld.2.2.1.frozen 2;have ha3:=hHeld.2.2.1.someCell 3 (by decide);have hf3:=hHeld.2.2.1.frozen 3;have ha4:=hHeld.2.2.1.someCell 4 (by decide);have hf4:=hHeld.2.2.1.frozen 4;have ha5:=hHeld.2.2.1.someCell 5 (by decide);have hf5:=hHeld.2.2.1.frozen 5;have ha6:=hHeld.2.2.1.someCell 6 (by decide);have hf6:=hHeld.2.2.1.frozen 6;have ha7:=hHeld.2.2.1.someCell 7 (by decide);have hf7:=hHeld.2.2.1.frozen 7;have ha8:=hHeld.2.2.1.someCell 8 (by decide);have hf8:=hHeld.2.2.1.frozen 8;have HK:=Hd (hHeld.2.2.1.setCell [.bool false,.int .i64 s1,.bool g1,.slice A1 n1 c1,.slice B1 m1 d1,.int .i64 s2,.bool g2,.slice A2 n2 c2,.slice B2 m2 d2] rfl);have F:=Hd (below_sets (w0:=w) (r:=(w.heap.size+1)) (by omega) [.bool false,.int .i64 s1,.bool g1,.slice A1 n1 c1,.slice B1 m1 d1,.int .i64 s2,.bool g2,.slice A2 n2 c2,.slice B2 m2 d2] 0 _ hHeld.2.2.2);have FR1:=Hd (hHeld.2.2.1.rat (h1.below hb2) [.bool false,.int .i64 s1,.bool g1,.slice A1 n1 c1,.slice B1 m1 d1,.int .i64 s2,.bool g2,.slice A2 n2 c2,.slice B2 m2 d2]);have FR2:=Hd (hHeld.2.2.1.rat h2 [.bool false,.int .i64 s1,.bool g1,.slice A1 n1 c1,.slice B1 m1 d1,.int .i64 s2,.bool g2,.slice A2 n2 c2,.slice B2 m2 d2])
 go_simp;refine hKK.out _ _ (⟨hHeld.1.other (by omega) 0 [.bool false,.int .i64 s1,.bool g1,.slice A1 n1 c1,.slice B1 m1 d1,.int .i64 s2,.bool g2,.slice A2 n2 c2,.slice B2 m2 d2],hHeld.2.1.other (by omega) 0 [.bool false,.int .i64 s1,.bool g1,.slice A1 n1 c1,.slice B1 m1 d1,.int .i64 s2,.bool g2,.slice A2 n2 c2,.slice B2 m2 d2],hHeld.2.2.1.sets [.bool false,.int .i64 s1,.bool g1,.slice A1 n1 c1,.slice B1 m1 d1,.int .i64 s2,.bool g2,.slice A2 n2 c2,.slice B2 m2 d2] rfl rfl,below_sets (by omega) [.bool false,.int .i64 s1,.bool g1,.slice A1 n1 c1,.slice B1 m1 d1,.int .i64 s2,.bool g2,.slice A2 n2 c2,.slice B2 m2 d2] 0 _ hHeld.2.2.2⟩) (fun _=>?_);clear hKK KK hHeld;rename_i hHeld;(try simp only [Act.put,lay]);refine wpAnyH_done (by kernel_rfl) ?_ _;have hk0:=HK.out 0 (by decide);have hk1:=HK.out 1 (by decide);have hk2:=HK.out 2 (by decide);have hk3:=HK.out 3 (by decide);have hk4:=HK.out 4 (by decide);have hk5:=HK.out 5 (by decide);have hk6:=HK.out 6 (by decide);have hk7:=HK.out 7 (by decide);have hk8:=HK.out 8 (by decide)
 simp [sets] at hk0 hk1 hk2 hk3 hk4 hk5 hk6 hk7 hk8
 clear hHeld HK;go_wp2;refine bodyPost_ret (v:=.agg #[.bool false,.int .i64 s1,.bool g1,.slice A1 n1 c1,.slice B1 m1 d1,.int .i64 s2,.bool g2,.slice A2 n2 c2,.slice B2 m2 d2]) (by simp [results,Tryz.results83,go_sem,hk0,hk1,hk2,hk3,hk4,hk5,hk6,hk7,hk8]) rfl ?_
 exact⟨_,_,_,_,_,_,_,_,_,_,_,_,_,_,rfl,FR1.out,FR2.out,F.out⟩
end
section
open Go.RowKit
theorem hull_left(K:Nat)(o:Bool)(s1:Int)(g1:Bool)(A1:Option Addr)(n1 c1:Nat)(B1:Option Addr)(m1 d1:Nat)(x1:Rat)(s2:Int)(g2:Bool)(A2:Option Addr)(n2 c2:Nat)(B2:Option Addr)(m2 d2:Nat)(x2:Rat)(s3:Int)(g3:Bool)(A3:Option Addr)(n3 c3:Nat)(B3:Option Addr)(m3 d3:Nat)(x3:Rat)(s4:Int)(g4:Bool)(A4:Option Addr)(n4 c4:Nat)(B4:Option Addr)(m4 d4:Nat)(x4:Rat)(w:World)(h1:RatV w K g1 (.slice A1 n1 c1) (.slice B1 m1 d1) x1)(h2:RatV w K g2 (.slice A2 n2 c2) (.slice B2 m2 d2) x2)(h3:RatV w K g3 (.slice A3 n3 c3) (.slice B3 m3 d3) x3)(h4:RatV w K g4 (.slice A4 n4 c4) (.slice B4 m4 d4) x4):
  Calls Tryz.prog 146 #[.agg #[.bool true,.int .i64 s1,.bool g1,.slice A1 n1 c1,.slice B1 m1 d1,.int .i64 s2,.bool g2,.slice A2 n2 c2,.slice B2 m2 d2],.agg #[.bool o,.int .i64 s3,.bool g3,.slice A3 n3 c3,.slice B3 m3 d3,.int .i64 s4,.bool g4,.slice A4 n4 c4,.slice B4 m4 d4]] w (NewSet w K o s3 x3 s4 x4):=by
 have H1:=Hd h3;have H2:=Hd h4;clear h1 h2 h3 h4;obtain⟨LB0,LG0_0,LG1_0,LR⟩:=bx3 w #[.bool true,.int .i64 s1,.bool g1,.slice A1 n1 c1,.slice B1 m1 d1,.int .i64 s2,.bool g2,.slice A2 n2 c2,.slice B2 m2 d2] 89 #[.bool o,.int .i64 s3,.bool g3,.slice A3 n3 c3,.slice B3 m3 d3,.int .i64 s4,.bool g4,.slice A4 n4 c4,.slice B4 m4 d4] 89 #[.bool false,.int .i64 0,.bool false,.slice none 0 0,.slice none 0 0,.int .i64 0,.bool false,.slice none 0 0,.slice none 0 0] 89;have LR0:=Hd (HasBlk.of (n:=9) LR.out rfl rfl);clear LR;clear LB0 LG0_0 LG1_0 LR0
 go_enter Tryz.func146,Tryz.ntmps146
 go_wp2;refine bodyPost_ret (v:=.agg #[.bool o,.int .i64 s3,.bool g3,.slice A3 n3 c3,.slice B3 m3 d3,.int .i64 s4,.bool g4,.slice A4 n4 c4,.slice B4 m4 d4]) (by simp [results,Tryz.results146,go_sem]) rfl ?_
 exact have b:=(((below_alloc w _).alloc (by simp<;>omega) _).alloc (by simp<;>omega) _);⟨_,_,_,_,_,_,_,_,_,_,_,_,_,_,rfl,H1.out.below b,H2.out.below b,b⟩
theorem hull_right(K:Nat)(s1:Int)(g1:Bool)(A1:Option Addr)(n1 c1:Nat)(B1:Option Addr)(m1 d1:Nat)(x1:Rat)(s2:Int)(g2:Bool)(A2:Option Addr)(n2 c2:Nat)(B2:Option Addr)(m2 d2:Nat)(x2:Rat)(s3:Int)(g3:Bool)(A3:Option Addr)(n3 c3:Nat)(B3:Option Addr)(m3 d3:Nat)(x3:Rat)(s4:Int)(g4:Bool)(A4:Option Addr)(n4 c4:Nat)(B4:Option Addr)(m4 d4:Nat)(x4:Rat)(w:World)(h1:RatV w K g1 (.slice A1 n1 c1) (.slice B1 m1 d1) x1)(h2:RatV w K g2 (.slice A2 n2 c2) (.slice B2 m2 d2) x2)(h3:RatV w K g3 (.slice A3 n3 c3) (.slice B3 m3 d3) x3)(h4:RatV w K g4 (.slice A4 n4 c4) (.slice B4 m4 d4) x4):
  Calls Tryz.prog 146 #[.agg #[.bool false,.int .i64 s1,.bool g1,.slice A1 n1 c1,.slice B1 m1 d1,.int .i64 s2,.bool g2,.slice A2 n2 c2,.slice B2 m2 d2],.agg #[.bool true,.int .i64 s3,.bool g3,.slice A3 n3 c3,.slice B3 m3 d3,.int .i64 s4,.bool g4,.slice A4 n4 c4,.slice B4 m4 d4]] w (NewSet w K false s1 x1 s2 x2):=by
 have H1:=Hd h1;have H2:=Hd h2;clear h1 h2 h3 h4;obtain⟨LB0,LG0_0,LG1_0,LR⟩:=bx3 w #[.bool false,.int .i64 s1,.bool g1,.slice A1 n1 c1,.slice B1 m1 d1,.int .i64 s2,.bool g2,.slice A2 n2 c2,.slice B2 m2 d2] 89 #[.bool true,.int .i64 s3,.bool g3,.slice A3 n3 c3,.slice B3 m3 d3,.int .i64 s4,.bool g4,.slice A4 n4 c4,.slice B4 m4 d4] 89 #[.bool false,.int .i64 0,.bool false,.slice none 0 0,.slice none 0 0,.int .i64 0,.bool false,.slice none 0 0,.slice none 0 0] 89;have LR0:=Hd (HasBlk.of (n:=9) LR.out rfl rfl);clear LR;clear LB0 LG0_0 LG1_0 LR0
 go_enter Tryz.func146,Tryz.ntmps146
 go_wp2;refine bodyPost_ret (v:=.agg #[.bool false,.int .i64 s1,.bool g1,.slice A1 n1 c1,.slice B1 m1 d1,.int .i64 s2,.bool g2,.slice A2 n2 c2,.slice B2 m2 d2]) (by simp [results,Tryz.results146,go_sem]) rfl ?_
 exact have b:=(((below_alloc w _).alloc (by simp<;>omega) _).alloc (by simp<;>omega) _);⟨_,_,_,_,_,_,_,_,_,_,_,_,_,_,rfl,H1.out.below b,H2.out.below b,b⟩
theorem hull_both(K:Nat)(s1:Int)(g1:Bool)(A1:Option Addr)(n1 c1:Nat)(B1:Option Addr)(m1 d1:Nat)(x1:Rat)(s2:Int)(g2:Bool)(A2:Option Addr)(n2 c2:Nat)(B2:Option Addr)(m2 d2:Nat)(x2:Rat)(s3:Int)(g3:Bool)(A3:Option Addr)(n3 c3:Nat)(B3:Option Addr)(m3 d3:Nat)(x3:Rat)(s4:Int)(g4:Bool)(A4:Option Addr)(n4 c4:Nat)(B4:Option Addr)(m4 d4:Nat)(x4:Rat)(w:World)(h1:RatV w K g1 (.slice A1 n1 c1) (.slice B1 m1 d1) x1)(h2:RatV w K g2 (.slice A2 n2 c2) (.slice B2 m2 d2) x2)(h3:RatV w K g3 (.slice A3 n3 c3) (.slice B3 m3 d3) x3)(h4:RatV w K g4 (.slice A4 n4 c4) (.slice B4 m4 d4) x4)(hK:K≤1073741824):
  Calls Tryz.prog 146 #[.agg #[.bool false,.int .i64 s1,.bool g1,.slice A1 n1 c1,.slice B1 m1 d1,.int .i64 s2,.bool g2,.slice A2 n2 c2,.slice B2 m2 d2],.agg #[.bool false,.int .i64 s3,.bool g3,.slice A3 n3 c3,.slice B3 m3 d3,.int .i64 s4,.bool g4,.slice A4 n4 c4,.slice B4 m4 d4]] w
   (NewSet w K false (if ec s3 x3 s1 x1<0 then s3 else s1) (if ec s3 x3 s1 x1<0 then x3 else x1) (if 0<ec s4 x4 s2 x2 then s4 else s2) (if 0<ec s4 x4 s2 x2 then x4 else x2)):=by
 have T1:=Hd fun W (hW:Below w.heap.size w W)=>lesser_any K s1 g1 A1 n1 c1 B1 m1 d1 x1 s3 g3 A3 n3 c3 B3 m3 d3 x3 W (h1.below hW) (h3.below hW) hK;have T2:=Hd fun W (hW:Below w.heap.size w W)=>greater_any K s2 g2 A2 n2 c2 B2 m2 d2 x2 s4 g4 A4 n4 c4 B4 m4 d4 x4 W (h2.below hW) (h4.below hW) hK
 obtain⟨s5,e1⟩:∃ s,(if ec s3 x3 s1 x1<0 then s3 else s1)=s:=⟨_,rfl⟩
 obtain⟨x5,e2⟩:∃ s,(if ec s3 x3 s1 x1<0 then x3 else x1)=s:=⟨_,rfl⟩
 obtain⟨s6,e3⟩:∃ s,(if 0<ec s4 x4 s2 x2 then s4 else s2)=s:=⟨_,rfl⟩
 obtain⟨x6,e4⟩:∃ s,(if 0<ec s4 x4 s2 x2 then x4 else x2)=s:=⟨_,rfl⟩
 rw [e1,e2] at T1 ⊢;rw [e3,e4] at T2 ⊢;clear h1 h2 h3 h4 e1 e2 e3 e4;obtain⟨LB0,LG0_0,LG1_0,LR⟩:=bx3 w #[.bool false,.int .i64 s1,.bool g1,.slice A1 n1 c1,.slice B1 m1 d1,.int .i64 s2,.bool g2,.slice A2 n2 c2,.slice B2 m2 d2] 89 #[.bool false,.int .i64 s3,.bool g3,.slice A3 n3 c3,.slice B3 m3 d3,.int .i64 s4,.bool g4,.slice A4 n4 c4,.slice B4 m4 d4] 89 #[.bool false,.int .i64 0,.bool false,.slice none 0 0,.slice none 0 0,.int .i64 0,.bool false,.slice none 0 0,.slice none 0 0] 89;have LR0:=Hd (HasBlk.of (n:=9) LR.out rfl rfl);clear LR
 go_enter Tryz.func146,Tryz.ntmps146
 go_wp2_with fail;refine wp_region_held_drew (S:=fun W'=>Blk W' w.heap.size 89 #[.bool false,.int .i64 s1,.bool g1,.slice A1 n1 c1,.slice B1 m1 d1,.int .i64 s2,.bool g2,.slice A2 n2 c2,.slice B2 m2 d2]∧Blk W' (w.heap.size+1) 89 #[.bool false,.int .i64 s3,.bool g3,.slice A3 n3 c3,.slice B3 m3 d3,.int .i64 s4,.bool g4,.slice A4 n4 c4,.slice B4 m4 d4]∧HasBlk W' (w.heap.size+2) 89 9∧Below w.heap.size w W') (by kernel_rfl) (by exact⟨LG0_0.out.drew,LG1_0.out.drew,LR0.out.drew,LB0.out.drew⟩) (fun hHeld=>?_);refine tk 0 ?_;(try simp only [Act.put,lay]);refine tk 1 ?_ (hv:=by intro W2 hSw;obtain⟨q0,q1,q2,q3,q4,q5,q6,q7,q8⟩:=hSw.1.c9;go_simp;(try with_reducible rfl));(try simp only [Act.put,lay]);refine tk 2 ?_;(try simp only [Act.put,lay]);refine tk 3 ?_ (hv:=by intro W2 hSw;obtain⟨q0,q1,q2,q3,q4,q5,q6,q7,q8⟩:=hSw.2.1.c9;go_simp;(try with_reducible rfl));(try simp only [Act.put,lay]);refine tk 5 ?_;(try simp only [Act.put,lay]);refine tk 6 ?_ (hv:=by intro W2 hSw;obtain⟨q0,q1,q2,q3,q4,q5,q6,q7,q8⟩:=hSw.1.c9;go_simp;(try with_reducible rfl));(try simp only [Act.put,lay]);refine tk 7 ?_;(try simp only [Act.put,lay]);refine tk 8 ?_ (hv:=by intro W2 hSw;obtain⟨q0,q1,q2,q3,q4,q5,q6,q7,q8⟩:=hSw.2.1.c9;go_simp;(try with_reducible rfl));(try simp only [Act.put,lay]);refine rdy 4 (fun KK hKK=>?_);go_simp;refine (T1.out _ ?_).mono ?_;exact hHeld.2.2.2;rintro e w5 ⟨g5,A5,n5,c5,B5,m5,d5,rfl,h5,hb5⟩;go_wp2_with fail;refine hKK.out _ _ (⟨hHeld.1.keep hb5,hHeld.2.1.keep hb5,hHeld.2.2.1.keep hb5,hHeld.2.2.2.trans (hb5.mono hHeld.2.2.2.size)⟩) (fun _=>?_)
 clear hKK KK hHeld;rename_i hHeld;(try simp only [Act.put,lay]);refine rdy 9 (fun KK hKK=>?_);go_simp;refine (T2.out _ ?_).mono ?_;exact hHeld.2.2.2;rintro e w6 ⟨g6,A6,n6,c6,B6,m6,d6,rfl,h6,hb6⟩;go_wp2_with fail;refine hKK.out _ _ (⟨hHeld.1.keep hb6,hHeld.2.1.keep hb6,hHeld.2.2.1.keep hb6,hHeld.2.2.2.trans (hb6.mono hHeld.2.2.2.size)⟩) (fun _=>?_);clear hKK KK hHeld;rename_i hHeld;(try simp only [Act.put,lay]);refine tk 10 ?_;(try simp only [Act.put,lay]);refine rdy 11 (fun KK hKK=>?_);have ha0:=hHeld.2.2.1.someCell 0 (by decide);have hf0:=hHeld.2.2.1.frozen 0;have ha1:=hHeld.2.2.1.someCell 1 (by decide);have hf1:=hHeld.2.2.1.frozen 1;have ha2:=hHeld.2.2.1.someCell 2 (by decide);have hf2:=hHeld.2.2.1.frozen 2;have ha3:=hHeld.2.2.1.someCell 3 (by decide);have hf3:=hHeld.2.2.1.frozen 3;have ha4:=hHeld.2.2.1.someCell 4 (by decide);have hf4:=hHeld.2.2.1.frozen 4;have ha5:=hHeld.2.2.1.someCell 5 (by decide);have hf5:=hHeld.2.2.1.frozen 5;have ha6:=hHeld.2.2.1.someCell 6 (by decide);have hf6:=hHeld.2.2.1.frozen 6;have ha7:=hHeld.2.2.1.someCell 7 (by decide);have hf7:=hHeld.2.2.1.frozen 7;have ha8:=hHeld.2.2.1.someCell 8 (by decide);have hf8:=hHeld.2.2.1.frozen 8;have HK:=Hd (hHeld.2.2.1.setCell [.bool false,.int .i64 s5,.bool g5,.slice A5 n5 c5,.slice B5 m5 d5,.int .i64 s6,.bool g6,.slice A6 n6 c6,.slice B6 m6 d6] rfl);have F:=Hd (below_sets (w0:=w) (r:=(w.heap.size+2)) (by omega) [.bool false,.int .i64 s5,.bool g5,.slice A5 n5 c5,.slice B5 m5 d5,.int .i64 s6,.bool g6,.slice A6 n6 c6,.slice B6 m6 d6] 0 _ hHeld.2.2.2);have FR1:=Hd (hHeld.2.2.1.rat (h5.below hb6) [.bool false,.int .i64 s5,.bool g5,.slice A5 n5 c5,.slice B5 m5 d5,.int .i64 s6,.bool g6,.slice A6 n6 c6,.slice B6 m6 d6]);have FR2:=Hd (hHeld.2.2.1.rat h6 [.bool false,.int .i64 s5,.bool g5,.slice A5 n5 c5,.slice B5 m5 d5,.int .i64 s6,.bool g6,.slice A6 n6 c6,.slice B6 m6 d6])
 go_simp;refine hKK.out _ _ (⟨hHeld.1.other (by omega) 0 [.bool false,.int .i64 s5,.bool g5,.slice A5 n5 c5,.slice B5 m5 d5,.int .i64 s6,.bool g6,.slice A6 n6 c6,.slice B6 m6 d6],hHeld.2.1.other (by omega) 0 [.bool false,.int .i64 s5,.bool g5,.slice A5 n5 c5,.slice B5 m5 d5,.int .i64 s6,.bool g6,.slice A6 n6 c6,.slice B6 m6 d6],hHeld.2.2.1.sets [.bool false,.int .i64 s5,.bool g5,.slice A5 n5 c5,.slice B5 m5 d5,.int .i64 s6,.bool g6,.slice A6 n6 c6,.slice B6 m6 d6] rfl rfl,below_sets (by omega) [.bool false,.int .i64 s5,.bool g5,.slice A5 n5 c5,.slice B5 m5 d5,.int .i64 s6,.bool g6,.slice A6 n6 c6,.slice B6 m6 d6] 0 _ hHeld.2.2.2⟩) (fun _=>?_);clear hKK KK hHeld;rename_i hHeld;(try simp only [Act.put,lay]);refine wpAnyH_done (by kernel_rfl) ?_ _;have hk0:=HK.out 0 (by decide);have hk1:=HK.out 1 (by decide);have hk2:=HK.out 2 (by decide);have hk3:=HK.out 3 (by decide);have hk4:=HK.out 4 (by decide);have hk5:=HK.out 5 (by decide);have hk6:=HK.out 6 (by decide);have hk7:=HK.out 7 (by decide);have hk8:=HK.out 8 (by decide)
 simp [sets] at hk0 hk1 hk2 hk3 hk4 hk5 hk6 hk7 hk8
 clear hHeld HK h5 hb5 h6 hb6;clear LB0 LR0 LG0_0 LG1_0;go_wp2;refine bodyPost_ret (v:=.agg #[.bool false,.int .i64 s5,.bool g5,.slice A5 n5 c5,.slice B5 m5 d5,.int .i64 s6,.bool g6,.slice A6 n6 c6,.slice B6 m6 d6]) (by simp [results,Tryz.results146,go_sem,hk0,hk1,hk2,hk3,hk4,hk5,hk6,hk7,hk8]) rfl ?_
 exact⟨_,_,_,_,_,_,_,_,_,_,_,_,_,_,rfl,FR1.out,FR2.out,F.out⟩
end
end Go.Proofs.YthlmlmfebpjgdaaGreatDoor
