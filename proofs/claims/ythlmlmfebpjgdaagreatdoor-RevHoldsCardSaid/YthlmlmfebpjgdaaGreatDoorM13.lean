/-
Walks: package round, hold, long (where no digit is wanted), Ratio.
Walks: package rev, sign of an exact number, at, over.
Walks: package vergeref2, RMul, RQuo; package vergeref6, Sign; package vergeref10, ratio.
-/
import Derived.Test.YthlmlmfebpjgdaaGreatDoorM11
import Derived.Test.YthlmlmfebpjgdaaGreatDoorM12
import Derived.Test.YthlmlmfebpjgdaaGreatDoorM05
import Derived.Test.YthlmlmfebpjgdaaGreatDoorM03
import Derived.Test.YthlmlmfebpjgdaaGreatDoorM10
set_option linter.unusedSimpArgs false
set_option linter.unusedVariables false
set_option maxHeartbeats 12800000
namespace Go.Proofs.YthlmlmfebpjgdaaGreatDoor
open Go.RowKit Ieee
attribute [local go_sem] run_store_float
theorem hold_any(x:Int)(w:World)(h1:-1099511627776≤x)(h2:x≤1099511627776):
  Calls Tryz.prog 239 #[.int .i64 x] w fun e w'=>e=.returned (.int .i64 x)∧w=w':=by
 have e1:max x (-1099511627776)=x:=by omega
 have e2:min x 1099511627776=x:=by omega
 go_enter Tryz.func239,Tryz.ntmps239
 go_wp2
 go_ret
 exact⟨rfl,rfl⟩
def RtOf(w:World)(d:Int)(neg:Bool)(N D:Nat)(exp:Int)(e:Ending)(w':World):Prop:=
 e=.returned (.float .f64 (pat (rndI d (rv neg N D*2^exp))))∧Below w.heap.size w w'
theorem of_quo(d:Int)(neg:Bool)(A:Option Addr)(n c N D k:Nat)(exp:Int)(w:World)(hN:0<N)(hD:0<D)(hb:blen N≤300000)(hk:k≤200000)(h57:blen D+57≤blen N+k)(hu:U32s w A n c (digs (N*2^k / D)))(hd:d=-1∨d=1)
  (he1:-700000≤exp)(he2:exp≤1099511627776):
  Calls Tryz.prog 230 #[.int .i64 d,.bool neg,.slice A n c,.int .i64 (exp - (k:Int)),.bool (decide (0<N*2^k % D))] w (RtOf w d neg N D exp):=by
 have h1:=quo_blen (t:=57) hN hD rfl rfl h57 (by omega);have h2:=quo_blen_le (D:=D) (b:=500000) (k:=k) (N:=N) rfl (by omega)
 have hS:0<N*2^k / D:=by
  rcases Nat.eq_zero_or_pos (N*2^k / D) with h | h
  ·rw [h,blen_zero] at h1;omega
  ·exact h
 have hl:=wlen_digs_le (K:=16384) (S:=N*2^k / D) (by omega);have h:=of_pos d neg (decide (0<N*2^k % D)) A n c (N*2^k / D) (N*2^exp.toNat) (D*2^(-exp).toNat) _ (exp - (k:Int)) w hu (num_digs _) hS hl hd (Dg.quo hD) (Nat.mul_pos hD (Nat.two_pow_pos _)) (fun _=>by omega) (by omega) (by omega);rw [rv_scale neg hD exp] at h
 exact h
theorem long_plain(d:Int)(neg:Bool)(A B:Option Addr)(n c m c2 N D:Nat)(exp:Int)(w:World)(hu:U32s w A n c (digs N))(hv:U32s w B m c2 (digs D))(hN:0<N)(hD:0<D)(hbN:blen N≤300000)(hbD:blen D≤200000)(h57:blen D+57≤blen N)(hd:d=-1∨d=1)
  (he1:-700000≤exp)(he2:exp≤1099511627776):
  Calls Tryz.prog 241 #[.int .i64 d,.bool neg,.slice A n c,.slice B m c2,.int .i64 exp] w (RtOf w d neg N D exp):=by
 have L1:=nlen_any A n c _ w hu;have L2:=nlen_any B m c2 _ w hv;have wN:=wlen_digs_le (K:=16384) (S:=N) (by omega);have wD:=wlen_digs_le (K:=16384) (S:=D) (by omega);have HS:=nshl_any A n c 0 _ w hu wN (by rw [num_digs];omega);rw [num_digs] at L1 L2 HS;rw [Nat.pow_zero,Nat.mul_one] at HS;have hq57:=quo_blen (k:=0) (t:=57) hN hD rfl rfl (by omega) (by omega);have hq2:=quo_blen_le (D:=D) (b:=500000) (k:=0) (N:=N) rfl (by omega);have HF:=Hd fun A n c W h=>of_quo d neg A n c N D 0 exp W hN hD hbN (by omega) (by omega) h hd he1 he2;rw [Nat.pow_zero,Nat.mul_one] at hq57 HF;rw [show ((0:Nat):Int)=0 from rfl] at HS HF;rw [Int.sub_zero] at HF
 obtain⟨bn,hbn⟩:∃ b,blen N=b:=⟨_,rfl⟩
 obtain⟨bd,hbd⟩:∃ b,blen D=b:=⟨_,rfl⟩
 rw [hbn] at L1 hbN h57;rw [hbd] at L2 hbD h57
 have hmx:max 0 ((bd:Int) - (bn:Int))=0:=by omega
 have K1:=Hd L1;have K2:=Hd L2;have KS:=Hd HS;have HV:=Hd hv
 have HQ:=Hd fun A B n c m d W (h1:U32s W A n c (digs N)) (h2:U32s W B m d (digs D))=>(by
  have h:=nquo_any A B n c m d _ _ W h1 h2 wN wD (by rw [num_digs];exact hD)
  rw [num_digs,num_digs] at h;exact h:Calls Tryz.prog 240 #[.slice A n c,.slice B m d] W (NewQR W (N / D) (N % D)))
 obtain⟨Q,hQ⟩:∃ z,N / D=z:=⟨_,rfl⟩
 obtain⟨R,hR⟩:∃ z,N % D=z:=⟨_,rfl⟩
 rw [hQ] at hq57 HQ HF;rw [hR] at HQ HF
 have HL:=Hd fun A n c W (h:U32s W A n c (digs Q))=>(by
  have h:=nlen_any A n c _ W h
  rw [num_digs] at h;exact h:Calls Tryz.prog 232 #[.slice A n c] W fun e w'=>e=.returned (.int .i64 (blen Q:Int))∧W=w')
 obtain⟨bq,hbq⟩:∃ b,blen Q=b:=⟨_,rfl⟩
 rw [hbq] at hq57 HL
 have h57i:¬ (bq:Int)<57:=by omega
 have hlr:=fun (m:Nat) (h:(digs R).length=m)=>(show decide (0<R)=decide (0<m) from by
  rcases Nat.eq_zero_or_pos R with h0 | h0
  ·subst h0;rw [digs_zero] at h;subst h;rfl
  ·have:=digs_len_pos (by omega) h
   rw [decide_eq_true h0,decide_eq_true this])
 have HLR:=Hd hlr;clear hu hv hN hD L1 L2 HS wN wD hq2 hbn hbd hQ hR hbq hlr hq57 h57
 go_enter Tryz.func241,Tryz.ntmps241
 go_wp2_with fail;refine K2.out.mono ?_;rintro e w' ⟨rfl,rfl⟩;go_wp2_with fail;refine K1.out.mono ?_;rintro e w' ⟨rfl,rfl⟩;go_wp2_with fail;refine KS.out.mono ?_;rintro e w1 ⟨A1,n1,c1,rfl,hu1,hb1⟩;have HU1:=Hd hu1;have HV1:=Hd (HV.out.below hb1);have HB1:=Hd hb1;clear hu1 hb1 K1 K2 KS HV;go_wp2_with fail;refine (HQ.out _ _ _ _ _ _ _ HU1.out HV1.out).mono ?_;rintro e w2 ⟨A2,n2,c3,B2,m2,d2,rfl,hq,hr,hb2⟩;have HB2:=Hd (HB1.out.trans (hb2.mono HB1.out.size));have HQ2:=Hd hq;have HRL:=Hd (HLR.out _ hr.len);clear hq hr hb2 HU1 HV1 HB1 HQ HLR;have hi0:max 0 ((bd:Int) - (bn:Int))=0:=hmx;go_wp2
 go_loopw [11,14,15,17,18] (fun kv qv rv _ _ wr=>kv=.int .i64 0∧qv=.slice A2 n2 c3∧rv=.slice B2 m2 d2∧wr=w2) (fun _ _ _ _ _ _=>0)
 case atStart=>exact⟨rfl,rfl,rfl,rfl⟩
 case round=>
  obtain⟨rfl,rfl,rfl,rfl⟩:=hrel;go_wp2_with fail;refine (HL.out _ _ _ _ HQ2.out).mono ?_;rintro e w' ⟨rfl,rfl⟩;go_wp2_with fail;have h:=HF.out _ _ _ _ HQ2.out;rw [HRL.out] at h;refine h.mono ?_;rintro e w3 ⟨rfl,hb3⟩;have HB3:=Hd (HB2.out.trans (hb3.mono HB2.out.size));clear hb3 h;go_wp2
  go_ret
  exact⟨rfl,HB3.out⟩
theorem of_tiny(d:Int)(neg:Bool)(N D:Nat)(exp:Int)(w:World)(hN:0<N)(hD:0<D)(h:(blen N:Int) - blen D+exp < -1100)(hd:d=-1∨d=1):
  Calls Tryz.prog 230 #[.int .i64 d,.bool neg,.slice (some ⟨w.heap.size,0,none⟩) 1 1,.int .i64 (-1200),.bool false] (w.alloc (.cells #[.int .u32 1] 117)) (RtOf w d neg N D exp):=by
 obtain⟨U,hU⟩:∃ U,U=1074:=⟨_,rfl⟩
 obtain⟨V,hV⟩:∃ V,V=1200:=⟨_,rfl⟩
 have e0:(-1200:Int)=-(V:Int):=by omega
 have e1:(-(-(V:Int))).toNat=V:=by omega
 have e2:(-(V:Int)).toNat=0:=by omega
 have hdg:=Dg.exact 1 (-(V:Int));have hx:=U32s.lit1 w 117 (a:=1) (by omega)
 have hb1:blen 1=1:=by decide
 have ht:=tiny_of hU hD rfl rfl h;have h1:=of_pos d neg false (some ⟨w.heap.size,0,none⟩) 1 1 1 _ _ [1] (-(V:Int)) _ hx (by decide) (by omega) (by decide) hd hdg (Nat.two_pow_pos _) (fun h=>by cases h) (by omega) (by omega);rw [e1,e2,Nat.pow_zero] at h1
 have h2:rndI d (rv neg (1*1) (2^V))=rndI d (rv neg (N*2^exp.toNat) (D*2^(-exp).toNat)):=by
  refine rndI_tiny hd hU (by omega) (Nat.two_pow_pos _) ?_ (Nat.mul_pos hN (Nat.two_pow_pos _)) (Nat.mul_pos hD (Nat.two_pow_pos _)) ht;rw [Nat.mul_one,Nat.one_mul]
  exact Nat.pow_lt_pow_right (by omega) (by omega)
 rw [h2,rv_scale neg hD exp] at h1;rw [e0];refine h1.mono ?_;rintro e w' ⟨rfl,hb⟩
 exact⟨rfl,(below_alloc w _).trans (hb.mono (by simp))⟩
theorem ratio_any(d:Int)(neg:Bool)(A B:Option Addr)(n c m c2 N D:Nat)(exp:Int)(w:World)(hu:U32s w A n c (digs N))(hv:U32s w B m c2 (digs D))(hD:0<D)(hbN:blen N≤200000)(hbD:blen D≤150000)(hd:d=-1∨d=1)
  (he1:-1099511627776≤exp)(he2:exp≤1099511627776):
  Calls Tryz.prog 211 #[.int .i64 d,.bool neg,.slice A n c,.slice B m c2,.int .i64 exp] w (RtOf w d neg N D exp):=by
 have L1:=nlen_any A n c _ w hu;have L2:=nlen_any B m c2 _ w hv;rw [num_digs] at L1 L2
 have hbD0:blen D≠0:=fun h=>by rw [blen_eq_zero] at h;omega
 rcases Nat.eq_zero_or_pos N with h0 | hN
 ·subst h0;have K1:=Hd L1;have K2:=Hd L2;rw [blen_zero] at K1
  obtain⟨bd,hbd⟩:∃ b,blen D=b:=⟨_,rfl⟩
  rw [hbd] at K2 hbD hbD0
  have hz:((bd:Int) == 0)=false:=by simp;omega
  have hP:=Hd (show pat (rndI d (rv neg 0 D*2^exp))=0 from by rw [rv_zero,Rat.zero_mul,rndI_zero hd];rfl);clear L1 L2 hbd hu hv hbN
  go_enter Tryz.func211,Tryz.ntmps211
  go_wp2_with fail;refine K1.out.mono ?_;rintro e w' ⟨rfl,rfl⟩;go_wp2_with fail;refine K2.out.mono ?_;rintro e w' ⟨rfl,rfl⟩;clear K1 K2;go_wp2
  go_ret
  exact⟨by rw [hP.out];rfl,Below.refl _ _⟩
 ·have hbN0:blen N≠0:=fun h=>by rw [blen_eq_zero] at h;omega
  have HT:=Hd fun W h=>of_tiny d neg N D exp W hN hD h hd;have HLG:=Hd fun h57 h1=>long_plain d neg A B n c m c2 N D exp w hu hv hN hD (by omega) (by omega) h57 hd h1 he2;have wN:=wlen_digs_le (K:=16384) (S:=N) (by omega)
  have HS:=Hd fun k (hk:blen N+k≤524288)=>(by
   have h:=nshl_any A n c k _ w hu wN (by rw [num_digs];omega)
   rw [num_digs] at h;exact h:Calls Tryz.prog 202 #[.slice A n c,.int .i64 (k:Int)] w (NewU32E w (digs (N*2^k))))
  have HQ:=Hd fun k (hk:blen N+k≤524288) A B n c m d W (h1:U32s W A n c (digs (N*2^k))) (h2:U32s W B m d (digs D))=>(by
   have h:=nquo_any A B n c m d _ _ W h1 h2 (wlen_digs_le (K:=16384) (by rw [blen_shl _ _ hN];omega)) (wlen_digs_le (K:=16384) (by omega)) (by rw [num_digs];exact hD)
   rw [num_digs,num_digs] at h;exact h:Calls Tryz.prog 240 #[.slice A n c,.slice B m d] W (NewQR W (N*2^k / D) (N*2^k % D)))
  have HF:=Hd fun k A n c W hk h57 h h1=>of_quo d neg A n c N D k exp W hN hD (by omega) hk h57 h hd h1 he2;have HH:=Hd fun W=>hold_any exp W he1 he2;have HV:=Hd hv;have K1:=Hd L1;have K2:=Hd L2
  obtain⟨bd,hbd⟩:∃ b,blen D=b:=⟨_,rfl⟩
  obtain⟨bn,hbn⟩:∃ b,blen N=b:=⟨_,rfl⟩
  rw [hbd] at K2 hbD hbD0 HT HLG HF;rw [hbn] at K1 hbN hbN0 HT HLG HS HQ HF
  have hz1:((bd:Int) == 0)=false:=by simp;omega
  have hz2:((bn:Int) == 0)=false:=by simp;omega
  clear L1 L2 hbd hbn hu hv wN hN hD hd hbD0 hbN0
  go_enter Tryz.func211,Tryz.ntmps211
  go_wp2_with fail;refine K1.out.mono ?_;rintro e w' ⟨rfl,rfl⟩;go_wp2_with fail;refine K2.out.mono ?_;rintro e w' ⟨rfl,rfl⟩;clear K1 K2;go_wp2_with fail;refine (HH.out _).mono ?_;rintro e w' ⟨rfl,rfl⟩;clear HH
  by_cases ht:(bn:Int) - (bd:Int)+exp < -1100
  ·have K:=Hd (HT.out w ht);clear HT HLG HS HQ HF HV;go_wp2_with fail;refine K.out.mono ?_;rintro e w' ⟨rfl,hb⟩;have HB:=Hd hb;clear hb K;go_wp2
   go_ret
   exact⟨rfl,HB.out⟩
  ·by_cases hk:57+(bd:Int) - (bn:Int)≤0
   ·have K:=Hd (HLG.out (by omega) (by omega));clear HT HLG HS HQ HF HV;go_wp2_with fail;refine K.out.mono ?_;rintro e w' ⟨rfl,hb⟩;have HB:=Hd hb;clear hb K;go_wp2
    go_ret
    exact⟨rfl,HB.out⟩
   ·obtain⟨k,hkk⟩:∃ k:Nat,57+(bd:Int) - (bn:Int)=(k:Int):=⟨(57+(bd:Int) - (bn:Int)).toNat,by omega⟩
    have hk0:¬ (k:Int)≤0:=by omega
    have KS:=Hd (HS.out k (by omega));have KQ:=Hd (HQ.out k (by omega));have KF:=Hd fun A n c W h=>HF.out k A n c W (by omega) (by omega) h (by omega)
    obtain⟨Q,hQ⟩:∃ z,N*2^k / D=z:=⟨_,rfl⟩
    obtain⟨R,hR⟩:∃ z,N*2^k % D=z:=⟨_,rfl⟩
    rw [hQ] at KQ KF;rw [hR] at KQ KF
    have HLR:=Hd fun (m:Nat) (h:(digs R).length=m)=>(show decide (0<R)=decide (0<m) from by
     rcases Nat.eq_zero_or_pos R with h0 | h0
     ·subst h0;rw [digs_zero] at h;subst h;rfl
     ·have:=digs_len_pos (by omega) h
      rw [decide_eq_true h0,decide_eq_true this])
    have hk2:(k:Int)≤200000:=by omega
    have hk3:¬ (bn:Int) - (bd:Int)+exp < -1100:=ht;clear HT HLG HS HQ HF hQ hR hk;go_wp2_with fail;refine KS.out.mono ?_;rintro e w1 ⟨A1,n1,c1,rfl,hu1,hb1⟩;have HU1:=Hd hu1;have HV1:=Hd (HV.out.below hb1);have HB1:=Hd hb1;clear hu1 hb1 KS HV;go_wp2_with fail;refine (KQ.out _ _ _ _ _ _ _ HU1.out HV1.out).mono ?_;rintro e w2 ⟨A2,n2,c3,B2,m2,d2,rfl,hq,hr,hb2⟩;have HB2:=Hd (HB1.out.trans (hb2.mono HB1.out.size));have HQ2:=Hd hq;have HRL:=Hd (HLR.out _ hr.len);clear hq hr hb2 HU1 HV1 HB1 KQ HLR;go_wp2_with fail;have h:=KF.out _ _ _ _ HQ2.out;rw [HRL.out] at h;refine h.mono ?_;rintro e w3 ⟨rfl,hb3⟩;have HB3:=Hd (HB2.out.trans (hb3.mono HB2.out.size));clear hb3 h KF HRL HQ2 HB2;go_wp2
    go_ret
    exact⟨rfl,HB3.out⟩
end Go.Proofs.YthlmlmfebpjgdaaGreatDoor
namespace Go.Proofs.YthlmlmfebpjgdaaGreatDoor
open Go.RowKit
attribute [local go_sem] run_store_float run_negf
def esg(s:Int)(g:Bool)(n:Nat):Int:=if s≠0 then s else if n=0 then 0 else if g then -1 else 1
theorem isinf1(b:Nat)(w:World)(hr:rungOf b≤M):Calls Tryz.prog 161 #[.float .f64 b,.int .i64 1] w fun e w'=>e=.returned (.bool (decide (idx b=M)))∧w=w':=by
 have hM:M=9218868437227405312:=rfl;have hb:=idx_bounds hr
 by_cases h:idx b=M
 ·have ho:=ord_gt (a:=b) (b:=9218868437227405311) hr real_top (by rw [idx_top];omega);rw [decide_eq_true h];clear h hr hM hb
  go_enter Tryz.func161,Tryz.ntmps161
  go_wp2
  go_ret
  exact⟨rfl,rfl⟩
 ·have ho:FloatKind.f64.format.order b 9218868437227405311=some .lt∨FloatKind.f64.format.order b 9218868437227405311=some .eq:=by
   by_cases h2:idx b=M - 1
   ·exact .inr (ord_eq hr real_top (by rw [idx_top];omega))
   ·exact .inl (ord_lt hr real_top (by rw [idx_top];omega))
  rw [decide_eq_false h];clear h hr hM hb
  rcases ho with ho | ho
  all_goals
   go_enter Tryz.func161,Tryz.ntmps161
   go_wp2
   go_ret
   exact⟨rfl,rfl⟩
theorem sign_inf(s:Int)(g:Bool)(n:Nat)(A:Option Addr)(c:Nat)(E:Int)(w:World)(hs:s≠0):Calls Tryz.prog 158 #[.agg #[.int .i64 s,.bool g,.slice A n c,.int .i64 E]] w fun e w'=>e=.returned (.int .i64 (s))∧Below w.heap.size w w':=by
 have h0:(s == 0)=false:=by simpa using hs
 have h1:(s != 0)=true:=by simp [hs]
 obtain⟨LB0,LG0_0⟩:=bx1 w #[.int .i64 s,.bool g,.slice A n c,.int .i64 E] 97;have q0:=LG0_0.out.cell 0;have q1:=LG0_0.out.cell 1;have q2:=LG0_0.out.cell 2;have F:=Hd LB0.out
 go_enter Tryz.func158,Tryz.ntmps158
 go_wp2
 go_ret
 exact⟨rfl,F.out⟩
theorem sign_nil(g:Bool)(A:Option Addr)(c:Nat)(E:Int)(w:World):Calls Tryz.prog 158 #[.agg #[.int .i64 0,.bool g,.slice A 0 c,.int .i64 E]] w fun e w'=>e=.returned (.int .i64 (0))∧Below w.heap.size w w':=by
 obtain⟨LB0,LG0_0⟩:=bx1 w #[.int .i64 0,.bool g,.slice A 0 c,.int .i64 E] 97;have q0:=LG0_0.out.cell 0;have q1:=LG0_0.out.cell 1;have q2:=LG0_0.out.cell 2;have F:=Hd LB0.out
 go_enter Tryz.func158,Tryz.ntmps158
 go_wp2
 go_ret
 exact⟨rfl,F.out⟩
theorem sign_neg(n:Nat)(A:Option Addr)(c:Nat)(E:Int)(w:World)(hn:0<n):Calls Tryz.prog 158 #[.agg #[.int .i64 0,.bool true,.slice A n c,.int .i64 E]] w fun e w'=>e=.returned (.int .i64 (-1))∧Below w.heap.size w w':=by
 have h0:((n:Int) == 0)=false:=by simp;omega
 obtain⟨LB0,LG0_0⟩:=bx1 w #[.int .i64 0,.bool true,.slice A n c,.int .i64 E] 97;have q0:=LG0_0.out.cell 0;have q1:=LG0_0.out.cell 1;have q2:=LG0_0.out.cell 2;have F:=Hd LB0.out
 go_enter Tryz.func158,Tryz.ntmps158
 go_wp2
 go_ret
 exact⟨rfl,F.out⟩
theorem sign_pos(n:Nat)(A:Option Addr)(c:Nat)(E:Int)(w:World)(hn:0<n):Calls Tryz.prog 158 #[.agg #[.int .i64 0,.bool false,.slice A n c,.int .i64 E]] w fun e w'=>e=.returned (.int .i64 (1))∧Below w.heap.size w w':=by
 have h0:((n:Int) == 0)=false:=by simp;omega
 obtain⟨LB0,LG0_0⟩:=bx1 w #[.int .i64 0,.bool false,.slice A n c,.int .i64 E] 97;have q0:=LG0_0.out.cell 0;have q1:=LG0_0.out.cell 1;have q2:=LG0_0.out.cell 2;have F:=Hd LB0.out
 go_enter Tryz.func158,Tryz.ntmps158
 go_wp2
 go_ret
 exact⟨rfl,F.out⟩
theorem sign_any(s:Int)(g:Bool)(A:Option Addr)(n c:Nat)(E:Int)(w:World):Calls Tryz.prog 158 #[.agg #[.int .i64 s,.bool g,.slice A n c,.int .i64 E]] w fun e w'=>e=.returned (.int .i64 (esg s g n))∧Below w.heap.size w w':=by
 unfold esg
 by_cases hs:s=0
 ·subst hs;rw [if_neg (by omega)]
  rcases Nat.eq_zero_or_pos n with hn | hn
  ·subst hn;rw [if_pos rfl];exact sign_nil g A c E w
  ·rw [if_neg (by omega)]
   cases g
   ·exact sign_pos n A c E w hn
   ·exact sign_neg n A c E w hn
 ·rw [if_pos hs];exact sign_inf s g n A c E w hs
theorem at_any(b:Nat)(w:World):Calls Tryz.prog 88 #[.float .f64 b] w fun e w'=>e=.returned (.agg #[.float .f64 b,.float .f64 b])∧Below w.heap.size w w':=by
 obtain⟨LB0,LR⟩:=bx1 w #[.float .f64 0,.float .f64 0] 78;have LR0:=Hd (HasBlk.of (n:=2) LR.out rfl rfl);clear LR
 go_enter Tryz.func88,Tryz.ntmps88
 obtain⟨ha0,hf0,ha1,hf1⟩:=LR0.out.sf2;obtain⟨hk0,hk1⟩:=LR0.out.sc2 (.float .f64 b) (.float .f64 b);have F:=Hd (below_sets (w0:=w) (r:=w.heap.size) (by omega) [.float .f64 b,.float .f64 b] 0 _ LB0.out)
 simp [sets] at hk0 hk1
 go_wp2;refine bodyPost_ret (v:=.agg #[.float .f64 b,.float .f64 b]) (by simp [results,Tryz.results88,go_sem,hk0,hk1]) rfl ?_
 exact⟨rfl,below_alloc _ _⟩
theorem over_nought(A:Option Addr)(c:Nat)(E:Int)(y:Nat)(w:World)(s:Int)(g:Bool)(n:Nat)(hs:esg s g n=0):Calls Tryz.prog 157 #[.agg #[.int .i64 s,.bool g,.slice A n c,.int .i64 E],.float .f64 y] w fun e w'=>e=.returned (.agg #[.float .f64 0,.float .f64 0])∧Below w.heap.size w w':=by
 have HS:=Hd fun W=>sign_any s g A n c E W;rw [hs] at HS;have HA:=Hd fun W=>at_any 0 W;obtain⟨LB0,LG0_0,LR⟩:=bx2 w #[.int .i64 s,.bool g,.slice A n c,.int .i64 E] 97 #[.float .f64 0,.float .f64 0] 78;have LR0:=Hd (HasBlk.of (n:=2) LR.out rfl rfl);clear LR
 go_enter Tryz.func157,Tryz.ntmps157
 obtain⟨q0_0,q0_1,q0_2,q0_3⟩:=LG0_0.out.c4;go_wp2_with fail;refine (HS.out _).mono ?_;rintro e w1 ⟨rfl,hb1⟩;have LB1:=stB LB0 hb1 LB0.out.size;have LR1:=stR LR0 hb1;have LG0_1:=stG LG0_0 hb1;clear LB0 LR0 LG0_0;clear hb1 HS q0_0 q0_1 q0_2 q0_3;have q0_0:=LG0_1.out.ce 0 rfl;go_wp2_with fail;refine (HA.out _).mono ?_;rintro e w2 ⟨rfl,hb2⟩;have LB2:=stB LB1 hb2 LB1.out.size;have LR2:=stR LR1 hb2;have LG0_2:=stG LG0_1 hb2;clear LB1 LR1 LG0_1;clear hb2 HA q0_0;obtain⟨ha0,hf0,ha1,hf1⟩:=LR2.out.sf2;obtain⟨hk0,hk1⟩:=LR2.out.sc2 (.float .f64 0) (.float .f64 0);have F:=Hd (below_sets (w0:=w) (r:=(w.heap.size+1)) (by omega) [.float .f64 0,.float .f64 0] 0 _ LB2.out)
 simp [sets] at hk0 hk1
 go_wp2;refine bodyPost_ret (v:=.agg #[.float .f64 0,.float .f64 0]) (by simp [results,Tryz.results157,go_sem,hk0,hk1]) rfl ?_
 exact⟨rfl,F.out⟩
theorem over_far(A:Option Addr)(c:Nat)(E:Int)(y:Nat)(w:World)(g:Bool)(n:Nat)(hs:esg 0 g n≠0)(hI:∀ W,Calls Tryz.prog 161 #[.float .f64 y,.int .i64 1] W fun e w'=>e=.returned (.bool true)∧W=w'):Calls Tryz.prog 157 #[.agg #[.int .i64 0,.bool g,.slice A n c,.int .i64 E],.float .f64 y] w fun e w'=>e=.returned (.agg #[.float .f64 0,.float .f64 0])∧Below w.heap.size w w':=by
 have HS:=Hd fun W=>sign_any 0 g A n c E W
 obtain⟨sg,hsg⟩:∃ z,esg 0 g n=z:=⟨_,rfl⟩
 rw [hsg] at HS hs
 have hz:(sg == 0)=false:=by simpa using hs
 clear hsg hs;have HI:=Hd hI;clear hI;have HA:=Hd fun W=>at_any 0 W;obtain⟨LB0,LG0_0,LR⟩:=bx2 w #[.int .i64 0,.bool g,.slice A n c,.int .i64 E] 97 #[.float .f64 0,.float .f64 0] 78;have LR0:=Hd (HasBlk.of (n:=2) LR.out rfl rfl);clear LR
 go_enter Tryz.func157,Tryz.ntmps157
 obtain⟨q0_0,q0_1,q0_2,q0_3⟩:=LG0_0.out.c4;go_wp2_with fail;refine (HS.out _).mono ?_;rintro e w1 ⟨rfl,hb1⟩;have LB1:=stB LB0 hb1 LB0.out.size;have LR1:=stR LR0 hb1;have LG0_1:=stG LG0_0 hb1;clear LB0 LR0 LG0_0;clear hb1 HS q0_0 q0_1 q0_2 q0_3;have q0_0:=LG0_1.out.ce 0 rfl;go_wp2_with fail;refine (HI.out _).mono ?_;rintro e w' ⟨rfl,rfl⟩;clear HI;go_wp2_with fail;refine (HA.out _).mono ?_;rintro e w2 ⟨rfl,hb2⟩;have LB2:=stB LB1 hb2 LB1.out.size;have LR2:=stR LR1 hb2;have LG0_2:=stG LG0_1 hb2;clear LB1 LR1 LG0_1;clear hb2 HA q0_0;obtain⟨ha0,hf0,ha1,hf1⟩:=LR2.out.sf2;obtain⟨hk0,hk1⟩:=LR2.out.sc2 (.float .f64 0) (.float .f64 0);have F:=Hd (below_sets (w0:=w) (r:=(w.heap.size+1)) (by omega) [.float .f64 0,.float .f64 0] 0 _ LB2.out)
 simp [sets] at hk0 hk1
 go_wp2;refine bodyPost_ret (v:=.agg #[.float .f64 0,.float .f64 0]) (by simp [results,Tryz.results157,go_sem,hk0,hk1]) rfl ?_
 exact⟨rfl,F.out⟩
theorem over_inf_pos(g:Bool)(n:Nat)(A:Option Addr)(c:Nat)(E:Int)(y:Nat)(b:Bool)(w:World)(hI:∀ W,Calls Tryz.prog 161 #[.float .f64 y,.int .i64 1] W fun e w'=>e=.returned (.bool b)∧W=w'):Calls Tryz.prog 157 #[.agg #[.int .i64 1,.bool g,.slice A n c,.int .i64 E],.float .f64 y] w fun e w'=>e=.returned (.agg #[.float .f64 9218868437227405312,.float .f64 9218868437227405312])∧Below w.heap.size w w':=by
 have HS:=Hd fun W=>sign_inf 1 g n A c E W (by omega);have HI:=Hd hI;clear hI;have HA:=Hd fun W=>at_any 9218868437227405312 W;have HN:=Hd fun W=>inf_pos W
 cases b
 all_goals
  have LB0:=Hd (show Below w.heap.size w ((w.alloc (.cells #[.int .i64 1,.bool g,.slice A n c,.int .i64 E] 97)).alloc (.cells #[.float .f64 0,.float .f64 0] 78)) from ((below_alloc w _).alloc (by simp<;>omega) _));have LG0_0:=Hd (((Blk.at (W:=w) (g:=w.heap.size) (by simp<;>omega) 97 #[.int .i64 1,.bool g,.slice A n c,.int .i64 E]).alloc (.cells #[.float .f64 0,.float .f64 0] 78)));have LR0:=Hd (HasBlk.of (n:=2) (Blk.at (W:=(w.alloc (.cells #[.int .i64 1,.bool g,.slice A n c,.int .i64 E] 97))) (g:=(w.heap.size+1)) (by simp<;>omega) 78 #[.float .f64 0,.float .f64 0]) rfl rfl)
  go_enter Tryz.func157,Tryz.ntmps157
  have q0_0:=LG0_0.out.ce 0 rfl;have q0_1:=LG0_0.out.ce 1 rfl;have q0_2:=LG0_0.out.ce 2 rfl;have q0_3:=LG0_0.out.ce 3 rfl;go_wp2_with fail;refine (HS.out _).mono ?_;rintro e w1 ⟨rfl,hb1⟩;have LB1:=stB LB0 hb1 LB0.out.size;have LR1:=stR LR0 hb1;have LG0_1:=stG LG0_0 hb1;clear LB0 LR0 LG0_0;clear hb1 HS q0_0 q0_1 q0_2 q0_3;have q0_0:=LG0_1.out.ce 0 rfl;go_wp2_with fail;refine (HI.out _).mono ?_;rintro e w' ⟨rfl,rfl⟩;clear HI;go_wp2_with fail;refine (HN.out _).mono ?_;rintro e w' ⟨rfl,rfl⟩;clear HN;go_wp2_with fail;refine (HA.out _).mono ?_;rintro e w2 ⟨rfl,hb2⟩;have LB2:=stB LB1 hb2 LB1.out.size;have LR2:=stR LR1 hb2;have LG0_2:=stG LG0_1 hb2;clear LB1 LR1 LG0_1;clear hb2 HA q0_0;obtain⟨ha0,hf0,ha1,hf1⟩:=LR2.out.sf2;obtain⟨hk0,hk1⟩:=LR2.out.sc2 (.float .f64 9218868437227405312) (.float .f64 9218868437227405312);have F:=Hd (below_sets (w0:=w) (r:=(w.heap.size+1)) (by omega) [.float .f64 9218868437227405312,.float .f64 9218868437227405312] 0 _ LB2.out)
  simp [sets] at hk0 hk1
  go_wp2;refine bodyPost_ret (v:=.agg #[.float .f64 9218868437227405312,.float .f64 9218868437227405312]) (by simp [results,Tryz.results157,go_sem,hk0,hk1]) rfl ?_
  exact⟨rfl,F.out⟩
theorem over_inf_neg(g:Bool)(n:Nat)(A:Option Addr)(c:Nat)(E:Int)(y:Nat)(b:Bool)(w:World)(hI:∀ W,Calls Tryz.prog 161 #[.float .f64 y,.int .i64 1] W fun e w'=>e=.returned (.bool b)∧W=w'):Calls Tryz.prog 157 #[.agg #[.int .i64 (-1),.bool g,.slice A n c,.int .i64 E],.float .f64 y] w fun e w'=>e=.returned (.agg #[.float .f64 18442240474082181120,.float .f64 18442240474082181120])∧Below w.heap.size w w':=by
 have HS:=Hd fun W=>sign_inf (-1) g n A c E W (by omega);have HI:=Hd hI;clear hI;have HA:=Hd fun W=>at_any 18442240474082181120 W;have HN:=Hd fun W=>inf_neg W
 cases b
 all_goals
  have LB0:=Hd (show Below w.heap.size w ((w.alloc (.cells #[.int .i64 (-1),.bool g,.slice A n c,.int .i64 E] 97)).alloc (.cells #[.float .f64 0,.float .f64 0] 78)) from ((below_alloc w _).alloc (by simp<;>omega) _));have LG0_0:=Hd (((Blk.at (W:=w) (g:=w.heap.size) (by simp<;>omega) 97 #[.int .i64 (-1),.bool g,.slice A n c,.int .i64 E]).alloc (.cells #[.float .f64 0,.float .f64 0] 78)));have LR0:=Hd (HasBlk.of (n:=2) (Blk.at (W:=(w.alloc (.cells #[.int .i64 (-1),.bool g,.slice A n c,.int .i64 E] 97))) (g:=(w.heap.size+1)) (by simp<;>omega) 78 #[.float .f64 0,.float .f64 0]) rfl rfl)
  go_enter Tryz.func157,Tryz.ntmps157
  have q0_0:=LG0_0.out.ce 0 rfl;have q0_1:=LG0_0.out.ce 1 rfl;have q0_2:=LG0_0.out.ce 2 rfl;have q0_3:=LG0_0.out.ce 3 rfl;go_wp2_with fail;refine (HS.out _).mono ?_;rintro e w1 ⟨rfl,hb1⟩;have LB1:=stB LB0 hb1 LB0.out.size;have LR1:=stR LR0 hb1;have LG0_1:=stG LG0_0 hb1;clear LB0 LR0 LG0_0;clear hb1 HS q0_0 q0_1 q0_2 q0_3;have q0_0:=LG0_1.out.ce 0 rfl;go_wp2_with fail;refine (HI.out _).mono ?_;rintro e w' ⟨rfl,rfl⟩;clear HI;go_wp2_with fail;refine (HN.out _).mono ?_;rintro e w' ⟨rfl,rfl⟩;clear HN;go_wp2_with fail;refine (HA.out _).mono ?_;rintro e w2 ⟨rfl,hb2⟩;have LB2:=stB LB1 hb2 LB1.out.size;have LR2:=stR LR1 hb2;have LG0_2:=stG LG0_1 hb2;clear LB1 LR1 LG0_1;clear hb2 HA q0_0;obtain⟨ha0,hf0,ha1,hf1⟩:=LR2.out.sf2;obtain⟨hk0,hk1⟩:=LR2.out.sc2 (.float .f64 18442240474082181120) (.float .f64 18442240474082181120);have F:=Hd (below_sets (w0:=w) (r:=(w.heap.size+1)) (by omega) [.float .f64 18442240474082181120,.float .f64 18442240474082181120] 0 _ LB2.out)
  simp [sets] at hk0 hk1
  go_wp2;refine bodyPost_ret (v:=.agg #[.float .f64 18442240474082181120,.float .f64 18442240474082181120]) (by simp [results,Tryz.results157,go_sem,hk0,hk1]) rfl ?_
  exact⟨rfl,F.out⟩
theorem over_fin(g:Bool)(n:Nat)(A:Option Addr)(c S:Nat)(E:Int)(y SY:Nat)(ey:Int)(V1 V2:Nat)(w:World)(hs:esg 0 g n≠0)(hI:∀ W,Calls Tryz.prog 161 #[.float .f64 y,.int .i64 1] W fun e w'=>e=.returned (.bool false)∧W=w')(h1:U32s w A n c (digs S))
  (hS:∀ w,Calls Tryz.prog 168 #[.float .f64 y] w (SplitTo w false SY ey))(hSY:SY<18446744073709551616)(hE:-1074≤E∧E≤971)(hey:-1074≤ey∧ey≤971)
  (hR:∀ B m d W,U32s W A n c (digs S)→U32s W B m d (digs SY)→(Calls Tryz.prog 211 #[.int .i64 (-1),.bool g,.slice A n c,.slice B m d,.int .i64 (E - ey)] W fun e w'=>e=.returned (.float .f64 V1)∧Below W.heap.size W w')∧(Calls Tryz.prog 211 #[.int .i64 1,.bool g,.slice A n c,.slice B m d,.int .i64 (E - ey)] W fun e w'=>e=.returned (.float .f64 V2)∧Below W.heap.size W w')):
  Calls Tryz.prog 157 #[.agg #[.int .i64 0,.bool g,.slice A n c,.int .i64 E],.float .f64 y] w fun e w'=>e=.returned (.agg #[.float .f64 V1,.float .f64 V2])∧Below w.heap.size w w':=by
 have HS:=Hd fun W=>sign_any 0 g A n c E W
 obtain⟨sg,hsg⟩:∃ z,esg 0 g n=z:=⟨_,rfl⟩
 rw [hsg] at HS hs
 have hz:(sg == 0)=false:=by simpa using hs
 have e0:=hE.1;have e1:=hE.2;have e2:=hey.1;have e3:=hey.2
 have hw:IntKind.i64.wrap (E - ey)=E - ey:=by rw [IntKind.wrap_i64];omega
 have HI:=Hd hI;have HP:=Hd hS;have HM:=Hd fun W=>nsmall_any SY W hSY;have HR:=Hd hR;have U0:=Hd h1;clear hsg hs hI hS hSY hR hE hey h1;obtain⟨LB0,LG0_0,LR⟩:=bx2 w #[.int .i64 0,.bool g,.slice A n c,.int .i64 E] 97 #[.float .f64 0,.float .f64 0] 78;have LR0:=Hd (HasBlk.of (n:=2) LR.out rfl rfl);clear LR;have U1:=Hd (U0.out.below LB0.out);clear U0
 go_enter Tryz.func157,Tryz.ntmps157
 obtain⟨q0_0,q0_1,q0_2,q0_3⟩:=LG0_0.out.c4;go_wp2_with fail;refine (HS.out _).mono ?_;rintro e w1 ⟨rfl,hb1⟩;have LB1:=stB LB0 hb1 LB0.out.size;have LR1:=stR LR0 hb1;have LG0_1:=stG LG0_0 hb1;clear LB0 LR0 LG0_0;have U2:=Hd (U1.out.below hb1);clear hb1 HS U1 q0_0 q0_1 q0_2 q0_3;obtain⟨q0_0,q0_1,q0_2,q0_3⟩:=LG0_1.out.c4;go_wp2_with fail;refine (HI.out _).mono ?_;rintro e w' ⟨rfl,rfl⟩;clear HI;go_wp2_with fail;refine (HP.out _).mono ?_;rintro e w2 ⟨rfl,hb2⟩;have LB2:=stB LB1 hb2 LB1.out.size;have LR2:=stR LR1 hb2;have LG0_2:=stG LG0_1 hb2;clear LB1 LR1 LG0_1;have U3:=Hd (U2.out.below hb2);clear hb2 HP U2 q0_0 q0_1 q0_2 q0_3;go_wp2_with fail;refine (HM.out _).mono ?_;rintro e w3 ⟨B,m,d,rfl,hu3,hb3⟩;have LB3:=stB LB2 hb3 LB2.out.size;have LR3:=stR LR2 hb3;have LG0_3:=stG LG0_2 hb3;clear LB2 LR2 LG0_2;have U4:=Hd (U3.out.below hb3);have V4:=Hd hu3;clear hu3 hb3 HM U3;go_wp2_with fail;refine wp_region_held_drew (S:=fun W'=>Blk W' w.heap.size 97 #[.int .i64 0,.bool g,.slice A n c,.int .i64 E]∧HasBlk W' (w.heap.size+1) 78 2∧Below w.heap.size w W') (by kernel_rfl) (by exact⟨LG0_3.out.drew,LR3.out.drew,LB3.out.drew⟩) (fun hHeld=>?_);refine tk 0 ?_;(try simp only [Act.put,lay]);refine tk 1 ?_ (hv:=by intro W2 hSw;obtain⟨q0,q1,q2,q3⟩:=hSw.1.c4;go_simp;(try with_reducible rfl));(try simp only [Act.put,lay]);refine tk 2 ?_;(try simp only [Act.put,lay]);refine tk 3 ?_ (hv:=by intro W2 hSw;obtain⟨q0,q1,q2,q3⟩:=hSw.1.c4;go_simp;(try with_reducible rfl));(try simp only [Act.put,lay])
 refine tk 4 ?_;(try simp only [Act.put,lay]);refine tk 5 ?_;(try simp only [Act.put,lay]);refine tk 6 ?_ (hv:=by intro W2 hSw;obtain⟨q0,q1,q2,q3⟩:=hSw.1.c4;go_simp;(try with_reducible rfl));(try simp only [Act.put,lay]);refine tk 7 ?_;(try simp only [Act.put,lay]);refine tk 8 ?_;(try simp only [Act.put,lay]);refine tk 10 ?_;(try simp only [Act.put,lay]);refine tk 11 ?_ (hv:=by intro W2 hSw;obtain⟨q0,q1,q2,q3⟩:=hSw.1.c4;go_simp;(try with_reducible rfl));(try simp only [Act.put,lay]);refine tk 12 ?_;(try simp only [Act.put,lay]);refine tk 13 ?_ (hv:=by intro W2 hSw;obtain⟨q0,q1,q2,q3⟩:=hSw.1.c4;go_simp;(try with_reducible rfl));(try simp only [Act.put,lay]);refine tk 14 ?_;(try simp only [Act.put,lay]);refine tk 15 ?_;(try simp only [Act.put,lay]);refine tk 16 ?_ (hv:=by intro W2 hSw;obtain⟨q0,q1,q2,q3⟩:=hSw.1.c4;go_simp;(try with_reducible rfl));(try simp only [Act.put,lay]);refine tk 17 ?_;(try simp only [Act.put,lay]);refine tk 18 ?_;(try simp only [Act.put,lay]);refine rdy 9 (fun KK hKK=>?_);go_simp;refine (HR.out _ _ _ _ U4.out.drew V4.out.drew).1.mono ?_;rintro e w4 ⟨rfl,hbA⟩;go_wp2_with fail;refine hKK.out _ _ (⟨hHeld.1.keep hbA,hHeld.2.1.keep hbA,hHeld.2.2.trans (hbA.mono hHeld.2.2.size)⟩) (fun _=>?_);clear hKK KK hHeld;rename_i hHeld;(try simp only [Act.put,lay]);refine rdy 19 (fun KK hKK=>?_);go_simp;refine (HR.out _ _ _ _ (U4.out.drew.below hbA) (V4.out.drew.below hbA)).2.mono ?_;rintro e w5 ⟨rfl,hbB⟩;go_wp2_with fail;refine hKK.out _ _ (⟨hHeld.1.keep hbB,hHeld.2.1.keep hbB,hHeld.2.2.trans (hbB.mono hHeld.2.2.size)⟩) (fun _=>?_)
 clear hKK KK hHeld;rename_i hHeld;(try simp only [Act.put,lay]);refine tk 20 ?_;(try simp only [Act.put,lay]);refine rdy 21 (fun KK hKK=>?_);have ha0:=hHeld.2.1.someCell 0 (by decide);have hf0:=hHeld.2.1.frozen 0;have ha1:=hHeld.2.1.someCell 1 (by decide);have hf1:=hHeld.2.1.frozen 1;have HK:=Hd (hHeld.2.1.setCell [.float .f64 V1,.float .f64 V2] rfl);have F:=Hd (below_sets (w0:=w) (r:=(w.heap.size+1)) (by omega) [.float .f64 V1,.float .f64 V2] 0 _ hHeld.2.2);go_simp;refine hKK.out _ _ (⟨hHeld.1.other (by omega) 0 [.float .f64 V1,.float .f64 V2],hHeld.2.1.sets [.float .f64 V1,.float .f64 V2] rfl rfl,below_sets (by omega) [.float .f64 V1,.float .f64 V2] 0 _ hHeld.2.2⟩) (fun _=>?_);clear hKK KK hHeld;rename_i hHeld;(try simp only [Act.put,lay]);refine wpAnyH_done (by kernel_rfl) ?_ _;have hk0:=HK.out 0 (by decide);have hk1:=HK.out 1 (by decide)
 simp [sets] at hk0 hk1
 clear hHeld HK hbA hbB;clear LB3 LR3 LG0_3;go_wp2;refine bodyPost_ret (v:=.agg #[.float .f64 V1,.float .f64 V2]) (by simp [results,Tryz.results157,go_sem,hk0,hk1]) rfl ?_
 exact⟨rfl,F.out⟩
def ExI(w:World)(s:Int)(g:Bool)(A:Option Addr)(n c:Nat)(E:Int)(x:Rat):Prop:=
 (s=0∨s=1∨s=-1)∧(s=0→∃ S,U32s w A n c (digs S)∧blen S≤5000∧-1074≤E∧E≤971∧x=rv g S 1*2^E)
theorem ExI.below{w w':World}{s:Int}{g:Bool}{A:Option Addr}{n c:Nat}{E:Int}{x:Rat}(h:ExI w s g A n c E x)(hb:Below w.heap.size w w'):ExI w' s g A n c E x:=
 ⟨h.1,fun h0=>by obtain⟨S,h1,h2⟩:=h.2 h0;exact⟨S,h1.below hb,h2⟩⟩
theorem ExI.keep{w w':World}{s:Int}{g:Bool}{A:Option Addr}{n c:Nat}{E:Int}{x:Rat}(h:ExI w s g A n c E x)(hs:∀ xs,U32s w A n c xs→U32s w' A n c xs):ExI w' s g A n c E x:=
 ⟨h.1,fun h0=>by obtain⟨S,h1,h2⟩:=h.2 h0;exact⟨S,hs _ h1,h2⟩⟩
def esx(s:Int)(x:Rat):Int:=if s≠0 then s else rsg x
theorem rv_pow_pos{S:Nat}{E:Int}(hS:0<S):0<rv false S 1*2^E:=by
 have h1:0<rv false S 1:=by
  have h1:=mt (rv_le_false (p:=S) (p':=0) (q:=1) (by omega) (q':=1) (by omega)).1 (by omega);rw [rv_zero] at h1
  grind
 exact Rat.mul_pos h1 (zpow_pos E)
theorem ExI.sg{w:World}{s:Int}{g:Bool}{A:Option Addr}{n c:Nat}{E:Int}{x:Rat}(h:ExI w s g A n c E x):esg s g n=esx s x:=by
 unfold esg esx
 by_cases hs:s=0
 ·subst hs
  simp only [ne_eq,not_true_eq_false,if_false]
  obtain⟨S,hu,-,-,-,rfl⟩:=h.2 rfl
  rcases Nat.eq_zero_or_pos S with h0 | h0
  ·subst h0;have:=hu.len;rw [digs_zero] at this;rw [if_pos (show n=0 from this.symm),rv_zero];simp [rsg]
  ·have hn:=digs_len_pos h0 hu.len;have hp:=rv_pow_pos (E:=E) h0;rw [if_neg (by omega)];unfold rsg
   cases g
   ·have a1:¬ rv false S 1*2^E=0:=by grind
    have a2:¬ rv false S 1*2^E<0:=by grind
    rw [if_neg a1,if_neg a2];rfl
   ·rw [rv_true,Rat.neg_mul]
    have a1:¬ -(rv false S 1*2^E)=0:=by grind
    have a2:-(rv false S 1*2^E)<0:=by grind
    rw [if_neg a1,if_pos a2];rfl
 ·rw [if_pos hs,if_pos hs]
def ov(s:Int)(x:Rat)(j:Int):Int × Int:=if s≠0 then (s*M,s*M) else if x=0∨j=M then (0,0) else (rndI (-1) (x / fl j),rndI 1 (x / fl j))
theorem div_dyad(g:Bool)(S SY:Nat)(E ey:Int)(h:0<SY):rv g S SY*2^(E - ey)=rv g S 1*2^E / (rv false SY 1*2^ey):=by
 have h1:=zpow_ne ey;have h2:(SY:Rat)≠0:=cast_ne h
 have e1:rv false SY 1=(SY:Rat):=by unfold rv;simp [Rat.div_def];grind
 have e2:(2:Rat)^E=2^(E - ey)*2^ey:=by rw [← zpow_add];congr 1;omega
 rw [rv_over g S SY,e1]
 have h3:(SY:Rat)*2^ey≠0:=by
  intro h4
  rcases Rat.mul_eq_zero.1 h4 with h5 | h5
  ·exact h2 h5
  ·exact h1 h5
 refine eq_div h3 ?_;rw [e2];have h4:(SY:Rat)⁻¹*SY=1:=Rat.inv_mul_cancel _ h2
 have h5:rv g S 1*(SY:Rat)⁻¹*2 ^ (E - ey)*(↑SY*2 ^ ey)=rv g S 1*(2^(E - ey)*2^ey)*((SY:Rat)⁻¹*SY):=by grind
 rw [h5,h4];grind
theorem over_any(s:Int)(g:Bool)(A:Option Addr)(n c:Nat)(E:Int)(x:Rat)(j:Int)(w:World)(h:ExI w s g A n c E x)(hj:0<j)(hj2:j≤M):
  Calls Tryz.prog 157 #[.agg #[.int .i64 s,.bool g,.slice A n c,.int .i64 E],.float .f64 (pat j)] w fun e w'=>e=.returned (.agg #[.float .f64 (pat (ov s x j).1),.float .f64 (pat (ov s x j).2)])∧Below w.heap.size w w':=by
 have hM:(M:Int)=9218868437227405312:=rfl;have hpj:idx (pat j)=j:=idx_pat (by omega) hj2
 have hrj:rungOf (pat j)≤M:=by rw [rung_pat (by omega) hj2];omega
 have HI:=fun W=>isinf1 (pat j) W hrj;rw [hpj] at HI;have hsg:=h.sg;unfold ov
 rcases h.1 with rfl | rfl | rfl
 ·rw [if_neg (by omega)]
  by_cases hx:x=0
  ·rw [if_pos (.inl hx)];refine over_nought A c E (pat j) w 0 g n ?_;rw [hsg,hx];simp [esx,rsg]
  ·have hne:esg 0 g n≠0:=by
    rw [hsg];unfold esx rsg;rw [if_neg (by omega),if_neg hx]
    split<;>omega
   by_cases hjm:j=M
   ·rw [if_pos (.inr hjm)];rw [decide_eq_true hjm] at HI
    exact over_far A c E (pat j) w g n hne HI
   ·rw [if_neg (by intro h;rcases h with h | h;exact hx h;exact hjm h)];rw [decide_eq_false hjm] at HI;obtain⟨S,hu,hbS,hE1,hE2,rfl⟩:=h.2 rfl
    have hfin:fin (pat j):=by show rungOf (pat j)<M;rw [rung_pat (by omega) hj2];omega
    obtain⟨SY,ey,k1,k2,k3,k4,k5⟩:=split_any (pat j) (pat_lt (by omega) hj2) hfin;rw [hpj,decide_eq_false (by omega)] at k4 k5
    have hSY:0<SY:=by
     rcases Nat.eq_zero_or_pos SY with h0 | h0
     ·rw [h0,rv_zero,Rat.zero_mul] at k4;have:=fl_lt_iff.2 hj;rw [fl_zero,k4] at this;grind
     ·exact h0
    have hbY:blen SY≤53:=blen_le_iff.2 (by omega);have hdv:=div_dyad g S SY E ey hSY;rw [← k4] at hdv;rw [← hdv]
    exact over_fin g n A c S E (pat j) SY ey _ _ w hne HI hu k5 (by omega) ⟨hE1,hE2⟩ ⟨k2,k3⟩ (fun B m d W u1 u2=>⟨ratio_any (-1) g A B n c m d S SY (E - ey) W u1 u2 hSY (by omega) (by omega) (.inl rfl) (by omega) (by omega),ratio_any 1 g A B n c m d S SY (E - ey) W u1 u2 hSY (by omega) (by omega) (.inr rfl) (by omega) (by omega)⟩)
 ·rw [if_pos (by omega)];have h:=over_inf_pos g n A c E (pat j) _ w HI
  exact h
 ·rw [if_pos (by omega)];have h:=over_inf_neg g n A c E (pat j) _ w HI
  exact h
end Go.Proofs.YthlmlmfebpjgdaaGreatDoor
namespace Go.Proofs.YthlmlmfebpjgdaaGreatDoor
open Go.RowKit
theorem pow_mm{K:Nat}(a b:Nat)(ha:a<2^(32*K))(hb:b<2^(32*K)):a*b<2^(32*(2*K)):=by
 have h:2^(32*(2*K))=2^(32*K)*2^(32*K):=by rw [← Nat.pow_add];congr 1;omega
 rw [h]
 exact Nat.mul_lt_mul'' ha hb
theorem rv_mul(g1 g2:Bool)(p1 q1 p2 q2:Nat):rv g1 p1 q1*rv g2 p2 q2=rv (g1 != g2) (p1*p2) (q1*q2):=by
 unfold rv
 cases g1<;>cases g2<;>simp [Rat.div_def,Rat.natCast_mul,Rat.inv_mul_rev]<;>grind
theorem rv_ne(g:Bool){p q:Nat}(hp:0<p)(hq:0<q):rv g p q≠0:=by
 have h1:=mt (rv_le_false (p:=p) (p':=0) hq (q':=1) (by omega)).1 (by omega);rw [rv_zero] at h1
 cases g
 ·grind
 ·rw [rv_true];grind
theorem rv_quo(g1 g2:Bool)(p1 q1 p2 q2:Nat)(h1:0<q1)(h2:0<q2)(h3:0<p2):rv g1 p1 q1 / rv g2 p2 q2=rv (g1 != g2) (p1*q2) (q1*p2):=by
 refine div_eq (rv_ne g2 h3 h2) ?_;rw [rv_mul,show ((g1 != g2) != g2)=g1 from by cases g1<;>cases g2<;>rfl]
 exact rv_eq h1 (Nat.mul_pos (Nat.mul_pos h1 h3) h2) (by ac_rfl)
theorem NewBd.up{w w':World}{K K':Nat}{s:Int}{x:Rat}{N:Int}{o:Bool}{e:Ending}(h:NewBd w K s x N o e w')(hk:K≤K'):NewBd w K' s x N o e w':=by
 obtain⟨g,A,n,c,B,m,d,rfl,hr,hb⟩:=h
 exact⟨g,A,n,c,B,m,d,rfl,hr.mono hk,hb⟩
def rt(s1:Int)(x1:Rat)(s2:Int)(x2:Rat):Int × Rat × Bool:=
 if esx s1 x1=0 then (0,0,false) else if s2≠0 then (0,0,true) else if s1≠0∨x2=0 then (esx s1 x1,0,true) else (0,x1 / x2,false)
end Go.Proofs.YthlmlmfebpjgdaaGreatDoor
