/-
Lemmas for the statement: PowT PwnT PlcT RchT InvT DivP DivQ.
-/
import Derived.Test.YthlmlmfebpjgdaaGreatDoorM15
import Derived.Deep.DeepCutAuto
import Derived.Test.YthlmlmfebpjgdaaGreatDoorM14
import Derived.Test.YthlmlmfebpjgdaaGreatDoorM10
import Derived.Test.YthlmlmfebpjgdaaGreatDoorM05
import Derived.Test.YthlmlmfebpjgdaaGreatDoorM04
import Derived.Test.YthlmlmfebpjgdaaGreatDoorM03
import Derived.Test.YthlmlmfebpjgdaaGreatDoorM06
import Derived.Test.YthlmlmfebpjgdaaGreatDoorM13
import Derived.Test.YthlmlmfebpjgdaaGreatDoorM09
set_option linter.unusedSimpArgs false
set_option linter.unusedVariables false
set_option maxHeartbeats 12800000
set_option maxRecDepth 8000
namespace Go.Proofs.YthlmlmfebpjgdaaGreatDoor
open Go.Proofs.Tryz
open Go.RowKit
theorem zpow_neg'(x:Int):(2:Rat) ^ (-x)=1 / (2:Rat) ^ x:=by
 have h:(2:Rat) ^ x*2 ^ (-x)=1:=by rw [<- zpow_add,show x+-x=0 from by omega];rfl
 have hp:=zpow_pos x;have h2:(1 / (2:Rat) ^ x)*2 ^ x=1:=Rat.div_mul_cancel (by grind)
 have h3:((2:Rat) ^ (-x) - 1 / (2:Rat) ^ x)*2 ^ x=0:=by grind
 rcases Rat.mul_eq_zero.1 h3 with k | k
 ·grind
 ·grind
theorem recip_pow{S s z m:Nat}{e:Int}(hs:S=s*2 ^ z)(hs0:0<s):rv false 1 (s ^ m)*2 ^ (-(e+(z:Int))*(m:Int))=1 / ((S:Rat)*2 ^ e) ^ m:=by
 have e1:(S:Rat)*2 ^ e=(s:Rat)*2 ^ (e+(z:Int)):=by
  rw [hs,Rat.natCast_mul,Int.add_comm,zpow_add,zpow_nat];grind
 have e2:rv false 1 (s ^ m)=1 / (s:Rat) ^ m:=by
  unfold rv
  simp only [Bool.false_eq_true,if_false]
  rw [Rat.natCast_pow];rfl
 rw [e1,rmul_pow,zpow_pow,e2,Int.neg_mul,zpow_neg',Int.mul_comm (e+(z:Int))]
 have a:((s:Rat) ^ m)≠0:=by
  have:(0:Rat)<(s:Rat) ^ m:=Rat.pow_pos (by exact_mod_cast hs0)
  grind
 have b:(2:Rat) ^ ((m:Int)*(e+(z:Int)))≠0:=by have:=zpow_pos ((m:Int)*(e+(z:Int)));grind
 generalize (s:Rat) ^ m=x at *;generalize (2:Rat) ^ ((m:Int)*(e+(z:Int)))=y at *
 grind
theorem rpower_walk(d:Int)(S m r:Nat)(e:Int)(A:Option Addr)(k c:Nat)(w:World)(hd:d=-1\/d=1)(hu:U32s w A k c (digs S))(hS:0<S)(hS2:S<9007199254740992)(he:-1074<=e/\e<=971)(hm:1<=m)(hm2:m<=1024)(hT:Tab w)
  (hr:pat (rndI d (1 / ((S:Rat)*2 ^ e) ^ m))=r):
  Rt 269 #[.int .i64 d,.agg #[.bool false,.slice A k c,.int .i64 e],.int .i64 (-(m:Int))] (.float .f64 r) w:=by
 have HU:=Hd hu;have HTB:=Hd hT;have HZ:=Hd fun W (h:U32s W A k c (digs S)) (t:Tab W)=>nzeros_any A k c S W h hS (by omega) t
 have HSR:=Hd fun z W (h:U32s W A k c (digs S)) (hz:z<=1073741824)=>by
  have g:=nshr_any A k c z _ W h (wlen_digs_le (K:=16384) (by have:blen S<=53:=blen_le_iff.2 (show S<2^53 from hS2);omega)) hz;rw [num_digs] at g
  exact g
 have HRA:=Hd fun z s (hs:S=s*2 ^ z) (hz:z<64) W A1 k1 c1 A2 k2 c2 (h1:U32s W A1 k1 c1 (digs 1)) (h2:U32s W A2 k2 c2 (digs (s ^ m)))=>by
  have hs0:0<s:=by
   rcases Nat.eq_zero_or_pos s with h | h
   ·rw [h,Nat.zero_mul] at hs;omega
   ·exact h
  have hsl:s<=S:=by rw [hs];exact Nat.le_mul_of_pos_right _ (Nat.two_pow_pos z)
  have hb:blen (s ^ m)<=54272:=by
   obtain⟨B,hB⟩:∃ B:Nat,B=54272:=⟨_,rfl⟩
   rw [<- hB];refine blen_le_iff.2 ?_
   have h53:s<2^53:=by rw [show (2:Nat)^53=9007199254740992 by decide];omega
   refine Nat.lt_of_lt_of_le (Nat.pow_lt_pow_left h53 (by omega)) ?_;rw [<- Nat.pow_mul]
   exact Nat.pow_le_pow_right (by omega) (by omega)
  have hq:-1099511627776<=-(e+(z:Int))*(m:Int)/\-(e+(z:Int))*(m:Int)<=1099511627776:=by
   have a:-2000*(m:Int)<=-(e+(z:Int))*(m:Int):=Int.mul_le_mul_of_nonneg_right (by omega) (by omega);have b:-(e+(z:Int))*(m:Int)<=2000*(m:Int):=Int.mul_le_mul_of_nonneg_right (by omega) (by omega)
   omega
  have g:=ratio_any d false A1 A2 k1 c1 k2 c2 1 (s ^ m) (-(e+(z:Int))*(m:Int)) W h1 h2 (Nat.pow_pos hs0) (by have:blen 1<=2:=blen_le_iff.2 (by decide);omega) (by omega) hd hq.1 hq.2;unfold RtOf at g;rw [recip_pow hs hs0,hr] at g
  exact g
 have HP:=Hd fun z s (hs:S=s*2 ^ z) W A1 k1 c1 (h1:U32s W A1 k1 c1 (digs s))=>by
  have hsl:s<=S:=by rw [hs];exact Nat.le_mul_of_pos_right _ (Nat.two_pow_pos z)
  have hb:blen s<=53:=blen_le_iff.2 (by rw [show (2:Nat)^53=9007199254740992 by decide];omega)
  exact pow_d (w:=W) m h1 (by omega) (by omega) (by
   have:=Nat.mul_le_mul hb hm2
   omega)
 have hmn:-(m:Int)<0:=by omega
 clear hu hT hr hd hS hS2;have LL:=li1 w #[.bool false,.slice A k c,.int .i64 e] 168;have HU0:=Hd (HU.out.below LL.out.b);have HT0:=Hd (HTB.out.below LL.out.b);clear HU HTB
 go_enter func269,ntmps269
 obtain⟨q1_0,q1_1,q1_2⟩:=(LL.out.blk 0 rfl).c3;go_wp2_with fail;refine (HZ.out _ HU0.out HT0.out).mono ?_;rintro e1 w1 ⟨⟨z,rfl,hz,hdv⟩,rfl⟩
 obtain⟨s,hs⟩:∃ s,S=s*2 ^ z:=by obtain⟨q,hq⟩:=hdv;exact⟨q,by rw [hq,Nat.mul_comm]⟩
 have hsd:S / 2 ^ z=s:=by rw [hs,Nat.mul_div_cancel _ (Nat.two_pow_pos z)]
 have HSS:=Hd hs;have HSD:=Hd hsd;clear HZ hdv hs hsd q1_0 q1_1 q1_2
 obtain⟨wa,hwa⟩:∃ X,(w.alloc (.cells #[.bool false,.slice A k c,.int .i64 e] 168))=X:=⟨_,rfl⟩
 rw [hwa] at HU0 HT0 LL ⊢;clear hwa;obtain⟨q2_0,q2_1,q2_2⟩:=(LL.out.blk 0 rfl).c3;have HS1:=Hd (HSR.out z _ HU0.out (by omega));rw [HSD.out] at HS1;go_wp2_with fail;refine HS1.out.mono ?_;rintro e1 w2 ⟨A2,n2,c2,rfl,hu2,hb2⟩;have HU2:=Hd hu2;replace LL:=stL LL hb2;replace HT0:=Hd (HT0.out.below hb2);clear hu2 hb2 HS1 HSR HU0 HSD q2_0 q2_1 q2_2;obtain⟨q3_0,q3_1,q3_2⟩:=(LL.out.blk 0 rfl).c3
 have f1:IntKind.i64.wrap (e+(z:Int))=e+(z:Int):=by rw [IntKind.wrap_i64];omega
 have HP2:=Hd (HP.out z s HSS.out _ A2 n2 c2 HU2.out);go_wp2_with fail;refine HP2.out.mono ?_;rintro e1 w3 ⟨A3,n3,c3,rfl,hu3,hb3⟩;have HU3:=Hd hu3;replace LL:=stL LL hb3;clear hu3 hb3 HP2 HP HU2 HT0 q3_0 q3_1 q3_2;obtain⟨q4_0,q4_1,q4_2⟩:=(LL.out.blk 0 rfl).c3;have HR:=Hd (HRA.out z s HSS.out hz);clear HRA HSS
 obtain⟨E,hE⟩:∃ E,e+(z:Int)=E:=⟨_,rfl⟩
 have hEb:-1074<=E/\E<=1034:=by omega
 obtain⟨Q,hQ⟩:∃ Q,-E*(m:Int)=Q:=⟨_,rfl⟩
 have hQ2:IntKind.i64.wrap (-E*(m:Int))=Q:=by
  have a:-2000*(m:Int)<=-E*(m:Int):=Int.mul_le_mul_of_nonneg_right (by omega) (by omega);have b:-E*(m:Int)<=2000*(m:Int):=Int.mul_le_mul_of_nonneg_right (by omega) (by omega);rw [IntKind.wrap_i64,<- hQ];omega
 have hQ3:wrap64 (-E*(m:Int))=Q:=by
  have a:-2000*(m:Int)<=-E*(m:Int):=Int.mul_le_mul_of_nonneg_right (by omega) (by omega);have b:-E*(m:Int)<=2000*(m:Int):=Int.mul_le_mul_of_nonneg_right (by omega) (by omega);unfold wrap64;omega
 rw [hE] at HR f1 ⊢;rw [hQ] at HR;have hQ4:=hQ;clear hE
 have hQ5:wrap64 Q=Q:=by
  have a:-2000*(m:Int)<=-E*(m:Int):=Int.mul_le_mul_of_nonneg_right (by omega) (by omega);have b:-E*(m:Int)<=2000*(m:Int):=Int.mul_le_mul_of_nonneg_right (by omega) (by omega);unfold wrap64;omega
 have HD1:=Hd (show U32s (w3.alloc (.cells #[.int .u32 1] 117)) (some ⟨w3.heap.size,0,none⟩) 1 1 (digs 1) from by rw [digs_one];exact U32s.lit1 w3 117 (a:=1) (by omega));have HQ:=Hd (HR.out (w3.alloc (.cells #[.int .u32 1] 117)) _ 1 1 A3 n3 c3 HD1.out (HU3.out.alloc _));clear HR HD1;go_wp2_with fail;rw [hQ5];refine HQ.out.mono ?_;rintro e1 w4 ⟨rfl,hb4⟩;have LB:=Hd (LL.out.b.trans ((below_alloc w3 (.cells #[.int .u32 1] 117)).trans (hb4.mono (by simp)) |>.mono LL.out.b.size));clear hb4 HQ LL HU3 hQ hQ2 hQ3 hQ4 hQ5 f1;go_wp2
 go_ret
 exact⟨rfl,LB.out⟩
theorem isinfm(b:Nat)(w:World)(hb:L64 b)(hr:rungOf b<=M)(hn:-(M:Int)<idx b):Calls prog 161 #[.float .f64 b,.int .i64 (-1)] w fun e w'=>e=.returned (.bool false)/\w=w':=by
 have hM:M=9218868437227405312:=rfl;have nv:=negFloat_val hb
 have nr:rungOf (Op.negFloat .f64 b)<=M:=by rw [nv.2.1];exact hr
 have ho:FloatKind.f64.format.order (Op.negFloat .f64 b) 9218868437227405311=some .lt\/FloatKind.f64.format.order (Op.negFloat .f64 b) 9218868437227405311=some .eq:=by
  by_cases h2:idx b=-(M - 1:Nat)
  ·exact .inr (ord_eq nr real_top (by rw [idx_top,nv.2.2];omega))
  ·exact .inl (ord_lt nr real_top (by rw [idx_top,nv.2.2];omega))
 obtain⟨nb,hnb⟩:∃ x,Op.negFloat .f64 b=x:=⟨_,rfl⟩
 have hneg:=fun W=>run_negf prog b W;rw [hnb] at ho hneg;clear nv nr hr hn hM hnb hb
 rcases ho with ho | ho
 all_goals
  go_enter func161,ntmps161
  go_wp2
  go_ret
  exact⟨rfl,rfl⟩
theorem rpow_walk(d:Int)(x m z S:Nat)(e:Int)(w:World)(hm:1<=m)(hm2:m<=1024)(hN:∀ W,Calls prog 221 #[.float .f64 x] W fun e w'=>e=.returned (.bool false)/\W=w')(hF:∀ W,Calls prog 161 #[.float .f64 x,.int .i64 0] W fun e w'=>e=.returned (.bool false)/\W=w')
  (hG:∀ W,Calls prog 161 #[.float .f64 x,.int .i64 (-1)] W fun e w'=>e=.returned (.bool false)/\W=w')
  (ho:FloatKind.f64.format.order x 0=some .gt)(hP:∀ W,Calls prog 189 #[.float .f64 x] W (NewDy W false S e))(hR:∀ A k c W,Below w.heap.size w W->U32s W A k c (digs S)->Calls prog 269 #[.int .i64 d,.agg #[.bool false,.slice A k c,.int .i64 e],.int .i64 (-(m:Int))] W fun e' w'=>e'=.returned (.float .f64 z)/\Below W.heap.size W w'):
  Rt 248 #[.int .i64 d,.float .f64 x,.int .i64 (-(m:Int))] (.float .f64 z) w:=by
 have HN:=Hd hN;have HF:=Hd hF;have HG:=Hd hG;have HP:=Hd hP;have HR:=Hd hR
 have h1:¬ -(m:Int) < -1024:=by omega
 have h2:¬ (1024:Int) < -(m:Int):=by omega
 have h3:(-(m:Int) == 0)=false:=by simp;omega
 have h4:-(m:Int)<0:=by omega
 clear hN hF hG hP hR
 go_enter func248,ntmps248
 go_wp2_with fail;refine cy (HN.out _) ?_;go_wp2_with fail;refine cy (HF.out _) ?_;go_wp2_with fail;refine cy (HG.out _) ?_;go_wp2_with fail;refine cy (HF.out _) ?_;go_wp2_with fail;refine (HP.out _).mono ?_;rintro e' w1 ⟨A,k,c,rfl,hu,hb⟩;have HRR:=Hd (HR.out A k c w1 hb hu);have HB:=Hd hb;clear hu hb HR HP;go_wp2_with fail;refine HRR.out.mono ?_;rintro e' w2 ⟨rfl,hb2⟩;have HB2:=Hd (HB.out.trans (hb2.mono HB.out.size));clear hb2 HB HRR;go_wp2
 go_ret
 exact⟨rfl,HB2.out⟩
theorem rpow_neg(d i:Int)(m:Nat)(w:World)(hd:d=-1\/d=1)(h0:0<i)(h1:i<M)(hm:1<=m)(hm2:m<=1024)(hT:Tab w):
  Rt 248 #[.int .i64 d,.float .f64 (pat i),.int .i64 (-(m:Int))] (.float .f64 (pat (rndI d (1 / fl i ^ m)))) w:=by
 have hM:=M_val
 have hi:-(M:Int)<=i/\i<=M:=by omega
 obtain⟨S,e,b1,b2,b3,hv,hpt⟩:=part_any (pat i) (pat_lt hi.1 hi.2) (by unfold fin;rw [rung_pat hi.1 hi.2];omega);rw [idx_pat hi.1 hi.2,sgn_pat2 hi (by omega),decide_eq_false (by omega)] at hv;rw [sgn_pat2 hi (by omega),decide_eq_false (by omega)] at hpt
 have hf:fl i=(S:Rat)*2 ^ e:=by rw [hv];unfold rv;simp only [Bool.false_eq_true,if_false];grind
 have hS:0<S:=by
  rcases Nat.eq_zero_or_pos S with h | h
  ·exfalso
   have hz:fl i=0:=by rw [hf,h];grind
   have:=fl_lt_iff.2 h0;rw [fl_zero] at this;grind
  ·exact h
 have HF:=fun W=>isinff (pat i) W (pat_lt hi.1 hi.2) (by rw [rung_pat hi.1 hi.2];omega);rw [rung_pat hi.1 hi.2,decide_eq_false (show ¬ i.natAbs=M by omega)] at HF;have ho:=ord0 hi;rw [Int.compare_eq_gt.2 h0] at ho
 exact rpow_walk d (pat i) m _ S e w hm hm2 (fun W=>isnanf (pat i) W (by rw [rung_pat hi.1 hi.2];omega)) HF (fun W=>isinfm (pat i) W (pat_lt hi.1 hi.2) (by rw [rung_pat hi.1 hi.2];omega) (by rw [idx_pat hi.1 hi.2];omega)) ho hpt
  (fun A k c W hb hu=>rpower_walk d S m _ e A k c W hd hu hS b1 ⟨b2,b3⟩ hm hm2 (hT.below hb) (by rw [hf]))
section
attribute [local go_sem] run_store_float run_negf
theorem pownz_lo(z:Int)(b1 b2 c1 c2 r1 r2:Nat)(w:World)(hz:z < -1024)(hR:∀ W,Rt 102 #[Zf c1 c2] (Zf r1 r2) W):
  Rt 39 #[.int .i64 z,Zf b1 b2,Zf c1 c2] (Zf r1 r2) w:=by
 have HR:=Hd hR;clear hR;have LL:=li3 w (Zv b1 b2) 28 (Zv c1 c2) 28 (Zv 0 0) 28
 go_enter func39,ntmps39
 obtain⟨q1_0,q1_1⟩:=(LL.out.blk 1 rfl).c2;go_wp2_with fail;refine cx (HR.out _) fun wk hb=>?_;replace LL:=stL LL hb;clear hb q1_0 q1_1;replace LL:=Hd (LL.out.loose2 rfl);obtain⟨ha6_0,hf6_0,ha6_1,hf6_1⟩:=(LL.out.has 0 rfl).sf2;have LF:=Hd (LL.out.wr [.float .f64 r1,.float .f64 r2]);obtain⟨hk6_0,hk6_1⟩:=(LF.out.blk 2 rfl).c2
 simp [sets] at hk6_0 hk6_1
 clear LL;go_wp2;refine bodyPost_ret (v:=Zf r1 r2) (by simp [results,results39,go_sem,hk6_0,hk6_1]) rfl ?_
 exact⟨rfl,LF.out.b⟩
theorem pownz_hi(z:Int)(b1 b2 c1 c2 r1 r2:Nat)(w:World)(hz:1024<z)(hR:∀ W,Rt 102 #[Zf c1 c2] (Zf r1 r2) W):
  Rt 39 #[.int .i64 z,Zf b1 b2,Zf c1 c2] (Zf r1 r2) w:=by
 have hz2:¬ z < -1024:=by omega
 have HR:=Hd hR;clear hR;have LL:=li3 w (Zv b1 b2) 28 (Zv c1 c2) 28 (Zv 0 0) 28
 go_enter func39,ntmps39
 obtain⟨q1_0,q1_1⟩:=(LL.out.blk 1 rfl).c2;go_wp2_with fail;refine cx (HR.out _) fun wk hb=>?_;replace LL:=stL LL hb;clear hb q1_0 q1_1;replace LL:=Hd (LL.out.loose2 rfl);obtain⟨ha6_0,hf6_0,ha6_1,hf6_1⟩:=(LL.out.has 0 rfl).sf2;have LF:=Hd (LL.out.wr [.float .f64 r1,.float .f64 r2]);obtain⟨hk6_0,hk6_1⟩:=(LF.out.blk 2 rfl).c2
 simp [sets] at hk6_0 hk6_1
 clear LL;go_wp2;refine bodyPost_ret (v:=Zf r1 r2) (by simp [results,results39,go_sem,hk6_0,hk6_1]) rfl ?_
 exact⟨rfl,LF.out.b⟩
theorem pownz_none(z:Int)(b1 b2 c1 c2 A1 A2 x1 x2:Nat)(d1 d2:Bool)(w:World)(t1:∀ W,Rt 102 #[Zf b1 b2] (Zf A1 A2) W)(m1:Em d1 A1 A2)(t2:∀ W,Rt 102 #[Zf c1 c2] (Zf x1 x2) W)(m2:Em d2 x1 x2)(h1:¬ z < -1024)(h2:¬ 1024<z)(hnn:(d1 || d2)=true):
  Rt 39 #[.int .i64 z,Zf b1 b2,Zf c1 c2] (Zf 9218868437227405312 18442240474082181120) w:=by
 have HE:=Hd emptyf;have HRD:=readL32 w (Zv 0 0) 28 t1 m1 t2 m2 hnn;clear t1 m1 t2 m2 hnn
 go_enter func39,ntmps39
 go_wp2_with fail;refine HRD.out.mono ?_;rintro e wk ⟨rfl,hl⟩;have LL:=Hd hl;clear hl HRD;go_wp2_with fail;refine cx (HE.out _) fun wk hb=>?_;replace LL:=stL LL hb;clear hb;replace LL:=Hd (LL.out.loose2 rfl);obtain⟨ha6_0,hf6_0,ha6_1,hf6_1⟩:=(LL.out.has 0 rfl).sf2;have LF:=Hd (LL.out.wr [.float .f64 9218868437227405312,.float .f64 18442240474082181120]);obtain⟨hk6_0,hk6_1⟩:=(LF.out.blk 2 rfl).c2
 simp [sets] at hk6_0 hk6_1
 clear LL;go_wp2;refine bodyPost_ret (v:=Zf 9218868437227405312 18442240474082181120) (by simp [results,results39,go_sem,hk6_0,hk6_1]) rfl ?_
 exact⟨rfl,LF.out.b⟩
theorem pownz_in(b1 b2 c1 c2 A1 A2 x1 x2:Nat)(d1 d2:Bool)(o1 o2:Ordering)(w:World)(t1:∀ W,Rt 102 #[Zf b1 b2] (Zf A1 A2) W)(m1:Em d1 A1 A2)(t2:∀ W,Rt 102 #[Zf c1 c2] (Zf x1 x2) W)(m2:Em d2 x1 x2)(hnn:(d1 || d2)=false)(ho1:FloatKind.f64.format.order A1 4607182418800017408=some o1)(ho2:FloatKind.f64.format.order A2 4607182418800017408=some o2)(k1:o1=.lt\/o1=.eq)(k2:o2=.gt\/o2=.eq):
  Rt 39 #[.int .i64 0,Zf b1 b2,Zf c1 c2] (Zf x1 x2) w:=by
 rcases k1 with rfl | rfl<;>rcases k2 with rfl | rfl
 all_goals
  have HRD:=readL32 w (Zv 0 0) 28 t1 m1 t2 m2 hnn;clear t1 m1 t2 m2 hnn
  go_enter func39,ntmps39
  go_wp2_with fail;refine HRD.out.mono ?_;rintro e wk ⟨rfl,hl⟩;have LL:=Hd hl;clear hl HRD;obtain⟨q1_0,q1_1⟩:=(LL.out.blk 0 rfl).c2;obtain⟨q2_0,q2_1⟩:=(LL.out.blk 1 rfl).c2
  go_upto_region 6 with fail
  clear ho1 ho2 q1_0 q1_1 q2_0 q2_1;obtain⟨q3_0,q3_1⟩:=(LL.out.blk 1 rfl).c2;replace LL:=Hd (LL.out.loose2 rfl);obtain⟨ha6_0,hf6_0,ha6_1,hf6_1⟩:=(LL.out.has 0 rfl).sf2;have LF:=Hd (LL.out.wr [.float .f64 x1,.float .f64 x2]);obtain⟨hk6_0,hk6_1⟩:=(LF.out.blk 2 rfl).c2
  simp [sets] at hk6_0 hk6_1
  clear LL;go_wp2;refine bodyPost_ret (v:=Zf x1 x2) (by simp [results,results39,go_sem,hk6_0,hk6_1]) rfl ?_
  exact⟨rfl,LF.out.b⟩
theorem pownz_out(b1 b2 c1 c2 A1 A2 x1 x2:Nat)(d1 d2:Bool)(o1 o2:Ordering)(w:World)(t1:∀ W,Rt 102 #[Zf b1 b2] (Zf A1 A2) W)(m1:Em d1 A1 A2)(t2:∀ W,Rt 102 #[Zf c1 c2] (Zf x1 x2) W)(m2:Em d2 x1 x2)(hnn:(d1 || d2)=false)(ho1:FloatKind.f64.format.order A1 4607182418800017408=some o1)(ho2:FloatKind.f64.format.order A2 4607182418800017408=some o2)(k:o1=.gt\/(o1=.lt/\o2=.lt)\/(o1=.eq/\o2=.lt)):
  Rt 39 #[.int .i64 0,Zf b1 b2,Zf c1 c2] (Zf 9218868437227405312 18442240474082181120) w:=by
 have HE:=Hd emptyf
 rcases k with rfl | ⟨rfl,rfl⟩ | ⟨rfl,rfl⟩
 all_goals
  have HRD:=readL32 w (Zv 0 0) 28 t1 m1 t2 m2 hnn;clear t1 m1 t2 m2 hnn
  go_enter func39,ntmps39
  go_wp2_with fail;refine HRD.out.mono ?_;rintro e wk ⟨rfl,hl⟩;have LL:=Hd hl;clear hl HRD;obtain⟨q1_0,q1_1⟩:=(LL.out.blk 0 rfl).c2;go_wp2_with fail;refine cx (HE.out _) fun wk hb=>?_;replace LL:=stL LL hb;clear hb q1_0 q1_1 ho1 ho2;replace LL:=Hd (LL.out.loose2 rfl);obtain⟨ha6_0,hf6_0,ha6_1,hf6_1⟩:=(LL.out.has 0 rfl).sf2;have LF:=Hd (LL.out.wr [.float .f64 9218868437227405312,.float .f64 18442240474082181120]);obtain⟨hk6_0,hk6_1⟩:=(LF.out.blk 2 rfl).c2
  simp [sets] at hk6_0 hk6_1
  clear LL;go_wp2;refine bodyPost_ret (v:=Zf 9218868437227405312 18442240474082181120) (by simp [results,results39,go_sem,hk6_0,hk6_1]) rfl ?_
  exact⟨rfl,LF.out.b⟩
theorem pownz_neg(n:Nat)(b1 b2 c1 c2 A1 A2 x1 x2:Nat)(d1 d2:Bool)(w:World)(t1:∀ W,Rt 102 #[Zf b1 b2] (Zf A1 A2) W)(m1:Em d1 A1 A2)(t2:∀ W,Rt 102 #[Zf c1 c2] (Zf x1 x2) W)(m2:Em d2 x1 x2)(hn:1<=n)(hn2:n<=1024)(hp:n % 2=0)(hnn:(d1 || d2)=false)(ho:FloatKind.f64.format.order A2 0=some .lt):
  Rt 39 #[.int .i64 (-(n:Int)),Zf b1 b2,Zf c1 c2] (Zf 9218868437227405312 18442240474082181120) w:=by
 have HE:=Hd emptyf
 have n1:¬ -(n:Int) < -1024:=by omega
 have n2:¬ (1024:Int) < -(n:Int):=by omega
 have n3:(-(n:Int) == 0)=false:=by simp;omega
 have n4:-(n:Int)<0:=by omega
 have n5:(-(n:Int)) % 2=0:=by omega
 have n6:(-(n:Int)).tmod 2=0:=by rw [Int.neg_tmod,Int.tmod_eq_emod_of_nonneg (by omega)];omega
 have n7:IntKind.i64.wrap (-(-(n:Int)))=(n:Int):=by rw [IntKind.wrap_i64];omega
 have n8:wrap64 (-(-(n:Int)))=(n:Int):=by unfold wrap64;omega
 have n9:-(-(n:Int))=(n:Int):=by omega
 clear hn hn2 hp;have HRD:=readL32 w (Zv 0 0) 28 t1 m1 t2 m2 hnn;clear t1 m1 t2 m2 hnn
 go_enter func39,ntmps39
 go_wp2_with fail;refine HRD.out.mono ?_;rintro e wk ⟨rfl,hl⟩;have LL:=Hd hl;clear hl HRD;obtain⟨q1_0,q1_1⟩:=(LL.out.blk 0 rfl).c2;go_wp2_with fail;refine cx (HE.out _) fun wk hb=>?_;replace LL:=stL LL hb;clear hb q1_0 q1_1 ho;replace LL:=Hd (LL.out.loose2 rfl);obtain⟨ha6_0,hf6_0,ha6_1,hf6_1⟩:=(LL.out.has 0 rfl).sf2;have LF:=Hd (LL.out.wr [.float .f64 9218868437227405312,.float .f64 18442240474082181120]);obtain⟨hk6_0,hk6_1⟩:=(LF.out.blk 2 rfl).c2
 simp [sets] at hk6_0 hk6_1
 clear LL;go_wp2;refine bodyPost_ret (v:=Zf 9218868437227405312 18442240474082181120) (by simp [results,results39,go_sem,hk6_0,hk6_1]) rfl ?_
 exact⟨rfl,LF.out.b⟩
theorem pownz_even(n:Nat)(b1 b2 c1 c2 A1 A2 x1 x2:Nat)(d1 d2:Bool)(o:Ordering)(r1 r2:Nat)(w:World)(t1:∀ W,Rt 102 #[Zf b1 b2] (Zf A1 A2) W)(m1:Em d1 A1 A2)(t2:∀ W,Rt 102 #[Zf c1 c2] (Zf x1 x2) W)(m2:Em d2 x1 x2)(hn:1<=n)(hn2:n<=1024)(hp:n % 2=0)(hnn:(d1 || d2)=false)(ho:FloatKind.f64.format.order A2 0=some o)(hoo:o=.eq\/o=.gt)(hB:∀ W,Tab W->Rt 103 #[.int .i64 (n:Int),Zf A1 A2,Zf x1 x2] (Zf r1 r2) W)(hT:Tab w):
  Rt 39 #[.int .i64 (-(n:Int)),Zf b1 b2,Zf c1 c2] (Zf r1 r2) w:=by
 have n1:¬ -(n:Int) < -1024:=by omega
 have n2:¬ (1024:Int) < -(n:Int):=by omega
 have n3:(-(n:Int) == 0)=false:=by simp;omega
 have n4:-(n:Int)<0:=by omega
 have n5:(-(n:Int)) % 2=0:=by omega
 have n6:(-(n:Int)).tmod 2=0:=by rw [Int.neg_tmod,Int.tmod_eq_emod_of_nonneg (by omega)];omega
 have n7:IntKind.i64.wrap (-(-(n:Int)))=(n:Int):=by rw [IntKind.wrap_i64];omega
 have n8:wrap64 (-(-(n:Int)))=(n:Int):=by unfold wrap64;omega
 have n9:-(-(n:Int))=(n:Int):=by omega
 clear hn hn2 hp;have HB:=Hd hB;clear hB
 rcases hoo with rfl | rfl
 all_goals
  have HRD:=readL32 w (Zv 0 0) 28 t1 m1 t2 m2 hnn;clear t1 m1 t2 m2 hnn
  go_enter func39,ntmps39
  go_wp2_with fail;refine HRD.out.mono ?_;rintro e wk ⟨rfl,hl⟩;have LL:=Hd hl;clear hl HRD;have HT:=Hd (hT.below LL.out.b);clear hT;obtain⟨q1_0,q1_1⟩:=(LL.out.blk 0 rfl).c2;obtain⟨q2_0,q2_1⟩:=(LL.out.blk 1 rfl).c2;go_wp2_with fail;refine cx (HB.out _ HT.out) fun wk hb=>?_;replace LL:=stL LL hb;replace HT:=Hd (HT.out.below hb);clear hb q1_0 q1_1 q2_0 q2_1 ho;clear HT;replace LL:=Hd (LL.out.loose2 rfl);obtain⟨ha6_0,hf6_0,ha6_1,hf6_1⟩:=(LL.out.has 0 rfl).sf2;have LF:=Hd (LL.out.wr [.float .f64 r1,.float .f64 r2]);obtain⟨hk6_0,hk6_1⟩:=(LF.out.blk 2 rfl).c2
  simp [sets] at hk6_0 hk6_1
  clear LL;go_wp2;refine bodyPost_ret (v:=Zf r1 r2) (by simp [results,results39,go_sem,hk6_0,hk6_1]) rfl ?_
  exact⟨rfl,LF.out.b⟩
theorem pownz_odd(n:Nat)(b1 b2 c1 c2 A1 A2 x1 x2:Nat)(d1 d2:Bool)(r1 r2:Nat)(w:World)(t1:∀ W,Rt 102 #[Zf b1 b2] (Zf A1 A2) W)(m1:Em d1 A1 A2)(t2:∀ W,Rt 102 #[Zf c1 c2] (Zf x1 x2) W)(m2:Em d2 x1 x2)(hn:1<=n)(hn2:n<=1024)(hp:n % 2=1)(hnn:(d1 || d2)=false)(hB:∀ W,Tab W->Rt 103 #[.int .i64 (n:Int),Zf A1 A2,Zf x1 x2] (Zf r1 r2) W)(hT:Tab w):
  Rt 39 #[.int .i64 (-(n:Int)),Zf b1 b2,Zf c1 c2] (Zf r1 r2) w:=by
 have n1:¬ -(n:Int) < -1024:=by omega
 have n2:¬ (1024:Int) < -(n:Int):=by omega
 have n3:(-(n:Int) == 0)=false:=by simp;omega
 have n4:-(n:Int)<0:=by omega
 have n5:(-(n:Int)) % 2=1:=by omega
 have n6:(-(n:Int)).tmod 2=-1:=by rw [Int.neg_tmod,Int.tmod_eq_emod_of_nonneg (by omega)];omega
 have n7:IntKind.i64.wrap (-(-(n:Int)))=(n:Int):=by rw [IntKind.wrap_i64];omega
 have n8:wrap64 (-(-(n:Int)))=(n:Int):=by unfold wrap64;omega
 have n9:-(-(n:Int))=(n:Int):=by omega
 clear hn hn2 hp;have HB:=Hd hB;clear hB;have HRD:=readL32 w (Zv 0 0) 28 t1 m1 t2 m2 hnn;clear t1 m1 t2 m2 hnn
 go_enter func39,ntmps39
 go_wp2_with fail;refine HRD.out.mono ?_;rintro e wk ⟨rfl,hl⟩;have LL:=Hd hl;clear hl HRD;have HT:=Hd (hT.below LL.out.b);clear hT;obtain⟨q1_0,q1_1⟩:=(LL.out.blk 0 rfl).c2;obtain⟨q2_0,q2_1⟩:=(LL.out.blk 1 rfl).c2;go_wp2_with fail;refine cx (HB.out _ HT.out) fun wk hb=>?_;replace LL:=stL LL hb;replace HT:=Hd (HT.out.below hb);clear hb q1_0 q1_1 q2_0 q2_1;clear HT;replace LL:=Hd (LL.out.loose2 rfl);obtain⟨ha6_0,hf6_0,ha6_1,hf6_1⟩:=(LL.out.has 0 rfl).sf2;have LF:=Hd (LL.out.wr [.float .f64 r1,.float .f64 r2]);obtain⟨hk6_0,hk6_1⟩:=(LF.out.blk 2 rfl).c2
 simp [sets] at hk6_0 hk6_1
 clear LL;go_wp2;refine bodyPost_ret (v:=Zf r1 r2) (by simp [results,results39,go_sem,hk6_0,hk6_1]) rfl ?_
 exact⟨rfl,LF.out.b⟩
end
section
attribute [local go_sem] run_store_float run_frombits run_bitsof
theorem and_top{T:Nat}(h:T<9223372036854775808):bits .and .u64 (T:Int) 9223372036854775808=0:=by
 have e:=u64_and_nat T 9223372036854775808 (by omega) (by omega)
 have z:T &&& 9223372036854775808=0:=by
  apply Nat.eq_of_testBit_eq
  intro i;rw [Nat.testBit_and,show (9223372036854775808:Nat)=2 ^ 63 from rfl,Nat.testBit_two_pow]
  by_cases hi:63=i
  ·subst hi;rw [Nat.testBit_lt_two_pow (by simpa using h)];simp
  ·simp [hi]
 rw [z] at e
 exact e
theorem fnumber_any(T:Nat)(w:World):Calls prog 268 #[.int .u64 (T:Int)] w fun e w'=>e=.returned (.float .f64 T)/\w=w':=by
 have HS:=Hd fsmall;have ff:=fun W=>run_frombits T W
 go_enter func268,ntmps268
 go_wp2_with fail;refine cy (HS.out _) ?_;go_wp2
 go_ret
 exact⟨rfl,rfl⟩
theorem fplace_any(T:Nat)(w:World)(hT:T<=M):Rt 249 #[.float .f64 T] (.tuple #[.int .i64 (T:Int),.bool true]) w:=by
 have hM:=M_val;have HF:=Hd format_any;have HP:=Hd fun W=>pattern_any T W
 have hr:rungOf T=T:=by
  have h:=rung_pat (i:=(T:Int)) (by omega) (by omega);rw [pat_nn (by omega)] at h
  simpa using h
 have h1:=size_i (b:=T) (by omega);rw [hr] at h1;have h2:=and_top (T:=T) (by omega);have ho:FloatKind.f64.format.order T T=some .eq:=ord_eq (by omega) (by omega) rfl
 have hw:IntKind.i64.wrap (T:Int)=(T:Int):=by rw [IntKind.wrap_i64];omega
 clear hr hT hM
 go_enter func249,ntmps249
 go_wp2_with fail;refine cx (HF.out _) fun w1 hb=>?_;have HB:=Hd (hb.alloc hb.size (.cells #[.int .i64 52,.int .i64 (-1074),.int .i64 971,.int .u64 9218868437227405312,.int .u64 9223372036854775808] 185));have B:=Blk.new w1 185 #[.int .i64 52,.int .i64 (-1074),.int .i64 971,.int .u64 9218868437227405312,.int .u64 9223372036854775808];have q4:=B.ce 4 rfl;clear hb B HF;go_wp2_with fail;refine (HP.out _).mono ?_;rintro e w2 ⟨rfl,rfl⟩;go_wp2;refine bodyPost_ret (v:=.tuple #[.int .i64 (T:Int),.bool true]) (by simp [results,results249,go_sem]) rfl ?_
 exact⟨rfl,HB.out⟩
theorem fat_any(T:Nat)(w:World)(hT:T<=M):Rt 247 #[.int .i64 (T:Int)] (.tuple #[.float .f64 T,.bool true]) w:=by
 have hM:=M_val;have HF:=Hd format_any;have HN:=Hd fun W=>fnumber_any T W
 have h1:¬ (9218868437227405312:Int)<(T:Int):=by omega
 have h2:¬ (T:Int) < -9218868437227405312:=by omega
 have h3:¬ (T:Int)<0:=by omega
 have hw:IntKind.u64.wrap (T:Int)=(T:Int):=by rw [IntKind.wrap_u64];omega
 clear hT hM
 go_enter func247,ntmps247
 go_wp2_with fail;refine cx (HF.out _) fun w1 hb=>?_;have HB:=Hd (hb.alloc hb.size (.cells #[.int .i64 52,.int .i64 (-1074),.int .i64 971,.int .u64 9218868437227405312,.int .u64 9223372036854775808] 185));have B:=Blk.new w1 185 #[.int .i64 52,.int .i64 (-1074),.int .i64 971,.int .u64 9218868437227405312,.int .u64 9223372036854775808];have q3:=B.ce 3 rfl;clear hb B HF;go_wp2_with fail;refine (HN.out _).mono ?_;rintro e w2 ⟨rfl,rfl⟩;go_wp2;refine bodyPost_ret (v:=.tuple #[.float .f64 T,.bool true]) (by simp [results,results247,go_sem]) rfl ?_
 exact⟨rfl,HB.out⟩
end
def rch(j:Int)(n k:Nat):Bool:=decide (k=0\/((k:Int)<M/\j<=rndI (-1) (1 / fl (k:Int) ^ n)))
def CapR(w W':World)(Bn By n:Nat)(j:Int):Prop:=W'.cell? ⟨Bn,0,none⟩=some (.int .i64 (n:Int))/\W'.cell? ⟨By,0,none⟩=some (.float .f64 (pat j))/\Tab W'/\(Bn<W'.heap.size/\By<W'.heap.size)/\Below w.heap.size w W'
theorem CapR.after{w W':World}{Bn By n:Nat}{j:Int}(h:CapR w w Bn By n j)(hb0:Below w.heap.size w W'):CapR w W' Bn By n j:=by
 have hHeld:=h
 exact⟨(hb0.cell (p:=⟨Bn,0,none⟩) hHeld.2.2.2.1.1).trans hHeld.1,(hb0.cell (p:=⟨By,0,none⟩) hHeld.2.2.2.1.2).trans hHeld.2.1,hHeld.2.2.1.below hb0,⟨Nat.lt_of_lt_of_le hHeld.2.2.2.1.1 hb0.size,Nat.lt_of_lt_of_le hHeld.2.2.2.1.2 hb0.size⟩,hb0⟩
theorem CapR.drewS{w W':World}{Bn By n:Nat}{j:Int}(h:CapR w W' Bn By n j):W'.drew.cell? ⟨Bn,0,none⟩=some (.int .i64 (n:Int))/\W'.drew.cell? ⟨By,0,none⟩=some (.float .f64 (pat j))/\Tab W'.drew/\(Bn<W'.drew.heap.size/\By<W'.drew.heap.size)/\Below w.heap.size w W'.drew:=by
 obtain⟨h1,h2,h3,⟨h4,h5⟩,h6⟩:=h
 exact⟨by simpa using h1,by simpa using h2,h3.drew,⟨by simpa using h4,by simpa using h5⟩,h6.drew⟩
theorem reaches_walk(n k Bn By r:Nat)(j:Int)(o:Ordering)(i b:Bool)(w:World)(hk:(k:Int)<9223372036854775807)(hn2:n<=1024)
  (hA:∀ W,Rt 247 #[.int .i64 (k:Int)] (.tuple #[.float .f64 k,.bool true]) W)
  (hI:∀ W,Rt 161 #[.float .f64 k,.int .i64 1] (.bool i) W)
  (hP:k≠0->i=false->∀ W,Tab W->Rt 248 #[.int .i64 (-1),.float .f64 k,.int .i64 (-(n:Int))] (.float .f64 r) W)
  (ho:FloatKind.f64.format.order r (pat j)=some o)(hb:b=decide (k=0\/(i=false/\o≠.lt)))
  (hc:CapR w w Bn By n j):
  Rt 246 #[.int .i64 (k:Int),.pointer (some ⟨Bn,0,none⟩),.pointer (some ⟨By,0,none⟩)] (.bool b) w:=by
 have HA:=Hd hA;have HI:=Hd hI;have HC:=Hd hc
 have hw:IntKind.i64.wrap (-(n:Int))=-(n:Int):=by rw [IntKind.wrap_i64];omega
 have hw2:wrap64 (-(n:Int))=-(n:Int):=by unfold wrap64;omega
 clear hA hI hc
 rcases Nat.eq_zero_or_pos k with h0 | h0
 ·subst h0
  have hb1:b=true:=by rw [hb];simp
  subst hb1;clear hb hP ho
  go_enter func246,ntmps246
  go_wp2_with fail;refine cx (HA.out _) fun w1 hb0=>?_;have HS:=Hd (CapR.after HC.out hb0);clear hb0 HC HA;go_wp2_with fail;refine wp_region_held_drew (S:=fun W'=>W'.cell? ⟨Bn,0,none⟩=some (.int .i64 (n:Int))/\W'.cell? ⟨By,0,none⟩=some (.float .f64 (pat j))/\Tab W'/\(Bn<W'.heap.size/\By<W'.heap.size)/\Below w.heap.size w W') (by kernel_rfl) (by exact HS.out.drewS) (fun hHeld=>?_);refine tks 0 ?_;refine tks 1 ?_;refine tks 2 ?_;refine tkns 3 ?_;refine tkns 4 ?_;refine tkns 5 ?_;refine tkns 6 ?_;refine tkns 7 ?_;refine tkns 8 ?_;refine tkns 9 ?_;refine tkns 10 ?_;refine tkns 11 ?_;refine tkns 12 ?_;refine tkns 13 ?_;refine tks 14 ?_;refine tks 15 ?_;refine wpAnyH_done (by kernel_rfl) ?_ _;have HB:=Hd hHeld.2.2.2.2;clear hHeld;go_wp2
  go_ret
  exact⟨rfl,HB.out⟩
 ·have hz:((k:Int) == 0)=false:=by simp;omega
  cases i
  ·have HP:=Hd (hP (by omega) rfl)
   have hbo:b=decide (o≠.lt):=by rw [hb];simp;omega
   clear hP hb
   cases o
   all_goals
    simp at hbo
    subst hbo
    go_enter func246,ntmps246
    go_wp2_with fail;refine cx (HA.out _) fun w1 hb0=>?_;have HS:=Hd (CapR.after HC.out hb0);clear hb0 HC HA;go_wp2_with fail;refine wp_region_held_drew (S:=fun W'=>W'.cell? ⟨Bn,0,none⟩=some (.int .i64 (n:Int))/\W'.cell? ⟨By,0,none⟩=some (.float .f64 (pat j))/\Tab W'/\(Bn<W'.heap.size/\By<W'.heap.size)/\Below w.heap.size w W') (by kernel_rfl) (by exact HS.out.drewS) (fun hHeld=>?_);refine tks 0 ?_;refine tks 1 ?_;refine tks 2 ?_;refine tks 3 ?_;refine rdy 4 fun KK hKK=>?_;go_simp;refine cx (HI.out _) fun wi hbi=>?_;go_wp2_with fail;refine hKK.out _ _ (⟨(hbi.cell (p:=⟨Bn,0,none⟩) hHeld.2.2.2.1.1).trans hHeld.1,(hbi.cell (p:=⟨By,0,none⟩) hHeld.2.2.2.1.2).trans hHeld.2.1,hHeld.2.2.1.below hbi,⟨Nat.lt_of_lt_of_le hHeld.2.2.2.1.1 hbi.size,Nat.lt_of_lt_of_le hHeld.2.2.2.1.2 hbi.size⟩,hHeld.2.2.2.2.trans (hbi.mono hHeld.2.2.2.2.size)⟩) (fun _=>?_);clear hKK KK hHeld;rename_i hHeld;(try simp only [Act.put,lay]);refine tks 5 ?_;refine tks 6 ?_;refine tks 7 ?_;refine tks 8 ?_ (hv:=by intro W2 hSw;(try dsimp only at hSw);have q:=hSw.1;go_simp;(try with_reducible rfl));refine tks 9 ?_;refine tks 11 ?_ (hv:=by intro W2 hSw;(try dsimp only at hSw);have q:=hSw.2.1;go_simp;(try with_reducible rfl));refine rdy 10 fun KK hKK=>?_;go_simp;refine cx (HP.out _ hHeld.2.2.1) fun wp hbp=>?_;go_wp2_with fail;refine hKK.out _ _ (⟨(hbp.cell (p:=⟨Bn,0,none⟩) hHeld.2.2.2.1.1).trans hHeld.1,(hbp.cell (p:=⟨By,0,none⟩) hHeld.2.2.2.1.2).trans hHeld.2.1,hHeld.2.2.1.below hbp,⟨Nat.lt_of_lt_of_le hHeld.2.2.2.1.1 hbp.size,Nat.lt_of_lt_of_le hHeld.2.2.2.1.2 hbp.size⟩,hHeld.2.2.2.2.trans (hbp.mono hHeld.2.2.2.2.size)⟩) (fun _=>?_)
    clear hKK KK hHeld;rename_i hHeld;(try simp only [Act.put,lay]);refine tks 12 ?_;refine tks 13 ?_;refine tks 14 ?_;refine tks 15 ?_;refine wpAnyH_done (by kernel_rfl) ?_ _;have HB:=Hd hHeld.2.2.2.2;clear hHeld;go_wp2
    go_ret
    exact⟨rfl,HB.out⟩
  ·have hbo:b=false:=by rw [hb];simp;omega
   subst hbo;clear hP hb ho
   go_enter func246,ntmps246
   go_wp2_with fail;refine cx (HA.out _) fun w1 hb0=>?_;have HS:=Hd (CapR.after HC.out hb0);clear hb0 HC HA;go_wp2_with fail;refine wp_region_held_drew (S:=fun W'=>W'.cell? ⟨Bn,0,none⟩=some (.int .i64 (n:Int))/\W'.cell? ⟨By,0,none⟩=some (.float .f64 (pat j))/\Tab W'/\(Bn<W'.heap.size/\By<W'.heap.size)/\Below w.heap.size w W') (by kernel_rfl) (by exact HS.out.drewS) (fun hHeld=>?_);refine tks 0 ?_;refine tks 1 ?_;refine tks 2 ?_;refine tks 3 ?_;refine rdy 4 fun KK hKK=>?_;go_simp;refine cx (HI.out _) fun wi hbi=>?_;go_wp2_with fail;refine hKK.out _ _ (⟨(hbi.cell (p:=⟨Bn,0,none⟩) hHeld.2.2.2.1.1).trans hHeld.1,(hbi.cell (p:=⟨By,0,none⟩) hHeld.2.2.2.1.2).trans hHeld.2.1,hHeld.2.2.1.below hbi,⟨Nat.lt_of_lt_of_le hHeld.2.2.2.1.1 hbi.size,Nat.lt_of_lt_of_le hHeld.2.2.2.1.2 hbi.size⟩,hHeld.2.2.2.2.trans (hbi.mono hHeld.2.2.2.2.size)⟩) (fun _=>?_);clear hKK KK hHeld;rename_i hHeld;(try simp only [Act.put,lay]);refine tks 5 ?_;refine tks 6 ?_;refine tkns 7 ?_;refine tkns 8 ?_;refine tkns 9 ?_;refine tkns 10 ?_;refine tkns 11 ?_;refine tkns 12 ?_;refine tks 13 ?_;refine tks 14 ?_;refine tks 15 ?_;refine wpAnyH_done (by kernel_rfl) ?_ _;have HB:=Hd hHeld.2.2.2.2;clear hHeld;go_wp2
   go_ret
   exact⟨rfl,HB.out⟩
section
attribute [local go_sem] run_store_float
theorem inverse_inf(y n:Nat)(w:World)(hI:∀ W,Calls prog 161 #[.float .f64 y,.int .i64 1] W fun e w'=>e=.returned (.bool true)/\W=w')(hA:∀ W,Rt 88 #[.float .f64 0] (Zf 0 0) W):
  Rt 220 #[.float .f64 y,.int .i64 (n:Int)] (Zf 0 0) w:=by
 have HI:=Hd hI;have HA:=Hd hA;clear hI hA;have LL:=li3 w #[.float .f64 y] 26 #[.int .i64 (n:Int)] 3 (Zv 0 0) 78
 go_enter func220,ntmps220
 have q1_0:=(LL.out.blk 0 rfl).ce 0 rfl;go_wp2_with fail;refine (HI.out _).mono ?_;rintro e w9 ⟨rfl,rfl⟩;go_wp2_with fail;refine cx (HA.out _) fun wk hb=>?_;replace LL:=stL LL hb;clear hb q1_0;replace LL:=Hd (LL.out.loose2 rfl);obtain⟨ha4_0,hf4_0,ha4_1,hf4_1⟩:=(LL.out.has 0 rfl).sf2;have LF:=Hd (LL.out.wr [.float .f64 0,.float .f64 0]);obtain⟨hk4_0,hk4_1⟩:=(LF.out.blk 2 rfl).c2
 simp [sets] at hk4_0 hk4_1
 clear LL;go_wp2;refine bodyPost_ret (v:=Zf 0 0) (by simp [results,results220,go_sem,hk4_0,hk4_1]) rfl ?_
 exact⟨rfl,LF.out.b⟩
theorem inverse_one(y r1 r2:Nat)(w:World)(hI:∀ W,Calls prog 161 #[.float .f64 y,.int .i64 1] W fun e w'=>e=.returned (.bool false)/\W=w')(hD:∀ W,Rt 245 #[.int .i64 (-1),.float .f64 4607182418800017408,.float .f64 y] (.float .f64 r1) W)(hU:∀ W,Rt 245 #[.int .i64 1,.float .f64 4607182418800017408,.float .f64 y] (.float .f64 r2) W):
  Rt 220 #[.float .f64 y,.int .i64 1] (Zf r1 r2) w:=by
 have HI:=Hd hI;have HD:=Hd hD;have HU:=Hd hU;clear hI hD hU;have LL:=li3 w #[.float .f64 y] 26 #[.int .i64 1] 3 (Zv 0 0) 78
 go_enter func220,ntmps220
 have q1_0:=(LL.out.blk 0 rfl).ce 0 rfl;have q2_0:=(LL.out.blk 1 rfl).ce 0 rfl;go_wp2_with fail;refine (HI.out _).mono ?_;rintro e w9 ⟨rfl,rfl⟩;go_wp2_with fail;clear q1_0 q2_0;replace LL:=Hd (LL.out.loose2 rfl);refine regL LL (fun hHeld=>?_);clear LL;generalize World.drew _=wk at hHeld  ⊢;refine tkb 0 (fun _ h=>(h.blk 0 rfl).ce 0 rfl) ?_;refine tkb 2 (fun _ h=>(h.blk 0 rfl).ce 0 rfl) ?_;refine rcs 1 (HD.out _) ?_;clear hHeld;intro wk hb1 hHeld;clear hb1;refine rcs 3 (HU.out _) ?_;clear hHeld;intro wk hb2 hHeld;clear hb2;refine tks 4 ?_;refine rdy 5 fun KK hKK=>?_;obtain⟨ha0,hf0,ha1,hf1⟩:=(hHeld.has 0 rfl).sf2;go_simp;have HS_0:=(hHeld.has 0 rfl).laid [.float .f64 r1,.float .f64 r2] rfl;refine hKK.out _ _ (hHeld.over 0 rfl [.float .f64 r1,.float .f64 r2] rfl rfl (by first | omega | exact hHeld.le_of 0 rfl) (by simp<;>omega) (by simp<;>omega)) (fun _=>?_);clear hKK KK hHeld;rename_i hHeld;(try simp only [Act.put,lay]);refine wpAnyH_done (by kernel_rfl) ?_ _;have LB:=Hd hHeld.b;clear hHeld;obtain⟨hk4_0,hk4_1⟩:=HS_0.c2;clear HS_0
 simp [sets] at hk4_0 hk4_1
 go_wp2;refine bodyPost_ret (v:=Zf r1 r2) (by simp [results,results220,go_sem,hk4_0,hk4_1]) rfl ?_
 exact⟨rfl,LB.out⟩
theorem inverse_search(y n T1 T2:Nat)(f:Nat->Bool)(r1 r2:Nat->Nat)(o1 o2:Nat->Ordering)(w:World)(hn:((n:Int) == 1)=false)(hn2:n<=1024)(hI:∀ W,Calls prog 161 #[.float .f64 y,.int .i64 1] W fun e w'=>e=.returned (.bool false)/\W=w')
  (hJ:∀ W,Calls prog 19 #[.int .i64 1] W fun e w'=>e=.returned (.float .f64 9218868437227405312)/\W=w')
  (hL:∀ (k:Nat) W,k<=9218868437227405312->Rt 249 #[.float .f64 k] (.tuple #[.int .i64 (k:Int),.bool true]) W)
  (hA:∀ (k:Nat) W,k<=9218868437227405312->Rt 247 #[.int .i64 (k:Int)] (.tuple #[.float .f64 k,.bool true]) W)
  (hB:∀ (b:Nat) W,Rt 88 #[.float .f64 b] (Zf b b) W)
  (hD:∀ W,Rt 245 #[.int .i64 0,.float .f64 4607182418800017408,.float .f64 y] (.float .f64 T1) W)(hR:∀ W,Rt 174 #[.int .i64 0,.float .f64 T1,.int .i64 (n:Int)] (.float .f64 T2) W)(hT2:T2<=9218868437227405312)
  (hC:∀ (k:Nat) W,k<=9218868437227405312->W.cell? ⟨w.heap.size+1,0,none⟩=some (.int .i64 (n:Int))->W.cell? ⟨w.heap.size,0,none⟩=some (.float .f64 y)->Tab W->w.heap.size+1<W.heap.size->Rt 246 #[.int .i64 (k:Int),.pointer (some ⟨w.heap.size+1,0,none⟩),.pointer (some ⟨w.heap.size,0,none⟩)] (.bool (f k)) W)(hf0:f 0=true)(hfM:f 9218868437227405312=false)(hP1:∀ (k:Nat) W,k<9218868437227405312->Tab W->Rt 248 #[.int .i64 (-1),.float .f64 k,.int .i64 (-(n:Int))] (.float .f64 (r1 k)) W)(hP2:∀ (k:Nat) W,k<9218868437227405312->Tab W->Rt 248 #[.int .i64 1,.float .f64 k,.int .i64 (-(n:Int))] (.float .f64 (r2 k)) W)(ho1:∀ k:Nat,k<9218868437227405312->FloatKind.f64.format.order (r1 k) y=some (o1 k))(ho2:∀ k:Nat,k<9218868437227405312->FloatKind.f64.format.order (r2 k) y=some (o2 k))(hT:Tab w):
  Calls prog 220 #[.float .f64 y,.int .i64 (n:Int)] w fun e w'=>∃ k:Nat,k<9218868437227405312/\f k=true/\f (k+1)=false/\e=.returned (.agg #[.float .f64 k,.float .f64 (if o1 k=.eq/\o2 k=.eq then k else k+1)])/\Below w.heap.size w w':=by
 have hw0:IntKind.i64.wrap (-(n:Int))=-(n:Int):=by rw [IntKind.wrap_i64];omega
 have hw1:wrap64 (-(n:Int))=-(n:Int):=by unfold wrap64;omega
 have HI:=Hd hI;have HJ:=Hd hJ;have HL:=Hd hL;have HA:=Hd hA;have HB:=Hd hB;have HD:=Hd hD;have HR:=Hd hR;have HC:=Hd hC;have HP1:=Hd hP1;have HP2:=Hd hP2;have HO1:=Hd ho1;have HO2:=Hd ho2;clear hI hJ hL hA hB hD hR hC hP1 hP2 ho1 ho2;have LL:=li3 w #[.float .f64 y] 26 #[.int .i64 (n:Int)] 3 (Zv 0 0) 78;have HT:=Hd (hT.below LL.out.b);clear hT
 go_enter func220,ntmps220
 have q1_0:=(LL.out.blk 0 rfl).ce 0 rfl;have q2_0:=(LL.out.blk 1 rfl).ce 0 rfl;go_wp2_with fail;refine (HI.out _).mono ?_;rintro e w9 ⟨rfl,rfl⟩;go_wp2_with fail;refine (HJ.out _).mono ?_;rintro e w9 ⟨rfl,rfl⟩;go_wp2_with fail;refine cx (HL.out 9218868437227405312 _ (by omega)) fun wk hb=>?_;replace LL:=stL LL hb;replace HT:=Hd (HT.out.below hb);clear hb q1_0 q2_0;clear HI HJ
 go_upto_region 8 with fail
 refine regL LL (fun hHeld=>?_);clear LL;replace HT:=Hd (HT.out.below (Below.refl _ _).drew);generalize World.drew _=wk at hHeld HT ⊢;refine tkb 0 (fun _ h=>(h.blk 0 rfl).ce 0 rfl) ?_;refine tkb 2 (fun _ h=>(h.blk 1 rfl).ce 0 rfl) ?_;refine rcs 1 (HD.out _) ?_;clear hHeld;intro wk hb1 hHeld;replace HT:=Hd (HT.out.below hb1);clear hb1;refine rcs 3 (HR.out _) ?_;clear hHeld;intro wk hb2 hHeld;replace HT:=Hd (HT.out.below hb2);clear hb2;refine rcs 4 (HL.out T2 _ hT2) ?_;clear hHeld;intro wk hb3 hHeld;replace HT:=Hd (HT.out.below hb3);clear hb3;refine tks 5 ?_;refine tks 6 ?_;refine tks 7 ?_;refine tks 8 ?_;refine tks 9 ?_;refine wpAnyH_done (by kernel_rfl) ?_ _;have LL:=Hd hHeld;clear hHeld;clear HD HR HL
 obtain⟨z,hz⟩:∃ z:Int,(T2:Int)=z:=⟨_,rfl⟩
 rw [hz];have HZ:=Hd hz;clear hz
 go_upto_region 9 with fail
 go_cut [62] from 39 to 62 (fun s62 wx=>∃ acc:Bool,s62=.bool acc/\(acc=true->∃ k1 k2:Nat,z - 3=(k1:Int)/\z+3=(k2:Int)/\k2<=9218868437227405312/\f k1=true/\f k2=false)/\Lies w wx [(w.heap.size,26,#[.float .f64 y]),((w.heap.size+1),3,#[.int .i64 (n:Int)]),((w.heap.size+2),78,(Zv 0 0))] []/\Tab wx)
 case first=>
  have hz:=HZ.out
  by_cases c1:3<z
  ·by_cases c2:z<9218868437227405309
   ·skip
    obtain⟨k1,hk1⟩:∃ k:Nat,z - 3=(k:Int):=⟨(z - 3).toNat,by omega⟩
    obtain⟨k2,hk2⟩:∃ k:Nat,z+3=(k:Int):=⟨(z+3).toNat,by omega⟩
    have a1:wrap64 (z - 3)=(k1:Int):=by unfold wrap64;omega
    have a2:wrap64 (z+3)=(k2:Int):=by unfold wrap64;omega
    have a3:IntKind.i64.wrap (z - 3)=(k1:Int):=by rw [IntKind.wrap_i64];omega
    have a4:IntKind.i64.wrap (z+3)=(k2:Int):=by rw [IntKind.wrap_i64];omega
    have HK:=Hd (show k1<k2/\k2<=9218868437227405312/\z - 3=(k1:Int)/\z+3=(k2:Int) from⟨by omega,by omega,hk1,hk2⟩);clear hk1 hk2 hz;have q3_0:=(LL.out.blk 0 rfl).ce 0 rfl;have q4_0:=(LL.out.blk 1 rfl).ce 0 rfl;go_wp2_with fail;refine cx (HC.out k1 _ (by have:=HK.out;omega) q4_0 q3_0 HT.out (by have:=(LL.out.blk 1 rfl).lt;exact this)) fun wk hb=>?_;replace LL:=stL LL hb;replace HT:=Hd (HT.out.below hb);clear hb q3_0 q4_0
    cases g1:f k1
    ·skip;go_wp2_with fail
     go_meet
     case rel=>exact⟨false,rfl,fun h=>absurd h (by decide),LL.out,HT.out⟩
    ·skip;have q5_0:=(LL.out.blk 0 rfl).ce 0 rfl;have q6_0:=(LL.out.blk 1 rfl).ce 0 rfl;go_wp2_with fail;refine cx (HC.out k2 _ (by have:=HK.out;omega) q6_0 q5_0 HT.out (by have:=(LL.out.blk 1 rfl).lt;exact this)) fun wk hb=>?_;replace LL:=stL LL hb;replace HT:=Hd (HT.out.below hb);clear hb q5_0 q6_0
     cases g2:f k2
     ·go_wp2_with fail
      go_meet
      case rel=>exact⟨true,rfl,fun _=>⟨k1,k2,HK.out.2.2.1,HK.out.2.2.2,HK.out.2.1,g1,g2⟩,LL.out,HT.out⟩
     ·go_wp2_with fail
      go_meet
      case rel=>exact⟨false,rfl,fun h=>absurd h (by decide),LL.out,HT.out⟩
   ·skip;go_wp2_with fail
    go_meet
    case rel=>exact⟨false,rfl,fun h=>absurd h (by decide),LL.out,HT.out⟩
  ·skip;go_wp2_with fail
   go_meet
   case rel=>exact⟨false,rfl,fun h=>absurd h (by decide),LL.out,HT.out⟩
 case rest=>
 obtain⟨acc,rfl,hacc,hcl,ht⟩:=hcut;rename World=>wx;clear LL HT hT2 HZ;have LL:=Hd hcl;have HT:=Hd ht;clear hcl ht;have HAC:=Hd hacc;clear hacc
 go_upto_if 62 with fail
 go_cut [6,7] from 63 to 66 (fun s6 s7 wx=>∃ lo hi:Nat,s6=.int .i64 (lo:Int)/\s7=.int .i64 (hi:Int)/\lo<hi/\hi<=9218868437227405312/\f lo=true/\f hi=false/\Lies w wx [(w.heap.size,26,#[.float .f64 y]),((w.heap.size+1),3,#[.int .i64 (n:Int)]),((w.heap.size+2),78,(Zv 0 0))] []/\Tab wx)
 case first=>
  cases acc
  ·clear HAC;go_wp2_with fail
   go_meet
   case rel=>exact⟨0,9218868437227405312,rfl,rfl,by omega,by omega,hf0,hfM,LL.out,HT.out⟩
  ·obtain⟨k1,k2,hk1,hk2,hk3,g1,g2⟩:=HAC.out rfl
   have a1:wrap64 (z - 3)=(k1:Int):=by unfold wrap64;omega
   have a2:wrap64 (z+3)=(k2:Int):=by unfold wrap64;omega
   have a3:IntKind.i64.wrap (z - 3)=(k1:Int):=by rw [IntKind.wrap_i64];omega
   have a4:IntKind.i64.wrap (z+3)=(k2:Int):=by rw [IntKind.wrap_i64];omega
   have HK:=Hd (show k1<k2 by omega);clear hk1 hk2 HAC;go_wp2_with fail
   go_meet
   case rel=>exact⟨k1,k2,rfl,rfl,HK.out,hk3,g1,g2,LL.out,HT.out⟩
 case rest=>
 obtain⟨lo0,hi0,rfl,rfl,hl0,hm0,hfl0,hfh0,hcl,ht⟩:=hcut;rename World=>wx;clear LL HT HAC hf0 hfM;have LL:=Hd hcl;have HT:=Hd ht;clear hcl ht;go_wp2
 go_loopw [6,7,10] (fun a b _ wr=>∃ lo hi:Nat,a=.int .i64 (lo:Int)/\b=.int .i64 (hi:Int)/\lo<hi/\hi<=9218868437227405312/\f lo=true/\f hi=false/\Lies w wr [(w.heap.size,26,#[.float .f64 y]),((w.heap.size+1),3,#[.int .i64 (n:Int)]),((w.heap.size+2),78,(Zv 0 0))] []/\Tab wr) (fun a b _ _=>(intOf b - intOf a).toNat)
 case atStart=>exact⟨lo0,hi0,rfl,rfl,hl0,hm0,hfl0,hfh0,LL.out,HT.out⟩
 case round=>
  obtain⟨lo,hi,rfl,rfl,hl,hm,hfl,hfh,hcl,ht⟩:=hrel;rename World=>wr;clear LL HT hl0 hm0 hfl0 hfh0;have LL:=Hd hcl;have HT:=Hd ht;clear hcl ht
  obtain⟨D,hD0⟩:∃ D:Nat,hi=lo+D:=⟨hi - lo,by omega⟩
  subst hD0
  obtain⟨LO,hLO⟩:∃ z:Int,(lo:Int)=z:=⟨_,rfl⟩
  obtain⟨HI,hHI⟩:∃ z:Int,((lo+D:Nat):Int)=z:=⟨_,rfl⟩
  have b1:wrap64 (HI - LO)=(D:Int):=by unfold wrap64;omega
  have b2:IntKind.i64.wrap (HI - LO)=(D:Int):=by rw [IntKind.wrap_i64];omega
  rw [hLO,hHI]
  by_cases hd:1<D
  ·skip
   obtain⟨m,hm1⟩:∃ m:Nat,LO+(D:Int) / 2=(m:Int):=⟨lo+D / 2,by omega⟩
   have b3:wrap64 (LO+(D:Int) / 2)=(m:Int):=by unfold wrap64;omega
   have b4:IntKind.i64.wrap (LO+(D:Int) / 2)=(m:Int):=by rw [IntKind.wrap_i64];omega
   have b5:(1:Int)<(D:Int):=by omega
   have b6:(D:Int).tdiv 2=(D:Int) / 2:=Int.tdiv_eq_ediv_of_nonneg (by omega);have HM:=Hd (show lo<m/\m<lo+D by omega);have HLO:=Hd hLO;have HHI:=Hd hHI;clear hm1 hLO hHI;have q3_0:=(LL.out.blk 0 rfl).ce 0 rfl;have q4_0:=(LL.out.blk 1 rfl).ce 0 rfl;go_wp2_with fail;refine cx (HC.out m _ (by have:=HM.out;omega) q4_0 q3_0 HT.out (by have:=(LL.out.blk 1 rfl).lt;exact this)) fun wk hb=>?_;replace LL:=stL LL hb;replace HT:=Hd (HT.out.below hb);clear hb q3_0 q4_0
   cases g:f m
   ·go_wp2
    exact⟨⟨lo,m,by rw [HLO.out],rfl,HM.out.1,by have:=HM.out;omega,hfl,g,LL.out,HT.out⟩,by have:=HM.out;have:=HLO.out;have:=HHI.out;simp [intOf];omega⟩
   ·go_wp2
    exact⟨⟨m,lo+D,rfl,by rw [HHI.out],HM.out.2,hm,g,hfh,LL.out,HT.out⟩,by have:=HM.out;have:=HLO.out;have:=HHI.out;simp [intOf];omega⟩
  ·skip
   obtain rfl:D=1:=by omega
   have c1:¬ (1:Int)<((1:Nat):Int):=by omega
   subst hLO;subst hHI;have HO1:=Hd (HO1.out lo (by omega));have HO2:=Hd (HO2.out lo (by omega));have HP1:=Hd fun W=>HP1.out lo W (by omega);have HP2:=Hd fun W=>HP2.out lo W (by omega);have HA1:=Hd fun W=>HA.out lo W (by omega);have HA2:=Hd fun W=>HA.out (lo+1) W (by omega);have HFF:=Hd (show lo<9218868437227405312/\f lo=true/\f (lo+1)=false from⟨by omega,hfl,hfh⟩)
   obtain⟨R1,hR1⟩:∃ z,r1 lo=z:=⟨_,rfl⟩
   obtain⟨R2,hR2⟩:∃ z,r2 lo=z:=⟨_,rfl⟩
   obtain⟨q1,hq1⟩:∃ z,o1 lo=z:=⟨_,rfl⟩
   obtain⟨q2,hq2⟩:∃ z,o2 lo=z:=⟨_,rfl⟩
   rw [hR1] at HP1 HO1;rw [hR2] at HP2 HO2;rw [hq1] at HO1;rw [hq2] at HO2;have HQ:=Hd (show o1 lo=q1/\o2 lo=q2 from⟨hq1,hq2⟩);clear hR1 hR2 hq1 hq2 hfl hfh hl hm HC HA hd;go_wp2_with fail;refine cx (HA1.out _) fun wk hb=>?_;replace LL:=stL LL hb;replace HT:=Hd (HT.out.below hb);clear hb;go_wp2_with fail
   cases q1
   ·skip;have ho1:=HO1.out;refine regL LL (fun hHeld=>?_);clear LL;replace HT:=Hd (HT.out.below (Below.refl _ _).drew);generalize World.drew _=wk at hHeld HT ⊢;refine tks 0 ?_;refine tkb 1 (fun _ h=>(h.blk 1 rfl).ce 0 rfl) ?_;refine tks 2 ?_;refine tkb 4 (fun _ h=>(h.blk 0 rfl).ce 0 rfl) ?_;refine rcs 3 (HP1.out _ HT.out) ?_;clear hHeld;intro wk hbp1 hHeld;replace HT:=Hd (HT.out.below hbp1);clear hbp1;refine tks 5 ?_;refine tks 6 ?_;refine tkns 7 ?_;refine tkns 8 ?_;refine tkns 9 ?_;refine tkns 10 ?_;refine tkns 11 ?_;refine tkns 12 ?_;refine tks 13 ?_;refine wpAnyH_done (by kernel_rfl) ?_ _;have LL:=Hd hHeld;clear hHeld;clear ho1;go_wp2_with fail;refine cx (HA2.out _) fun wk hb=>?_;replace LL:=stL LL hb;replace HT:=Hd (HT.out.below hb);clear hb;clear HT;replace LL:=Hd (LL.out.loose2 rfl);obtain⟨ha4_0,hf4_0,ha4_1,hf4_1⟩:=(LL.out.has 0 rfl).sf2;have LF:=Hd (LL.out.wr [.float .f64 lo,.float .f64 (lo+1)]);obtain⟨hk4_0,hk4_1⟩:=(LF.out.blk 2 rfl).c2
    simp [sets] at hk4_0 hk4_1
    clear LL;go_wp2;refine bodyPost_ret (v:=.agg #[.float .f64 lo,.float .f64 (lo+1)]) (by simp [results,results220,go_sem,hk4_0,hk4_1]) rfl ?_
    exact⟨lo,HFF.out.1,HFF.out.2.1,HFF.out.2.2,by rw [HQ.out.1,HQ.out.2,if_neg (by simp)],LF.out.b⟩
   ·cases q2
    ·skip;have ho1:=HO1.out;have ho2:=HO2.out;refine regL LL (fun hHeld=>?_);clear LL;replace HT:=Hd (HT.out.below (Below.refl _ _).drew);generalize World.drew _=wk at hHeld HT ⊢;refine tks 0 ?_;refine tkb 1 (fun _ h=>(h.blk 1 rfl).ce 0 rfl) ?_;refine tks 2 ?_;refine tkb 4 (fun _ h=>(h.blk 0 rfl).ce 0 rfl) ?_;refine rcs 3 (HP1.out _ HT.out) ?_;clear hHeld;intro wk hbp1 hHeld;replace HT:=Hd (HT.out.below hbp1);clear hbp1;refine tks 5 ?_;refine tks 6 ?_;refine tks 7 ?_;refine tkb 8 (fun _ h=>(h.blk 1 rfl).ce 0 rfl) ?_;refine tks 9 ?_;refine tkb 11 (fun _ h=>(h.blk 0 rfl).ce 0 rfl) ?_;refine rcs 10 (HP2.out _ HT.out) ?_;clear hHeld;intro wk hbp2 hHeld;replace HT:=Hd (HT.out.below hbp2);clear hbp2;refine tks 12 ?_;refine tks 13 ?_;refine wpAnyH_done (by kernel_rfl) ?_ _;have LL:=Hd hHeld;clear hHeld;clear ho1 ho2;go_wp2_with fail;refine cx (HA2.out _) fun wk hb=>?_;replace LL:=stL LL hb;replace HT:=Hd (HT.out.below hb);clear hb;clear HT;replace LL:=Hd (LL.out.loose2 rfl);obtain⟨ha4_0,hf4_0,ha4_1,hf4_1⟩:=(LL.out.has 0 rfl).sf2;have LF:=Hd (LL.out.wr [.float .f64 lo,.float .f64 (lo+1)]);obtain⟨hk4_0,hk4_1⟩:=(LF.out.blk 2 rfl).c2
     simp [sets] at hk4_0 hk4_1
     clear LL;go_wp2;refine bodyPost_ret (v:=.agg #[.float .f64 lo,.float .f64 (lo+1)]) (by simp [results,results220,go_sem,hk4_0,hk4_1]) rfl ?_
     exact⟨lo,HFF.out.1,HFF.out.2.1,HFF.out.2.2,by rw [HQ.out.1,HQ.out.2,if_neg (by simp)],LF.out.b⟩
    ·skip;have ho1:=HO1.out;have ho2:=HO2.out;refine regL LL (fun hHeld=>?_);clear LL;replace HT:=Hd (HT.out.below (Below.refl _ _).drew);generalize World.drew _=wk at hHeld HT ⊢;refine tks 0 ?_;refine tkb 1 (fun _ h=>(h.blk 1 rfl).ce 0 rfl) ?_;refine tks 2 ?_;refine tkb 4 (fun _ h=>(h.blk 0 rfl).ce 0 rfl) ?_;refine rcs 3 (HP1.out _ HT.out) ?_;clear hHeld;intro wk hbp1 hHeld;replace HT:=Hd (HT.out.below hbp1);clear hbp1;refine tks 5 ?_;refine tks 6 ?_;refine tks 7 ?_;refine tkb 8 (fun _ h=>(h.blk 1 rfl).ce 0 rfl) ?_;refine tks 9 ?_;refine tkb 11 (fun _ h=>(h.blk 0 rfl).ce 0 rfl) ?_;refine rcs 10 (HP2.out _ HT.out) ?_;clear hHeld;intro wk hbp2 hHeld;replace HT:=Hd (HT.out.below hbp2);clear hbp2;refine tks 12 ?_;refine tks 13 ?_;refine wpAnyH_done (by kernel_rfl) ?_ _;have LL:=Hd hHeld;clear hHeld;clear ho1 ho2;go_wp2_with fail;refine cx (HB.out lo _) fun wk hb=>?_;replace LL:=stL LL hb;replace HT:=Hd (HT.out.below hb);clear hb;clear HT;replace LL:=Hd (LL.out.loose2 rfl);obtain⟨ha4_0,hf4_0,ha4_1,hf4_1⟩:=(LL.out.has 0 rfl).sf2;have LF:=Hd (LL.out.wr [.float .f64 lo,.float .f64 lo]);obtain⟨hk4_0,hk4_1⟩:=(LF.out.blk 2 rfl).c2
     simp [sets] at hk4_0 hk4_1
     clear LL;go_wp2;refine bodyPost_ret (v:=Zf lo lo) (by simp [results,results220,go_sem,hk4_0,hk4_1]) rfl ?_
     exact⟨lo,HFF.out.1,HFF.out.2.1,HFF.out.2.2,by rw [HQ.out.1,HQ.out.2,if_pos ⟨rfl,rfl⟩],LF.out.b⟩
    ·skip;have ho1:=HO1.out;have ho2:=HO2.out;refine regL LL (fun hHeld=>?_);clear LL;replace HT:=Hd (HT.out.below (Below.refl _ _).drew);generalize World.drew _=wk at hHeld HT ⊢;refine tks 0 ?_;refine tkb 1 (fun _ h=>(h.blk 1 rfl).ce 0 rfl) ?_;refine tks 2 ?_;refine tkb 4 (fun _ h=>(h.blk 0 rfl).ce 0 rfl) ?_;refine rcs 3 (HP1.out _ HT.out) ?_;clear hHeld;intro wk hbp1 hHeld;replace HT:=Hd (HT.out.below hbp1);clear hbp1;refine tks 5 ?_;refine tks 6 ?_;refine tks 7 ?_;refine tkb 8 (fun _ h=>(h.blk 1 rfl).ce 0 rfl) ?_;refine tks 9 ?_;refine tkb 11 (fun _ h=>(h.blk 0 rfl).ce 0 rfl) ?_;refine rcs 10 (HP2.out _ HT.out) ?_;clear hHeld;intro wk hbp2 hHeld;replace HT:=Hd (HT.out.below hbp2);clear hbp2;refine tks 12 ?_;refine tks 13 ?_;refine wpAnyH_done (by kernel_rfl) ?_ _;have LL:=Hd hHeld;clear hHeld;clear ho1 ho2;go_wp2_with fail;refine cx (HA2.out _) fun wk hb=>?_;replace LL:=stL LL hb;replace HT:=Hd (HT.out.below hb);clear hb;clear HT;replace LL:=Hd (LL.out.loose2 rfl);obtain⟨ha4_0,hf4_0,ha4_1,hf4_1⟩:=(LL.out.has 0 rfl).sf2;have LF:=Hd (LL.out.wr [.float .f64 lo,.float .f64 (lo+1)]);obtain⟨hk4_0,hk4_1⟩:=(LF.out.blk 2 rfl).c2
     simp [sets] at hk4_0 hk4_1
     clear LL;go_wp2;refine bodyPost_ret (v:=.agg #[.float .f64 lo,.float .f64 (lo+1)]) (by simp [results,results220,go_sem,hk4_0,hk4_1]) rfl ?_
     exact⟨lo,HFF.out.1,HFF.out.2.1,HFF.out.2.2,by rw [HQ.out.1,HQ.out.2,if_neg (by simp)],LF.out.b⟩
   ·skip;have ho1:=HO1.out;refine regL LL (fun hHeld=>?_);clear LL;replace HT:=Hd (HT.out.below (Below.refl _ _).drew);generalize World.drew _=wk at hHeld HT ⊢;refine tks 0 ?_;refine tkb 1 (fun _ h=>(h.blk 1 rfl).ce 0 rfl) ?_;refine tks 2 ?_;refine tkb 4 (fun _ h=>(h.blk 0 rfl).ce 0 rfl) ?_;refine rcs 3 (HP1.out _ HT.out) ?_;clear hHeld;intro wk hbp1 hHeld;replace HT:=Hd (HT.out.below hbp1);clear hbp1;refine tks 5 ?_;refine tks 6 ?_;refine tkns 7 ?_;refine tkns 8 ?_;refine tkns 9 ?_;refine tkns 10 ?_;refine tkns 11 ?_;refine tkns 12 ?_;refine tks 13 ?_;refine wpAnyH_done (by kernel_rfl) ?_ _;have LL:=Hd hHeld;clear hHeld;clear ho1;go_wp2_with fail;refine cx (HA2.out _) fun wk hb=>?_;replace LL:=stL LL hb;replace HT:=Hd (HT.out.below hb);clear hb;clear HT;replace LL:=Hd (LL.out.loose2 rfl);obtain⟨ha4_0,hf4_0,ha4_1,hf4_1⟩:=(LL.out.has 0 rfl).sf2;have LF:=Hd (LL.out.wr [.float .f64 lo,.float .f64 (lo+1)]);obtain⟨hk4_0,hk4_1⟩:=(LF.out.blk 2 rfl).c2
    simp [sets] at hk4_0 hk4_1
    clear LL;go_wp2;refine bodyPost_ret (v:=.agg #[.float .f64 lo,.float .f64 (lo+1)]) (by simp [results,results220,go_sem,hk4_0,hk4_1]) rfl ?_
    exact⟨lo,HFF.out.1,HFF.out.2.1,HFF.out.2.2,by rw [HQ.out.1,HQ.out.2,if_neg (by simp)],LF.out.b⟩
end
section
open Go.RowKit Ieee
theorem quo_digits(N n:Nat)(hn:0<n)(A:Nat):(A*n<=2*N->A<=2*(N / n)+(N % n != 0).toNat)/\(2*N<=A*n->2*(N / n)+(N % n != 0).toNat<=A):=by
 have h1:=Nat.div_add_mod N n;have h2:=Nat.mod_lt N hn;generalize N / n=q at *;generalize N % n=r at *;rw [<- h1]
 have e:2*(n*q+r)=(2*q)*n+2*r:=by
  rw [Nat.mul_add,Nat.mul_comm n q,Nat.mul_assoc]
 rw [e]
 by_cases r0:r=0
 ·subst r0;have z:((0:Nat) != 0).toNat=0:=rfl;rw [z]
  exact⟨fun h=>Nat.le_of_mul_le_mul_right (by omega:A*n<=(2*q)*n) hn,fun h=>Nat.le_of_mul_le_mul_right (by omega:(2*q+0)*n<=A*n) hn⟩
 ·have z:(r != 0).toNat=1:=by simp [r0]
  rw [z]
  have e2:(2*q+2)*n=2*q*n+2*n:=by rw [Nat.add_mul]
  constructor
  ·intro h;have:=Nat.lt_of_mul_lt_mul_right (a:=n) (show A*n<(2*q+2)*n by omega)
   omega
  ·intro h;have:=Nat.lt_of_mul_lt_mul_right (a:=n) (show (2*q)*n<A*n by omega)
   omega
theorem quo_great(m n:Nat)(hm:m≠0)(hn:n≠0):2^53*n<=m*2^(54+n.log2 - m.log2):=by
 have h1:=Nat.log2_self_le hm;have h2:n<2^(n.log2+1):=Nat.lt_log2_self;have h3:2^(n.log2+54)<=2^(m.log2+(54+n.log2 - m.log2)):=Nat.pow_le_pow_right (by omega) (by omega);have h4:2^m.log2*2^(54+n.log2 - m.log2)<=m*2^(54+n.log2 - m.log2):=Nat.mul_le_mul_right _ h1
 have h5:(2:Nat)^(n.log2+54)=2^53*2^(n.log2+1):=by rw [<- Nat.pow_add];congr 1;omega
 rw [<- Nat.pow_add] at h4;have h6:2^53*n<=2^53*2^(n.log2+1):=Nat.mul_le_mul_left _ (by omega)
 omega
theorem mag_even{i K:Nat}(h:2^54*2^K<=mag i):∃ B:Nat,mag i=2*B*2^K:=by
 obtain⟨k,q,e,hk,hq⟩:=rung_form i
 have hm:mag i=q*2^k:=by rw [e];exact mag_form k q hk (by omega)
 have hk2:K+1<=k:=by
  rcases Nat.lt_or_ge k (K+1) with c | c
  ·exfalso
   have h1:2^k<=2^K:=Nat.pow_le_pow_right (by omega) (by omega);have h2:q*2^k<=2^53*2^K:=Nat.mul_le_mul (by omega) h1;have:=Nat.two_pow_pos K
   omega
  ·exact c
 refine⟨q*2^(k - K - 1),?_⟩;rw [hm]
 have e2:(2:Nat)^k=2*2^(k - K - 1)*2^K:=by
  rw [Nat.mul_assoc,<- Nat.pow_add,<- Nat.pow_succ'];congr 1;omega
 rw [e2];ac_rfl
theorem div_pos{x y U:Nat}(hU:U=1074)(hx:fin x)(hy:fin y)(sx:sgn x=false)(sy:sgn y=false)(h0:rungOf x≠0)(h1:rungOf y≠0):
  ∃ r t:Nat,double.div x y=some r/\Is r (t:Int)/\t<=M/\(∀ i:Nat,i<=M->mag i*mag (rungOf y)<=mag (rungOf x)*2^U->i<=t)/\(∀ i:Nat,mag (rungOf x)*2^U<=mag i*mag (rungOf y)->t<=i):=by
 obtain⟨m,k,ex,hm,-⟩:=read_fin hx;obtain⟨n,l,ey,hn,-⟩:=read_fin hy;clear hx hy;have m0:=digits_pos hm h0;have n0:=digits_pos hn h1
 have n1:0<n:=by omega
 obtain⟨more,hmore⟩:∃ more,54+n.log2 - m.log2=more:=⟨_,rfl⟩
 have great:=quo_great m n m0 n0;rw [hmore] at great
 obtain⟨N,hN⟩:∃ N,m*2^more=N:=⟨_,rfl⟩
 rw [hN] at great
 obtain⟨T,hT⟩:∃ T,2*(N / n)+(N % n != 0).toNat=T:=⟨_,rfl⟩
 have hquo:=fun A=>quo_digits N n n1 A;rw [hT] at hquo
 have hr:double.div x y=some (double.nearest false T (-1074+(k:Int) - (-1074+(l:Int)) - (more:Int) - 1)):=by
  unfold Format.div;rw [ex,ey]
  simp only [Datum.quotient]
  rw [if_neg n0]
  simp only [Option.map_some,write_num]
  rw [show double.fractionBits+2=54 from by decide,hmore,Nat.shiftLeft_eq,hN,hT,sx,sy]
  rfl
 rw [hr,<- hm,<- hn]
 have T54:2^54<=T:=(hquo (2^54)).1 (by
  have:2^54*n=2*(2^53*n):=by rw [<- Nat.mul_assoc]
  omega)
 rcases Nat.le_total (k+U) (l+more+1) with c | c
 ·obtain⟨d,hd⟩:∃ d,l+more+1=k+U+d:=⟨l+more+1 - (k+U),by omega⟩
  rw [show (-1074+(k:Int) - (-1074+(l:Int)) - (more:Int) - 1)=-1074 - (d:Int) from by omega,nearest_low]
  have hp:2^k*2^U*2^d=2*2^more*2^l:=by
   rw [<- Nat.pow_add,<- Nat.pow_add,<- Nat.pow_succ',<- Nat.pow_add];congr 1;omega
  have key:∀ i:Nat,mag i*(n*2^l)*2^d=(mag i*2^d*n)*2^l:=fun i=>by ac_rfl
  have key2:m*2^k*2^U*2^d=(2*N)*2^l:=by
   rw [<- hN]
   calc m*2^k*2^U*2^d=m*(2^k*2^U*2^d):=by ac_rfl
    _=m*(2*2^more*2^l):=by rw [hp]
    _=_:=by ac_rfl
  refine⟨_,min (nearRung T d) M,rfl,?_,Nat.min_le_right _ _,fun i hi h=>?_,fun i h=>?_⟩
  ·have:=Is.word false (r:=min (nearRung T d) M) (Nat.min_le_right _ _)
   exact this
  ·have h2:=Nat.mul_le_mul_right (2^d) h;rw [key,key2] at h2;have h3:=(hquo _).1 (Nat.le_of_mul_le_mul_right h2 (Nat.two_pow_pos l))
   exact Nat.le_min.2 ⟨le_nearRung h3,hi⟩
  ·have h2:=Nat.mul_le_mul_right (2^d) h;rw [key,key2] at h2;have h3:=(hquo _).2 (Nat.le_of_mul_le_mul_right h2 (Nat.two_pow_pos l))
   exact Nat.le_trans (Nat.min_le_left _ _) (nearRung_le h3)
 ·obtain⟨K,hK⟩:∃ K,k+U=l+more+1+K:=⟨k+U - (l+more+1),by omega⟩
  rw [show (-1074+(k:Int) - (-1074+(l:Int)) - (more:Int) - 1)=-1074+(K:Int) from by omega,nearest_high]
  have hp:2^k*2^U=2*2^more*2^K*2^l:=by
   rw [<- Nat.pow_add,<- Nat.pow_succ',<- Nat.pow_add,<- Nat.pow_add];congr 1;omega
  have key:∀ i:Nat,mag i*(n*2^l)=(mag i*n)*2^l:=fun i=>by ac_rfl
  have key2:m*2^k*2^U=(2*N*2^K)*2^l:=by
   rw [<- hN]
   calc m*2^k*2^U=m*(2^k*2^U):=by ac_rfl
    _=m*(2*2^more*2^K*2^l):=by rw [hp]
    _=_:=by ac_rfl
  have hK0:=Nat.two_pow_pos K;refine⟨_,min (nearRung (T*2^K) 0) M,rfl,?_,Nat.min_le_right _ _,fun i hi h=>?_,fun i h=>?_⟩
  ·have:=Is.word false (r:=min (nearRung (T*2^K) 0) M) (Nat.min_le_right _ _)
   exact this
  ·rw [key,key2] at h;have h2:=Nat.le_of_mul_le_mul_right h (Nat.two_pow_pos l)
   have h3:mag i*2^0<=T*2^K:=by
    rw [Nat.pow_zero,Nat.mul_one]
    rcases Nat.lt_or_ge (mag i) (2^54*2^K) with g | g
    ·have:=Nat.mul_le_mul_right (2^K) T54
     omega
    ·obtain⟨B,hB⟩:=mag_even g;rw [hB] at h2 ⊢
     have h4:(2*B*n)*2^K<=(2*N)*2^K:=by
      have:2*B*2^K*n=(2*B*n)*2^K:=by ac_rfl
      omega
     exact Nat.mul_le_mul_right _ ((hquo _).1 (Nat.le_of_mul_le_mul_right h4 hK0))
   exact Nat.le_min.2 ⟨le_nearRung h3,hi⟩
  ·rw [key,key2] at h;have h2:=Nat.le_of_mul_le_mul_right h (Nat.two_pow_pos l)
   have h3:T*2^K<=mag i*2^0:=by
    rw [Nat.pow_zero,Nat.mul_one]
    rcases Nat.lt_or_ge (mag i) (2^54*2^K) with g | g
    ·exfalso
     have h5:mag i*n<2^54*2^K*n:=(Nat.mul_lt_mul_right n1).2 g;have h6:2*(2^53*n)*2^K<=2*N*2^K:=Nat.mul_le_mul_right _ (Nat.mul_le_mul_left _ great)
     have h7:2*(2^53*n)*2^K=2^54*2^K*n:=by
      rw [<- Nat.mul_assoc 2 (2^53) n,<- Nat.pow_succ'];ac_rfl
     omega
    ·obtain⟨B,hB⟩:=mag_even g;rw [hB] at h2 ⊢
     have h4:(2*N)*2^K<=(2*B*n)*2^K:=by
      have:2*B*2^K*n=(2*B*n)*2^K:=by ac_rfl
      omega
     exact Nat.mul_le_mul_right _ ((hquo _).2 (Nat.le_of_mul_le_mul_right h4 hK0))
   exact Nat.le_trans (Nat.min_le_left _ _) (nearRung_le h3)
end
section
open Go.RowKit Ieee
theorem rndI_down_at{X:Rat}{t:Int}(h0:-(M:Int)<t)(h1:t<M)(a:fl t<=X)(b:X<fl (t+1)):rndI (-1) X=t:=by
 obtain⟨c1,c2,c3⟩:=rndI_down X;have k:=(c3 t h0 h1).2 a
 by_cases h:t+1<M
 ·have:¬ (t+1<=rndI (-1) X):=fun k=>by have:=(c3 (t+1) (by omega) h).1 k;grind
  omega
 ·omega
theorem rndI_up_at{X:Rat}{t:Int}(h0:-(M:Int)<t)(h1:t<M)(a:X<=fl t)(b:fl (t - 1)<X):rndI 1 X=t:=by
 obtain⟨c1,c2,c3⟩:=rndI_up X;have k:=(c3 t h0 h1).2 a
 by_cases h:-(M:Int)<t - 1
 ·have:¬ (rndI 1 X<=t - 1):=fun k=>by have:=(c3 (t - 1) h (by omega)).1 k;grind
  omega
 ·omega
theorem le_recip{i j U:Nat}(hU:U=1074)(hj:0<mag j):(fl (i:Int)<=1 / fl (j:Int)↔mag i*mag j<=2^U*2^U)/\(1 / fl (j:Int)<=fl (i:Int)↔2^U*2^U<=mag i*mag j):=by
 obtain⟨P,hP⟩:∃ P:Nat,2^U=P:=⟨_,rfl⟩
 have hP0:0<P:=by rw [<- hP];exact Nat.two_pow_pos U
 have e1:=fl_mul hU (i:Int);have e2:=fl_mul hU (j:Int);rw [hP] at e1 e2 ⊢;rw [val_nat] at e1 e2
 have hP1:(0:Rat)<(((P:Nat):Int):Rat):=by exact_mod_cast hP0
 have hb:(0:Rat)<((mag j:Int):Rat):=by exact_mod_cast hj
 have hfj:0<fl (j:Int):=by
  by_cases c:0<fl (j:Int)
  ·exact c
  ·exfalso
   have:fl (j:Int)*(((P:Nat):Int):Rat)<=0:=by
    have h1:0<=-fl (j:Int):=by grind
    have:=Rat.mul_nonneg h1 (Rat.le_of_lt hP1)
    grind
   grind
 have key:((mag i*mag j:Nat):Rat)=fl (i:Int)*fl (j:Int)*(((P:Nat):Int):Rat)*(((P:Nat):Int):Rat):=by
  have:((mag i*mag j:Nat):Rat)=((mag i:Int):Rat)*((mag j:Int):Rat):=by push_cast;rfl
  rw [this,<- e1,<- e2];grind
 have key2:((P*P:Nat):Rat)=1*(((P:Nat):Int):Rat)*(((P:Nat):Int):Rat):=by push_cast;grind
 have hm:∀ a:Rat,a / fl (j:Int)*fl (j:Int)=a:=fun a=>Rat.div_mul_cancel (by grind)
 constructor
 ·rw [<- Rat.natCast_le_natCast,key,key2,mul_le_pos hP1,mul_le_pos hP1,<- mul_le_pos hfj,hm]
 ·rw [<- Rat.natCast_le_natCast,key,key2,mul_le_pos hP1,mul_le_pos hP1,<- mul_le_pos hfj,hm]
theorem one_mag{U:Nat}(hU:U=1074):mag 4607182418800017408=2^U:=by
 obtain⟨V,hV⟩:∃ V:Nat,V=1022:=⟨_,rfl⟩
 have h:=mag_two_pow V;rw [<- Nat.pow_add,show 52+V=U by omega,show (V+1)*2^52=4607182418800017408 by omega] at h
 exact h
theorem mag_around{t:Nat}(h:(122+1)*2^52<=t):∃ Q k:Nat,mag t=Q*2^k/\mag (t+1)=(Q+1)*2^k/\(Q - 1)*2^k<=mag (t - 1)/\2^52<=Q/\Q<2^53:=by
 obtain⟨k,Q,e,hk,hQ⟩:=rung_form t
 have hQ2:2^52<=Q:=by omega
 refine⟨Q,k,by rw [e];exact mag_form k Q (.inr hQ2) (by omega),by rw [e,Nat.add_assoc];exact mag_form k (Q+1) (.inr (by omega)) (by omega),?_,hQ2,hQ⟩
 by_cases c:Q=2^52
 ·obtain⟨k',rfl⟩:∃ k',k=k'+1:=⟨k - 1,by omega⟩
  have e1:(Q - 1)*2^(k'+1)=(2^53 - 2)*2^k':=by
   rw [Nat.pow_succ',<- Nat.mul_assoc];congr 1;omega
  have e2:=mag_form k' (2^53 - 2) (.inr (by omega)) (by omega);rw [e1,<- e2]
  exact mag_le_iff.2 (by omega)
 ·rw [show t - 1=k*2^52+(Q - 1) by omega,mag_form k (Q - 1) (.inr (by omega)) (by omega)]
  exact Nat.le_refl _
theorem near_one{Q E P V:Nat}{N:Int}(hQ:2^52<=Q)(hP:P=2^51*V)(hV:0<V)(h1:(Q - 1)*E<=P*P)(h2:P*P<=(Q+1)*E)(hN:((Q*E:Nat):Int)=N*(P:Int)):(P:Int) - N<=V/\N - (P:Int)<=V:=by
 have hP0:0<P:=by omega
 have hE:2^51*E<=P*P:=Nat.le_trans (Nat.mul_le_mul_right E (by omega)) h1
 have hE2:E<=V*P:=by
  have:2^51*E<=2^51*(V*P):=by rw [<- Nat.mul_assoc,<- hP];exact hE
  exact Nat.le_of_mul_le_mul_left this (by decide)
 have e1:(Q - 1)*E+E=Q*E:=by rw [<- Nat.succ_mul];congr 1;omega
 have e2:(Q+1)*E=Q*E+E:=Nat.succ_mul Q E
 have hP1:(0:Int)<P:=by omega
 have c1:((P*P:Nat):Int)=(P:Int)*P:=Int.natCast_mul _ _;have c2:((V*P:Nat):Int)=(V:Int)*P:=Int.natCast_mul _ _
 constructor
 ·have:((P:Int) - N)*P<=(V:Int)*P:=by rw [Int.sub_mul];omega
  exact Int.le_of_mul_le_mul_right this hP1
 ·have:(N - (P:Int))*P<=(V:Int)*P:=by rw [Int.sub_mul];omega
  exact Int.le_of_mul_le_mul_right this hP1
theorem rep_close{n:Int}{U:Nat}(hU:60<=U)(hn:Rep n)(h1:(2:Int)^U - 2^(U - 51)<=n)(h2:n<=(2:Int)^U+2^(U - 51)):Rep ((2:Int)^U - n):=by
 obtain⟨k,hk⟩:∃ k,U=53+k:=⟨U - 53,by omega⟩
 have e1:(2:Int)^U=2^53*2^k:=by rw [hk,Int.pow_add]
 have e2:(2:Int)^(U - 51)=4*2^k:=by rw [hk,show 53+k - 51=2+k by omega,Int.pow_add];rfl
 have hp:(0:Int)<2^k:=by exact_mod_cast Nat.two_pow_pos k
 have e3:((2^k:Nat):Int)=2^k:=by push_cast;rfl
 have hd:(2:Int)^k ∣ n:=by
  refine rep_dvd hn ?_;have:(2:Int)^(52+k)=2^52*2^k:=Int.pow_add _ _ _
  have h3:((2^(52+k):Nat):Int)<=n:=by push_cast;rw [this];omega
  omega
 refine rep_of_dvd k (Int.dvd_sub (by rw [e1];exact Int.dvd_mul_left _ _) hd) ?_
 have e4:((2^53*2^k:Nat):Int)=2^53*2^k:=by rw [Int.natCast_mul,Int.natCast_pow,Int.natCast_pow];rfl
 omega
theorem too_small{g X R:Nat}(hg:g=122)(h2:X<=(g+1)*2^52)(h3:R=min X M)(h4:553942754166571008<R):False:=by
 have:M=9218868437227405312:=rfl
 omega
theorem quick_recip{d:Int}(hd:d=-1\/d=1){y q p:Nat}(hy:L64 y)(my:mid y=true)(sy:sgn y=false)(hq:FloatKind.f64.format.div 4607182418800017408 y=some q)(mq:mid q=true)(hp:FloatKind.f64.format.mul q y=some p)(mp:mid p=true):
  ∃ xt xu xh xl yt yu yh yl z1 e0 z2 e1 z3 e2 z4 e f g:Nat,FloatKind.f64.format.mul 4728779608772575232 q=some xt/\FloatKind.f64.format.sub xt q=some xu/\FloatKind.f64.format.sub xt xu=some xh/\FloatKind.f64.format.sub q xh=some xl /\
   FloatKind.f64.format.mul 4728779608772575232 y=some yt/\FloatKind.f64.format.sub yt y=some yu/\FloatKind.f64.format.sub yt yu=some yh/\FloatKind.f64.format.sub y yh=some yl /\
   FloatKind.f64.format.mul xh yh=some z1/\FloatKind.f64.format.sub z1 p=some e0/\FloatKind.f64.format.mul xh yl=some z2/\FloatKind.f64.format.add e0 z2=some e1 /\
   FloatKind.f64.format.mul xl yh=some z3/\FloatKind.f64.format.add e1 z3=some e2/\FloatKind.f64.format.mul xl yl=some z4/\FloatKind.f64.format.add e2 z4=some e /\
   FloatKind.f64.format.sub 4607182418800017408 p=some f/\FloatKind.f64.format.sub f e=some g/\g<18446744073709551616 /\
   q<18446744073709551616/\rungOf q<M/\rungOf g<=M/\nud d (idx q) (idx g)=rndI d (1 / fl (idx y)):=by
 have hM:M=9218868437227405312:=rfl
 obtain⟨T,hT⟩:∃ T:Nat,T=1974:=⟨_,rfl⟩
 obtain⟨L,hL⟩:∃ T:Nat,T=174:=⟨_,rfl⟩
 obtain⟨U,hU⟩:∃ T:Nat,T=1074:=⟨_,rfl⟩
 have my':=mid_iff.1 my;have mq':=mid_iff.1 mq;have mp':=mid_iff.1 mp
 have r1:rungOf 4607182418800017408=4607182418800017408:=by decide
 obtain⟨r,t,hr,his,-,near1,near2⟩:=div_pos hU (show fin 4607182418800017408 by unfold fin;rw [r1];omega) (show fin y by unfold fin;omega) (by decide) sy (by rw [r1];omega) (by omega)
 obtain rfl:r=q:=Option.some.inj (hr.symm.trans hq)
 have ti:idx r=(t:Int):=his.idx
 have tr:rungOf r=t:=by have:=idx_natAbs r;rw [ti] at this;omega
 have hlt:r<18446744073709551616:=his.lt;obtain⟨m,a,fx,m1,m2,bx,-⟩:=middle_form hT hL hlt (by omega) (by omega);obtain⟨n,b,fy,n1,n2,by_,-⟩:=middle_form hT hL hy (by omega) (by omega);obtain⟨r',hr',his'⟩:=mul_fin (show fin r by unfold fin;omega) (show fin y by unfold fin;omega)
 obtain rfl:r'=p:=Option.some.inj (hr'.symm.trans hp)
 rw [<- hU] at his';have hip:=his'.idx
 have hv:val (idx r)*val (idx y)=m*2^a*(n*2^b):=by rw [fx.val,fy.val]
 have hab:U<=a+b:=by
  rcases Nat.lt_or_ge (a+b) U with h | h
  ·exfalso
   obtain⟨g,hg⟩:∃ g:Nat,g=122:=⟨_,rfl⟩
   have h2:=prod_small (V:=val (idx r)*val (idx y)) hv m2 n2 (show 54<=g by omega) h;have h3:=near_natAbs (val (idx r)*val (idx y)) U;rw [<- hip,idx_natAbs] at h3
   exact too_small hg h2 h3 mp'.1
  ·exact h
 have fp:Fl r' (val (idx r')):=⟨his'.lt,by unfold fin;omega,rfl⟩
 have bp:=not_great (x:=r') (t:=1922) (T:=T) (by omega) (by omega);obtain⟨xt,xu,xh,xl,yt,yu,yh,yl,z1,e0,z2,e1,z3,e2,z4,e,q1,q2,q3,q4,q5,q6,q7,q8,q9,q10,q11,q12,q13,q14,q15,q16,N,hN,fpN,fe⟩:=quick_mul hU hT fx m1 m2 bx fy n1 n2 by_ hp fp.fin bp hab
 -- what lies about 1
 have hY:val (idx y)=((mag (rungOf y):Nat):Int):=by
  rw [val_idx,sy];rfl
 have hX:val (idx r)=((mag t:Nat):Int):=by rw [ti,val_nat]
 have hXY:((mag t*mag (rungOf y):Nat):Int)=N*2^U:=by
  rw [Int.natCast_mul,<- hX,<- hY,hv,hN]
 have hY0:0<mag (rungOf y):=mag_pos (by omega);obtain⟨Q,k,a1,a2,a3,a4,a5⟩:=mag_around (t:=t) (by omega);rw [r1,one_mag hU] at near1 near2
 have lo:mag (t - 1)*mag (rungOf y)<2^U*2^U:=by
  rcases Nat.lt_or_ge (mag (t - 1)*mag (rungOf y)) (2^U*2^U) with c | c
  ·exact c
  ·have:=near2 (t - 1) c;omega
 have hi:2^U*2^U<mag (t+1)*mag (rungOf y):=by
  rcases Nat.lt_or_ge (2^U*2^U) (mag (t+1)*mag (rungOf y)) with c | c
  ·exact c
  ·have:=near1 (t+1) (by omega) c;omega
 obtain⟨V,hV⟩:∃ V:Nat,V=2^(U - 51):=⟨_,rfl⟩
 have hPV:2^U=2^51*V:=by rw [hV,<- Nat.pow_add];congr 1;omega
 have hV0:0<V:=by rw [hV];exact Nat.two_pow_pos _
 have hPc:((2^U:Nat):Int)=(2:Int)^U:=by push_cast;rfl
 have hVc:(V:Int)=(2:Int)^(U - 51):=by rw [hV];push_cast;rfl
 obtain⟨no1,no2⟩:=near_one (E:=2^k*mag (rungOf y)) (P:=2^U) (N:=N) a4 hPV hV0
  (by rw [<- Nat.mul_assoc];exact Nat.le_of_lt (Nat.lt_of_le_of_lt (Nat.mul_le_mul_right _ a3) lo))
  (by rw [<- Nat.mul_assoc,<- a2];exact Nat.le_of_lt hi)
  (by rw [<- Nat.mul_assoc,<- a1,hXY,hPc])
 rw [hPc,hVc] at no1 no2
 have hU60:60<=U:=by omega
 have repU:Rep ((2:Int)^U):=rep_two_pow U
 have rlo:Rep ((2:Int)^U - 2^(U - 51)):=by
  refine rep_of_dvd (U - 53) ?_ ?_
  ·exact Int.dvd_sub (pow_dvd_le (by omega)) (pow_dvd_le (by omega))
  ·have e1:(2:Int)^(U - 51)=4*2^(U - 53):=by rw [show U - 51=2+(U - 53) by omega,Int.pow_add];rfl
   have e2:(2:Int)^U=2^53*2^(U - 53):=by rw [<- Int.pow_add];congr 1;omega
   have e3:((2^53*2^(U - 53):Nat):Int)=2^53*2^(U - 53):=by rw [Int.natCast_mul,Int.natCast_pow,Int.natCast_pow];rfl
   have hp0:(0:Int)<2^(U - 53):=by exact_mod_cast Nat.two_pow_pos (U - 53)
   omega
 have rhi:Rep ((2:Int)^U+2^(U - 51)):=by
  refine rep_of_dvd (U - 52) ?_ ?_
  ·exact Int.dvd_add (pow_dvd_le (by omega)) (pow_dvd_le (by omega))
  ·have e1:(2:Int)^(U - 51)=2*2^(U - 52):=by rw [show U - 51=1+(U - 52) by omega,Int.pow_add];rfl
   have e2:(2:Int)^U=2^52*2^(U - 52):=by rw [<- Int.pow_add];congr 1;omega
   have e3:((2^53*2^(U - 52):Nat):Int)=2^53*2^(U - 52):=by rw [Int.natCast_mul,Int.natCast_pow,Int.natCast_pow];rfl
   have hp0:(0:Int)<2^(U - 52):=by exact_mod_cast Nat.two_pow_pos (U - 52)
   omega
 have b1:=le_R rlo (show (2:Int)^U - 2^(U - 51)<=N by omega);have b2:=R_le rhi (show N<=(2:Int)^U+2^(U - 51) by omega);have repD:=rep_close hU60 (R_rep N) b1 b2
 have hone:Fl 4607182418800017408 ((2:Int)^U):=by
  refine⟨by decide,by unfold fin;rw [r1];omega,?_⟩;rw [val_idx,r1,one_mag hU,show sgn 4607182418800017408=false by decide,<- hPc];rfl
 have hp51:(0:Int)<2^(U - 51):=by exact_mod_cast Nat.two_pow_pos (U - 51)
 have hle51:(2:Int)^(U - 51)<=2^U:=by rw [<- hPc,<- hVc,hPV];omega
 have hQb:((2^U:Nat):Int)=(2:Int)^U:=hPc;obtain⟨f,hf,ff⟩:=Fl.sub2 (Q:=U) (by omega) hone fpN (by omega);rw [R_of_rep repD] at ff
 obtain⟨g,hg,fg⟩:=Fl.sub2 (Q:=U) (by omega) ff fe (by
  rw [show (2:Int)^U - R N - (N - R N)=(2:Int)^U - N by omega];omega)
 rw [show (2:Int)^U - R N - (N - R N)=(2:Int)^U - N by omega] at fg;refine⟨xt,xu,xh,xl,yt,yu,yh,yl,z1,e0,z2,e1,z3,e2,z4,e,f,g,q1,q2,q3,q4,q5,q6,q7,q8,q9,q10,q11,q12,q13,q14,q15,q16,hf,hg,fg.lt,hlt,by omega,Nat.le_of_lt fg.fin,?_⟩
 have sg1:idx g<0↔(2:Int)^U<N:=by
  have h:=@val_lt_iff (idx g) 0;rw [val_zero,fg.val] at h;rw [<- h]
  constructor
  ·intro c
   rcases Int.lt_or_le ((2:Int)^U) N with k | k
   ·exact k
   ·have:=R_nonneg (n:=(2:Int)^U - N) (by omega);omega
  ·intro c;have k1:=R_nonpos (n:=(2:Int)^U - N) (by omega);have k2:=@R_eq_zero ((2:Int)^U - N)
   omega
 have sg2:0<idx g↔N<(2:Int)^U:=by
  have h:=@val_lt_iff 0 (idx g);rw [val_zero,fg.val] at h;rw [<- h]
  constructor
  ·intro c
   rcases Int.lt_or_le N ((2:Int)^U) with k | k
   ·exact k
   ·have:=R_nonpos (n:=(2:Int)^U - N) (by omega);omega
  ·intro c;have k1:=R_nonneg (n:=(2:Int)^U - N) (by omega);have k2:=@R_eq_zero ((2:Int)^U - N)
   omega
 have iy:idx y=((rungOf y:Nat):Int):=by
  unfold idx;rw [sy];rfl
 have hP0:0<2^U:=Nat.two_pow_pos U
 have cmp1:mag t*mag (rungOf y)<=2^U*2^U↔N<=(2:Int)^U:=by
  rw [<- Int.ofNat_le,hXY,Int.natCast_mul,hPc]
  exact⟨fun h=>Int.le_of_mul_le_mul_right h (by rw [<- hPc];omega),fun h=>Int.mul_le_mul_of_nonneg_right h (by rw [<- hPc];omega)⟩
 have cmp2:2^U*2^U<=mag t*mag (rungOf y)↔(2:Int)^U<=N:=by
  rw [<- Int.ofNat_le,hXY,Int.natCast_mul,hPc]
  exact⟨fun h=>Int.le_of_mul_le_mul_right h (by rw [<- hPc];omega),fun h=>Int.mul_le_mul_of_nonneg_right h (by rw [<- hPc];omega)⟩
 have l0:=le_recip (i:=t) hU hY0;have l1:=le_recip (i:=t+1) hU hY0;have l2:=le_recip (i:=t - 1) hU hY0;rw [cmp1,cmp2] at l0
 have t1:((t - 1:Nat):Int)=(t:Int) - 1:=by omega
 have t2:((t+1:Nat):Int)=(t:Int)+1:=by omega
 rw [t1] at l2;rw [t2] at l1
 have c1:1 / fl ((rungOf y:Nat):Int)<fl ((t:Int)+1):=by
  have:¬ fl ((t:Int)+1)<=1 / fl ((rungOf y:Nat):Int):=fun h=>by have:=l1.1.1 h;omega
  grind
 have c2:fl ((t:Int) - 1)<1 / fl ((rungOf y:Nat):Int):=by
  have:¬ 1 / fl ((rungOf y:Nat):Int)<=fl ((t:Int) - 1):=fun h=>by have:=l2.2.1 h;omega
  grind
 rw [ti,iy];unfold nud
 rcases hd with rfl | rfl
 ·by_cases c:(2:Int)^U<N
  ·rw [if_pos ⟨rfl,sg1.2 c⟩];refine (rndI_down_at (by omega) (by omega) (Rat.le_of_lt c2) ?_).symm;rw [show (t:Int) - 1+1=t by omega]
   have:¬ fl (t:Int)<=1 / fl ((rungOf y:Nat):Int):=fun h=>by have:=l0.1.1 h;omega
   grind
  ·rw [if_neg (fun h=>c (sg1.1 h.2)),if_neg (by omega)]
   exact (rndI_down_at (by omega) (by omega) (l0.1.2 (by omega)) c1).symm
 ·by_cases c:N<(2:Int)^U
  ·rw [if_neg (by omega),if_pos ⟨rfl,sg2.2 c⟩];refine (rndI_up_at (by omega) (by omega) (Rat.le_of_lt c1) ?_).symm;rw [show (t:Int)+1 - 1=t by omega]
   have:¬ 1 / fl ((rungOf y:Nat):Int)<=fl (t:Int):=fun h=>by have:=l0.2.1 h;omega
   grind
  ·rw [if_neg (by omega),if_neg (fun h=>c (sg2.1 h.2))]
   exact (rndI_up_at (by omega) (by omega) (l0.2.2 (by omega)) c2).symm
end
end Go.Proofs.YthlmlmfebpjgdaaGreatDoor
