/-
Lemmas for the statement: Root2T Sq2T AwT.
-/
import Derived.Test.YthlmlmfebpjgdaaGreatDoorPWholeT
import Derived.Test.YthlmlmfebpjgdaaGreatDoorPMathT
import Derived.Test.YthlmlmfebpjgdaaGreatDoorPCut2T
import Derived.Test.YthlmlmfebpjgdaaGreatDoorPAbT
import Derived.Test.YthlmlmfebpjgdaaGreatDoorPAddT
import Derived.Test.YthlmlmfebpjgdaaGreatDoorPBothT
import Derived.Deep.DeepCutAuto
set_option linter.unusedSimpArgs false
set_option linter.unusedVariables false
set_option maxHeartbeats 12800000
namespace Go.Proofs.YthlmlmfebpjgdaaGreatDoor
section
open Go.RowKit
theorem sgn_pat2{i:Int}(h:-(M:Int)<=i/\i<=M)(h0:i≠0):sgn (pat i)=decide (i<0):=by
 have c:=pat_cases (pat_lt h.1 h.2);rw [idx_pat h.1 h.2] at c
 rcases c with ⟨c1,c2,c3,c4⟩ | ⟨c1,c2,c3,c4⟩
 ·rw [c3,decide_eq_false (by omega)]
 ·rw [c3,decide_eq_true (by omega)]
theorem rv_rq{s n R:Nat}(neg:Bool)(E:Int):(if R ^ n=s then rv neg R 1*2 ^ E else rv neg (2*R+1) 2*2 ^ E)=if neg=true then - rq s n R (2 ^ E) else rq s n R (2 ^ E):=by
 unfold rq rv
 by_cases h:R ^ n=s
 ·rw [if_pos h,if_pos h]
  cases neg<;>simp<;>grind
 ·rw [if_neg h,if_neg h]
  cases neg
  ·simp only [Bool.false_eq_true,if_false];push_cast;grind
  ·simp only [if_true];push_cast;grind
theorem root_q(S n:Nat)(e:Int)(hS:0<S)(hS2:S<9007199254740992)(he:-1074<=e/\e<=971)(hn:1<=n)(hn2:n<=1024):∃ q:Rat,(∀ i:Int,fl i=(S:Rat)*2 ^ e->RtOk i n q) /\
  ∀ (d:Int) (neg:Bool) (A:Option Addr) (m c:Nat) (w:World),d=-1\/d=1->U32s w A m c (digs S) ->
   Calls Tryz.prog 223 #[.int .i64 d,.agg #[.bool neg,.slice A m c,.int .i64 e],.int .i64 (n:Int)] w fun e' w'=>e'=.returned (.float .f64 (pat (rndI d (if neg=true then -q else q))))/\Below w.heap.size w w':=by
 have hb:blen S<=53:=blen_le_iff.2 (by omega)
 have hb0:0<blen S:=by
  rcases Nat.eq_zero_or_pos (blen S) with h | h
  ·have:=blen_eq_zero.1 h;omega
  ·exact h
 obtain⟨k0,hk0⟩:∃ k:Nat,max 0 (58*(n:Int) - (blen S:Int))=(k:Int):=⟨58*n - blen S,by omega⟩
 have hn0:(0:Int)<(n:Int):=by omega
 have hm1:=Int.emod_nonneg (e - (k0:Int)) (show (n:Int)≠0 by omega);have hm2:=Int.emod_lt_of_pos (e - (k0:Int)) hn0;have hdm:=Int.mul_ediv_add_emod (e - (k0:Int)) (n:Int)
 obtain⟨J,hJ⟩:∃ J:Nat,(e - (k0:Int)) % (n:Int)=(J:Int):=⟨((e - (k0:Int)) % (n:Int)).toNat,by omega⟩
 obtain⟨E,hE⟩:∃ E:Int,(e - (k0:Int)) / (n:Int)=E:=⟨_,rfl⟩
 rw [hJ,hE] at hdm;rw [hJ] at hm2
 have hek:e - ((k0+J:Nat):Int)=(n:Int)*E:=by omega
 have hEb:-100000<=E/\E<=100000:=by
  rw [<- hE]
  constructor
  ·rw [Int.le_ediv_iff_mul_le hn0];omega
  ·exact Int.le_of_lt (Int.ediv_lt_of_lt_mul hn0 (by omega))
 obtain⟨s,hs⟩:∃ s,S*2 ^ (k0+J)=s:=⟨_,rfl⟩
 have hs0:0<s:=by rw [<- hs];exact Nat.mul_pos hS (Nat.two_pow_pos _)
 obtain⟨r,hr⟩:=exists_root n (by omega) s
 have h58:2 ^ (58*n - 1)<=s:=by
  rw [<- hs]
  have h1:2 ^ (blen S - 1)<=S:=by
   rcases Nat.lt_or_ge S (2 ^ (blen S - 1)) with q | q
   ·have:=blen_le_iff.2 q;omega
   ·exact q
  calc 2 ^ (58*n - 1)<=2 ^ (blen S - 1+(k0+J)):=Nat.pow_le_pow_right (by omega) (by omega)
   _=2 ^ (blen S - 1)*2 ^ (k0+J):=Nat.pow_add ..
   _<=S*2 ^ (k0+J):=Nat.mul_le_mul_right _ h1
 have hR:144115188075855872<=r:=by
  rcases Nat.lt_or_ge r 144115188075855872 with q | q
  ·exfalso
   have h2:=Nat.pow_le_pow_left (show r+1<=2 ^ 57 by omega) n;rw [<- Nat.pow_mul] at h2;have h3:(2:Nat) ^ (57*n)<=2 ^ (58*n - 1):=Nat.pow_le_pow_right (by omega) (by omega);have:=hr.2
   omega
  ·exact q
 refine⟨rq s n r (2 ^ E),fun i hi=>?_,fun d neg A m c w hd hu=>?_⟩
 ·refine rq_ok (by omega) hr hR ?_;rw [hi,<- hek,<- hs,show e=((k0+J:Nat):Int)+(e - ((k0+J:Nat):Int)) from by omega,zpow_add,zpow_nat]
  push_cast
  rw [show ((k0:Int)+(J:Int)+(e - ((k0:Int)+(J:Int))) - ((k0:Int)+(J:Int)))=e - ((k0:Int)+(J:Int)) from by omega]
  grind
 ·have hrb:blen r<=70000:=by
   have h1:r<=s:=by
    refine Nat.le_trans ?_ hr.1
    calc r=r ^ 1:=(Nat.pow_one r).symm
     _<=r ^ n:=Nat.pow_le_pow_right (by omega) hn
   refine Nat.le_trans (blen_mono h1) ?_;rw [<- hs];have:=blen_mul S (2 ^ (k0+J));have:blen (2 ^ (k0+J))<=k0+J+1:=blen_le_iff.2 (Nat.pow_lt_pow_right (by omega) (by omega))
   omega
  have hb58:58<=blen r:=by
   rcases Nat.lt_or_ge (blen r) 58 with q | q
   ·have:=blen_le_iff.1 (show blen r<=57 by omega);omega
   ·exact q
  obtain⟨more,hmo⟩:∃ b,(!(cmp3 (r ^ n) s == 0))=b:=⟨_,rfl⟩
  refine root_walk d neg more S n k0 J r s _ e E _ A m c w hu (by omega) hn hn2 (by omega) hk0 (by omega) (fun i hi=>?_) ?_ ?_ hEb hs hs0 hr rfl hmo (fun W B m' c' hB=>?_)
  ·rw [<- Int.dvd_iff_tmod_eq_zero];rintro⟨t,ht⟩
   have h1:(e - ((k0+i:Nat):Int))=(n:Int)*E+((J:Int) - (i:Int)):=by omega
   have h2:(n:Int)*(t - E)=(J:Int) - (i:Int):=by rw [Int.mul_sub];omega
   have h3:0<t - E:=by
    rcases Int.lt_or_le 0 (t - E) with q | q
    ·exact q
    ·have:=Int.mul_nonneg (show 0<=(n:Int) by omega) (show 0<=-(t - E) by omega);rw [Int.mul_neg] at this;omega
   have h4:(n:Int)*1<=(n:Int)*(t - E):=Int.mul_le_mul_of_nonneg_left (by omega) (by omega)
   omega
  ·rw [hek,Int.mul_tmod_right]
  ·rw [hek,Int.mul_tdiv_cancel_left _ (by omega)]
  ·rw [<- rv_rq]
   by_cases h:r ^ n=s
   ·rw [if_pos h]
    have e1:more=false:=by rw [<- hmo,cmp3_eq h];rfl
    rw [e1];have ho:=of_quo d neg B m' c' r 1 0 E W (by omega) (by omega) (by omega) (by omega) (by have:blen 1<=1:=blen_le_iff.2 (by omega);omega) (by rw [Nat.pow_zero,Nat.mul_one,Nat.div_one];exact hB) hd (by omega) (by omega);rw [Nat.pow_zero,Nat.mul_one,Nat.mod_one,show (E - ((0:Nat):Int))=E from by omega] at ho
    exact ho
   ·rw [if_neg h]
    have e1:more=true:=by
     rw [<- hmo];have:cmp3 (r ^ n) s≠0:=fun k=>h (cmp3_zero.1 k)
     simpa using this
    rw [e1]
    have b2:blen (2*r+1)<=blen r+1:=by
     have:=blen_le_iff.1 (Nat.le_refl (blen r))
     exact blen_le_iff.2 (by rw [Nat.pow_succ];omega)
    have b3:blen r+1<=blen (2*r+1):=by
     have:=blen_half (n:=2*r+1) (by omega);rw [show (2*r+1) / 2=r by omega] at this;omega
    have ho:=of_quo d neg B m' c' (2*r+1) 2 0 E W (by omega) (by omega) (by omega) (by omega) (by have:blen 2<=2:=blen_le_iff.2 (by omega);omega) (by rw [Nat.pow_zero,Nat.mul_one,show (2*r+1) / 2=r by omega];exact hB) hd (by omega) (by omega);rw [Nat.pow_zero,Nat.mul_one,show (2*r+1) % 2=1 by omega,show (E - ((0:Nat):Int))=E from by omega] at ho
    exact ho
theorem root_nought(d:Int)(n:Nat)(w:World)(hn:1<=n)(hn2:n<=1024):
  Rt 174 #[.int .i64 d,.float .f64 0,.int .i64 (n:Int)] (.float .f64 0) w:=by
 have hM:=M_val;have HN:=Hd fun W=>isnanf (pat 0) W (by rw [rung_pat (by omega) (by omega)];omega);have o:=ord0_eq (i:=0) rfl;rw [pat_zero] at HN o
 have h1:¬ (n:Int)<1:=by omega
 have h2:¬ (1024:Int)<(n:Int):=by omega
 rcases Nat.mod_two_eq_zero_or_one n with hp | hp
 all_goals
  have hpi:(n:Int) % 2=((n % 2:Nat):Int):=by omega
  rw [hp] at hpi;clear hp
  go_enter Tryz.func174,Tryz.ntmps174
  go_wp2_with fail;refine (HN.out _).mono ?_;rintro e w' ⟨rfl,rfl⟩;go_wp2
  go_ret
  exact⟨rfl,Below.refl _ _⟩
theorem root_far(d i:Int)(n:Nat)(o:Ordering)(w:World)(hn:1<=n)(hn2:n<=1024)(hi:i=M\/i=-(M:Int))(hp:n % 2=1\/i=M):
  Rt 174 #[.int .i64 d,.float .f64 (pat i),.int .i64 (n:Int)] (.float .f64 (pat i)) w:=by
 have hM:=M_val
 have hr:-(M:Int)<=i/\i<=M:=by omega
 have HN:=Hd fun W=>isnanf (pat i) W (by rw [rung_pat hr.1 hr.2];omega);have HF:=Hd fun W=>isinff (pat i) W (pat_lt hr.1 hr.2) (by rw [rung_pat hr.1 hr.2];omega);rw [rung_pat hr.1 hr.2,decide_eq_true (show i.natAbs=M by omega)] at HF;have o:=ord0 hr
 obtain⟨x,hx⟩:∃ x,pat i=x:=⟨_,rfl⟩
 rw [hx] at HN HF o ⊢
 have h1:¬ (n:Int)<1:=by omega
 have h2:¬ (1024:Int)<(n:Int):=by omega
 have hpi:(n:Int) % 2=((n % 2:Nat):Int):=by omega
 have hc:(n % 2=1/\(compare i 0=.lt\/compare i 0=.gt))\/(n % 2=0/\compare i 0=.gt):=by
  rcases hi with hi | hi
  ·have:compare i 0=.gt:=Int.compare_eq_gt.2 (by omega)
   rcases Nat.mod_two_eq_zero_or_one n with hp | hp
   ·exact .inr ⟨hp,this⟩
   ·exact .inl ⟨hp,.inr this⟩
  ·exact .inl ⟨by rcases hp with h | h<;>omega,.inl (Int.compare_eq_lt.2 (by omega))⟩
 clear hi hp hr hx
 rcases hc with ⟨e1,e2 | e2⟩ | ⟨e1,e2⟩
 all_goals
  rw [e1] at hpi;rw [e2] at o;clear e1 e2
  go_enter Tryz.func174,Tryz.ntmps174
  go_wp2_with fail;refine (HN.out _).mono ?_;rintro e w' ⟨rfl,rfl⟩;go_wp2_with fail;refine (HF.out _).mono ?_;rintro e w' ⟨rfl,rfl⟩;go_wp2
  go_ret
  exact⟨rfl,Below.refl _ _⟩
theorem root_some(d:Int)(x n z:Nat)(neg:Bool)(S:Nat)(e:Int)(o:Ordering)(w:World)(hn:1<=n)(hn2:n<=1024)(hN:∀ W,Calls Tryz.prog 221 #[.float .f64 x] W fun e w'=>e=.returned (.bool false)/\W=w')(hF:∀ W,Calls Tryz.prog 161 #[.float .f64 x,.int .i64 0] W fun e w'=>e=.returned (.bool false)/\W=w')
  (ho:FloatKind.f64.format.order x 0=some o)(hc:(n % 2=1/\(o=.lt\/o=.gt))\/(n % 2=0/\o=.gt))(hP:∀ W,Calls Tryz.prog 189 #[.float .f64 x] W (NewDy W neg S e))(hR:∀ A m c W,U32s W A m c (digs S)->Calls Tryz.prog 223 #[.int .i64 d,.agg #[.bool neg,.slice A m c,.int .i64 e],.int .i64 (n:Int)] W fun e' w'=>e'=.returned (.float .f64 z)/\Below W.heap.size W w'):
  Rt 174 #[.int .i64 d,.float .f64 x,.int .i64 (n:Int)] (.float .f64 z) w:=by
 have HN:=Hd hN;have HF:=Hd hF;have HP:=Hd hP;have HR:=Hd hR
 have h1:¬ (n:Int)<1:=by omega
 have h2:¬ (1024:Int)<(n:Int):=by omega
 have hpi:(n:Int) % 2=((n % 2:Nat):Int):=by omega
 clear hN hF hP hR
 rcases hc with ⟨e1,rfl | rfl⟩ | ⟨e1,rfl⟩
 all_goals
  rw [e1] at hpi;clear e1
  go_enter Tryz.func174,Tryz.ntmps174
  go_wp2_with fail;refine (HN.out _).mono ?_;rintro e w' ⟨rfl,rfl⟩;go_wp2_with fail;refine (HF.out _).mono ?_;rintro e w' ⟨rfl,rfl⟩;go_wp2_with fail;refine (HP.out _).mono ?_;rintro e' w1 ⟨A,m,c,rfl,hu,hb⟩;have HRR:=Hd (HR.out A m c w1 hu);have HB:=Hd hb;clear hu hb HR HP;go_wp2_with fail;refine HRR.out.mono ?_;rintro e' w2 ⟨rfl,hb2⟩;have HB2:=Hd (HB.out.trans (hb2.mono HB.out.size));clear hb2 HB HRR;go_wp2
  go_ret
  exact⟨rfl,HB2.out⟩
theorem rt_ok{i:Int}{n:Nat}(h0:0<i)(h1:i<M)(hn:1<=n)(hn2:n<=1024):RtOk i n (rootq i n):=by
 have hM:=M_val
 have hi:-(M:Int)<=i/\i<=M:=by omega
 obtain⟨S,e,b1,b2,b3,hv,-⟩:=part_any (pat i) (pat_lt hi.1 hi.2) (by unfold fin;rw [rung_pat hi.1 hi.2];omega);rw [idx_pat hi.1 hi.2,sgn_pat2 hi (by omega),decide_eq_false (by omega)] at hv
 have hf:fl i=(S:Rat)*2 ^ e:=by
  rw [hv];unfold rv;simp only [Bool.false_eq_true,if_false];grind
 have hS:0<S:=by
  rcases Nat.eq_zero_or_pos S with h | h
  ·exfalso
   have hz:fl i=0:=by rw [hf,h];grind
   have:=fl_lt_iff.2 h0;rw [fl_zero] at this;grind
  ·exact h
 obtain⟨q,hq,-⟩:=root_q S n e hS b1 ⟨b2,b3⟩ hn hn2
 exact rootq_ok (hq i hf)
theorem rti_lo{d a:Int}{n:Nat}(hd:d=-1\/d=1)(h0:0<=a)(h1:a<=M)(hn:1<=n)(hn2:n<=1024):0<=rti d a n/\rti d a n<=M/\(d=-1->a<M->rti d a n<M):=by
 have hM:=M_val;unfold rti rt1;rw [if_neg (by omega)]
 by_cases h:a=0\/a=M
 ·rw [if_pos h];omega
 ·rw [if_neg h];have hq:=(rt_ok (i:=a) (n:=n) (by omega) (by omega) hn hn2).1;have r1:=rndI_down (rootq a n);have r2:=rndI_up (rootq a n);have r3:=rndI_mono hd (x:=0) (y:=rootq a n) (by grind);rw [rndI_zero hd] at r3
  rcases hd with rfl | rfl<;>omega
theorem rti_mono{a b:Int}{n:Nat}(h0:0<=a)(hab:a<=b)(ha:a<M)(h1:b<=M)(hn:1<=n)(hn2:n<=1024):rti (-1) a n<=rti 1 b n:=by
 have hM:=M_val;have ra:=rti_lo (d:=-1) (a:=a) (n:=n) (.inl rfl) h0 (by omega) hn hn2;have rb:=rti_lo (d:=1) (a:=b) (n:=n) (.inr rfl) (by omega) h1 hn hn2;unfold rti rt1 at *;rw [if_neg (by omega)] at *
 by_cases hb:b=M
 ·have eb:(if b<0 then -(if -b=0\/-b=(M:Int) then -b else rndI (-1) (rootq (-b) n)) else if b=0\/b=(M:Int) then b else rndI 1 (rootq b n))=M:=by
   rw [if_neg (by omega),if_pos (.inr hb)];exact hb
  rw [eb];omega
 ·by_cases hz:a=0
  ·rw [if_pos (.inl hz)];omega
  ·rw [if_neg (by omega)] at *;rw [if_neg (by omega)] at *;rw [if_neg (by omega)] at *;have qa:=rt_ok (i:=a) (n:=n) (by omega) ha hn hn2;have qb:=rt_ok (i:=b) (n:=n) (by omega) (by omega) hn hn2;have da:=rndI_down (rootq a n);have ub:=rndI_up (rootq b n);have f1:=(da.2.2 (rndI (-1) (rootq a n)) (by omega) (by omega)).1 (Int.le_refl _);have f2:=(qa.2 _ ra.1).1.1 f1;have f3:fl a<=fl b:=fl_le_iff.2 hab;have f4:=(qb.2 _ ra.1).1.2 (Rat.le_trans f2 f3)
   by_cases hu:rndI 1 (rootq b n)=M
   ·omega
   ·have f5:=(ub.2.2 (rndI 1 (rootq b n)) (by omega) (by omega)).1 (Int.le_refl _)
    exact fl_le_iff.1 (Rat.le_trans f4 f5)
theorem rroot_any(d i:Int)(n:Nat)(w:World)(hd:d=-1\/d=1)(hi:-(M:Int)<=i/\i<=M)(hn:1<=n)(hn2:n<=1024)(hp:n % 2=1\/0<=i):
  Rt 174 #[.int .i64 d,.float .f64 (pat i),.int .i64 (n:Int)] (.float .f64 (pat (rti d i n))) w:=by
 have hM:=M_val
 by_cases h0:i=0
 ·subst h0
  have e:rti d 0 n=0:=by unfold rti rt1;rw [if_neg (by omega),if_pos (.inl rfl)]
  rw [e,pat_zero]
  exact root_nought d n w hn hn2
 by_cases h1:i=M\/i=-(M:Int)
 ·have e:rti d i n=i:=by
   unfold rti rt1
   split
   ·rw [if_pos (by omega)];omega
   ·rw [if_pos (by omega)]
  rw [e]
  exact root_far d i n .eq w hn hn2 h1 (by omega)
 obtain⟨S,e,b1,b2,b3,hv,hpt⟩:=part_any (pat i) (pat_lt hi.1 hi.2) (by unfold fin;rw [rung_pat hi.1 hi.2];omega);rw [idx_pat hi.1 hi.2,sgn_pat2 hi h0] at hv;rw [sgn_pat2 hi h0] at hpt
 have hS:0<S:=by
  rcases Nat.eq_zero_or_pos S with h | h
  ·exfalso
   have hz:fl i=0:=by rw [hv,h];unfold rv;split<;>grind
   rcases Int.lt_or_lt_of_ne h0 with c | c
   ·have:=fl_lt_iff.2 c;rw [fl_zero] at this;grind
   ·have:=fl_lt_iff.2 c;rw [fl_zero] at this;grind
  ·exact h
 obtain⟨q,hq,hroot⟩:=root_q S n e hS b1 ⟨b2,b3⟩ hn hn2;have HF:=fun W=>isinff (pat i) W (pat_lt hi.1 hi.2) (by rw [rung_pat hi.1 hi.2];omega);rw [rung_pat hi.1 hi.2,decide_eq_false (show ¬ i.natAbs=M by omega)] at HF
 have er:rndI d (if decide (i<0)=true then -q else q)=rti d i n:=by
  unfold rti
  by_cases hneg:i<0
  ·rw [if_pos (decide_eq_true hneg),if_pos hneg]
   have hf:fl (-i)=(S:Rat)*2 ^ e:=by
    rw [fl_neg,hv,decide_eq_true hneg];unfold rv;simp only [if_true];grind
   rw [rt1_of (by omega) (hq (-i) hf) (by omega) (by omega),<- rndI_neg (by omega),Int.neg_neg]
  ·rw [if_neg (by simpa using hneg),if_neg hneg]
   have hf:fl i=(S:Rat)*2 ^ e:=by
    rw [hv,decide_eq_false hneg];unfold rv;simp only [Bool.false_eq_true,if_false];grind
   rw [rt1_of hd (hq i hf) h0 (by omega)]
 rw [<- er]
 exact root_some d (pat i) n _ (decide (i<0)) S e (compare i 0) w hn hn2 (fun W=>isnanf (pat i) W (by rw [rung_pat hi.1 hi.2];omega)) HF (ord0 hi) (by
  rcases Int.lt_or_lt_of_ne h0 with c | c
  ·exact .inl ⟨by omega,.inl (Int.compare_eq_lt.2 c)⟩
  ·rcases Nat.mod_two_eq_zero_or_one n with k | k
   ·exact .inr ⟨k,Int.compare_eq_gt.2 c⟩
   ·exact .inl ⟨k,.inr (Int.compare_eq_gt.2 c)⟩) hpt (fun A m c W hu=>hroot d _ A m c W hd hu)
end
section
open Go.RowKit
theorem rti_rng{d a:Int}{n:Nat}(hd:d=-1\/d=1)(h:-(M:Int)<=a/\a<=M)(hn:1<=n)(hn2:n<=1024):-(M:Int)<=rti d a n/\rti d a n<=M:=by
 have hM:=M_val
 by_cases h0:a<0
 ·have r:=rti_lo (d:=-d) (a:=-a) (n:=n) (by omega) (by omega) (by omega) hn hn2;unfold rti at *;rw [if_neg (by omega)] at r;rw [if_pos h0];omega
 ·have r:=rti_lo (d:=d) (a:=a) (n:=n) hd (by omega) h.2 hn hn2
  omega
theorem revroot_any(i:Int)(n:Nat)(w:World)(hi:-(M:Int)<=i/\i<=M)(hn:1<=n)(hn2:n<=1024)(hp:n % 2=1\/0<=i):
  Rt 105 #[.float .f64 (pat i),.int .i64 (n:Int)] (.agg #[.float .f64 (pat (rti (-1) i n)),.float .f64 (pat (rti 1 i n))]) w:=
 revroot_walk _ n _ _ w (fun W=>rroot_any (-1) i n W (.inl rfl) hi hn hn2 hp) (fun W=>rroot_any 1 i n W (.inr rfl) hi hn hn2 hp)
def tw(i j pd pu qd qu:Int):Int × Int:=(min (ctO false i j pd pu qd qu).1 (ctO false i j (-qu) (-qd) (-pu) (-pd)).1,max (ctO false i j pd pu qd qu).2 (ctO false i j (-qu) (-qd) (-pu) (-pd)).2)
theorem ctO_iv2{i j pd pu qd qu:Int}(h:Iv i j)(h0:¬ j<i)(h1:-(M:Int)<=pd/\pd<M)(h2:-(M:Int)<qu/\qu<=M)(a:pd<=pu)(b:qd<=qu)(c:pd<=qu):Iv (ctO false i j pd pu qd qu).1 (ctO false i j pd pu qd qu).2:=by
 have hM:=M_val;unfold ctO
 by_cases k:qd<i\/j<pu
 ·rw [if_pos k];exact Iv.none
 ·rw [if_neg k,if_neg (by rintro⟨h,-⟩;cases h)];have n:=ne_or h h0;unfold Ne at n
  exact .inl ⟨by dsimp only;omega,by dsimp only;omega,by dsimp only;omega,by dsimp only;omega,by dsimp only;omega⟩
theorem twice_any(i j pd pu qd qu:Int)(w:World)(h:Iv i j)(h0:¬ j<i)(h1:-(M:Int)<=pd/\pd<M)(h2:-(M:Int)<qu/\qu<=M)(h3:-(M:Int)<=pu/\pu<=M)(h4:-(M:Int)<=qd/\qd<=M)(a:pd<=pu)(b:qd<=qu)(c:pd<=qu):
  Rt 104 #[.agg #[.float .f64 (pat i),.float .f64 (pat j)],.agg #[.float .f64 (pat pd),.float .f64 (pat pu)],.agg #[.float .f64 (pat qd),.float .f64 (pat qu)],.bool false] (.agg #[.float .f64 (pat (tw i j pd pu qd qu).1),.float .f64 (pat (tw i j pd pu qd qu).2)]) w:=
 twice_walk _ _ _ _ _ _ _ _ _ _ _ _ _ _ _ _ false w (fun W=>rcut2_any false i j pd pu qd qu W h.lo h.hi (by omega) h3 h4 (by omega)) (fun W=>turned_idx qd qu W h4 (by omega)) (fun W=>turned_idx pd pu W (by omega) h3) (fun W=>rcut2_any false i j (-qu) (-qd) (-pu) (-pd) W h.lo h.hi (by omega) (by omega) (by omega) (by omega))
  (fun W=>hullf _ _ _ _ W (ctO_iv2 h h0 h1 h2 a b c) (ctO_iv2 h h0 (by omega) (by omega) (by omega) (by omega) (by omega)))
noncomputable def pwr(n:Nat)(i2 j2 i j:Int):Int × Int:=
 if j2<i2\/j<i\/(n % 2=0/\j2<0) then ((M:Int),-(M:Int))
 else if n % 2=0 then tw i j (rti (-1) (max i2 0) n) (rti 1 (max i2 0) n) (rti (-1) j2 n) (rti 1 j2 n)
 else ctO false i j (rti (-1) i2 n) (rti 1 i2 n) (rti (-1) j2 n) (rti 1 j2 n)
theorem pown_any(n c1 c2 x y:Nat)(w:World)(hn:1<=n)(hn2:n<=1024)(hc1:c1<18446744073709551616)(hc2:c2<18446744073709551616)(hx:x<18446744073709551616)(hy:y<18446744073709551616):
  Rt 39 #[.int .i64 (n:Int),.agg #[.float .f64 c1,.float .f64 c2],.agg #[.float .f64 x,.float .f64 y]] (.agg #[.float .f64 (pat (pwr n (rd c1 c2).1 (rd c1 c2).2 (rd x y).1 (rd x y).2).1),.float .f64 (pat (pwr n (rd c1 c2).1 (rd c1 c2).2 (rd x y).1 (rd x y).2).2)]) w:=by
 have hM:=M_val;have v2:=rd_iv c1 c2;have v3:=rd_iv x y;have t2:=fun W=>readf c1 c2 W hc1 hc2;have t3:=fun W=>readf x y W hx hy
 obtain⟨⟨i2,j2⟩,r2⟩:∃ z,rd c1 c2=z:=⟨_,rfl⟩
 obtain⟨⟨i3,j3⟩,r3⟩:∃ z,rd x y=z:=⟨_,rfl⟩
 rw [r2] at v2 t2;rw [r3] at v3 t3;rw [r2,r3]
 dsimp only at *
 have m2:=em_idx v2;have m3:=em_idx v3;unfold pwr
 by_cases hno:j2<i2\/j3<i3
 ·rw [if_pos (by omega),pat_max,pat_min]
  exact pown_none n _ _ _ _ _ _ _ _ _ _ w t2 m2 t3 m3 hn hn2 (by simp;omega)
 have hnn:(decide (j2<i2) || decide (j3<i3))=false:=by simp;omega
 have k2:=ne_or v2 (by omega);unfold Ne at k2
 rcases Nat.mod_two_eq_zero_or_one n with hp | hp
 ·by_cases h0:j2<0
  ·rw [if_pos (by omega),pat_max,pat_min]
   exact pown_neg n _ _ _ _ _ _ _ _ _ _ w t2 m2 t3 m3 hn hn2 hp hnn (ord0_lt v2.hi h0)
  ·rw [if_neg (by omega),if_pos hp];have hmx:=fun W ts t=>run_maxf v2.lo (show -(M:Int)<=0/\(0:Int)<=M by omega) W ts t;rw [pat_zero] at hmx;have a1:=rti_lo (d:=-1) (a:=max i2 0) (n:=n) (.inl rfl) (by omega) (by omega) hn hn2;have a2:=rti_lo (d:=1) (a:=max i2 0) (n:=n) (.inr rfl) (by omega) (by omega) hn hn2;have b1:=rti_lo (d:=-1) (a:=j2) (n:=n) (.inl rfl) (by omega) (by omega) hn hn2;have b2:=rti_lo (d:=1) (a:=j2) (n:=n) (.inr rfl) (by omega) (by omega) hn hn2;have c1':=rti_mono (a:=max i2 0) (b:=max i2 0) (n:=n) (by omega) (by omega) (by omega) (by omega) hn hn2;have c3':=rti_mono (a:=max i2 0) (b:=j2) (n:=n) (by omega) (by omega) (by omega) (by omega) hn hn2
   have c2':rti (-1) j2 n<=rti 1 j2 n:=by
    by_cases hj:j2=M
    ·have e:rti 1 j2 n=M:=by unfold rti rt1;rw [if_neg (by omega),if_pos (.inr hj)];exact hj
     omega
    ·exact rti_mono (by omega) (Int.le_refl _) (by omega) (by omega) hn hn2
   have a3:=a1.2.2 rfl (by omega)
   exact pown_even n _ _ _ _ _ _ _ _ _ _ _ _ _ _ _ (compare j2 0) _ _ w t2 m2 t3 m3 hn hn2 hp hnn (ord0 v2.hi) (by
    by_cases h:j2=0
    ·exact .inl (Int.compare_eq_eq.2 h)
    ·exact .inr (Int.compare_eq_gt.2 (by omega))) hmx (fun W=>revroot_any (max i2 0) n W (by omega) hn hn2 (.inr (by omega))) (fun W=>revroot_any j2 n W v2.hi hn hn2 (.inr (by omega)))
    (fun W=>twice_any i3 j3 _ _ _ _ W v3 (by omega) (by omega) (by omega) (by omega) (by omega) c1' c2' c3')
 ·rw [if_neg (by omega),if_neg (by omega)]
  exact pown_odd n _ _ _ _ _ _ _ _ _ _ _ _ _ _ _ _ w t2 m2 t3 m3 hn hn2 hp hnn (fun W=>revroot_any i2 n W v2.lo hn hn2 (.inl hp)) (fun W=>revroot_any j2 n W v2.hi hn hn2 (.inl hp))
   (fun W=>rcut2_any false i3 j3 _ _ _ _ W v3.lo v3.hi (rti_rng (.inl rfl) v2.lo hn hn2) (rti_rng (.inr rfl) v2.lo hn hn2) (rti_rng (.inl rfl) v2.hi hn hn2) (rti_rng (.inr rfl) v2.hi hn hn2))
theorem sqrrev_any(c1 c2 x y:Nat)(w:World)(hc1:c1<18446744073709551616)(hc2:c2<18446744073709551616)(hx:x<18446744073709551616)(hy:y<18446744073709551616):
  Rt 14 #[.agg #[.float .f64 c1,.float .f64 c2],.agg #[.float .f64 x,.float .f64 y]] (.agg #[.float .f64 (pat (pwr 2 (rd c1 c2).1 (rd c1 c2).2 (rd x y).1 (rd x y).2).1),.float .f64 (pat (pwr 2 (rd c1 c2).1 (rd c1 c2).2 (rd x y).1 (rd x y).2).2)]) w:=
 sqr_walk _ _ _ _ _ _ w (fun W=>pown_any 2 c1 c2 x y W (by omega) (by omega) hc1 hc2 hx hy)
end
section
open Go.RowKit
attribute [local go_sem] run_store_float run_negf run_eqf
theorem ret2{a b r1 r2:Nat}{e:Ending}{P:Prop}(h:e=.returned (.agg #[.float .f64 a,.float .f64 b])/\P)(h1:a=r1)(h2:b=r2):e=.returned (.agg #[.float .f64 r1,.float .f64 r2])/\P:=by
 subst h1 h2;exact h
theorem rti_exact{d i j:Int}{n:Nat}(hd:d=-1\/d=1)(hj:0<j)(hj2:j<M)(hi:0<i)(hi2:i<M)(hn:0<n)(h:fl j ^ n=fl i):rti d i n=j:=by
 have hM:=M_val
 have p:0<fl j:=by have:=fl_lt_iff.2 hj;rwa [fl_zero] at this
 have ok:RtOk i n (fl j):=by
  refine⟨p,fun k hk=>?_⟩
  have pk:0<=fl k:=by have:=fl_le_iff.2 hk;rwa [fl_zero] at this
  rw [<- h]
  constructor
  ·constructor
   ·exact fun c=>rpow_le pk c n
   ·intro c
    by_cases q:fl k<=fl j
    ·exact q
    ·have:=rpow_lt (Rat.le_of_lt p) (show fl j<fl k by grind) n hn;grind
  ·constructor
   ·exact fun c=>rpow_le (Rat.le_of_lt p) c n
   ·intro c
    by_cases q:fl j<=fl k
    ·exact q
    ·have:=rpow_lt pk (show fl k<fl j by grind) n hn;grind
 unfold rti;rw [if_neg (by omega),rt1_of hd ok (by omega) (by omega)]
 exact rndI_fl hd (by omega) hj2
theorem sqr_known(W:World):Rt 14 #[.agg #[.float .f64 4616189618054758400,.float .f64 4621256167635550208],.agg #[.float .f64 0,.float .f64 4612811918334230528]] (.agg #[.float .f64 4611686018427387904,.float .f64 4612811918334230528]) W:=by
 have h:=sqrrev_any 4616189618054758400 4621256167635550208 0 4612811918334230528 W (by decide) (by decide) (by decide) (by decide)
 have r1:rd 4616189618054758400 4621256167635550208=(4616189618054758400,4621256167635550208):=by decide +kernel
 have r2:rd 0 4612811918334230528=(0,4612811918334230528):=by decide +kernel
 have q1:=fun d (hd:d=-1\/d=1)=>rti_exact (d:=d) (i:=4616189618054758400) (j:=4611686018427387904) (n:=2) hd (by decide) (by decide +kernel) (by decide) (by decide +kernel) (by decide) (by decide +kernel);have q2:=fun d (hd:d=-1\/d=1)=>rti_exact (d:=d) (i:=4621256167635550208) (j:=4613937818241073152) (n:=2) hd (by decide) (by decide +kernel) (by decide) (by decide +kernel) (by decide) (by decide +kernel)
 have e:pwr 2 4616189618054758400 4621256167635550208 0 4612811918334230528=(4611686018427387904,4612811918334230528):=by
  unfold pwr;rw [if_neg (by decide),if_pos (by decide),show max (4616189618054758400:Int) 0=4616189618054758400 from by decide,q1 _ (.inl rfl),q1 _ (.inr rfl),q2 _ (.inl rfl),q2 _ (.inr rfl)]
  decide +kernel
 rw [r1,r2,e] at h
 have p1:pat 4611686018427387904=4611686018427387904:=by decide +kernel
 have p2:pat 4612811918334230528=4612811918334230528:=by decide +kernel
 rw [p1,p2] at h
 exact h
theorem add_known(W:World):Rt 22 #[.agg #[.float .f64 4607182418800017408,.float .f64 4611686018427387904],.agg #[.float .f64 4617315517961601024,.float .f64 4617315517961601024],.agg #[.float .f64 13844628204490326016,.float .f64 4621256167635550208]] (.agg #[.float .f64 4613937818241073152,.float .f64 4616189618054758400]) W:=
 (revadd_any 4607182418800017408 4611686018427387904 4617315517961601024 4617315517961601024 13844628204490326016 4621256167635550208 W (by decide) (by decide) (by decide) (by decide) (by decide) (by decide)).mono fun e w' h=>ret2 h (by decide +kernel) (by decide +kernel)
set_option maxRecDepth 8000 in
theorem of_law(a b:Nat)(w:World):Rt 20 #[.float .f64 a,.float .f64 b] (.agg #[.float .f64 a,.float .f64 b]) w:=by
 have LL:=li1 w #[.float .f64 0,.float .f64 0] 28
 go_enter Tryz.func20,Tryz.ntmps20
 replace LL:=Hd (LL.out.loose0 rfl);obtain⟨ha4_0,hf4_0,ha4_1,hf4_1⟩:=(LL.out.has 0 rfl).sf2;have LF:=Hd (LL.out.write [.float .f64 a,.float .f64 b] rfl (by omega) (by simp<;>omega) (by simp<;>omega));obtain⟨hk4_0,hk4_1⟩:=(LF.out.blk 0 rfl).c2
 simp [sets] at hk4_0 hk4_1
 clear LL;go_wp2;refine bodyPost_ret (v:=.agg #[.float .f64 a,.float .f64 b]) (by simp [results,Tryz.results20,go_sem,hk4_0,hk4_1]) rfl ?_
 exact⟨rfl,below_alloc w _⟩
set_option maxRecDepth 8000 in
theorem awake_any(w:World):Rt 21 #[] (.bool true) w:=by
 have HO:=Hd of_law;have HS:=Hd sqr_known;have HD:=Hd add_known
 have o4613937818241073152:FloatKind.f64.format.order 4613937818241073152 4613937818241073152=some .eq:=by kernel_rfl
 have o4616189618054758400:FloatKind.f64.format.order 4616189618054758400 4616189618054758400=some .eq:=by kernel_rfl
 have o4611686018427387904:FloatKind.f64.format.order 4611686018427387904 4611686018427387904=some .eq:=by kernel_rfl
 have o4612811918334230528:FloatKind.f64.format.order 4612811918334230528 4612811918334230528=some .eq:=by kernel_rfl
 have LL:=Hd (show Lies w w [] [] from⟨Below.refl _ _,by simp,by simp⟩)
 go_enter Tryz.func21,Tryz.ntmps21
 go_wp2_with fail;refine cx (HO.out _ _ _) fun wk hb=>?_;replace LL:=stL LL hb;clear hb;go_wp2_with fail;refine cx (HO.out _ _ _) fun wk hb=>?_;replace LL:=stL LL hb;clear hb;go_wp2_with fail;refine cx (HO.out _ _ _) fun wk hb=>?_;replace LL:=stL LL hb;clear hb;go_wp2_with fail;refine cx (HD.out _) fun wk hb=>?_;replace LL:=stL LL hb;clear hb;go_wp2_with fail;refine cx (HO.out _ _ _) fun wk hb=>?_;replace LL:=stL LL hb;clear hb;go_wp2_with fail;refine cx (HO.out _ _ _) fun wk hb=>?_;replace LL:=stL LL hb;clear hb;go_wp2_with fail;refine cx (HO.out _ _ _) fun wk hb=>?_;replace LL:=stL LL hb;clear hb;go_wp2_with fail;refine cx (HS.out _) fun wk hb=>?_;replace LL:=stL LL hb;clear hb;go_wp2_with fail;refine cx (HO.out _ _ _) fun wk hb=>?_;replace LL:=stL LL hb;clear hb;go_wp2
 go_ret
 exact⟨rfl,LL.out.b⟩
end
end Go.Proofs.YthlmlmfebpjgdaaGreatDoor
