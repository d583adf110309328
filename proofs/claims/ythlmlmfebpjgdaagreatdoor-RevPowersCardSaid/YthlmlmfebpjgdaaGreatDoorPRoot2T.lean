/-
Lemmas for the statement: Root2T Sq2T RooI PlcT TzT PowT.
-/
import Derived.Test.YthlmlmfebpjgdaaGreatDoorPPartT
import Derived.Test.YthlmlmfebpjgdaaGreatDoorPMathT
import Derived.Test.YthlmlmfebpjgdaaGreatDoorPCut2T
import Derived.Test.YthlmlmfebpjgdaaGreatDoorPAbT
import Derived.Test.YthlmlmfebpjgdaaGreatDoorM26
import Derived.Test.YthlmlmfebpjgdaaGreatDoorM10
import Derived.Deep.DeepCutAuto
import Derived.Test.YthlmlmfebpjgdaaGreatDoorM01
import Derived.Test.YthlmlmfebpjgdaaGreatDoorM02
import Derived.Lib.TrailingZeros
set_option linter.unusedSimpArgs false
set_option linter.unusedVariables false
set_option maxHeartbeats 12800000
namespace Go.Proofs.YthlmlmfebpjgdaaGreatDoor
section
open Go.RowKit
theorem sgn_pat2{i:Int}(h:-(M:Int)≤i∧i≤M)(h0:i≠0):sgn (pat i)=decide (i<0):=by
 have c:=pat_cases (pat_lt h.1 h.2);rw [idx_pat h.1 h.2] at c
 rcases c with ⟨c1,c2,c3,c4⟩ | ⟨c1,c2,c3,c4⟩
 ·rw [c3,decide_eq_false (by omega)]
 ·rw [c3,decide_eq_true (by omega)]
theorem rv_rq{s n R:Nat}(neg:Bool)(E:Int):(if R ^ n=s then rv neg R 1*2 ^ E else rv neg (2*R+1) 2*2 ^ E)=if neg=true then - rq s n R (2 ^ E) else rq s n R (2 ^ E):=by
 unfold rq rv
 by_cases h:R ^ n=s
 ·rw [if_pos h,if_pos h]
  cases neg<;>simp<;>grind
 ·rw [if_neg h,if_neg h]
  cases neg
  ·simp only [Bool.false_eq_true,if_false];push_cast;grind
  ·simp only [if_true];push_cast;grind
theorem root_q(S n:Nat)(e:Int)(hS:0<S)(hS2:S<9007199254740992)(he:-1074≤e∧e≤971)(hn:1≤n)(hn2:n≤1024):∃ q:Rat,(∀ i:Int,fl i=(S:Rat)*2 ^ e→RtOk i n q) ∧
  ∀ (d:Int) (neg:Bool) (A:Option Addr) (m c:Nat) (w:World),d=-1∨d=1→U32s w A m c (digs S) →
   Calls Tryz.prog 223 #[.int .i64 d,.agg #[.bool neg,.slice A m c,.int .i64 e],.int .i64 (n:Int)] w fun e' w'=>e'=.returned (.float .f64 (pat (rndI d (if neg=true then -q else q))))∧Below w.heap.size w w':=by
 have hb:blen S≤53:=blen_le_iff.2 (by omega)
 have hb0:0<blen S:=by
  rcases Nat.eq_zero_or_pos (blen S) with h | h
  ·have:=blen_eq_zero.1 h;omega
  ·exact h
 obtain⟨k0,hk0⟩:∃ k:Nat,max 0 (58*(n:Int) - (blen S:Int))=(k:Int):=⟨58*n - blen S,by omega⟩
 have hn0:(0:Int)<(n:Int):=by omega
 have hm1:=Int.emod_nonneg (e - (k0:Int)) (show (n:Int)≠0 by omega);have hm2:=Int.emod_lt_of_pos (e - (k0:Int)) hn0;have hdm:=Int.mul_ediv_add_emod (e - (k0:Int)) (n:Int)
 obtain⟨J,hJ⟩:∃ J:Nat,(e - (k0:Int)) % (n:Int)=(J:Int):=⟨((e - (k0:Int)) % (n:Int)).toNat,by omega⟩
 obtain⟨E,hE⟩:∃ E:Int,(e - (k0:Int)) / (n:Int)=E:=⟨_,rfl⟩
 rw [hJ,hE] at hdm;rw [hJ] at hm2
 have hek:e - ((k0+J:Nat):Int)=(n:Int)*E:=by omega
 have hEb:-100000≤E∧E≤100000:=by
  rw [← hE]
  constructor
  ·rw [Int.le_ediv_iff_mul_le hn0];omega
  ·exact Int.le_of_lt (Int.ediv_lt_of_lt_mul hn0 (by omega))
 obtain⟨s,hs⟩:∃ s,S*2 ^ (k0+J)=s:=⟨_,rfl⟩
 have hs0:0<s:=by rw [← hs];exact Nat.mul_pos hS (Nat.two_pow_pos _)
 obtain⟨r,hr⟩:=exists_root n (by omega) s
 have h58:2 ^ (58*n - 1)≤s:=by
  rw [← hs]
  have h1:2 ^ (blen S - 1)≤S:=by
   rcases Nat.lt_or_ge S (2 ^ (blen S - 1)) with q | q
   ·have:=blen_le_iff.2 q;omega
   ·exact q
  calc 2 ^ (58*n - 1)≤2 ^ (blen S - 1+(k0+J)):=Nat.pow_le_pow_right (by omega) (by omega)
   _=2 ^ (blen S - 1)*2 ^ (k0+J):=Nat.pow_add ..
   _≤S*2 ^ (k0+J):=Nat.mul_le_mul_right _ h1
 have hR:144115188075855872≤r:=by
  rcases Nat.lt_or_ge r 144115188075855872 with q | q
  ·exfalso
   have h2:=Nat.pow_le_pow_left (show r+1≤2 ^ 57 by omega) n;rw [← Nat.pow_mul] at h2;have h3:(2:Nat) ^ (57*n)≤2 ^ (58*n - 1):=Nat.pow_le_pow_right (by omega) (by omega);have:=hr.2
   omega
  ·exact q
 refine⟨rq s n r (2 ^ E),fun i hi=>?_,fun d neg A m c w hd hu=>?_⟩
 ·refine rq_ok (by omega) hr hR ?_;rw [hi,← hek,← hs,show e=((k0+J:Nat):Int)+(e - ((k0+J:Nat):Int)) from by omega,zpow_add,zpow_nat]
  push_cast
  rw [show ((k0:Int)+(J:Int)+(e - ((k0:Int)+(J:Int))) - ((k0:Int)+(J:Int)))=e - ((k0:Int)+(J:Int)) from by omega]
  grind
 ·have hrb:blen r≤70000:=by
   have h1:r≤s:=by
    refine Nat.le_trans ?_ hr.1
    calc r=r ^ 1:=(Nat.pow_one r).symm
     _≤r ^ n:=Nat.pow_le_pow_right (by omega) hn
   refine Nat.le_trans (blen_mono h1) ?_;rw [← hs];have:=blen_mul S (2 ^ (k0+J));have:blen (2 ^ (k0+J))≤k0+J+1:=blen_le_iff.2 (Nat.pow_lt_pow_right (by omega) (by omega))
   omega
  have hb58:58≤blen r:=by
   rcases Nat.lt_or_ge (blen r) 58 with q | q
   ·have:=blen_le_iff.1 (show blen r≤57 by omega);omega
   ·exact q
  obtain⟨more,hmo⟩:∃ b,(!(cmp3 (r ^ n) s == 0))=b:=⟨_,rfl⟩
  refine root_walk d neg more S n k0 J r s _ e E _ A m c w hu (by omega) hn hn2 (by omega) hk0 (by omega) (fun i hi=>?_) ?_ ?_ hEb hs hs0 hr rfl hmo (fun W B m' c' hB=>?_)
  ·rw [← Int.dvd_iff_tmod_eq_zero];rintro⟨t,ht⟩
   have h1:(e - ((k0+i:Nat):Int))=(n:Int)*E+((J:Int) - (i:Int)):=by omega
   have h2:(n:Int)*(t - E)=(J:Int) - (i:Int):=by rw [Int.mul_sub];omega
   have h3:0<t - E:=by
    rcases Int.lt_or_le 0 (t - E) with q | q
    ·exact q
    ·have:=Int.mul_nonneg (show 0≤(n:Int) by omega) (show 0≤-(t - E) by omega);rw [Int.mul_neg] at this;omega
   have h4:(n:Int)*1≤(n:Int)*(t - E):=Int.mul_le_mul_of_nonneg_left (by omega) (by omega)
   omega
  ·rw [hek,Int.mul_tmod_right]
  ·rw [hek,Int.mul_tdiv_cancel_left _ (by omega)]
  ·rw [← rv_rq]
   by_cases h:r ^ n=s
   ·rw [if_pos h]
    have e1:more=false:=by rw [← hmo,cmp3_eq h];rfl
    rw [e1];have ho:=of_quo d neg B m' c' r 1 0 E W (by omega) (by omega) (by omega) (by omega) (by have:blen 1≤1:=blen_le_iff.2 (by omega);omega) (by rw [Nat.pow_zero,Nat.mul_one,Nat.div_one];exact hB) hd (by omega) (by omega);rw [Nat.pow_zero,Nat.mul_one,Nat.mod_one,show (E - ((0:Nat):Int))=E from by omega] at ho
    exact ho
   ·rw [if_neg h]
    have e1:more=true:=by
     rw [← hmo];have:cmp3 (r ^ n) s≠0:=fun k=>h (cmp3_zero.1 k)
     simpa using this
    rw [e1]
    have b2:blen (2*r+1)≤blen r+1:=by
     have:=blen_le_iff.1 (Nat.le_refl (blen r))
     exact blen_le_iff.2 (by rw [Nat.pow_succ];omega)
    have b3:blen r+1≤blen (2*r+1):=by
     have:=blen_half (n:=2*r+1) (by omega);rw [show (2*r+1) / 2=r by omega] at this;omega
    have ho:=of_quo d neg B m' c' (2*r+1) 2 0 E W (by omega) (by omega) (by omega) (by omega) (by have:blen 2≤2:=blen_le_iff.2 (by omega);omega) (by rw [Nat.pow_zero,Nat.mul_one,show (2*r+1) / 2=r by omega];exact hB) hd (by omega) (by omega);rw [Nat.pow_zero,Nat.mul_one,show (2*r+1) % 2=1 by omega,show (E - ((0:Nat):Int))=E from by omega] at ho
    exact ho
theorem root_nought(d:Int)(n:Nat)(w:World)(hn:1≤n)(hn2:n≤1024):
  Calls Tryz.prog 174 #[.int .i64 d,.float .f64 0,.int .i64 (n:Int)] w fun e w'=>e=.returned (.float .f64 0)∧Below w.heap.size w w':=by
 have hM:(M:Int)=9218868437227405312:=rfl;have HN:=Hd fun W=>isnanf (pat 0) W (by rw [rung_pat (by omega) (by omega)];omega);have o:=ord0_eq (i:=0) rfl;rw [pat_zero] at HN o
 have h1:¬ (n:Int)<1:=by omega
 have h2:¬ (1024:Int)<(n:Int):=by omega
 rcases Nat.mod_two_eq_zero_or_one n with hp | hp
 all_goals
  have hpi:(n:Int) % 2=((n % 2:Nat):Int):=by omega
  rw [hp] at hpi;clear hp
  go_enter Tryz.func174,Tryz.ntmps174
  go_wp2_with fail;refine (HN.out _).mono ?_;rintro e w' ⟨rfl,rfl⟩;go_wp2
  go_ret
  exact⟨rfl,Below.refl _ _⟩
theorem root_far(d i:Int)(n:Nat)(o:Ordering)(w:World)(hn:1≤n)(hn2:n≤1024)(hi:i=M∨i=-(M:Int))(hp:n % 2=1∨i=M):
  Calls Tryz.prog 174 #[.int .i64 d,.float .f64 (pat i),.int .i64 (n:Int)] w fun e w'=>e=.returned (.float .f64 (pat i))∧Below w.heap.size w w':=by
 have hM:(M:Int)=9218868437227405312:=rfl
 have hr:-(M:Int)≤i∧i≤M:=by omega
 have HN:=Hd fun W=>isnanf (pat i) W (by rw [rung_pat hr.1 hr.2];omega);have HF:=Hd fun W=>isinff (pat i) W (pat_lt hr.1 hr.2) (by rw [rung_pat hr.1 hr.2];omega);rw [rung_pat hr.1 hr.2,decide_eq_true (show i.natAbs=M by omega)] at HF;have o:=ord0 hr
 obtain⟨x,hx⟩:∃ x,pat i=x:=⟨_,rfl⟩
 rw [hx] at HN HF o ⊢
 have h1:¬ (n:Int)<1:=by omega
 have h2:¬ (1024:Int)<(n:Int):=by omega
 have hpi:(n:Int) % 2=((n % 2:Nat):Int):=by omega
 have hc:(n % 2=1∧(compare i 0=.lt∨compare i 0=.gt))∨(n % 2=0∧compare i 0=.gt):=by
  rcases hi with hi | hi
  ·have:compare i 0=.gt:=Int.compare_eq_gt.2 (by omega)
   rcases Nat.mod_two_eq_zero_or_one n with hp | hp
   ·exact .inr ⟨hp,this⟩
   ·exact .inl ⟨hp,.inr this⟩
  ·exact .inl ⟨by rcases hp with h | h<;>omega,.inl (Int.compare_eq_lt.2 (by omega))⟩
 clear hi hp hr hx
 rcases hc with ⟨e1,e2 | e2⟩ | ⟨e1,e2⟩
 all_goals
  rw [e1] at hpi;rw [e2] at o;clear e1 e2
  go_enter Tryz.func174,Tryz.ntmps174
  go_wp2_with fail;refine (HN.out _).mono ?_;rintro e w' ⟨rfl,rfl⟩;go_wp2_with fail;refine (HF.out _).mono ?_;rintro e w' ⟨rfl,rfl⟩;go_wp2
  go_ret
  exact⟨rfl,Below.refl _ _⟩
theorem root_some(d:Int)(x n z:Nat)(neg:Bool)(S:Nat)(e:Int)(o:Ordering)(w:World)(hn:1≤n)(hn2:n≤1024)(hN:∀ W,Calls Tryz.prog 221 #[.float .f64 x] W fun e w'=>e=.returned (.bool false)∧W=w')(hF:∀ W,Calls Tryz.prog 161 #[.float .f64 x,.int .i64 0] W fun e w'=>e=.returned (.bool false)∧W=w')
  (ho:FloatKind.f64.format.order x 0=some o)(hc:(n % 2=1∧(o=.lt∨o=.gt))∨(n % 2=0∧o=.gt))(hP:∀ W,Calls Tryz.prog 189 #[.float .f64 x] W (NewDy W neg S e))(hR:∀ A m c W,U32s W A m c (digs S)→Calls Tryz.prog 223 #[.int .i64 d,.agg #[.bool neg,.slice A m c,.int .i64 e],.int .i64 (n:Int)] W fun e' w'=>e'=.returned (.float .f64 z)∧Below W.heap.size W w'):
  Calls Tryz.prog 174 #[.int .i64 d,.float .f64 x,.int .i64 (n:Int)] w fun e w'=>e=.returned (.float .f64 z)∧Below w.heap.size w w':=by
 have HN:=Hd hN;have HF:=Hd hF;have HP:=Hd hP;have HR:=Hd hR
 have h1:¬ (n:Int)<1:=by omega
 have h2:¬ (1024:Int)<(n:Int):=by omega
 have hpi:(n:Int) % 2=((n % 2:Nat):Int):=by omega
 clear hN hF hP hR
 rcases hc with ⟨e1,rfl | rfl⟩ | ⟨e1,rfl⟩
 all_goals
  rw [e1] at hpi;clear e1
  go_enter Tryz.func174,Tryz.ntmps174
  go_wp2_with fail;refine (HN.out _).mono ?_;rintro e w' ⟨rfl,rfl⟩;go_wp2_with fail;refine (HF.out _).mono ?_;rintro e w' ⟨rfl,rfl⟩;go_wp2_with fail;refine (HP.out _).mono ?_;rintro e' w1 ⟨A,m,c,rfl,hu,hb⟩;have HRR:=Hd (HR.out A m c w1 hu);have HB:=Hd hb;clear hu hb HR HP;go_wp2_with fail;refine HRR.out.mono ?_;rintro e' w2 ⟨rfl,hb2⟩;have HB2:=Hd (HB.out.trans (hb2.mono HB.out.size));clear hb2 HB HRR;go_wp2
  go_ret
  exact⟨rfl,HB2.out⟩
theorem rt_ok{i:Int}{n:Nat}(h0:0<i)(h1:i<M)(hn:1≤n)(hn2:n≤1024):RtOk i n (rootq i n):=by
 have hM:(M:Int)=9218868437227405312:=rfl
 have hi:-(M:Int)≤i∧i≤M:=by omega
 obtain⟨S,e,b1,b2,b3,hv,-⟩:=part_any (pat i) (pat_lt hi.1 hi.2) (by unfold fin;rw [rung_pat hi.1 hi.2];omega);rw [idx_pat hi.1 hi.2,sgn_pat2 hi (by omega),decide_eq_false (by omega)] at hv
 have hf:fl i=(S:Rat)*2 ^ e:=by
  rw [hv];unfold rv;simp only [Bool.false_eq_true,if_false];grind
 have hS:0<S:=by
  rcases Nat.eq_zero_or_pos S with h | h
  ·exfalso
   have hz:fl i=0:=by rw [hf,h];grind
   have:=fl_lt_iff.2 h0;rw [fl_zero] at this;grind
  ·exact h
 obtain⟨q,hq,-⟩:=root_q S n e hS b1 ⟨b2,b3⟩ hn hn2
 exact rootq_ok (hq i hf)
theorem rti_lo{d a:Int}{n:Nat}(hd:d=-1∨d=1)(h0:0≤a)(h1:a≤M)(hn:1≤n)(hn2:n≤1024):0≤rti d a n∧rti d a n≤M∧(d=-1→a<M→rti d a n<M):=by
 have hM:(M:Int)=9218868437227405312:=rfl;unfold rti rt1;rw [if_neg (by omega)]
 by_cases h:a=0∨a=M
 ·rw [if_pos h];omega
 ·rw [if_neg h];have hq:=(rt_ok (i:=a) (n:=n) (by omega) (by omega) hn hn2).1;have r1:=rndI_down (rootq a n);have r2:=rndI_up (rootq a n);have r3:=rndI_mono hd (x:=0) (y:=rootq a n) (by grind);rw [rndI_zero hd] at r3
  rcases hd with rfl | rfl<;>omega
theorem rti_mono{a b:Int}{n:Nat}(h0:0≤a)(hab:a≤b)(ha:a<M)(h1:b≤M)(hn:1≤n)(hn2:n≤1024):rti (-1) a n≤rti 1 b n:=by
 have hM:(M:Int)=9218868437227405312:=rfl;have ra:=rti_lo (d:=-1) (a:=a) (n:=n) (.inl rfl) h0 (by omega) hn hn2;have rb:=rti_lo (d:=1) (a:=b) (n:=n) (.inr rfl) (by omega) h1 hn hn2;unfold rti rt1 at *;rw [if_neg (by omega)] at *
 by_cases hb:b=M
 ·have eb:(if b<0 then -(if -b=0∨-b=(M:Int) then -b else rndI (-1) (rootq (-b) n)) else if b=0∨b=(M:Int) then b else rndI 1 (rootq b n))=M:=by
   rw [if_neg (by omega),if_pos (.inr hb)];exact hb
  rw [eb];omega
 ·by_cases hz:a=0
  ·rw [if_pos (.inl hz)];omega
  ·rw [if_neg (by omega)] at *;rw [if_neg (by omega)] at *;rw [if_neg (by omega)] at *;have qa:=rt_ok (i:=a) (n:=n) (by omega) ha hn hn2;have qb:=rt_ok (i:=b) (n:=n) (by omega) (by omega) hn hn2;have da:=rndI_down (rootq a n);have ub:=rndI_up (rootq b n);have f1:=(da.2.2 (rndI (-1) (rootq a n)) (by omega) (by omega)).1 (Int.le_refl _);have f2:=(qa.2 _ ra.1).1.1 f1;have f3:fl a≤fl b:=fl_le_iff.2 hab;have f4:=(qb.2 _ ra.1).1.2 (Rat.le_trans f2 f3)
   by_cases hu:rndI 1 (rootq b n)=M
   ·omega
   ·have f5:=(ub.2.2 (rndI 1 (rootq b n)) (by omega) (by omega)).1 (Int.le_refl _)
    exact fl_le_iff.1 (Rat.le_trans f4 f5)
theorem rroot_any(d i:Int)(n:Nat)(w:World)(hd:d=-1∨d=1)(hi:-(M:Int)≤i∧i≤M)(hn:1≤n)(hn2:n≤1024)(hp:n % 2=1∨0≤i):
  Calls Tryz.prog 174 #[.int .i64 d,.float .f64 (pat i),.int .i64 (n:Int)] w fun e w'=>e=.returned (.float .f64 (pat (rti d i n)))∧Below w.heap.size w w':=by
 have hM:(M:Int)=9218868437227405312:=rfl
 by_cases h0:i=0
 ·subst h0
  have e:rti d 0 n=0:=by unfold rti rt1;rw [if_neg (by omega),if_pos (.inl rfl)]
  rw [e,pat_zero]
  exact root_nought d n w hn hn2
 by_cases h1:i=M∨i=-(M:Int)
 ·have e:rti d i n=i:=by
   unfold rti rt1
   split
   ·rw [if_pos (by omega)];omega
   ·rw [if_pos (by omega)]
  rw [e]
  exact root_far d i n .eq w hn hn2 h1 (by omega)
 obtain⟨S,e,b1,b2,b3,hv,hpt⟩:=part_any (pat i) (pat_lt hi.1 hi.2) (by unfold fin;rw [rung_pat hi.1 hi.2];omega);rw [idx_pat hi.1 hi.2,sgn_pat2 hi h0] at hv;rw [sgn_pat2 hi h0] at hpt
 have hS:0<S:=by
  rcases Nat.eq_zero_or_pos S with h | h
  ·exfalso
   have hz:fl i=0:=by rw [hv,h];unfold rv;split<;>grind
   rcases Int.lt_or_lt_of_ne h0 with c | c
   ·have:=fl_lt_iff.2 c;rw [fl_zero] at this;grind
   ·have:=fl_lt_iff.2 c;rw [fl_zero] at this;grind
  ·exact h
 obtain⟨q,hq,hroot⟩:=root_q S n e hS b1 ⟨b2,b3⟩ hn hn2;have HF:=fun W=>isinff (pat i) W (pat_lt hi.1 hi.2) (by rw [rung_pat hi.1 hi.2];omega);rw [rung_pat hi.1 hi.2,decide_eq_false (show ¬ i.natAbs=M by omega)] at HF
 have er:rndI d (if decide (i<0)=true then -q else q)=rti d i n:=by
  unfold rti
  by_cases hneg:i<0
  ·rw [if_pos (decide_eq_true hneg),if_pos hneg]
   have hf:fl (-i)=(S:Rat)*2 ^ e:=by
    rw [fl_neg,hv,decide_eq_true hneg];unfold rv;simp only [if_true];grind
   rw [rt1_of (by omega) (hq (-i) hf) (by omega) (by omega),← rndI_neg (by omega),Int.neg_neg]
  ·rw [if_neg (by simpa using hneg),if_neg hneg]
   have hf:fl i=(S:Rat)*2 ^ e:=by
    rw [hv,decide_eq_false hneg];unfold rv;simp only [Bool.false_eq_true,if_false];grind
   rw [rt1_of hd (hq i hf) h0 (by omega)]
 rw [← er]
 exact root_some d (pat i) n _ (decide (i<0)) S e (compare i 0) w hn hn2 (fun W=>isnanf (pat i) W (by rw [rung_pat hi.1 hi.2];omega)) HF (ord0 hi) (by
  rcases Int.lt_or_lt_of_ne h0 with c | c
  ·exact .inl ⟨by omega,.inl (Int.compare_eq_lt.2 c)⟩
  ·rcases Nat.mod_two_eq_zero_or_one n with k | k
   ·exact .inr ⟨k,Int.compare_eq_gt.2 c⟩
   ·exact .inl ⟨k,.inr (Int.compare_eq_gt.2 c)⟩) hpt (fun A m c W hu=>hroot d _ A m c W hd hu)
end
section
open Go.RowKit
theorem rti_rng{d a:Int}{n:Nat}(hd:d=-1∨d=1)(h:-(M:Int)≤a∧a≤M)(hn:1≤n)(hn2:n≤1024):-(M:Int)≤rti d a n∧rti d a n≤M:=by
 have hM:(M:Int)=9218868437227405312:=rfl
 by_cases h0:a<0
 ·have r:=rti_lo (d:=-d) (a:=-a) (n:=n) (by omega) (by omega) (by omega) hn hn2;unfold rti at *;rw [if_neg (by omega)] at r;rw [if_pos h0];omega
 ·have r:=rti_lo (d:=d) (a:=a) (n:=n) hd (by omega) h.2 hn hn2
  omega
theorem revroot_any(i:Int)(n:Nat)(w:World)(hi:-(M:Int)≤i∧i≤M)(hn:1≤n)(hn2:n≤1024)(hp:n % 2=1∨0≤i):
  Calls Tryz.prog 105 #[.float .f64 (pat i),.int .i64 (n:Int)] w fun e w'=>e=.returned (.agg #[.float .f64 (pat (rti (-1) i n)),.float .f64 (pat (rti 1 i n))])∧Below w.heap.size w w':=
 revroot_walk _ n _ _ w (fun W=>rroot_any (-1) i n W (.inl rfl) hi hn hn2 hp) (fun W=>rroot_any 1 i n W (.inr rfl) hi hn hn2 hp)
def tw(i j pd pu qd qu:Int):Int × Int:=(min (ctO false i j pd pu qd qu).1 (ctO false i j (-qu) (-qd) (-pu) (-pd)).1,max (ctO false i j pd pu qd qu).2 (ctO false i j (-qu) (-qd) (-pu) (-pd)).2)
theorem ctO_iv2{i j pd pu qd qu:Int}(h:Iv i j)(h0:¬ j<i)(h1:-(M:Int)≤pd∧pd<M)(h2:-(M:Int)<qu∧qu≤M)(a:pd≤pu)(b:qd≤qu)(c:pd≤qu):Iv (ctO false i j pd pu qd qu).1 (ctO false i j pd pu qd qu).2:=by
 have hM:(M:Int)=9218868437227405312:=rfl;unfold ctO
 by_cases k:qd<i∨j<pu
 ·rw [if_pos k];exact Iv.none
 ·rw [if_neg k,if_neg (by rintro⟨h,-⟩;cases h)];have n:=ne_or h h0;unfold Ne at n
  exact .inl ⟨by dsimp only;omega,by dsimp only;omega,by dsimp only;omega,by dsimp only;omega,by dsimp only;omega⟩
theorem twice_any(i j pd pu qd qu:Int)(w:World)(h:Iv i j)(h0:¬ j<i)(h1:-(M:Int)≤pd∧pd<M)(h2:-(M:Int)<qu∧qu≤M)(h3:-(M:Int)≤pu∧pu≤M)(h4:-(M:Int)≤qd∧qd≤M)(a:pd≤pu)(b:qd≤qu)(c:pd≤qu):
  Calls Tryz.prog 104 #[.agg #[.float .f64 (pat i),.float .f64 (pat j)],.agg #[.float .f64 (pat pd),.float .f64 (pat pu)],.agg #[.float .f64 (pat qd),.float .f64 (pat qu)],.bool false] w fun e w'=>
   e=.returned (.agg #[.float .f64 (pat (tw i j pd pu qd qu).1),.float .f64 (pat (tw i j pd pu qd qu).2)])∧Below w.heap.size w w':=
 twice_walk _ _ _ _ _ _ _ _ _ _ _ _ _ _ _ _ false w (fun W=>rcut2_any false i j pd pu qd qu W h.lo h.hi (by omega) h3 h4 (by omega)) (fun W=>turned_idx qd qu W h4 (by omega)) (fun W=>turned_idx pd pu W (by omega) h3) (fun W=>rcut2_any false i j (-qu) (-qd) (-pu) (-pd) W h.lo h.hi (by omega) (by omega) (by omega) (by omega))
  (fun W=>hullf _ _ _ _ W (ctO_iv2 h h0 h1 h2 a b c) (ctO_iv2 h h0 (by omega) (by omega) (by omega) (by omega) (by omega)))
noncomputable def pwr(n:Nat)(i2 j2 i j:Int):Int × Int:=
 if j2<i2∨j<i∨(n % 2=0∧j2<0) then ((M:Int),-(M:Int))
 else if n % 2=0 then tw i j (rti (-1) (max i2 0) n) (rti 1 (max i2 0) n) (rti (-1) j2 n) (rti 1 j2 n)
 else ctO false i j (rti (-1) i2 n) (rti 1 i2 n) (rti (-1) j2 n) (rti 1 j2 n)
theorem pown_any(n c1 c2 x y:Nat)(w:World)(hn:1≤n)(hn2:n≤1024)(hc1:c1<18446744073709551616)(hc2:c2<18446744073709551616)(hx:x<18446744073709551616)(hy:y<18446744073709551616):
  Calls Tryz.prog 39 #[.int .i64 (n:Int),.agg #[.float .f64 c1,.float .f64 c2],.agg #[.float .f64 x,.float .f64 y]] w fun e w'=>
   e=.returned (.agg #[.float .f64 (pat (pwr n (rd c1 c2).1 (rd c1 c2).2 (rd x y).1 (rd x y).2).1),.float .f64 (pat (pwr n (rd c1 c2).1 (rd c1 c2).2 (rd x y).1 (rd x y).2).2)])∧Below w.heap.size w w':=by
 have hM:(M:Int)=9218868437227405312:=rfl;have v2:=rd_iv c1 c2;have v3:=rd_iv x y;have t2:=fun W=>readf c1 c2 W hc1 hc2;have t3:=fun W=>readf x y W hx hy
 obtain⟨⟨i2,j2⟩,r2⟩:∃ z,rd c1 c2=z:=⟨_,rfl⟩
 obtain⟨⟨i3,j3⟩,r3⟩:∃ z,rd x y=z:=⟨_,rfl⟩
 rw [r2] at v2 t2;rw [r3] at v3 t3;rw [r2,r3]
 dsimp only at *
 have m2:=em_idx v2;have m3:=em_idx v3;unfold pwr
 by_cases hno:j2<i2∨j3<i3
 ·rw [if_pos (by omega),pat_max,pat_min]
  exact pown_none n _ _ _ _ _ _ _ _ _ _ w t2 m2 t3 m3 hn hn2 (by simp;omega)
 have hnn:(decide (j2<i2) || decide (j3<i3))=false:=by simp;omega
 have k2:=ne_or v2 (by omega);unfold Ne at k2
 rcases Nat.mod_two_eq_zero_or_one n with hp | hp
 ·by_cases h0:j2<0
  ·rw [if_pos (by omega),pat_max,pat_min]
   exact pown_neg n _ _ _ _ _ _ _ _ _ _ w t2 m2 t3 m3 hn hn2 hp hnn (ord0_lt v2.hi h0)
  ·rw [if_neg (by omega),if_pos hp];have hmx:=fun W ts t=>run_maxf v2.lo (show -(M:Int)≤0∧(0:Int)≤M by omega) W ts t;rw [pat_zero] at hmx;have a1:=rti_lo (d:=-1) (a:=max i2 0) (n:=n) (.inl rfl) (by omega) (by omega) hn hn2;have a2:=rti_lo (d:=1) (a:=max i2 0) (n:=n) (.inr rfl) (by omega) (by omega) hn hn2;have b1:=rti_lo (d:=-1) (a:=j2) (n:=n) (.inl rfl) (by omega) (by omega) hn hn2;have b2:=rti_lo (d:=1) (a:=j2) (n:=n) (.inr rfl) (by omega) (by omega) hn hn2;have c1':=rti_mono (a:=max i2 0) (b:=max i2 0) (n:=n) (by omega) (by omega) (by omega) (by omega) hn hn2;have c3':=rti_mono (a:=max i2 0) (b:=j2) (n:=n) (by omega) (by omega) (by omega) (by omega) hn hn2
   have c2':rti (-1) j2 n≤rti 1 j2 n:=by
    by_cases hj:j2=M
    ·have e:rti 1 j2 n=M:=by unfold rti rt1;rw [if_neg (by omega),if_pos (.inr hj)];exact hj
     omega
    ·exact rti_mono (by omega) (Int.le_refl _) (by omega) (by omega) hn hn2
   have a3:=a1.2.2 rfl (by omega)
   exact pown_even n _ _ _ _ _ _ _ _ _ _ _ _ _ _ _ (compare j2 0) _ _ w t2 m2 t3 m3 hn hn2 hp hnn (ord0 v2.hi) (by
    by_cases h:j2=0
    ·exact .inl (Int.compare_eq_eq.2 h)
    ·exact .inr (Int.compare_eq_gt.2 (by omega))) hmx (fun W=>revroot_any (max i2 0) n W (by omega) hn hn2 (.inr (by omega))) (fun W=>revroot_any j2 n W v2.hi hn hn2 (.inr (by omega)))
    (fun W=>twice_any i3 j3 _ _ _ _ W v3 (by omega) (by omega) (by omega) (by omega) (by omega) c1' c2' c3')
 ·rw [if_neg (by omega),if_neg (by omega)]
  exact pown_odd n _ _ _ _ _ _ _ _ _ _ _ _ _ _ _ _ w t2 m2 t3 m3 hn hn2 hp hnn (fun W=>revroot_any i2 n W v2.lo hn hn2 (.inl hp)) (fun W=>revroot_any j2 n W v2.hi hn hn2 (.inl hp))
   (fun W=>rcut2_any false i3 j3 _ _ _ _ W v3.lo v3.hi (rti_rng (.inl rfl) v2.lo hn hn2) (rti_rng (.inr rfl) v2.lo hn hn2) (rti_rng (.inl rfl) v2.hi hn hn2) (rti_rng (.inr rfl) v2.hi hn hn2))
end
section
open Go.RowKit
noncomputable def rfi(n:Nat)(i:Int):Rat:=if es i≠0∨i=0 then 0 else if i<0 then -rootq (-i) n else rootq i n
theorem rfi_ok{n:Nat}{i:Int}(hn:1≤n)(hn2:n≤1024)(h:-(M:Int)≤i∧i≤M):Rtp n (ex i) (rfi n i):=by
 have hM:(M:Int)=9218868437227405312:=rfl;unfold rfi
 by_cases h1:es i≠0
 ·rw [if_pos (.inl h1)];exact .inl ⟨by unfold ex;rw [if_neg h1],rfl⟩
 ·have h1':es i=0:=Decidable.not_not.1 h1
  have h2:i≠M∧i≠-(M:Int):=⟨fun e=>by rw [e,es_max] at h1';omega,fun e=>by rw [e,es_min] at h1';omega⟩
  by_cases h3:i=0
  ·subst h3;rw [if_pos (.inr rfl),ex_nought];exact .inl ⟨rfl,rfl⟩
  ·rw [if_neg (by omega),ex_mid (by omega) (by omega)]
   by_cases h4:i<0
   ·rw [if_pos h4];refine .inr (.inr ⟨by rw [← fl_zero];exact fl_lt_iff.2 h4,?_⟩);rw [Rat.neg_neg,← fl_neg]
    exact RtQ.of (rt_ok (by omega) (by omega) hn hn2)
   ·rw [if_neg h4]
    exact .inr (.inl ⟨by rw [← fl_zero];exact fl_lt_iff.2 (by omega),RtQ.of (rt_ok (by omega) (by omega) hn hn2)⟩)
theorem rfi_rti{n:Nat}{d i:Int}(hd:d=-1∨d=1)(h:-(M:Int)≤i∧i≤M):(if es i=0 then rndI d (rfi n i) else es i*M)=rti d i n:=by
 have hM:(M:Int)=9218868437227405312:=rfl;unfold rfi rti rt1
 by_cases h1:i=M
 ·subst h1;rw [es_max,if_neg (by omega),if_neg (by omega),if_pos (.inr rfl)];omega
 by_cases h2:i=-(M:Int)
 ·subst h2;rw [es_min,if_neg (by omega),if_pos (by omega),if_pos (.inr (by omega))];omega
 rw [es_mid (by omega) (by omega),if_pos rfl]
 by_cases h3:i=0
 ·subst h3;rw [if_pos (.inr rfl),if_neg (by omega),if_pos (.inl rfl)];exact rndI_zero hd
 ·rw [if_neg (by omega)]
  by_cases h4:i<0
  ·rw [if_pos h4,if_pos h4,if_neg (by omega),← rndI_neg (by omega) (rootq (-i) n),Int.neg_neg]
  ·rw [if_neg h4,if_neg h4,if_neg (by omega)]
theorem rfi_dn{n:Nat}{i:Int}(h:-(M:Int)≤i∧i≤M):dn (es i) (rfi n i)=rti (-1) i n:=rfi_rti (.inl rfl) h
theorem rfi_up{n:Nat}{i:Int}(h:-(M:Int)≤i∧i≤M):up (es i) (rfi n i)=rti 1 i n:=rfi_rti (.inr rfl) h
theorem rti_neg(d i:Int)(n:Nat):rti d (-i) n=-rti (-d) i n:=by
 unfold rti
 rcases Int.lt_trichotomy i 0 with h | h | h
 ·rw [if_neg (by omega),if_pos h];simp
 ·subst h;simp [rt1]
 ·rw [if_pos (by omega),if_neg (by omega)];simp
theorem rti_le{a b:Int}{n:Nat}(hab:a≤b)(h:-(M:Int)≤a∧a<M)(h':-(M:Int)<b∧b≤M)(hn:1≤n)(hn2:n≤1024):rti (-1) a n≤rti 1 b n:=by
 by_cases h0:0≤a
 ·exact rti_mono h0 hab h.2 h'.2 hn hn2
 ·have e:=rti_neg 1 (-a) n;rw [Int.neg_neg] at e
  by_cases h1:b≤0
  ·have e2:=rti_neg (-1) (-b) n;rw [Int.neg_neg] at e2;have k:=rti_mono (a:=-b) (b:=-a) (n:=n) (by omega) (by omega) (by omega) (by omega) hn hn2;have e3:=rti_neg (-1) (-a) n;have e4:=rti_neg 1 (-b) n;rw [Int.neg_neg] at e3 e4;rw [show (- -1:Int)=1 from rfl] at e3
   omega
  ·have k1:=rti_lo (d:=1) (a:=-a) (n:=n) (.inr rfl) (by omega) (by omega) hn hn2;have k2:=rti_lo (d:=1) (a:=b) (n:=n) (.inr rfl) (by omega) (by omega) hn hn2;have e3:=rti_neg (-1) (-a) n;rw [Int.neg_neg,show (- -1:Int)=1 from rfl] at e3
   omega
noncomputable def FRt(n:Nat)(i1 j1:Int)(i j:Int):Int × Int:=if j1<i1 then ((M:Int),-(M:Int)) else pf (es i1) (rfi n i1) (decide (es i1≠0)) (es j1) (rfi n j1) (decide (es j1≠0)) i j
theorem FRt_ct{n:Nat}{i1 j1 i j:Int}(h:Iv i1 j1)(h0:¬ j1<i1)(hx:Iv i j)(hx0:¬ j<i):FRt n i1 j1 i j=ct i j (rti (-1) i1 n) (rti 1 i1 n) (rti (-1) j1 n) (rti 1 j1 n):=by
 have hM:(M:Int)=9218868437227405312:=rfl;unfold FRt;rw [if_neg h0];have n1:=ne_or h h0;have n2:=ne_or hx hx0;unfold Ne at n1 n2;rw [pf_closed (by unfold es;rw [if_neg (by omega)];split<;>omega) (by unfold es;split<;>(try split)<;>omega) i j n2,rfi_dn (by omega),rfi_up (by omega),rfi_dn (by omega),rfi_up (by omega)]
theorem FRt_iv{n:Nat}{i1 j1 i j:Int}(hn:1≤n)(hn2:n≤1024)(h:Iv i1 j1)(hx:Iv i j):Iv (FRt n i1 j1 i j).1 (FRt n i1 j1 i j).2:=by
 have hM:(M:Int)=9218868437227405312:=rfl;unfold FRt
 by_cases h0:j1<i1
 ·rw [if_pos h0];exact Iv.none
 ·rw [if_neg h0];have n1:=ne_or h h0;unfold Ne at n1;refine pf_iv (by unfold es;rw [if_neg (by omega)];split<;>omega) (by unfold es;split<;>(try split)<;>omega) ?_ i j hx;rw [rfi_dn (by omega),rfi_up (by omega)]
  exact rti_le (by omega) (by omega) (by omega) hn hn2
theorem piece_root(n:Nat)(hn:1≤n)(hn2:n≤1024)(v:Value)(i j:Int)(w:World)(h:SetOf w v i j):Calls Tryz.prog 80 #[v] w (NewPcR w n (FRt n i j)):=by
 have hM:(M:Int)=9218868437227405312:=rfl
 rcases h with ⟨rfl,rfl,s,x,t,y,g,A,n0,c,B,m,d,g',A',n',c',B',m',d',rfl,h4,h5⟩ | ⟨h1,g,A,n0,c,B,m,d,g',A',n',c',B',m',d',rfl,h4,h5⟩
 ·have e:FRt n (M:Int) (-(M:Int))=fun _ _=>((M:Int),-(M:Int)):=by funext i j;unfold FRt;rw [if_pos (by omega)]
  rw [e]
  exact (piece_none 1 _ _ _ _ _ _ _ _ x _ _ _ _ _ _ _ _ y w).mono fun _ _ h=>newPcR_nothing h (by omega) (by omega) (by omega)
 ·have e:FRt n i j=pf (es i) (rfi n i) (decide (es i≠0)) (es j) (rfi n j) (decide (es j≠0)):=by funext a b;unfold FRt;rw [if_neg (by omega)]
  rw [e];refine (piece_some 34 _ g A n0 c B m d _ _ g' A' n' c' B' m' d' _ w h4 h5 (by omega) (fun h=>by unfold ex;rw [if_neg h]) (fun h=>by unfold ex;rw [if_neg h])).mono fun _ _ h=>newPcR_one h hn hn2 (rfi_ok hn hn2 (by omega)) (rfi_ok hn hn2 (by omega)) (by omega) (by omega) ?_ ?_ ?_
  ·unfold es;rw [if_neg (by omega)];split<;>omega
  ·unfold es;split<;>(try split)<;>omega
  ·rw [rfi_dn (by omega),rfi_up (by omega)]
   exact rti_le (by omega) (by omega) (by omega) hn hn2
theorem lw_iv{i j:Int}(h:Iv i j):Iv (lwI i j) (lwJ j):=by
 have hM:(M:Int)=9218868437227405312:=rfl;unfold lwI lwJ
 by_cases h0:j<0
 ·rw [if_pos h0,if_pos h0];exact Iv.none
 ·rw [if_neg h0,if_neg h0]
  rcases h with h | h
  ·exact .inl (by omega)
  ·omega
theorem ng_ct{F:Int→Int→Int × Int}{i j pd pu qd qu:Int}(h:F (-j) (-i)=ct (-j) (-i) pd pu qd qu):ngF F i j=ct i j (-qu) (-qd) (-pu) (-pd):=by
 unfold ngF;rw [h];unfold ct
 by_cases c:qd < -j∨-i<pu
 ·rw [if_pos c,if_pos (by omega)];simp
 ·rw [if_neg c,if_neg (by omega),Prod.mk.injEq];constructor<;>dsimp only<;>omega
theorem ctO_ct(i j pd pu qd qu:Int):ctO false i j pd pu qd qu=ct i j pd pu qd qu:=by
 unfold ctO ct
 split
 ·rfl
 ·rw [if_neg (by rintro⟨h,-⟩;cases h)]
theorem pwr_even{n:Nat}(hn:1≤n)(hn2:n≤1024)(hp:n % 2=0){i2 j2 i j:Int}(h2:Iv i2 j2)(hx:Iv i j):
  zg i j (L2 (FRt n (lwI i2 j2) (lwJ j2)) (ngF (FRt n (lwI i2 j2) (lwJ j2)))) 2=pwr n i2 j2 i j:=by
 have hM:(M:Int)=9218868437227405312:=rfl;have hl:=lw_iv h2;have f1:=FRt_iv hn hn2 hl hx;have f2:=ngF_iv (F:=FRt n (lwI i2 j2) (lwJ j2)) (fun a b h=>FRt_iv hn hn2 hl h) i j hx;rw [zg2 f1 f2];unfold pwr
 by_cases c1:j2<i2∨j2<0
 ·have e:∀ a b,FRt n (lwI i2 j2) (lwJ j2) a b=((M:Int),-(M:Int)):=by
   intro a b;unfold FRt
   have:j2<0:=by rcases h2 with h | h<;>omega
   rw [if_pos (by unfold lwI lwJ;rw [if_pos this,if_pos this];omega)]
  rw [if_pos (by omega)];unfold ngF;rw [e,e]
  simp
 by_cases c2:j<i
 ·have e:∀ a b,b<a→FRt n (lwI i2 j2) (lwJ j2) a b=((M:Int),-(M:Int)):=by
   intro a b hab;unfold FRt
   split
   ·rfl
   ·unfold pf;rw [if_pos hab]
  rw [if_pos (by omega)];unfold ngF;rw [e _ _ c2,e _ _ (by omega)]
  simp
 have e1:lwI i2 j2=max i2 0:=by unfold lwI;rw [if_neg (by omega)]
 have e2:lwJ j2=j2:=by unfold lwJ;rw [if_neg (by omega)]
 rw [e1,e2] at hl ⊢;rw [if_neg (by omega),if_pos hp]
 have h0:¬ j2<max i2 0:=by omega
 rw [ng_ct (FRt_ct hl h0 hx.negg (by omega)),FRt_ct hl h0 hx c2];unfold tw;rw [ctO_ct,ctO_ct]
theorem refpown_any_even(n f1 f2 x1 x2:Nat)(w:World)(hn:1≤n)(hn2:n≤1024)(hp:n % 2=0)(h1:f1<18446744073709551616)(h2:f2<18446744073709551616)(hx:x1<18446744073709551616)(hy:x2<18446744073709551616):
  Calls Tryz.prog 40 #[.int .i64 (n:Int),.agg #[.int .u64 (f1:Int),.int .u64 (f2:Int)],.agg #[.int .u64 (x1:Int),.int .u64 (x2:Int)]] w fun e w'=>
   e=.returned (.agg #[.int .u64 (pat (pwr n (rd f1 f2).1 (rd f1 f2).2 (rd x1 x2).1 (rd x1 x2).2).1:Int),.int .u64 (pat (pwr n (rd f1 f2).1 (rd f1 f2).2 (rd x1 x2).1 (rd x1 x2).2).2:Int)])∧Below w.heap.size w w':=by
 have k:=refpown_even n f1 f2 x1 x2 _ _ _ _ _ w hn hn2 hp hx hy (fun W=>of_i f1 f2 W h1 h2) (fun W v h=>lower_any v _ _ W h) (fun W v h=>piece_root n hn hn2 v _ _ W h) (L:=L2 (FRt n (lwI (rd f1 f2).1 (rd f1 f2).2) (lwJ (rd f1 f2).2)) (ngF (FRt n (lwI (rd f1 f2).1 (rd f1 f2).2) (lwJ (rd f1 f2).2)))) rfl rfl;rw [pwr_even hn hn2 hp (rd_iv f1 f2) (rd_iv x1 x2)] at k
 exact k
end
section
open Go.RowKit
attribute [local go_sem] run_store_float run_frombits run_bitsof
theorem and_top{T:Nat}(h:T<9223372036854775808):bits .and .u64 (T:Int) 9223372036854775808=0:=by
 have e:=u64_and_nat T 9223372036854775808 (by omega) (by omega)
 have z:T &&& 9223372036854775808=0:=by
  apply Nat.eq_of_testBit_eq
  intro i;rw [Nat.testBit_and,show (9223372036854775808:Nat)=2 ^ 63 from rfl,Nat.testBit_two_pow]
  by_cases hi:63=i
  ·subst hi;rw [Nat.testBit_lt_two_pow (by simpa using h)];simp
  ·simp [hi]
 rw [z] at e
 exact e
theorem fnumber_any(T:Nat)(w:World):Calls Tryz.prog 268 #[.int .u64 (T:Int)] w fun e w'=>e=.returned (.float .f64 T)∧w=w':=by
 have HS:=Hd fsmall;have ff:=fun W=>run_frombits T W
 go_enter Tryz.func268,Tryz.ntmps268
 go_wp2_with fail;refine (HS.out _).mono ?_;rintro e w' ⟨rfl,rfl⟩;go_wp2
 go_ret
 exact⟨rfl,rfl⟩
theorem fplace_any(T:Nat)(w:World)(hT:T≤M):Calls Tryz.prog 249 #[.float .f64 T] w fun e w'=>e=.returned (.tuple #[.int .i64 (T:Int),.bool true])∧Below w.heap.size w w':=by
 have hM:=M_val;have HF:=Hd format_any;have HP:=Hd fun W=>pattern_any T W
 have hr:rungOf T=T:=by
  have h:=rung_pat (i:=(T:Int)) (by omega) (by omega);rw [pat_nn (by omega)] at h
  simpa using h
 have h1:=size_i (b:=T) (by omega);rw [hr] at h1;have h2:=and_top (T:=T) (by omega);have ho:FloatKind.f64.format.order T T=some .eq:=ord_eq (by omega) (by omega) rfl
 have hw:IntKind.i64.wrap (T:Int)=(T:Int):=by rw [IntKind.wrap_i64];omega
 clear hr hT hM
 go_enter Tryz.func249,Tryz.ntmps249
 go_wp2_with fail;refine (HF.out _).mono ?_;rintro e w1 ⟨rfl,hb⟩;have HB:=Hd (hb.alloc hb.size (.cells #[.int .i64 52,.int .i64 (-1074),.int .i64 971,.int .u64 9218868437227405312,.int .u64 9223372036854775808] 185));have B:=Blk.new w1 185 #[.int .i64 52,.int .i64 (-1074),.int .i64 971,.int .u64 9218868437227405312,.int .u64 9223372036854775808];have q4:=B.ce 4 rfl;clear hb B HF;go_wp2_with fail;refine (HP.out _).mono ?_;rintro e w2 ⟨rfl,rfl⟩;go_wp2;refine bodyPost_ret (v:=.tuple #[.int .i64 (T:Int),.bool true]) (by simp [results,Tryz.results249,go_sem]) rfl ?_
 exact⟨rfl,HB.out⟩
theorem fat_any(T:Nat)(w:World)(hT:T≤M):Calls Tryz.prog 247 #[.int .i64 (T:Int)] w fun e w'=>e=.returned (.tuple #[.float .f64 T,.bool true])∧Below w.heap.size w w':=by
 have hM:=M_val;have HF:=Hd format_any;have HN:=Hd fun W=>fnumber_any T W
 have h1:¬ (9218868437227405312:Int)<(T:Int):=by omega
 have h2:¬ (T:Int) < -9218868437227405312:=by omega
 have h3:¬ (T:Int)<0:=by omega
 have hw:IntKind.u64.wrap (T:Int)=(T:Int):=by rw [IntKind.wrap_u64];omega
 clear hT hM
 go_enter Tryz.func247,Tryz.ntmps247
 go_wp2_with fail;refine (HF.out _).mono ?_;rintro e w1 ⟨rfl,hb⟩;have HB:=Hd (hb.alloc hb.size (.cells #[.int .i64 52,.int .i64 (-1074),.int .i64 971,.int .u64 9218868437227405312,.int .u64 9223372036854775808] 185));have B:=Blk.new w1 185 #[.int .i64 52,.int .i64 (-1074),.int .i64 971,.int .u64 9218868437227405312,.int .u64 9223372036854775808];have q3:=B.ce 3 rfl;clear hb B HF;go_wp2_with fail;refine (HN.out _).mono ?_;rintro e w2 ⟨rfl,rfl⟩;go_wp2;refine bodyPost_ret (v:=.tuple #[.float .f64 T,.bool true]) (by simp [results,Tryz.results247,go_sem]) rfl ?_
 exact⟨rfl,HB.out⟩
end
section
open Go.RowKit
def Tab(w:World):Prop:=∀ j,j<32→w.cell? ⟨1,j,none⟩=some (.int .u8 (Lib.deBruijn32tab.getD j 0))
theorem Tab.below{w w':World}(h:Tab w)(hb:Below w.heap.size w w'):Tab w':=fun j hj=>by
 have h1:=h j hj;have h2:=h 0 (by omega)
 have hlt:1<w.heap.size:=by
  rcases Nat.lt_or_ge 1 w.heap.size with c | c
  ·exact c
  ·have e:w.heap[1]?=none:=Array.getElem?_eq_none c;unfold World.cell? at h1;rw [e] at h1
   simp at h1
 exact (hb.cell (p:=⟨1,j,none⟩) hlt).trans h1
theorem Tab.drew{w:World}(h:Tab w):Tab w.drew:=h.below (Below.refl _ _).drew
theorem and_u32_nat(a b:Nat)(ha:a<4294967296)(hb:b<4294967296):bits .and .u32 (a:Int) (b:Int)=((a &&& b:Nat):Int):=u32_and_nat a b ha hb
theorem tz_any(x:Nat)(w:World)(hx:x<4294967296)(h0:x≠0)(hT:Tab w):
  Calls Tryz.prog 277 #[.int .u32 (x:Int)] w fun e w'=>e=.returned (.int .i64 (Lib.ctz 32 x:Int))∧w=w':=by
 obtain⟨hlow,hk⟩:=Lib.lowest_bit 32 x h0 hx;obtain⟨hi,htab⟩:=Lib.deBruijn32_at _ hk;have hcell:=hT _ hi;rw [htab] at hcell
 obtain⟨k,hk2⟩:∃ k,Lib.ctz 32 x=k:=⟨_,rfl⟩
 obtain⟨idx,hidx⟩:∃ i,2 ^ Lib.ctz 32 x*125613361 % 4294967296 / 134217728=i:=⟨_,rfl⟩
 have key:bits BinOp.and IntKind.u32 (x:Int) (-(x:Int) % 4294967296)*125613361 % 4294967296 / 134217728=(idx:Int):=by
  have e1:-(x:Int) % 4294967296=((4294967296 - x:Nat):Int):=by omega
  rw [e1,and_u32_nat x _ hx (by omega),show (4294967296:Nat) - x=2^32 - x from rfl,hlow,← hidx];generalize 2 ^ Lib.ctz 32 x=P
  omega
 rw [hidx] at hcell hi;rw [hk2] at hcell hk ⊢
 have hx0:((x:Int) == 0)=false:=by simp;omega
 clear hlow htab hT hk2 hidx h0
 go_enter Tryz.func277,Tryz.ntmps277
 go_wp2_with (simp only [key])
 go_ret
 exact⟨rfl,rfl⟩
theorem ctz_dvd(x:Nat)(h0:x≠0)(hx:x<4294967296):2 ^ Lib.ctz 32 x ∣ x∧Lib.ctz 32 x<32:=by
 refine⟨?_,(Lib.lowest_bit 32 x h0 hx).2⟩;unfold Lib.ctz;rw [if_neg h0];obtain⟨m,hm,-⟩:=Lib.ctzFrom_spec 32 x (by omega) hx
 exact⟨2*m+1,hm⟩
theorem nzeros_one(A:Option Addr)(n c x:Nat)(xs:List Nat)(w:World)(hu:U32s w A n c (x :: xs))(h0:x≠0)(hT:Tab w):
  Calls Tryz.prog 274 #[.slice A n c] w fun e w'=>e=.returned (.int .i64 (Lib.ctz 32 x:Int))∧w=w':=by
 have hx:x<4294967296:=hu.w32 x (by simp)
 have hn:n=xs.length+1:=by have:=hu.len;simp at this;omega
 obtain⟨ad,rfl,hlt,hc⟩:=hu.at_ (by omega);have c0:=hc 0 (by omega)
 simp only [List.getElem?_cons_zero,Option.getD_some] at c0
 rw [show ad.add 0=ad from by simp [Addr.add]] at c0
 have hnn:0<(n:Int):=by omega
 have hx0:((x:Int) == 0)=false:=by simp;omega
 have H:=Hd (tz_any x w hx h0 hT);have hk:=(Lib.lowest_bit 32 x h0 hx).2
 obtain⟨k,hk2⟩:∃ k,Lib.ctz 32 x=k:=⟨_,rfl⟩
 rw [hk2] at H hk ⊢;clear hc hu hT hk2 h0 hn hlt
 go_enter Tryz.func274,Tryz.ntmps274
 go_wp2_with fail;refine wp_loop_rounds 1 ?_;rw [rounds_succ];go_wp2_with fail;refine H.out.mono ?_;rintro e w' ⟨rfl,rfl⟩;go_wp2
 go_ret
 exact⟨rfl,rfl⟩
theorem nzeros_two(A:Option Addr)(n c y:Nat)(xs:List Nat)(w:World)(hu:U32s w A n c (0 :: y :: xs))(h0:y≠0)(hT:Tab w):
  Calls Tryz.prog 274 #[.slice A n c] w fun e w'=>e=.returned (.int .i64 ((32+Lib.ctz 32 y:Nat):Int))∧w=w':=by
 have hx:y<4294967296:=hu.w32 y (by simp)
 have hn:n=xs.length+2:=by have:=hu.len;simp at this;omega
 have hcap:=hu.cap;obtain⟨ad,rfl,hlt,hc⟩:=hu.at_ (by omega);have c0:=hc 0 (by omega);have c1:=hc 1 (by omega)
 simp only [List.getElem?_cons_zero,Option.getD_some] at c0
 simp only [List.getElem?_cons_succ,List.getElem?_cons_zero,Option.getD_some] at c1
 rw [show ad.add 0=ad from by simp [Addr.add]] at c0
 simp [Addr.add] at c1
 have hnn:0<(n:Int):=by omega
 have hn1:1<(n:Int):=by omega
 have hx0:((y:Int) == 0)=false:=by simp;omega
 have H:=Hd (tz_any y w hx h0 hT);have hk:=(Lib.lowest_bit 32 y h0 hx).2
 obtain⟨k,hk2⟩:∃ k,Lib.ctz 32 y=k:=⟨_,rfl⟩
 rw [hk2] at H hk ⊢;clear hc hu hT hk2 h0 hn hlt
 go_enter Tryz.func274,Tryz.ntmps274
 go_wp2_with fail;refine wp_loop_rounds 2 ?_;rw [rounds_succ];go_wp2_with fail;rw [rounds_succ];go_wp2_with fail;refine H.out.mono ?_;rintro e w' ⟨rfl,rfl⟩;go_wp2
 go_ret
 exact⟨rfl,rfl⟩
theorem nzeros_any(A:Option Addr)(n c S:Nat)(w:World)(hu:U32s w A n c (digs S))(hS:0<S)(h:S<18446744073709551616)(hT:Tab w):
  Calls Tryz.prog 274 #[.slice A n c] w fun e w'=>(∃ z:Nat,e=.returned (.int .i64 (z:Int))∧z<64∧2^z ∣ S)∧w=w':=by
 have hd:digs S=S % 4294967296 :: digs (S / 4294967296):=digs_pos (by omega)
 by_cases c0:S % 4294967296=0
 ·have hd2:digs (S / 4294967296)=S / 4294967296 % 4294967296 :: digs (S / 4294967296 / 4294967296):=digs_pos (by omega);rw [hd,hd2,c0] at hu
  have e:S / 4294967296 % 4294967296=S / 4294967296:=by omega
  rw [e] at hu;obtain⟨a,b⟩:=ctz_dvd (S / 4294967296) (by omega) (by omega)
  refine (nzeros_two A n c _ _ w hu (by omega) hT).mono fun e w' ⟨h1,h2⟩=>⟨⟨_,h1,by omega,?_⟩,h2⟩
  rw [Nat.pow_add];obtain⟨q,hq⟩:=a;refine⟨q,?_⟩;rw [Nat.mul_assoc,← hq,show (2:Nat)^32=4294967296 by decide];omega
 ·rw [hd] at hu;obtain⟨a,b⟩:=ctz_dvd (S % 4294967296) c0 (by omega)
  refine (nzeros_one A n c _ _ w hu c0 hT).mono fun e w' ⟨h1,h2⟩=>⟨⟨_,h1,by omega,?_⟩,h2⟩
  have h3:2 ^ Lib.ctz 32 (S % 4294967296) ∣ 4294967296:=by
   rw [show (4294967296:Nat)=2^32 by decide];exact Nat.pow_dvd_pow 2 (by rw [show (2:Nat)^32=4294967296 by decide];omega)
  have h4:=Nat.dvd_add (Nat.dvd_trans h3 (Nat.dvd_mul_right 4294967296 (S / 4294967296))) a
  rwa [Nat.div_add_mod] at h4
end
section
open Go.RowKit
theorem zpow_neg'(x:Int):(2:Rat) ^ (-x)=1 / (2:Rat) ^ x:=by
 have h:(2:Rat) ^ x*2 ^ (-x)=1:=by rw [← zpow_add,show x+-x=0 from by omega];rfl
 have hp:=zpow_pos x;have h2:(1 / (2:Rat) ^ x)*2 ^ x=1:=Rat.div_mul_cancel (by grind)
 have h3:((2:Rat) ^ (-x) - 1 / (2:Rat) ^ x)*2 ^ x=0:=by grind
 rcases Rat.mul_eq_zero.1 h3 with k | k
 ·grind
 ·grind
theorem recip_pow{S s z m:Nat}{e:Int}(hs:S=s*2 ^ z)(hs0:0<s):rv false 1 (s ^ m)*2 ^ (-(e+(z:Int))*(m:Int))=1 / ((S:Rat)*2 ^ e) ^ m:=by
 have e1:(S:Rat)*2 ^ e=(s:Rat)*2 ^ (e+(z:Int)):=by
  rw [hs,Rat.natCast_mul,Int.add_comm,zpow_add,zpow_nat];grind
 have e2:rv false 1 (s ^ m)=1 / (s:Rat) ^ m:=by
  unfold rv
  simp only [Bool.false_eq_true,if_false]
  rw [Rat.natCast_pow];rfl
 rw [e1,rmul_pow,zpow_pow,e2,Int.neg_mul,zpow_neg',Int.mul_comm (e+(z:Int))]
 have a:((s:Rat) ^ m)≠0:=by
  have:(0:Rat)<(s:Rat) ^ m:=Rat.pow_pos (by exact_mod_cast hs0)
  grind
 have b:(2:Rat) ^ ((m:Int)*(e+(z:Int)))≠0:=by have:=zpow_pos ((m:Int)*(e+(z:Int)));grind
 generalize (s:Rat) ^ m=x at *;generalize (2:Rat) ^ ((m:Int)*(e+(z:Int)))=y at *
 grind
set_option maxRecDepth 8000 in
theorem rpower_walk(d:Int)(S m r:Nat)(e:Int)(A:Option Addr)(k c:Nat)(w:World)(hd:d=-1∨d=1)(hu:U32s w A k c (digs S))(hS:0<S)(hS2:S<9007199254740992)(he:-1074≤e∧e≤971)(hm:1≤m)(hm2:m≤1024)(hT:Tab w)
  (hr:pat (rndI d (1 / ((S:Rat)*2 ^ e) ^ m))=r):
  Calls Tryz.prog 269 #[.int .i64 d,.agg #[.bool false,.slice A k c,.int .i64 e],.int .i64 (-(m:Int))] w fun e w'=>e=.returned (.float .f64 r)∧Below w.heap.size w w':=by
 have HU:=Hd hu;have HTB:=Hd hT;have HZ:=Hd fun W (h:U32s W A k c (digs S)) (t:Tab W)=>nzeros_any A k c S W h hS (by omega) t
 have HSR:=Hd fun z W (h:U32s W A k c (digs S)) (hz:z≤1073741824)=>by
  have g:=nshr_any A k c z _ W h (wlen_digs_le (K:=16384) (by have:blen S≤53:=blen_le_iff.2 (show S<2^53 from hS2);omega)) hz;rw [num_digs] at g
  exact g
 have HRA:=Hd fun z s (hs:S=s*2 ^ z) (hz:z<64) W A1 k1 c1 A2 k2 c2 (h1:U32s W A1 k1 c1 (digs 1)) (h2:U32s W A2 k2 c2 (digs (s ^ m)))=>by
  have hs0:0<s:=by
   rcases Nat.eq_zero_or_pos s with h | h
   ·rw [h,Nat.zero_mul] at hs;omega
   ·exact h
  have hsl:s≤S:=by rw [hs];exact Nat.le_mul_of_pos_right _ (Nat.two_pow_pos z)
  have hb:blen (s ^ m)≤54272:=by
   obtain⟨B,hB⟩:∃ B:Nat,B=54272:=⟨_,rfl⟩
   rw [← hB];refine blen_le_iff.2 ?_
   have h53:s<2^53:=by rw [show (2:Nat)^53=9007199254740992 by decide];omega
   refine Nat.lt_of_lt_of_le (Nat.pow_lt_pow_left h53 (by omega)) ?_;rw [← Nat.pow_mul]
   exact Nat.pow_le_pow_right (by omega) (by omega)
  have hq:-1099511627776≤-(e+(z:Int))*(m:Int)∧-(e+(z:Int))*(m:Int)≤1099511627776:=by
   have a:-2000*(m:Int)≤-(e+(z:Int))*(m:Int):=Int.mul_le_mul_of_nonneg_right (by omega) (by omega);have b:-(e+(z:Int))*(m:Int)≤2000*(m:Int):=Int.mul_le_mul_of_nonneg_right (by omega) (by omega)
   omega
  have g:=ratio_any d false A1 A2 k1 c1 k2 c2 1 (s ^ m) (-(e+(z:Int))*(m:Int)) W h1 h2 (Nat.pow_pos hs0) (by have:blen 1≤2:=blen_le_iff.2 (by decide);omega) (by omega) hd hq.1 hq.2;unfold RtOf at g;rw [recip_pow hs hs0,hr] at g
  exact g
 have HP:=Hd fun z s (hs:S=s*2 ^ z) W A1 k1 c1 (h1:U32s W A1 k1 c1 (digs s))=>by
  have hsl:s≤S:=by rw [hs];exact Nat.le_mul_of_pos_right _ (Nat.two_pow_pos z)
  have hb:blen s≤53:=blen_le_iff.2 (by rw [show (2:Nat)^53=9007199254740992 by decide];omega)
  exact pow_d (w:=W) m h1 (by omega) (by omega) (by
   have:=Nat.mul_le_mul hb hm2
   omega)
 have hmn:-(m:Int)<0:=by omega
 clear hu hT hr hd hS hS2;have LL:=li1 w #[.bool false,.slice A k c,.int .i64 e] 168;have HU0:=Hd (HU.out.below LL.out.b);have HT0:=Hd (HTB.out.below LL.out.b);clear HU HTB
 go_enter Tryz.func269,Tryz.ntmps269
 obtain⟨q1_0,q1_1,q1_2⟩:=(LL.out.blk 0 rfl).c3;go_wp2_with fail;refine (HZ.out _ HU0.out HT0.out).mono ?_;rintro e1 w1 ⟨⟨z,rfl,hz,hdv⟩,rfl⟩
 obtain⟨s,hs⟩:∃ s,S=s*2 ^ z:=by obtain⟨q,hq⟩:=hdv;exact⟨q,by rw [hq,Nat.mul_comm]⟩
 have hsd:S / 2 ^ z=s:=by rw [hs,Nat.mul_div_cancel _ (Nat.two_pow_pos z)]
 have HSS:=Hd hs;have HSD:=Hd hsd;clear HZ hdv hs hsd q1_0 q1_1 q1_2
 obtain⟨wa,hwa⟩:∃ X,(w.alloc (.cells #[.bool false,.slice A k c,.int .i64 e] 168))=X:=⟨_,rfl⟩
 rw [hwa] at HU0 HT0 LL ⊢;clear hwa;obtain⟨q2_0,q2_1,q2_2⟩:=(LL.out.blk 0 rfl).c3;have HS1:=Hd (HSR.out z _ HU0.out (by omega));rw [HSD.out] at HS1;go_wp2_with fail;refine HS1.out.mono ?_;rintro e1 w2 ⟨A2,n2,c2,rfl,hu2,hb2⟩;have HU2:=Hd hu2;replace LL:=stL LL hb2;replace HT0:=Hd (HT0.out.below hb2);clear hu2 hb2 HS1 HSR HU0 HSD q2_0 q2_1 q2_2;obtain⟨q3_0,q3_1,q3_2⟩:=(LL.out.blk 0 rfl).c3
 have f1:IntKind.i64.wrap (e+(z:Int))=e+(z:Int):=by rw [IntKind.wrap_i64];omega
 have HP2:=Hd (HP.out z s HSS.out _ A2 n2 c2 HU2.out);go_wp2_with fail;refine HP2.out.mono ?_;rintro e1 w3 ⟨A3,n3,c3,rfl,hu3,hb3⟩;have HU3:=Hd hu3;replace LL:=stL LL hb3;clear hu3 hb3 HP2 HP HU2 HT0 q3_0 q3_1 q3_2;obtain⟨q4_0,q4_1,q4_2⟩:=(LL.out.blk 0 rfl).c3;have HR:=Hd (HRA.out z s HSS.out hz);clear HRA HSS
 obtain⟨E,hE⟩:∃ E,e+(z:Int)=E:=⟨_,rfl⟩
 have hEb:-1074≤E∧E≤1034:=by omega
 obtain⟨Q,hQ⟩:∃ Q,-E*(m:Int)=Q:=⟨_,rfl⟩
 have hQ2:IntKind.i64.wrap (-E*(m:Int))=Q:=by
  have a:-2000*(m:Int)≤-E*(m:Int):=Int.mul_le_mul_of_nonneg_right (by omega) (by omega);have b:-E*(m:Int)≤2000*(m:Int):=Int.mul_le_mul_of_nonneg_right (by omega) (by omega);rw [IntKind.wrap_i64,← hQ];omega
 have hQ3:wrap64 (-E*(m:Int))=Q:=by
  have a:-2000*(m:Int)≤-E*(m:Int):=Int.mul_le_mul_of_nonneg_right (by omega) (by omega);have b:-E*(m:Int)≤2000*(m:Int):=Int.mul_le_mul_of_nonneg_right (by omega) (by omega);unfold wrap64;omega
 rw [hE] at HR f1 ⊢;rw [hQ] at HR;have hQ4:=hQ;clear hE
 have hQ5:wrap64 Q=Q:=by
  have a:-2000*(m:Int)≤-E*(m:Int):=Int.mul_le_mul_of_nonneg_right (by omega) (by omega);have b:-E*(m:Int)≤2000*(m:Int):=Int.mul_le_mul_of_nonneg_right (by omega) (by omega);unfold wrap64;omega
 have HD1:=Hd (show U32s (w3.alloc (.cells #[.int .u32 1] 117)) (some ⟨w3.heap.size,0,none⟩) 1 1 (digs 1) from by rw [digs_one];exact U32s.lit1 w3 117 (a:=1) (by omega));have HQ:=Hd (HR.out (w3.alloc (.cells #[.int .u32 1] 117)) _ 1 1 A3 n3 c3 HD1.out (HU3.out.alloc _));clear HR HD1;go_wp2_with fail;rw [hQ5];refine HQ.out.mono ?_;rintro e1 w4 ⟨rfl,hb4⟩;have LB:=Hd (LL.out.b.trans ((below_alloc w3 (.cells #[.int .u32 1] 117)).trans (hb4.mono (by simp)) |>.mono LL.out.b.size));clear hb4 HQ LL HU3 hQ hQ2 hQ3 hQ4 hQ5 f1;go_wp2
 go_ret
 exact⟨rfl,LB.out⟩
theorem isinfm(b:Nat)(w:World)(hb:b<18446744073709551616)(hr:rungOf b≤M)(hn:-(M:Int)<idx b):Calls Tryz.prog 161 #[.float .f64 b,.int .i64 (-1)] w fun e w'=>e=.returned (.bool false)∧w=w':=by
 have hM:M=9218868437227405312:=rfl;have nv:=negFloat_val hb
 have nr:rungOf (Op.negFloat .f64 b)≤M:=by rw [nv.2.1];exact hr
 have ho:FloatKind.f64.format.order (Op.negFloat .f64 b) 9218868437227405311=some .lt∨FloatKind.f64.format.order (Op.negFloat .f64 b) 9218868437227405311=some .eq:=by
  by_cases h2:idx b=-(M - 1:Nat)
  ·exact .inr (ord_eq nr real_top (by rw [idx_top,nv.2.2];omega))
  ·exact .inl (ord_lt nr real_top (by rw [idx_top,nv.2.2];omega))
 obtain⟨nb,hnb⟩:∃ x,Op.negFloat .f64 b=x:=⟨_,rfl⟩
 have hneg:=fun W=>run_negf Tryz.prog b W;rw [hnb] at ho hneg;clear nv nr hr hn hM hnb hb
 rcases ho with ho | ho
 all_goals
  go_enter Tryz.func161,Tryz.ntmps161
  go_wp2
  go_ret
  exact⟨rfl,rfl⟩
theorem rpow_walk(d:Int)(x m z S:Nat)(e:Int)(w:World)(hm:1≤m)(hm2:m≤1024)(hN:∀ W,Calls Tryz.prog 221 #[.float .f64 x] W fun e w'=>e=.returned (.bool false)∧W=w')(hF:∀ W,Calls Tryz.prog 161 #[.float .f64 x,.int .i64 0] W fun e w'=>e=.returned (.bool false)∧W=w')
  (hG:∀ W,Calls Tryz.prog 161 #[.float .f64 x,.int .i64 (-1)] W fun e w'=>e=.returned (.bool false)∧W=w')
  (ho:FloatKind.f64.format.order x 0=some .gt)(hP:∀ W,Calls Tryz.prog 189 #[.float .f64 x] W (NewDy W false S e))(hR:∀ A k c W,Below w.heap.size w W→U32s W A k c (digs S)→Calls Tryz.prog 269 #[.int .i64 d,.agg #[.bool false,.slice A k c,.int .i64 e],.int .i64 (-(m:Int))] W fun e' w'=>e'=.returned (.float .f64 z)∧Below W.heap.size W w'):
  Calls Tryz.prog 248 #[.int .i64 d,.float .f64 x,.int .i64 (-(m:Int))] w fun e w'=>e=.returned (.float .f64 z)∧Below w.heap.size w w':=by
 have HN:=Hd hN;have HF:=Hd hF;have HG:=Hd hG;have HP:=Hd hP;have HR:=Hd hR
 have h1:¬ -(m:Int) < -1024:=by omega
 have h2:¬ (1024:Int) < -(m:Int):=by omega
 have h3:(-(m:Int) == 0)=false:=by simp;omega
 have h4:-(m:Int)<0:=by omega
 clear hN hF hG hP hR
 go_enter Tryz.func248,Tryz.ntmps248
 go_wp2_with fail;refine (HN.out _).mono ?_;rintro e w' ⟨rfl,rfl⟩;go_wp2_with fail;refine (HF.out _).mono ?_;rintro e w' ⟨rfl,rfl⟩;go_wp2_with fail;refine (HG.out _).mono ?_;rintro e w' ⟨rfl,rfl⟩;go_wp2_with fail;refine (HF.out _).mono ?_;rintro e w' ⟨rfl,rfl⟩;go_wp2_with fail;refine (HP.out _).mono ?_;rintro e' w1 ⟨A,k,c,rfl,hu,hb⟩;have HRR:=Hd (HR.out A k c w1 hb hu);have HB:=Hd hb;clear hu hb HR HP;go_wp2_with fail;refine HRR.out.mono ?_;rintro e' w2 ⟨rfl,hb2⟩;have HB2:=Hd (HB.out.trans (hb2.mono HB.out.size));clear hb2 HB HRR;go_wp2
 go_ret
 exact⟨rfl,HB2.out⟩
theorem rpow_neg(d i:Int)(m:Nat)(w:World)(hd:d=-1∨d=1)(h0:0<i)(h1:i<M)(hm:1≤m)(hm2:m≤1024)(hT:Tab w):
  Calls Tryz.prog 248 #[.int .i64 d,.float .f64 (pat i),.int .i64 (-(m:Int))] w fun e w'=>e=.returned (.float .f64 (pat (rndI d (1 / fl i ^ m))))∧Below w.heap.size w w':=by
 have hM:(M:Int)=9218868437227405312:=rfl
 have hi:-(M:Int)≤i∧i≤M:=by omega
 obtain⟨S,e,b1,b2,b3,hv,hpt⟩:=part_any (pat i) (pat_lt hi.1 hi.2) (by unfold fin;rw [rung_pat hi.1 hi.2];omega);rw [idx_pat hi.1 hi.2,sgn_pat2 hi (by omega),decide_eq_false (by omega)] at hv;rw [sgn_pat2 hi (by omega),decide_eq_false (by omega)] at hpt
 have hf:fl i=(S:Rat)*2 ^ e:=by rw [hv];unfold rv;simp only [Bool.false_eq_true,if_false];grind
 have hS:0<S:=by
  rcases Nat.eq_zero_or_pos S with h | h
  ·exfalso
   have hz:fl i=0:=by rw [hf,h];grind
   have:=fl_lt_iff.2 h0;rw [fl_zero] at this;grind
  ·exact h
 have HF:=fun W=>isinff (pat i) W (pat_lt hi.1 hi.2) (by rw [rung_pat hi.1 hi.2];omega);rw [rung_pat hi.1 hi.2,decide_eq_false (show ¬ i.natAbs=M by omega)] at HF;have ho:=ord0 hi;rw [Int.compare_eq_gt.2 h0] at ho
 exact rpow_walk d (pat i) m _ S e w hm hm2 (fun W=>isnanf (pat i) W (by rw [rung_pat hi.1 hi.2];omega)) HF (fun W=>isinfm (pat i) W (pat_lt hi.1 hi.2) (by rw [rung_pat hi.1 hi.2];omega) (by rw [idx_pat hi.1 hi.2];omega)) ho hpt
  (fun A k c W hb hu=>rpower_walk d S m _ e A k c W hd hu hS b1 ⟨b2,b3⟩ hm hm2 (hT.below hb) (by rw [hf]))
end
end Go.Proofs.YthlmlmfebpjgdaaGreatDoor
