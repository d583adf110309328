/-
Lemmas for the statement: WiT DsP Ro2T PowNT AgNT.
-/
import Derived.Test.YthlmlmfebpjgdaaGreatDoorM03
import Derived.Test.YthlmlmfebpjgdaaGreatDoorM09
import Derived.Test.YthlmlmfebpjgdaaGreatDoorM01
import Derived.Test.YthlmlmfebpjgdaaGreatDoorM10
import Derived.Test.YthlmlmfebpjgdaaGreatDoorM08
import Derived.Test.YthlmlmfebpjgdaaGreatDoorM05
import Derived.Deep.DeepCutAuto
set_option linter.unusedSimpArgs false
set_option linter.unusedVariables false
set_option maxHeartbeats 12800000
namespace Go.Proofs.YthlmlmfebpjgdaaGreatDoor
section
open Go.RowKit
theorem ec_idx{i b:Int}(h1:-(M:Int)≤i)(h2:i≤M)(h3:-(M:Int)≤b)(h4:b≤M):SameSign (ec (es i) (ex i) (es b) (ex b)) (i - b):=by
 have hM:M=9218868437227405312:=rfl
 have ei:es i=if i=M then 1 else if i=-(M:Int) then -1 else 0:=rfl
 have eb:es b=if b=M then 1 else if b=-(M:Int) then -1 else 0:=rfl
 rcases Int.lt_trichotomy (es i) (es b) with h | h | h
 ·rw [ec_lt _ _ h];rw [ei,eb] at h;unfold SameSign
  split at h<;>split at h<;>(try split at h)<;>(try split at h)<;>omega
 ·by_cases h0:es i=0
  ·have h0':es b=0:=by omega
   rw [h0,h0',ec_zero,ex_zero h0,ex_zero h0'];unfold rc SameSign
   by_cases hc:i<b
   ·rw [if_pos (fl_lt_iff.2 hc)];omega
   ·rw [if_neg (fun h=>hc (fl_lt_iff.1 h))]
    by_cases hd:b<i
    ·rw [if_pos (fl_lt_iff.2 hd)];omega
    ·rw [if_neg (fun h=>hd (fl_lt_iff.1 h))];omega
  ·rw [ec_inf _ _ h h0];rw [ei,eb] at h;rw [ei] at h0;unfold SameSign
   split at h0<;>(try split at h0)<;>split at h<;>(try split at h)<;>(try split at h)<;>(try split at h)<;>omega
 ·rw [ec_gt _ _ h];rw [ei,eb] at h;unfold SameSign
  split at h<;>split at h<;>(try split at h)<;>(try split at h)<;>omega
theorem SameSign.trans{a b c:Int}(h:SameSign a b)(h':SameSign b c):SameSign a c:=⟨h.1.trans h'.1,h.2.trans h'.2⟩
theorem Ag.trans{w w':World}{a b:Int}{e:Ending}(h:Ag w a e w')(h':SameSign a b):Ag w b e w':=by
 obtain⟨r,h1,h2,h3⟩:=h
 exact⟨r,h1,h2.trans h',h3⟩
theorem rounded10(K:Nat)(g1:Bool)(A1:Option Addr)(n1 c1:Nat)(B1:Option Addr)(m1 d1:Nat)(s1:Int)(x1:Rat)(o1:Bool)(dd:Int)(w:World)(h1:RatV w K g1 (.slice A1 n1 c1) (.slice B1 m1 d1) x1)(hK:K≤1048576)(hd:dd=-1∨dd=1):
  Calls Tryz.prog 209 #[.int .i64 dd,.agg #[.int .i64 s1,.bool g1,.slice A1 n1 c1,.slice B1 m1 d1,.int .i64 1,.bool o1]] w (IsRnd w dd x1):=by
 have HB:=Hd fun W (hW:Below w.heap.size w W)=>bits_any K g1 A1 B1 n1 c1 m1 d1 x1 dd W (h1.below hW) hK hd;clear h1 hd;obtain⟨LB0,LG0_0⟩:=bx1 w #[.int .i64 s1,.bool g1,.slice A1 n1 c1,.slice B1 m1 d1,.int .i64 1,.bool o1] 82
 go_enter Tryz.func209,Tryz.ntmps209
 go_wp2_with fail;refine (HB.out _ LB0.out).mono ?_;rintro e w1 ⟨i,rfl,hr,hb1⟩;have LB1:=stB LB0 hb1 LB0.out.size;have LG0_1:=stG LG0_0 hb1;clear LB0 LG0_0;have HR:=Hd hr;clear hr hb1;go_wp2
 go_ret
 exact⟨i,rfl,HR.out,LB1.out⟩
def wi(i j a b:Int):Int × Int:=if i≤j∧i≤b∧a≤j then (max i a,min j b) else ((M:Int),-(M:Int))
end
section
open Go.RowKit
theorem digs_len_pos{S:Nat}(h:0<S){n:Nat}(hl:(digs S).length=n):0<n:=by
 rcases Nat.eq_zero_or_pos n with h0 | h0
 ·rw [h0,digs_length_eq_zero] at hl;omega
 ·exact h0
theorem U32s.carry{W:World}{g:Nat}{t:TypeId}{cs:Array Value}{A:Option Addr}{n c:Nat}{xs:List Nat}(h:U32s W A n c xs)(hb:Blk W g t cs)(hc:cs.toList.all notWd=true)(i:Nat)(v:Value):U32s (W.setCell ⟨g,i,none⟩ v) A n c xs:=
 h.sets hb (NoWd.of (by rw [← Array.all_toList];exact hc)) i [v]
theorem wlen_digs_le{S K:Nat}(h:blen S≤32*K):wlen (digs S)≤K:=by
 rw [wlen_digs];exact digs_length_le (blen_le_iff.1 h)
theorem blen_shl(S k:Nat)(h:0<S):blen (S*2^k)=blen S+k:=by
 have h1:=blen_high (hi:=S) (lo:=0) (k:=k) h (Nat.two_pow_pos k);rw [Nat.zero_add,Nat.mul_comm] at h1;rw [h1,Nat.add_comm]
theorem blen_mono{a b:Nat}(h:a≤b):blen a≤blen b:=blen_le_iff.2 (Nat.lt_of_le_of_lt h (lt_pow_blen b))
theorem HasBlk.u32s{W:World}{r:Nat}{t:TypeId}{n0:Nat}{A:Option Addr}{n c:Nat}{xs:List Nat}(h:HasBlk W r t n0)(hu:U32s W A n c xs)(vs:List Value):U32s (Proofs.YthlmlmfebpjgdaaGreatDoor.sets W r 0 vs) A n c xs:=by
 obtain⟨cs,h1,h2,h3⟩:=h
 exact hu.sets h1 h3 0 vs
end
section
open Go.RowKit
set_option maxRecDepth 4000 in
theorem rootof_any(K n:Nat)(d:Int)(x q:Rat)(A:Option Addr)(n1 c1:Nat)(B:Option Addr)(m1 d1:Nat)(w:World)(h:RatV w K false (.slice A n1 c1) (.slice B m1 d1) x)(hx:0<x)(hq:RtQ x n q)(hK:K≤2000)(hn:0<n)(hn2:n≤1024)(hd:d=-1∨d=1):
  Calls Tryz.prog 237 #[.int .i64 d,.agg #[.bool false,.slice A n1 c1,.slice B m1 d1],.int .i64 (n:Int)] w fun e w'=>e=.returned (.int .u64 (pat (rndI d q):Int))∧Below w.heap.size w w':=by
 have hrat:=h;obtain⟨p,u,A',n',c',B',m',d',e1,e2,hu,hv,hu0,-,hpK,huK,rfl⟩:=h
 cases e1;cases e2
 have hp:0<p:=by
  rcases Nat.eq_zero_or_pos p with h | h
  ·subst h;rw [rv_zero] at hx;exact absurd hx (by decide)
  ·exact h
 have hlp:=blen_le_iff.2 hpK;have hlu:=blen_le_iff.2 huK;obtain⟨k1,k2,P1,P2,t0,t1,t2,s1,s2,s3,s4,s5,s6,s7,s8,s9,s10,s11,s12,s13,b1,b2,b3,b4,b5,b6,b7,b8,b9,b10,b11,b12⟩:=scale ((blen p:Int) - (blen u:Int)) n hn hn2 (by omega)
 have hkb:-100000≤k2∧k2≤100000:=by
  constructor
  ·rcases Int.lt_or_le k2 (-100000) with h | h
   ·exfalso
    have h1:(n:Int)*k2≤(n:Int)*(-100000):=Int.mul_le_mul_of_nonneg_left (by omega) (by omega)
    have h2:(1:Int)*(-100000+59)≤0:=by omega
    have h3:(n:Int)*(-(100000 - 62))≤(1:Int)*(-(100000 - 62)):=by omega
    omega
   ·exact h
  ·rcases Int.lt_or_le 100000 k2 with h | h
   ·exfalso
    have h1:(n:Int)*100000≤(n:Int)*k2:=Int.mul_le_mul_of_nonneg_left (by omega) (by omega)
    omega
   ·exact h
 have hRS:∀ W,Below w.heap.size w W→Calls Tryz.prog 42 #[.agg #[.bool false,.slice A n1 c1,.slice B m1 d1]] W fun e w'=>e=.returned (.int .i64 1)∧Below W.heap.size W w':=by
  intro W hW;have k:=rsign_any K false _ _ _ W (hrat.below hW) (by omega);rw [show rsg (rv false p u)=1 from by unfold rsg;rw [if_neg (by grind),if_neg (by grind)]] at k
  exact k
 have main:∀ (a b:Nat),0<a→0<b→(blen a:Int) - (blen b:Int)=(blen p:Int) - (blen u:Int)+P2→rv false a b=rv false p u*2 ^ ((n:Int)*k2) →
   ∃ R:Nat,∃ ov:Nat,∃ cc:Int,∃ lg:Nat,∃ y:Rat,IsR (a / b) n R∧blen (a / b)=lg∧lg≤67108864∧144115188075855872≤R∧R<4611686018427387904∧cmp3 (R ^ n*b) a=cc∧(if cc=0 then 0 else 1)=ov ∧
    (∀ W C m' d' D,U32s W C m' d' (digs (2*R+ov))→U32s W D 1 1 (digs 1)→Calls Tryz.prog 96 #[.bool false,.slice C m' d',.slice D 1 1,.int .i64 (-k2 - 1)] W (NewRatS W 70000 y)) ∧
    (∀ W g' C m' d' D n' e',RatV W 70000 g' (.slice C m' d') (.slice D n' e') y→Calls Tryz.prog 207 #[.int .i64 d,.agg #[.bool g',.slice C m' d',.slice D n' e']] W fun e w'=>e=.returned (.int .u64 (pat (rndI d q):Int))∧Below W.heap.size W w'):=by
  intro a b ha hb hl hs;have hr:=big_range ha hb hn (by omega) (by omega);obtain⟨R,hR⟩:=exists_root n hn (a / b);have hRr:=root_range hn hR hr.1 hr.2;have hlg:blen (a / b)≤62*n:=blen_le_iff.2 hr.2;have hst:=root_stands hn hp hu0 hb rfl hs hR hRr.1
  have hov:(if decide (R ^ n*b=a)=true then 0 else 1)=(if cmp3 (R ^ n*b) a=0 then 0 else 1):=by
   by_cases e:R ^ n*b=a
   ·rw [if_pos (by simp [e]),if_pos (cmp3_zero.2 e)]
   ·rw [if_neg (by simp [e]),if_neg (fun h=>e (cmp3_zero.1 h))]
  refine⟨R,_,_,_,rqb (decide (R ^ n*b=a)) R (2 ^ (-k2)),hR,rfl,by omega,hRr.1,hRr.2,rfl,rfl,?_,?_⟩
  ·intro W C m' d' D h1 h2;rw [← hov] at h1
   have hb1:2*R+(if decide (R ^ n*b=a)=true then 0 else 1)<2 ^ 63:=by split<;>omega
   obtain⟨N,hN⟩:∃ N,2*R+(if decide (R ^ n*b=a)=true then 0 else 1)=N:=⟨_,rfl⟩
   have e:=rqb_frac (decide (R ^ n*b=a)) R k2;rw [hN] at h1 hb1 e;rw [← e]
   obtain⟨L,hL⟩:∃ L:Nat,L=70000:=⟨_,rfl⟩
   rw [← hL]
   have hz:∀ k:Nat,k≤100001→N*2 ^ k<2 ^ (32*L):=fun k hk=>by
    have h3:N*2 ^ k<2 ^ 63*2 ^ k:=Nat.mul_lt_mul_of_pos_right hb1 (Nat.two_pow_pos k);rw [← Nat.pow_add] at h3
    exact Nat.lt_of_lt_of_le h3 (Nat.pow_le_pow_right (by omega) (by omega))
   have hz1:∀ k:Nat,k≤100001→1*2 ^ k<2 ^ (32*L):=fun k hk=>by
    rw [Nat.one_mul]
    exact Nat.pow_lt_pow_right (by omega) (by omega)
   refine (frac_any false C D m' d' 1 1 L N 1 _ _ (-k2 - 1) W h1 h2 (by have:=h1.len_le (show N<2 ^ (32*2) from Nat.lt_of_lt_of_le hb1 (Nat.pow_le_pow_right (by omega) (by omega)));omega) (by omega) (num_digs _) (num_digs _) (by omega) (by omega) (by omega) (hz _ (by omega)) (hz1 _ (by omega)) (by omega)).mono ?_
   exact fun _ _ h=>h.s
  ·intro W g' C m' d' D n' e' h1;refine (bits_any 70000 g' C D m' d' n' e' _ d W h1 (by omega) hd).mono ?_;rintro e w' ⟨k,rfl,hk,hb'⟩;rw [hk.eq,rnd_same (fun j=>RtQ.le hst hq j) hd]
   exact⟨rfl,hb'⟩
 have hp2:blen p≤64000:=by omega
 have hu2:blen u≤64000:=by omega
 have hP2b:-200000≤P2∧P2≤200000:=by omega
 obtain⟨KL,hKL⟩:∃ KL:Nat,KL=10000:=⟨_,rfl⟩
 have sz:∀ a:Nat,blen a≤32*KL→a<2 ^ (32*KL):=fun a h=>blen_le_iff.1 h;have pK:p<2 ^ (32*KL):=sz p (by omega);have uK:u<2 ^ (32*KL):=sz u (by omega)
 rcases Int.lt_or_le k2 0 with hk | hk
 ·obtain⟨g,hg⟩:∃ g:Nat,-P2=(g:Int):=⟨(-P2).toNat,by
   have:(n:Int)*k2≤(n:Int)*0:=Int.mul_le_mul_of_nonneg_left (by omega) (by omega)
   omega⟩
  have hl:=blen_shl u g hu0
  obtain⟨R,ov,cc,lg,y,hR,hlg,hlgb,hR1,hR2,hcc,hov,hfin,hbit⟩:=main p (u*2 ^ g) hp (Nat.mul_pos hu0 (Nat.two_pow_pos g)) (by rw [hl];omega) (by
   have k:=rv_scale false (p:=p) hu0 (-(g:Int));rw [show (-(g:Int)).toNat=0 from by omega,show (-(-(g:Int))).toNat=g from by omega,Nat.pow_zero,Nat.mul_one] at k
   rw [k,s9];congr 2;omega)
  exact rootof_neg d n p u p (u*2 ^ g) g R (blen p) (blen u) lg _ k1 k2 P1 P2 t0 t1 t2 cc ov _ KL KL y A n1 c1 B m1 d1 w hu hv pK uK pK (sz _ (by rw [hl];omega)) (by omega) (by omega)
   hRS rfl rfl (by omega) (by omega) rfl hn hn2 s1 s2 s3 s4 s5 s6 s7 s8 s9 s10 s11 ⟨b1,b2,b3,b4,b5,b6,b7,b8,b9,b10,b11,b12⟩ (by omega) hg hk ⟨rfl,rfl⟩ (Nat.mul_pos hu0 (Nat.two_pow_pos g)) hR hlg hlgb hR1 hR2 hcc hov hfin hbit
 ·obtain⟨g,hg⟩:∃ g:Nat,P2=(g:Int):=⟨P2.toNat,by
   have:(n:Int)*0≤(n:Int)*k2:=Int.mul_le_mul_of_nonneg_left (by omega) (by omega)
   omega⟩
  have hl:=blen_shl p g hp
  obtain⟨R,ov,cc,lg,y,hR,hlg,hlgb,hR1,hR2,hcc,hov,hfin,hbit⟩:=main (p*2 ^ g) u (Nat.mul_pos hp (Nat.two_pow_pos g)) hu0 (by rw [hl];omega) (by
   have k:=rv_scale false (p:=p) hu0 (g:Int);rw [show (-(g:Int)).toNat=0 from by omega,show ((g:Int)).toNat=g from by omega,Nat.pow_zero,Nat.mul_one] at k
   rw [k,s9];congr 2;omega)
  exact rootof_pos d n p u (p*2 ^ g) u g R (blen p) (blen u) lg _ k1 k2 P1 P2 t0 t1 t2 cc ov _ KL KL y A n1 c1 B m1 d1 w hu hv pK uK (sz _ (by rw [hl];omega)) uK (by omega) (by omega)
   hRS rfl rfl (by omega) (by omega) rfl hn hn2 s1 s2 s3 s4 s5 s6 s7 s8 s9 s10 s11 ⟨b1,b2,b3,b4,b5,b6,b7,b8,b9,b10,b11,b12⟩ (by omega) hg hk ⟨rfl,rfl⟩ hu0 hR hlg hlgb hR1 hR2 hcc hov hfin hbit
theorem xor_top{m:Nat}(h:m<9223372036854775808):bits .xor .u64 (m:Int) 9223372036854775808=((m+9223372036854775808:Nat):Int):=by
 have k:=u64_xor_nat m 9223372036854775808 (by omega) (by omega)
 have e:m ^^^ 9223372036854775808=m+9223372036854775808:=by
  rw [show (9223372036854775808:Nat)=2 ^ 63 from rfl]
  apply Nat.eq_of_testBit_eq
  intro k;have hj:=nat_join 63 (2^63) m (by decide) (by exact h);rw [Nat.add_comm,← hj,Nat.testBit_xor,Nat.testBit_or,Nat.testBit_two_pow]
  by_cases hk:63=k
  ·subst hk;have:m.testBit 63=false:=Nat.testBit_lt_two_pow (by exact h)
   simp [this]
  ·simp [hk]
 rw [e] at k
 exact k
theorem turn_any(k:Int)(w:World)(h:0≤k∧k≤M):Calls Tryz.prog 238 #[.int .u64 (pat k:Int)] w fun e w'=>e=.returned (.int .u64 (pat (-k):Int))∧Below w.heap.size w w':=by
 have hM:(M:Int)=9218868437227405312:=rfl
 obtain⟨m,rfl⟩:∃ m:Nat,k=(m:Int):=⟨k.toNat,by omega⟩
 have hpl:pl (m+9223372036854775808)=pat (-(m:Int)):=by
  unfold pl
  rcases Nat.eq_zero_or_pos m with h0 | h0
  ·subst h0;rfl
  ·rw [if_neg (by omega),if_neg (by unfold rungOf;rw [M_val];omega),pat_neg (by omega)];omega
 have HP:=Hd fun W=>plain_b (m+9223372036854775808) W (by omega);rw [hpl] at HP
 obtain⟨z,hz⟩:∃ z,pat (-(m:Int))=z:=⟨_,rfl⟩
 rw [hz] at HP ⊢;rw [show pat (m:Int)=m from by rw [pat_nn (by omega)];omega];have hx:=xor_top (m:=m) (by omega);clear hz hpl h hM
 go_enter Tryz.func238,Tryz.ntmps238
 go_wp2_with fail;refine (HP.out _).mono ?_;rintro e w1 ⟨rfl,hb⟩;go_wp2
 go_ret
 exact⟨rfl,hb⟩
set_option maxRecDepth 4000 in
theorem rnd10_zero(d s1:Int)(n:Nat)(g1:Bool)(A1:Option Addr)(n1 c1:Nat)(B1:Option Addr)(m1 d1:Nat)(o1:Bool)(w:World)(hn:1<n)
  (hs:∀ W,Below w.heap.size w W→Calls Tryz.prog 42 #[.agg #[.bool g1,.slice A1 n1 c1,.slice B1 m1 d1]] W fun e w'=>e=.returned (.int .i64 0)∧Below W.heap.size W w'):
  Calls Tryz.prog 209 #[.int .i64 d,.agg #[.int .i64 s1,.bool g1,.slice A1 n1 c1,.slice B1 m1 d1,.int .i64 (n:Int),.bool o1]] w fun e w'=>e=.returned (.int .u64 0)∧Below w.heap.size w w':=by
 have HS:=Hd hs
 have hn1:¬ (n:Int)=1:=by omega
 have hn2:((n:Int) == 1)=false:=by simp;omega
 clear hs;have LL:=li1 w #[.int .i64 s1,.bool g1,.slice A1 n1 c1,.slice B1 m1 d1,.int .i64 (n:Int),.bool o1] 82
 go_enter Tryz.func209,Tryz.ntmps209
 obtain⟨q1_0,q1_1,q1_2,q1_3,q1_4,q1_5⟩:=(LL.out.blk 0 rfl).c6;go_wp2_with fail;refine (HS.out _ LL.out.b).mono ?_;rintro e wk ⟨rfl,hb⟩;replace LL:=stL LL hb;clear hb q1_0 q1_1 q1_2 q1_3 q1_4 q1_5 HS;go_wp2
 go_ret
 exact⟨rfl,LL.out.b⟩
set_option maxRecDepth 4000 in
theorem rnd10_pos(d s1:Int)(n z:Nat)(g1:Bool)(A1:Option Addr)(n1 c1:Nat)(B1:Option Addr)(m1 d1:Nat)(o1:Bool)(w:World)(hn:1<n)
  (hs:∀ W,Below w.heap.size w W→Calls Tryz.prog 42 #[.agg #[.bool g1,.slice A1 n1 c1,.slice B1 m1 d1]] W fun e w'=>e=.returned (.int .i64 1)∧Below W.heap.size W w')
  (hr:∀ W,Below w.heap.size w W→Calls Tryz.prog 237 #[.int .i64 d,.agg #[.bool false,.slice A1 n1 c1,.slice B1 m1 d1],.int .i64 (n:Int)] W fun e w'=>e=.returned (.int .u64 (z:Int))∧Below W.heap.size W w'):
  Calls Tryz.prog 209 #[.int .i64 d,.agg #[.int .i64 s1,.bool g1,.slice A1 n1 c1,.slice B1 m1 d1,.int .i64 (n:Int),.bool o1]] w fun e w'=>e=.returned (.int .u64 (z:Int))∧Below w.heap.size w w':=by
 have HS:=Hd hs;have HR:=Hd hr
 have hn1:¬ (n:Int)=1:=by omega
 have hn2:((n:Int) == 1)=false:=by simp;omega
 clear hs hr;have LL:=li1 w #[.int .i64 s1,.bool g1,.slice A1 n1 c1,.slice B1 m1 d1,.int .i64 (n:Int),.bool o1] 82
 go_enter Tryz.func209,Tryz.ntmps209
 obtain⟨q1_0,q1_1,q1_2,q1_3,q1_4,q1_5⟩:=(LL.out.blk 0 rfl).c6;go_wp2_with fail;refine (HS.out _ LL.out.b).mono ?_;rintro e wk ⟨rfl,hb⟩;replace LL:=stL LL hb;clear hb q1_0 q1_1 q1_2 q1_3 q1_4 q1_5 HS;obtain⟨q2_0,q2_1,q2_2,q2_3,q2_4,q2_5⟩:=(LL.out.blk 0 rfl).c6
 go_upto_region 7 with fail
 clear q2_0 q2_1 q2_2 q2_3 q2_4 q2_5;have hl_g6:=LL.out.lts;generalize hwn:World.alloc wk _=wn;replace LL:=Hd (LL.out.newE hwn)
 simp only [List.cons_append,List.nil_append] at LL
 simp only [List.mem_cons,List.not_mem_nil,or_false,forall_eq_or_imp,forall_eq,false_imp_iff,implies_true,and_true] at hl_g6
 clear hwn;generalize wk.heap.size=g6 at LL hl_g6 ⊢;obtain⟨q3_0,q3_1,q3_2,q3_3,q3_4,q3_5⟩:=(LL.out.blk 0 rfl).c6;obtain⟨q4_0,q4_1,q4_2⟩:=(LL.out.blk 1 rfl).c3;go_wp2_with fail;refine (HR.out _ LL.out.b).mono ?_;rintro e wk ⟨rfl,hb⟩;replace LL:=stL LL hb;clear hb q3_0 q3_1 q3_2 q3_3 q3_4 q3_5 q4_0 q4_1 q4_2 HR;go_wp2
 go_ret
 exact⟨rfl,LL.out.b⟩
set_option maxRecDepth 4000 in
theorem rnd10_neg(d s1:Int)(n z y:Nat)(g1:Bool)(A1:Option Addr)(n1 c1:Nat)(B1:Option Addr)(m1 d1:Nat)(o1:Bool)(w:World)(hn:1<n)(hd:-1≤d∧d≤1)
  (hs:∀ W,Below w.heap.size w W→Calls Tryz.prog 42 #[.agg #[.bool g1,.slice A1 n1 c1,.slice B1 m1 d1]] W fun e w'=>e=.returned (.int .i64 (-1))∧Below W.heap.size W w')
  (hr:∀ W,Below w.heap.size w W→Calls Tryz.prog 237 #[.int .i64 (-d),.agg #[.bool false,.slice A1 n1 c1,.slice B1 m1 d1],.int .i64 (n:Int)] W fun e w'=>e=.returned (.int .u64 (z:Int))∧Below W.heap.size W w')
  (ht:∀ W,Calls Tryz.prog 238 #[.int .u64 (z:Int)] W fun e w'=>e=.returned (.int .u64 (y:Int))∧Below W.heap.size W w'):
  Calls Tryz.prog 209 #[.int .i64 d,.agg #[.int .i64 s1,.bool g1,.slice A1 n1 c1,.slice B1 m1 d1,.int .i64 (n:Int),.bool o1]] w fun e w'=>e=.returned (.int .u64 (y:Int))∧Below w.heap.size w w':=by
 have HS:=Hd hs;have HR:=Hd hr;have HT:=Hd ht
 have hn1:¬ (n:Int)=1:=by omega
 have hn2:((n:Int) == 1)=false:=by simp;omega
 clear hs hr ht;have LL:=li1 w #[.int .i64 s1,.bool g1,.slice A1 n1 c1,.slice B1 m1 d1,.int .i64 (n:Int),.bool o1] 82
 go_enter Tryz.func209,Tryz.ntmps209
 obtain⟨q1_0,q1_1,q1_2,q1_3,q1_4,q1_5⟩:=(LL.out.blk 0 rfl).c6;go_wp2_with fail;refine (HS.out _ LL.out.b).mono ?_;rintro e wk ⟨rfl,hb⟩;replace LL:=stL LL hb;clear hb q1_0 q1_1 q1_2 q1_3 q1_4 q1_5 HS;obtain⟨q2_0,q2_1,q2_2,q2_3,q2_4,q2_5⟩:=(LL.out.blk 0 rfl).c6
 go_upto_region 7 with fail
 clear q2_0 q2_1 q2_2 q2_3 q2_4 q2_5;have hl_g6:=LL.out.lts;generalize hwn:World.alloc wk _=wn;replace LL:=Hd (LL.out.newE hwn)
 simp only [List.cons_append,List.nil_append] at LL
 simp only [List.mem_cons,List.not_mem_nil,or_false,forall_eq_or_imp,forall_eq,false_imp_iff,implies_true,and_true] at hl_g6
 clear hwn;generalize wk.heap.size=g6 at LL hl_g6 ⊢;obtain⟨q3_0,q3_1,q3_2,q3_3,q3_4,q3_5⟩:=(LL.out.blk 0 rfl).c6;obtain⟨q4_0,q4_1,q4_2⟩:=(LL.out.blk 1 rfl).c3;go_wp2_with fail;refine (HR.out _ LL.out.b).mono ?_;rintro e wk ⟨rfl,hb⟩;replace LL:=stL LL hb;clear hb q3_0 q3_1 q3_2 q3_3 q3_4 q3_5 q4_0 q4_1 q4_2 HR;go_wp2_with fail;refine (HT.out _).mono ?_;rintro e wk ⟨rfl,hb⟩;replace LL:=stL LL hb;clear hb HT;go_wp2
 go_ret
 exact⟨rfl,LL.out.b⟩
theorem Rtp.rnd{n:Nat}{x q q':Rat}(h:Rtp n x q)(h':Rtp n x q'){d:Int}(hd:d=-1∨d=1):rndI d q=rndI d q':=by
 rcases h with ⟨a,rfl⟩ | ⟨a,h⟩ | ⟨a,h⟩<;>rcases h' with ⟨b,rfl⟩ | ⟨b,h'⟩ | ⟨b,h'⟩
 ·rfl
 ·grind
 ·grind
 ·grind
 ·exact rnd_same (fun j=>RtQ.le h h' j) hd
 ·grind
 ·grind
 ·grind
 ·have k:=rnd_same (fun j=>RtQ.le h h' j) (d:=-d) (by omega);rw [rndI_neg hd,rndI_neg hd] at k
  omega
theorem rounded_n(K n:Nat)(d s1:Int)(x q:Rat)(g1:Bool)(A1:Option Addr)(n1 c1:Nat)(B1:Option Addr)(m1 d1:Nat)(o1:Bool)(w:World)(h:RatV w K g1 (.slice A1 n1 c1) (.slice B1 m1 d1) x)(hq:Rtp n x q)(hK:K≤2000)(hn:0<n)(hn2:n≤1024)(hd:d=-1∨d=1):
  Calls Tryz.prog 209 #[.int .i64 d,.agg #[.int .i64 s1,.bool g1,.slice A1 n1 c1,.slice B1 m1 d1,.int .i64 (n:Int),.bool o1]] w fun e w'=>e=.returned (.int .u64 (pat (rndI d q):Int))∧Below w.heap.size w w':=by
 have hM:(M:Int)=9218868437227405312:=rfl
 by_cases h1:n=1
 ·subst h1;refine (rounded10 K g1 A1 n1 c1 B1 m1 d1 s1 x o1 d w h (by omega) hd).mono ?_;rintro e w' ⟨k,rfl,hk,hb⟩;rw [hk.eq,(Rtp.one x).rnd hq hd]
  exact⟨rfl,hb⟩
 have hS:∀ s:Int,rsg x=s→∀ W,Below w.heap.size w W→Calls Tryz.prog 42 #[.agg #[.bool g1,.slice A1 n1 c1,.slice B1 m1 d1]] W fun e w'=>e=.returned (.int .i64 s)∧Below W.heap.size W w':=by
  rintro s rfl W hW
  exact rsign_any K g1 _ _ x W (h.below hW) (by omega)
 have hrat:=h;obtain⟨p,u,A',n',c',B',m',d',e1,e2,hu,hv,hu0,hp0,hpK,huK,rfl⟩:=h
 cases e1;cases e2
 rcases hq with ⟨h0,rfl⟩ | ⟨h0,hq⟩ | ⟨h0,hq⟩
 ·rw [rndI_zero hd,pat_zero]
  exact rnd10_zero d s1 n g1 A1 n1 c1 B1 m1 d1 o1 w (by omega) (hS 0 (rsg_zero_iff.2 h0))
 ·have hg:g1=false:=by
   cases g1
   ·rfl
   ·exfalso
    have hp:0<p:=by
     rcases Nat.eq_zero_or_pos p with hz | hz
     ·subst hz;rw [rv_zero] at h0;exact absurd h0 (by decide)
     ·exact hz
    have:=rv_pos hp hu0;rw [rv_true] at h0
    grind
  subst hg
  exact rnd10_pos d s1 n _ false A1 n1 c1 B1 m1 d1 o1 w (by omega) (hS 1 (by unfold rsg;rw [if_neg (by grind),if_neg (by grind)])) (fun W hW=>rootof_any K n d _ q A1 n1 c1 B1 m1 d1 W (hrat.below hW) h0 hq hK hn hn2 hd)
 ·have hg:g1=true:=by
   cases g1
   ·exfalso
    have hp:0<p:=by
     rcases Nat.eq_zero_or_pos p with hz | hz
     ·subst hz;rw [rv_zero] at h0;exact absurd h0 (by decide)
     ·exact hz
    have:=rv_pos hp hu0
    grind
   ·rfl
  subst hg
  have h2:RatV w K false (.slice A1 n1 c1) (.slice B1 m1 d1) (-rv true p u):=⟨p,u,A1,n1,c1,B1,m1,d1,rfl,rfl,hu,hv,hu0,fun _=>rfl,hpK,huK,by rw [rv_true,Rat.neg_neg]⟩
  have hd':-d=-1∨-d=1:=by omega
  have hr:0≤rndI (-d) (-q)∧rndI (-d) (-q)≤M:=by
   have h3:=rndI_down (-q);have h4:=rndI_up (-q);have h5:=hq.1;have h6:(0:Int)≤rndI (-1) (-q):=(h3.2.2 0 (by omega) (by omega)).2 (by rw [fl_zero];grind);have h7:=rndI_le (-q)
   rcases hd' with e | e<;>rw [e]<;>omega
  have hT:=fun W=>turn_any (rndI (-d) (-q)) W hr;rw [rndI_neg hd q,Int.neg_neg] at hT;have hR:=fun W (hW:Below w.heap.size w W)=>rootof_any K n (-d) _ (-q) A1 n1 c1 B1 m1 d1 W (h2.below hW) (by grind) hq hK hn hn2 hd';rw [rndI_neg hd q] at hR
  exact rnd10_neg d s1 n _ _ true A1 n1 c1 B1 m1 d1 o1 w (by omega) (by omega) (hS (-1) (by unfold rsg;rw [if_neg (by grind),if_pos h0])) hR hT
end
section
open Go.RowKit
theorem rv_pow(F n:Nat)(E:Int):(rv false F 1*2^E) ^ n=rv false (F^n) 1*2^(E*(n:Int)):=by
 rw [rmul_pow,zpow_pow,Int.mul_comm (n:Int) E]
 congr 1
 unfold rv
 simp only [Bool.false_eq_true,if_false]
 rw [show ((1:Nat):Rat)=1 from rfl]
 push_cast
 grind
theorem en_range{E:Int}{n:Nat}(h1:-1074≤E)(h2:E≤971)(hn:n≤1024):-1099776≤E*(n:Int)∧E*(n:Int)≤994304:=by
 constructor
 ·have a:=Int.mul_le_mul_of_nonneg_right h1 (show (0:Int)≤n by omega)
  omega
 ·have a:=Int.mul_le_mul_of_nonneg_right h2 (show (0:Int)≤n by omega)
  omega
set_option maxRecDepth 4000 in
theorem power_n(K b nn:Nat)(hn0:0<nn)(hnn:nn≤1024)(A B:Option Addr)(n c m d p q:Nat)(w:World)(hb:b<9218868437227405312)(hb0:0<b)(hu:U32s w A n c (digs p))(hv:U32s w B m d (digs q))(hp:0<p)(hq:0<q)(hpK:p<2^(32*K))(hqK:q<2^(32*K))(hK:K≤1048576):
  Calls Tryz.prog 236 #[.int .u64 (b:Int),.int .i64 (nn:Int),.agg #[.bool false,.slice A n c,.slice B m d]] w fun e w'=>e=.returned (.int .i64 (rc (fl (b:Int) ^ nn) (rv false p q)))∧Below w.heap.size w w':=by
 have hc:=pat_cases (b:=b) (by omega)
 have hfin:fin b:=by show rungOf b<M;rw [M_val];omega
 have hidx:idx b=(b:Int):=by omega
 have hsg:sgn b=false:=by
  rcases hc with h | h
  ·exact h.2.2.1
  ·omega
 obtain⟨e0,he⟩:∃ e,b / 4503599627370496 % 2048=e:=⟨_,rfl⟩
 obtain⟨f0,hff⟩:∃ f,b % 4503599627370496=f:=⟨_,rfl⟩
 obtain⟨he1,hf1,v1,v2⟩:=fl_parts hfin he hff hsg;rw [hidx] at v1 v2
 have he':b / 4503599627370496=e0:=by omega
 have m1:(b:Int) / 4503599627370496=(e0:Int):=by omega
 have m2:=mask52_u64 (x:=b) (by omega);rw [hff] at m2
 obtain⟨F,E,hF0,hF,hE1,hE2,hfl,hFe⟩:∃ (F:Nat) (E:Int),0<F∧F<9007199254740992∧-1074≤E∧E≤971∧fl (b:Int)=rv false F 1*2^E∧((0<e0∧F=f0+4503599627370496∧(e0:Int) - 1 - 1074=E)∨(e0=0∧F=f0∧(e0:Int) - 1074=E)):=by
  rcases Nat.eq_zero_or_pos e0 with h | h
  ·exact⟨f0,(e0:Int) - 1074,by omega,by omega,by omega,by omega,v2 h,.inr ⟨h,rfl,rfl⟩⟩
  ·exact⟨f0+4503599627370496,(e0:Int) - 1 - 1074,by omega,by omega,by omega,by omega,v1 h,.inl ⟨h,rfl,rfl⟩⟩
 have hflG:fl (b:Int) ^ nn=rv false (F^nn) 1*2^(E*(nn:Int)):=by rw [hfl];exact rv_pow F nn E
 have hG0:0<F^nn:=Nat.pow_pos hF0
 obtain⟨Z,hZ⟩:∃ Z:Nat,Z=1696:=⟨_,rfl⟩
 have hG:F^nn<2^(32*Z):=by
  calc F^nn<(2^53)^nn:=Nat.pow_lt_pow_left (by omega) (by omega)
   _=2^(53*nn):=by rw [← Nat.pow_mul]
   _≤2^(32*Z):=Nat.pow_le_pow_right (by omega) (by omega)
 have hEr:=en_range hE1 hE2 hnn
 obtain⟨G,hGe⟩:∃ x,F^nn=x:=⟨_,rfl⟩
 obtain⟨EN,hEN⟩:∃ x,E*(nn:Int)=x:=⟨_,rfl⟩
 rw [hGe] at hflG hG0 hG;rw [hEN] at hflG hEr;rw [pw_rc hq hflG];have hn1:=hu.len_le hpK;have hm1:=hv.len_le hqK;have HU:=Hd hu;have HV:=Hd hv
 have haK:G*q<2^(32*(K+Z)):=by
  calc G*q<2^(32*Z)*2^(32*K):=Nat.mul_lt_mul'' hG hqK
   _=2^(32*(K+Z)):=by rw [← Nat.pow_add];congr 1;omega
 have bp:blen p≤33554432:=Nat.le_trans (blen_le_iff.2 hpK) (by omega);have ba:blen (G*q)≤33608704:=Nat.le_trans (blen_le_iff.2 haK) (by omega);have hab:0<G*q:=Nat.mul_pos hG0 hq;have HSM:=Hd fun W=>small_any F W (by omega)
 obtain⟨a,ha⟩:∃ a,G*q=a:=⟨_,rfl⟩
 have T0:∀ (W:World) (A1:Option Addr) (n1 c1:Nat),Below w.heap.size w W→U32s W A1 n1 c1 (digs G)→Calls Tryz.prog 95 #[.slice A1 n1 c1,.slice B m d] W (NewU32 W (digs a)):=by
  intro W A1 n1 c1 hW h1;have:=times_any A1 B n1 c1 m d _ _ W h1 (HV.out.below hW) (by have:=h1.len_le (k:=Z) hG;omega) (by omega);rw [num_digs,num_digs,ha] at this
  exact this
 have P0:∀ (W:World) (A1:Option Addr) (n1 c1:Nat),U32s W A1 n1 c1 (digs F)→Calls Tryz.prog 120 #[.slice A1 n1 c1,.int .i64 (nn:Int)] W (NewU32 W (digs G)):=by
  intro W A1 n1 c1 h1;have h2:F<2^(32*2):=Nat.lt_of_lt_of_le hF (by decide);have h3:F<2^(32*Z):=Nat.lt_of_lt_of_le h2 (Nat.pow_le_pow_right (by omega) (by omega));have:=power_any A1 n1 c1 nn Z _ W h1 (by have:=h1.len_le h2;omega) (by rw [num_digs];exact hF0) (by rw [num_digs];exact h3) (by rw [num_digs,hGe];exact hG) (by omega) (by omega);rw [num_digs,hGe] at this
  exact this
 rw [ha] at haK ba hab ⊢;have TT:=Hd T0;have PT:=Hd P0;have PA:=Hd fun h=>pw_above (b:=p) (E:=EN) hab h;have PB:=Hd fun h=>pw_below (a:=a) (E:=EN) h hp
 obtain⟨r,hr⟩:∃ r,cmp3 (a*2^EN.toNat) (p*2^(-EN).toNat)=r:=⟨_,rfl⟩
 rw [hr] at PA PB ⊢;have HR:=Hd hr
 obtain⟨K2,hK2⟩:∃ x,K+Z=x:=⟨_,rfl⟩
 rw [hK2] at haK
 have hK3:K2≤1050272:=by omega
 have HAK:=Hd haK;clear hK2;have HFE:=Hd hFe;clear hr T0 P0 haK hab hFe hfl hflG hG hG0 hGe v1 v2 hc hfin hidx hsg he hff he' hu hv hp hq hpK hqK ha hF0
 rcases HFE.out with ⟨h0,hFF,hEE⟩ | ⟨h0,hFF,hEE⟩
 ·skip;obtain⟨LB0,LG0_0⟩:=bx1 w #[.bool false,.slice A n c,.slice B m d] 42
  have h1:(f0:Int)+4503599627370496=(F:Int):=by omega
  have h3:(0:Int)<(e0:Int):=by omega
  clear hFF h0;clear HFE
  go_enter Tryz.func236,Tryz.ntmps236
  go_upto_region 7 with fail
  refine wp_region_held_drew (S:=fun W'=>Blk W' w.heap.size 42 #[.bool false,.slice A n c,.slice B m d]∧Below w.heap.size w W') (by kernel_rfl) (by exact⟨LG0_0.out.drew,LB0.out.drew⟩) (fun hHeld=>?_);refine tk 0 ?_;(try simp only [Act.put,lay]);refine tk 2 ?_;(try simp only [Act.put,lay]);refine tk 4 ?_;(try simp only [Act.put,lay]);refine tk 5 ?_ (hv:=by intro W2 hSw;obtain⟨q0,q1,q2⟩:=hSw.1.c3;go_simp;(try with_reducible rfl));(try simp only [Act.put,lay]);refine rdy 1 (fun KK hKK=>?_);go_simp;refine (HSM.out _).mono ?_;rintro e w1 ⟨A1,n1,c1,rfl,hu1,hb1⟩;go_wp2_with fail;refine hKK.out _ _ (⟨hHeld.1.keep hb1,hHeld.2.trans (hb1.mono hHeld.2.size)⟩) (fun _=>?_);clear hKK KK hHeld;rename_i hHeld;(try simp only [Act.put,lay]);refine rdy 3 (fun KK hKK=>?_);go_simp;refine (PT.out _ A1 n1 c1 hu1).mono ?_;rintro e w2 ⟨A2,n2,c2,rfl,hu2,hb2⟩;go_wp2_with fail;refine hKK.out _ _ (⟨hHeld.1.keep hb2,hHeld.2.trans (hb2.mono hHeld.2.size)⟩) (fun _=>?_);clear hKK KK hHeld;rename_i hHeld;(try simp only [Act.put,lay]);refine rdy 6 (fun KK hKK=>?_);go_simp;refine (TT.out _ A2 n2 c2 ?_ hu2).mono ?_;exact hHeld.2;rintro e w3 ⟨A3,n3,c3,rfl,hu3,hb3⟩;go_wp2_with fail;refine hKK.out _ _ (⟨hHeld.1.keep hb3,hHeld.2.trans (hb3.mono hHeld.2.size)⟩) (fun _=>?_);clear hKK KK hHeld;rename_i hHeld;(try simp only [Act.put,lay]);refine tk 7 ?_;(try simp only [Act.put,lay]);refine wpAnyH_done (by kernel_rfl) ?_ _;have LB3:=Hd hHeld.2;have LG0_3:=Hd hHeld.1;have HU3:=Hd hu3;have hn3:=hu3.len_le HAK.out
  clear hHeld hu1 hu2 hu3 hb1 hb2 hb3 HSM PT TT LB0 LG0_0
  obtain⟨la,hla⟩:∃ x,blen a=x:=⟨_,rfl⟩
  obtain⟨lp,hlp⟩:∃ x,blen p=x:=⟨_,rfl⟩
  have H1:=Hd (len_v A3 n3 c3 w3 HU3.out);have H2:=Hd (len_v A n c w3 (HU.out.below LB3.out));rw [hla] at H1 PA PB ba;rw [hlp] at H2 PA PB bp;clear hla hlp;obtain⟨q0_0,q0_1,q0_2⟩:=LG0_3.out.c3
  by_cases ho:(lp:Int)+1<(la:Int)+EN
  ·have hr:=PA.out ho;clear PA PB HR;go_wp2_with fail;refine H1.out.mono ?_;rintro e w4 ⟨rfl,rfl⟩;go_wp2_with fail;refine H2.out.mono ?_;rintro e w4 ⟨rfl,rfl⟩;have HRR:=Hd hr;clear hr;go_wp2
   go_ret
   exact⟨ret_int HRR.out.symm,LB3.out⟩
  ·by_cases hu:(la:Int)+EN<(lp:Int) - 1
   ·have hr:=PB.out hu;clear PA PB HR;go_wp2_with fail;refine H1.out.mono ?_;rintro e w4 ⟨rfl,rfl⟩;go_wp2_with fail;refine H2.out.mono ?_;rintro e w4 ⟨rfl,rfl⟩;go_wp2_with fail;refine H1.out.mono ?_;rintro e w4 ⟨rfl,rfl⟩;go_wp2_with fail;refine H2.out.mono ?_;rintro e w4 ⟨rfl,rfl⟩;have HRR:=Hd hr;clear hr;go_wp2
    go_ret
    exact⟨ret_int HRR.out.symm,LB3.out⟩
   ·clear PA PB;go_wp2_with fail;refine H1.out.mono ?_;rintro e w4 ⟨rfl,rfl⟩;go_wp2_with fail;refine H2.out.mono ?_;rintro e w4 ⟨rfl,rfl⟩;go_wp2_with fail;refine H1.out.mono ?_;rintro e w4 ⟨rfl,rfl⟩;go_wp2_with fail;refine H2.out.mono ?_;rintro e w4 ⟨rfl,rfl⟩;clear H1 H2
    by_cases hE:0≤EN
    ·skip
     obtain⟨g,hg⟩:∃ g:Nat,EN=g:=⟨EN.toNat,by omega⟩
     subst hg
     have hg2:g≤994304:=by omega
     have hr:=HR.out;rw [show (-(g:Int)).toNat=0 from by omega,Int.toNat_natCast,Nat.pow_zero,Nat.mul_one] at hr;have HLL:=Hd (left_v (v:=a) A3 n3 c3 g w3 HU3.out (by omega) (by omega));have HRR:=Hd hr;clear hr HR;go_wp2_with fail;refine HLL.out.mono ?_;rintro e w5 ⟨A5,n5,c5,rfl,hu5,hb5⟩;have LB5:=stB LB3 hb5 LB3.out.size;have HC:=Hd (cmp_v A5 A n5 c5 n c w5 hu5 (HU.out.below LB5.out));rw [HRR.out] at HC;clear hb5 hu5 HLL;go_wp2_with fail;refine HC.out.mono ?_;rintro e w6 ⟨rfl,kk,rfl⟩;go_wp2
     go_ret
     exact⟨rfl,below_drewN LB5.out kk⟩
    ·skip
     obtain⟨g,hg⟩:∃ g:Nat,-EN=g:=⟨(-EN:Int).toNat,by omega⟩
     have hg2:g≤1099776:=by omega
     have hr:=HR.out;rw [show (EN:Int).toNat=0 from by omega,show (-EN:Int).toNat=g from by omega,Nat.pow_zero,Nat.mul_one] at hr;have HLL:=Hd (left_v (v:=p) A n c g w3 (HU.out.below LB3.out) (by omega) (by omega));have HRR:=Hd hr;clear hr HR
     have c2:EN<0:=by omega
     go_wp2_with fail;refine HLL.out.mono ?_;rintro e w5 ⟨A5,n5,c5,rfl,hu5,hb5⟩;have HC:=Hd (cmp_v A3 A5 n3 c3 n5 c5 w5 (HU3.out.below hb5) hu5);have LB5:=stB LB3 hb5 LB3.out.size;rw [HRR.out] at HC;clear hb5 hu5 HLL;go_wp2_with fail;refine HC.out.mono ?_;rintro e w6 ⟨rfl,kk,rfl⟩;go_wp2
     go_ret
     exact⟨rfl,below_drewN LB5.out kk⟩
 ·skip;obtain⟨LB0,LG0_0⟩:=bx1 w #[.bool false,.slice A n c,.slice B m d] 42;subst h0;subst hFF
  obtain rfl:E=-1074:=by omega
  clear hEE
  have hE:EN<0:=by omega
  clear HFE
  go_enter Tryz.func236,Tryz.ntmps236
  go_upto_region 7 with fail
  refine wp_region_held_drew (S:=fun W'=>Blk W' w.heap.size 42 #[.bool false,.slice A n c,.slice B m d]∧Below w.heap.size w W') (by kernel_rfl) (by exact⟨LG0_0.out.drew,LB0.out.drew⟩) (fun hHeld=>?_);refine tk 0 ?_;(try simp only [Act.put,lay]);refine tk 2 ?_;(try simp only [Act.put,lay]);refine tk 4 ?_;(try simp only [Act.put,lay]);refine tk 5 ?_ (hv:=by intro W2 hSw;obtain⟨q0,q1,q2⟩:=hSw.1.c3;go_simp;(try with_reducible rfl));(try simp only [Act.put,lay]);refine rdy 1 (fun KK hKK=>?_);go_simp;refine (HSM.out _).mono ?_;rintro e w1 ⟨A1,n1,c1,rfl,hu1,hb1⟩;go_wp2_with fail;refine hKK.out _ _ (⟨hHeld.1.keep hb1,hHeld.2.trans (hb1.mono hHeld.2.size)⟩) (fun _=>?_);clear hKK KK hHeld;rename_i hHeld;(try simp only [Act.put,lay]);refine rdy 3 (fun KK hKK=>?_);go_simp;refine (PT.out _ A1 n1 c1 hu1).mono ?_;rintro e w2 ⟨A2,n2,c2,rfl,hu2,hb2⟩;go_wp2_with fail;refine hKK.out _ _ (⟨hHeld.1.keep hb2,hHeld.2.trans (hb2.mono hHeld.2.size)⟩) (fun _=>?_);clear hKK KK hHeld;rename_i hHeld;(try simp only [Act.put,lay]);refine rdy 6 (fun KK hKK=>?_);go_simp;refine (TT.out _ A2 n2 c2 ?_ hu2).mono ?_;exact hHeld.2;rintro e w3 ⟨A3,n3,c3,rfl,hu3,hb3⟩;go_wp2_with fail;refine hKK.out _ _ (⟨hHeld.1.keep hb3,hHeld.2.trans (hb3.mono hHeld.2.size)⟩) (fun _=>?_);clear hKK KK hHeld;rename_i hHeld;(try simp only [Act.put,lay]);refine tk 7 ?_;(try simp only [Act.put,lay]);refine wpAnyH_done (by kernel_rfl) ?_ _;have LB3:=Hd hHeld.2;have LG0_3:=Hd hHeld.1;have HU3:=Hd hu3;have hn3:=hu3.len_le HAK.out
  clear hHeld hu1 hu2 hu3 hb1 hb2 hb3 HSM PT TT LB0 LG0_0
  obtain⟨la,hla⟩:∃ x,blen a=x:=⟨_,rfl⟩
  obtain⟨lp,hlp⟩:∃ x,blen p=x:=⟨_,rfl⟩
  have H1:=Hd (len_v A3 n3 c3 w3 HU3.out);have H2:=Hd (len_v A n c w3 (HU.out.below LB3.out));rw [hla] at H1 PA PB ba;rw [hlp] at H2 PA PB bp;clear hla hlp;obtain⟨q0_0,q0_1,q0_2⟩:=LG0_3.out.c3
  by_cases ho:(lp:Int)+1<(la:Int)+EN
  ·have hr:=PA.out ho;clear PA PB HR;go_wp2_with fail;refine H1.out.mono ?_;rintro e w4 ⟨rfl,rfl⟩;go_wp2_with fail;refine H2.out.mono ?_;rintro e w4 ⟨rfl,rfl⟩;have HRR:=Hd hr;clear hr;go_wp2
   go_ret
   exact⟨ret_int HRR.out.symm,LB3.out⟩
  ·by_cases hu:(la:Int)+EN<(lp:Int) - 1
   ·have hr:=PB.out hu;clear PA PB HR;go_wp2_with fail;refine H1.out.mono ?_;rintro e w4 ⟨rfl,rfl⟩;go_wp2_with fail;refine H2.out.mono ?_;rintro e w4 ⟨rfl,rfl⟩;go_wp2_with fail;refine H1.out.mono ?_;rintro e w4 ⟨rfl,rfl⟩;go_wp2_with fail;refine H2.out.mono ?_;rintro e w4 ⟨rfl,rfl⟩;have HRR:=Hd hr;clear hr;go_wp2
    go_ret
    exact⟨ret_int HRR.out.symm,LB3.out⟩
   ·clear PA PB;go_wp2_with fail;refine H1.out.mono ?_;rintro e w4 ⟨rfl,rfl⟩;go_wp2_with fail;refine H2.out.mono ?_;rintro e w4 ⟨rfl,rfl⟩;go_wp2_with fail;refine H1.out.mono ?_;rintro e w4 ⟨rfl,rfl⟩;go_wp2_with fail;refine H2.out.mono ?_;rintro e w4 ⟨rfl,rfl⟩;clear H1 H2
    obtain⟨g,hg⟩:∃ g:Nat,-EN=g:=⟨(-EN:Int).toNat,by omega⟩
    have hg2:g≤1099776:=by omega
    have hr:=HR.out;rw [show (EN:Int).toNat=0 from by omega,show (-EN:Int).toNat=g from by omega,Nat.pow_zero,Nat.mul_one] at hr;have HLL:=Hd (left_v (v:=p) A n c g w3 (HU.out.below LB3.out) (by omega) (by omega));have HRR:=Hd hr;clear hr HR;go_wp2_with fail;refine HLL.out.mono ?_;rintro e w5 ⟨A5,n5,c5,rfl,hu5,hb5⟩;have HC:=Hd (cmp_v A3 A5 n3 c3 n5 c5 w5 (HU3.out.below hb5) hu5);have LB5:=stB LB3 hb5 LB3.out.size;rw [HRR.out] at HC;clear hb5 hu5 HLL;go_wp2_with fail;refine HC.out.mono ?_;rintro e w6 ⟨rfl,kk,rfl⟩;go_wp2
    go_ret
    exact⟨rfl,below_drewN LB5.out kk⟩
end
section
open Go.RowKit
set_option maxRecDepth 2000 in
theorem against_n(K nn:Nat)(hn0:0<nn)(hnn:nn≤1024)(q1:Rat)(i:Int)(g1:Bool)(A1:Option Addr)(n1 c1:Nat)(B1:Option Addr)(m1 d1:Nat)(x1:Rat)(o1:Bool)(w:World)(hi:-(M:Int)<i∧i<M)(h1:RatV w K g1 (.slice A1 n1 c1) (.slice B1 m1 d1) x1)(hq1:Rtp nn x1 q1)(hK:34≤K)(hK2:K≤1048576):
  Calls Tryz.prog 208 #[.int .u64 (pat i:Int),.agg #[.int .i64 0,.bool g1,.slice A1 n1 c1,.slice B1 m1 d1,.int .i64 (nn:Int),.bool o1]] w (Ag w (rc (fl i) q1)):=by
 have hM:M=9218868437227405312:=rfl;have hr:=rung_pat (i:=i) (by omega) (by omega);have hpl:=pat_lt (i:=i) (by omega) (by omega);have HI:=Hd fun W=>isinf_any (pat i) W hpl;have HF:=Hd fun W=>(frombits_any (pat i) W hpl (by show rungOf _<M;rw [hr];omega)).mono fun _ _ h=>h.s;rw [idx_pat (by omega) (by omega)] at HF;rw [hr,show decide (i.natAbs=M)=false from by simp;omega] at HI;have HZ:=Hd (size_i hpl);rw [hr] at HZ;have HS1:=Hd fun W (g:Bool) (A:Option Addr) (n c:Nat) (B:Option Addr) (m d:Nat) (h:RatV W 34 g (.slice A n c) (.slice B m d) (fl i))=>rsign_any 34 g _ _ (fl i) W h (by omega);have HS2:=Hd fun W (hW:Below w.heap.size w W)=>rsign_any K g1 _ _ x1 W (h1.below hW) (by omega);have hs1:=rsg_range (fl i);have hs2:=rsg_range x1
 have HPW:∀ W,Below w.heap.size w W→rsg (fl i)=rsg x1→rsg (fl i)≠0→Calls Tryz.prog 236 #[.int .u64 (i.natAbs:Int),.int .i64 (nn:Int),.agg #[.bool false,.slice A1 n1 c1,.slice B1 m1 d1]] W fun e w'=>∃ r:Int,e=.returned (.int .i64 r)∧-1≤r∧r≤1∧rsg (fl i)*r=rc (fl i) q1∧Below W.heap.size W w':=by
  intro W hW he h0;obtain⟨p,q,A,n,c,B,m,d,e1,e2,hu,hv,hq,hp0,hpK,hqK,rfl⟩:=h1
  cases e1;cases e2
  have hp:0<p:=by
   rcases Nat.eq_zero_or_pos p with h | h
   ·subst h;rw [rv_zero] at he;exact absurd (he.trans (rsg_zero_iff.2 rfl)) h0
   ·exact h
  have hi0:i≠0:=by rintro rfl;rw [fl_zero] at h0;exact h0 (rsg_zero_iff.2 rfl)
  refine (power_n K i.natAbs nn hn0 hnn A1 B1 n1 c1 m1 d1 p q W (by omega) (by omega) (hu.below hW) (hv.below hW) hp hq hpK hqK hK2).mono ?_;rintro e w' ⟨rfl,hb⟩;refine⟨_,rfl,(rc_range _ _).1,(rc_range _ _).2,?_,hb⟩;rw [rsg_rv hq hp0,if_neg (by omega)] at he
  rcases Int.lt_or_le i 0 with h | h
  ·have hneg:fl i<0:=by rw [← fl_zero];exact fl_lt_iff.2 h
   have hr1:rsg (fl i)=-1:=by unfold rsg;rw [if_neg (by grind),if_pos hneg]
   rw [hr1] at he ⊢
   have hg:g1=true:=by
    cases g1
    ·simp at he
    ·rfl
   subst hg;have k:=hq1.neg.rc (b:=(i.natAbs:Int)) (by omega);rw [rv_true,Rat.neg_neg] at k
   rw [k (rv_pos hp hq),show rc (fl i) q1=- rc (fl (i.natAbs:Int)) (-q1) from by
    rw [← rc_neg,Rat.neg_neg,← fl_neg];congr 2;omega]
   omega
  ·have hpos:0<fl i:=by rw [← fl_zero];exact fl_lt_iff.2 (by omega)
   have hr1:rsg (fl i)=1:=by unfold rsg;rw [if_neg (by grind),if_neg (by grind)]
   rw [hr1] at he ⊢
   have hg:g1=false:=by
    cases g1
    ·rfl
    ·simp at he
   subst hg;rw [hq1.rc (b:=(i.natAbs:Int)) (by omega) (rv_pos hp hq),show ((i.natAbs:Nat):Int)=i from by omega,Int.one_mul]
 have HD:=Hd (same_diff (x:=fl i) (y:=q1))
 have HZZ:rsg (fl i)=0→rsg x1=0→rc (fl i) q1=0:=by
  intro a b;rw [← hq1.sgn] at b;rw [rsg_zero_iff.1 a,rsg_zero_iff.1 b];exact rc_zero_zero
 rw [hq1.sgn] at HD
 obtain⟨P,hP⟩:∃ P,pat i=P:=⟨_,rfl⟩
 rw [hP] at HI HF HZ ⊢
 obtain⟨N,hN⟩:∃ N,i.natAbs=N:=⟨_,rfl⟩
 rw [hN] at HZ HPW
 obtain⟨z,hz⟩:∃ z,fl i=z:=⟨_,rfl⟩
 rw [hz] at HF HS1 HPW HD HZZ hs1 ⊢
 obtain⟨s,hs⟩:∃ s,rsg z=s:=⟨_,rfl⟩
 obtain⟨t,ht⟩:∃ t,rsg x1=t:=⟨_,rfl⟩
 obtain⟨r,hr⟩:∃ r,rc z q1=r:=⟨_,rfl⟩
 rw [hs] at HS1 hs1 HPW HD HZZ;rw [ht] at HS2 hs2 HPW HD HZZ;rw [hr] at HPW HD HZZ ⊢;have HPW:=Hd HPW;have HZZ:=Hd HZZ;have zz:=HZ.out;clear hi hM hP hz hN hs ht hr h1 hq1 hpl hK hK2 HZ
 by_cases hst:s=t
 ·subst hst
  by_cases h0:s=0
  ·subst h0;have hr0:=HZZ.out rfl rfl;obtain⟨LB0,LG0_0⟩:=bx1 w #[.int .i64 0,.bool g1,.slice A1 n1 c1,.slice B1 m1 d1,.int .i64 (nn:Int),.bool o1] 82
   go_enter Tryz.func208,Tryz.ntmps208
   go_wp2_with fail;refine (HI.out _).mono ?_;rintro e w1 ⟨rfl,k,rfl⟩;have LB1:=Hd (below_drewN LB0.out k);have LG0_1:=Hd (LG0_0.out.drewN k);clear LB0 LG0_0;go_wp2_with fail;refine (HF.out _).mono ?_;rintro e w2 ⟨g2,A2,n2,c2,B2,m2,d2,rfl,h2,hb2⟩;have LB2:=stB LB1 hb2 LB1.out.size;have LG0_2:=stG LG0_1 hb2;clear LB1 LG0_1
   go_upto_region 4 with fail
   have h3:=h2.below (below_alloc w2 (.cells #[.bool g2,.slice A2 n2 c2,.slice B2 m2 d2] 42));have LB3:=Hd (LB2.out.alloc LB2.out.size (.cells #[.bool g2,.slice A2 n2 c2,.slice B2 m2 d2] 42));have LG0_3:=Hd (LG0_2.out.alloc (.cells #[.bool g2,.slice A2 n2 c2,.slice B2 m2 d2] 42));have LG1_3:=Hd (Blk.new w2 42 #[.bool g2,.slice A2 n2 c2,.slice B2 m2 d2]);clear LB2 LG0_2;rw [show w2.heap.size=w2.heap.size from rfl]
   obtain⟨V3,hV3⟩:∃ X,w2.alloc (.cells #[.bool g2,.slice A2 n2 c2,.slice B2 m2 d2] 42)=X:=⟨_,rfl⟩
   rw [hV3] at LB3 LG0_3 LG1_3 h3 ⊢;clear hV3 h2 hb2;obtain⟨q1_0,q1_1,q1_2⟩:=LG1_3.out.c3;go_wp2_with fail;refine (HS1.out V3 g2 A2 n2 c2 B2 m2 d2 h3).mono ?_;rintro e w4 ⟨rfl,hb4⟩;have LB4:=stB LB3 hb4 LB3.out.size;have LG0_4:=stG LG0_3 hb4;have LG1_4:=stG LG1_3 hb4;clear LB3 LG0_3 LG1_3;clear h3 hb4 q1_0 q1_1 q1_2;obtain⟨q0_0,q0_1,q0_2,q0_3,q0_4,q0_5⟩:=LG0_4.out.c6;go_wp2_with fail;refine (HS2.out _ LB4.out).mono ?_;rintro e w5 ⟨rfl,hb5⟩;have LB5:=stB LB4 hb5 LB4.out.size;have LG0_5:=stG LG0_4 hb5;have LG1_5:=stG LG1_4 hb5;clear LB4 LG0_4 LG1_4;clear hb5 q0_0 q0_1 q0_2 q0_3 q0_4 q0_5;go_wp2
   go_ret
   exact⟨0,rfl,by rw [hr0];exact SameSign.refl 0,LB5.out⟩
  ·have hq:(s == 0)=false:=by simp;omega
   have hs3:s=-1∨s=1:=by omega
   clear h0
   rcases hs3 with rfl | rfl
   all_goals
    obtain⟨LB0,LG0_0⟩:=bx1 w #[.int .i64 0,.bool g1,.slice A1 n1 c1,.slice B1 m1 d1,.int .i64 (nn:Int),.bool o1] 82
    go_enter Tryz.func208,Tryz.ntmps208
    go_wp2_with fail;refine (HI.out _).mono ?_;rintro e w1 ⟨rfl,k,rfl⟩;have LB1:=Hd (below_drewN LB0.out k);have LG0_1:=Hd (LG0_0.out.drewN k);clear LB0 LG0_0;go_wp2_with fail;refine (HF.out _).mono ?_;rintro e w2 ⟨g2,A2,n2,c2,B2,m2,d2,rfl,h2,hb2⟩;have LB2:=stB LB1 hb2 LB1.out.size;have LG0_2:=stG LG0_1 hb2;clear LB1 LG0_1
    go_upto_region 4 with fail
    have h3:=h2.below (below_alloc w2 (.cells #[.bool g2,.slice A2 n2 c2,.slice B2 m2 d2] 42));have LB3:=Hd (LB2.out.alloc LB2.out.size (.cells #[.bool g2,.slice A2 n2 c2,.slice B2 m2 d2] 42));have LG0_3:=Hd (LG0_2.out.alloc (.cells #[.bool g2,.slice A2 n2 c2,.slice B2 m2 d2] 42));have LG1_3:=Hd (Blk.new w2 42 #[.bool g2,.slice A2 n2 c2,.slice B2 m2 d2]);clear LB2 LG0_2;rw [show w2.heap.size=w2.heap.size from rfl]
    obtain⟨V3,hV3⟩:∃ X,w2.alloc (.cells #[.bool g2,.slice A2 n2 c2,.slice B2 m2 d2] 42)=X:=⟨_,rfl⟩
    rw [hV3] at LB3 LG0_3 LG1_3 h3 ⊢;clear hV3 h2 hb2;obtain⟨q1_0,q1_1,q1_2⟩:=LG1_3.out.c3;go_wp2_with fail;refine (HS1.out V3 g2 A2 n2 c2 B2 m2 d2 h3).mono ?_;rintro e w4 ⟨rfl,hb4⟩;have LB4:=stB LB3 hb4 LB3.out.size;have LG0_4:=stG LG0_3 hb4;have LG1_4:=stG LG1_3 hb4;clear LB3 LG0_3 LG1_3;clear h3 hb4 q1_0 q1_1 q1_2;obtain⟨q0_0,q0_1,q0_2,q0_3,q0_4,q0_5⟩:=LG0_4.out.c6;go_wp2_with fail;refine (HS2.out _ LB4.out).mono ?_;rintro e w5 ⟨rfl,hb5⟩;have LB5:=stB LB4 hb5 LB4.out.size;have LG0_5:=stG LG0_4 hb5;have LG1_5:=stG LG1_4 hb5;clear LB4 LG0_4 LG1_4;clear hb5 q0_0 q0_1 q0_2 q0_3 q0_4 q0_5;obtain⟨q0_0,q0_1,q0_2,q0_3,q0_4,q0_5⟩:=LG0_5.out.c6
    go_upto_region 10 with fail
    clear q0_0 q0_1 q0_2 q0_3 q0_4 q0_5;have LB6:=Hd (LB5.out.alloc LB5.out.size (.cells #[.bool false,.slice A1 n1 c1,.slice B1 m1 d1] 42));have LG0_6:=Hd (LG0_5.out.alloc (.cells #[.bool false,.slice A1 n1 c1,.slice B1 m1 d1] 42));have LG1_6:=Hd (LG1_5.out.alloc (.cells #[.bool false,.slice A1 n1 c1,.slice B1 m1 d1] 42));have LG2_6:=Hd (Blk.new w5 42 #[.bool false,.slice A1 n1 c1,.slice B1 m1 d1]);clear LB5 LG0_5 LG1_5
    obtain⟨V6,hV6⟩:∃ X,(w5.alloc (.cells #[.bool false,.slice A1 n1 c1,.slice B1 m1 d1] 42))=X:=⟨_,rfl⟩
    rw [hV6] at LB6 LG0_6 LG1_6 LG2_6 ⊢;clear hV6;have q0_4:=LG0_6.out.ce 4 rfl;obtain⟨q2_0,q2_1,q2_2⟩:=LG2_6.out.c3;go_wp2_with fail;refine (HPW.out _ LB6.out trivial (by decide)).mono ?_;rintro e w6 ⟨r0,rfl,hr1,hr2,hr3,hb6⟩;have LBF:=Hd (LB6.out.trans (hb6.mono LB6.out.size));have HR3:=Hd hr3;clear hb6 hr3 q0_4 q2_0 q2_1 q2_2;go_wp2
    go_ret
    exact⟨_,rfl,by rw [← HR3.out];exact⟨by omega,by omega⟩,LBF.out⟩
 ·have hq:(s == t)=false:=by simp;omega
  have HDD:=Hd (HD.out hst);clear hst;obtain⟨LB0,LG0_0⟩:=bx1 w #[.int .i64 0,.bool g1,.slice A1 n1 c1,.slice B1 m1 d1,.int .i64 (nn:Int),.bool o1] 82
  go_enter Tryz.func208,Tryz.ntmps208
  go_wp2_with fail;refine (HI.out _).mono ?_;rintro e w1 ⟨rfl,k,rfl⟩;have LB1:=Hd (below_drewN LB0.out k);have LG0_1:=Hd (LG0_0.out.drewN k);clear LB0 LG0_0;go_wp2_with fail;refine (HF.out _).mono ?_;rintro e w2 ⟨g2,A2,n2,c2,B2,m2,d2,rfl,h2,hb2⟩;have LB2:=stB LB1 hb2 LB1.out.size;have LG0_2:=stG LG0_1 hb2;clear LB1 LG0_1
  go_upto_region 4 with fail
  have h3:=h2.below (below_alloc w2 (.cells #[.bool g2,.slice A2 n2 c2,.slice B2 m2 d2] 42));have LB3:=Hd (LB2.out.alloc LB2.out.size (.cells #[.bool g2,.slice A2 n2 c2,.slice B2 m2 d2] 42));have LG0_3:=Hd (LG0_2.out.alloc (.cells #[.bool g2,.slice A2 n2 c2,.slice B2 m2 d2] 42));have LG1_3:=Hd (Blk.new w2 42 #[.bool g2,.slice A2 n2 c2,.slice B2 m2 d2]);clear LB2 LG0_2;rw [show w2.heap.size=w2.heap.size from rfl]
  obtain⟨V3,hV3⟩:∃ X,w2.alloc (.cells #[.bool g2,.slice A2 n2 c2,.slice B2 m2 d2] 42)=X:=⟨_,rfl⟩
  rw [hV3] at LB3 LG0_3 LG1_3 h3 ⊢;clear hV3 h2 hb2;obtain⟨q1_0,q1_1,q1_2⟩:=LG1_3.out.c3;go_wp2_with fail;refine (HS1.out V3 g2 A2 n2 c2 B2 m2 d2 h3).mono ?_;rintro e w4 ⟨rfl,hb4⟩;have LB4:=stB LB3 hb4 LB3.out.size;have LG0_4:=stG LG0_3 hb4;have LG1_4:=stG LG1_3 hb4;clear LB3 LG0_3 LG1_3;clear h3 hb4 q1_0 q1_1 q1_2;obtain⟨q0_0,q0_1,q0_2,q0_3,q0_4,q0_5⟩:=LG0_4.out.c6;go_wp2_with fail;refine (HS2.out _ LB4.out).mono ?_;rintro e w5 ⟨rfl,hb5⟩;have LB5:=stB LB4 hb5 LB4.out.size;have LG0_5:=stG LG0_4 hb5;have LG1_5:=stG LG1_4 hb5;clear LB4 LG0_4 LG1_4;clear hb5 q0_0 q0_1 q0_2 q0_3 q0_4 q0_5;go_wp2
  go_ret
  exact⟨_,rfl,HDD.out,LB5.out⟩
end
end Go.Proofs.YthlmlmfebpjgdaaGreatDoor
