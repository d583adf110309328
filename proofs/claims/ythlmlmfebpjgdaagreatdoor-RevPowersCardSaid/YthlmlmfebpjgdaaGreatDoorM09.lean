/-
Lemmas for the statement: AddP Rtf Pow10T WhfT AgT RtqP RooP.
-/
import Derived.Test.YthlmlmfebpjgdaaGreatDoorM08
import Derived.Test.YthlmlmfebpjgdaaGreatDoorM01
import Derived.Test.YthlmlmfebpjgdaaGreatDoorM03
import Derived.Test.YthlmlmfebpjgdaaGreatDoorM07
import Derived.Test.YthlmlmfebpjgdaaGreatDoorM02
import Derived.Deep.DeepCutAuto
set_option linter.unusedSimpArgs false
set_option linter.unusedVariables false
set_option maxHeartbeats 12800000
namespace Go.Proofs.YthlmlmfebpjgdaaGreatDoor
section
open Go.RowKit
theorem mul_le_pos{a b c:Rat}(h:0<c):a*c≤b*c↔a≤b:=by
 constructor
 ·intro h1;exact Rat.le_of_mul_le_mul_right h1 h
 ·intro h1;exact Rat.mul_le_mul_of_nonneg_right h1 (by grind)
theorem mag_two_pow(t:Nat):mag ((t+1)*2^52)=2^52*2^t:=by
 have:=mag_form t (2^52) (.inr (Nat.le_refl _)) (by omega);rw [show (t+1)*2^52=t*2^52+2^52 from by rw [Nat.add_mul,Nat.one_mul]];exact this
theorem rep_two_pow(t:Nat):Rep ((2:Int)^t):=rep_of_dvd t (Int.dvd_refl _) (by rw [Int.natAbs_pow];exact Nat.le_mul_of_pos_left _ (by decide))
theorem R_bound{n:Int}{t:Nat}(h:n.natAbs≤2^t):(R n).natAbs≤2^t:=by
 have h0:((2^t:Nat):Int)=(2:Int)^t:=by rw [Int.natCast_pow];rfl
 have h1:R n≤(2:Int)^t:=R_le (rep_two_pow t) (by omega);have h2:-(2:Int)^t≤R n:=le_R (rep_two_pow t).neg (by omega)
 omega
theorem near_R{n:Int}{Q:Nat}(hQ:Q≤2000)(h:n.natAbs≤2^Q):val (near n 0)=R n∧-(M:Int)<near n 0∧near n 0<M:=by
 have hM:M=2047*2^52:=rfl
 obtain⟨r,hr⟩:∃ r,mag r=2^Q*2^0∧r<M:=by
  by_cases hq:Q<52
  ·have h1:2^Q<2^52:=Nat.pow_lt_pow_right (by omega) hq
   exact⟨2^Q,by rw [mag_small h1,Nat.pow_zero,Nat.mul_one],by omega⟩
  ·obtain⟨t,rfl⟩:∃ t,Q=52+t:=⟨Q - 52,by omega⟩
   refine⟨(t+1)*2^52,by rw [mag_two_pow,Nat.pow_zero,Nat.mul_one,Nat.pow_add],?_⟩;have:(t+1)*2^52≤2000*2^52:=Nat.mul_le_mul_right _ (by omega)
   omega
 have h1:nearRung n.natAbs 0≤r:=nearRung_le (by rw [Nat.pow_zero,Nat.mul_one];rw [Nat.pow_zero,Nat.mul_one] at hr;rw [hr.1];exact h)
 have h2:min (nearRung n.natAbs 0) M=nearRung n.natAbs 0:=by omega
 unfold near R;rw [h2];refine⟨?_,by split<;>omega,by split<;>omega⟩
 split
 ·rw [val_neg,val_nat]
 ·rw [val_nat]
structure Fl (b:Nat) (n:Int):Prop where
 lt:b<18446744073709551616
 fin:fin b
 val:val (idx b)=n
theorem Fl.of_is{b:Nat}{n:Int}{Q:Nat}(hQ:Q≤2000)(h:Is b (near n 0))(hn:n.natAbs≤2^Q):Fl b (R n):=by
 obtain⟨h1,h2,h3⟩:=near_R hQ hn;refine⟨h.lt,?_,by rw [h.idx,h1]⟩;have:=idx_natAbs b;rw [h.idx] at this
 show rungOf b<M
 omega
theorem Fl.add{x y:Nat}{m n:Int}{Q:Nat}(hQ:Q≤2000)(hx:Fl x m)(hy:Fl y n)(h:(m+n).natAbs≤2^Q):∃ r,FloatKind.f64.format.add x y=some r∧Fl r (R (m+n)):=by
 obtain⟨r,h1,h2⟩:=add_fin hx.fin hy.fin;rw [hx.val,hy.val] at h2
 exact⟨r,h1,Fl.of_is hQ h2 h⟩
theorem Fl.sub{x y:Nat}{m n:Int}{Q:Nat}(hQ:Q≤2000)(hx:Fl x m)(hy:Fl y n)(h:(m - n).natAbs≤2^Q):∃ r,FloatKind.f64.format.sub x y=some r∧Fl r (R (m - n)):=by
 obtain⟨r,h1,h2⟩:=sub_fin hx.fin hy.fin;rw [hx.val,hy.val] at h2
 exact⟨r,h1,Fl.of_is hQ h2 h⟩
theorem or_one(v:Nat):v ||| 1=2*(v / 2)+1:=by
 have h1:v=2*(v / 2)+v % 2:=by omega
 apply Nat.eq_of_testBit_eq
 intro i;rw [Nat.testBit_or]
 cases i with
 | zero=>simp
 | succ i=>rw [Nat.testBit_succ,Nat.testBit_succ,Nat.testBit_succ,show (2*(v / 2)+1) / 2=v / 2 from by omega];simp
def marked(w:Nat)(lost:Bool):Nat:=if lost then 2*(w / 2)+1 else w
theorem marked_div(w:Nat)(lost:Bool):marked w lost / 4=w / 4:=by unfold marked;split<;>omega
theorem marked_mod(w:Nat)(lost:Bool):marked w lost % 4=0↔w % 4=0∧lost=false:=by unfold marked;split<;>simp_all;omega
def Dg(S p q:Nat)(exp:Int)(more:Bool):Prop:=
 ∃ U:Nat,0≤exp+U∧3000≤U∧S*2^(exp+U).toNat*q≤p*2^U∧p*2^U<(S+1)*2^(exp+U).toNat*q∧(more=false↔p*2^U=S*2^(exp+U).toNat*q)
theorem Dg.exact(S:Nat)(exp:Int):Dg S (S*2^exp.toNat) (2^(-exp).toNat) exp false:=by
 refine⟨3000+exp.natAbs,by omega,by omega,?_⟩
 have e:S*2^exp.toNat*2^(3000+exp.natAbs)=S*2^(exp+(3000+exp.natAbs:Nat)).toNat*2^(-exp).toNat:=by
  rw [Nat.mul_assoc,Nat.mul_assoc,← Nat.pow_add,← Nat.pow_add];congr 2;omega
 refine⟨by omega,?_,by simp [e]⟩;rw [e,Nat.add_mul,Nat.add_mul,Nat.one_mul];have:0<2^(exp+(3000+exp.natAbs:Nat)).toNat*2^(-exp).toNat:=Nat.mul_pos (Nat.two_pow_pos _) (Nat.two_pow_pos _)
 omega
theorem Dg.sc{S p q:Nat}{exp:Int}{more:Bool}(h:Dg S p q exp more)(hS:0<S):Sc p q ((blen S:Int) - 1+exp):=by
 obtain⟨U,h0,-,h1,h2,-⟩:=h;obtain⟨L,e,b1,b2⟩:=blen_bounds hS;rw [e];have c1:2^(L+(exp+U).toNat)*q≤p*2^U:=Nat.le_trans (by rw [Nat.pow_add];exact Nat.mul_le_mul_right _ (Nat.mul_le_mul_right _ b1)) h1;have c2:p*2^U<2^(L+1+(exp+U).toNat)*q:=Nat.lt_of_lt_of_le h2 (by rw [Nat.pow_add];exact Nat.mul_le_mul_right _ (Nat.mul_le_mul_right _ (by omega)))
 have eg:((L+1:Nat):Int) - 1+exp=(L:Int)+exp:=by omega
 rw [eg]
 constructor
 ·intro hf
  have a1:L+(exp+U).toNat=((L:Int)+exp).toNat+U:=by omega
  have a2:L+1+(exp+U).toNat=((L:Int)+exp).toNat+1+U:=by omega
  rw [a1,Nat.pow_add] at c1;rw [a2,Nat.pow_add] at c2
  constructor
  ·refine Nat.le_of_mul_le_mul_right (c:=2^U) ?_ (Nat.two_pow_pos U)
   calc q*2^((L:Int)+exp).toNat*2^U=2^((L:Int)+exp).toNat*2^U*q:=by ac_rfl
    _≤_:=c1
  ·refine Nat.lt_of_mul_lt_mul_right (a:=2^U) ?_
   calc p*2^U<_:=c2
    _=q*2^(((L:Int)+exp).toNat+1)*2^U:=by ac_rfl
 ·intro hf
  have a1:U=L+(exp+U).toNat+(-((L:Int)+exp)).toNat:=by omega
  have c3:2^(L+(exp+U).toNat)*q≤2^(L+(exp+U).toNat)*(p*2^(-((L:Int)+exp)).toNat):=by
   calc _≤_:=c1
    _=p*(2^(L+(exp+U).toNat)*2^(-((L:Int)+exp)).toNat):=by rw [← Nat.pow_add,← a1]
    _=_:=by ac_rfl
  have c4:2^(L+(exp+U).toNat)*(p*2^(-((L:Int)+exp)).toNat)<2^(L+(exp+U).toNat)*(2*q):=by
   calc _=p*(2^(L+(exp+U).toNat)*2^(-((L:Int)+exp)).toNat):=by ac_rfl
    _=p*2^U:=by rw [← Nat.pow_add,← a1]
    _<_:=c2
    _=_:=by rw [show L+1+(exp+U).toNat=L+(exp+U).toNat+1 from by omega,Nat.pow_succ];ac_rfl
  exact⟨Nat.le_of_mul_le_mul_left c3 (Nat.two_pow_pos _),Nat.lt_of_mul_lt_mul_left c4⟩
theorem or_false_split{a b:Bool}(h:(a || b)=false):a=false∧b=false:=by revert h;cases a<;>cases b<;>simp
theorem bracket{P C W W':Nat}(h1:W*C≤P)(h2:P<(W+1)*C)(h3:W'*C≤P)(h4:P<(W'+1)*C):W=W':=by
 have a:W<W'+1:=Nat.lt_of_mul_lt_mul_right (Nat.lt_of_le_of_lt h1 h4);have b:W'<W+1:=Nat.lt_of_mul_lt_mul_right (Nat.lt_of_le_of_lt h3 h2)
 omega
theorem digits_at{S p q w:Nat}{exp e:Int}{more lost:Bool}(h:Dg S p q exp more)(hq:0<q)(he:-1074≤e)
  (hdn:0≤e - 2 - exp→w=S / 2^(e - 2 - exp).toNat∧(lost=true↔S % 2^(e - 2 - exp).toNat≠0))(hup:e - 2 - exp<0→w=S*2^(-(e - 2 - exp)).toNat∧lost=false∧more=false):
  marked w (lost || more) / 4=upN p e / upM q e∧(marked w (lost || more) % 4=0↔upN p e % upM q e=0):=by
 obtain⟨U,h0,hU,h1,h2,h3⟩:=h;obtain⟨u1,u2,u3,u4⟩:=units (n:=p) (m:=q) (U:=U) (e:=e) hq (by omega);rw [marked_div,marked_mod]
 obtain⟨P,hP⟩:∃ P,p*2^U=P:=⟨_,rfl⟩
 obtain⟨W,hW⟩:∃ W,upN p e / upM q e=W:=⟨_,rfl⟩
 rw [hP] at h1 h2 h3 u1 u2 u3 u4;rw [hW] at u1 u2 u3 u4 ⊢
 obtain⟨C,hC⟩:∃ C,2^(e+U).toNat*q=C:=⟨_,rfl⟩
 rw [Nat.mul_assoc,hC] at u1 u2 u3 u4
 have hC0:0<C:=by rw [← hC];exact Nat.mul_pos (Nat.two_pow_pos _) hq
 -- the bracket of w / 4,and when P is it
 have key:w / 4*C≤P∧P<(w / 4+1)*C∧(P=w / 4*C↔w % 4=0∧(lost || more)=false):=by
  rcases Int.lt_or_le (e - 2 - exp) 0 with hc | hc
  ·obtain⟨ew,rfl,rfl⟩:=hup hc;have eq:=h3.1 rfl
   obtain⟨k,hk⟩:∃ k,(-(e - 2 - exp)).toNat=k:=⟨_,rfl⟩
   obtain⟨B,hB⟩:∃ B,2^(e - 2+U).toNat*q=B:=⟨_,rfl⟩
   have hB0:0<B:=by rw [← hB];exact Nat.mul_pos (Nat.two_pow_pos _) hq
   have e4:C=4*B:=by
    rw [← hC,← hB,show (e+U).toNat=(e - 2+U).toNat+2 from by omega,Nat.pow_add];have:2^2=4:=rfl;rw [this];ac_rfl
   have eP:P=w*B:=by
    rw [eq,ew,hk,← hB,show (exp+U).toNat=k+(e - 2+U).toNat from by omega,Nat.pow_add];ac_rfl
   have ew4:w=4*(w / 4)+w % 4:=by omega
   have lt4:w % 4<4:=Nat.mod_lt _ (by omega);generalize w / 4=a at *;generalize w % 4=b at *
   have eP2:P=a*C+b*B:=by rw [eP,ew4,e4,Nat.add_mul];congr 1;ac_rfl
   refine⟨by omega,?_,?_⟩
   ·rw [Nat.add_mul,Nat.one_mul,eP2];have:b*B<4*B:=Nat.mul_lt_mul_of_pos_right lt4 hB0
    omega
   ·constructor
    ·intro h
     have:b*B=0:=by omega
     rcases Nat.mul_eq_zero.1 this with h | h
     ·exact⟨h,rfl⟩
     ·omega
    ·rintro⟨h,-⟩;rw [h] at eP2;omega
  ·obtain⟨ew,hl⟩:=hdn hc
   obtain⟨k,hk⟩:∃ k,(e - 2 - exp).toNat=k:=⟨_,rfl⟩
   rw [hk] at ew hl
   obtain⟨A,hA⟩:∃ A,2^(exp+U).toNat*q=A:=⟨_,rfl⟩
   have hA0:0<A:=by rw [← hA];exact Nat.mul_pos (Nat.two_pow_pos _) hq
   rw [Nat.mul_assoc,hA] at h1 h2 h3
   have e4:C=4*2^k*A:=by
    rw [← hC,← hA,show (e+U).toNat=(exp+U).toNat+k+2 from by omega,Nat.pow_add,Nat.pow_add];have:2^2=4:=rfl;rw [this];ac_rfl
   have eS:S=2^k*w+S % 2^k:=by rw [ew];exact (Nat.div_add_mod S (2^k)).symm
   have lS:S % 2^k<2^k:=Nat.mod_lt _ (Nat.two_pow_pos k)
   have ew4:w=4*(w / 4)+w % 4:=by omega
   have lt4:w % 4<4:=Nat.mod_lt _ (by omega);generalize S % 2^k=l at *;generalize w / 4=a at *;generalize w % 4=b at *;generalize 2^k=K at *
   have eS2:S=a*(4*K)+(K*b+l):=by
    rw [eS,ew4,Nat.mul_add]
    have:K*(4*a)=a*(4*K):=by ac_rfl
    omega
   have hr:K*b+l<4*K:=by
    have:K*b≤K*3:=Nat.mul_le_mul_left _ (by omega)
    omega
   generalize hR:K*b+l=r at *
   have c1:S*A=a*C+r*A:=by rw [eS2,e4,Nat.add_mul];congr 1;ac_rfl
   have c2:(S+1)*A=a*C+(r+1)*A:=by rw [Nat.add_mul,c1,Nat.add_mul];omega
   have c3:(r+1)*A≤C:=by rw [e4];exact Nat.mul_le_mul_right _ (by omega)
   refine⟨by omega,?_,?_⟩
   ·rw [Nat.add_mul,Nat.one_mul];omega
   ·constructor
    ·intro h
     have h5:r*A=0:=by omega
     have h6:r=0:=by rcases Nat.mul_eq_zero.1 h5 with h | h<;>omega
     have h7:l=0:=by omega
     have h8:K*b=0:=by omega
     have h9:b=0:=by rcases Nat.mul_eq_zero.1 h8 with h | h<;>omega
     have h10:lost=false:=by
      cases lost with
      | false=>rfl
      | true=>exact absurd h7 (hl.1 rfl)
     have h11:more=false:=h3.2 (by omega)
     exact⟨h9,by rw [h10,h11];rfl⟩
    ·rintro⟨h5,h6⟩;obtain⟨h7,h8⟩:=or_false_split h6
     have h9:l=0:=by
      by_cases hl0:l=0
      ·exact hl0
      ·have:=hl.2 hl0;rw [h7] at this;cases this
     have h10:r=0:=by rw [← hR,h5,h9];simp
     have:=h3.1 h8;rw [this,c1,h10];omega
 obtain⟨k1,k2,k3⟩:=key;have hWW:w / 4=W:=bracket k1 k2 u1 u2;refine⟨hWW,?_⟩;rw [← k3,hWW]
 constructor
 ·intro h
  by_cases h0:upN p e % upM q e=0
  ·exact h0
  ·have:=u4 h0;omega
 ·intro h;exact u3 h
end
theorem rmul_pow(a b:Rat)(n:Nat):(a*b) ^ n=a ^ n*b ^ n:=by
 induction n with
 | zero=>simp [Rat.pow_zero]
 | succ n ih=>rw [Rat.pow_succ,Rat.pow_succ,Rat.pow_succ,ih];grind
theorem rpow_le{a b:Rat}(h0:0≤a)(h:a≤b)(n:Nat):a ^ n≤b ^ n:=by
 induction n with
 | zero=>rw [Rat.pow_zero,Rat.pow_zero];grind
 | succ n ih=>
  rw [Rat.pow_succ,Rat.pow_succ]
  have h1:a ^ n*a≤b ^ n*a:=by rw [Rat.mul_comm _ a,Rat.mul_comm _ a];exact Rat.mul_le_mul_of_nonneg_left ih h0
  have h2:b ^ n*a≤b ^ n*b:=Rat.mul_le_mul_of_nonneg_left h (Rat.pow_nonneg (by grind))
  grind
theorem rpow_lt{a b:Rat}(h0:0≤a)(h:a<b)(n:Nat)(hn:0<n):a ^ n<b ^ n:=by
 obtain⟨m,rfl⟩:∃ m,n=m+1:=⟨n - 1,by omega⟩
 rw [Rat.pow_succ,Rat.pow_succ]
 have hb:0<b:=by grind
 have h1:a ^ m*a≤b ^ m*a:=by rw [Rat.mul_comm _ a,Rat.mul_comm _ a];exact Rat.mul_le_mul_of_nonneg_left (rpow_le h0 (by grind) m) h0
 have h2:b ^ m*a<b ^ m*b:=Rat.mul_lt_mul_of_pos_left h (Rat.pow_pos hb)
 grind
theorem zpow_pow(E:Int)(n:Nat):((2:Rat) ^ E) ^ n=2 ^ ((n:Int)*E):=by
 induction n with
 | zero=>rw [Rat.pow_zero];simp
 | succ n ih=>
  rw [Rat.pow_succ,ih,← zpow_add]
  congr 1
  rw [show ((n+1:Nat):Int)=(n:Int)+1 from by omega,Int.add_mul,Int.one_mul]
theorem nat_le_c{c:Rat}(hc:0<c)(a b:Nat):(a:Rat)*c≤(b:Rat)*c↔a≤b:=by
 rw [mul_le_pos hc];exact Rat.natCast_le_natCast
theorem pow_le_iff(Z R n:Nat)(hn:0<n):Z ^ n≤R ^ n↔Z≤R:=by
 constructor
 ·intro h
  rcases Nat.lt_or_ge R Z with k | k
  ·have:=Nat.pow_lt_pow_left k (show n≠0 by omega);omega
  ·exact k
 ·exact fun h=>Nat.pow_le_pow_left h n
def rq(s n R:Nat)(c:Rat):Rat:=if R ^ n=s then (R:Rat)*c else ((2*R+1:Nat):Rat)*(c / 2)
theorem root_cmp{c f:Rat}{s n R:Nat}(hc:0<c)(hn:0<n)(hR:IsR s n R)(hf:(∃ Z:Nat,f=(Z:Rat)*c)∨(0≤f∧f<(R:Rat)*c)):
  (f≤rq s n R c↔f ^ n≤(s:Rat)*c ^ n)∧(rq s n R c≤f↔(s:Rat)*c ^ n≤f ^ n):=by
 have hcn:0<c ^ n:=Rat.pow_pos hc
 have hc2:0<c / 2:=by grind
 rcases hf with ⟨Z,rfl⟩ | ⟨h0,hlt⟩
 ·rw [rmul_pow,← Rat.natCast_pow,nat_le_c hcn,nat_le_c hcn];unfold rq
  by_cases h:R ^ n=s
  ·rw [if_pos h,nat_le_c hc,nat_le_c hc,← h,pow_le_iff _ _ _ hn,pow_le_iff _ _ _ hn]
   exact⟨Iff.rfl,Iff.rfl⟩
  ·rw [if_neg h]
   have e:(Z:Rat)*c=((2*Z:Nat):Rat)*(c / 2):=by push_cast;grind
   rw [e,nat_le_c hc2,nat_le_c hc2]
   constructor
   ·constructor
    ·intro k;have:=Nat.pow_le_pow_left (show Z≤R by omega) n;have:=hR.1;omega
    ·intro k;have:=hR.ge k;omega
   ·constructor
    ·intro k;have:=Nat.pow_le_pow_left (show R+1≤Z by omega) n;have:=hR.2;omega
    ·intro k;have h1:=hR.1
     rcases Nat.lt_or_ge R Z with q | q
     ·omega
     ·have:=Nat.pow_le_pow_left q n;omega
 ·have h1:(R:Rat)*c≤rq s n R c:=by
   unfold rq
   split
   ·grind
   ·have:((R:Rat)*c)=((2*R:Nat):Rat)*(c / 2):=by push_cast;grind
    rw [this,nat_le_c hc2];omega
  have h2:f ^ n<((R:Rat)*c) ^ n:=rpow_lt h0 hlt n hn
  have h3:((R:Rat)*c) ^ n≤(s:Rat)*c ^ n:=by
   rw [rmul_pow,← Rat.natCast_pow,nat_le_c hcn];exact hR.1
  constructor
  ·exact⟨fun _=>by grind,fun _=>by grind⟩
  ·exact⟨fun _=>by grind,fun _=>by grind⟩
theorem fl_dig{j:Int}(hj:0≤j)(E:Int)(R:Nat)(hR:144115188075855872≤R):(∃ Z:Nat,fl j=(Z:Rat)*2 ^ E)∨(0≤fl j∧fl j<(R:Rat)*2 ^ E):=by
 obtain⟨k,q,e,hk,hq⟩:=rung_form j.toNat
 have hm:mag j.natAbs=q*2 ^ k:=by
  rw [show j.natAbs=j.toNat by omega,e];exact mag_form k q hk (by omega)
 have hv:val j=((q*2 ^ k:Nat):Int):=by
  have h1:=val_natAbs j;rw [hm] at h1
  have h2:0≤val j:=by
   rcases Int.lt_or_eq_of_le hj with h | h
   ·have:=(@val_lt_iff 0 j).2 h;rw [val_zero] at this;omega
   ·rw [← h,val_zero];omega
  omega
 have hf:fl j=(q:Rat)*2 ^ ((k:Int) - 1074):=by
  unfold fl;rw [hv,show ((k:Int) - 1074)=(k:Int)+(-1074) from by omega,zpow_add,zpow_nat];generalize (2:Rat) ^ (-1074:Int)=z
  push_cast
  grind
 by_cases h:E≤(k:Int) - 1074
 ·left
  obtain⟨t,ht⟩:∃ t:Nat,(k:Int) - 1074=(t:Int)+E:=⟨((k:Int) - 1074 - E).toNat,by omega⟩
  refine⟨q*2 ^ t,?_⟩;rw [hf,ht,zpow_add,zpow_nat]
  push_cast
  grind
 ·right
  obtain⟨t,ht⟩:∃ t:Nat,E=(t:Int)+((k:Int) - 1074):=⟨(E - ((k:Int) - 1074)).toNat,by omega⟩
  have hp:=zpow_pos ((k:Int) - 1074)
  have h53:(2:Nat) ^ 53=9007199254740992:=by decide
  refine⟨fl_le_iff.2 hj |> fun h=>by rwa [fl_zero] at h,?_⟩;rw [hf,ht,zpow_add,zpow_nat,← Rat.mul_assoc,← Rat.natCast_mul]
  have h1:((q+1:Nat):Rat)*2 ^ ((k:Int) - 1074)≤((R*2 ^ t:Nat):Rat)*2 ^ ((k:Int) - 1074):=by
   rw [nat_le_c hp];have:=Nat.mul_le_mul_left R (Nat.one_le_two_pow (n:=t))
   omega
  push_cast at h1 ⊢
  grind
def RtOk(i:Int)(n:Nat)(q:Rat):Prop:=0<q∧∀ j:Int,0≤j→(fl j≤q↔fl j ^ n≤fl i)∧(q≤fl j↔fl i≤fl j ^ n)
theorem RtOk.le{i:Int}{n:Nat}{q q':Rat}(h:RtOk i n q)(h':RtOk i n q')(j:Int):(fl j≤q↔fl j≤q')∧(q≤fl j↔q'≤fl j):=by
 by_cases hj:0≤j
 ·rw [(h.2 j hj).1,(h'.2 j hj).1,(h.2 j hj).2,(h'.2 j hj).2];exact⟨Iff.rfl,Iff.rfl⟩
 ·have h1:fl j<0:=by have:=fl_lt_iff.2 (show j<0 by omega);rwa [fl_zero] at this
  have h2:=h.1;have h3:=h'.1
  exact⟨⟨fun _=>by grind,fun _=>by grind⟩,⟨fun _=>by grind,fun _=>by grind⟩⟩
theorem RtOk.rnd{i:Int}{n:Nat}{q q':Rat}(h:RtOk i n q)(h':RtOk i n q'){d:Int}(hd:d=-1∨d=1):rndI d q=rndI d q':=by
 rcases hd with rfl | rfl
 ·obtain⟨a1,a2,a3⟩:=rndI_down q;obtain⟨b1,b2,b3⟩:=rndI_down q';have hM:(M:Int)=9218868437227405312:=rfl
  by_cases c1:rndI (-1) q=-(M:Int)
  ·by_cases c2:rndI (-1) q'=-(M:Int)
   ·omega
   ·have:=(a3 _ (by omega) b2).2 ((h.le h' _).1.2 ((b3 _ (by omega) b2).1 (Int.le_refl _)))
    omega
  ·have l1:=(b3 _ (by omega) a2).2 ((h.le h' _).1.1 ((a3 _ (by omega) a2).1 (Int.le_refl _)));have l2:=(a3 (rndI (-1) q') (by omega) b2).2 ((h.le h' _).1.2 ((b3 _ (by omega) b2).1 (Int.le_refl _)))
   omega
 ·obtain⟨a1,a2,a3⟩:=rndI_up q;obtain⟨b1,b2,b3⟩:=rndI_up q';have hM:(M:Int)=9218868437227405312:=rfl
  by_cases c1:rndI 1 q=M
  ·by_cases c2:rndI 1 q'=M
   ·omega
   ·have:=(a3 _ b1 (by omega)).2 ((h.le h' _).2.2 ((b3 _ b1 (by omega)).1 (Int.le_refl _)))
    omega
  ·have l1:=(b3 _ a1 (by omega)).2 ((h.le h' _).2.1 ((a3 _ a1 (by omega)).1 (Int.le_refl _)));have l2:=(a3 (rndI 1 q') b1 (by omega)).2 ((h.le h' _).2.2 ((b3 _ b1 (by omega)).1 (Int.le_refl _)))
   omega
theorem rq_pos{s n R:Nat}{c:Rat}(hc:0<c)(hR:0<R):0<rq s n R c:=by
 unfold rq
 split
 ·exact Rat.mul_pos (by exact_mod_cast hR) hc
 ·exact Rat.mul_pos (by exact_mod_cast (show 0<2*R+1 by omega)) (by grind)
theorem rq_ok{i:Int}{n s R:Nat}{E:Int}(hn:0<n)(hR:IsR s n R)(h57:144115188075855872≤R)(hi:fl i=(s:Rat)*2 ^ ((n:Int)*E)):RtOk i n (rq s n R (2 ^ E)):=by
 have hc:=zpow_pos E;refine⟨rq_pos hc (by omega),fun j hj=>?_⟩;have h:=root_cmp hc hn hR (fl_dig hj E R h57);rw [zpow_pow,← hi] at h
 exact h
open Classical in
noncomputable def rootq(i:Int)(n:Nat):Rat:=if h:∃ q,RtOk i n q then h.choose else 0
theorem rootq_ok{i:Int}{n:Nat}{q:Rat}(h:RtOk i n q):RtOk i n (rootq i n):=by
 unfold rootq
 have k:∃ q,RtOk i n q:=⟨q,h⟩
 rw [dif_pos k]
 exact k.choose_spec
noncomputable def rt1(d i:Int)(n:Nat):Int:=if i=0∨i=M then i else rndI d (rootq i n)
noncomputable def rti(d i:Int)(n:Nat):Int:=if i<0 then -(rt1 (-d) (-i) n) else rt1 d i n
theorem rt1_of{d i:Int}{n:Nat}{q:Rat}(hd:d=-1∨d=1)(h:RtOk i n q)(h0:i≠0)(h1:i≠M):rt1 d i n=rndI d q:=by
 unfold rt1;rw [if_neg (by omega)]
 exact (rootq_ok h).rnd h hd
section
open Go.RowKit
theorem rc_false{p q p' q':Nat}(hq:0<q)(hq':0<q'):rc (rv false p q) (rv false p' q')=cmp3 (p*q') (p'*q):=by
 have h1:=rv_lt_false (p:=p) (p':=p') hq hq';have h2:=rv_lt_false (p:=p') (p':=p) hq' hq;unfold rc cmp3
 by_cases a:p*q'<p'*q
 ·rw [if_pos (h1.2 a),if_pos a]
 ·rw [if_neg (fun h=>a (h1.1 h)),if_neg a]
  by_cases b:p'*q<p*q'
  ·rw [if_pos (h2.2 b),if_pos b]
  ·rw [if_neg (fun h=>b (h2.1 h)),if_neg b]
theorem pw_above{a b:Nat}{E:Int}(ha:0<a)(h:(blen b:Int)+1<(blen a:Int)+E):cmp3 (a*2^E.toNat) (b*2^(-E).toNat)=1:=by
 refine cmp3_gt ?_;obtain⟨L,e1,a1,a2⟩:=blen_bounds ha;have b2:=lt_pow_blen b
 rcases Int.lt_or_le E 0 with h0 | h0
 ·rw [show E.toNat=0 from by omega,Nat.pow_zero,Nat.mul_one]
  calc b*2^(-E).toNat<2^(blen b)*2^(-E).toNat:=Nat.mul_lt_mul_of_pos_right b2 (Nat.two_pow_pos _)
   _=2^(blen b+(-E).toNat):=by rw [← Nat.pow_add]
   _≤2^L:=Nat.pow_le_pow_right (by omega) (by omega)
   _≤a:=a1
 ·rw [show (-E).toNat=0 from by omega,Nat.pow_zero,Nat.mul_one]
  calc b<2^(blen b):=b2
   _≤2^(L+E.toNat):=Nat.pow_le_pow_right (by omega) (by omega)
   _=2^L*2^E.toNat:=by rw [Nat.pow_add]
   _≤a*2^E.toNat:=Nat.mul_le_mul_right _ a1
theorem pw_below{a b:Nat}{E:Int}(h:(blen a:Int)+E<(blen b:Int) - 1)(hb:0<b):cmp3 (a*2^E.toNat) (b*2^(-E).toNat)=-1:=by
 refine cmp3_lt ?_;obtain⟨L,e1,b1,b2⟩:=blen_bounds hb;have a2:=lt_pow_blen a
 rcases Int.lt_or_le E 0 with h0 | h0
 ·rw [show E.toNat=0 from by omega,Nat.pow_zero,Nat.mul_one]
  calc a<2^(blen a):=a2
   _≤2^(L+(-E).toNat):=Nat.pow_le_pow_right (by omega) (by omega)
   _=2^L*2^(-E).toNat:=by rw [Nat.pow_add]
   _≤b*2^(-E).toNat:=Nat.mul_le_mul_right _ b1
 ·rw [show (-E).toNat=0 from by omega,Nat.pow_zero,Nat.mul_one]
  calc a*2^E.toNat<2^(blen a)*2^E.toNat:=Nat.mul_lt_mul_of_pos_right a2 (Nat.two_pow_pos _)
   _=2^(blen a+E.toNat):=by rw [← Nat.pow_add]
   _≤2^L:=Nat.pow_le_pow_right (by omega) (by omega)
   _≤b:=b1
theorem pw_rc{F p q:Nat}{E:Int}{x:Rat}(hq:0<q)(hx:x=rv false F 1*2^E):rc x (rv false p q)=cmp3 (F*q*2^E.toNat) (p*2^(-E).toNat):=by
 have:=rv_scale false (p:=F) (q:=1) (by omega) E;rw [Nat.one_mul] at this;rw [hx,← this,rc_false (Nat.two_pow_pos _) hq]
 congr 1
 rw [Nat.mul_assoc,Nat.mul_comm (2^E.toNat) q,← Nat.mul_assoc]
end
section
open Go.RowKit
def NewBd(w:World)(K:Nat)(s:Int)(x:Rat)(N:Int)(op:Bool)(e:Ending)(w':World):Prop:=
 ∃ neg A n c B m d,e=.returned (.agg #[.int .i64 s,.bool neg,.slice A n c,.slice B m d,.int .i64 N,.bool op])∧RatV w' K neg (.slice A n c) (.slice B m d) x∧Below w.heap.size w w'
def NewPiece(w:World)(K:Nat)(none:Bool)(s:Int)(x:Rat)(N:Int)(o:Bool)(s':Int)(x':Rat)(N':Int)(o':Bool)(e:Ending)(w':World):Prop:=
 ∃ neg A n c B m d neg' A' n' c' B' m' d',e=.returned (.agg #[.bool none,.int .i64 s,.bool neg,.slice A n c,.slice B m d,.int .i64 N,.bool o,.int .i64 s',.bool neg',.slice A' n' c',.slice B' m' d',.int .i64 N',.bool o']) ∧
  RatV w' K neg (.slice A n c) (.slice B m d) x∧RatV w' K neg' (.slice A' n' c') (.slice B' m' d') x'∧Below w.heap.size w w'
theorem whole_nat(v:Nat)(op:Bool)(w:World)(hv:v<4294967296):
  Calls Tryz.prog 177 #[.int .i64 (v:Int),.bool op] w (NewBd w 1 0 (v:Rat) 1 op):=by
 have HS:=Hd fun W=>(int_nat v W (by omega)).mono fun _ _ h=>h.s;obtain⟨LB0,LR⟩:=bx1 w #[.int .i64 0,.bool false,.slice none 0 0,.slice none 0 0,.int .i64 0,.bool false] 82;have LR0:=Hd (HasBlk.of (n:=6) LR.out rfl rfl);clear LR
 go_enter Tryz.func177,Tryz.ntmps177
 go_wp2_with fail;refine (HS.out _).mono ?_;rintro e w1 ⟨g1,A1,n1,c1,B1,m1,d1,rfl,h1,hb1⟩;have LB1:=stB LB0 hb1 LB0.out.size;have LR1:=stR LR0 hb1;clear LB0 LR0;obtain⟨ha0,hf0,ha1,hf1,ha2,hf2,ha3,hf3,ha4,hf4,ha5,hf5⟩:=LR1.out.sf6;obtain⟨hk0,hk1,hk2,hk3,hk4,hk5⟩:=LR1.out.sc6 (.int .i64 0) (.bool g1) (.slice A1 n1 c1) (.slice B1 m1 d1) (.int .i64 1) (.bool op);have F:=Hd (below_sets (w0:=w) (r:=w.heap.size) (by omega) [.int .i64 0,.bool g1,.slice A1 n1 c1,.slice B1 m1 d1,.int .i64 1,.bool op] 0 _ LB1.out)
 simp [sets] at hk0 hk1 hk2 hk3 hk4 hk5
 have FR1:=Hd (LR1.out.rat (h1) [.int .i64 0,.bool g1,.slice A1 n1 c1,.slice B1 m1 d1,.int .i64 1,.bool op]);clear hb1 h1;go_wp2;refine bodyPost_ret (v:=.agg #[.int .i64 0,.bool g1,.slice A1 n1 c1,.slice B1 m1 d1,.int .i64 1,.bool op]) (by simp [results,Tryz.results177,go_sem,hk0,hk1,hk2,hk3,hk4,hk5]) rfl ?_
 exact⟨_,_,_,_,_,_,_,rfl,FR1.out,F.out⟩
theorem far_any(s:Int)(w:World):
  Calls Tryz.prog 178 #[.int .i64 s] w (NewBd w 1 s 0 1 true):=by
 have HS:=Hd (show ∀ W,Calls Tryz.prog 51 #[.int .i64 0] W (NewRatS W 1 0) from fun W=>(int_nat 0 W (by omega)).mono fun _ _ h=>h.s);obtain⟨LB0,LR⟩:=bx1 w #[.int .i64 0,.bool false,.slice none 0 0,.slice none 0 0,.int .i64 0,.bool false] 82;have LR0:=Hd (HasBlk.of (n:=6) LR.out rfl rfl);clear LR
 go_enter Tryz.func178,Tryz.ntmps178
 go_wp2_with fail;refine (HS.out _).mono ?_;rintro e w1 ⟨g1,A1,n1,c1,B1,m1,d1,rfl,h1,hb1⟩;have LB1:=stB LB0 hb1 LB0.out.size;have LR1:=stR LR0 hb1;clear LB0 LR0;obtain⟨ha0,hf0,ha1,hf1,ha2,hf2,ha3,hf3,ha4,hf4,ha5,hf5⟩:=LR1.out.sf6;obtain⟨hk0,hk1,hk2,hk3,hk4,hk5⟩:=LR1.out.sc6 (.int .i64 s) (.bool g1) (.slice A1 n1 c1) (.slice B1 m1 d1) (.int .i64 1) (.bool true);have F:=Hd (below_sets (w0:=w) (r:=w.heap.size) (by omega) [.int .i64 s,.bool g1,.slice A1 n1 c1,.slice B1 m1 d1,.int .i64 1,.bool true] 0 _ LB1.out)
 simp [sets] at hk0 hk1 hk2 hk3 hk4 hk5
 have FR1:=Hd (LR1.out.rat (h1) [.int .i64 s,.bool g1,.slice A1 n1 c1,.slice B1 m1 d1,.int .i64 1,.bool true]);clear hb1 h1;go_wp2;refine bodyPost_ret (v:=.agg #[.int .i64 s,.bool g1,.slice A1 n1 c1,.slice B1 m1 d1,.int .i64 1,.bool true]) (by simp [results,Tryz.results178,go_sem,hk0,hk1,hk2,hk3,hk4,hk5]) rfl ?_
 exact⟨_,_,_,_,_,_,_,rfl,FR1.out,F.out⟩
end
section
open Go.RowKit
theorem rc_neg(x y:Rat):rc (-x) (-y)=- rc x y:=by
 unfold rc
 by_cases h:x<y
 ·rw [if_neg (show ¬ -x < -y by grind),if_pos (show -y < -x by grind),if_pos h];rfl
 ·by_cases h2:y<x
  ·rw [if_pos (show -x < -y by grind),if_neg h,if_pos h2]
  ·rw [if_neg (show ¬ -x < -y by grind),if_neg (show ¬ -y < -x by grind),if_neg h,if_neg h2];rfl
theorem rc_range(x y:Rat):-1≤rc x y∧rc x y≤1:=by unfold rc;split<;>(try split)<;>omega
theorem rsg_range(x:Rat):-1≤rsg x∧rsg x≤1:=by unfold rsg;split<;>(try split)<;>omega
theorem rc_zero_zero:rc 0 0=0:=by decide
theorem rsg_zero_iff{x:Rat}:rsg x=0↔x=0:=by
 unfold rsg
 constructor
 ·intro h
  split at h
  ·assumption
  ·split at h<;>cases h
 ·rintro rfl;rfl
def SameSign(r c:Int):Prop:=(r<0↔c<0)∧(0<r↔0<c)
theorem SameSign.refl(c:Int):SameSign c c:=⟨Iff.rfl,Iff.rfl⟩
theorem same_diff{x y:Rat}(h:rsg x≠rsg y):SameSign (rsg x - rsg y) (rc x y):=by
 rcases Int.lt_trichotomy (rsg x) (rsg y) with h1 | h1 | h1
 ·rw [rc_below h1];unfold SameSign;omega
 ·exact absurd h1 h
 ·rw [rc_above h1];unfold SameSign;omega
def Ag(w:World)(c:Int)(e:Ending)(w':World):Prop:=∃ r:Int,e=.returned (.int .i64 r)∧SameSign r c∧Below w.heap.size w w'
theorem against_inf{N1:Int}(K:Nat)(i:Int)(s1:Int)(g1:Bool)(A1:Option Addr)(n1 c1:Nat)(B1:Option Addr)(m1 d1:Nat)(x1:Rat)(o1:Bool)(w:World)(hi:i=M∨i=-(M:Int))(h1:RatV w K g1 (.slice A1 n1 c1) (.slice B1 m1 d1) x1)(hK:34≤K)(hK2:K≤1048576):
  Calls Tryz.prog 208 #[.int .u64 (pat i:Int),.agg #[.int .i64 s1,.bool g1,.slice A1 n1 c1,.slice B1 m1 d1,.int .i64 N1,.bool o1]] w (Ag w (ec (es i) (ex i) s1 x1)):=by
 have hM:M=9218868437227405312:=rfl;have hr:=rung_pat (i:=i) (by omega) (by omega);have hpl:=pat_lt (i:=i) (by omega) (by omega);have HI:=Hd fun W=>isinf_any (pat i) W hpl;have HB:=Hd fun W=>bound_raw (pat i) W hpl (by rw [hr];omega);rw [idx_pat (by omega) (by omega)] at HB;rw [hr,show decide (i.natAbs=M)=true from by simp;omega] at HI;have HC:=Hd fun W (g:Bool) (A:Option Addr) (n c:Nat) (B:Option Addr) (m d:Nat) (hW:Below w.heap.size w W) (h:RatV W 34 g (.slice A n c) (.slice B m d) (ex i))=>ecmp_any K (es i) g A n c B m d (ex i) s1 g1 A1 n1 c1 B1 m1 d1 x1 W (h.mono hK) (h1.below hW) (by omega)
 obtain⟨P,hP⟩:∃ P,pat i=P:=⟨_,rfl⟩
 rw [hP] at HI HB hpl ⊢
 obtain⟨s0,e1⟩:∃ s,es i=s:=⟨_,rfl⟩
 obtain⟨x0,e2⟩:∃ s,ex i=s:=⟨_,rfl⟩
 rw [e1,e2] at HB HC ⊢
 obtain⟨r,hr⟩:∃ r,ec s0 x0 s1 x1=r:=⟨_,rfl⟩
 rw [hr] at HC ⊢;clear hi hM hP e1 e2 hr h1 hpl hK hK2;obtain⟨LB0,LG0_0⟩:=bx1 w #[.int .i64 s1,.bool g1,.slice A1 n1 c1,.slice B1 m1 d1,.int .i64 N1,.bool o1] 82
 go_enter Tryz.func208,Tryz.ntmps208
 go_wp2_with fail;refine (HI.out _).mono ?_;rintro e w1 ⟨rfl,k,rfl⟩;have LB1:=Hd (below_drewN LB0.out k);have LG0_1:=Hd (LG0_0.out.drewN k);clear LB0 LG0_0;have q0_0:=LG0_1.out.ce 0 rfl
 go_upto_region 2 with fail
 clear q0_0;refine wp_region_held_drew (S:=fun W'=>Blk W' w.heap.size 82 #[.int .i64 s1,.bool g1,.slice A1 n1 c1,.slice B1 m1 d1,.int .i64 N1,.bool o1]∧Below w.heap.size w W') (by kernel_rfl) (by exact⟨LG0_1.out.drew,LB1.out.drew⟩) (fun hHeld=>?_);refine tk 0 ?_;(try simp only [Act.put,lay]);refine tk 2 ?_;(try simp only [Act.put,lay]);refine tk 3 ?_ (hv:=by intro W2 hSw;obtain⟨q0,q1,q2,q3,q4,q5⟩:=hSw.1.c6;go_simp;(try with_reducible rfl));(try simp only [Act.put,lay]);refine tk 4 ?_;(try simp only [Act.put,lay]);refine tk 5 ?_ (hv:=by intro W2 hSw;obtain⟨q0,q1,q2,q3,q4,q5⟩:=hSw.1.c6;go_simp;(try with_reducible rfl));(try simp only [Act.put,lay]);refine tk 6 ?_;(try simp only [Act.put,lay]);refine rdy 1 (fun KK hKK=>?_);go_simp;refine (HB.out _).mono ?_;rintro e w2 ⟨g2,A2,n2,c2,B2,m2,d2,rfl,h2,hb2⟩;go_wp2_with fail;refine hKK.out _ _ (⟨hHeld.1.keep hb2,hHeld.2.trans (hb2.mono hHeld.2.size)⟩) (fun _=>?_);clear hKK KK hHeld;rename_i hHeld;(try simp only [Act.put,lay]);refine rdy 7 (fun KK hKK=>?_);go_simp;refine (HC.out _ g2 A2 n2 c2 B2 m2 d2 hHeld.2 h2).mono ?_;rintro e w3 ⟨rfl,hb3⟩;go_wp2_with fail;refine hKK.out _ _ (⟨hHeld.1.keep hb3,hHeld.2.trans (hb3.mono hHeld.2.size)⟩) (fun _=>?_);clear hKK KK hHeld;rename_i hHeld;(try simp only [Act.put,lay]);refine tk 8 ?_;(try simp only [Act.put,lay]);refine wpAnyH_done (by kernel_rfl) ?_ _;have LB3:=Hd hHeld.2;clear hHeld hb2 hb3 h2 LB1 LG0_1 HB HC HI;go_wp2
 go_ret
 exact⟨r,rfl,SameSign.refl r,LB3.out⟩
theorem against_far{N1:Int}(K:Nat)(i:Int)(s1:Int)(g1:Bool)(A1:Option Addr)(n1 c1:Nat)(B1:Option Addr)(m1 d1:Nat)(x1:Rat)(o1:Bool)(w:World)(hi:-(M:Int)<i∧i<M)(hs:s1≠0)(h1:RatV w K g1 (.slice A1 n1 c1) (.slice B1 m1 d1) x1)(hK:34≤K)(hK2:K≤1048576):
  Calls Tryz.prog 208 #[.int .u64 (pat i:Int),.agg #[.int .i64 s1,.bool g1,.slice A1 n1 c1,.slice B1 m1 d1,.int .i64 N1,.bool o1]] w (Ag w (ec (es i) (ex i) s1 x1)):=by
 have hM:M=9218868437227405312:=rfl;have hr:=rung_pat (i:=i) (by omega) (by omega);have hpl:=pat_lt (i:=i) (by omega) (by omega);have HI:=Hd fun W=>isinf_any (pat i) W hpl;have HB:=Hd fun W=>bound_raw (pat i) W hpl (by rw [hr];omega);rw [idx_pat (by omega) (by omega)] at HB;rw [hr,show decide (i.natAbs=M)=false from by simp;omega] at HI;have HC:=Hd fun W (g:Bool) (A:Option Addr) (n c:Nat) (B:Option Addr) (m d:Nat) (hW:Below w.heap.size w W) (h:RatV W 34 g (.slice A n c) (.slice B m d) (ex i))=>ecmp_any K (es i) g A n c B m d (ex i) s1 g1 A1 n1 c1 B1 m1 d1 x1 W (h.mono hK) (h1.below hW) (by omega)
 obtain⟨P,hP⟩:∃ P,pat i=P:=⟨_,rfl⟩
 rw [hP] at HI HB hpl ⊢
 obtain⟨s0,e1⟩:∃ s,es i=s:=⟨_,rfl⟩
 obtain⟨x0,e2⟩:∃ s,ex i=s:=⟨_,rfl⟩
 rw [e1,e2] at HB HC ⊢
 obtain⟨r,hr⟩:∃ r,ec s0 x0 s1 x1=r:=⟨_,rfl⟩
 rw [hr] at HC ⊢
 have hq:(s1 == 0)=false:=by simp;omega
 clear hi hM hP e1 e2 hr h1 hpl hK hK2;obtain⟨LB0,LG0_0⟩:=bx1 w #[.int .i64 s1,.bool g1,.slice A1 n1 c1,.slice B1 m1 d1,.int .i64 N1,.bool o1] 82
 go_enter Tryz.func208,Tryz.ntmps208
 go_wp2_with fail;refine (HI.out _).mono ?_;rintro e w1 ⟨rfl,k,rfl⟩;have LB1:=Hd (below_drewN LB0.out k);have LG0_1:=Hd (LG0_0.out.drewN k);clear LB0 LG0_0;have q0_0:=LG0_1.out.ce 0 rfl
 go_upto_region 2 with fail
 clear q0_0;refine wp_region_held_drew (S:=fun W'=>Blk W' w.heap.size 82 #[.int .i64 s1,.bool g1,.slice A1 n1 c1,.slice B1 m1 d1,.int .i64 N1,.bool o1]∧Below w.heap.size w W') (by kernel_rfl) (by exact⟨LG0_1.out.drew,LB1.out.drew⟩) (fun hHeld=>?_);refine tk 0 ?_;(try simp only [Act.put,lay]);refine tk 2 ?_;(try simp only [Act.put,lay]);refine tk 3 ?_ (hv:=by intro W2 hSw;obtain⟨q0,q1,q2,q3,q4,q5⟩:=hSw.1.c6;go_simp;(try with_reducible rfl));(try simp only [Act.put,lay]);refine tk 4 ?_;(try simp only [Act.put,lay]);refine tk 5 ?_ (hv:=by intro W2 hSw;obtain⟨q0,q1,q2,q3,q4,q5⟩:=hSw.1.c6;go_simp;(try with_reducible rfl));(try simp only [Act.put,lay]);refine tk 6 ?_;(try simp only [Act.put,lay]);refine rdy 1 (fun KK hKK=>?_);go_simp;refine (HB.out _).mono ?_;rintro e w2 ⟨g2,A2,n2,c2,B2,m2,d2,rfl,h2,hb2⟩;go_wp2_with fail;refine hKK.out _ _ (⟨hHeld.1.keep hb2,hHeld.2.trans (hb2.mono hHeld.2.size)⟩) (fun _=>?_);clear hKK KK hHeld;rename_i hHeld;(try simp only [Act.put,lay]);refine rdy 7 (fun KK hKK=>?_);go_simp;refine (HC.out _ g2 A2 n2 c2 B2 m2 d2 hHeld.2 h2).mono ?_;rintro e w3 ⟨rfl,hb3⟩;go_wp2_with fail;refine hKK.out _ _ (⟨hHeld.1.keep hb3,hHeld.2.trans (hb3.mono hHeld.2.size)⟩) (fun _=>?_);clear hKK KK hHeld;rename_i hHeld;(try simp only [Act.put,lay]);refine tk 8 ?_;(try simp only [Act.put,lay]);refine wpAnyH_done (by kernel_rfl) ?_ _;have LB3:=Hd hHeld.2;clear hHeld hb2 hb3 h2 LB1 LG0_1 HB HC HI;go_wp2
 go_ret
 exact⟨r,rfl,SameSign.refl r,LB3.out⟩
end
def RtQ(x:Rat)(n:Nat)(q:Rat):Prop:=0<q∧∀ j:Int,0≤j→(fl j≤q↔fl j ^ n≤x)∧(q≤fl j↔x≤fl j ^ n)
theorem RtQ.of{i:Int}{n:Nat}{q:Rat}(h:RtOk i n q):RtQ (fl i) n q:=h
def Rtp(n:Nat)(x q:Rat):Prop:=(x=0∧q=0)∨(0<x∧RtQ x n q)∨(x<0∧RtQ (-x) n (-q))
theorem Rtp.neg{n:Nat}{x q:Rat}(h:Rtp n x q):Rtp n (-x) (-q):=by
 rcases h with ⟨rfl,rfl⟩ | ⟨h0,h⟩ | ⟨h0,h⟩
 ·exact .inl ⟨by grind,by grind⟩
 ·exact .inr (.inr ⟨by grind,by rw [Rat.neg_neg,Rat.neg_neg];exact h⟩)
 ·exact .inr (.inl ⟨by grind,h⟩)
theorem Rtp.sgn{n:Nat}{x q:Rat}(h:Rtp n x q):rsg q=rsg x:=by
 rcases h with ⟨rfl,rfl⟩ | ⟨h0,h,-⟩ | ⟨h0,h,-⟩
 ·rfl
 ·unfold rsg;rw [if_neg (by grind),if_neg (by grind),if_neg (by grind),if_neg (by grind)]
 ·unfold rsg;rw [if_neg (by grind),if_pos (show q<0 by grind),if_neg (by grind),if_pos h0]
theorem Rtp.rc{n:Nat}{x q:Rat}(h:Rtp n x q){b:Int}(hb:0≤b)(hx:0<x):rc (fl b ^ n) x=rc (fl b) q:=by
 rcases h with ⟨rfl,-⟩ | ⟨h0,-,h⟩ | ⟨h0,-⟩
 ·grind
 ·have k:=h b hb;unfold Go.Proofs.YthlmlmfebpjgdaaGreatDoor.rc
  by_cases c1:fl b<q
  ·have d1:fl b ^ n<x:=by
    have:¬ x≤fl b ^ n:=fun z=>by have:=k.2.2 z;grind
    grind
   rw [if_pos c1,if_pos d1]
  ·have d1:¬ fl b ^ n<x:=by
    have:=k.2.1 (by grind)
    grind
   rw [if_neg c1,if_neg d1]
   by_cases c2:q<fl b
   ·have d2:x<fl b ^ n:=by
     have:¬ fl b ^ n≤x:=fun z=>by have:=k.1.2 z;grind
     grind
    rw [if_pos c2,if_pos d2]
   ·have d2:¬ x<fl b ^ n:=by
     have:=k.1.1 (by grind)
     grind
    rw [if_neg c2,if_neg d2]
 ·grind
theorem Rtp.one(x:Rat):Rtp 1 x x:=by
 have e:∀ y:Rat,y ^ 1=y:=fun y=>by rw [Rat.pow_succ,Rat.pow_zero];grind
 by_cases h0:x=0
 ·exact .inl ⟨h0,h0⟩
 ·by_cases h:x<0
  ·exact .inr (.inr ⟨h,by grind,fun j _=>by rw [e];exact⟨Iff.rfl,Iff.rfl⟩⟩)
  ·have h2:0<x:=by grind
   exact .inr (.inl ⟨h2,h2,fun j _=>by rw [e];exact⟨Iff.rfl,Iff.rfl⟩⟩)
theorem RtQ.le{x:Rat}{n:Nat}{q q':Rat}(h:RtQ x n q)(h':RtQ x n q')(j:Int):(fl j≤q↔fl j≤q')∧(q≤fl j↔q'≤fl j):=by
 by_cases hj:0≤j
 ·rw [(h.2 j hj).1,(h'.2 j hj).1,(h.2 j hj).2,(h'.2 j hj).2];exact⟨Iff.rfl,Iff.rfl⟩
 ·have h1:fl j<0:=by have:=fl_lt_iff.2 (show j<0 by omega);rwa [fl_zero] at this
  have h2:=h.1;have h3:=h'.1
  exact⟨⟨fun _=>by grind,fun _=>by grind⟩,⟨fun _=>by grind,fun _=>by grind⟩⟩
theorem rnd_same{q q':Rat}(h:∀ j,(fl j≤q↔fl j≤q')∧(q≤fl j↔q'≤fl j)){d:Int}(hd:d=-1∨d=1):rndI d q=rndI d q':=by
 have hM:(M:Int)=9218868437227405312:=rfl
 rcases hd with rfl | rfl
 ·obtain⟨a1,a2,a3⟩:=rndI_down q;obtain⟨b1,b2,b3⟩:=rndI_down q'
  by_cases c1:rndI (-1) q=-(M:Int)
  ·by_cases c2:rndI (-1) q'=-(M:Int)
   ·omega
   ·have:=(a3 _ (by omega) b2).2 ((h _).1.2 ((b3 _ (by omega) b2).1 (Int.le_refl _)))
    omega
  ·have l1:=(b3 _ (by omega) a2).2 ((h _).1.1 ((a3 _ (by omega) a2).1 (Int.le_refl _)));have l2:=(a3 (rndI (-1) q') (by omega) b2).2 ((h _).1.2 ((b3 _ (by omega) b2).1 (Int.le_refl _)))
   omega
 ·obtain⟨a1,a2,a3⟩:=rndI_up q;obtain⟨b1,b2,b3⟩:=rndI_up q'
  by_cases c1:rndI 1 q=M
  ·by_cases c2:rndI 1 q'=M
   ·omega
   ·have:=(a3 _ b1 (by omega)).2 ((h _).2.2 ((b3 _ b1 (by omega)).1 (Int.le_refl _)))
    omega
  ·have l1:=(b3 _ a1 (by omega)).2 ((h _).2.1 ((a3 _ a1 (by omega)).1 (Int.le_refl _)));have l2:=(a3 (rndI 1 q') b1 (by omega)).2 ((h _).2.2 ((b3 _ b1 (by omega)).1 (Int.le_refl _)))
   omega
def rqb(b:Bool)(R:Nat)(c:Rat):Rat:=if b=true then (R:Rat)*c else ((2*R+1:Nat):Rat)*(c / 2)
theorem rqb_pos{b:Bool}{R:Nat}{c:Rat}(hc:0<c)(hR:0<R):0<rqb b R c:=by
 unfold rqb
 split
 ·exact Rat.mul_pos (by exact_mod_cast hR) hc
 ·exact Rat.mul_pos (by exact_mod_cast (show 0<2*R+1 by omega)) (by grind)
theorem rqb_cmp{c f s:Rat}{b:Bool}{n R:Nat}(hc:0<c)(hn:0<n)(h1:((R ^ n:Nat):Rat)≤s)(h2:s<(((R+1) ^ n:Nat):Rat))(hb:b=true↔((R ^ n:Nat):Rat)=s)(hf:(∃ Z:Nat,f=(Z:Rat)*c)∨(0≤f∧f<(R:Rat)*c)):
  (f≤rqb b R c↔f ^ n≤s*c ^ n)∧(rqb b R c≤f↔s*c ^ n≤f ^ n):=by
 have hcn:0<c ^ n:=Rat.pow_pos hc
 have hc2:0<c / 2:=by grind
 rcases hf with ⟨Z,rfl⟩ | ⟨h0,hlt⟩
 ·rw [rmul_pow,← Rat.natCast_pow,mul_le_pos hcn,mul_le_pos hcn];unfold rqb
  by_cases h:b=true
  ·rw [if_pos h,nat_le_c hc,nat_le_c hc,← hb.1 h,Rat.natCast_le_natCast,Rat.natCast_le_natCast,pow_le_iff _ _ _ hn,pow_le_iff _ _ _ hn]
   exact⟨Iff.rfl,Iff.rfl⟩
  ·rw [if_neg h];have hne:((R ^ n:Nat):Rat)≠s:=fun e=>h (hb.2 e)
   have e:(Z:Rat)*c=((2*Z:Nat):Rat)*(c / 2):=by push_cast;grind
   rw [e,nat_le_c hc2,nat_le_c hc2]
   constructor
   ·constructor
    ·intro k;have:=Rat.natCast_le_natCast.2 (Nat.pow_le_pow_left (show Z≤R by omega) n)
     exact Rat.le_trans this h1
    ·intro k
     rcases Nat.lt_or_ge R Z with q | q
     ·have:=Rat.natCast_le_natCast.2 (Nat.pow_le_pow_left (show R+1≤Z from q) n)
      grind
     ·omega
   ·constructor
    ·intro k;have:=Rat.natCast_le_natCast.2 (Nat.pow_le_pow_left (show R+1≤Z by omega) n)
     grind
    ·intro k
     rcases Nat.lt_or_ge R Z with q | q
     ·omega
     ·have:=Rat.natCast_le_natCast.2 (Nat.pow_le_pow_left q n)
      grind
 ·have h3:(R:Rat)*c≤rqb b R c:=by
   unfold rqb
   split
   ·grind
   ·have:((R:Rat)*c)=((2*R:Nat):Rat)*(c / 2):=by push_cast;grind
    rw [this,nat_le_c hc2];omega
  have h4:f ^ n<((R:Rat)*c) ^ n:=rpow_lt h0 hlt n hn
  have h5:((R:Rat)*c) ^ n≤s*c ^ n:=by
   rw [rmul_pow,← Rat.natCast_pow,mul_le_pos hcn];exact h1
  exact⟨⟨fun _=>by grind,fun _=>by grind⟩,⟨fun _=>by grind,fun _=>by grind⟩⟩
theorem rqb_ok{x s:Rat}{b:Bool}{n R:Nat}{E:Int}(hn:0<n)(h1:((R ^ n:Nat):Rat)≤s)(h2:s<(((R+1) ^ n:Nat):Rat))(hb:b=true↔((R ^ n:Nat):Rat)=s)(h57:144115188075855872≤R)(hx:x=s*2 ^ ((n:Int)*E)):RtQ x n (rqb b R (2 ^ E)):=by
 have hc:=zpow_pos E;refine⟨rqb_pos hc (by omega),fun j hj=>?_⟩;have h:=rqb_cmp hc hn h1 h2 hb (fl_dig hj E R h57);rw [zpow_pow,← hx] at h
 exact h
theorem tdiv_pos_eq{T n q:Int}(hn:0<n)(h1:q*n≤T)(h2:T<(q+1)*n)(hq:0≤q):T.tdiv n=q:=by
 have h0:0≤T:=Int.le_trans (Int.mul_nonneg hq (by omega)) h1;rw [Int.tdiv_eq_ediv_of_nonneg h0];have a:=(Int.le_ediv_iff_mul_le hn).2 h1;have b:=(Int.ediv_lt_iff_lt_mul hn).2 h2
 omega
theorem tdiv_le_zero{T n:Int}(hn:0<n)(h:T<0):T.tdiv n≤0:=by
 have e:T.tdiv n=-((-T).tdiv n):=by rw [Int.neg_tdiv,Int.neg_neg]
 rw [e,Int.tdiv_eq_ediv_of_nonneg (by omega)];have:=Int.ediv_nonneg (show 0≤-T by omega) (Int.le_of_lt hn)
 omega
theorem scale(f:Int)(n:Nat)(hn:0<n)(hn2:n≤1024)(hf:-4194304≤f∧f≤4194304):∃ k1 k2 P1 P2 t0 t1 t2:Int,
  (f+(n:Int)*60).tdiv n=t0∧(61<t0→60 - (t0 - 60)=k1∧60≠k1)∧(¬ 61<t0→k1=60)∧(n:Int)*k1=P1∧(f+P1).tdiv n=t1∧¬ 61<t1 ∧
  (t1<59→k1+(60 - t1)=k2∧k1≠k2)∧(¬ t1<59→k2=k1)∧(n:Int)*k2=P2∧(f+P2).tdiv n=t2∧¬ t2<59∧59*(n:Int)≤f+P2∧f+P2<62*(n:Int) ∧
  -4300000≤k1∧k1≤4300000∧-4300000≤k2∧k2≤4300000∧-4300000≤P1∧P1≤4300000∧-4300000≤P2∧P2≤4300000∧-4300000≤t0∧t0≤4300000∧-4300000≤t1∧t1≤4300000:=by
 have hnn:(0:Int)<n:=by omega
 have sm:∀ {T t:Int},T.tdiv n=t→-4294967≤T→T≤4294967→-4294967≤t∧t≤4294967:=by
  intro T t h a b
  have h1:t.natAbs=T.natAbs / (n:Int).natAbs:=by rw [← h,Int.natAbs_tdiv];rfl
  have h2:=Nat.div_le_self T.natAbs (n:Int).natAbs;rw [← h1] at h2
  omega
 obtain⟨t0,ht0⟩:∃ t,(f+(n:Int)*60).tdiv n=t:=⟨_,rfl⟩
 have b0:=sm ht0 (by omega) (by omega)
 by_cases c:61<t0
 ·have hT:0≤f+(n:Int)*60:=by
   rcases Int.lt_or_le (f+(n:Int)*60) 0 with h | h
   ·have:=tdiv_le_zero hnn h
    omega
   ·exact h
  have e:=Int.tdiv_eq_ediv_of_nonneg (b:=(n:Int)) hT;rw [ht0] at e;have d:=Int.mul_ediv_add_emod (f+(n:Int)*60) n;have m1:=Int.emod_nonneg (f+(n:Int)*60) (show (n:Int)≠0 by omega);have m2:=Int.emod_lt_of_pos (f+(n:Int)*60) hnn;rw [← e] at d
  have hP:(n:Int)*(60 - (t0 - 60))=(n:Int)*120 - (n:Int)*t0:=by rw [show (60:Int) - (t0 - 60)=120 - t0 from by omega,Int.mul_sub]
  obtain⟨P,hPe⟩:∃ P,(n:Int)*(60 - (t0 - 60))=P:=⟨_,rfl⟩
  have ht1:(f+P).tdiv n=60:=tdiv_pos_eq hnn (by omega) (by omega) (by omega)
  exact⟨60 - (t0 - 60),60 - (t0 - 60),P,P,t0,60,60,ht0,fun _=>⟨rfl,by omega⟩,fun h=>absurd c h,hPe,ht1,by omega,fun h=>by omega,fun _=>rfl,hPe,ht1,by omega,by omega,by omega,by omega,by omega,by omega,by omega,by omega,by omega,by omega,by omega,by omega,by omega,by omega,by omega⟩
 ·by_cases c2:t0<59
  ·obtain⟨P,hPe⟩:∃ P,(n:Int)*(60+(60 - t0))=P:=⟨_,rfl⟩
   have hP:(n:Int)*(60+(60 - t0))=(n:Int)*120 - (n:Int)*t0:=by rw [show (60:Int)+(60 - t0)=120 - t0 from by omega,Int.mul_sub]
   obtain⟨Q,hQ⟩:∃ Q,(n:Int)*t0=Q:=⟨_,rfl⟩
   have hb:-(n:Int)<f+(n:Int)*60 - Q∧f+(n:Int)*60 - Q<n:=by
    have d:=Int.mul_tdiv_add_tmod (f+(n:Int)*60) n;rw [ht0,hQ] at d;have l:=Int.natAbs_tmod (f+(n:Int)*60) n;have l2:=Nat.mod_lt (f+(n:Int)*60).natAbs (show (n:Int).natAbs > 0 by omega)
    omega
   rw [hPe,hQ] at hP
   obtain⟨t2,ht2⟩:∃ t,(f+P).tdiv n=t:=⟨_,rfl⟩
   have h59:¬ t2<59:=by
    have hT:0≤f+P:=by omega
    have e:=Int.tdiv_eq_ediv_of_nonneg (b:=(n:Int)) hT;have:=(show (59:Int)≤(f+P) / n↔59*(n:Int)≤f+P from Int.le_ediv_iff_mul_le hnn).2 (by omega)
    omega
   exact⟨60,60+(60 - t0),_,P,t0,t0,t2,ht0,fun h=>absurd h c,fun _=>rfl,rfl,ht0,c,fun _=>⟨rfl,by omega⟩,fun h=>absurd c2 h,hPe,ht2,h59,by omega,by omega,by omega,by omega,by omega,by omega,by omega,by omega,by omega,by omega,by omega,by omega,by omega,by omega⟩
  ·have hT:0≤f+(n:Int)*60:=by
    rcases Int.lt_or_le (f+(n:Int)*60) 0 with h | h
    ·have:=tdiv_le_zero hnn h
     omega
    ·exact h
   have e:=Int.tdiv_eq_ediv_of_nonneg (b:=(n:Int)) hT;rw [ht0] at e;have d1:=(show (59:Int)≤(f+(n:Int)*60) / n↔59*(n:Int)≤f+(n:Int)*60 from Int.le_ediv_iff_mul_le hnn).1 (by omega);have d2:=(show (f+(n:Int)*60) / n<(62:Int)↔f+(n:Int)*60<62*(n:Int) from Int.ediv_lt_iff_lt_mul hnn).1 (by omega)
   exact⟨60,60,_,_,t0,t0,t0,ht0,fun h=>absurd h c,fun _=>rfl,rfl,ht0,c,fun h=>absurd h c2,fun _=>rfl,rfl,ht0,c2,d1,d2,by omega,by omega,by omega,by omega,by omega,by omega,by omega,by omega,by omega,by omega,by omega,by omega⟩
theorem big_range{a b n:Nat}(ha:0<a)(hb:0<b)(hn:0<n)(h1:59*(n:Int)≤(blen a:Int) - blen b)(h2:(blen a:Int) - blen b<62*(n:Int)):2 ^ (57*n)≤a / b∧a / b<2 ^ (62*n):=by
 obtain⟨x,ex,a1,a2⟩:=blen_bounds ha;obtain⟨y,ey,b1,b2⟩:=blen_bounds hb;have a3:=lt_pow_blen a;have b3:=lt_pow_blen b
 constructor
 ·rw [Nat.le_div_iff_mul_le hb]
  calc 2 ^ (57*n)*b≤2 ^ (57*n)*2 ^ (blen b):=Nat.mul_le_mul_left _ (Nat.le_of_lt b3)
   _=2 ^ (57*n+blen b):=by rw [← Nat.pow_add]
   _≤2 ^ x:=Nat.pow_le_pow_right (by omega) (by omega)
   _≤a:=a1
 ·rw [Nat.div_lt_iff_lt_mul hb]
  calc a<2 ^ (blen a):=a3
   _≤2 ^ (62*n+y):=Nat.pow_le_pow_right (by omega) (by omega)
   _=2 ^ (62*n)*2 ^ y:=by rw [Nat.pow_add]
   _≤2 ^ (62*n)*b:=Nat.mul_le_mul_left _ b1
theorem root_range{g n R:Nat}(hn:0<n)(h:IsR g n R)(h1:2 ^ (57*n)≤g)(h2:g<2 ^ (62*n)):144115188075855872≤R∧R<4611686018427387904:=by
 rw [Nat.pow_mul] at h1 h2
 exact⟨h.ge h1,h.lt h2⟩
def hi(R i:Nat):Nat:=R / 2 ^ i*2 ^ i
theorem hi_zero(R:Nat):hi R 0=R:=by unfold hi;simp
theorem hi_top{R:Nat}(h:R<4611686018427387904):hi R 63=0:=by
 unfold hi;rw [Nat.div_eq_of_lt (by omega)]
theorem hi_le(R i:Nat):hi R i≤R:=Nat.div_mul_le_self _ _
theorem hi_step(R i:Nat):(hi R (i+1)+2 ^ i≤R→hi R i=hi R (i+1)+2 ^ i)∧(¬ hi R (i+1)+2 ^ i≤R→hi R i=hi R (i+1)):=by
 unfold hi;have hp:=Nat.two_pow_pos i
 obtain⟨c,hc⟩:∃ c,2 ^ i=c:=⟨_,rfl⟩
 have e:R / 2 ^ (i+1)=R / 2 ^ i / 2:=by rw [Nat.pow_succ,Nat.div_div_eq_div_mul]
 rw [e,Nat.pow_succ,hc];rw [hc] at hp
 obtain⟨m,hm⟩:∃ m,R / c=m:=⟨_,rfl⟩
 rw [hm];have d:=Nat.div_add_mod R c;have l:=Nat.mod_lt R hp;rw [hm] at d
 have e2:m / 2*(c*2)=c*(m / 2*2):=by grind
 rw [e2]
 rcases Nat.mod_two_eq_zero_or_one m with h | h
 ·have e3:m / 2*2=m:=by omega
  rw [e3]
  constructor
  ·intro k;omega
  ·intro _;exact Nat.mul_comm _ _
 ·have e3:m / 2*2+1=m:=by omega
  have e4:c*m=c*(m / 2*2)+c:=by rw [← Nat.mul_succ];congr 1;omega
  constructor
  ·intro _;rw [Nat.mul_comm m c];exact e4
  ·intro k;omega
theorem hi_or(R i:Nat):hi R (i+1) ||| 2 ^ i=hi R (i+1)+2 ^ i:=by
 unfold hi;rw [Nat.mul_comm,← Nat.two_pow_add_eq_or_of_lt (Nat.pow_lt_pow_right (by omega) (by omega))]
theorem try_iff{g n R t:Nat}(h:IsR g n R):t ^ n≤g↔t≤R:=
 ⟨fun k=>h.ge k,fun k=>Nat.le_trans (Nat.pow_le_pow_left k n) h.1⟩
theorem try_long{g n R t i:Nat}(h:IsR g n R)(ht:2 ^ i≤t)(hl:blen g≤n*i):¬ t≤R:=by
 intro k;have h1:=Nat.le_trans (Nat.pow_le_pow_left (Nat.le_trans ht k) n) h.1;rw [← Nat.pow_mul,Nat.mul_comm i n] at h1;have h2:=lt_pow_blen g;have h3:=Nat.pow_le_pow_right (n:=2) (by omega) hl
 omega
theorem root_stands{x:Rat}{p q a b n R:Nat}{k:Int}(hn:0<n)(hp:0<p)(hq:0<q)(hb:0<b)(hx:x=rv false p q)(hs:rv false a b=x*2 ^ ((n:Int)*k))(hR:IsR (a / b) n R)(h57:144115188075855872≤R):
  RtQ x n (rqb (decide (R ^ n*b=a)) R (2 ^ (-k))):=by
 have hbc:(0:Rat)<(b:Rat):=by exact_mod_cast hb
 have e:rv false a b*(b:Rat)=(a:Rat):=by
  unfold rv
  simp only [Bool.false_eq_true,if_false]
  exact Rat.div_mul_cancel (by grind)
 refine rqb_ok (s:=rv false a b) hn ?_ ?_ ?_ h57 ?_
 ·rw [← mul_le_pos hbc,e,← Rat.natCast_mul,Rat.natCast_le_natCast]
  exact (Nat.le_div_iff_mul_le hb).1 hR.1
 ·have h2:=(Nat.div_lt_iff_lt_mul hb).1 hR.2
  have:¬ ((((R+1) ^ n:Nat):Rat)≤rv false a b):=by
   rw [← mul_le_pos hbc,e,← Rat.natCast_mul,Rat.natCast_le_natCast];omega
  grind
 ·rw [decide_eq_true_iff]
  constructor
  ·intro h
   have h2:((R ^ n:Nat):Rat)*(b:Rat)=rv false a b*(b:Rat):=by rw [e,← Rat.natCast_mul,h]
   have h3:((R ^ n:Nat):Rat)≤rv false a b:=by rw [← mul_le_pos hbc];grind
   have h4:rv false a b≤((R ^ n:Nat):Rat):=by rw [← mul_le_pos hbc];grind
   grind
  ·intro h
   have h2:((R ^ n*b:Nat):Rat)=((a:Nat):Rat):=by rw [Rat.natCast_mul,h,e]
   exact_mod_cast h2
 ·rw [hs,Rat.mul_assoc,← zpow_add,show (n:Int)*k+(n:Int)*-k=0 from by rw [Int.mul_neg];omega];rw [show (2:Rat) ^ (0:Int)=1 from rfl,Rat.mul_one]
theorem rqb_frac(b:Bool)(R:Nat)(k:Int):rv false (2*R+if b=true then 0 else 1) 1*2 ^ (-k - 1)=rqb b R (2 ^ (-k)):=by
 have e:(2:Rat) ^ (-k)=2*2 ^ (-k - 1):=by
  have h:=zpow_add (-k - 1) 1;rw [show -k - 1+1=-k from by omega] at h;rw [h,show (2:Rat) ^ (1:Int)=2 from rfl];grind
 have e1:∀ m:Nat,rv false m 1=(m:Rat):=fun m=>by unfold rv;simp [Rat.div_def];grind
 rw [e1];unfold rqb
 cases b
 ·rw [if_neg (by simp),if_neg (by simp),e]
  have:(2:Rat)*2 ^ (-k - 1) / 2=2 ^ (-k - 1):=by grind
  rw [this]
 ·rw [if_pos rfl,if_pos rfl,e]
  push_cast
  grind
end Go.Proofs.YthlmlmfebpjgdaaGreatDoor
