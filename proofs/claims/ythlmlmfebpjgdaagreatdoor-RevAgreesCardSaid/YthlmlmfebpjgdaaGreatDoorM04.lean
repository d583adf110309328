/-
Lemmas for the statement: AddP MathT SplitT NwT NcmpT NlenT NwoT NatD NaddT NsubT Nsub2T.
-/
import Derived.Test.YthlmlmfebpjgdaaGreatDoorM03
import Derived.Test.YthlmlmfebpjgdaaGreatDoorM02
import Derived.Test.YthlmlmfebpjgdaaGreatDoorM01
import Derived.Laws.FloatArith
import Derived.Laws.CopyOwn
import Derived.BigQuiet
import Derived.Deep.QuietTactic
import Derived.Outline
import Derived.Lib.Strings
import Derived.Lib.Slices
import Derived.Lib.Small
import Derived.Lib.Walk
import Derived.Lib.BitFns
set_option linter.unusedSimpArgs false
set_option linter.unusedVariables false
set_option maxHeartbeats 12800000
namespace Go.Proofs.YthlmlmfebpjgdaaGreatDoor
section
open Go.RowKit
theorem mul_le_pos{a b c:Rat}(h:0<c):a*c<=b*c↔a<=b:=by
 constructor
 ·intro h1;exact Rat.le_of_mul_le_mul_right h1 h
 ·intro h1;exact Rat.mul_le_mul_of_nonneg_right h1 (by grind)
theorem fl_le_units{j n:Int}:fl j<=(n:Rat)*2^(-1074:Int)↔val j<=n:=by
 unfold fl;rw [mul_le_pos (zpow_pos _),Rat.intCast_le_intCast]
theorem units_le_fl{j n:Int}:(n:Rat)*2^(-1074:Int)<=fl j↔n<=val j:=by
 unfold fl;rw [mul_le_pos (zpow_pos _),Rat.intCast_le_intCast]
theorem fl_add(i j:Int):fl i+fl j=((val i+val j:Int):Rat)*2^(-1074:Int):=by
 unfold fl;rw [Rat.intCast_add,Rat.add_mul]
theorem near_down{n k:Int}(hk:val k=R n)(h1:-(M:Int)<k)(h2:k<M):rndI (-1) ((n:Rat)*2^(-1074:Int))=if n<R n then k - 1 else k:=by
 refine (Rnd.eq (.inl ⟨rfl,by split<;>omega,by split<;>omega,fun j hj hj'=>?_⟩)).symm;rw [fl_le_units]
 by_cases hc:n<R n
 ·rw [if_pos hc]
  constructor
  ·intro h
   by_cases h3:val j<=n
   ·exact h3
   ·have h4:R n<=val j:=R_le (Rep.val j) (by omega);rw [<- hk,val_le_iff] at h4;omega
  ·intro h
   have h4:val j<val k:=by omega
   rw [val_lt_iff] at h4;omega
 ·rw [if_neg hc]
  constructor
  ·intro h;have:=val_le_iff.2 h;omega
  ·intro h;have h4:val j<=R n:=le_R (Rep.val j) h;rw [<- hk,val_le_iff] at h4;omega
theorem near_up{n k:Int}(hk:val k=R n)(h1:-(M:Int)<k)(h2:k<M):rndI 1 ((n:Rat)*2^(-1074:Int))=if R n<n then k+1 else k:=by
 refine (Rnd.eq (.inr ⟨rfl,by split<;>omega,by split<;>omega,fun j hj hj'=>?_⟩)).symm;rw [units_le_fl]
 by_cases hc:R n<n
 ·rw [if_pos hc]
  constructor
  ·intro h
   by_cases h3:n<=val j
   ·exact h3
   ·have h4:val j<=R n:=le_R (Rep.val j) (by omega);rw [<- hk,val_le_iff] at h4;omega
  ·intro h
   have h4:val k<val j:=by omega
   rw [val_lt_iff] at h4;omega
 ·rw [if_neg hc]
  constructor
  ·intro h;have:=val_le_iff.2 h;omega
  ·intro h;have h4:R n<=val j:=R_le (Rep.val j) h;rw [<- hk,val_le_iff] at h4;omega
theorem mag_two_pow(t:Nat):mag ((t+1)*2^52)=2^52*2^t:=by
 have:=mag_form t (2^52) (.inr (Nat.le_refl _)) (by omega);rw [show (t+1)*2^52=t*2^52+2^52 from by rw [Nat.add_mul,Nat.one_mul]];exact this
theorem rep_two_pow(t:Nat):Rep ((2:Int)^t):=rep_of_dvd t (Int.dvd_refl _) (by rw [Int.natAbs_pow];exact Nat.le_mul_of_pos_left _ (by decide))
theorem R_bound{n:Int}{t:Nat}(h:n.natAbs<=2^t):(R n).natAbs<=2^t:=by
 have h0:((2^t:Nat):Int)=(2:Int)^t:=by rw [Int.natCast_pow];rfl
 have h1:R n<=(2:Int)^t:=R_le (rep_two_pow t) (by omega);have h2:-(2:Int)^t<=R n:=le_R (rep_two_pow t).neg (by omega)
 omega
theorem near_R{n:Int}{Q:Nat}(hQ:Q<=2000)(h:n.natAbs<=2^Q):val (near n 0)=R n/\-(M:Int)<near n 0/\near n 0<M:=by
 have hM:M=2047*2^52:=rfl
 obtain⟨r,hr⟩:∃ r,mag r=2^Q*2^0/\r<M:=by
  by_cases hq:Q<52
  ·have h1:2^Q<2^52:=Nat.pow_lt_pow_right (by omega) hq
   exact⟨2^Q,by rw [mag_small h1,Nat.pow_zero,Nat.mul_one],by omega⟩
  ·obtain⟨t,rfl⟩:∃ t,Q=52+t:=⟨Q - 52,by omega⟩
   refine⟨(t+1)*2^52,by rw [mag_two_pow,Nat.pow_zero,Nat.mul_one,Nat.pow_add],?_⟩;have:(t+1)*2^52<=2000*2^52:=Nat.mul_le_mul_right _ (by omega)
   omega
 have h1:nearRung n.natAbs 0<=r:=nearRung_le (by rw [Nat.pow_zero,Nat.mul_one];rw [Nat.pow_zero,Nat.mul_one] at hr;rw [hr.1];exact h)
 have h2:min (nearRung n.natAbs 0) M=nearRung n.natAbs 0:=by omega
 unfold near R;rw [h2];refine⟨?_,by split<;>omega,by split<;>omega⟩
 split
 ·rw [val_neg,val_nat]
 ·rw [val_nat]
structure Fl (b:Nat) (n:Int):Prop where
 lt:b<18446744073709551616
 fin:fin b
 val:val (idx b)=n
theorem Fl.of_is{b:Nat}{n:Int}{Q:Nat}(hQ:Q<=2000)(h:Is b (near n 0))(hn:n.natAbs<=2^Q):Fl b (R n):=by
 obtain⟨h1,h2,h3⟩:=near_R hQ hn;refine⟨h.lt,?_,by rw [h.idx,h1]⟩;have:=idx_natAbs b;rw [h.idx] at this
 show rungOf b<M
 omega
theorem Fl.add{x y:Nat}{m n:Int}{Q:Nat}(hQ:Q<=2000)(hx:Fl x m)(hy:Fl y n)(h:(m+n).natAbs<=2^Q):∃ r,FloatKind.f64.format.add x y=some r/\Fl r (R (m+n)):=by
 obtain⟨r,h1,h2⟩:=add_fin hx.fin hy.fin;rw [hx.val,hy.val] at h2
 exact⟨r,h1,Fl.of_is hQ h2 h⟩
theorem Fl.sub{x y:Nat}{m n:Int}{Q:Nat}(hQ:Q<=2000)(hx:Fl x m)(hy:Fl y n)(h:(m - n).natAbs<=2^Q):∃ r,FloatKind.f64.format.sub x y=some r/\Fl r (R (m - n)):=by
 obtain⟨r,h1,h2⟩:=sub_fin hx.fin hy.fin;rw [hx.val,hy.val] at h2
 exact⟨r,h1,Fl.of_is hQ h2 h⟩
theorem quick_sum{x y:Nat}{m n:Int}{T:Nat}(hT:T<=1990)(hx:Fl x m)(hy:Fl y n)(bx:m.natAbs<=2^T)(by_:n.natAbs<=2^T):
  ∃ s t a b c e:Nat,FloatKind.f64.format.add x y=some s/\FloatKind.f64.format.sub s x=some t/\FloatKind.f64.format.sub s t=some a/\FloatKind.f64.format.sub x a=some b /\
   FloatKind.f64.format.sub y t=some c/\FloatKind.f64.format.add b c=some e/\Fl s (R (m+n))/\Fl e (m+n - R (m+n)):=by
 have p1:2^(T+1)=2*2^T:=by rw [Nat.pow_succ,Nat.mul_comm]
 have p2:2^(T+2)=4*2^T:=by rw [Nat.pow_add,Nat.mul_comm]
 have p3:2^(T+3)=8*2^T:=by rw [Nat.pow_add,Nat.mul_comm]
 have p4:2^(T+4)=16*2^T:=by rw [Nat.pow_add,Nat.mul_comm]
 have p5:2^(T+10)=1024*2^T:=by rw [Nat.pow_add,Nat.mul_comm]
 have hQ:T+10<=2000:=by omega
 have rx:Rep m:=by rw [<- hx.val];exact Rep.val _
 have ry:Rep n:=by rw [<- hy.val];exact Rep.val _
 have h2:=two_sum rx ry rfl;obtain⟨s,e1,f1⟩:=Fl.add hQ hx hy (by omega);have b1:(R (m+n)).natAbs<=2^(T+1):=R_bound (by omega);obtain⟨t,e2,f2⟩:=Fl.sub hQ f1 hx (by omega);have b2:(R (R (m+n) - m)).natAbs<=2^(T+2):=R_bound (by omega);obtain⟨a,e3,f3⟩:=Fl.sub hQ f1 f2 (by omega);have b3:(R (R (m+n) - R (R (m+n) - m))).natAbs<=2^(T+3):=R_bound (by omega);obtain⟨b,e4,f4⟩:=Fl.sub hQ hx f3 (by omega);have b4:(R (m - R (R (m+n) - R (R (m+n) - m)))).natAbs<=2^(T+4):=R_bound (by omega);obtain⟨c,e5,f5⟩:=Fl.sub hQ hy f2 (by omega);have b5:(R (n - R (R (m+n) - m))).natAbs<=2^(T+3):=R_bound (by omega);obtain⟨e,e6,f6⟩:=Fl.add hQ f4 f5 (by omega);rw [h2] at f6
 exact⟨s,t,a,b,c,e,e1,e2,e3,e4,e5,e6,f1,f6⟩
theorem or_one(v:Nat):v ||| 1=2*(v / 2)+1:=by
 have h1:v=2*(v / 2)+v % 2:=by omega
 apply Nat.eq_of_testBit_eq
 intro i;rw [Nat.testBit_or]
 cases i with
 | zero=>simp
 | succ i=>rw [Nat.testBit_succ,Nat.testBit_succ,Nat.testBit_succ,show (2*(v / 2)+1) / 2=v / 2 from by omega];simp
def marked(w:Nat)(lost:Bool):Nat:=if lost then 2*(w / 2)+1 else w
theorem marked_div(w:Nat)(lost:Bool):marked w lost / 4=w / 4:=by unfold marked;split<;>omega
theorem marked_mod(w:Nat)(lost:Bool):marked w lost % 4=0↔w % 4=0/\lost=false:=by unfold marked;split<;>simp_all;omega
def Dg(S p q:Nat)(exp:Int)(more:Bool):Prop:=
 ∃ U:Nat,0<=exp+U/\3000<=U/\S*2^(exp+U).toNat*q<=p*2^U/\p*2^U<(S+1)*2^(exp+U).toNat*q/\(more=false↔p*2^U=S*2^(exp+U).toNat*q)
theorem Dg.exact(S:Nat)(exp:Int):Dg S (S*2^exp.toNat) (2^(-exp).toNat) exp false:=by
 refine⟨3000+exp.natAbs,by omega,by omega,?_⟩
 have e:S*2^exp.toNat*2^(3000+exp.natAbs)=S*2^(exp+(3000+exp.natAbs:Nat)).toNat*2^(-exp).toNat:=by
  rw [Nat.mul_assoc,Nat.mul_assoc,<- Nat.pow_add,<- Nat.pow_add];congr 2;omega
 refine⟨by omega,?_,by simp [e]⟩;rw [e,Nat.add_mul,Nat.add_mul,Nat.one_mul];have:0<2^(exp+(3000+exp.natAbs:Nat)).toNat*2^(-exp).toNat:=Nat.mul_pos (Nat.two_pow_pos _) (Nat.two_pow_pos _)
 omega
theorem Dg.sc{S p q:Nat}{exp:Int}{more:Bool}(h:Dg S p q exp more)(hS:0<S):Sc p q ((blen S:Int) - 1+exp):=by
 obtain⟨U,h0,-,h1,h2,-⟩:=h;obtain⟨L,e,b1,b2⟩:=blen_bounds hS;rw [e];have c1:2^(L+(exp+U).toNat)*q<=p*2^U:=Nat.le_trans (by rw [Nat.pow_add];exact Nat.mul_le_mul_right _ (Nat.mul_le_mul_right _ b1)) h1;have c2:p*2^U<2^(L+1+(exp+U).toNat)*q:=Nat.lt_of_lt_of_le h2 (by rw [Nat.pow_add];exact Nat.mul_le_mul_right _ (Nat.mul_le_mul_right _ (by omega)))
 have eg:((L+1:Nat):Int) - 1+exp=(L:Int)+exp:=by omega
 rw [eg]
 constructor
 ·intro hf
  have a1:L+(exp+U).toNat=((L:Int)+exp).toNat+U:=by omega
  have a2:L+1+(exp+U).toNat=((L:Int)+exp).toNat+1+U:=by omega
  rw [a1,Nat.pow_add] at c1;rw [a2,Nat.pow_add] at c2
  constructor
  ·refine Nat.le_of_mul_le_mul_right (c:=2^U) ?_ (Nat.two_pow_pos U)
   calc q*2^((L:Int)+exp).toNat*2^U=2^((L:Int)+exp).toNat*2^U*q:=by ac_rfl
    _<=_:=c1
  ·refine Nat.lt_of_mul_lt_mul_right (a:=2^U) ?_
   calc p*2^U<_:=c2
    _=q*2^(((L:Int)+exp).toNat+1)*2^U:=by ac_rfl
 ·intro hf
  have a1:U=L+(exp+U).toNat+(-((L:Int)+exp)).toNat:=by omega
  have c3:2^(L+(exp+U).toNat)*q<=2^(L+(exp+U).toNat)*(p*2^(-((L:Int)+exp)).toNat):=by
   calc _<=_:=c1
    _=p*(2^(L+(exp+U).toNat)*2^(-((L:Int)+exp)).toNat):=by rw [<- Nat.pow_add,<- a1]
    _=_:=by ac_rfl
  have c4:2^(L+(exp+U).toNat)*(p*2^(-((L:Int)+exp)).toNat)<2^(L+(exp+U).toNat)*(2*q):=by
   calc _=p*(2^(L+(exp+U).toNat)*2^(-((L:Int)+exp)).toNat):=by ac_rfl
    _=p*2^U:=by rw [<- Nat.pow_add,<- a1]
    _<_:=c2
    _=_:=by rw [show L+1+(exp+U).toNat=L+(exp+U).toNat+1 from by omega,Nat.pow_succ];ac_rfl
  exact⟨Nat.le_of_mul_le_mul_left c3 (Nat.two_pow_pos _),Nat.lt_of_mul_lt_mul_left c4⟩
theorem or_false_split{a b:Bool}(h:(a || b)=false):a=false/\b=false:=by revert h;cases a<;>cases b<;>simp
theorem bracket{P C W W':Nat}(h1:W*C<=P)(h2:P<(W+1)*C)(h3:W'*C<=P)(h4:P<(W'+1)*C):W=W':=by
 have a:W<W'+1:=Nat.lt_of_mul_lt_mul_right (Nat.lt_of_le_of_lt h1 h4);have b:W'<W+1:=Nat.lt_of_mul_lt_mul_right (Nat.lt_of_le_of_lt h3 h2)
 omega
theorem digits_at{S p q w:Nat}{exp e:Int}{more lost:Bool}(h:Dg S p q exp more)(hq:0<q)(he:-1074<=e)
  (hdn:0<=e - 2 - exp->w=S / 2^(e - 2 - exp).toNat/\(lost=true↔S % 2^(e - 2 - exp).toNat≠0))(hup:e - 2 - exp<0->w=S*2^(-(e - 2 - exp)).toNat/\lost=false/\more=false):
  marked w (lost || more) / 4=upN p e / upM q e/\(marked w (lost || more) % 4=0↔upN p e % upM q e=0):=by
 obtain⟨U,h0,hU,h1,h2,h3⟩:=h;obtain⟨u1,u2,u3,u4⟩:=units (n:=p) (m:=q) (U:=U) (e:=e) hq (by omega);rw [marked_div,marked_mod]
 obtain⟨P,hP⟩:∃ P,p*2^U=P:=⟨_,rfl⟩
 obtain⟨W,hW⟩:∃ W,upN p e / upM q e=W:=⟨_,rfl⟩
 rw [hP] at h1 h2 h3 u1 u2 u3 u4;rw [hW] at u1 u2 u3 u4 ⊢
 obtain⟨C,hC⟩:∃ C,2^(e+U).toNat*q=C:=⟨_,rfl⟩
 rw [Nat.mul_assoc,hC] at u1 u2 u3 u4
 have hC0:0<C:=by rw [<- hC];exact Nat.mul_pos (Nat.two_pow_pos _) hq
 -- the bracket of w / 4,and when P is it
 have key:w / 4*C<=P/\P<(w / 4+1)*C/\(P=w / 4*C↔w % 4=0/\(lost || more)=false):=by
  rcases Int.lt_or_le (e - 2 - exp) 0 with hc | hc
  ·obtain⟨ew,rfl,rfl⟩:=hup hc;have eq:=h3.1 rfl
   obtain⟨k,hk⟩:∃ k,(-(e - 2 - exp)).toNat=k:=⟨_,rfl⟩
   obtain⟨B,hB⟩:∃ B,2^(e - 2+U).toNat*q=B:=⟨_,rfl⟩
   have hB0:0<B:=by rw [<- hB];exact Nat.mul_pos (Nat.two_pow_pos _) hq
   have e4:C=4*B:=by
    rw [<- hC,<- hB,show (e+U).toNat=(e - 2+U).toNat+2 from by omega,Nat.pow_add];have:2^2=4:=rfl;rw [this];ac_rfl
   have eP:P=w*B:=by
    rw [eq,ew,hk,<- hB,show (exp+U).toNat=k+(e - 2+U).toNat from by omega,Nat.pow_add];ac_rfl
   have ew4:w=4*(w / 4)+w % 4:=by omega
   have lt4:w % 4<4:=Nat.mod_lt _ (by omega);generalize w / 4=a at *;generalize w % 4=b at *
   have eP2:P=a*C+b*B:=by rw [eP,ew4,e4,Nat.add_mul];congr 1;ac_rfl
   refine⟨by omega,?_,?_⟩
   ·rw [Nat.add_mul,Nat.one_mul,eP2];have:b*B<4*B:=Nat.mul_lt_mul_of_pos_right lt4 hB0
    omega
   ·constructor
    ·intro h
     have:b*B=0:=by omega
     rcases Nat.mul_eq_zero.1 this with h | h
     ·exact⟨h,rfl⟩
     ·omega
    ·rintro⟨h,-⟩;rw [h] at eP2;omega
  ·obtain⟨ew,hl⟩:=hdn hc
   obtain⟨k,hk⟩:∃ k,(e - 2 - exp).toNat=k:=⟨_,rfl⟩
   rw [hk] at ew hl
   obtain⟨A,hA⟩:∃ A,2^(exp+U).toNat*q=A:=⟨_,rfl⟩
   have hA0:0<A:=by rw [<- hA];exact Nat.mul_pos (Nat.two_pow_pos _) hq
   rw [Nat.mul_assoc,hA] at h1 h2 h3
   have e4:C=4*2^k*A:=by
    rw [<- hC,<- hA,show (e+U).toNat=(exp+U).toNat+k+2 from by omega,Nat.pow_add,Nat.pow_add];have:2^2=4:=rfl;rw [this];ac_rfl
   have eS:S=2^k*w+S % 2^k:=by rw [ew];exact (Nat.div_add_mod S (2^k)).symm
   have lS:S % 2^k<2^k:=Nat.mod_lt _ (Nat.two_pow_pos k)
   have ew4:w=4*(w / 4)+w % 4:=by omega
   have lt4:w % 4<4:=Nat.mod_lt _ (by omega);generalize S % 2^k=l at *;generalize w / 4=a at *;generalize w % 4=b at *;generalize 2^k=K at *
   have eS2:S=a*(4*K)+(K*b+l):=by
    rw [eS,ew4,Nat.mul_add]
    have:K*(4*a)=a*(4*K):=by ac_rfl
    omega
   have hr:K*b+l<4*K:=by
    have:K*b<=K*3:=Nat.mul_le_mul_left _ (by omega)
    omega
   generalize hR:K*b+l=r at *
   have c1:S*A=a*C+r*A:=by rw [eS2,e4,Nat.add_mul];congr 1;ac_rfl
   have c2:(S+1)*A=a*C+(r+1)*A:=by rw [Nat.add_mul,c1,Nat.add_mul];omega
   have c3:(r+1)*A<=C:=by rw [e4];exact Nat.mul_le_mul_right _ (by omega)
   refine⟨by omega,?_,?_⟩
   ·rw [Nat.add_mul,Nat.one_mul];omega
   ·constructor
    ·intro h
     have h5:r*A=0:=by omega
     have h6:r=0:=by rcases Nat.mul_eq_zero.1 h5 with h | h<;>omega
     have h7:l=0:=by omega
     have h8:K*b=0:=by omega
     have h9:b=0:=by rcases Nat.mul_eq_zero.1 h8 with h | h<;>omega
     have h10:lost=false:=by
      cases lost with
      | false=>rfl
      | true=>exact absurd h7 (hl.1 rfl)
     have h11:more=false:=h3.2 (by omega)
     exact⟨h9,by rw [h10,h11];rfl⟩
    ·rintro⟨h5,h6⟩;obtain⟨h7,h8⟩:=or_false_split h6
     have h9:l=0:=by
      by_cases hl0:l=0
      ·exact hl0
      ·have:=hl.2 hl0;rw [h7] at this;cases this
     have h10:r=0:=by rw [<- hR,h5,h9];simp
     have:=h3.1 h8;rw [this,c1,h10];omega
 obtain⟨k1,k2,k3⟩:=key;have hWW:w / 4=W:=bracket k1 k2 u1 u2;refine⟨hWW,?_⟩;rw [<- k3,hWW]
 constructor
 ·intro h
  by_cases h0:upN p e % upM q e=0
  ·exact h0
  ·have:=u4 h0;omega
 ·intro h;exact u3 h
end
section
open Go.RowKit
attribute [local go_sem] run_store_float run_frombits run_bitsof run_negf
theorem ord_lt{a b:Nat}(ha:rungOf a<=M)(hb:rungOf b<=M)(h:idx a<idx b):FloatKind.f64.format.order a b=some .lt:=by
 have:=order_real ha hb;rw [Int.compare_eq_lt.2 h] at this;exact this
theorem ord_eq{a b:Nat}(ha:rungOf a<=M)(hb:rungOf b<=M)(h:idx a=idx b):FloatKind.f64.format.order a b=some .eq:=by
 have:=order_real ha hb;rw [Int.compare_eq_eq.2 h] at this;exact this
theorem ord_gt{a b:Nat}(ha:rungOf a<=M)(hb:rungOf b<=M)(h:idx b<idx a):FloatKind.f64.format.order a b=some .gt:=by
 have:=order_real ha hb;rw [Int.compare_eq_gt.2 h] at this;exact this
theorem real_zero:rungOf 0<=M:=by decide
theorem idx_zero:idx 0=0:=by decide
theorem real_max:rungOf 9218868437227405312<=M:=by decide
theorem real_min:rungOf 18442240474082181120<=M:=by decide
theorem idx_max:idx 9218868437227405312=M:=by decide
theorem idx_min:idx 18442240474082181120=-(M:Int):=by decide
theorem real_top:rungOf 9218868437227405311<=M:=by decide
theorem idx_top:idx 9218868437227405311=(M:Int) - 1:=by decide
theorem abs_any(b:Nat)(w:World)(hb:b<18446744073709551616):Calls Tryz.prog 117 #[.float .f64 b] w fun e w'=>e=.returned (.float .f64 (rungOf b))/\w=w':=by
 have h:=size_i hb;have hf:=fun W=>run_frombits (rungOf b) W
 go_enter Tryz.func117,Tryz.ntmps117
 go_wp2
 go_ret
 exact⟨rfl,rfl⟩
theorem isnanf(b:Nat)(w:World)(hr:rungOf b<=M):Calls Tryz.prog 221 #[.float .f64 b] w fun e w'=>e=.returned (.bool false)/\w=w':=by
 have h:=ord_eq hr hr rfl
 go_enter Tryz.func221,Tryz.ntmps221
 go_wp2
 go_ret
 exact⟨rfl,rfl⟩
theorem rung_idx{b:Nat}(h:b<9223372036854775808):rungOf b=b/\idx b=(b:Int):=by
 have:=pat_cases (b:=b) (by omega)
 omega
theorem isinff(b:Nat)(w:World)(hb:b<18446744073709551616)(hr:rungOf b<=M):Calls Tryz.prog 161 #[.float .f64 b,.int .i64 0] w fun e w'=>e=.returned (.bool (decide (rungOf b=M)))/\w=w':=by
 have HA:=Hd (abs_any b w hb);have hM:M=9218868437227405312:=rfl
 obtain⟨r,hrr⟩:∃ r,rungOf b=r:=⟨_,rfl⟩
 rw [hrr] at HA hr ⊢;have h1:=rung_idx (b:=r) (by omega)
 by_cases h:r=M
 ·have ho:=ord_gt (a:=r) (b:=9218868437227405311) (by omega) real_top (by rw [h1.2,idx_top];omega);rw [decide_eq_true h];clear h1 h hrr hr hM
  go_enter Tryz.func161,Tryz.ntmps161
  go_wp2_with fail;refine HA.out.mono ?_;rintro e w' ⟨rfl,rfl⟩;go_wp2
  go_ret
  exact⟨rfl,rfl⟩
 ·have ho:FloatKind.f64.format.order r 9218868437227405311=some .lt\/FloatKind.f64.format.order r 9218868437227405311=some .eq:=by
   by_cases h2:r=M - 1
   ·exact .inr (ord_eq (by omega) real_top (by rw [h1.2,idx_top];omega))
   ·exact .inl (ord_lt (by omega) real_top (by rw [h1.2,idx_top];omega))
  rw [decide_eq_false h];clear h1 h hrr hr hM
  rcases ho with ho | ho
  all_goals
   go_enter Tryz.func161,Tryz.ntmps161
   go_wp2_with fail;refine HA.out.mono ?_;rintro e w' ⟨rfl,rfl⟩;go_wp2
   go_ret
   exact⟨rfl,rfl⟩
theorem rplain(b:Nat)(w:World)(hb:b<18446744073709551616)(hr:rungOf b<=M):Calls Tryz.prog 184 #[.float .f64 b] w fun e w'=>e=.returned (.float .f64 (pat (idx b)))/\w=w':=by
 have hp:=pl_real hb hr
 by_cases h:idx b=0
 ·have ho:=ord_eq hr real_zero (by rw [idx_zero];exact h);rw [h,pat_zero];clear hp h hr
  go_enter Tryz.func184,Tryz.ntmps184
  go_wp2
  go_ret
  exact⟨rfl,rfl⟩
 ·have ho:FloatKind.f64.format.order b 0=some .lt\/FloatKind.f64.format.order b 0=some .gt:=by
   rcases Int.lt_trichotomy (idx b) 0 with h1 | h1 | h1
   ·exact .inl (ord_lt hr real_zero (by rw [idx_zero];exact h1))
   ·exact absurd h1 h
   ·exact .inr (ord_gt hr real_zero (by rw [idx_zero];exact h1))
  have e:pat (idx b)=b:=by
   rw [<- hp];unfold pl;have:=pat_cases hb;rw [if_neg (by omega),if_neg (by omega)]
  rw [e];clear hp h hr e
  rcases ho with ho | ho
  all_goals
   go_enter Tryz.func184,Tryz.ntmps184
   go_wp2
   go_ret
   exact⟨rfl,rfl⟩
def NextTo(w:World)(k:Int)(e:Ending)(w':World):Prop:=∃ r,e=.returned (.float .f64 r)/\r<18446744073709551616/\rungOf r<=M/\idx r=k/\w=w'
theorem copy_pos(w:World):Calls Tryz.prog 167 (Zv 1 9218868437227405312) w fun e w'=>e=.returned (.float .f64 1)/\w=w':=by
 have h1:bits .andNot .u64 (1:Int) 9223372036854775808=1:=by decide
 have h2:bits .and .u64 (9218868437227405312:Int) 9223372036854775808=0:=by decide
 have h3:bits .or .u64 (1:Int) 0=1:=by decide
 have f1:∀ W:World,(callFunc 73 #[.float .f64 1]).run Tryz.prog W=.ok (.value (.int .u64 1)) W:=fun W=>run_bitsof 1 W;have f2:∀ W:World,(callFunc 73 #[.float .f64 9218868437227405312]).run Tryz.prog W=.ok (.value (.int .u64 9218868437227405312)) W:=fun W=>run_bitsof 9218868437227405312 W;have f3:∀ W:World,(callFunc 74 #[.int .u64 1]).run Tryz.prog W=.ok (.value (.float .f64 1)) W:=fun W=>run_frombits 1 W
 go_enter Tryz.func167,Tryz.ntmps167
 go_wp2
 go_ret
 exact⟨rfl,rfl⟩
theorem copy_neg(w:World):Calls Tryz.prog 167 (Zv 1 18442240474082181120) w fun e w'=>e=.returned (.float .f64 9223372036854775809)/\w=w':=by
 have h1:bits .andNot .u64 (1:Int) 9223372036854775808=1:=by decide
 have h2:bits .and .u64 (18442240474082181120:Int) 9223372036854775808=9223372036854775808:=by decide
 have h3:bits .or .u64 (1:Int) 9223372036854775808=9223372036854775809:=by decide
 have f1:∀ W:World,(callFunc 73 #[.float .f64 1]).run Tryz.prog W=.ok (.value (.int .u64 1)) W:=fun W=>run_bitsof 1 W;have f2:∀ W:World,(callFunc 73 #[.float .f64 18442240474082181120]).run Tryz.prog W=.ok (.value (.int .u64 18442240474082181120)) W:=fun W=>run_bitsof 18442240474082181120 W;have f3:∀ W:World,(callFunc 74 #[.int .u64 9223372036854775809]).run Tryz.prog W=.ok (.value (.float .f64 9223372036854775809)) W:=fun W=>run_frombits 9223372036854775809 W
 go_enter Tryz.func167,Tryz.ntmps167
 go_wp2
 go_ret
 exact⟨rfl,rfl⟩
end
section
open Go.RowKit Ieee
attribute [local go_sem] run_store_float run_frombits run_bitsof run_negf
theorem fsmall(w:World):Calls Tryz.prog 243 #[] w fun e w'=>e=.returned (.bool false)/\w=w':=by
 have h1:floatOfInt .f64 16777216=4715268809856909312:=by kernel_rfl
 have h2:=fun W=>run_float_arith (P:=Tryz.prog) W .add 26 .f64 4715268809856909312 4607182418800017408 4715268810125344768 (by kernel_rfl)
 have h3:FloatKind.f64.format.order 4715268810125344768 4715268809856909312=some .gt:=by kernel_rfl
 go_enter Tryz.func243,Tryz.ntmps243
 go_wp2
 go_ret
 exact⟨rfl,rfl⟩
theorem pattern_any(b:Nat)(w:World):Calls Tryz.prog 218 #[.float .f64 b] w fun e w'=>e=.returned (.int .u64 (b:Int))/\w=w':=by
 have HS:=Hd fsmall;have ff:=fun W=>run_bitsof b W
 go_enter Tryz.func218,Tryz.ntmps218
 go_wp2_with fail;refine cy (HS.out _) ?_;go_wp2
 go_ret
 exact⟨rfl,rfl⟩
theorem format_any(w:World):Rt 217 #[] (.agg #[.int .i64 52,.int .i64 (-1074),.int .i64 971,.int .u64 9218868437227405312,.int .u64 9223372036854775808]) w:=by
 have HS:=Hd fsmall;have HB:=Hd (below_alloc w (.cells #[.int .i64 52,.int .i64 (-1074),.int .i64 971,.int .u64 9218868437227405312,.int .u64 9223372036854775808] 185))
 go_enter Tryz.func217,Tryz.ntmps217
 go_wp2_with fail;refine cy (HS.out _) ?_;go_wp2;refine bodyPost_ret (v:=.agg #[.int .i64 52,.int .i64 (-1074),.int .i64 971,.int .u64 9218868437227405312,.int .u64 9223372036854775808]) (by simp [results,Tryz.results217,go_sem]) rfl ?_
 exact⟨rfl,HB.out⟩
def SplitTo(w:World)(neg:Bool)(S:Nat)(x:Int)(e:Ending)(w':World):Prop:=
 e=.returned (.tuple #[.bool neg,.int .u64 (S:Int),.int .i64 x,.bool true])/\Below w.heap.size w w'
set_option maxRecDepth 100000 in
theorem split_walk(b m e f S:Nat)(neg:Bool)(w:World)(hb:b<18446744073709551616)(hm:rungOf b=m)(hm2:m<9218868437227405312)(he:m / 4503599627370496=e)(hff:m % 4503599627370496=f)(hn:(FloatKind.f64.format.order b 0 == some Ordering.lt)=neg)(hS:S=if e=0 then f else f+4503599627370496):
  Calls Tryz.prog 168 #[.float .f64 b] w (SplitTo w neg S (if e=0 then -1074 else -1074+((e:Int) - 1))):=by
 have hsz:=size_i hb;rw [hm] at hsz;have m1:=mask52_u64 (x:=m) (by omega);rw [hff] at m1
 have m2:(m:Int) / 4503599627370496=(e:Int):=by omega
 have hf2:f<4503599627370496:=by omega
 have he2:e<2047:=by omega
 have hge:¬ (9218868437227405312:Int)<=(m:Int):=by omega
 have hor:=or_join' (i:=52) (x:=1) (y:=f) (by omega) (by omega) (by omega);rw [show ((1*2^52:Nat):Int)=4503599627370496 from rfl,show (f+1*2^52:Nat)=f+4503599627370496 from rfl] at hor;have HF0:=format_any
 obtain⟨I,hI⟩:∃ I:Int,I=9218868437227405312:=⟨_,rfl⟩
 rw [<- hI] at HF0 hge;have HF:=Hd HF0;clear hI HF0
 have HP:=Hd fun W=>(pattern_any b W).mono (R':=fun e w'=>e=.returned (.int .u64 (b:Int))/\w'=W) fun _ _ h=>⟨h.1,h.2.symm⟩
 obtain⟨bi,hbi⟩:∃ z:Int,z=(b:Int):=⟨_,rfl⟩
 rw [<- hbi] at hsz HP;clear hff he hb hm hbi hm2
 by_cases h0:e=0
 ·subst h0;rw [if_pos rfl] at hS ⊢;subst hS;rw [show ((0:Nat):Int)=0 from rfl] at m2;clear hor he2
  go_enter Tryz.func168,Tryz.ntmps168
  go_wp2_with fail;refine (HF.out _).mono ?_;rintro e' w1 ⟨rfl,hb1⟩;have LB1:=Hd (hb1.alloc hb1.size (.cells #[.int .i64 52,.int .i64 (-1074),.int .i64 971,.int .u64 I,.int .u64 9223372036854775808] 185));clear hb1 HF;go_wp2_with fail
  go_quiet ((first | (go_at_call 218;exact Calls.quiet_of_same (HP.out _))))
  have LB2:=Hd (below_drewN LB1.out nq);have BK2:=Hd ((Blk.new w1 185 #[.int .i64 52,.int .i64 (-1074),.int .i64 971,.int .u64 I,.int .u64 9223372036854775808]).drewN nq)
  obtain⟨g,hg⟩:∃ g,w1.heap.size=g:=⟨_,rfl⟩
  rw [hg] at BK2
  obtain⟨W2,hW2⟩:∃ W,(w1.alloc (.cells #[.int .i64 52,.int .i64 (-1074),.int .i64 971,.int .u64 I,.int .u64 9223372036854775808] 185)).drewN nq=W:=⟨_,rfl⟩
  rw [hW2] at LB2 BK2;rw [hg,hW2];clear hg hW2 LB1 HP hsz;have q0:=BK2.out.cell 0;have q1:=BK2.out.cell 1;have q3:=BK2.out.cell 3
  simp at q0 q1 q3
  go_wp2_with fail
  go_quiet (fail)
  obtain⟨nr,hnr⟩:∃ n,nq=n:=⟨_,rfl⟩
  clear q0 q1 q3 m1;have LB3:=Hd (below_drewN LB2.out nq);have BK3:=Hd (BK2.out.drewN nq)
  obtain⟨W3,hW3⟩:∃ W,W2.drewN nq=W:=⟨_,rfl⟩
  rw [hW3] at LB3 BK3;rw [hW3];clear hW3 LB2 BK2 hnr;have q0:=BK3.out.cell 0
  simp at q0
  go_wp2;refine bodyPost_ret (v:=.tuple #[.bool neg,.int .u64 (S:Int),.int .i64 (-1074),.bool true]) (by simp [results,Tryz.results168,go_sem]) rfl ?_
  exact⟨rfl,LB3.out⟩
 ·rw [if_neg h0] at hS ⊢
  obtain⟨S',hS'⟩:∃ z,f+4503599627370496=z:=⟨_,rfl⟩
  rw [hS'] at hS hor;subst hS
  have hei:(0:Int)<(e:Int):=by omega
  clear h0 hS'
  go_enter Tryz.func168,Tryz.ntmps168
  go_wp2_with fail;refine (HF.out _).mono ?_;rintro e' w1 ⟨rfl,hb1⟩;have LB1:=Hd (hb1.alloc hb1.size (.cells #[.int .i64 52,.int .i64 (-1074),.int .i64 971,.int .u64 I,.int .u64 9223372036854775808] 185));clear hb1 HF;go_wp2_with fail
  go_quiet ((first | (go_at_call 218;exact Calls.quiet_of_same (HP.out _))))
  have LB2:=Hd (below_drewN LB1.out nq);have BK2:=Hd ((Blk.new w1 185 #[.int .i64 52,.int .i64 (-1074),.int .i64 971,.int .u64 I,.int .u64 9223372036854775808]).drewN nq)
  obtain⟨g,hg⟩:∃ g,w1.heap.size=g:=⟨_,rfl⟩
  rw [hg] at BK2
  obtain⟨W2,hW2⟩:∃ W,(w1.alloc (.cells #[.int .i64 52,.int .i64 (-1074),.int .i64 971,.int .u64 I,.int .u64 9223372036854775808] 185)).drewN nq=W:=⟨_,rfl⟩
  rw [hW2] at LB2 BK2;rw [hg,hW2];clear hg hW2 LB1 HP hsz;have q0:=BK2.out.cell 0;have q1:=BK2.out.cell 1;have q3:=BK2.out.cell 3
  simp at q0 q1 q3
  go_wp2_with fail
  go_quiet (fail)
  obtain⟨nr,hnr⟩:∃ n,nq=n:=⟨_,rfl⟩
  clear q0 q1 q3 m1;have LB3:=Hd (below_drewN LB2.out nq);have BK3:=Hd (BK2.out.drewN nq)
  obtain⟨W3,hW3⟩:∃ W,W2.drewN nq=W:=⟨_,rfl⟩
  rw [hW3] at LB3 BK3;rw [hW3];clear hW3 LB2 BK2 hnr;have q0:=BK3.out.cell 0
  simp at q0
  go_wp2;refine bodyPost_ret (v:=.tuple #[.bool neg,.int .u64 (S:Int),.int .i64 (-1074+((e:Int) - 1)),.bool true]) (by simp [results,Tryz.results168,go_sem]) rfl ?_
  exact⟨rfl,LB3.out⟩
theorem split_any(b:Nat)(hb:b<18446744073709551616)(hf:fin b):∃ (S:Nat) (x:Int),S<9007199254740992/\-1074<=x/\x<=971/\fl (idx b)=rv (decide (idx b<0)) S 1*2^x/\∀ w,Calls Tryz.prog 168 #[.float .f64 b] w (SplitTo w (decide (idx b<0)) S x):=by
 have hr:rungOf b<=M:=Nat.le_of_lt hf;have hM:M=9218868437227405312:=rfl;have hm2:rungOf b<9218868437227405312:=hf;have hp:=fl_parts (b:=b) hf rfl rfl rfl;have hc:=pat_cases hb
 have e1:rungOf b / 4503599627370496=b / 4503599627370496 % 2048:=by omega
 have e2:rungOf b % 4503599627370496=b % 4503599627370496:=by omega
 have hn:(FloatKind.f64.format.order b 0 == some Ordering.lt)=decide (idx b<0):=by
  rcases Int.lt_trichotomy (idx b) 0 with h | h | h
  ·rw [ord_lt hr real_zero (by rw [idx_zero];exact h),decide_eq_true h];rfl
  ·rw [ord_eq hr real_zero (by rw [idx_zero];exact h),decide_eq_false (by omega)];rfl
  ·rw [ord_gt hr real_zero (by rw [idx_zero];exact h),decide_eq_false (by omega)];rfl
 refine⟨_,_,?_,?_,?_,?_,fun w=>split_walk b _ _ _ _ _ w hb rfl hm2 e1 e2 hn rfl⟩
 ·split<;>omega
 ·split<;>omega
 ·split<;>omega
 ·have hs:∀ (S:Nat) (x:Int),(S=0\/sgn b=decide (idx b<0))->rv (sgn b) S 1*2^x=rv (decide (idx b<0)) S 1*2^x:=by
   rintro S x (rfl | h)
   ·rw [rv_zero,rv_zero]
   ·rw [h]
  have hsd:rungOf b=0\/sgn b=decide (idx b<0):=by
   rcases hc with ⟨a,h1,h2,h3⟩ | ⟨a,h1,h2,h3⟩
   ·right;rw [h2,decide_eq_false (by omega)]
   ·by_cases h0:rungOf b=0
    ·exact .inl h0
    ·right;rw [h2,decide_eq_true (by omega)]
  by_cases h0:b / 4503599627370496 % 2048=0
  ·rw [if_pos h0,if_pos h0,<- hs _ _ (hsd.imp (fun h=>by omega) id)];have:=hp.2.2.2 h0;rw [this,h0];rfl
  ·rw [if_neg h0,if_neg h0,<- hs _ _ (hsd.imp (fun h=>by omega) id)];rw [hp.2.2.1 (by omega)]
   congr 2;omega
end
section
open Go.RowKit
theorem nwords_any(A:Option Addr)(n c:Nat)(xs:List Nat)(w:World)(h:U32s w A n c xs):
  Calls Tryz.prog 203 #[.slice A n c] w fun e w'=>e=.returned (.int .i64 (wlen xs))/\w=w':=by
 have hn:=h.small;have H:=Hd h;clear h
 go_enter Tryz.func203,Tryz.ntmps203
 go_wp2
 go_loop [3] (fun v=>∃ k:Nat,k<=n/\v=.int .i64 k/\∀ j:Nat,k<=j->xs[j]?.getD 0=0) (fun v=>(intOf v).toNat)
 case atStart=>exact⟨n,by omega,rfl,fun j hj=>by
  have:=H.out.len
  rw [List.getElem?_eq_none (by omega)];rfl⟩
 case round=>
  obtain⟨k,hk,rfl,hz⟩:=hrel;have Hz:=Hd hz;clear hz
  rcases Nat.eq_zero_or_pos k with h0 | h0
  ·subst h0;go_wp2
   go_ret
   exact⟨by have:=wlen_of (l:=xs) (Nat.zero_le _) Hz.out (.inl rfl);rw [this];rfl,rfl⟩
  ·obtain⟨ad,rfl,hc⟩:=H.out.cell (j:=k - 1) (by omega);go_wp2
   ·have ht:((xs[k - 1]?.getD 0:Nat):Int)=0:=by simpa using ‹(((xs[k - 1]?.getD 0:Nat):Int) == 0)=true›
    go_round
    case rel=>
     refine⟨k - 1,by omega,by go_num,fun j hj=>?_⟩
     rcases Nat.lt_or_ge j k with h1 | h1
     ·obtain rfl:j=k - 1:=by omega
      omega
     ·exact Hz.out j h1
    case measure=>simp [intOf];omega
   ·have ht:¬ ((xs[k - 1]?.getD 0:Nat):Int)=0:=by simpa using ‹(((xs[k - 1]?.getD 0:Nat):Int) == 0)=false›
    go_ret
    exact⟨by have:=wlen_of (l:=xs) (n:=k) (by rw [H.out.len];omega) Hz.out (.inr (by omega));rw [this];rfl,rfl⟩
theorem cut_any(A:Option Addr)(n c:Nat)(xs:List Nat)(w:World)(h:U32s w A n c xs):
  Calls Tryz.prog 219 #[.slice A n c] w fun e w'=>e=.returned (.slice A (wlen xs) (wlen xs))/\w=w':=by
 have HW:=Hd (nwords_any A n c xs w h);have hn:=h.small;have hc:=h.cap;have hl:=wlen_le xs;rw [h.len] at hl;clear h
 go_enter Tryz.func219,Tryz.ntmps219
 go_wp2_with fail;refine HW.out.mono ?_;rintro e w' ⟨rfl,rfl⟩;go_wp2_with fail;refine HW.out.mono ?_;rintro e w' ⟨rfl,rfl⟩;go_wp2
 go_ret
 exact⟨rfl,rfl⟩
theorem long_one(g:Nat)(A:Option Addr)(n c:Nat)(xs:List Nat)(w:World)(h0:U32s w A n c xs)(c0:w.cell? ⟨g,0,none⟩=some (.slice A n c))(l0:wlen xs<=16384):
  Calls Tryz.prog 212 #[.slice (some ⟨g,0,none⟩) 1 1] w fun e w'=>e=.returned (.bool false)/\w=w':=by
 have W0:=Hd (nwords_any A n c xs w h0)
 obtain⟨p0,e0⟩:∃ p,wlen xs=p:=⟨_,rfl⟩
 rw [e0] at W0 l0;clear h0 e0
 go_enter Tryz.func212,Tryz.ntmps212
 go_wp2
 go_loop [4,7] (fun _ v=>∃ k:Nat,k<=1/\v=.int .i64 k) (fun _ v=>1 - (intOf v).toNat)
 case atStart=>exact⟨0,by omega,rfl⟩
 case round=>
  obtain⟨k,hk,rfl⟩:=hrel
  match k,hk with
  | 0,_=>
   go_wp2_with fail;refine W0.out.mono ?_;rintro e w' ⟨rfl,rfl⟩;go_wp2
   go_round
   case rel=>exact⟨1,by omega,rfl⟩
   case measure=>simp [intOf]
  | 1,_=>
   go_wp2
   go_ret
   exact⟨rfl,rfl⟩
theorem long_two(g:Nat)(A:Option Addr)(n c:Nat)(xs:List Nat)(B:Option Addr)(m d:Nat)(ys:List Nat)(w:World)(h0:U32s w A n c xs)(c0:w.cell? ⟨g,0,none⟩=some (.slice A n c))(l0:wlen xs<=16384)(h1:U32s w B m d ys)(c1:w.cell? ⟨g,1,none⟩=some (.slice B m d))(l1:wlen ys<=16384):
  Calls Tryz.prog 212 #[.slice (some ⟨g,0,none⟩) 2 2] w fun e w'=>e=.returned (.bool false)/\w=w':=by
 have W0:=Hd (nwords_any A n c xs w h0)
 obtain⟨p0,e0⟩:∃ p,wlen xs=p:=⟨_,rfl⟩
 rw [e0] at W0 l0;clear h0 e0;have W1:=Hd (nwords_any B m d ys w h1)
 obtain⟨p1,e1⟩:∃ p,wlen ys=p:=⟨_,rfl⟩
 rw [e1] at W1 l1;clear h1 e1
 go_enter Tryz.func212,Tryz.ntmps212
 go_wp2
 go_loop [4,7] (fun _ v=>∃ k:Nat,k<=2/\v=.int .i64 k) (fun _ v=>2 - (intOf v).toNat)
 case atStart=>exact⟨0,by omega,rfl⟩
 case round=>
  obtain⟨k,hk,rfl⟩:=hrel
  match k,hk with
  | 0,_=>
   go_wp2_with fail;refine W0.out.mono ?_;rintro e w' ⟨rfl,rfl⟩;go_wp2
   go_round
   case rel=>exact⟨1,by omega,rfl⟩
   case measure=>simp [intOf]
  | 1,_=>
   go_wp2_with fail;refine W1.out.mono ?_;rintro e w' ⟨rfl,rfl⟩;go_wp2
   go_round
   case rel=>exact⟨2,by omega,rfl⟩
   case measure=>simp [intOf]
  | 2,_=>
   go_wp2
   go_ret
   exact⟨rfl,rfl⟩
theorem U32s.cutd{w:World}{A:Option Addr}{n c:Nat}{xs:List Nat}(h:U32s w A n c xs):U32s w A (wlen xs) (wlen xs) (digs (num xs)):=by
 have h1:=h.take (k:=wlen xs) (by have:=wlen_le xs;rw [h.len] at this;exact this);rw [<- trim_eq_take,trim_eq_digs h.w32] at h1
 exact h1.recap (Nat.le_refl _)
theorem wlen_lt{xs:List Nat}{K:Nat}(hw:W32 xs)(h:num xs<2^(32*K)):wlen xs<=K:=by
 have:=digs_length_le h
 rwa [<- trim_eq_digs hw] at this
theorem fit_any(A:Option Addr)(n c:Nat)(xs:List Nat)(w:World)(h:U32s w A n c xs)(hl:wlen xs<=16384):
  Calls Tryz.prog 214 #[.slice A n c] w fun e w'=>e=.returned (.tuple #[.slice A (wlen xs) (wlen xs),.int .i64 0])/\w=w':=by
 have HC:=Hd (cut_any A n c xs w h);clear h
 obtain⟨p,e⟩:∃ p,wlen xs=p:=⟨_,rfl⟩
 rw [e] at HC hl ⊢;clear e
 go_enter Tryz.func214,Tryz.ntmps214
 go_wp2_with fail;refine HC.out.mono ?_;rintro e w' ⟨rfl,rfl⟩;go_wp2
 go_ret2
 exact⟨rfl,rfl⟩
def NewArr(w:World)(xs:List Nat)(e:Ending)(w':World):Prop:=
 ∃ g n,e=.returned (.slice (some ⟨g,0,none⟩) n n)/\xs.length=n/\Arr w' g xs/\w.heap.size<=g/\Below w.heap.size w w'
theorem nnorm_any(A:Option Addr)(n c:Nat)(xs:List Nat)(w:World)(h:U32s w A n c xs):
  Calls Tryz.prog 215 #[.slice A n c] w (NewArr w (digs (num xs))):=by
 have HW:=Hd (nwords_any A n c xs w h);have HX:=Hd h;have hn:=h.small;have hl:=wlen_le xs;rw [h.len] at hl;have ht:=trim_eq_take xs;rw [trim_eq_digs h.w32] at ht
 obtain⟨k,e⟩:∃ p,wlen xs=p:=⟨_,rfl⟩
 rw [e] at HW hl ht;rw [ht];clear h e ht;have hmk:=fun W=>make_u32 (N:=(k:Int)) (n:=k) rfl (by omega) W;have hmk0:=fun W=>make_u32 (N:=0) (n:=0) rfl (by omega) W
 go_enter Tryz.func215,Tryz.ntmps215
 go_wp2_with fail;refine HW.out.mono ?_;rintro e w' ⟨rfl,rfl⟩
 rcases Nat.eq_zero_or_pos k with h0 | h0
 ·subst h0
  go_wp2_with (with_reducible refine wpList_copy_nothing rfl (.tmp 7) (.tmp 8) 40 40 rfl 117 Tryz.underlying40 (by kernel_rfl) _ _ _ _ _ _ rfl rfl (by simp) ?_)
  go_wp2
  go_ret
  exact⟨_,0,rfl,by simp,Arr.zeros w 0,Nat.le_refl _,below_alloc _ _⟩
 ·obtain⟨ad,rfl,hlt,hc⟩:=HX.out.at_ (by omega)
  have hlen:(xs.take k).length=k:=by rw [List.length_take,HX.out.len];omega
  obtain⟨ys,hys⟩:∃ ys,xs.take k=ys:=⟨_,rfl⟩
  rw [hys] at hlen ⊢
  have hcs:∀ j u,(ys.map wd)[j]?=some u->(w.alloc (.cells (Array.replicate k (wd 0)) 117)).cell? (ad.add j)=some u:=by
   intro j u hu;rw [List.getElem?_map] at hu
   have hj:j<ys.length:=by
    by_cases hj:j<ys.length
    ·exact hj
    ·rw [List.getElem?_eq_none (by omega)] at hu;simp at hu
   have hU:=HX.out.alloc (.cells (Array.replicate k (wd 0)) 117);have h1:=hU.cellAt (j:=j) (by omega);rw [h1];rw [<- hys,List.getElem?_take_of_lt (by omega)] at hu
   have h2:j<xs.length:=by rw [HX.out.len];omega
   rw [List.getElem?_eq_getElem h2] at hu ⊢
   simpa using hu
  have HCS:=Hd hcs;have HA:=Hd (Arr.zeros w k);clear hc hcs
  go_wp2_with (with_reducible refine wpList_copy_own rfl (.tmp 7) (.tmp 8) 40 40 rfl 117 Tryz.underlying40 (by kernel_rfl) w.heap.size 0 k k ad n c rfl rfl (Array.replicate k (wd 0)) 117 ?c1 (ys.map wd) ?c2 HCS.out ?c3 ?c4 ?_)
  case c1=>have:=HA.out;unfold Arr at this;simpa using this
  case c2=>rw [List.length_map,hlen];exact (Nat.min_eq_right hl).symm
  case c3=>simp [hlen]
  case c4=>intro u hu;simp at hu;obtain⟨_,_,rfl⟩:=hu;rfl
  have HR:=Hd (show Arr ((w.alloc (.cells (Array.replicate k (wd 0)) 117)).setRow w.heap.size (ys.map wd).toArray) w.heap.size ys from by
   have h1:=HA.out;unfold Arr at h1 ⊢
   rw [setRow_heap _ _ _ _ _ _ h1])
  have HB:=Hd (below_setRow (below_alloc w (.cells (Array.replicate k (wd 0)) 117)) (Nat.le_refl _) (ys.map wd).toArray);have HY:=Hd hys;clear hys HA HCS;go_wp2
  go_ret
  exact⟨_,k,rfl,by rw [HY.out];exact hlen,by rw [HY.out];exact HR.out,Nat.le_refl _,HB.out⟩
end
section
open Go.RowKit
theorem ncmp_any(A B:Option Addr)(n c m d:Nat)(xs ys:List Nat)(w:World)(hx:U32s w A n c xs)(hy:U32s w B m d ys):
  Calls Tryz.prog 142 #[.slice A n c,.slice B m d] w (QuietRet w (.int .i64 (cmp3 (num xs) (num ys)))):=by
 have HX:=Hd hx;have HY:=Hd hy;have n1:=hx.small;have n2:=hy.small;have l1:=wlen_le xs;have l2:=wlen_le ys;rw [hx.len] at l1;rw [hy.len] at l2;have W1:=Hd (nwords_any A n c xs w hx);have W2:=Hd (nwords_any B m d ys w hy);clear hx hy
 obtain⟨p,hp⟩:∃ p,wlen xs=p:=⟨_,rfl⟩
 obtain⟨q,hq⟩:∃ p,wlen ys=p:=⟨_,rfl⟩
 rw [hp] at W1 l1;rw [hq] at W2 l2;have HP:=Hd hp;have HQ:=Hd hq;clear hp hq
 go_enter Tryz.func142,Tryz.ntmps142
 go_wp2_with fail;refine W1.out.mono ?_;rintro e w' ⟨rfl,rfl⟩;go_wp2_with fail;refine W2.out.mono ?_;rintro e w' ⟨rfl,rfl⟩
 rcases Nat.lt_trichotomy p q with hl | hl | hl
 ·go_wp2
  go_ret
  exact⟨by rw [cmp3_lt (num_lt_of_wlen HX.out.w32 (by rw [HP.out,HQ.out];exact hl))];rfl,0,rfl⟩
 ·subst hl;go_wp2
  go_loopw [7,8,9,21] (fun _ _ _ v wr=>∃ i:Nat,i<=p/\v=.int .i64 (i:Int)/\(∀ j:Nat,p - i<=j->xs[j]?.getD 0=ys[j]?.getD 0)/\∃ z,wr=w.drewN z) (fun _ _ _ v _=>p - (intOf v).toNat)
  case atStart=>exact⟨0,by omega,rfl,fun j hj=>by rw [(wlen_spec xs).1 j (by rw [HP.out];exact hj),(wlen_spec ys).1 j (by rw [HQ.out];exact hj)],0,rfl⟩
  case round=>
   obtain⟨i,hi,rfl,hz,z,rfl⟩:=hrel;have Hz:=Hd hz;clear hz
   by_cases h0:i=p
   ·subst h0;go_wp2
    go_ret
    exact⟨by rw [cmp3_eq (num_ext fun j=>Hz.out j (by omega))];rfl,z,rfl⟩
   ·obtain⟨j,hj⟩:∃ j,p=i+1+j:=⟨p - i - 1,by omega⟩
    obtain⟨ad,rfl,hc⟩:=HX.out.cell (j:=j) (by omega);obtain⟨ad',rfl,hc'⟩:=HY.out.cell (j:=j) (by omega)
    have e1:(p:Int) - 1 - (i:Int)=(j:Int):=by omega
    have hi1:(j:Int)<(n:Int):=by omega
    have hi2:(j:Int)<(m:Int):=by omega
    have hi3:(i:Int)<(p:Int):=by omega
    have HJ:=Hd hj;clear hj
    obtain⟨x,hx⟩:∃ x,xs[j]?.getD 0=x:=⟨_,rfl⟩
    obtain⟨y,hy⟩:∃ x,ys[j]?.getD 0=x:=⟨_,rfl⟩
    rw [hx] at hc;rw [hy] at hc';have HXX:=Hd hx;have HYY:=Hd hy;clear hx hy
    rcases Nat.lt_trichotomy x y with hl | hl | hl
    ·have hne:((x:Int) == (y:Int))=false:=by simp;omega
     go_wp2_with fail
     go_quiet (fail)
     go_wp2
     go_ret
     exact⟨by rw [cmp3_lt (num_lt_of HX.out.w32 j (fun k hk=>Hz.out k (by have:=HJ.out;omega)) (by rw [HXX.out,HYY.out];exact hl))];rfl,_,rfl⟩
    ·subst hl;go_wp2_with fail
     go_quiet (fail)
     go_wp2
     go_roundw
     case rel=>
      refine⟨i+1,by omega,by go_num,fun k hk=>?_,_,rfl⟩
      rcases Nat.lt_or_ge j k with h1 | h1
      ·exact Hz.out k (by have:=HJ.out;omega)
      ·obtain rfl:k=j:=by have:=HJ.out;omega
       rw [HXX.out,HYY.out]
     case measure=>simp [intOf];omega
    ·have hne:((x:Int) == (y:Int))=false:=by simp;omega
     go_wp2_with fail
     go_quiet (fail)
     go_wp2
     go_ret
     exact⟨by rw [cmp3_gt (num_lt_of HY.out.w32 j (fun k hk=>(Hz.out k (by have:=HJ.out;omega)).symm) (by rw [HXX.out,HYY.out];exact hl))];rfl,_,rfl⟩
 ·go_wp2
  go_ret
  exact⟨by rw [cmp3_gt (num_lt_of_wlen HY.out.w32 (by rw [HP.out,HQ.out];exact hl))];rfl,0,rfl⟩
end
section
open Go.RowKit
theorem aux_blen:∀ (f x:Nat),x<2^f->Lib.bitLenAux f x=blen x
 | 0,x,h=>by
  obtain rfl:x=0:=by omega
  rfl
 | f+1,x,h=>by
  unfold Lib.bitLenAux
  by_cases h0:x=0
  ·subst h0;rfl
  ·have e:=blen_half (n:=x) (by omega);rw [if_neg h0,aux_blen f (x / 2) (by rw [Nat.pow_succ] at h;omega)];omega
theorem lib_blen(x:Nat)(h:x<4294967296):Lib.bitLen x=blen x:=aux_blen 64 x (by omega)
theorem tab_get(i:Nat)(h:i<Lib.len8tab.size):(Lib.len8tab[i]'h).toNat=blen i/\blen i<=8:=by
 have h1:i<256:=by rw [Lib.len8tab_size] at h;exact h
 have e:=Lib.len8_eq ⟨i,h1⟩;have l:=Lib.bitLen_le8 ⟨i,h1⟩
 simp only [Lib.len8,Int.toNat_natCast] at e
 rw [ByteArray.getElem?_lt' _ _ h,Option.getD_some,lib_blen i (by omega)] at e
 simp only [lib_blen i (by omega)] at l
 exact⟨by omega,l⟩
theorem blen_shift(x k:Nat)(h:0<x / 2^k):blen x=k+blen (x / 2^k):=by
 have h1:=blen_high (hi:=x / 2^k) (lo:=x % 2^k) (k:=k) h (Nat.mod_lt _ (Nat.two_pow_pos k))
 rwa [Nat.mod_add_div] at h1
set_option maxRecDepth 100000 in
theorem len32_int(x:Int)(w:World)(h0:0<=x)(h1:x<=4294967295):
  Calls Tryz.prog 257 #[.int .u32 x] w fun e w'=>e=.returned (.int .i64 (blen x.toNat:Int))/\w=w':=by
 have hs:=Lib.len8tab_size
 go_enter Tryz.func257,Tryz.ntmps257
 go_wp2
 all_goals (go_ret;refine⟨congrArg Ending.returned (congrArg (Value.int IntKind.i64) ?_),rfl⟩)
 ·obtain⟨e,l⟩:=tab_get (x / 65536 / 256).toNat (by omega);have s:=blen_shift x.toNat 24 (by omega);rw [show x.toNat / 2^24=(x / 65536 / 256).toNat from by omega] at s;rw [e,wrap64,wrap64];omega
 ·obtain⟨e,l⟩:=tab_get (x / 65536).toNat (by omega);have s:=blen_shift x.toNat 16 (by omega);rw [show x.toNat / 2^16=(x / 65536).toNat from by omega] at s;rw [e,wrap64,wrap64];omega
 ·obtain⟨e,l⟩:=tab_get (x / 256).toNat (by omega);have s:=blen_shift x.toNat 8 (by omega);rw [show x.toNat / 2^8=(x / 256).toNat from by omega] at s;rw [e,wrap64,wrap64];omega
 ·obtain⟨e,l⟩:=tab_get x.toNat (by omega);rw [e,wrap64,wrap64];omega
theorem len32_any(x:Nat)(w:World)(hx:x<4294967296):
  Calls Tryz.prog 257 #[.int .u32 (x:Int)] w fun e w'=>e=.returned (.int .i64 (blen x:Int))/\w=w':=by
 have h:=len32_int (x:Int) w (by omega) (by omega);rw [Int.toNat_natCast] at h
 exact h
theorem nlen_any(A:Option Addr)(n c:Nat)(xs:List Nat)(w:World)(hx:U32s w A n c xs):
  Calls Tryz.prog 232 #[.slice A n c] w fun e w'=>e=.returned (.int .i64 (blen (num xs):Int))/\w=w':=by
 have HW:=Hd (nwords_any A n c xs w hx);have HX:=Hd hx;have n1:=hx.small;have l1:=wlen_le xs;rw [hx.len] at l1;clear hx
 rcases Nat.eq_zero_or_pos (wlen xs) with h0 | h0
 ·have e0:blen (num xs)=0:=by rw [wlen_eq_zero.1 h0];rfl
  rw [e0];rw [h0] at HW
  go_enter Tryz.func232,Tryz.ntmps232
  go_wp2_with fail;refine HW.out.mono ?_;rintro e w' ⟨rfl,rfl⟩;go_wp2
  go_ret
  exact⟨rfl,rfl⟩
 ·have e0:=blen_num HX.out.w32 h0
  obtain⟨l,hl⟩:∃ l,wlen xs=l+1:=⟨wlen xs - 1,by omega⟩
  rw [hl,Nat.add_sub_cancel] at e0;rw [hl] at l1 HW;obtain⟨ad,rfl,hc⟩:=HX.out.cell (j:=l) (by omega);have hlt:=HX.out.lt l
  obtain⟨t,ht⟩:∃ t,xs[l]?.getD 0=t:=⟨_,rfl⟩
  rw [ht] at hc hlt e0;rw [e0];have HT:=Hd fun W=>len32_any t W hlt;have b0:blen t<=32:=blen_le_iff.2 (by omega)
  obtain⟨b,hb⟩:∃ b,blen t=b:=⟨_,rfl⟩
  rw [hb] at HT b0 ⊢;clear hl h0 ht e0 hb
  have hq:(((l+1:Nat):Int) == 0)=false:=by simp;omega
  have e1:((l+1:Nat):Int) - 1=(l:Int):=by omega
  have e2:(l:Int)<(n:Int):=by omega
  obtain⟨z,hz⟩:∃ z:Int,((l+1:Nat):Int)=z:=⟨_,rfl⟩
  rw [hz] at HW hq e1;clear hz
  go_enter Tryz.func232,Tryz.ntmps232
  go_wp2_with fail;refine HW.out.mono ?_;rintro e w' ⟨rfl,rfl⟩;go_wp2_with fail;refine cy (HT.out _) ?_;go_wp2
  go_ret
  exact⟨by first | rfl | (congr 2;omega),rfl⟩
end
section
open Go.RowKit
theorem nword_any(A:Option Addr)(n c:Nat)(xs:List Nat)(w:World)(hx:U32s w A n c xs)(hv:wlen xs<=2):
  Calls Tryz.prog 255 #[.slice A n c] w (QuietRet w (.tuple #[.int .u64 (num xs:Int),.bool true])):=by
 have HW:=Hd (nwords_any A n c xs w hx);have HX:=Hd hx;have n1:=hx.small;have l1:=wlen_le xs;rw [hx.len] at l1;have ht:=num_trim xs;rw [trim_eq_take] at ht;clear hx
 rcases show wlen xs=0\/wlen xs=1\/wlen xs=2 by omega with h | h | h
 ·rw [h] at HW ht;rw [<- ht]
  go_enter Tryz.func255,Tryz.ntmps255
  go_wp2_with fail;refine HW.out.mono ?_;rintro e w' ⟨rfl,rfl⟩;go_wp2
  go_ret2
  exact⟨by simp [num],0,rfl⟩
 ·rw [h] at HW ht l1;rw [show (1:Nat)=0+1 from rfl,num_take_next] at ht
  simp only [List.take_zero,num_nil,Nat.mul_zero,Nat.pow_zero,Nat.one_mul,Nat.zero_add] at ht
  obtain⟨ad,rfl,hc⟩:=HX.out.cell (j:=0) (by omega);have hlt:=HX.out.lt 0;rw [ht] at hc hlt
  obtain⟨v,hv⟩:∃ v,num xs=v:=⟨_,rfl⟩
  rw [hv] at hc hlt ⊢
  have e0:ad.add 0=ad:=by simp [Addr.add]
  rw [e0] at hc
  have e2:(0:Int)<(n:Int):=by omega
  clear ht hv h
  go_enter Tryz.func255,Tryz.ntmps255
  go_wp2_with fail;refine HW.out.mono ?_;rintro e w' ⟨rfl,rfl⟩;go_wp2
  go_ret2
  exact⟨rfl,0,rfl⟩
 ·rw [h] at HW ht l1;rw [show (2:Nat)=(0+1)+1 from rfl,num_take_next,num_take_next] at ht
  simp only [List.take_zero,num_nil,Nat.mul_zero,Nat.pow_zero,Nat.one_mul,Nat.zero_add,Nat.mul_one] at ht
  obtain⟨ad,rfl,hc⟩:=HX.out.cell (j:=0) (by omega);have hc1:=HX.out.cellAt (j:=1) (by omega);have hlt:=HX.out.lt 0;have hlt1:=HX.out.lt 1
  obtain⟨x,hx⟩:∃ v,xs[0]?.getD 0=v:=⟨_,rfl⟩
  obtain⟨y,hy⟩:∃ v,xs[1]?.getD 0=v:=⟨_,rfl⟩
  rw [hx] at hc hlt ht;rw [hy] at hc1 hlt1 ht
  have hc2:w.cell? ⟨ad.block,ad.off+1,none⟩=some (wd y):=by simpa [Addr.add] using hc1
  have e0:ad.add 0=ad:=by simp [Addr.add]
  rw [e0] at hc
  have e2:(0:Int)<(n:Int):=by omega
  have e3:(1:Int)<(n:Int):=by omega
  have eo:=or_join (i:=32) (x:=y) (y:=x) (by omega) (by omega) (by omega);rw [show (2:Nat)^32=4294967296 from rfl] at eo ht;rw [show ((y*4294967296:Nat):Int)=(y:Int)*4294967296 from by omega] at eo;rw [<- ht];clear ht hx hy h
  go_enter Tryz.func255,Tryz.ntmps255
  go_wp2_with fail;refine HW.out.mono ?_;rintro e w' ⟨rfl,rfl⟩;go_wp2_with fail
  go_quiet (fail)
  go_wp2
  go_ret2
  refine⟨?_,_,rfl⟩
  show Ending.returned (.tuple #[.int .u64 ((y:Int)*4294967296+(x:Int)),.bool true])=_
  rw [show (y:Int)*4294967296+(x:Int)=((x+4294967296*y:Nat):Int) from by omega]
theorem digs_two{v:Nat}(h:v<18446744073709551616):num [v % 4294967296,v / 4294967296]=v:=by
 simp [num];omega
theorem nsmall_any(v:Nat)(w:World)(hv:v<18446744073709551616):
  Calls Tryz.prog 169 #[.int .u64 (v:Int)] w (NewU32 w (digs v)):=by
 have HU:=Hd (U32s.lit2 w 117 (a:=v % 4294967296) (b:=v / 4294967296) (by omega) (by omega));have HC:=Hd (cut_any _ _ _ _ _ HU.out);have HD:=Hd HU.out.cutd;rw [digs_two hv] at HD
 obtain⟨k,hk⟩:∃ k,wlen [v % 4294967296,v / 4294967296]=k:=⟨_,rfl⟩
 rw [hk] at HC HD;clear hk HU
 go_enter Tryz.func169,Tryz.ntmps169
 go_wp2_with fail;rw [show (v:Int) % 4294967296=((v % 4294967296:Nat):Int) from by omega,show (v:Int) / 4294967296=((v / 4294967296:Nat):Int) from by omega];refine HC.out.mono ?_;rintro e w' ⟨rfl,rfl⟩;go_wp2
 go_ret
 exact⟨_,k,k,rfl,HD.out,below_alloc _ _⟩
end
theorem set_mid{ls r:List Nat}{i x:Nat}(hi:ls.length=i)(h:0<r.length):(ls ++ r).set i x=(ls ++ [x]) ++ r.tail:=by
 subst hi
 cases r with
 | nil=>simp at h
 | cons a l=>simp [List.set_append]
theorem tail_replicate(n:Nat):(List.replicate n 0).tail=List.replicate (n - 1) 0:=by cases n<;>simp [List.replicate_succ]
theorem tail_drop(xs:List Nat)(i:Nat):(xs.drop i).tail=xs.drop (i+1):=by simp
def AddArr(xs ys cur:List Nat)(N i c:Nat):Prop:=∃ ls,PlusInv xs ys ls i c/\cur=ls ++ List.replicate (N - i) 0
theorem AddArr.start(xs ys:List Nat)(N:Nat):AddArr xs ys (List.replicate N 0) N 0 0:=⟨[],PlusInv.start _ _,by simp⟩
theorem AddArr.len{xs ys cur:List Nat}{N i c:Nat}(h:AddArr xs ys cur N i c)(hi:i<=N):cur.length=N:=by
 obtain⟨ls,h1,rfl⟩:=h;have:=h1.len
 simp;omega
theorem AddArr.w32{xs ys cur:List Nat}{N i c:Nat}(h:AddArr xs ys cur N i c):W32 cur:=by
 obtain⟨ls,h1,rfl⟩:=h
 exact h1.1.append (W32.replicate _)
theorem AddArr.carry{xs ys cur:List Nat}{N i c:Nat}(h:AddArr xs ys cur N i c):c<=1:=by
 obtain⟨ls,h1,rfl⟩:=h
 exact h1.carry
theorem AddArr.zero{xs ys cur:List Nat}{N i c:Nat}(h:AddArr xs ys cur N i c):cur[i]?.getD 0=0:=by
 obtain⟨ls,h1,rfl⟩:=h;rw [List.getElem?_append_right (by rw [h1.len];omega),h1.len,List.getElem?_replicate]
 split<;>rfl
theorem AddArr.step{xs ys cur:List Nat}{N i c t:Nat}(h:AddArr xs ys cur N i c)(hi:i<N)(hx:W32 xs)(hy:W32 ys)(ht:t=c+xs[i]?.getD 0+ys[i]?.getD 0):
  AddArr xs ys (cur.set i (t % 4294967296)) N (i+1) (t / 4294967296):=by
 obtain⟨ls,h1,rfl⟩:=h;refine⟨ls ++ [t % 4294967296],h1.step hx hy ht,?_⟩;rw [set_mid h1.len (by simp;omega),tail_replicate]
 congr 2
theorem AddArr.done{xs ys cur:List Nat}{n c:Nat}(h:AddArr xs ys cur (n+1) n c)(hx:xs.length<=n)(hy:ys.length<=n):
  num (cur.set n c)=num xs+num ys/\W32 (cur.set n c):=by
 obtain⟨ls,h1,rfl⟩:=h;have h2:=h1.done hx hy;have h3:=h1.carry;rw [set_mid h1.len (by simp),tail_replicate]
 simp only [Nat.add_sub_cancel_left,Nat.sub_self,List.replicate_zero,List.append_nil]
 refine⟨?_,h2.2⟩;have:=h2.1;rw [trim_eq_digs h2.2] at this;have h4:=congrArg num this
 rwa [num_digs,num_digs] at h4
def LessArr(xs ys cur:List Nat)(i c:Nat):Prop:=∃ ls,MinusInv xs ys ls i c/\cur=ls ++ xs.drop i
theorem LessArr.start(xs ys:List Nat):LessArr xs ys xs 0 0:=⟨[],MinusInv.start _ _,by simp⟩
theorem LessArr.len{xs ys cur:List Nat}{i c:Nat}(h:LessArr xs ys cur i c)(hi:i<=xs.length):cur.length=xs.length:=by
 obtain⟨ls,h1,rfl⟩:=h;have:=h1.len
 simp;omega
theorem LessArr.w32{xs ys cur:List Nat}{i c:Nat}(h:LessArr xs ys cur i c)(hx:W32 xs):W32 cur:=by
 obtain⟨ls,h1,rfl⟩:=h
 exact h1.1.append (hx.drop _)
theorem LessArr.carry{xs ys cur:List Nat}{i c:Nat}(h:LessArr xs ys cur i c):c<=1:=by
 obtain⟨ls,h1,rfl⟩:=h
 exact h1.carry
theorem LessArr.at{xs ys cur:List Nat}{i c:Nat}(h:LessArr xs ys cur i c):cur[i]?.getD 0=xs[i]?.getD 0:=by
 obtain⟨ls,h1,rfl⟩:=h;rw [List.getElem?_append_right (by rw [h1.len];omega),h1.len,List.getElem?_drop,Nat.sub_self,Nat.add_zero]
theorem LessArr.step{xs ys cur:List Nat}{i c d c':Nat}(h:LessArr xs ys cur i c)(hi:i<xs.length)(hd:d<4294967296)(hc':c'<=1)
  (ht:d+ys[i]?.getD 0+c=xs[i]?.getD 0+4294967296*c'):LessArr xs ys (cur.set i d) (i+1) c':=by
 obtain⟨ls,h1,rfl⟩:=h;refine⟨ls ++ [d],h1.step hd hc' ht,?_⟩;rw [set_mid h1.len (by simp;omega),tail_drop]
theorem LessArr.done{xs ys cur:List Nat}{c:Nat}(h:LessArr xs ys cur xs.length c)(hx:W32 xs)(hy:W32 ys)(hle:num ys<=num xs):num cur=num xs - num ys:=by
 obtain⟨ls,h1,rfl⟩:=h;rw [List.drop_length,List.append_nil]
 exact h1.done rfl hx hy hle
theorem LessArr.early{xs ys cur:List Nat}{i:Nat}(h:LessArr xs ys cur i 0)(hi:i<=xs.length)(hy:ys.length<=i):num cur=num xs - num ys:=by
 obtain⟨ls,h1,rfl⟩:=h;obtain⟨hw,hl,-,hs⟩:=h1;rw [List.take_of_length_le hy,Nat.mul_zero,Nat.add_zero] at hs;have e:=num_take_drop xs i;rw [Nat.min_eq_left hi] at e;rw [num_append,hl]
 omega
def ShiftArr(xs cur:List Nat)(N s i c:Nat):Prop:=
 ∃ ls,W32 ls/\ls.length=i/\c<2^s/\num ls+2^(32*i)*c=num (xs.take i)*2^s/\cur=ls ++ List.replicate (N - i) 0
theorem ShiftArr.start(xs:List Nat)(N s:Nat):ShiftArr xs (List.replicate N 0) N s 0 0:=⟨[],W32.nil,rfl,Nat.two_pow_pos s,by simp [num],by simp⟩
theorem ShiftArr.len{xs cur:List Nat}{N s i c:Nat}(h:ShiftArr xs cur N s i c)(hi:i<=N):cur.length=N:=by
 obtain⟨ls,_,h1,_,_,rfl⟩:=h
 simp;omega
theorem ShiftArr.w32{xs cur:List Nat}{N s i c:Nat}(h:ShiftArr xs cur N s i c):W32 cur:=by
 obtain⟨ls,h0,h1,_,_,rfl⟩:=h
 exact h0.append (W32.replicate _)
theorem ShiftArr.carry{xs cur:List Nat}{N s i c:Nat}(h:ShiftArr xs cur N s i c):c<2^s:=by
 obtain⟨ls,h0,h1,h2,_,rfl⟩:=h
 exact h2
theorem ShiftArr.step{xs cur:List Nat}{N s i c t:Nat}(h:ShiftArr xs cur N s i c)(hi:i<N)(hx:W32 xs)(ht:t=xs[i]?.getD 0*2^s+c):
  ShiftArr xs (cur.set i (t % 4294967296)) N s (i+1) (t / 4294967296):=by
 obtain⟨ls,h0,h1,h2,h3,rfl⟩:=h;have h4:=hx.get i;refine⟨ls ++ [t % 4294967296],h0.append (W32.cons (by omega) W32.nil),by simp [h1],?_,?_,?_⟩
 ·refine Nat.div_lt_of_lt_mul ?_;rw [ht];have h5:(xs[i]?.getD 0+1)*2^s<=4294967296*2^s:=Nat.mul_le_mul_right _ h4;rw [Nat.add_mul,Nat.one_mul] at h5
  omega
 ·rw [num_snoc,h1,num_take_next,Nat.add_mul,<- h3,pow32]
  have e1:2^(32*i)*xs[i]?.getD 0*2^s+2^(32*i)*c=2^(32*i)*t:=by rw [ht,Nat.mul_add,Nat.mul_assoc]
  have e2:2^(32*i)*(t % 4294967296)+2^32*2^(32*i)*(t / 4294967296)=2^(32*i)*t:=by
   rw [Nat.mul_comm (2^32),Nat.mul_assoc,<- Nat.mul_add];congr 1;omega
  omega
 ·rw [set_mid h1 (by simp;omega),tail_replicate];congr 2
theorem ShiftArr.done{xs cur:List Nat}{n s c:Nat}(h:ShiftArr xs cur (n+1) s n c)(hx:xs.length<=n)(hs:s<=32):num (cur.set n c)=num xs*2^s/\W32 (cur.set n c):=by
 obtain⟨ls,h0,h1,h2,h3,rfl⟩:=h;have h4:2^s<=2^32:=Nat.pow_le_pow_right (by omega) hs;rw [set_mid h1 (by simp),tail_replicate]
 simp only [Nat.add_sub_cancel_left,Nat.sub_self,List.replicate_zero,List.append_nil]
 refine⟨?_,h0.append (W32.cons (by omega) W32.nil)⟩;rw [num_snoc,h1,h3,List.take_of_length_le hx]
def BackArr(xs cur:List Nat)(s i:Nat):Prop:=∃ ls,RightInv xs ls 0 s i/\cur=ls ++ xs.drop i
theorem BackArr.start(xs:List Nat)(s:Nat):BackArr xs xs s 0:=⟨[],RightInv.start _ _ _,by simp⟩
theorem BackArr.len{xs cur:List Nat}{s i:Nat}(h:BackArr xs cur s i)(hi:i<=xs.length):cur.length=xs.length:=by
 obtain⟨ls,⟨_,h1,_⟩,rfl⟩:=h
 simp;omega
theorem BackArr.w32{xs cur:List Nat}{s i:Nat}(h:BackArr xs cur s i)(hx:W32 xs):W32 cur:=by
 obtain⟨ls,⟨h1,_⟩,rfl⟩:=h
 exact h1.append (hx.drop _)
theorem BackArr.at{xs cur:List Nat}{s i k:Nat}(h:BackArr xs cur s i)(hk:i<=k):cur[k]?.getD 0=xs[k]?.getD 0:=by
 obtain⟨ls,⟨_,h1,_⟩,rfl⟩:=h;rw [List.getElem?_append_right (by omega),h1,List.getElem?_drop]
 congr 2;omega
theorem BackArr.step{xs cur:List Nat}{s i v:Nat}(h:BackArr xs cur s i)(hi:i<xs.length)(hx:W32 xs)(hs:s<32)(hv:v=xs[i]?.getD 0+4294967296*xs[i+1]?.getD 0):
  BackArr xs (cur.set i (v / 2^s % 4294967296)) s (i+1):=by
 obtain⟨ls,h1,rfl⟩:=h;refine⟨ls ++ [v / 2^s % 4294967296],h1.step hx hs (by simpa using hv),?_⟩;rw [set_mid h1.2.1 (by simp;omega),tail_drop]
theorem BackArr.done{xs cur:List Nat}{s:Nat}(h:BackArr xs cur s xs.length)(hx:W32 xs):num cur=num xs / 2^s:=by
 obtain⟨ls,h1,rfl⟩:=h;rw [List.drop_length,List.append_nil];have:=h1.done hx (by have:=wlen_le xs;omega)
 simpa using this
section
open Go.RowKit
def NewU32E(w:World)(xs:List Nat)(e:Ending)(w':World):Prop:=
 ∃ A n c,e=.returned (.tuple #[.slice A n c,.int .i64 0])/\U32s w' A n c xs/\Below w.heap.size w w'
theorem words_q(A:Option Addr)(n c:Nat)(xs:List Nat)(w:World)(h:U32s w A n c xs)(k:Nat):
  Calls Tryz.prog 203 #[.slice A n c] (w.drewN k) fun e w'=>e=.returned (.int .i64 (wlen xs))/\w'=w.drewN k:=
 (nwords_any A n c xs (w.drewN k) (h.keep (Nat.le_refl _) fun _ _ _=>rfl)).mono fun _ _ h=>⟨h.1,h.2.symm⟩
theorem nadd_any(A B:Option Addr)(n c m d:Nat)(xs ys:List Nat)(w:World)(hx:U32s w A n c xs)(hy:U32s w B m d ys)(hl1:wlen xs<=16383)(hl2:wlen ys<=16383):
  Calls Tryz.prog 159 #[.slice A n c,.slice B m d] w (NewU32E w (digs (num xs+num ys))):=by
 obtain⟨w1,hw1⟩:∃ w1,w.alloc (.cells #[.slice A n c,.slice B m d] 40)=w1:=⟨_,rfl⟩
 have hb1:Below w.heap.size w w1:=by rw [<- hw1];exact below_alloc w _
 have hx1:=hx.below hb1;have hy1:=hy.below hb1;have hlong:=long_two w.heap.size A n c xs B m d ys w1 hx1 (by rw [<- hw1];simp [World.cell?_alloc_new]) (by omega) hy1 (by rw [<- hw1];simp [World.cell?_alloc_new]) (by omega);have HLG:=Hd hlong;have HQ1:=Hd (words_q A n c xs w1 hx1);have HQ2:=Hd (words_q B m d ys w1 hy1);have n1:=hx.small;have n2:=hy.small;have cc1:=hx.cap;have cc2:=hy.cap;have l1:=wlen_le xs;have l2:=wlen_le ys;rw [hx.len] at l1;rw [hy.len] at l2;have e1:=num_trim xs;have e2:=num_trim ys;rw [trim_eq_take] at e1 e2;have HX0:=hx1.take l1;have HY0:=hy1.take l2
 obtain⟨p,hp⟩:∃ p,wlen xs=p:=⟨_,rfl⟩
 obtain⟨q,hq⟩:∃ p,wlen ys=p:=⟨_,rfl⟩
 rw [hp] at HQ1 l1 hl1 e1 HX0;rw [hq] at HQ2 l2 hl2 e2 HY0
 obtain⟨us,hus⟩:∃ l,xs.take p=l:=⟨_,rfl⟩
 obtain⟨vs,hvs⟩:∃ l,ys.take q=l:=⟨_,rfl⟩
 rw [hus] at e1 HX0;rw [hvs] at e2 HY0;rw [<- e1,<- e2];have HX:=Hd HX0;have HY:=Hd HY0;have HB1:=Hd hb1;have HW1:=Hd hw1;clear hx hy hx1 hy1 hlong hb1 hp hq e1 e2 HX0 HY0 hus hvs hw1
 go_enter Tryz.func159,Tryz.ntmps159
 go_wp2_with fail;rw [HW1.out];refine HLG.out.mono ?_;rintro e w' ⟨rfl,rfl⟩;go_wp2_with fail
 go_quiet ((first | (go_at_call_of 203 (Value.slice A n c);exact Calls.quiet_of_same (HQ1.out _)) | (go_at_call_of 203 (Value.slice B m d);exact Calls.quiet_of_same (HQ2.out _))))
 obtain⟨w2,hw2⟩:∃ w2,w1.drewN nq=w2:=⟨_,rfl⟩
 have HB2:=Hd (show Below w.heap.size w w2 from by rw [<- hw2];exact below_drewN HB1.out nq);have HX2:=Hd (show U32s w2 A p c us from by rw [<- hw2];exact HX.out.keep (Nat.le_refl _) fun _ _ _=>rfl);have HY2:=Hd (show U32s w2 B q d vs from by rw [<- hw2];exact HY.out.keep (Nat.le_refl _) fun _ _ _=>rfl);rw [hw2];clear hw2 HQ1 HQ2 HLG HX HY HB1 HW1
 by_cases hsw:p<q
 ·have hmk:=fun W=>make_u32 (N:=(q:Int)+1) (n:=q+1) (by omega) (by omega) W;go_wp2
  go_loopw [7,8,9,35] (fun cv _ _ iv wr=>∃ (i k:Nat) (cur:List Nat),iv=.int .i64 i/\cv=.int .u32 k/\i<=q/\AddArr vs us cur (q+1) i k/\Arr wr w2.heap.size cur/\Below w2.heap.size w2 wr) (fun _ _ _ iv _=>q - (intOf iv).toNat)
  case atStart=>exact⟨0,0,_,rfl,rfl,Nat.zero_le _,AddArr.start _ _ _,Arr.zeros _ _,below_alloc _ _⟩
  case round=>
   obtain⟨i,k,cur,rfl,rfl,hi,hinv,harr,hb⟩:=hrel;have HI:=Hd hinv;have HA:=Hd harr;have hk1:=hinv.carry;clear hinv harr hmk
   by_cases hlt:i<q
   ·obtain⟨ad,e,hc⟩:=(HY2.out.below hb).cell (j:=i) hlt
    cases e
    have hx1:=HY2.out.lt i;have hf:=HA.out.frozen i;have hcc:=HA.out.cell (j:=i) (by rw [HI.out.len (by omega)];omega);rw [HI.out.zero] at hcc
    obtain⟨x,hx⟩:∃ x,vs[i]?.getD 0=x:=⟨_,rfl⟩
    rw [hx] at hc hx1;have HXX:=Hd hx;clear hx
    have i1:(i:Int)<(((q+1:Nat)):Int):=by omega
    by_cases hlq:i<p
    ·obtain⟨ad',e,hc'⟩:=(HX2.out.below hb).cell (j:=i) hlq
     cases e
     have hy1:=HX2.out.lt i
     obtain⟨y,hy⟩:∃ x,us[i]?.getD 0=x:=⟨_,rfl⟩
     rw [hy] at hc' hy1;have HYY:=Hd hy;clear hy;go_wp2
     go_roundw
     case rel=>
      refine⟨i+1,(k+x+y) / 4294967296,cur.set i ((k+x+y) % 4294967296),by go_num,by go_num,by omega,HI.out.step (by omega) HY2.out.w32 HX2.out.w32 (by rw [HXX.out,HYY.out]),?_,hb.setCell (Nat.le_refl _) _⟩;rw [show ((x:Int)+(y:Int)+(k:Int)) % 4294967296=(((k+x+y) % 4294967296:Nat):Int) from by omega]
      exact HA.out.set i ((k+x+y) % 4294967296)
     case measure=>simp [intOf];omega
    ·have HYY:=Hd (show us[i]?.getD 0=0 by rw [List.getElem?_eq_none (by rw [HX2.out.len];omega)];rfl);go_wp2
     go_roundw
     case rel=>
      refine⟨i+1,(k+x+0) / 4294967296,cur.set i ((k+x+0) % 4294967296),by go_num,by go_num,by omega,HI.out.step (by omega) HY2.out.w32 HX2.out.w32 (by rw [HXX.out,HYY.out]),?_,hb.setCell (Nat.le_refl _) _⟩;rw [show ((x:Int)+(k:Int)) % 4294967296=(((k+x+0) % 4294967296:Nat):Int) from by omega]
      exact HA.out.set i ((k+x+0) % 4294967296)
     case measure=>simp [intOf];omega
   ·obtain rfl:i=q:=by omega
    have hd:=HI.out.done (by rw [HY2.out.len];omega) (by rw [HX2.out.len];omega);have hl:=HI.out.len (by omega);have hcc:=HA.out.cell (j:=i) (by rw [hl];omega);rw [HI.out.zero] at hcc;have hf:=HA.out.frozen i;have hA:=HA.out.set i k;have hb3:=hb.setCell (p:=⟨w2.heap.size,i,none⟩) (Nat.le_refl _) (wd k);have hu:=hA.u32s' (n:=i+1) hd.2 (by simp [hl]) (by omega)
    have hb4:num vs<2^(32*i):=by have:=num_lt HY2.out.w32;rwa [HY2.out.len] at this
    have hb5:num us<2^(32*i):=by
     have:=num_lt HX2.out.w32;rw [HX2.out.len] at this
     exact Nat.lt_of_lt_of_le this (Nat.pow_le_pow_right (by omega) (by omega))
    have hwl:wlen (cur.set i k)<=16384:=Nat.le_trans (wlen_lt hd.2 (K:=i+1) (by rw [hd.1,pow32];omega)) (by omega);have HF:=Hd (fit_any _ _ _ _ _ hu hwl);have HD:=Hd hu.cutd;rw [hd.1] at HD
    obtain⟨kk,hkk⟩:∃ kk,wlen (cur.set i k)=kk:=⟨_,rfl⟩
    rw [hkk] at HF HD;have HBB:=Hd (HB2.out.trans (hb3.mono HB2.out.size))
    have i1:(i:Int)<((i+1:Nat):Int):=by omega
    clear hkk hwl hd hl hA hb3 hu hb HI HA hb4 hb5;go_wp2_with fail;refine HF.out.mono ?_;rintro e w' ⟨rfl,rfl⟩;go_wp2
    go_ret2
    exact⟨_,kk,kk,rfl,by rw [Nat.add_comm];exact HD.out,HBB.out⟩
 ·have hmk:=fun W=>make_u32 (N:=(p:Int)+1) (n:=p+1) (by omega) (by omega) W;go_wp2
  go_loopw [7,8,9,35] (fun cv _ _ iv wr=>∃ (i k:Nat) (cur:List Nat),iv=.int .i64 i/\cv=.int .u32 k/\i<=p/\AddArr us vs cur (p+1) i k/\Arr wr w2.heap.size cur/\Below w2.heap.size w2 wr) (fun _ _ _ iv _=>p - (intOf iv).toNat)
  case atStart=>exact⟨0,0,_,rfl,rfl,Nat.zero_le _,AddArr.start _ _ _,Arr.zeros _ _,below_alloc _ _⟩
  case round=>
   obtain⟨i,k,cur,rfl,rfl,hi,hinv,harr,hb⟩:=hrel;have HI:=Hd hinv;have HA:=Hd harr;have hk1:=hinv.carry;clear hinv harr hmk
   by_cases hlt:i<p
   ·obtain⟨ad,e,hc⟩:=(HX2.out.below hb).cell (j:=i) hlt
    cases e
    have hx1:=HX2.out.lt i;have hf:=HA.out.frozen i;have hcc:=HA.out.cell (j:=i) (by rw [HI.out.len (by omega)];omega);rw [HI.out.zero] at hcc
    obtain⟨x,hx⟩:∃ x,us[i]?.getD 0=x:=⟨_,rfl⟩
    rw [hx] at hc hx1;have HXX:=Hd hx;clear hx
    have i1:(i:Int)<(((p+1:Nat)):Int):=by omega
    by_cases hlq:i<q
    ·obtain⟨ad',e,hc'⟩:=(HY2.out.below hb).cell (j:=i) hlq
     cases e
     have hy1:=HY2.out.lt i
     obtain⟨y,hy⟩:∃ x,vs[i]?.getD 0=x:=⟨_,rfl⟩
     rw [hy] at hc' hy1;have HYY:=Hd hy;clear hy;go_wp2
     go_roundw
     case rel=>
      refine⟨i+1,(k+x+y) / 4294967296,cur.set i ((k+x+y) % 4294967296),by go_num,by go_num,by omega,HI.out.step (by omega) HX2.out.w32 HY2.out.w32 (by rw [HXX.out,HYY.out]),?_,hb.setCell (Nat.le_refl _) _⟩;rw [show ((x:Int)+(y:Int)+(k:Int)) % 4294967296=(((k+x+y) % 4294967296:Nat):Int) from by omega]
      exact HA.out.set i ((k+x+y) % 4294967296)
     case measure=>simp [intOf];omega
    ·have HYY:=Hd (show vs[i]?.getD 0=0 by rw [List.getElem?_eq_none (by rw [HY2.out.len];omega)];rfl);go_wp2
     go_roundw
     case rel=>
      refine⟨i+1,(k+x+0) / 4294967296,cur.set i ((k+x+0) % 4294967296),by go_num,by go_num,by omega,HI.out.step (by omega) HX2.out.w32 HY2.out.w32 (by rw [HXX.out,HYY.out]),?_,hb.setCell (Nat.le_refl _) _⟩;rw [show ((x:Int)+(k:Int)) % 4294967296=(((k+x+0) % 4294967296:Nat):Int) from by omega]
      exact HA.out.set i ((k+x+0) % 4294967296)
     case measure=>simp [intOf];omega
   ·obtain rfl:i=p:=by omega
    have hd:=HI.out.done (by rw [HX2.out.len];omega) (by rw [HY2.out.len];omega);have hl:=HI.out.len (by omega);have hcc:=HA.out.cell (j:=i) (by rw [hl];omega);rw [HI.out.zero] at hcc;have hf:=HA.out.frozen i;have hA:=HA.out.set i k;have hb3:=hb.setCell (p:=⟨w2.heap.size,i,none⟩) (Nat.le_refl _) (wd k);have hu:=hA.u32s' (n:=i+1) hd.2 (by simp [hl]) (by omega)
    have hb4:num us<2^(32*i):=by have:=num_lt HX2.out.w32;rwa [HX2.out.len] at this
    have hb5:num vs<2^(32*i):=by
     have:=num_lt HY2.out.w32;rw [HY2.out.len] at this
     exact Nat.lt_of_lt_of_le this (Nat.pow_le_pow_right (by omega) (by omega))
    have hwl:wlen (cur.set i k)<=16384:=Nat.le_trans (wlen_lt hd.2 (K:=i+1) (by rw [hd.1,pow32];omega)) (by omega);have HF:=Hd (fit_any _ _ _ _ _ hu hwl);have HD:=Hd hu.cutd;rw [hd.1] at HD
    obtain⟨kk,hkk⟩:∃ kk,wlen (cur.set i k)=kk:=⟨_,rfl⟩
    rw [hkk] at HF HD;have HBB:=Hd (HB2.out.trans (hb3.mono HB2.out.size))
    have i1:(i:Int)<((i+1:Nat):Int):=by omega
    clear hkk hwl hd hl hA hb3 hu hb HI HA hb4 hb5;go_wp2_with fail;refine HF.out.mono ?_;rintro e w' ⟨rfl,rfl⟩;go_wp2
    go_ret2
    exact⟨_,kk,kk,rfl,HD.out,HBB.out⟩
end
section
open Go.RowKit
theorem top_bit{v:Nat}(h:v<4294967296):v / 2147483648=(v.testBit 31).toNat:=by
 rw [Nat.testBit_eq_decide_div_mod_eq,show (2:Nat)^31=2147483648 from rfl]
 by_cases hc:v / 2147483648 % 2=1<;>simp [hc]<;>omega
theorem test31{v:Nat}(h:v<4294967296):v.testBit 31=decide (2147483648<=v):=by
 rw [Nat.testBit_eq_decide_div_mod_eq,show (2:Nat)^31=2147483648 from rfl]
 congr 1
 apply propext
 constructor<;>intro h<;>omega
theorem borrow_nat{x y d b:Nat}(hx:x<4294967296)(hy:y<4294967296)(hb:b<=1)(hd:d=(x+8589934592 - y - b) % 4294967296):
  (((4294967295 ^^^ x) &&& y) ||| ((4294967295 ^^^ (x ^^^ y)) &&& d)) / 2147483648=if x<y+b then 1 else 0:=by
 have hd':d<4294967296:=by omega
 have h1:((4294967295 ^^^ x) &&& y)<2^32:=Nat.and_lt_two_pow _ hy;have h2:((4294967295 ^^^ (x ^^^ y)) &&& d)<2^32:=Nat.and_lt_two_pow _ hd';rw [top_bit (Nat.or_lt_two_pow h1 h2)]
 simp only [Nat.testBit_or,Nat.testBit_and,Nat.testBit_xor,test31 hx,test31 hy,test31 hd',show (4294967295:Nat).testBit 31=true from by decide]
 by_cases a1:2147483648<=x<;>by_cases a2:2147483648<=y<;>by_cases a3:2147483648<=d<;>simp [a1,a2,a3]<;>omega
theorem borrow_int{x y b:Nat}(hx:x<4294967296)(hy:y<4294967296)(hb:b<=1):
  bits .or .u32 (bits .and .u32 (bits .xor .u32 IntKind.u32.max (x:Int)) (y:Int)) (bits .and .u32 (bits .xor .u32 IntKind.u32.max (bits .xor .u32 (x:Int) (y:Int))) (((x:Int) - (y:Int) - (b:Int)) % 4294967296)) / 2147483648
   = ((if x<y+b then 1 else 0:Nat):Int):=by
 obtain⟨d,hd⟩:∃ d,d=(x+8589934592 - y - b) % 4294967296:=⟨_,rfl⟩
 have e1:((x:Int) - (y:Int) - (b:Int)) % 4294967296=(d:Int):=by omega
 have e2:IntKind.u32.max=((4294967295:Nat):Int):=rfl
 have hd':d<4294967296:=by omega
 have b1:4294967295 ^^^ x<2^32:=Nat.xor_lt_two_pow (by omega) hx;have b2:x ^^^ y<2^32:=Nat.xor_lt_two_pow hx hy;have b3:4294967295 ^^^ (x ^^^ y)<2^32:=Nat.xor_lt_two_pow (by omega) b2;have b4:(4294967295 ^^^ x) &&& y<4294967296:=Nat.and_lt_two_pow (n:=32) _ hy;have b5:(4294967295 ^^^ (x ^^^ y)) &&& d<4294967296:=Nat.and_lt_two_pow (n:=32) _ hd';rw [e1,e2,u32_xor_nat _ _ (by omega) hx,u32_and_nat _ _ b1 hy,u32_xor_nat _ _ hx hy,u32_xor_nat _ _ (by omega) b2,u32_and_nat _ _ b3 hd',u32_or_nat _ _ b4 b5,<- borrow_nat hx hy hb hd]
 rfl
theorem sub32_any(x y b:Nat)(w:World)(hx:x<4294967296)(hy:y<4294967296)(hb:b<=1):
  Calls Tryz.prog 242 #[.int .u32 (x:Int),.int .u32 (y:Int),.int .u32 (b:Int)] w fun e w'=>e=.returned (.tuple #[.int .u32 (((x+8589934592 - y - b) % 4294967296:Nat):Int),.int .u32 ((if x<y+b then 1 else 0:Nat):Int)])/\w=w':=by
 have hbo:=borrow_int hx hy hb
 obtain⟨bo,hbo'⟩:∃ bo,(if x<y+b then 1 else 0)=bo:=⟨_,rfl⟩
 rw [hbo'] at hbo ⊢
 have e1:((x:Int) - (y:Int) - (b:Int)) % 4294967296=(((x+8589934592 - y - b) % 4294967296:Nat):Int):=by omega
 rw [<- e1];clear e1 hbo'
 go_enter Tryz.func242,Tryz.ntmps242
 go_wp2
 go_ret2
 exact⟨rfl,rfl⟩
theorem less_any(B:Option Addr)(g n m d:Nat)(rs ys:List Nat)(w:World)(hr:Arr w g rs)(hrw:W32 rs)(hy:U32s w B m d ys)(hne:∀ ad,B=some ad->0<m->ad.block≠g)(hrl:rs.length=n)(hs:n<=8589934592)(hle:num ys<=num rs):
  Calls Tryz.prog 216 #[.slice (some ⟨g,0,none⟩) n n,.slice B m d] w fun e w'=>
   ∃ rs',e=.returned (.tuple #[])/\Arr w' g rs'/\W32 rs'/\rs'.length=n/\num rs'=num rs - num ys/\w.grownBy w' (some g):=by
 have HR:=Hd hr;have HY:=Hd hy;have HRW:=Hd hrw;have HLE:=Hd hle;have HRL:=Hd hrl;have hm:=hy.small;clear hr hy hrw hle hrl
 go_enter Tryz.func216,Tryz.ntmps216
 go_wp2
 go_loopw [4,5,6,9] (fun bv _ _ iv wr=>∃ (i k:Nat) (cur:List Nat),iv=.int .i64 i/\bv=.int .u32 k/\i<=n/\LessArr rs ys cur i k/\Arr wr g cur/\w.grownBy wr (some g)) (fun _ _ _ iv _=>n - (intOf iv).toNat)
 case atStart=>exact⟨0,0,rs,rfl,rfl,Nat.zero_le _,LessArr.start _ _,HR.out,World.grownBy.refl w _⟩
 case round=>
  obtain⟨i,k,cur,rfl,rfl,hi,hinv,harr,hgr⟩:=hrel;have HI:=Hd hinv;have HA:=Hd harr;have HG:=Hd hgr;have hk1:=hinv.carry;clear hinv harr hgr
  by_cases hlt:i<n
  ·have hf:=HA.out.frozen i;have hcc:=HA.out.cell (j:=i) (by rw [HI.out.len (by rw [HRL.out];exact hi),HRL.out];exact hlt);rw [HI.out.at] at hcc;have hx1:=HRW.out.get i
   obtain⟨x,hxx⟩:∃ r,rs[i]?.getD 0=r:=⟨_,rfl⟩
   rw [hxx] at hcc hx1;have HXX:=Hd hxx;clear hxx
   by_cases hlm:i<m
   ·have hU:U32s wr B m d ys:=HY.out.keep HG.out.size (fun ad e h0=>by
     obtain⟨ad',e',hlt',_⟩:=HY.out.at_ h0;rw [e] at e';cases e'
     exact HG.out.block _ hlt' (fun h=>hne ad e h0 (by injection h)))
    obtain⟨ad,rfl,hc⟩:=hU.cell (j:=i) hlm;have hy1:=HY.out.lt i
    obtain⟨y,hyy⟩:∃ y,ys[i]?.getD 0=y:=⟨_,rfl⟩
    rw [hyy] at hc hy1;have HYY:=Hd hyy
    have hq:decide ((m:Int)<=(i:Int))=false:=by simp;omega
    clear hyy hU
    obtain⟨D,hD⟩:∃ D,(x+8589934592 - y - k) % 4294967296=D:=⟨_,rfl⟩
    obtain⟨bo,hbo⟩:∃ D,(if x<y+k then 1 else 0)=D:=⟨_,rfl⟩
    have hS:=fun W=>sub32_any x y k W hx1 (by omega) hk1;rw [hD,hbo] at hS;have HS:=Hd hS
    have hb1:bo<=1:=by rw [<- hbo];split<;>omega
    have hD1:D<4294967296:=by omega
    have HEQ:=Hd (show D+y+k=x+4294967296*bo from by rw [<- hbo];split<;>omega);clear hD hbo hS;go_wp2_with fail;refine cy (HS.out _) ?_;go_wp2
    go_roundw
    case rel=>exact⟨i+1,bo,cur.set i D,by go_num,rfl,by omega,HI.out.step (by rw [HRL.out];exact hlt) hD1 hb1 (by rw [HXX.out,HYY.out];exact HEQ.out),HA.out.set _ _,HG.out.trans ⟨rfl,rfl,rfl,by simp,fun k _ hk=>Below.heap_setCell _ _ _ _ (fun e=>hk (by rw [e]))⟩⟩
    case measure=>simp [intOf];omega
   ·have HYY:=Hd (show ys[i]?.getD 0=0 by rw [List.getElem?_eq_none (by rw [HY.out.len];omega)];rfl)
    have hq:decide ((m:Int)<=(i:Int))=true:=by simp;omega
    rcases Nat.eq_zero_or_pos k with h0 | h0
    ·subst h0;go_wp2;refine bodyPost_ret (results_none rfl _ _ _) rfl ?_
     exact⟨cur,rfl,HA.out,HI.out.w32 HRW.out,by rw [HI.out.len (by rw [HRL.out];exact hi),HRL.out],HI.out.early (by rw [HRL.out];exact hi) (by rw [HY.out.len];omega),HG.out⟩
    ·have hk0:((k:Int) == 0)=false:=by simp;omega
     obtain⟨D,hD⟩:∃ D,(x+8589934592 - 0 - k) % 4294967296=D:=⟨_,rfl⟩
     obtain⟨bo,hbo⟩:∃ D,(if x<0+k then 1 else 0)=D:=⟨_,rfl⟩
     have hS:=fun W=>sub32_any x 0 k W hx1 (by omega) hk1;rw [hD,hbo] at hS;have HS:=Hd hS
     have hb1:bo<=1:=by rw [<- hbo];split<;>omega
     have hD1:D<4294967296:=by omega
     have HEQ:=Hd (show D+0+k=x+4294967296*bo from by rw [<- hbo];split<;>omega);clear hD hbo hS;go_wp2_with fail;refine cy (HS.out _) ?_;go_wp2
     go_roundw
     case rel=>exact⟨i+1,bo,cur.set i D,by go_num,rfl,by omega,HI.out.step (by rw [HRL.out];exact hlt) hD1 hb1 (by rw [HXX.out,HYY.out];exact HEQ.out),HA.out.set _ _,HG.out.trans ⟨rfl,rfl,rfl,by simp,fun k _ hk=>Below.heap_setCell _ _ _ _ (fun e=>hk (by rw [e]))⟩⟩
     case measure=>simp [intOf];omega
  ·obtain rfl:i=n:=by omega
   go_wp2
   go_end0
   have hi1:=HI.out;have hl:=HRL.out;refine⟨cur,rfl,HA.out,hi1.w32 HRW.out,by rw [hi1.len (by rw [hl];exact Nat.le_refl _),hl],?_,HG.out⟩;subst hl
   exact hi1.done HRW.out HY.out.w32 HLE.out
end
section
open Go.RowKit
theorem below_grown{B g:Nat}{w0 w w':World}(hb:Below B w0 w)(hg:w.grownBy w' (some g))(hB:B<=g)(hBw:B<=w.heap.size):Below B w0 w':=
 hb.grown hg hBw (fun k hk=>by cases hk;exact hB)
theorem nsub_any(A B:Option Addr)(n c m d:Nat)(xs ys:List Nat)(w:World)(hx:U32s w A n c xs)(hy:U32s w B m d ys)(hl1:wlen xs<=16384)(hl2:wlen ys<=16384)(hle:num ys<=num xs):
  Calls Tryz.prog 160 #[.slice A n c,.slice B m d] w (NewU32E w (digs (num xs - num ys))):=by
 have HC:=Hd (ncmp_any A B n c m d xs ys w hx hy)
 have hc3:¬ cmp3 (num xs) (num ys)<0:=fun h=>by have:=cmp3_neg.1 h;omega
 obtain⟨r,hr⟩:∃ r,cmp3 (num xs) (num ys)=r:=⟨_,rfl⟩
 rw [hr] at HC hc3;have hlong:=fun (W:World) (hb:Below w.heap.size w W)=>long_two W.heap.size A n c xs B m d ys (W.alloc (.cells #[.slice A n c,.slice B m d] 40)) ((hx.below hb).alloc _) (by simp [World.cell?_alloc_new]) hl1 ((hy.below hb).alloc _) (by simp [World.cell?_alloc_new]) hl2;have HLG:=Hd hlong;have HN:=Hd fun (W:World) (hb:Below w.heap.size w W)=>nnorm_any A n c xs W (hx.below hb);have HQ:=Hd fun (W:World) (hb:Below w.heap.size w W)=>nwords_any B m d ys W (hy.below hb);have n1:=hx.small;have n2:=hy.small;have cc2:=hy.cap;have l2:=wlen_le ys;rw [hy.len] at l2;have e2:=num_trim ys;rw [trim_eq_take] at e2;have HY0:=hy.take l2
 have hlx:(digs (num xs)).length<=16384:=by rw [<- trim_eq_digs hx.w32];exact hl1
 obtain⟨q,hq⟩:∃ p,wlen ys=p:=⟨_,rfl⟩
 rw [hq] at HQ l2 hl2 e2 HY0
 obtain⟨vs,hvs⟩:∃ l,ys.take q=l:=⟨_,rfl⟩
 rw [hvs] at e2 HY0;rw [<- e2] at hle ⊢
 obtain⟨N,hN⟩:∃ N,num xs=N:=⟨_,rfl⟩
 rw [hN] at hle HN hlx ⊢;have HLE:=Hd hle;have HY:=Hd HY0;have HLX:=Hd hlx;clear hx hy hlong hq e2 HY0 hvs hr hl1 hN hle hlx
 go_enter Tryz.func160,Tryz.ntmps160
 go_wp2_with fail;refine HC.out.mono ?_;rintro e w1 ⟨rfl,z,hz⟩;have HB1:=Hd (show Below w.heap.size w w1 from by rw [hz];exact below_drewN (Below.refl _ _) z);clear hz HC;go_wp2_with fail;refine cy (HLG.out _ HB1.out) ?_;have HB2:=Hd (HB1.out.alloc HB1.out.size (.cells #[.slice A n c,.slice B m d] 40));clear HLG HB1
 obtain⟨w2,hw2⟩:∃ W,w1.alloc (.cells #[.slice A n c,.slice B m d] 40)=W:=⟨_,rfl⟩
 rw [hw2] at HB2 ⊢;clear hw2;go_wp2_with fail;refine (HN.out _ HB2.out).mono ?_;rintro e w3 ⟨g,k,rfl,hk,hA,hg,hb⟩;have HA:=Hd hA;have HK:=Hd hk;have hg2:w.heap.size<=g:=Nat.le_trans HB2.out.size hg;have HB3:=Hd (HB2.out.trans (hb.mono HB2.out.size));clear hA hb HB2 HN hg hk;go_wp2_with fail;refine cy (HQ.out _ HB3.out) ?_
 have hlss:=less_any B g k q d (digs N) vs w3 HA.out (W32.digs N) (HY.out.below HB3.out) (fun ad e h0=>by
  obtain⟨ad',e',hlt,_⟩:=HY.out.at_ h0
  rw [e] at e';cases e';omega) HK.out (by rw [<- HK.out];have:=HLX.out;omega) (by rw [num_digs];exact HLE.out)
 rw [num_digs] at hlss;have HL:=Hd hlss;clear hlss;go_wp2_with fail;refine HL.out.mono ?_;rintro e w4 ⟨rs,rfl,hA4,hw4,hl4,hn4,hg4⟩;have hu:=hA4.u32s' hw4 hl4 (by rw [<- HK.out];have:=HLX.out;omega)
 have hwl:wlen rs<=16384:=by
  have h1:=wlen_le rs;rw [hl4,<- HK.out] at h1
  exact Nat.le_trans h1 HLX.out
 have HF:=Hd (fit_any _ _ _ _ _ hu hwl);have HD:=Hd hu.cutd;rw [hn4] at HD;have HB4:=Hd (below_grown HB3.out hg4 hg2 HB3.out.size)
 obtain⟨kk,hkk⟩:∃ kk,wlen rs=kk:=⟨_,rfl⟩
 rw [hkk] at HF HD;clear hkk hwl hu hA4 hw4 hl4 hn4 hg4 HL HA;go_wp2_with fail;refine HF.out.mono ?_;rintro e w' ⟨rfl,rfl⟩;go_wp2
 go_ret2
 exact⟨_,kk,kk,rfl,HD.out,HB4.out⟩
end
end Go.Proofs.YthlmlmfebpjgdaaGreatDoor
