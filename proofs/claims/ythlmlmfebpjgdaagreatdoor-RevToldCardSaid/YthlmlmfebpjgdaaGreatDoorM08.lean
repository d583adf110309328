/-
Lemmas for the statement: AddP.
-/
import Derived.Test.YthlmlmfebpjgdaaGreatDoorM07
set_option linter.unusedSimpArgs false
set_option linter.unusedVariables false
set_option maxHeartbeats 12800000
namespace Go.Proofs.YthlmlmfebpjgdaaGreatDoor
section
open Go.RowKit
theorem mul_le_pos{a b c:Rat}(h:0<c):a*c<=b*c↔a<=b:=by
 constructor
 ·intro h1;exact Rat.le_of_mul_le_mul_right h1 h
 ·intro h1;exact Rat.mul_le_mul_of_nonneg_right h1 (by grind)
theorem fl_le_units{j n:Int}:fl j<=(n:Rat)*2^(-1074:Int)↔val j<=n:=by
 unfold fl;rw [mul_le_pos (zpow_pos _),Rat.intCast_le_intCast]
theorem units_le_fl{j n:Int}:(n:Rat)*2^(-1074:Int)<=fl j↔n<=val j:=by
 unfold fl;rw [mul_le_pos (zpow_pos _),Rat.intCast_le_intCast]
theorem fl_add(i j:Int):fl i+fl j=((val i+val j:Int):Rat)*2^(-1074:Int):=by
 unfold fl;rw [Rat.intCast_add,Rat.add_mul]
theorem near_down{n k:Int}(hk:val k=R n)(h1:-(M:Int)<k)(h2:k<M):rndI (-1) ((n:Rat)*2^(-1074:Int))=if n<R n then k - 1 else k:=by
 refine (Rnd.eq (.inl ⟨rfl,by split<;>omega,by split<;>omega,fun j hj hj'=>?_⟩)).symm;rw [fl_le_units]
 by_cases hc:n<R n
 ·rw [if_pos hc]
  constructor
  ·intro h
   by_cases h3:val j<=n
   ·exact h3
   ·have h4:R n<=val j:=R_le (Rep.val j) (by omega);rw [<- hk,val_le_iff] at h4;omega
  ·intro h
   have h4:val j<val k:=by omega
   rw [val_lt_iff] at h4;omega
 ·rw [if_neg hc]
  constructor
  ·intro h;have:=val_le_iff.2 h;omega
  ·intro h;have h4:val j<=R n:=le_R (Rep.val j) h;rw [<- hk,val_le_iff] at h4;omega
theorem near_up{n k:Int}(hk:val k=R n)(h1:-(M:Int)<k)(h2:k<M):rndI 1 ((n:Rat)*2^(-1074:Int))=if R n<n then k+1 else k:=by
 refine (Rnd.eq (.inr ⟨rfl,by split<;>omega,by split<;>omega,fun j hj hj'=>?_⟩)).symm;rw [units_le_fl]
 by_cases hc:R n<n
 ·rw [if_pos hc]
  constructor
  ·intro h
   by_cases h3:n<=val j
   ·exact h3
   ·have h4:val j<=R n:=le_R (Rep.val j) (by omega);rw [<- hk,val_le_iff] at h4;omega
  ·intro h
   have h4:val k<val j:=by omega
   rw [val_lt_iff] at h4;omega
 ·rw [if_neg hc]
  constructor
  ·intro h;have:=val_le_iff.2 h;omega
  ·intro h;have h4:R n<=val j:=R_le (Rep.val j) h;rw [<- hk,val_le_iff] at h4;omega
theorem mag_two_pow(t:Nat):mag ((t+1)*2^52)=2^52*2^t:=by
 have:=mag_form t (2^52) (.inr (Nat.le_refl _)) (by omega);rw [show (t+1)*2^52=t*2^52+2^52 from by rw [Nat.add_mul,Nat.one_mul]];exact this
theorem rep_two_pow(t:Nat):Rep ((2:Int)^t):=rep_of_dvd t (Int.dvd_refl _) (by rw [Int.natAbs_pow];exact Nat.le_mul_of_pos_left _ (by decide))
theorem R_bound{n:Int}{t:Nat}(h:n.natAbs<=2^t):(R n).natAbs<=2^t:=by
 have h0:((2^t:Nat):Int)=(2:Int)^t:=by rw [Int.natCast_pow];rfl
 have h1:R n<=(2:Int)^t:=R_le (rep_two_pow t) (by omega);have h2:-(2:Int)^t<=R n:=le_R (rep_two_pow t).neg (by omega)
 omega
theorem near_R{n:Int}{Q:Nat}(hQ:Q<=2000)(h:n.natAbs<=2^Q):val (near n 0)=R n/\-(M:Int)<near n 0/\near n 0<M:=by
 have hM:M=2047*2^52:=rfl
 obtain⟨r,hr⟩:∃ r,mag r=2^Q*2^0/\r<M:=by
  by_cases hq:Q<52
  ·have h1:2^Q<2^52:=Nat.pow_lt_pow_right (by omega) hq
   exact⟨2^Q,by rw [mag_small h1,Nat.pow_zero,Nat.mul_one],by omega⟩
  ·obtain⟨t,rfl⟩:∃ t,Q=52+t:=⟨Q - 52,by omega⟩
   refine⟨(t+1)*2^52,by rw [mag_two_pow,Nat.pow_zero,Nat.mul_one,Nat.pow_add],?_⟩;have:(t+1)*2^52<=2000*2^52:=Nat.mul_le_mul_right _ (by omega)
   omega
 have h1:nearRung n.natAbs 0<=r:=nearRung_le (by rw [Nat.pow_zero,Nat.mul_one];rw [Nat.pow_zero,Nat.mul_one] at hr;rw [hr.1];exact h)
 have h2:min (nearRung n.natAbs 0) M=nearRung n.natAbs 0:=by omega
 unfold near R;rw [h2];refine⟨?_,by split<;>omega,by split<;>omega⟩
 split
 ·rw [val_neg,val_nat]
 ·rw [val_nat]
structure Fl (b:Nat) (n:Int):Prop where
 lt:b<18446744073709551616
 fin:fin b
 val:val (idx b)=n
theorem Fl.of_is{b:Nat}{n:Int}{Q:Nat}(hQ:Q<=2000)(h:Is b (near n 0))(hn:n.natAbs<=2^Q):Fl b (R n):=by
 obtain⟨h1,h2,h3⟩:=near_R hQ hn;refine⟨h.lt,?_,by rw [h.idx,h1]⟩;have:=idx_natAbs b;rw [h.idx] at this
 show rungOf b<M
 omega
theorem Fl.add{x y:Nat}{m n:Int}{Q:Nat}(hQ:Q<=2000)(hx:Fl x m)(hy:Fl y n)(h:(m+n).natAbs<=2^Q):∃ r,FloatKind.f64.format.add x y=some r/\Fl r (R (m+n)):=by
 obtain⟨r,h1,h2⟩:=add_fin hx.fin hy.fin;rw [hx.val,hy.val] at h2
 exact⟨r,h1,Fl.of_is hQ h2 h⟩
theorem Fl.sub{x y:Nat}{m n:Int}{Q:Nat}(hQ:Q<=2000)(hx:Fl x m)(hy:Fl y n)(h:(m - n).natAbs<=2^Q):∃ r,FloatKind.f64.format.sub x y=some r/\Fl r (R (m - n)):=by
 obtain⟨r,h1,h2⟩:=sub_fin hx.fin hy.fin;rw [hx.val,hy.val] at h2
 exact⟨r,h1,Fl.of_is hQ h2 h⟩
theorem quick_sum{x y:Nat}{m n:Int}{T:Nat}(hT:T<=1990)(hx:Fl x m)(hy:Fl y n)(bx:m.natAbs<=2^T)(by_:n.natAbs<=2^T):
  ∃ s t a b c e:Nat,FloatKind.f64.format.add x y=some s/\FloatKind.f64.format.sub s x=some t/\FloatKind.f64.format.sub s t=some a/\FloatKind.f64.format.sub x a=some b /\
   FloatKind.f64.format.sub y t=some c/\FloatKind.f64.format.add b c=some e/\Fl s (R (m+n))/\Fl e (m+n - R (m+n)):=by
 have p1:2^(T+1)=2*2^T:=by rw [Nat.pow_succ,Nat.mul_comm]
 have p2:2^(T+2)=4*2^T:=by rw [Nat.pow_add,Nat.mul_comm]
 have p3:2^(T+3)=8*2^T:=by rw [Nat.pow_add,Nat.mul_comm]
 have p4:2^(T+4)=16*2^T:=by rw [Nat.pow_add,Nat.mul_comm]
 have p5:2^(T+10)=1024*2^T:=by rw [Nat.pow_add,Nat.mul_comm]
 have hQ:T+10<=2000:=by omega
 have rx:Rep m:=by rw [<- hx.val];exact Rep.val _
 have ry:Rep n:=by rw [<- hy.val];exact Rep.val _
 have h2:=two_sum rx ry rfl;obtain⟨s,e1,f1⟩:=Fl.add hQ hx hy (by omega);have b1:(R (m+n)).natAbs<=2^(T+1):=R_bound (by omega);obtain⟨t,e2,f2⟩:=Fl.sub hQ f1 hx (by omega);have b2:(R (R (m+n) - m)).natAbs<=2^(T+2):=R_bound (by omega);obtain⟨a,e3,f3⟩:=Fl.sub hQ f1 f2 (by omega);have b3:(R (R (m+n) - R (R (m+n) - m))).natAbs<=2^(T+3):=R_bound (by omega);obtain⟨b,e4,f4⟩:=Fl.sub hQ hx f3 (by omega);have b4:(R (m - R (R (m+n) - R (R (m+n) - m)))).natAbs<=2^(T+4):=R_bound (by omega);obtain⟨c,e5,f5⟩:=Fl.sub hQ hy f2 (by omega);have b5:(R (n - R (R (m+n) - m))).natAbs<=2^(T+3):=R_bound (by omega);obtain⟨e,e6,f6⟩:=Fl.add hQ f4 f5 (by omega);rw [h2] at f6
 exact⟨s,t,a,b,c,e,e1,e2,e3,e4,e5,e6,f1,f6⟩
theorem or_one(v:Nat):v ||| 1=2*(v / 2)+1:=by
 have h1:v=2*(v / 2)+v % 2:=by omega
 apply Nat.eq_of_testBit_eq
 intro i;rw [Nat.testBit_or]
 cases i with
 | zero=>simp
 | succ i=>rw [Nat.testBit_succ,Nat.testBit_succ,Nat.testBit_succ,show (2*(v / 2)+1) / 2=v / 2 from by omega];simp
def marked(w:Nat)(lost:Bool):Nat:=if lost then 2*(w / 2)+1 else w
theorem marked_div(w:Nat)(lost:Bool):marked w lost / 4=w / 4:=by unfold marked;split<;>omega
theorem marked_mod(w:Nat)(lost:Bool):marked w lost % 4=0↔w % 4=0/\lost=false:=by unfold marked;split<;>simp_all;omega
def Dg(S p q:Nat)(exp:Int)(more:Bool):Prop:=
 ∃ U:Nat,0<=exp+U/\3000<=U/\S*2^(exp+U).toNat*q<=p*2^U/\p*2^U<(S+1)*2^(exp+U).toNat*q/\(more=false↔p*2^U=S*2^(exp+U).toNat*q)
theorem Dg.exact(S:Nat)(exp:Int):Dg S (S*2^exp.toNat) (2^(-exp).toNat) exp false:=by
 refine⟨3000+exp.natAbs,by omega,by omega,?_⟩
 have e:S*2^exp.toNat*2^(3000+exp.natAbs)=S*2^(exp+(3000+exp.natAbs:Nat)).toNat*2^(-exp).toNat:=by
  rw [Nat.mul_assoc,Nat.mul_assoc,<- Nat.pow_add,<- Nat.pow_add];congr 2;omega
 refine⟨by omega,?_,by simp [e]⟩;rw [e,Nat.add_mul,Nat.add_mul,Nat.one_mul];have:0<2^(exp+(3000+exp.natAbs:Nat)).toNat*2^(-exp).toNat:=Nat.mul_pos (Nat.two_pow_pos _) (Nat.two_pow_pos _)
 omega
theorem Dg.sc{S p q:Nat}{exp:Int}{more:Bool}(h:Dg S p q exp more)(hS:0<S):Sc p q ((blen S:Int) - 1+exp):=by
 obtain⟨U,h0,-,h1,h2,-⟩:=h;obtain⟨L,e,b1,b2⟩:=blen_bounds hS;rw [e];have c1:2^(L+(exp+U).toNat)*q<=p*2^U:=Nat.le_trans (by rw [Nat.pow_add];exact Nat.mul_le_mul_right _ (Nat.mul_le_mul_right _ b1)) h1;have c2:p*2^U<2^(L+1+(exp+U).toNat)*q:=Nat.lt_of_lt_of_le h2 (by rw [Nat.pow_add];exact Nat.mul_le_mul_right _ (Nat.mul_le_mul_right _ (by omega)))
 have eg:((L+1:Nat):Int) - 1+exp=(L:Int)+exp:=by omega
 rw [eg]
 constructor
 ·intro hf
  have a1:L+(exp+U).toNat=((L:Int)+exp).toNat+U:=by omega
  have a2:L+1+(exp+U).toNat=((L:Int)+exp).toNat+1+U:=by omega
  rw [a1,Nat.pow_add] at c1;rw [a2,Nat.pow_add] at c2
  constructor
  ·refine Nat.le_of_mul_le_mul_right (c:=2^U) ?_ (Nat.two_pow_pos U)
   calc q*2^((L:Int)+exp).toNat*2^U=2^((L:Int)+exp).toNat*2^U*q:=by ac_rfl
    _<=_:=c1
  ·refine Nat.lt_of_mul_lt_mul_right (a:=2^U) ?_
   calc p*2^U<_:=c2
    _=q*2^(((L:Int)+exp).toNat+1)*2^U:=by ac_rfl
 ·intro hf
  have a1:U=L+(exp+U).toNat+(-((L:Int)+exp)).toNat:=by omega
  have c3:2^(L+(exp+U).toNat)*q<=2^(L+(exp+U).toNat)*(p*2^(-((L:Int)+exp)).toNat):=by
   calc _<=_:=c1
    _=p*(2^(L+(exp+U).toNat)*2^(-((L:Int)+exp)).toNat):=by rw [<- Nat.pow_add,<- a1]
    _=_:=by ac_rfl
  have c4:2^(L+(exp+U).toNat)*(p*2^(-((L:Int)+exp)).toNat)<2^(L+(exp+U).toNat)*(2*q):=by
   calc _=p*(2^(L+(exp+U).toNat)*2^(-((L:Int)+exp)).toNat):=by ac_rfl
    _=p*2^U:=by rw [<- Nat.pow_add,<- a1]
    _<_:=c2
    _=_:=by rw [show L+1+(exp+U).toNat=L+(exp+U).toNat+1 from by omega,Nat.pow_succ];ac_rfl
  exact⟨Nat.le_of_mul_le_mul_left c3 (Nat.two_pow_pos _),Nat.lt_of_mul_lt_mul_left c4⟩
theorem or_false_split{a b:Bool}(h:(a || b)=false):a=false/\b=false:=by revert h;cases a<;>cases b<;>simp
theorem bracket{P C W W':Nat}(h1:W*C<=P)(h2:P<(W+1)*C)(h3:W'*C<=P)(h4:P<(W'+1)*C):W=W':=by
 have a:W<W'+1:=Nat.lt_of_mul_lt_mul_right (Nat.lt_of_le_of_lt h1 h4);have b:W'<W+1:=Nat.lt_of_mul_lt_mul_right (Nat.lt_of_le_of_lt h3 h2)
 omega
theorem digits_at{S p q w:Nat}{exp e:Int}{more lost:Bool}(h:Dg S p q exp more)(hq:0<q)(he:-1074<=e)
  (hdn:0<=e - 2 - exp->w=S / 2^(e - 2 - exp).toNat/\(lost=true↔S % 2^(e - 2 - exp).toNat≠0))(hup:e - 2 - exp<0->w=S*2^(-(e - 2 - exp)).toNat/\lost=false/\more=false):
  marked w (lost || more) / 4=upN p e / upM q e/\(marked w (lost || more) % 4=0↔upN p e % upM q e=0):=by
 obtain⟨U,h0,hU,h1,h2,h3⟩:=h;obtain⟨u1,u2,u3,u4⟩:=units (n:=p) (m:=q) (U:=U) (e:=e) hq (by omega);rw [marked_div,marked_mod]
 obtain⟨P,hP⟩:∃ P,p*2^U=P:=⟨_,rfl⟩
 obtain⟨W,hW⟩:∃ W,upN p e / upM q e=W:=⟨_,rfl⟩
 rw [hP] at h1 h2 h3 u1 u2 u3 u4;rw [hW] at u1 u2 u3 u4 ⊢
 obtain⟨C,hC⟩:∃ C,2^(e+U).toNat*q=C:=⟨_,rfl⟩
 rw [Nat.mul_assoc,hC] at u1 u2 u3 u4
 have hC0:0<C:=by rw [<- hC];exact Nat.mul_pos (Nat.two_pow_pos _) hq
 -- the bracket of w / 4,and when P is it
 have key:w / 4*C<=P/\P<(w / 4+1)*C/\(P=w / 4*C↔w % 4=0/\(lost || more)=false):=by
  rcases Int.lt_or_le (e - 2 - exp) 0 with hc | hc
  ·obtain⟨ew,rfl,rfl⟩:=hup hc;have eq:=h3.1 rfl
   obtain⟨k,hk⟩:∃ k,(-(e - 2 - exp)).toNat=k:=⟨_,rfl⟩
   obtain⟨B,hB⟩:∃ B,2^(e - 2+U).toNat*q=B:=⟨_,rfl⟩
   have hB0:0<B:=by rw [<- hB];exact Nat.mul_pos (Nat.two_pow_pos _) hq
   have e4:C=4*B:=by
    rw [<- hC,<- hB,show (e+U).toNat=(e - 2+U).toNat+2 from by omega,Nat.pow_add];have:2^2=4:=rfl;rw [this];ac_rfl
   have eP:P=w*B:=by
    rw [eq,ew,hk,<- hB,show (exp+U).toNat=k+(e - 2+U).toNat from by omega,Nat.pow_add];ac_rfl
   have ew4:w=4*(w / 4)+w % 4:=by omega
   have lt4:w % 4<4:=Nat.mod_lt _ (by omega);generalize w / 4=a at *;generalize w % 4=b at *
   have eP2:P=a*C+b*B:=by rw [eP,ew4,e4,Nat.add_mul];congr 1;ac_rfl
   refine⟨by omega,?_,?_⟩
   ·rw [Nat.add_mul,Nat.one_mul,eP2];have:b*B<4*B:=Nat.mul_lt_mul_of_pos_right lt4 hB0
    omega
   ·constructor
    ·intro h
     have:b*B=0:=by omega
     rcases Nat.mul_eq_zero.1 this with h | h
     ·exact⟨h,rfl⟩
     ·omega
    ·rintro⟨h,-⟩;rw [h] at eP2;omega
  ·obtain⟨ew,hl⟩:=hdn hc
   obtain⟨k,hk⟩:∃ k,(e - 2 - exp).toNat=k:=⟨_,rfl⟩
   rw [hk] at ew hl
   obtain⟨A,hA⟩:∃ A,2^(exp+U).toNat*q=A:=⟨_,rfl⟩
   have hA0:0<A:=by rw [<- hA];exact Nat.mul_pos (Nat.two_pow_pos _) hq
   rw [Nat.mul_assoc,hA] at h1 h2 h3
   have e4:C=4*2^k*A:=by
    rw [<- hC,<- hA,show (e+U).toNat=(exp+U).toNat+k+2 from by omega,Nat.pow_add,Nat.pow_add];have:2^2=4:=rfl;rw [this];ac_rfl
   have eS:S=2^k*w+S % 2^k:=by rw [ew];exact (Nat.div_add_mod S (2^k)).symm
   have lS:S % 2^k<2^k:=Nat.mod_lt _ (Nat.two_pow_pos k)
   have ew4:w=4*(w / 4)+w % 4:=by omega
   have lt4:w % 4<4:=Nat.mod_lt _ (by omega);generalize S % 2^k=l at *;generalize w / 4=a at *;generalize w % 4=b at *;generalize 2^k=K at *
   have eS2:S=a*(4*K)+(K*b+l):=by
    rw [eS,ew4,Nat.mul_add]
    have:K*(4*a)=a*(4*K):=by ac_rfl
    omega
   have hr:K*b+l<4*K:=by
    have:K*b<=K*3:=Nat.mul_le_mul_left _ (by omega)
    omega
   generalize hR:K*b+l=r at *
   have c1:S*A=a*C+r*A:=by rw [eS2,e4,Nat.add_mul];congr 1;ac_rfl
   have c2:(S+1)*A=a*C+(r+1)*A:=by rw [Nat.add_mul,c1,Nat.add_mul];omega
   have c3:(r+1)*A<=C:=by rw [e4];exact Nat.mul_le_mul_right _ (by omega)
   refine⟨by omega,?_,?_⟩
   ·rw [Nat.add_mul,Nat.one_mul];omega
   ·constructor
    ·intro h
     have h5:r*A=0:=by omega
     have h6:r=0:=by rcases Nat.mul_eq_zero.1 h5 with h | h<;>omega
     have h7:l=0:=by omega
     have h8:K*b=0:=by omega
     have h9:b=0:=by rcases Nat.mul_eq_zero.1 h8 with h | h<;>omega
     have h10:lost=false:=by
      cases lost with
      | false=>rfl
      | true=>exact absurd h7 (hl.1 rfl)
     have h11:more=false:=h3.2 (by omega)
     exact⟨h9,by rw [h10,h11];rfl⟩
    ·rintro⟨h5,h6⟩;obtain⟨h7,h8⟩:=or_false_split h6
     have h9:l=0:=by
      by_cases hl0:l=0
      ·exact hl0
      ·have:=hl.2 hl0;rw [h7] at this;cases this
     have h10:r=0:=by rw [<- hR,h5,h9];simp
     have:=h3.1 h8;rw [this,c1,h10];omega
 obtain⟨k1,k2,k3⟩:=key;have hWW:w / 4=W:=bracket k1 k2 u1 u2;refine⟨hWW,?_⟩;rw [<- k3,hWW]
 constructor
 ·intro h
  by_cases h0:upN p e % upM q e=0
  ·exact h0
  ·have:=u4 h0;omega
 ·intro h;exact u3 h
end
end Go.Proofs.YthlmlmfebpjgdaaGreatDoor
