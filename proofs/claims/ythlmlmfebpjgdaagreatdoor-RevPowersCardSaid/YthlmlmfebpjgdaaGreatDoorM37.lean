/-
Lemmas for the statement: Dek AddQ MlP RmP SumT Sum2T.
-/
import Derived.Test.YthlmlmfebpjgdaaGreatDoorM09
import Derived.Test.YthlmlmfebpjgdaaGreatDoorPGoA
import Derived.Test.YthlmlmfebpjgdaaGreatDoorM19
import Derived.Test.YthlmlmfebpjgdaaGreatDoorPMathT
import Derived.Test.YthlmlmfebpjgdaaGreatDoorM03
import Derived.Test.YthlmlmfebpjgdaaGreatDoorPPartT
set_option linter.unusedSimpArgs false
set_option linter.unusedVariables false
set_option maxHeartbeats 12800000
namespace Go.Proofs.YthlmlmfebpjgdaaGreatDoor
section
open Go.RowKit
theorem rep_dvd{n:Int}{k:Nat}(h:Rep n)(hn:2^(52+k)≤n.natAbs):(2:Int)^k ∣ n:=by
 obtain⟨q,j,hq,e⟩:=rep_iff.1 h
 have hj:k≤j:=by
  apply Nat.le_of_not_lt
  intro hlt;have h1:q*2^j<2^53*2^j:=Nat.mul_lt_mul_of_pos_right hq (Nat.two_pow_pos j)
  have h2:2^53*2^j≤2^(52+k):=by rw [← Nat.pow_add];exact Nat.pow_le_pow_right (by omega) (by omega)
  rw [e] at hn
  exact absurd (Nat.lt_of_lt_of_le h1 (Nat.le_trans h2 hn)) (Nat.lt_irrefl _)
 exact Int.dvd_trans (pow_dvd_le hj) (dvd_of_natAbs e)
theorem R_err{n:Int}(k:Nat)(h:n.natAbs≤2^53*2^k):2*(n - R n).natAbs≤2^k:=by
 have hK:0<2^k:=Nat.two_pow_pos k
 have hKi:((2^k:Nat):Int)=(2:Int)^k:=by rw [Int.natCast_pow];rfl
 have hd:n=(2:Int)^k*(n / (2:Int)^k)+n % (2:Int)^k:=(Int.mul_ediv_add_emod n _).symm;have hb0:0≤n % (2:Int)^k:=Int.emod_nonneg _ (by omega);have hb1:n % (2:Int)^k<(2:Int)^k:=Int.emod_lt_of_pos _ (by omega);generalize n / (2:Int)^k=a at hd;generalize n % (2:Int)^k=b at hd hb0 hb1
 have rp:∀ c:Int,c.natAbs≤2^53→Rep ((2:Int)^k*c):=fun c hc=>rep_of_dvd k (Int.dvd_mul_right _ _) (by
  rw [Int.natAbs_mul,Int.natAbs_pow,Nat.mul_comm]
  exact Nat.mul_le_mul_right _ hc)
 have c1:a≤2^53:=by
  apply Int.le_of_not_gt;intro hlt
  have h1:(2:Int)^k*(2^53+1)≤(2:Int)^k*a:=Int.mul_le_mul_of_nonneg_left (by omega) (by omega)
  have h2:(n.natAbs:Int)≤2^53*2^k:=by exact_mod_cast h
  have h3:(2:Int)^k*(2^53+1)=2^53*2^k+2^k:=by rw [Int.mul_add,Int.mul_one,Int.mul_comm]
  omega
 have c2:-2^53≤a:=by
  apply Int.le_of_not_gt;intro hlt
  have h1:(2:Int)^k*a≤(2:Int)^k*(-2^53 - 1):=Int.mul_le_mul_of_nonneg_left (by omega) (by omega)
  have h2:(n.natAbs:Int)≤2^53*2^k:=by exact_mod_cast h
  have h3:(2:Int)^k*(-2^53 - 1)=-(2^53*2^k) - 2^k:=by rw [Int.mul_sub,Int.mul_one,Int.mul_comm,Int.neg_mul]
  omega
 have n1:=R_nearest (n:=n) (rp a (by omega))
 by_cases hb:b=0
 ·have e:n - (2:Int)^k*a=0:=by omega
  rw [e] at n1
  simp at n1
  omega
 ·have c3:a+1≤2^53:=by
   apply Int.le_of_not_gt;intro hlt
   have ea:a=2^53:=by omega
   have h2:(n.natAbs:Int)≤2^53*2^k:=by exact_mod_cast h
   have h3:(2:Int)^k*a=2^53*2^k:=by rw [ea,Int.mul_comm]
   omega
  have n2:=R_nearest (n:=n) (rp (a+1) (by omega));rw [Int.mul_add,Int.mul_one] at n2
  omega
theorem R_ge{n:Int}{t:Nat}(h:2^t≤n.natAbs):2^t≤(R n).natAbs:=by
 have h0:((2^t:Nat):Int)=(2:Int)^t:=by rw [Int.natCast_pow];rfl
 rcases Int.lt_or_le n 0 with hn | hn
 ·have h1:R n≤-(2:Int)^t:=R_le (rep_two_pow t).neg (by omega)
  omega
 ·have h1:(2:Int)^t≤R n:=le_R (rep_two_pow t) (by omega)
  omega
theorem cut_pos{m:Int}(h1:2^52≤m)(h2:m<2^53):
  ∃ q l:Int,R (R (134217729*m) - R (R (134217729*m) - m))=2^27*q∧m=2^27*q+l∧q.natAbs≤2^26∧l.natAbs≤2^26:=by
 have d1:(2:Int)^27 ∣ R (134217729*m):=rep_dvd (R_rep _) (R_ge (t:=52+27) (by omega));have e1:=R_err (n:=134217729*m) 28 (by omega);have e2:134217729*m≤2^80→2*(134217729*m - R (134217729*m)).natAbs≤2^27:=fun h=>R_err 27 (by omega);have e3:m=2^52→R (134217729*m)=134217729*m:=fun h=>R_of_rep (rep_of_dvd 27 ⟨2^52+2^25,by omega⟩ (by omega));generalize R (134217729*m)=t at *
 have b1:2^79≤t - m:=by
  by_cases hm:m=2^52
  ·have:=e3 hm;omega
  ·by_cases hc:134217729*m≤2^80
   ·have:=e2 hc;omega
   ·omega
 have b2:t - m≤2^80:=by omega
 have d2:(2:Int)^27 ∣ R (t - m):=rep_dvd (R_rep _) (R_ge (t:=52+27) (by omega));have e4:=R_err (n:=t - m) 27 (by omega);generalize R (t - m)=u at *;obtain⟨q,hq⟩:=Int.dvd_sub d1 d2;have hR:R (t - u)=t - u:=R_of_rep (rep_of_dvd 27 (Int.dvd_sub d1 d2) (by omega));refine⟨q,m - 2^27*q,by rw [hR,hq],by omega,by omega,by omega⟩
theorem dcut_any{m:Int}(h1:2^52≤m.natAbs)(h2:m.natAbs<2^53):
  ∃ q l:Int,R (R (134217729*m) - R (R (134217729*m) - m))=2^27*q∧m=2^27*q+l∧q.natAbs≤2^26∧l.natAbs≤2^26:=by
 rcases Int.lt_or_le m 0 with hm | hm
 ·obtain⟨q,l,a,b,c,d⟩:=cut_pos (m:=-m) (by omega) (by omega);refine⟨-q,-l,?_,by omega,by omega,by omega⟩
  rw [show (134217729:Int)*-m=-(134217729*m) from by omega,R_neg,show -R (134217729*m) - -m=-(R (134217729*m) - m) from by omega,R_neg,
   show -R (134217729*m) - -R (R (134217729*m) - m)=-(R (134217729*m) - R (R (134217729*m) - m)) from by omega,R_neg] at a
  omega
 ·exact cut_pos (by omega) (by omega)
theorem missed_at{m n q l q' l':Int}(m1:2^52≤m.natAbs)(m2:m.natAbs<2^53)(n1:2^52≤n.natAbs)(n2:n.natAbs<2^53)(em:m=2^27*q+l)(en:n=2^27*q'+l')(hq:q.natAbs≤2^26)(hl:l.natAbs≤2^26)(hq':q'.natAbs≤2^26)(hl':l'.natAbs≤2^26):
  Rep ((2^27*q)*(2^27*q'))∧Rep ((2^27*q)*l')∧Rep (l*(2^27*q'))∧Rep (l*l') ∧
  Rep ((2^27*q)*(2^27*q') - R (m*n))∧Rep ((2^27*q)*(2^27*q') - R (m*n)+(2^27*q)*l')∧Rep ((2^27*q)*(2^27*q') - R (m*n)+(2^27*q)*l'+l*(2^27*q')) ∧
  (2^27*q)*(2^27*q') - R (m*n)+(2^27*q)*l'+l*(2^27*q')+l*l'=m*n - R (m*n)∧Rep (m*n - R (m*n))∧(2*(m*n - R (m*n)).natAbs≤2^53):=by
 have p1:(m*n).natAbs<2^106:=by
  rw [Int.natAbs_mul]
  calc m.natAbs*n.natAbs<2^53*2^53:=Nat.mul_lt_mul_of_lt_of_lt m2 n2
   _=2^106:=rfl
 have p2:2^104≤(m*n).natAbs:=by
  rw [Int.natAbs_mul]
  calc 2^104=2^52*2^52:=rfl
   _≤m.natAbs*n.natAbs:=Nat.mul_le_mul m1 n1
 have bd:∀ a b:Int,a.natAbs≤2^26→b.natAbs≤2^26→(a*b).natAbs≤2^52:=fun a b ha hb=>by
  rw [Int.natAbs_mul];exact Nat.le_trans (Nat.mul_le_mul ha hb) (by decide)
 have z1:=bd _ _ hq hq';have z2:=bd _ _ hq hl';have z3:=bd _ _ hl hq';have z4:=bd _ _ hl hl';have err:=R_err (n:=m*n) 53 (by omega);have dv:(2:Int)^52 ∣ R (m*n):=rep_dvd (R_rep _) (R_ge (t:=52+52) p2)
 have f1:(2^27*q)*(2^27*q')=2^54*(q*q'):=by grind
 have f2:(2^27*q)*l'=2^27*(q*l'):=by grind
 have f3:l*(2^27*q')=2^27*(l*q'):=by grind
 have f4:m*n=2^54*(q*q')+2^27*(q*l')+2^27*(l*q')+l*l':=by rw [em,en];grind
 rw [f1,f2,f3];generalize q*q'=Z1 at *;generalize q*l'=Z2 at *;generalize l*q'=Z3 at *;generalize l*l'=Z4 at *;generalize R (m*n)=P at *;generalize m*n=N at *;obtain⟨P',rfl⟩:=dv;clear f1 f2 f3 bd em en;refine⟨rep_of_dvd 54 (Int.dvd_mul_right _ _) (by omega),rep_of_dvd 27 (Int.dvd_mul_right _ _) (by omega),rep_of_dvd 27 (Int.dvd_mul_right _ _) (by omega),rep_of_dvd 0 (Int.one_dvd _) (by omega),rep_of_dvd 52 ⟨4*Z1 - P',by omega⟩ (by omega),rep_of_dvd 27 ⟨2^27*Z1 - 2^25*P'+Z2,by omega⟩ (by omega),rep_of_dvd 0 (Int.one_dvd _) (by omega),by omega,rep_of_dvd 0 (Int.one_dvd _) (by omega),err⟩
theorem nearRung_scale(n d:Nat):nearRung (n*2^d) d=nearRung n 0:=by
 unfold nearRung;rw [Nat.mul_div_cancel _ (Nat.two_pow_pos d),Nat.pow_zero,Nat.div_one,bump_shift,Nat.zero_add]
theorem near_scale(n:Int)(d:Nat):near (n*2^d) d=near n 0:=by
 have hp:(0:Int)<2^d:=by exact_mod_cast Nat.two_pow_pos d
 have e:(n*2^d).natAbs=n.natAbs*2^d:=by rw [Int.natAbs_mul,Int.natAbs_pow];rfl
 unfold near;rw [e,nearRung_scale]
 by_cases h:n<0
 ·rw [if_pos h,if_pos (Int.mul_neg_of_neg_of_pos h hp)]
 ·rw [if_neg h,if_neg (by have:=Int.mul_nonneg (show 0≤n by omega) (Int.le_of_lt hp);omega)]
theorem mag_nearRung_fine{n d:Nat}(h:2^(53+d)≤n):mag (nearRung n d)*2^d=mag (nearRung n 0):=by
 have h0:n≠0:=by have:=Nat.two_pow_pos (53+d);omega
 have hl:53+d≤n.log2:=(Nat.le_log2 h0).2 h
 have eo:over n=over (n / 2^d)+d:=by unfold over;rw [log2_div_pow];omega
 have hk:=over_spec (n / 2^d);rw [mag_nearRung];unfold nearRung floorRung
 obtain⟨o,ho⟩:∃ o,over (n / 2^d)=o:=⟨_,rfl⟩
 rw [ho] at eo hk;rw [ho,eo,div_div_pow] at *;have hb:(bump n (d+o)).toNat≤1:=Bool.toNat_le _;rw [Nat.add_assoc,mag_form o _ (by omega) (by omega),Nat.mul_assoc,← Nat.pow_add,Nat.add_comm d o]
theorem near_fine{n:Int}{d:Nat}(h:2^(53+d)≤n.natAbs)(hM:-(M:Int)<near n d∧near n d<M):val (near n d)*2^d=R n:=by
 have h1:=near_natAbs n d
 have h2:min (nearRung n.natAbs d) M=nearRung n.natAbs d:=by omega
 have h3:=mag_nearRung_fine h;unfold near R;rw [h2]
 split
 ·rw [val_neg,val_nat,Int.neg_mul]
  congr 1
  exact_mod_cast h3
 ·rw [val_nat]
  exact_mod_cast h3
end
section
open Go.RowKit Ieee
theorem inf_word{x:Nat}(hx:x<18446744073709551616)(h:rungOf x=M):double.write (.infinity (sgn x))=x:=by
 show double.word (sgn x) double.infRung=x
 rw [infRung_eq];have h1:=Is.word (sgn x) (r:=M) (Nat.le_refl _);have h2:=pat_cases (b:=double.word (sgn x) M) (by have:=h1.lt;omega);have h3:=pat_cases hx;have h4:=h1.idx
 obtain⟨b,hb⟩:∃ b,double.word (sgn x) M=b:=⟨_,rfl⟩
 rw [hb] at h2 h4 ⊢;rw [M_val] at h h4
 rcases h3 with ⟨a,b1,c,d⟩ | ⟨a,b1,c,d⟩
 ·rw [c] at h4
  simp only [Bool.false_eq_true,if_false] at h4
  omega
 ·rw [c] at h4
  simp only [if_true] at h4
  omega
def ad(d i j:Int):Int:=if i=M∨i=-(M:Int) then i else if j=M∨j=-(M:Int) then j else rndI d (fl i+fl j)
theorem not_great{x t T:Nat}(h:rungOf x≤(t+1)*2^52)(hT:T=52+t):(val (idx x)).natAbs≤2^T:=by
 rw [val_natAbs,idx_natAbs];have h1:mag (rungOf x)≤mag ((t+1)*2^52):=mag_le_iff.2 h;rw [mag_two_pow,← Nat.pow_add] at h1;rw [hT];exact h1
theorem Fl_self{x:Nat}(hx:x<18446744073709551616)(h:rungOf x<M):Fl x (val (idx x)):=⟨hx,h,rfl⟩
end
section
open Go.RowKit
theorem near_R2{n:Int}{Q:Nat}(hQ:Q≤2090)(h:n.natAbs≤2^Q):val (near n 0)=R n∧-(M:Int)<near n 0∧near n 0<M:=by
 have hM:M=2047*2^52:=rfl
 obtain⟨r,hr⟩:∃ r,mag r=2^Q*2^0∧r<M:=by
  by_cases hq:Q<52
  ·have h1:2^Q<2^52:=Nat.pow_lt_pow_right (by omega) hq
   exact⟨2^Q,by rw [mag_small h1,Nat.pow_zero,Nat.mul_one],by omega⟩
  ·obtain⟨t,rfl⟩:∃ t,Q=52+t:=⟨Q - 52,by omega⟩
   refine⟨(t+1)*2^52,by rw [mag_two_pow,Nat.pow_zero,Nat.mul_one,Nat.pow_add],?_⟩;have:(t+1)*2^52≤2040*2^52:=Nat.mul_le_mul_right _ (by omega)
   omega
 have h1:nearRung n.natAbs 0≤r:=nearRung_le (by rw [Nat.pow_zero,Nat.mul_one];rw [Nat.pow_zero,Nat.mul_one] at hr;rw [hr.1];exact h)
 have h2:min (nearRung n.natAbs 0) M=nearRung n.natAbs 0:=by omega
 unfold near R;rw [h2];refine⟨?_,by split<;>omega,by split<;>omega⟩
 split
 ·rw [val_neg,val_nat]
 ·rw [val_nat]
theorem Fl.of_is2{b:Nat}{n:Int}{Q:Nat}(hQ:Q≤2090)(h:Is b (near n 0))(hn:n.natAbs≤2^Q):Fl b (R n):=by
 obtain⟨h1,h2,h3⟩:=near_R2 hQ hn;refine⟨h.lt,?_,by rw [h.idx,h1]⟩;have:=idx_natAbs b;rw [h.idx] at this
 show rungOf b<M
 omega
theorem Fl.add2{x y:Nat}{m n:Int}{Q:Nat}(hQ:Q≤2090)(hx:Fl x m)(hy:Fl y n)(h:(m+n).natAbs≤2^Q):∃ r,FloatKind.f64.format.add x y=some r∧Fl r (R (m+n)):=by
 obtain⟨r,h1,h2⟩:=add_fin hx.fin hy.fin;rw [hx.val,hy.val] at h2
 exact⟨r,h1,Fl.of_is2 hQ h2 h⟩
theorem Fl.sub2{x y:Nat}{m n:Int}{Q:Nat}(hQ:Q≤2090)(hx:Fl x m)(hy:Fl y n)(h:(m - n).natAbs≤2^Q):∃ r,FloatKind.f64.format.sub x y=some r∧Fl r (R (m - n)):=by
 obtain⟨r,h1,h2⟩:=sub_fin hx.fin hy.fin;rw [hx.val,hy.val] at h2
 exact⟨r,h1,Fl.of_is2 hQ h2 h⟩
theorem Fl.mul_at{x y:Nat}{m n Z:Int}{Q U:Nat}(hQ:Q≤2090)(hU:U=1074)(hx:Fl x m)(hy:Fl y n)(hz:m*n=Z*2^U)(h:Z.natAbs≤2^Q):∃ r,FloatKind.f64.format.mul x y=some r∧Fl r (R Z):=by
 obtain⟨r,h1,h2⟩:=mul_fin hx.fin hy.fin;subst hU;rw [hx.val,hy.val,hz,near_scale] at h2
 exact⟨r,h1,Fl.of_is2 hQ h2 h⟩
theorem Rep.shift{n:Int}(h:Rep n)(k:Nat):Rep (n*2^k):=by
 have e:=R_shift n k;rw [R_of_rep h] at e;rw [← e];exact R_rep _
theorem cut_const{U:Nat}(hU:U=1074):Fl 4728779608772575232 (134217729*2^U):=by
 have h0:rungOf 4728779608772575232=1049*2^52+(2^52+2^25):=by decide
 refine⟨by decide,by unfold fin;rw [h0];decide,?_⟩
 have h1:idx 4728779608772575232=((1049*2^52+(2^52+2^25):Nat):Int):=by decide
 rw [h1,val_nat,mag_form 1049 (2^52+2^25) (by omega) (by omega)]
 obtain⟨u,hu⟩:∃ u:Nat,u=1049:=⟨_,rfl⟩
 rw [← hu,show U=25+u from by omega,Int.natCast_mul,Int.natCast_pow,show ((2^52+2^25:Nat):Int)=134217729*2^25 from by decide,show ((2:Nat):Int)=2 from rfl,Int.pow_add,Int.mul_assoc]
theorem quick_half{x:Nat}{m:Int}{a T U:Nat}(hT:T≤2000)(hU:U=1074)(hx:Fl x (m*2^a))(h1:2^52≤m.natAbs)(h2:m.natAbs<2^53)(hb:(m*2^a).natAbs≤2^T):
  ∃ t u h l:Nat,∃ q v:Int,FloatKind.f64.format.mul 4728779608772575232 x=some t∧FloatKind.f64.format.sub t x=some u∧FloatKind.f64.format.sub t u=some h∧FloatKind.f64.format.sub x h=some l ∧
   Fl h (2^27*q*2^a)∧Fl l (v*2^a)∧m=2^27*q+v∧q.natAbs≤2^26∧v.natAbs≤2^26:=by
 obtain⟨q,v,e1,e2,hq,hv⟩:=dcut_any h1 h2
 have p1:2^(T+28)=268435456*2^T:=by rw [Nat.pow_add,Nat.mul_comm]
 have p2:2^(T+32)=4294967296*2^T:=by rw [Nat.pow_add,Nat.mul_comm]
 have hQ:T+32≤2090:=by omega
 have s1:(134217729:Int)*(m*2^a)=134217729*m*2^a:=by rw [Int.mul_assoc]
 have b0:(134217729*(m*2^a):Int).natAbs≤2^(T+28):=by
  rw [Int.natAbs_mul,p1,show (134217729:Int).natAbs=134217729 from rfl];omega
 obtain⟨t,g1,f1⟩:=Fl.mul_at (Q:=T+32) hQ hU (cut_const hU) hx (Z:=134217729*(m*2^a)) (by rw [Int.mul_assoc,Int.mul_comm (2^U),← Int.mul_assoc]) (by omega);have b1:=R_bound b0;obtain⟨u,g2,f2⟩:=Fl.sub2 (Q:=T+32) hQ f1 hx (by omega);have b2:(R (R (134217729*(m*2^a)) - m*2^a)).natAbs≤2^(T+29):=R_bound (by rw [show 2^(T+29)=536870912*2^T from by rw [Nat.pow_add,Nat.mul_comm]];omega)
 have p3:2^(T+29)=536870912*2^T:=by rw [Nat.pow_add,Nat.mul_comm]
 obtain⟨h,g3,f3⟩:=Fl.sub2 (Q:=T+32) hQ f1 f2 (by omega)
 have eh:R (R (134217729*(m*2^a)) - R (R (134217729*(m*2^a)) - m*2^a))=2^27*q*2^a:=by
  rw [s1,R_shift,← Int.sub_mul,R_shift,← Int.sub_mul,R_shift,e1]
 have b3:=R_bound (n:=R (134217729*(m*2^a)) - R (R (134217729*(m*2^a)) - m*2^a)) (t:=T+30) (by rw [show 2^(T+30)=1073741824*2^T from by rw [Nat.pow_add,Nat.mul_comm]];omega)
 have p4:2^(T+30)=1073741824*2^T:=by rw [Nat.pow_add,Nat.mul_comm]
 rw [eh] at f3 b3;obtain⟨l,g4,f4⟩:=Fl.sub2 (Q:=T+32) hQ hx f3 (by omega)
 have el:m*2^a - 2^27*q*2^a=v*2^a:=by rw [← Int.sub_mul,show m - 2^27*q=v from by omega]
 have rv:Rep v:=rep_of_dvd 0 ⟨v,by rw [Int.pow_zero,Int.one_mul]⟩ (by rw [Nat.pow_zero,Nat.mul_one];exact Nat.le_trans hv (by decide));rw [el,R_of_rep (rv.shift a)] at f4
 exact⟨t,u,h,l,q,v,g1,g2,g3,g4,f3,f4,e2,hq,hv⟩
theorem quick_mul{x y p:Nat}{m n:Int}{a b U T:Nat}(hU:U=1074)(hT:T=1974)(hx:Fl x (m*2^a))(m1:2^52≤m.natAbs)(m2:m.natAbs<2^53)(bx:(m*2^a).natAbs≤2^T)(hy:Fl y (n*2^b))(n1:2^52≤n.natAbs)(n2:n.natAbs<2^53)(by_:(n*2^b).natAbs≤2^T)
  (hp:FloatKind.f64.format.mul x y=some p)(hf:fin p)(bp:(val (idx p)).natAbs≤2^T)(hab:U≤a+b):
  ∃ xt xu xh xl yt yu yh yl z1 e0 z2 e1 z3 e2 z4 e:Nat,FloatKind.f64.format.mul 4728779608772575232 x=some xt∧FloatKind.f64.format.sub xt x=some xu∧FloatKind.f64.format.sub xt xu=some xh∧FloatKind.f64.format.sub x xh=some xl ∧
   FloatKind.f64.format.mul 4728779608772575232 y=some yt∧FloatKind.f64.format.sub yt y=some yu∧FloatKind.f64.format.sub yt yu=some yh∧FloatKind.f64.format.sub y yh=some yl ∧
   FloatKind.f64.format.mul xh yh=some z1∧FloatKind.f64.format.sub z1 p=some e0∧FloatKind.f64.format.mul xh yl=some z2∧FloatKind.f64.format.add e0 z2=some e1 ∧
   FloatKind.f64.format.mul xl yh=some z3∧FloatKind.f64.format.add e1 z3=some e2∧FloatKind.f64.format.mul xl yl=some z4∧FloatKind.f64.format.add e2 z4=some e ∧
   ∃ N:Int,(m*2^a)*(n*2^b)=N*2^U∧Fl p (R N)∧Fl e (N - R N):=by
 obtain⟨s,hs⟩:∃ s,a+b=s+U:=⟨a+b - U,by omega⟩
 have scale:∀ A B:Int,(A*2^a)*(B*2^b)=A*B*2^s*2^U:=fun A B=>by
  rw [Int.mul_assoc (A*B),← Int.pow_add,← hs,Int.pow_add];ac_rfl
 obtain⟨xt,xu,xh,xl,q,l,x1,x2,x3,x4,fxh,fxl,em,hq,hl⟩:=quick_half (T:=T) (by omega) hU hx m1 m2 bx;obtain⟨yt,yu,yh,yl,q',l',y1,y2,y3,y4,fyh,fyl,en,hq',hl'⟩:=quick_half (T:=T) (by omega) hU hy n1 n2 by_;obtain⟨r1,r2,r3,r4,r5,r6,r7,r8,r9,-⟩:=missed_at m1 m2 n1 n2 em en hq hl hq' hl'
 have big:2^104≤(m*n).natAbs:=by
  rw [Int.natAbs_mul]
  exact Nat.le_trans (by decide:2^104≤2^52*2^52) (Nat.mul_le_mul m1 n1)
 -- p
 have ep:val (idx p)=R (m*n)*2^s:=by
  obtain⟨p',hp',hi⟩:=mul_fin hx.fin hy.fin
  obtain rfl:p'=p:=Option.some.inj (hp'.symm.trans hp)
  rw [hx.val,hy.val,← hU,scale,near_scale] at hi;have h1:=idx_natAbs p';have hff:rungOf p'<M:=hf
  have h2:=near_fine (n:=m*n*2^s) (d:=0) (by
   rw [Int.natAbs_mul,Int.natAbs_pow]
   calc 2^(53+0)≤2^104*1:=by decide
    _≤_:=Nat.mul_le_mul big (Nat.two_pow_pos s)) (by rw [← hi.idx];omega)
  rw [Int.pow_zero,Int.mul_one,R_shift] at h2;rw [hi.idx,h2]
 have fp:Fl p (R (m*n)*2^s):=⟨by
  obtain⟨p',hp',hi⟩:=mul_fin hx.fin hy.fin
  obtain rfl:p'=p:=Option.some.inj (hp'.symm.trans hp)
  exact hi.lt,hf,ep⟩
 rw [ep] at bp
 -- sizes: all parts are below 2^(T+6)
 have sz:∀ A:Int,A.natAbs≤2^110→(A*2^s).natAbs≤2^(T+6):=fun A hA=>by
  have h1:2^104≤(R (m*n)).natAbs:=R_ge big;rw [Int.natAbs_mul,Int.natAbs_pow] at bp ⊢;have h2:2^104*2^s≤2^T:=Nat.le_trans (Nat.mul_le_mul_right _ h1) bp
  have h3:s+104≤T:=by
   apply Nat.le_of_not_lt;intro hlt
   rw [← Nat.pow_add] at h2;have:=(Nat.pow_le_pow_iff_right (by omega:1<2)).1 h2
   omega
  calc A.natAbs*2^s≤2^110*2^(T - 104):=Nat.mul_le_mul hA (Nat.pow_le_pow_right (by omega) (by omega))
   _≤2^(T+6):=by rw [← Nat.pow_add];exact Nat.pow_le_pow_right (by omega) (by omega)
 have bd:∀ A B:Int,A.natAbs≤2^53→B.natAbs≤2^53→(A*B).natAbs≤2^106:=fun A B hA hB=>by
  rw [Int.natAbs_mul];exact Nat.le_trans (Nat.mul_le_mul hA hB) (by decide)
 have k1:=bd (2^27*q) (2^27*q') (by omega) (by omega);have k2:=bd (2^27*q) l' (by omega) (by omega);have k3:=bd l (2^27*q') (by omega) (by omega);have k4:=bd l l' (by omega) (by omega);have k5:(R (m*n)).natAbs≤2^106:=R_bound (bd m n (by omega) (by omega));obtain⟨z1,c1,f1⟩:=Fl.mul_at (Q:=T+6) (by omega) hU fxh fyh (scale _ _) (sz _ (by omega));rw [R_of_rep (r1.shift s)] at f1;obtain⟨e0,c2,f2⟩:=Fl.sub2 (Q:=T+6) (by omega) f1 fp (by rw [← Int.sub_mul];exact sz _ (by omega));rw [← Int.sub_mul,R_of_rep (r5.shift s)] at f2;obtain⟨z2,c3,f3⟩:=Fl.mul_at (Q:=T+6) (by omega) hU fxh fyl (scale _ _) (sz _ (by omega));rw [R_of_rep (r2.shift s)] at f3;obtain⟨e1,c4,f4⟩:=Fl.add2 (Q:=T+6) (by omega) f2 f3 (by rw [← Int.add_mul];exact sz _ (by omega));rw [← Int.add_mul,R_of_rep (r6.shift s)] at f4;obtain⟨z3,c5,f5⟩:=Fl.mul_at (Q:=T+6) (by omega) hU fxl fyh (scale _ _) (sz _ (by omega));rw [R_of_rep (r3.shift s)] at f5;obtain⟨e2,c6,f6⟩:=Fl.add2 (Q:=T+6) (by omega) f4 f5 (by rw [← Int.add_mul];exact sz _ (by omega));rw [← Int.add_mul,R_of_rep (r7.shift s)] at f6;obtain⟨z4,c7,f7⟩:=Fl.mul_at (Q:=T+6) (by omega) hU fxl fyl (scale _ _) (sz _ (by omega));rw [R_of_rep (r4.shift s)] at f7;obtain⟨e,c8,f8⟩:=Fl.add2 (Q:=T+6) (by omega) f6 f7 (by rw [← Int.add_mul];exact sz _ (by omega));rw [← Int.add_mul,r8,R_of_rep (r9.shift s)] at f8;refine⟨xt,xu,xh,xl,yt,yu,yh,yl,z1,e0,z2,e1,z3,e2,z4,e,x1,x2,x3,x4,y1,y2,y3,y4,c1,c2,c3,c4,c5,c6,c7,c8,m*n*2^s,scale _ _,?_,?_⟩
 ·rw [R_shift];exact fp
 ·rw [R_shift,← Int.sub_mul];exact f8
theorem middle_form{x T L:Nat}(hT:T=1974)(hL:L=174)(hx:x<18446744073709551616)(h1:553942754166571008≤rungOf x)(h2:rungOf x≤8660422083433463808):
  ∃ (m:Int) (a:Nat),Fl x (m*2^a)∧2^52≤m.natAbs∧m.natAbs<2^53∧(m*2^a).natAbs≤2^T∧2^L≤(m*2^a).natAbs:=by
 have hM:M=9218868437227405312:=rfl;obtain⟨k,q,e,hk,hq⟩:=rung_form (rungOf x);have hf:=Fl_self hx (by omega)
 have hmag:mag (rungOf x)=q*2^k:=by rw [e];exact mag_form k q hk (by omega)
 have hlo:mag ((122+1)*2^52)≤mag (rungOf x):=mag_le_iff.2 (by omega);have hhi:=not_great (x:=x) (t:=1922) (T:=T) (by omega) (by omega);rw [mag_two_pow,← Nat.pow_add,show 52+122=L from by omega] at hlo
 have hv:(val (idx x)).natAbs=q*2^k:=by rw [val_natAbs,idx_natAbs,hmag]
 have q0:2^52≤q:=by omega
 have lo:2^L≤q*2^k:=by rw [← hmag];exact hlo
 rcases Int.lt_or_le (val (idx x)) 0 with hn | hn
 ·have ev:val (idx x)=(-(q:Int))*2^k:=by
   have:((q*2^k:Nat):Int)=(q:Int)*2^k:=by push_cast;rfl
   rw [Int.neg_mul];omega
  rw [ev] at hf hv hhi
  exact⟨-(q:Int),k,hf,by omega,by omega,hhi,by rw [hv];exact lo⟩
 ·have ev:val (idx x)=(q:Int)*2^k:=by
   have:((q*2^k:Nat):Int)=(q:Int)*2^k:=by push_cast;rfl
   omega
  rw [ev] at hf hv hhi
  exact⟨(q:Int),k,hf,by omega,by omega,hhi,by rw [hv];exact lo⟩
end
section
open Go.RowKit Ieee
def mid(b:Nat):Bool:=decide (553942754166571008<rungOf b) && decide (rungOf b<8660422083433463808)
theorem mid_iff{b:Nat}:mid b=true↔553942754166571008<rungOf b∧rungOf b<8660422083433463808:=by unfold mid;simp
theorem prod_small{m n V:Int}{a b U g:Nat}(hV:V=m*2^a*(n*2^b))(m2:m.natAbs<2^53)(n2:n.natAbs<2^53)(hg:54≤g)(h:a+b<U):nearRung V.natAbs U≤(g+1)*2^52:=by
 refine nearRung_le ?_;rw [hV,Int.natAbs_mul,Int.natAbs_mul,Int.natAbs_mul,Int.natAbs_pow,Int.natAbs_pow,mag_two_pow,← Nat.pow_add]
 have k1:m.natAbs*2^a*(n.natAbs*2^b)=m.natAbs*n.natAbs*2^(a+b):=by rw [Nat.pow_add];ac_rfl
 show m.natAbs*2^a*(n.natAbs*2^b)≤_
 rw [k1];have k2:m.natAbs*n.natAbs≤2^53*2^53:=Nat.mul_le_mul (Nat.le_of_lt m2) (Nat.le_of_lt n2);have k3:2^(a+b)≤2^U:=Nat.pow_le_pow_right (by omega) (by omega)
 have k4:2^53*2^53≤2^(52+g):=by rw [← Nat.pow_add];exact Nat.pow_le_pow_right (by omega) (by omega)
 exact Nat.mul_le_mul (Nat.le_trans k2 k4) k3
theorem inf_write(s:Bool):double.write (.infinity s)=pat (if s then -(M:Int) else M):=by
 cases s
 ·have h:=inf_word (x:=9218868437227405312) (by omega) (by decide);rw [show sgn 9218868437227405312=false from by decide] at h;rw [h];exact pat_max.symm
 ·have h:=inf_word (x:=18442240474082181120) (by omega) (by decide);rw [show sgn 18442240474082181120=true from by decide] at h;rw [h];exact pat_min.symm
theorem digits_pos{b m k:Nat}(h:m*2^k=mag (rungOf b))(hb:rungOf b≠0):m≠0:=by
 rintro rfl;rw [Nat.zero_mul] at h;have:=mag_lt_iff.2 (show 0<rungOf b by omega);rw [mag_zero] at this
 omega
theorem mul_inf{x y:Nat}(hx:rungOf x≤M)(hy:rungOf y≤M)(h:rungOf x=M∨rungOf y=M)(nx:rungOf x≠0)(ny:rungOf y≠0):double.mul x y=some (pat (if (sgn x ^^ sgn y) then -(M:Int) else M)):=by
 unfold Format.mul
 by_cases h1:rungOf x=M
 ·rw [read_inf h1]
  by_cases h2:rungOf y=M
  ·rw [read_inf h2]
   simp only [Datum.product,Option.map_some]
   rw [inf_write]
  ·obtain⟨m,k,e,hm,-⟩:=read_fin (show fin y from by unfold fin;omega);rw [e]
   simp only [Datum.product]
   rw [if_neg (digits_pos hm ny)]
   simp only [Option.map_some]
   rw [inf_write]
 ·have h2:rungOf y=M:=by omega
  rw [read_inf h2];obtain⟨m,k,e,hm,-⟩:=read_fin (show fin x from by unfold fin;omega);rw [e]
  simp only [Datum.product]
  rw [if_neg (digits_pos hm nx)]
  simp only [Option.map_some]
  rw [inf_write,Bool.xor_comm]
end
section
open Go.RowKit
attribute [local go_sem] run_store_float run_frombits run_bitsof run_negf
end
section
open Go.RowKit
attribute [local go_sem] run_store_float run_frombits run_bitsof run_negf
end
end Go.Proofs.YthlmlmfebpjgdaaGreatDoor
