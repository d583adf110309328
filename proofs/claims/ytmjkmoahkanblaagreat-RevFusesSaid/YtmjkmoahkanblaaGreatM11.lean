/-
Plain: the quick product: a number of 53 bits cut into two of 26; what the nearest to a product lacks of it, exactly.
-/
import Derived.Test.YtmjkmoahkanblaaGreatM10
set_option linter.unusedSimpArgs false
set_option linter.unusedVariables false
set_option maxHeartbeats 12800000
namespace Go.Proofs.YtmjkmoahkanblaaGreat
open Go.RowKit
theorem rep_dvd{n:Int}{k:Nat}(h:Rep n)(hn:2^(52+k)≤n.natAbs):(2:Int)^k ∣ n:=by
 obtain⟨q,j,hq,e⟩:=rep_iff.1 h
 have hj:k≤j:=by
  apply Nat.le_of_not_lt
  intro hlt;have h1:q*2^j<2^53*2^j:=Nat.mul_lt_mul_of_pos_right hq (Nat.two_pow_pos j)
  have h2:2^53*2^j≤2^(52+k):=by rw [← Nat.pow_add];exact Nat.pow_le_pow_right (by omega) (by omega)
  rw [e] at hn
  exact absurd (Nat.lt_of_lt_of_le h1 (Nat.le_trans h2 hn)) (Nat.lt_irrefl _)
 exact Int.dvd_trans (pow_dvd_le hj) (dvd_of_natAbs e)
theorem R_err{n:Int}(k:Nat)(h:n.natAbs≤2^53*2^k):2*(n - R n).natAbs≤2^k:=by
 have hK:0<2^k:=Nat.two_pow_pos k
 have hKi:((2^k:Nat):Int)=(2:Int)^k:=by rw [Int.natCast_pow];rfl
 have hd:n=(2:Int)^k*(n / (2:Int)^k)+n % (2:Int)^k:=(Int.mul_ediv_add_emod n _).symm;have hb0:0≤n % (2:Int)^k:=Int.emod_nonneg _ (by omega);have hb1:n % (2:Int)^k<(2:Int)^k:=Int.emod_lt_of_pos _ (by omega);generalize n / (2:Int)^k=a at hd;generalize n % (2:Int)^k=b at hd hb0 hb1
 have rp:∀ c:Int,c.natAbs≤2^53→Rep ((2:Int)^k*c):=fun c hc=>rep_of_dvd k (Int.dvd_mul_right _ _) (by
  rw [Int.natAbs_mul,Int.natAbs_pow,Nat.mul_comm]
  exact Nat.mul_le_mul_right _ hc)
 have c1:a≤2^53:=by
  apply Int.le_of_not_gt;intro hlt
  have h1:(2:Int)^k*(2^53+1)≤(2:Int)^k*a:=Int.mul_le_mul_of_nonneg_left (by omega) (by omega)
  have h2:(n.natAbs:Int)≤2^53*2^k:=by exact_mod_cast h
  have h3:(2:Int)^k*(2^53+1)=2^53*2^k+2^k:=by rw [Int.mul_add,Int.mul_one,Int.mul_comm]
  omega
 have c2:-2^53≤a:=by
  apply Int.le_of_not_gt;intro hlt
  have h1:(2:Int)^k*a≤(2:Int)^k*(-2^53 - 1):=Int.mul_le_mul_of_nonneg_left (by omega) (by omega)
  have h2:(n.natAbs:Int)≤2^53*2^k:=by exact_mod_cast h
  have h3:(2:Int)^k*(-2^53 - 1)=-(2^53*2^k) - 2^k:=by rw [Int.mul_sub,Int.mul_one,Int.mul_comm,Int.neg_mul]
  omega
 have n1:=R_nearest (n:=n) (rp a (by omega))
 by_cases hb:b=0
 ·have e:n - (2:Int)^k*a=0:=by omega
  rw [e] at n1
  simp at n1
  omega
 ·have c3:a+1≤2^53:=by
   apply Int.le_of_not_gt;intro hlt
   have ea:a=2^53:=by omega
   have h2:(n.natAbs:Int)≤2^53*2^k:=by exact_mod_cast h
   have h3:(2:Int)^k*a=2^53*2^k:=by rw [ea,Int.mul_comm]
   omega
  have n2:=R_nearest (n:=n) (rp (a+1) (by omega));rw [Int.mul_add,Int.mul_one] at n2
  omega
theorem R_ge{n:Int}{t:Nat}(h:2^t≤n.natAbs):2^t≤(R n).natAbs:=by
 have h0:((2^t:Nat):Int)=(2:Int)^t:=by rw [Int.natCast_pow];rfl
 rcases Int.lt_or_le n 0 with hn | hn
 ·have h1:R n≤-(2:Int)^t:=R_le (rep_two_pow t).neg (by omega)
  omega
 ·have h1:(2:Int)^t≤R n:=le_R (rep_two_pow t) (by omega)
  omega
theorem cut_pos{m:Int}(h1:2^52≤m)(h2:m<2^53):
  ∃ q l:Int,R (R (134217729*m) - R (R (134217729*m) - m))=2^27*q∧m=2^27*q+l∧q.natAbs≤2^26∧l.natAbs≤2^26:=by
 have d1:(2:Int)^27 ∣ R (134217729*m):=rep_dvd (R_rep _) (R_ge (t:=52+27) (by omega));have e1:=R_err (n:=134217729*m) 28 (by omega);have e2:134217729*m≤2^80→2*(134217729*m - R (134217729*m)).natAbs≤2^27:=fun h=>R_err 27 (by omega);have e3:m=2^52→R (134217729*m)=134217729*m:=fun h=>R_of_rep (rep_of_dvd 27 ⟨2^52+2^25,by omega⟩ (by omega));generalize R (134217729*m)=t at *
 have b1:2^79≤t - m:=by
  by_cases hm:m=2^52
  ·have:=e3 hm;omega
  ·by_cases hc:134217729*m≤2^80
   ·have:=e2 hc;omega
   ·omega
 have b2:t - m≤2^80:=by omega
 have d2:(2:Int)^27 ∣ R (t - m):=rep_dvd (R_rep _) (R_ge (t:=52+27) (by omega));have e4:=R_err (n:=t - m) 27 (by omega);generalize R (t - m)=u at *;obtain⟨q,hq⟩:=Int.dvd_sub d1 d2;have hR:R (t - u)=t - u:=R_of_rep (rep_of_dvd 27 (Int.dvd_sub d1 d2) (by omega));refine⟨q,m - 2^27*q,by rw [hR,hq],by omega,by omega,by omega⟩
theorem dcut_any{m:Int}(h1:2^52≤m.natAbs)(h2:m.natAbs<2^53):
  ∃ q l:Int,R (R (134217729*m) - R (R (134217729*m) - m))=2^27*q∧m=2^27*q+l∧q.natAbs≤2^26∧l.natAbs≤2^26:=by
 rcases Int.lt_or_le m 0 with hm | hm
 ·obtain⟨q,l,a,b,c,d⟩:=cut_pos (m:=-m) (by omega) (by omega);refine⟨-q,-l,?_,by omega,by omega,by omega⟩
  rw [show (134217729:Int)*-m=-(134217729*m) from by omega,R_neg,show -R (134217729*m) - -m=-(R (134217729*m) - m) from by omega,R_neg,
   show -R (134217729*m) - -R (R (134217729*m) - m)=-(R (134217729*m) - R (R (134217729*m) - m)) from by omega,R_neg] at a
  omega
 ·exact cut_pos (by omega) (by omega)
theorem missed_at{m n q l q' l':Int}(m1:2^52≤m.natAbs)(m2:m.natAbs<2^53)(n1:2^52≤n.natAbs)(n2:n.natAbs<2^53)(em:m=2^27*q+l)(en:n=2^27*q'+l')(hq:q.natAbs≤2^26)(hl:l.natAbs≤2^26)(hq':q'.natAbs≤2^26)(hl':l'.natAbs≤2^26):
  Rep ((2^27*q)*(2^27*q'))∧Rep ((2^27*q)*l')∧Rep (l*(2^27*q'))∧Rep (l*l') ∧
  Rep ((2^27*q)*(2^27*q') - R (m*n))∧Rep ((2^27*q)*(2^27*q') - R (m*n)+(2^27*q)*l')∧Rep ((2^27*q)*(2^27*q') - R (m*n)+(2^27*q)*l'+l*(2^27*q')) ∧
  (2^27*q)*(2^27*q') - R (m*n)+(2^27*q)*l'+l*(2^27*q')+l*l'=m*n - R (m*n)∧Rep (m*n - R (m*n))∧(2*(m*n - R (m*n)).natAbs≤2^53):=by
 have p1:(m*n).natAbs<2^106:=by
  rw [Int.natAbs_mul]
  calc m.natAbs*n.natAbs<2^53*2^53:=Nat.mul_lt_mul_of_lt_of_lt m2 n2
   _=2^106:=rfl
 have p2:2^104≤(m*n).natAbs:=by
  rw [Int.natAbs_mul]
  calc 2^104=2^52*2^52:=rfl
   _≤m.natAbs*n.natAbs:=Nat.mul_le_mul m1 n1
 have bd:∀ a b:Int,a.natAbs≤2^26→b.natAbs≤2^26→(a*b).natAbs≤2^52:=fun a b ha hb=>by
  rw [Int.natAbs_mul];exact Nat.le_trans (Nat.mul_le_mul ha hb) (by decide)
 have z1:=bd _ _ hq hq';have z2:=bd _ _ hq hl';have z3:=bd _ _ hl hq';have z4:=bd _ _ hl hl';have err:=R_err (n:=m*n) 53 (by omega);have dv:(2:Int)^52 ∣ R (m*n):=rep_dvd (R_rep _) (R_ge (t:=52+52) p2)
 have f1:(2^27*q)*(2^27*q')=2^54*(q*q'):=by grind
 have f2:(2^27*q)*l'=2^27*(q*l'):=by grind
 have f3:l*(2^27*q')=2^27*(l*q'):=by grind
 have f4:m*n=2^54*(q*q')+2^27*(q*l')+2^27*(l*q')+l*l':=by rw [em,en];grind
 rw [f1,f2,f3];generalize q*q'=Z1 at *;generalize q*l'=Z2 at *;generalize l*q'=Z3 at *;generalize l*l'=Z4 at *;generalize R (m*n)=P at *;generalize m*n=N at *;obtain⟨P',rfl⟩:=dv;clear f1 f2 f3 bd em en;refine⟨rep_of_dvd 54 (Int.dvd_mul_right _ _) (by omega),rep_of_dvd 27 (Int.dvd_mul_right _ _) (by omega),rep_of_dvd 27 (Int.dvd_mul_right _ _) (by omega),rep_of_dvd 0 (Int.one_dvd _) (by omega),rep_of_dvd 52 ⟨4*Z1 - P',by omega⟩ (by omega),rep_of_dvd 27 ⟨2^27*Z1 - 2^25*P'+Z2,by omega⟩ (by omega),rep_of_dvd 0 (Int.one_dvd _) (by omega),by omega,rep_of_dvd 0 (Int.one_dvd _) (by omega),err⟩
theorem nearRung_scale(n d:Nat):nearRung (n*2^d) d=nearRung n 0:=by
 unfold nearRung;rw [Nat.mul_div_cancel _ (Nat.two_pow_pos d),Nat.pow_zero,Nat.div_one,bump_shift,Nat.zero_add]
theorem near_scale(n:Int)(d:Nat):near (n*2^d) d=near n 0:=by
 have hp:(0:Int)<2^d:=by exact_mod_cast Nat.two_pow_pos d
 have e:(n*2^d).natAbs=n.natAbs*2^d:=by rw [Int.natAbs_mul,Int.natAbs_pow];rfl
 unfold near;rw [e,nearRung_scale]
 by_cases h:n<0
 ·rw [if_pos h,if_pos (Int.mul_neg_of_neg_of_pos h hp)]
 ·rw [if_neg h,if_neg (by have:=Int.mul_nonneg (show 0≤n by omega) (Int.le_of_lt hp);omega)]
theorem mag_nearRung_fine{n d:Nat}(h:2^(53+d)≤n):mag (nearRung n d)*2^d=mag (nearRung n 0):=by
 have h0:n≠0:=by have:=Nat.two_pow_pos (53+d);omega
 have hl:53+d≤n.log2:=(Nat.le_log2 h0).2 h
 have eo:over n=over (n / 2^d)+d:=by unfold over;rw [log2_div_pow];omega
 have hk:=over_spec (n / 2^d);rw [mag_nearRung];unfold nearRung floorRung
 obtain⟨o,ho⟩:∃ o,over (n / 2^d)=o:=⟨_,rfl⟩
 rw [ho] at eo hk;rw [ho,eo,div_div_pow] at *;have hb:(bump n (d+o)).toNat≤1:=Bool.toNat_le _;rw [Nat.add_assoc,mag_form o _ (by omega) (by omega),Nat.mul_assoc,← Nat.pow_add,Nat.add_comm d o]
theorem near_fine{n:Int}{d:Nat}(h:2^(53+d)≤n.natAbs)(hM:-(M:Int)<near n d∧near n d<M):val (near n d)*2^d=R n:=by
 have h1:=near_natAbs n d
 have h2:min (nearRung n.natAbs d) M=nearRung n.natAbs d:=by omega
 have h3:=mag_nearRung_fine h;unfold near R;rw [h2]
 split
 ·rw [val_neg,val_nat,Int.neg_mul]
  congr 1
  exact_mod_cast h3
 ·rw [val_nat]
  exact_mod_cast h3
end Go.Proofs.YtmjkmoahkanblaaGreat
