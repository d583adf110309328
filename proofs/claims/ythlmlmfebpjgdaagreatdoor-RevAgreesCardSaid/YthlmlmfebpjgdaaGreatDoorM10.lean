/-
Lemmas for the statement: AddQ MlP RmP PartT SumT Sum2T AddT NmulT RmulT VdP.
-/
import Derived.Test.YthlmlmfebpjgdaaGreatDoorM04
import Derived.Test.YthlmlmfebpjgdaaGreatDoorM02
import Derived.Test.YthlmlmfebpjgdaaGreatDoorM06
import Derived.Test.YthlmlmfebpjgdaaGreatDoorM09
import Derived.Test.YthlmlmfebpjgdaaGreatDoorM01
import Derived.Test.YthlmlmfebpjgdaaGreatDoorM03
import Derived.ScopeJumps
import Derived.Test.YthlmlmfebpjgdaaGreatDoorM07
set_option linter.unusedSimpArgs false
set_option linter.unusedVariables false
set_option maxHeartbeats 12800000
namespace Go.Proofs.YthlmlmfebpjgdaaGreatDoor
section
open Go.RowKit Ieee
theorem inf_word{x:Nat}(hx:x<18446744073709551616)(h:rungOf x=M):double.write (.infinity (sgn x))=x:=by
 show double.word (sgn x) double.infRung=x
 rw [infRung_eq];have h1:=Is.word (sgn x) (r:=M) (Nat.le_refl _);have h2:=pat_cases (b:=double.word (sgn x) M) (by have:=h1.lt;omega);have h3:=pat_cases hx;have h4:=h1.idx
 obtain⟨b,hb⟩:∃ b,double.word (sgn x) M=b:=⟨_,rfl⟩
 rw [hb] at h2 h4 ⊢;rw [M_val] at h h4
 rcases h3 with ⟨a,b1,c,d⟩ | ⟨a,b1,c,d⟩
 ·rw [c] at h4
  simp only [Bool.false_eq_true,if_false] at h4
  omega
 ·rw [c] at h4
  simp only [if_true] at h4
  omega
theorem inf_pat{x:Nat}(hx:x<18446744073709551616)(h:rungOf x=M):pat (idx x)=x:=by
 have h3:=pat_cases hx;rw [M_val] at *
 rcases h3 with ⟨a,b1,c,d⟩ | ⟨a,b1,c,d⟩
 ·rw [pat_nn (by omega)];omega
 ·rw [pat_neg (by omega)];omega
theorem add_inf_left{x y:Nat}(hx:x<18446744073709551616)(h:rungOf x=M)(hy:rungOf y<=M)(hno:rungOf y=M->sgn x=sgn y):double.add x y=some (pat (idx x)):=by
 rw [inf_pat hx h];unfold Format.add;rw [read_inf h]
 by_cases h2:rungOf y=M
 ·rw [read_inf h2]
  simp only [Datum.sum]
  rw [if_pos (hno h2)]
  simp only [Option.map_some]
  rw [inf_word hx h]
 ·obtain⟨m,k,e,-,-⟩:=read_fin (show fin y from by unfold fin;omega);rw [e]
  simp only [Datum.sum,Option.map_some]
  rw [inf_word hx h]
theorem add_inf_right{x y:Nat}(hy:y<18446744073709551616)(h:rungOf y=M)(hx:rungOf x<M):double.add x y=some (pat (idx y)):=by
 rw [inf_pat hy h];unfold Format.add;obtain⟨m,k,e,-,-⟩:=read_fin (show fin x from hx);rw [read_inf h,e]
 simp only [Datum.sum,Option.map_some]
 rw [inf_word hy h]
def ad(d i j:Int):Int:=if i=M\/i=-(M:Int) then i else if j=M\/j=-(M:Int) then j else rndI d (fl i+fl j)
theorem nud_sum{d:Int}(hd:d=-1\/d=1){s e:Nat}{n:Int}{j k:Int}(hs:Fl s (R n))(he:Fl e (n - R n))(hn:val j+val k=n):nud d (idx s) (idx e)=rndI d (fl j+fl k):=by
 rw [fl_add,hn];have h0:=idx_natAbs s;have hf:rungOf s<M:=hs.fin
 have e1:idx e<0↔n<R n:=by
  have h:=@val_lt_iff (idx e) 0;rw [val_zero,he.val] at h
  omega
 have e2:0<idx e↔R n<n:=by
  have h:=@val_lt_iff 0 (idx e);rw [val_zero,he.val] at h
  omega
 rcases hd with rfl | rfl
 ·rw [near_down hs.val (by omega) (by omega)];unfold nud
  by_cases h:n<R n
  ·rw [if_pos h,if_pos ⟨rfl,e1.2 h⟩]
  ·rw [if_neg h,if_neg (fun h'=>h (e1.1 h'.2)),if_neg (by omega)]
 ·rw [near_up hs.val (by omega) (by omega)];unfold nud
  by_cases h:R n<n
  ·rw [if_pos h,if_neg (by omega),if_pos ⟨rfl,e2.2 h⟩]
  ·rw [if_neg h,if_neg (by omega),if_neg (fun h'=>h (e2.1 h'.2))]
theorem not_great{x t T:Nat}(h:rungOf x<=(t+1)*2^52)(hT:T=52+t):(val (idx x)).natAbs<=2^T:=by
 rw [val_natAbs,idx_natAbs];have h1:mag (rungOf x)<=mag ((t+1)*2^52):=mag_le_iff.2 h;rw [mag_two_pow,<- Nat.pow_add] at h1;rw [hT];exact h1
theorem Fl_self{x:Nat}(hx:x<18446744073709551616)(h:rungOf x<M):Fl x (val (idx x)):=⟨hx,h,rfl⟩
theorem great_ord{r:Nat}(h:r<=M):(r<=8660422083433463808/\(FloatKind.f64.format.order r 8660422083433463808=some .lt\/FloatKind.f64.format.order r 8660422083433463808=some .eq))\/(8660422083433463808<r/\FloatKind.f64.format.order r 8660422083433463808=some .gt):=by
 have hM:M=9218868437227405312:=rfl;have g1:rungOf 8660422083433463808=8660422083433463808/\idx 8660422083433463808=((8660422083433463808:Nat):Int):=rung_idx (by decide);have r1:=rung_idx (b:=r) (by omega)
 rcases Nat.lt_trichotomy r 8660422083433463808 with h1 | h1 | h1
 ·exact .inl ⟨by omega,.inl (ord_lt (by omega) (by omega) (by omega))⟩
 ·exact .inl ⟨by omega,.inr (ord_eq (by omega) (by omega) (by omega))⟩
 ·exact .inr ⟨h1,ord_gt (by omega) (by omega) (by omega)⟩
end
section
open Go.RowKit
theorem near_R2{n:Int}{Q:Nat}(hQ:Q<=2090)(h:n.natAbs<=2^Q):val (near n 0)=R n/\-(M:Int)<near n 0/\near n 0<M:=by
 have hM:M=2047*2^52:=rfl
 obtain⟨r,hr⟩:∃ r,mag r=2^Q*2^0/\r<M:=by
  by_cases hq:Q<52
  ·have h1:2^Q<2^52:=Nat.pow_lt_pow_right (by omega) hq
   exact⟨2^Q,by rw [mag_small h1,Nat.pow_zero,Nat.mul_one],by omega⟩
  ·obtain⟨t,rfl⟩:∃ t,Q=52+t:=⟨Q - 52,by omega⟩
   refine⟨(t+1)*2^52,by rw [mag_two_pow,Nat.pow_zero,Nat.mul_one,Nat.pow_add],?_⟩;have:(t+1)*2^52<=2040*2^52:=Nat.mul_le_mul_right _ (by omega)
   omega
 have h1:nearRung n.natAbs 0<=r:=nearRung_le (by rw [Nat.pow_zero,Nat.mul_one];rw [Nat.pow_zero,Nat.mul_one] at hr;rw [hr.1];exact h)
 have h2:min (nearRung n.natAbs 0) M=nearRung n.natAbs 0:=by omega
 unfold near R;rw [h2];refine⟨?_,by split<;>omega,by split<;>omega⟩
 split
 ·rw [val_neg,val_nat]
 ·rw [val_nat]
theorem Fl.of_is2{b:Nat}{n:Int}{Q:Nat}(hQ:Q<=2090)(h:Is b (near n 0))(hn:n.natAbs<=2^Q):Fl b (R n):=by
 obtain⟨h1,h2,h3⟩:=near_R2 hQ hn;refine⟨h.lt,?_,by rw [h.idx,h1]⟩;have:=idx_natAbs b;rw [h.idx] at this
 show rungOf b<M
 omega
theorem Fl.add2{x y:Nat}{m n:Int}{Q:Nat}(hQ:Q<=2090)(hx:Fl x m)(hy:Fl y n)(h:(m+n).natAbs<=2^Q):∃ r,FloatKind.f64.format.add x y=some r/\Fl r (R (m+n)):=by
 obtain⟨r,h1,h2⟩:=add_fin hx.fin hy.fin;rw [hx.val,hy.val] at h2
 exact⟨r,h1,Fl.of_is2 hQ h2 h⟩
theorem Fl.sub2{x y:Nat}{m n:Int}{Q:Nat}(hQ:Q<=2090)(hx:Fl x m)(hy:Fl y n)(h:(m - n).natAbs<=2^Q):∃ r,FloatKind.f64.format.sub x y=some r/\Fl r (R (m - n)):=by
 obtain⟨r,h1,h2⟩:=sub_fin hx.fin hy.fin;rw [hx.val,hy.val] at h2
 exact⟨r,h1,Fl.of_is2 hQ h2 h⟩
theorem Fl.mul_at{x y:Nat}{m n Z:Int}{Q U:Nat}(hQ:Q<=2090)(hU:U=1074)(hx:Fl x m)(hy:Fl y n)(hz:m*n=Z*2^U)(h:Z.natAbs<=2^Q):∃ r,FloatKind.f64.format.mul x y=some r/\Fl r (R Z):=by
 obtain⟨r,h1,h2⟩:=mul_fin hx.fin hy.fin;subst hU;rw [hx.val,hy.val,hz,near_scale] at h2
 exact⟨r,h1,Fl.of_is2 hQ h2 h⟩
theorem Rep.shift{n:Int}(h:Rep n)(k:Nat):Rep (n*2^k):=by
 have e:=R_shift n k;rw [R_of_rep h] at e;rw [<- e];exact R_rep _
theorem cut_const{U:Nat}(hU:U=1074):Fl 4728779608772575232 (134217729*2^U):=by
 have h0:rungOf 4728779608772575232=1049*2^52+(2^52+2^25):=by decide
 refine⟨by decide,by unfold fin;rw [h0];decide,?_⟩
 have h1:idx 4728779608772575232=((1049*2^52+(2^52+2^25):Nat):Int):=by decide
 rw [h1,val_nat,mag_form 1049 (2^52+2^25) (by omega) (by omega)]
 obtain⟨u,hu⟩:∃ u:Nat,u=1049:=⟨_,rfl⟩
 rw [<- hu,show U=25+u from by omega,Int.natCast_mul,Int.natCast_pow,show ((2^52+2^25:Nat):Int)=134217729*2^25 from by decide,show ((2:Nat):Int)=2 from rfl,Int.pow_add,Int.mul_assoc]
theorem quick_half{x:Nat}{m:Int}{a T U:Nat}(hT:T<=2000)(hU:U=1074)(hx:Fl x (m*2^a))(h1:2^52<=m.natAbs)(h2:m.natAbs<2^53)(hb:(m*2^a).natAbs<=2^T):
  ∃ t u h l:Nat,∃ q v:Int,FloatKind.f64.format.mul 4728779608772575232 x=some t/\FloatKind.f64.format.sub t x=some u/\FloatKind.f64.format.sub t u=some h/\FloatKind.f64.format.sub x h=some l /\
   Fl h (2^27*q*2^a)/\Fl l (v*2^a)/\m=2^27*q+v/\q.natAbs<=2^26/\v.natAbs<=2^26:=by
 obtain⟨q,v,e1,e2,hq,hv⟩:=dcut_any h1 h2
 have p1:2^(T+28)=268435456*2^T:=by rw [Nat.pow_add,Nat.mul_comm]
 have p2:2^(T+32)=4294967296*2^T:=by rw [Nat.pow_add,Nat.mul_comm]
 have hQ:T+32<=2090:=by omega
 have s1:(134217729:Int)*(m*2^a)=134217729*m*2^a:=by rw [Int.mul_assoc]
 have b0:(134217729*(m*2^a):Int).natAbs<=2^(T+28):=by
  rw [Int.natAbs_mul,p1,show (134217729:Int).natAbs=134217729 from rfl];omega
 obtain⟨t,g1,f1⟩:=Fl.mul_at (Q:=T+32) hQ hU (cut_const hU) hx (Z:=134217729*(m*2^a)) (by rw [Int.mul_assoc,Int.mul_comm (2^U),<- Int.mul_assoc]) (by omega);have b1:=R_bound b0;obtain⟨u,g2,f2⟩:=Fl.sub2 (Q:=T+32) hQ f1 hx (by omega);have b2:(R (R (134217729*(m*2^a)) - m*2^a)).natAbs<=2^(T+29):=R_bound (by rw [show 2^(T+29)=536870912*2^T from by rw [Nat.pow_add,Nat.mul_comm]];omega)
 have p3:2^(T+29)=536870912*2^T:=by rw [Nat.pow_add,Nat.mul_comm]
 obtain⟨h,g3,f3⟩:=Fl.sub2 (Q:=T+32) hQ f1 f2 (by omega)
 have eh:R (R (134217729*(m*2^a)) - R (R (134217729*(m*2^a)) - m*2^a))=2^27*q*2^a:=by
  rw [s1,R_shift,<- Int.sub_mul,R_shift,<- Int.sub_mul,R_shift,e1]
 have b3:=R_bound (n:=R (134217729*(m*2^a)) - R (R (134217729*(m*2^a)) - m*2^a)) (t:=T+30) (by rw [show 2^(T+30)=1073741824*2^T from by rw [Nat.pow_add,Nat.mul_comm]];omega)
 have p4:2^(T+30)=1073741824*2^T:=by rw [Nat.pow_add,Nat.mul_comm]
 rw [eh] at f3 b3;obtain⟨l,g4,f4⟩:=Fl.sub2 (Q:=T+32) hQ hx f3 (by omega)
 have el:m*2^a - 2^27*q*2^a=v*2^a:=by rw [<- Int.sub_mul,show m - 2^27*q=v from by omega]
 have rv:Rep v:=rep_of_dvd 0 ⟨v,by rw [Int.pow_zero,Int.one_mul]⟩ (by rw [Nat.pow_zero,Nat.mul_one];exact Nat.le_trans hv (by decide));rw [el,R_of_rep (rv.shift a)] at f4
 exact⟨t,u,h,l,q,v,g1,g2,g3,g4,f3,f4,e2,hq,hv⟩
theorem quick_mul{x y p:Nat}{m n:Int}{a b U T:Nat}(hU:U=1074)(hT:T=1974)(hx:Fl x (m*2^a))(m1:2^52<=m.natAbs)(m2:m.natAbs<2^53)(bx:(m*2^a).natAbs<=2^T)(hy:Fl y (n*2^b))(n1:2^52<=n.natAbs)(n2:n.natAbs<2^53)(by_:(n*2^b).natAbs<=2^T)
  (hp:FloatKind.f64.format.mul x y=some p)(hf:fin p)(bp:(val (idx p)).natAbs<=2^T)(hab:U<=a+b):
  ∃ xt xu xh xl yt yu yh yl z1 e0 z2 e1 z3 e2 z4 e:Nat,FloatKind.f64.format.mul 4728779608772575232 x=some xt/\FloatKind.f64.format.sub xt x=some xu/\FloatKind.f64.format.sub xt xu=some xh/\FloatKind.f64.format.sub x xh=some xl /\
   FloatKind.f64.format.mul 4728779608772575232 y=some yt/\FloatKind.f64.format.sub yt y=some yu/\FloatKind.f64.format.sub yt yu=some yh/\FloatKind.f64.format.sub y yh=some yl /\
   FloatKind.f64.format.mul xh yh=some z1/\FloatKind.f64.format.sub z1 p=some e0/\FloatKind.f64.format.mul xh yl=some z2/\FloatKind.f64.format.add e0 z2=some e1 /\
   FloatKind.f64.format.mul xl yh=some z3/\FloatKind.f64.format.add e1 z3=some e2/\FloatKind.f64.format.mul xl yl=some z4/\FloatKind.f64.format.add e2 z4=some e /\
   ∃ N:Int,(m*2^a)*(n*2^b)=N*2^U/\Fl p (R N)/\Fl e (N - R N):=by
 obtain⟨s,hs⟩:∃ s,a+b=s+U:=⟨a+b - U,by omega⟩
 have scale:∀ A B:Int,(A*2^a)*(B*2^b)=A*B*2^s*2^U:=fun A B=>by
  rw [Int.mul_assoc (A*B),<- Int.pow_add,<- hs,Int.pow_add];ac_rfl
 obtain⟨xt,xu,xh,xl,q,l,x1,x2,x3,x4,fxh,fxl,em,hq,hl⟩:=quick_half (T:=T) (by omega) hU hx m1 m2 bx;obtain⟨yt,yu,yh,yl,q',l',y1,y2,y3,y4,fyh,fyl,en,hq',hl'⟩:=quick_half (T:=T) (by omega) hU hy n1 n2 by_;obtain⟨r1,r2,r3,r4,r5,r6,r7,r8,r9,-⟩:=missed_at m1 m2 n1 n2 em en hq hl hq' hl'
 have big:2^104<=(m*n).natAbs:=by
  rw [Int.natAbs_mul]
  exact Nat.le_trans (by decide:2^104<=2^52*2^52) (Nat.mul_le_mul m1 n1)
 -- p
 have ep:val (idx p)=R (m*n)*2^s:=by
  obtain⟨p',hp',hi⟩:=mul_fin hx.fin hy.fin
  obtain rfl:p'=p:=Option.some.inj (hp'.symm.trans hp)
  rw [hx.val,hy.val,<- hU,scale,near_scale] at hi;have h1:=idx_natAbs p';have hff:rungOf p'<M:=hf
  have h2:=near_fine (n:=m*n*2^s) (d:=0) (by
   rw [Int.natAbs_mul,Int.natAbs_pow]
   calc 2^(53+0)<=2^104*1:=by decide
    _<=_:=Nat.mul_le_mul big (Nat.two_pow_pos s)) (by rw [<- hi.idx];omega)
  rw [Int.pow_zero,Int.mul_one,R_shift] at h2;rw [hi.idx,h2]
 have fp:Fl p (R (m*n)*2^s):=⟨by
  obtain⟨p',hp',hi⟩:=mul_fin hx.fin hy.fin
  obtain rfl:p'=p:=Option.some.inj (hp'.symm.trans hp)
  exact hi.lt,hf,ep⟩
 rw [ep] at bp
 -- sizes: all parts are below 2^(T+6)
 have sz:∀ A:Int,A.natAbs<=2^110->(A*2^s).natAbs<=2^(T+6):=fun A hA=>by
  have h1:2^104<=(R (m*n)).natAbs:=R_ge big;rw [Int.natAbs_mul,Int.natAbs_pow] at bp ⊢;have h2:2^104*2^s<=2^T:=Nat.le_trans (Nat.mul_le_mul_right _ h1) bp
  have h3:s+104<=T:=by
   apply Nat.le_of_not_lt;intro hlt
   rw [<- Nat.pow_add] at h2;have:=(Nat.pow_le_pow_iff_right (by omega:1<2)).1 h2
   omega
  calc A.natAbs*2^s<=2^110*2^(T - 104):=Nat.mul_le_mul hA (Nat.pow_le_pow_right (by omega) (by omega))
   _<=2^(T+6):=by rw [<- Nat.pow_add];exact Nat.pow_le_pow_right (by omega) (by omega)
 have bd:∀ A B:Int,A.natAbs<=2^53->B.natAbs<=2^53->(A*B).natAbs<=2^106:=fun A B hA hB=>by
  rw [Int.natAbs_mul];exact Nat.le_trans (Nat.mul_le_mul hA hB) (by decide)
 have k1:=bd (2^27*q) (2^27*q') (by omega) (by omega);have k2:=bd (2^27*q) l' (by omega) (by omega);have k3:=bd l (2^27*q') (by omega) (by omega);have k4:=bd l l' (by omega) (by omega);have k5:(R (m*n)).natAbs<=2^106:=R_bound (bd m n (by omega) (by omega));obtain⟨z1,c1,f1⟩:=Fl.mul_at (Q:=T+6) (by omega) hU fxh fyh (scale _ _) (sz _ (by omega));rw [R_of_rep (r1.shift s)] at f1;obtain⟨e0,c2,f2⟩:=Fl.sub2 (Q:=T+6) (by omega) f1 fp (by rw [<- Int.sub_mul];exact sz _ (by omega));rw [<- Int.sub_mul,R_of_rep (r5.shift s)] at f2;obtain⟨z2,c3,f3⟩:=Fl.mul_at (Q:=T+6) (by omega) hU fxh fyl (scale _ _) (sz _ (by omega));rw [R_of_rep (r2.shift s)] at f3;obtain⟨e1,c4,f4⟩:=Fl.add2 (Q:=T+6) (by omega) f2 f3 (by rw [<- Int.add_mul];exact sz _ (by omega));rw [<- Int.add_mul,R_of_rep (r6.shift s)] at f4;obtain⟨z3,c5,f5⟩:=Fl.mul_at (Q:=T+6) (by omega) hU fxl fyh (scale _ _) (sz _ (by omega));rw [R_of_rep (r3.shift s)] at f5;obtain⟨e2,c6,f6⟩:=Fl.add2 (Q:=T+6) (by omega) f4 f5 (by rw [<- Int.add_mul];exact sz _ (by omega));rw [<- Int.add_mul,R_of_rep (r7.shift s)] at f6;obtain⟨z4,c7,f7⟩:=Fl.mul_at (Q:=T+6) (by omega) hU fxl fyl (scale _ _) (sz _ (by omega));rw [R_of_rep (r4.shift s)] at f7;obtain⟨e,c8,f8⟩:=Fl.add2 (Q:=T+6) (by omega) f6 f7 (by rw [<- Int.add_mul];exact sz _ (by omega));rw [<- Int.add_mul,r8,R_of_rep (r9.shift s)] at f8;refine⟨xt,xu,xh,xl,yt,yu,yh,yl,z1,e0,z2,e1,z3,e2,z4,e,x1,x2,x3,x4,y1,y2,y3,y4,c1,c2,c3,c4,c5,c6,c7,c8,m*n*2^s,scale _ _,?_,?_⟩
 ·rw [R_shift];exact fp
 ·rw [R_shift,<- Int.sub_mul];exact f8
theorem middle_form{x T L:Nat}(hT:T=1974)(hL:L=174)(hx:x<18446744073709551616)(h1:553942754166571008<=rungOf x)(h2:rungOf x<=8660422083433463808):
  ∃ (m:Int) (a:Nat),Fl x (m*2^a)/\2^52<=m.natAbs/\m.natAbs<2^53/\(m*2^a).natAbs<=2^T/\2^L<=(m*2^a).natAbs:=by
 have hM:M=9218868437227405312:=rfl;obtain⟨k,q,e,hk,hq⟩:=rung_form (rungOf x);have hf:=Fl_self hx (by omega)
 have hmag:mag (rungOf x)=q*2^k:=by rw [e];exact mag_form k q hk (by omega)
 have hlo:mag ((122+1)*2^52)<=mag (rungOf x):=mag_le_iff.2 (by omega);have hhi:=not_great (x:=x) (t:=1922) (T:=T) (by omega) (by omega);rw [mag_two_pow,<- Nat.pow_add,show 52+122=L from by omega] at hlo
 have hv:(val (idx x)).natAbs=q*2^k:=by rw [val_natAbs,idx_natAbs,hmag]
 have q0:2^52<=q:=by omega
 have lo:2^L<=q*2^k:=by rw [<- hmag];exact hlo
 rcases Int.lt_or_le (val (idx x)) 0 with hn | hn
 ·have ev:val (idx x)=(-(q:Int))*2^k:=by
   have:((q*2^k:Nat):Int)=(q:Int)*2^k:=by push_cast;rfl
   rw [Int.neg_mul];omega
  rw [ev] at hf hv hhi
  exact⟨-(q:Int),k,hf,by omega,by omega,hhi,by rw [hv];exact lo⟩
 ·have ev:val (idx x)=(q:Int)*2^k:=by
   have:((q*2^k:Nat):Int)=(q:Int)*2^k:=by push_cast;rfl
   omega
  rw [ev] at hf hv hhi
  exact⟨(q:Int),k,hf,by omega,by omega,hhi,by rw [hv];exact lo⟩
end
section
open Go.RowKit Ieee
theorem nud_n{d:Int}(hd:d=-1\/d=1){s e:Nat}{n:Int}(hs:Fl s (R n))(he:Fl e (n - R n)):nud d (idx s) (idx e)=rndI d ((n:Rat)*2^(-1074:Int)):=by
 have h0:=idx_natAbs s;have hf:rungOf s<M:=hs.fin
 have e1:idx e<0↔n<R n:=by
  have h:=@val_lt_iff (idx e) 0;rw [val_zero,he.val] at h
  omega
 have e2:0<idx e↔R n<n:=by
  have h:=@val_lt_iff 0 (idx e);rw [val_zero,he.val] at h
  omega
 rcases hd with rfl | rfl
 ·rw [near_down hs.val (by omega) (by omega)];unfold nud
  by_cases h:n<R n
  ·rw [if_pos h,if_pos ⟨rfl,e1.2 h⟩]
  ·rw [if_neg h,if_neg (fun h'=>h (e1.1 h'.2)),if_neg (by omega)]
 ·rw [near_up hs.val (by omega) (by omega)];unfold nud
  by_cases h:R n<n
  ·rw [if_pos h,if_neg (by omega),if_pos ⟨rfl,e2.2 h⟩]
  ·rw [if_neg h,if_neg (by omega),if_neg (fun h'=>h (e2.1 h'.2))]
theorem fl_mul_units{i j N:Int}{U:Nat}(hU:U=1074)(h:val i*val j=N*2^U):fl i*fl j=(N:Rat)*2^(-1074:Int):=by
 have h1:((val i:Int):Rat)*((val j:Int):Rat)=(N:Rat)*2^(U:Int):=by
  rw [<- Rat.intCast_mul,h,Rat.intCast_mul,Rat.intCast_pow,Rat.zpow_natCast];rfl
 have h2:(2:Rat)^(U:Int)*2^(-1074:Int)=1:=by
  rw [<- zpow_add,show (U:Int)+-1074=0 from by omega];rfl
 unfold fl
 have h3:(val i:Rat)*2^(-1074:Int)*((val j:Rat)*2^(-1074:Int))=((val i:Rat)*(val j:Rat))*2^(-1074:Int)*2^(-1074:Int):=by grind
 rw [h3,h1]
 have h4:(N:Rat)*2^(U:Int)*2^(-1074:Int)*2^(-1074:Int)=(N:Rat)*(2^(U:Int)*2^(-1074:Int))*2^(-1074:Int):=by grind
 rw [h4,h2,Rat.mul_one]
def mid(b:Nat):Bool:=decide (553942754166571008<rungOf b) && decide (rungOf b<8660422083433463808)
theorem mid_iff{b:Nat}:mid b=true↔553942754166571008<rungOf b/\rungOf b<8660422083433463808:=by unfold mid;simp
theorem prod_small{m n V:Int}{a b U g:Nat}(hV:V=m*2^a*(n*2^b))(m2:m.natAbs<2^53)(n2:n.natAbs<2^53)(hg:54<=g)(h:a+b<U):nearRung V.natAbs U<=(g+1)*2^52:=by
 refine nearRung_le ?_;rw [hV,Int.natAbs_mul,Int.natAbs_mul,Int.natAbs_mul,Int.natAbs_pow,Int.natAbs_pow,mag_two_pow,<- Nat.pow_add]
 have k1:m.natAbs*2^a*(n.natAbs*2^b)=m.natAbs*n.natAbs*2^(a+b):=by rw [Nat.pow_add];ac_rfl
 show m.natAbs*2^a*(n.natAbs*2^b)<=_
 rw [k1];have k2:m.natAbs*n.natAbs<=2^53*2^53:=Nat.mul_le_mul (Nat.le_of_lt m2) (Nat.le_of_lt n2);have k3:2^(a+b)<=2^U:=Nat.pow_le_pow_right (by omega) (by omega)
 have k4:2^53*2^53<=2^(52+g):=by rw [<- Nat.pow_add];exact Nat.pow_le_pow_right (by omega) (by omega)
 exact Nat.mul_le_mul (Nat.le_trans k2 k4) k3
theorem inf_write(s:Bool):double.write (.infinity s)=pat (if s then -(M:Int) else M):=by
 cases s
 ·have h:=inf_word (x:=9218868437227405312) (by omega) (by decide);rw [show sgn 9218868437227405312=false from by decide] at h;rw [h];exact pat_max.symm
 ·have h:=inf_word (x:=18442240474082181120) (by omega) (by decide);rw [show sgn 18442240474082181120=true from by decide] at h;rw [h];exact pat_min.symm
theorem digits_pos{b m k:Nat}(h:m*2^k=mag (rungOf b))(hb:rungOf b≠0):m≠0:=by
 rintro rfl;rw [Nat.zero_mul] at h;have:=mag_lt_iff.2 (show 0<rungOf b by omega);rw [mag_zero] at this
 omega
theorem mul_inf{x y:Nat}(hx:rungOf x<=M)(hy:rungOf y<=M)(h:rungOf x=M\/rungOf y=M)(nx:rungOf x≠0)(ny:rungOf y≠0):double.mul x y=some (pat (if (sgn x ^^ sgn y) then -(M:Int) else M)):=by
 unfold Format.mul
 by_cases h1:rungOf x=M
 ·rw [read_inf h1]
  by_cases h2:rungOf y=M
  ·rw [read_inf h2]
   simp only [Datum.product,Option.map_some]
   rw [inf_write]
  ·obtain⟨m,k,e,hm,-⟩:=read_fin (show fin y from by unfold fin;omega);rw [e]
   simp only [Datum.product]
   rw [if_neg (digits_pos hm ny)]
   simp only [Option.map_some]
   rw [inf_write]
 ·have h2:rungOf y=M:=by omega
  rw [read_inf h2];obtain⟨m,k,e,hm,-⟩:=read_fin (show fin x from by unfold fin;omega);rw [e]
  simp only [Datum.product]
  rw [if_neg (digits_pos hm nx)]
  simp only [Option.map_some]
  rw [inf_write,Bool.xor_comm]
end
section
open Go.RowKit
attribute [local go_sem] run_store_float run_frombits run_bitsof run_negf
def NewDy(w:World)(neg:Bool)(S:Nat)(x:Int)(e:Ending)(w':World):Prop:=
 ∃ A n c,e=.returned (.agg #[.bool neg,.slice A n c,.int .i64 x])/\U32s w' A n c (digs S)/\Below w.heap.size w w'
theorem part_walk(b e f S:Nat)(neg:Bool)(w:World)(hb:b<18446744073709551616)(he:b / 4503599627370496 % 2048=e)(hff:b % 4503599627370496=f)(hn:(b / 9223372036854775808 == 1)=neg)(hS:S=if e=0 then f else f+4503599627370496):
  Calls Tryz.prog 189 #[.float .f64 b] w (NewDy w neg S ((if e=0 then (e:Int) else (e:Int) - 1) - 1074)):=by
 have m1:=mask52_u64 hb;rw [hff] at m1
 have m2:bits .and .u64 ((b:Int) / 4503599627370496) 2047=(e:Int):=by
  have h:=mask11_u64 (x:=b / 4503599627370496) (by omega);rw [he,show ((b / 4503599627370496:Nat):Int)=(b:Int) / 4503599627370496 from by omega] at h
  exact h
 have m3:((b:Int) / 9223372036854775808 == 1)=neg:=by
  rw [<- hn,Bool.eq_iff_iff]
  simp only [beq_iff_eq]
  omega
 have ff:=fun W=>run_bitsof b W
 have hf2:f<4503599627370496:=by omega
 have he2:e<2048:=by omega
 have hor:=or_join' (i:=52) (x:=1) (y:=f) (by omega) (by omega) (by omega);rw [show ((1*2^52:Nat):Int)=4503599627370496 from rfl,show (f+1*2^52:Nat)=f+4503599627370496 from rfl] at hor;clear hff hn he
 by_cases h0:e=0
 ·subst h0;rw [if_pos rfl] at hS ⊢;subst hS;have HS:=Hd fun W=>nsmall_any S W (by omega);clear hor;obtain⟨LB0,LR⟩:=bx1 w #[.bool false,.slice none 0 0,.int .i64 0] 168;have LR0:=Hd (HasBlk.of (n:=3) LR.out rfl rfl);clear LR
  go_enter Tryz.func189,Tryz.ntmps189
  go_wp2_with fail;refine (HS.out _).mono ?_;rintro e w1 ⟨A,n,c,rfl,hu,hb1⟩;have LB1:=stB LB0 hb1 LB0.out.size;have LR1:=stR LR0 hb1;clear LB0 LR0;obtain⟨ha0,hf0,ha1,hf1,ha2,hf2⟩:=LR1.out.sf3;obtain⟨hk0,hk1,hk2⟩:=LR1.out.sc3 (.bool neg) (.slice A n c) (.int .i64 (-1074));have F:=Hd (below_sets (w0:=w) (r:=w.heap.size) (by omega) [.bool neg,.slice A n c,.int .i64 (-1074)] 0 _ LB1.out)
  simp [sets] at hk0 hk1 hk2
  have FU:=Hd (LR1.out.u32s hu [.bool neg,.slice A n c,.int .i64 (-1074)]);clear hu hb1 HS;go_wp2;refine bodyPost_ret (v:=.agg #[.bool neg,.slice A n c,.int .i64 (-1074)]) (by simp [results,Tryz.results189,go_sem,hk0,hk1,hk2]) rfl ?_
  exact⟨A,n,c,rfl,FU.out,F.out⟩
 ·rw [if_neg h0] at hS ⊢;subst hS;have HS:=Hd fun W=>nsmall_any (f+4503599627370496) W (by omega)
  obtain⟨S,hS⟩:∃ S,f+4503599627370496=S:=⟨_,rfl⟩
  rw [hS] at HS hor ⊢
  have hei:(0:Int)<(e:Int):=by omega
  clear h0 hS;obtain⟨LB0,LR⟩:=bx1 w #[.bool false,.slice none 0 0,.int .i64 0] 168;have LR0:=Hd (HasBlk.of (n:=3) LR.out rfl rfl);clear LR
  go_enter Tryz.func189,Tryz.ntmps189
  go_wp2_with fail;refine (HS.out _).mono ?_;rintro e w1 ⟨A,n,c,rfl,hu,hb1⟩;have LB1:=stB LB0 hb1 LB0.out.size;have LR1:=stR LR0 hb1;clear LB0 LR0;obtain⟨ha0,hf0,ha1,hf1,ha2,hf2⟩:=LR1.out.sf3;obtain⟨hk0,hk1,hk2⟩:=LR1.out.sc3 (.bool neg) (.slice A n c) (.int .i64 ((e:Int) - 1 - 1074));have F:=Hd (below_sets (w0:=w) (r:=w.heap.size) (by omega) [.bool neg,.slice A n c,.int .i64 ((e:Int) - 1 - 1074)] 0 _ LB1.out)
  simp [sets] at hk0 hk1 hk2
  have FU:=Hd (LR1.out.u32s hu [.bool neg,.slice A n c,.int .i64 ((e:Int) - 1 - 1074)]);clear hu hb1 HS;go_wp2;refine bodyPost_ret (v:=.agg #[.bool neg,.slice A n c,.int .i64 ((e:Int) - 1 - 1074)]) (by simp [results,Tryz.results189,go_sem,hk0,hk1,hk2]) rfl ?_
  exact⟨A,n,c,rfl,FU.out,F.out⟩
theorem part_any(b:Nat)(hb:b<18446744073709551616)(hf:fin b):∃ (S:Nat) (x:Int),S<9007199254740992/\-1074<=x/\x<=971/\fl (idx b)=rv (sgn b) S 1*2^x/\∀ w,Calls Tryz.prog 189 #[.float .f64 b] w (NewDy w (sgn b) S x):=by
 have hp:=fl_parts (b:=b) hf rfl rfl rfl
 have hn:(b / 9223372036854775808 == 1)=sgn b:=by
  unfold sgn;rw [Bool.eq_iff_iff]
  simp only [beq_iff_eq]
  omega
 refine⟨_,_,?_,?_,?_,?_,fun w=>part_walk b _ _ _ (sgn b) w hb rfl rfl hn rfl⟩
 ·split<;>omega
 ·split<;>omega
 ·split<;>omega
 ·by_cases h0:b / 4503599627370496 % 2048=0
  ·rw [if_pos h0,if_pos h0];exact hp.2.2.2 h0
  ·rw [if_neg h0,if_neg h0];exact hp.2.2.1 (by omega)
end
section
open Go.RowKit
attribute [local go_sem] run_store_float run_frombits run_bitsof run_negf
theorem sum_left(n1:Bool)(A1:Option Addr)(m1 c1 S1:Nat)(e1:Int)(n2:Bool)(A2:Option Addr)(m2 c2 S2:Nat)(e2:Int)(w:World)(h2:U32s w A2 m2 c2 (digs S2))(hm:m1=0):Calls Tryz.prog 201 #[.agg #[.bool n1,.slice A1 m1 c1,.int .i64 e1],.agg #[.bool n2,.slice A2 m2 c2,.int .i64 e2]] w (NewDy w n2 S2 e2):=by
 subst hm;have H2:=Hd h2;clear h2;obtain⟨LB0,LG0_0,LG1_0,LR⟩:=bx3 w #[.bool n1,.slice A1 0 c1,.int .i64 e1] 168 #[.bool n2,.slice A2 m2 c2,.int .i64 e2] 168 #[.bool false,.slice none 0 0,.int .i64 0] 168;have LR0:=Hd (HasBlk.of (n:=3) LR.out rfl rfl);clear LR;clear LB0 LG0_0 LG1_0 LR0
 go_enter Tryz.func201,Tryz.ntmps201
 go_wp2;refine bodyPost_ret (v:=.agg #[.bool n2,.slice A2 m2 c2,.int .i64 e2]) (by simp [results,Tryz.results201,go_sem]) rfl ?_
 exact have b:=(((below_alloc w _).alloc (by simp<;>omega) _).alloc (by simp<;>omega) _);⟨A2,m2,c2,rfl,H2.out.below b,b⟩
theorem sum_right(n1:Bool)(A1:Option Addr)(m1 c1 S1:Nat)(e1:Int)(n2:Bool)(A2:Option Addr)(m2 c2 S2:Nat)(e2:Int)(w:World)(h1:U32s w A1 m1 c1 (digs S1))(hm1:0<m1)(hm:m2=0):Calls Tryz.prog 201 #[.agg #[.bool n1,.slice A1 m1 c1,.int .i64 e1],.agg #[.bool n2,.slice A2 m2 c2,.int .i64 e2]] w (NewDy w n1 S1 e1):=by
 subst hm
 have hq1:((m1:Int) == 0)=false:=by simp;omega
 have H1:=Hd h1;clear h1 hm1;obtain⟨LB0,LG0_0,LG1_0,LR⟩:=bx3 w #[.bool n1,.slice A1 m1 c1,.int .i64 e1] 168 #[.bool n2,.slice A2 0 c2,.int .i64 e2] 168 #[.bool false,.slice none 0 0,.int .i64 0] 168;have LR0:=Hd (HasBlk.of (n:=3) LR.out rfl rfl);clear LR;clear LB0 LG0_0 LG1_0 LR0
 go_enter Tryz.func201,Tryz.ntmps201
 go_wp2;refine bodyPost_ret (v:=.agg #[.bool n1,.slice A1 m1 c1,.int .i64 e1]) (by simp [results,Tryz.results201,go_sem]) rfl ?_
 exact have b:=(((below_alloc w _).alloc (by simp<;>omega) _).alloc (by simp<;>omega) _);⟨A1,m1,c1,rfl,H1.out.below b,b⟩
theorem sum_two(sw:Bool)(n1:Bool)(A1:Option Addr)(m1 c1 S1:Nat)(e1:Int)(n2:Bool)(A2:Option Addr)(m2 c2 S2:Nat)(e2:Int)(k:Nat)(w:World)(h1:U32s w A1 m1 c1 (digs S1))(h2:U32s w A2 m2 c2 (digs S2))(hS1:0<S1)(hS2:0<S2)(hle:e1<=e2)(hsw:sw=true->e1<e2)(hk:e2=e1+k)(he1:-1000000<=e1/\e1<=1000000)(he2:-1000000<=e2/\e2<=1000000)(hb1:blen S1<=500000)(hb2:blen S2+k<=500000):
  Calls Tryz.prog 201 #[cond sw (.agg #[.bool n2,.slice A2 m2 c2,.int .i64 e2]) (.agg #[.bool n1,.slice A1 m1 c1,.int .i64 e1]),cond sw (.agg #[.bool n1,.slice A1 m1 c1,.int .i64 e1]) (.agg #[.bool n2,.slice A2 m2 c2,.int .i64 e2])] w (NewDy w (dsum n1 S1 n2 (S2*2^k)).1 (dsum n1 S1 n2 (S2*2^k)).2 e1):=by
 have hq1:((m1:Int) == 0)=false:=by
  have:=digs_len_pos hS1 h1.len
  simp;omega
 have hq2:((m2:Int) == 0)=false:=by
  have:=digs_len_pos hS2 h2.len
  simp;omega
 have hek:e2 - e1=(k:Int):=by omega
 have hbq:=blen_shl S2 k hS2
 obtain⟨T,hT⟩:∃ T,S2*2^k=T:=⟨_,rfl⟩
 have HSH:=Hd fun W (hW:Below w.heap.size w W)=>nshl_any A2 m2 c2 k (digs S2) W (h2.below hW) (wlen_digs_le (K:=16384) (by omega)) (by rw [num_digs];omega);rw [num_digs,hT] at HSH;rw [hT] at hbq ⊢;have HP:=Hd h1;have HBP:=Hd hb1;have HBT:=Hd (show blen T<=500000 by omega);have HADD:=Hd fun W (B:Option Addr) (mB cB:Nat) (hW:Below w.heap.size w W) (hB:U32s W B mB cB (digs T))=>nadd_any A1 B m1 c1 mB cB (digs S1) (digs T) W (h1.below hW) hB (wlen_digs_le (K:=16383) (by omega)) (wlen_digs_le (K:=16383) (by omega));have HCMP:=Hd fun W (B:Option Addr) (mB cB:Nat) (hW:Below w.heap.size w W) (hB:U32s W B mB cB (digs T))=>ncmp_any A1 B m1 c1 mB cB (digs S1) (digs T) W (h1.below hW) hB;have HSB1:=Hd fun (hle:T<=S1) W (B:Option Addr) (mB cB:Nat) (hW:Below w.heap.size w W) (hB:U32s W B mB cB (digs T))=>nsub_any A1 B m1 c1 mB cB (digs S1) (digs T) W (h1.below hW) hB (wlen_digs_le (K:=16384) (by omega)) (wlen_digs_le (K:=16384) (by omega)) (by rw [num_digs,num_digs];exact hle);have HSB2:=Hd fun (hle:S1<=T) W (B:Option Addr) (mB cB:Nat) (hW:Below w.heap.size w W) (hB:U32s W B mB cB (digs T))=>nsub_any B A1 mB cB m1 c1 (digs T) (digs S1) W hB (h1.below hW) (wlen_digs_le (K:=16384) (by omega)) (wlen_digs_le (K:=16384) (by omega)) (by rw [num_digs,num_digs];exact hle);rw [num_digs,num_digs] at HADD HCMP HSB1 HSB2
 have hee:e1 - e2<=2000000/\-2000000<=e1 - e2:=by omega
 have hef:e2 - e1<=2000000/\-2000000<=e2 - e1:=by omega
 obtain⟨ng,hng⟩:∃ b,(dsum n1 S1 n2 T).1=b:=⟨_,rfl⟩
 obtain⟨Sg,hsg⟩:∃ b,(dsum n1 S1 n2 T).2=b:=⟨_,rfl⟩
 rw [hng,hsg];have HDS:=Hd (show dsum n1 S1 n2 T=(ng,Sg) from by rw [<- hng,<- hsg]);clear hng hsg;clear h1 h2 hS1 hS2 hT hbq hb1 hb2 hk
 cases sw
 all_goals
  dsimp only [cond]
  first
  | (replace hsw:=hsw rfl
     clear hle;obtain⟨LB0,LG0_0,LG1_0,LR⟩:=bx3 w #[.bool n2,.slice A2 m2 c2,.int .i64 e2] 168 #[.bool n1,.slice A1 m1 c1,.int .i64 e1] 168 #[.bool false,.slice none 0 0,.int .i64 0] 168;have LR0:=Hd (HasBlk.of (n:=3) LR.out rfl rfl);clear LR
     go_enter Tryz.func201,Tryz.ntmps201
     obtain⟨q0_0,q0_1,q0_2⟩:=LG0_0.out.c3;obtain⟨q1_0,q1_1,q1_2⟩:=LG1_0.out.c3;have hf00:=LG0_0.out.frozen 0;have hf01:=LG0_0.out.frozen 1;have hf02:=LG0_0.out.frozen 2;have hf10:=LG1_0.out.frozen 0;have hf11:=LG1_0.out.frozen 1;have hf12:=LG1_0.out.frozen 2
     go_upto_region 7 with fail
     clear q0_0 q0_1 q0_2 q1_0 q1_1 q1_2 hf00 hf01 hf02 hf10 hf11 hf12;clear LB0 LR0 LG0_0 LG1_0;obtain⟨LB0,LG0_0,LG1_0,LR⟩:=bx3 w #[.bool n1,.slice A1 m1 c1,.int .i64 e1] 168 #[.bool n2,.slice A2 m2 c2,.int .i64 e2] 168 #[.bool false,.slice none 0 0,.int .i64 0] 168;have LR0:=Hd (HasBlk.of (n:=3) LR.out rfl rfl);clear LR;obtain⟨q0_0,q0_1,q0_2⟩:=LG0_0.out.c3
     obtain⟨q1_0,q1_1,q1_2⟩:=LG1_0.out.c3)
  | (clear hsw
     obtain⟨LB0,LG0_0,LG1_0,LR⟩:=bx3 w #[.bool n1,.slice A1 m1 c1,.int .i64 e1] 168 #[.bool n2,.slice A2 m2 c2,.int .i64 e2] 168 #[.bool false,.slice none 0 0,.int .i64 0] 168;have LR0:=Hd (HasBlk.of (n:=3) LR.out rfl rfl);clear LR
     go_enter Tryz.func201,Tryz.ntmps201
     obtain⟨q0_0,q0_1,q0_2⟩:=LG0_0.out.c3
     obtain⟨q1_0,q1_1,q1_2⟩:=LG1_0.out.c3)
  go_wp2_with fail;refine (HSH.out _ LB0.out).mono ?_;rintro e w2 ⟨A3,m3,c3,rfl,hu3,hbb2⟩;have LB1:=stB LB0 hbb2 LB0.out.size;have LR1:=stR LR0 hbb2;have LG0_1:=stG LG0_0 hbb2;have LG1_1:=stG LG1_0 hbb2;clear LB0 LR0 LG0_0 LG1_0;clear hbb2 q0_0 q0_1 q0_2 q1_0 q1_1 q1_2;obtain⟨q1_0,q1_1,q1_2⟩:=LG1_1.out.c3;have hf1:=LG1_1.out.frozen 1
  go_upto_region 8 with fail
  clear q1_0 q1_1 q1_2 hf1;have hu3s:=hu3.carry LG1_1.out rfl 1 (.slice A3 m3 c3);have LB2:=Hd (LB1.out.setCell (p:=⟨(w.heap.size+1),1,none⟩) (show w.heap.size<=(w.heap.size+1) by omega) (.slice A3 m3 c3));have LR2:=Hd (show HasBlk (w2.setCell ⟨(w.heap.size+1),1,none⟩ (.slice A3 m3 c3)) (w.heap.size+2) 168 3 from LR1.out.other (by omega) 1 [.slice A3 m3 c3]);have LG0_2:=Hd (show Blk (w2.setCell ⟨(w.heap.size+1),1,none⟩ (.slice A3 m3 c3)) w.heap.size 168 #[.bool n1,.slice A1 m1 c1,.int .i64 e1] from LG0_1.out.other (by omega) 1 [.slice A3 m3 c3]);have LG1_2:=Hd (LG1_1.out.set 1 (.slice A3 m3 c3));clear LB1 LR1 LG0_1 LG1_1
  obtain⟨V3,hV3⟩:∃ X,(w2.setCell ⟨(w.heap.size+1),1,none⟩ (.slice A3 m3 c3))=X:=⟨_,rfl⟩
  rw [hV3] at hu3s LB2 LR2 LG0_2 LG1_2 ⊢;have HU3:=Hd hu3s;clear hV3 hu3 hu3s HSH
  by_cases hs:n1=n2
  ·subst hs;have HN:=Hd (show ng=n1/\Sg=S1+T from by have h:=HDS.out;unfold dsum at h;rw [if_pos rfl] at h;cases h;exact⟨rfl,rfl⟩);clear HDS;obtain⟨q0_0,q0_1,q0_2⟩:=LG0_2.out.c3;obtain⟨q1_0,q1_1,q1_2⟩:=LG1_2.out.c3;go_wp2_with fail;refine (HADD.out _ _ _ _ LB2.out HU3.out).mono ?_;rintro e w4 ⟨A4,m4,c4,rfl,hu4,hbb4⟩;have LB3:=stB LB2 hbb4 LB2.out.size;have LR3:=stR LR2 hbb4;have LG0_3:=stG LG0_2 hbb4;have LG1_3:=stG LG1_2 hbb4;clear LB2 LR2 LG0_2 LG1_2;clear hbb4 q0_0 q0_1 q0_2 q1_0 q1_1 q1_2;obtain⟨q0_0,q0_1,q0_2⟩:=LG0_3.out.c3;have hf1:=LG0_3.out.frozen 1;have hu4s:=hu4.carry LG0_3.out rfl 1 (.slice A4 m4 c4)
   go_upto_region 10 with fail
   clear q0_0 q0_1 q0_2 hf1;have LB4:=Hd (LB3.out.setCell (p:=⟨w.heap.size,1,none⟩) (show w.heap.size<=w.heap.size by omega) (.slice A4 m4 c4));have LR4:=Hd (show HasBlk (w4.setCell ⟨w.heap.size,1,none⟩ (.slice A4 m4 c4)) (w.heap.size+2) 168 3 from LR3.out.other (by omega) 1 [.slice A4 m4 c4]);have LG0_4:=Hd (LG0_3.out.set 1 (.slice A4 m4 c4));have LG1_4:=Hd (show Blk (w4.setCell ⟨w.heap.size,1,none⟩ (.slice A4 m4 c4)) (w.heap.size+1) 168 #[.bool n1,.slice A3 m3 c3,.int .i64 e2] from LG1_3.out.other (by omega) 1 [.slice A4 m4 c4]);clear LB3 LR3 LG0_3 LG1_3
   obtain⟨V4,hV4⟩:∃ X,(w4.setCell ⟨w.heap.size,1,none⟩ (.slice A4 m4 c4))=X:=⟨_,rfl⟩
   rw [hV4] at hu4s LB4 LR4 LG0_4 LG1_4 ⊢;clear hV4 hu4;obtain⟨q0_0,q0_1,q0_2⟩:=LG0_4.out.c3;obtain⟨ha0,hf0,ha1,hf1,ha2,hf2⟩:=LR4.out.sf3;obtain⟨hk0,hk1,hk2⟩:=LR4.out.sc3 (.bool n1) (.slice A4 m4 c4) (.int .i64 e1);have F:=Hd (below_sets (w0:=w) (r:=(w.heap.size+2)) (by omega) [.bool n1,.slice A4 m4 c4,.int .i64 e1] 0 _ LB4.out)
   simp [sets] at hk0 hk1 hk2
   have FU:=Hd (LR4.out.u32s hu4s [.bool n1,.slice A4 m4 c4,.int .i64 e1]);clear hu4s;go_wp2;refine bodyPost_ret (v:=.agg #[.bool n1,.slice A4 m4 c4,.int .i64 e1]) (by simp [results,Tryz.results201,go_sem,hk0,hk1,hk2]) rfl ?_
   exact⟨A4,m4,c4,by rw [HN.out.1],by rw [HN.out.2];exact FU.out,F.out⟩
  ·have hs2:(n1 == n2)=false:=by simp [hs]
   obtain⟨q0_0,q0_1,q0_2⟩:=LG0_2.out.c3;obtain⟨q1_0,q1_1,q1_2⟩:=LG1_2.out.c3;go_wp2_with fail;refine (HCMP.out _ _ _ _ LB2.out HU3.out).mono ?_;rintro e w3 ⟨rfl,z,hz⟩
   have hbb3:Below V3.heap.size V3 w3:=by rw [hz];exact below_drewN (Below.refl _ _) z
   have LB3:=stB LB2 hbb3 LB2.out.size;have LR3:=stR LR2 hbb3;have LG0_3:=stG LG0_2 hbb3;have LG1_3:=stG LG1_2 hbb3;clear LB2 LR2 LG0_2 LG1_2;have HU3b:=Hd (HU3.out.below hbb3);clear hz hbb3 HU3 q0_0 q0_1 q0_2 q1_0 q1_1 q1_2
   by_cases hlt:S1<T
   ·have HN:=Hd (show ng=n2/\Sg=T - S1 from by have h:=HDS.out;unfold dsum at h;rw [if_neg hs,if_pos hlt] at h;cases h;exact⟨rfl,rfl⟩);rw [cmp3_lt hlt];clear HDS hs;obtain⟨q0_0,q0_1,q0_2⟩:=LG0_3.out.c3;obtain⟨q1_0,q1_1,q1_2⟩:=LG1_3.out.c3;have hf0:=LG0_3.out.frozen 0
    go_upto_region 13 with fail
    clear q0_0 q0_1 q0_2 q1_0 q1_1 q1_2 hf0;have hu5:=HU3b.out.carry LG0_3.out rfl 0 (.bool n2);have LB4:=Hd (LB3.out.setCell (p:=⟨w.heap.size,0,none⟩) (show w.heap.size<=w.heap.size by omega) (.bool n2));have LR4:=Hd (show HasBlk (w3.setCell ⟨w.heap.size,0,none⟩ (.bool n2)) (w.heap.size+2) 168 3 from LR3.out.other (by omega) 0 [.bool n2]);have LG0_4:=Hd (LG0_3.out.set 0 (.bool n2));have LG1_4:=Hd (show Blk (w3.setCell ⟨w.heap.size,0,none⟩ (.bool n2)) (w.heap.size+1) 168 #[.bool n2,.slice A3 m3 c3,.int .i64 e2] from LG1_3.out.other (by omega) 0 [.bool n2]);clear LB3 LR3 LG0_3 LG1_3
    obtain⟨V5,hV5⟩:∃ X,(w3.setCell ⟨w.heap.size,0,none⟩ (.bool n2))=X:=⟨_,rfl⟩
    rw [hV5] at hu5 LB4 LR4 LG0_4 LG1_4 ⊢;clear hV5;obtain⟨q0_0,q0_1,q0_2⟩:=LG0_4.out.c3;obtain⟨q1_0,q1_1,q1_2⟩:=LG1_4.out.c3;have hf01:=LG0_4.out.frozen 1;have hf11:=LG1_4.out.frozen 1
    go_upto_region 14 with fail
    clear q0_0 q0_1 q0_2 q1_0 q1_1 q1_2 hf01 hf11;have hu6:=hu5.carry LG0_4.out rfl 1 (.slice A3 m3 c3);have LB5:=Hd (LB4.out.setCell (p:=⟨w.heap.size,1,none⟩) (show w.heap.size<=w.heap.size by omega) (.slice A3 m3 c3));have LR5:=Hd (show HasBlk (V5.setCell ⟨w.heap.size,1,none⟩ (.slice A3 m3 c3)) (w.heap.size+2) 168 3 from LR4.out.other (by omega) 1 [.slice A3 m3 c3]);have LG0_5:=Hd (LG0_4.out.set 1 (.slice A3 m3 c3));have LG1_5:=Hd (show Blk (V5.setCell ⟨w.heap.size,1,none⟩ (.slice A3 m3 c3)) (w.heap.size+1) 168 #[.bool n2,.slice A3 m3 c3,.int .i64 e2] from LG1_4.out.other (by omega) 1 [.slice A3 m3 c3]);clear LB4 LR4 LG0_4 LG1_4
    obtain⟨V6,hV6⟩:∃ X,(V5.setCell ⟨w.heap.size,1,none⟩ (.slice A3 m3 c3))=X:=⟨_,rfl⟩
    rw [hV6] at hu6 LB5 LR5 LG0_5 LG1_5 ⊢;clear hV6;have hu7:=hu6.carry LG1_5.out rfl 1 (.slice A1 m1 c1);have LB6:=Hd (LB5.out.setCell (p:=⟨(w.heap.size+1),1,none⟩) (show w.heap.size<=(w.heap.size+1) by omega) (.slice A1 m1 c1));have LR6:=Hd (show HasBlk (V6.setCell ⟨(w.heap.size+1),1,none⟩ (.slice A1 m1 c1)) (w.heap.size+2) 168 3 from LR5.out.other (by omega) 1 [.slice A1 m1 c1]);have LG0_6:=Hd (show Blk (V6.setCell ⟨(w.heap.size+1),1,none⟩ (.slice A1 m1 c1)) w.heap.size 168 #[.bool n2,.slice A3 m3 c3,.int .i64 e1] from LG0_5.out.other (by omega) 1 [.slice A1 m1 c1]);have LG1_6:=Hd (LG1_5.out.set 1 (.slice A1 m1 c1));clear LB5 LR5 LG0_5 LG1_5
    obtain⟨V7,hV7⟩:∃ X,(V6.setCell ⟨(w.heap.size+1),1,none⟩ (.slice A1 m1 c1))=X:=⟨_,rfl⟩
    rw [hV7] at hu7 LB6 LR6 LG0_6 LG1_6 ⊢;clear hV7 hu5 hu6;have HU7:=Hd hu7;clear hu7;obtain⟨q0_0,q0_1,q0_2⟩:=LG0_6.out.c3;obtain⟨q1_0,q1_1,q1_2⟩:=LG1_6.out.c3;go_wp2_with fail;refine (HSB2.out (Nat.le_of_lt hlt) _ _ _ _ LB6.out HU7.out).mono ?_;rintro e w4 ⟨A4,m4,c4,rfl,hu4,hbb4⟩;have LB7:=stB LB6 hbb4 LB6.out.size;have LR7:=stR LR6 hbb4;have LG0_7:=stG LG0_6 hbb4;have LG1_7:=stG LG1_6 hbb4;clear LB6 LR6 LG0_6 LG1_6;clear hbb4 q0_0 q0_1 q0_2 q1_0 q1_1 q1_2;obtain⟨q0_0,q0_1,q0_2⟩:=LG0_7.out.c3;have hf1:=LG0_7.out.frozen 1;have hu4s:=hu4.carry LG0_7.out rfl 1 (.slice A4 m4 c4)
    go_upto_region 15 with fail
    clear q0_0 q0_1 q0_2 hf1;have LB8:=Hd (LB7.out.setCell (p:=⟨w.heap.size,1,none⟩) (show w.heap.size<=w.heap.size by omega) (.slice A4 m4 c4));have LR8:=Hd (show HasBlk (w4.setCell ⟨w.heap.size,1,none⟩ (.slice A4 m4 c4)) (w.heap.size+2) 168 3 from LR7.out.other (by omega) 1 [.slice A4 m4 c4]);have LG0_8:=Hd (LG0_7.out.set 1 (.slice A4 m4 c4));have LG1_8:=Hd (show Blk (w4.setCell ⟨w.heap.size,1,none⟩ (.slice A4 m4 c4)) (w.heap.size+1) 168 #[.bool n2,.slice A1 m1 c1,.int .i64 e2] from LG1_7.out.other (by omega) 1 [.slice A4 m4 c4]);clear LB7 LR7 LG0_7 LG1_7
    obtain⟨V4,hV4⟩:∃ X,(w4.setCell ⟨w.heap.size,1,none⟩ (.slice A4 m4 c4))=X:=⟨_,rfl⟩
    rw [hV4] at hu4s LB8 LR8 LG0_8 LG1_8 ⊢;clear hV4 hu4;obtain⟨q0_0,q0_1,q0_2⟩:=LG0_8.out.c3;obtain⟨ha0,hf0,ha1,hf1,ha2,hf2⟩:=LR8.out.sf3;obtain⟨hk0,hk1,hk2⟩:=LR8.out.sc3 (.bool n2) (.slice A4 m4 c4) (.int .i64 e1);have F:=Hd (below_sets (w0:=w) (r:=(w.heap.size+2)) (by omega) [.bool n2,.slice A4 m4 c4,.int .i64 e1] 0 _ LB8.out)
    simp [sets] at hk0 hk1 hk2
    have FU:=Hd (LR8.out.u32s hu4s [.bool n2,.slice A4 m4 c4,.int .i64 e1]);clear hu4s;go_wp2;refine bodyPost_ret (v:=.agg #[.bool n2,.slice A4 m4 c4,.int .i64 e1]) (by simp [results,Tryz.results201,go_sem,hk0,hk1,hk2]) rfl ?_
    exact⟨A4,m4,c4,by rw [HN.out.1],by rw [HN.out.2];exact FU.out,F.out⟩
   ·have HN:=Hd (show ng=n1/\Sg=S1 - T from by have h:=HDS.out;unfold dsum at h;rw [if_neg hs,if_neg hlt] at h;cases h;exact⟨rfl,rfl⟩);clear HDS hs;have hc3:¬ cmp3 S1 T<0:=fun h=>hlt (cmp3_neg.1 h)
    obtain⟨r,hr⟩:∃ r,cmp3 S1 T=r:=⟨_,rfl⟩
    rw [hr] at hc3 ⊢;clear hr;obtain⟨q0_0,q0_1,q0_2⟩:=LG0_3.out.c3;obtain⟨q1_0,q1_1,q1_2⟩:=LG1_3.out.c3;go_wp2_with fail;refine (HSB1.out (Nat.le_of_not_lt hlt) _ _ _ _ LB3.out HU3b.out).mono ?_;rintro e w4 ⟨A4,m4,c4,rfl,hu4,hbb4⟩;have LB4:=stB LB3 hbb4 LB3.out.size;have LR4:=stR LR3 hbb4;have LG0_4:=stG LG0_3 hbb4;have LG1_4:=stG LG1_3 hbb4;clear LB3 LR3 LG0_3 LG1_3;clear hbb4 q0_0 q0_1 q0_2 q1_0 q1_1 q1_2;obtain⟨q0_0,q0_1,q0_2⟩:=LG0_4.out.c3;have hf1:=LG0_4.out.frozen 1;have hu4s:=hu4.carry LG0_4.out rfl 1 (.slice A4 m4 c4)
    go_upto_region 15 with fail
    clear q0_0 q0_1 q0_2 hf1;have LB5:=Hd (LB4.out.setCell (p:=⟨w.heap.size,1,none⟩) (show w.heap.size<=w.heap.size by omega) (.slice A4 m4 c4));have LR5:=Hd (show HasBlk (w4.setCell ⟨w.heap.size,1,none⟩ (.slice A4 m4 c4)) (w.heap.size+2) 168 3 from LR4.out.other (by omega) 1 [.slice A4 m4 c4]);have LG0_5:=Hd (LG0_4.out.set 1 (.slice A4 m4 c4));have LG1_5:=Hd (show Blk (w4.setCell ⟨w.heap.size,1,none⟩ (.slice A4 m4 c4)) (w.heap.size+1) 168 #[.bool n2,.slice A3 m3 c3,.int .i64 e2] from LG1_4.out.other (by omega) 1 [.slice A4 m4 c4]);clear LB4 LR4 LG0_4 LG1_4
    obtain⟨V4,hV4⟩:∃ X,(w4.setCell ⟨w.heap.size,1,none⟩ (.slice A4 m4 c4))=X:=⟨_,rfl⟩
    rw [hV4] at hu4s LB5 LR5 LG0_5 LG1_5 ⊢;clear hV4 hu4;obtain⟨q0_0,q0_1,q0_2⟩:=LG0_5.out.c3;obtain⟨ha0,hf0,ha1,hf1,ha2,hf2⟩:=LR5.out.sf3;obtain⟨hk0,hk1,hk2⟩:=LR5.out.sc3 (.bool n1) (.slice A4 m4 c4) (.int .i64 e1);have F:=Hd (below_sets (w0:=w) (r:=(w.heap.size+2)) (by omega) [.bool n1,.slice A4 m4 c4,.int .i64 e1] 0 _ LB5.out)
    simp [sets] at hk0 hk1 hk2
    have FU:=Hd (LR5.out.u32s hu4s [.bool n1,.slice A4 m4 c4,.int .i64 e1]);clear hu4s;go_wp2;refine bodyPost_ret (v:=.agg #[.bool n1,.slice A4 m4 c4,.int .i64 e1]) (by simp [results,Tryz.results201,go_sem,hk0,hk1,hk2]) rfl ?_
    exact⟨A4,m4,c4,by rw [HN.out.1],by rw [HN.out.2];exact FU.out,F.out⟩
end
section
open Go.RowKit
attribute [local go_sem] run_store_float run_frombits run_bitsof run_negf
def dsF(n1:Bool)(S1:Nat)(e1:Int)(n2:Bool)(S2:Nat)(e2:Int):Bool × Nat × Int:=
 if S1=0 then (n2,S2,e2) else if S2=0 then (n1,S1,e1)
 else if e2<e1 then ((dsum n2 S2 n1 (S1*2^(e1 - e2).toNat)).1,(dsum n2 S2 n1 (S1*2^(e1 - e2).toNat)).2,e2)
 else ((dsum n1 S1 n2 (S2*2^(e2 - e1).toNat)).1,(dsum n1 S1 n2 (S2*2^(e2 - e1).toNat)).2,e1)
theorem sum_any(n1:Bool)(A1:Option Addr)(m1 c1 S1:Nat)(e1:Int)(n2:Bool)(A2:Option Addr)(m2 c2 S2:Nat)(e2:Int)(w:World)(h1:U32s w A1 m1 c1 (digs S1))(h2:U32s w A2 m2 c2 (digs S2))
  (he1:-1000000<=e1/\e1<=1000000)(he2:-1000000<=e2/\e2<=1000000)(hb1:(blen S1:Int)+(e1 - e2).toNat<=500000)(hb2:(blen S2:Int)+(e2 - e1).toNat<=500000):
  Calls Tryz.prog 201 #[.agg #[.bool n1,.slice A1 m1 c1,.int .i64 e1],.agg #[.bool n2,.slice A2 m2 c2,.int .i64 e2]] w (NewDy w (dsF n1 S1 e1 n2 S2 e2).1 (dsF n1 S1 e1 n2 S2 e2).2.1 (dsF n1 S1 e1 n2 S2 e2).2.2):=by
 unfold dsF
 by_cases h0:S1=0
 ·rw [if_pos h0];refine sum_left n1 A1 m1 c1 S1 e1 n2 A2 m2 c2 S2 e2 w h2 ?_;rw [<- h1.len,digs_length_eq_zero];exact h0
 ·rw [if_neg h0];have hp1:=digs_len_pos (S:=S1) (by omega) h1.len
  by_cases h0':S2=0
  ·rw [if_pos h0'];refine sum_right n1 A1 m1 c1 S1 e1 n2 A2 m2 c2 S2 e2 w h1 hp1 ?_;rw [<- h2.len,digs_length_eq_zero];exact h0'
  ·rw [if_neg h0']
   by_cases hlt:e2<e1
   ·rw [if_pos hlt]
    exact sum_two true n2 A2 m2 c2 S2 e2 n1 A1 m1 c1 S1 e1 (e1 - e2).toNat w h2 h1 (by omega) (by omega) (by omega) (fun _=>hlt) (by omega) he2 he1 (by omega) (by omega)
   ·rw [if_neg hlt]
    exact sum_two false n1 A1 m1 c1 S1 e1 n2 A2 m2 c2 S2 e2 (e2 - e1).toNat w h1 h2 (by omega) (by omega) (by omega) (fun h=>by cases h) (by omega) he1 he2 (by omega) (by omega)
theorem dsF_val(n1:Bool)(S1:Nat)(e1:Int)(n2:Bool)(S2:Nat)(e2:Int):
  rv (dsF n1 S1 e1 n2 S2 e2).1 (dsF n1 S1 e1 n2 S2 e2).2.1 1*2^(dsF n1 S1 e1 n2 S2 e2).2.2=rv n1 S1 1*2^e1+rv n2 S2 1*2^e2:=by
 unfold dsF
 by_cases h0:S1=0
 ·rw [if_pos h0,h0,rv_zero];grind
 ·rw [if_neg h0]
  by_cases h0':S2=0
  ·rw [if_pos h0',h0',rv_zero];grind
  ·rw [if_neg h0']
   by_cases hlt:e2<e1
   ·rw [if_pos hlt]
    dsimp only
    rw [dsum_val,<- rv_shift n1 S1 (e1 - e2).toNat e2 e1 (by omega)];grind
   ·rw [if_neg hlt]
    dsimp only
    rw [dsum_val,<- rv_shift n2 S2 (e2 - e1).toNat e1 e2 (by omega)];grind
theorem dsF_bound(n1:Bool)(S1:Nat)(e1:Int)(n2:Bool)(S2:Nat)(e2:Int)(P:Nat)(h1:blen S1+(e1 - e2).toNat<=P)(h2:blen S2+(e2 - e1).toNat<=P):
  blen (dsF n1 S1 e1 n2 S2 e2).2.1<=P+1/\((dsF n1 S1 e1 n2 S2 e2).2.2=e1\/(dsF n1 S1 e1 n2 S2 e2).2.2=e2):=by
 unfold dsF
 by_cases h0:S1=0
 ·rw [if_pos h0];exact⟨by dsimp only;omega,.inr rfl⟩
 ·rw [if_neg h0]
  by_cases h0':S2=0
  ·rw [if_pos h0'];exact⟨by dsimp only;omega,.inl rfl⟩
  ·rw [if_neg h0']
   by_cases hlt:e2<e1
   ·rw [if_pos hlt]
    exact⟨dsum_blen _ _ _ _ _ (by omega) (by rw [blen_shl _ _ (by omega)];omega),.inr rfl⟩
   ·rw [if_neg hlt]
    exact⟨dsum_blen _ _ _ _ _ (by omega) (by rw [blen_shl _ _ (by omega)];omega),.inl rfl⟩
theorem rv_exact(n:Bool)(S:Nat)(x:Int):rv n (S*2^x.toNat) (2^(-x).toNat)=rv n S 1*2^x:=by
 have h:=rv_scale n (p:=S) (q:=1) (by omega) x;rw [Nat.one_mul] at h;exact h
theorem to_any(d:Int)(neg:Bool)(A:Option Addr)(n c S:Nat)(x:Int)(w:World)(hu:U32s w A n c (digs S))(hd:d=-1\/d=1)(hb:blen S<=524288)(hx1:-1000000<=x)(hx2:x<=1099511627776):
  Rt 190 #[.agg #[.bool neg,.slice A n c,.int .i64 x],.int .i64 d] (.float .f64 (pat (rndI d (rv neg S 1*2^x)))) w:=by
 have HO:=Hd (show ∀ W,Below w.heap.size w W->Rt 230 #[.int .i64 d,.bool neg,.slice A n c,.int .i64 x,.bool false] (.float .f64 (pat (rndI d (rv neg S 1*2^x)))) W from fun W hW=>by
  rcases Nat.eq_zero_or_pos S with h0 | h0
  ·subst h0;rw [rv_zero,Rat.zero_mul,rndI_zero hd,pat_zero];refine cy (of_nought d neg false A n c (digs 0) x W (hu.below hW) (num_digs 0)) ?_
   exact⟨rfl,Below.refl _ _⟩
  ·rw [<- rv_exact]
   exact of_pos d neg false A n c S _ _ (digs S) x W (hu.below hW) (num_digs S) h0 (wlen_blen hb) hd (Dg.exact S x) (Nat.two_pow_pos _) (fun h=>by cases h) hx1 hx2)
 obtain⟨r,hr⟩:∃ r,pat (rndI d (rv neg S 1*2^x))=r:=⟨_,rfl⟩
 rw [hr] at HO ⊢;clear hu hd hr;obtain⟨LB0,LG0_0⟩:=bx1 w #[.bool neg,.slice A n c,.int .i64 x] 168
 go_enter Tryz.func190,Tryz.ntmps190
 obtain⟨q0_0,q0_1,q0_2⟩:=LG0_0.out.c3;go_wp2_with fail;refine cx (HO.out _ LB0.out) fun w1 hb1=>?_;have LB1:=stB LB0 hb1 LB0.out.size;have LG0_1:=stG LG0_0 hb1;clear LB0 LG0_0;clear hb1 HO q0_0 q0_1 q0_2;go_wp2
 go_ret
 exact⟨rfl,LB1.out⟩
end
section
open Go.RowKit
attribute [local go_sem] run_store_float run_frombits run_bitsof run_negf
theorem odd_two(g x y:Nat)(w:World)(hx:x<18446744073709551616)(hy:y<18446744073709551616)(rx:rungOf x<=M)(ry:rungOf y<=M)(c0:w.cell? ⟨g,0,none⟩=some (.float .f64 x))(c1:w.cell? ⟨g,1,none⟩=some (.float .f64 y)):
  Calls Tryz.prog 183 #[.slice (some ⟨g,0,none⟩) 2 2] w fun e w'=>e=.returned (.bool (decide (rungOf x=M) || decide (rungOf y=M)))/\w=w':=by
 have N0:=Hd (isnanf x w rx);have N1:=Hd (isnanf y w ry);have I0:=Hd (isinff x w hx rx);have I1:=Hd (isinff y w hy ry)
 obtain⟨b0,e0⟩:∃ p,decide (rungOf x=M)=p:=⟨_,rfl⟩
 obtain⟨b1,e1⟩:∃ p,decide (rungOf y=M)=p:=⟨_,rfl⟩
 rw [e0] at I0 ⊢;rw [e1] at I1 ⊢;clear e0 e1 rx ry hx hy
 go_enter Tryz.func183,Tryz.ntmps183
 go_wp2
 go_loop [4,7] (fun _ v=>∃ k:Nat,k<=2/\v=.int .i64 k/\(0<k->b0=false)/\(1<k->b1=false)) (fun _ v=>2 - (intOf v).toNat)
 case atStart=>exact⟨0,by omega,rfl,by omega,by omega⟩
 case round=>
  obtain⟨k,hk,rfl,hk0,hk1⟩:=hrel
  match k,hk with
  | 0,_=>
   clear hk0 hk1
   cases b0
   ·go_wp2_with fail;refine N0.out.mono ?_;rintro e w' ⟨rfl,rfl⟩;go_wp2_with fail;refine I0.out.mono ?_;rintro e w' ⟨rfl,rfl⟩;go_wp2
    go_round
    case rel=>exact⟨1,by omega,rfl,by simp,by omega⟩
    case measure=>simp [intOf]
   ·go_wp2_with fail;refine N0.out.mono ?_;rintro e w' ⟨rfl,rfl⟩;go_wp2_with fail;refine I0.out.mono ?_;rintro e w' ⟨rfl,rfl⟩;go_wp2
    go_ret
    exact⟨rfl,rfl⟩
  | 1,_=>
   have h0:=hk0 (by omega);subst h0;clear hk0 hk1
   cases b1
   ·go_wp2_with fail;refine N1.out.mono ?_;rintro e w' ⟨rfl,rfl⟩;go_wp2_with fail;refine I1.out.mono ?_;rintro e w' ⟨rfl,rfl⟩;go_wp2
    go_round
    case rel=>exact⟨2,by omega,rfl,by simp,by simp⟩
    case measure=>simp [intOf]
   ·go_wp2_with fail;refine N1.out.mono ?_;rintro e w' ⟨rfl,rfl⟩;go_wp2_with fail;refine I1.out.mono ?_;rintro e w' ⟨rfl,rfl⟩;go_wp2
    go_ret
    exact⟨rfl,rfl⟩
  | 2,_=>
   have h0:=hk0 (by omega);have h1:=hk1 (by omega);subst h0 h1;clear hk0 hk1;go_wp2
   go_ret
   exact⟨rfl,rfl⟩
theorem radd_inf(d:Int)(x y r:Nat)(w:World)(hx:x<18446744073709551616)(hy:y<18446744073709551616)(rx:rungOf x<=M)(ry:rungOf y<=M)(ho:(decide (rungOf x=M) || decide (rungOf y=M))=true)(hr:floatBits .add .f64 x y=some r):
  Rt 139 #[.int .i64 d,.float .f64 x,.float .f64 y] (.float .f64 r) w:=by
 have HA:=fun W=>run_float_arith (P:=Tryz.prog) W .add 26 .f64 _ _ _ hr;have HO0:=fun (W:World) (hb:Below w.heap.size w W)=>odd_two W.heap.size x y (W.alloc (.cells (Zv x y) 26)) hx hy rx ry (by simp [World.cell?_alloc_new]) (by simp [World.cell?_alloc_new]);rw [ho] at HO0;have HO:=Hd HO0;have LB:=Hd (below_alloc w (.cells (Zv x y) 26));clear HO0 ho hr rx ry hx hy
 go_enter Tryz.func139,Tryz.ntmps139
 go_wp2_with fail
 go_step3
 go_wp2_with fail;refine cy (HO.out _ (Below.refl _ _)) ?_;go_wp2
 try rw [Exit.noGoto_ret]
 go_ret
 exact⟨rfl,LB.out⟩
theorem radd_quick(d:Int)(x y t T:Nat)(w:World)(hd:d=-1\/d=1)(hx:x<18446744073709551616)(hy:y<18446744073709551616)(rx:rungOf x<M)(ry:rungOf y<M)(gx:rungOf x<=8660422083433463808)(gy:rungOf y<=8660422083433463808)
  (ht:8660422083433463808=(t+1)*2^52)(hT:T=52+t)(hT2:T<=1990):
  Rt 139 #[.int .i64 d,.float .f64 x,.float .f64 y] (.float .f64 (pat (rndI d (fl (idx x)+fl (idx y))))) w:=by
 have hM:M=9218868437227405312:=rfl;obtain⟨s,u,a,b,c,e,q1,q2,q3,q4,q5,q6,fs,fe⟩:=quick_sum hT2 (Fl_self hx rx) (Fl_self hy ry) (not_great (by omega) hT) (not_great (by omega) hT);have hn:=nud_sum hd fs fe rfl;have HN0:=fun W=>nudge_any d s e W hd fs.lt fs.fin (Nat.le_of_lt fe.fin);rw [hn] at HN0;have HN:=Hd HN0;have A1:=fun W=>run_float_arith (P:=Tryz.prog) W .add 26 .f64 x y s q1;have A2:=fun W=>run_float_arith (P:=Tryz.prog) W .sub 26 .f64 s x u q2;have A3:=fun W=>run_float_arith (P:=Tryz.prog) W .sub 26 .f64 s u a q3;have A4:=fun W=>run_float_arith (P:=Tryz.prog) W .sub 26 .f64 x a b q4;have A5:=fun W=>run_float_arith (P:=Tryz.prog) W .sub 26 .f64 y u c q5;have A6:=fun W=>run_float_arith (P:=Tryz.prog) W .add 26 .f64 b c e q6
 have ho:(decide (rungOf x=M) || decide (rungOf y=M))=false:=by
  rw [decide_eq_false (by omega),decide_eq_false (by omega)];rfl
 have HO0:=fun (W:World) (hb:Below w.heap.size w W)=>odd_two W.heap.size x y (W.alloc (.cells (Zv x y) 26)) hx hy (by omega) (by omega) (by simp [World.cell?_alloc_new]) (by simp [World.cell?_alloc_new]);rw [ho] at HO0;have HO:=Hd HO0;have HX:=Hd fun W=>abs_any x W hx;have HY:=Hd fun W=>abs_any y W hy;have LB:=Hd (below_alloc w (.cells (Zv x y) 26));have ox:=great_ord (r:=rungOf x) (by omega);have oy:=great_ord (r:=rungOf y) (by omega)
 have ox2:FloatKind.f64.format.order (rungOf x) 8660422083433463808=some .lt\/FloatKind.f64.format.order (rungOf x) 8660422083433463808=some .eq:=by
  rcases ox with h | h
  ·exact h.2
  ·omega
 have oy2:FloatKind.f64.format.order (rungOf y) 8660422083433463808=some .lt\/FloatKind.f64.format.order (rungOf y) 8660422083433463808=some .eq:=by
  rcases oy with h | h
  ·exact h.2
  ·omega
 obtain⟨r,hr⟩:∃ r,pat (rndI d (fl (idx x)+fl (idx y)))=r:=⟨_,rfl⟩
 rw [hr] at HN ⊢
 obtain⟨X,hX⟩:∃ r,rungOf x=r:=⟨_,rfl⟩
 obtain⟨Y,hY⟩:∃ r,rungOf y=r:=⟨_,rfl⟩
 rw [hX] at HX ox2;rw [hY] at HY oy2;clear HO0 ho ox oy hn HN0 fs fe q1 q2 q3 q4 q5 q6 hr hX hY gx gy ht hT hT2 rx ry hx hy hd hM
 rcases ox2 with o1 | o1<;>rcases oy2 with o2 | o2
 all_goals
  go_enter Tryz.func139,Tryz.ntmps139
  go_wp2_with fail
  go_step3
  go_wp2_with fail;refine cy (HO.out _ (Below.refl _ _)) ?_;go_wp2_with fail;refine cy (HX.out _) ?_;go_wp2_with fail;refine cy (HY.out _) ?_;go_wp2_with fail;refine cy (HN.out _) ?_;go_wp2
  try rw [Exit.noGoto_ret]
  go_ret
  exact⟨rfl,LB.out⟩
theorem scope_once{P:Program}{a:Act}{w:World}{Q:Exit->Act->World->Prop}{c rest:Code}(l:Nat)(A:Act)(W:World)(hf:findLabel c l=some rest)
  (first:c.wp P (Exit.jump l (fun a' w'=>a'=A/\w'=W) Q) a w)
  (pass:rest.wp P (Exit.jump l (fun a' w'=>(a'=A/\w'=W)/\0<0) Q) A W):(Code.scope c).wp P Q a w:=
 wp_scope_jumps l (fun a' w'=>a'=A/\w'=W) (fun _ _=>0) hf first (by rintro a w ⟨rfl,rfl⟩;exact pass)
theorem radd_exact(d:Int)(x y:Nat)(w:World)(hd:d=-1\/d=1)(hx:x<18446744073709551616)(hy:y<18446744073709551616)(rx:rungOf x<M)(ry:rungOf y<M)(hg:8660422083433463808<rungOf x\/8660422083433463808<rungOf y):
  Rt 139 #[.int .i64 d,.float .f64 x,.float .f64 y] (.float .f64 (pat (rndI d (fl (idx x)+fl (idx y))))) w:=by
 have hM:M=9218868437227405312:=rfl;obtain⟨s,hs,-⟩:=add_fin (show fin x from rx) (show fin y from ry);have A1:=fun W=>run_float_arith (P:=Tryz.prog) W .add 26 .f64 x y s hs;obtain⟨S1,e1,b1,l1,u1,v1,HP1⟩:=part_any x hx rx;obtain⟨S2,e2,b2,l2,u2,v2,HP2⟩:=part_any y hy ry;have k1:blen S1<=53:=blen_le_iff.2 (show S1<2^53 from b1);have k2:blen S2<=53:=blen_le_iff.2 (show S2<2^53 from b2);have hB:=dsF_bound (sgn x) S1 e1 (sgn y) S2 e2 3000 (by omega) (by omega);have hV:=dsF_val (sgn x) S1 e1 (sgn y) S2 e2;rw [<- v1,<- v2] at hV;have HS0:=fun (A1:Option Addr) (m1 c1:Nat) (A2:Option Addr) (m2 c2:Nat) (W:World) (h1:U32s W A1 m1 c1 (digs S1)) (h2:U32s W A2 m2 c2 (digs S2))=>sum_any (sgn x) A1 m1 c1 S1 e1 (sgn y) A2 m2 c2 S2 e2 W h1 h2 (by omega) (by omega) (by omega) (by omega)
 obtain⟨n,hn⟩:∃ z,(dsF (sgn x) S1 e1 (sgn y) S2 e2).1=z:=⟨_,rfl⟩
 obtain⟨S,hS⟩:∃ z,(dsF (sgn x) S1 e1 (sgn y) S2 e2).2.1=z:=⟨_,rfl⟩
 obtain⟨E,hE⟩:∃ z,(dsF (sgn x) S1 e1 (sgn y) S2 e2).2.2=z:=⟨_,rfl⟩
 rw [hn,hS,hE] at HS0 hV;rw [hS,hE] at hB;have HT0:=fun (A:Option Addr) (m c:Nat) (W:World) (h:U32s W A m c (digs S))=>to_any d n A m c S E W h hd (by omega) (by omega) (by omega);rw [hV] at HT0;have HS:=Hd HS0;have HT:=Hd HT0;have HX1:=Hd HP1;have HX2:=Hd HP2
 obtain⟨n1,hn1⟩:∃ z,sgn x=z:=⟨_,rfl⟩
 obtain⟨n2,hn2⟩:∃ z,sgn y=z:=⟨_,rfl⟩
 rw [hn1] at HX1 HS;rw [hn2] at HX2 HS;clear HP1 HP2 HS0 HT0 hn hS hE hV hB k1 k2 b1 b2 l1 l2 u1 u2 v1 v2 hs hn1 hn2
 have ho:(decide (rungOf x=M) || decide (rungOf y=M))=false:=by
  rw [decide_eq_false (by omega),decide_eq_false (by omega)];rfl
 have HO0:=fun (W:World) (hb:Below w.heap.size w W)=>odd_two W.heap.size x y (W.alloc (.cells (Zv x y) 26)) hx hy (by omega) (by omega) (by simp [World.cell?_alloc_new]) (by simp [World.cell?_alloc_new]);rw [ho] at HO0;have HO:=Hd HO0;have HX:=Hd fun W=>abs_any x W hx;have HY:=Hd fun W=>abs_any y W hy;have LB:=Hd (below_alloc w (.cells (Zv x y) 26));have ox:=great_ord (r:=rungOf x) (by omega);have oy:=great_ord (r:=rungOf y) (by omega)
 have hc:FloatKind.f64.format.order (rungOf x) 8660422083433463808=some .gt\/((FloatKind.f64.format.order (rungOf x) 8660422083433463808=some .lt\/FloatKind.f64.format.order (rungOf x) 8660422083433463808=some .eq)/\FloatKind.f64.format.order (rungOf y) 8660422083433463808=some .gt):=by
  rcases ox with h | h
  ·rcases oy with h2 | h2
   ·omega
   ·exact .inr ⟨h.2,h2.2⟩
  ·exact .inl h.2
 obtain⟨r,hr⟩:∃ r,pat (rndI d (fl (idx x)+fl (idx y)))=r:=⟨_,rfl⟩
 rw [hr] at HT ⊢
 obtain⟨X,hX⟩:∃ r,rungOf x=r:=⟨_,rfl⟩
 obtain⟨Y,hY⟩:∃ r,rungOf y=r:=⟨_,rfl⟩
 rw [hX] at HX hc;rw [hY] at HY hc;clear HO0 ho ox oy hr hX hY rx ry hx hy hd hM hg
 rcases hc with o1 | ⟨o1 | o1,o2⟩
 all_goals
  go_enter Tryz.func139,Tryz.ntmps139
  go_wp2_with fail
  apply scope_once 0 _ _ rfl
  focus
   go_wp2_with fail;refine cy (HO.out _ (Below.refl _ _)) ?_;go_wp2_with fail;refine cy (HX.out _) ?_;go_wp2_with fail
   try (refine cy (HY.out _) ?_;go_wp2_with fail)
   try go_step3
   exact⟨rfl,rfl,rfl⟩
  clear HO HX HY;generalize w.alloc (.cells (Zv x y) 26)=wa at LB ⊢;go_wp2_with fail;refine (HX1.out _).mono ?_;rintro e w1 ⟨A1,m1,c1,rfl,hu1,hb1⟩;have LB1:=Hd (LB.out.trans (hb1.mono LB.out.size));have U1:=Hd hu1;clear hu1 hb1 LB;go_wp2_with fail;refine (HX2.out _).mono ?_;rintro e w2 ⟨A2,m2,c2,rfl,hu2,hb2⟩;have LB2:=stB LB1 hb2 LB1.out.size;have V1:=Hd (U1.out.below hb2);have V2:=Hd hu2;clear hu2 hb2 LB1 U1;go_wp2_with fail;refine (HS.out _ _ _ _ _ _ _ V1.out V2.out).mono ?_;rintro e w3 ⟨A3,m3,c3,rfl,hu3,hb3⟩;have LB3:=stB LB2 hb3 LB2.out.size;have V3:=Hd hu3;clear hu3 hb3 LB2 V1 V2;go_wp2_with fail;refine cx (HT.out _ _ _ _ V3.out) fun w4 hb4=>?_;have LB4:=stB LB3 hb4 LB3.out.size;clear hb4 LB3 V3;go_wp2
  simp only [Exit.jump]
  go_ret
  exact⟨rfl,LB4.out⟩
theorem radd_any(d:Int)(x y:Nat)(w:World)(hd:d=-1\/d=1)(hx:x<18446744073709551616)(hy:y<18446744073709551616)(rx:rungOf x<=M)(ry:rungOf y<=M)(hno:¬ (idx x=M/\idx y=-(M:Int))/\¬ (idx x=-(M:Int)/\idx y=M)):
  Rt 139 #[.int .i64 d,.float .f64 x,.float .f64 y] (.float .f64 (pat (ad d (idx x) (idx y)))) w:=by
 have hM:M=9218868437227405312:=rfl;have cx:=pat_cases hx;have cy:=pat_cases hy;unfold ad
 by_cases h1:rungOf x=M
 ·rw [if_pos (by omega)];refine radd_inf d x y _ w hx hy rx ry (by rw [decide_eq_true h1];rfl) (add_inf_left hx h1 ry (fun h2=>?_))
  rcases cx with ⟨a,b,c,e⟩ | ⟨a,b,c,e⟩<;>rcases cy with ⟨a',b',c',e'⟩ | ⟨a',b',c',e'⟩
  ·rw [c,c']
  ·omega
  ·omega
  ·rw [c,c']
 ·rw [if_neg (by omega)]
  by_cases h2:rungOf y=M
  ·rw [if_pos (by omega)]
   exact radd_inf d x y _ w hx hy rx ry (by rw [decide_eq_true h2,Bool.or_true]) (add_inf_right hy h2 (by omega))
  ·rw [if_neg (by omega)]
   by_cases hg:8660422083433463808<rungOf x\/8660422083433463808<rungOf y
   ·exact radd_exact d x y w hd hx hy (by omega) (by omega) hg
   ·obtain⟨t,ht⟩:∃ t,t=1922:=⟨_,rfl⟩
    exact radd_quick d x y t (52+t) w hd hx hy (by omega) (by omega) (by omega) (by omega) (by rw [ht]) rfl (by omega)
def NoCl(i j:Int):Prop:=¬ (i=M/\j=-(M:Int))/\¬ (i=-(M:Int)/\j=M)
theorem radd_pat(d i j:Int)(w:World)(hd:d=-1\/d=1)(hi:-(M:Int)<=i/\i<=M)(hj:-(M:Int)<=j/\j<=M)(hno:NoCl i j):
  Rt 139 #[.int .i64 d,.float .f64 (pat i),.float .f64 (pat j)] (.float .f64 (pat (ad d i j))) w:=by
 have h:=radd_any d (pat i) (pat j) w hd (pat_lt hi.1 hi.2) (pat_lt hj.1 hj.2) (by rw [rung_pat hi.1 hi.2];omega) (by rw [rung_pat hj.1 hj.2];omega) (by rw [idx_pat hi.1 hi.2,idx_pat hj.1 hj.2];exact hno);rw [idx_pat hi.1 hi.2,idx_pat hj.1 hj.2] at h
 exact h
theorem rsub_pat(d i j:Int)(w:World)(hd:d=-1\/d=1)(hi:-(M:Int)<=i/\i<=M)(hj:-(M:Int)<=j/\j<=M)(hno:NoCl i (-j)):
  Rt 84 #[.int .i64 d,.float .f64 (pat i),.float .f64 (pat j)] (.float .f64 (pat (ad d i (-j)))) w:=by
 have n:=negFloat_val (pat_lt hj.1 hj.2);have h:=radd_any d (pat i) (Op.negFloat .f64 (pat j)) w hd (pat_lt hi.1 hi.2) n.1 (by rw [rung_pat hi.1 hi.2];omega) (by rw [n.2.1,rung_pat hj.1 hj.2];omega) (by rw [n.2.2,idx_pat hi.1 hi.2,idx_pat hj.1 hj.2];exact hno);rw [n.2.2,idx_pat hi.1 hi.2,idx_pat hj.1 hj.2] at h;have H:=Hd h;clear h n hd hi hj hno
 obtain⟨r,hr⟩:∃ r,pat (ad d i (-j))=r:=⟨_,rfl⟩
 obtain⟨p,hp⟩:∃ r,pat i=r:=⟨_,rfl⟩
 obtain⟨q,hq⟩:∃ r,pat j=r:=⟨_,rfl⟩
 rw [hr,hp,hq] at H;rw [hr,hp,hq];clear hr hp hq
 go_enter Tryz.func84,Tryz.ntmps84
 go_wp2_with fail;refine H.out.mono ?_;rintro e w1 ⟨rfl,hb⟩;have LB:=Hd hb;clear hb;go_wp2
 go_ret
 exact⟨rfl,LB.out⟩
end
section
open Go.RowKit
theorem nmul_in(A B:Option Addr)(p c q d:Nat)(xs ys:List Nat)(w:World)(hx:U32s w A p c xs)(hy:U32s w B q d ys)(hs1:p<=8589934592)(hs2:q<=8589934592):
  Calls Tryz.prog 252 #[.slice A p c,.slice B q d] w fun e w'=>∃ (D:Option Addr) (n' c':Nat) (ls:List Nat),e=.returned (.slice D n' c')/\U32s w' D n' c' ls/\num ls=num xs*num ys/\n'=p+q/\Below w.heap.size w w':=by
 have HX:=Hd hx;have HY:=Hd hy;have l1:=wlen_le xs;have l2:=wlen_le ys;rw [hx.len] at l1;rw [hy.len] at l2;have HP:=Hd l1;have HQ:=Hd l2;clear hx hy l1 l2;have hmk:=fun W=>make_u32 (N:=(p:Int)+(q:Int)) (n:=p+q) (by omega) (by omega) W
 go_enter Tryz.func252,Tryz.ntmps252
 go_wp2
 go_loopw [6,7,20] (fun _ _ jv wr=>∃ (j:Nat) (ls:List Nat),jv=.int .i64 j/\j<=q/\TimesOut xs ys ls p q j/\Arr wr w.heap.size ls/\Below w.heap.size w wr) (fun _ _ jv _=>q - (intOf jv).toNat)
 case atStart=>exact⟨0,_,rfl,Nat.zero_le _,TimesOut.start _ _ _ _,Arr.zeros _ _,below_alloc _ _⟩
 case round=>
  obtain⟨j,ls,rfl,hj,hinv,harr,hb⟩:=hrel;have HI:=Hd hinv;have HA:=Hd harr;clear hinv harr hmk;have hbs:=hb.size
  by_cases hlt:j<q
  ·obtain⟨ad',e,hc'⟩:=(HY.out.below hb).cell (j:=j) (by omega)
   cases e
   have hy1:=HY.out.lt j
   by_cases hy0:ys[j]?.getD 0=0
   ·rw [hy0] at hc';have HZ:=Hd hy0;clear hy0;go_wp2
    go_roundw
    case rel=>exact⟨j+1,ls,by go_num,hlt,HI.out.skip HZ.out,HA.out,hb⟩
    case measure=>simp [intOf];omega
   ·obtain⟨y,hy⟩:∃ y,ys[j]?.getD 0=y:=⟨_,rfl⟩
    rw [hy] at hc' hy1 hy0;have HYY:=Hd hy
    have hy2:((y:Int) == 0)=false:=by simp;omega
    clear hy hy0
    obtain⟨wo,rfl⟩:∃ wo:World,wo=wr:=⟨_,rfl⟩
    have b0:(0:Int)<=(j:Int):=by omega
    have b1:(j:Int)<=(j:Int)+(p:Int)+1:=by omega
    have b2:(j:Int)+(p:Int)+1<=((p+q:Nat):Int):=by omega
    go_wp2
    go_loopw [8,10,11,37] (fun cv _ _ iv wr=>∃ (i k:Nat) (ls':List Nat),iv=.int .i64 i/\cv=.int .u64 k/\i<=p/\TimesIn xs ls' ls p q j i y k/\Arr wr w.heap.size ls'/\Below w.heap.size w wr) (fun _ _ _ iv _=>p - (intOf iv).toNat)
    case atStart=>exact⟨0,0,ls,rfl,rfl,Nat.zero_le _,TimesIn.start y HI.out,HA.out,hb⟩
    case round=>
     clear hb hbs HA hc';obtain⟨i,k,ls',rfl,rfl,hi,hin,harr,hb⟩:=hrel;have hk:=hin.2.2.2.1;have HIN:=Hd hin;have HA:=Hd harr;clear hin harr
     by_cases hlt2:i<p
     ·obtain⟨ad,e,hc⟩:=(HX.out.below hb).cell (j:=i) (by omega)
      cases e
      have hx1:=HX.out.lt i;have hc2:=HA.out.cell (j:=i+j) (by rw [HIN.out.2.1];omega);have hf2:=HA.out.frozen (i+j);have hl1:ls'[i+j]?.getD 0<4294967296:=HIN.out.1.get (i+j)
      obtain⟨x,hx⟩:∃ x,xs[i]?.getD 0=x:=⟨_,rfl⟩
      obtain⟨l,hl⟩:∃ l,ls'[i+j]?.getD 0=l:=⟨_,rfl⟩
      rw [hx] at hc hx1;rw [hl] at hc2 hl1;rw [Nat.add_comm i j] at hc2 hf2;have HXX:=Hd hx;have HLL:=Hd hl;clear hx hl;have hz1:x*y<=4294967295*4294967295:=Nat.mul_le_mul (by omega) (by omega)
      obtain⟨z,hz⟩:∃ z,x*y=z:=⟨_,rfl⟩
      rw [hz] at hz1
      have e1:(x:Int)*(y:Int)=(z:Int):=by rw [<- hz];simp
      have HZ:=Hd hz;clear hz
      have b3:(i:Int)<((p+1:Nat):Int):=by omega
      go_wp2
      go_roundw
      case rel=>
       refine⟨i+1,(k+l+z) / 4294967296,ls'.set (i+j) ((k+l+z) % 4294967296),by go_num,?_,by omega,?_,?_,hb.setCell (Nat.le_refl _) _⟩
       ·rw [show (k:Int)+((z:Int)+(l:Int))=((k+l+z:Nat):Int) from by omega];go_num
       ·exact HIN.out.step hlt2 hlt HX.out.w32 hy1 (by rw [HXX.out,HLL.out,HZ.out])
       ·have:=HA.out.set (i+j) ((k+l+z) % 4294967296);rw [show ((k:Int)+((z:Int)+(l:Int))) % 4294967296=(((k+l+z) % 4294967296:Nat):Int) from by omega,Nat.add_comm j i]
        exact this
      case measure=>simp [intOf];omega
     ·obtain rfl:i=p:=by omega
      have hc2:=HA.out.cell (j:=j+i) (by rw [HIN.out.2.1];omega);have hf2:=HA.out.frozen (j+i)
      have hk2:(k:Int) % 4294967296=(k:Int):=by omega
      have b3:(i:Int)<((i+1:Nat):Int):=by omega
      obtain⟨l,hl⟩:∃ l,ls'[j+i]?.getD 0=l:=⟨_,rfl⟩
      rw [hl] at hc2;clear hl;go_wp2
      go_roundw
      case rel=>
       exact⟨j+1,ls'.set (j+i) k,by go_num,hlt,HIN.out.done HI.out hlt HP.out HYY.out,HA.out.set _ _,hb.setCell (Nat.le_refl _) _⟩
      case measure=>simp [intOf];omega
  ·obtain rfl:j=q:=by omega
   have hnum:=HI.out.done HQ.out;have hu:=HA.out.u32s' HI.out.1 HI.out.2.1 (by omega);have HU:=Hd hu;clear hu;go_wp2
   go_ret
   exact⟨_,_,_,_,rfl,HU.out,hnum,rfl,hb⟩
theorem nmul_any(A B:Option Addr)(n c m d:Nat)(xs ys:List Nat)(w:World)(hx:U32s w A n c xs)(hy:U32s w B m d ys)(hl:wlen xs+wlen ys<=16384)(hbl:blen (num xs)+blen (num ys)<=524289):
  Calls Tryz.prog 229 #[.slice A n c,.slice B m d] w (NewU32E w (digs (num xs*num ys))):=by
 obtain⟨w1,hw1⟩:∃ w1,w.alloc (.cells #[.slice A n c,.slice B m d] 40)=w1:=⟨_,rfl⟩
 have hb1:Below w.heap.size w w1:=by rw [<- hw1];exact below_alloc w _
 have hx1:=hx.below hb1;have hy1:=hy.below hb1;have hlong:=long_two w.heap.size A n c xs B m d ys w1 hx1 (by rw [<- hw1];simp [World.cell?_alloc_new]) (by omega) hy1 (by rw [<- hw1];simp [World.cell?_alloc_new]) (by omega);have HLG:=Hd hlong;have HL1:=Hd (nlen_any A n c xs w1 hx1);have HL2:=Hd (nlen_any B m d ys w1 hy1);have HQ1:=Hd fun W (h:U32s W A n c xs)=>nwords_any A n c xs W h;have HQ2:=Hd fun W (h:U32s W B m d ys)=>nwords_any B m d ys W h;have cc1:=hx.cap;have cc2:=hy.cap;have n1:=hx.small;have n2:=hy.small;have l1:=wlen_le xs;have l2:=wlen_le ys;rw [hx.len] at l1;rw [hy.len] at l2;have e1:=num_trim xs;have e2:=num_trim ys;rw [trim_eq_take] at e1 e2;have HX0:=hx1.take l1;have HY0:=hy1.take l2
 obtain⟨p,hp⟩:∃ p,wlen xs=p:=⟨_,rfl⟩
 obtain⟨q,hq⟩:∃ p,wlen ys=p:=⟨_,rfl⟩
 obtain⟨b1,hB1⟩:∃ p,blen (num xs)=p:=⟨_,rfl⟩
 obtain⟨b2,hB2⟩:∃ p,blen (num ys)=p:=⟨_,rfl⟩
 rw [hp] at HQ1 l1 hl e1 HX0;rw [hq] at HQ2 l2 hl e2 HY0;rw [hB1] at HL1 hbl;rw [hB2] at HL2 hbl
 obtain⟨us,hus⟩:∃ l,xs.take p=l:=⟨_,rfl⟩
 obtain⟨vs,hvs⟩:∃ l,ys.take q=l:=⟨_,rfl⟩
 rw [hus] at e1 HX0;rw [hvs] at e2 HY0;rw [<- e1,<- e2];have hlt1:=num_lt HX0.w32;have hlt2:=num_lt HY0.w32;rw [HX0.len] at hlt1;rw [HY0.len] at hlt2
 have HM:=Hd (show ∀ W,U32s W A p c us->U32s W B q d vs->Calls Tryz.prog 252 #[.slice A p c,.slice B q d] W fun e w'=>∃ (D:Option Addr) (n' c':Nat) (ls:List Nat),e=.returned (.slice D n' c')/\U32s w' D n' c' ls/\num ls=num us*num vs/\wlen ls<=16384/\Below W.heap.size W w' from
  fun W h1 h2=>(nmul_in A B p c q d us vs W h1 h2 (by omega) (by omega)).mono fun e w' ⟨D,n',c',ls,he,hu,hv,hn,hb⟩=>
   ⟨D,n',c',ls,he,hu,hv,Nat.le_trans (wlen_lt hu.w32 (K:=p+q) (by
    rw [hv,Nat.mul_add,Nat.pow_add]
    exact Nat.lt_of_le_of_lt (Nat.mul_le_mul_left _ (Nat.le_of_lt hlt2)) ((Nat.mul_lt_mul_right (Nat.two_pow_pos _)).2 hlt1))) hl,hb⟩)
 have HF:=Hd fun W (D:Option Addr) (n' c':Nat) (ls:List Nat) (h:U32s W D n' c' ls) (hl:wlen ls<=16384)=>fit_any D n' c' ls W h hl;have HX1:=Hd hx1;have HY1:=Hd hy1;have HU1:=Hd HX0;have HU2:=Hd HY0;have HB1:=Hd hb1;have HW1:=Hd hw1
 have pc:p<=c:=by omega
 have qd:q<=d:=by omega
 have hbi:¬ ((524289:Int)<(b1:Int)+(b2:Int)):=by omega
 clear hx hy hx1 hy1 hlong hb1 hp hq e1 e2 HX0 HY0 hus hvs hw1 hlt1 hlt2 hB1 hB2
 go_enter Tryz.func229,Tryz.ntmps229
 go_wp2_with fail;rw [HW1.out];refine HLG.out.mono ?_;rintro e w' ⟨rfl,rfl⟩;go_wp2_with fail;refine HL1.out.mono ?_;rintro e w' ⟨rfl,rfl⟩;go_wp2_with fail;refine HL2.out.mono ?_;rintro e w' ⟨rfl,rfl⟩;have LL:=Hd (show Lies w1 w1 [] [] from⟨Below.refl _ _,by simp,by simp⟩)
 go_upto_region 3 with fail
 refine regL LL (fun hHeld=>?_);clear LL;replace HX1:=Hd (HX1.out.below (Below.refl _ _).drew);replace HY1:=Hd (HY1.out.below (Below.refl _ _).drew);replace HU1:=Hd (HU1.out.below (Below.refl _ _).drew);replace HU2:=Hd (HU2.out.below (Below.refl _ _).drew);generalize World.drew _=wk at hHeld HX1 HY1 HU1 HU2 ⊢;refine tks 0 ?_;refine tks 1 ?_;refine tks 4 ?_;refine tks 5 ?_;refine rdy 2 fun KK hKK=>?_;go_simp;refine (HQ1.out _ HX1.out).mono ?_;rintro e wk ⟨rfl,rfl⟩;go_wp2_with fail;refine hKK.out _ _ (hHeld.keep (Below.refl _ _)) (fun _=>?_);clear hKK KK hHeld;rename_i hHeld;(try simp only [Act.put,lay]);replace HX1:=Hd (HX1.out.below (Below.refl _ _));replace HY1:=Hd (HY1.out.below (Below.refl _ _));replace HU1:=Hd (HU1.out.below (Below.refl _ _));replace HU2:=Hd (HU2.out.below (Below.refl _ _));(try replace HU:=Hd (HU.out.below (Below.refl _ _)));refine tks 3 ?_;refine rdy 6 fun KK hKK=>?_;go_simp;refine (HQ2.out _ HY1.out).mono ?_;rintro e wk ⟨rfl,rfl⟩;go_wp2_with fail;refine hKK.out _ _ (hHeld.keep (Below.refl _ _)) (fun _=>?_);clear hKK KK hHeld;rename_i hHeld;(try simp only [Act.put,lay]);replace HX1:=Hd (HX1.out.below (Below.refl _ _));replace HY1:=Hd (HY1.out.below (Below.refl _ _));replace HU1:=Hd (HU1.out.below (Below.refl _ _));replace HU2:=Hd (HU2.out.below (Below.refl _ _));(try replace HU:=Hd (HU.out.below (Below.refl _ _)));refine tks 7 ?_;refine rdy 8 fun KK hKK=>?_;go_simp;refine (HM.out _ HU1.out HU2.out).mono ?_
 rintro e wk ⟨D,n2,c2,ls,rfl,hu,hnum,hwl,hb⟩;go_wp2_with fail;refine hKK.out _ _ (hHeld.keep hb) (fun _=>?_);clear hKK KK hHeld;rename_i hHeld;(try simp only [Act.put,lay]);replace HX1:=Hd (HX1.out.below hb);replace HY1:=Hd (HY1.out.below hb);replace HU1:=Hd (HU1.out.below hb);replace HU2:=Hd (HU2.out.below hb);have HU:=Hd hu;clear hu;clear hb;refine rdy 9 fun KK hKK=>?_;go_simp;refine (HF.out _ _ _ _ _ HU.out hwl).mono ?_;rintro e wk ⟨rfl,rfl⟩;go_wp2_with fail;refine hKK.out _ _ (hHeld.keep (Below.refl _ _)) (fun _=>?_);clear hKK KK hHeld;rename_i hHeld;(try simp only [Act.put,lay]);replace HX1:=Hd (HX1.out.below (Below.refl _ _));replace HY1:=Hd (HY1.out.below (Below.refl _ _));replace HU1:=Hd (HU1.out.below (Below.refl _ _));replace HU2:=Hd (HU2.out.below (Below.refl _ _));(try replace HU:=Hd (HU.out.below (Below.refl _ _)));refine tks 10 ?_;refine tks 11 ?_;refine tks 12 ?_;refine tks 13 ?_;refine wpAnyH_done (by kernel_rfl) ?_ _;have LL:=Hd hHeld;clear hHeld;go_wp2
 go_ret2
 have hd:=HU.out.cutd;rw [hnum] at hd
 exact⟨_,_,_,rfl,hd,HB1.out.trans (LL.out.b.mono HB1.out.size)⟩
end
section
open Go.RowKit
theorem middle_walk(b r:Nat)(o1 o2:Ordering)(m:Bool)(w:World)(ha:∀ W,Calls Tryz.prog 117 #[.float .f64 b] W fun e w'=>e=.returned (.float .f64 r)/\W=w')
  (h1:FloatKind.f64.format.order r 553942754166571008=some o1)(h2:FloatKind.f64.format.order r 8660422083433463808=some o2)(hm:((o1 == .gt) && (o2 == .lt))=m):
  Calls Tryz.prog 185 #[.float .f64 b] w fun e w'=>e=.returned (.bool m)/\w=w':=by
 have HA:=Hd ha;have HM:=Hd hm;clear ha hm
 cases o1<;>cases o2
 all_goals
  go_enter Tryz.func185,Tryz.ntmps185
  go_wp2_with fail;refine cy (HA.out _) ?_;go_wp2
  go_ret
  refine⟨?_,rfl⟩;rw [<- HM.out]
  rfl
theorem middle_any(b:Nat)(w:World)(hb:b<18446744073709551616)(hr:rungOf b<=M):Calls Tryz.prog 185 #[.float .f64 b] w fun e w'=>e=.returned (.bool (mid b))/\w=w':=by
 have hM:M=9218868437227405312:=rfl;have r0:=rung_idx (b:=rungOf b) (by omega);have r1:rungOf 553942754166571008=553942754166571008/\idx 553942754166571008=((553942754166571008:Nat):Int):=rung_idx (by decide);have r2:rungOf 8660422083433463808=8660422083433463808/\idx 8660422083433463808=((8660422083433463808:Nat):Int):=rung_idx (by decide)
 have o1:FloatKind.f64.format.order (rungOf b) 553942754166571008=some (compare ((rungOf b:Nat):Int) ((553942754166571008:Nat):Int)):=by
  have h:=order_real (x:=rungOf b) (y:=553942754166571008) (show rungOf (rungOf b)<=M by rw [r0.1];exact hr) (show rungOf 553942754166571008<=M by rw [r1.1];omega);rw [r0.2,r1.2] at h;exact h
 have o2:FloatKind.f64.format.order (rungOf b) 8660422083433463808=some (compare ((rungOf b:Nat):Int) ((8660422083433463808:Nat):Int)):=by
  have h:=order_real (x:=rungOf b) (y:=8660422083433463808) (show rungOf (rungOf b)<=M by rw [r0.1];exact hr) (show rungOf 8660422083433463808<=M by rw [r2.1];omega);rw [r0.2,r2.2] at h;exact h
 refine middle_walk b _ _ _ _ w (fun W=>abs_any b W hb) o1 o2 ?_;unfold mid
 obtain⟨R,hR⟩:∃ R,rungOf b=R:=⟨_,rfl⟩
 rw [hR]
 obtain⟨c1,hc1⟩:∃ c,compare ((R:Nat):Int) ((553942754166571008:Nat):Int)=c:=⟨_,rfl⟩
 obtain⟨c2,hc2⟩:∃ c,compare ((R:Nat):Int) ((8660422083433463808:Nat):Int)=c:=⟨_,rfl⟩
 rw [hc1,hc2]
 have e1:(c1 == .gt)=decide (553942754166571008<R):=by
  by_cases h:553942754166571008<R
  ·rw [decide_eq_true h,<- hc1,Int.compare_eq_gt.2 (by omega)];rfl
  ·rw [decide_eq_false h,<- hc1]
   rcases Int.lt_or_eq_of_le (show ((R:Nat):Int)<=((553942754166571008:Nat):Int) by omega) with k | k
   ·rw [Int.compare_eq_lt.2 k];rfl
   ·rw [Int.compare_eq_eq.2 k];rfl
 have e2:(c2 == .lt)=decide (R<8660422083433463808):=by
  by_cases h:R<8660422083433463808
  ·rw [decide_eq_true h,<- hc2,Int.compare_eq_lt.2 (by omega)];rfl
  ·rw [decide_eq_false h,<- hc2]
   rcases Int.lt_or_eq_of_le (show ((8660422083433463808:Nat):Int)<=((R:Nat):Int) by omega) with k | k
   ·rw [Int.compare_eq_gt.2 k];rfl
   ·rw [Int.compare_eq_eq.2 k.symm];rfl
 rw [e1,e2]
theorem halves_walk(x t u h l:Nat)(w:World)(q1:FloatKind.f64.format.mul 4728779608772575232 x=some t)(q2:FloatKind.f64.format.sub t x=some u)(q3:FloatKind.f64.format.sub t u=some h)(q4:FloatKind.f64.format.sub x h=some l):
  Calls Tryz.prog 228 #[.float .f64 x] w fun e w'=>e=.returned (.tuple (Zv h l))/\w=w':=by
 have A1:=fun W=>run_float_arith (P:=Tryz.prog) W .mul 26 .f64 4728779608772575232 x t q1;have A2:=fun W=>run_float_arith (P:=Tryz.prog) W .sub 26 .f64 t x u q2;have A3:=fun W=>run_float_arith (P:=Tryz.prog) W .sub 26 .f64 t u h q3;have A4:=fun W=>run_float_arith (P:=Tryz.prog) W .sub 26 .f64 x h l q4;clear q1 q2 q3 q4
 go_enter Tryz.func228,Tryz.ntmps228
 go_wp2
 go_ret2
 exact⟨rfl,rfl⟩
theorem missed_walk(x y p xh xl yh yl z1 e0 z2 e1 z3 e2 z4 e:Nat)(w:World)(hx:∀ W,Calls Tryz.prog 228 #[.float .f64 x] W fun e w'=>e=.returned (.tuple (Zv xh xl))/\W=w')
  (hy:∀ W,Calls Tryz.prog 228 #[.float .f64 y] W fun e w'=>e=.returned (.tuple (Zv yh yl))/\W=w')
  (q1:FloatKind.f64.format.mul xh yh=some z1)(q2:FloatKind.f64.format.sub z1 p=some e0)(q3:FloatKind.f64.format.mul xh yl=some z2)(q4:FloatKind.f64.format.add e0 z2=some e1)
  (q5:FloatKind.f64.format.mul xl yh=some z3)(q6:FloatKind.f64.format.add e1 z3=some e2)(q7:FloatKind.f64.format.mul xl yl=some z4)(q8:FloatKind.f64.format.add e2 z4=some e):
  Calls Tryz.prog 187 #[.float .f64 x,.float .f64 y,.float .f64 p] w fun e' w'=>e'=.returned (.float .f64 e)/\w=w':=by
 have A1:=fun W=>run_float_arith (P:=Tryz.prog) W .mul 26 .f64 _ _ _ q1;have A2:=fun W=>run_float_arith (P:=Tryz.prog) W .sub 26 .f64 _ _ _ q2;have A3:=fun W=>run_float_arith (P:=Tryz.prog) W .mul 26 .f64 _ _ _ q3;have A4:=fun W=>run_float_arith (P:=Tryz.prog) W .add 26 .f64 _ _ _ q4;have A5:=fun W=>run_float_arith (P:=Tryz.prog) W .mul 26 .f64 _ _ _ q5;have A6:=fun W=>run_float_arith (P:=Tryz.prog) W .add 26 .f64 _ _ _ q6;have A7:=fun W=>run_float_arith (P:=Tryz.prog) W .mul 26 .f64 _ _ _ q7;have A8:=fun W=>run_float_arith (P:=Tryz.prog) W .add 26 .f64 _ _ _ q8;have HX:=Hd hx;have HY:=Hd hy;clear q1 q2 q3 q4 q5 q6 q7 q8 hx hy
 go_enter Tryz.func187,Tryz.ntmps187
 go_wp2_with fail;refine cy (HX.out _) ?_;go_wp2_with fail;refine cy (HY.out _) ?_;go_wp2
 go_ret
 exact⟨rfl,rfl⟩
theorem HasBlk.u32{W:World}{A:Option Addr}{k c:Nat}{xs:List Nat}{r:Nat}{t:TypeId}{n:Nat}(h:HasBlk W r t n)(hr:U32s W A k c xs)(vs:List Value):U32s (Proofs.YthlmlmfebpjgdaaGreatDoor.sets W r 0 vs) A k c xs:=by
 obtain⟨cs,h1,-,h2⟩:=h
 exact hr.sets h1 h2 0 vs
theorem digs_two2{S:Nat}(h:S<18446744073709551616):wlen (digs S)<=2:=wlen_lt (W32.digs S) (K:=2) (by rw [num_digs];exact h)
theorem rprod_any(n1:Bool)(A1:Option Addr)(m1 c1 S1:Nat)(e1:Int)(n2:Bool)(A2:Option Addr)(m2 c2 S2:Nat)(e2:Int)(w:World)(hu1:U32s w A1 m1 c1 (digs S1))(hu2:U32s w A2 m2 c2 (digs S2))(h1:S1<9007199254740992)(h2:S2<9007199254740992)(b1:-1074<=e1/\e1<=971)(b2:-1074<=e2/\e2<=971):
  Calls Tryz.prog 188 #[.agg #[.bool n1,.slice A1 m1 c1,.int .i64 e1],.agg #[.bool n2,.slice A2 m2 c2,.int .i64 e2]] w (NewDy w (n1 != n2) (S1*S2) (e1+e2)):=by
 have k1:=digs_two2 (S:=S1) (by omega);have k2:=digs_two2 (S:=S2) (by omega);have k3:blen S1<=53:=blen_le_iff.2 (show S1<2^53 from h1);have k4:blen S2<=53:=blen_le_iff.2 (show S2<2^53 from h2)
 have HM:=Hd fun W (a:U32s W A1 m1 c1 (digs S1)) (b:U32s W A2 m2 c2 (digs S2))=>by
  have h:=nmul_any A1 A2 m1 c1 m2 c2 (digs S1) (digs S2) W a b (by omega) (by rw [num_digs,num_digs];omega);rw [num_digs,num_digs] at h
  exact h
 obtain⟨P,hP⟩:∃ P,S1*S2=P:=⟨_,rfl⟩
 obtain⟨n3,hn3⟩:∃ z,(n1 != n2)=z:=⟨_,rfl⟩
 rw [hP] at HM ⊢;rw [hn3];have hne:(!n1 == n2)=n3:=hn3;clear hn3 hP k1 k2 k3 k4 h1 h2;have LL:=li3 w #[.bool n1,.slice A1 m1 c1,.int .i64 e1] 168 #[.bool n2,.slice A2 m2 c2,.int .i64 e2] 168 #[.bool false,.slice none 0 0,.int .i64 0] 168;have HU1:=Hd (hu1.below LL.out.b);have HU2:=Hd (hu2.below LL.out.b);clear hu1 hu2
 go_enter Tryz.func188,Tryz.ntmps188
 obtain⟨q1_0,q1_1,q1_2⟩:=(LL.out.blk 0 rfl).c3;obtain⟨q2_0,q2_1,q2_2⟩:=(LL.out.blk 1 rfl).c3;go_wp2_with fail;refine (HM.out _ HU1.out HU2.out).mono ?_;rintro e wk ⟨A3,m3,c3,rfl,hu3,hb⟩;replace LL:=stL LL hb;replace HU1:=Hd (HU1.out.below hb);replace HU2:=Hd (HU2.out.below hb);clear hb q1_0 q1_1 q1_2 q2_0 q2_1 q2_2;have HU3:=Hd hu3;clear hu3;obtain⟨q3_0,q3_1,q3_2⟩:=(LL.out.blk 0 rfl).c3;obtain⟨q4_0,q4_1,q4_2⟩:=(LL.out.blk 1 rfl).c3;replace LL:=Hd (LL.out.loose2 rfl);obtain⟨ha4_0,hf4_0,ha4_1,hf4_1,ha4_2,hf4_2⟩:=(LL.out.has 0 rfl).sf3;have LF:=Hd (LL.out.wr [.bool n3,.slice A3 m3 c3,.int .i64 (e1+e2)]);obtain⟨hk4_0,hk4_1,hk4_2⟩:=(LF.out.blk 2 rfl).c3
 simp [sets] at hk4_0 hk4_1 hk4_2
 have LL3:=LL;clear LL;go_wp2;refine bodyPost_ret (v:=.agg #[.bool n3,.slice A3 m3 c3,.int .i64 (e1+e2)]) (by simp [results,Tryz.results188,go_sem,hk4_0,hk4_1,hk4_2]) rfl ?_
 exact⟨A3,m3,c3,rfl,(LL3.out.has 0 rfl).u32 HU3.out [.bool n3,.slice A3 m3 c3,.int .i64 (e1+e2)],LF.out.b⟩
theorem sgn_pat{i:Int}(h:-(M:Int)<=i/\i<=M)(h0:i≠0):sgn (pat i)=decide (i<0):=by
 have c:=pat_cases (pat_lt h.1 h.2);rw [idx_pat h.1 h.2] at c
 rcases c with ⟨c1,c2,c3,c4⟩ | ⟨c1,c2,c3,c4⟩
 ·rw [c3,decide_eq_false (by omega)]
 ·rw [c3,decide_eq_true (by omega)]
end
section
open Go.RowKit
end
end Go.Proofs.YthlmlmfebpjgdaaGreatDoor
