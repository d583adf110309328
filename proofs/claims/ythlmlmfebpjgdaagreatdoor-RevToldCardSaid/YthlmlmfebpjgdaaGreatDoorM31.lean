/-
Lemmas for the statement: MlP RmP RmulT DivP.
-/
import Derived.Test.YthlmlmfebpjgdaaGreatDoorM30
import Derived.Test.YthlmlmfebpjgdaaGreatDoorPMathT
import Derived.Test.YthlmlmfebpjgdaaGreatDoorPAddT
import Derived.Test.YthlmlmfebpjgdaaGreatDoorPAbT
import Derived.Test.YthlmlmfebpjgdaaGreatDoorPBothT
import Derived.Test.YthlmlmfebpjgdaaGreatDoorPMinusT
set_option linter.unusedSimpArgs false
set_option linter.unusedVariables false
set_option maxHeartbeats 12800000
namespace Go.Proofs.YthlmlmfebpjgdaaGreatDoor
section
open Go.RowKit
theorem near_R2{n:Int}{Q:Nat}(hQ:Q<=2090)(h:n.natAbs<=2^Q):val (near n 0)=R n/\-(M:Int)<near n 0/\near n 0<M:=by
 have hM:M=2047*2^52:=rfl
 obtain⟨r,hr⟩:∃ r,mag r=2^Q*2^0/\r<M:=by
  by_cases hq:Q<52
  ·have h1:2^Q<2^52:=Nat.pow_lt_pow_right (by omega) hq
   exact⟨2^Q,by rw [mag_small h1,Nat.pow_zero,Nat.mul_one],by omega⟩
  ·obtain⟨t,rfl⟩:∃ t,Q=52+t:=⟨Q - 52,by omega⟩
   refine⟨(t+1)*2^52,by rw [mag_two_pow,Nat.pow_zero,Nat.mul_one,Nat.pow_add],?_⟩;have:(t+1)*2^52<=2040*2^52:=Nat.mul_le_mul_right _ (by omega)
   omega
 have h1:nearRung n.natAbs 0<=r:=nearRung_le (by rw [Nat.pow_zero,Nat.mul_one];rw [Nat.pow_zero,Nat.mul_one] at hr;rw [hr.1];exact h)
 have h2:min (nearRung n.natAbs 0) M=nearRung n.natAbs 0:=by omega
 unfold near R;rw [h2];refine⟨?_,by split<;>omega,by split<;>omega⟩
 split
 ·rw [val_neg,val_nat]
 ·rw [val_nat]
theorem Fl.of_is2{b:Nat}{n:Int}{Q:Nat}(hQ:Q<=2090)(h:Is b (near n 0))(hn:n.natAbs<=2^Q):Fl b (R n):=by
 obtain⟨h1,h2,h3⟩:=near_R2 hQ hn;refine⟨h.lt,?_,by rw [h.idx,h1]⟩;have:=idx_natAbs b;rw [h.idx] at this
 show rungOf b<M
 omega
theorem Fl.add2{x y:Nat}{m n:Int}{Q:Nat}(hQ:Q<=2090)(hx:Fl x m)(hy:Fl y n)(h:(m+n).natAbs<=2^Q):∃ r,FloatKind.f64.format.add x y=some r/\Fl r (R (m+n)):=by
 obtain⟨r,h1,h2⟩:=add_fin hx.fin hy.fin;rw [hx.val,hy.val] at h2
 exact⟨r,h1,Fl.of_is2 hQ h2 h⟩
theorem Fl.sub2{x y:Nat}{m n:Int}{Q:Nat}(hQ:Q<=2090)(hx:Fl x m)(hy:Fl y n)(h:(m - n).natAbs<=2^Q):∃ r,FloatKind.f64.format.sub x y=some r/\Fl r (R (m - n)):=by
 obtain⟨r,h1,h2⟩:=sub_fin hx.fin hy.fin;rw [hx.val,hy.val] at h2
 exact⟨r,h1,Fl.of_is2 hQ h2 h⟩
theorem Fl.mul_at{x y:Nat}{m n Z:Int}{Q U:Nat}(hQ:Q<=2090)(hU:U=1074)(hx:Fl x m)(hy:Fl y n)(hz:m*n=Z*2^U)(h:Z.natAbs<=2^Q):∃ r,FloatKind.f64.format.mul x y=some r/\Fl r (R Z):=by
 obtain⟨r,h1,h2⟩:=mul_fin hx.fin hy.fin;subst hU;rw [hx.val,hy.val,hz,near_scale] at h2
 exact⟨r,h1,Fl.of_is2 hQ h2 h⟩
theorem Rep.shift{n:Int}(h:Rep n)(k:Nat):Rep (n*2^k):=by
 have e:=R_shift n k;rw [R_of_rep h] at e;rw [<- e];exact R_rep _
theorem cut_const{U:Nat}(hU:U=1074):Fl 4728779608772575232 (134217729*2^U):=by
 have h0:rungOf 4728779608772575232=1049*2^52+(2^52+2^25):=by decide
 refine⟨by decide,by unfold fin;rw [h0];decide,?_⟩
 have h1:idx 4728779608772575232=((1049*2^52+(2^52+2^25):Nat):Int):=by decide
 rw [h1,val_nat,mag_form 1049 (2^52+2^25) (by omega) (by omega)]
 obtain⟨u,hu⟩:∃ u:Nat,u=1049:=⟨_,rfl⟩
 rw [<- hu,show U=25+u from by omega,Int.natCast_mul,Int.natCast_pow,show ((2^52+2^25:Nat):Int)=134217729*2^25 from by decide,show ((2:Nat):Int)=2 from rfl,Int.pow_add,Int.mul_assoc]
theorem quick_half{x:Nat}{m:Int}{a T U:Nat}(hT:T<=2000)(hU:U=1074)(hx:Fl x (m*2^a))(h1:2^52<=m.natAbs)(h2:m.natAbs<2^53)(hb:(m*2^a).natAbs<=2^T):
  ∃ t u h l:Nat,∃ q v:Int,FloatKind.f64.format.mul 4728779608772575232 x=some t/\FloatKind.f64.format.sub t x=some u/\FloatKind.f64.format.sub t u=some h/\FloatKind.f64.format.sub x h=some l /\
   Fl h (2^27*q*2^a)/\Fl l (v*2^a)/\m=2^27*q+v/\q.natAbs<=2^26/\v.natAbs<=2^26:=by
 obtain⟨q,v,e1,e2,hq,hv⟩:=dcut_any h1 h2
 have p1:2^(T+28)=268435456*2^T:=by rw [Nat.pow_add,Nat.mul_comm]
 have p2:2^(T+32)=4294967296*2^T:=by rw [Nat.pow_add,Nat.mul_comm]
 have hQ:T+32<=2090:=by omega
 have s1:(134217729:Int)*(m*2^a)=134217729*m*2^a:=by rw [Int.mul_assoc]
 have b0:(134217729*(m*2^a):Int).natAbs<=2^(T+28):=by
  rw [Int.natAbs_mul,p1,show (134217729:Int).natAbs=134217729 from rfl];omega
 obtain⟨t,g1,f1⟩:=Fl.mul_at (Q:=T+32) hQ hU (cut_const hU) hx (Z:=134217729*(m*2^a)) (by rw [Int.mul_assoc,Int.mul_comm (2^U),<- Int.mul_assoc]) (by omega);have b1:=R_bound b0;obtain⟨u,g2,f2⟩:=Fl.sub2 (Q:=T+32) hQ f1 hx (by omega);have b2:(R (R (134217729*(m*2^a)) - m*2^a)).natAbs<=2^(T+29):=R_bound (by rw [show 2^(T+29)=536870912*2^T from by rw [Nat.pow_add,Nat.mul_comm]];omega)
 have p3:2^(T+29)=536870912*2^T:=by rw [Nat.pow_add,Nat.mul_comm]
 obtain⟨h,g3,f3⟩:=Fl.sub2 (Q:=T+32) hQ f1 f2 (by omega)
 have eh:R (R (134217729*(m*2^a)) - R (R (134217729*(m*2^a)) - m*2^a))=2^27*q*2^a:=by
  rw [s1,R_shift,<- Int.sub_mul,R_shift,<- Int.sub_mul,R_shift,e1]
 have b3:=R_bound (n:=R (134217729*(m*2^a)) - R (R (134217729*(m*2^a)) - m*2^a)) (t:=T+30) (by rw [show 2^(T+30)=1073741824*2^T from by rw [Nat.pow_add,Nat.mul_comm]];omega)
 have p4:2^(T+30)=1073741824*2^T:=by rw [Nat.pow_add,Nat.mul_comm]
 rw [eh] at f3 b3;obtain⟨l,g4,f4⟩:=Fl.sub2 (Q:=T+32) hQ hx f3 (by omega)
 have el:m*2^a - 2^27*q*2^a=v*2^a:=by rw [<- Int.sub_mul,show m - 2^27*q=v from by omega]
 have rv:Rep v:=rep_of_dvd 0 ⟨v,by rw [Int.pow_zero,Int.one_mul]⟩ (by rw [Nat.pow_zero,Nat.mul_one];exact Nat.le_trans hv (by decide));rw [el,R_of_rep (rv.shift a)] at f4
 exact⟨t,u,h,l,q,v,g1,g2,g3,g4,f3,f4,e2,hq,hv⟩
theorem quick_mul{x y p:Nat}{m n:Int}{a b U T:Nat}(hU:U=1074)(hT:T=1974)(hx:Fl x (m*2^a))(m1:2^52<=m.natAbs)(m2:m.natAbs<2^53)(bx:(m*2^a).natAbs<=2^T)(hy:Fl y (n*2^b))(n1:2^52<=n.natAbs)(n2:n.natAbs<2^53)(by_:(n*2^b).natAbs<=2^T)
  (hp:FloatKind.f64.format.mul x y=some p)(hf:fin p)(bp:(val (idx p)).natAbs<=2^T)(hab:U<=a+b):
  ∃ xt xu xh xl yt yu yh yl z1 e0 z2 e1 z3 e2 z4 e:Nat,FloatKind.f64.format.mul 4728779608772575232 x=some xt/\FloatKind.f64.format.sub xt x=some xu/\FloatKind.f64.format.sub xt xu=some xh/\FloatKind.f64.format.sub x xh=some xl /\
   FloatKind.f64.format.mul 4728779608772575232 y=some yt/\FloatKind.f64.format.sub yt y=some yu/\FloatKind.f64.format.sub yt yu=some yh/\FloatKind.f64.format.sub y yh=some yl /\
   FloatKind.f64.format.mul xh yh=some z1/\FloatKind.f64.format.sub z1 p=some e0/\FloatKind.f64.format.mul xh yl=some z2/\FloatKind.f64.format.add e0 z2=some e1 /\
   FloatKind.f64.format.mul xl yh=some z3/\FloatKind.f64.format.add e1 z3=some e2/\FloatKind.f64.format.mul xl yl=some z4/\FloatKind.f64.format.add e2 z4=some e /\
   ∃ N:Int,(m*2^a)*(n*2^b)=N*2^U/\Fl p (R N)/\Fl e (N - R N):=by
 obtain⟨s,hs⟩:∃ s,a+b=s+U:=⟨a+b - U,by omega⟩
 have scale:∀ A B:Int,(A*2^a)*(B*2^b)=A*B*2^s*2^U:=fun A B=>by
  rw [Int.mul_assoc (A*B),<- Int.pow_add,<- hs,Int.pow_add];ac_rfl
 obtain⟨xt,xu,xh,xl,q,l,x1,x2,x3,x4,fxh,fxl,em,hq,hl⟩:=quick_half (T:=T) (by omega) hU hx m1 m2 bx;obtain⟨yt,yu,yh,yl,q',l',y1,y2,y3,y4,fyh,fyl,en,hq',hl'⟩:=quick_half (T:=T) (by omega) hU hy n1 n2 by_;obtain⟨r1,r2,r3,r4,r5,r6,r7,r8,r9,-⟩:=missed_at m1 m2 n1 n2 em en hq hl hq' hl'
 have big:2^104<=(m*n).natAbs:=by
  rw [Int.natAbs_mul]
  exact Nat.le_trans (by decide:2^104<=2^52*2^52) (Nat.mul_le_mul m1 n1)
 -- p
 have ep:val (idx p)=R (m*n)*2^s:=by
  obtain⟨p',hp',hi⟩:=mul_fin hx.fin hy.fin
  obtain rfl:p'=p:=Option.some.inj (hp'.symm.trans hp)
  rw [hx.val,hy.val,<- hU,scale,near_scale] at hi;have h1:=idx_natAbs p';have hff:rungOf p'<M:=hf
  have h2:=near_fine (n:=m*n*2^s) (d:=0) (by
   rw [Int.natAbs_mul,Int.natAbs_pow]
   calc 2^(53+0)<=2^104*1:=by decide
    _<=_:=Nat.mul_le_mul big (Nat.two_pow_pos s)) (by rw [<- hi.idx];omega)
  rw [Int.pow_zero,Int.mul_one,R_shift] at h2;rw [hi.idx,h2]
 have fp:Fl p (R (m*n)*2^s):=⟨by
  obtain⟨p',hp',hi⟩:=mul_fin hx.fin hy.fin
  obtain rfl:p'=p:=Option.some.inj (hp'.symm.trans hp)
  exact hi.lt,hf,ep⟩
 rw [ep] at bp
 -- sizes: all parts are below 2^(T+6)
 have sz:∀ A:Int,A.natAbs<=2^110->(A*2^s).natAbs<=2^(T+6):=fun A hA=>by
  have h1:2^104<=(R (m*n)).natAbs:=R_ge big;rw [Int.natAbs_mul,Int.natAbs_pow] at bp ⊢;have h2:2^104*2^s<=2^T:=Nat.le_trans (Nat.mul_le_mul_right _ h1) bp
  have h3:s+104<=T:=by
   apply Nat.le_of_not_lt;intro hlt
   rw [<- Nat.pow_add] at h2;have:=(Nat.pow_le_pow_iff_right (by omega:1<2)).1 h2
   omega
  calc A.natAbs*2^s<=2^110*2^(T - 104):=Nat.mul_le_mul hA (Nat.pow_le_pow_right (by omega) (by omega))
   _<=2^(T+6):=by rw [<- Nat.pow_add];exact Nat.pow_le_pow_right (by omega) (by omega)
 have bd:∀ A B:Int,A.natAbs<=2^53->B.natAbs<=2^53->(A*B).natAbs<=2^106:=fun A B hA hB=>by
  rw [Int.natAbs_mul];exact Nat.le_trans (Nat.mul_le_mul hA hB) (by decide)
 have k1:=bd (2^27*q) (2^27*q') (by omega) (by omega);have k2:=bd (2^27*q) l' (by omega) (by omega);have k3:=bd l (2^27*q') (by omega) (by omega);have k4:=bd l l' (by omega) (by omega);have k5:(R (m*n)).natAbs<=2^106:=R_bound (bd m n (by omega) (by omega));obtain⟨z1,c1,f1⟩:=Fl.mul_at (Q:=T+6) (by omega) hU fxh fyh (scale _ _) (sz _ (by omega));rw [R_of_rep (r1.shift s)] at f1;obtain⟨e0,c2,f2⟩:=Fl.sub2 (Q:=T+6) (by omega) f1 fp (by rw [<- Int.sub_mul];exact sz _ (by omega));rw [<- Int.sub_mul,R_of_rep (r5.shift s)] at f2;obtain⟨z2,c3,f3⟩:=Fl.mul_at (Q:=T+6) (by omega) hU fxh fyl (scale _ _) (sz _ (by omega));rw [R_of_rep (r2.shift s)] at f3;obtain⟨e1,c4,f4⟩:=Fl.add2 (Q:=T+6) (by omega) f2 f3 (by rw [<- Int.add_mul];exact sz _ (by omega));rw [<- Int.add_mul,R_of_rep (r6.shift s)] at f4;obtain⟨z3,c5,f5⟩:=Fl.mul_at (Q:=T+6) (by omega) hU fxl fyh (scale _ _) (sz _ (by omega));rw [R_of_rep (r3.shift s)] at f5;obtain⟨e2,c6,f6⟩:=Fl.add2 (Q:=T+6) (by omega) f4 f5 (by rw [<- Int.add_mul];exact sz _ (by omega));rw [<- Int.add_mul,R_of_rep (r7.shift s)] at f6;obtain⟨z4,c7,f7⟩:=Fl.mul_at (Q:=T+6) (by omega) hU fxl fyl (scale _ _) (sz _ (by omega));rw [R_of_rep (r4.shift s)] at f7;obtain⟨e,c8,f8⟩:=Fl.add2 (Q:=T+6) (by omega) f6 f7 (by rw [<- Int.add_mul];exact sz _ (by omega));rw [<- Int.add_mul,r8,R_of_rep (r9.shift s)] at f8;refine⟨xt,xu,xh,xl,yt,yu,yh,yl,z1,e0,z2,e1,z3,e2,z4,e,x1,x2,x3,x4,y1,y2,y3,y4,c1,c2,c3,c4,c5,c6,c7,c8,m*n*2^s,scale _ _,?_,?_⟩
 ·rw [R_shift];exact fp
 ·rw [R_shift,<- Int.sub_mul];exact f8
theorem middle_form{x T L:Nat}(hT:T=1974)(hL:L=174)(hx:x<18446744073709551616)(h1:553942754166571008<=rungOf x)(h2:rungOf x<=8660422083433463808):
  ∃ (m:Int) (a:Nat),Fl x (m*2^a)/\2^52<=m.natAbs/\m.natAbs<2^53/\(m*2^a).natAbs<=2^T/\2^L<=(m*2^a).natAbs:=by
 have hM:M=9218868437227405312:=rfl;obtain⟨k,q,e,hk,hq⟩:=rung_form (rungOf x);have hf:=Fl_self hx (by omega)
 have hmag:mag (rungOf x)=q*2^k:=by rw [e];exact mag_form k q hk (by omega)
 have hlo:mag ((122+1)*2^52)<=mag (rungOf x):=mag_le_iff.2 (by omega);have hhi:=not_great (x:=x) (t:=1922) (T:=T) (by omega) (by omega);rw [mag_two_pow,<- Nat.pow_add,show 52+122=L from by omega] at hlo
 have hv:(val (idx x)).natAbs=q*2^k:=by rw [val_natAbs,idx_natAbs,hmag]
 have q0:2^52<=q:=by omega
 have lo:2^L<=q*2^k:=by rw [<- hmag];exact hlo
 rcases Int.lt_or_le (val (idx x)) 0 with hn | hn
 ·have ev:val (idx x)=(-(q:Int))*2^k:=by
   have:((q*2^k:Nat):Int)=(q:Int)*2^k:=by push_cast;rfl
   rw [Int.neg_mul];omega
  rw [ev] at hf hv hhi
  exact⟨-(q:Int),k,hf,by omega,by omega,hhi,by rw [hv];exact lo⟩
 ·have ev:val (idx x)=(q:Int)*2^k:=by
   have:((q*2^k:Nat):Int)=(q:Int)*2^k:=by push_cast;rfl
   omega
  rw [ev] at hf hv hhi
  exact⟨(q:Int),k,hf,by omega,by omega,hhi,by rw [hv];exact lo⟩
end
section
open Go.RowKit Ieee
theorem nud_n{d:Int}(hd:d=-1\/d=1){s e:Nat}{n:Int}(hs:Fl s (R n))(he:Fl e (n - R n)):nud d (idx s) (idx e)=rndI d ((n:Rat)*2^(-1074:Int)):=by
 have h0:=idx_natAbs s;have hf:rungOf s<M:=hs.fin
 have e1:idx e<0↔n<R n:=by
  have h:=@val_lt_iff (idx e) 0;rw [val_zero,he.val] at h
  omega
 have e2:0<idx e↔R n<n:=by
  have h:=@val_lt_iff 0 (idx e);rw [val_zero,he.val] at h
  omega
 rcases hd with rfl | rfl
 ·rw [near_down hs.val (by omega) (by omega)];unfold nud
  by_cases h:n<R n
  ·rw [if_pos h,if_pos ⟨rfl,e1.2 h⟩]
  ·rw [if_neg h,if_neg (fun h'=>h (e1.1 h'.2)),if_neg (by omega)]
 ·rw [near_up hs.val (by omega) (by omega)];unfold nud
  by_cases h:R n<n
  ·rw [if_pos h,if_neg (by omega),if_pos ⟨rfl,e2.2 h⟩]
  ·rw [if_neg h,if_neg (by omega),if_neg (fun h'=>h (e2.1 h'.2))]
theorem fl_mul_units{i j N:Int}{U:Nat}(hU:U=1074)(h:val i*val j=N*2^U):fl i*fl j=(N:Rat)*2^(-1074:Int):=by
 have h1:((val i:Int):Rat)*((val j:Int):Rat)=(N:Rat)*2^(U:Int):=by
  rw [<- Rat.intCast_mul,h,Rat.intCast_mul,Rat.intCast_pow,Rat.zpow_natCast];rfl
 have h2:(2:Rat)^(U:Int)*2^(-1074:Int)=1:=by
  rw [<- zpow_add,show (U:Int)+-1074=0 from by omega];rfl
 unfold fl
 have h3:(val i:Rat)*2^(-1074:Int)*((val j:Rat)*2^(-1074:Int))=((val i:Rat)*(val j:Rat))*2^(-1074:Int)*2^(-1074:Int):=by grind
 rw [h3,h1]
 have h4:(N:Rat)*2^(U:Int)*2^(-1074:Int)*2^(-1074:Int)=(N:Rat)*(2^(U:Int)*2^(-1074:Int))*2^(-1074:Int):=by grind
 rw [h4,h2,Rat.mul_one]
def mid(b:Nat):Bool:=decide (553942754166571008<rungOf b) && decide (rungOf b<8660422083433463808)
theorem mid_iff{b:Nat}:mid b=true↔553942754166571008<rungOf b/\rungOf b<8660422083433463808:=by unfold mid;simp
theorem prod_small{m n V:Int}{a b U g:Nat}(hV:V=m*2^a*(n*2^b))(m2:m.natAbs<2^53)(n2:n.natAbs<2^53)(hg:54<=g)(h:a+b<U):nearRung V.natAbs U<=(g+1)*2^52:=by
 refine nearRung_le ?_;rw [hV,Int.natAbs_mul,Int.natAbs_mul,Int.natAbs_mul,Int.natAbs_pow,Int.natAbs_pow,mag_two_pow,<- Nat.pow_add]
 have k1:m.natAbs*2^a*(n.natAbs*2^b)=m.natAbs*n.natAbs*2^(a+b):=by rw [Nat.pow_add];ac_rfl
 show m.natAbs*2^a*(n.natAbs*2^b)<=_
 rw [k1];have k2:m.natAbs*n.natAbs<=2^53*2^53:=Nat.mul_le_mul (Nat.le_of_lt m2) (Nat.le_of_lt n2);have k3:2^(a+b)<=2^U:=Nat.pow_le_pow_right (by omega) (by omega)
 have k4:2^53*2^53<=2^(52+g):=by rw [<- Nat.pow_add];exact Nat.pow_le_pow_right (by omega) (by omega)
 exact Nat.mul_le_mul (Nat.le_trans k2 k4) k3
theorem quick_prod{d:Int}(hd:d=-1\/d=1){x y p:Nat}(hx:x<18446744073709551616)(hy:y<18446744073709551616)(mx:mid x=true)(my:mid y=true)(hp:FloatKind.f64.format.mul x y=some p)(mp:mid p=true):
  ∃ xt xu xh xl yt yu yh yl z1 e0 z2 e1 z3 e2 z4 e:Nat,FloatKind.f64.format.mul 4728779608772575232 x=some xt/\FloatKind.f64.format.sub xt x=some xu/\FloatKind.f64.format.sub xt xu=some xh/\FloatKind.f64.format.sub x xh=some xl /\
   FloatKind.f64.format.mul 4728779608772575232 y=some yt/\FloatKind.f64.format.sub yt y=some yu/\FloatKind.f64.format.sub yt yu=some yh/\FloatKind.f64.format.sub y yh=some yl /\
   FloatKind.f64.format.mul xh yh=some z1/\FloatKind.f64.format.sub z1 p=some e0/\FloatKind.f64.format.mul xh yl=some z2/\FloatKind.f64.format.add e0 z2=some e1 /\
   FloatKind.f64.format.mul xl yh=some z3/\FloatKind.f64.format.add e1 z3=some e2/\FloatKind.f64.format.mul xl yl=some z4/\FloatKind.f64.format.add e2 z4=some e /\
   p<18446744073709551616/\rungOf p<M/\rungOf e<=M/\nud d (idx p) (idx e)=rndI d (fl (idx x)*fl (idx y)):=by
 have hM:M=9218868437227405312:=rfl
 obtain⟨T,hT⟩:∃ T:Nat,T=1974:=⟨_,rfl⟩
 obtain⟨L,hL⟩:∃ T:Nat,T=174:=⟨_,rfl⟩
 obtain⟨U,hU⟩:∃ T:Nat,T=1074:=⟨_,rfl⟩
 have mx':=mid_iff.1 mx;have my':=mid_iff.1 my;have mp':=mid_iff.1 mp
 have pM:rungOf p<M:=by omega
 obtain⟨m,a,fx,m1,m2,bx,-⟩:=middle_form hT hL hx (by omega) (by omega);obtain⟨n,b,fy,n1,n2,by_,-⟩:=middle_form hT hL hy (by omega) (by omega);obtain⟨r,hr,his⟩:=mul_fin (show fin x by unfold fin;omega) (show fin y by unfold fin;omega)
 have e0:p=r:=by
  have:some p=some r:=by rw [<- hp];exact hr
  cases this;rfl
 subst e0;rw [<- hU] at his;have hip:=his.idx
 have hv:val (idx x)*val (idx y)=m*2^a*(n*2^b):=by rw [fx.val,fy.val]
 have hab:U<=a+b:=by
  rcases Nat.lt_or_ge (a+b) U with h | h
  ·exfalso
   obtain⟨g,hg⟩:∃ g:Nat,g=122:=⟨_,rfl⟩
   have h2:=prod_small (V:=val (idx x)*val (idx y)) hv m2 n2 (show 54<=g by omega) h;have h3:=near_natAbs (val (idx x)*val (idx y)) U;rw [<- hip,idx_natAbs] at h3;have h4:=mp'.1;clear bx by_ fx fy m1 m2 n1 n2 hv hT hL hU his hip mx my mp mx' my'
   omega
  ·exact h
 have fp:Fl p (val (idx p)):=⟨his.lt,by unfold fin;omega,rfl⟩
 have bp:=not_great (x:=p) (t:=1922) (T:=T) (by omega) (by omega);obtain⟨xt,xu,xh,xl,yt,yu,yh,yl,z1,e0,z2,e1,z3,e2,z4,e,q1,q2,q3,q4,q5,q6,q7,q8,q9,q10,q11,q12,q13,q14,q15,q16,N,hN,fpN,fe⟩:=quick_mul hU hT fx m1 m2 bx fy n1 n2 by_ hp fp.fin bp hab;refine⟨xt,xu,xh,xl,yt,yu,yh,yl,z1,e0,z2,e1,z3,e2,z4,e,q1,q2,q3,q4,q5,q6,q7,q8,q9,q10,q11,q12,q13,q14,q15,q16,his.lt,pM,Nat.le_of_lt fe.fin,?_⟩;have e5:fl (idx x)*fl (idx y)=(N:Rat)*2^(-1074:Int):=fl_mul_units hU (hv.trans hN);rw [e5]
 exact nud_n hd fpN fe
theorem inf_write(s:Bool):double.write (.infinity s)=pat (if s then -(M:Int) else M):=by
 cases s
 ·have h:=inf_word (x:=9218868437227405312) (by omega) (by decide);rw [show sgn 9218868437227405312=false from by decide] at h;rw [h];exact pat_max.symm
 ·have h:=inf_word (x:=18442240474082181120) (by omega) (by decide);rw [show sgn 18442240474082181120=true from by decide] at h;rw [h];exact pat_min.symm
theorem digits_pos{b m k:Nat}(h:m*2^k=mag (rungOf b))(hb:rungOf b≠0):m≠0:=by
 rintro rfl;rw [Nat.zero_mul] at h;have:=mag_lt_iff.2 (show 0<rungOf b by omega);rw [mag_zero] at this
 omega
theorem mul_inf{x y:Nat}(hx:rungOf x<=M)(hy:rungOf y<=M)(h:rungOf x=M\/rungOf y=M)(nx:rungOf x≠0)(ny:rungOf y≠0):double.mul x y=some (pat (if (sgn x ^^ sgn y) then -(M:Int) else M)):=by
 unfold Format.mul
 by_cases h1:rungOf x=M
 ·rw [read_inf h1]
  by_cases h2:rungOf y=M
  ·rw [read_inf h2]
   simp only [Datum.product,Option.map_some]
   rw [inf_write]
  ·obtain⟨m,k,e,hm,-⟩:=read_fin (show fin y from by unfold fin;omega);rw [e]
   simp only [Datum.product]
   rw [if_neg (digits_pos hm ny)]
   simp only [Option.map_some]
   rw [inf_write]
 ·have h2:rungOf y=M:=by omega
  rw [read_inf h2];obtain⟨m,k,e,hm,-⟩:=read_fin (show fin x from by unfold fin;omega);rw [e]
  simp only [Datum.product]
  rw [if_neg (digits_pos hm nx)]
  simp only [Option.map_some]
  rw [inf_write,Bool.xor_comm]
end
section
open Go.RowKit
theorem middle_walk(b r:Nat)(o1 o2:Ordering)(m:Bool)(w:World)(ha:∀ W,Calls Tryz.prog 117 #[.float .f64 b] W fun e w'=>e=.returned (.float .f64 r)/\W=w')
  (h1:FloatKind.f64.format.order r 553942754166571008=some o1)(h2:FloatKind.f64.format.order r 8660422083433463808=some o2)(hm:((o1 == .gt) && (o2 == .lt))=m):
  Calls Tryz.prog 185 #[.float .f64 b] w fun e w'=>e=.returned (.bool m)/\w=w':=by
 have HA:=Hd ha;have HM:=Hd hm;clear ha hm
 cases o1<;>cases o2
 all_goals
  go_enter Tryz.func185,Tryz.ntmps185
  go_wp2_with fail;refine (HA.out _).mono ?_;rintro e w' ⟨rfl,rfl⟩;go_wp2
  go_ret
  refine⟨?_,rfl⟩;rw [<- HM.out]
  rfl
theorem middle_any(b:Nat)(w:World)(hb:b<18446744073709551616)(hr:rungOf b<=M):Calls Tryz.prog 185 #[.float .f64 b] w fun e w'=>e=.returned (.bool (mid b))/\w=w':=by
 have hM:M=9218868437227405312:=rfl;have r0:=rung_idx (b:=rungOf b) (by omega);have r1:rungOf 553942754166571008=553942754166571008/\idx 553942754166571008=((553942754166571008:Nat):Int):=rung_idx (by decide);have r2:rungOf 8660422083433463808=8660422083433463808/\idx 8660422083433463808=((8660422083433463808:Nat):Int):=rung_idx (by decide)
 have o1:FloatKind.f64.format.order (rungOf b) 553942754166571008=some (compare ((rungOf b:Nat):Int) ((553942754166571008:Nat):Int)):=by
  have h:=order_real (x:=rungOf b) (y:=553942754166571008) (show rungOf (rungOf b)<=M by rw [r0.1];exact hr) (show rungOf 553942754166571008<=M by rw [r1.1];omega);rw [r0.2,r1.2] at h;exact h
 have o2:FloatKind.f64.format.order (rungOf b) 8660422083433463808=some (compare ((rungOf b:Nat):Int) ((8660422083433463808:Nat):Int)):=by
  have h:=order_real (x:=rungOf b) (y:=8660422083433463808) (show rungOf (rungOf b)<=M by rw [r0.1];exact hr) (show rungOf 8660422083433463808<=M by rw [r2.1];omega);rw [r0.2,r2.2] at h;exact h
 refine middle_walk b _ _ _ _ w (fun W=>abs_any b W hb) o1 o2 ?_;unfold mid
 obtain⟨R,hR⟩:∃ R,rungOf b=R:=⟨_,rfl⟩
 rw [hR]
 obtain⟨c1,hc1⟩:∃ c,compare ((R:Nat):Int) ((553942754166571008:Nat):Int)=c:=⟨_,rfl⟩
 obtain⟨c2,hc2⟩:∃ c,compare ((R:Nat):Int) ((8660422083433463808:Nat):Int)=c:=⟨_,rfl⟩
 rw [hc1,hc2]
 have e1:(c1 == .gt)=decide (553942754166571008<R):=by
  by_cases h:553942754166571008<R
  ·rw [decide_eq_true h,<- hc1,Int.compare_eq_gt.2 (by omega)];rfl
  ·rw [decide_eq_false h,<- hc1]
   rcases Int.lt_or_eq_of_le (show ((R:Nat):Int)<=((553942754166571008:Nat):Int) by omega) with k | k
   ·rw [Int.compare_eq_lt.2 k];rfl
   ·rw [Int.compare_eq_eq.2 k];rfl
 have e2:(c2 == .lt)=decide (R<8660422083433463808):=by
  by_cases h:R<8660422083433463808
  ·rw [decide_eq_true h,<- hc2,Int.compare_eq_lt.2 (by omega)];rfl
  ·rw [decide_eq_false h,<- hc2]
   rcases Int.lt_or_eq_of_le (show ((8660422083433463808:Nat):Int)<=((R:Nat):Int) by omega) with k | k
   ·rw [Int.compare_eq_gt.2 k];rfl
   ·rw [Int.compare_eq_eq.2 k.symm];rfl
 rw [e1,e2]
theorem halves_walk(x t u h l:Nat)(w:World)(q1:FloatKind.f64.format.mul 4728779608772575232 x=some t)(q2:FloatKind.f64.format.sub t x=some u)(q3:FloatKind.f64.format.sub t u=some h)(q4:FloatKind.f64.format.sub x h=some l):
  Calls Tryz.prog 228 #[.float .f64 x] w fun e w'=>e=.returned (.tuple #[.float .f64 h,.float .f64 l])/\w=w':=by
 have A1:=fun W=>run_float_arith (P:=Tryz.prog) W .mul 26 .f64 4728779608772575232 x t q1;have A2:=fun W=>run_float_arith (P:=Tryz.prog) W .sub 26 .f64 t x u q2;have A3:=fun W=>run_float_arith (P:=Tryz.prog) W .sub 26 .f64 t u h q3;have A4:=fun W=>run_float_arith (P:=Tryz.prog) W .sub 26 .f64 x h l q4;clear q1 q2 q3 q4
 go_enter Tryz.func228,Tryz.ntmps228
 go_wp2
 go_ret2
 exact⟨rfl,rfl⟩
theorem missed_walk(x y p xh xl yh yl z1 e0 z2 e1 z3 e2 z4 e:Nat)(w:World)(hx:∀ W,Calls Tryz.prog 228 #[.float .f64 x] W fun e w'=>e=.returned (.tuple #[.float .f64 xh,.float .f64 xl])/\W=w')
  (hy:∀ W,Calls Tryz.prog 228 #[.float .f64 y] W fun e w'=>e=.returned (.tuple #[.float .f64 yh,.float .f64 yl])/\W=w')
  (q1:FloatKind.f64.format.mul xh yh=some z1)(q2:FloatKind.f64.format.sub z1 p=some e0)(q3:FloatKind.f64.format.mul xh yl=some z2)(q4:FloatKind.f64.format.add e0 z2=some e1)
  (q5:FloatKind.f64.format.mul xl yh=some z3)(q6:FloatKind.f64.format.add e1 z3=some e2)(q7:FloatKind.f64.format.mul xl yl=some z4)(q8:FloatKind.f64.format.add e2 z4=some e):
  Calls Tryz.prog 187 #[.float .f64 x,.float .f64 y,.float .f64 p] w fun e' w'=>e'=.returned (.float .f64 e)/\w=w':=by
 have A1:=fun W=>run_float_arith (P:=Tryz.prog) W .mul 26 .f64 _ _ _ q1;have A2:=fun W=>run_float_arith (P:=Tryz.prog) W .sub 26 .f64 _ _ _ q2;have A3:=fun W=>run_float_arith (P:=Tryz.prog) W .mul 26 .f64 _ _ _ q3;have A4:=fun W=>run_float_arith (P:=Tryz.prog) W .add 26 .f64 _ _ _ q4;have A5:=fun W=>run_float_arith (P:=Tryz.prog) W .mul 26 .f64 _ _ _ q5;have A6:=fun W=>run_float_arith (P:=Tryz.prog) W .add 26 .f64 _ _ _ q6;have A7:=fun W=>run_float_arith (P:=Tryz.prog) W .mul 26 .f64 _ _ _ q7;have A8:=fun W=>run_float_arith (P:=Tryz.prog) W .add 26 .f64 _ _ _ q8;have HX:=Hd hx;have HY:=Hd hy;clear q1 q2 q3 q4 q5 q6 q7 q8 hx hy
 go_enter Tryz.func187,Tryz.ntmps187
 go_wp2_with fail;refine (HX.out _).mono ?_;rintro e w' ⟨rfl,rfl⟩;go_wp2_with fail;refine (HY.out _).mono ?_;rintro e w' ⟨rfl,rfl⟩;go_wp2
 go_ret
 exact⟨rfl,rfl⟩
theorem rmul_quick(d:Int)(x y p:Nat)(w:World)(hd:d=-1\/d=1)(hx:x<18446744073709551616)(hy:y<18446744073709551616)(rx:rungOf x<M)(ry:rungOf y<M)(hp:FloatKind.f64.format.mul x y=some p)(mx:mid x=true)(my:mid y=true)(mp:mid p=true):
  Rt 119 #[.int .i64 d,.float .f64 x,.float .f64 y] (.float .f64 (pat (rndI d (fl (idx x)*fl (idx y))))) w:=by
 have hM:M=9218868437227405312:=rfl;obtain⟨xt,xu,xh,xl,yt,yu,yh,yl,z1,e0,z2,e1,z3,e2,z4,e,q1,q2,q3,q4,q5,q6,q7,q8,q9,q10,q11,q12,q13,q14,q15,q16,p1,p2,p3,hn⟩:=quick_prod hd hx hy mx my hp mp;have HMI:=Hd fun W=>missed_walk x y p xh xl yh yl z1 e0 z2 e1 z3 e2 z4 e W (fun W=>halves_walk x xt xu xh xl W q1 q2 q3 q4) (fun W=>halves_walk y yt yu yh yl W q5 q6 q7 q8) q9 q10 q11 q12 q13 q14 q15 q16;have HN0:=fun W=>nudge_any d p e W hd p1 p2 p3;rw [hn] at HN0;have HN:=Hd HN0;have A1:=fun W=>run_float_arith (P:=Tryz.prog) W .mul 26 .f64 x y p hp;have HX0:=fun W=>middle_any x W hx (by omega);have HY0:=fun W=>middle_any y W hy (by omega);have HP0:=fun W=>middle_any p W p1 (by omega);rw [mx] at HX0;rw [my] at HY0;rw [mp] at HP0;have HX:=Hd HX0;have HY:=Hd HY0;have HP:=Hd HP0
 have ho:(decide (rungOf x=M) || decide (rungOf y=M))=false:=by
  rw [decide_eq_false (by omega),decide_eq_false (by omega)];rfl
 have HO0:=fun (W:World) (hb:Below w.heap.size w W)=>odd_two W.heap.size x y (W.alloc (.cells #[.float .f64 x,.float .f64 y] 26)) hx hy (by omega) (by omega) (by simp [World.cell?_alloc_new]) (by simp [World.cell?_alloc_new]);rw [ho] at HO0;have HO:=Hd HO0;have LB:=Hd (below_alloc w (.cells #[.float .f64 x,.float .f64 y] 26))
 obtain⟨r,hr⟩:∃ r,pat (rndI d (fl (idx x)*fl (idx y)))=r:=⟨_,rfl⟩
 rw [hr] at HN ⊢;clear HO0 ho hn HN0 q1 q2 q3 q4 q5 q6 q7 q8 q9 q10 q11 q12 q13 q14 q15 q16 hr rx ry hx hy hd hM p1 p2 p3 mx my mp hp HX0 HY0 HP0
 go_enter Tryz.func119,Tryz.ntmps119
 go_wp2_with fail
 go_step3
 go_wp2_with fail;refine (HO.out _ (Below.refl _ _)).mono ?_;rintro e w' ⟨rfl,rfl⟩;go_wp2_with fail;refine (HX.out _).mono ?_;rintro e w' ⟨rfl,rfl⟩;go_wp2_with fail;refine (HY.out _).mono ?_;rintro e w' ⟨rfl,rfl⟩;go_wp2_with fail;refine (HP.out _).mono ?_;rintro e w' ⟨rfl,rfl⟩;go_wp2_with fail;refine (HMI.out _).mono ?_;rintro e w' ⟨rfl,rfl⟩;go_wp2_with fail;refine (HN.out _).mono ?_;rintro e w' ⟨rfl,rfl⟩;go_wp2
 try rw [Exit.noGoto_ret]
 go_ret
 exact⟨rfl,LB.out⟩
theorem rmul_inf(d:Int)(x y r q:Nat)(w:World)(hx:x<18446744073709551616)(hy:y<18446744073709551616)(rx:rungOf x<=M)(ry:rungOf y<=M)(ho:(decide (rungOf x=M) || decide (rungOf y=M))=true)(hr:floatBits .mul .f64 x y=some r)
  (hpl:∀ W,Calls Tryz.prog 184 #[.float .f64 r] W fun e w'=>e=.returned (.float .f64 q)/\W=w'):
  Rt 119 #[.int .i64 d,.float .f64 x,.float .f64 y] (.float .f64 q) w:=by
 have HA:=fun W=>run_float_arith (P:=Tryz.prog) W .mul 26 .f64 _ _ _ hr;have HPL:=Hd hpl;have HO0:=fun (W:World) (hb:Below w.heap.size w W)=>odd_two W.heap.size x y (W.alloc (.cells #[.float .f64 x,.float .f64 y] 26)) hx hy rx ry (by simp [World.cell?_alloc_new]) (by simp [World.cell?_alloc_new]);rw [ho] at HO0;have HO:=Hd HO0;have LB:=Hd (below_alloc w (.cells #[.float .f64 x,.float .f64 y] 26));clear HO0 ho hr rx ry hx hy hpl
 go_enter Tryz.func119,Tryz.ntmps119
 go_wp2_with fail
 go_step3
 go_wp2_with fail;refine (HO.out _ (Below.refl _ _)).mono ?_;rintro e w' ⟨rfl,rfl⟩;go_wp2_with fail;refine (HPL.out _).mono ?_;rintro e w' ⟨rfl,rfl⟩;go_wp2
 try rw [Exit.noGoto_ret]
 go_ret
 exact⟨rfl,LB.out⟩
theorem HasBlk.u32{W:World}{A:Option Addr}{k c:Nat}{xs:List Nat}{r:Nat}{t:TypeId}{n:Nat}(h:HasBlk W r t n)(hr:U32s W A k c xs)(vs:List Value):U32s (Proofs.YthlmlmfebpjgdaaGreatDoor.sets W r 0 vs) A k c xs:=by
 obtain⟨cs,h1,-,h2⟩:=h
 exact hr.sets h1 h2 0 vs
theorem digs_two2{S:Nat}(h:S<18446744073709551616):wlen (digs S)<=2:=wlen_lt (W32.digs S) (K:=2) (by rw [num_digs];exact h)
theorem rprod_any(n1:Bool)(A1:Option Addr)(m1 c1 S1:Nat)(e1:Int)(n2:Bool)(A2:Option Addr)(m2 c2 S2:Nat)(e2:Int)(w:World)(hu1:U32s w A1 m1 c1 (digs S1))(hu2:U32s w A2 m2 c2 (digs S2))(h1:S1<9007199254740992)(h2:S2<9007199254740992)(b1:-1074<=e1/\e1<=971)(b2:-1074<=e2/\e2<=971):
  Calls Tryz.prog 188 #[.agg #[.bool n1,.slice A1 m1 c1,.int .i64 e1],.agg #[.bool n2,.slice A2 m2 c2,.int .i64 e2]] w (NewDy w (n1 != n2) (S1*S2) (e1+e2)):=by
 have k1:=digs_two2 (S:=S1) (by omega);have k2:=digs_two2 (S:=S2) (by omega);have k3:blen S1<=53:=blen_le_iff.2 (show S1<2^53 from h1);have k4:blen S2<=53:=blen_le_iff.2 (show S2<2^53 from h2)
 have HM:=Hd fun W (a:U32s W A1 m1 c1 (digs S1)) (b:U32s W A2 m2 c2 (digs S2))=>by
  have h:=nmul_any A1 A2 m1 c1 m2 c2 (digs S1) (digs S2) W a b (by omega) (by rw [num_digs,num_digs];omega);rw [num_digs,num_digs] at h
  exact h
 obtain⟨P,hP⟩:∃ P,S1*S2=P:=⟨_,rfl⟩
 obtain⟨n3,hn3⟩:∃ z,(n1 != n2)=z:=⟨_,rfl⟩
 rw [hP] at HM ⊢;rw [hn3];have hne:(!n1 == n2)=n3:=hn3;clear hn3 hP k1 k2 k3 k4 h1 h2;have LL:=li3 w #[.bool n1,.slice A1 m1 c1,.int .i64 e1] 168 #[.bool n2,.slice A2 m2 c2,.int .i64 e2] 168 #[.bool false,.slice none 0 0,.int .i64 0] 168;have HU1:=Hd (hu1.below LL.out.b);have HU2:=Hd (hu2.below LL.out.b);clear hu1 hu2
 go_enter Tryz.func188,Tryz.ntmps188
 obtain⟨q1_0,q1_1,q1_2⟩:=(LL.out.blk 0 rfl).c3;obtain⟨q2_0,q2_1,q2_2⟩:=(LL.out.blk 1 rfl).c3;go_wp2_with fail;refine (HM.out _ HU1.out HU2.out).mono ?_;rintro e wk ⟨A3,m3,c3,rfl,hu3,hb⟩;replace LL:=stL LL hb;replace HU1:=Hd (HU1.out.below hb);replace HU2:=Hd (HU2.out.below hb);clear hb q1_0 q1_1 q1_2 q2_0 q2_1 q2_2;have HU3:=Hd hu3;clear hu3;obtain⟨q3_0,q3_1,q3_2⟩:=(LL.out.blk 0 rfl).c3;obtain⟨q4_0,q4_1,q4_2⟩:=(LL.out.blk 1 rfl).c3;replace LL:=Hd (LL.out.loose2 rfl);obtain⟨ha4_0,hf4_0,ha4_1,hf4_1,ha4_2,hf4_2⟩:=(LL.out.has 0 rfl).sf3;have LF:=Hd (LL.out.write [.bool n3,.slice A3 m3 c3,.int .i64 (e1+e2)] rfl (by omega) (by simp<;>omega) (by simp<;>omega));obtain⟨hk4_0,hk4_1,hk4_2⟩:=(LF.out.blk 2 rfl).c3
 simp [sets] at hk4_0 hk4_1 hk4_2
 have LL3:=LL;clear LL;go_wp2;refine bodyPost_ret (v:=.agg #[.bool n3,.slice A3 m3 c3,.int .i64 (e1+e2)]) (by simp [results,Tryz.results188,go_sem,hk4_0,hk4_1,hk4_2]) rfl ?_
 exact⟨A3,m3,c3,rfl,(LL3.out.has 0 rfl).u32 HU3.out [.bool n3,.slice A3 m3 c3,.int .i64 (e1+e2)],LF.out.b⟩
theorem rmul_exact(d:Int)(x y p:Nat)(w:World)(hd:d=-1\/d=1)(hx:x<18446744073709551616)(hy:y<18446744073709551616)(rx:rungOf x<M)(ry:rungOf y<M)(hp:FloatKind.f64.format.mul x y=some p)(hp1:p<18446744073709551616)(hp2:rungOf p<=M)(hm:¬ (mid x=true/\mid y=true/\mid p=true)):
  Rt 119 #[.int .i64 d,.float .f64 x,.float .f64 y] (.float .f64 (pat (rndI d (fl (idx x)*fl (idx y))))) w:=by
 have hM:M=9218868437227405312:=rfl;have A1:=fun W=>run_float_arith (P:=Tryz.prog) W .mul 26 .f64 x y p hp;obtain⟨S1,e1,b1,l1,u1,v1,HP1⟩:=part_any x hx rx;obtain⟨S2,e2,b2,l2,u2,v2,HP2⟩:=part_any y hy ry;have k1:blen S1<=53:=blen_le_iff.2 (show S1<2^53 from b1);have k2:blen S2<=53:=blen_le_iff.2 (show S2<2^53 from b2)
 have kb:blen (S1*S2)<=106:=blen_le_iff.2 (by
  refine Nat.lt_of_le_of_lt (Nat.mul_le_mul_left S1 (Nat.le_of_lt b2)) ?_;rw [show (2:Nat)^106=2^53*2^53 from by rw [<- Nat.pow_add]]
  exact (Nat.mul_lt_mul_right (by omega)).2 b1)
 have hV:rv (sgn x != sgn y) (S1*S2) 1*2^(e1+e2)=fl (idx x)*fl (idx y):=by
  have hm:=rv_mul (sgn x) (sgn y) S1 1 S2 1;rw [Nat.mul_one] at hm;rw [v1,v2,zpow_add,<- hm]
  grind
 have HS0:=fun (A1:Option Addr) (m1 c1:Nat) (A2:Option Addr) (m2 c2:Nat) (W:World) (h1:U32s W A1 m1 c1 (digs S1)) (h2:U32s W A2 m2 c2 (digs S2))=>rprod_any (sgn x) A1 m1 c1 S1 e1 (sgn y) A2 m2 c2 S2 e2 W h1 h2 b1 b2 (by omega) (by omega);have HT0:=fun (A:Option Addr) (m c:Nat) (W:World) (h:U32s W A m c (digs (S1*S2)))=>to_any d (sgn x != sgn y) A m c (S1*S2) (e1+e2) W h hd (by omega) (by omega) (by omega);rw [hV] at HT0;have HS:=Hd HS0;have HT:=Hd HT0;have HX1:=Hd HP1;have HX2:=Hd HP2
 obtain⟨n1,hn1⟩:∃ z,sgn x=z:=⟨_,rfl⟩
 obtain⟨n2,hn2⟩:∃ z,sgn y=z:=⟨_,rfl⟩
 rw [hn1] at HX1 HS HT;rw [hn2] at HX2 HS HT
 obtain⟨n3,hn3⟩:∃ z,(n1 != n2)=z:=⟨_,rfl⟩
 obtain⟨S,hS⟩:∃ z,S1*S2=z:=⟨_,rfl⟩
 obtain⟨E,hE⟩:∃ z,e1+e2=z:=⟨_,rfl⟩
 rw [hn3,hS,hE] at HS HT;clear HP1 HP2 HS0 HT0 hS hE hV kb k1 k2 b1 b2 l1 l2 u1 u2 v1 v2 hn1 hn2 hn3 hp
 have ho:(decide (rungOf x=M) || decide (rungOf y=M))=false:=by
  rw [decide_eq_false (by omega),decide_eq_false (by omega)];rfl
 have HO0:=fun (W:World) (hb:Below w.heap.size w W)=>odd_two W.heap.size x y (W.alloc (.cells #[.float .f64 x,.float .f64 y] 26)) hx hy (by omega) (by omega) (by simp [World.cell?_alloc_new]) (by simp [World.cell?_alloc_new]);rw [ho] at HO0;have HO:=Hd HO0;have HX0:=fun W=>middle_any x W hx (by omega);have HY0:=fun W=>middle_any y W hy (by omega);have HQ0:=fun W=>middle_any p W hp1 hp2
 obtain⟨mx,ex⟩:∃ z,mid x=z:=⟨_,rfl⟩
 obtain⟨my,ey⟩:∃ z,mid y=z:=⟨_,rfl⟩
 obtain⟨mp,ep⟩:∃ z,mid p=z:=⟨_,rfl⟩
 rw [ex] at HX0 hm;rw [ey] at HY0 hm;rw [ep] at HQ0 hm;have HX:=Hd HX0;have HY:=Hd HY0;have HQ:=Hd HQ0;have LB:=Hd (below_alloc w (.cells #[.float .f64 x,.float .f64 y] 26))
 have hc:mx=false\/(mx=true/\my=false)\/(mx=true/\my=true/\mp=false):=by
  cases mx
  ·exact .inl rfl
  ·cases my
   ·exact .inr (.inl ⟨rfl,rfl⟩)
   ·cases mp
    ·exact .inr (.inr ⟨rfl,rfl,rfl⟩)
    ·exact absurd ⟨rfl,rfl,rfl⟩ hm
 obtain⟨r,hr⟩:∃ r,pat (rndI d (fl (idx x)*fl (idx y)))=r:=⟨_,rfl⟩
 rw [hr] at HT ⊢;clear HO0 ho hr rx ry hx hy hd hM hm ex ey ep HX0 HY0 HQ0 hp1 hp2
 rcases hc with rfl | ⟨rfl,rfl⟩ | ⟨rfl,rfl,rfl⟩
 all_goals
  go_enter Tryz.func119,Tryz.ntmps119
  go_wp2_with fail
  apply scope_once 0 _ _ rfl
  focus
   go_wp2_with fail;refine (HO.out _ (Below.refl _ _)).mono ?_;rintro e w' ⟨rfl,rfl⟩;go_wp2_with fail;refine (HX.out _).mono ?_;rintro e w' ⟨rfl,rfl⟩;go_wp2_with fail
   try (refine (HY.out _).mono ?_;rintro e w' ⟨rfl,rfl⟩;go_wp2_with fail)
   try (refine (HQ.out _).mono ?_;rintro e w' ⟨rfl,rfl⟩;go_wp2_with fail)
   try go_step3
   exact⟨rfl,rfl,rfl⟩
  clear HO HX HY HQ;generalize w.alloc (.cells #[.float .f64 x,.float .f64 y] 26)=wa at LB ⊢;go_wp2_with fail;refine (HX1.out _).mono ?_;rintro e w1 ⟨A1,m1,c1,rfl,hu1,hb1⟩;have LB1:=Hd (LB.out.trans (hb1.mono LB.out.size));have U1:=Hd hu1;clear hu1 hb1 LB;go_wp2_with fail;refine (HX2.out _).mono ?_;rintro e w2 ⟨A2,m2,c2,rfl,hu2,hb2⟩;have LB2:=stB LB1 hb2 LB1.out.size;have V1:=Hd (U1.out.below hb2);have V2:=Hd hu2;clear hu2 hb2 LB1 U1;go_wp2_with fail;refine (HS.out _ _ _ _ _ _ _ V1.out V2.out).mono ?_;rintro e w3 ⟨A3,m3,c3,rfl,hu3,hb3⟩;have LB3:=stB LB2 hb3 LB2.out.size;have V3:=Hd hu3;clear hu3 hb3 LB2 V1 V2;go_wp2_with fail;refine cx (HT.out _ _ _ _ V3.out) fun w4 hb4=>?_;have LB4:=stB LB3 hb4 LB3.out.size;clear hb4 LB3 V3;go_wp2
  simp only [Exit.jump]
  go_ret
  exact⟨rfl,LB4.out⟩
theorem sgn_pat{i:Int}(h:-(M:Int)<=i/\i<=M)(h0:i≠0):sgn (pat i)=decide (i<0):=by
 have c:=pat_cases (pat_lt h.1 h.2);rw [idx_pat h.1 h.2] at c
 rcases c with ⟨c1,c2,c3,c4⟩ | ⟨c1,c2,c3,c4⟩
 ·rw [c3,decide_eq_false (by omega)]
 ·rw [c3,decide_eq_true (by omega)]
def mu(d i j:Int):Int:=if i=M\/i=-(M:Int)\/j=M\/j=-(M:Int) then (if (decide (i<0) ^^ decide (j<0))=true then -(M:Int) else M) else rndI d (fl i*fl j)
theorem rmul_pat(d i j:Int)(w:World)(hd:d=-1\/d=1)(hi:-(M:Int)<=i/\i<=M)(hj:-(M:Int)<=j/\j<=M)(ni:i≠0)(nj:j≠0):
  Rt 119 #[.int .i64 d,.float .f64 (pat i),.float .f64 (pat j)] (.float .f64 (pat (mu d i j))) w:=by
 have hM:M=9218868437227405312:=rfl;have px:=pat_lt hi.1 hi.2;have py:=pat_lt hj.1 hj.2;have rx:=rung_pat hi.1 hi.2;have ry:=rung_pat hj.1 hj.2;unfold mu
 by_cases h:i=M\/i=-(M:Int)\/j=M\/j=-(M:Int)
 ·rw [if_pos h];have hm:=mul_inf (x:=pat i) (y:=pat j) (by omega) (by omega) (by omega) (by omega) (by omega);rw [sgn_pat hi ni,sgn_pat hj nj] at hm
  obtain⟨k,hk⟩:∃ k:Int,(if (decide (i<0) ^^ decide (j<0))=true then -(M:Int) else M)=k:=⟨_,rfl⟩
  have hk2:-(M:Int)<=k/\k<=M:=by rw [<- hk];split<;>omega
  rw [hk] at hm ⊢;have hp:=fun W=>rplain (pat k) W (pat_lt hk2.1 hk2.2) (by rw [rung_pat hk2.1 hk2.2];omega);rw [idx_pat hk2.1 hk2.2] at hp;refine rmul_inf d (pat i) (pat j) (pat k) (pat k) w px py (by omega) (by omega) ?_ hm hp
  by_cases h2:rungOf (pat i)=M
  ·rw [decide_eq_true h2];rfl
  ·rw [decide_eq_true (show rungOf (pat j)=M by omega),Bool.or_true]
 ·rw [if_neg h];obtain⟨p,hp,his⟩:=mul_fin (show fin (pat i) by unfold fin;omega) (show fin (pat j) by unfold fin;omega);have hr:=near_range (val (idx (pat i))*val (idx (pat j))) 1074;have hn:=idx_natAbs p;rw [his.idx] at hn
  have hp2:rungOf p<=M:=by omega
  have e:rndI d (fl i*fl j)=rndI d (fl (idx (pat i))*fl (idx (pat j))):=by rw [idx_pat hi.1 hi.2,idx_pat hj.1 hj.2]
  rw [e]
  by_cases hm:mid (pat i)=true/\mid (pat j)=true/\mid p=true
  ·exact rmul_quick d (pat i) (pat j) p w hd px py (by omega) (by omega) hp hm.1 hm.2.1 hm.2.2
  ·exact rmul_exact d (pat i) (pat j) p w hd px py (by omega) (by omega) hp his.lt hp2 hm
end
section
open Go.RowKit Ieee
theorem quo_digits(N n:Nat)(hn:0<n)(A:Nat):(A*n<=2*N->A<=2*(N / n)+(N % n != 0).toNat)/\(2*N<=A*n->2*(N / n)+(N % n != 0).toNat<=A):=by
 have h1:=Nat.div_add_mod N n;have h2:=Nat.mod_lt N hn;generalize N / n=q at *;generalize N % n=r at *;rw [<- h1]
 have e:2*(n*q+r)=(2*q)*n+2*r:=by
  rw [Nat.mul_add,Nat.mul_comm n q,Nat.mul_assoc]
 rw [e]
 by_cases r0:r=0
 ·subst r0;have z:((0:Nat) != 0).toNat=0:=rfl;rw [z]
  exact⟨fun h=>Nat.le_of_mul_le_mul_right (by omega:A*n<=(2*q)*n) hn,fun h=>Nat.le_of_mul_le_mul_right (by omega:(2*q+0)*n<=A*n) hn⟩
 ·have z:(r != 0).toNat=1:=by simp [r0]
  rw [z]
  have e2:(2*q+2)*n=2*q*n+2*n:=by rw [Nat.add_mul]
  constructor
  ·intro h;have:=Nat.lt_of_mul_lt_mul_right (a:=n) (show A*n<(2*q+2)*n by omega)
   omega
  ·intro h;have:=Nat.lt_of_mul_lt_mul_right (a:=n) (show (2*q)*n<A*n by omega)
   omega
theorem quo_great(m n:Nat)(hm:m≠0)(hn:n≠0):2^53*n<=m*2^(54+n.log2 - m.log2):=by
 have h1:=Nat.log2_self_le hm;have h2:n<2^(n.log2+1):=Nat.lt_log2_self;have h3:2^(n.log2+54)<=2^(m.log2+(54+n.log2 - m.log2)):=Nat.pow_le_pow_right (by omega) (by omega);have h4:2^m.log2*2^(54+n.log2 - m.log2)<=m*2^(54+n.log2 - m.log2):=Nat.mul_le_mul_right _ h1
 have h5:(2:Nat)^(n.log2+54)=2^53*2^(n.log2+1):=by rw [<- Nat.pow_add];congr 1;omega
 rw [<- Nat.pow_add] at h4;have h6:2^53*n<=2^53*2^(n.log2+1):=Nat.mul_le_mul_left _ (by omega)
 omega
theorem mag_even{i K:Nat}(h:2^54*2^K<=mag i):∃ B:Nat,mag i=2*B*2^K:=by
 obtain⟨k,q,e,hk,hq⟩:=rung_form i
 have hm:mag i=q*2^k:=by rw [e];exact mag_form k q hk (by omega)
 have hk2:K+1<=k:=by
  rcases Nat.lt_or_ge k (K+1) with c | c
  ·exfalso
   have h1:2^k<=2^K:=Nat.pow_le_pow_right (by omega) (by omega);have h2:q*2^k<=2^53*2^K:=Nat.mul_le_mul (by omega) h1;have:=Nat.two_pow_pos K
   omega
  ·exact c
 refine⟨q*2^(k - K - 1),?_⟩;rw [hm]
 have e2:(2:Nat)^k=2*2^(k - K - 1)*2^K:=by
  rw [Nat.mul_assoc,<- Nat.pow_add,<- Nat.pow_succ'];congr 1;omega
 rw [e2];ac_rfl
theorem div_pos{x y U:Nat}(hU:U=1074)(hx:fin x)(hy:fin y)(sx:sgn x=false)(sy:sgn y=false)(h0:rungOf x≠0)(h1:rungOf y≠0):
  ∃ r t:Nat,double.div x y=some r/\Is r (t:Int)/\t<=M/\(∀ i:Nat,i<=M->mag i*mag (rungOf y)<=mag (rungOf x)*2^U->i<=t)/\(∀ i:Nat,mag (rungOf x)*2^U<=mag i*mag (rungOf y)->t<=i):=by
 obtain⟨m,k,ex,hm,-⟩:=read_fin hx;obtain⟨n,l,ey,hn,-⟩:=read_fin hy;clear hx hy;have m0:=digits_pos hm h0;have n0:=digits_pos hn h1
 have n1:0<n:=by omega
 obtain⟨more,hmore⟩:∃ more,54+n.log2 - m.log2=more:=⟨_,rfl⟩
 have great:=quo_great m n m0 n0;rw [hmore] at great
 obtain⟨N,hN⟩:∃ N,m*2^more=N:=⟨_,rfl⟩
 rw [hN] at great
 obtain⟨T,hT⟩:∃ T,2*(N / n)+(N % n != 0).toNat=T:=⟨_,rfl⟩
 have hquo:=fun A=>quo_digits N n n1 A;rw [hT] at hquo
 have hr:double.div x y=some (double.nearest false T (-1074+(k:Int) - (-1074+(l:Int)) - (more:Int) - 1)):=by
  unfold Format.div;rw [ex,ey]
  simp only [Datum.quotient]
  rw [if_neg n0]
  simp only [Option.map_some,write_num]
  rw [show double.fractionBits+2=54 from by decide,hmore,Nat.shiftLeft_eq,hN,hT,sx,sy]
  rfl
 rw [hr,<- hm,<- hn]
 have T54:2^54<=T:=(hquo (2^54)).1 (by
  have:2^54*n=2*(2^53*n):=by rw [<- Nat.mul_assoc]
  omega)
 rcases Nat.le_total (k+U) (l+more+1) with c | c
 ·obtain⟨d,hd⟩:∃ d,l+more+1=k+U+d:=⟨l+more+1 - (k+U),by omega⟩
  rw [show (-1074+(k:Int) - (-1074+(l:Int)) - (more:Int) - 1)=-1074 - (d:Int) from by omega,nearest_low]
  have hp:2^k*2^U*2^d=2*2^more*2^l:=by
   rw [<- Nat.pow_add,<- Nat.pow_add,<- Nat.pow_succ',<- Nat.pow_add];congr 1;omega
  have key:∀ i:Nat,mag i*(n*2^l)*2^d=(mag i*2^d*n)*2^l:=fun i=>by ac_rfl
  have key2:m*2^k*2^U*2^d=(2*N)*2^l:=by
   rw [<- hN]
   calc m*2^k*2^U*2^d=m*(2^k*2^U*2^d):=by ac_rfl
    _=m*(2*2^more*2^l):=by rw [hp]
    _=_:=by ac_rfl
  refine⟨_,min (nearRung T d) M,rfl,?_,Nat.min_le_right _ _,fun i hi h=>?_,fun i h=>?_⟩
  ·have:=Is.word false (r:=min (nearRung T d) M) (Nat.min_le_right _ _)
   exact this
  ·have h2:=Nat.mul_le_mul_right (2^d) h;rw [key,key2] at h2;have h3:=(hquo _).1 (Nat.le_of_mul_le_mul_right h2 (Nat.two_pow_pos l))
   exact Nat.le_min.2 ⟨le_nearRung h3,hi⟩
  ·have h2:=Nat.mul_le_mul_right (2^d) h;rw [key,key2] at h2;have h3:=(hquo _).2 (Nat.le_of_mul_le_mul_right h2 (Nat.two_pow_pos l))
   exact Nat.le_trans (Nat.min_le_left _ _) (nearRung_le h3)
 ·obtain⟨K,hK⟩:∃ K,k+U=l+more+1+K:=⟨k+U - (l+more+1),by omega⟩
  rw [show (-1074+(k:Int) - (-1074+(l:Int)) - (more:Int) - 1)=-1074+(K:Int) from by omega,nearest_high]
  have hp:2^k*2^U=2*2^more*2^K*2^l:=by
   rw [<- Nat.pow_add,<- Nat.pow_succ',<- Nat.pow_add,<- Nat.pow_add];congr 1;omega
  have key:∀ i:Nat,mag i*(n*2^l)=(mag i*n)*2^l:=fun i=>by ac_rfl
  have key2:m*2^k*2^U=(2*N*2^K)*2^l:=by
   rw [<- hN]
   calc m*2^k*2^U=m*(2^k*2^U):=by ac_rfl
    _=m*(2*2^more*2^K*2^l):=by rw [hp]
    _=_:=by ac_rfl
  have hK0:=Nat.two_pow_pos K;refine⟨_,min (nearRung (T*2^K) 0) M,rfl,?_,Nat.min_le_right _ _,fun i hi h=>?_,fun i h=>?_⟩
  ·have:=Is.word false (r:=min (nearRung (T*2^K) 0) M) (Nat.min_le_right _ _)
   exact this
  ·rw [key,key2] at h;have h2:=Nat.le_of_mul_le_mul_right h (Nat.two_pow_pos l)
   have h3:mag i*2^0<=T*2^K:=by
    rw [Nat.pow_zero,Nat.mul_one]
    rcases Nat.lt_or_ge (mag i) (2^54*2^K) with g | g
    ·have:=Nat.mul_le_mul_right (2^K) T54
     omega
    ·obtain⟨B,hB⟩:=mag_even g;rw [hB] at h2 ⊢
     have h4:(2*B*n)*2^K<=(2*N)*2^K:=by
      have:2*B*2^K*n=(2*B*n)*2^K:=by ac_rfl
      omega
     exact Nat.mul_le_mul_right _ ((hquo _).1 (Nat.le_of_mul_le_mul_right h4 hK0))
   exact Nat.le_min.2 ⟨le_nearRung h3,hi⟩
  ·rw [key,key2] at h;have h2:=Nat.le_of_mul_le_mul_right h (Nat.two_pow_pos l)
   have h3:T*2^K<=mag i*2^0:=by
    rw [Nat.pow_zero,Nat.mul_one]
    rcases Nat.lt_or_ge (mag i) (2^54*2^K) with g | g
    ·exfalso
     have h5:mag i*n<2^54*2^K*n:=(Nat.mul_lt_mul_right n1).2 g;have h6:2*(2^53*n)*2^K<=2*N*2^K:=Nat.mul_le_mul_right _ (Nat.mul_le_mul_left _ great)
     have h7:2*(2^53*n)*2^K=2^54*2^K*n:=by
      rw [<- Nat.mul_assoc 2 (2^53) n,<- Nat.pow_succ'];ac_rfl
     omega
    ·obtain⟨B,hB⟩:=mag_even g;rw [hB] at h2 ⊢
     have h4:(2*N)*2^K<=(2*B*n)*2^K:=by
      have:2*B*2^K*n=(2*B*n)*2^K:=by ac_rfl
      omega
     exact Nat.mul_le_mul_right _ ((hquo _).2 (Nat.le_of_mul_le_mul_right h4 hK0))
   exact Nat.le_trans (Nat.min_le_left _ _) (nearRung_le h3)
end
end Go.Proofs.YthlmlmfebpjgdaaGreatDoor
