/-
round.FMA by indexes.
Walks: package rev, without; by indexes.
Plain: what FMARevAdd answers.
Plain: what lies in the answers of MulPair and FMARevAdd.
-/
import Derived.Test.YthlmlmfebpjgdaaGreatDoorM34
import Derived.Test.YthlmlmfebpjgdaaGreatDoorPPairT
import Derived.Deep.DeepCutAuto
import Derived.Test.YthlmlmfebpjgdaaGreatDoorM22
import Derived.Test.YthlmlmfebpjgdaaGreatDoorM33
set_option linter.unusedSimpArgs false
set_option linter.unusedVariables false
set_option maxHeartbeats 12800000
namespace Go.Proofs.YthlmlmfebpjgdaaGreatDoor
open Go.RowKit Ieee
theorem quick_prod2{x y p:Nat}(hx:x<18446744073709551616)(hy:y<18446744073709551616)(mx:mid x=true)(my:mid y=true)(hp:FloatKind.f64.format.mul x y=some p)(mp:mid p=true){U:Nat}(hU:U=1074):
  ∃ e:Nat,(∀ W,Calls Tryz.prog 187 #[.float .f64 x,.float .f64 y,.float .f64 p] W fun e' w'=>e'=.returned (.float .f64 e)∧W=w')∧∃ N:Int,val (idx x)*val (idx y)=N*2^U∧Fl p (R N)∧Fl e (N - R N):=by
 have hM:M=9218868437227405312:=rfl
 obtain⟨T,hT⟩:∃ T:Nat,T=1974:=⟨_,rfl⟩
 obtain⟨L,hL⟩:∃ T:Nat,T=174:=⟨_,rfl⟩
 have mx':=mid_iff.1 mx;have my':=mid_iff.1 my;have mp':=mid_iff.1 mp
 have pM:rungOf p<M:=by omega
 obtain⟨m,a,fx,m1,m2,bx,-⟩:=middle_form hT hL hx (by omega) (by omega);obtain⟨n,b,fy,n1,n2,by_,-⟩:=middle_form hT hL hy (by omega) (by omega);obtain⟨r,hr,his⟩:=mul_fin (show fin x by unfold fin;omega) (show fin y by unfold fin;omega)
 have e0:p=r:=by
  have:some p=some r:=by rw [← hp];exact hr
  cases this;rfl
 subst e0;rw [← hU] at his;have hip:=his.idx
 have hv:val (idx x)*val (idx y)=m*2^a*(n*2^b):=by rw [fx.val,fy.val]
 have hab:U≤a+b:=by
  rcases Nat.lt_or_ge (a+b) U with h | h
  ·exfalso
   obtain⟨g,hg⟩:∃ g:Nat,g=122:=⟨_,rfl⟩
   have h2:=prod_small (V:=val (idx x)*val (idx y)) hv m2 n2 (show 54≤g by omega) h;have h3:=near_natAbs (val (idx x)*val (idx y)) U;rw [← hip,idx_natAbs] at h3;have h4:=mp'.1;clear bx by_ fx fy m1 m2 n1 n2 hv hT hL hU his hip mx my mp mx' my'
   omega
  ·exact h
 have fp:Fl p (val (idx p)):=⟨his.lt,by unfold fin;omega,rfl⟩
 have bp:=not_great (x:=p) (t:=1922) (T:=T) (by omega) (by omega);obtain⟨xt,xu,xh,xl,yt,yu,yh,yl,z1,e0,z2,e1,z3,e2,z4,e,q1,q2,q3,q4,q5,q6,q7,q8,q9,q10,q11,q12,q13,q14,q15,q16,N,hN,fpN,fe⟩:=quick_mul hU hT fx m1 m2 bx fy n1 n2 by_ hp fp.fin bp hab
 exact⟨e,fun W=>missed_walk x y p xh xl yh yl z1 e0 z2 e1 z3 e2 z4 e W (fun W=>halves_walk x xt xu xh xl W q1 q2 q3 q4) (fun W=>halves_walk y yt yu yh yl W q5 q6 q7 q8) q9 q10 q11 q12 q13 q14 q15 q16,N,hv.trans hN,fpN,fe⟩
theorem Fl_abs{s:Nat}{v:Int}(h:Fl s v):Fl (rungOf s) v.natAbs:=by
 have hM:M=9218868437227405312:=rfl;have hf:rungOf s<M:=h.fin;have r:=rung_idx (b:=rungOf s) (by omega);have e1:=val_natAbs (idx s);rw [h.val,idx_natAbs] at e1;have e2:=val_natAbs ((rungOf s:Nat):Int);rw [Int.natAbs_natCast] at e2
 have e3:0≤val ((rungOf s:Nat):Int):=by
  rcases Nat.eq_zero_or_pos (rungOf s) with k | k
  ·rw [k];exact Int.le_of_eq val_zero.symm
  ·have:=(@val_lt_iff 0 ((rungOf s:Nat):Int)).2 (by omega);rw [val_zero] at this;omega
 exact⟨by omega,by unfold fin;omega,by rw [r.2];omega⟩
theorem c55{K:Nat}(hK:K=1019):Fl 4359484439294640128 (2^K):=by
 have hM:M=9218868437227405312:=rfl;have r:rungOf 4359484439294640128=4359484439294640128∧idx 4359484439294640128=((4359484439294640128:Nat):Int):=rung_idx (by decide)
 obtain⟨t,ht⟩:∃ t:Nat,t=967:=⟨_,rfl⟩
 have e1:=val_natAbs ((4359484439294640128:Nat):Int);rw [Int.natAbs_natCast,show 4359484439294640128=(t+1)*2^52 from by omega,mag_two_pow,← Nat.pow_add,show 52+t=K from by omega] at e1;have e3:=(@val_lt_iff 0 ((4359484439294640128:Nat):Int)).2 (by omega);rw [val_zero] at e3;refine⟨by omega,by unfold fin;rw [r.1];omega,?_⟩;rw [r.2]
 have e4:((2^K:Nat):Int)=(2:Int)^K:=by push_cast;rfl
 rw [← e4];rw [show ((t+1)*2^52:Nat)=4359484439294640128 from by omega] at e1
 omega
theorem order_of{x y:Nat}{m n:Int}(hx:Fl x m)(hy:Fl y n):FloatKind.f64.format.order x y=some (compare m n):=by
 have h:=order_real (x:=x) (y:=y) (Nat.le_of_lt hx.fin) (Nat.le_of_lt hy.fin);refine h.trans ?_;rw [← hx.val,← hy.val]
 congr 1
 rcases Int.lt_trichotomy (idx x) (idx y) with k | k | k
 ·rw [Int.compare_eq_lt.2 k,Int.compare_eq_lt.2 (val_lt_iff.2 k)]
 ·rw [k,Int.compare_eq_eq.2 rfl,Int.compare_eq_eq.2 rfl]
 ·rw [Int.compare_eq_gt.2 k,Int.compare_eq_gt.2 (val_lt_iff.2 k)]
theorem Fl_zero:Fl 0 0:=⟨by omega,by unfold fin;decide,by rw [show idx 0=0 from by decide,val_zero]⟩
theorem part55{s:Nat}{v:Int}{F:Nat}(hF:F=55)(h:Fl s v)(hs:553942754166571008≤rungOf s):∃ (q:Nat) (Z:Nat),FloatKind.f64.format.mul (rungOf s) 4359484439294640128=some q∧Fl q Z∧v.natAbs=Z*2^F∧2^54≤v.natAbs:=by
 have hM:M=9218868437227405312:=rfl;have hf:rungOf s<M:=h.fin;obtain⟨k,m,e,hk,hq⟩:=rung_form (rungOf s)
 have hmag:mag (rungOf s)=m*2^k:=by rw [e];exact mag_form k m hk (by omega)
 have hv:v.natAbs=m*2^k:=by rw [← h.val,val_natAbs,idx_natAbs,hmag]
 have k1:55≤k:=by omega
 have m1:2^52≤m:=by omega
 obtain⟨l,hl⟩:∃ l,k=F+l:=⟨k - F,by omega⟩
 obtain⟨U,hU⟩:∃ U:Nat,U=1074:=⟨_,rfl⟩
 obtain⟨K,hK⟩:∃ K:Nat,K=1019:=⟨_,rfl⟩
 have fa:=Fl_abs h
 have e1:v.natAbs=m*2^l*2^F:=by rw [hv,hl,Nat.add_comm F l,Nat.pow_add,← Nat.mul_assoc]
 have e2:(v.natAbs:Int)*2^K=(m*2^l:Nat)*2^U:=by
  have e3:v.natAbs*2^K=m*2^l*2^U:=by rw [e1,Nat.mul_assoc,← Nat.pow_add,show F+K=U from by omega]
  have e4:((v.natAbs*2^K:Nat):Int)=((m*2^l*2^U:Nat):Int):=by rw [e3]
  rw [Int.natCast_mul,Int.natCast_mul (m*2^l),Int.natCast_pow,Int.natCast_pow] at e4
  exact e4
 have hrep:Rep ((m*2^l:Nat):Int):=rep_iff.2 (by
  rcases Nat.lt_or_ge m (2^53) with c | c
  ·exact⟨m,l,c,Int.natAbs_natCast _⟩
  ·refine⟨2^52,l+1,by omega,?_⟩
   have p2:2^(l+1)=2*2^l:=by rw [Nat.pow_succ,Nat.mul_comm]
   rw [Int.natAbs_natCast,p2,← Nat.mul_assoc,show m=2^52*2 from by omega])
 have hb:((m*2^l:Nat):Int).natAbs≤2^2090:=by
  have hk2:k≤2046:=by omega
  rw [Int.natAbs_natCast]
  obtain⟨Q,hQ⟩:∃ Q:Nat,Q=2090:=⟨_,rfl⟩
  rw [← hQ];refine Nat.le_trans (Nat.mul_le_mul (show m≤2^53 by omega) (Nat.le_refl _)) ?_;rw [← Nat.pow_add]
  exact Nat.pow_le_pow_right (by omega) (by omega)
 obtain⟨q,hq1,fq⟩:=Fl.mul_at (Nat.le_refl 2090) hU fa (c55 hK) e2 hb;rw [R_of_rep hrep] at fq;refine⟨q,_,hq1,fq,e1,?_⟩;rw [hv];have p3:2^55≤2^k:=Nat.pow_le_pow_right (by omega) k1
 exact Nat.le_trans (show 2^54≤2^52*2^55 by omega) (Nat.mul_le_mul m1 p3)
theorem cmp_ne{a:Int}(h:a≠0):compare a 0=.lt∨compare a 0=.gt:=by
 rcases Int.lt_or_gt_of_ne h with k | k
 ·exact .inl (Int.compare_eq_lt.2 k)
 ·exact .inr (Int.compare_eq_gt.2 k)
theorem small_ord{s:Nat}(hs:rungOf s≤M):(FloatKind.f64.format.order (rungOf s) 553942754166571008 == some Ordering.lt)=decide (rungOf s<553942754166571008):=by
 have hM:M=9218868437227405312:=rfl;have r0:=rung_idx (b:=rungOf s) (by omega);have r1:rungOf 553942754166571008=553942754166571008∧idx 553942754166571008=((553942754166571008:Nat):Int):=rung_idx (by decide);have h:=order_real (x:=rungOf s) (y:=553942754166571008) (show rungOf (rungOf s)≤M by rw [r0.1];exact hs) (show rungOf 553942754166571008≤M by rw [r1.1];omega);rw [r0.2,r1.2] at h;have h':FloatKind.f64.format.order (rungOf s) 553942754166571008=some (compare ((rungOf s:Nat):Int) ((553942754166571008:Nat):Int)):=h;rw [h']
 by_cases k:rungOf s<553942754166571008
 ·rw [decide_eq_true k,Int.compare_eq_lt.2 (by omega)];rfl
 ·rw [decide_eq_false k]
  rcases Int.lt_or_eq_of_le (show ((553942754166571008:Nat):Int)≤((rungOf s:Nat):Int) by omega) with c | c
  ·rw [Int.compare_eq_gt.2 c];rfl
  ·rw [Int.compare_eq_eq.2 c.symm];rfl
theorem rfma_fin(d:Int)(x y z:Nat)(w:World)(hd:d=-1∨d=1)(hx:x<18446744073709551616)(hy:y<18446744073709551616)(hz:z<18446744073709551616)(rx:rungOf x<M)(ry:rungOf y<M)(rz:rungOf z<M):
  Calls Tryz.prog 162 #[.int .i64 d,.float .f64 x,.float .f64 y,.float .f64 z] w fun e w'=>e=.returned (.float .f64 (pat (rndI d (fl (idx x)*fl (idx y)+fl (idx z)))))∧Below w.heap.size w w':=by
 have hM:M=9218868437227405312:=rfl;obtain⟨p,hp,his⟩:=mul_fin (show fin x from rx) (show fin y from ry);have hr:=near_range (val (idx x)*val (idx y)) 1074;have hpn:=idx_natAbs p;rw [his.idx] at hpn
 have hp2:rungOf p≤M:=by omega
 obtain⟨gz,hgz⟩:∃ v,(FloatKind.f64.format.order (rungOf z) 8660422083433463808 == some Ordering.gt)=v:=⟨_,rfl⟩
 by_cases hm:mid x=true∧mid y=true∧mid p=true∧gz=false
 ·obtain⟨mx,my,mp,g0⟩:=hm;subst g0
  obtain⟨U,hU⟩:∃ U:Nat,U=1074:=⟨_,rfl⟩
  obtain⟨T,hT⟩:∃ U:Nat,U=1974:=⟨_,rfl⟩
  obtain⟨F,hF⟩:∃ U:Nat,U=55:=⟨_,rfl⟩
  obtain⟨e,HMI,N,hN,fp,fe⟩:=quick_prod2 hx hy mx my hp mp hU
  have gzz:rungOf z≤8660422083433463808:=by
   rcases great_ord (r:=rungOf z) (by omega) with h | h
   ·exact h.1
   ·rw [h.2] at hgz;cases hgz
  have mp':=mid_iff.1 mp;have bz:=not_great (x:=z) (t:=1922) (T:=T) (by omega) (by omega);have bp:=not_great (x:=p) (t:=1922) (T:=T) (by omega) (by omega);rw [fp.val] at bp;have fz:=Fl_self hz rz;obtain⟨s,t,a,b,c,f,q1,q2,q3,q4,q5,q6,fs,ff⟩:=quick_sum (T:=T) (by omega) fp fz bp bz
  obtain⟨n,hn⟩:∃ n,R N+val (idx z)=n:=⟨_,rfl⟩
  rw [hn] at fs ff;have of:=order_of ff Fl_zero;have oe:=order_of fe Fl_zero;have osm:=small_ord (s:=s) (Nat.le_of_lt fs.fin)
  have ev:fl (idx x)*fl (idx y)+fl (idx z)=((N+val (idx z):Int):Rat)*2^(-1074:Int):=by
   rw [fl_mul_units hU hN,Rat.intCast_add];unfold fl;grind
  have good:(N - R N=0∨(n - R n=0∧2^54≤(R n).natAbs∧(N - R N).natAbs*2^55<(R n).natAbs))→∃ g,FloatKind.f64.format.add e f=some g∧∀ W,Calls Tryz.prog 186 #[.int .i64 d,.float .f64 s,.float .f64 g] W fun e w'=>e=.returned (.float .f64 (pat (rndI d (fl (idx x)*fl (idx y)+fl (idx z)))))∧W=w':=fun hc=>by
   obtain⟨g,hg,gM,hnn⟩:=fma_good hd hn.symm fs ff fe hc;refine⟨g,hg,fun W=>?_⟩;have h:=nudge_any d s g W hd fs.lt fs.fin gM;rw [hnn,← ev] at h
   exact h
  by_cases sm:rungOf s<553942754166571008
  ·rw [decide_eq_true sm] at osm;refine rfma_exact2 d x y z p e s t a b c f 0 true _ _ .eq w hd hx hy hz rx ry rz hp his.lt hp2 mx my mp hgz HMI q1 q2 q3 q4 q5 q6 fe.lt fs.lt of oe osm ?_
   by_cases k1:n - R n=0
   ·exact .inr (.inr (.inl ⟨Int.compare_eq_eq.2 k1,rfl⟩))
   ·by_cases k2:N - R N=0
    ·exact .inr (.inl ⟨cmp_ne k1,Int.compare_eq_eq.2 k2,rfl⟩)
    ·exact .inl ⟨cmp_ne k1,cmp_ne k2⟩
  ·rw [decide_eq_false sm] at osm;obtain⟨q,Z,hq,fq,hZ,h54⟩:=part55 hF fs (by omega);have o2:=order_of (Fl_abs fe) fq
   by_cases k1:n - R n=0
   ·rcases Int.lt_trichotomy ((N - R N).natAbs:Int) (Z:Int) with k | k | k
    ·have hlt:(N - R N).natAbs*2^55<(R n).natAbs:=by
      rw [hZ,hF]
      exact (Nat.mul_lt_mul_right (Nat.two_pow_pos 55)).2 (by omega)
     obtain⟨g,hg,hN2⟩:=good (.inr ⟨k1,h54,hlt⟩)
     exact rfma_quick d x y z p e s t a b c f g q _ _ _ _ w hx hy hz rx ry rz hp his.lt hp2 mx my mp hgz HMI q1 q2 q3 q4 q5 q6 fe.lt fs.lt of oe osm hq o2 (.inr ⟨Int.compare_eq_eq.2 k1,Int.compare_eq_lt.2 k⟩) hg hN2
    ·exact rfma_exact2 d x y z p e s t a b c f q false _ _ _ w hd hx hy hz rx ry rz hp his.lt hp2 mx my mp hgz HMI q1 q2 q3 q4 q5 q6 fe.lt fs.lt of oe osm (.inr (.inr (.inr ⟨Int.compare_eq_eq.2 k1,rfl,hq,o2,.inl (Int.compare_eq_eq.2 k)⟩)))
    ·exact rfma_exact2 d x y z p e s t a b c f q false _ _ _ w hd hx hy hz rx ry rz hp his.lt hp2 mx my mp hgz HMI q1 q2 q3 q4 q5 q6 fe.lt fs.lt of oe osm (.inr (.inr (.inr ⟨Int.compare_eq_eq.2 k1,rfl,hq,o2,.inr (Int.compare_eq_gt.2 k)⟩)))
   ·by_cases k2:N - R N=0
    ·obtain⟨g,hg,hN2⟩:=good (.inl k2)
     exact rfma_quick d x y z p e s t a b c f g q _ _ _ _ w hx hy hz rx ry rz hp his.lt hp2 mx my mp hgz HMI q1 q2 q3 q4 q5 q6 fe.lt fs.lt of oe osm hq o2 (.inl ⟨cmp_ne k1,Int.compare_eq_eq.2 k2⟩) hg hN2
    ·exact rfma_exact2 d x y z p e s t a b c f q false _ _ .eq w hd hx hy hz rx ry rz hp his.lt hp2 mx my mp hgz HMI q1 q2 q3 q4 q5 q6 fe.lt fs.lt of oe osm (.inl ⟨cmp_ne k1,cmp_ne k2⟩)
 ·exact rfma_exact1 d x y z p w hd hx hy hz rx ry rz hp his.lt hp2 gz hgz hm
def fm(d i j k:Int):Int:=if i=M∨i=-(M:Int)∨j=M∨j=-(M:Int) then (if (decide (i<0) ^^ decide (j<0))=true then -(M:Int) else M) else rndI d (fl i*fl j+fl k)
theorem rfma_pat(d i j k:Int)(w:World)(hd:d=-1∨d=1)(hi:-(M:Int)≤i∧i≤M)(hj:-(M:Int)≤j∧j≤M)(hk:-(M:Int)<k∧k<M)(ni:i≠0)(nj:j≠0):
  Calls Tryz.prog 162 #[.int .i64 d,.float .f64 (pat i),.float .f64 (pat j),.float .f64 (pat k)] w fun e w'=>e=.returned (.float .f64 (pat (fm d i j k)))∧Below w.heap.size w w':=by
 have hM:M=9218868437227405312:=rfl;have px:=pat_lt hi.1 hi.2;have py:=pat_lt hj.1 hj.2;have pz:=pat_lt (i:=k) (by omega) (by omega);have rx:=rung_pat hi.1 hi.2;have ry:=rung_pat hj.1 hj.2;have rz:=rung_pat (i:=k) (by omega) (by omega);unfold fm
 by_cases h:i=M∨i=-(M:Int)∨j=M∨j=-(M:Int)
 ·rw [if_pos h];have hm:=mul_inf (x:=pat i) (y:=pat j) (by omega) (by omega) (by omega) (by omega) (by omega);rw [sgn_pat hi ni,sgn_pat hj nj] at hm
  obtain⟨v,hv⟩:∃ k:Int,(if (decide (i<0) ^^ decide (j<0))=true then -(M:Int) else M)=k:=⟨_,rfl⟩
  have hv2:v=M∨v=-(M:Int):=by rw [← hv];split<;>omega
  rw [hv] at hm ⊢;have rv':=rung_pat (i:=v) (by omega) (by omega);have ha:=add_inf_left (x:=pat v) (y:=pat k) (pat_lt (by omega) (by omega)) (by omega) (by omega) (fun h=>by omega);rw [idx_pat (by omega) (by omega)] at ha;refine rfma_inf d (pat i) (pat j) (pat k) (pat v) (pat v) w px py pz (by omega) (by omega) ?_ hm ha
  by_cases h2:rungOf (pat i)=M
  ·rw [decide_eq_true h2];rfl
  ·rw [decide_eq_true (show rungOf (pat j)=M by omega),Bool.or_true]
 ·rw [if_neg h]
  have e:rndI d (fl i*fl j+fl k)=rndI d (fl (idx (pat i))*fl (idx (pat j))+fl (idx (pat k))):=by rw [idx_pat hi.1 hi.2,idx_pat hj.1 hj.2,idx_pat (by omega) (by omega)]
  rw [e]
  exact rfma_fin d (pat i) (pat j) (pat k) w hd px py pz (by omega) (by omega) (by omega)
end Go.Proofs.YthlmlmfebpjgdaaGreatDoor
namespace Go.Proofs.YthlmlmfebpjgdaaGreatDoor
open Go.RowKit
attribute [local go_sem] run_store_float run_negf
set_option maxRecDepth 8000 in
theorem without_at(c u v:Nat)(oi:Bool)(o1 o2:Ordering)(w:World)(hi:∀ W,Calls Tryz.prog 161 #[.float .f64 c,.int .i64 0] W fun e w'=>e=.returned (.bool oi)∧W=w')(h1:FloatKind.f64.format.order u 0=some o1)(h2:FloatKind.f64.format.order v 0=some o2)(hc:oi=true∨(oi=false∧o1=.eq)∨(oi=false∧(o1=.lt∨o1=.gt)∧o2=.eq)):
  Calls Tryz.prog 92 #[.float .f64 c,.float .f64 u,.float .f64 v] w fun e w'=>e=.returned (.agg #[.float .f64 c,.float .f64 c])∧Below w.heap.size w w':=by
 have HA:=Hd fun W=>at_any c W;have HI:=Hd hi;clear hi
 rcases hc with rfl | ⟨rfl,rfl⟩ | ⟨rfl,rfl | rfl,rfl⟩
 all_goals
  have LL:=li1 w #[.float .f64 0,.float .f64 0] 78
  go_enter Tryz.func92,Tryz.ntmps92
  go_wp2_with fail;refine (HI.out _).mono ?_;rintro e w' ⟨rfl,rfl⟩;go_wp2_with fail;refine (HA.out _).mono ?_;rintro e wk ⟨rfl,hb⟩;replace LL:=stL LL hb;clear hb h1 h2;replace LL:=Hd (LL.out.loose 0 rfl rfl)
  simp only [List.eraseIdx,List.size_toArray,List.length_cons,List.length_nil,Nat.zero_add,Nat.reduceAdd] at LL
  obtain⟨ha6_0,hf6_0,ha6_1,hf6_1⟩:=(LL.out.has 0 rfl).sf2;have LF:=Hd (LL.out.write [.float .f64 c,.float .f64 c] rfl (by omega) (by simp<;>omega) (by simp<;>omega));obtain⟨hk6_0,hk6_1⟩:=(LF.out.blk 0 rfl).c2
  simp [sets] at hk6_0 hk6_1
  clear LL;go_wp2;refine bodyPost_ret (v:=.agg #[.float .f64 c,.float .f64 c]) (by simp [results,Tryz.results92,go_sem,hk6_0,hk6_1]) rfl ?_
  exact⟨rfl,LF.out.b⟩
set_option maxRecDepth 8000 in
theorem without_fma(c u v r1 r2:Nat)(o1 o2:Ordering)(w:World)(hi:∀ W,Calls Tryz.prog 161 #[.float .f64 c,.int .i64 0] W fun e w'=>e=.returned (.bool false)∧W=w')(h1:FloatKind.f64.format.order u 0=some o1)(h2:FloatKind.f64.format.order v 0=some o2)(k1:o1=.lt∨o1=.gt)(k2:o2=.lt∨o2=.gt)(hf1:∀ W,Calls Tryz.prog 162 #[.int .i64 (-1),.float .f64 (Op.negFloat .f64 u),.float .f64 v,.float .f64 c] W fun e w'=>e=.returned (.float .f64 r1)∧Below W.heap.size W w')(hf2:∀ W,Calls Tryz.prog 162 #[.int .i64 1,.float .f64 (Op.negFloat .f64 u),.float .f64 v,.float .f64 c] W fun e w'=>e=.returned (.float .f64 r2)∧Below W.heap.size W w'):
  Calls Tryz.prog 92 #[.float .f64 c,.float .f64 u,.float .f64 v] w fun e w'=>e=.returned (.agg #[.float .f64 r1,.float .f64 r2])∧Below w.heap.size w w':=by
 have HI:=Hd hi;have HF1:=Hd hf1;have HF2:=Hd hf2;clear hi hf1 hf2
 rcases k1 with rfl | rfl<;>rcases k2 with rfl | rfl
 all_goals
  have LL:=li1 w #[.float .f64 0,.float .f64 0] 78
  go_enter Tryz.func92,Tryz.ntmps92
  go_wp2_with fail;refine (HI.out _).mono ?_;rintro e w' ⟨rfl,rfl⟩;go_wp2_with fail;refine (HF1.out _).mono ?_;rintro e wk ⟨rfl,hb⟩;replace LL:=stL LL hb;clear hb h1 h2;go_wp2_with fail;refine (HF2.out _).mono ?_;rintro e wk ⟨rfl,hb⟩;replace LL:=stL LL hb;clear hb;replace LL:=Hd (LL.out.loose 0 rfl rfl)
  simp only [List.eraseIdx,List.size_toArray,List.length_cons,List.length_nil,Nat.zero_add,Nat.reduceAdd] at LL
  obtain⟨ha6_0,hf6_0,ha6_1,hf6_1⟩:=(LL.out.has 0 rfl).sf2;have LF:=Hd (LL.out.write [.float .f64 r1,.float .f64 r2] rfl (by omega) (by simp<;>omega) (by simp<;>omega));obtain⟨hk6_0,hk6_1⟩:=(LF.out.blk 0 rfl).c2
  simp [sets] at hk6_0 hk6_1
  clear LL;go_wp2;refine bodyPost_ret (v:=.agg #[.float .f64 r1,.float .f64 r2]) (by simp [results,Tryz.results92,go_sem,hk6_0,hk6_1]) rfl ?_
  exact⟨rfl,LF.out.b⟩
def wt(c u v:Int):Int × Int:=if c=M∨c=-(M:Int)∨u=0∨v=0 then (c,c) else (fm (-1) (-u) v c,fm 1 (-u) v c)
theorem wt_rng{c u v:Int}(h:-(M:Int)≤c∧c≤M):(-(M:Int)≤(wt c u v).1∧(wt c u v).1≤M)∧(-(M:Int)≤(wt c u v).2∧(wt c u v).2≤M):=by
 have hM:(M:Int)=9218868437227405312:=rfl;unfold wt fm;have a:=rndI_down (fl (-u)*fl v+fl c);have b:=rndI_up (fl (-u)*fl v+fl c)
 split
 ·exact⟨h,h⟩
 ·dsimp only
  split
  ·split<;>omega
  ·omega
theorem without_any(c u v:Int)(w:World)(hc:-(M:Int)≤c∧c≤M)(hu:-(M:Int)≤u∧u≤M)(hv:-(M:Int)≤v∧v≤M):
  Calls Tryz.prog 92 #[.float .f64 (pat c),.float .f64 (pat u),.float .f64 (pat v)] w fun e w'=>e=.returned (.agg #[.float .f64 (pat (wt c u v).1),.float .f64 (pat (wt c u v).2)])∧Below w.heap.size w w':=by
 have hM:(M:Int)=9218868437227405312:=rfl;have I:=fun W=>isinff (pat c) W (pat_lt hc.1 hc.2) (by rw [rung_pat hc.1 hc.2];omega);rw [rung_pat hc.1 hc.2] at I;have o1:=ord0 hu;have o2:=ord0 hv;unfold wt
 by_cases h:c=M∨c=-(M:Int)∨u=0∨v=0
 ·rw [if_pos h];refine without_at (pat c) (pat u) (pat v) _ _ _ w I o1 o2 ?_
  by_cases h1:c.natAbs=M
  ·exact .inl (decide_eq_true h1)
  ·by_cases h2:u=0
   ·exact .inr (.inl ⟨decide_eq_false h1,Int.compare_eq_eq.2 h2⟩)
   ·exact .inr (.inr ⟨decide_eq_false h1,cmp_ne h2,Int.compare_eq_eq.2 (by omega)⟩)
 ·rw [if_neg h,decide_eq_false (show ¬ c.natAbs=M by omega)] at *;have n:=neg_pat hu.1 hu.2 (by omega);have F1:=fun W=>rfma_pat (-1) (-u) v c W (.inl rfl) (by omega) hv (by omega) (by omega) (by omega);have F2:=fun W=>rfma_pat 1 (-u) v c W (.inr rfl) (by omega) hv (by omega) (by omega) (by omega);rw [← n] at F1 F2
  exact without_fma (pat c) (pat u) (pat v) _ _ _ _ w I o1 o2 (cmp_ne (by omega)) (cmp_ne (by omega)) F1 F2
end Go.Proofs.YthlmlmfebpjgdaaGreatDoor
namespace Go.Proofs.YthlmlmfebpjgdaaGreatDoor
def fad(i1 j1 i2 j2 c1 c2 i j:Int):Int × Int:=
 if j1<i1∨j2<i2∨c2<c1∨j<i then ((M:Int),-(M:Int))
 else ct i j (min (min (min (min M (wt c1 i1 i2).1) (wt c1 i1 j2).1) (wt c1 j1 i2).1) (wt c1 j1 j2).1) (min (min (min (min M (wt c1 i1 i2).2) (wt c1 i1 j2).2) (wt c1 j1 i2).2) (wt c1 j1 j2).2)
  (max (max (max (max (-(M:Int)) (wt c2 i1 i2).1) (wt c2 i1 j2).1) (wt c2 j1 i2).1) (wt c2 j1 j2).1) (max (max (max (max (-(M:Int)) (wt c2 i1 i2).2) (wt c2 i1 j2).2) (wt c2 j1 i2).2) (wt c2 j1 j2).2)
end Go.Proofs.YthlmlmfebpjgdaaGreatDoor
namespace Go.Proofs.YthlmlmfebpjgdaaGreatDoor
open Go.RowKit
theorem In.whole(v:Rat):In (-(M:Int)) M v:=⟨(rndI_down v).1,(rndI_up v).2.1⟩
theorem pair_in{i1 j1 i2 j2:Int}{v q:Rat}(hr:-(M:Int)≤i1∧j1≤M∧-(M:Int)≤i2∧j2≤M)(hq:In i1 j1 q)(hc:In i2 j2 (v*q)):
  In (prL i1 j1 i2 j2).1 (prL i1 j1 i2 j2).2 v∨In (prU i1 j1 i2 j2).1 (prU i1 j1 i2 j2).2 v:=by
 have hM:(M:Int)=9218868437227405312:=rfl;obtain⟨r1,r2,r5,r6⟩:=hr;have n1:=hq.ne r1 r2;have n3:=hc.ne r5 r6;have k:=numok_idx n3
 have hl:es i2=0→ex i2≤v*q:=fun e=>by
  rw [ex_zero e];refine hc.lo ?_;unfold Ne at n3
  by_cases c:i2=-(M:Int)
  ·rw [c,es_min] at e;omega
  ·omega
 have hu:es j2=0→v*q≤ex j2:=fun e=>by
  rw [ex_zero e];refine hc.hi ?_;unfold Ne at n3
  by_cases c:j2=M
  ·rw [c,es_max] at e;omega
  ·omega
 unfold prL prU;unfold Ne at n1 n3
 have hne:¬ (j1<i1∨j2<i2):=by omega
 rw [if_neg hne,if_neg hne]
 by_cases hs:(i1<0∧0<j1)∧¬ (i2≤0∧0≤j2)
 ·rw [if_pos hs,if_pos hs]
  have q1:q≠0:=by
   rintro rfl
   apply hs.2
   rw [Rat.mul_zero] at hc;have a:=hc.1;have b:=hc.2;rw [rndI_zero (.inl rfl)] at a;rw [rndI_zero (.inr rfl)] at b
   exact⟨a,b⟩
  by_cases q0:0<q
  ·have f:=PF_in k r1 r2 (Int.le_refl _) (Int.le_refl _) hq q0 (In.whole v) hl hu
   by_cases c:j2<0
   ·rw [if_pos c];exact .inl f
   ·rw [if_neg c,if_neg c];exact .inr f
  ·have f:=PF_in (b1:=-j1) (b2:=-i1) (v:=-v) (q:=-q) k (by omega) (by omega) (Int.le_refl _) (Int.le_refl _) hq.neg (by grind) (In.whole (-v)) (fun e=>by have:=hl e;grind) (fun e=>by have:=hu e;grind);have g:=f.neg;rw [Rat.neg_neg] at g
   have e:PN i1 j1 (es i2) (ex i2) (es j2) (ex j2) (-(M:Int)) M=(-(PF (-j1) (-i1) (es i2) (ex i2) (es j2) (ex j2) (-(M:Int)) M).2,-(PF (-j1) (-i1) (es i2) (ex i2) (es j2) (ex j2) (-(M:Int)) M).1):=by
    unfold PN;rw [Int.neg_neg]
   rw [e]
   by_cases c:j2<0
   ·rw [if_pos c,if_pos c];exact .inr g
   ·rw [if_neg c];exact .inl g
 ·rw [if_neg hs]
  left
  unfold mlr;rw [if_neg (by omega)]
  exact fa_in k r1 r2 (Int.le_refl _) (Int.le_refl _) hq (In.whole v) hl hu
def Pg(u w:Int)(t:Rat):Prop:=
 (u=0∨w=0→t≤0)∧(u≠0→w≠0→(u=M∨u=-(M:Int)∨w=M∨w=-(M:Int))→(0<u↔0<w))∧(u≠M→u≠-(M:Int)→w≠M→w≠-(M:Int)→t≤fl u*fl w)
theorem fl_nn{i:Int}(h:0≤i):0≤fl i:=by have:=fl_le_iff.2 h;rwa [fl_zero] at this
theorem fl_np{i:Int}(h:i≤0):fl i≤0:=by have:=fl_le_iff.2 h;rwa [fl_zero] at this
theorem mul_le_r{a b c:Rat}(h:a≤b)(hc:0≤c):a*c≤b*c:=by
 rw [Rat.mul_comm a,Rat.mul_comm b];exact Rat.mul_le_mul_of_nonneg_left h hc
theorem mul_le_n{a b c:Rat}(h:a≤b)(hc:c≤0):b*c≤a*c:=by
 have:=mul_le_r (a:=a) (b:=b) (c:=-c) h (by grind);grind
theorem corner{i1 j1 i2 j2:Int}{a b:Rat}(h1:Ne i1 j1)(h2:Ne i2 j2)(ha:In i1 j1 a)(hb:In i2 j2 b):∃ u w:Int,(u=i1∨u=j1)∧(w=i2∨w=j2)∧Pg u w (a*b):=by
 have hM:(M:Int)=9218868437227405312:=rfl;unfold Ne at h1 h2
 by_cases b0:0≤b
 ·have j2n:0≤j2:=by
   by_cases c:j2=M
   ·omega
   ·have:=hb.hi (by omega)
    by_cases z:0≤j2
    ·exact z
    ·exfalso;have:=fl_lt_iff.2 (show j2<0 by omega);rw [fl_zero] at this;grind
  by_cases j1n:0≤j1
  ·refine⟨j1,j2,.inr rfl,.inr rfl,?_,fun _ _ _=>by omega,fun c1 _ c3 _=>?_⟩
   ·rintro (e | e)
    ·have:=ha.hi (by omega);rw [e,fl_zero] at this;have:=mul_le_r this b0
     rwa [Rat.zero_mul] at this
    ·have:=hb.hi (by omega);rw [e,fl_zero] at this;rw [show b=0 by grind,Rat.mul_zero];grind
   ·have e1:=mul_le_r (ha.hi (by omega)) b0;have e2:=Rat.mul_le_mul_of_nonneg_left (hb.hi (by omega)) (fl_nn j1n)
    grind
  ·have e0:=ha.hi (by omega);have en:=fl_np (show j1≤0 by omega);have e1:=mul_le_r e0 b0;have e2:=mul_le_r (show fl j1≤0 from en) b0;refine⟨j1,i2,.inr rfl,.inl rfl,fun _=>by rw [Rat.zero_mul] at e2;grind,fun _ _ _=>by omega,fun _ _ _ c4=>?_⟩;have e3:=mul_le_n (hb.lo (by omega)) en;rw [Rat.mul_comm b,Rat.mul_comm (fl i2)] at e3
   grind
 ·have i2n:i2<0:=by
   by_cases c:i2=-(M:Int)
   ·omega
   ·have:=hb.lo (by omega)
    by_cases z:i2<0
    ·exact z
    ·exfalso;have:=fl_nn (show 0≤i2 by omega);grind
  by_cases i1n:0≤i1
  ·have e0:=ha.lo (by omega);have ep:=fl_nn i1n;have e1:=mul_le_n e0 (show b≤0 by grind);have e2:=mul_le_n ep (show b≤0 by grind);refine⟨i1,j2,.inl rfl,.inr rfl,fun _=>by rw [Rat.zero_mul] at e2;grind,fun _ _ _=>by omega,fun _ _ c3 _=>?_⟩;have e3:=Rat.mul_le_mul_of_nonneg_left (hb.hi (by omega)) ep
   grind
  ·refine⟨i1,i2,.inl rfl,.inl rfl,fun h=>by omega,fun _ _ _=>by omega,fun _ c2 _ c4=>?_⟩;have en:=fl_np (show i1≤0 by omega);have e1:=mul_le_n (ha.lo (by omega)) (show b≤0 by grind);have e3:=mul_le_n (hb.lo (by omega)) en;rw [Rat.mul_comm b,Rat.mul_comm (fl i2)] at e3
   grind
theorem wt_lo{c u w:Int}{v t:Rat}(hc:-(M:Int)≤c∧c<M)(hu:-(M:Int)≤u∧u≤M)(hw:-(M:Int)≤w∧w≤M)(h:-(M:Int)<c→fl c≤v+t)(hp:Pg u w t):(wt c u w).1≤rndI (-1) v∧(wt c u w).2≤rndI 1 v:=by
 have hM:(M:Int)=9218868437227405312:=rfl;have a:=rndI_down v;have b:=rndI_up v;have r:=rndI_le v;obtain⟨p1,p2,p3⟩:=hp;unfold wt fm
 by_cases c1:c=M∨c=-(M:Int)∨u=0∨w=0
 ·rw [if_pos c1]
  dsimp only
  by_cases c2:c=-(M:Int)
  ·omega
  ·have k:=h (by omega);have t0:=p1 (by omega);have:=(a.2.2 c (by omega) hc.2).2 (by grind)
   omega
 ·rw [if_neg c1]
  dsimp only
  by_cases c2:-u=M∨-u=-(M:Int)∨w=M∨w=-(M:Int)
  ·rw [if_pos c2,if_pos c2];have s:=p2 (by omega) (by omega) (by omega)
   have e:(decide (-u<0) ^^ decide (w<0))=true:=by
    by_cases z:0<u
    ·rw [decide_eq_true (show -u<0 by omega),decide_eq_false (by omega)];rfl
    ·rw [decide_eq_false (show ¬ -u<0 by omega),decide_eq_true (by omega)];rfl
   rw [if_pos e]
   omega
  ·rw [if_neg c2,if_neg c2,fl_neg];have k:=h (by omega);have q:=p3 (by omega) (by omega) (by omega) (by omega)
   have e:-fl u*fl w+fl c≤v:=by grind
   exact⟨rndI_mono (.inl rfl) e,rndI_mono (.inr rfl) e⟩
theorem wt_hi{c u w:Int}{v t:Rat}(hc:-(M:Int)<c∧c≤M)(hu:-(M:Int)≤u∧u≤M)(hw:-(M:Int)≤w∧w≤M)(h:c<M→v+t≤fl c)(hp:Pg (-u) w (-t)):rndI (-1) v≤(wt c u w).1∧rndI 1 v≤(wt c u w).2:=by
 have hM:(M:Int)=9218868437227405312:=rfl;have a:=rndI_down v;have b:=rndI_up v;have r:=rndI_le v;obtain⟨p1,p2,p3⟩:=hp;unfold wt fm
 by_cases c1:c=M∨c=-(M:Int)∨u=0∨w=0
 ·rw [if_pos c1]
  dsimp only
  by_cases c2:c=M
  ·omega
  ·have k:=h (by omega);have t0:=p1 (by omega);have:=(b.2.2 c hc.1 (by omega)).2 (by grind)
   omega
 ·rw [if_neg c1]
  dsimp only
  by_cases c2:-u=M∨-u=-(M:Int)∨w=M∨w=-(M:Int)
  ·rw [if_pos c2,if_pos c2];have s:=p2 (by omega) (by omega) (by omega)
   have e:¬ (decide (-u<0) ^^ decide (w<0))=true:=by
    by_cases z:0 < -u
    ·rw [decide_eq_false (show ¬ -u<0 by omega),decide_eq_false (by omega)];decide
    ·rw [decide_eq_true (show -u<0 by omega),decide_eq_true (by omega)];decide
   rw [if_neg e]
   omega
  ·rw [if_neg c2,if_neg c2];have k:=h (by omega);have q:=p3 (by omega) (by omega) (by omega) (by omega)
   have e:v≤fl (-u)*fl w+fl c:=by grind
   exact⟨rndI_mono (.inl rfl) e,rndI_mono (.inr rfl) e⟩
theorem fad_in{i1 j1 i2 j2 c1 c2 i j:Int}{v a b:Rat}(hr:-(M:Int)≤i1∧j1≤M∧-(M:Int)≤i2∧j2≤M∧-(M:Int)≤c1∧c2≤M∧-(M:Int)≤i∧j≤M)(ha:In i1 j1 a)(hb:In i2 j2 b)(hc:In c1 c2 (v+a*b))(hx:In i j v):
  In (fad i1 j1 i2 j2 c1 c2 i j).1 (fad i1 j1 i2 j2 c1 c2 i j).2 v:=by
 have hM:(M:Int)=9218868437227405312:=rfl;obtain⟨r1,r2,r3,r4,r5,r6,r7,r8⟩:=hr;have n1:=ha.ne r1 r2;have n2:=hb.ne r3 r4;have n3:=hc.ne r5 r6;have n4:=hx.ne r7 r8;have hl:=fun z=>hc.lo (i:=c1) z;have hu:=fun z=>hc.hi (j:=c2) z
 have L:min (min (min (min (M:Int) (wt c1 i1 i2).1) (wt c1 i1 j2).1) (wt c1 j1 i2).1) (wt c1 j1 j2).1≤rndI (-1) v∧min (min (min (min (M:Int) (wt c1 i1 i2).2) (wt c1 i1 j2).2) (wt c1 j1 i2).2) (wt c1 j1 j2).2≤rndI 1 v:=by
  obtain⟨u,w,hu',hw',hp⟩:=corner n1 n2 ha hb;unfold Ne at n1 n2 n3;have k:=wt_lo (c:=c1) (u:=u) (w:=w) (v:=v) (t:=a*b) (by omega) (by omega) (by omega) hl hp
  rcases hu' with rfl | rfl<;>rcases hw' with rfl | rfl<;>omega
 have U:rndI (-1) v≤max (max (max (max (-(M:Int)) (wt c2 i1 i2).1) (wt c2 i1 j2).1) (wt c2 j1 i2).1) (wt c2 j1 j2).1∧rndI 1 v≤max (max (max (max (-(M:Int)) (wt c2 i1 i2).2) (wt c2 i1 j2).2) (wt c2 j1 i2).2) (wt c2 j1 j2).2:=by
  obtain⟨u,w,hu',hw',hp⟩:=corner n1.neg n2 ha.neg hb;unfold Ne at n1 n2 n3;rw [show -a*b=-(a*b) by grind] at hp;have k:=wt_hi (c:=c2) (u:=-u) (w:=w) (v:=v) (t:=a*b) (by omega) (by omega) (by omega) hu (by rw [Int.neg_neg];exact hp)
  rcases hu' with rfl | rfl<;>rw [Int.neg_neg] at k<;>rcases hw' with rfl | rfl<;>omega
 unfold Ne at n1 n2 n3 n4;unfold fad;rw [if_neg (by omega)];unfold ct;have h1:=hx.1;have h2:=hx.2;rw [if_neg (by omega)]
 exact⟨by dsimp only;omega,by dsimp only;omega⟩
end Go.Proofs.YthlmlmfebpjgdaaGreatDoor
