/-
package vergeref10, StepRev of the sign, by indexes.
Plain: a pattern made whole by its bits, of two the whole number farther from 0.
Walks: math.Round; rev.RoundAwayRev by indexes.
Walks: package vergelaw10, in and out.
Walk: RevSteps.
-/
import Derived.Test.YtfcpabgampebaaaGreatM28
import Derived.Deep.DeepCutAuto
import Derived.Test.YtfcpabgampebaaaGreatM03
import Derived.Test.YtfcpabgampebaaaGreatPGoA
set_option linter.unusedSimpArgs false
set_option linter.unusedVariables false
set_option maxHeartbeats 12800000
namespace Go.Proofs.YtfcpabgampebaaaGreat
open Go.RowKit
theorem first_sgn{g:Bool}{A:Option Addr}{n c:Nat}{B:Option Addr}{d:Nat}{z:Int}{w:World}(h:RatI w g A n c B d z)(hz:-1≤z∧z≤1):
  Calls Tryz.prog 29 #[.int .i64 0,.agg #[.bool g,.slice A n c,.slice B 1 d]] w (NewBd w 69 (if z<0 then -1 else 0) 0 1 (decide (z≠0))):=by
 have hr:=h.rat (K:=34) (by omega) (by have:(1:Nat)<2 ^ (32*34):=by decide +kernel
                                       omega)
 have hsg:∀ W,Below w.heap.size w W→Calls Tryz.prog 52 #[.agg #[.bool g,.slice A n c,.slice B 1 d]] W fun e w'=>e=.returned (.int .i64 (rsg (z:Rat)))∧Below W.heap.size W w':=fun W hW=>rsign_any 34 g _ _ _ W (hr.below hW) (by omega)
 have hz':z=-1∨z=0∨z=1:=by omega
 refine Calls.mono (R:=NewBd w 1 (if z<0 then -1 else 0) 0 1 (decide (z≠0))) ?_ fun e w' ⟨g,A,n,c,B,m,d,he,h1,hb⟩=>⟨g,A,n,c,B,m,d,he,h1.mono (by omega),hb⟩
 rcases hz' with rfl | rfl | rfl
 ·exact first_sgneg g A n c B d w hsg
 ·exact first_sgnul g A n c B d w hsg
 ·exact first_sgpos g A n c B d w hsg
theorem last_sgn{g:Bool}{A:Option Addr}{n c:Nat}{B:Option Addr}{d:Nat}{z:Int}{w:World}(h:RatI w g A n c B d z)(hz:-1≤z∧z≤1):
  Calls Tryz.prog 30 #[.int .i64 0,.agg #[.bool g,.slice A n c,.slice B 1 d]] w (NewBd w 69 (if 0<z then 1 else 0) 0 1 (decide (z≠0))):=by
 have hr:=h.rat (K:=34) (by omega) (by have:(1:Nat)<2 ^ (32*34):=by decide +kernel
                                       omega)
 have hsg:∀ W,Below w.heap.size w W→Calls Tryz.prog 52 #[.agg #[.bool g,.slice A n c,.slice B 1 d]] W fun e w'=>e=.returned (.int .i64 (rsg (z:Rat)))∧Below W.heap.size W w':=fun W hW=>rsign_any 34 g _ _ _ W (hr.below hW) (by omega)
 have hz':z=-1∨z=0∨z=1:=by omega
 refine Calls.mono (R:=NewBd w 1 (if 0<z then 1 else 0) 0 1 (decide (z≠0))) ?_ fun e w' ⟨g,A,n,c,B,m,d,he,h1,hb⟩=>⟨g,A,n,c,B,m,d,he,h1.mono (by omega),hb⟩
 rcases hz' with rfl | rfl | rfl
 ·exact last_sgneg g A n c B d w hsg
 ·exact last_sgnul g A n c B d w hsg
 ·exact last_sgpos g A n c B d w hsg
theorem fl_inj'{i j:Int}(h:fl i=fl j):i=j:=by
 have a:=(fl_le_iff (i:=i) (j:=j)).1 (by rw [h];exact Rat.le_refl);have b:=(fl_le_iff (i:=j) (j:=i)).1 (by rw [h];exact Rat.le_refl)
 omega
theorem es_un:es 4607182418800017408=0∧ex 4607182418800017408=1∧es (-4607182418800017408)=0∧ex (-4607182418800017408)=-1:=by
 have hM:=M_val;have a:=es_fin (i:=4607182418800017408) (by omega) (by omega);have b:=es_fin (i:=-4607182418800017408) (by omega) (by omega);refine⟨a.1,a.2.trans fl_one,b.1,b.2.trans ?_⟩;rw [fl_neg,fl_one]
theorem steprev_sgn(c1 c2 x y:Nat)(w:World)(hc1:c1<18446744073709551616)(hc2:c2<18446744073709551616)(hx:x<18446744073709551616)(hy:y<18446744073709551616):
  Calls Tryz.prog 7 #[.int .i64 0,.agg #[.int .u64 (c1:Int),.int .u64 (c2:Int)],.agg #[.int .u64 (x:Int),.int .u64 (y:Int)]] w fun e w'=>
   e=.returned (.agg #[.int .u64 (pat (sgq (rd c1 c2) (rd x y)).1:Int),.int .u64 (pat (sgq (rd c1 c2) (rd x y)).2:Int)])∧Below w.heap.size w w':=by
 have hM:=M_val
 have stp_none:∀ {V F T:Int→Int} {z:Int × Int},stp V F T ((M:Int),-(M:Int)) z=((M:Int),-(M:Int)):=by
  intro V F T z;unfold stp;rw [if_pos (by left;show -(M:Int)<M;omega)]
 cases hs:snd c1 c2
 ·have e1:rd c1 c2=((M:Int),-(M:Int)):=by unfold rd;rw [hs];rfl
  have e2:sgq (rd c1 c2) (rd x y)=((M:Int),-(M:Int)):=by
   rw [e1];unfold sgq it
   dsimp only
   rw [if_pos (by left;omega),stp_none]
  rw [e2,pat_max,pat_min]
  exact steprev_none 0 c1 c2 x y _ _ _ _ w (fun W=>(of_none c1 c2 W hc1 hc2 hs).mono fun _ _ ⟨g,A,n,c,B,m,d,g',A',n',c',B',m',d',e,h1,h2,hb⟩=>⟨g,A,n,c,B,m,d,g',A',n',c',B',m',d',e,h1.mono (by omega),h2.mono (by omega),hb⟩)
 ·have e1:rd c1 c2=(idx c1,idx c2):=by unfold rd;rw [hs];rfl
  have hd:=of_decide_eq_true hs;have hO:=fun W=>of_full c1 c2 W hc1 hc2 hs;have hiv:=rd_iv c1 c2;rw [e1] at hiv
  obtain⟨ci,hci⟩:∃ i,idx c1=i:=⟨_,rfl⟩
  obtain⟨cj,hcj⟩:∃ i,idx c2=i:=⟨_,rfl⟩
  rw [hci,hcj] at hO hiv e1
  have hc:-(M:Int)≤ci∧ci≤cj∧cj≤M∧ci<M∧-(M:Int)<cj:=by
   unfold Iv at hiv;have:=hd
   omega
  clear hd hs hci hcj hiv;obtain⟨f1,f2,f3,f4⟩:=es_un
  obtain⟨d1,hd1⟩:∃ d,max ci (-4607182418800017408)=d:=⟨_,rfl⟩
  obtain⟨d2,hd2⟩:∃ d,min cj 4607182418800017408=d:=⟨_,rfl⟩
  have s1:=ec_idx (i:=ci) (b:=-4607182418800017408) (by omega) (by omega) (by omega) (by omega);have s2:=ec_idx (i:=cj) (b:=4607182418800017408) (by omega) (by omega) (by omega) (by omega);rw [f3,f4] at s1;rw [f1,f2] at s2;have s3:=ec_idx (i:=d1) (b:=d2) (by omega) (by omega) (by omega) (by omega);unfold SameSign at s1 s2 s3
  have hA:decide (ec (es ci) (ex ci) 0 (-1)<0)=true∧es d1=0∧ex d1=-1∨decide (ec (es ci) (ex ci) 0 (-1)<0)=false∧es d1=es ci∧ex d1=ex ci:=by
   by_cases h:ci < -4607182418800017408
   ·left
    have:d1=-4607182418800017408:=by omega
    rw [this]
    exact⟨decide_eq_true (by omega),f3,f4⟩
   ·right
    have:d1=ci:=by omega
    rw [this]
    exact⟨decide_eq_false (by omega),rfl,rfl⟩
  have hB:decide (0<ec (es cj) (ex cj) 0 1)=true∧es d2=0∧ex d2=1∨decide (0<ec (es cj) (ex cj) 0 1)=false∧es d2=es cj∧ex d2=ex cj:=by
   by_cases h:4607182418800017408<cj
   ·left
    have:d2=4607182418800017408:=by omega
    rw [this]
    exact⟨decide_eq_true (by omega),f1,f2⟩
   ·right
    have:d2=cj:=by omega
    rw [this]
    exact⟨decide_eq_false (by omega),rfl,rfl⟩
  by_cases cr:d2<d1
  ·have e2:sgq (rd c1 c2) (rd x y)=((M:Int),-(M:Int)):=by
    rw [e1];unfold sgq it
    dsimp only
    rw [if_pos (by omega),stp_none]
   rw [e2,pat_max,pat_min]
   exact steprev_scross c1 c2 x y _ _ _ _ (es d1) (es d2) (ex d1) (ex d2) w hO _ _ _ rfl rfl rfl hA hB (decide_eq_true (by omega))
  ·have h9:decide (0<ec (es d1) (ex d1) (es d2) (ex d2))=false:=decide_eq_false (by omega)
   have e3:sgq (rd c1 c2) (rd x y)=stp sgI sgF sgT (d1,d2) (rd x y):=by
    rw [e1];unfold sgq it
    dsimp only
    rw [if_neg (by omega),hd1,hd2]
   have b1:-4607182418800017408≤d1∧d1≤d2∧d2≤4607182418800017408:=by omega
   have k1:=es_fin (i:=d1) (by omega) (by omega);have k2:=es_fin (i:=d2) (by omega) (by omega);have sz1:=(es_size (i:=d1) rfl (by omega) (by omega)).2;have sz2:=(es_size (i:=d2) rfl (by omega) (by omega)).1
   have er:((-(-ex d1).floor:Int):Rat)=((ex d1).ceil:Rat):=by rw [ceil_neg]
   have v1:-1≤fl d1:=by have:=(fl_le_iff (i:=-4607182418800017408) (j:=d1)).2 (by omega);rw [fl_neg,fl_one] at this;exact this
   have v2:fl d2≤1:=by have:=(fl_le_iff (i:=d2) (j:=4607182418800017408)).2 (by omega);rw [fl_one] at this;exact this
   have v3:fl d1≤fl d2:=fl_le_iff.2 b1.2.1
   have q1:-1≤(fl d1).ceil:=by
    have h2:((-2:Int):Rat)=-2:=rfl;have:=mt (ceil_le_iff (fl d1) (-2)).1 (by rw [h2];grind)
    omega
   have q2:(fl d2).floor≤1:=by
    have:=floor_two (fl d2)
    have h:(fl d2).floor<2:=Rat.intCast_lt_intCast.1 (by
     have:((2:Int):Rat)=2:=rfl
     grind)
    omega
   have ew1:=wh_fin (w:=2) (by omega) (i:=d1) (by omega) (by omega);have ew2:=wh_fin (w:=1) (by omega) (i:=d2) (by omega) (by omega);have hwl:=wh_lt (ci:=d1) (cj:=d2) (by omega) (by omega)
   by_cases gt:(fl d2).floor<(fl d1).ceil
   ·have e2:sgq (rd c1 c2) (rd x y)=((M:Int),-(M:Int)):=by
     rw [e3];unfold stp
     by_cases hh:d2<d1∨(rd x y).2<(rd x y).1
     ·rw [if_pos hh]
     ·rw [if_neg hh,if_pos (.inl (hwl.2 gt))]
    rw [e2,pat_max,pat_min];refine steprev_sgt c1 c2 x y _ _ _ _ (es d1) (es d2) (ex d1) (ex d2) w hO _ _ _ rfl rfl rfl hA hB h9 ⟨sz1,sz2⟩ _ rfl (by rw [k1.1];rfl) (by rw [k2.1];rfl) ?_;rw [er,k1.2,k2.2]
    exact decide_eq_true (rc_pos_iff.2 (Rat.intCast_lt_intCast.2 gt))
   ·have hw1:wh 2 d1=unI (fl d1).ceil:=fl_inj' ((show fl (wh 2 d1)=(((fl d1).ceil:Int):Rat) from ew1.1).trans (fl_unI (k:=(fl d1).ceil) (by omega)).symm);have hw2:wh 1 d2=unI (fl d2).floor:=fl_inj' ((show fl (wh 1 d2)=(((fl d2).floor:Int):Rat) from ew2.1).trans (fl_unI (k:=(fl d2).floor) (by omega)).symm)
    have e2:sgq (rd c1 c2) (rd x y)=zg (rd x y).1 (rd x y).2 (fun _=>pf (if (fl d1).ceil<0 then -1 else 0) 0 (decide ((fl d1).ceil≠0)) (if 0<(fl d2).floor then 1 else 0) 0 (decide ((fl d2).floor≠0))) 1:=by
     rw [zg_l1,e3]
     rcases rd_iv x y with h | ⟨h,h'⟩
     ·exact sgn_pf hw1 hw2 (by omega) cr h
     ·have hn:(rd x y).2<(rd x y).1:=by rw [h,h'];omega
      unfold stp pf;rw [if_pos (.inr hn),if_pos hn]
    rw [e2];refine steprev_sok c1 c2 x y _ _ _ _ (es d1) (es d2) (ex d1) (ex d2) _ _ 0 0 _ _ w hO _ _ _ rfl rfl rfl hA hB h9 ⟨sz1,sz2⟩ _ rfl (.inr (.inr ⟨by rw [k1.1];rfl,by rw [k2.1];rfl,?_⟩)) (fun _ W g9 A9 n9 c9 B9 d9 h=>?_) (.inr (by rw [k1.1];rfl)) (fun _ W g9 A9 n9 c9 B9 d9 h=>?_) (.inr (by rw [k2.1];rfl)) (by split<;>omega) (by split<;>omega) ?_ hx hy _ rfl
    ·rw [er,k1.2,k2.2];refine decide_eq_false ?_;rw [rc_pos_iff,Rat.intCast_lt_intCast]
     exact gt
    ·rw [ceil_neg,k1.2] at h
     exact first_sgn h (by omega)
    ·rw [k2.2] at h
     exact last_sgn h (by omega)
    ·exact dn_up (by split<;>omega) (by split<;>omega) fun _ _=>Rat.le_refl
end Go.Proofs.YtfcpabgampebaaaGreat
namespace Go.Proofs.YtfcpabgampebaaaGreat
open Go.RowKit Ieee
theorem and_high{a k:Nat}(ha:a<2^64)(hk:k≤64):a &&& (2^64 - 2^k)=a / 2^k*2^k:=by
 have e1:2^64 - 2^k=(2^(64 - k) - 1) <<< k:=by
  rw [Nat.shiftLeft_eq,Nat.sub_mul,← Nat.pow_add,Nat.one_mul];congr 2;omega
 have e2:a / 2^k*2^k=(a >>> k) <<< k:=by rw [Nat.shiftLeft_eq,Nat.shiftRight_eq_div_pow]
 rw [e1,e2]
 apply Nat.eq_of_testBit_eq
 intro i;rw [Nat.testBit_and,Nat.testBit_shiftLeft,Nat.testBit_shiftLeft,Nat.testBit_shiftRight,Nat.testBit_two_pow_sub_one]
 by_cases c:k≤i
 ·rw [show k+(i - k)=i by omega]
  by_cases d:i<64
  ·simp [c,show i - k<64 - k by omega]
  ·have:a.testBit i=false:=Nat.testBit_lt_two_pow (Nat.lt_of_lt_of_le ha (Nat.pow_le_pow_right (by omega) (by omega)))
   simp [this]
 ·simp [c]
theorem wI_pos{q D H:Int}(hD:D=2*H)(hH:0<H)(hq:0≤q):wI q D=(q+H) / D:=by
 have h1:=Int.mul_ediv_add_emod q D;have h2:=Int.emod_nonneg q (show D≠0 by omega);have h3:=Int.emod_lt_of_pos q (show 0<D by omega);unfold wI;generalize q / D=Q at *;generalize q % D=r at *;rw [← h1]
 by_cases c:H≤r
 ·rw [if_pos (by omega)]
  have:D*Q+r+H=(r+H - D)+D*(Q+1):=by rw [Int.mul_add];omega
  rw [this,Int.add_mul_ediv_left _ _ (by omega),Int.ediv_eq_zero_of_lt (by omega) (by omega)];omega
 ·rw [if_neg (by omega)]
  have:D*Q+r+H=(r+H)+D*Q:=by omega
  rw [this,Int.add_mul_ediv_left _ _ (by omega),Int.ediv_eq_zero_of_lt (by omega) (by omega)];omega
theorem wI_neg{q D H:Int}(hD:D=2*H)(hH:0<H)(hq:0<q):wI (-q) D=-((q+H) / D):=by
 rw [← wI_pos hD hH (by omega)];obtain⟨a,b⟩:=neg_div (a:=q) (D:=D) (by omega);have h2:=Int.emod_nonneg q (show D≠0 by omega);have h3:=Int.emod_lt_of_pos q (show 0<D by omega);unfold wI;rw [a,b];generalize q / D=Q at *;generalize q % D=r at *
 by_cases c:r=0
 ·subst c
  simp only [if_true]
  rw [if_neg (by omega),if_neg (by omega)];omega
 ·rw [if_neg c,if_neg c]
  by_cases d:H≤r
  ·rw [if_neg (by omega),if_pos (by omega)];omega
  ·rw [if_pos (by omega),if_neg (by omega)];omega
theorem fl_inj{i j:Int}(h:fl i=fl j):i=j:=by
 have h1:=fl_le_iff (i:=i) (j:=j);have h2:=fl_le_iff (i:=j) (j:=i);have:=h1.1 (by rw [h];exact Rat.le_refl);have:=h2.1 (by rw [h];exact Rat.le_refl)
 omega
theorem wh_of{w:Nat}(hw:1≤w){i j:Int}(h0:-(M:Int)<i)(h1:i<M)(h:fl j=(rK w (fl i):Rat)):wh w i=j:=fl_inj ((wh_fin hw h0 h1).1.trans h.symm)
theorem fl_half':fl 4602678819172646912=1/2:=by decide +kernel
theorem fl_one':fl 4607182418800017408=1:=by decide +kernel
theorem away_small{x:Rat}(h0:-(1/2:Rat)<x)(h1:x<1/2):rK 5 x=0:=by
 have a:=(le_rK (w:=5) (by omega) 0 x).2 (.inl (by show (0:Rat) - 1/2<x;grind));have b:=(rK_le (w:=5) (by omega) 0 x).2 (.inl (by show x<(0:Rat)+1/2;grind))
 omega
theorem away_one{x:Rat}(h0:(1/2:Rat)≤x)(h1:x<1):rK 5 x=1:=by
 have a:=(le_rK (w:=5) (by omega) 1 x).2 (by
  show ((1:Rat) - 1/2<x∨x=(1:Rat) - 1/2∧decide ((1:Int)≤0)=false)
  by_cases c:x=1/2
  ·exact .inr ⟨by grind,rfl⟩
  ·exact .inl (by grind))
 have b:=(rK_le (w:=5) (by omega) 1 x).2 (.inl (by show x<(1:Rat)+1/2;grind))
 omega
theorem away_mone{x:Rat}(h0:x≤-(1/2:Rat))(h1:-1<x):rK 5 x=-1:=by
 have a:=(le_rK (w:=5) (by omega) (-1) x).2 (.inl (by show ((-1:Int):Rat) - 1/2<x;have:((-1:Int):Rat)=-1:=rfl;grind))
 have b:=(rK_le (w:=5) (by omega) (-1) x).2 (by
  show (x<((-1:Int):Rat)+1/2∨x=((-1:Int):Rat)+1/2∧decide ((0:Int)≤-1)=false)
  have e:((-1:Int):Rat)=-1:=rfl
  by_cases c:x=-(1/2)
  ·exact .inr ⟨by grind,rfl⟩
  ·exact .inl (by grind))
 omega
theorem away_mid{t k q D H:Nat}(hk:t=k*2^52+q)(hq:2^52≤q)(hq2:q<2^53)(hD:D=2*H)(hH:0<H)(hDk:D*2^k=2^1074)(hd:D ∣ 2^52):
  fl (((t+H) / D*D:Nat):Int)=(((q+H) / D:Nat):Rat)∧fl (t:Int)*(D:Int)=((q:Int):Rat):=by
 obtain⟨U,hU⟩:∃ U:Nat,U=1074:=⟨_,rfl⟩
 rw [← hU] at hDk;obtain⟨c,hc⟩:=hd
 have hD0:0<D:=by omega
 have e1:(t+H) / D*D=k*2^52+(q+H) / D*D:=by
  have:t+H=q+H+D*(k*c):=by rw [hk,hc,show D*(k*c)=k*(D*c) by ac_rfl];omega
  rw [this,Nat.add_mul_div_left _ _ hD0,Nat.add_mul,hc]
  have:k*c*D=k*(D*c):=by ac_rfl
  omega
 have q1:2^52≤(q+H) / D*D:=by
  rw [hc,Nat.mul_comm D c];refine Nat.mul_le_mul_right _ ?_;rw [Nat.le_div_iff_mul_le hD0,Nat.mul_comm,← hc];omega
 have q2:(q+H) / D*D≤2^53:=by
  have h53:2^53=(2*c)*D:=by
   have:(2:Nat)^53=2*2^52:=by rw [← Nat.pow_succ']
   rw [this,hc];ac_rfl
  rw [h53];refine Nat.mul_le_mul_right _ ?_
  have h4:(q+H) / D<2*c+1:=by
   rw [Nat.div_lt_iff_lt_mul hD0,Nat.add_mul,← h53];omega
  omega
 have m1:=mag_form k ((q+H) / D*D) (.inr q1) q2;have m2:=mag_form k q (.inr hq) (by omega);rw [← e1] at m1;rw [← hk] at m2
 constructor
 ·have f:=fl_mul hU (((t+H) / D*D:Nat):Int);rw [val_nat,m1,Nat.mul_assoc,hDk] at f
  have f2:fl (((t+H) / D*D:Nat):Int)*P2 U=(((q+H) / D:Nat):Rat)*P2 U:=by
   unfold P2;rw [f]
   push_cast
   rfl
  exact P2_cancel f2
 ·have f:=fl_mul hU (t:Int);rw [val_nat,m2,← hDk] at f
  have f2:(fl (t:Int)*(D:Int))*P2 k=((q:Int):Rat)*P2 k:=by
   unfold P2
   have:(((D*2^k:Nat):Int):Rat)=((D:Int):Rat)*(((2^k:Nat):Int):Rat):=by push_cast;rfl
   rw [this] at f
   have g:(((q*2^k:Nat):Int):Rat)=((q:Int):Rat)*(((2^k:Nat):Int):Rat):=by push_cast;rfl
   rw [g] at f
   grind
  exact P2_cancel f2
end Go.Proofs.YtfcpabgampebaaaGreat
namespace Go.Proofs.YtfcpabgampebaaaGreat
open Go.RowKit Ieee
attribute [local go_sem] run_frombits run_bitsof
theorem wrap_id{b P:Nat}(h:b+P<18446744073709551616):((b:Int)+(P:Int)) % 18446744073709551616=((b+P:Nat):Int):=by omega
def rW(b:Nat):Nat:=
 if rungOf b / 4503599627370496<1022 then b / 9223372036854775808*9223372036854775808
 else if rungOf b / 4503599627370496=1022 then b / 9223372036854775808*9223372036854775808+4607182418800017408
 else if rungOf b / 4503599627370496<1075 then (b+2^(1074 - rungOf b / 4503599627370496)) / 2^(1075 - rungOf b / 4503599627370496)*2^(1075 - rungOf b / 4503599627370496)
 else b
set_option maxRecDepth 8000 in
theorem round_walk(b:Nat)(w:World)(hb:b<18446744073709551616):
  Calls Tryz.prog 41 #[.float .f64 b] w fun e w'=>e=.returned (.float .f64 (rW b))∧w=w':=by
 obtain⟨e,he⟩:∃ e,rungOf b / 4503599627370496=e:=⟨_,rfl⟩
 have he2:b / 4503599627370496 % 2048=e:=by rw [← he];unfold rungOf;omega
 unfold rW;rw [he];clear he
 have m2:bits .and .u64 ((b:Int) / 4503599627370496) 2047=(e:Int):=by
  have h:=mask11_u64 (x:=b / 4503599627370496) (by omega);rw [he2,show ((b / 4503599627370496:Nat):Int)=(b:Int) / 4503599627370496 from by omega] at h
  exact h
 obtain⟨S,hS⟩:∃ S,b / 9223372036854775808*9223372036854775808=S:=⟨_,rfl⟩
 have m3:bits .and .u64 (b:Int) 9223372036854775808=(S:Int):=by
  have h:=u64_and_nat b 9223372036854775808 hb (by omega);rw [show (9223372036854775808:Nat)=2^64 - 2^63 by decide,and_high (k:=63) hb (by omega),show (2:Nat)^63=9223372036854775808 by decide,hS] at h
  exact h
 have m4:bits .or .u64 (S:Int) 4607182418800017408=((S+4607182418800017408:Nat):Int):=by
  have h:=or_join (i:=63) (x:=b / 9223372036854775808) (y:=4607182418800017408) (by omega) (by omega) (by omega);rw [show (2:Nat)^63=9223372036854775808 by decide,hS] at h
  exact h
 have ff:=fun W=>run_bitsof b W;rw [hS]
 by_cases c1:e<1022
 ·rw [if_pos c1]
  have g0:(e:Int)<1023:=by omega
  have g1:((e:Int) == 1022)=false:=by simp;omega
  clear m4 hS he2 c1 hb
  go_enter Tryz.func41,Tryz.ntmps41
  go_wp2
  go_ret
  exact⟨rfl,rfl⟩
 by_cases c2:e=1022
 ·rw [if_neg c1,if_pos c2];subst c2
  obtain⟨V,hV⟩:∃ V,S+4607182418800017408=V:=⟨_,rfl⟩
  rw [hV] at m4 ⊢;have fr:=fun W=>run_frombits V W;clear hS he2 c1 hb hV
  go_enter Tryz.func41,Tryz.ntmps41
  go_wp2
  go_ret
  exact⟨rfl,rfl⟩
 have g0:¬ (e:Int)<1023:=by omega
 by_cases c3:e<1075
 ·rw [if_neg c1,if_neg c2,if_pos c3]
  have g1:(e:Int)<1075:=by omega
  obtain⟨j,hj⟩:∃ j,e - 1023=j:=⟨_,rfl⟩
  have hj2:j≤51:=by omega
  have s1:(2251799813685248:Int) / 2 ^ j=((2^(51 - j):Nat):Int):=by
   have:(2251799813685248:Nat) / 2^j=2^(51 - j):=by
    rw [show (2251799813685248:Nat)=2^51 by decide,Nat.pow_div (by omega) (by omega)]
   rw [← this];simp
  have s2:(4503599627370495:Int) / 2 ^ j=((2^(52 - j) - 1:Nat):Int):=by
   have h52:2^52=2^j*2^(52 - j):=by rw [← Nat.pow_add];congr 1;omega
   have hp:=Nat.two_pow_pos j;have hp2:=Nat.two_pow_pos (52 - j)
   have:(4503599627370495:Nat) / 2^j=2^(52 - j) - 1:=by
    have hd:(4503599627370495:Nat)=2^j*(2^(52 - j) - 1)+(2^j - 1):=by
     rw [Nat.mul_sub,Nat.mul_one,← h52];have:2^j≤2^52:=Nat.pow_le_pow_right (by omega) (by omega)
     omega
    rw [hd,Nat.mul_add_div hp,Nat.div_eq_of_lt (by omega)];omega
   rw [← this];simp
  obtain⟨r,hr⟩:∃ r,(b+2^(1074 - e)) / 2^(1075 - e)*2^(1075 - e)=r:=⟨_,rfl⟩
  have e51:51 - j=1074 - e:=by omega
  have e52:52 - j=1075 - e:=by omega
  have hle:2^(51 - j)≤2^51:=Nat.pow_le_pow_right (by omega) (by omega)
  have hlt:b+2^(51 - j)<18446744073709551616:=by
   have:b % 9223372036854775808<1075*4503599627370496:=by omega
   omega
  have hX:bits .andNot .u64 (IntKind.u64.wrap ((b:Int)+2251799813685248 / 2 ^ (e - 1023))) (4503599627370495 / 2 ^ (e - 1023))=(r:Int):=by
   rw [hj,s1,s2,IntKind.wrap_u64,wrap_id hlt];have hp2:=Nat.two_pow_pos (52 - j);have hp3:2^(52 - j)≤2^64:=Nat.pow_le_pow_right (by omega) (by omega);have h:=u64_andNot_nat (b+2^(51 - j)) (2^(52 - j) - 1) hlt (by omega);rw [show (18446744073709551615 - (2^(52 - j) - 1):Nat)=2^64 - 2^(52 - j) by omega,and_high hlt (by omega)] at h;rw [h,e51,e52,hr]
  rw [hr];clear hr s1 s2 hle hlt hj hj2 e51 e52 c1 c2 c3 m3 m4 hS hb he2
  go_enter Tryz.func41,Tryz.ntmps41
  go_wp2
  go_ret
  exact⟨rfl,rfl⟩
 ·rw [if_neg c1,if_neg c2,if_neg c3]
  have g1:¬ (e:Int)<1075:=by omega
  have fr:=fun W=>run_frombits b W;clear c1 c2 c3 m3 m4 hS hb he2
  go_enter Tryz.func41,Tryz.ntmps41
  go_wp2
  go_ret
  exact⟨rfl,rfl⟩
theorem is_parts{S t:Nat}(hS:S=0∨S=9223372036854775808)(ht:t≤M):Is (S+t) (if S=0 then (t:Int) else -(t:Int)):=by
 have hM:=M_val;have c:=pat_cases (b:=S+t) (by omega);refine⟨by omega,by unfold real;omega,?_⟩
 rcases hS with rfl | rfl
 ·rw [if_pos rfl];omega
 ·rw [if_neg (by omega)];omega
theorem fl_parts2(S t:Nat):fl (if S=0 then (t:Int) else -(t:Int))=if S=0 then fl (t:Int) else - fl (t:Int):=by split<;>simp [fl_neg]
theorem rung_sum{t n q:Nat}(he:t / 4503599627370496=n+1)(hq:q=4503599627370496+t % 4503599627370496):n*2^52+q=t:=by
 rw [show (2:Nat)^52=4503599627370496 by decide]
 omega
theorem rW_is{b:Nat}(hb:b<18446744073709551616)(h:real b):Is (rW b) (wh 5 (idx b)):=by
 have hM:=M_val;have hpc:=pat_cases hb
 obtain⟨t,ht⟩:∃ t,rungOf b=t:=⟨_,rfl⟩
 obtain⟨S,hS⟩:∃ S,b / 9223372036854775808*9223372036854775808=S:=⟨_,rfl⟩
 have htM:t≤M:=by rw [← ht];exact h
 have hS2:S=0∨S=9223372036854775808:=by omega
 have hbS:b=S+t:=by omega
 have hi:idx b=if S=0 then (t:Int) else -(t:Int):=by split<;>omega
 unfold rW;rw [ht,hS,hi];clear hpc ht hi hb h
 have rng:t<M→-(M:Int)<(if S=0 then (t:Int) else -(t:Int))∧(if S=0 then (t:Int) else -(t:Int))<M:=fun h=>by split<;>omega
 have fin:∀ t2:Nat,t2≤M→t<M→fl (t2:Int)=(rK 5 (fl (t:Int)):Rat)→- fl (t2:Int)=(rK 5 (- fl (t:Int)):Rat)→Is (S+t2) (wh 5 (if S=0 then (t:Int) else -(t:Int))):=fun t2 h2 h1 a b=>by
  have e:=wh_of (w:=5) (by omega) (rng h1).1 (rng h1).2 (j:=if S=0 then (t2:Int) else -(t2:Int)) (by
   rw [fl_parts2,fl_parts2]
   split
   ·exact a
   ·exact b)
  rw [e]
  exact is_parts hS2 h2
 have f0:(0:Rat)≤fl (t:Int):=by rw [← fl_zero];exact fl_le_iff.2 (by omega)
 by_cases c1:t / 4503599627370496<1022
 ·rw [if_pos c1]
  have f1:fl (t:Int)<1/2:=by rw [← fl_half'];exact fl_lt_iff.2 (by omega)
  refine fin 0 (by omega) (by omega) ?_ ?_
  ·rw [away_small (by grind) f1];exact fl_zero
  ·rw [away_small (by grind) (by grind)];rw [show ((0:Nat):Int)=0 from rfl,fl_zero];grind
 by_cases c2:t / 4503599627370496=1022
 ·rw [if_neg c1,if_pos c2]
  have f1:(1/2:Rat)≤fl (t:Int):=by rw [← fl_half'];exact fl_le_iff.2 (by omega)
  have f2:fl (t:Int)<1:=by rw [← fl_one'];exact fl_lt_iff.2 (by omega)
  refine fin 4607182418800017408 (by omega) (by omega) ?_ ?_
  ·rw [away_one f1 f2];exact fl_one'
  ·rw [away_mone (by grind) (by grind)];exact congrArg Neg.neg fl_one'
 by_cases c3:t / 4503599627370496<1075
 ·rw [if_neg c1,if_neg c2,if_pos c3]
  obtain⟨e,he⟩:∃ e,t / 4503599627370496=e:=⟨_,rfl⟩
  rw [he] at c1 c2 c3 ⊢
  obtain⟨k,rfl⟩:∃ k,e=k+1:=⟨e - 1,by omega⟩
  obtain⟨H,hH⟩:∃ H,2^(1074 - (k+1))=H:=⟨_,rfl⟩
  obtain⟨D,hD⟩:∃ D,2^(1075 - (k+1))=D:=⟨_,rfl⟩
  have hH0:0<H:=by rw [← hH];exact Nat.two_pow_pos _
  have hHl:H≤4503599627370496:=by
   rw [← hH,show (4503599627370496:Nat)=2^52 by decide];exact Nat.pow_le_pow_right (by omega) (by omega)
  have hDH:D=2*H:=by rw [← hH,← hD,← Nat.pow_succ'];congr 1;omega
  have hDk:D*2^k=2^1074:=by rw [← hD,← Nat.pow_add];congr 1;omega
  have hd52:D ∣ 2^52:=by rw [← hD];exact Nat.pow_dvd_pow 2 (by omega)
  have hd63:D ∣ S:=by
   have:D ∣ 9223372036854775808:=by rw [← hD,show (9223372036854775808:Nat)=2^63 by decide];exact Nat.pow_dvd_pow 2 (by omega)
   rcases hS2 with rfl | rfl
   ·exact Nat.dvd_zero D
   ·exact this
  rw [hH,hD]
  obtain⟨q,hq⟩:∃ q,q=4503599627370496+t % 4503599627370496:=⟨_,rfl⟩
  obtain⟨a1,a2⟩:=away_mid (t:=t) (k:=k) (q:=q) (by rw [show (2:Nat)^52=4503599627370496 by decide];omega) (by rw [show (2:Nat)^52=4503599627370496 by decide];omega) (by rw [show (2:Nat)^53=9007199254740992 by decide];omega) hDH hH0 hDk hd52
  have hD0:0<D:=by omega
  have er:(b+H) / D*D=S+(t+H) / D*D:=by
   obtain⟨c,hc⟩:=hd63;rw [hbS,hc,show D*c+t+H=t+H+D*c by omega,Nat.add_mul_div_left _ _ hD0,Nat.add_mul,Nat.mul_comm c D,Nat.add_comm]
  have hle:(t+H) / D*D≤t+H:=Nat.div_mul_le_self _ _
  have ei:(((q+H) / D:Nat):Int)=((q:Int)+(H:Int)) / (D:Int):=by push_cast;rfl
  have w1:=wI_rK (x:=fl (t:Int)) (a:=(q:Int)) (D:=(D:Int)) (by omega) a2;have w2:=wI_rK (x:=- fl (t:Int)) (a:=-(q:Int)) (D:=(D:Int)) (by omega) (by rw [Rat.intCast_neg,← a2];grind);rw [wI_pos (H:=(H:Int)) (by omega) (by omega) (by omega),← ei] at w1;rw [wI_neg (H:=(H:Int)) (by omega) (by omega) (by omega),← ei] at w2;rw [er];refine fin _ (by omega) (by omega) ?_ ?_
  ·rw [a1,← w1];rfl
  ·rw [a1,← w2,Rat.intCast_neg];rfl
 ·rw [if_neg c1,if_neg c2,if_neg c3,hbS]
  by_cases hm:t=M
  ·subst hm
   have e:wh 5 (if S=0 then ((M:Nat):Int) else -((M:Nat):Int))=if S=0 then ((M:Nat):Int) else -((M:Nat):Int):=by
    split
    ·exact wh_max 5
    ·exact wh_min 5
   rw [e]
   exact is_parts hS2 htM
  ·obtain⟨e,he⟩:∃ e,t / 4503599627370496=e:=⟨_,rfl⟩
   rw [he] at c1 c2 c3
   obtain⟨U,hU⟩:∃ U:Nat,U=1074:=⟨_,rfl⟩
   obtain⟨k,hk⟩:∃ k,e=k+U+1:=⟨e - 1 - U,by omega⟩
   obtain⟨q,hq⟩:∃ q,q=4503599627370496+t % 4503599627370496:=⟨_,rfl⟩
   have hmag:=mag_form (k+U) q (.inr (by rw [show (2:Nat)^52=4503599627370496 by decide];omega)) (by rw [show (2:Nat)^53=9007199254740992 by decide];omega);rw [rung_sum (he.trans hk) hq] at hmag
   have hz:fl (t:Int)=(((q*2^k:Nat):Int):Rat):=by
    have f:=fl_mul hU (t:Int);rw [val_nat,hmag] at f
    have f2:fl (t:Int)*P2 U=(((q*2^k:Nat):Int):Rat)*P2 U:=by
     unfold P2;rw [f,← Rat.intCast_mul,← Int.natCast_mul,Nat.mul_assoc,← Nat.pow_add]
    exact P2_cancel f2
   refine fin t htM (by omega) ?_ ?_
   ·rw [hz,rK_int (by omega)]
   ·rw [hz,← Rat.intCast_neg,rK_int (by omega)]
theorem val_away(w:World):ValFn w 41 rW:=.inl ⟨enters_of Tryz.func41 (by kernel_rfl) rfl,fun i h0 h1 W _=>calls_below (round_walk (pat i) W (is_pat ⟨h0,h1⟩).lt)⟩
theorem rW_idx(i:Int)(h0:-(M:Int)≤i)(h1:i≤M):Is (rW (pat i)) (wh 5 i):=by
 have h:=rW_is (is_pat ⟨h0,h1⟩).lt (is_pat ⟨h0,h1⟩).real
 rwa [idx_pat h0 h1] at h
theorem awayrev_any(c1 c2 x y:Nat)(w:World)(hc1:c1<18446744073709551616)(hc2:c2<18446744073709551616)(hx:x<18446744073709551616)(hy:y<18446744073709551616):
  Calls Tryz.prog 12 #[.agg #[.float .f64 c1,.float .f64 c2],.agg #[.float .f64 x,.float .f64 y]] w fun e w'=>
   e=.returned (.agg #[.float .f64 (pat (stq 5 (rd c1 c2) (rd x y)).1),.float .f64 (pat (stq 5 (rd c1 c2) (rd x y)).2)])∧Below w.heap.size w w':=
 away_walk c1 c2 x y _ _ w fun W B0 B1 h0 h1=>step_idx _ _ _ _ _ _ _ _ _ c1 c2 x y W hc1 hc2 hx hy rW_idx (val_away W)
  ⟨enters_of Tryz.func67 (by kernel_rfl) rfl,enters_of Tryz.func63 (by kernel_rfl) rfl,ahead_fn 5 (b:=4602678819172646912) (by have:=M_val;omega) (fun A=>by rw [fl_half];rfl) h0,behind_fn 5 (b:=4602678819172646912) (by have:=M_val;omega) (fun A=>by rw [fl_half];rfl) h1⟩
end Go.Proofs.YtfcpabgampebaaaGreat
namespace Go.Proofs.YtfcpabgampebaaaGreat
open Go.RowKit
attribute [local go_sem] run_store_float run_frombits run_bitsof
theorem law_in(x y:Nat)(w:World):Calls Tryz.prog 4 #[.agg #[.int .u64 (x:Int),.int .u64 (y:Int)]] w fun e w'=>e=.returned (.agg #[.float .f64 x,.float .f64 y])∧Below w.heap.size w w':=by
 obtain⟨LB0,LG0_0,LR⟩:=bx2 w #[.int .u64 (x:Int),.int .u64 (y:Int)] 24 #[.float .f64 0,.float .f64 0] 27;have LR0:=Hd (HasBlk.of (n:=2) LR.out rfl rfl);clear LR
 go_enter Tryz.func4,Tryz.ntmps4
 go_wp2_with fail;clear LB0 LG0_0 LR0
 go_region
 all_goals go_wp2
 all_goals (refine bodyPost_ret (v:=.agg #[.float .f64 x,.float .f64 y]) (by simp [results,Tryz.results4,go_sem]) rfl ?_;exact⟨rfl,((below_alloc w _).alloc (by simp) _).drew⟩)
theorem law_out(x y:Nat)(w:World):Calls Tryz.prog 5 #[.agg #[.float .f64 x,.float .f64 y]] w fun e w'=>e=.returned (.agg #[.int .u64 (x:Int),.int .u64 (y:Int)])∧Below w.heap.size w w':=by
 obtain⟨LB0,LG0_0,LR⟩:=bx2 w #[.float .f64 x,.float .f64 y] 27 #[.int .u64 0,.int .u64 0] 24;have LR0:=Hd (HasBlk.of (n:=2) LR.out rfl rfl);clear LR
 go_enter Tryz.func5,Tryz.ntmps5
 go_wp2_with fail;clear LB0 LG0_0 LR0
 go_region
 all_goals go_wp2
 all_goals (refine bodyPost_ret (v:=.agg #[.int .u64 (x:Int),.int .u64 (y:Int)]) (by simp [results,Tryz.results5,go_sem]) rfl ?_;exact⟨rfl,((below_alloc w _).alloc (by simp) _).drew⟩)
end Go.Proofs.YtfcpabgampebaaaGreat
namespace Go.Proofs.YtfcpabgampebaaaGreat
open Go.RowKit
attribute [local go_sem] run_store_float
set_option maxRecDepth 8000 in
theorem steps_law(c1 c2 x y:Nat)(w:World)(hc1:c1<18446744073709551616)(hc2:c2<18446744073709551616)(hx:x<18446744073709551616)(hy:y<18446744073709551616):
  Calls Tryz.prog 3 #[.agg #[.int .u64 (c1:Int),.int .u64 (c2:Int)],.agg #[.int .u64 (x:Int),.int .u64 (y:Int)]] w fun e w'=>e=.returned (.bool true)∧Below w.heap.size w w':=by
 have R0:=Hd fun W=>signrev_any c1 c2 x y W hc1 hc2 hx hy;have S0:=Hd (show ∀ W,Calls Tryz.prog 7 #[.int .i64 0,.agg #[.int .u64 (c1:Int),.int .u64 (c2:Int)],.agg #[.int .u64 (x:Int),.int .u64 (y:Int)]] W fun e w'=>e=.returned (.agg #[.int .u64 (pat (sgq (rd c1 c2) (rd x y)).1:Int),.int .u64 (pat (sgq (rd c1 c2) (rd x y)).2:Int)])∧Below W.heap.size W w' from fun W=>steprev_sgn c1 c2 x y W hc1 hc2 hx hy);have R1:=Hd fun W=>floorrev_any c1 c2 x y W hc1 hc2 hx hy;have S1:=Hd (show ∀ W,Calls Tryz.prog 7 #[.int .i64 1,.agg #[.int .u64 (c1:Int),.int .u64 (c2:Int)],.agg #[.int .u64 (x:Int),.int .u64 (y:Int)]] W fun e w'=>e=.returned (.agg #[.int .u64 (pat (stq 1 (rd c1 c2) (rd x y)).1:Int),.int .u64 (pat (stq 1 (rd c1 c2) (rd x y)).2:Int)])∧Below W.heap.size W w' from fun W=>steprev_any 1 c1 c2 x y W (by omega) (by omega) hc1 hc2 hx hy);have R2:=Hd fun W=>ceilrev_any c1 c2 x y W hc1 hc2 hx hy;have S2:=Hd (show ∀ W,Calls Tryz.prog 7 #[.int .i64 2,.agg #[.int .u64 (c1:Int),.int .u64 (c2:Int)],.agg #[.int .u64 (x:Int),.int .u64 (y:Int)]] W fun e w'=>e=.returned (.agg #[.int .u64 (pat (stq 2 (rd c1 c2) (rd x y)).1:Int),.int .u64 (pat (stq 2 (rd c1 c2) (rd x y)).2:Int)])∧Below W.heap.size W w' from fun W=>steprev_any 2 c1 c2 x y W (by omega) (by omega) hc1 hc2 hx hy);have R3:=Hd fun W=>truncrev_any c1 c2 x y W hc1 hc2 hx hy;have S3:=Hd (show ∀ W,Calls Tryz.prog 7 #[.int .i64 3,.agg #[.int .u64 (c1:Int),.int .u64 (c2:Int)],.agg #[.int .u64 (x:Int),.int .u64 (y:Int)]] W fun e w'=>e=.returned (.agg #[.int .u64 (pat (stq 3 (rd c1 c2) (rd x y)).1:Int),.int .u64 (pat (stq 3 (rd c1 c2) (rd x y)).2:Int)])∧Below W.heap.size W w' from fun W=>steprev_any 3 c1 c2 x y W (by omega) (by omega) hc1 hc2 hx hy)
 have R4:=Hd fun W=>evenrev_any c1 c2 x y W hc1 hc2 hx hy;have S4:=Hd (show ∀ W,Calls Tryz.prog 7 #[.int .i64 4,.agg #[.int .u64 (c1:Int),.int .u64 (c2:Int)],.agg #[.int .u64 (x:Int),.int .u64 (y:Int)]] W fun e w'=>e=.returned (.agg #[.int .u64 (pat (stq 4 (rd c1 c2) (rd x y)).1:Int),.int .u64 (pat (stq 4 (rd c1 c2) (rd x y)).2:Int)])∧Below W.heap.size W w' from fun W=>steprev_any 4 c1 c2 x y W (by omega) (by omega) hc1 hc2 hx hy);have R5:=Hd fun W=>awayrev_any c1 c2 x y W hc1 hc2 hx hy;have S5:=Hd (show ∀ W,Calls Tryz.prog 7 #[.int .i64 5,.agg #[.int .u64 (c1:Int),.int .u64 (c2:Int)],.agg #[.int .u64 (x:Int),.int .u64 (y:Int)]] W fun e w'=>e=.returned (.agg #[.int .u64 (pat (stq 5 (rd c1 c2) (rd x y)).1:Int),.int .u64 (pat (stq 5 (rd c1 c2) (rd x y)).2:Int)])∧Below W.heap.size W w' from fun W=>steprev_any 5 c1 c2 x y W (by omega) (by omega) hc1 hc2 hx hy)
 obtain⟨a0,ea⟩:∃ z,pat (sgq (rd c1 c2) (rd x y)).1=z:=⟨_,rfl⟩
 obtain⟨b0,eb⟩:∃ z,pat (sgq (rd c1 c2) (rd x y)).2=z:=⟨_,rfl⟩
 rw [ea,eb] at R0 S0;clear ea eb;have O0:=Hd fun W=>law_out a0 b0 W
 obtain⟨a1,ea⟩:∃ z,pat (stq 1 (rd c1 c2) (rd x y)).1=z:=⟨_,rfl⟩
 obtain⟨b1,eb⟩:∃ z,pat (stq 1 (rd c1 c2) (rd x y)).2=z:=⟨_,rfl⟩
 rw [ea,eb] at R1 S1;clear ea eb;have O1:=Hd fun W=>law_out a1 b1 W
 obtain⟨a2,ea⟩:∃ z,pat (stq 2 (rd c1 c2) (rd x y)).1=z:=⟨_,rfl⟩
 obtain⟨b2,eb⟩:∃ z,pat (stq 2 (rd c1 c2) (rd x y)).2=z:=⟨_,rfl⟩
 rw [ea,eb] at R2 S2;clear ea eb;have O2:=Hd fun W=>law_out a2 b2 W
 obtain⟨a3,ea⟩:∃ z,pat (stq 3 (rd c1 c2) (rd x y)).1=z:=⟨_,rfl⟩
 obtain⟨b3,eb⟩:∃ z,pat (stq 3 (rd c1 c2) (rd x y)).2=z:=⟨_,rfl⟩
 rw [ea,eb] at R3 S3;clear ea eb;have O3:=Hd fun W=>law_out a3 b3 W
 obtain⟨a4,ea⟩:∃ z,pat (stq 4 (rd c1 c2) (rd x y)).1=z:=⟨_,rfl⟩
 obtain⟨b4,eb⟩:∃ z,pat (stq 4 (rd c1 c2) (rd x y)).2=z:=⟨_,rfl⟩
 rw [ea,eb] at R4 S4;clear ea eb;have O4:=Hd fun W=>law_out a4 b4 W
 obtain⟨a5,ea⟩:∃ z,pat (stq 5 (rd c1 c2) (rd x y)).1=z:=⟨_,rfl⟩
 obtain⟨b5,eb⟩:∃ z,pat (stq 5 (rd c1 c2) (rd x y)).2=z:=⟨_,rfl⟩
 rw [ea,eb] at R5 S5;clear ea eb;have O5:=Hd fun W=>law_out a5 b5 W;have I1:=Hd fun W=>law_in c1 c2 W;have I2:=Hd fun W=>law_in x y W;clear hc1 hc2 hx hy;have LL:=li2 w #[.int .u64 (c1:Int),.int .u64 (c2:Int)] 24 #[.int .u64 (x:Int),.int .u64 (y:Int)] 24
 go_enter Tryz.func3,Tryz.ntmps3
 obtain⟨q1_0,q1_1⟩:=(LL.out.blk 0 rfl).c2;go_wp2_with fail;refine (I1.out _).mono ?_;rintro e wk ⟨rfl,hb⟩;replace LL:=stL LL hb;clear hb q1_0 q1_1
 go_upto_region 2 with fail
 have hl_j5:=LL.out.lts;generalize hwn:World.alloc wk _=wn;replace LL:=Hd (LL.out.newE hwn)
 simp only [List.cons_append,List.nil_append] at LL
 simp only [List.mem_cons,List.not_mem_nil,or_false,forall_eq_or_imp,forall_eq,false_imp_iff,implies_true,and_true] at hl_j5
 clear hwn;generalize wk.heap.size=j5 at LL hl_j5 ⊢;obtain⟨q2_0,q2_1⟩:=(LL.out.blk 1 rfl).c2;go_wp2_with fail;refine (I2.out _).mono ?_;rintro e wk ⟨rfl,hb⟩;replace LL:=stL LL hb;clear hb q2_0 q2_1
 go_upto_region 3 with fail
 have hl_j6:=LL.out.lts;generalize hwn:World.alloc wk _=wn;replace LL:=Hd (LL.out.newE hwn)
 simp only [List.cons_append,List.nil_append] at LL
 simp only [List.mem_cons,List.not_mem_nil,or_false,forall_eq_or_imp,forall_eq,false_imp_iff,implies_true,and_true] at hl_j6
 clear hwn;generalize wk.heap.size=j6 at LL hl_j6 ⊢;refine regL LL (fun hHeld=>?_);clear LL;generalize World.drew _=wk at hHeld  ⊢;refine tk 0 ?_ (hv:=by intro W2 hSw;obtain⟨q0,q1⟩:=(hSw.blk 2 rfl).c2;go_simp;(try with_reducible rfl));(try simp only [Act.put,lay]);refine tk 1 ?_ (hv:=by intro W2 hSw;obtain⟨q0,q1⟩:=(hSw.blk 3 rfl).c2;go_simp;(try with_reducible rfl));(try simp only [Act.put,lay]);refine tk 4 ?_ (hv:=by intro W2 hSw;obtain⟨q0,q1⟩:=(hSw.blk 0 rfl).c2;go_simp;(try with_reducible rfl));(try simp only [Act.put,lay]);refine tk 5 ?_ (hv:=by intro W2 hSw;obtain⟨q0,q1⟩:=(hSw.blk 1 rfl).c2;go_simp;(try with_reducible rfl));(try simp only [Act.put,lay]);refine rdy 2 (fun KK hKK=>?_);go_simp;refine (R0.out _).mono ?_;rintro e wk ⟨rfl,hbR0⟩;go_wp2_with fail;refine hKK.out _ _ (hHeld.keep hbR0) (fun _=>?_);clear hKK KK hHeld;rename_i hHeld;(try simp only [Act.put,lay]);clear hbR0;refine rdy 3 (fun KK hKK=>?_);go_simp;refine (O0.out _).mono ?_;rintro e wk ⟨rfl,hbO0⟩;go_wp2_with fail;refine hKK.out _ _ (hHeld.keep hbO0) (fun _=>?_);clear hKK KK hHeld;rename_i hHeld;(try simp only [Act.put,lay]);clear hbO0;refine rdy 6 (fun KK hKK=>?_);go_simp;refine (S0.out _).mono ?_;rintro e wk ⟨rfl,hbS0⟩;go_wp2_with fail;refine hKK.out _ _ (hHeld.keep hbS0) (fun _=>?_);clear hKK KK hHeld;rename_i hHeld;(try simp only [Act.put,lay]);clear hbS0;refine tk 7 ?_;(try simp only [Act.put,lay]);refine tk 8 ?_;(try simp only [Act.put,lay]);refine tk 9 ?_ (hv:=by intro W2 hSw;obtain⟨q0,q1⟩:=(hSw.blk 2 rfl).c2;go_simp;(try with_reducible rfl))
 (try simp only [Act.put,lay]);refine tk 10 ?_ (hv:=by intro W2 hSw;obtain⟨q0,q1⟩:=(hSw.blk 3 rfl).c2;go_simp;(try with_reducible rfl));(try simp only [Act.put,lay]);refine tk 13 ?_ (hv:=by intro W2 hSw;obtain⟨q0,q1⟩:=(hSw.blk 0 rfl).c2;go_simp;(try with_reducible rfl));(try simp only [Act.put,lay]);refine tk 14 ?_ (hv:=by intro W2 hSw;obtain⟨q0,q1⟩:=(hSw.blk 1 rfl).c2;go_simp;(try with_reducible rfl));(try simp only [Act.put,lay]);refine rdy 11 (fun KK hKK=>?_);go_simp;refine (R1.out _).mono ?_;rintro e wk ⟨rfl,hbR1⟩;go_wp2_with fail;refine hKK.out _ _ (hHeld.keep hbR1) (fun _=>?_);clear hKK KK hHeld;rename_i hHeld;(try simp only [Act.put,lay]);clear hbR1;refine rdy 12 (fun KK hKK=>?_);go_simp;refine (O1.out _).mono ?_;rintro e wk ⟨rfl,hbO1⟩;go_wp2_with fail;refine hKK.out _ _ (hHeld.keep hbO1) (fun _=>?_);clear hKK KK hHeld;rename_i hHeld;(try simp only [Act.put,lay]);clear hbO1;refine rdy 15 (fun KK hKK=>?_);go_simp;refine (S1.out _).mono ?_;rintro e wk ⟨rfl,hbS1⟩;go_wp2_with fail;refine hKK.out _ _ (hHeld.keep hbS1) (fun _=>?_);clear hKK KK hHeld;rename_i hHeld;(try simp only [Act.put,lay]);clear hbS1;refine tk 16 ?_;(try simp only [Act.put,lay]);refine tk 17 ?_;(try simp only [Act.put,lay]);refine tk 18 ?_;(try simp only [Act.put,lay]);refine tk 19 ?_ (hv:=by intro W2 hSw;obtain⟨q0,q1⟩:=(hSw.blk 2 rfl).c2;go_simp;(try with_reducible rfl));(try simp only [Act.put,lay]);refine tk 20 ?_ (hv:=by intro W2 hSw;obtain⟨q0,q1⟩:=(hSw.blk 3 rfl).c2;go_simp;(try with_reducible rfl));(try simp only [Act.put,lay])
 refine tk 23 ?_ (hv:=by intro W2 hSw;obtain⟨q0,q1⟩:=(hSw.blk 0 rfl).c2;go_simp;(try with_reducible rfl));(try simp only [Act.put,lay]);refine tk 24 ?_ (hv:=by intro W2 hSw;obtain⟨q0,q1⟩:=(hSw.blk 1 rfl).c2;go_simp;(try with_reducible rfl));(try simp only [Act.put,lay]);refine rdy 21 (fun KK hKK=>?_);go_simp;refine (R2.out _).mono ?_;rintro e wk ⟨rfl,hbR2⟩;go_wp2_with fail;refine hKK.out _ _ (hHeld.keep hbR2) (fun _=>?_);clear hKK KK hHeld;rename_i hHeld;(try simp only [Act.put,lay]);clear hbR2;refine rdy 22 (fun KK hKK=>?_);go_simp;refine (O2.out _).mono ?_;rintro e wk ⟨rfl,hbO2⟩;go_wp2_with fail;refine hKK.out _ _ (hHeld.keep hbO2) (fun _=>?_);clear hKK KK hHeld;rename_i hHeld;(try simp only [Act.put,lay]);clear hbO2;refine rdy 25 (fun KK hKK=>?_);go_simp;refine (S2.out _).mono ?_;rintro e wk ⟨rfl,hbS2⟩;go_wp2_with fail;refine hKK.out _ _ (hHeld.keep hbS2) (fun _=>?_);clear hKK KK hHeld;rename_i hHeld;(try simp only [Act.put,lay]);clear hbS2;refine tk 26 ?_;(try simp only [Act.put,lay]);refine tk 27 ?_;(try simp only [Act.put,lay]);refine wpAnyH_done (by kernel_rfl) ?_ _;have LL:=Hd hHeld;clear hHeld;clear R0 O0 S0 R1 O1 S1 R2 O2 S2;go_wp2_with fail;refine regL LL (fun hHeld=>?_);clear LL;generalize World.drew _=wk at hHeld  ⊢;refine tk 0 ?_ (hv:=by intro W2 hSw;obtain⟨q0,q1⟩:=(hSw.blk 2 rfl).c2;go_simp;(try with_reducible rfl));(try simp only [Act.put,lay]);refine tk 1 ?_ (hv:=by intro W2 hSw;obtain⟨q0,q1⟩:=(hSw.blk 3 rfl).c2;go_simp;(try with_reducible rfl));(try simp only [Act.put,lay])
 refine tk 4 ?_ (hv:=by intro W2 hSw;obtain⟨q0,q1⟩:=(hSw.blk 0 rfl).c2;go_simp;(try with_reducible rfl));(try simp only [Act.put,lay]);refine tk 5 ?_ (hv:=by intro W2 hSw;obtain⟨q0,q1⟩:=(hSw.blk 1 rfl).c2;go_simp;(try with_reducible rfl));(try simp only [Act.put,lay]);refine rdy 2 (fun KK hKK=>?_);go_simp;refine (R3.out _).mono ?_;rintro e wk ⟨rfl,hbR3⟩;go_wp2_with fail;refine hKK.out _ _ (hHeld.keep hbR3) (fun _=>?_);clear hKK KK hHeld;rename_i hHeld;(try simp only [Act.put,lay]);clear hbR3;refine rdy 3 (fun KK hKK=>?_);go_simp;refine (O3.out _).mono ?_;rintro e wk ⟨rfl,hbO3⟩;go_wp2_with fail;refine hKK.out _ _ (hHeld.keep hbO3) (fun _=>?_);clear hKK KK hHeld;rename_i hHeld;(try simp only [Act.put,lay]);clear hbO3;refine rdy 6 (fun KK hKK=>?_);go_simp;refine (S3.out _).mono ?_;rintro e wk ⟨rfl,hbS3⟩;go_wp2_with fail;refine hKK.out _ _ (hHeld.keep hbS3) (fun _=>?_);clear hKK KK hHeld;rename_i hHeld;(try simp only [Act.put,lay]);clear hbS3;refine tk 7 ?_;(try simp only [Act.put,lay]);refine tk 8 ?_;(try simp only [Act.put,lay]);refine tk 9 ?_ (hv:=by intro W2 hSw;obtain⟨q0,q1⟩:=(hSw.blk 2 rfl).c2;go_simp;(try with_reducible rfl));(try simp only [Act.put,lay]);refine tk 10 ?_ (hv:=by intro W2 hSw;obtain⟨q0,q1⟩:=(hSw.blk 3 rfl).c2;go_simp;(try with_reducible rfl));(try simp only [Act.put,lay]);refine tk 13 ?_ (hv:=by intro W2 hSw;obtain⟨q0,q1⟩:=(hSw.blk 0 rfl).c2;go_simp;(try with_reducible rfl));(try simp only [Act.put,lay]);refine tk 14 ?_ (hv:=by intro W2 hSw;obtain⟨q0,q1⟩:=(hSw.blk 1 rfl).c2;go_simp;(try with_reducible rfl))
 (try simp only [Act.put,lay]);refine rdy 11 (fun KK hKK=>?_);go_simp;refine (R4.out _).mono ?_;rintro e wk ⟨rfl,hbR4⟩;go_wp2_with fail;refine hKK.out _ _ (hHeld.keep hbR4) (fun _=>?_);clear hKK KK hHeld;rename_i hHeld;(try simp only [Act.put,lay]);clear hbR4;refine rdy 12 (fun KK hKK=>?_);go_simp;refine (O4.out _).mono ?_;rintro e wk ⟨rfl,hbO4⟩;go_wp2_with fail;refine hKK.out _ _ (hHeld.keep hbO4) (fun _=>?_);clear hKK KK hHeld;rename_i hHeld;(try simp only [Act.put,lay]);clear hbO4;refine rdy 15 (fun KK hKK=>?_);go_simp;refine (S4.out _).mono ?_;rintro e wk ⟨rfl,hbS4⟩;go_wp2_with fail;refine hKK.out _ _ (hHeld.keep hbS4) (fun _=>?_);clear hKK KK hHeld;rename_i hHeld;(try simp only [Act.put,lay]);clear hbS4;refine tk 16 ?_;(try simp only [Act.put,lay]);refine tk 17 ?_;(try simp only [Act.put,lay]);refine tk 18 ?_;(try simp only [Act.put,lay]);refine tk 19 ?_ (hv:=by intro W2 hSw;obtain⟨q0,q1⟩:=(hSw.blk 2 rfl).c2;go_simp;(try with_reducible rfl));(try simp only [Act.put,lay]);refine tk 20 ?_ (hv:=by intro W2 hSw;obtain⟨q0,q1⟩:=(hSw.blk 3 rfl).c2;go_simp;(try with_reducible rfl));(try simp only [Act.put,lay]);refine tk 23 ?_ (hv:=by intro W2 hSw;obtain⟨q0,q1⟩:=(hSw.blk 0 rfl).c2;go_simp;(try with_reducible rfl));(try simp only [Act.put,lay]);refine tk 24 ?_ (hv:=by intro W2 hSw;obtain⟨q0,q1⟩:=(hSw.blk 1 rfl).c2;go_simp;(try with_reducible rfl));(try simp only [Act.put,lay]);refine rdy 21 (fun KK hKK=>?_);go_simp;refine (R5.out _).mono ?_;rintro e wk ⟨rfl,hbR5⟩;go_wp2_with fail;refine hKK.out _ _ (hHeld.keep hbR5) (fun _=>?_)
 clear hKK KK hHeld;rename_i hHeld;(try simp only [Act.put,lay]);clear hbR5;refine rdy 22 (fun KK hKK=>?_);go_simp;refine (O5.out _).mono ?_;rintro e wk ⟨rfl,hbO5⟩;go_wp2_with fail;refine hKK.out _ _ (hHeld.keep hbO5) (fun _=>?_);clear hKK KK hHeld;rename_i hHeld;(try simp only [Act.put,lay]);clear hbO5;refine rdy 25 (fun KK hKK=>?_);go_simp;refine (S5.out _).mono ?_;rintro e wk ⟨rfl,hbS5⟩;go_wp2_with fail;refine hKK.out _ _ (hHeld.keep hbS5) (fun _=>?_);clear hKK KK hHeld;rename_i hHeld;(try simp only [Act.put,lay]);clear hbS5;refine tk 26 ?_;(try simp only [Act.put,lay]);refine tk 27 ?_;(try simp only [Act.put,lay]);refine tk 28 ?_;(try simp only [Act.put,lay]);refine wpAnyH_done (by kernel_rfl) ?_ _;have LL:=Hd hHeld;clear hHeld;have LB:=LL.out.b;clear LL R3 O3 S3 R4 O4 S4 R5 O5 S5 I1 I2;go_wp2
 go_ret
 exact⟨rfl,LB⟩
end Go.Proofs.YtfcpabgampebaaaGreat
