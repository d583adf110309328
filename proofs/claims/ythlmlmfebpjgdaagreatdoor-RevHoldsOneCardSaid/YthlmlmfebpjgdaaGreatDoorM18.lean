/-
Lemmas for the statement: PwnI ClR StepJ StepF ClosT StepsT StepT FloorP FlooT Step2T Step3T.
-/
import Derived.Test.YthlmlmfebpjgdaaGreatDoorM16
import Derived.Test.YthlmlmfebpjgdaaGreatDoorM17
import Derived.Test.YthlmlmfebpjgdaaGreatDoorM15
import Derived.Test.YthlmlmfebpjgdaaGreatDoorM14
import Derived.Test.YthlmlmfebpjgdaaGreatDoorM09
import Derived.Test.YthlmlmfebpjgdaaGreatDoorM10
import Derived.Test.YthlmlmfebpjgdaaGreatDoorM13
import Derived.Test.YthlmlmfebpjgdaaGreatDoorM04
import Derived.Deep.DeepCutAuto
import Derived.Test.YthlmlmfebpjgdaaGreatDoorM11
import Derived.Test.YthlmlmfebpjgdaaGreatDoorM05
import Derived.Laws.Externs
import Derived.Shelf.Abstract
set_option linter.unusedSimpArgs false
set_option linter.unusedVariables false
set_option maxHeartbeats 12800000
set_option maxRecDepth 8000
namespace Go.Proofs.YthlmlmfebpjgdaaGreatDoor
open Go.Proofs.Tryz
open Go.RowKit
noncomputable def pwz(z:Int)(i2 j2 i j:Int):Int × Int:=
 if z < -1024\/1024<z then (i,j)
 else if j2<i2\/j<i then ((M:Int),-(M:Int))
 else if z=0 then (if i2<=4607182418800017408/\4607182418800017408<=j2 then (i,j) else ((M:Int),-(M:Int)))
 else if z<0 then (if z % 2=0/\j2<0 then ((M:Int),-(M:Int)) else blw z.natAbs i2 j2 i j)
 else pwr z.natAbs i2 j2 i j
theorem order_oneI{i:Int}(h:-(M:Int)<=i/\i<=M):FloatKind.f64.format.order (pat i) 4607182418800017408=some (compare i 4607182418800017408):=by
 have hM:=M_val;have o:=order_pat (i:=i) (j:=4607182418800017408) h.1 h.2 (by omega) (by omega)
 rwa [show pat 4607182418800017408=4607182418800017408 from pat_nn (by omega)] at o
theorem pownz_any(z:Int)(c1 c2 x y:Nat)(w:World)(hc1:L64 c1)(hc2:L64 c2)(hx:L64 x)(hy:L64 y)(hT:Tab w):
  Rt 39 #[.int .i64 z,Zf c1 c2,Zf x y] (Zf (pat (pwz z (rd c1 c2).1 (rd c1 c2).2 (rd x y).1 (rd x y).2).1) (pat (pwz z (rd c1 c2).1 (rd c1 c2).2 (rd x y).1 (rd x y).2).2)) w:=by
 have hM:=M_val
 by_cases zp:0<z/\z<=1024
 ·obtain⟨n,rfl⟩:∃ n:Nat,z=(n:Int):=⟨z.toNat,by omega⟩
  have h:=pown_any n c1 c2 x y w (by omega) (by omega) hc1 hc2 hx hy
  have e:pwz (n:Int) (rd c1 c2).1 (rd c1 c2).2 (rd x y).1 (rd x y).2=pwr n (rd c1 c2).1 (rd c1 c2).2 (rd x y).1 (rd x y).2:=by
   unfold pwz;rw [if_neg (by omega),if_neg (show ¬ (n:Int)=0 by omega),if_neg (show ¬ (n:Int)<0 by omega),Int.natAbs_natCast]
   by_cases k:(rd c1 c2).2<(rd c1 c2).1\/(rd x y).2<(rd x y).1
   ·rw [if_pos k];unfold pwr;rw [if_pos (by omega)]
   ·rw [if_neg k]
  rw [e]
  exact h
 have v2:=rd_iv c1 c2;have v3:=rd_iv x y;have t2:=fun W=>readf c1 c2 W hc1 hc2;have t3:=fun W=>readf x y W hx hy
 obtain⟨⟨i2,j2⟩,r2⟩:∃ z,rd c1 c2=z:=⟨_,rfl⟩
 obtain⟨⟨i3,j3⟩,r3⟩:∃ z,rd x y=z:=⟨_,rfl⟩
 rw [r2] at v2 t2;rw [r3] at v3 t3;rw [r2,r3]
 dsimp only at *
 have m2:=em_idx v2;have m3:=em_idx v3;unfold pwz
 by_cases far:z < -1024\/1024<z
 ·rw [if_pos far]
  rcases far with h | h
  ·exact pownz_lo z _ _ _ _ _ _ w h t3
  ·exact pownz_hi z _ _ _ _ _ _ w h t3
 rw [if_neg far]
 by_cases hno:j2<i2\/j3<i3
 ·rw [if_pos hno,pat_max,pat_min]
  exact pownz_none z _ _ _ _ _ _ _ _ _ _ w t2 m2 t3 m3 (by omega) (by omega) (by simp;omega)
 rw [if_neg hno]
 have hnn:(decide (j2<i2) || decide (j3<i3))=false:=by simp;omega
 have k2:=ne_or v2 (by omega);have k3:=ne_or v3 (by omega);unfold Ne at k2 k3
 by_cases z0:z=0
 ·subst z0;rw [if_pos rfl];have o1:=order_oneI (i:=i2) v2.lo;have o2:=order_oneI (i:=j2) v2.hi
  by_cases k:i2<=4607182418800017408/\4607182418800017408<=j2
  ·rw [if_pos k];refine pownz_in _ _ _ _ _ _ _ _ _ _ _ _ w t2 m2 t3 m3 hnn o1 o2 ?_ ?_
   ·rcases Int.lt_or_eq_of_le k.1 with h | h
    ·exact .inl (Int.compare_eq_lt.2 h)
    ·exact .inr (Int.compare_eq_eq.2 h)
   ·rcases Int.lt_or_eq_of_le k.2 with h | h
    ·exact .inl (Int.compare_eq_gt.2 h)
    ·exact .inr (Int.compare_eq_eq.2 h.symm)
  ·rw [if_neg k,pat_max,pat_min];refine pownz_out _ _ _ _ _ _ _ _ _ _ _ _ w t2 m2 t3 m3 hnn o1 o2 ?_
   rcases Int.lt_trichotomy i2 4607182418800017408 with h | h | h
   ·exact .inr (.inl ⟨Int.compare_eq_lt.2 h,Int.compare_eq_lt.2 (by omega)⟩)
   ·exact .inr (.inr ⟨Int.compare_eq_eq.2 h,Int.compare_eq_lt.2 (by omega)⟩)
   ·exact .inl (Int.compare_eq_gt.2 h)
 rw [if_neg z0,if_pos (show z<0 by omega)]
 obtain⟨n,rfl⟩:∃ n:Nat,z=-(n:Int):=⟨z.natAbs,by omega⟩
 have en:(-(n:Int)).natAbs=n:=by omega
 rw [en];have hB:=fun W (t:Tab W)=>below_any n i2 j2 i3 j3 W (by omega) (by omega) (by omega) (by omega) t
 rcases Nat.mod_two_eq_zero_or_one n with hp | hp
 ·by_cases h0:j2<0
  ·rw [if_pos (by omega),pat_max,pat_min]
   exact pownz_neg n _ _ _ _ _ _ _ _ _ _ w t2 m2 t3 m3 (by omega) (by omega) hp hnn (ord0_lt v2.hi h0)
  ·rw [if_neg (by omega)]
   exact pownz_even n _ _ _ _ _ _ _ _ _ _ (compare j2 0) _ _ w t2 m2 t3 m3 (by omega) (by omega) hp hnn (ord0 v2.hi) (by
    by_cases h:j2=0
    ·exact .inl (Int.compare_eq_eq.2 h)
    ·exact .inr (Int.compare_eq_gt.2 (by omega))) hB hT
 ·rw [if_neg (by omega)]
  exact pownz_odd n _ _ _ _ _ _ _ _ _ _ _ _ w t2 m2 t3 m3 (by omega) (by omega) hp hnn hB hT
theorem ctO_false(i j pd pu qd qu:Int):ctO false i j pd pu qd qu=ct i j pd pu qd qu:=by
 unfold ctO ct
 split
 ·rfl
 ·rw [if_neg (by rintro⟨h,-⟩;cases h)]
def FL(w:Nat)(i:Int):Int:=dn (es i) (bL w (ex i).floor)
def TU(w:Nat)(i:Int):Int:=up (es i) (bU w (ex i).floor)
def stq(w:Nat)(c x:Int × Int):Int × Int:=stp (wh w) (FL w) (TU w) c x
theorem FLc(w:Nat){i:Int}(h0:-(M:Int)<=i)(h1:i<M):(wh 2 i=-(M:Int)/\FL w (wh 2 i)=-(M:Int))\/(fl (wh 2 i)=((fl i).ceil:Rat)/\-(M:Int)<wh 2 i/\wh 2 i<M/\FL w (wh 2 i)=rndI (-1) (bL w (fl i).ceil)):=by
 have hM:=M_val
 by_cases h:i=-(M:Int)
 ·subst h
  left
  rw [wh_min];refine⟨rfl,?_⟩;unfold FL dn;rw [es_min,if_neg (by omega)];omega
 ·right
  obtain⟨b1,b2,b3⟩:=wh_fin (w:=2) (by omega) (i:=i) (by omega) h1;refine⟨b1,b2,b3,?_⟩;unfold FL;rw [es_mid b2 b3,ex_mid b2 b3,b1,Rat.floor_intCast];rfl
theorem TUc(w:Nat){i:Int}(h0:-(M:Int)<i)(h1:i<=M):(wh 1 i=M/\TU w (wh 1 i)=M)\/(fl (wh 1 i)=((fl i).floor:Rat)/\-(M:Int)<wh 1 i/\wh 1 i<M/\TU w (wh 1 i)=rndI 1 (bU w (fl i).floor)):=by
 have hM:=M_val
 by_cases h:i=M
 ·subst h
  left
  rw [wh_max];refine⟨rfl,?_⟩;unfold TU up;rw [es_max,if_neg (by omega)];omega
 ·right
  obtain⟨b1,b2,b3⟩:=wh_fin (w:=1) (by omega) (i:=i) h0 (by omega);refine⟨b1,b2,b3,?_⟩;unfold TU;rw [es_mid b2 b3,ex_mid b2 b3,b1,Rat.floor_intCast];rfl
theorem FL_rng(w:Nat){i:Int}(h0:-(M:Int)<=i)(h1:i<M):-(M:Int)<=FL w (wh 2 i)/\FL w (wh 2 i)<=M:=by
 have hM:=M_val
 rcases FLc w h0 h1 with ⟨-,h⟩ | ⟨-,-,-,h⟩
 ·omega
 ·have:=rndI_down (bL w (fl i).ceil);omega
theorem TU_rng(w:Nat){i:Int}(h0:-(M:Int)<i)(h1:i<=M):-(M:Int)<=TU w (wh 1 i)/\TU w (wh 1 i)<=M:=by
 have hM:=M_val
 rcases TUc w h0 h1 with ⟨-,h⟩ | ⟨-,-,-,h⟩
 ·omega
 ·have:=rndI_up (bU w (fl i).floor);omega
theorem step_up{w:Nat}(hw:1<=w){cj i s2:Int}{x2:Rat}{o2:Bool}(hc:-(M:Int)<cj/\cj<=M)(hi:-(M:Int)<=i/\i<M)
  (h2:s2=1/\cj=M\/s2=0/\cj<M/\x2=bU w (fl cj).floor/\o2=oU w (fl cj).floor):
  (0<ec (es i) (ex i) s2 x2\/(ec (es i) (ex i) s2 x2=0/\o2=true))↔wh 1 cj<wh w i:=by
 have hM:=M_val
 rcases h2 with ⟨rfl,rfl⟩ | ⟨rfl,h2,rfl,rfl⟩
 ·have h1:es i<1:=by unfold es;split<;>(try split)<;>omega
  rw [ec_lt _ _ h1,wh_max];have:=wh_rng hw (i:=i) (by omega)
  omega
 ·obtain⟨b1,b2,b3⟩:=wh_fin (w:=1) (Nat.le_refl _) hc.1 h2
  by_cases h0:i=-(M:Int)
  ·subst h0;rw [es_min,ec_lt _ _ (by omega),wh_min]
   omega
  ·rw [es_mid (by omega) hi.2,ec_zero,ex_mid (by omega) hi.2,rc_pos_iff,rc_zero_iff,<- Int.not_le];have k:=rK_le hw (fl cj).floor (fl i)
   have e:wh w i<=wh 1 cj↔rK w (fl i)<=(fl cj).floor:=by
    rw [<- fl_le_iff,b1,(wh_fin hw (i:=i) (by omega) hi.2).1,Rat.intCast_le_intCast]
    exact Iff.rfl
   rw [e,k]
   cases oU w (fl cj).floor
   ·constructor
    ·rintro (h | ⟨-,h⟩) (h' | ⟨h',-⟩)
     ·grind
     ·grind
     ·cases h
     ·cases h
    ·intro h
     by_cases c:bU w (fl cj).floor<fl i
     ·exact .inl c
     ·exfalso;apply h
      by_cases c':fl i=bU w (fl cj).floor
      ·exact .inr ⟨c',rfl⟩
      ·exact .inl (by grind)
   ·constructor
    ·rintro (h | ⟨h,-⟩) (h' | ⟨-,h'⟩)
     ·grind
     ·cases h'
     ·grind
     ·cases h'
    ·intro h
     by_cases c:bU w (fl cj).floor<fl i
     ·exact .inl c
     ·by_cases c':fl i=bU w (fl cj).floor
      ·exact .inr ⟨c',rfl⟩
      ·exact absurd (.inl (by grind)) h
theorem step_lo{w:Nat}(hw:1<=w){ci j s1:Int}{x1:Rat}{o1:Bool}(hc:-(M:Int)<=ci/\ci<M)(hj:-(M:Int)<j/\j<=M)
  (h1:s1=-1/\ci=-(M:Int)\/s1=0/\-(M:Int)<ci/\x1=bL w (fl ci).ceil/\o1=oL w (fl ci).ceil):
  (ec (es j) (ex j) s1 x1<0\/(ec (es j) (ex j) s1 x1=0/\o1=true))↔wh w j<wh 2 ci:=by
 have hM:=M_val
 rcases h1 with ⟨rfl,rfl⟩ | ⟨rfl,h1,rfl,rfl⟩
 ·have h1:-1<es j:=by unfold es;split<;>(try split)<;>omega
  rw [ec_gt _ _ h1,wh_min];have:=wh_rng hw (i:=j) (by omega)
  omega
 ·obtain⟨b1,b2,b3⟩:=wh_fin (w:=2) (by omega) h1 hc.2
  by_cases h0:j=(M:Int)
  ·subst h0;rw [es_max,ec_gt _ _ (by omega),wh_max]
   omega
  ·rw [es_mid (by omega) (by omega),ec_zero,ex_mid (by omega) (by omega),rc_neg_iff,rc_zero_iff,<- Int.not_le];have k:=le_rK hw (fl ci).ceil (fl j)
   have e:wh 2 ci<=wh w j↔(fl ci).ceil<=rK w (fl j):=by
    rw [<- fl_le_iff,b1,(wh_fin hw (i:=j) (by omega) (by omega)).1,Rat.intCast_le_intCast]
    exact Iff.rfl
   rw [e,k]
   cases oL w (fl ci).ceil
   ·constructor
    ·rintro (h | ⟨-,h⟩) (h' | ⟨h',-⟩)
     ·grind
     ·grind
     ·cases h
     ·cases h
    ·intro h
     by_cases c:fl j<bL w (fl ci).ceil
     ·exact .inl c
     ·exfalso;apply h
      by_cases c':fl j=bL w (fl ci).ceil
      ·exact .inr ⟨c',rfl⟩
      ·exact .inl (by grind)
   ·constructor
    ·rintro (h | ⟨h,-⟩) (h' | ⟨-,h'⟩)
     ·grind
     ·cases h'
     ·grind
     ·cases h'
    ·intro h
     by_cases c:fl j<bL w (fl ci).ceil
     ·exact .inl c
     ·by_cases c':fl j=bL w (fl ci).ceil
      ·exact .inr ⟨c',rfl⟩
      ·exact absurd (.inl (by grind)) h
theorem stp_pf{w:Nat}(hw:1<=w){ci cj i j s1 s2:Int}{x1 x2:Rat}{o1 o2:Bool}
  (hc:-(M:Int)<=ci/\ci<=cj/\cj<=M/\ci<M/\-(M:Int)<cj)(hx:-(M:Int)<=i/\i<=j/\j<=M/\i<M/\-(M:Int)<j)
  (h1:s1=-1/\ci=-(M:Int)\/s1=0/\-(M:Int)<ci/\x1=bL w (fl ci).ceil/\o1=oL w (fl ci).ceil)
  (h2:s2=1/\cj=M\/s2=0/\cj<M/\x2=bU w (fl cj).floor/\o2=oU w (fl cj).floor)
  (hne:¬ wh 1 cj<wh 2 ci):stp (wh w) (FL w) (TU w) (ci,cj) (i,j)=pf s1 x1 o1 s2 x2 o2 i j:=by
 have hM:=M_val
 have hs1:s1=0\/s1=-1:=by rcases h1 with h | h<;>omega
 have hs2:s2=0\/s2=1:=by rcases h2 with h | h<;>omega
 have ku:=step_up hw (i:=i) ⟨hc.2.2.2.2,hc.2.2.1⟩ ⟨hx.1,hx.2.2.2.1⟩ h2;have kl:=step_lo hw (j:=j) ⟨hc.1,hc.2.2.2.1⟩ ⟨hx.2.2.2.2,hx.2.2.1⟩ h1
 have eF:FL w (wh 2 ci)=dn s1 x1:=by
  unfold FL
  rcases h1 with ⟨rfl,rfl⟩ | ⟨rfl,h1,rfl,-⟩
  ·rw [wh_min,es_min];unfold dn;rw [if_neg (by omega),if_neg (by omega)]
  ·obtain⟨b1,b2,b3⟩:=wh_fin (w:=2) (by omega) h1 hc.2.2.2.1;rw [es_mid b2 b3,ex_mid b2 b3,b1,Rat.floor_intCast];rfl
 have eT:TU w (wh 1 cj)=up s2 x2:=by
  unfold TU
  rcases h2 with ⟨rfl,rfl⟩ | ⟨rfl,h2,rfl,-⟩
  ·rw [wh_max,es_max];unfold up;rw [if_neg (by omega),if_neg (by omega)]
  ·obtain⟨b1,b2,b3⟩:=wh_fin (w:=1) (by omega) hc.2.2.2.2 h2;rw [es_mid b2 b3,ex_mid b2 b3,b1,Rat.floor_intCast];rfl
 unfold stp pf wg
 dsimp only
 rw [if_neg (show ¬ j<i by omega),if_neg (show ¬ (cj<ci\/j<i) by omega),ec_lo_at (by omega) hs1,ec_hi_at (by omega) hs2,eF,eT]
 by_cases h:wh 1 cj<wh w i\/wh w j<wh 2 ci
 ·rw [if_pos (.inr h),if_pos]
  rcases h with h | h
  ·rcases ku.2 h with h | h
   ·exact .inl h
   ·exact .inr (.inl h)
  ·rcases kl.2 h with h | h
   ·exact .inr (.inr (.inl h))
   ·exact .inr (.inr (.inr h))
 ·rw [if_neg (fun k=>k.elim hne h),if_neg];rintro (k | k | k | k)
  ·exact h (.inl (ku.1 (.inl k)))
  ·exact h (.inl (ku.1 (.inr k)))
  ·exact h (.inr (kl.1 (.inl k)))
  ·exact h (.inr (kl.1 (.inr k)))
section
attribute [local go_sem] run_store_float run_negf
theorem itself_any(b:Nat)(w:World):Rt 126 #[.float .f64 b] (.float .f64 b) w:=by
 go_enter func126,ntmps126
 go_wp2
 go_ret
 exact⟨rfl,Below.refl _ _⟩
theorem ahead_any(b:Nat)(w:World):Calls prog 129 #[.float .f64 b] w fun e w'=>e=.returned (.func (.func 197) #[] #[.pointer (some ⟨w.heap.size,0,none⟩)])/\w'=w.alloc (.cells #[.float .f64 b] 26):=by
 have hmf:∀ (fn:Fn) (first cap:Array Value) (w:World),(Instr.makeFunc fn first cap).run prog w=.ok (.func fn first cap) w:=fun _ _ _ _=>rfl
 go_enter func129,ntmps129
 go_wp2
 go_ret
 exact⟨rfl,rfl⟩
theorem behind_any(b:Nat)(w:World):Calls prog 127 #[.float .f64 b] w fun e w'=>e=.returned (.func (.func 194) #[] #[.pointer (some ⟨w.heap.size,0,none⟩)])/\w'=w.alloc (.cells #[.float .f64 b] 26):=by
 have hmf:∀ (fn:Fn) (first cap:Array Value) (w:World),(Instr.makeFunc fn first cap).run prog w=.ok (.func fn first cap) w:=fun _ _ _ _=>rfl
 go_enter func127,ntmps127
 go_wp2
 go_ret
 exact⟨rfl,rfl⟩
theorem side_any(b:Nat)(w:World):Calls prog 122 #[.float .f64 b] w fun e w'=>e=.returned (.func (.func 123) #[] #[.pointer (some ⟨w.heap.size,0,none⟩)])/\w'=w.alloc (.cells #[.float .f64 b] 26):=by
 have hmf:∀ (fn:Fn) (first cap:Array Value) (w:World),(Instr.makeFunc fn first cap).run prog w=.ok (.func fn first cap) w:=fun _ _ _ _=>rfl
 go_enter func122,ntmps122
 go_wp2
 go_ret
 exact⟨rfl,rfl⟩
theorem ahead1(k by_ r B:Nat)(w:World)(hB:w.cell? ⟨B,0,none⟩=some (.float .f64 by_))(hs:∀ W,Rt 84 #[.int .i64 (-1),.float .f64 k,.float .f64 by_] (.float .f64 r) W):
  Rt 197 #[.float .f64 k,.pointer (some ⟨B,0,none⟩)] (.float .f64 r) w:=by
 have HS:=Hd hs;clear hs
 go_enter func197,ntmps197
 go_wp2_with fail;refine cx (HS.out _) fun wk hb=>?_;have HB:=Hd hb;clear hb hB;go_wp2
 go_ret
 exact⟨rfl,HB.out⟩
theorem behind1(k by_ r B:Nat)(w:World)(hB:w.cell? ⟨B,0,none⟩=some (.float .f64 by_))(hs:∀ W,Rt 139 #[.int .i64 1,.float .f64 k,.float .f64 by_] (.float .f64 r) W):
  Rt 194 #[.float .f64 k,.pointer (some ⟨B,0,none⟩)] (.float .f64 r) w:=by
 have HS:=Hd hs;clear hs
 go_enter func194,ntmps194
 go_wp2_with fail;refine cx (HS.out _) fun wk hb=>?_;have HB:=Hd hb;clear hb hB;go_wp2
 go_ret
 exact⟨rfl,HB.out⟩
theorem truncfrom_pos(k:Nat)(w:World)(ho:FloatKind.f64.format.order k 0=some .gt):Rt 130 #[.float .f64 k] (.float .f64 k) w:=by
 go_enter func130,ntmps130
 go_wp2
 go_ret
 exact⟨rfl,Below.refl _ _⟩
theorem truncto_neg(k:Nat)(w:World)(ho:FloatKind.f64.format.order k 0=some .lt):Rt 131 #[.float .f64 k] (.float .f64 k) w:=by
 go_enter func131,ntmps131
 go_wp2
 go_ret
 exact⟨rfl,Below.refl _ _⟩
theorem truncfrom_neg(k r:Nat)(o:Ordering)(w:World)(ho:FloatKind.f64.format.order k 0=some o)(hoo:o=.lt\/o=.eq)(hs:∀ W,Rt 84 #[.int .i64 (-1),.float .f64 k,.float .f64 4607182418800017408] (.float .f64 r) W):
  Rt 130 #[.float .f64 k] (.float .f64 r) w:=by
 have HA:=Hd (ahead_any 4607182418800017408 w);have HB:=Hd (below_alloc w (.cells #[.float .f64 4607182418800017408] 26));have HC:=Hd fun B W (hB:W.cell? ⟨B,0,none⟩=some (.float .f64 4607182418800017408))=>ahead1 k 4607182418800017408 r B W hB hs;clear hs
 rcases hoo with rfl | rfl
 all_goals
  go_enter func130,ntmps130
  go_wp2_with fail;refine HA.out.mono ?_;rintro e wk ⟨rfl,rfl⟩;go_wp2_with fail;refine cx (HC.out _ _ (by simp [World.cell?_alloc_new])) fun wk hb=>?_;have HK:=stB HB hb HB.out.size;clear hb ho;go_wp2
  go_ret
  exact⟨rfl,HK.out⟩
theorem truncto_pos(k r:Nat)(o:Ordering)(w:World)(ho:FloatKind.f64.format.order k 0=some o)(hoo:o=.gt\/o=.eq)(hs:∀ W,Rt 139 #[.int .i64 1,.float .f64 k,.float .f64 4607182418800017408] (.float .f64 r) W):
  Rt 131 #[.float .f64 k] (.float .f64 r) w:=by
 have HA:=Hd (behind_any 4607182418800017408 w);have HB:=Hd (below_alloc w (.cells #[.float .f64 4607182418800017408] 26));have HC:=Hd fun B W (hB:W.cell? ⟨B,0,none⟩=some (.float .f64 4607182418800017408))=>behind1 k 4607182418800017408 r B W hB hs;clear hs
 rcases hoo with rfl | rfl
 all_goals
  go_enter func131,ntmps131
  go_wp2_with fail;refine HA.out.mono ?_;rintro e wk ⟨rfl,rfl⟩;go_wp2_with fail;refine cx (HC.out _ _ (by simp [World.cell?_alloc_new])) fun wk hb=>?_;have HK:=stB HB hb HB.out.size;clear hb ho;go_wp2
  go_ret
  exact⟨rfl,HK.out⟩
theorem sign1(k:Nat)(o:Ordering)(w:World)(ho:FloatKind.f64.format.order k 0=some o):Rt 121 #[.float .f64 k] (.float .f64 (match o with | .gt=>4607182418800017408 | .lt=>13830554455654793216 | .eq=>0)) w:=by
 cases o
 all_goals
  go_enter func121,ntmps121
  go_wp2
  go_ret
  exact⟨rfl,Below.refl _ _⟩
theorem side1_no(k far B:Nat)(w:World)(hB:w.cell? ⟨B,0,none⟩=some (.float .f64 far))(ho:(FloatKind.f64.format.order k far == some Ordering.eq)=false):
  Rt 123 #[.float .f64 k,.pointer (some ⟨B,0,none⟩)] (.float .f64 0) w:=by
 go_enter func123,ntmps123
 go_wp2
 go_ret
 exact⟨rfl,Below.refl _ _⟩
theorem conv_one(w:World):(convert 26 3 (.float .f64 4607182418800017408)).run prog w=.ok (.int .i64 1) w:=by kernel_rfl
theorem conv_neg(w:World):(convert 26 3 (.float .f64 13830554455654793216)).run prog w=.ok (.int .i64 (-1)) w:=by kernel_rfl
theorem side1_up(B:Nat)(w:World)(hB:w.cell? ⟨B,0,none⟩=some (.float .f64 4607182418800017408)):
  Rt 123 #[.float .f64 4607182418800017408,.pointer (some ⟨B,0,none⟩)] (.float .f64 9218868437227405312) w:=by
 have ho:(FloatKind.f64.format.order 4607182418800017408 4607182418800017408 == some Ordering.eq)=true:=by kernel_rfl
 have hc:=conv_one;have HI:=Hd inf_pos
 go_enter func123,ntmps123
 go_wp2_with fail;refine (HI.out _).mono ?_;rintro e wk ⟨rfl,rfl⟩;clear hB;go_wp2
 go_ret
 exact⟨rfl,Below.refl _ _⟩
theorem side1_down(B:Nat)(w:World)(hB:w.cell? ⟨B,0,none⟩=some (.float .f64 13830554455654793216)):
  Rt 123 #[.float .f64 13830554455654793216,.pointer (some ⟨B,0,none⟩)] (.float .f64 18442240474082181120) w:=by
 have ho:(FloatKind.f64.format.order 13830554455654793216 13830554455654793216 == some Ordering.eq)=true:=by kernel_rfl
 have hc:=conv_neg;have HI:=Hd inf_neg
 go_enter func123,ntmps123
 go_wp2_with fail;refine (HI.out _).mono ?_;rintro e wk ⟨rfl,rfl⟩;clear hB;go_wp2
 go_ret
 exact⟨rfl,Below.refl _ _⟩
end
section
attribute [local go_sem] run_store_float run_negf
def Cap(w:World)(B b:Nat):Prop:=w.cell? ⟨B,0,none⟩=some (.float .f64 b)/\B<w.heap.size
theorem Cap.below{w w':World}{B b:Nat}(h:Cap w B b)(hb:Below w.heap.size w w'):Cap w' B b:=⟨(hb.cell (p:=⟨B,0,none⟩) h.2).trans h.1,Nat.lt_of_lt_of_le h.2 hb.size⟩
theorem Cap.new(w:World)(b:Nat):Cap (w.alloc (.cells #[.float .f64 b] 26)) w.heap.size b:=⟨by simp [World.cell?_alloc_new],by simp⟩
theorem ahead_cap(b:Nat)(w:World):Calls prog 129 #[.float .f64 b] w fun e w'=>∃ B,e=.returned (.func (.func 197) #[] #[.pointer (some ⟨B,0,none⟩)])/\Cap w' B b/\Below w.heap.size w w':=
 (ahead_any b w).mono fun _ _ ⟨h,hw⟩=>⟨_,h,hw ▸ Cap.new w b,hw ▸ below_alloc w _⟩
theorem behind_cap(b:Nat)(w:World):Calls prog 127 #[.float .f64 b] w fun e w'=>∃ B,e=.returned (.func (.func 194) #[] #[.pointer (some ⟨B,0,none⟩)])/\Cap w' B b/\Below w.heap.size w w':=
 (behind_any b w).mono fun _ _ ⟨h,hw⟩=>⟨_,h,hw ▸ Cap.new w b,hw ▸ below_alloc w _⟩
theorem side_cap(b:Nat)(w:World):Calls prog 122 #[.float .f64 b] w fun e w'=>∃ B,e=.returned (.func (.func 123) #[] #[.pointer (some ⟨B,0,none⟩)])/\Cap w' B b/\Below w.heap.size w w':=
 (side_any b w).mono fun _ _ ⟨h,hw⟩=>⟨_,h,hw ▸ Cap.new w b,hw ▸ below_alloc w _⟩
theorem floor_walk(b1 b2 c1 c2 r1 r2:Nat)(w:World)(hst:∀ W B0,Cap W B0 4607182418800017408->Rt 124 #[Zf b1 b2,Zf c1 c2,.func (.func 125) #[] #[],.func (.func 126) #[] #[],.func (.func 194) #[] #[.pointer (some ⟨B0,0,none⟩)]] (Zf r1 r2) W):
  Rt 55 #[Zf b1 b2,Zf c1 c2] (Zf r1 r2) w:=by
 have HST:=Hd hst;clear hst;have LL:=li3 w (Zv b1 b2) 28 (Zv c1 c2) 28 (Zv 0 0) 28;have HC0:=Hd (behind_cap 4607182418800017408)
 go_enter func55,ntmps55
 go_upto_region 1 with fail
 replace LL:=Hd (LL.out.loose2 rfl);refine regL LL (fun hHeld=>?_);clear LL;generalize World.drew _=wk at hHeld  ⊢;refine tkb 0 (fun _ h=>(h.blk 0 rfl).c2) ?_;refine tkb 1 (fun _ h=>(h.blk 1 rfl).c2) ?_;refine rdy 2 fun KK hKK=>?_;go_simp;refine (HC0.out _).mono ?_;rintro e wk ⟨B0,rfl,hq0,hb0⟩;go_wp2_with fail;refine hKK.out _ _ (hHeld.keep hb0) (fun _=>?_);clear hKK KK hHeld;rename_i hHeld;(try simp only [Act.put,lay]);have HQ0:=Hd hq0;clear hq0;clear hb0;refine rcs 3 (HST.out _ _ HQ0.out) ?_;clear hHeld;intro wk hb9 hHeld;(try replace HQ0:=Hd (HQ0.out.below hb9));clear hb9;refine rdy 4 fun KK hKK=>?_;obtain⟨ha0,hf0,ha1,hf1⟩:=(hHeld.has 0 rfl).sf2;obtain⟨csx,hbx,-,hcx⟩:=hHeld.has 0 rfl;(try clear HQ0);clear hbx hcx;go_simp;have HS_0:=(hHeld.has 0 rfl).laid [.float .f64 r1,.float .f64 r2] rfl;refine hKK.out _ _ (hHeld.over 0 rfl [.float .f64 r1,.float .f64 r2] rfl rfl (by first | omega | exact hHeld.le_of 0 rfl) (by simp<;>omega) (by simp<;>omega)) (fun _=>?_);clear hKK KK hHeld;rename_i hHeld;(try simp only [Act.put,lay]);refine wpAnyH_done (by kernel_rfl) ?_ _;have LB:=Hd hHeld.b;clear hHeld;obtain⟨hk4_0,hk4_1⟩:=HS_0.c2;clear HS_0
 simp [sets] at hk4_0 hk4_1
 go_wp2;refine bodyPost_ret (v:=Zf r1 r2) (by simp [results,results55,go_sem,hk4_0,hk4_1]) rfl ?_
 exact⟨rfl,LB.out⟩
theorem ceil_walk(b1 b2 c1 c2 r1 r2:Nat)(w:World)(hst:∀ W B0,Cap W B0 4607182418800017408->Rt 124 #[Zf b1 b2,Zf c1 c2,.func (.func 128) #[] #[],.func (.func 197) #[] #[.pointer (some ⟨B0,0,none⟩)],.func (.func 126) #[] #[]] (Zf r1 r2) W):
  Rt 56 #[Zf b1 b2,Zf c1 c2] (Zf r1 r2) w:=by
 have HST:=Hd hst;clear hst;have LL:=li3 w (Zv b1 b2) 28 (Zv c1 c2) 28 (Zv 0 0) 28;have HC0:=Hd (ahead_cap 4607182418800017408)
 go_enter func56,ntmps56
 go_upto_region 1 with fail
 replace LL:=Hd (LL.out.loose2 rfl);refine regL LL (fun hHeld=>?_);clear LL;generalize World.drew _=wk at hHeld  ⊢;refine tkb 0 (fun _ h=>(h.blk 0 rfl).c2) ?_;refine tkb 1 (fun _ h=>(h.blk 1 rfl).c2) ?_;refine rdy 2 fun KK hKK=>?_;go_simp;refine (HC0.out _).mono ?_;rintro e wk ⟨B0,rfl,hq0,hb0⟩;go_wp2_with fail;refine hKK.out _ _ (hHeld.keep hb0) (fun _=>?_);clear hKK KK hHeld;rename_i hHeld;(try simp only [Act.put,lay]);have HQ0:=Hd hq0;clear hq0;clear hb0;refine rcs 3 (HST.out _ _ HQ0.out) ?_;clear hHeld;intro wk hb9 hHeld;(try replace HQ0:=Hd (HQ0.out.below hb9));clear hb9;refine rdy 4 fun KK hKK=>?_;obtain⟨ha0,hf0,ha1,hf1⟩:=(hHeld.has 0 rfl).sf2;obtain⟨csx,hbx,-,hcx⟩:=hHeld.has 0 rfl;(try clear HQ0);clear hbx hcx;go_simp;have HS_0:=(hHeld.has 0 rfl).laid [.float .f64 r1,.float .f64 r2] rfl;refine hKK.out _ _ (hHeld.over 0 rfl [.float .f64 r1,.float .f64 r2] rfl rfl (by first | omega | exact hHeld.le_of 0 rfl) (by simp<;>omega) (by simp<;>omega)) (fun _=>?_);clear hKK KK hHeld;rename_i hHeld;(try simp only [Act.put,lay]);refine wpAnyH_done (by kernel_rfl) ?_ _;have LB:=Hd hHeld.b;clear hHeld;obtain⟨hk4_0,hk4_1⟩:=HS_0.c2;clear HS_0
 simp [sets] at hk4_0 hk4_1
 go_wp2;refine bodyPost_ret (v:=Zf r1 r2) (by simp [results,results56,go_sem,hk4_0,hk4_1]) rfl ?_
 exact⟨rfl,LB.out⟩
theorem trunc_walk(b1 b2 c1 c2 r1 r2:Nat)(w:World)(hst:∀ W,Rt 124 #[Zf b1 b2,Zf c1 c2,.func (.func 132) #[] #[],.func (.func 130) #[] #[],.func (.func 131) #[] #[]] (Zf r1 r2) W):
  Rt 57 #[Zf b1 b2,Zf c1 c2] (Zf r1 r2) w:=by
 have HST:=Hd hst;clear hst;have LL:=li3 w (Zv b1 b2) 28 (Zv c1 c2) 28 (Zv 0 0) 28
 go_enter func57,ntmps57
 obtain⟨q1_0,q1_1⟩:=(LL.out.blk 0 rfl).c2;obtain⟨q2_0,q2_1⟩:=(LL.out.blk 1 rfl).c2;go_wp2_with fail;refine cx (HST.out _) fun wk hb=>?_;replace LL:=stL LL hb;clear hb q1_0 q1_1 q2_0 q2_1;replace LL:=Hd (LL.out.loose2 rfl);obtain⟨ha4_0,hf4_0,ha4_1,hf4_1⟩:=(LL.out.has 0 rfl).sf2;have LF:=Hd (LL.out.wr [.float .f64 r1,.float .f64 r2]);obtain⟨hk4_0,hk4_1⟩:=(LF.out.blk 2 rfl).c2
 simp [sets] at hk4_0 hk4_1
 clear LL;go_wp2;refine bodyPost_ret (v:=Zf r1 r2) (by simp [results,results57,go_sem,hk4_0,hk4_1]) rfl ?_
 exact⟨rfl,LF.out.b⟩
theorem even_walk(b1 b2 c1 c2 r1 r2:Nat)(w:World)(hst:∀ W B0 B1,Cap W B0 4602678819172646912->Cap W B1 4602678819172646912->Rt 124 #[Zf b1 b2,Zf c1 c2,.func (.func 135) #[] #[],.func (.func 197) #[] #[.pointer (some ⟨B0,0,none⟩)],.func (.func 194) #[] #[.pointer (some ⟨B1,0,none⟩)]] (Zf r1 r2) W):
  Rt 59 #[Zf b1 b2,Zf c1 c2] (Zf r1 r2) w:=by
 have HST:=Hd hst;clear hst;have LL:=li3 w (Zv b1 b2) 28 (Zv c1 c2) 28 (Zv 0 0) 28;have HC0:=Hd (ahead_cap 4602678819172646912);have HC1:=Hd (behind_cap 4602678819172646912)
 go_enter func59,ntmps59
 go_upto_region 1 with fail
 replace LL:=Hd (LL.out.loose2 rfl);refine regL LL (fun hHeld=>?_);clear LL;generalize World.drew _=wk at hHeld  ⊢;refine tkb 0 (fun _ h=>(h.blk 0 rfl).c2) ?_;refine tkb 1 (fun _ h=>(h.blk 1 rfl).c2) ?_;refine rdy 2 fun KK hKK=>?_;go_simp;refine (HC0.out _).mono ?_;rintro e wk ⟨B0,rfl,hq0,hb0⟩;go_wp2_with fail;refine hKK.out _ _ (hHeld.keep hb0) (fun _=>?_);clear hKK KK hHeld;rename_i hHeld;(try simp only [Act.put,lay]);(try replace HQ1:=Hd (HQ1.out.below hb0));have HQ0:=Hd hq0;clear hq0;clear hb0;refine rdy 3 fun KK hKK=>?_;go_simp;refine (HC1.out _).mono ?_;rintro e wk ⟨B1,rfl,hq1,hb1⟩;go_wp2_with fail;refine hKK.out _ _ (hHeld.keep hb1) (fun _=>?_);clear hKK KK hHeld;rename_i hHeld;(try simp only [Act.put,lay]);(try replace HQ0:=Hd (HQ0.out.below hb1));have HQ1:=Hd hq1;clear hq1;clear hb1;refine rcs 4 (HST.out _ _ _ HQ0.out HQ1.out) ?_;clear hHeld;intro wk hb9 hHeld;(try replace HQ0:=Hd (HQ0.out.below hb9));(try replace HQ1:=Hd (HQ1.out.below hb9));clear hb9;refine rdy 5 fun KK hKK=>?_;obtain⟨ha0,hf0,ha1,hf1⟩:=(hHeld.has 0 rfl).sf2;obtain⟨csx,hbx,-,hcx⟩:=hHeld.has 0 rfl;(try clear HQ0);(try clear HQ1);clear hbx hcx;go_simp;have HS_0:=(hHeld.has 0 rfl).laid [.float .f64 r1,.float .f64 r2] rfl;refine hKK.out _ _ (hHeld.over 0 rfl [.float .f64 r1,.float .f64 r2] rfl rfl (by first | omega | exact hHeld.le_of 0 rfl) (by simp<;>omega) (by simp<;>omega)) (fun _=>?_);clear hKK KK hHeld;rename_i hHeld;(try simp only [Act.put,lay]);refine wpAnyH_done (by kernel_rfl) ?_ _
 have LB:=Hd hHeld.b;clear hHeld;obtain⟨hk4_0,hk4_1⟩:=HS_0.c2;clear HS_0
 simp [sets] at hk4_0 hk4_1
 go_wp2;refine bodyPost_ret (v:=Zf r1 r2) (by simp [results,results59,go_sem,hk4_0,hk4_1]) rfl ?_
 exact⟨rfl,LB.out⟩
theorem away_walk(b1 b2 c1 c2 r1 r2:Nat)(w:World)(hst:∀ W B0 B1,Cap W B0 4602678819172646912->Cap W B1 4602678819172646912->Rt 124 #[Zf b1 b2,Zf c1 c2,.func (.func 136) #[] #[],.func (.func 197) #[] #[.pointer (some ⟨B0,0,none⟩)],.func (.func 194) #[] #[.pointer (some ⟨B1,0,none⟩)]] (Zf r1 r2) W):
  Rt 60 #[Zf b1 b2,Zf c1 c2] (Zf r1 r2) w:=by
 have HST:=Hd hst;clear hst;have LL:=li3 w (Zv b1 b2) 28 (Zv c1 c2) 28 (Zv 0 0) 28;have HC0:=Hd (ahead_cap 4602678819172646912);have HC1:=Hd (behind_cap 4602678819172646912)
 go_enter func60,ntmps60
 go_upto_region 1 with fail
 replace LL:=Hd (LL.out.loose2 rfl);refine regL LL (fun hHeld=>?_);clear LL;generalize World.drew _=wk at hHeld  ⊢;refine tkb 0 (fun _ h=>(h.blk 0 rfl).c2) ?_;refine tkb 1 (fun _ h=>(h.blk 1 rfl).c2) ?_;refine rdy 2 fun KK hKK=>?_;go_simp;refine (HC0.out _).mono ?_;rintro e wk ⟨B0,rfl,hq0,hb0⟩;go_wp2_with fail;refine hKK.out _ _ (hHeld.keep hb0) (fun _=>?_);clear hKK KK hHeld;rename_i hHeld;(try simp only [Act.put,lay]);(try replace HQ1:=Hd (HQ1.out.below hb0));have HQ0:=Hd hq0;clear hq0;clear hb0;refine rdy 3 fun KK hKK=>?_;go_simp;refine (HC1.out _).mono ?_;rintro e wk ⟨B1,rfl,hq1,hb1⟩;go_wp2_with fail;refine hKK.out _ _ (hHeld.keep hb1) (fun _=>?_);clear hKK KK hHeld;rename_i hHeld;(try simp only [Act.put,lay]);(try replace HQ0:=Hd (HQ0.out.below hb1));have HQ1:=Hd hq1;clear hq1;clear hb1;refine rcs 4 (HST.out _ _ _ HQ0.out HQ1.out) ?_;clear hHeld;intro wk hb9 hHeld;(try replace HQ0:=Hd (HQ0.out.below hb9));(try replace HQ1:=Hd (HQ1.out.below hb9));clear hb9;refine rdy 5 fun KK hKK=>?_;obtain⟨ha0,hf0,ha1,hf1⟩:=(hHeld.has 0 rfl).sf2;obtain⟨csx,hbx,-,hcx⟩:=hHeld.has 0 rfl;(try clear HQ0);(try clear HQ1);clear hbx hcx;go_simp;have HS_0:=(hHeld.has 0 rfl).laid [.float .f64 r1,.float .f64 r2] rfl;refine hKK.out _ _ (hHeld.over 0 rfl [.float .f64 r1,.float .f64 r2] rfl rfl (by first | omega | exact hHeld.le_of 0 rfl) (by simp<;>omega) (by simp<;>omega)) (fun _=>?_);clear hKK KK hHeld;rename_i hHeld;(try simp only [Act.put,lay]);refine wpAnyH_done (by kernel_rfl) ?_ _
 have LB:=Hd hHeld.b;clear hHeld;obtain⟨hk4_0,hk4_1⟩:=HS_0.c2;clear HS_0
 simp [sets] at hk4_0 hk4_1
 go_wp2;refine bodyPost_ret (v:=Zf r1 r2) (by simp [results,results60,go_sem,hk4_0,hk4_1]) rfl ?_
 exact⟨rfl,LB.out⟩
theorem sign_walk(b1 b2 c1 c2 i1 i2 r1 r2:Nat)(w:World)(hi:∀ W,Rt 62 #[Zf b1 b2,Zf 13830554455654793216 4607182418800017408] (Zf i1 i2) W)(hst:∀ W B0 B1,Cap W B0 13830554455654793216->Cap W B1 4607182418800017408->Rt 124 #[Zf i1 i2,Zf c1 c2,.func (.func 121) #[] #[],.func (.func 123) #[] #[.pointer (some ⟨B0,0,none⟩)],.func (.func 123) #[] #[.pointer (some ⟨B1,0,none⟩)]] (Zf r1 r2) W):
  Rt 54 #[Zf b1 b2,Zf c1 c2] (Zf r1 r2) w:=by
 have HI:=Hd hi;have HST:=Hd hst;clear hi hst;have LL:=li3 w (Zv b1 b2) 28 (Zv c1 c2) 28 (Zv 0 0) 28;have HC0:=Hd (side_cap 13830554455654793216);have HC1:=Hd (side_cap 4607182418800017408)
 go_enter func54,ntmps54
 go_upto_region 3 with fail
 replace LL:=Hd (LL.out.loose2 rfl);refine regL LL (fun hHeld=>?_);clear LL;generalize World.drew _=wk at hHeld  ⊢;refine tkb 0 (fun _ h=>(h.blk 0 rfl).c2) ?_;refine tks 1 ?_;refine tkb 3 (fun _ h=>(h.blk 1 rfl).c2) ?_;refine tks 4 ?_;refine tks 5 ?_;refine tks 7 ?_;refine rcs 2 (HI.out _) ?_;clear hHeld;intro wk hb5 hHeld;(try replace HQ0:=Hd (HQ0.out.below hb5));(try replace HQ1:=Hd (HQ1.out.below hb5));clear hb5;refine rdy 6 fun KK hKK=>?_;go_simp;refine (HC0.out _).mono ?_;rintro e wk ⟨B0,rfl,hq0,hb0⟩;go_wp2_with fail;refine hKK.out _ _ (hHeld.keep hb0) (fun _=>?_);clear hKK KK hHeld;rename_i hHeld;(try simp only [Act.put,lay]);(try replace HQ1:=Hd (HQ1.out.below hb0));have HQ0:=Hd hq0;clear hq0;clear hb0;refine rdy 8 fun KK hKK=>?_;go_simp;refine (HC1.out _).mono ?_;rintro e wk ⟨B1,rfl,hq1,hb1⟩;go_wp2_with fail;refine hKK.out _ _ (hHeld.keep hb1) (fun _=>?_);clear hKK KK hHeld;rename_i hHeld;(try simp only [Act.put,lay]);(try replace HQ0:=Hd (HQ0.out.below hb1));have HQ1:=Hd hq1;clear hq1;clear hb1;refine rcs 9 (HST.out _ _ _ HQ0.out HQ1.out) ?_;clear hHeld;intro wk hb9 hHeld;(try replace HQ0:=Hd (HQ0.out.below hb9));(try replace HQ1:=Hd (HQ1.out.below hb9));clear hb9;refine rdy 10 fun KK hKK=>?_;obtain⟨ha0,hf0,ha1,hf1⟩:=(hHeld.has 0 rfl).sf2;obtain⟨csx,hbx,-,hcx⟩:=hHeld.has 0 rfl;(try clear HQ0);(try clear HQ1);clear hbx hcx;go_simp;have HS_0:=(hHeld.has 0 rfl).laid [.float .f64 r1,.float .f64 r2] rfl;refine hKK.out _ _ (hHeld.over 0 rfl [.float .f64 r1,.float .f64 r2] rfl rfl (by first | omega | exact hHeld.le_of 0 rfl) (by simp<;>omega) (by simp<;>omega)) (fun _=>?_)
 clear hKK KK hHeld;rename_i hHeld;(try simp only [Act.put,lay]);refine wpAnyH_done (by kernel_rfl) ?_ _;have LB:=Hd hHeld.b;clear hHeld;obtain⟨hk4_0,hk4_1⟩:=HS_0.c2;clear HS_0
 simp [sets] at hk4_0 hk4_1
 go_wp2;refine bodyPost_ret (v:=Zf r1 r2) (by simp [results,results54,go_sem,hk4_0,hk4_1]) rfl ?_
 exact⟨rfl,LB.out⟩
end
section
attribute [local go_sem] run_store_float run_negf
theorem step_none(kV kF kT:FuncId)(cF cT:Array Value)(b1 b2 c1 c2 A1 A2 x1 x2:Nat)(d1 d2:Bool)(w:World)(t1:∀ W,Rt 102 #[Zf b1 b2] (Zf A1 A2) W)(m1:Em d1 A1 A2)(t2:∀ W,Rt 102 #[Zf c1 c2] (Zf x1 x2) W)(m2:Em d2 x1 x2)(hnn:(d1 || d2)=true):
  Rt 124 #[Zf b1 b2,Zf c1 c2,.func (.func kV) #[] #[],.func (.func kF) #[] cF,.func (.func kT) #[] cT] (Zf 9218868437227405312 18442240474082181120) w:=by
 have HE:=Hd emptyf;have HRD:=readL32 w (Zv 0 0) 28 t1 m1 t2 m2 hnn;clear t1 m1 t2 m2 hnn
 go_enter func124,ntmps124
 go_wp2_with fail;refine HRD.out.mono ?_;rintro e wk ⟨rfl,hl⟩;have LL:=Hd hl;clear hl HRD;go_wp2_with fail;refine cx (HE.out _) fun wk hb=>?_;replace LL:=stL LL hb;clear hb;replace LL:=Hd (LL.out.loose2 rfl);obtain⟨ha10_0,hf10_0,ha10_1,hf10_1⟩:=(LL.out.has 0 rfl).sf2;have LF:=Hd (LL.out.wr [.float .f64 9218868437227405312,.float .f64 18442240474082181120]);obtain⟨hk10_0,hk10_1⟩:=(LF.out.blk 2 rfl).c2
 simp [sets] at hk10_0 hk10_1
 clear LL;go_wp2;refine bodyPost_ret (v:=Zf 9218868437227405312 18442240474082181120) (by simp [results,results124,go_sem,hk10_0,hk10_1]) rfl ?_
 exact⟨rfl,LF.out.b⟩
theorem step_far(kV kF kT:FuncId)(cF cT:Array Value)(b1 b2 c1 c2 A1 A2 x1 x2 u1 u2 p q:Nat)(d1 d2:Bool)(w:World)(t1:∀ W,Rt 102 #[Zf b1 b2] (Zf A1 A2) W)(m1:Em d1 A1 A2)(t2:∀ W,Rt 102 #[Zf c1 c2] (Zf x1 x2) W)(m2:Em d2 x1 x2)(hnn:(d1 || d2)=false)(hc:∀ W,Rt 128 #[.float .f64 A1] (.float .f64 u1) W)(hp1:∀ W,Rt 191 #[.float .f64 u1] (.float .f64 p) W)(hf:∀ W,Rt 125 #[.float .f64 A2] (.float .f64 u2) W)(hp2:∀ W,Rt 191 #[.float .f64 u2] (.float .f64 q) W)(ho:FloatKind.f64.format.order p q=some .gt):
  Rt 124 #[Zf b1 b2,Zf c1 c2,.func (.func kV) #[] #[],.func (.func kF) #[] cF,.func (.func kT) #[] cT] (Zf 9218868437227405312 18442240474082181120) w:=by
 have HE:=Hd emptyf;have HC:=Hd hc;have HP1:=Hd hp1;have HF:=Hd hf;have HP2:=Hd hp2;clear hc hp1 hf hp2;have HRD:=readL32 w (Zv 0 0) 28 t1 m1 t2 m2 hnn;clear t1 m1 t2 m2 hnn
 go_enter func124,ntmps124
 go_wp2_with fail;refine HRD.out.mono ?_;rintro e wk ⟨rfl,hl⟩;have LL:=Hd hl;clear hl HRD
 go_upto_region 3 with fail
 refine regL LL (fun hHeld=>?_);clear LL;generalize World.drew _=wk at hHeld  ⊢;refine tks 0 ?_;refine tkb 1 (fun _ h=>(h.blk 0 rfl).c2) ?_;refine tks 4 ?_;refine tkb 5 (fun _ h=>(h.blk 0 rfl).c2) ?_;refine rcs 2 (HC.out _) ?_;clear hHeld;intro wk hb1 hHeld;clear hb1;refine rcs 3 (HP1.out _) ?_;clear hHeld;intro wk hb2 hHeld;clear hb2;refine rcs 6 (HF.out _) ?_;clear hHeld;intro wk hb3 hHeld;clear hb3;refine rcs 7 (HP2.out _) ?_;clear hHeld;intro wk hb4 hHeld;clear hb4;refine tks 8 ?_;refine tks 9 ?_;refine wpAnyH_done (by kernel_rfl) ?_ _;have LL:=Hd hHeld;clear hHeld;go_wp2_with fail;refine cx (HE.out _) fun wk hb=>?_;replace LL:=stL LL hb;clear hb ho;replace LL:=Hd (LL.out.loose2 rfl);obtain⟨ha10_0,hf10_0,ha10_1,hf10_1⟩:=(LL.out.has 0 rfl).sf2;have LF:=Hd (LL.out.wr [.float .f64 9218868437227405312,.float .f64 18442240474082181120]);obtain⟨hk10_0,hk10_1⟩:=(LF.out.blk 2 rfl).c2
 simp [sets] at hk10_0 hk10_1
 clear LL;go_wp2;refine bodyPost_ret (v:=Zf 9218868437227405312 18442240474082181120) (by simp [results,results124,go_sem,hk10_0,hk10_1]) rfl ?_
 exact⟨rfl,LF.out.b⟩
theorem step_low(kV kF kT:FuncId)(cF cT:Array Value)(eV:∀ (args:Array Value) (W:World),(callFunc kV args).run prog W=.ok (.enter kV args) W)(b1 b2 c1 c2 A1 A2 x1 x2 u1 u2 p q:Nat)(d1 d2:Bool)(w:World)(t1:∀ W,Rt 102 #[Zf b1 b2] (Zf A1 A2) W)(m1:Em d1 A1 A2)(t2:∀ W,Rt 102 #[Zf c1 c2] (Zf x1 x2) W)(m2:Em d2 x1 x2)(hnn:(d1 || d2)=false)(hc:∀ W,Rt 128 #[.float .f64 A1] (.float .f64 u1) W)(hp1:∀ W,Rt 191 #[.float .f64 u1] (.float .f64 p) W)(hf:∀ W,Rt 125 #[.float .f64 A2] (.float .f64 u2) W)(hp2:∀ W,Rt 191 #[.float .f64 u2] (.float .f64 q) W)(v1:Nat)(ho:(FloatKind.f64.format.order p q == some Ordering.gt)=false)(hv1:∀ W,Below w.heap.size w W->Calls prog kV #[.float .f64 x1] W fun e w'=>e=.returned (.float .f64 v1)/\Below W.heap.size W w')(ho2:FloatKind.f64.format.order v1 q=some .gt):
  Rt 124 #[Zf b1 b2,Zf c1 c2,.func (.func kV) #[] #[],.func (.func kF) #[] cF,.func (.func kT) #[] cT] (Zf 9218868437227405312 18442240474082181120) w:=by
 have HE:=Hd emptyf;have HC:=Hd hc;have HP1:=Hd hp1;have HF:=Hd hf;have HP2:=Hd hp2;have HV1:=Hd hv1;clear hc hp1 hf hp2 hv1;have HRD:=readL32 w (Zv 0 0) 28 t1 m1 t2 m2 hnn;clear t1 m1 t2 m2 hnn
 go_enter func124,ntmps124
 go_wp2_with fail;refine HRD.out.mono ?_;rintro e wk ⟨rfl,hl⟩;have LL:=Hd hl;clear hl HRD
 go_upto_region 3 with fail
 refine regL LL (fun hHeld=>?_);clear LL;generalize World.drew _=wk at hHeld  ⊢;refine tks 0 ?_;refine tkb 1 (fun _ h=>(h.blk 0 rfl).c2) ?_;refine tks 4 ?_;refine tkb 5 (fun _ h=>(h.blk 0 rfl).c2) ?_;refine rcs 2 (HC.out _) ?_;clear hHeld;intro wk hb1 hHeld;clear hb1;refine rcs 3 (HP1.out _) ?_;clear hHeld;intro wk hb2 hHeld;clear hb2;refine rcs 6 (HF.out _) ?_;clear hHeld;intro wk hb3 hHeld;clear hb3;refine rcs 7 (HP2.out _) ?_;clear hHeld;intro wk hb4 hHeld;clear hb4;refine tks 8 ?_;refine tks 9 ?_;refine wpAnyH_done (by kernel_rfl) ?_ _;have LL:=Hd hHeld;clear hHeld;obtain⟨q1_0,q1_1⟩:=(LL.out.blk 1 rfl).c2;go_wp2_with fail;refine cx (HV1.out _ LL.out.b) fun wk hb=>?_;replace LL:=stL LL hb;clear hb q1_0 q1_1 ho HV1;go_wp2_with fail;refine cx (HE.out _) fun wk hb=>?_;replace LL:=stL LL hb;clear hb ho2;replace LL:=Hd (LL.out.loose2 rfl);obtain⟨ha10_0,hf10_0,ha10_1,hf10_1⟩:=(LL.out.has 0 rfl).sf2;have LF:=Hd (LL.out.wr [.float .f64 9218868437227405312,.float .f64 18442240474082181120]);obtain⟨hk10_0,hk10_1⟩:=(LF.out.blk 2 rfl).c2
 simp [sets] at hk10_0 hk10_1
 clear LL;go_wp2;refine bodyPost_ret (v:=Zf 9218868437227405312 18442240474082181120) (by simp [results,results124,go_sem,hk10_0,hk10_1]) rfl ?_
 exact⟨rfl,LF.out.b⟩
theorem step_high(kV kF kT:FuncId)(cF cT:Array Value)(eV:∀ (args:Array Value) (W:World),(callFunc kV args).run prog W=.ok (.enter kV args) W)(b1 b2 c1 c2 A1 A2 x1 x2 u1 u2 p q:Nat)(d1 d2:Bool)(w:World)(t1:∀ W,Rt 102 #[Zf b1 b2] (Zf A1 A2) W)(m1:Em d1 A1 A2)(t2:∀ W,Rt 102 #[Zf c1 c2] (Zf x1 x2) W)(m2:Em d2 x1 x2)(hnn:(d1 || d2)=false)(hc:∀ W,Rt 128 #[.float .f64 A1] (.float .f64 u1) W)(hp1:∀ W,Rt 191 #[.float .f64 u1] (.float .f64 p) W)(hf:∀ W,Rt 125 #[.float .f64 A2] (.float .f64 u2) W)(hp2:∀ W,Rt 191 #[.float .f64 u2] (.float .f64 q) W)(v1 v2:Nat)(ho:(FloatKind.f64.format.order p q == some Ordering.gt)=false)(hv1:∀ W,Below w.heap.size w W->Calls prog kV #[.float .f64 x1] W fun e w'=>e=.returned (.float .f64 v1)/\Below W.heap.size W w')(ho2:(FloatKind.f64.format.order v1 q == some Ordering.gt)=false)(hv2:∀ W,Below w.heap.size w W->Calls prog kV #[.float .f64 x2] W fun e w'=>e=.returned (.float .f64 v2)/\Below W.heap.size W w')(ho3:FloatKind.f64.format.order v2 p=some .lt):
  Rt 124 #[Zf b1 b2,Zf c1 c2,.func (.func kV) #[] #[],.func (.func kF) #[] cF,.func (.func kT) #[] cT] (Zf 9218868437227405312 18442240474082181120) w:=by
 have HE:=Hd emptyf;have HC:=Hd hc;have HP1:=Hd hp1;have HF:=Hd hf;have HP2:=Hd hp2;have HV1:=Hd hv1;have HV2:=Hd hv2;clear hc hp1 hf hp2 hv1 hv2;have HRD:=readL32 w (Zv 0 0) 28 t1 m1 t2 m2 hnn;clear t1 m1 t2 m2 hnn
 go_enter func124,ntmps124
 go_wp2_with fail;refine HRD.out.mono ?_;rintro e wk ⟨rfl,hl⟩;have LL:=Hd hl;clear hl HRD
 go_upto_region 3 with fail
 refine regL LL (fun hHeld=>?_);clear LL;generalize World.drew _=wk at hHeld  ⊢;refine tks 0 ?_;refine tkb 1 (fun _ h=>(h.blk 0 rfl).c2) ?_;refine tks 4 ?_;refine tkb 5 (fun _ h=>(h.blk 0 rfl).c2) ?_;refine rcs 2 (HC.out _) ?_;clear hHeld;intro wk hb1 hHeld;clear hb1;refine rcs 3 (HP1.out _) ?_;clear hHeld;intro wk hb2 hHeld;clear hb2;refine rcs 6 (HF.out _) ?_;clear hHeld;intro wk hb3 hHeld;clear hb3;refine rcs 7 (HP2.out _) ?_;clear hHeld;intro wk hb4 hHeld;clear hb4;refine tks 8 ?_;refine tks 9 ?_;refine wpAnyH_done (by kernel_rfl) ?_ _;have LL:=Hd hHeld;clear hHeld;obtain⟨q1_0,q1_1⟩:=(LL.out.blk 1 rfl).c2;go_wp2_with fail;refine cx (HV1.out _ LL.out.b) fun wk hb=>?_;replace LL:=stL LL hb;clear hb q1_0 q1_1 ho HV1;obtain⟨q2_0,q2_1⟩:=(LL.out.blk 1 rfl).c2;go_wp2_with fail;refine cx (HV2.out _ LL.out.b) fun wk hb=>?_;replace LL:=stL LL hb;clear hb q2_0 q2_1 ho2 HV2;go_wp2_with fail;refine cx (HE.out _) fun wk hb=>?_;replace LL:=stL LL hb;clear hb ho3;replace LL:=Hd (LL.out.loose2 rfl);obtain⟨ha10_0,hf10_0,ha10_1,hf10_1⟩:=(LL.out.has 0 rfl).sf2;have LF:=Hd (LL.out.wr [.float .f64 9218868437227405312,.float .f64 18442240474082181120]);obtain⟨hk10_0,hk10_1⟩:=(LF.out.blk 2 rfl).c2
 simp [sets] at hk10_0 hk10_1
 clear LL;go_wp2;refine bodyPost_ret (v:=Zf 9218868437227405312 18442240474082181120) (by simp [results,results124,go_sem,hk10_0,hk10_1]) rfl ?_
 exact⟨rfl,LF.out.b⟩
theorem step_some(kV kF kT:FuncId)(cF cT:Array Value)(eV:∀ (args:Array Value) (W:World),(callFunc kV args).run prog W=.ok (.enter kV args) W)(eF:∀ (args:Array Value) (W:World),(callFunc kF args).run prog W=.ok (.enter kF args) W)(eT:∀ (args:Array Value) (W:World),(callFunc kT args).run prog W=.ok (.enter kT args) W)(b1 b2 c1 c2 A1 A2 x1 x2 u1 u2 p q:Nat)(d1 d2:Bool)(w:World)(t1:∀ W,Rt 102 #[Zf b1 b2] (Zf A1 A2) W)(m1:Em d1 A1 A2)(t2:∀ W,Rt 102 #[Zf c1 c2] (Zf x1 x2) W)(m2:Em d2 x1 x2)(hnn:(d1 || d2)=false)(hc:∀ W,Rt 128 #[.float .f64 A1] (.float .f64 u1) W)(hp1:∀ W,Rt 191 #[.float .f64 u1] (.float .f64 p) W)(hf:∀ W,Rt 125 #[.float .f64 A2] (.float .f64 u2) W)(hp2:∀ W,Rt 191 #[.float .f64 u2] (.float .f64 q) W)(v1 v2 f g r1 r2:Nat)(ho:(FloatKind.f64.format.order p q == some Ordering.gt)=false)(hv1:∀ W,Below w.heap.size w W->Calls prog kV #[.float .f64 x1] W fun e w'=>e=.returned (.float .f64 v1)/\Below W.heap.size W w')(ho2:(FloatKind.f64.format.order v1 q == some Ordering.gt)=false)(hv2:∀ W,Below w.heap.size w W->Calls prog kV #[.float .f64 x2] W fun e w'=>e=.returned (.float .f64 v2)/\Below W.heap.size W w')(ho3:(FloatKind.f64.format.order v2 p == some Ordering.lt)=false)
  (hfr:∀ W,Below w.heap.size w W->Calls prog kF (#[.float .f64 p] ++ cF) W fun e w'=>e=.returned (.float .f64 f)/\Below W.heap.size W w')(hto:∀ W,Below w.heap.size w W->Calls prog kT (#[.float .f64 q] ++ cT) W fun e w'=>e=.returned (.float .f64 g)/\Below W.heap.size W w')(hmx:∀ W ts t,(Builtin.max_ ts t (Zv x1 f)).run prog W=.ok (.float .f64 r1) W)(hmn:∀ W ts t,(Builtin.min_ ts t (Zv x2 g)).run prog W=.ok (.float .f64 r2) W):
  Rt 124 #[Zf b1 b2,Zf c1 c2,.func (.func kV) #[] #[],.func (.func kF) #[] cF,.func (.func kT) #[] cT] (Zf r1 r2) w:=by
 have HC:=Hd hc;have HP1:=Hd hp1;have HF:=Hd hf;have HP2:=Hd hp2;have HV1:=Hd hv1;have HV2:=Hd hv2;have HFR:=Hd hfr;have HTO:=Hd hto;clear hc hp1 hf hp2 hv1 hv2 hfr hto;have HRD:=readL32 w (Zv 0 0) 28 t1 m1 t2 m2 hnn;clear t1 m1 t2 m2 hnn
 go_enter func124,ntmps124
 go_wp2_with fail;refine HRD.out.mono ?_;rintro e wk ⟨rfl,hl⟩;have LL:=Hd hl;clear hl HRD
 go_upto_region 3 with fail
 refine regL LL (fun hHeld=>?_);clear LL;generalize World.drew _=wk at hHeld  ⊢;refine tks 0 ?_;refine tkb 1 (fun _ h=>(h.blk 0 rfl).c2) ?_;refine tks 4 ?_;refine tkb 5 (fun _ h=>(h.blk 0 rfl).c2) ?_;refine rcs 2 (HC.out _) ?_;clear hHeld;intro wk hb1 hHeld;clear hb1;refine rcs 3 (HP1.out _) ?_;clear hHeld;intro wk hb2 hHeld;clear hb2;refine rcs 6 (HF.out _) ?_;clear hHeld;intro wk hb3 hHeld;clear hb3;refine rcs 7 (HP2.out _) ?_;clear hHeld;intro wk hb4 hHeld;clear hb4;refine tks 8 ?_;refine tks 9 ?_;refine wpAnyH_done (by kernel_rfl) ?_ _;have LL:=Hd hHeld;clear hHeld;obtain⟨q1_0,q1_1⟩:=(LL.out.blk 1 rfl).c2;go_wp2_with fail;refine cx (HV1.out _ LL.out.b) fun wk hb=>?_;replace LL:=stL LL hb;clear hb q1_0 q1_1 ho HV1;obtain⟨q2_0,q2_1⟩:=(LL.out.blk 1 rfl).c2;go_wp2_with fail;refine cx (HV2.out _ LL.out.b) fun wk hb=>?_;replace LL:=stL LL hb;clear hb q2_0 q2_1 ho2 HV2
 go_upto_region 6 with fail
 clear ho3;replace LL:=Hd (LL.out.loose2 rfl);refine regL LL (fun hHeld=>?_);clear LL;generalize World.drew _=wk at hHeld  ⊢;refine tks 0 ?_;refine tkb 1 (fun _ h=>(h.blk 1 rfl).c2) ?_;refine tks 2 ?_;refine tks 3 ?_;refine tks 6 ?_;refine tkb 7 (fun _ h=>(h.blk 1 rfl).c2) ?_;refine tks 8 ?_;refine tks 9 ?_
 repeat' first
  | (have hx:=hC4;clear hx;go_simp;refine (HFR.out _ hHeld.b).mono ?_;rintro e wk ⟨rfl,hb1⟩;go_wp2_with fail;refine hC4.out _ _ (hHeld.keep hb1) (fun _=>?_);clear hC4 KK hHeld;rename_i hHeld;(try simp only [Act.put,lay]);clear hb1;have mk4:=True.intro)
  | (have hx:=hR5;clear hx;go_simp;refine hR5.out _ _ hHeld (fun _=>?_);clear hR5 KK hHeld;rename_i hHeld;(try simp only [Act.put,lay]);have mk5:=True.intro)
  | (have hx:=hC10;clear hx;go_simp;refine (HTO.out _ hHeld.b).mono ?_;rintro e wk ⟨rfl,hb2⟩;go_wp2_with fail;refine hC10.out _ _ (hHeld.keep hb2) (fun _=>?_);clear hC10 KK hHeld;rename_i hHeld;(try simp only [Act.put,lay]);clear hb2;have mk10:=True.intro)
  | (have hx:=hR11;clear hx;go_simp;refine hR11.out _ _ hHeld (fun _=>?_);clear hR11 KK hHeld;rename_i hHeld;(try simp only [Act.put,lay]);have mk11:=True.intro)
  | (have hx:=hS13;clear hx;obtain⟨ha0,hf0,ha1,hf1⟩:=(hHeld.has 0 rfl).sf2;go_simp;have HS_0:=(hHeld.has 0 rfl).laid [.float .f64 r1,.float .f64 r2] rfl;refine hS13.out _ _ (hHeld.over 0 rfl [.float .f64 r1,.float .f64 r2] rfl rfl (by first | omega | exact hHeld.le_of 0 rfl) (by simp<;>omega) (by simp<;>omega)) (fun _=>?_);clear hS13 KK hHeld;rename_i hHeld;(try simp only [Act.put,lay]);replace hHeld:=(show Lies _ (sets wk (w.heap.size+2) 0 [.float .f64 r1,.float .f64 r2]) _ _ from hHeld);obtain⟨wk,hwn⟩:∃ X,sets wk (w.heap.size+2) 0 [.float .f64 r1,.float .f64 r2]=X:=⟨_,rfl⟩;rw [hwn] at hHeld HS_0;simp only [sets] at hwn;rw [hwn];clear hwn ha0 hf0 ha1 hf1;have mk13:=True.intro)
  | (have hx:=mk4;have hx:=mk5;have hx:=mk10;have hx:=mk11;have hx:=mk12;have hx:=mk13;refine wpAnyH_done (by kernel_rfl) ?_ _;clear hx mk4 mk5 mk10 mk11 mk12 mk13;have LB:=Hd hHeld.b;clear hHeld;obtain⟨hk0,hk1⟩:=HS_0.c2;clear HS_0;go_wp2;refine bodyPost_ret (v:=Zf r1 r2) (by simp [results,results124,go_sem,hk0,hk1]) rfl ?_;exact⟨rfl,LB.out⟩)
  | (have hx:=mk4;have hx:=mk5;have hx:=mk10;have hx:=mk11;have hx:=mk12;refine rdy 13 (fun KK hS13=>?_))
  | (have hx:=mk4;have hx:=mk5;have hx:=mk10;have hx:=mk11;refine tk 12 ?_;(try simp only [Act.put,lay]);have mk12:=True.intro)
  | (have hx:=mk4;have hx:=mk10;have hx:=mk11;refine rdy 5 (fun KK hR5=>?_))
  | (have hx:=mk4;have hx:=mk5;have hx:=mk10;refine rdy 11 (fun KK hR11=>?_))
  | (have hx:=mk4;have hx:=mk10;refine rd2 5 11 (fun KK hR5=>?_) (fun KK hR11=>?_))
  | (have hx:=mk4;have hx:=mk5;refine rdy 10 (fun KK hC10=>?_))
  | (have hx:=mk4;refine rd2 5 10 (fun KK hR5=>?_) (fun KK hC10=>?_))
  | (refine rdy 4 (fun KK hC4=>?_))
theorem step_lowx(kV kF kT:FuncId)(cF cT:Array Value)(b1 b2 c1 c2 A1 A2 x1 x2 u1 u2 p q:Nat)(d1 d2:Bool)(w:World)(t1:∀ W,Rt 102 #[Zf b1 b2] (Zf A1 A2) W)(m1:Em d1 A1 A2)(t2:∀ W,Rt 102 #[Zf c1 c2] (Zf x1 x2) W)(m2:Em d2 x1 x2)(hnn:(d1 || d2)=false)(hc:∀ W,Rt 128 #[.float .f64 A1] (.float .f64 u1) W)(hp1:∀ W,Rt 191 #[.float .f64 u1] (.float .f64 p) W)(hf:∀ W,Rt 125 #[.float .f64 A2] (.float .f64 u2) W)(hp2:∀ W,Rt 191 #[.float .f64 u2] (.float .f64 q) W)(v1:Nat)(ho:(FloatKind.f64.format.order p q == some Ordering.gt)=false)(hv1:∀ W:World,(callFunc kV #[.float .f64 x1]).run prog W=.ok (.value (.float .f64 v1)) W)(ho2:FloatKind.f64.format.order v1 q=some .gt):
  Rt 124 #[Zf b1 b2,Zf c1 c2,.func (.func kV) #[] #[],.func (.func kF) #[] cF,.func (.func kT) #[] cT] (Zf 9218868437227405312 18442240474082181120) w:=by
 have HE:=Hd emptyf;have HC:=Hd hc;have HP1:=Hd hp1;have HF:=Hd hf;have HP2:=Hd hp2;clear hc hp1 hf hp2;have HRD:=readL32 w (Zv 0 0) 28 t1 m1 t2 m2 hnn;clear t1 m1 t2 m2 hnn
 go_enter func124,ntmps124
 go_wp2_with fail;refine HRD.out.mono ?_;rintro e wk ⟨rfl,hl⟩;have LL:=Hd hl;clear hl HRD
 go_upto_region 3 with fail
 refine regL LL (fun hHeld=>?_);clear LL;generalize World.drew _=wk at hHeld  ⊢;refine tks 0 ?_;refine tkb 1 (fun _ h=>(h.blk 0 rfl).c2) ?_;refine tks 4 ?_;refine tkb 5 (fun _ h=>(h.blk 0 rfl).c2) ?_;refine rcs 2 (HC.out _) ?_;clear hHeld;intro wk hb1 hHeld;clear hb1;refine rcs 3 (HP1.out _) ?_;clear hHeld;intro wk hb2 hHeld;clear hb2;refine rcs 6 (HF.out _) ?_;clear hHeld;intro wk hb3 hHeld;clear hb3;refine rcs 7 (HP2.out _) ?_;clear hHeld;intro wk hb4 hHeld;clear hb4;refine tks 8 ?_;refine tks 9 ?_;refine wpAnyH_done (by kernel_rfl) ?_ _;have LL:=Hd hHeld;clear hHeld;obtain⟨q1_0,q1_1⟩:=(LL.out.blk 1 rfl).c2;go_wp2_with fail;refine cx (HE.out _) fun wk hb=>?_;replace LL:=stL LL hb;clear hb q1_0 q1_1 ho2 ho;replace LL:=Hd (LL.out.loose2 rfl);obtain⟨ha10_0,hf10_0,ha10_1,hf10_1⟩:=(LL.out.has 0 rfl).sf2;have LF:=Hd (LL.out.wr [.float .f64 9218868437227405312,.float .f64 18442240474082181120]);obtain⟨hk10_0,hk10_1⟩:=(LF.out.blk 2 rfl).c2
 simp [sets] at hk10_0 hk10_1
 clear LL;go_wp2;refine bodyPost_ret (v:=Zf 9218868437227405312 18442240474082181120) (by simp [results,results124,go_sem,hk10_0,hk10_1]) rfl ?_
 exact⟨rfl,LF.out.b⟩
theorem step_highx(kV kF kT:FuncId)(cF cT:Array Value)(b1 b2 c1 c2 A1 A2 x1 x2 u1 u2 p q:Nat)(d1 d2:Bool)(w:World)(t1:∀ W,Rt 102 #[Zf b1 b2] (Zf A1 A2) W)(m1:Em d1 A1 A2)(t2:∀ W,Rt 102 #[Zf c1 c2] (Zf x1 x2) W)(m2:Em d2 x1 x2)(hnn:(d1 || d2)=false)(hc:∀ W,Rt 128 #[.float .f64 A1] (.float .f64 u1) W)(hp1:∀ W,Rt 191 #[.float .f64 u1] (.float .f64 p) W)(hf:∀ W,Rt 125 #[.float .f64 A2] (.float .f64 u2) W)(hp2:∀ W,Rt 191 #[.float .f64 u2] (.float .f64 q) W)(v1 v2:Nat)(ho:(FloatKind.f64.format.order p q == some Ordering.gt)=false)(hv1:∀ W:World,(callFunc kV #[.float .f64 x1]).run prog W=.ok (.value (.float .f64 v1)) W)(ho2:(FloatKind.f64.format.order v1 q == some Ordering.gt)=false)(hv2:∀ W:World,(callFunc kV #[.float .f64 x2]).run prog W=.ok (.value (.float .f64 v2)) W)(ho3:FloatKind.f64.format.order v2 p=some .lt):
  Rt 124 #[Zf b1 b2,Zf c1 c2,.func (.func kV) #[] #[],.func (.func kF) #[] cF,.func (.func kT) #[] cT] (Zf 9218868437227405312 18442240474082181120) w:=by
 have HE:=Hd emptyf;have HC:=Hd hc;have HP1:=Hd hp1;have HF:=Hd hf;have HP2:=Hd hp2;clear hc hp1 hf hp2;have HRD:=readL32 w (Zv 0 0) 28 t1 m1 t2 m2 hnn;clear t1 m1 t2 m2 hnn
 go_enter func124,ntmps124
 go_wp2_with fail;refine HRD.out.mono ?_;rintro e wk ⟨rfl,hl⟩;have LL:=Hd hl;clear hl HRD
 go_upto_region 3 with fail
 refine regL LL (fun hHeld=>?_);clear LL;generalize World.drew _=wk at hHeld  ⊢;refine tks 0 ?_;refine tkb 1 (fun _ h=>(h.blk 0 rfl).c2) ?_;refine tks 4 ?_;refine tkb 5 (fun _ h=>(h.blk 0 rfl).c2) ?_;refine rcs 2 (HC.out _) ?_;clear hHeld;intro wk hb1 hHeld;clear hb1;refine rcs 3 (HP1.out _) ?_;clear hHeld;intro wk hb2 hHeld;clear hb2;refine rcs 6 (HF.out _) ?_;clear hHeld;intro wk hb3 hHeld;clear hb3;refine rcs 7 (HP2.out _) ?_;clear hHeld;intro wk hb4 hHeld;clear hb4;refine tks 8 ?_;refine tks 9 ?_;refine wpAnyH_done (by kernel_rfl) ?_ _;have LL:=Hd hHeld;clear hHeld;obtain⟨q1_0,q1_1⟩:=(LL.out.blk 1 rfl).c2;go_wp2_with fail;refine cx (HE.out _) fun wk hb=>?_;replace LL:=stL LL hb;clear hb q1_0 q1_1 ho3 ho ho2;replace LL:=Hd (LL.out.loose2 rfl);obtain⟨ha10_0,hf10_0,ha10_1,hf10_1⟩:=(LL.out.has 0 rfl).sf2;have LF:=Hd (LL.out.wr [.float .f64 9218868437227405312,.float .f64 18442240474082181120]);obtain⟨hk10_0,hk10_1⟩:=(LF.out.blk 2 rfl).c2
 simp [sets] at hk10_0 hk10_1
 clear LL;go_wp2;refine bodyPost_ret (v:=Zf 9218868437227405312 18442240474082181120) (by simp [results,results124,go_sem,hk10_0,hk10_1]) rfl ?_
 exact⟨rfl,LF.out.b⟩
theorem step_somex(kV kF kT:FuncId)(cF cT:Array Value)(eF:∀ (args:Array Value) (W:World),(callFunc kF args).run prog W=.ok (.enter kF args) W)(eT:∀ (args:Array Value) (W:World),(callFunc kT args).run prog W=.ok (.enter kT args) W)(b1 b2 c1 c2 A1 A2 x1 x2 u1 u2 p q:Nat)(d1 d2:Bool)(w:World)(t1:∀ W,Rt 102 #[Zf b1 b2] (Zf A1 A2) W)(m1:Em d1 A1 A2)(t2:∀ W,Rt 102 #[Zf c1 c2] (Zf x1 x2) W)(m2:Em d2 x1 x2)(hnn:(d1 || d2)=false)(hc:∀ W,Rt 128 #[.float .f64 A1] (.float .f64 u1) W)(hp1:∀ W,Rt 191 #[.float .f64 u1] (.float .f64 p) W)(hf:∀ W,Rt 125 #[.float .f64 A2] (.float .f64 u2) W)(hp2:∀ W,Rt 191 #[.float .f64 u2] (.float .f64 q) W)(v1 v2 f g r1 r2:Nat)(ho:(FloatKind.f64.format.order p q == some Ordering.gt)=false)(hv1:∀ W:World,(callFunc kV #[.float .f64 x1]).run prog W=.ok (.value (.float .f64 v1)) W)(ho2:(FloatKind.f64.format.order v1 q == some Ordering.gt)=false)(hv2:∀ W:World,(callFunc kV #[.float .f64 x2]).run prog W=.ok (.value (.float .f64 v2)) W)(ho3:(FloatKind.f64.format.order v2 p == some Ordering.lt)=false)
  (hfr:∀ W,Below w.heap.size w W->Calls prog kF (#[.float .f64 p] ++ cF) W fun e w'=>e=.returned (.float .f64 f)/\Below W.heap.size W w')(hto:∀ W,Below w.heap.size w W->Calls prog kT (#[.float .f64 q] ++ cT) W fun e w'=>e=.returned (.float .f64 g)/\Below W.heap.size W w')(hmx:∀ W ts t,(Builtin.max_ ts t (Zv x1 f)).run prog W=.ok (.float .f64 r1) W)(hmn:∀ W ts t,(Builtin.min_ ts t (Zv x2 g)).run prog W=.ok (.float .f64 r2) W):
  Rt 124 #[Zf b1 b2,Zf c1 c2,.func (.func kV) #[] #[],.func (.func kF) #[] cF,.func (.func kT) #[] cT] (Zf r1 r2) w:=by
 have HC:=Hd hc;have HP1:=Hd hp1;have HF:=Hd hf;have HP2:=Hd hp2;have HFR:=Hd hfr;have HTO:=Hd hto;clear hc hp1 hf hp2 hfr hto;have HRD:=readL32 w (Zv 0 0) 28 t1 m1 t2 m2 hnn;clear t1 m1 t2 m2 hnn
 go_enter func124,ntmps124
 go_wp2_with fail;refine HRD.out.mono ?_;rintro e wk ⟨rfl,hl⟩;have LL:=Hd hl;clear hl HRD
 go_upto_region 3 with fail
 refine regL LL (fun hHeld=>?_);clear LL;generalize World.drew _=wk at hHeld  ⊢;refine tks 0 ?_;refine tkb 1 (fun _ h=>(h.blk 0 rfl).c2) ?_;refine tks 4 ?_;refine tkb 5 (fun _ h=>(h.blk 0 rfl).c2) ?_;refine rcs 2 (HC.out _) ?_;clear hHeld;intro wk hb1 hHeld;clear hb1;refine rcs 3 (HP1.out _) ?_;clear hHeld;intro wk hb2 hHeld;clear hb2;refine rcs 6 (HF.out _) ?_;clear hHeld;intro wk hb3 hHeld;clear hb3;refine rcs 7 (HP2.out _) ?_;clear hHeld;intro wk hb4 hHeld;clear hb4;refine tks 8 ?_;refine tks 9 ?_;refine wpAnyH_done (by kernel_rfl) ?_ _;have LL:=Hd hHeld;clear hHeld;obtain⟨q1_0,q1_1⟩:=(LL.out.blk 1 rfl).c2
 go_upto_region 6 with fail
 clear ho3 ho ho2 q1_0 q1_1;replace LL:=Hd (LL.out.loose2 rfl);refine regL LL (fun hHeld=>?_);clear LL;generalize World.drew _=wk at hHeld  ⊢;refine tks 0 ?_;refine tkb 1 (fun _ h=>(h.blk 1 rfl).c2) ?_;refine tks 2 ?_;refine tks 3 ?_;refine tks 6 ?_;refine tkb 7 (fun _ h=>(h.blk 1 rfl).c2) ?_;refine tks 8 ?_;refine tks 9 ?_
 repeat' first
  | (have hx:=hC4;clear hx;go_simp;refine (HFR.out _ hHeld.b).mono ?_;rintro e wk ⟨rfl,hb1⟩;go_wp2_with fail;refine hC4.out _ _ (hHeld.keep hb1) (fun _=>?_);clear hC4 KK hHeld;rename_i hHeld;(try simp only [Act.put,lay]);clear hb1;have mk4:=True.intro)
  | (have hx:=hR5;clear hx;go_simp;refine hR5.out _ _ hHeld (fun _=>?_);clear hR5 KK hHeld;rename_i hHeld;(try simp only [Act.put,lay]);have mk5:=True.intro)
  | (have hx:=hC10;clear hx;go_simp;refine (HTO.out _ hHeld.b).mono ?_;rintro e wk ⟨rfl,hb2⟩;go_wp2_with fail;refine hC10.out _ _ (hHeld.keep hb2) (fun _=>?_);clear hC10 KK hHeld;rename_i hHeld;(try simp only [Act.put,lay]);clear hb2;have mk10:=True.intro)
  | (have hx:=hR11;clear hx;go_simp;refine hR11.out _ _ hHeld (fun _=>?_);clear hR11 KK hHeld;rename_i hHeld;(try simp only [Act.put,lay]);have mk11:=True.intro)
  | (have hx:=hS13;clear hx;obtain⟨ha0,hf0,ha1,hf1⟩:=(hHeld.has 0 rfl).sf2;go_simp;have HS_0:=(hHeld.has 0 rfl).laid [.float .f64 r1,.float .f64 r2] rfl;refine hS13.out _ _ (hHeld.over 0 rfl [.float .f64 r1,.float .f64 r2] rfl rfl (by first | omega | exact hHeld.le_of 0 rfl) (by simp<;>omega) (by simp<;>omega)) (fun _=>?_);clear hS13 KK hHeld;rename_i hHeld;(try simp only [Act.put,lay]);replace hHeld:=(show Lies _ (sets wk (w.heap.size+2) 0 [.float .f64 r1,.float .f64 r2]) _ _ from hHeld);obtain⟨wk,hwn⟩:∃ X,sets wk (w.heap.size+2) 0 [.float .f64 r1,.float .f64 r2]=X:=⟨_,rfl⟩;rw [hwn] at hHeld HS_0;simp only [sets] at hwn;rw [hwn];clear hwn ha0 hf0 ha1 hf1;have mk13:=True.intro)
  | (have hx:=mk4;have hx:=mk5;have hx:=mk10;have hx:=mk11;have hx:=mk12;have hx:=mk13;refine wpAnyH_done (by kernel_rfl) ?_ _;clear hx mk4 mk5 mk10 mk11 mk12 mk13;have LB:=Hd hHeld.b;clear hHeld;obtain⟨hk0,hk1⟩:=HS_0.c2;clear HS_0;go_wp2;refine bodyPost_ret (v:=Zf r1 r2) (by simp [results,results124,go_sem,hk0,hk1]) rfl ?_;exact⟨rfl,LB.out⟩)
  | (have hx:=mk4;have hx:=mk5;have hx:=mk10;have hx:=mk11;have hx:=mk12;refine rdy 13 (fun KK hS13=>?_))
  | (have hx:=mk4;have hx:=mk5;have hx:=mk10;have hx:=mk11;refine tk 12 ?_;(try simp only [Act.put,lay]);have mk12:=True.intro)
  | (have hx:=mk4;have hx:=mk10;have hx:=mk11;refine rdy 5 (fun KK hR5=>?_))
  | (have hx:=mk4;have hx:=mk5;have hx:=mk10;refine rdy 11 (fun KK hR11=>?_))
  | (have hx:=mk4;have hx:=mk10;refine rd2 5 11 (fun KK hR5=>?_) (fun KK hR11=>?_))
  | (have hx:=mk4;have hx:=mk5;refine rdy 10 (fun KK hC10=>?_))
  | (have hx:=mk4;refine rd2 5 10 (fun KK hR5=>?_) (fun KK hC10=>?_))
  | (refine rdy 4 (fun KK hC4=>?_))
end
section
open Ieee
def P2(d:Nat):Rat:=(((2^d:Nat):Int):Rat)
theorem P2_add(a b:Nat):P2 (a+b)=P2 a*P2 b:=by
 unfold P2;rw [Nat.pow_add,Int.natCast_mul,Rat.intCast_mul]
theorem P2_ne(a:Nat):P2 a≠0:=by
 intro h;have h':((2^a:Nat):Int)=0:=Rat.intCast_inj.1 (by unfold P2 at h;rw [h];rfl);have:=Nat.two_pow_pos a
 omega
theorem P2_cancel{x y:Rat}{a:Nat}(h:x*P2 a=y*P2 a):x=y:=by
 have k:(x - y)*P2 a=0:=by grind
 rcases Rat.mul_eq_zero.1 k with k | k
 ·grind
 ·exact absurd k (P2_ne a)
theorem signed_cast(s:Bool)(n:Nat)(d:Nat):(((if s=true then -((n*2^d:Nat):Int) else ((n*2^d:Nat):Int)):Int):Rat)=((if s=true then -(n:Int) else (n:Int):Int):Rat)*P2 d:=by
 unfold P2;rw [<- Rat.intCast_mul]
 congr 1
 cases s
 ·simp
 ·simp [Int.neg_mul]
theorem whole_word(way:Toward){b:Nat}(h:real b):Is (double.write ((double.read b).integral way)) (wh (kW way) (idx b)):=by
 have hM:=M_val;have hi:=idx_natAbs b
 rcases Nat.lt_or_ge (rungOf b) M with hf | hf
 ·obtain⟨m,k,e,hm,-,-⟩:=read_fin (b:=b) hf
  obtain⟨U,hU⟩:∃ U:Nat,U=1074:=⟨_,rfl⟩
  have i0:-(M:Int)<idx b:=by omega
  have i1:idx b<M:=by omega
  obtain⟨j1,j2,j3⟩:=wh_fin (w:=kW way) (by cases way<;>decide) i0 i1;rw [e]
  have e2:(0:Int)=-1074+((U:Nat):Int):=by omega
  obtain⟨d,hd⟩:∃ d:Nat,d=(-(-1074+(k:Int))).toNat:=⟨_,rfl⟩
  obtain⟨A,hA⟩:∃ A:Nat,A=(-1074+(k:Int)).toNat:=⟨_,rfl⟩
  have hAd:A+U=k+d:=by omega
  obtain⟨c,hc⟩:∃ c:Nat,c=way.cut (sgn b) (m <<< A) d:=⟨_,rfl⟩
  have goal_eq:double.write ((Datum.number (sgn b) m (-1074+(k:Int))).integral way)=double.nearest (sgn b) c (-1074+((U:Nat):Int)):=by
   rw [hc,hA,hd,<- e2];rfl
  rw [goal_eq,nearest_high]
  have hv:(val (idx b):Rat)=((if sgn b=true then -(m:Int) else (m:Int):Int):Rat)*P2 k:=by
   rw [<- read_val hm,signed_eq,signed_cast]
  have key:(if sgn b=true then -(c:Int) else (c:Int))=rK (kW way) (fl (idx b)):=by
   rw [hc,cut_gI];refine gI_rK way (by have:=Nat.two_pow_pos d;omega) ?_;have f1:fl (idx b)*P2 U=(val (idx b):Rat):=fl_mul hU (idx b)
   have f2:fl (idx b)*P2 d*P2 U=((if sgn b=true then -(m:Int) else (m:Int):Int):Rat)*P2 A*P2 U:=by
    rw [Rat.mul_assoc _ (P2 A),<- P2_add,hAd,P2_add];rw [hv] at f1
    grind
   have f3:=P2_cancel f2;rw [<- signed_cast] at f3;rw [Nat.shiftLeft_eq]
   exact f3
  have hw:val (wh (kW way) (idx b))=(if sgn b=true then -((c*2^U:Nat):Int) else ((c*2^U:Nat):Int)):=by
   have f1:fl (wh (kW way) (idx b))*P2 U=(val (wh (kW way) (idx b)):Rat):=fl_mul hU _;rw [j1,<- key,<- signed_cast] at f1
   exact (Rat.intCast_inj.1 f1).symm
  have hn:=Is.near (s:=sgn b) (n:=val (wh (kW way) (idx b))) (d:=0) (by
   intro h0;rw [hw] at h0 ⊢;generalize c*2^U=t at h0 ⊢
   cases sgn b
   ·simp only [Bool.false_eq_true,if_false] at h0 ⊢
    rw [decide_eq_false (by omega)]
   ·simp only [if_true] at h0 ⊢
    rw [decide_eq_true (by omega)])
  rw [near_val_zero (by omega) (by omega)] at hn
  have e3:(val (wh (kW way) (idx b))).natAbs=c*2^U:=by
   rw [hw];generalize c*2^U=t
   cases sgn b<;>simp
  rw [e3] at hn
  exact hn
 ·have e:rungOf b=M:=by unfold real at h;omega
  rw [read_inf e]
  show Is (double.word (sgn b) double.infRung) _
  rw [infRung_eq];have k:=Is.word (sgn b) (r:=M) (Nat.le_refl _)
  have e4:wh (kW way) (idx b)=if sgn b=true then -(M:Int) else (M:Int):=by
   unfold idx;rw [e]
   cases sgn b
   ·exact wh_max _
   ·exact wh_min _
  rw [e4];exact k
end
section
open Go.RowKit Ieee
theorem run_integral(name:String)(way:Toward){b:Nat}(h:real b)(P:Program)(w:World):
  (Extern.MathFloor.toIntegral name way #[.float .f64 b]).run P w=.ok (.float .f64 (double.write ((double.read b).integral way))) w:=by
 have hn:∀ s t,FloatKind.f64.decode b≠.nan s t:=by
  intro s t he
  rcases Nat.lt_or_ge (rungOf b) M with hf | hf
  ·obtain⟨m,k,e,-⟩:=read_fin (b:=b) hf
   cases e.symm.trans he
  ·have e0:rungOf b=M:=by unfold real at h;omega
   cases (read_inf e0).symm.trans he
 delta Extern.MathFloor.toIntegral
 rw [show double.write ((double.read b).integral way)=FloatKind.f64.encode ((FloatKind.f64.decode b).integral way) from rfl]
 conv=>lhs;arg 2;whnf
 generalize FloatKind.f64.decode b=d at hn
 cases d with
 | nan s t=>exact absurd rfl (hn s t)
 | number s m i=>rfl
 | infinity s=>rfl
def nmFloor: String := "math.archFloor"
def nmCeil: String := "math.archCeil"
def nmTrunc: String := "math.archTrunc"
def nmEven: String := "math.RoundToEven"
theorem run_arch(b:Nat)(h:real b)(w:World):
  (callFunc 192 #[.float .f64 b]).run prog w=.ok (.value (.float .f64 (double.write ((double.read b).integral .down)))) w /\
  (callFunc 195 #[.float .f64 b]).run prog w=.ok (.value (.float .f64 (double.write ((double.read b).integral .up)))) w /\
  (callFunc 198 #[.float .f64 b]).run prog w=.ok (.value (.float .f64 (double.write ((double.read b).integral .zero)))) w /\
  (callFunc 135 #[.float .f64 b]).run prog w=.ok (.value (.float .f64 (double.write ((double.read b).integral .even)))) w:=by
 refine⟨?_,?_,?_,?_⟩
 ·rw [run_callFunc_extern (e:=Extern.MathFloor.toIntegral nmFloor .down) func192 (by kernel_rfl) (by kernel_rfl) (by kernel_rfl) (by kernel_rfl),run_integral _ _ h]
  rfl
 ·rw [run_callFunc_extern (e:=Extern.MathFloor.toIntegral nmCeil .up) func195 (by kernel_rfl) (by kernel_rfl) (by kernel_rfl) (by kernel_rfl),run_integral _ _ h]
  rfl
 ·rw [run_callFunc_extern (e:=Extern.MathFloor.toIntegral nmTrunc .zero) func198 (by kernel_rfl) (by kernel_rfl) (by kernel_rfl) (by kernel_rfl),run_integral _ _ h]
  rfl
 ·rw [run_callFunc_extern (e:=Extern.MathFloor.toIntegral nmEven .even) func135 (by kernel_rfl) (by kernel_rfl) (by kernel_rfl) (by kernel_rfl),run_integral _ _ h]
  rfl
def wW(way:Toward)(b:Nat):Nat:=double.write ((double.read b).integral way)
theorem wW_is(way:Toward){b:Nat}(h:real b):Is (wW way b) (wh (kW way) (idx b)):=whole_word way h
theorem floor_any(b:Nat)(w:World)(h:real b):Calls prog 125 #[.float .f64 b] w fun e w'=>e=.returned (.float .f64 (wW .down b))/\w=w':=by
 have hf:=fun W=>(run_arch b h W).1;unfold wW;generalize double.write ((double.read b).integral .down)=r at hf ⊢;clear h
 go_enter func125,ntmps125
 go_wp2
 go_ret
 exact⟨rfl,rfl⟩
theorem ceil_any(b:Nat)(w:World)(h:real b):Calls prog 128 #[.float .f64 b] w fun e w'=>e=.returned (.float .f64 (wW .up b))/\w=w':=by
 have hf:=fun W=>(run_arch b h W).2.1;unfold wW;generalize double.write ((double.read b).integral .up)=r at hf ⊢;clear h
 go_enter func128,ntmps128
 go_wp2
 go_ret
 exact⟨rfl,rfl⟩
theorem trunc_any(b:Nat)(w:World)(h:real b):Calls prog 132 #[.float .f64 b] w fun e w'=>e=.returned (.float .f64 (wW .zero b))/\w=w':=by
 have hf:=fun W=>(run_arch b h W).2.2.1;unfold wW;generalize double.write ((double.read b).integral .zero)=r at hf ⊢;clear h
 go_enter func132,ntmps132
 go_wp2
 go_ret
 exact⟨rfl,rfl⟩
end
theorem order_is{a b:Nat}{i j:Int}(ha:Is a i)(hb:Is b j):FloatKind.f64.format.order a b=some (compare i j):=by
 have h:=order_real ha.real hb.real;rw [ha.idx,hb.idx] at h
 exact h
theorem is_pat{i:Int}(h:-(M:Int)<=i/\i<=M):Is (pat i) i:=⟨pat_lt h.1 h.2,by unfold real;rw [rung_pat h.1 h.2];omega,idx_pat h.1 h.2⟩
theorem gt_false{a b:Nat}{i j:Int}(ha:Is a i)(hb:Is b j)(h:¬ j<i):(FloatKind.f64.format.order a b == some Ordering.gt)=false:=by
 rw [order_is ha hb]
 rcases Int.lt_or_eq_of_le (show i<=j by omega) with k | k
 ·rw [Int.compare_eq_lt.2 k];rfl
 ·rw [Int.compare_eq_eq.2 k];rfl
theorem lt_false{a b:Nat}{i j:Int}(ha:Is a i)(hb:Is b j)(h:¬ i<j):(FloatKind.f64.format.order a b == some Ordering.lt)=false:=by
 rw [order_is ha hb]
 rcases Int.lt_or_eq_of_le (show j<=i by omega) with k | k
 ·rw [Int.compare_eq_gt.2 k];rfl
 ·rw [Int.compare_eq_eq.2 k.symm];rfl
theorem gt_true{a b:Nat}{i j:Int}(ha:Is a i)(hb:Is b j)(h:j<i):FloatKind.f64.format.order a b=some .gt:=by rw [order_is ha hb,Int.compare_eq_gt.2 h]
theorem lt_true{a b:Nat}{i j:Int}(ha:Is a i)(hb:Is b j)(h:i<j):FloatKind.f64.format.order a b=some .lt:=by rw [order_is ha hb,Int.compare_eq_lt.2 h]
structure StepFn (w:World) (kF kT:FuncId) (cF cT:Array Value) (F T:Int->Int):Prop where
 eF:∀ (args:Array Value) (W:World),(callFunc kF args).run prog W=.ok (.enter kF args) W
 eT:∀ (args:Array Value) (W:World),(callFunc kT args).run prog W=.ok (.enter kT args) W
 hF:∀ i,-(M:Int)<=i->i<M->(-(M:Int)<=F (wh 2 i)/\F (wh 2 i)<=M)/\∀ W,Below w.heap.size w W->Calls prog kF (#[.float .f64 (pat (wh 2 i))] ++ cF) W fun e w'=>e=.returned (.float .f64 (pat (F (wh 2 i))))/\Below W.heap.size W w'
 hT:∀ i,-(M:Int)<i->i<=M->(-(M:Int)<=T (wh 1 i)/\T (wh 1 i)<=M)/\∀ W,Below w.heap.size w W->Calls prog kT (#[.float .f64 (pat (wh 1 i))] ++ cT) W fun e w'=>e=.returned (.float .f64 (pat (T (wh 1 i))))/\Below W.heap.size W w'
def ValFn(w:World)(kV:FuncId)(vw:Nat->Nat):Prop:=
 ((∀ (args:Array Value) (W:World),(callFunc kV args).run prog W=.ok (.enter kV args) W)/\∀ i,-(M:Int)<=i->i<=M->∀ W,Below w.heap.size w W->Calls prog kV #[.float .f64 (pat i)] W fun e w'=>e=.returned (.float .f64 (vw (pat i)))/\Below W.heap.size W w') \/
 (∀ i,-(M:Int)<=i->i<=M->∀ W,(callFunc kV #[.float .f64 (pat i)]).run prog W=.ok (.value (.float .f64 (vw (pat i)))) W)
theorem step_idx(kV kF kT:FuncId)(cF cT:Array Value)(vw:Nat->Nat)(V F T:Int->Int)(c1 c2 x y:Nat)(w:World)(hc1:L64 c1)(hc2:L64 c2)(hx:L64 x)(hy:L64 y)
  (hI:∀ i,-(M:Int)<=i->i<=M->Is (vw (pat i)) (V i))(hV:ValFn w kV vw)(hS:StepFn w kF kT cF cT F T):
  Rt 124 #[Zf c1 c2,Zf x y,.func (.func kV) #[] #[],.func (.func kF) #[] cF,.func (.func kT) #[] cT] (Zf (pat (stp V F T (rd c1 c2) (rd x y)).1) (pat (stp V F T (rd c1 c2) (rd x y)).2)) w:=by
 have hM:=M_val;have v2:=rd_iv c1 c2;have v3:=rd_iv x y;have t2:=fun W=>readf c1 c2 W hc1 hc2;have t3:=fun W=>readf x y W hx hy
 obtain⟨⟨i2,j2⟩,r2⟩:∃ z,rd c1 c2=z:=⟨_,rfl⟩
 obtain⟨⟨i3,j3⟩,r3⟩:∃ z,rd x y=z:=⟨_,rfl⟩
 rw [r2] at v2 t2;rw [r3] at v3 t3;rw [r2,r3]
 dsimp only at *
 have m2:=em_idx v2;have m3:=em_idx v3;unfold stp
 dsimp only
 by_cases hno:j2<i2\/j3<i3
 ·rw [if_pos hno,pat_max,pat_min]
  exact step_none kV kF kT cF cT _ _ _ _ _ _ _ _ _ _ w t2 m2 t3 m3 (by simp;omega)
 have hnn:(decide (j2<i2) || decide (j3<i3))=false:=by simp;omega
 have k2:=ne_or v2 (by omega);have k3:=ne_or v3 (by omega);unfold Ne at k2 k3;rw [if_neg hno];have up:=wW_is .up (b:=pat i2) (is_pat ⟨k2.1,by omega⟩).real;have dw:=wW_is .down (b:=pat j2) (is_pat ⟨by omega,k2.2.2.1⟩).real;rw [idx_pat k2.1 (by omega),show kW .up=2 from rfl] at up;rw [idx_pat (by omega) k2.2.2.1,show kW .down=1 from rfl] at dw
 have hc:∀ W,Rt 128 #[.float .f64 (pat i2)] (.float .f64 (wW .up (pat i2))) W:=fun W=>(ceil_any (pat i2) W (is_pat ⟨k2.1,by omega⟩).real).mono fun _ _ ⟨a,b⟩=>⟨a,b ▸ Below.refl _ _⟩
 have hf:∀ W,Rt 125 #[.float .f64 (pat j2)] (.float .f64 (wW .down (pat j2))) W:=fun W=>(floor_any (pat j2) W (is_pat ⟨by omega,k2.2.2.1⟩).real).mono fun _ _ ⟨a,b⟩=>⟨a,b ▸ Below.refl _ _⟩
 have hp1:∀ W,Rt 191 #[.float .f64 (wW .up (pat i2))] (.float .f64 (pat (wh 2 i2))) W:=fun W=>(fplainf _ W up.lt up.real).mono fun _ _ ⟨a,b⟩=>⟨by rw [a,up.idx],b ▸ Below.refl _ _⟩
 have hp2:∀ W,Rt 191 #[.float .f64 (wW .down (pat j2))] (.float .f64 (pat (wh 1 j2))) W:=fun W=>(fplainf _ W dw.lt dw.real).mono fun _ _ ⟨a,b⟩=>⟨by rw [a,dw.idx],b ▸ Below.refl _ _⟩
 have rA:=wh_rng (w:=2) (by omega) (i:=i2) (by omega);have rB:=wh_rng (w:=1) (by omega) (i:=j2) (by omega);obtain⟨rF,hF⟩:=hS.hF i2 k2.1 k2.2.2.2.1;obtain⟨rT,hT⟩:=hS.hT j2 k2.2.2.2.2 k2.2.2.1;have vi:=hI i3 k3.1 (by omega);have vj:=hI j3 (by omega) k3.2.2.1;have hmx:=fun W ts t=>run_maxf (show -(M:Int)<=i3/\i3<=M by omega) rF W ts t;have hmn:=fun W ts t=>run_minf (show -(M:Int)<=j3/\j3<=M by omega) rT W ts t;have pA:=is_pat (i:=wh 2 i2) ⟨rA.1,rA.2.1⟩;have pB:=is_pat (i:=wh 1 j2) ⟨rB.1,rB.2.1⟩
 by_cases h1:wh 1 j2<wh 2 i2
 ·rw [if_pos (.inl h1),pat_max,pat_min]
  exact step_far kV kF kT cF cT _ _ _ _ _ _ _ _ _ _ _ _ _ _ w t2 m2 t3 m3 hnn hc hp1 hf hp2 (gt_true pA pB h1)
 have o1:=gt_false pA pB h1
 by_cases h2:wh 1 j2<V i3
 ·rw [if_pos (.inr (.inl h2)),pat_max,pat_min]
  rcases hV with ⟨eV,hV⟩ | hV
  ·exact step_low kV kF kT cF cT eV _ _ _ _ _ _ _ _ _ _ _ _ _ _ w t2 m2 t3 m3 hnn hc hp1 hf hp2 _ o1 (hV i3 k3.1 (by omega)) (gt_true vi pB h2)
  ·exact step_lowx kV kF kT cF cT _ _ _ _ _ _ _ _ _ _ _ _ _ _ w t2 m2 t3 m3 hnn hc hp1 hf hp2 _ o1 (hV i3 k3.1 (by omega)) (gt_true vi pB h2)
 have o2:=gt_false vi pB h2
 by_cases h3:V j3<wh 2 i2
 ·rw [if_pos (.inr (.inr h3)),pat_max,pat_min]
  rcases hV with ⟨eV,hV⟩ | hV
  ·exact step_high kV kF kT cF cT eV _ _ _ _ _ _ _ _ _ _ _ _ _ _ w t2 m2 t3 m3 hnn hc hp1 hf hp2 _ _ o1 (hV i3 k3.1 (by omega)) o2 (hV j3 (by omega) k3.2.2.1) (lt_true vj pA h3)
  ·exact step_highx kV kF kT cF cT _ _ _ _ _ _ _ _ _ _ _ _ _ _ w t2 m2 t3 m3 hnn hc hp1 hf hp2 _ _ o1 (hV i3 k3.1 (by omega)) o2 (hV j3 (by omega) k3.2.2.1) (lt_true vj pA h3)
 have o3:=lt_false vj pA h3;rw [if_neg (by rintro (h | h | h);exact h1 h;exact h2 h;exact h3 h)]
 rcases hV with ⟨eV,hV⟩ | hV
 ·exact step_some kV kF kT cF cT eV hS.eF hS.eT _ _ _ _ _ _ _ _ _ _ _ _ _ _ w t2 m2 t3 m3 hnn hc hp1 hf hp2 _ _ _ _ _ _ o1 (hV i3 k3.1 (by omega)) o2 (hV j3 (by omega) k3.2.2.1) o3 hF hT hmx hmn
 ·exact step_somex kV kF kT cF cT hS.eF hS.eT _ _ _ _ _ _ _ _ _ _ _ _ _ _ w t2 m2 t3 m3 hnn hc hp1 hf hp2 _ _ _ _ _ _ o1 (hV i3 k3.1 (by omega)) o2 (hV j3 (by omega) k3.2.2.1) o3 hF hT hmx hmn
section
theorem fl_one:fl 4607182418800017408=1:=by decide +kernel
theorem fl_half:fl 4602678819172646912=1/2:=by decide +kernel
theorem pat_one:pat 4607182418800017408=4607182418800017408:=rfl
theorem pat_mone:pat (-4607182418800017408)=13830554455654793216:=rfl
theorem ahead_eq(w:Nat){b i:Int}(hb:-(M:Int)<b/\b<M)(hL:∀ A:Int,bL w A=A - fl b)(h0:-(M:Int)<=i)(h1:i<M):ad (-1) (wh 2 i) (-b)=FL w (wh 2 i):=by
 have hM:=M_val
 rcases FLc w h0 h1 with ⟨k,h⟩ | ⟨k1,k2,k3,h⟩
 ·rw [h,k];unfold ad;rw [if_pos (.inr rfl)]
 ·rw [h];unfold ad;rw [if_neg (by omega),if_neg (by omega),k1,fl_neg,hL,Rat.sub_eq_add_neg]
theorem behind_eq(w:Nat){b i:Int}(hb:-(M:Int)<b/\b<M)(hU:∀ A:Int,bU w A=A+fl b)(h0:-(M:Int)<i)(h1:i<=M):ad 1 (wh 1 i) b=TU w (wh 1 i):=by
 have hM:=M_val
 rcases TUc w h0 h1 with ⟨k,h⟩ | ⟨k1,k2,k3,h⟩
 ·rw [h,k];unfold ad;rw [if_pos (.inl rfl)]
 ·rw [h];unfold ad;rw [if_neg (by omega),if_neg (by omega),k1,hU]
theorem rsub_k{b i:Int}(w:Nat)(hb:-(M:Int)<b/\b<M)(hL:∀ A:Int,bL w A=A - fl b)(h0:-(M:Int)<=i)(h1:i<M)(W:World):
  Rt 84 #[.int .i64 (-1),.float .f64 (pat (wh 2 i)),.float .f64 (pat b)] (.float .f64 (pat (FL w (wh 2 i)))) W:=by
 have hM:=M_val;have r:=wh_rng (w:=2) (by omega) (i:=i) (by omega);have h:=rsub_pat (-1) (wh 2 i) b W (.inl rfl) (by omega) (by omega) (by unfold NoCl;omega);rw [ahead_eq w hb hL h0 h1] at h
 exact h
theorem radd_k{b i:Int}(w:Nat)(hb:-(M:Int)<b/\b<M)(hU:∀ A:Int,bU w A=A+fl b)(h0:-(M:Int)<i)(h1:i<=M)(W:World):
  Rt 139 #[.int .i64 1,.float .f64 (pat (wh 1 i)),.float .f64 (pat b)] (.float .f64 (pat (TU w (wh 1 i)))) W:=by
 have hM:=M_val;have r:=wh_rng (w:=1) (by omega) (i:=i) (by omega);have h:=radd_pat 1 (wh 1 i) b W (.inr rfl) (by omega) (by omega) (by unfold NoCl;omega);rw [behind_eq w hb hU h0 h1] at h
 exact h
theorem ahead_fn(w:Nat){b:Int}(hb:-(M:Int)<b/\b<M)(hL:∀ A:Int,bL w A=A - fl b){W0:World}{B:Nat}(hc:Cap W0 B (pat b)):
  ∀ i,-(M:Int)<=i->i<M->(-(M:Int)<=FL w (wh 2 i)/\FL w (wh 2 i)<=M)/\∀ W,Below W0.heap.size W0 W->Calls prog 197 (#[.float .f64 (pat (wh 2 i))] ++ #[.pointer (some ⟨B,0,none⟩)]) W fun e w'=>e=.returned (.float .f64 (pat (FL w (wh 2 i))))/\Below W.heap.size W w':=
 fun _ h0 h1=>⟨FL_rng w h0 h1,fun W hW=>ahead1 _ _ _ B W (hc.below hW).1 (rsub_k w hb hL h0 h1)⟩
theorem behind_fn(w:Nat){b:Int}(hb:-(M:Int)<b/\b<M)(hU:∀ A:Int,bU w A=A+fl b){W0:World}{B:Nat}(hc:Cap W0 B (pat b)):
  ∀ i,-(M:Int)<i->i<=M->(-(M:Int)<=TU w (wh 1 i)/\TU w (wh 1 i)<=M)/\∀ W,Below W0.heap.size W0 W->Calls prog 194 (#[.float .f64 (pat (wh 1 i))] ++ #[.pointer (some ⟨B,0,none⟩)]) W fun e w'=>e=.returned (.float .f64 (pat (TU w (wh 1 i))))/\Below W.heap.size W w':=
 fun _ h0 h1=>⟨TU_rng w h0 h1,fun W hW=>behind1 _ _ _ B W (hc.below hW).1 (radd_k w hb hU h0 h1)⟩
theorem FL_one{i:Int}(h0:-(M:Int)<=i)(h1:i<M):FL 1 (wh 2 i)=wh 2 i:=by
 rcases FLc 1 h0 h1 with ⟨k,h⟩ | ⟨k1,k2,k3,h⟩
 ·rw [h,k]
 ·rw [h,show bL 1 (fl i).ceil=((fl i).ceil:Rat) from rfl,<- k1,rndI_fl (.inl rfl) k2 k3]
theorem TU_two{i:Int}(h0:-(M:Int)<i)(h1:i<=M):TU 2 (wh 1 i)=wh 1 i:=by
 rcases TUc 2 h0 h1 with ⟨k,h⟩ | ⟨k1,k2,k3,h⟩
 ·rw [h,k]
 ·rw [h,show bU 2 (fl i).floor=((fl i).floor:Rat) from rfl,<- k1,rndI_fl (.inr rfl) k2 k3]
theorem itself_low(W0:World):∀ i,-(M:Int)<=i->i<M->(-(M:Int)<=FL 1 (wh 2 i)/\FL 1 (wh 2 i)<=M)/\∀ W,Below W0.heap.size W0 W->Calls prog 126 (#[.float .f64 (pat (wh 2 i))] ++ #[]) W fun e w'=>e=.returned (.float .f64 (pat (FL 1 (wh 2 i))))/\Below W.heap.size W w':=
 fun i h0 h1=>⟨FL_rng 1 h0 h1,fun W _=>by rw [FL_one h0 h1];exact itself_any _ W⟩
theorem itself_up(W0:World):∀ i,-(M:Int)<i->i<=M->(-(M:Int)<=TU 2 (wh 1 i)/\TU 2 (wh 1 i)<=M)/\∀ W,Below W0.heap.size W0 W->Calls prog 126 (#[.float .f64 (pat (wh 1 i))] ++ #[]) W fun e w'=>e=.returned (.float .f64 (pat (TU 2 (wh 1 i))))/\Below W.heap.size W w':=
 fun i h0 h1=>⟨TU_rng 2 h0 h1,fun W _=>by rw [TU_two h0 h1];exact itself_any _ W⟩
theorem wh_sign{w:Nat}(hw:1<=w){i:Int}(h:-(M:Int)<i/\i<M){z:Int}(hz:fl (wh w i)=(z:Rat)):(0<wh w i↔0<z)/\(wh w i<0↔z<0):=by
 have e0:fl 0=((0:Int):Rat):=fl_zero
 constructor
 ·rw [<- fl_lt_iff,e0,hz,Rat.intCast_lt_intCast]
 ·rw [<- fl_lt_iff,e0,hz,Rat.intCast_lt_intCast]
theorem trunc_low(W0:World):∀ i,-(M:Int)<=i->i<M->(-(M:Int)<=FL 3 (wh 2 i)/\FL 3 (wh 2 i)<=M)/\∀ W,Below W0.heap.size W0 W->Calls prog 130 (#[.float .f64 (pat (wh 2 i))] ++ #[]) W fun e w'=>e=.returned (.float .f64 (pat (FL 3 (wh 2 i))))/\Below W.heap.size W w':=by
 intro i h0 h1;have hM:=M_val;refine⟨FL_rng 3 h0 h1,fun W _=>?_⟩;have r:=wh_rng (w:=2) (by omega) (i:=i) (by omega);have i1:=is_pat (i:=wh 2 i) ⟨r.1,r.2.1⟩;have i0:=is_pat (i:=0) (by omega)
 by_cases c:0<wh 2 i
 ·have e:FL 3 (wh 2 i)=wh 2 i:=by
   rcases FLc 3 h0 h1 with ⟨k,h⟩ | ⟨k1,k2,k3,h⟩
   ·omega
   ·have hz:=(wh_sign (w:=2) (by omega) (i:=i) (by
     refine⟨?_,h1⟩
     rcases Int.lt_or_eq_of_le h0 with q | q
     ·exact q
     ·rw [<- q,wh_min] at k2;omega) k1).1.1 c
    rw [h,show bL 3 (fl i).ceil=if 0<(fl i).ceil then ((fl i).ceil:Rat) else (fl i).ceil - 1 from rfl,if_pos hz,<- k1,rndI_fl (.inl rfl) k2 k3]
  rw [e]
  exact truncfrom_pos _ W (gt_true i1 i0 c)
 ·have e:∀ W,Rt 84 #[.int .i64 (-1),.float .f64 (pat (wh 2 i)),.float .f64 4607182418800017408] (.float .f64 (pat (FL 3 (wh 2 i)))) W:=by
   intro W
   have e2:FL 3 (wh 2 i)=FL 2 (wh 2 i):=by
    rcases FLc 3 h0 h1 with ⟨k,h⟩ | ⟨k1,k2,k3,h⟩
    ·rcases FLc 2 h0 h1 with ⟨k',h'⟩ | ⟨k1',k2',k3',h'⟩
     ·rw [h,h']
     ·omega
    ·rcases FLc 2 h0 h1 with ⟨k',h'⟩ | ⟨k1',k2',k3',h'⟩
     ·omega
     ·have hz:=mt (wh_sign (w:=2) (by omega) (i:=i) (by
       refine⟨?_,h1⟩
       rcases Int.lt_or_eq_of_le h0 with q | q
       ·exact q
       ·rw [<- q,wh_min] at k2;omega) k1).1.2 c
      rw [h,h',show bL 3 (fl i).ceil=if 0<(fl i).ceil then ((fl i).ceil:Rat) else (fl i).ceil - 1 from rfl,if_neg hz]
      rfl
   rw [e2]
   exact rsub_k 2 (b:=4607182418800017408) (by omega) (fun A=>by rw [fl_one];rfl) h0 h1 W
  have o:=order_is i1 i0;refine truncfrom_neg _ _ _ W o ?_ e
  rcases Int.lt_or_eq_of_le (show wh 2 i<=0 by omega) with k | k
  ·exact .inl (Int.compare_eq_lt.2 k)
  ·exact .inr (Int.compare_eq_eq.2 k)
theorem trunc_up(W0:World):∀ i,-(M:Int)<i->i<=M->(-(M:Int)<=TU 3 (wh 1 i)/\TU 3 (wh 1 i)<=M)/\∀ W,Below W0.heap.size W0 W->Calls prog 131 (#[.float .f64 (pat (wh 1 i))] ++ #[]) W fun e w'=>e=.returned (.float .f64 (pat (TU 3 (wh 1 i))))/\Below W.heap.size W w':=by
 intro i h0 h1;have hM:=M_val;refine⟨TU_rng 3 h0 h1,fun W _=>?_⟩;have r:=wh_rng (w:=1) (by omega) (i:=i) (by omega);have i1:=is_pat (i:=wh 1 i) ⟨r.1,r.2.1⟩;have i0:=is_pat (i:=0) (by omega)
 have fin:wh 1 i<M->i<M:=fun h=>by
  rcases Int.lt_or_eq_of_le h1 with q | q
  ·exact q
  ·rw [q,wh_max] at h;omega
 by_cases c:wh 1 i<0
 ·have e:TU 3 (wh 1 i)=wh 1 i:=by
   rcases TUc 3 h0 h1 with ⟨k,h⟩ | ⟨k1,k2,k3,h⟩
   ·omega
   ·have hz:=(wh_sign (w:=1) (by omega) (i:=i) ⟨h0,fin k3⟩ k1).2.1 c;rw [h,show bU 3 (fl i).floor=if (fl i).floor<0 then ((fl i).floor:Rat) else (fl i).floor+1 from rfl,if_pos hz,<- k1,rndI_fl (.inr rfl) k2 k3]
  rw [e]
  exact truncto_neg _ W (lt_true i1 i0 c)
 ·have e:∀ W,Rt 139 #[.int .i64 1,.float .f64 (pat (wh 1 i)),.float .f64 4607182418800017408] (.float .f64 (pat (TU 3 (wh 1 i)))) W:=by
   intro W
   have e2:TU 3 (wh 1 i)=TU 1 (wh 1 i):=by
    rcases TUc 3 h0 h1 with ⟨k,h⟩ | ⟨k1,k2,k3,h⟩
    ·rcases TUc 1 h0 h1 with ⟨k',h'⟩ | ⟨k1',k2',k3',h'⟩
     ·rw [h,h']
     ·omega
    ·rcases TUc 1 h0 h1 with ⟨k',h'⟩ | ⟨k1',k2',k3',h'⟩
     ·omega
     ·have hz:=mt (wh_sign (w:=1) (by omega) (i:=i) ⟨h0,fin k3⟩ k1).2.2 c;rw [h,h',show bU 3 (fl i).floor=if (fl i).floor<0 then ((fl i).floor:Rat) else (fl i).floor+1 from rfl,if_neg hz]
      rfl
   rw [e2]
   exact radd_k 1 (b:=4607182418800017408) (by omega) (fun A=>by rw [fl_one];rfl) h0 h1 W
  have o:=order_is i1 i0;refine truncto_pos _ _ _ W o ?_ e
  rcases Int.lt_or_eq_of_le (show 0<=wh 1 i by omega) with k | k
  ·exact .inl (Int.compare_eq_gt.2 k)
  ·exact .inr (Int.compare_eq_eq.2 k.symm)
theorem calls_below{W:World}{f:FuncId}{b r:Nat}(h:Calls prog f #[.float .f64 b] W fun e w'=>e=.returned (.float .f64 r)/\W=w'):Calls prog f #[.float .f64 b] W fun e w'=>e=.returned (.float .f64 r)/\Below W.heap.size W w':=h.mono fun _ _ ⟨a,b⟩=>⟨a,b ▸ Below.refl _ _⟩
theorem wW_idx(way:Ieee.Toward)(i:Int)(h0:-(M:Int)<=i)(h1:i<=M):Is (wW way (pat i)) (wh (kW way) i):=by
 have h:=wW_is way (is_pat ⟨h0,h1⟩).real
 rwa [idx_pat h0 h1] at h
theorem val_floor(w:World):ValFn w 125 (wW .down):=.inl ⟨enters_of func125 (by kernel_rfl) rfl,fun i h0 h1 W _=>calls_below (floor_any (pat i) W (is_pat ⟨h0,h1⟩).real)⟩
theorem val_ceil(w:World):ValFn w 128 (wW .up):=.inl ⟨enters_of func128 (by kernel_rfl) rfl,fun i h0 h1 W _=>calls_below (ceil_any (pat i) W (is_pat ⟨h0,h1⟩).real)⟩
theorem val_trunc(w:World):ValFn w 132 (wW .zero):=.inl ⟨enters_of func132 (by kernel_rfl) rfl,fun i h0 h1 W _=>calls_below (trunc_any (pat i) W (is_pat ⟨h0,h1⟩).real)⟩
theorem val_even(w:World):ValFn w 135 (wW .even):=.inr fun i h0 h1 W=>(run_arch (pat i) (is_pat ⟨h0,h1⟩).real W).2.2.2
section
variable (c1 c2 x y:Nat) (w:World) (hc1:L64 c1) (hc2:L64 c2) (hx:L64 x) (hy:L64 y)
include hc1 hc2 hx hy
theorem floorrev_any:Rt 55 #[Zf c1 c2,Zf x y] (Zf (pat (stq 1 (rd c1 c2) (rd x y)).1) (pat (stq 1 (rd c1 c2) (rd x y)).2)) w:=
 floor_walk c1 c2 x y _ _ w fun W B hB=>step_idx _ _ _ _ _ _ _ _ _ c1 c2 x y W hc1 hc2 hx hy (wW_idx .down) (val_floor W)
  ⟨enters_of func126 (by kernel_rfl) rfl,enters_of func194 (by kernel_rfl) rfl,itself_low W,behind_fn 1 (b:=4607182418800017408) (by have:=M_val;omega) (fun A=>by rw [fl_one];rfl) hB⟩
theorem ceilrev_any:Rt 56 #[Zf c1 c2,Zf x y] (Zf (pat (stq 2 (rd c1 c2) (rd x y)).1) (pat (stq 2 (rd c1 c2) (rd x y)).2)) w:=
 ceil_walk c1 c2 x y _ _ w fun W B hB=>step_idx _ _ _ _ _ _ _ _ _ c1 c2 x y W hc1 hc2 hx hy (wW_idx .up) (val_ceil W)
  ⟨enters_of func197 (by kernel_rfl) rfl,enters_of func126 (by kernel_rfl) rfl,ahead_fn 2 (b:=4607182418800017408) (by have:=M_val;omega) (fun A=>by rw [fl_one];rfl) hB,itself_up W⟩
theorem truncrev_any:Rt 57 #[Zf c1 c2,Zf x y] (Zf (pat (stq 3 (rd c1 c2) (rd x y)).1) (pat (stq 3 (rd c1 c2) (rd x y)).2)) w:=
 trunc_walk c1 c2 x y _ _ w fun W=>step_idx _ _ _ _ _ _ _ _ _ c1 c2 x y W hc1 hc2 hx hy (wW_idx .zero) (val_trunc W)
  ⟨enters_of func130 (by kernel_rfl) rfl,enters_of func131 (by kernel_rfl) rfl,trunc_low W,trunc_up W⟩
theorem evenrev_any:Rt 59 #[Zf c1 c2,Zf x y] (Zf (pat (stq 4 (rd c1 c2) (rd x y)).1) (pat (stq 4 (rd c1 c2) (rd x y)).2)) w:=
 even_walk c1 c2 x y _ _ w fun W B0 B1 h0 h1=>step_idx _ _ _ _ _ _ _ _ _ c1 c2 x y W hc1 hc2 hx hy (wW_idx .even) (val_even W)
  ⟨enters_of func197 (by kernel_rfl) rfl,enters_of func194 (by kernel_rfl) rfl,ahead_fn 4 (b:=4602678819172646912) (by have:=M_val;omega) (fun A=>by rw [fl_half];rfl) h0,behind_fn 4 (b:=4602678819172646912) (by have:=M_val;omega) (fun A=>by rw [fl_half];rfl) h1⟩
end
end
end Go.Proofs.YthlmlmfebpjgdaaGreatDoor
