/-
Lemmas for the statement: Step3T SgnT SgnL ClS RndwP RndwT ValT OpvI SubsT FadT.
-/
import Derived.Test.YthlmlmfebpjgdaaGreatDoorM19
import Derived.Shelf.Abstract
import Derived.Test.YthlmlmfebpjgdaaGreatDoorM18
import Derived.Deep.DeepCutAuto
import Derived.Test.YthlmlmfebpjgdaaGreatDoorM02
import Derived.Test.YthlmlmfebpjgdaaGreatDoorM10
import Derived.Test.YthlmlmfebpjgdaaGreatDoorM13
import Derived.Test.YthlmlmfebpjgdaaGreatDoorM14
import Derived.Test.YthlmlmfebpjgdaaGreatDoorM03
import Derived.Deep.CutRange
import Derived.Deep.CutBlock
set_option linter.unusedSimpArgs false
set_option linter.unusedVariables false
set_option maxHeartbeats 12800000
namespace Go.Proofs.YthlmlmfebpjgdaaGreatDoor
section
open Go.RowKit
theorem fl_one:fl 4607182418800017408=1:=by decide +kernel
theorem fl_half:fl 4602678819172646912=1/2:=by decide +kernel
theorem pat_one:pat 4607182418800017408=4607182418800017408:=rfl
theorem pat_mone:pat (-4607182418800017408)=13830554455654793216:=rfl
theorem ahead_eq(w:Nat){b i:Int}(hb:-(M:Int)<b/\b<M)(hL:∀ A:Int,bL w A=A - fl b)(h0:-(M:Int)<=i)(h1:i<M):ad (-1) (wh 2 i) (-b)=FL w (wh 2 i):=by
 have hM:=M_val
 rcases FLc w h0 h1 with ⟨k,h⟩ | ⟨k1,k2,k3,h⟩
 ·rw [h,k];unfold ad;rw [if_pos (.inr rfl)]
 ·rw [h];unfold ad;rw [if_neg (by omega),if_neg (by omega),k1,fl_neg,hL,Rat.sub_eq_add_neg]
theorem behind_eq(w:Nat){b i:Int}(hb:-(M:Int)<b/\b<M)(hU:∀ A:Int,bU w A=A+fl b)(h0:-(M:Int)<i)(h1:i<=M):ad 1 (wh 1 i) b=TU w (wh 1 i):=by
 have hM:=M_val
 rcases TUc w h0 h1 with ⟨k,h⟩ | ⟨k1,k2,k3,h⟩
 ·rw [h,k];unfold ad;rw [if_pos (.inl rfl)]
 ·rw [h];unfold ad;rw [if_neg (by omega),if_neg (by omega),k1,hU]
theorem rsub_k{b i:Int}(w:Nat)(hb:-(M:Int)<b/\b<M)(hL:∀ A:Int,bL w A=A - fl b)(h0:-(M:Int)<=i)(h1:i<M)(W:World):
  Rt 84 #[.int .i64 (-1),.float .f64 (pat (wh 2 i)),.float .f64 (pat b)] (.float .f64 (pat (FL w (wh 2 i)))) W:=by
 have hM:=M_val;have r:=wh_rng (w:=2) (by omega) (i:=i) (by omega);have h:=rsub_pat (-1) (wh 2 i) b W (.inl rfl) (by omega) (by omega) (by unfold NoCl;omega);rw [ahead_eq w hb hL h0 h1] at h
 exact h
theorem radd_k{b i:Int}(w:Nat)(hb:-(M:Int)<b/\b<M)(hU:∀ A:Int,bU w A=A+fl b)(h0:-(M:Int)<i)(h1:i<=M)(W:World):
  Rt 139 #[.int .i64 1,.float .f64 (pat (wh 1 i)),.float .f64 (pat b)] (.float .f64 (pat (TU w (wh 1 i)))) W:=by
 have hM:=M_val;have r:=wh_rng (w:=1) (by omega) (i:=i) (by omega);have h:=radd_pat 1 (wh 1 i) b W (.inr rfl) (by omega) (by omega) (by unfold NoCl;omega);rw [behind_eq w hb hU h0 h1] at h
 exact h
theorem ahead_fn(w:Nat){b:Int}(hb:-(M:Int)<b/\b<M)(hL:∀ A:Int,bL w A=A - fl b){W0:World}{B:Nat}(hc:Cap W0 B (pat b)):
  ∀ i,-(M:Int)<=i->i<M->(-(M:Int)<=FL w (wh 2 i)/\FL w (wh 2 i)<=M)/\∀ W,Below W0.heap.size W0 W->Calls Tryz.prog 197 (#[.float .f64 (pat (wh 2 i))] ++ #[.pointer (some ⟨B,0,none⟩)]) W fun e w'=>e=.returned (.float .f64 (pat (FL w (wh 2 i))))/\Below W.heap.size W w':=
 fun _ h0 h1=>⟨FL_rng w h0 h1,fun W hW=>ahead1 _ _ _ B W (hc.below hW).1 (rsub_k w hb hL h0 h1)⟩
theorem behind_fn(w:Nat){b:Int}(hb:-(M:Int)<b/\b<M)(hU:∀ A:Int,bU w A=A+fl b){W0:World}{B:Nat}(hc:Cap W0 B (pat b)):
  ∀ i,-(M:Int)<i->i<=M->(-(M:Int)<=TU w (wh 1 i)/\TU w (wh 1 i)<=M)/\∀ W,Below W0.heap.size W0 W->Calls Tryz.prog 194 (#[.float .f64 (pat (wh 1 i))] ++ #[.pointer (some ⟨B,0,none⟩)]) W fun e w'=>e=.returned (.float .f64 (pat (TU w (wh 1 i))))/\Below W.heap.size W w':=
 fun _ h0 h1=>⟨TU_rng w h0 h1,fun W hW=>behind1 _ _ _ B W (hc.below hW).1 (radd_k w hb hU h0 h1)⟩
theorem FL_one{i:Int}(h0:-(M:Int)<=i)(h1:i<M):FL 1 (wh 2 i)=wh 2 i:=by
 rcases FLc 1 h0 h1 with ⟨k,h⟩ | ⟨k1,k2,k3,h⟩
 ·rw [h,k]
 ·rw [h,show bL 1 (fl i).ceil=((fl i).ceil:Rat) from rfl,<- k1,rndI_fl (.inl rfl) k2 k3]
theorem TU_two{i:Int}(h0:-(M:Int)<i)(h1:i<=M):TU 2 (wh 1 i)=wh 1 i:=by
 rcases TUc 2 h0 h1 with ⟨k,h⟩ | ⟨k1,k2,k3,h⟩
 ·rw [h,k]
 ·rw [h,show bU 2 (fl i).floor=((fl i).floor:Rat) from rfl,<- k1,rndI_fl (.inr rfl) k2 k3]
theorem itself_low(W0:World):∀ i,-(M:Int)<=i->i<M->(-(M:Int)<=FL 1 (wh 2 i)/\FL 1 (wh 2 i)<=M)/\∀ W,Below W0.heap.size W0 W->Calls Tryz.prog 126 (#[.float .f64 (pat (wh 2 i))] ++ #[]) W fun e w'=>e=.returned (.float .f64 (pat (FL 1 (wh 2 i))))/\Below W.heap.size W w':=
 fun i h0 h1=>⟨FL_rng 1 h0 h1,fun W _=>by rw [FL_one h0 h1];exact itself_any _ W⟩
theorem itself_up(W0:World):∀ i,-(M:Int)<i->i<=M->(-(M:Int)<=TU 2 (wh 1 i)/\TU 2 (wh 1 i)<=M)/\∀ W,Below W0.heap.size W0 W->Calls Tryz.prog 126 (#[.float .f64 (pat (wh 1 i))] ++ #[]) W fun e w'=>e=.returned (.float .f64 (pat (TU 2 (wh 1 i))))/\Below W.heap.size W w':=
 fun i h0 h1=>⟨TU_rng 2 h0 h1,fun W _=>by rw [TU_two h0 h1];exact itself_any _ W⟩
theorem wh_sign{w:Nat}(hw:1<=w){i:Int}(h:-(M:Int)<i/\i<M){z:Int}(hz:fl (wh w i)=(z:Rat)):(0<wh w i↔0<z)/\(wh w i<0↔z<0):=by
 have e0:fl 0=((0:Int):Rat):=fl_zero
 constructor
 ·rw [<- fl_lt_iff,e0,hz,Rat.intCast_lt_intCast]
 ·rw [<- fl_lt_iff,e0,hz,Rat.intCast_lt_intCast]
theorem trunc_low(W0:World):∀ i,-(M:Int)<=i->i<M->(-(M:Int)<=FL 3 (wh 2 i)/\FL 3 (wh 2 i)<=M)/\∀ W,Below W0.heap.size W0 W->Calls Tryz.prog 130 (#[.float .f64 (pat (wh 2 i))] ++ #[]) W fun e w'=>e=.returned (.float .f64 (pat (FL 3 (wh 2 i))))/\Below W.heap.size W w':=by
 intro i h0 h1;have hM:=M_val;refine⟨FL_rng 3 h0 h1,fun W _=>?_⟩;have r:=wh_rng (w:=2) (by omega) (i:=i) (by omega);have i1:=is_pat (i:=wh 2 i) ⟨r.1,r.2.1⟩;have i0:=is_pat (i:=0) (by omega)
 by_cases c:0<wh 2 i
 ·have e:FL 3 (wh 2 i)=wh 2 i:=by
   rcases FLc 3 h0 h1 with ⟨k,h⟩ | ⟨k1,k2,k3,h⟩
   ·omega
   ·have hz:=(wh_sign (w:=2) (by omega) (i:=i) (by
     refine⟨?_,h1⟩
     rcases Int.lt_or_eq_of_le h0 with q | q
     ·exact q
     ·rw [<- q,wh_min] at k2;omega) k1).1.1 c
    rw [h,show bL 3 (fl i).ceil=if 0<(fl i).ceil then ((fl i).ceil:Rat) else (fl i).ceil - 1 from rfl,if_pos hz,<- k1,rndI_fl (.inl rfl) k2 k3]
  rw [e]
  exact truncfrom_pos _ W (gt_true i1 i0 c)
 ·have e:∀ W,Rt 84 #[.int .i64 (-1),.float .f64 (pat (wh 2 i)),.float .f64 4607182418800017408] (.float .f64 (pat (FL 3 (wh 2 i)))) W:=by
   intro W
   have e2:FL 3 (wh 2 i)=FL 2 (wh 2 i):=by
    rcases FLc 3 h0 h1 with ⟨k,h⟩ | ⟨k1,k2,k3,h⟩
    ·rcases FLc 2 h0 h1 with ⟨k',h'⟩ | ⟨k1',k2',k3',h'⟩
     ·rw [h,h']
     ·omega
    ·rcases FLc 2 h0 h1 with ⟨k',h'⟩ | ⟨k1',k2',k3',h'⟩
     ·omega
     ·have hz:=mt (wh_sign (w:=2) (by omega) (i:=i) (by
       refine⟨?_,h1⟩
       rcases Int.lt_or_eq_of_le h0 with q | q
       ·exact q
       ·rw [<- q,wh_min] at k2;omega) k1).1.2 c
      rw [h,h',show bL 3 (fl i).ceil=if 0<(fl i).ceil then ((fl i).ceil:Rat) else (fl i).ceil - 1 from rfl,if_neg hz]
      rfl
   rw [e2]
   exact rsub_k 2 (b:=4607182418800017408) (by omega) (fun A=>by rw [fl_one];rfl) h0 h1 W
  have o:=order_is i1 i0;refine truncfrom_neg _ _ _ W o ?_ e
  rcases Int.lt_or_eq_of_le (show wh 2 i<=0 by omega) with k | k
  ·exact .inl (Int.compare_eq_lt.2 k)
  ·exact .inr (Int.compare_eq_eq.2 k)
theorem trunc_up(W0:World):∀ i,-(M:Int)<i->i<=M->(-(M:Int)<=TU 3 (wh 1 i)/\TU 3 (wh 1 i)<=M)/\∀ W,Below W0.heap.size W0 W->Calls Tryz.prog 131 (#[.float .f64 (pat (wh 1 i))] ++ #[]) W fun e w'=>e=.returned (.float .f64 (pat (TU 3 (wh 1 i))))/\Below W.heap.size W w':=by
 intro i h0 h1;have hM:=M_val;refine⟨TU_rng 3 h0 h1,fun W _=>?_⟩;have r:=wh_rng (w:=1) (by omega) (i:=i) (by omega);have i1:=is_pat (i:=wh 1 i) ⟨r.1,r.2.1⟩;have i0:=is_pat (i:=0) (by omega)
 have fin:wh 1 i<M->i<M:=fun h=>by
  rcases Int.lt_or_eq_of_le h1 with q | q
  ·exact q
  ·rw [q,wh_max] at h;omega
 by_cases c:wh 1 i<0
 ·have e:TU 3 (wh 1 i)=wh 1 i:=by
   rcases TUc 3 h0 h1 with ⟨k,h⟩ | ⟨k1,k2,k3,h⟩
   ·omega
   ·have hz:=(wh_sign (w:=1) (by omega) (i:=i) ⟨h0,fin k3⟩ k1).2.1 c;rw [h,show bU 3 (fl i).floor=if (fl i).floor<0 then ((fl i).floor:Rat) else (fl i).floor+1 from rfl,if_pos hz,<- k1,rndI_fl (.inr rfl) k2 k3]
  rw [e]
  exact truncto_neg _ W (lt_true i1 i0 c)
 ·have e:∀ W,Rt 139 #[.int .i64 1,.float .f64 (pat (wh 1 i)),.float .f64 4607182418800017408] (.float .f64 (pat (TU 3 (wh 1 i)))) W:=by
   intro W
   have e2:TU 3 (wh 1 i)=TU 1 (wh 1 i):=by
    rcases TUc 3 h0 h1 with ⟨k,h⟩ | ⟨k1,k2,k3,h⟩
    ·rcases TUc 1 h0 h1 with ⟨k',h'⟩ | ⟨k1',k2',k3',h'⟩
     ·rw [h,h']
     ·omega
    ·rcases TUc 1 h0 h1 with ⟨k',h'⟩ | ⟨k1',k2',k3',h'⟩
     ·omega
     ·have hz:=mt (wh_sign (w:=1) (by omega) (i:=i) ⟨h0,fin k3⟩ k1).2.2 c;rw [h,h',show bU 3 (fl i).floor=if (fl i).floor<0 then ((fl i).floor:Rat) else (fl i).floor+1 from rfl,if_neg hz]
      rfl
   rw [e2]
   exact radd_k 1 (b:=4607182418800017408) (by omega) (fun A=>by rw [fl_one];rfl) h0 h1 W
  have o:=order_is i1 i0;refine truncto_pos _ _ _ W o ?_ e
  rcases Int.lt_or_eq_of_le (show 0<=wh 1 i by omega) with k | k
  ·exact .inl (Int.compare_eq_gt.2 k)
  ·exact .inr (Int.compare_eq_eq.2 k.symm)
theorem calls_below{W:World}{f:FuncId}{b r:Nat}(h:Calls Tryz.prog f #[.float .f64 b] W fun e w'=>e=.returned (.float .f64 r)/\W=w'):Calls Tryz.prog f #[.float .f64 b] W fun e w'=>e=.returned (.float .f64 r)/\Below W.heap.size W w':=h.mono fun _ _ ⟨a,b⟩=>⟨a,b ▸ Below.refl _ _⟩
theorem wW_idx(way:Ieee.Toward)(i:Int)(h0:-(M:Int)<=i)(h1:i<=M):Is (wW way (pat i)) (wh (kW way) i):=by
 have h:=wW_is way (is_pat ⟨h0,h1⟩).real
 rwa [idx_pat h0 h1] at h
theorem val_floor(w:World):ValFn w 125 (wW .down):=.inl ⟨enters_of Tryz.func125 (by kernel_rfl) rfl,fun i h0 h1 W _=>calls_below (floor_any (pat i) W (is_pat ⟨h0,h1⟩).real)⟩
theorem val_ceil(w:World):ValFn w 128 (wW .up):=.inl ⟨enters_of Tryz.func128 (by kernel_rfl) rfl,fun i h0 h1 W _=>calls_below (ceil_any (pat i) W (is_pat ⟨h0,h1⟩).real)⟩
theorem val_trunc(w:World):ValFn w 132 (wW .zero):=.inl ⟨enters_of Tryz.func132 (by kernel_rfl) rfl,fun i h0 h1 W _=>calls_below (trunc_any (pat i) W (is_pat ⟨h0,h1⟩).real)⟩
theorem val_even(w:World):ValFn w 135 (wW .even):=.inr fun i h0 h1 W=>(run_arch (pat i) (is_pat ⟨h0,h1⟩).real W).2.2.2
section
variable (c1 c2 x y:Nat) (w:World) (hc1:c1<18446744073709551616) (hc2:c2<18446744073709551616) (hx:x<18446744073709551616) (hy:y<18446744073709551616)
include hc1 hc2 hx hy
theorem floorrev_any:Rt 55 #[Zf c1 c2,Zf x y] (Zf (pat (stq 1 (rd c1 c2) (rd x y)).1) (pat (stq 1 (rd c1 c2) (rd x y)).2)) w:=
 floor_walk c1 c2 x y _ _ w fun W B hB=>step_idx _ _ _ _ _ _ _ _ _ c1 c2 x y W hc1 hc2 hx hy (wW_idx .down) (val_floor W)
  ⟨enters_of Tryz.func126 (by kernel_rfl) rfl,enters_of Tryz.func194 (by kernel_rfl) rfl,itself_low W,behind_fn 1 (b:=4607182418800017408) (by have:=M_val;omega) (fun A=>by rw [fl_one];rfl) hB⟩
theorem ceilrev_any:Rt 56 #[Zf c1 c2,Zf x y] (Zf (pat (stq 2 (rd c1 c2) (rd x y)).1) (pat (stq 2 (rd c1 c2) (rd x y)).2)) w:=
 ceil_walk c1 c2 x y _ _ w fun W B hB=>step_idx _ _ _ _ _ _ _ _ _ c1 c2 x y W hc1 hc2 hx hy (wW_idx .up) (val_ceil W)
  ⟨enters_of Tryz.func197 (by kernel_rfl) rfl,enters_of Tryz.func126 (by kernel_rfl) rfl,ahead_fn 2 (b:=4607182418800017408) (by have:=M_val;omega) (fun A=>by rw [fl_one];rfl) hB,itself_up W⟩
theorem truncrev_any:Rt 57 #[Zf c1 c2,Zf x y] (Zf (pat (stq 3 (rd c1 c2) (rd x y)).1) (pat (stq 3 (rd c1 c2) (rd x y)).2)) w:=
 trunc_walk c1 c2 x y _ _ w fun W=>step_idx _ _ _ _ _ _ _ _ _ c1 c2 x y W hc1 hc2 hx hy (wW_idx .zero) (val_trunc W)
  ⟨enters_of Tryz.func130 (by kernel_rfl) rfl,enters_of Tryz.func131 (by kernel_rfl) rfl,trunc_low W,trunc_up W⟩
theorem evenrev_any:Rt 59 #[Zf c1 c2,Zf x y] (Zf (pat (stq 4 (rd c1 c2) (rd x y)).1) (pat (stq 4 (rd c1 c2) (rd x y)).2)) w:=
 even_walk c1 c2 x y _ _ w fun W B0 B1 h0 h1=>step_idx _ _ _ _ _ _ _ _ _ c1 c2 x y W hc1 hc2 hx hy (wW_idx .even) (val_even W)
  ⟨enters_of Tryz.func197 (by kernel_rfl) rfl,enters_of Tryz.func194 (by kernel_rfl) rfl,ahead_fn 4 (b:=4602678819172646912) (by have:=M_val;omega) (fun A=>by rw [fl_half];rfl) h0,behind_fn 4 (b:=4602678819172646912) (by have:=M_val;omega) (fun A=>by rw [fl_half];rfl) h1⟩
end
end
section
open Go.RowKit
def sgI(i:Int):Int:=if 0<i then 4607182418800017408 else if i<0 then -4607182418800017408 else 0
def sgF(k:Int):Int:=if k=-4607182418800017408 then -(M:Int) else 0
def sgT(k:Int):Int:=if k=4607182418800017408 then (M:Int) else 0
def sgW(b:Nat):Nat:=if 0<idx b then 4607182418800017408 else if idx b<0 then 13830554455654793216 else 0
def sgq(c x:Int × Int):Int × Int:=stp sgI sgF sgT (it c.1 c.2 (-4607182418800017408) 4607182418800017408) x
theorem sgW_is(i:Int)(h0:-(M:Int)<=i)(h1:i<=M):Is (sgW (pat i)) (sgI i):=by
 have hM:=M_val;unfold sgW sgI;rw [idx_pat h0 h1]
 by_cases c:0<i
 ·rw [if_pos c,if_pos c];exact is_pat (i:=4607182418800017408) (by omega)
 ·rw [if_neg c,if_neg c]
  by_cases d:i<0
  ·rw [if_pos d,if_pos d];exact is_pat (i:=-4607182418800017408) (by omega)
  ·rw [if_neg d,if_neg d];exact is_pat (i:=0) (by omega)
theorem val_sign(w:World):ValFn w 121 sgW:=by
 refine .inl ⟨enters_of Tryz.func121 (by kernel_rfl) rfl,fun i h0 h1 W _=>?_⟩;have hM:=M_val;have o:=order_is (is_pat ⟨h0,h1⟩) (is_pat (i:=0) (by omega));rw [pat_zero] at o;unfold sgW;rw [idx_pat h0 h1]
 rcases Int.lt_trichotomy i 0 with c | c | c
 ·rw [Int.compare_eq_lt.2 c] at o;have h:=sign1 (pat i) _ W o;rw [if_neg (by omega),if_pos c];exact h
 ·rw [Int.compare_eq_eq.2 c] at o;have h:=sign1 (pat i) _ W o;rw [if_neg (by omega),if_neg (by omega)];exact h
 ·rw [Int.compare_eq_gt.2 c] at o;have h:=sign1 (pat i) _ W o;rw [if_pos c];exact h
theorem eq_false{a b:Nat}{i j:Int}(ha:Is a i)(hb:Is b j)(h:i≠j):(FloatKind.f64.format.order a b == some Ordering.eq)=false:=by
 rw [order_is ha hb]
 rcases Int.lt_or_gt_of_ne h with k | k
 ·rw [Int.compare_eq_lt.2 k];rfl
 ·rw [Int.compare_eq_gt.2 k];rfl
theorem side_low{W0:World}{B:Nat}(hc:Cap W0 B 13830554455654793216):
  ∀ i,-(M:Int)<=i->i<M->(-(M:Int)<=sgF (wh 2 i)/\sgF (wh 2 i)<=M)/\∀ W,Below W0.heap.size W0 W->Calls Tryz.prog 123 (#[.float .f64 (pat (wh 2 i))] ++ #[.pointer (some ⟨B,0,none⟩)]) W fun e w'=>e=.returned (.float .f64 (pat (sgF (wh 2 i))))/\Below W.heap.size W w':=by
 intro i h0 h1;have hM:=M_val;have r:=wh_rng (w:=2) (by omega) (i:=i) (by omega);refine⟨by unfold sgF;split<;>omega,fun W hW=>?_⟩
 by_cases c:wh 2 i=-4607182418800017408
 ·unfold sgF;rw [if_pos c,c,pat_min]
  exact side1_down B W (hc.below hW).1
 ·unfold sgF;rw [if_neg c,pat_zero]
  exact side1_no _ _ B W (hc.below hW).1 (eq_false (is_pat ⟨r.1,r.2.1⟩) (pat_mone ▸ is_pat (i:=-4607182418800017408) (by omega)) c)
theorem side_up{W0:World}{B:Nat}(hc:Cap W0 B 4607182418800017408):
  ∀ i,-(M:Int)<i->i<=M->(-(M:Int)<=sgT (wh 1 i)/\sgT (wh 1 i)<=M)/\∀ W,Below W0.heap.size W0 W->Calls Tryz.prog 123 (#[.float .f64 (pat (wh 1 i))] ++ #[.pointer (some ⟨B,0,none⟩)]) W fun e w'=>e=.returned (.float .f64 (pat (sgT (wh 1 i))))/\Below W.heap.size W w':=by
 intro i h0 h1;have hM:=M_val;have r:=wh_rng (w:=1) (by omega) (i:=i) (by omega);refine⟨by unfold sgT;split<;>omega,fun W hW=>?_⟩
 by_cases c:wh 1 i=4607182418800017408
 ·unfold sgT;rw [if_pos c,c,pat_max]
  exact side1_up B W (hc.below hW).1
 ·unfold sgT;rw [if_neg c,pat_zero]
  exact side1_no _ _ B W (hc.below hW).1 (eq_false (is_pat ⟨r.1,r.2.1⟩) (pat_one ▸ is_pat (i:=4607182418800017408) (by omega)) c)
theorem unit_iv:Iv (-4607182418800017408) 4607182418800017408:=by unfold Iv;have:=M_val;omega
theorem signrev_any(c1 c2 x y:Nat)(w:World)(hc1:c1<18446744073709551616)(hc2:c2<18446744073709551616)(hx:x<18446744073709551616)(hy:y<18446744073709551616):
  Rt 54 #[Zf c1 c2,Zf x y] (Zf (pat (sgq (rd c1 c2) (rd x y)).1) (pat (sgq (rd c1 c2) (rd x y)).2)) w:=by
 have v:=it_iv (rd_iv c1 c2) unit_iv;refine sign_walk c1 c2 x y _ _ _ _ w (fun W=>inter_gen _ _ _ _ c1 c2 13830554455654793216 4607182418800017408 W (rd_iv c1 c2) unit_iv (fun W=>readf c1 c2 W hc1 hc2) (fun W=>readf_idx _ _ W unit_iv)) fun W B0 B1 h0 h1=>?_
 have h:=step_idx 121 123 123 #[.pointer (some ⟨B0,0,none⟩)] #[.pointer (some ⟨B1,0,none⟩)] sgW sgI sgF sgT _ _ x y W (pat_lt v.lo.1 v.lo.2) (pat_lt v.hi.1 v.hi.2) hx hy sgW_is (val_sign W)
  ⟨enters_of Tryz.func123 (by kernel_rfl) rfl,enters_of Tryz.func123 (by kernel_rfl) rfl,side_low h0,side_up h1⟩
 rw [rd_pat v] at h
 exact h
end
section
open Go.RowKit
theorem es_at0:es 0=0:=by decide
theorem ex_at0:ex 0=0:=by unfold ex;rw [if_pos es_at0,fl_zero]
theorem pf_idx{b1 b2:Int}{o1 o2:Bool}{i j:Int}(h1:b1=0\/b1=-(M:Int))(h2:b2=0\/b2=M)(hx:-(M:Int)<=i/\i<=j/\j<=M/\i<M/\-(M:Int)<j):
  pf (es b1) 0 o1 (es b2) 0 o2 i j=if b2<i\/(i=b2/\o2=true)\/j<b1\/(j=b1/\o1=true) then ((M:Int),-(M:Int)) else (if i<b1 then 0 else i,if b2<j then 0 else j):=by
 have hM:=M_val
 have x1:ex b1=0:=by rcases h1 with rfl | rfl;exact ex_at0;exact ex_min
 have x2:ex b2=0:=by rcases h2 with rfl | rfl;exact ex_at0;exact ex_max
 have a1:=ec_idx (i:=i) (b:=b2) (by omega) (by omega) (by omega) (by omega);have a2:=ec_idx (i:=j) (b:=b1) (by omega) (by omega) (by omega) (by omega);have a3:=ec_idx (i:=i) (b:=b1) (by omega) (by omega) (by omega) (by omega);have a4:=ec_idx (i:=j) (b:=b2) (by omega) (by omega) (by omega) (by omega);rw [x1] at a2 a3;rw [x2] at a1 a4;unfold SameSign at a1 a2 a3 a4;unfold pf wg;rw [if_neg (by omega),rndI_zero (.inl rfl),rndI_zero (.inr rfl)]
 have c:(0<ec (es i) (ex i) (es b2) 0\/ec (es i) (ex i) (es b2) 0=0/\o2=true\/ec (es j) (ex j) (es b1) 0<0\/ec (es j) (ex j) (es b1) 0=0/\o1=true)↔(b2<i\/(i=b2/\o2=true)\/j<b1\/(j=b1/\o1=true)):=by
  have e1:ec (es i) (ex i) (es b2) 0=0↔i=b2:=by omega
  have e2:ec (es j) (ex j) (es b1) 0=0↔j=b1:=by omega
  have e3:0<ec (es i) (ex i) (es b2) 0↔b2<i:=by omega
  have e4:ec (es j) (ex j) (es b1) 0<0↔j<b1:=by omega
  rw [e1,e2,e3,e4]
 by_cases h:b2<i\/(i=b2/\o2=true)\/j<b1\/(j=b1/\o1=true)
 ·rw [if_pos (c.2 h),if_pos h]
 ·rw [if_neg (mt c.1 h),if_neg h]
  have e3:ec (es i) (ex i) (es b1) 0<0↔i<b1:=by omega
  have e4:0<ec (es j) (ex j) (es b2) 0↔b2<j:=by omega
  refine Prod.ext ?_ ?_
  ·show (if _ then (0:Int) else i)=if _ then 0 else i
   by_cases k:i<b1
   ·rw [if_pos (e3.2 k),if_pos k]
   ·rw [if_neg (mt e3.1 k),if_neg k]
  ·show (if _ then (0:Int) else j)=if _ then 0 else j
   by_cases k:b2<j
   ·rw [if_pos (e4.2 k),if_pos k]
   ·rw [if_neg (mt e4.1 k),if_neg k]
def unI(k:Int):Int:=if 0<k then 4607182418800017408 else if k<0 then -4607182418800017408 else 0
theorem fl_unI{k:Int}(h:-1<=k/\k<=1):fl (unI k)=(k:Rat):=by
 have hk:k=-1\/k=0\/k=1:=by omega
 rcases hk with rfl | rfl | rfl
 ·show fl (-4607182418800017408)=_
  rw [fl_neg,fl_one];rfl
 ·exact fl_zero
 ·exact fl_one
theorem sgn_pf{d1 d2 i j k1 k2:Int}(hw1:wh 2 d1=unI k1)(hw2:wh 1 d2=unI k2)(hk:-1<=k1/\k1<=k2/\k2<=1)(hd:¬ d2<d1)(hx:-(M:Int)<=i/\i<=j/\j<=M/\i<M/\-(M:Int)<j):
  stp sgI sgF sgT (d1,d2) (i,j)=pf (if k1<0 then -1 else 0) 0 (decide (k1≠0)) (if 0<k2 then 1 else 0) 0 (decide (k2≠0)) i j:=by
 have hM:=M_val
 have e1:(if k1<0 then (-1:Int) else 0)=es (if k1<0 then -(M:Int) else 0):=by split;rw [es_min];rw [es_at0]
 have e2:(if 0<k2 then (1:Int) else 0)=es (if 0<k2 then (M:Int) else 0):=by split;rw [es_max];rw [es_at0]
 rw [e1,e2,pf_idx (by split<;>simp) (by split<;>simp) hx];unfold stp
 dsimp only
 rw [if_neg (show ¬ (d2<d1\/j<i) by omega),hw1,hw2]
 have a1:k1=-1\/k1=0\/k1=1:=by omega
 have a2:k2=-1\/k2=0\/k2=1:=by omega
 have u1:unI 1=4607182418800017408:=rfl;have u2:unI (-1)=-4607182418800017408:=rfl;have u3:unI 0=0:=rfl
 rcases a1 with rfl | rfl | rfl<;>rcases a2 with rfl | rfl | rfl<;>first | (exfalso;omega) | skip
 all_goals
  simp only [u1,u2,u3,sgF,sgT,sgI]
  by_cases p1:0<i<;>by_cases p2:i<0<;>by_cases p3:0<j<;>by_cases p4:j<0<;>first | (exfalso;omega) | skip
 all_goals
  (try simp only [p1,p2,p3,p4,if_true,if_false,reduceIte,true_or,or_true,Int.reduceEq,Int.reduceNeg,Int.reduceLT,ne_eq,not_true,not_false_eq_true,decide_true,decide_false,Bool.false_eq_true,and_false,and_true,or_false,false_or])
 all_goals (repeat' split)
 all_goals refine Prod.ext ?_ ?_
 all_goals (first | rfl | (dsimp only;first | rfl | omega) | omega)
end
theorem bL_lt_bU{w:Nat}{A B:Int}(h:A<=B):bL w A<bU w B:=by
 have e:(A:Rat)<=B:=Rat.intCast_le_intCast.2 h
 match w with
 | 0=>show (A:Rat) - 1/2<(B:Rat)+1/2;grind
 | 1=>show (A:Rat)<(B:Rat)+1;grind
 | 2=>show (A:Rat) - 1<(B:Rat);grind
 | 3=>
  show (if 0<A then (A:Rat) else A - 1)<(if B<0 then (B:Rat) else B+1)
  by_cases a:0<A
  ·rw [if_pos a,if_neg (by omega)];grind
  ·rw [if_neg a]
   split<;>grind
 | 4=>show (A:Rat) - 1/2<(B:Rat)+1/2;grind
 | w+5=>show (A:Rat) - 1/2<(B:Rat)+1/2;grind
theorem stp_void(V F T:Int->Int)(c:Int × Int)(i j:Int)(h:c.2<c.1\/j<i):stp V F T c (i,j)=((M:Int),-(M:Int)):=by
 unfold stp;rw [if_pos h]
theorem stp_void2(V F T:Int->Int)(c:Int × Int)(i j:Int)(h:wh 1 c.2<wh 2 c.1):stp V F T c (i,j)=((M:Int),-(M:Int)):=by
 unfold stp
 split
 ·rfl
 ·rw [if_pos (.inl h)]
theorem Cl.stq{w:Nat}(hw:1<=w){ci cj:Int}(hc:Iv ci cj):Cl fun i j=>Go.Proofs.YthlmlmfebpjgdaaGreatDoor.stq w (ci,cj) (i,j):=by
 have hM:=M_val
 by_cases e:cj<ci
 ·exact Cl.none.congr fun i j _=>stp_void _ _ _ _ _ _ (.inl e)
 by_cases hne:wh 1 cj<wh 2 ci
 ·exact Cl.none.congr fun i j _=>stp_void2 _ _ _ _ _ _ hne
 have n:=ne_or hc e;unfold Ne at n
 obtain⟨s1,x1,o1,h1⟩:∃ (s1:Int) (x1:Rat) (o1:Bool),(s1=-1/\ci=-(M:Int)\/s1=0/\-(M:Int)<ci/\x1=bL w (fl ci).ceil/\o1=oL w (fl ci).ceil):=by
  by_cases k:ci=-(M:Int)
  ·exact⟨-1,0,false,.inl ⟨rfl,k⟩⟩
  ·exact⟨0,_,_,.inr ⟨rfl,by omega,rfl,rfl⟩⟩
 obtain⟨s2,x2,o2,h2⟩:∃ (s2:Int) (x2:Rat) (o2:Bool),(s2=1/\cj=M\/s2=0/\cj<M/\x2=bU w (fl cj).floor/\o2=oU w (fl cj).floor):=by
  by_cases k:cj=M
  ·exact⟨1,0,false,.inl ⟨rfl,k⟩⟩
  ·exact⟨0,_,_,.inr ⟨rfl,by omega,rfl,rfl⟩⟩
 refine (Cl.pf (s1:=s1) (s2:=s2) (o1:=o1) (o2:=o2) (show s1=0\/s1=-1 by rcases h1 with h | h<;>omega) (show s2=0\/s2=1 by rcases h2 with h | h<;>omega) (x1:=x1) (x2:=x2) ?_).cut (fun i j k=>stp_pf hw n k h1 h2 hne) (fun i j k=>stp_void _ _ _ _ _ _ (.inr k));intro z1 z2
 rcases h1 with h1 | ⟨-,g1,h1,-⟩
 ·omega
 rcases h2 with h2 | ⟨-,g2,h2,-⟩
 ·omega
 left
 rw [h1,h2];have b1:=(wh_fin (w:=2) (by omega) (i:=ci) g1 (by omega)).1;have b2:=(wh_fin (w:=1) (by omega) (i:=cj) (by omega) g2).1;have l:=fl_le_iff.2 (show wh 2 ci<=wh 1 cj by omega);rw [b1,b2] at l
 exact bL_lt_bU (Rat.intCast_le_intCast.1 l)
theorem wh_unit{w:Nat}(hw:w=1\/w=2){d:Int}(h:-4607182418800017408<=d/\d<=4607182418800017408):∃ k:Int,-1<=k/\k<=1/\wh w d=unI k/\(k:Rat)=fl (wh w d):=by
 have hM:=M_val;have b:=(wh_fin (w:=w) (by omega) (i:=d) (by omega) (by omega)).1;have l1:=fl_le_iff.2 h.1;have l2:=fl_le_iff.2 h.2;rw [fl_neg,fl_one] at l1;rw [fl_one] at l2
 have inj:∀ {i j:Int},fl i=fl j->i=j:=fun {i j} e=>by
  have a:=(fl_le_iff (i:=i) (j:=j)).1 (by rw [e];exact Rat.le_refl);have b:=(fl_le_iff (i:=j) (j:=i)).1 (by rw [e];exact Rat.le_refl)
  omega
 rcases hw with rfl | rfl
 ·have k1:-1<=(fl d).floor:=Rat.le_floor_iff.2 (by rw [Rat.intCast_neg];exact l1)
  have k2:(fl d).floor<=1:=by
   have:=Rat.floor_le (fl d);have q:(((fl d).floor:Int):Rat)<=((1:Int):Rat):=Rat.le_trans this l2
   exact Rat.intCast_le_intCast.1 q
  exact⟨(fl d).floor,k1,k2,inj (b.trans (fl_unI ⟨k1,k2⟩).symm),b.symm⟩
 ·have k2:(fl d).ceil<=1:=(ceil_le_iff _ _).2 l2
  have k1:-1<=(fl d).ceil:=by
   have q:=(ceil_le_iff (fl d) (fl d).ceil).1 (Int.le_refl _);have q2:((-1:Int):Rat)<=(((fl d).ceil:Int):Rat):=Rat.le_trans (by rw [Rat.intCast_neg];exact l1) q
   exact Rat.intCast_le_intCast.1 q2
  exact⟨(fl d).ceil,k1,k2,inj (b.trans (fl_unI ⟨k1,k2⟩).symm),b.symm⟩
theorem Cl.sgq{ci cj:Int}(hc:Iv ci cj):Cl fun i j=>Go.Proofs.YthlmlmfebpjgdaaGreatDoor.sgq (ci,cj) (i,j):=by
 have hM:=M_val
 obtain⟨⟨d1,d2⟩,hd⟩:∃ d,Go.Proofs.YthlmlmfebpjgdaaGreatDoor.it ci cj (-4607182418800017408) 4607182418800017408=d:=⟨_,rfl⟩
 have ev:∀ i j,Go.Proofs.YthlmlmfebpjgdaaGreatDoor.sgq (ci,cj) (i,j)=stp sgI sgF sgT (d1,d2) (i,j):=fun i j=>by unfold Go.Proofs.YthlmlmfebpjgdaaGreatDoor.sgq;dsimp only;rw [hd]
 by_cases e:d2<d1
 ·exact Cl.none.congr fun i j _=>by rw [ev];exact stp_void _ _ _ _ _ _ (.inl e)
 have hr:-4607182418800017408<=d1/\d2<=4607182418800017408:=by
  unfold Go.Proofs.YthlmlmfebpjgdaaGreatDoor.it at hd
  split at hd
  ·have:=congrArg Prod.fst hd;have:=congrArg Prod.snd hd;dsimp only at *;omega
  ·have:=congrArg Prod.fst hd;have:=congrArg Prod.snd hd;dsimp only at *;omega
 obtain⟨k1,a1,a2,a3,a4⟩:=wh_unit (w:=2) (.inr rfl) (d:=d1) (by omega);obtain⟨k2,b1,b2,b3,b4⟩:=wh_unit (w:=1) (.inl rfl) (d:=d2) (by omega)
 by_cases hne:wh 1 d2<wh 2 d1
 ·exact Cl.none.congr fun i j _=>by rw [ev];exact stp_void2 _ _ _ _ _ _ hne
 have hk:k1<=k2:=by
  have l:=fl_le_iff.2 (show wh 2 d1<=wh 1 d2 by omega);rw [<- a4,<- b4] at l
  exact Rat.intCast_le_intCast.1 l
 refine (Cl.pf (s1:=if k1<0 then -1 else 0) (x1:=0) (o1:=decide (k1≠0)) (s2:=if 0<k2 then 1 else 0) (x2:=0) (o2:=decide (k2≠0)) (by split<;>omega) (by split<;>omega) ?_).cut (fun i j n=>by rw [ev];exact sgn_pf a3 b3 ⟨a1,hk,b2⟩ e n) (fun i j k=>by rw [ev];exact stp_void _ _ _ _ _ _ (.inr k));intro z1 z2
 have q1:¬ k1<0:=fun k=>by rw [if_pos k] at z1;omega
 have q2:¬ 0<k2:=fun k=>by rw [if_pos k] at z2;omega
 exact .inr ⟨rfl,decide_eq_false (by omega),decide_eq_false (by omega)⟩
section
open Go.RowKit Ieee
theorem and_high{a k:Nat}(ha:a<2^64)(hk:k<=64):a &&& (2^64 - 2^k)=a / 2^k*2^k:=by
 have e1:2^64 - 2^k=(2^(64 - k) - 1) <<< k:=by
  rw [Nat.shiftLeft_eq,Nat.sub_mul,<- Nat.pow_add,Nat.one_mul];congr 2;omega
 have e2:a / 2^k*2^k=(a >>> k) <<< k:=by rw [Nat.shiftLeft_eq,Nat.shiftRight_eq_div_pow]
 rw [e1,e2]
 apply Nat.eq_of_testBit_eq
 intro i;rw [Nat.testBit_and,Nat.testBit_shiftLeft,Nat.testBit_shiftLeft,Nat.testBit_shiftRight,Nat.testBit_two_pow_sub_one]
 by_cases c:k<=i
 ·rw [show k+(i - k)=i by omega]
  by_cases d:i<64
  ·simp [c,show i - k<64 - k by omega]
  ·have:a.testBit i=false:=Nat.testBit_lt_two_pow (Nat.lt_of_lt_of_le ha (Nat.pow_le_pow_right (by omega) (by omega)))
   simp [this]
 ·simp [c]
theorem wI_pos{q D H:Int}(hD:D=2*H)(hH:0<H)(hq:0<=q):wI q D=(q+H) / D:=by
 have h1:=Int.mul_ediv_add_emod q D;have h2:=Int.emod_nonneg q (show D≠0 by omega);have h3:=Int.emod_lt_of_pos q (show 0<D by omega);unfold wI;generalize q / D=Q at *;generalize q % D=r at *;rw [<- h1]
 by_cases c:H<=r
 ·rw [if_pos (by omega)]
  have:D*Q+r+H=(r+H - D)+D*(Q+1):=by rw [Int.mul_add];omega
  rw [this,Int.add_mul_ediv_left _ _ (by omega),Int.ediv_eq_zero_of_lt (by omega) (by omega)];omega
 ·rw [if_neg (by omega)]
  have:D*Q+r+H=(r+H)+D*Q:=by omega
  rw [this,Int.add_mul_ediv_left _ _ (by omega),Int.ediv_eq_zero_of_lt (by omega) (by omega)];omega
theorem wI_neg{q D H:Int}(hD:D=2*H)(hH:0<H)(hq:0<q):wI (-q) D=-((q+H) / D):=by
 rw [<- wI_pos hD hH (by omega)];obtain⟨a,b⟩:=neg_div (a:=q) (D:=D) (by omega);have h2:=Int.emod_nonneg q (show D≠0 by omega);have h3:=Int.emod_lt_of_pos q (show 0<D by omega);unfold wI;rw [a,b];generalize q / D=Q at *;generalize q % D=r at *
 by_cases c:r=0
 ·subst c
  simp only [if_true]
  rw [if_neg (by omega),if_neg (by omega)];omega
 ·rw [if_neg c,if_neg c]
  by_cases d:H<=r
  ·rw [if_neg (by omega),if_pos (by omega)];omega
  ·rw [if_pos (by omega),if_neg (by omega)];omega
theorem fl_inj{i j:Int}(h:fl i=fl j):i=j:=by
 have h1:=fl_le_iff (i:=i) (j:=j);have h2:=fl_le_iff (i:=j) (j:=i);have:=h1.1 (by rw [h];exact Rat.le_refl);have:=h2.1 (by rw [h];exact Rat.le_refl)
 omega
theorem wh_of{w:Nat}(hw:1<=w){i j:Int}(h0:-(M:Int)<i)(h1:i<M)(h:fl j=(rK w (fl i):Rat)):wh w i=j:=fl_inj ((wh_fin hw h0 h1).1.trans h.symm)
theorem fl_half':fl 4602678819172646912=1/2:=by decide +kernel
theorem fl_one':fl 4607182418800017408=1:=by decide +kernel
theorem away_small{x:Rat}(h0:-(1/2:Rat)<x)(h1:x<1/2):rK 5 x=0:=by
 have a:=(le_rK (w:=5) (by omega) 0 x).2 (.inl (by show (0:Rat) - 1/2<x;grind));have b:=(rK_le (w:=5) (by omega) 0 x).2 (.inl (by show x<(0:Rat)+1/2;grind))
 omega
theorem away_one{x:Rat}(h0:(1/2:Rat)<=x)(h1:x<1):rK 5 x=1:=by
 have a:=(le_rK (w:=5) (by omega) 1 x).2 (by
  show ((1:Rat) - 1/2<x\/x=(1:Rat) - 1/2/\decide ((1:Int)<=0)=false)
  by_cases c:x=1/2
  ·exact .inr ⟨by grind,rfl⟩
  ·exact .inl (by grind))
 have b:=(rK_le (w:=5) (by omega) 1 x).2 (.inl (by show x<(1:Rat)+1/2;grind))
 omega
theorem away_mone{x:Rat}(h0:x<=-(1/2:Rat))(h1:-1<x):rK 5 x=-1:=by
 have a:=(le_rK (w:=5) (by omega) (-1) x).2 (.inl (by show ((-1:Int):Rat) - 1/2<x;have:((-1:Int):Rat)=-1:=rfl;grind))
 have b:=(rK_le (w:=5) (by omega) (-1) x).2 (by
  show (x<((-1:Int):Rat)+1/2\/x=((-1:Int):Rat)+1/2/\decide ((0:Int)<=-1)=false)
  have e:((-1:Int):Rat)=-1:=rfl
  by_cases c:x=-(1/2)
  ·exact .inr ⟨by grind,rfl⟩
  ·exact .inl (by grind))
 omega
theorem away_mid{t k q D H:Nat}(hk:t=k*2^52+q)(hq:2^52<=q)(hq2:q<2^53)(hD:D=2*H)(hH:0<H)(hDk:D*2^k=2^1074)(hd:D ∣ 2^52):
  fl (((t+H) / D*D:Nat):Int)=(((q+H) / D:Nat):Rat)/\fl (t:Int)*(D:Int)=((q:Int):Rat):=by
 obtain⟨U,hU⟩:∃ U:Nat,U=1074:=⟨_,rfl⟩
 rw [<- hU] at hDk;obtain⟨c,hc⟩:=hd
 have hD0:0<D:=by omega
 have e1:(t+H) / D*D=k*2^52+(q+H) / D*D:=by
  have:t+H=q+H+D*(k*c):=by rw [hk,hc,show D*(k*c)=k*(D*c) by ac_rfl];omega
  rw [this,Nat.add_mul_div_left _ _ hD0,Nat.add_mul,hc]
  have:k*c*D=k*(D*c):=by ac_rfl
  omega
 have q1:2^52<=(q+H) / D*D:=by
  rw [hc,Nat.mul_comm D c];refine Nat.mul_le_mul_right _ ?_;rw [Nat.le_div_iff_mul_le hD0,Nat.mul_comm,<- hc];omega
 have q2:(q+H) / D*D<=2^53:=by
  have h53:2^53=(2*c)*D:=by
   have:(2:Nat)^53=2*2^52:=by rw [<- Nat.pow_succ']
   rw [this,hc];ac_rfl
  rw [h53];refine Nat.mul_le_mul_right _ ?_
  have h4:(q+H) / D<2*c+1:=by
   rw [Nat.div_lt_iff_lt_mul hD0,Nat.add_mul,<- h53];omega
  omega
 have m1:=mag_form k ((q+H) / D*D) (.inr q1) q2;have m2:=mag_form k q (.inr hq) (by omega);rw [<- e1] at m1;rw [<- hk] at m2
 constructor
 ·have f:=fl_mul hU (((t+H) / D*D:Nat):Int);rw [val_nat,m1,Nat.mul_assoc,hDk] at f
  have f2:fl (((t+H) / D*D:Nat):Int)*P2 U=(((q+H) / D:Nat):Rat)*P2 U:=by
   unfold P2;rw [f]
   push_cast
   rfl
  exact P2_cancel f2
 ·have f:=fl_mul hU (t:Int);rw [val_nat,m2,<- hDk] at f
  have f2:(fl (t:Int)*(D:Int))*P2 k=((q:Int):Rat)*P2 k:=by
   unfold P2
   have:(((D*2^k:Nat):Int):Rat)=((D:Int):Rat)*(((2^k:Nat):Int):Rat):=by push_cast;rfl
   rw [this] at f
   have g:(((q*2^k:Nat):Int):Rat)=((q:Int):Rat)*(((2^k:Nat):Int):Rat):=by push_cast;rfl
   rw [g] at f
   grind
  exact P2_cancel f2
end
section
open Go.RowKit Ieee
attribute [local go_sem] run_frombits run_bitsof
theorem wrap_id{b P:Nat}(h:b+P<18446744073709551616):((b:Int)+(P:Int)) % 18446744073709551616=((b+P:Nat):Int):=by omega
def rW(b:Nat):Nat:=
 if rungOf b / 4503599627370496<1022 then b / 9223372036854775808*9223372036854775808
 else if rungOf b / 4503599627370496=1022 then b / 9223372036854775808*9223372036854775808+4607182418800017408
 else if rungOf b / 4503599627370496<1075 then (b+2^(1074 - rungOf b / 4503599627370496)) / 2^(1075 - rungOf b / 4503599627370496)*2^(1075 - rungOf b / 4503599627370496)
 else b
set_option maxRecDepth 8000 in
theorem round_walk(b:Nat)(w:World)(hb:b<18446744073709551616):
  Calls Tryz.prog 136 #[.float .f64 b] w fun e w'=>e=.returned (.float .f64 (rW b))/\w=w':=by
 obtain⟨e,he⟩:∃ e,rungOf b / 4503599627370496=e:=⟨_,rfl⟩
 have he2:b / 4503599627370496 % 2048=e:=by rw [<- he];unfold rungOf;omega
 unfold rW;rw [he];clear he
 have m2:bits .and .u64 ((b:Int) / 4503599627370496) 2047=(e:Int):=by
  have h:=mask11_u64 (x:=b / 4503599627370496) (by omega);rw [he2,show ((b / 4503599627370496:Nat):Int)=(b:Int) / 4503599627370496 from by omega] at h
  exact h
 obtain⟨S,hS⟩:∃ S,b / 9223372036854775808*9223372036854775808=S:=⟨_,rfl⟩
 have m3:bits .and .u64 (b:Int) 9223372036854775808=(S:Int):=by
  have h:=u64_and_nat b 9223372036854775808 hb (by omega);rw [show (9223372036854775808:Nat)=2^64 - 2^63 by decide,and_high (k:=63) hb (by omega),show (2:Nat)^63=9223372036854775808 by decide,hS] at h
  exact h
 have m4:bits .or .u64 (S:Int) 4607182418800017408=((S+4607182418800017408:Nat):Int):=by
  have h:=or_join (i:=63) (x:=b / 9223372036854775808) (y:=4607182418800017408) (by omega) (by omega) (by omega);rw [show (2:Nat)^63=9223372036854775808 by decide,hS] at h
  exact h
 have ff:=fun W=>run_bitsof b W;rw [hS]
 by_cases c1:e<1022
 ·rw [if_pos c1]
  have g0:(e:Int)<1023:=by omega
  have g1:((e:Int) == 1022)=false:=by simp;omega
  clear m4 hS he2 c1 hb
  go_enter Tryz.func136,Tryz.ntmps136
  go_wp2
  go_ret
  exact⟨rfl,rfl⟩
 by_cases c2:e=1022
 ·rw [if_neg c1,if_pos c2];subst c2
  obtain⟨V,hV⟩:∃ V,S+4607182418800017408=V:=⟨_,rfl⟩
  rw [hV] at m4 ⊢;have fr:=fun W=>run_frombits V W;clear hS he2 c1 hb hV
  go_enter Tryz.func136,Tryz.ntmps136
  go_wp2
  go_ret
  exact⟨rfl,rfl⟩
 have g0:¬ (e:Int)<1023:=by omega
 by_cases c3:e<1075
 ·rw [if_neg c1,if_neg c2,if_pos c3]
  have g1:(e:Int)<1075:=by omega
  obtain⟨j,hj⟩:∃ j,e - 1023=j:=⟨_,rfl⟩
  have hj2:j<=51:=by omega
  have s1:(2251799813685248:Int) / 2 ^ j=((2^(51 - j):Nat):Int):=by
   have:(2251799813685248:Nat) / 2^j=2^(51 - j):=by
    rw [show (2251799813685248:Nat)=2^51 by decide,Nat.pow_div (by omega) (by omega)]
   rw [<- this];simp
  have s2:(4503599627370495:Int) / 2 ^ j=((2^(52 - j) - 1:Nat):Int):=by
   have h52:2^52=2^j*2^(52 - j):=by rw [<- Nat.pow_add];congr 1;omega
   have hp:=Nat.two_pow_pos j;have hp2:=Nat.two_pow_pos (52 - j)
   have:(4503599627370495:Nat) / 2^j=2^(52 - j) - 1:=by
    have hd:(4503599627370495:Nat)=2^j*(2^(52 - j) - 1)+(2^j - 1):=by
     rw [Nat.mul_sub,Nat.mul_one,<- h52];have:2^j<=2^52:=Nat.pow_le_pow_right (by omega) (by omega)
     omega
    rw [hd,Nat.mul_add_div hp,Nat.div_eq_of_lt (by omega)];omega
   rw [<- this];simp
  obtain⟨r,hr⟩:∃ r,(b+2^(1074 - e)) / 2^(1075 - e)*2^(1075 - e)=r:=⟨_,rfl⟩
  have e51:51 - j=1074 - e:=by omega
  have e52:52 - j=1075 - e:=by omega
  have hle:2^(51 - j)<=2^51:=Nat.pow_le_pow_right (by omega) (by omega)
  have hlt:b+2^(51 - j)<18446744073709551616:=by
   have:b % 9223372036854775808<1075*4503599627370496:=by omega
   omega
  have hX:bits .andNot .u64 (IntKind.u64.wrap ((b:Int)+2251799813685248 / 2 ^ (e - 1023))) (4503599627370495 / 2 ^ (e - 1023))=(r:Int):=by
   rw [hj,s1,s2,IntKind.wrap_u64,wrap_id hlt];have hp2:=Nat.two_pow_pos (52 - j);have hp3:2^(52 - j)<=2^64:=Nat.pow_le_pow_right (by omega) (by omega);have h:=u64_andNot_nat (b+2^(51 - j)) (2^(52 - j) - 1) hlt (by omega);rw [show (18446744073709551615 - (2^(52 - j) - 1):Nat)=2^64 - 2^(52 - j) by omega,and_high hlt (by omega)] at h;rw [h,e51,e52,hr]
  rw [hr];clear hr s1 s2 hle hlt hj hj2 e51 e52 c1 c2 c3 m3 m4 hS hb he2
  go_enter Tryz.func136,Tryz.ntmps136
  go_wp2
  go_ret
  exact⟨rfl,rfl⟩
 ·rw [if_neg c1,if_neg c2,if_neg c3]
  have g1:¬ (e:Int)<1075:=by omega
  have fr:=fun W=>run_frombits b W;clear c1 c2 c3 m3 m4 hS hb he2
  go_enter Tryz.func136,Tryz.ntmps136
  go_wp2
  go_ret
  exact⟨rfl,rfl⟩
theorem is_parts{S t:Nat}(hS:S=0\/S=9223372036854775808)(ht:t<=M):Is (S+t) (if S=0 then (t:Int) else -(t:Int)):=by
 have hM:=M_val;have c:=pat_cases (b:=S+t) (by omega);refine⟨by omega,by unfold real;omega,?_⟩
 rcases hS with rfl | rfl
 ·rw [if_pos rfl];omega
 ·rw [if_neg (by omega)];omega
theorem fl_parts2(S t:Nat):fl (if S=0 then (t:Int) else -(t:Int))=if S=0 then fl (t:Int) else - fl (t:Int):=by split<;>simp [fl_neg]
theorem rung_sum{t n q:Nat}(he:t / 4503599627370496=n+1)(hq:q=4503599627370496+t % 4503599627370496):n*2^52+q=t:=by
 rw [show (2:Nat)^52=4503599627370496 by decide]
 omega
theorem rW_is{b:Nat}(hb:b<18446744073709551616)(h:real b):Is (rW b) (wh 5 (idx b)):=by
 have hM:=M_val;have hpc:=pat_cases hb
 obtain⟨t,ht⟩:∃ t,rungOf b=t:=⟨_,rfl⟩
 obtain⟨S,hS⟩:∃ S,b / 9223372036854775808*9223372036854775808=S:=⟨_,rfl⟩
 have htM:t<=M:=by rw [<- ht];exact h
 have hS2:S=0\/S=9223372036854775808:=by omega
 have hbS:b=S+t:=by omega
 have hi:idx b=if S=0 then (t:Int) else -(t:Int):=by split<;>omega
 unfold rW;rw [ht,hS,hi];clear hpc ht hi hb h
 have rng:t<M->-(M:Int)<(if S=0 then (t:Int) else -(t:Int))/\(if S=0 then (t:Int) else -(t:Int))<M:=fun h=>by split<;>omega
 have fin:∀ t2:Nat,t2<=M->t<M->fl (t2:Int)=(rK 5 (fl (t:Int)):Rat)->- fl (t2:Int)=(rK 5 (- fl (t:Int)):Rat)->Is (S+t2) (wh 5 (if S=0 then (t:Int) else -(t:Int))):=fun t2 h2 h1 a b=>by
  have e:=wh_of (w:=5) (by omega) (rng h1).1 (rng h1).2 (j:=if S=0 then (t2:Int) else -(t2:Int)) (by
   rw [fl_parts2,fl_parts2]
   split
   ·exact a
   ·exact b)
  rw [e]
  exact is_parts hS2 h2
 have f0:(0:Rat)<=fl (t:Int):=by rw [<- fl_zero];exact fl_le_iff.2 (by omega)
 by_cases c1:t / 4503599627370496<1022
 ·rw [if_pos c1]
  have f1:fl (t:Int)<1/2:=by rw [<- fl_half'];exact fl_lt_iff.2 (by omega)
  refine fin 0 (by omega) (by omega) ?_ ?_
  ·rw [away_small (by grind) f1];exact fl_zero
  ·rw [away_small (by grind) (by grind)];rw [show ((0:Nat):Int)=0 from rfl,fl_zero];grind
 by_cases c2:t / 4503599627370496=1022
 ·rw [if_neg c1,if_pos c2]
  have f1:(1/2:Rat)<=fl (t:Int):=by rw [<- fl_half'];exact fl_le_iff.2 (by omega)
  have f2:fl (t:Int)<1:=by rw [<- fl_one'];exact fl_lt_iff.2 (by omega)
  refine fin 4607182418800017408 (by omega) (by omega) ?_ ?_
  ·rw [away_one f1 f2];exact fl_one'
  ·rw [away_mone (by grind) (by grind)];exact congrArg Neg.neg fl_one'
 by_cases c3:t / 4503599627370496<1075
 ·rw [if_neg c1,if_neg c2,if_pos c3]
  obtain⟨e,he⟩:∃ e,t / 4503599627370496=e:=⟨_,rfl⟩
  rw [he] at c1 c2 c3 ⊢
  obtain⟨k,rfl⟩:∃ k,e=k+1:=⟨e - 1,by omega⟩
  obtain⟨H,hH⟩:∃ H,2^(1074 - (k+1))=H:=⟨_,rfl⟩
  obtain⟨D,hD⟩:∃ D,2^(1075 - (k+1))=D:=⟨_,rfl⟩
  have hH0:0<H:=by rw [<- hH];exact Nat.two_pow_pos _
  have hHl:H<=4503599627370496:=by
   rw [<- hH,show (4503599627370496:Nat)=2^52 by decide];exact Nat.pow_le_pow_right (by omega) (by omega)
  have hDH:D=2*H:=by rw [<- hH,<- hD,<- Nat.pow_succ'];congr 1;omega
  have hDk:D*2^k=2^1074:=by rw [<- hD,<- Nat.pow_add];congr 1;omega
  have hd52:D ∣ 2^52:=by rw [<- hD];exact Nat.pow_dvd_pow 2 (by omega)
  have hd63:D ∣ S:=by
   have:D ∣ 9223372036854775808:=by rw [<- hD,show (9223372036854775808:Nat)=2^63 by decide];exact Nat.pow_dvd_pow 2 (by omega)
   rcases hS2 with rfl | rfl
   ·exact Nat.dvd_zero D
   ·exact this
  rw [hH,hD]
  obtain⟨q,hq⟩:∃ q,q=4503599627370496+t % 4503599627370496:=⟨_,rfl⟩
  obtain⟨a1,a2⟩:=away_mid (t:=t) (k:=k) (q:=q) (by rw [show (2:Nat)^52=4503599627370496 by decide];omega) (by rw [show (2:Nat)^52=4503599627370496 by decide];omega) (by rw [show (2:Nat)^53=9007199254740992 by decide];omega) hDH hH0 hDk hd52
  have hD0:0<D:=by omega
  have er:(b+H) / D*D=S+(t+H) / D*D:=by
   obtain⟨c,hc⟩:=hd63;rw [hbS,hc,show D*c+t+H=t+H+D*c by omega,Nat.add_mul_div_left _ _ hD0,Nat.add_mul,Nat.mul_comm c D,Nat.add_comm]
  have hle:(t+H) / D*D<=t+H:=Nat.div_mul_le_self _ _
  have ei:(((q+H) / D:Nat):Int)=((q:Int)+(H:Int)) / (D:Int):=by push_cast;rfl
  have w1:=wI_rK (x:=fl (t:Int)) (a:=(q:Int)) (D:=(D:Int)) (by omega) a2;have w2:=wI_rK (x:=- fl (t:Int)) (a:=-(q:Int)) (D:=(D:Int)) (by omega) (by rw [Rat.intCast_neg,<- a2];grind);rw [wI_pos (H:=(H:Int)) (by omega) (by omega) (by omega),<- ei] at w1;rw [wI_neg (H:=(H:Int)) (by omega) (by omega) (by omega),<- ei] at w2;rw [er];refine fin _ (by omega) (by omega) ?_ ?_
  ·rw [a1,<- w1];rfl
  ·rw [a1,<- w2,Rat.intCast_neg];rfl
 ·rw [if_neg c1,if_neg c2,if_neg c3,hbS]
  by_cases hm:t=M
  ·subst hm
   have e:wh 5 (if S=0 then ((M:Nat):Int) else -((M:Nat):Int))=if S=0 then ((M:Nat):Int) else -((M:Nat):Int):=by
    split
    ·exact wh_max 5
    ·exact wh_min 5
   rw [e]
   exact is_parts hS2 htM
  ·obtain⟨e,he⟩:∃ e,t / 4503599627370496=e:=⟨_,rfl⟩
   rw [he] at c1 c2 c3
   obtain⟨U,hU⟩:∃ U:Nat,U=1074:=⟨_,rfl⟩
   obtain⟨k,hk⟩:∃ k,e=k+U+1:=⟨e - 1 - U,by omega⟩
   obtain⟨q,hq⟩:∃ q,q=4503599627370496+t % 4503599627370496:=⟨_,rfl⟩
   have hmag:=mag_form (k+U) q (.inr (by rw [show (2:Nat)^52=4503599627370496 by decide];omega)) (by rw [show (2:Nat)^53=9007199254740992 by decide];omega);rw [rung_sum (he.trans hk) hq] at hmag
   have hz:fl (t:Int)=(((q*2^k:Nat):Int):Rat):=by
    have f:=fl_mul hU (t:Int);rw [val_nat,hmag] at f
    have f2:fl (t:Int)*P2 U=(((q*2^k:Nat):Int):Rat)*P2 U:=by
     unfold P2;rw [f,<- Rat.intCast_mul,<- Int.natCast_mul,Nat.mul_assoc,<- Nat.pow_add]
    exact P2_cancel f2
   refine fin t htM (by omega) ?_ ?_
   ·rw [hz,rK_int (by omega)]
   ·rw [hz,<- Rat.intCast_neg,rK_int (by omega)]
theorem val_away(w:World):ValFn w 136 rW:=.inl ⟨enters_of Tryz.func136 (by kernel_rfl) rfl,fun i h0 h1 W _=>calls_below (round_walk (pat i) W (is_pat ⟨h0,h1⟩).lt)⟩
theorem rW_idx(i:Int)(h0:-(M:Int)<=i)(h1:i<=M):Is (rW (pat i)) (wh 5 i):=by
 have h:=rW_is (is_pat ⟨h0,h1⟩).lt (is_pat ⟨h0,h1⟩).real
 rwa [idx_pat h0 h1] at h
theorem awayrev_any(c1 c2 x y:Nat)(w:World)(hc1:c1<18446744073709551616)(hc2:c2<18446744073709551616)(hx:x<18446744073709551616)(hy:y<18446744073709551616):
  Rt 60 #[Zf c1 c2,Zf x y] (Zf (pat (stq 5 (rd c1 c2) (rd x y)).1) (pat (stq 5 (rd c1 c2) (rd x y)).2)) w:=
 away_walk c1 c2 x y _ _ w fun W B0 B1 h0 h1=>step_idx _ _ _ _ _ _ _ _ _ c1 c2 x y W hc1 hc2 hx hy rW_idx (val_away W)
  ⟨enters_of Tryz.func197 (by kernel_rfl) rfl,enters_of Tryz.func194 (by kernel_rfl) rfl,ahead_fn 5 (b:=4602678819172646912) (by have:=M_val;omega) (fun A=>by rw [fl_half];rfl) h0,behind_fn 5 (b:=4602678819172646912) (by have:=M_val;omega) (fun A=>by rw [fl_half];rfl) h1⟩
end
section
open Go.RowKit
set_option maxRecDepth 8000 in
theorem valid_void(w:World):Rt 71 #[.agg #[.int .u64 9218868437227405312,.int .u64 18442240474082181120]] (.bool true) w:=by
 have HE:=Hd empty6;have LL:=li1 w #[.int .u64 9218868437227405312,.int .u64 18442240474082181120] 24
 go_enter Tryz.func71,Tryz.ntmps71
 go_wp2_with fail;refine regL LL (fun hHeld=>?_);clear LL;generalize World.drew _=wk at hHeld  ⊢;refine tkb 0 (fun _ h=>(h.blk 0 rfl).c2) ?_;refine rdy 1 fun KK hKK=>?_;go_simp;refine cs (HE.out _) ?_;clear hKK KK hHeld;intro wk hb1 hHeld;clear hb1;refine tks 2 ?_;refine wpAnyH_done (by kernel_rfl) ?_ _;have LL:=Hd hHeld;clear hHeld;go_wp2
 go_ret
 exact⟨rfl,LL.out.b⟩
set_option maxRecDepth 8000 in
theorem valid_some(p q:Nat)(w:World)(hS:∀ W,Rt 143 #[.agg #[.int .u64 (p:Int),.int .u64 (q:Int)]] (.bool true) W)(hp:((p:Int) == 9218868437227405312)=false)(hp0:((p:Int) != 9223372036854775808)=true)(hq0:((q:Int) != 9223372036854775808)=true):
  Rt 71 #[.agg #[.int .u64 (p:Int),.int .u64 (q:Int)]] (.bool true) w:=by
 have HE:=Hd empty6;have HS:=Hd hS;clear hS;have LL:=li1 w #[.int .u64 (p:Int),.int .u64 (q:Int)] 24
 go_enter Tryz.func71,Tryz.ntmps71
 go_wp2_with fail;refine regL LL (fun hHeld=>?_);clear LL;generalize World.drew _=wk at hHeld  ⊢;refine tkb 0 (fun _ h=>(h.blk 0 rfl).c2) ?_;refine rdy 1 fun KK hKK=>?_;go_simp;refine cs (HE.out _) ?_;clear hKK KK hHeld;intro wk hb1 hHeld;clear hb1;refine tks 2 ?_;refine wpAnyH_done (by kernel_rfl) ?_ _;have LL:=Hd hHeld;clear hHeld;obtain⟨q1_0,q1_1⟩:=(LL.out.blk 0 rfl).c2;go_wp2_with fail;refine cx (HS.out _) fun wk hb=>?_;replace LL:=stL LL hb;clear hb q1_0 q1_1;obtain⟨q2_0,q2_1⟩:=(LL.out.blk 0 rfl).c2;go_wp2
 go_ret
 exact⟨rfl,LL.out.b⟩
set_option maxRecDepth 8000 in
theorem inside_void(x1 x2 r1 r2:Nat)(w:World)(hR1:∀ W,Rt 106 #[.agg #[.int .u64 9218868437227405312,.int .u64 18442240474082181120]] (.agg #[.int .u64 9218868437227405312,.int .u64 18442240474082181120]) W)(hR2:∀ W,Rt 106 #[.agg #[.int .u64 (x1:Int),.int .u64 (x2:Int)]] (.agg #[.int .u64 (r1:Int),.int .u64 (r2:Int)]) W):Rt 72 #[.agg #[.int .u64 9218868437227405312,.int .u64 18442240474082181120],.agg #[.int .u64 (x1:Int),.int .u64 (x2:Int)]] (.bool true) w:=by
 have HE:=Hd empty6;have HR1:=Hd hR1;have HR2:=Hd hR2;clear hR1 hR2;have LL:=li2 w #[.int .u64 9218868437227405312,.int .u64 18442240474082181120] 24 #[.int .u64 (x1:Int),.int .u64 (x2:Int)] 24
 go_enter Tryz.func72,Tryz.ntmps72
 obtain⟨q1_0,q1_1⟩:=(LL.out.blk 0 rfl).c2;go_wp2_with fail;refine cx (HR1.out _) fun wk hb=>?_;replace LL:=stL LL hb;clear hb q1_0 q1_1
 go_upto_region 2 with fail
 have hl_j5:=LL.out.lts;generalize hwn:World.alloc wk _=wn;replace LL:=Hd (LL.out.newE hwn)
 simp only [List.cons_append,List.nil_append] at LL
 simp only [List.mem_cons,List.not_mem_nil,or_false,forall_eq_or_imp,forall_eq,false_imp_iff,implies_true,and_true] at hl_j5
 clear hwn;generalize wk.heap.size=j5 at LL hl_j5 ⊢;obtain⟨q2_0,q2_1⟩:=(LL.out.blk 1 rfl).c2;go_wp2_with fail;refine cx (HR2.out _) fun wk hb=>?_;replace LL:=stL LL hb;clear hb q2_0 q2_1
 go_upto_region 3 with fail
 have hl_j6:=LL.out.lts;generalize hwn:World.alloc wk _=wn;replace LL:=Hd (LL.out.newE hwn)
 simp only [List.cons_append,List.nil_append] at LL
 simp only [List.mem_cons,List.not_mem_nil,or_false,forall_eq_or_imp,forall_eq,false_imp_iff,implies_true,and_true] at hl_j6
 clear hwn;generalize wk.heap.size=j6 at LL hl_j6 ⊢;refine regL LL (fun hHeld=>?_);clear LL;generalize World.drew _=wk at hHeld  ⊢;refine tkb 0 (fun _ h=>(h.blk 2 rfl).c2) ?_;refine rdy 1 fun KK hKK=>?_;go_simp;refine cs (HE.out _) ?_;clear hKK KK hHeld;intro wk hb1 hHeld;clear hb1;refine tks 2 ?_;refine wpAnyH_done (by kernel_rfl) ?_ _;have LL:=Hd hHeld;clear hHeld;go_wp2
 go_ret
 exact⟨rfl,LL.out.b⟩
set_option maxRecDepth 8000 in
theorem inside_some(p q x1 x2 r1 r2:Nat)(w:World)(hR1:∀ W,Rt 106 #[.agg #[.int .u64 (p:Int),.int .u64 (q:Int)]] (.agg #[.int .u64 (p:Int),.int .u64 (q:Int)]) W)(hR2:∀ W,Rt 106 #[.agg #[.int .u64 (x1:Int),.int .u64 (x2:Int)]] (.agg #[.int .u64 (r1:Int),.int .u64 (r2:Int)]) W)(hp:((p:Int) == 9218868437227405312)=false)(hr:((r1:Int) == 9218868437227405312)=false)(hA1:∀ W,Rt 144 #[.int .u64 (r1:Int),.int .u64 (p:Int)] (.bool false) W)(hA2:∀ W,Rt 144 #[.int .u64 (q:Int),.int .u64 (r2:Int)] (.bool false) W):Rt 72 #[.agg #[.int .u64 (p:Int),.int .u64 (q:Int)],.agg #[.int .u64 (x1:Int),.int .u64 (x2:Int)]] (.bool true) w:=by
 have HE:=Hd empty6;have HR1:=Hd hR1;have HR2:=Hd hR2;have HA1:=Hd hA1;have HA2:=Hd hA2;clear hR1 hR2 hA1 hA2;have LL:=li2 w #[.int .u64 (p:Int),.int .u64 (q:Int)] 24 #[.int .u64 (x1:Int),.int .u64 (x2:Int)] 24
 go_enter Tryz.func72,Tryz.ntmps72
 obtain⟨q1_0,q1_1⟩:=(LL.out.blk 0 rfl).c2;go_wp2_with fail;refine cx (HR1.out _) fun wk hb=>?_;replace LL:=stL LL hb;clear hb q1_0 q1_1
 go_upto_region 2 with fail
 have hl_j5:=LL.out.lts;generalize hwn:World.alloc wk _=wn;replace LL:=Hd (LL.out.newE hwn)
 simp only [List.cons_append,List.nil_append] at LL
 simp only [List.mem_cons,List.not_mem_nil,or_false,forall_eq_or_imp,forall_eq,false_imp_iff,implies_true,and_true] at hl_j5
 clear hwn;generalize wk.heap.size=j5 at LL hl_j5 ⊢;obtain⟨q2_0,q2_1⟩:=(LL.out.blk 1 rfl).c2;go_wp2_with fail;refine cx (HR2.out _) fun wk hb=>?_;replace LL:=stL LL hb;clear hb q2_0 q2_1
 go_upto_region 3 with fail
 have hl_j6:=LL.out.lts;generalize hwn:World.alloc wk _=wn;replace LL:=Hd (LL.out.newE hwn)
 simp only [List.cons_append,List.nil_append] at LL
 simp only [List.mem_cons,List.not_mem_nil,or_false,forall_eq_or_imp,forall_eq,false_imp_iff,implies_true,and_true] at hl_j6
 clear hwn;generalize wk.heap.size=j6 at LL hl_j6 ⊢;refine regL LL (fun hHeld=>?_);clear LL;generalize World.drew _=wk at hHeld  ⊢;refine tkb 0 (fun _ h=>(h.blk 2 rfl).c2) ?_;refine rdy 1 fun KK hKK=>?_;go_simp;refine cs (HE.out _) ?_;clear hKK KK hHeld;intro wk hb1 hHeld;clear hb1;refine tks 2 ?_;refine wpAnyH_done (by kernel_rfl) ?_ _;have LL:=Hd hHeld;clear hHeld
 go_upto_region 5 with fail
 refine regL LL (fun hHeld=>?_);clear LL;generalize World.drew _=wk at hHeld  ⊢;refine tkb 0 (fun _ h=>(h.blk 3 rfl).c2) ?_;refine rdy 1 fun KK hKK=>?_;go_simp;refine cs (HE.out _) ?_;clear hKK KK hHeld;intro wk hb1 hHeld;clear hb1;refine tks 2 ?_;refine wpAnyH_done (by kernel_rfl) ?_ _;have LL:=Hd hHeld;clear hHeld;obtain⟨q3_0,q3_1⟩:=(LL.out.blk 2 rfl).c2;obtain⟨q4_0,q4_1⟩:=(LL.out.blk 3 rfl).c2;go_wp2_with fail;refine cx (HA1.out _) fun wk hb=>?_;replace LL:=stL LL hb;clear hb q3_0 q3_1 q4_0 q4_1;obtain⟨q5_0,q5_1⟩:=(LL.out.blk 2 rfl).c2;obtain⟨q6_0,q6_1⟩:=(LL.out.blk 3 rfl).c2;go_wp2_with fail;refine cx (HA2.out _) fun wk hb=>?_;replace LL:=stL LL hb;clear hb q5_0 q5_1 q6_0 q6_1;go_wp2
 go_ret
 exact⟨rfl,LL.out.b⟩
end
section
open Go.RowKit
noncomputable def opv(k:Nat)(b c:Int × Int)(i j:Int):Int × Int:=
 match k with
 | 0=>rar b.1 b.2 c.1 c.2 i j
 | 1=>rar (-b.2) (-b.1) c.1 c.2 i j
 | 2=>rar (-b.2) (-b.1) (-c.2) (-c.1) i j
 | 3=>mlr b.1 b.2 c.1 c.2 i j
 | 4=>dr1 b.1 b.2 c.1 c.2 i j
 | 5=>dr2 b.1 b.2 c.1 c.2 i j
 | 6=>rmr b.1 b.2 c.1 c.2 i j
 | 7=>rmx b c (i,j)
 | 8=>it (-c.2) (-c.1) i j
 | 9=>dr2 K1 K1 c.1 c.2 i j
 | 10=>pwr 2 c.1 c.2 i j
 | 11=>sqt c.1 c.2 i j
 | 12=>abr c.1 c.2 i j
 | 13=>sgq c (i,j)
 | 14=>stq 1 c (i,j)
 | 15=>stq 2 c (i,j)
 | 16=>stq 3 c (i,j)
 | 17=>stq 4 c (i,j)
 | 18=>stq 5 c (i,j)
 | 19=>pwz 3 c.1 c.2 i j
 | _=>pwz (-2) c.1 c.2 i j
theorem Cl.opv(k:Nat){b c:Int × Int}(hb:Iv b.1 b.2)(hc:Iv c.1 c.2):Cl fun i j=>Go.Proofs.YthlmlmfebpjgdaaGreatDoor.opv k b c i j:=by
 match k with
 | 0=>exact Cl.rar hb hc
 | 1=>exact Cl.rar hb.ng hc
 | 2=>exact Cl.rar hb.ng hc.ng
 | 3=>exact Cl.mlr hb hc
 | 4=>exact Cl.dr1 hb hc
 | 5=>exact Cl.dr2 hb hc
 | 6=>exact Cl.rmr hb hc
 | 7=>exact Cl.rmx hb hc
 | 8=>exact Cl.it hc.ng
 | 9=>exact Cl.dr2 K1_iv hc
 | 10=>exact Cl.pwr (by omega) (by omega) hc
 | 11=>exact Cl.sqt hc
 | 12=>exact Cl.abr hc
 | 13=>exact Cl.sgq hc
 | 14=>exact Cl.stq (by omega) hc
 | 15=>exact Cl.stq (by omega) hc
 | 16=>exact Cl.stq (by omega) hc
 | 17=>exact Cl.stq (by omega) hc
 | 18=>exact Cl.stq (by omega) hc
 | 19=>exact Cl.pwz 3 hc
 | k+20=>exact Cl.pwz (-2) hc
theorem two_any(k:Nat)(hk:k<=20)(b1 b2 c1 c2 x y:Nat)(w:World)(hb1:b1<18446744073709551616)(hb2:b2<18446744073709551616)(hc1:c1<18446744073709551616)(hc2:c2<18446744073709551616)(hx:x<18446744073709551616)(hy:y<18446744073709551616)(hT:Tab w):
  Rt 70 #[.int .i64 (k:Int),Zf b1 b2,Zf c1 c2,Zf x y] (Zf (pat (opv k (rd b1 b2) (rd c1 c2) (rd x y).1 (rd x y).2).1) (pat (opv k (rd b1 b2) (rd c1 c2) (rd x y).1 (rd x y).2).2)) w:=by
 refine two_all k (by omega) b1 b2 c1 c2 x y _ _ w (fun W t=>?_) hT
 match k,hk with
 | 0,_=>exact revadd_any b1 b2 c1 c2 x y W hb1 hb2 hc1 hc2 hx hy
 | 1,_=>exact revsub1_any b1 b2 c1 c2 x y W hb1 hb2 hc1 hc2 hx hy
 | 2,_=>exact revsub2_any b1 b2 c1 c2 x y W hb1 hb2 hc1 hc2 hx hy
 | 3,_=>exact mulrev_any b1 b2 c1 c2 x y W hb1 hb2 hc1 hc2 hx hy
 | 4,_=>exact divrev1_any b1 b2 c1 c2 x y W hb1 hb2 hc1 hc2 hx hy
 | 5,_=>exact divrev2_any b1 b2 c1 c2 x y W hb1 hb2 hc1 hc2 hx hy
 | 6,_=>exact revmin_any b1 b2 c1 c2 x y W hb1 hb2 hc1 hc2 hx hy
 | 7,_=>exact revmax_any b1 b2 c1 c2 x y W hb1 hb2 hc1 hc2 hx hy
 | 8,_=>exact negrev_any c1 c2 x y W hc1 hc2 hx hy
 | 9,_=>exact reciprev_any c1 c2 x y W hc1 hc2 hx hy
 | 10,_=>exact sqrrev_any c1 c2 x y W hc1 hc2 hx hy
 | 11,_=>exact sqrtrev_any c1 c2 x y W hc1 hc2 hx hy
 | 12,_=>exact absrev_any c1 c2 x y W hc1 hc2 hx hy
 | 13,_=>exact signrev_any c1 c2 x y W hc1 hc2 hx hy
 | 14,_=>exact floorrev_any c1 c2 x y W hc1 hc2 hx hy
 | 15,_=>exact ceilrev_any c1 c2 x y W hc1 hc2 hx hy
 | 16,_=>exact truncrev_any c1 c2 x y W hc1 hc2 hx hy
 | 17,_=>exact evenrev_any c1 c2 x y W hc1 hc2 hx hy
 | 18,_=>exact awayrev_any c1 c2 x y W hc1 hc2 hx hy
 | 19,_=>exact pownz_any 3 c1 c2 x y W hc1 hc2 hx hy t
 | 20,_=>exact pownz_any (-2) c1 c2 x y W hc1 hc2 hx hy t
 | k+21,h=>omega
theorem valid_any{i j:Int}(h:Iv i j)(w:World):Rt 71 #[.agg #[.int .u64 (pat i:Int),.int .u64 (pat j:Int)]] (.bool true) w:=by
 have hM:=M_val;have hs:=fun W=>sound6 (pat i) (pat j) W (pat_lt h.lo.1 h.lo.2) (pat_lt h.hi.1 h.hi.2);have hr:=rd_pat h
 rcases h with h | ⟨rfl,rfl⟩
 ·have e:snd (pat i) (pat j)=true:=by
   unfold rd at hr
   cases q:snd (pat i) (pat j)
   ·rw [q] at hr
    simp at hr
    omega
   ·rfl
  rw [e] at hs
  have nt:∀ k:Int,-(M:Int)<=k->k<=M->((pat k:Int) != 9223372036854775808)=true:=fun k h0 h1=>by
   have:(pat k:Int)≠9223372036854775808:=by
    unfold pat
    split<;>omega
   simp [bne_iff_ne,this]
  exact valid_some _ _ w hs (pat_ne_max (by omega) (by omega)) (nt i (by omega) (by omega)) (nt j (by omega) (by omega))
 ·rw [pat_max,pat_min]
  exact valid_void w
theorem inside_any{i j:Int}(h:Iv i j)(x y:Nat)(w:World)(hx:x<18446744073709551616)(hy:y<18446744073709551616)(hs:(rd x y).1<=i)(ht:j<=(rd x y).2):
  Rt 72 #[.agg #[.int .u64 (pat i:Int),.int .u64 (pat j:Int)],.agg #[.int .u64 (x:Int),.int .u64 (y:Int)]] (.bool true) w:=by
 have hM:=M_val;have R1:=fun W=>read6 (pat i) (pat j) W (pat_lt h.lo.1 h.lo.2) (pat_lt h.hi.1 h.hi.2);have R2:=fun W=>read6 x y W hx hy;rw [rd_pat h] at R1;have v:=rd_iv x y
 have no:∀ a b:Int,-(M:Int)<=a/\a<=M->-(M:Int)<=b/\b<=M->a<=b->∀ W,Rt 144 #[.int .u64 (pat a:Int),.int .u64 (pat b:Int)] (.bool false) W:=fun a b ha hb hab W=>by
  refine (above_any (pat a) (pat b) W (pat_lt ha.1 ha.2) (pat_lt hb.1 hb.2)).mono ?_;rintro e w' ⟨rfl,k,rfl⟩;rw [idx_pat ha.1 ha.2,idx_pat hb.1 hb.2,decide_eq_false (by omega)]
  exact⟨rfl,below_drewN (Below.refl _ _) k⟩
 rcases h with h | ⟨rfl,rfl⟩
 ·exact inside_some _ _ x y _ _ w R1 R2 (pat_ne_max (by omega) (by omega)) (pat_ne_max v.lo.1 (by omega)) (no _ _ v.lo (by omega) hs) (no _ _ (by omega) v.hi ht)
 ·rw [pat_max,pat_min] at R1 ⊢
  exact inside_void x y _ _ w R1 R2
theorem again_k(k:Nat)(hk:k<=20)(b1 b2 c1 c2 x y:Nat)(hb1:b1<18446744073709551616)(hb2:b2<18446744073709551616)(hc1:c1<18446744073709551616)(hc2:c2<18446744073709551616)(hx:x<18446744073709551616)(hy:y<18446744073709551616):∃ p q:Nat,
  (∀ W,Tab W->Rt 70 #[.int .i64 (k:Int),Zf b1 b2,Zf c1 c2,Zf x y] (Zf p q) W) /\
  (∀ W,Rt 71 #[.agg #[.int .u64 (p:Int),.int .u64 (q:Int)]] (.bool true) W) /\
  (∀ W,Rt 72 #[.agg #[.int .u64 (p:Int),.int .u64 (q:Int)],.agg #[.int .u64 (x:Int),.int .u64 (y:Int)]] (.bool true) W) /\
  (∀ W,Tab W->Rt 70 #[.int .i64 (k:Int),Zf b1 b2,Zf c1 c2,Zf p q] (Zf p q) W) /\
  FloatKind.f64.format.order p p=some .eq/\FloatKind.f64.format.order q q=some .eq:=by
 have cl:=Cl.opv k (rd_iv b1 b2) (rd_iv c1 c2);have v:=cl.iv _ _ (rd_iv x y);have s:=cl.sub _ _ (rd_iv x y);have d:=cl.idem _ _ (rd_iv x y)
 obtain⟨⟨i,j⟩,e⟩:∃ z,opv k (rd b1 b2) (rd c1 c2) (rd x y).1 (rd x y).2=z:=⟨_,rfl⟩
 have t1:=fun W t=>two_any k hk b1 b2 c1 c2 x y W hb1 hb2 hc1 hc2 hx hy t
 try dsimp only at v s d
 rw [e] at v s d t1
 try dsimp only at v s d t1
 have t2:=fun W t=>two_any k hk b1 b2 c1 c2 (pat i) (pat j) W hb1 hb2 hc1 hc2 (pat_lt v.lo.1 v.lo.2) (pat_lt v.hi.1 v.hi.2) t;rw [rd_pat v] at t2
 try dsimp only at t2
 rw [d] at t2;refine⟨pat i,pat j,t1,valid_any v,fun W=>inside_any v x y W hx hy s.1 s.2,t2,?_,?_⟩
 ·rw [order_pat v.lo.1 v.lo.2 v.lo.1 v.lo.2,Int.compare_eq_eq.2 rfl]
 ·rw [order_pat v.hi.1 v.hi.2 v.hi.1 v.hi.2,Int.compare_eq_eq.2 rfl]
end
section
open Go.RowKit
attribute [local go_sem] run_store_float
set_option maxRecDepth 8000 in
theorem subset_none1(u1 u2 v1 v2 p1 p2 q1 q2:Nat)(w:World)(hB:∀ W,Rt 138 #[Zf u1 u2,Zf v1 v2] (.tuple #[Zf p1 p2,Zf q1 q2,.int .i64 1]) W):Rt 66 #[Zf u1 u2,Zf v1 v2] (.bool true) w:=by
 have ok:bits .and .i64 1 1=1:=by decide
 have HB:=Hd hB;clear hB;have LL:=li2 w (Zv u1 u2) 28 (Zv v1 v2) 28
 go_enter Tryz.func66,Tryz.ntmps66
 obtain⟨q1_0,q1_1⟩:=(LL.out.blk 0 rfl).c2;obtain⟨q2_0,q2_1⟩:=(LL.out.blk 1 rfl).c2;go_wp2_with fail;refine cx (HB.out _) fun wk hb=>?_;replace LL:=stL LL hb;clear hb q1_0 q1_1 q2_0 q2_1;obtain⟨q3_0,q3_1⟩:=(LL.out.blk 0 rfl).c2;obtain⟨q4_0,q4_1⟩:=(LL.out.blk 1 rfl).c2;have fz20:=(LL.out.blk 0 rfl).frozen 0;have fz21:=(LL.out.blk 0 rfl).frozen 1;have fz30:=(LL.out.blk 1 rfl).frozen 0;have fz31:=(LL.out.blk 1 rfl).frozen 1
 go_upto_region 2 with fail
 clear q3_0 q3_1 q4_0 q4_1 fz20 fz21 fz30 fz31;replace LL:=Hd (LL.out.part 0 rfl 0 [.float .f64 p1,.float .f64 p2] (by omega) (by simp<;>omega) (by simp<;>omega))
 simp only [List.eraseIdx,laid,List.cons_append,List.nil_append,List.setIfInBounds_toArray,List.set_cons_zero,List.set_cons_succ,Nat.zero_add,Nat.reduceAdd] at LL
 replace LL:=Hd (LL.out.part 0 rfl 0 [.float .f64 q1,.float .f64 q2] (by omega) (by simp<;>omega) (by simp<;>omega))
 simp only [List.eraseIdx,laid,List.cons_append,List.nil_append,List.setIfInBounds_toArray,List.set_cons_zero,List.set_cons_succ,Nat.zero_add,Nat.reduceAdd] at LL
 obtain⟨wn,hwn⟩:∃ X,(sets (sets wk w.heap.size 0 [.float .f64 p1,.float .f64 p2]) (w.heap.size+1) 0 [.float .f64 q1,.float .f64 q2])=X:=⟨_,rfl⟩
 rw [hwn] at LL
 simp only [sets,Nat.reduceAdd] at hwn
 rw [hwn];clear hwn;obtain⟨q5_0,q5_1⟩:=(LL.out.blk 0 rfl).c2;obtain⟨q6_0,q6_1⟩:=(LL.out.blk 1 rfl).c2;go_wp2
 go_ret
 exact⟨rfl,LL.out.b⟩
set_option maxRecDepth 8000 in
theorem subset_none3(u1 u2 v1 v2 p1 p2 q1 q2:Nat)(w:World)(hB:∀ W,Rt 138 #[Zf u1 u2,Zf v1 v2] (.tuple #[Zf p1 p2,Zf q1 q2,.int .i64 3]) W):Rt 66 #[Zf u1 u2,Zf v1 v2] (.bool true) w:=by
 have ok:bits .and .i64 3 1=1:=by decide
 have HB:=Hd hB;clear hB;have LL:=li2 w (Zv u1 u2) 28 (Zv v1 v2) 28
 go_enter Tryz.func66,Tryz.ntmps66
 obtain⟨q1_0,q1_1⟩:=(LL.out.blk 0 rfl).c2;obtain⟨q2_0,q2_1⟩:=(LL.out.blk 1 rfl).c2;go_wp2_with fail;refine cx (HB.out _) fun wk hb=>?_;replace LL:=stL LL hb;clear hb q1_0 q1_1 q2_0 q2_1;obtain⟨q3_0,q3_1⟩:=(LL.out.blk 0 rfl).c2;obtain⟨q4_0,q4_1⟩:=(LL.out.blk 1 rfl).c2;have fz20:=(LL.out.blk 0 rfl).frozen 0;have fz21:=(LL.out.blk 0 rfl).frozen 1;have fz30:=(LL.out.blk 1 rfl).frozen 0;have fz31:=(LL.out.blk 1 rfl).frozen 1
 go_upto_region 2 with fail
 clear q3_0 q3_1 q4_0 q4_1 fz20 fz21 fz30 fz31;replace LL:=Hd (LL.out.part 0 rfl 0 [.float .f64 p1,.float .f64 p2] (by omega) (by simp<;>omega) (by simp<;>omega))
 simp only [List.eraseIdx,laid,List.cons_append,List.nil_append,List.setIfInBounds_toArray,List.set_cons_zero,List.set_cons_succ,Nat.zero_add,Nat.reduceAdd] at LL
 replace LL:=Hd (LL.out.part 0 rfl 0 [.float .f64 q1,.float .f64 q2] (by omega) (by simp<;>omega) (by simp<;>omega))
 simp only [List.eraseIdx,laid,List.cons_append,List.nil_append,List.setIfInBounds_toArray,List.set_cons_zero,List.set_cons_succ,Nat.zero_add,Nat.reduceAdd] at LL
 obtain⟨wn,hwn⟩:∃ X,(sets (sets wk w.heap.size 0 [.float .f64 p1,.float .f64 p2]) (w.heap.size+1) 0 [.float .f64 q1,.float .f64 q2])=X:=⟨_,rfl⟩
 rw [hwn] at LL
 simp only [sets,Nat.reduceAdd] at hwn
 rw [hwn];clear hwn;obtain⟨q5_0,q5_1⟩:=(LL.out.blk 0 rfl).c2;obtain⟨q6_0,q6_1⟩:=(LL.out.blk 1 rfl).c2;go_wp2
 go_ret
 exact⟨rfl,LL.out.b⟩
set_option maxRecDepth 8000 in
theorem subset_some(u1 u2 v1 v2 p1 p2 q1 q2:Nat)(o1 o2:Ordering)(w:World)(hB:∀ W,Rt 138 #[Zf u1 u2,Zf v1 v2] (.tuple #[Zf p1 p2,Zf q1 q2,.int .i64 0]) W)(h1:FloatKind.f64.format.order q1 p1=some o1)(h2:FloatKind.f64.format.order p2 q2=some o2)(k1:o1=.lt\/o1=.eq)(k2:o2=.lt\/o2=.eq):Rt 66 #[Zf u1 u2,Zf v1 v2] (.bool true) w:=by
 have ok:bits .and .i64 0 1=0:=by decide
 have HB:=Hd hB;clear hB
 rcases k1 with rfl | rfl<;>rcases k2 with rfl | rfl
 all_goals
  have LL:=li2 w (Zv u1 u2) 28 (Zv v1 v2) 28
  go_enter Tryz.func66,Tryz.ntmps66
  obtain⟨q1_0,q1_1⟩:=(LL.out.blk 0 rfl).c2;obtain⟨q2_0,q2_1⟩:=(LL.out.blk 1 rfl).c2;go_wp2_with fail;refine cx (HB.out _) fun wk hb=>?_;replace LL:=stL LL hb;clear hb q1_0 q1_1 q2_0 q2_1;obtain⟨q3_0,q3_1⟩:=(LL.out.blk 0 rfl).c2;obtain⟨q4_0,q4_1⟩:=(LL.out.blk 1 rfl).c2;have fz20:=(LL.out.blk 0 rfl).frozen 0;have fz21:=(LL.out.blk 0 rfl).frozen 1;have fz30:=(LL.out.blk 1 rfl).frozen 0;have fz31:=(LL.out.blk 1 rfl).frozen 1
  go_upto_region 2 with fail
  clear q3_0 q3_1 q4_0 q4_1 fz20 fz21 fz30 fz31;replace LL:=Hd (LL.out.part 0 rfl 0 [.float .f64 p1,.float .f64 p2] (by omega) (by simp<;>omega) (by simp<;>omega))
  simp only [List.eraseIdx,laid,List.cons_append,List.nil_append,List.setIfInBounds_toArray,List.set_cons_zero,List.set_cons_succ,Nat.zero_add,Nat.reduceAdd] at LL
  replace LL:=Hd (LL.out.part 0 rfl 0 [.float .f64 q1,.float .f64 q2] (by omega) (by simp<;>omega) (by simp<;>omega))
  simp only [List.eraseIdx,laid,List.cons_append,List.nil_append,List.setIfInBounds_toArray,List.set_cons_zero,List.set_cons_succ,Nat.zero_add,Nat.reduceAdd] at LL
  obtain⟨wn,hwn⟩:∃ X,(sets (sets wk w.heap.size 0 [.float .f64 p1,.float .f64 p2]) (w.heap.size+1) 0 [.float .f64 q1,.float .f64 q2])=X:=⟨_,rfl⟩
  rw [hwn] at LL
  simp only [sets,Nat.reduceAdd] at hwn
  rw [hwn];clear hwn;obtain⟨q5_0,q5_1⟩:=(LL.out.blk 0 rfl).c2;obtain⟨q6_0,q6_1⟩:=(LL.out.blk 1 rfl).c2;go_wp2
  go_ret
  exact⟨rfl,LL.out.b⟩
theorem subset_in(a1 a2 x1 x2:Nat)(w:World)(ha1:a1<18446744073709551616)(ha2:a2<18446744073709551616)(hx1:x1<18446744073709551616)(hx2:x2<18446744073709551616)(hs:(rd x1 x2).1<=(rd a1 a2).1)(ht:(rd a1 a2).2<=(rd x1 x2).2):
  Rt 66 #[Zf a1 a2,Zf x1 x2] (.bool true) w:=by
 have hM:=M_val;have v1:=rd_iv a1 a2;have v2:=rd_iv x1 x2;have t1:=fun W=>readf a1 a2 W ha1 ha2;have t2:=fun W=>readf x1 x2 W hx1 hx2;have m1:=em_idx v1;have m2:=em_idx v2;have B:=fun W=>both_gen a1 a2 x1 x2 _ _ _ _ _ _ W t1 t2 m1 m2
 by_cases c1:(rd a1 a2).2<(rd a1 a2).1
 ·rw [decide_eq_true c1] at B
  by_cases c2:(rd x1 x2).2<(rd x1 x2).1
  ·rw [decide_eq_true c2] at B
   exact subset_none3 _ _ _ _ _ _ _ _ w B
  ·rw [decide_eq_false c2] at B
   exact subset_none1 _ _ _ _ _ _ _ _ w B
 ·rw [decide_eq_false c1,decide_eq_false (show ¬ (rd x1 x2).2<(rd x1 x2).1 by omega)] at B;refine subset_some _ _ _ _ _ _ _ _ _ _ w B (order_pat v2.lo.1 v2.lo.2 v1.lo.1 v1.lo.2) (order_pat v1.hi.1 v1.hi.2 v2.hi.1 v2.hi.2) ?_ ?_
  ·rcases Int.lt_or_eq_of_le hs with h | h
   ·exact .inl (Int.compare_eq_lt.2 h)
   ·exact .inr (Int.compare_eq_eq.2 h)
  ·rcases Int.lt_or_eq_of_le ht with h | h
   ·exact .inl (Int.compare_eq_lt.2 h)
   ·exact .inr (Int.compare_eq_eq.2 h)
end
section
open Go.RowKit
attribute [local go_sem] run_store_float
set_option maxRecDepth 8000 in
theorem fmaadd_none(a1 a2 b1 b2 c1 c2 y1 y2 A1 A2 B1 B2 C1 C2 x1 x2:Nat)(d1 d2 d3 d4:Bool)(w:World)(t1:∀ W,Rt 102 #[Zf a1 a2] (Zf A1 A2) W)(m1:Em d1 A1 A2)(t2:∀ W,Rt 102 #[Zf b1 b2] (Zf B1 B2) W)(m2:Em d2 B1 B2)(t3:∀ W,Rt 102 #[Zf c1 c2] (Zf C1 C2) W)(m3:Em d3 C1 C2)(t4:∀ W,Rt 102 #[Zf y1 y2] (Zf x1 x2) W)(m4:Em d4 x1 x2)(hnn:(d1 || d2 || d3 || d4)=true):
  Rt 32 #[Zf a1 a2,Zf b1 b2,Zf c1 c2,Zf y1 y2] (Zf 9218868437227405312 18442240474082181120) w:=by
 have HE:=Hd emptyf;have HRD:=readL54 w (Zv 0 0) 28 t1 m1 t2 m2 t3 m3 t4 m4 hnn;clear t1 m1 t2 m2 t3 m3 t4 m4 hnn
 go_enter Tryz.func32,Tryz.ntmps32
 go_wp2_with fail;refine HRD.out.mono ?_;rintro e wk ⟨rfl,hl⟩;have LL:=Hd hl;clear hl HRD;go_wp2_with fail;refine cx (HE.out _) fun wk hb=>?_;replace LL:=stL LL hb;clear hb;replace LL:=Hd (LL.out.loose 4 rfl rfl)
 simp only [List.eraseIdx,List.size_toArray,List.length_cons,List.length_nil,Nat.zero_add,Nat.reduceAdd] at LL
 obtain⟨ha8_0,hf8_0,ha8_1,hf8_1⟩:=(LL.out.has 0 rfl).sf2;have LF:=Hd (LL.out.wr [.float .f64 9218868437227405312,.float .f64 18442240474082181120]);obtain⟨hk8_0,hk8_1⟩:=(LF.out.blk 4 rfl).c2
 simp [sets] at hk8_0 hk8_1
 clear LL;go_wp2;refine bodyPost_ret (v:=Zf 9218868437227405312 18442240474082181120) (by simp [results,Tryz.results32,go_sem,hk8_0,hk8_1]) rfl ?_
 exact⟨rfl,LF.out.b⟩
set_option maxRecDepth 8000 in
theorem fmaadd_some(a1 a2 b1 b2 c1 c2 y1 y2 A1 A2 B1 B2 C1 C2 x1 x2 r1 r2:Nat)(us vs Pd Pu Qd Qu:Nat->Nat)(ld lu gd gu:Nat->Nat->Nat)(d1 d2 d3 d4:Bool)(w:World)(t1:∀ W,Rt 102 #[Zf a1 a2] (Zf A1 A2) W)(m1:Em d1 A1 A2)(t2:∀ W,Rt 102 #[Zf b1 b2] (Zf B1 B2) W)(m2:Em d2 B1 B2)(t3:∀ W,Rt 102 #[Zf c1 c2] (Zf C1 C2) W)(m3:Em d3 C1 C2)(t4:∀ W,Rt 102 #[Zf y1 y2] (Zf x1 x2) W)(m4:Em d4 x1 x2)(hnn:(d1 || d2 || d3 || d4)=false)
  (hu:us 0=A1/\us 1=A2)(hv:vs 0=B1/\vs 1=B2)(hp:Pd 0=9218868437227405312/\Pu 0=9218868437227405312)(hq:Qd 0=18442240474082181120/\Qu 0=18442240474082181120)
  (hl:∀ i j:Nat,i<2->j<2->∀ W,Rt 92 #[.float .f64 C1,.float .f64 (us i),.float .f64 (vs j)] (.agg #[.float .f64 (ld i j),.float .f64 (lu i j)]) W)(hh:∀ i j:Nat,i<2->j<2->∀ W,Rt 92 #[.float .f64 C2,.float .f64 (us i),.float .f64 (vs j)] (.agg #[.float .f64 (gd i j),.float .f64 (gu i j)]) W)
  (na:∀ i j:Nat,i<2->j<2->∀ W ts t,(Builtin.min_ ts t #[.float .f64 (Pd (2*i+j)),.float .f64 (ld i j)]).run Tryz.prog W=.ok (.float .f64 (Pd (2*i+j+1))) W)(nb:∀ i j:Nat,i<2->j<2->∀ W ts t,(Builtin.min_ ts t #[.float .f64 (Pu (2*i+j)),.float .f64 (lu i j)]).run Tryz.prog W=.ok (.float .f64 (Pu (2*i+j+1))) W)(xa:∀ i j:Nat,i<2->j<2->∀ W ts t,(Builtin.max_ ts t #[.float .f64 (Qd (2*i+j)),.float .f64 (gd i j)]).run Tryz.prog W=.ok (.float .f64 (Qd (2*i+j+1))) W)(xb:∀ i j:Nat,i<2->j<2->∀ W ts t,(Builtin.max_ ts t #[.float .f64 (Qu (2*i+j)),.float .f64 (gu i j)]).run Tryz.prog W=.ok (.float .f64 (Qu (2*i+j+1))) W)
  (hcut:∀ W,Rt 77 #[Zf x1 x2,.agg #[.float .f64 (Pd (4)),.float .f64 (Pu (4))],.agg #[.float .f64 (Qd (4)),.float .f64 (Qu (4))],.bool false] (Zf r1 r2) W):
  Rt 32 #[Zf a1 a2,Zf b1 b2,Zf c1 c2,Zf y1 y2] (Zf r1 r2) w:=by
 have HI:=Hd fun W=>inf_pos W;have HJ:=Hd fun W=>inf_neg W;have HT:=Hd fun W=>at_any 9218868437227405312 W;have HS:=Hd fun W=>at_any 18442240474082181120 W
 have IXA:=Hd (show ∀ i:Nat,i<2->∀ W,(Instr.index 99 (Zf A1 A2) (.int .i64 (i:Int))).run Tryz.prog W=.ok (.float .f64 (us i)) W from fun i hi=>by
  match i,hi with
  | 0,_=>rw [hu.1];exact fun _=>by kernel_rfl
  | 1,_=>rw [hu.2];exact fun _=>by kernel_rfl)
 have IXB:=Hd (show ∀ i:Nat,i<2->∀ W,(Instr.index 99 (Zf B1 B2) (.int .i64 (i:Int))).run Tryz.prog W=.ok (.float .f64 (vs i)) W from fun i hi=>by
  match i,hi with
  | 0,_=>rw [hv.1];exact fun _=>by kernel_rfl
  | 1,_=>rw [hv.2];exact fun _=>by kernel_rfl)
 have HL:=Hd hl;have HH:=Hd hh;have NA:=Hd na;have NB:=Hd nb;have XA:=Hd xa;have XB:=Hd xb;have HCUT:=Hd hcut;have HP:=Hd hp;have HQ:=Hd hq;clear hl hh na nb xa xb hcut hp hq;clear hu hv;have HRD:=readL54 w (Zv 0 0) 28 t1 m1 t2 m2 t3 m3 t4 m4 hnn;clear t1 m1 t2 m2 t3 m3 t4 m4 hnn
 go_enter Tryz.func32,Tryz.ntmps32
 go_wp2_with fail;refine HRD.out.mono ?_;rintro e wk ⟨rfl,hl⟩;have LL:=Hd hl;clear hl HRD;go_wp2_with fail;refine (HI.out _).mono ?_;rintro e wk ⟨rfl,rfl⟩;go_wp2_with fail;refine cx (HT.out _) fun wk hb=>?_;replace LL:=stL LL hb;clear hb;go_wp2_with fail;refine (HJ.out _).mono ?_;rintro e wk ⟨rfl,rfl⟩;go_wp2_with fail;refine cx (HS.out _) fun wk hb=>?_;replace LL:=stL LL hb;clear hb
 go_upto_region 4 with fail
 clear HI HJ HT HS;have hl_j9:=LL.out.lts;generalize hwm:World.alloc wk _=wm;replace LL:=Hd (LL.out.newE hwm)
 have hz:wm.heap.size=wk.heap.size+1:=by rw [<- hwm];simp
 clear hwm;generalize hwn:World.alloc wm _=wn;replace LL:=Hd (LL.out.newE hwn);rw [hz] at LL
 simp only [List.cons_append,List.nil_append] at LL
 simp only [List.mem_cons,List.not_mem_nil,or_false,forall_eq_or_imp,forall_eq,false_imp_iff,implies_true,and_true] at hl_j9
 clear hwn hz;generalize wk.heap.size=j9 at LL hl_j9 ⊢;have LL0:=Hd (show Lies w wn [(w.heap.size,28,(Zv A1 A2)),((w.heap.size+1),28,(Zv B1 B2)),((w.heap.size+2),28,(Zv C1 C2)),((w.heap.size+3),28,(Zv x1 x2)),((w.heap.size+4),28,(Zv 0 0)),(j9,78,#[.float .f64 (Pd (2*0)),.float .f64 (Pu (2*0))]),((j9+1),78,#[.float .f64 (Qd (2*0)),.float .f64 (Qu (2*0))])] [] from by rw [HP.out.1,HP.out.2,HQ.out.1,HQ.out.2];exact LL.out);clear LL HP HQ;have LL:=LL0;clear LL0;obtain⟨q1_0,q1_1⟩:=(LL.out.blk 0 rfl).c2;go_wp2;clear q1_0 q1_1
 go_loopw [12,29] (fun _ iv wr=>∃ i:Nat,iv=.int .i64 (i:Int)/\i<=2/\Lies w wr [(w.heap.size,28,(Zv A1 A2)),((w.heap.size+1),28,(Zv B1 B2)),((w.heap.size+2),28,(Zv C1 C2)),((w.heap.size+3),28,(Zv x1 x2)),((w.heap.size+4),28,(Zv 0 0)),(j9,78,#[.float .f64 (Pd (2*i)),.float .f64 (Pu (2*i))]),((j9+1),78,#[.float .f64 (Qd (2*i)),.float .f64 (Qu (2*i))])] []) (fun _ iv _=>2 - (intOf iv).toNat)
 case atStart=>exact⟨0,rfl,by omega,LL.out⟩
 case round=>
  clear LL;obtain⟨i,rfl,hi,hl⟩:=hrel;have LL:=Hd hl;clear hl
  by_cases hlt:i<2
  ·skip
   obtain⟨wo,rfl⟩:∃ wo:World,wo=wr:=⟨_,rfl⟩
   have ixi:=IXA.out i hlt;obtain⟨q2_0,q2_1⟩:=(LL.out.blk 1 rfl).c2;go_wp2;clear ixi q2_0 q2_1
   go_loopw [14,37] (fun _ iv wr=>∃ j:Nat,iv=.int .i64 (j:Int)/\j<=2/\Lies w wr [(w.heap.size,28,(Zv A1 A2)),((w.heap.size+1),28,(Zv B1 B2)),((w.heap.size+2),28,(Zv C1 C2)),((w.heap.size+3),28,(Zv x1 x2)),((w.heap.size+4),28,(Zv 0 0)),(j9,78,#[.float .f64 (Pd (2*i+j)),.float .f64 (Pu (2*i+j))]),((j9+1),78,#[.float .f64 (Qd (2*i+j)),.float .f64 (Qu (2*i+j))])] []) (fun _ iv _=>2 - (intOf iv).toNat)
   case atStart=>exact⟨0,rfl,by omega,LL.out⟩
   case round=>
    clear LL;obtain⟨j,rfl,hj,hl⟩:=hrel;have LL:=Hd hl;clear hl
    by_cases hlt2:j<2
    ·skip;have ixj:=IXB.out j hlt2;have HLk:=Hd (HL.out i j hlt hlt2);have HHk:=Hd (HH.out i j hlt hlt2)
     go_upto_region 10 with fail
     clear ixj
     go_cut [15,16,30,38] from 40 to 49 (fun s15 s16 s30 s38 wx=>∃ j15 j16:Nat,s30=.bool (decide ((i:Int)<2))/\s15=.pointer (some ⟨j15,0,none⟩)/\s16=.pointer (some ⟨j16,0,none⟩)/\(w.heap.size+4<j15/\w.heap.size+4<j16/\j9+1<j15/\j9+1<j16/\j15≠j16)/\Lies w wx [(w.heap.size,28,(Zv A1 A2)),((w.heap.size+1),28,(Zv B1 B2)),((w.heap.size+2),28,(Zv C1 C2)),((w.heap.size+3),28,(Zv x1 x2)),((w.heap.size+4),28,(Zv 0 0)),(j9,78,#[.float .f64 (Pd (2*i+j)),.float .f64 (Pu (2*i+j))]),((j9+1),78,#[.float .f64 (Qd (2*i+j)),.float .f64 (Qu (2*i+j))]),(j15,78,#[.float .f64 (ld i j),.float .f64 (lu i j)]),(j16,78,#[.float .f64 (gd i j),.float .f64 (gu i j)])] [])
     case first=>
      clear HL HH NA NB XA XB HCUT IXA IXB hlt2 hi hj;refine regL LL (fun hHeld=>?_);clear LL;generalize World.drew _=wk at hHeld  ⊢;refine tks 0 ?_;refine tkb 1 (fun _ h=>(h.blk 2 rfl).c2) ?_;refine tks 2 ?_;refine tks 3 ?_;refine tks 5 ?_;refine tkb 6 (fun _ h=>(h.blk 2 rfl).c2) ?_;refine tks 7 ?_;refine tks 8 ?_
      repeat' first
       | (have hx:=hC4;clear hx;go_simp;refine (HLk.out _).mono ?_;rintro e wk ⟨rfl,hb1⟩;go_wp2_with fail;refine hC4.out _ _ (hHeld.keep hb1) (fun _=>?_);clear hC4 KK hHeld;rename_i hHeld;(try simp only [Act.put,lay]);(try replace B_j15:=B_j15.keep hb1);(try replace B_j16:=B_j16.keep hb1);clear hb1;have mk4:=True.intro)
       | (have hx:=hC9;clear hx;go_simp;refine (HHk.out _).mono ?_;rintro e wk ⟨rfl,hb2⟩;go_wp2_with fail;refine hC9.out _ _ (hHeld.keep hb2) (fun _=>?_);clear hC9 KK hHeld;rename_i hHeld;(try simp only [Act.put,lay]);(try replace B_j15:=B_j15.keep hb2);(try replace B_j16:=B_j16.keep hb2);clear hb2;have mk9:=True.intro)
       | (have hx:=hA10;clear hx;go_simp;have hl_j15:=hHeld.lts;refine hA10.out _ _ (hHeld.alloc _) (fun _=>?_);clear hA10 KK hHeld;rename_i hHeld;(try simp only [Act.put,lay]);generalize hwn:World.alloc wk _=wn at hHeld ⊢;have B_j15:=Blk.newE hwn;(try (have hx_j15:=B_j16.lt;replace B_j16:=B_j16.keep (below_allocE hwn)));simp only [List.mem_cons,List.not_mem_nil,or_false,forall_eq_or_imp,forall_eq,false_imp_iff,implies_true,and_true] at hl_j15;clear hwn;generalize hg:wk.heap.size=j15 at B_j15 hl_j15 ⊢;(try rw [hg] at hx_j15);clear hg;obtain⟨wk,rfl⟩:∃ X,X=wn:=⟨_,rfl⟩;have mk10:=True.intro)
       | (have hx:=hA11;clear hx;go_simp;have hl_j16:=hHeld.lts;refine hA11.out _ _ (hHeld.alloc _) (fun _=>?_);clear hA11 KK hHeld;rename_i hHeld;(try simp only [Act.put,lay]);generalize hwn:World.alloc wk _=wn at hHeld ⊢;have B_j16:=Blk.newE hwn;(try (have hx_j16:=B_j15.lt;replace B_j15:=B_j15.keep (below_allocE hwn)));simp only [List.mem_cons,List.not_mem_nil,or_false,forall_eq_or_imp,forall_eq,false_imp_iff,implies_true,and_true] at hl_j16;clear hwn;generalize hg:wk.heap.size=j16 at B_j16 hl_j16 ⊢;(try rw [hg] at hx_j16);clear hg;obtain⟨wk,rfl⟩:∃ X,X=wn:=⟨_,rfl⟩;have mk11:=True.intro)
       | (have hx:=hS12;clear hx;have qz0:=B_j15.ce 0 rfl;have fz0:=B_j15.frozen 0;have qz1:=B_j15.ce 1 rfl;have fz1:=B_j15.frozen 1;go_simp;have hsx:=hHeld.far [.float .f64 (ld i j),.float .f64 (lu i j)] 0 (g:=j15) (by omega) (by simp<;>omega) (by simp<;>omega);generalize hwn:sets wk j15 0 _=wn at hsx;refine hS12.out _ _ (by have e:=hwn;simp only [sets,Nat.reduceAdd] at e;rw [e];exact hsx) (fun _=>?_);clear hS12 KK hHeld hsx;rename_i hHeld;(try simp only [Act.put,lay]);(try replace B_j16:=B_j16.otherE hwn (by omega));replace B_j15:=B_j15.setsE hwn;simp only [laid,lay,Nat.reduceAdd] at B_j15;simp only [sets,Nat.reduceAdd] at hwn;rw [hwn] at hHeld ⊢;clear hwn qz0 fz0 qz1 fz1;obtain⟨wk,rfl⟩:∃ X,X=wn:=⟨_,rfl⟩;have mk12:=True.intro)
       | (have hx:=hS13;clear hx;have qz0:=B_j16.ce 0 rfl;have fz0:=B_j16.frozen 0;have qz1:=B_j16.ce 1 rfl;have fz1:=B_j16.frozen 1;go_simp;have hsx:=hHeld.far [.float .f64 (gd i j),.float .f64 (gu i j)] 0 (g:=j16) (by omega) (by simp<;>omega) (by simp<;>omega);generalize hwn:sets wk j16 0 _=wn at hsx;refine hS13.out _ _ (by have e:=hwn;simp only [sets,Nat.reduceAdd] at e;rw [e];exact hsx) (fun _=>?_);clear hS13 KK hHeld hsx;rename_i hHeld;(try simp only [Act.put,lay]);(try replace B_j15:=B_j15.otherE hwn (by omega));replace B_j16:=B_j16.setsE hwn;simp only [laid,lay,Nat.reduceAdd] at B_j16;simp only [sets,Nat.reduceAdd] at hwn;rw [hwn] at hHeld ⊢;clear hwn qz0 fz0 qz1 fz1;obtain⟨wk,rfl⟩:∃ X,X=wn:=⟨_,rfl⟩;have mk13:=True.intro)
       | (have hx:=mk4;have hx:=mk9;have hx:=mk10;have hx:=mk11;have hx:=mk12;have hx:=mk13;refine wpAnyH_done (by kernel_rfl) ?_ _;clear hx mk4 mk9 mk10 mk11 mk12 mk13;go_wp2_with fail;go_meet;exact⟨j15,j16,by (first | rfl | (simp<;>omega)),rfl,rfl,⟨by omega,by omega,by omega,by omega,by omega⟩,(hHeld.put B_j15).put B_j16⟩)
       | (have hx:=mk4;have hx:=mk9;have hx:=mk10;have hx:=mk11;have hx:=mk12;refine rdy 13 (fun KK hS13=>?_))
       | (have hx:=mk4;have hx:=mk9;have hx:=mk10;have hx:=mk11;refine rdy 12 (fun KK hS12=>?_))
       | (have hx:=mk4;have hx:=mk10;have hx:=mk11;refine rdy 9 (fun KK hC9=>?_))
       | (have hx:=mk4;have hx:=mk9;have hx:=mk11;refine rdy 10 (fun KK hA10=>?_))
       | (have hx:=mk4;have hx:=mk9;have hx:=mk10;refine rdy 11 (fun KK hA11=>?_))
       | (have hx:=mk10;have hx:=mk11;refine rdy 4 (fun KK hC4=>?_))
       | (have hx:=mk4;have hx:=mk11;refine rd2 9 10 (fun KK hC9=>?_) (fun KK hA10=>?_))
       | (have hx:=mk4;have hx:=mk10;refine rd2 9 11 (fun KK hC9=>?_) (fun KK hA11=>?_))
       | (have hx:=mk4;have hx:=mk9;refine rd2 10 11 (fun KK hA10=>?_) (fun KK hA11=>?_))
       | (have hx:=mk11;refine rd2 4 10 (fun KK hC4=>?_) (fun KK hA10=>?_))
       | (have hx:=mk10;refine rd2 4 11 (fun KK hC4=>?_) (fun KK hA11=>?_))
       | (have hx:=mk4;refine rd3 9 10 11 (fun KK hC9=>?_) (fun KK hA10=>?_) (fun KK hA11=>?_))
       | (refine rd3 4 10 11 (fun KK hC4=>?_) (fun KK hA10=>?_) (fun KK hA11=>?_))
     case rest=>
     obtain⟨j15,j16,rfl,rfl,rfl,hgs,hcl⟩:=hcut;rename World=>wx;clear LL;have LL:=Hd hcl;clear hcl;obtain⟨q3_0,q3_1⟩:=(LL.out.blk 5 rfl).c2;obtain⟨q4_0,q4_1⟩:=(LL.out.blk 7 rfl).c2;have fz0:=(LL.out.blk 5 rfl).frozen 0;have fz1:=(LL.out.blk 5 rfl).frozen 1;have ma:=NA.out i j hlt hlt2;have mb:=NB.out i j hlt hlt2
     go_upto_region 12 with fail
     clear ma mb q3_0 q3_1 q4_0 q4_1 fz0 fz1;replace LL:=Hd (LL.out.part 5 rfl 0 [.float .f64 (Pd (2*i+j+1)),.float .f64 (Pu (2*i+j+1))] (by omega) (by simp<;>omega) (by simp<;>omega))
     simp only [List.eraseIdx,laid,List.cons_append,List.nil_append,List.setIfInBounds_toArray,List.set_cons_zero,List.set_cons_succ,Nat.zero_add,Nat.reduceAdd] at LL
     obtain⟨wn,hwn⟩:∃ X,(sets wx j9 0 [.float .f64 (Pd (2*i+j+1)),.float .f64 (Pu (2*i+j+1))])=X:=⟨_,rfl⟩
     rw [hwn] at LL
     simp only [sets,Nat.reduceAdd] at hwn
     rw [hwn];clear hwn;obtain⟨q5_0,q5_1⟩:=(LL.out.blk 5 rfl).c2;obtain⟨q6_0,q6_1⟩:=(LL.out.blk 7 rfl).c2;have fz0:=(LL.out.blk 5 rfl).frozen 0;have fz1:=(LL.out.blk 5 rfl).frozen 1;have ma:=XA.out i j hlt hlt2;have mb:=XB.out i j hlt hlt2
     go_upto_region 13 with fail
     clear ma mb q5_0 q5_1 q6_0 q6_1 fz0 fz1;replace LL:=Hd (LL.out.part 5 rfl 0 [.float .f64 (Qd (2*i+j+1)),.float .f64 (Qu (2*i+j+1))] (by omega) (by simp<;>omega) (by simp<;>omega))
     simp only [List.eraseIdx,laid,List.cons_append,List.nil_append,List.setIfInBounds_toArray,List.set_cons_zero,List.set_cons_succ,Nat.zero_add,Nat.reduceAdd] at LL
     obtain⟨wn,hwn⟩:∃ X,(sets wn (j9+1) 0 [.float .f64 (Qd (2*i+j+1)),.float .f64 (Qu (2*i+j+1))])=X:=⟨_,rfl⟩
     rw [hwn] at LL
     simp only [sets,Nat.reduceAdd] at hwn
     rw [hwn];clear hwn;go_wp2
     go_roundw
     case rel=>exact⟨j+1,by go_num,by omega,LL.out.perm (by simp [Nat.add_assoc]) (by simp)⟩
     case measure=>simp [intOf];omega
    ·skip
     obtain rfl:j=2:=by omega
     go_wp2
     go_roundw
     case rel=>exact⟨i+1,by go_num,by omega,by rw [show 2*(i+1)=2*i+2 from by omega];exact LL.out⟩
     case measure=>simp [intOf];omega
  ·skip
   obtain rfl:i=2:=by omega
   obtain⟨q3_0,q3_1⟩:=(LL.out.blk 3 rfl).c2;obtain⟨q4_0,q4_1⟩:=(LL.out.blk 5 rfl).c2;obtain⟨q5_0,q5_1⟩:=(LL.out.blk 6 rfl).c2;go_wp2_with fail;refine cx (HCUT.out _) fun wk hb=>?_;replace LL:=stL LL hb;clear hb q3_0 q3_1 q4_0 q4_1 q5_0 q5_1;replace LL:=Hd (LL.out.loose 4 rfl rfl)
   simp only [List.eraseIdx,List.size_toArray,List.length_cons,List.length_nil,Nat.zero_add,Nat.reduceAdd] at LL
   obtain⟨ha8_0,hf8_0,ha8_1,hf8_1⟩:=(LL.out.has 0 rfl).sf2;have LF:=Hd (LL.out.wr [.float .f64 r1,.float .f64 r2]);obtain⟨hk8_0,hk8_1⟩:=(LF.out.blk 6 rfl).c2
   simp [sets] at hk8_0 hk8_1
   clear LL;go_wp2;refine bodyPost_ret (v:=Zf r1 r2) (by simp [results,Tryz.results32,go_sem,hk8_0,hk8_1]) rfl ?_
   exact⟨rfl,LF.out.b⟩
end
end Go.Proofs.YthlmlmfebpjgdaaGreatDoor
