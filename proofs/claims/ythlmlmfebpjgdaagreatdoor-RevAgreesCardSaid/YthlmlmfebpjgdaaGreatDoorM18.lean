/-
Lemmas for the statement: Step2T Step3T SgnT SgnL ClS AgrP AgrS AgrF AgrG Read2T.
-/
import Derived.Test.YthlmlmfebpjgdaaGreatDoorM17
import Derived.Test.YthlmlmfebpjgdaaGreatDoorM07
import Derived.Test.YthlmlmfebpjgdaaGreatDoorM03
import Derived.Shelf.Abstract
import Derived.Deep.DeepCutAuto
set_option linter.unusedSimpArgs false
set_option linter.unusedVariables false
set_option maxHeartbeats 12800000
namespace Go.Proofs.YthlmlmfebpjgdaaGreatDoor
section
open Go.RowKit
theorem order_is{a b:Nat}{i j:Int}(ha:Is a i)(hb:Is b j):FloatKind.f64.format.order a b=some (compare i j):=by
 have h:=order_real ha.real hb.real;rw [ha.idx,hb.idx] at h
 exact h
theorem is_pat{i:Int}(h:-(M:Int)<=i/\i<=M):Is (pat i) i:=⟨pat_lt h.1 h.2,by unfold real;rw [rung_pat h.1 h.2];omega,idx_pat h.1 h.2⟩
theorem gt_false{a b:Nat}{i j:Int}(ha:Is a i)(hb:Is b j)(h:¬ j<i):(FloatKind.f64.format.order a b == some Ordering.gt)=false:=by
 rw [order_is ha hb]
 rcases Int.lt_or_eq_of_le (show i<=j by omega) with k | k
 ·rw [Int.compare_eq_lt.2 k];rfl
 ·rw [Int.compare_eq_eq.2 k];rfl
theorem lt_false{a b:Nat}{i j:Int}(ha:Is a i)(hb:Is b j)(h:¬ i<j):(FloatKind.f64.format.order a b == some Ordering.lt)=false:=by
 rw [order_is ha hb]
 rcases Int.lt_or_eq_of_le (show j<=i by omega) with k | k
 ·rw [Int.compare_eq_gt.2 k];rfl
 ·rw [Int.compare_eq_eq.2 k.symm];rfl
theorem gt_true{a b:Nat}{i j:Int}(ha:Is a i)(hb:Is b j)(h:j<i):FloatKind.f64.format.order a b=some .gt:=by rw [order_is ha hb,Int.compare_eq_gt.2 h]
theorem lt_true{a b:Nat}{i j:Int}(ha:Is a i)(hb:Is b j)(h:i<j):FloatKind.f64.format.order a b=some .lt:=by rw [order_is ha hb,Int.compare_eq_lt.2 h]
structure StepFn (w:World) (kF kT:FuncId) (cF cT:Array Value) (F T:Int->Int):Prop where
 eF:∀ (args:Array Value) (W:World),(callFunc kF args).run Tryz.prog W=.ok (.enter kF args) W
 eT:∀ (args:Array Value) (W:World),(callFunc kT args).run Tryz.prog W=.ok (.enter kT args) W
 hF:∀ i,-(M:Int)<=i->i<M->(-(M:Int)<=F (wh 2 i)/\F (wh 2 i)<=M)/\∀ W,Below w.heap.size w W->Calls Tryz.prog kF (#[.float .f64 (pat (wh 2 i))] ++ cF) W fun e w'=>e=.returned (.float .f64 (pat (F (wh 2 i))))/\Below W.heap.size W w'
 hT:∀ i,-(M:Int)<i->i<=M->(-(M:Int)<=T (wh 1 i)/\T (wh 1 i)<=M)/\∀ W,Below w.heap.size w W->Calls Tryz.prog kT (#[.float .f64 (pat (wh 1 i))] ++ cT) W fun e w'=>e=.returned (.float .f64 (pat (T (wh 1 i))))/\Below W.heap.size W w'
def ValFn(w:World)(kV:FuncId)(vw:Nat->Nat):Prop:=
 ((∀ (args:Array Value) (W:World),(callFunc kV args).run Tryz.prog W=.ok (.enter kV args) W)/\∀ i,-(M:Int)<=i->i<=M->∀ W,Below w.heap.size w W->Calls Tryz.prog kV #[.float .f64 (pat i)] W fun e w'=>e=.returned (.float .f64 (vw (pat i)))/\Below W.heap.size W w') \/
 (∀ i,-(M:Int)<=i->i<=M->∀ W,(callFunc kV #[.float .f64 (pat i)]).run Tryz.prog W=.ok (.value (.float .f64 (vw (pat i)))) W)
theorem step_idx(kV kF kT:FuncId)(cF cT:Array Value)(vw:Nat->Nat)(V F T:Int->Int)(c1 c2 x y:Nat)(w:World)(hc1:c1<18446744073709551616)(hc2:c2<18446744073709551616)(hx:x<18446744073709551616)(hy:y<18446744073709551616)
  (hI:∀ i,-(M:Int)<=i->i<=M->Is (vw (pat i)) (V i))(hV:ValFn w kV vw)(hS:StepFn w kF kT cF cT F T):
  Rt 124 #[Zf c1 c2,Zf x y,.func (.func kV) #[] #[],.func (.func kF) #[] cF,.func (.func kT) #[] cT] (Zf (pat (stp V F T (rd c1 c2) (rd x y)).1) (pat (stp V F T (rd c1 c2) (rd x y)).2)) w:=by
 have hM:=M_val;have v2:=rd_iv c1 c2;have v3:=rd_iv x y;have t2:=fun W=>readf c1 c2 W hc1 hc2;have t3:=fun W=>readf x y W hx hy
 obtain⟨⟨i2,j2⟩,r2⟩:∃ z,rd c1 c2=z:=⟨_,rfl⟩
 obtain⟨⟨i3,j3⟩,r3⟩:∃ z,rd x y=z:=⟨_,rfl⟩
 rw [r2] at v2 t2;rw [r3] at v3 t3;rw [r2,r3]
 dsimp only at *
 have m2:=em_idx v2;have m3:=em_idx v3;unfold stp
 dsimp only
 by_cases hno:j2<i2\/j3<i3
 ·rw [if_pos hno,pat_max,pat_min]
  exact step_none kV kF kT cF cT _ _ _ _ _ _ _ _ _ _ w t2 m2 t3 m3 (by simp;omega)
 have hnn:(decide (j2<i2) || decide (j3<i3))=false:=by simp;omega
 have k2:=ne_or v2 (by omega);have k3:=ne_or v3 (by omega);unfold Ne at k2 k3;rw [if_neg hno];have up:=wW_is .up (b:=pat i2) (is_pat ⟨k2.1,by omega⟩).real;have dw:=wW_is .down (b:=pat j2) (is_pat ⟨by omega,k2.2.2.1⟩).real;rw [idx_pat k2.1 (by omega),show kW .up=2 from rfl] at up;rw [idx_pat (by omega) k2.2.2.1,show kW .down=1 from rfl] at dw
 have hc:∀ W,Rt 128 #[.float .f64 (pat i2)] (.float .f64 (wW .up (pat i2))) W:=fun W=>(ceil_any (pat i2) W (is_pat ⟨k2.1,by omega⟩).real).mono fun _ _ ⟨a,b⟩=>⟨a,b ▸ Below.refl _ _⟩
 have hf:∀ W,Rt 125 #[.float .f64 (pat j2)] (.float .f64 (wW .down (pat j2))) W:=fun W=>(floor_any (pat j2) W (is_pat ⟨by omega,k2.2.2.1⟩).real).mono fun _ _ ⟨a,b⟩=>⟨a,b ▸ Below.refl _ _⟩
 have hp1:∀ W,Rt 191 #[.float .f64 (wW .up (pat i2))] (.float .f64 (pat (wh 2 i2))) W:=fun W=>(fplainf _ W up.lt up.real).mono fun _ _ ⟨a,b⟩=>⟨by rw [a,up.idx],b ▸ Below.refl _ _⟩
 have hp2:∀ W,Rt 191 #[.float .f64 (wW .down (pat j2))] (.float .f64 (pat (wh 1 j2))) W:=fun W=>(fplainf _ W dw.lt dw.real).mono fun _ _ ⟨a,b⟩=>⟨by rw [a,dw.idx],b ▸ Below.refl _ _⟩
 have rA:=wh_rng (w:=2) (by omega) (i:=i2) (by omega);have rB:=wh_rng (w:=1) (by omega) (i:=j2) (by omega);obtain⟨rF,hF⟩:=hS.hF i2 k2.1 k2.2.2.2.1;obtain⟨rT,hT⟩:=hS.hT j2 k2.2.2.2.2 k2.2.2.1;have vi:=hI i3 k3.1 (by omega);have vj:=hI j3 (by omega) k3.2.2.1;have hmx:=fun W ts t=>run_maxf (show -(M:Int)<=i3/\i3<=M by omega) rF W ts t;have hmn:=fun W ts t=>run_minf (show -(M:Int)<=j3/\j3<=M by omega) rT W ts t;have pA:=is_pat (i:=wh 2 i2) ⟨rA.1,rA.2.1⟩;have pB:=is_pat (i:=wh 1 j2) ⟨rB.1,rB.2.1⟩
 by_cases h1:wh 1 j2<wh 2 i2
 ·rw [if_pos (.inl h1),pat_max,pat_min]
  exact step_far kV kF kT cF cT _ _ _ _ _ _ _ _ _ _ _ _ _ _ w t2 m2 t3 m3 hnn hc hp1 hf hp2 (gt_true pA pB h1)
 have o1:=gt_false pA pB h1
 by_cases h2:wh 1 j2<V i3
 ·rw [if_pos (.inr (.inl h2)),pat_max,pat_min]
  rcases hV with ⟨eV,hV⟩ | hV
  ·exact step_low kV kF kT cF cT eV _ _ _ _ _ _ _ _ _ _ _ _ _ _ w t2 m2 t3 m3 hnn hc hp1 hf hp2 _ o1 (hV i3 k3.1 (by omega)) (gt_true vi pB h2)
  ·exact step_lowx kV kF kT cF cT _ _ _ _ _ _ _ _ _ _ _ _ _ _ w t2 m2 t3 m3 hnn hc hp1 hf hp2 _ o1 (hV i3 k3.1 (by omega)) (gt_true vi pB h2)
 have o2:=gt_false vi pB h2
 by_cases h3:V j3<wh 2 i2
 ·rw [if_pos (.inr (.inr h3)),pat_max,pat_min]
  rcases hV with ⟨eV,hV⟩ | hV
  ·exact step_high kV kF kT cF cT eV _ _ _ _ _ _ _ _ _ _ _ _ _ _ w t2 m2 t3 m3 hnn hc hp1 hf hp2 _ _ o1 (hV i3 k3.1 (by omega)) o2 (hV j3 (by omega) k3.2.2.1) (lt_true vj pA h3)
  ·exact step_highx kV kF kT cF cT _ _ _ _ _ _ _ _ _ _ _ _ _ _ w t2 m2 t3 m3 hnn hc hp1 hf hp2 _ _ o1 (hV i3 k3.1 (by omega)) o2 (hV j3 (by omega) k3.2.2.1) (lt_true vj pA h3)
 have o3:=lt_false vj pA h3;rw [if_neg (by rintro (h | h | h);exact h1 h;exact h2 h;exact h3 h)]
 rcases hV with ⟨eV,hV⟩ | hV
 ·exact step_some kV kF kT cF cT eV hS.eF hS.eT _ _ _ _ _ _ _ _ _ _ _ _ _ _ w t2 m2 t3 m3 hnn hc hp1 hf hp2 _ _ _ _ _ _ o1 (hV i3 k3.1 (by omega)) o2 (hV j3 (by omega) k3.2.2.1) o3 hF hT hmx hmn
 ·exact step_somex kV kF kT cF cT hS.eF hS.eT _ _ _ _ _ _ _ _ _ _ _ _ _ _ w t2 m2 t3 m3 hnn hc hp1 hf hp2 _ _ _ _ _ _ o1 (hV i3 k3.1 (by omega)) o2 (hV j3 (by omega) k3.2.2.1) o3 hF hT hmx hmn
end
section
open Go.RowKit
theorem fl_one:fl 4607182418800017408=1:=by decide +kernel
theorem ahead_eq(w:Nat){b i:Int}(hb:-(M:Int)<b/\b<M)(hL:∀ A:Int,bL w A=A - fl b)(h0:-(M:Int)<=i)(h1:i<M):ad (-1) (wh 2 i) (-b)=FL w (wh 2 i):=by
 have hM:=M_val
 rcases FLc w h0 h1 with ⟨k,h⟩ | ⟨k1,k2,k3,h⟩
 ·rw [h,k];unfold ad;rw [if_pos (.inr rfl)]
 ·rw [h];unfold ad;rw [if_neg (by omega),if_neg (by omega),k1,fl_neg,hL,Rat.sub_eq_add_neg]
theorem behind_eq(w:Nat){b i:Int}(hb:-(M:Int)<b/\b<M)(hU:∀ A:Int,bU w A=A+fl b)(h0:-(M:Int)<i)(h1:i<=M):ad 1 (wh 1 i) b=TU w (wh 1 i):=by
 have hM:=M_val
 rcases TUc w h0 h1 with ⟨k,h⟩ | ⟨k1,k2,k3,h⟩
 ·rw [h,k];unfold ad;rw [if_pos (.inl rfl)]
 ·rw [h];unfold ad;rw [if_neg (by omega),if_neg (by omega),k1,hU]
theorem rsub_k{b i:Int}(w:Nat)(hb:-(M:Int)<b/\b<M)(hL:∀ A:Int,bL w A=A - fl b)(h0:-(M:Int)<=i)(h1:i<M)(W:World):
  Rt 84 #[.int .i64 (-1),.float .f64 (pat (wh 2 i)),.float .f64 (pat b)] (.float .f64 (pat (FL w (wh 2 i)))) W:=by
 have hM:=M_val;have r:=wh_rng (w:=2) (by omega) (i:=i) (by omega);have h:=rsub_pat (-1) (wh 2 i) b W (.inl rfl) (by omega) (by omega) (by unfold NoCl;omega);rw [ahead_eq w hb hL h0 h1] at h
 exact h
theorem radd_k{b i:Int}(w:Nat)(hb:-(M:Int)<b/\b<M)(hU:∀ A:Int,bU w A=A+fl b)(h0:-(M:Int)<i)(h1:i<=M)(W:World):
  Rt 139 #[.int .i64 1,.float .f64 (pat (wh 1 i)),.float .f64 (pat b)] (.float .f64 (pat (TU w (wh 1 i)))) W:=by
 have hM:=M_val;have r:=wh_rng (w:=1) (by omega) (i:=i) (by omega);have h:=radd_pat 1 (wh 1 i) b W (.inr rfl) (by omega) (by omega) (by unfold NoCl;omega);rw [behind_eq w hb hU h0 h1] at h
 exact h
theorem ahead_fn(w:Nat){b:Int}(hb:-(M:Int)<b/\b<M)(hL:∀ A:Int,bL w A=A - fl b){W0:World}{B:Nat}(hc:Cap W0 B (pat b)):
  ∀ i,-(M:Int)<=i->i<M->(-(M:Int)<=FL w (wh 2 i)/\FL w (wh 2 i)<=M)/\∀ W,Below W0.heap.size W0 W->Calls Tryz.prog 197 (#[.float .f64 (pat (wh 2 i))] ++ #[.pointer (some ⟨B,0,none⟩)]) W fun e w'=>e=.returned (.float .f64 (pat (FL w (wh 2 i))))/\Below W.heap.size W w':=
 fun _ h0 h1=>⟨FL_rng w h0 h1,fun W hW=>ahead1 _ _ _ B W (hc.below hW).1 (rsub_k w hb hL h0 h1)⟩
theorem behind_fn(w:Nat){b:Int}(hb:-(M:Int)<b/\b<M)(hU:∀ A:Int,bU w A=A+fl b){W0:World}{B:Nat}(hc:Cap W0 B (pat b)):
  ∀ i,-(M:Int)<i->i<=M->(-(M:Int)<=TU w (wh 1 i)/\TU w (wh 1 i)<=M)/\∀ W,Below W0.heap.size W0 W->Calls Tryz.prog 194 (#[.float .f64 (pat (wh 1 i))] ++ #[.pointer (some ⟨B,0,none⟩)]) W fun e w'=>e=.returned (.float .f64 (pat (TU w (wh 1 i))))/\Below W.heap.size W w':=
 fun _ h0 h1=>⟨TU_rng w h0 h1,fun W hW=>behind1 _ _ _ B W (hc.below hW).1 (radd_k w hb hU h0 h1)⟩
theorem FL_one{i:Int}(h0:-(M:Int)<=i)(h1:i<M):FL 1 (wh 2 i)=wh 2 i:=by
 rcases FLc 1 h0 h1 with ⟨k,h⟩ | ⟨k1,k2,k3,h⟩
 ·rw [h,k]
 ·rw [h,show bL 1 (fl i).ceil=((fl i).ceil:Rat) from rfl,<- k1,rndI_fl (.inl rfl) k2 k3]
theorem TU_two{i:Int}(h0:-(M:Int)<i)(h1:i<=M):TU 2 (wh 1 i)=wh 1 i:=by
 rcases TUc 2 h0 h1 with ⟨k,h⟩ | ⟨k1,k2,k3,h⟩
 ·rw [h,k]
 ·rw [h,show bU 2 (fl i).floor=((fl i).floor:Rat) from rfl,<- k1,rndI_fl (.inr rfl) k2 k3]
theorem itself_low(W0:World):∀ i,-(M:Int)<=i->i<M->(-(M:Int)<=FL 1 (wh 2 i)/\FL 1 (wh 2 i)<=M)/\∀ W,Below W0.heap.size W0 W->Calls Tryz.prog 126 (#[.float .f64 (pat (wh 2 i))] ++ #[]) W fun e w'=>e=.returned (.float .f64 (pat (FL 1 (wh 2 i))))/\Below W.heap.size W w':=
 fun i h0 h1=>⟨FL_rng 1 h0 h1,fun W _=>by rw [FL_one h0 h1];exact itself_any _ W⟩
theorem itself_up(W0:World):∀ i,-(M:Int)<i->i<=M->(-(M:Int)<=TU 2 (wh 1 i)/\TU 2 (wh 1 i)<=M)/\∀ W,Below W0.heap.size W0 W->Calls Tryz.prog 126 (#[.float .f64 (pat (wh 1 i))] ++ #[]) W fun e w'=>e=.returned (.float .f64 (pat (TU 2 (wh 1 i))))/\Below W.heap.size W w':=
 fun i h0 h1=>⟨TU_rng 2 h0 h1,fun W _=>by rw [TU_two h0 h1];exact itself_any _ W⟩
theorem calls_below{W:World}{f:FuncId}{b r:Nat}(h:Calls Tryz.prog f #[.float .f64 b] W fun e w'=>e=.returned (.float .f64 r)/\W=w'):Calls Tryz.prog f #[.float .f64 b] W fun e w'=>e=.returned (.float .f64 r)/\Below W.heap.size W w':=h.mono fun _ _ ⟨a,b⟩=>⟨a,b ▸ Below.refl _ _⟩
theorem wW_idx(way:Ieee.Toward)(i:Int)(h0:-(M:Int)<=i)(h1:i<=M):Is (wW way (pat i)) (wh (kW way) i):=by
 have h:=wW_is way (is_pat ⟨h0,h1⟩).real
 rwa [idx_pat h0 h1] at h
theorem val_floor(w:World):ValFn w 125 (wW .down):=.inl ⟨enters_of Tryz.func125 (by kernel_rfl) rfl,fun i h0 h1 W _=>calls_below (floor_any (pat i) W (is_pat ⟨h0,h1⟩).real)⟩
theorem val_ceil(w:World):ValFn w 128 (wW .up):=.inl ⟨enters_of Tryz.func128 (by kernel_rfl) rfl,fun i h0 h1 W _=>calls_below (ceil_any (pat i) W (is_pat ⟨h0,h1⟩).real)⟩
section
variable (c1 c2 x y:Nat) (w:World) (hc1:c1<18446744073709551616) (hc2:c2<18446744073709551616) (hx:x<18446744073709551616) (hy:y<18446744073709551616)
include hc1 hc2 hx hy
theorem floorrev_any:Rt 55 #[Zf c1 c2,Zf x y] (Zf (pat (stq 1 (rd c1 c2) (rd x y)).1) (pat (stq 1 (rd c1 c2) (rd x y)).2)) w:=
 floor_walk c1 c2 x y _ _ w fun W B hB=>step_idx _ _ _ _ _ _ _ _ _ c1 c2 x y W hc1 hc2 hx hy (wW_idx .down) (val_floor W)
  ⟨enters_of Tryz.func126 (by kernel_rfl) rfl,enters_of Tryz.func194 (by kernel_rfl) rfl,itself_low W,behind_fn 1 (b:=4607182418800017408) (by have:=M_val;omega) (fun A=>by rw [fl_one];rfl) hB⟩
theorem ceilrev_any:Rt 56 #[Zf c1 c2,Zf x y] (Zf (pat (stq 2 (rd c1 c2) (rd x y)).1) (pat (stq 2 (rd c1 c2) (rd x y)).2)) w:=
 ceil_walk c1 c2 x y _ _ w fun W B hB=>step_idx _ _ _ _ _ _ _ _ _ c1 c2 x y W hc1 hc2 hx hy (wW_idx .up) (val_ceil W)
  ⟨enters_of Tryz.func197 (by kernel_rfl) rfl,enters_of Tryz.func126 (by kernel_rfl) rfl,ahead_fn 2 (b:=4607182418800017408) (by have:=M_val;omega) (fun A=>by rw [fl_one];rfl) hB,itself_up W⟩
end
end
section
open Go.RowKit
end
section
open Go.RowKit
end
theorem bL_lt_bU{w:Nat}{A B:Int}(h:A<=B):bL w A<bU w B:=by
 have e:(A:Rat)<=B:=Rat.intCast_le_intCast.2 h
 match w with
 | 0=>show (A:Rat) - 1/2<(B:Rat)+1/2;grind
 | 1=>show (A:Rat)<(B:Rat)+1;grind
 | 2=>show (A:Rat) - 1<(B:Rat);grind
 | 3=>
  show (if 0<A then (A:Rat) else A - 1)<(if B<0 then (B:Rat) else B+1)
  by_cases a:0<A
  ·rw [if_pos a,if_neg (by omega)];grind
  ·rw [if_neg a]
   split<;>grind
 | 4=>show (A:Rat) - 1/2<(B:Rat)+1/2;grind
 | w+5=>show (A:Rat) - 1/2<(B:Rat)+1/2;grind
theorem stp_void(V F T:Int->Int)(c:Int × Int)(i j:Int)(h:c.2<c.1\/j<i):stp V F T c (i,j)=((M:Int),-(M:Int)):=by
 unfold stp;rw [if_pos h]
theorem stp_void2(V F T:Int->Int)(c:Int × Int)(i j:Int)(h:wh 1 c.2<wh 2 c.1):stp V F T c (i,j)=((M:Int),-(M:Int)):=by
 unfold stp
 split
 ·rfl
 ·rw [if_pos (.inl h)]
theorem Cl.stq{w:Nat}(hw:1<=w){ci cj:Int}(hc:Iv ci cj):Cl fun i j=>Go.Proofs.YthlmlmfebpjgdaaGreatDoor.stq w (ci,cj) (i,j):=by
 have hM:=M_val
 by_cases e:cj<ci
 ·exact Cl.none.congr fun i j _=>stp_void _ _ _ _ _ _ (.inl e)
 by_cases hne:wh 1 cj<wh 2 ci
 ·exact Cl.none.congr fun i j _=>stp_void2 _ _ _ _ _ _ hne
 have n:=ne_or hc e;unfold Ne at n
 obtain⟨s1,x1,o1,h1⟩:∃ (s1:Int) (x1:Rat) (o1:Bool),(s1=-1/\ci=-(M:Int)\/s1=0/\-(M:Int)<ci/\x1=bL w (fl ci).ceil/\o1=oL w (fl ci).ceil):=by
  by_cases k:ci=-(M:Int)
  ·exact⟨-1,0,false,.inl ⟨rfl,k⟩⟩
  ·exact⟨0,_,_,.inr ⟨rfl,by omega,rfl,rfl⟩⟩
 obtain⟨s2,x2,o2,h2⟩:∃ (s2:Int) (x2:Rat) (o2:Bool),(s2=1/\cj=M\/s2=0/\cj<M/\x2=bU w (fl cj).floor/\o2=oU w (fl cj).floor):=by
  by_cases k:cj=M
  ·exact⟨1,0,false,.inl ⟨rfl,k⟩⟩
  ·exact⟨0,_,_,.inr ⟨rfl,by omega,rfl,rfl⟩⟩
 refine (Cl.pf (s1:=s1) (s2:=s2) (o1:=o1) (o2:=o2) (show s1=0\/s1=-1 by rcases h1 with h | h<;>omega) (show s2=0\/s2=1 by rcases h2 with h | h<;>omega) (x1:=x1) (x2:=x2) ?_).cut (fun i j k=>stp_pf hw n k h1 h2 hne) (fun i j k=>stp_void _ _ _ _ _ _ (.inr k));intro z1 z2
 rcases h1 with h1 | ⟨-,g1,h1,-⟩
 ·omega
 rcases h2 with h2 | ⟨-,g2,h2,-⟩
 ·omega
 left
 rw [h1,h2];have b1:=(wh_fin (w:=2) (by omega) (i:=ci) g1 (by omega)).1;have b2:=(wh_fin (w:=1) (by omega) (i:=cj) (by omega) g2).1;have l:=fl_le_iff.2 (show wh 2 ci<=wh 1 cj by omega);rw [b1,b2] at l
 exact bL_lt_bU (Rat.intCast_le_intCast.1 l)
theorem rti_one{d i:Int}(hd:d=-1\/d=1)(h0:-(M:Int)<=i)(h1:i<=M):rti d i 1=i:=by
 have hM:=M_val
 have ok:∀ j:Int,0<j->RtOk j 1 (fl j):=fun j hj=>by
  have p:=fl_pos hj
  have e:∀ y:Rat,y ^ 1=y:=fun y=>by rw [Rat.pow_succ,Rat.pow_zero];grind
  exact⟨p,fun k _=>by rw [e];exact⟨Iff.rfl,Iff.rfl⟩⟩
 have pos:∀ d j:Int,d=-1\/d=1->0<=j->j<=M->rt1 d j 1=j:=fun d j hd k0 k1=>by
  by_cases z:j=0\/j=M
  ·unfold rt1;rw [if_pos z]
  ·rw [rt1_of hd (ok j (by omega)) (by omega) (by omega)]
   exact rndI_fl hd (by omega) (by omega)
 unfold rti
 by_cases c:i<0
 ·rw [if_pos c,pos (-d) (-i) (by omega) (by omega) (by omega)];omega
 ·rw [if_neg c,pos d i hd (by omega) h1]
theorem ct_it{i2 j2 i j:Int}(h:Ne i2 j2)(hx:Ne i j):ct i j i2 i2 j2 j2=it i2 j2 i j:=by
 unfold Ne at h hx;unfold it ct
 by_cases c:j2<i\/j<i2
 ·rw [if_pos c,if_pos (by omega)]
 ·rw [if_neg c,if_neg (by omega)]
  exact Prod.ext (by dsimp only;omega) (by dsimp only;omega)
theorem pwz_one{i2 j2 i j:Int}(h2:Iv i2 j2)(hx:Iv i j):pwz 1 i2 j2 i j=it i2 j2 i j:=by
 have hM:=M_val
 by_cases c:j2<i2\/j<i
 ·have e1:pwz 1 i2 j2 i j=((M:Int),-(M:Int)):=by unfold pwz;rw [if_neg (by omega),if_pos c]
  have e2:it i2 j2 i j=((M:Int),-(M:Int)):=by unfold it;rw [if_pos (by omega)]
  rw [e1,e2]
 ·have n2:=ne_or h2 (by omega);have nx:=ne_or hx (by omega);have m2:=n2;unfold Ne at m2;unfold pwz;rw [if_neg (by omega),if_neg c,if_neg (by omega),if_neg (by omega),show (1:Int).natAbs=1 from rfl];unfold pwr;rw [if_neg (by omega),if_neg (by omega),rti_one (.inl rfl) (by omega) (by omega),rti_one (.inr rfl) (by omega) (by omega),rti_one (.inl rfl) (by omega) (by omega),rti_one (.inr rfl) (by omega) (by omega),ctO_false]
  exact ct_it n2 nx
theorem pwz_two{i2 j2 i j:Int}:pwz 2 i2 j2 i j=pwr 2 i2 j2 i j:=by
 unfold pwz;rw [if_neg (by omega),if_neg (show ¬ (2:Int)=0 by omega),if_neg (show ¬ (2:Int)<0 by omega),show (2:Int).natAbs=2 from rfl]
 by_cases c:j2<i2\/j<i
 ·rw [if_pos c];unfold pwr;rw [if_pos (by omega)]
 ·rw [if_neg c]
theorem ivd_one{d j:Int}(hd:d=-1\/d=1)(h0:0<j):ivd d j 1=if j=M then 0 else rndI d (1 / fl j):=by
 unfold ivd
 split
 ·rfl
 ·have q:RtQ (1 / fl j) 1 (1 / fl j):=by
   rcases Rtp.one (1 / fl j) with h | h | h
   ·have:=recip_pos h0;grind
   ·exact h.2
   ·have:=recip_pos h0;grind
  exact rnd_same ((rtx_ok h0 (by omega)).le q) hd
theorem fl_K1':fl K1=1:=fl_one
theorem apt_FD{i2 j2 i j:Int}(h2:Ne i2 j2)(hx:Ne i j):apt 1 i2 j2 i j=FD K1 K1 i2 j2 i j:=by
 have hM:=M_val
 have k1:0<K1/\K1<M:=by unfold K1;omega
 rw [<- dvs_FD (by unfold Ne;omega) h2 hx];unfold Ne at h2;unfold apt dvs
 by_cases c:j2<=0
 ·rw [if_pos c,if_pos (.inr c)]
 ·rw [if_neg c,if_neg (show ¬ (K1<=0\/j2<=0) by omega),if_pos k1.1,es_mid (by omega) k1.2,ex_mid (by omega) k1.2,fl_K1']
  have ov0:∀ j:Int,0<j->j<=M->ov 0 1 j=(ivd (-1) j 1,ivd 1 j 1):=fun j h0 h1=>by
   rw [ivd_one (.inl rfl) h0,ivd_one (.inr rfl) h0];unfold ov;rw [if_neg (by omega)]
   by_cases e:j=M
   ·rw [if_pos (.inr e),if_pos e,if_pos e]
   ·rw [if_neg (by rintro (z | z);grind;omega),if_neg e,if_neg e]
  rw [ov0 j2 (by omega) (by omega)]
  by_cases k:0<i2
  ·rw [if_pos k,if_pos k,if_pos k,ov0 i2 k (by omega)]
  ·rw [if_neg k,if_neg k,if_neg k]
theorem pwz_recip{i2 j2 i j:Int}(h2:Iv i2 j2)(hx:Iv i j):pwz (-1) i2 j2 i j=dr2 K1 K1 i2 j2 i j:=by
 have hM:=M_val
 have k1:0<K1/\K1<M:=by unfold K1;omega
 unfold pwz dr2;rw [if_neg (by omega)]
 by_cases c:j2<i2\/j<i
 ·rw [if_pos c,if_pos (by omega)]
 ·have n2:=ne_or h2 (by omega);have nx:=ne_or hx (by omega);rw [if_neg c,if_neg (by omega),if_pos (by omega),if_neg (by omega),if_neg (by omega),if_neg (by omega),show (-1:Int).natAbs=1 from rfl];unfold blw;rw [if_neg (by omega),apt_FD n2 nx,apt_FD n2.neg nx.neg]
  have none:∀ a b p q,FD (-K1) (-K1) a b p q=((M:Int),-(M:Int)):=fun a b p q=>by unfold FD;rw [if_pos (.inl (by omega))]
  rw [none,none];have v1:=(Cl.FD (i1:=K1) (j1:=K1) (by omega) (show i2<=j2 by omega)).iv i j hx;have v2:=(Cl.FD (i1:=K1) (j1:=K1) (by omega) (show -j2<=-i2 by omega)).iv (-j) (-i) hx.ng;have r1:=v1.lo;have r2:=v1.hi;have r3:=v2.lo;have r4:=v2.hi
  exact Prod.ext (by dsimp only;omega) (by dsimp only;omega)
theorem fl_inj2{i j:Int}(h:fl i=fl j):i=j:=by
 have a:=(fl_le_iff (i:=i) (j:=j)).1 (by rw [h];exact Rat.le_refl);have b:=(fl_le_iff (i:=j) (j:=i)).1 (by rw [h];exact Rat.le_refl)
 omega
theorem rK_neg(x:Rat):rK 1 (-x)=-rK 2 x:=by
 show (-x).floor=-x.ceil
 have h:=Rat.ceil_eq_neg_floor_neg (a:=x)
 omega
theorem wh_neg(a:Int)(h0:-(M:Int)<=a)(h1:a<=M):wh 1 (-a)=-wh 2 a:=by
 have hM:=M_val
 by_cases c:-(M:Int)<a/\a<M
 ·have b1:=(wh_fin (w:=1) (by omega) (i:=-a) (by omega) (by omega)).1;have b2:=(wh_fin (w:=2) (by omega) (i:=a) c.1 c.2).1
  apply fl_inj2
  rw [b1,fl_neg,fl_neg,b2,rK_neg,Rat.intCast_neg]
 ·unfold wh;rw [if_neg (by omega),if_neg (by omega)]
theorem wh_neg'(a:Int)(h0:-(M:Int)<=a)(h1:a<=M):wh 2 (-a)=-wh 1 a:=by
 have h:=wh_neg (-a) (by omega) (by omega);rw [Int.neg_neg] at h
 omega
theorem FL_TU{k A:Int}(h:(k=M\/k=-(M:Int))\/(-(M:Int)<k/\k<M/\fl k=(A:Rat))):FL 2 k=-TU 1 (-k)/\TU 2 k=-FL 1 (-k):=by
 have hM:=M_val;unfold FL TU
 rcases h with (h | h) | ⟨h0,h1,h⟩
 ·subst h;rw [es_max,es_min];unfold dn up;rw [if_neg (by omega),if_neg (by omega),if_neg (by omega),if_neg (by omega)]
  omega
 ·subst h;rw [Int.neg_neg,es_max,es_min];unfold dn up;rw [if_neg (by omega),if_neg (by omega),if_neg (by omega),if_neg (by omega)]
  omega
 ·rw [es_mid h0 h1,es_mid (i:=-k) (by omega) (by omega),ex_mid h0 h1,ex_mid (i:=-k) (by omega) (by omega),fl_neg,h,<- Rat.intCast_neg,Rat.floor_intCast,Rat.floor_intCast,dn_zero,up_zero,up_zero,dn_zero]
  have e1:bU 1 (-A)=-(bL 2 A):=by
   show ((-A:Int):Rat)+1=-((A:Rat) - 1)
   rw [Rat.intCast_neg];grind
  have e2:bL 1 (-A)=-(bU 2 A):=by
   show ((-A:Int):Rat)=-(A:Rat)
   rw [Rat.intCast_neg]
  have a:=rndI_neg (d:=1) (.inr rfl) (bU 2 A);have b:=rndI_neg (d:=-1) (.inl rfl) (bL 2 A);rw [show (-(1:Int))=-1 from rfl] at a;rw [show (-(-1:Int))=1 from rfl] at b;rw [e1,e2]
  omega
theorem whole_kind(w:Nat)(hw:1<=w)(a:Int)(h0:-(M:Int)<=a)(h1:a<=M):∃ A:Int,(wh w a=M\/wh w a=-(M:Int))\/(-(M:Int)<wh w a/\wh w a<M/\fl (wh w a)=(A:Rat)):=by
 by_cases c:-(M:Int)<a/\a<M
 ·obtain⟨b1,b2,b3⟩:=wh_fin hw (i:=a) c.1 c.2
  exact⟨_,.inr ⟨b2,b3,b1⟩⟩
 ·refine⟨0,.inl ?_⟩;unfold wh;rw [if_neg c]
  omega
theorem ceil_floor{i2 j2 i j:Int}(h2:Iv i2 j2)(hx:Iv i j):stq 2 (i2,j2) (i,j)=(-(stq 1 (-j2,-i2) (-j,-i)).2,-(stq 1 (-j2,-i2) (-j,-i)).1):=by
 have hM:=M_val;have r1:=h2.lo;have r2:=h2.hi;have r3:=hx.lo;have r4:=hx.hi;obtain⟨A,hA⟩:=whole_kind 2 (by omega) i2 r1.1 r1.2;obtain⟨B,hB⟩:=whole_kind 1 (by omega) j2 r2.1 r2.2;have f1:=(FL_TU hA).1;have f2:=(FL_TU hB).2;unfold stq stp
 dsimp only
 rw [wh_neg i2 r1.1 r1.2,wh_neg' j2 r2.1 r2.2,wh_neg i r3.1 r3.2,wh_neg j r4.1 r4.2]
 by_cases c:j2<i2\/j<i
 ·rw [if_pos c,if_pos (show -i2 < -j2\/-i < -j by omega)];simp
 ·rw [if_neg c,if_neg (show ¬ (-i2 < -j2\/-i < -j) by omega)]
  by_cases d:wh 1 j2<wh 2 i2\/wh 1 j2<wh 2 i\/wh 2 j<wh 2 i2
  ·rw [if_pos d,if_pos (show -wh 2 i2 < -wh 1 j2\/-wh 2 i2 < -wh 2 j\/-wh 2 i < -wh 1 j2 by omega)];simp
  ·rw [if_neg d,if_neg (show ¬ (-wh 2 i2 < -wh 1 j2\/-wh 2 i2 < -wh 2 j\/-wh 2 i < -wh 1 j2) by omega),f1,f2]
   exact Prod.ext (by dsimp only;omega) (by dsimp only;omega)
theorem ad_es{d a b:Int}(ha:-(M:Int)<=a/\a<=M)(hb:-(M:Int)<=b/\b<=M):(if es2 (es a) (es b)=0 then rndI d (ex2 (es a) (ex a) (es b) (ex b)) else es2 (es a) (es b)*M)=ad d a b:=by
 have hM:=M_val;unfold ad es2 ex2
 by_cases h1:a=M\/a=-(M:Int)
 ·rw [if_pos h1]
  rcases h1 with h | h
  ·subst h;rw [es_max];simp
  ·subst h;rw [es_min];simp
 ·rw [if_neg h1,es_mid (i:=a) (by omega) (by omega),ex_mid (i:=a) (by omega) (by omega)]
  by_cases h2:b=M\/b=-(M:Int)
  ·rw [if_pos h2]
   rcases h2 with h | h
   ·subst h;rw [es_max];simp
   ·subst h;rw [es_min];simp
  ·rw [if_neg h2,es_mid (i:=b) (by omega) (by omega),ex_mid (i:=b) (by omega) (by omega)]
   simp
theorem dn_ad{a b:Int}(ha:-(M:Int)<=a/\a<=M)(hb:-(M:Int)<=b/\b<=M):dn (es2 (es a) (es b)) (ex2 (es a) (ex a) (es b) (ex b))=ad (-1) a b:=ad_es ha hb
theorem up_ad{a b:Int}(ha:-(M:Int)<=a/\a<=M)(hb:-(M:Int)<=b/\b<=M):up (es2 (es a) (es b)) (ex2 (es a) (ex a) (es b) (ex b))=ad 1 a b:=ad_es ha hb
theorem rt_one{s:Int}{x:Rat}(hx:s≠0->x=0):rt s x 0 1=(s,x,decide (s≠0)):=by
 have e:x / 1=x:=by grind
 unfold rt
 by_cases h:s=0
 ·subst h
  by_cases h0:x=0
  ·subst h0;rw [if_pos ((esx_zero (by simp)).2 ⟨rfl,rfl⟩)]
   simp
  ·rw [if_neg (fun k=>h0 ((esx_zero (by simp)).1 k).2)]
   simp [e]
 ·have h1:esx s x=s:=if_pos h;rw [if_neg (by rw [h1];exact h),h1,hx h]
  simp [h]
theorem K1_es:es K1=0/\ex K1=1/\max K1 0=K1:=by
 have hM:=M_val
 have k1:0<K1/\K1<M:=by unfold K1;omega
 exact⟨es_mid (by omega) k1.2,by rw [ex_mid (by omega) k1.2];exact fl_one,by omega⟩
theorem qA_one{s:Int}{x:Rat}(hx:s≠0->x=0):qA s x K1 K1=(s,x,decide (s≠0)):=by
 obtain⟨h1,h2,h3⟩:=K1_es;unfold qA;rw [h3,h1,h2,rt_one hx]
 split<;>rfl
theorem qB_one{s:Int}{x:Rat}(hx:s≠0->x=0):qB s x K1 K1=(s,x,decide (s≠0)):=by
 obtain⟨h1,h2,h3⟩:=K1_es;unfold qB;rw [h3,h1,h2,rt_one hx]
 split<;>rfl
theorem fmr_one{iz jz i2 j2 i3 j3:Int}(hz:Iv iz jz)(h2:Iv i2 j2)(h3:Iv i3 j3):fmr K1 K1 iz jz i2 j2 i3 j3=rar iz jz i2 j2 i3 j3:=by
 have hM:=M_val
 have k1:0<K1/\K1<M:=by unfold K1;omega
 unfold fmr rar
 by_cases c:jz<iz\/j2<i2\/j3<i3
 ·rw [if_pos c,if_pos (by omega)]
 ·rw [if_neg c,if_neg (by omega)];have nz:=ne_or hz (by omega);have n2:=ne_or h2 (by omega);have n3:=ne_or h3 (by omega);have k:=numok_sum n2 nz.neg;have ra:=dn_ad (a:=i2) (b:=-jz) h2.lo hz.ng.lo;have rb:=up_ad (a:=i2) (b:=-jz) h2.lo hz.ng.lo;have rc:=dn_ad (a:=j2) (b:=-iz) h2.hi hz.ng.hi;have rd:=up_ad (a:=j2) (b:=-iz) h2.hi hz.ng.hi;rw [<- ra,<- rb,<- rc,<- rd,<- pf_closed k.a1 k.b1 i3 j3 n3];unfold fa;rw [if_neg (by omega)]
  have e1:∀ p q,PF (-K1) (-K1) (es2 (es i2) (es (-jz))) (ex2 (es i2) (ex i2) (es (-jz)) (ex (-jz))) (es2 (es j2) (es (-iz))) (ex2 (es j2) (ex j2) (es (-iz)) (ex (-iz))) p q=((M:Int),-(M:Int)):=fun p q=>by unfold PF;rw [if_pos (by omega)]
  have e2:PF K1 K1 (es2 (es i2) (es (-jz))) (ex2 (es i2) (ex i2) (es (-jz)) (ex (-jz))) (es2 (es j2) (es (-iz))) (ex2 (es j2) (ex j2) (es (-iz)) (ex (-iz))) i3 j3=pf (es2 (es i2) (es (-jz))) (ex2 (es i2) (ex i2) (es (-jz)) (ex (-jz))) (decide (es2 (es i2) (es (-jz))≠0)) (es2 (es j2) (es (-iz))) (ex2 (es j2) (ex j2) (es (-iz)) (ex (-iz))) (decide (es2 (es j2) (es (-iz))≠0)) i3 j3:=by
   unfold PF;rw [if_neg (by omega),qA_one k.a2,qB_one k.b2]
  have v:=(Cl.PF k (show Ne K1 K1 by unfold Ne;omega)).iv i3 j3 h3;have v1:=v.lo;have v2:=v.hi;rw [e1,<- e2]
  exact Prod.ext (by dsimp only;omega) (by dsimp only;omega)
theorem wt_one{c v:Int}(hc:-(M:Int)<=c/\c<=M)(hv:-(M:Int)<=v/\v<=M):wt c K1 v=(ad (-1) c (-v),ad 1 c (-v)):=by
 have hM:=M_val
 have k1:0<K1/\K1<M:=by unfold K1;omega
 unfold wt
 by_cases h:c=M\/c=-(M:Int)\/K1=0\/v=0
 ·rw [if_pos h]
  by_cases h1:c=M\/c=-(M:Int)
  ·unfold ad;rw [if_pos h1,if_pos h1]
  ·have h2:v=0:=by omega
   subst h2;unfold ad;rw [if_neg h1,if_neg h1,if_neg (by omega),if_neg (by omega)]
   have e:fl c+fl (-0)=fl c:=by
    show fl c+fl 0=fl c
    rw [fl_zero]
    grind
   rw [e,rndI_fl (.inl rfl) (by omega) (by omega),rndI_fl (.inr rfl) (by omega) (by omega)]
 ·rw [if_neg h]
  have e:∀ d,fm d (-K1) v c=ad d c (-v):=fun d=>by
   unfold fm ad;rw [if_neg (show ¬ (c=M\/c=-(M:Int)) by omega)]
   by_cases h1:v=M\/v=-(M:Int)
   ·rw [if_pos (show -K1=(M:Int)\/-K1=-(M:Int)\/v=M\/v=-(M:Int) by omega),if_pos (show -v=(M:Int)\/-v=-(M:Int) by omega)]
    rcases h1 with h1 | h1
    ·subst h1;rw [decide_eq_true (show -K1<0 by omega),decide_eq_false (show ¬ (M:Int)<0 by omega)]
     rfl
    ·subst h1;rw [decide_eq_true (show -K1<0 by omega),decide_eq_true (show -(M:Int)<0 by omega)]
     show (M:Int)=- -(M:Int)
     omega
   ·rw [if_neg (show ¬ (-K1=(M:Int)\/-K1=-(M:Int)\/v=M\/v=-(M:Int)) by omega),if_neg (show ¬ (-v=(M:Int)\/-v=-(M:Int)) by omega),fl_neg,fl_neg];have o:fl K1=1:=fl_one;rw [o]
    congr 1
    grind
  rw [e,e]
theorem ad_snd{d c a b:Int}(hd:d=-1\/d=1)(hc:-(M:Int)<=c/\c<=M)(ha:-(M:Int)<=a/\a<=M)(hb:-(M:Int)<=b/\b<=M)(h:a<=b):ad d c a<=ad d c b:=by
 have hM:=M_val;have r1:=ad_bounds hd hc ha;have r2:=ad_bounds hd hc hb
 by_cases h1:c=M\/c=-(M:Int)
 ·unfold ad;rw [if_pos h1,if_pos h1]
  exact Int.le_refl _
 ·have ea:∀ a,ad d c a=if a=M\/a=-(M:Int) then a else rndI d (fl c+fl a):=fun a=>by unfold ad;rw [if_neg h1]
  by_cases h2:a=-(M:Int)
  ·rw [ea a,if_pos (.inr h2),h2];exact r2.1
  ·by_cases h3:b=M
   ·rw [ea b,if_pos (.inl h3),h3];exact r1.2
   ·rw [ea a,ea b,if_neg (by omega),if_neg (by omega)];refine rndI_mono hd ?_;have:=fl_le_iff.2 h
    grind
theorem fad_one{i2 j2 c1 c2 i j:Int}(h2:Iv i2 j2)(hc:Iv c1 c2)(hx:Iv i j):fad K1 K1 i2 j2 c1 c2 i j=rar i2 j2 c1 c2 i j:=by
 have hM:=M_val;unfold fad rar
 by_cases c:j2<i2\/c2<c1\/j<i
 ·rw [if_pos (by omega),if_pos (by omega)]
 ·rw [if_neg (by omega),if_neg (by omega),wt_one hc.lo h2.lo,wt_one hc.lo h2.hi,wt_one hc.hi h2.lo,wt_one hc.hi h2.hi];have a:=h2.lo;have b:=h2.hi;have m1:=ad_snd (.inl rfl) hc.lo (a:=-j2) (b:=-i2) (by omega) (by omega) (by omega);have m2:=ad_snd (.inr rfl) hc.lo (a:=-j2) (b:=-i2) (by omega) (by omega) (by omega);have m3:=ad_snd (.inl rfl) hc.hi (a:=-j2) (b:=-i2) (by omega) (by omega) (by omega);have m4:=ad_snd (.inr rfl) hc.hi (a:=-j2) (b:=-i2) (by omega) (by omega) (by omega);have r1:=ad_bounds (.inl rfl) hc.lo (j:=-i2) (by omega);have r2:=ad_bounds (.inr rfl) hc.lo (j:=-i2) (by omega);have r3:=ad_bounds (.inl rfl) hc.hi (j:=-j2) (by omega);have r4:=ad_bounds (.inr rfl) hc.hi (j:=-j2) (by omega)
  congr 1
  ·dsimp only;omega
  ·dsimp only;omega
  ·dsimp only;omega
  ·dsimp only;omega
section
open Go.RowKit
attribute [local go_sem] run_store_float run_eqf
theorem read_two(x0 y0 x1 y1 p0 q0 p1 q1 g0 g1 gl cap:Nat)(a0 a1:Bool)(w:World)(n01:g1=g0+1)(l0:g0+2<=gl)(l1:gl≠g1)
  (hc0:w.cell? ⟨gl,0,none⟩=some (.pointer (some ⟨g0,0,none⟩)))(hc1:w.cell? ⟨gl,1,none⟩=some (.pointer (some ⟨g1,0,none⟩)))
  (b0:Bx w g0 x0 y0)(b1:Bx w g1 x1 y1)
  (h0:∀ W,Rt 102 #[Zf x0 y0] (Zf p0 q0) W)
  (h1:∀ W,Rt 102 #[Zf x1 y1] (Zf p1 q1) W)
  (e0:Em a0 p0 q0)(e1:Em a1 p1 q1):
  Calls Tryz.prog 75 #[.slice (some ⟨gl,0,none⟩) 2 cap] w fun e w'=>e=.returned (.bool (a0 || a1))/\Bx w' g0 p0 q0/\Bx w' g1 p1 q1/\Kp g0 g1 g1 w w':=by
 subst n01
 have h:=read_n g0 2 gl cap (fun k:Nat=>if k=0 then (x0,y0) else (x1,y1)) (fun k:Nat=>if k=0 then (p0,q0) else (p1,q1)) (fun k:Nat=>if k=0 then a0 else a1) w (by omega) l0
  (fun k hk=>by match k,hk with | 0,_=>exact hc0 | 1,_=>exact hc1) (fun k hk=>by match k,hk with | 0,_=>exact b0 | 1,_=>exact b1) (fun k hk=>by match k,hk with | 0,_=>exact h0 | 1,_=>exact h1) (fun k hk=>by match k,hk with | 0,_=>exact e0 | 1,_=>exact e1)
 refine h.mono ?_;rintro e w' ⟨rfl,hd,kp⟩
 exact⟨by simp [anyB],hd 0 (by omega),hd 1 (by omega),kp.os,kp.tape,kp.output,kp.size,fun k hk u v x=>kp.block k hk (by omega)⟩
end
end Go.Proofs.YthlmlmfebpjgdaaGreatDoor
