/-
Lemmas for the statement: AddT ArT FplT KnbT Rdl.
-/
import Derived.Test.YthlmlmfebpjgdaaGreatDoorM02
import Derived.Test.YthlmlmfebpjgdaaGreatDoorPMathT
import Derived.Test.YthlmlmfebpjgdaaGreatDoorPPartT
import Derived.Test.YthlmlmfebpjgdaaGreatDoorPGoA
import Derived.ScopeJumps
import Derived.Test.YthlmlmfebpjgdaaGreatDoorPIntsT
import Derived.Test.YthlmlmfebpjgdaaGreatDoorM07
import Derived.Deep.DeepCutAuto
import Derived.Test.YthlmlmfebpjgdaaGreatDoorPBothT
set_option linter.unusedSimpArgs false
set_option linter.unusedVariables false
set_option maxHeartbeats 12800000
namespace Go.Proofs.YthlmlmfebpjgdaaGreatDoor
section
open Go.RowKit
attribute [local go_sem] run_store_float run_frombits run_bitsof run_negf
theorem odd_two(g x y:Nat)(w:World)(hx:x<18446744073709551616)(hy:y<18446744073709551616)(rx:rungOf x<=M)(ry:rungOf y<=M)(c0:w.cell? ⟨g,0,none⟩=some (.float .f64 x))(c1:w.cell? ⟨g,1,none⟩=some (.float .f64 y)):
  Calls Tryz.prog 183 #[.slice (some ⟨g,0,none⟩) 2 2] w fun e w'=>e=.returned (.bool (decide (rungOf x=M) || decide (rungOf y=M)))/\w=w':=by
 have N0:=Hd (isnanf x w rx);have N1:=Hd (isnanf y w ry);have I0:=Hd (isinff x w hx rx);have I1:=Hd (isinff y w hy ry)
 obtain⟨b0,e0⟩:∃ p,decide (rungOf x=M)=p:=⟨_,rfl⟩
 obtain⟨b1,e1⟩:∃ p,decide (rungOf y=M)=p:=⟨_,rfl⟩
 rw [e0] at I0 ⊢;rw [e1] at I1 ⊢;clear e0 e1 rx ry hx hy
 go_enter Tryz.func183,Tryz.ntmps183
 go_wp2
 go_loop [4,7] (fun _ v=>∃ k:Nat,k<=2/\v=.int .i64 k/\(0<k->b0=false)/\(1<k->b1=false)) (fun _ v=>2 - (intOf v).toNat)
 case atStart=>exact⟨0,by omega,rfl,by omega,by omega⟩
 case round=>
  obtain⟨k,hk,rfl,hk0,hk1⟩:=hrel
  match k,hk with
  | 0,_=>
   clear hk0 hk1
   cases b0
   ·go_wp2_with fail;refine N0.out.mono ?_;rintro e w' ⟨rfl,rfl⟩;go_wp2_with fail;refine I0.out.mono ?_;rintro e w' ⟨rfl,rfl⟩;go_wp2
    go_round
    case rel=>exact⟨1,by omega,rfl,by simp,by omega⟩
    case measure=>simp [intOf]
   ·go_wp2_with fail;refine N0.out.mono ?_;rintro e w' ⟨rfl,rfl⟩;go_wp2_with fail;refine I0.out.mono ?_;rintro e w' ⟨rfl,rfl⟩;go_wp2
    go_ret
    exact⟨rfl,rfl⟩
  | 1,_=>
   have h0:=hk0 (by omega);subst h0;clear hk0 hk1
   cases b1
   ·go_wp2_with fail;refine N1.out.mono ?_;rintro e w' ⟨rfl,rfl⟩;go_wp2_with fail;refine I1.out.mono ?_;rintro e w' ⟨rfl,rfl⟩;go_wp2
    go_round
    case rel=>exact⟨2,by omega,rfl,by simp,by simp⟩
    case measure=>simp [intOf]
   ·go_wp2_with fail;refine N1.out.mono ?_;rintro e w' ⟨rfl,rfl⟩;go_wp2_with fail;refine I1.out.mono ?_;rintro e w' ⟨rfl,rfl⟩;go_wp2
    go_ret
    exact⟨rfl,rfl⟩
  | 2,_=>
   have h0:=hk0 (by omega);have h1:=hk1 (by omega);subst h0 h1;clear hk0 hk1;go_wp2
   go_ret
   exact⟨rfl,rfl⟩
theorem radd_inf(d:Int)(x y r:Nat)(w:World)(hx:x<18446744073709551616)(hy:y<18446744073709551616)(rx:rungOf x<=M)(ry:rungOf y<=M)(ho:(decide (rungOf x=M) || decide (rungOf y=M))=true)(hr:floatBits .add .f64 x y=some r):
  Rt 139 #[.int .i64 d,.float .f64 x,.float .f64 y] (.float .f64 r) w:=by
 have HA:=fun W=>run_float_arith (P:=Tryz.prog) W .add 26 .f64 _ _ _ hr;have HO0:=fun (W:World) (hb:Below w.heap.size w W)=>odd_two W.heap.size x y (W.alloc (.cells #[.float .f64 x,.float .f64 y] 26)) hx hy rx ry (by simp [World.cell?_alloc_new]) (by simp [World.cell?_alloc_new]);rw [ho] at HO0;have HO:=Hd HO0;have LB:=Hd (below_alloc w (.cells #[.float .f64 x,.float .f64 y] 26));clear HO0 ho hr rx ry hx hy
 go_enter Tryz.func139,Tryz.ntmps139
 go_wp2_with fail
 go_step3
 go_wp2_with fail;refine (HO.out _ (Below.refl _ _)).mono ?_;rintro e w' ⟨rfl,rfl⟩;go_wp2
 try rw [Exit.noGoto_ret]
 go_ret
 exact⟨rfl,LB.out⟩
theorem radd_quick(d:Int)(x y t T:Nat)(w:World)(hd:d=-1\/d=1)(hx:x<18446744073709551616)(hy:y<18446744073709551616)(rx:rungOf x<M)(ry:rungOf y<M)(gx:rungOf x<=8660422083433463808)(gy:rungOf y<=8660422083433463808)
  (ht:8660422083433463808=(t+1)*2^52)(hT:T=52+t)(hT2:T<=1990):
  Rt 139 #[.int .i64 d,.float .f64 x,.float .f64 y] (.float .f64 (pat (rndI d (fl (idx x)+fl (idx y))))) w:=by
 have hM:M=9218868437227405312:=rfl;obtain⟨s,u,a,b,c,e,q1,q2,q3,q4,q5,q6,fs,fe⟩:=quick_sum hT2 (Fl_self hx rx) (Fl_self hy ry) (not_great (by omega) hT) (not_great (by omega) hT);have hn:=nud_sum hd fs fe rfl;have HN0:=fun W=>nudge_any d s e W hd fs.lt fs.fin (Nat.le_of_lt fe.fin);rw [hn] at HN0;have HN:=Hd HN0;have A1:=fun W=>run_float_arith (P:=Tryz.prog) W .add 26 .f64 x y s q1;have A2:=fun W=>run_float_arith (P:=Tryz.prog) W .sub 26 .f64 s x u q2;have A3:=fun W=>run_float_arith (P:=Tryz.prog) W .sub 26 .f64 s u a q3;have A4:=fun W=>run_float_arith (P:=Tryz.prog) W .sub 26 .f64 x a b q4;have A5:=fun W=>run_float_arith (P:=Tryz.prog) W .sub 26 .f64 y u c q5;have A6:=fun W=>run_float_arith (P:=Tryz.prog) W .add 26 .f64 b c e q6
 have ho:(decide (rungOf x=M) || decide (rungOf y=M))=false:=by
  rw [decide_eq_false (by omega),decide_eq_false (by omega)];rfl
 have HO0:=fun (W:World) (hb:Below w.heap.size w W)=>odd_two W.heap.size x y (W.alloc (.cells #[.float .f64 x,.float .f64 y] 26)) hx hy (by omega) (by omega) (by simp [World.cell?_alloc_new]) (by simp [World.cell?_alloc_new]);rw [ho] at HO0;have HO:=Hd HO0;have HX:=Hd fun W=>abs_any x W hx;have HY:=Hd fun W=>abs_any y W hy;have LB:=Hd (below_alloc w (.cells #[.float .f64 x,.float .f64 y] 26));have ox:=great_ord (r:=rungOf x) (by omega);have oy:=great_ord (r:=rungOf y) (by omega)
 have ox2:FloatKind.f64.format.order (rungOf x) 8660422083433463808=some .lt\/FloatKind.f64.format.order (rungOf x) 8660422083433463808=some .eq:=by
  rcases ox with h | h
  ·exact h.2
  ·omega
 have oy2:FloatKind.f64.format.order (rungOf y) 8660422083433463808=some .lt\/FloatKind.f64.format.order (rungOf y) 8660422083433463808=some .eq:=by
  rcases oy with h | h
  ·exact h.2
  ·omega
 obtain⟨r,hr⟩:∃ r,pat (rndI d (fl (idx x)+fl (idx y)))=r:=⟨_,rfl⟩
 rw [hr] at HN ⊢
 obtain⟨X,hX⟩:∃ r,rungOf x=r:=⟨_,rfl⟩
 obtain⟨Y,hY⟩:∃ r,rungOf y=r:=⟨_,rfl⟩
 rw [hX] at HX ox2;rw [hY] at HY oy2;clear HO0 ho ox oy hn HN0 fs fe q1 q2 q3 q4 q5 q6 hr hX hY gx gy ht hT hT2 rx ry hx hy hd hM
 rcases ox2 with o1 | o1<;>rcases oy2 with o2 | o2
 all_goals
  go_enter Tryz.func139,Tryz.ntmps139
  go_wp2_with fail
  go_step3
  go_wp2_with fail;refine (HO.out _ (Below.refl _ _)).mono ?_;rintro e w' ⟨rfl,rfl⟩;go_wp2_with fail;refine (HX.out _).mono ?_;rintro e w' ⟨rfl,rfl⟩;go_wp2_with fail;refine (HY.out _).mono ?_;rintro e w' ⟨rfl,rfl⟩;go_wp2_with fail;refine (HN.out _).mono ?_;rintro e w' ⟨rfl,rfl⟩;go_wp2
  try rw [Exit.noGoto_ret]
  go_ret
  exact⟨rfl,LB.out⟩
theorem scope_once{P:Program}{a:Act}{w:World}{Q:Exit->Act->World->Prop}{c rest:Code}(l:Nat)(A:Act)(W:World)(hf:findLabel c l=some rest)
  (first:c.wp P (Exit.jump l (fun a' w'=>a'=A/\w'=W) Q) a w)
  (pass:rest.wp P (Exit.jump l (fun a' w'=>(a'=A/\w'=W)/\0<0) Q) A W):(Code.scope c).wp P Q a w:=
 wp_scope_jumps l (fun a' w'=>a'=A/\w'=W) (fun _ _=>0) hf first (by rintro a w ⟨rfl,rfl⟩;exact pass)
theorem radd_exact(d:Int)(x y:Nat)(w:World)(hd:d=-1\/d=1)(hx:x<18446744073709551616)(hy:y<18446744073709551616)(rx:rungOf x<M)(ry:rungOf y<M)(hg:8660422083433463808<rungOf x\/8660422083433463808<rungOf y):
  Rt 139 #[.int .i64 d,.float .f64 x,.float .f64 y] (.float .f64 (pat (rndI d (fl (idx x)+fl (idx y))))) w:=by
 have hM:M=9218868437227405312:=rfl;obtain⟨s,hs,-⟩:=add_fin (show fin x from rx) (show fin y from ry);have A1:=fun W=>run_float_arith (P:=Tryz.prog) W .add 26 .f64 x y s hs;obtain⟨S1,e1,b1,l1,u1,v1,HP1⟩:=part_any x hx rx;obtain⟨S2,e2,b2,l2,u2,v2,HP2⟩:=part_any y hy ry;have k1:blen S1<=53:=blen_le_iff.2 (show S1<2^53 from b1);have k2:blen S2<=53:=blen_le_iff.2 (show S2<2^53 from b2);have hB:=dsF_bound (sgn x) S1 e1 (sgn y) S2 e2 3000 (by omega) (by omega);have hV:=dsF_val (sgn x) S1 e1 (sgn y) S2 e2;rw [<- v1,<- v2] at hV;have HS0:=fun (A1:Option Addr) (m1 c1:Nat) (A2:Option Addr) (m2 c2:Nat) (W:World) (h1:U32s W A1 m1 c1 (digs S1)) (h2:U32s W A2 m2 c2 (digs S2))=>sum_any (sgn x) A1 m1 c1 S1 e1 (sgn y) A2 m2 c2 S2 e2 W h1 h2 (by omega) (by omega) (by omega) (by omega)
 obtain⟨n,hn⟩:∃ z,(dsF (sgn x) S1 e1 (sgn y) S2 e2).1=z:=⟨_,rfl⟩
 obtain⟨S,hS⟩:∃ z,(dsF (sgn x) S1 e1 (sgn y) S2 e2).2.1=z:=⟨_,rfl⟩
 obtain⟨E,hE⟩:∃ z,(dsF (sgn x) S1 e1 (sgn y) S2 e2).2.2=z:=⟨_,rfl⟩
 rw [hn,hS,hE] at HS0 hV;rw [hS,hE] at hB;have HT0:=fun (A:Option Addr) (m c:Nat) (W:World) (h:U32s W A m c (digs S))=>to_any d n A m c S E W h hd (by omega) (by omega) (by omega);rw [hV] at HT0;have HS:=Hd HS0;have HT:=Hd HT0;have HX1:=Hd HP1;have HX2:=Hd HP2
 obtain⟨n1,hn1⟩:∃ z,sgn x=z:=⟨_,rfl⟩
 obtain⟨n2,hn2⟩:∃ z,sgn y=z:=⟨_,rfl⟩
 rw [hn1] at HX1 HS;rw [hn2] at HX2 HS;clear HP1 HP2 HS0 HT0 hn hS hE hV hB k1 k2 b1 b2 l1 l2 u1 u2 v1 v2 hs hn1 hn2
 have ho:(decide (rungOf x=M) || decide (rungOf y=M))=false:=by
  rw [decide_eq_false (by omega),decide_eq_false (by omega)];rfl
 have HO0:=fun (W:World) (hb:Below w.heap.size w W)=>odd_two W.heap.size x y (W.alloc (.cells #[.float .f64 x,.float .f64 y] 26)) hx hy (by omega) (by omega) (by simp [World.cell?_alloc_new]) (by simp [World.cell?_alloc_new]);rw [ho] at HO0;have HO:=Hd HO0;have HX:=Hd fun W=>abs_any x W hx;have HY:=Hd fun W=>abs_any y W hy;have LB:=Hd (below_alloc w (.cells #[.float .f64 x,.float .f64 y] 26));have ox:=great_ord (r:=rungOf x) (by omega);have oy:=great_ord (r:=rungOf y) (by omega)
 have hc:FloatKind.f64.format.order (rungOf x) 8660422083433463808=some .gt\/((FloatKind.f64.format.order (rungOf x) 8660422083433463808=some .lt\/FloatKind.f64.format.order (rungOf x) 8660422083433463808=some .eq)/\FloatKind.f64.format.order (rungOf y) 8660422083433463808=some .gt):=by
  rcases ox with h | h
  ·rcases oy with h2 | h2
   ·omega
   ·exact .inr ⟨h.2,h2.2⟩
  ·exact .inl h.2
 obtain⟨r,hr⟩:∃ r,pat (rndI d (fl (idx x)+fl (idx y)))=r:=⟨_,rfl⟩
 rw [hr] at HT ⊢
 obtain⟨X,hX⟩:∃ r,rungOf x=r:=⟨_,rfl⟩
 obtain⟨Y,hY⟩:∃ r,rungOf y=r:=⟨_,rfl⟩
 rw [hX] at HX hc;rw [hY] at HY hc;clear HO0 ho ox oy hr hX hY rx ry hx hy hd hM hg
 rcases hc with o1 | ⟨o1 | o1,o2⟩
 all_goals
  go_enter Tryz.func139,Tryz.ntmps139
  go_wp2_with fail
  apply scope_once 0 _ _ rfl
  focus
   go_wp2_with fail;refine (HO.out _ (Below.refl _ _)).mono ?_;rintro e w' ⟨rfl,rfl⟩;go_wp2_with fail;refine (HX.out _).mono ?_;rintro e w' ⟨rfl,rfl⟩;go_wp2_with fail
   try (refine (HY.out _).mono ?_;rintro e w' ⟨rfl,rfl⟩;go_wp2_with fail)
   try go_step3
   exact⟨rfl,rfl,rfl⟩
  clear HO HX HY;generalize w.alloc (.cells #[.float .f64 x,.float .f64 y] 26)=wa at LB ⊢;go_wp2_with fail;refine (HX1.out _).mono ?_;rintro e w1 ⟨A1,m1,c1,rfl,hu1,hb1⟩;have LB1:=Hd (LB.out.trans (hb1.mono LB.out.size));have U1:=Hd hu1;clear hu1 hb1 LB;go_wp2_with fail;refine (HX2.out _).mono ?_;rintro e w2 ⟨A2,m2,c2,rfl,hu2,hb2⟩;have LB2:=stB LB1 hb2 LB1.out.size;have V1:=Hd (U1.out.below hb2);have V2:=Hd hu2;clear hu2 hb2 LB1 U1;go_wp2_with fail;refine (HS.out _ _ _ _ _ _ _ V1.out V2.out).mono ?_;rintro e w3 ⟨A3,m3,c3,rfl,hu3,hb3⟩;have LB3:=stB LB2 hb3 LB2.out.size;have V3:=Hd hu3;clear hu3 hb3 LB2 V1 V2;go_wp2_with fail;refine cx (HT.out _ _ _ _ V3.out) fun w4 hb4=>?_;have LB4:=stB LB3 hb4 LB3.out.size;clear hb4 LB3 V3;go_wp2
  simp only [Exit.jump]
  go_ret
  exact⟨rfl,LB4.out⟩
theorem radd_any(d:Int)(x y:Nat)(w:World)(hd:d=-1\/d=1)(hx:x<18446744073709551616)(hy:y<18446744073709551616)(rx:rungOf x<=M)(ry:rungOf y<=M)(hno:¬ (idx x=M/\idx y=-(M:Int))/\¬ (idx x=-(M:Int)/\idx y=M)):
  Rt 139 #[.int .i64 d,.float .f64 x,.float .f64 y] (.float .f64 (pat (ad d (idx x) (idx y)))) w:=by
 have hM:M=9218868437227405312:=rfl;have cx:=pat_cases hx;have cy:=pat_cases hy;unfold ad
 by_cases h1:rungOf x=M
 ·rw [if_pos (by omega)];refine radd_inf d x y _ w hx hy rx ry (by rw [decide_eq_true h1];rfl) (add_inf_left hx h1 ry (fun h2=>?_))
  rcases cx with ⟨a,b,c,e⟩ | ⟨a,b,c,e⟩<;>rcases cy with ⟨a',b',c',e'⟩ | ⟨a',b',c',e'⟩
  ·rw [c,c']
  ·omega
  ·omega
  ·rw [c,c']
 ·rw [if_neg (by omega)]
  by_cases h2:rungOf y=M
  ·rw [if_pos (by omega)]
   exact radd_inf d x y _ w hx hy rx ry (by rw [decide_eq_true h2,Bool.or_true]) (add_inf_right hy h2 (by omega))
  ·rw [if_neg (by omega)]
   by_cases hg:8660422083433463808<rungOf x\/8660422083433463808<rungOf y
   ·exact radd_exact d x y w hd hx hy (by omega) (by omega) hg
   ·obtain⟨t,ht⟩:∃ t,t=1922:=⟨_,rfl⟩
    exact radd_quick d x y t (52+t) w hd hx hy (by omega) (by omega) (by omega) (by omega) (by rw [ht]) rfl (by omega)
def NoCl(i j:Int):Prop:=¬ (i=M/\j=-(M:Int))/\¬ (i=-(M:Int)/\j=M)
theorem radd_pat(d i j:Int)(w:World)(hd:d=-1\/d=1)(hi:-(M:Int)<=i/\i<=M)(hj:-(M:Int)<=j/\j<=M)(hno:NoCl i j):
  Rt 139 #[.int .i64 d,.float .f64 (pat i),.float .f64 (pat j)] (.float .f64 (pat (ad d i j))) w:=by
 have h:=radd_any d (pat i) (pat j) w hd (pat_lt hi.1 hi.2) (pat_lt hj.1 hj.2) (by rw [rung_pat hi.1 hi.2];omega) (by rw [rung_pat hj.1 hj.2];omega) (by rw [idx_pat hi.1 hi.2,idx_pat hj.1 hj.2];exact hno);rw [idx_pat hi.1 hi.2,idx_pat hj.1 hj.2] at h
 exact h
theorem rsub_pat(d i j:Int)(w:World)(hd:d=-1\/d=1)(hi:-(M:Int)<=i/\i<=M)(hj:-(M:Int)<=j/\j<=M)(hno:NoCl i (-j)):
  Rt 84 #[.int .i64 d,.float .f64 (pat i),.float .f64 (pat j)] (.float .f64 (pat (ad d i (-j)))) w:=by
 have n:=negFloat_val (pat_lt hj.1 hj.2);have h:=radd_any d (pat i) (Op.negFloat .f64 (pat j)) w hd (pat_lt hi.1 hi.2) n.1 (by rw [rung_pat hi.1 hi.2];omega) (by rw [n.2.1,rung_pat hj.1 hj.2];omega) (by rw [n.2.2,idx_pat hi.1 hi.2,idx_pat hj.1 hj.2];exact hno);rw [n.2.2,idx_pat hi.1 hi.2,idx_pat hj.1 hj.2] at h;have H:=Hd h;clear h n hd hi hj hno
 obtain⟨r,hr⟩:∃ r,pat (ad d i (-j))=r:=⟨_,rfl⟩
 obtain⟨p,hp⟩:∃ r,pat i=r:=⟨_,rfl⟩
 obtain⟨q,hq⟩:∃ r,pat j=r:=⟨_,rfl⟩
 rw [hr,hp,hq] at H;rw [hr,hp,hq];clear hr hp hq
 go_enter Tryz.func84,Tryz.ntmps84
 go_wp2_with fail;refine H.out.mono ?_;rintro e w1 ⟨rfl,hb⟩;have LB:=Hd hb;clear hb;go_wp2
 go_ret
 exact⟨rfl,LB.out⟩
end
section
open Go.RowKit
attribute [local go_sem] run_store_float
theorem ad_bounds{d i j:Int}(hd:d=-1\/d=1)(hi:-(M:Int)<=i/\i<=M)(hj:-(M:Int)<=j/\j<=M):-(M:Int)<=ad d i j/\ad d i j<=M:=by
 unfold ad
 split
 ·exact hi
 ·split
  ·exact hj
  ·rcases hd with rfl | rfl
   ·have:=rndI_down (fl i+fl j);omega
   ·have:=rndI_up (fl i+fl j);omega
def rar(i1 j1 i2 j2 i3 j3:Int):Int × Int:=if j1<i1\/j2<i2\/j3<i3 then ((M:Int),-(M:Int)) else ct i3 j3 (ad (-1) i2 (-j1)) (ad 1 i2 (-j1)) (ad (-1) j2 (-i1)) (ad 1 j2 (-i1))
theorem revadd_none(b1 b2 c1 c2 x y:Nat)(i1 j1 i2 j2 i3 j3:Int)(w:World)(hb1:b1<18446744073709551616)(hb2:b2<18446744073709551616)(hc1:c1<18446744073709551616)(hc2:c2<18446744073709551616)(hx:x<18446744073709551616)(hy:y<18446744073709551616)(r1:rd b1 b2=(i1,j1))(r2:rd c1 c2=(i2,j2))(r3:rd x y=(i3,j3))(hno:j1<i1\/j2<i2\/j3<i3):
  Rt 22 #[.agg #[.float .f64 b1,.float .f64 b2],.agg #[.float .f64 c1,.float .f64 c2],.agg #[.float .f64 x,.float .f64 y]] (.agg #[.float .f64 (pat (((M:Int),-(M:Int))).1),.float .f64 (pat (((M:Int),-(M:Int))).2)]) w:=by
 have v1:=rd_iv b1 b2;have v2:=rd_iv c1 c2;have v3:=rd_iv x y;rw [r1] at v1;rw [r2] at v2;rw [r3] at v3
 dsimp only at v1 v2 v3
 have hM:M=9218868437227405312:=rfl;have t1:=fun W=>readf b1 b2 W hb1 hb2;have t2:=fun W=>readf c1 c2 W hc1 hc2;have t3:=fun W=>readf x y W hx hy;rw [r1] at t1;rw [r2] at t2;rw [r3] at t3
 dsimp only at t1 t2 t3
 have m1:=em_idx v1;have m2:=em_idx v2;have m3:=em_idx v3
 have hnn:(decide (j1<i1) || decide (j2<i2) || decide (j3<i3))=true:=by simp;omega
 rw [pat_max,pat_min];have HE:=Hd emptyf
 obtain⟨P1,hP1⟩:∃ z,pat i1=z:=⟨_,rfl⟩
 obtain⟨Q1,hQ1⟩:∃ z,pat j1=z:=⟨_,rfl⟩
 obtain⟨P2,hP2⟩:∃ z,pat i2=z:=⟨_,rfl⟩
 obtain⟨Q2,hQ2⟩:∃ z,pat j2=z:=⟨_,rfl⟩
 obtain⟨P3,hP3⟩:∃ z,pat i3=z:=⟨_,rfl⟩
 obtain⟨Q3,hQ3⟩:∃ z,pat j3=z:=⟨_,rfl⟩
 rw [hP1,hQ1] at t1 m1;rw [hP2,hQ2] at t2 m2;rw [hP3,hQ3] at t3 m3;obtain⟨LB0,LG0_0,LG1_0,LG2_0,LR⟩:=bx4 w #[.float .f64 b1,.float .f64 b2] 28 #[.float .f64 c1,.float .f64 c2] 28 #[.float .f64 x,.float .f64 y] 28 #[.float .f64 0,.float .f64 0] 28;have LR0:=Hd (HasBlk.of (n:=2) LR.out rfl rfl);clear LR;have hrow:=Blk.at (W:=((((w.alloc (.cells #[.float .f64 b1,.float .f64 b2] 28)).alloc (.cells #[.float .f64 c1,.float .f64 c2] 28)).alloc (.cells #[.float .f64 x,.float .f64 y] 28)).alloc (.cells #[.float .f64 0,.float .f64 0] 28))) (g:=w.heap.size+1+1+1+1) (by simp) 75 #[.pointer (some ⟨w.heap.size,0,none⟩),.pointer (some ⟨w.heap.size+1,0,none⟩),.pointer (some ⟨w.heap.size+1+1,0,none⟩)];have HRD:=Hd (read_three b1 b2 c1 c2 x y P1 Q1 P2 Q2 P3 Q3 w.heap.size (w.heap.size+1) (w.heap.size+1+1) (w.heap.size+1+1+1+1) 3 _ _ _ _ (by omega) (by omega) (by omega) (by omega) (by omega) (by omega) (hrow.cell 0) (hrow.cell 1) (hrow.cell 2) (LG0_0.out.alloc (.cells #[.pointer (some ⟨w.heap.size,0,none⟩),.pointer (some ⟨w.heap.size+1,0,none⟩),.pointer (some ⟨w.heap.size+1+1,0,none⟩)] 75)) (LG1_0.out.alloc (.cells #[.pointer (some ⟨w.heap.size,0,none⟩),.pointer (some ⟨w.heap.size+1,0,none⟩),.pointer (some ⟨w.heap.size+1+1,0,none⟩)] 75)) (LG2_0.out.alloc (.cells #[.pointer (some ⟨w.heap.size,0,none⟩),.pointer (some ⟨w.heap.size+1,0,none⟩),.pointer (some ⟨w.heap.size+1+1,0,none⟩)] 75)) t1 t2 t3 m1 m2 m3);rw [hnn] at HRD;have LBr:=Hd (LB0.out.alloc (by simp<;>omega) (.cells #[.pointer (some ⟨w.heap.size,0,none⟩),.pointer (some ⟨w.heap.size+1,0,none⟩),.pointer (some ⟨w.heap.size+1+1,0,none⟩)] 75))
 have LRr:=Hd (LR0.out.alloc (.cells #[.pointer (some ⟨w.heap.size,0,none⟩),.pointer (some ⟨w.heap.size+1,0,none⟩),.pointer (some ⟨w.heap.size+1+1,0,none⟩)] 75))
 have hsz:w.heap.size<=((((((w.alloc (.cells #[.float .f64 b1,.float .f64 b2] 28)).alloc (.cells #[.float .f64 c1,.float .f64 c2] 28)).alloc (.cells #[.float .f64 x,.float .f64 y] 28)).alloc (.cells #[.float .f64 0,.float .f64 0] 28))).alloc (.cells #[.pointer (some ⟨w.heap.size,0,none⟩),.pointer (some ⟨w.heap.size+1,0,none⟩),.pointer (some ⟨w.heap.size+1+1,0,none⟩)] 75)).heap.size:=by simp;omega
 have HSZ:=Hd hsz;clear t1 t2 t3 m1 m2 m3 hrow hnn hno v1 v2 v3 hM hsz hP1 hQ1 hP2 hQ2 hP3 hQ3 r1 r2 r3 LB0 LR0 LG0_0 LG1_0 LG2_0
 go_enter Tryz.func22,Tryz.ntmps22
 go_wp2_with fail;refine HRD.out.mono ?_;rintro e w1 ⟨rfl,d0,d1,d2,kp⟩;have LB1:=Hd (kp.toBl LBr.out HSZ.out (Nat.le_refl _) (by omega) (by omega));have LR1:=Hd (kp.hasBk LRr.out (by omega) (by omega) (by omega));have LG0_1:=Hd (show Blk w1 w.heap.size 28 _ from d0);have LG1_1:=Hd (show Blk w1 (w.heap.size+1) 28 _ from d1);have LG2_1:=Hd (show Blk w1 (w.heap.size+2) 28 _ from d2);clear d0 d1 d2 kp LBr LRr HSZ HRD;go_wp2_with fail;refine cx (HE.out _) fun w2 hbx=>?_;have LB2:=stB LB1 hbx LB1.out.size;have LR2:=stR LR1 hbx;have LG0_2:=stG LG0_1 hbx;have LG1_2:=stG LG1_1 hbx;have LG2_2:=stG LG2_1 hbx;clear LB1 LR1 LG0_1 LG1_1 LG2_1;clear hbx;obtain⟨ha0,hf0,ha1,hf1⟩:=LR2.out.sf2;obtain⟨hk0,hk1⟩:=LR2.out.sc2 (.float .f64 9218868437227405312) (.float .f64 18442240474082181120);have F:=Hd (below_sets (w0:=w) (r:=(w.heap.size+3)) (by omega) [.float .f64 9218868437227405312,.float .f64 18442240474082181120] 0 _ LB2.out)
 simp [sets] at hk0 hk1
 go_wp2;refine bodyPost_ret (v:=.agg #[.float .f64 9218868437227405312,.float .f64 18442240474082181120]) (by simp [results,Tryz.results22,go_sem,hk0,hk1]) rfl ?_
 exact⟨rfl,F.out⟩
theorem revadd_some(b1 b2 c1 c2 x y:Nat)(i1 j1 i2 j2 i3 j3:Int)(w:World)(hb1:b1<18446744073709551616)(hb2:b2<18446744073709551616)(hc1:c1<18446744073709551616)(hc2:c2<18446744073709551616)(hx:x<18446744073709551616)(hy:y<18446744073709551616)(r1:rd b1 b2=(i1,j1))(r2:rd c1 c2=(i2,j2))(r3:rd x y=(i3,j3))(hno:¬ (j1<i1\/j2<i2\/j3<i3)):
  Rt 22 #[.agg #[.float .f64 b1,.float .f64 b2],.agg #[.float .f64 c1,.float .f64 c2],.agg #[.float .f64 x,.float .f64 y]] (.agg #[.float .f64 (pat (ct i3 j3 (ad (-1) i2 (-j1)) (ad 1 i2 (-j1)) (ad (-1) j2 (-i1)) (ad 1 j2 (-i1))).1),.float .f64 (pat (ct i3 j3 (ad (-1) i2 (-j1)) (ad 1 i2 (-j1)) (ad (-1) j2 (-i1)) (ad 1 j2 (-i1))).2)]) w:=by
 have v1:=rd_iv b1 b2;have v2:=rd_iv c1 c2;have v3:=rd_iv x y;rw [r1] at v1;rw [r2] at v2;rw [r3] at v3
 dsimp only at v1 v2 v3
 have hM:M=9218868437227405312:=rfl;have t1:=fun W=>readf b1 b2 W hb1 hb2;have t2:=fun W=>readf c1 c2 W hc1 hc2;have t3:=fun W=>readf x y W hx hy;rw [r1] at t1;rw [r2] at t2;rw [r3] at t3
 dsimp only at t1 t2 t3
 have m1:=em_idx v1;have m2:=em_idx v2;have m3:=em_idx v3
 have hnn:(decide (j1<i1) || decide (j2<i2) || decide (j3<i3))=false:=by simp;omega
 have n1:NoCl i2 (-j1):=by unfold NoCl;unfold Iv at v1 v2;omega
 have n2:NoCl j2 (-i1):=by unfold NoCl;unfold Iv at v1 v2;omega
 have g1:-(M:Int)<=-j1/\-j1<=M:=by have:=v1.hi;omega
 have g2:-(M:Int)<=-i1/\-i1<=M:=by have:=v1.lo;omega
 have HS1:=Hd fun W=>rsub_pat (-1) i2 j1 W (.inl rfl) v2.lo v1.hi n1;have HS2:=Hd fun W=>rsub_pat 1 i2 j1 W (.inr rfl) v2.lo v1.hi n1;have HS3:=Hd fun W=>rsub_pat (-1) j2 i1 W (.inl rfl) v2.hi v1.lo n2;have HS4:=Hd fun W=>rsub_pat 1 j2 i1 W (.inr rfl) v2.hi v1.lo n2;have HC:=Hd fun W=>rcut_any i3 j3 _ _ _ _ W v3.lo v3.hi (ad_bounds (.inl rfl) v2.lo g1) (ad_bounds (.inr rfl) v2.lo g1) (ad_bounds (.inl rfl) v2.hi g2) (ad_bounds (.inr rfl) v2.hi g2);clear n1 n2 g1 g2
 obtain⟨z1,hz1⟩:∃ z,pat (ct i3 j3 (ad (-1) i2 (-j1)) (ad 1 i2 (-j1)) (ad (-1) j2 (-i1)) (ad 1 j2 (-i1))).1=z:=⟨_,rfl⟩
 obtain⟨z2,hz2⟩:∃ z,pat (ct i3 j3 (ad (-1) i2 (-j1)) (ad 1 i2 (-j1)) (ad (-1) j2 (-i1)) (ad 1 j2 (-i1))).2=z:=⟨_,rfl⟩
 rw [hz1,hz2] at HC ⊢;clear hz1 hz2
 obtain⟨A1,hA1⟩:∃ z,pat (ad (-1) i2 (-j1))=z:=⟨_,rfl⟩
 obtain⟨A2,hA2⟩:∃ z,pat (ad 1 i2 (-j1))=z:=⟨_,rfl⟩
 obtain⟨A3,hA3⟩:∃ z,pat (ad (-1) j2 (-i1))=z:=⟨_,rfl⟩
 obtain⟨A4,hA4⟩:∃ z,pat (ad 1 j2 (-i1))=z:=⟨_,rfl⟩
 rw [hA1] at HS1 HC;rw [hA2] at HS2 HC;rw [hA3] at HS3 HC;rw [hA4] at HS4 HC;clear hA1 hA2 hA3 hA4
 obtain⟨P1,hP1⟩:∃ z,pat i1=z:=⟨_,rfl⟩
 obtain⟨Q1,hQ1⟩:∃ z,pat j1=z:=⟨_,rfl⟩
 obtain⟨P2,hP2⟩:∃ z,pat i2=z:=⟨_,rfl⟩
 obtain⟨Q2,hQ2⟩:∃ z,pat j2=z:=⟨_,rfl⟩
 obtain⟨P3,hP3⟩:∃ z,pat i3=z:=⟨_,rfl⟩
 obtain⟨Q3,hQ3⟩:∃ z,pat j3=z:=⟨_,rfl⟩
 rw [hP1,hQ1] at t1 m1;rw [hP2,hQ2] at t2 m2;rw [hP3,hQ3] at t3 m3;rw [hP2,hQ1] at HS1 HS2;rw [hQ2,hP1] at HS3 HS4;rw [hP3,hQ3] at HC;obtain⟨LB0,LG0_0,LG1_0,LG2_0,LR⟩:=bx4 w #[.float .f64 b1,.float .f64 b2] 28 #[.float .f64 c1,.float .f64 c2] 28 #[.float .f64 x,.float .f64 y] 28 #[.float .f64 0,.float .f64 0] 28;have LR0:=Hd (HasBlk.of (n:=2) LR.out rfl rfl);clear LR;have hrow:=Blk.at (W:=((((w.alloc (.cells #[.float .f64 b1,.float .f64 b2] 28)).alloc (.cells #[.float .f64 c1,.float .f64 c2] 28)).alloc (.cells #[.float .f64 x,.float .f64 y] 28)).alloc (.cells #[.float .f64 0,.float .f64 0] 28))) (g:=w.heap.size+1+1+1+1) (by simp) 75 #[.pointer (some ⟨w.heap.size,0,none⟩),.pointer (some ⟨w.heap.size+1,0,none⟩),.pointer (some ⟨w.heap.size+1+1,0,none⟩)];have HRD:=Hd (read_three b1 b2 c1 c2 x y P1 Q1 P2 Q2 P3 Q3 w.heap.size (w.heap.size+1) (w.heap.size+1+1) (w.heap.size+1+1+1+1) 3 _ _ _ _ (by omega) (by omega) (by omega) (by omega) (by omega) (by omega) (hrow.cell 0) (hrow.cell 1) (hrow.cell 2) (LG0_0.out.alloc (.cells #[.pointer (some ⟨w.heap.size,0,none⟩),.pointer (some ⟨w.heap.size+1,0,none⟩),.pointer (some ⟨w.heap.size+1+1,0,none⟩)] 75)) (LG1_0.out.alloc (.cells #[.pointer (some ⟨w.heap.size,0,none⟩),.pointer (some ⟨w.heap.size+1,0,none⟩),.pointer (some ⟨w.heap.size+1+1,0,none⟩)] 75)) (LG2_0.out.alloc (.cells #[.pointer (some ⟨w.heap.size,0,none⟩),.pointer (some ⟨w.heap.size+1,0,none⟩),.pointer (some ⟨w.heap.size+1+1,0,none⟩)] 75)) t1 t2 t3 m1 m2 m3);rw [hnn] at HRD;have LBr:=Hd (LB0.out.alloc (by simp<;>omega) (.cells #[.pointer (some ⟨w.heap.size,0,none⟩),.pointer (some ⟨w.heap.size+1,0,none⟩),.pointer (some ⟨w.heap.size+1+1,0,none⟩)] 75))
 have LRr:=Hd (LR0.out.alloc (.cells #[.pointer (some ⟨w.heap.size,0,none⟩),.pointer (some ⟨w.heap.size+1,0,none⟩),.pointer (some ⟨w.heap.size+1+1,0,none⟩)] 75))
 have hsz:w.heap.size<=((((((w.alloc (.cells #[.float .f64 b1,.float .f64 b2] 28)).alloc (.cells #[.float .f64 c1,.float .f64 c2] 28)).alloc (.cells #[.float .f64 x,.float .f64 y] 28)).alloc (.cells #[.float .f64 0,.float .f64 0] 28))).alloc (.cells #[.pointer (some ⟨w.heap.size,0,none⟩),.pointer (some ⟨w.heap.size+1,0,none⟩),.pointer (some ⟨w.heap.size+1+1,0,none⟩)] 75)).heap.size:=by simp;omega
 have HSZ:=Hd hsz;clear t1 t2 t3 m1 m2 m3 hrow hnn hno v1 v2 v3 hM hsz hP1 hQ1 hP2 hQ2 hP3 hQ3 r1 r2 r3 LB0 LR0 LG0_0 LG1_0 LG2_0
 go_enter Tryz.func22,Tryz.ntmps22
 go_wp2_with fail;refine HRD.out.mono ?_;rintro e w1 ⟨rfl,d0,d1,d2,kp⟩;have LB1:=Hd (kp.toBl LBr.out HSZ.out (Nat.le_refl _) (by omega) (by omega));have LR1:=Hd (kp.hasBk LRr.out (by omega) (by omega) (by omega));have LG0_1:=Hd (show Blk w1 w.heap.size 28 _ from d0);have LG1_1:=Hd (show Blk w1 (w.heap.size+1) 28 _ from d1);have LG2_1:=Hd (show Blk w1 (w.heap.size+2) 28 _ from d2);clear d0 d1 d2 kp LBr LRr HSZ HRD;go_wp2_with fail;refine wp_region_held_drew (S:=fun W'=>Blk W' w.heap.size 28 #[.float .f64 P1,.float .f64 Q1]/\Blk W' (w.heap.size+1) 28 #[.float .f64 P2,.float .f64 Q2]/\Blk W' (w.heap.size+2) 28 #[.float .f64 P3,.float .f64 Q3]/\HasBlk W' (w.heap.size+3) 28 2/\Below w.heap.size w W') (by kernel_rfl) (by exact⟨LG0_1.out.drew,LG1_1.out.drew,LG2_1.out.drew,LR1.out.drew,LB1.out.drew⟩) (fun hHeld=>?_);refine tks 0 ?_ (hv:=by intro W2 hSw;obtain⟨q0,q1⟩:=hSw.2.2.1.c2;go_simp;(try with_reducible rfl));refine tks 1 ?_;refine tks 2 ?_ (hv:=by intro W2 hSw;obtain⟨q0,q1⟩:=hSw.2.1.c2;go_simp;(try with_reducible rfl));refine tks 3 ?_;refine tks 4 ?_ (hv:=by intro W2 hSw;obtain⟨q0,q1⟩:=hSw.1.c2;go_simp;(try with_reducible rfl));refine tks 6 ?_;refine tks 7 ?_ (hv:=by intro W2 hSw;obtain⟨q0,q1⟩:=hSw.2.1.c2;go_simp;(try with_reducible rfl));refine tks 8 ?_;refine tks 9 ?_ (hv:=by intro W2 hSw;obtain⟨q0,q1⟩:=hSw.1.c2;go_simp;(try with_reducible rfl));refine tks 12 ?_;refine tks 13 ?_ (hv:=by intro W2 hSw;obtain⟨q0,q1⟩:=hSw.2.1.c2;go_simp;(try with_reducible rfl))
 refine tks 14 ?_;refine tks 15 ?_ (hv:=by intro W2 hSw;obtain⟨q0,q1⟩:=hSw.1.c2;go_simp;(try with_reducible rfl));refine tks 17 ?_;refine tks 18 ?_ (hv:=by intro W2 hSw;obtain⟨q0,q1⟩:=hSw.2.1.c2;go_simp;(try with_reducible rfl));refine tks 19 ?_;refine tks 20 ?_ (hv:=by intro W2 hSw;obtain⟨q0,q1⟩:=hSw.1.c2;go_simp;(try with_reducible rfl));refine rdy 5 (fun KK hKK=>?_);go_simp;refine cx (HS1.out _) fun w2 hbA=>?_;go_wp2_with fail;refine hKK.out _ _ (⟨hHeld.1.keep hbA,hHeld.2.1.keep hbA,hHeld.2.2.1.keep hbA,hHeld.2.2.2.1.keep hbA,hHeld.2.2.2.2.trans (hbA.mono hHeld.2.2.2.2.size)⟩) (fun _=>?_);clear hKK KK hHeld;rename_i hHeld;(try simp only [Act.put,lay]);refine rdy 10 (fun KK hKK=>?_);go_simp;refine cx (HS2.out _) fun w3 hbB=>?_;go_wp2_with fail;refine hKK.out _ _ (⟨hHeld.1.keep hbB,hHeld.2.1.keep hbB,hHeld.2.2.1.keep hbB,hHeld.2.2.2.1.keep hbB,hHeld.2.2.2.2.trans (hbB.mono hHeld.2.2.2.2.size)⟩) (fun _=>?_);clear hKK KK hHeld;rename_i hHeld;(try simp only [Act.put,lay]);refine tks 11 ?_;refine rdy 16 (fun KK hKK=>?_);go_simp;refine cx (HS3.out _) fun w4 hbC=>?_;go_wp2_with fail;refine hKK.out _ _ (⟨hHeld.1.keep hbC,hHeld.2.1.keep hbC,hHeld.2.2.1.keep hbC,hHeld.2.2.2.1.keep hbC,hHeld.2.2.2.2.trans (hbC.mono hHeld.2.2.2.2.size)⟩) (fun _=>?_);clear hKK KK hHeld;rename_i hHeld;(try simp only [Act.put,lay]);refine rdy 21 (fun KK hKK=>?_);go_simp;refine cx (HS4.out _) fun w5 hbD=>?_;go_wp2_with fail;refine hKK.out _ _ (⟨hHeld.1.keep hbD,hHeld.2.1.keep hbD,hHeld.2.2.1.keep hbD,hHeld.2.2.2.1.keep hbD,hHeld.2.2.2.2.trans (hbD.mono hHeld.2.2.2.2.size)⟩) (fun _=>?_)
 clear hKK KK hHeld;rename_i hHeld;(try simp only [Act.put,lay]);refine tks 22 ?_;refine rdy 23 (fun KK hKK=>?_);go_simp;refine cx (HC.out _) fun w6 hbE=>?_;go_wp2_with fail;refine hKK.out _ _ (⟨hHeld.1.keep hbE,hHeld.2.1.keep hbE,hHeld.2.2.1.keep hbE,hHeld.2.2.2.1.keep hbE,hHeld.2.2.2.2.trans (hbE.mono hHeld.2.2.2.2.size)⟩) (fun _=>?_);clear hKK KK hHeld;rename_i hHeld;(try simp only [Act.put,lay]);refine rdy 24 (fun KK hKK=>?_);have ha0:=hHeld.2.2.2.1.someCell 0 (by decide);have hf0:=hHeld.2.2.2.1.frozen 0;have ha1:=hHeld.2.2.2.1.someCell 1 (by decide);have hf1:=hHeld.2.2.2.1.frozen 1;have HK:=Hd (hHeld.2.2.2.1.setCell [.float .f64 z1,.float .f64 z2] rfl);have F:=Hd (below_sets (w0:=w) (r:=(w.heap.size+3)) (by omega) [.float .f64 z1,.float .f64 z2] 0 _ hHeld.2.2.2.2);go_simp;refine hKK.out _ _ (⟨hHeld.1.other (by omega) 0 [.float .f64 z1,.float .f64 z2],hHeld.2.1.other (by omega) 0 [.float .f64 z1,.float .f64 z2],hHeld.2.2.1.other (by omega) 0 [.float .f64 z1,.float .f64 z2],hHeld.2.2.2.1.sets [.float .f64 z1,.float .f64 z2] rfl rfl,below_sets (by omega) [.float .f64 z1,.float .f64 z2] 0 _ hHeld.2.2.2.2⟩) (fun _=>?_);clear hKK KK hHeld;rename_i hHeld;(try simp only [Act.put,lay]);refine wpAnyH_done (by kernel_rfl) ?_ _;have hk0:=HK.out 0 (by decide);have hk1:=HK.out 1 (by decide)
 simp [sets] at hk0 hk1
 clear hHeld HK hbA hbB hbC hbD hbE;clear LB1 LR1 LG0_1 LG1_1 LG2_1;go_wp2;refine bodyPost_ret (v:=.agg #[.float .f64 z1,.float .f64 z2]) (by simp [results,Tryz.results22,go_sem,hk0,hk1]) rfl ?_
 exact⟨rfl,F.out⟩
theorem revadd_any(b1 b2 c1 c2 x y:Nat)(w:World)(hb1:b1<18446744073709551616)(hb2:b2<18446744073709551616)(hc1:c1<18446744073709551616)(hc2:c2<18446744073709551616)(hx:x<18446744073709551616)(hy:y<18446744073709551616):
  Rt 22 #[.agg #[.float .f64 b1,.float .f64 b2],.agg #[.float .f64 c1,.float .f64 c2],.agg #[.float .f64 x,.float .f64 y]] (.agg #[.float .f64 (pat (rar (rd b1 b2).1 (rd b1 b2).2 (rd c1 c2).1 (rd c1 c2).2 (rd x y).1 (rd x y).2).1),.float .f64 (pat (rar (rd b1 b2).1 (rd b1 b2).2 (rd c1 c2).1 (rd c1 c2).2 (rd x y).1 (rd x y).2).2)]) w:=by
 unfold rar
 by_cases hno:(rd b1 b2).2<(rd b1 b2).1\/(rd c1 c2).2<(rd c1 c2).1\/(rd x y).2<(rd x y).1
 ·rw [if_pos hno]
  exact revadd_none b1 b2 c1 c2 x y _ _ _ _ _ _ w hb1 hb2 hc1 hc2 hx hy rfl rfl rfl hno
 ·rw [if_neg hno]
  exact revadd_some b1 b2 c1 c2 x y _ _ _ _ _ _ w hb1 hb2 hc1 hc2 hx hy rfl rfl rfl hno
end
section
open Go.RowKit
attribute [local go_sem] run_store_float
theorem fplainf(b:Nat)(w:World)(hb:b<18446744073709551616)(hr:rungOf b<=M):Calls Tryz.prog 191 #[.float .f64 b] w fun e w'=>e=.returned (.float .f64 (pat (idx b)))/\w=w':=by
 have ho:FloatKind.f64.format.order b 0=some (compare (idx b) (idx 0)):=order_real hr (by show rungOf 0<=M;decide);rw [show idx 0=0 from by decide] at ho;have hp:=pl_real hb hr
 by_cases h:idx b=0
 ·have hq:(FloatKind.f64.format.order b 0 == some Ordering.eq)=true:=by rw [ho,h];rfl
  rw [h,pat_zero];clear ho hp h hr
  go_enter Tryz.func191,Tryz.ntmps191
  go_wp2
  go_ret
  exact⟨rfl,rfl⟩
 ·have hq:(FloatKind.f64.format.order b 0 == some Ordering.eq)=false:=by
   rw [ho]
   rcases Int.lt_trichotomy (idx b) 0 with h1 | h1 | h1
   ·rw [show compare (idx b) 0=.lt from Int.compare_eq_lt.2 h1];rfl
   ·exact absurd h1 h
   ·rw [show compare (idx b) 0=.gt from Int.compare_eq_gt.2 h1];rfl
  have e:pat (idx b)=b:=by
   rw [<- hp];unfold pl;have:=pat_cases hb;rw [if_neg (by omega),if_neg (by omega)]
  rw [e];clear ho hp h hr e
  go_enter Tryz.func191,Tryz.ntmps191
  go_wp2
  go_ret
  exact⟨rfl,rfl⟩
end
section
open Go.RowKit
theorem KeepN.blk{G n r:Nat}{t:TypeId}{cs:Array Value}{w w':World}(h:KeepN G n w w')(hr:Blk w r t cs)(h0:r<G\/G+n<=r):Blk w' r t cs:=(h.block r hr.lt h0).trans hr
end
section
open Go.RowKit
theorem readL32(w:World){b1 c1 b2 c2 p1 q1 p2 q2:Nat}{d1 d2 d:Bool}(e3:Array Value)(t3:TypeId)(s1:∀ W,Rt 102 #[.agg #[.float .f64 b1,.float .f64 c1]] (.agg #[.float .f64 p1,.float .f64 q1]) W)(m1:Em d1 p1 q1)(s2:∀ W,Rt 102 #[.agg #[.float .f64 b2,.float .f64 c2]] (.agg #[.float .f64 p2,.float .f64 q2]) W)(m2:Em d2 p2 q2)(hnn:(d1 || d2)=d):
  Hid (Calls Tryz.prog 75 #[.slice (some ⟨w.heap.size+1+1+1,0,none⟩) 2 2] ((((w.alloc (.cells #[.float .f64 b1,.float .f64 c1] 28)).alloc (.cells #[.float .f64 b2,.float .f64 c2] 28)).alloc (.cells e3 t3)).alloc (.cells #[.pointer (some ⟨w.heap.size,0,none⟩),.pointer (some ⟨w.heap.size+1,0,none⟩)] 75)) fun e wk=>e=.returned (.bool d)/\Lies w wk [(w.heap.size,28,#[.float .f64 p1,.float .f64 q1]),((w.heap.size+1),28,#[.float .f64 p2,.float .f64 q2]),((w.heap.size+2),t3,e3)] []):=by
 have LL:=li3 w #[.float .f64 b1,.float .f64 c1] 28 #[.float .f64 b2,.float .f64 c2] 28 e3 t3;have hrow:=Blk.at (W:=(((w.alloc (.cells #[.float .f64 b1,.float .f64 c1] 28)).alloc (.cells #[.float .f64 b2,.float .f64 c2] 28)).alloc (.cells e3 t3))) (g:=w.heap.size+1+1+1) (by simp) 75 #[.pointer (some ⟨w.heap.size,0,none⟩),.pointer (some ⟨w.heap.size+1,0,none⟩)]
 have HRD:=read_n w.heap.size 2 (w.heap.size+1+1+1) 2 (fun k:Nat=>if k=0 then (b1,c1) else (b2,c2)) (fun k:Nat=>if k=0 then (p1,q1) else (p2,q2)) (fun k:Nat=>if k=0 then d1 else d2) _ (by omega) (by omega)
  (fun k hk=>by match k,hk with | 0,_=>exact hrow.cell 0 | 1,_=>exact hrow.cell 1) (fun k hk=>by match k,hk with | 0,_=>exact (LL.out.blk 0 rfl).alloc (.cells #[.pointer (some ⟨w.heap.size,0,none⟩),.pointer (some ⟨w.heap.size+1,0,none⟩)] 75) | 1,_=>exact (LL.out.blk 1 rfl).alloc (.cells #[.pointer (some ⟨w.heap.size,0,none⟩),.pointer (some ⟨w.heap.size+1,0,none⟩)] 75)) (fun k hk=>by match k,hk with | 0,_=>exact s1 | 1,_=>exact s2) (fun k hk=>by match k,hk with | 0,_=>exact m1 | 1,_=>exact m2)
 rw [show anyB (fun k:Nat=>if k=0 then d1 else d2) 2=(d1 || d2) from by simp [anyB],hnn] at HRD;have LLR:=LL.out.alloc (.cells #[.pointer (some ⟨w.heap.size,0,none⟩),.pointer (some ⟨w.heap.size+1,0,none⟩)] 75)
 have HSZ:w.heap.size<=((((w.alloc (.cells #[.float .f64 b1,.float .f64 c1] 28)).alloc (.cells #[.float .f64 b2,.float .f64 c2] 28)).alloc (.cells e3 t3)).alloc (.cells #[.pointer (some ⟨w.heap.size,0,none⟩),.pointer (some ⟨w.heap.size+1,0,none⟩)] 75)).heap.size:=by simp;omega
 refine Hd (HRD.mono ?_);rintro e wk ⟨rfl,hd,kp⟩
 exact⟨rfl,kp.toBl LLR.b HSZ (Nat.le_refl _),by simp only [List.mem_cons,List.not_mem_nil,or_false,forall_eq_or_imp,forall_eq];exact⟨show Blk wk w.heap.size 28 #[.float .f64 p1,.float .f64 q1] from hd 0 (by omega),show Blk wk (w.heap.size+1) 28 #[.float .f64 p2,.float .f64 q2] from hd 1 (by omega),kp.blk (LLR.blk 2 rfl) (by omega)⟩,by simp⟩
theorem readL42(w:World){b1 c1 b2 c2 p1 q1 p2 q2:Nat}{d1 d2 d:Bool}(e3:Array Value)(t3:TypeId)(e4:Array Value)(t4:TypeId)(s1:∀ W,Rt 102 #[.agg #[.float .f64 b1,.float .f64 c1]] (.agg #[.float .f64 p1,.float .f64 q1]) W)(m1:Em d1 p1 q1)(s2:∀ W,Rt 102 #[.agg #[.float .f64 b2,.float .f64 c2]] (.agg #[.float .f64 p2,.float .f64 q2]) W)(m2:Em d2 p2 q2)(hnn:(d1 || d2)=d):
  Hid (Calls Tryz.prog 75 #[.slice (some ⟨w.heap.size+1+1+1+1,0,none⟩) 2 2] (((((w.alloc (.cells #[.float .f64 b1,.float .f64 c1] 28)).alloc (.cells #[.float .f64 b2,.float .f64 c2] 28)).alloc (.cells e3 t3)).alloc (.cells e4 t4)).alloc (.cells #[.pointer (some ⟨w.heap.size,0,none⟩),.pointer (some ⟨w.heap.size+1,0,none⟩)] 75)) fun e wk=>e=.returned (.bool d)/\Lies w wk [(w.heap.size,28,#[.float .f64 p1,.float .f64 q1]),((w.heap.size+1),28,#[.float .f64 p2,.float .f64 q2]),((w.heap.size+2),t3,e3),((w.heap.size+3),t4,e4)] []):=by
 have LL:=li4 w #[.float .f64 b1,.float .f64 c1] 28 #[.float .f64 b2,.float .f64 c2] 28 e3 t3 e4 t4;have hrow:=Blk.at (W:=((((w.alloc (.cells #[.float .f64 b1,.float .f64 c1] 28)).alloc (.cells #[.float .f64 b2,.float .f64 c2] 28)).alloc (.cells e3 t3)).alloc (.cells e4 t4))) (g:=w.heap.size+1+1+1+1) (by simp) 75 #[.pointer (some ⟨w.heap.size,0,none⟩),.pointer (some ⟨w.heap.size+1,0,none⟩)]
 have HRD:=read_n w.heap.size 2 (w.heap.size+1+1+1+1) 2 (fun k:Nat=>if k=0 then (b1,c1) else (b2,c2)) (fun k:Nat=>if k=0 then (p1,q1) else (p2,q2)) (fun k:Nat=>if k=0 then d1 else d2) _ (by omega) (by omega)
  (fun k hk=>by match k,hk with | 0,_=>exact hrow.cell 0 | 1,_=>exact hrow.cell 1) (fun k hk=>by match k,hk with | 0,_=>exact (LL.out.blk 0 rfl).alloc (.cells #[.pointer (some ⟨w.heap.size,0,none⟩),.pointer (some ⟨w.heap.size+1,0,none⟩)] 75) | 1,_=>exact (LL.out.blk 1 rfl).alloc (.cells #[.pointer (some ⟨w.heap.size,0,none⟩),.pointer (some ⟨w.heap.size+1,0,none⟩)] 75)) (fun k hk=>by match k,hk with | 0,_=>exact s1 | 1,_=>exact s2) (fun k hk=>by match k,hk with | 0,_=>exact m1 | 1,_=>exact m2)
 rw [show anyB (fun k:Nat=>if k=0 then d1 else d2) 2=(d1 || d2) from by simp [anyB],hnn] at HRD;have LLR:=LL.out.alloc (.cells #[.pointer (some ⟨w.heap.size,0,none⟩),.pointer (some ⟨w.heap.size+1,0,none⟩)] 75)
 have HSZ:w.heap.size<=(((((w.alloc (.cells #[.float .f64 b1,.float .f64 c1] 28)).alloc (.cells #[.float .f64 b2,.float .f64 c2] 28)).alloc (.cells e3 t3)).alloc (.cells e4 t4)).alloc (.cells #[.pointer (some ⟨w.heap.size,0,none⟩),.pointer (some ⟨w.heap.size+1,0,none⟩)] 75)).heap.size:=by simp;omega
 refine Hd (HRD.mono ?_);rintro e wk ⟨rfl,hd,kp⟩
 exact⟨rfl,kp.toBl LLR.b HSZ (Nat.le_refl _),by simp only [List.mem_cons,List.not_mem_nil,or_false,forall_eq_or_imp,forall_eq];exact⟨show Blk wk w.heap.size 28 #[.float .f64 p1,.float .f64 q1] from hd 0 (by omega),show Blk wk (w.heap.size+1) 28 #[.float .f64 p2,.float .f64 q2] from hd 1 (by omega),kp.blk (LLR.blk 2 rfl) (by omega),kp.blk (LLR.blk 3 rfl) (by omega)⟩,by simp⟩
theorem readL43(w:World){b1 c1 b2 c2 b3 c3 p1 q1 p2 q2 p3 q3:Nat}{d1 d2 d3 d:Bool}(e4:Array Value)(t4:TypeId)(s1:∀ W,Rt 102 #[.agg #[.float .f64 b1,.float .f64 c1]] (.agg #[.float .f64 p1,.float .f64 q1]) W)(m1:Em d1 p1 q1)(s2:∀ W,Rt 102 #[.agg #[.float .f64 b2,.float .f64 c2]] (.agg #[.float .f64 p2,.float .f64 q2]) W)(m2:Em d2 p2 q2)(s3:∀ W,Rt 102 #[.agg #[.float .f64 b3,.float .f64 c3]] (.agg #[.float .f64 p3,.float .f64 q3]) W)(m3:Em d3 p3 q3)(hnn:(d1 || d2 || d3)=d):
  Hid (Calls Tryz.prog 75 #[.slice (some ⟨w.heap.size+1+1+1+1,0,none⟩) 3 3] (((((w.alloc (.cells #[.float .f64 b1,.float .f64 c1] 28)).alloc (.cells #[.float .f64 b2,.float .f64 c2] 28)).alloc (.cells #[.float .f64 b3,.float .f64 c3] 28)).alloc (.cells e4 t4)).alloc (.cells #[.pointer (some ⟨w.heap.size,0,none⟩),.pointer (some ⟨w.heap.size+1,0,none⟩),.pointer (some ⟨w.heap.size+2,0,none⟩)] 75)) fun e wk=>e=.returned (.bool d)/\Lies w wk [(w.heap.size,28,#[.float .f64 p1,.float .f64 q1]),((w.heap.size+1),28,#[.float .f64 p2,.float .f64 q2]),((w.heap.size+2),28,#[.float .f64 p3,.float .f64 q3]),((w.heap.size+3),t4,e4)] []):=by
 have LL:=li4 w #[.float .f64 b1,.float .f64 c1] 28 #[.float .f64 b2,.float .f64 c2] 28 #[.float .f64 b3,.float .f64 c3] 28 e4 t4;have hrow:=Blk.at (W:=((((w.alloc (.cells #[.float .f64 b1,.float .f64 c1] 28)).alloc (.cells #[.float .f64 b2,.float .f64 c2] 28)).alloc (.cells #[.float .f64 b3,.float .f64 c3] 28)).alloc (.cells e4 t4))) (g:=w.heap.size+1+1+1+1) (by simp) 75 #[.pointer (some ⟨w.heap.size,0,none⟩),.pointer (some ⟨w.heap.size+1,0,none⟩),.pointer (some ⟨w.heap.size+2,0,none⟩)]
 have HRD:=read_n w.heap.size 3 (w.heap.size+1+1+1+1) 3 (fun k:Nat=>if k=0 then (b1,c1) else if k=1 then (b2,c2) else (b3,c3)) (fun k:Nat=>if k=0 then (p1,q1) else if k=1 then (p2,q2) else (p3,q3)) (fun k:Nat=>if k=0 then d1 else if k=1 then d2 else d3) _ (by omega) (by omega)
  (fun k hk=>by match k,hk with | 0,_=>exact hrow.cell 0 | 1,_=>exact hrow.cell 1 | 2,_=>exact hrow.cell 2) (fun k hk=>by match k,hk with | 0,_=>exact (LL.out.blk 0 rfl).alloc (.cells #[.pointer (some ⟨w.heap.size,0,none⟩),.pointer (some ⟨w.heap.size+1,0,none⟩),.pointer (some ⟨w.heap.size+2,0,none⟩)] 75) | 1,_=>exact (LL.out.blk 1 rfl).alloc (.cells #[.pointer (some ⟨w.heap.size,0,none⟩),.pointer (some ⟨w.heap.size+1,0,none⟩),.pointer (some ⟨w.heap.size+2,0,none⟩)] 75) | 2,_=>exact (LL.out.blk 2 rfl).alloc (.cells #[.pointer (some ⟨w.heap.size,0,none⟩),.pointer (some ⟨w.heap.size+1,0,none⟩),.pointer (some ⟨w.heap.size+2,0,none⟩)] 75)) (fun k hk=>by match k,hk with | 0,_=>exact s1 | 1,_=>exact s2 | 2,_=>exact s3) (fun k hk=>by match k,hk with | 0,_=>exact m1 | 1,_=>exact m2 | 2,_=>exact m3)
 rw [show anyB (fun k:Nat=>if k=0 then d1 else if k=1 then d2 else d3) 3=(d1 || d2 || d3) from by simp [anyB],hnn] at HRD;have LLR:=LL.out.alloc (.cells #[.pointer (some ⟨w.heap.size,0,none⟩),.pointer (some ⟨w.heap.size+1,0,none⟩),.pointer (some ⟨w.heap.size+2,0,none⟩)] 75)
 have HSZ:w.heap.size<=(((((w.alloc (.cells #[.float .f64 b1,.float .f64 c1] 28)).alloc (.cells #[.float .f64 b2,.float .f64 c2] 28)).alloc (.cells #[.float .f64 b3,.float .f64 c3] 28)).alloc (.cells e4 t4)).alloc (.cells #[.pointer (some ⟨w.heap.size,0,none⟩),.pointer (some ⟨w.heap.size+1,0,none⟩),.pointer (some ⟨w.heap.size+2,0,none⟩)] 75)).heap.size:=by simp;omega
 refine Hd (HRD.mono ?_);rintro e wk ⟨rfl,hd,kp⟩
 exact⟨rfl,kp.toBl LLR.b HSZ (Nat.le_refl _),by simp only [List.mem_cons,List.not_mem_nil,or_false,forall_eq_or_imp,forall_eq];exact⟨show Blk wk w.heap.size 28 #[.float .f64 p1,.float .f64 q1] from hd 0 (by omega),show Blk wk (w.heap.size+1) 28 #[.float .f64 p2,.float .f64 q2] from hd 1 (by omega),show Blk wk (w.heap.size+2) 28 #[.float .f64 p3,.float .f64 q3] from hd 2 (by omega),kp.blk (LLR.blk 3 rfl) (by omega)⟩,by simp⟩
end
end Go.Proofs.YthlmlmfebpjgdaaGreatDoor
