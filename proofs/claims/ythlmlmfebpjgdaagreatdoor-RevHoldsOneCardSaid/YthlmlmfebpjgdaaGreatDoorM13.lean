/-
Lemmas for the statement: AddT ArT Dek MlP RmP NmulT RmulT CommT PairT DvdT VdP VdpT.
-/
import Derived.Test.YthlmlmfebpjgdaaGreatDoorM03
import Derived.Test.YthlmlmfebpjgdaaGreatDoorM12
import Derived.Test.YthlmlmfebpjgdaaGreatDoorM05
import Derived.ScopeJumps
import Derived.Test.YthlmlmfebpjgdaaGreatDoorM10
import Derived.Test.YthlmlmfebpjgdaaGreatDoorM06
import Derived.Test.YthlmlmfebpjgdaaGreatDoorM01
import Derived.Test.YthlmlmfebpjgdaaGreatDoorM04
import Derived.Test.YthlmlmfebpjgdaaGreatDoorM08
import Derived.Test.YthlmlmfebpjgdaaGreatDoorM11
import Derived.Deep.DeepCutAuto
import Derived.Deep.CutBlock
set_option linter.unusedSimpArgs false
set_option linter.unusedVariables false
set_option maxHeartbeats 12800000
set_option maxRecDepth 8000
namespace Go.Proofs.YthlmlmfebpjgdaaGreatDoor
open Go.Proofs.Tryz
open Go.RowKit
section
attribute [local go_sem] run_store_float run_frombits run_bitsof run_negf
theorem odd_two(g x y:Nat)(w:World)(hx:L64 x)(hy:L64 y)(rx:rungOf x<=M)(ry:rungOf y<=M)(c0:w.cell? ⟨g,0,none⟩=some (.float .f64 x))(c1:w.cell? ⟨g,1,none⟩=some (.float .f64 y)):
  Calls prog 183 #[.slice (some ⟨g,0,none⟩) 2 2] w fun e w'=>e=.returned (.bool (decide (rungOf x=M) || decide (rungOf y=M)))/\w=w':=by
 have N0:=Hd (isnanf x w rx);have N1:=Hd (isnanf y w ry);have I0:=Hd (isinff x w hx rx);have I1:=Hd (isinff y w hy ry)
 obtain⟨b0,e0⟩:∃ p,decide (rungOf x=M)=p:=⟨_,rfl⟩
 obtain⟨b1,e1⟩:∃ p,decide (rungOf y=M)=p:=⟨_,rfl⟩
 rw [e0] at I0 ⊢;rw [e1] at I1 ⊢;clear e0 e1 rx ry hx hy
 go_enter func183,ntmps183
 go_wp2
 go_loop [4,7] (fun _ v=>∃ k:Nat,k<=2/\v=.int .i64 k/\(0<k->b0=false)/\(1<k->b1=false)) (fun _ v=>2 - (intOf v).toNat)
 case atStart=>exact⟨0,by omega,rfl,by omega,by omega⟩
 case round=>
  obtain⟨k,hk,rfl,hk0,hk1⟩:=hrel
  match k,hk with
  | 0,_=>
   clear hk0 hk1
   cases b0
   ·go_wp2_with fail;refine N0.out.mono ?_;rintro e w' ⟨rfl,rfl⟩;go_wp2_with fail;refine I0.out.mono ?_;rintro e w' ⟨rfl,rfl⟩;go_wp2
    go_round
    case rel=>exact⟨1,by omega,rfl,by simp,by omega⟩
    case measure=>simp [intOf]
   ·go_wp2_with fail;refine N0.out.mono ?_;rintro e w' ⟨rfl,rfl⟩;go_wp2_with fail;refine I0.out.mono ?_;rintro e w' ⟨rfl,rfl⟩;go_wp2
    go_ret
    exact⟨rfl,rfl⟩
  | 1,_=>
   have h0:=hk0 (by omega);subst h0;clear hk0 hk1
   cases b1
   ·go_wp2_with fail;refine N1.out.mono ?_;rintro e w' ⟨rfl,rfl⟩;go_wp2_with fail;refine I1.out.mono ?_;rintro e w' ⟨rfl,rfl⟩;go_wp2
    go_round
    case rel=>exact⟨2,by omega,rfl,by simp,by simp⟩
    case measure=>simp [intOf]
   ·go_wp2_with fail;refine N1.out.mono ?_;rintro e w' ⟨rfl,rfl⟩;go_wp2_with fail;refine I1.out.mono ?_;rintro e w' ⟨rfl,rfl⟩;go_wp2
    go_ret
    exact⟨rfl,rfl⟩
  | 2,_=>
   have h0:=hk0 (by omega);have h1:=hk1 (by omega);subst h0 h1;clear hk0 hk1;go_wp2
   go_ret
   exact⟨rfl,rfl⟩
theorem radd_inf(d:Int)(x y r:Nat)(w:World)(hx:L64 x)(hy:L64 y)(rx:rungOf x<=M)(ry:rungOf y<=M)(ho:(decide (rungOf x=M) || decide (rungOf y=M))=true)(hr:floatBits .add .f64 x y=some r):
  Rt 139 #[.int .i64 d,.float .f64 x,.float .f64 y] (.float .f64 r) w:=by
 have HA:=fun W=>run_float_arith (P:=prog) W .add 26 .f64 _ _ _ hr;have HO0:=fun (W:World) (hb:Below w.heap.size w W)=>odd_two W.heap.size x y (W.alloc (.cells (Zv x y) 26)) hx hy rx ry (by simp [World.cell?_alloc_new]) (by simp [World.cell?_alloc_new]);rw [ho] at HO0;have HO:=Hd HO0;have LB:=Hd (below_alloc w (.cells (Zv x y) 26));clear HO0 ho hr rx ry hx hy
 go_enter func139,ntmps139
 go_wp2_with fail
 go_step3
 go_wp2_with fail;refine cy (HO.out _ (Below.refl _ _)) ?_;go_wp2
 try rw [Exit.noGoto_ret]
 go_ret
 exact⟨rfl,LB.out⟩
theorem radd_quick(d:Int)(x y t T:Nat)(w:World)(hd:d=-1\/d=1)(hx:L64 x)(hy:L64 y)(rx:rungOf x<M)(ry:rungOf y<M)(gx:rungOf x<=8660422083433463808)(gy:rungOf y<=8660422083433463808)
  (ht:8660422083433463808=(t+1)*2^52)(hT:T=52+t)(hT2:T<=1990):
  Rt 139 #[.int .i64 d,.float .f64 x,.float .f64 y] (.float .f64 (pat (rndI d (fl (idx x)+fl (idx y))))) w:=by
 have hM:M=9218868437227405312:=rfl;obtain⟨s,u,a,b,c,e,q1,q2,q3,q4,q5,q6,fs,fe⟩:=quick_sum hT2 (Fl_self hx rx) (Fl_self hy ry) (not_great (by omega) hT) (not_great (by omega) hT);have hn:=nud_sum hd fs fe rfl;have HN0:=fun W=>nudge_any d s e W hd fs.lt fs.fin (Nat.le_of_lt fe.fin);rw [hn] at HN0;have HN:=Hd HN0;have A1:=fun W=>run_float_arith (P:=prog) W .add 26 .f64 x y s q1;have A2:=fun W=>run_float_arith (P:=prog) W .sub 26 .f64 s x u q2;have A3:=fun W=>run_float_arith (P:=prog) W .sub 26 .f64 s u a q3;have A4:=fun W=>run_float_arith (P:=prog) W .sub 26 .f64 x a b q4;have A5:=fun W=>run_float_arith (P:=prog) W .sub 26 .f64 y u c q5;have A6:=fun W=>run_float_arith (P:=prog) W .add 26 .f64 b c e q6
 have ho:(decide (rungOf x=M) || decide (rungOf y=M))=false:=by
  rw [decide_eq_false (by omega),decide_eq_false (by omega)];rfl
 have HO0:=fun (W:World) (hb:Below w.heap.size w W)=>odd_two W.heap.size x y (W.alloc (.cells (Zv x y) 26)) hx hy (by omega) (by omega) (by simp [World.cell?_alloc_new]) (by simp [World.cell?_alloc_new]);rw [ho] at HO0;have HO:=Hd HO0;have HX:=Hd fun W=>abs_any x W hx;have HY:=Hd fun W=>abs_any y W hy;have LB:=Hd (below_alloc w (.cells (Zv x y) 26));have ox:=great_ord (r:=rungOf x) (by omega);have oy:=great_ord (r:=rungOf y) (by omega)
 have ox2:FloatKind.f64.format.order (rungOf x) 8660422083433463808=some .lt\/FloatKind.f64.format.order (rungOf x) 8660422083433463808=some .eq:=by
  rcases ox with h | h
  ·exact h.2
  ·omega
 have oy2:FloatKind.f64.format.order (rungOf y) 8660422083433463808=some .lt\/FloatKind.f64.format.order (rungOf y) 8660422083433463808=some .eq:=by
  rcases oy with h | h
  ·exact h.2
  ·omega
 obtain⟨r,hr⟩:∃ r,pat (rndI d (fl (idx x)+fl (idx y)))=r:=⟨_,rfl⟩
 rw [hr] at HN ⊢
 obtain⟨X,hX⟩:∃ r,rungOf x=r:=⟨_,rfl⟩
 obtain⟨Y,hY⟩:∃ r,rungOf y=r:=⟨_,rfl⟩
 rw [hX] at HX ox2;rw [hY] at HY oy2;clear HO0 ho ox oy hn HN0 fs fe q1 q2 q3 q4 q5 q6 hr hX hY gx gy ht hT hT2 rx ry hx hy hd hM
 rcases ox2 with o1 | o1<;>rcases oy2 with o2 | o2
 all_goals
  go_enter func139,ntmps139
  go_wp2_with fail
  go_step3
  go_wp2_with fail;refine cy (HO.out _ (Below.refl _ _)) ?_;go_wp2_with fail;refine cy (HX.out _) ?_;go_wp2_with fail;refine cy (HY.out _) ?_;go_wp2_with fail;refine cy (HN.out _) ?_;go_wp2
  try rw [Exit.noGoto_ret]
  go_ret
  exact⟨rfl,LB.out⟩
theorem scope_once{P:Program}{a:Act}{w:World}{Q:Exit->Act->World->Prop}{c rest:Code}(l:Nat)(A:Act)(W:World)(hf:findLabel c l=some rest)
  (first:c.wp P (Exit.jump l (fun a' w'=>a'=A/\w'=W) Q) a w)
  (pass:rest.wp P (Exit.jump l (fun a' w'=>(a'=A/\w'=W)/\0<0) Q) A W):(Code.scope c).wp P Q a w:=
 wp_scope_jumps l (fun a' w'=>a'=A/\w'=W) (fun _ _=>0) hf first (by rintro a w ⟨rfl,rfl⟩;exact pass)
theorem radd_exact(d:Int)(x y:Nat)(w:World)(hd:d=-1\/d=1)(hx:L64 x)(hy:L64 y)(rx:rungOf x<M)(ry:rungOf y<M)(hg:8660422083433463808<rungOf x\/8660422083433463808<rungOf y):
  Rt 139 #[.int .i64 d,.float .f64 x,.float .f64 y] (.float .f64 (pat (rndI d (fl (idx x)+fl (idx y))))) w:=by
 have hM:M=9218868437227405312:=rfl;obtain⟨s,hs,-⟩:=add_fin (show fin x from rx) (show fin y from ry);have A1:=fun W=>run_float_arith (P:=prog) W .add 26 .f64 x y s hs;obtain⟨S1,e1,b1,l1,u1,v1,HP1⟩:=part_any x hx rx;obtain⟨S2,e2,b2,l2,u2,v2,HP2⟩:=part_any y hy ry;have k1:blen S1<=53:=blen_le_iff.2 (show S1<2^53 from b1);have k2:blen S2<=53:=blen_le_iff.2 (show S2<2^53 from b2);have hB:=dsF_bound (sgn x) S1 e1 (sgn y) S2 e2 3000 (by omega) (by omega);have hV:=dsF_val (sgn x) S1 e1 (sgn y) S2 e2;rw [<- v1,<- v2] at hV;have HS0:=fun (A1:Option Addr) (m1 c1:Nat) (A2:Option Addr) (m2 c2:Nat) (W:World) (h1:U32s W A1 m1 c1 (digs S1)) (h2:U32s W A2 m2 c2 (digs S2))=>sum_any (sgn x) A1 m1 c1 S1 e1 (sgn y) A2 m2 c2 S2 e2 W h1 h2 (by omega) (by omega) (by omega) (by omega)
 obtain⟨n,hn⟩:∃ z,(dsF (sgn x) S1 e1 (sgn y) S2 e2).1=z:=⟨_,rfl⟩
 obtain⟨S,hS⟩:∃ z,(dsF (sgn x) S1 e1 (sgn y) S2 e2).2.1=z:=⟨_,rfl⟩
 obtain⟨E,hE⟩:∃ z,(dsF (sgn x) S1 e1 (sgn y) S2 e2).2.2=z:=⟨_,rfl⟩
 rw [hn,hS,hE] at HS0 hV;rw [hS,hE] at hB;have HT0:=fun (A:Option Addr) (m c:Nat) (W:World) (h:U32s W A m c (digs S))=>to_any d n A m c S E W h hd (by omega) (by omega) (by omega);rw [hV] at HT0;have HS:=Hd HS0;have HT:=Hd HT0;have HX1:=Hd HP1;have HX2:=Hd HP2
 obtain⟨n1,hn1⟩:∃ z,sgn x=z:=⟨_,rfl⟩
 obtain⟨n2,hn2⟩:∃ z,sgn y=z:=⟨_,rfl⟩
 rw [hn1] at HX1 HS;rw [hn2] at HX2 HS;clear HP1 HP2 HS0 HT0 hn hS hE hV hB k1 k2 b1 b2 l1 l2 u1 u2 v1 v2 hs hn1 hn2
 have ho:(decide (rungOf x=M) || decide (rungOf y=M))=false:=by
  rw [decide_eq_false (by omega),decide_eq_false (by omega)];rfl
 have HO0:=fun (W:World) (hb:Below w.heap.size w W)=>odd_two W.heap.size x y (W.alloc (.cells (Zv x y) 26)) hx hy (by omega) (by omega) (by simp [World.cell?_alloc_new]) (by simp [World.cell?_alloc_new]);rw [ho] at HO0;have HO:=Hd HO0;have HX:=Hd fun W=>abs_any x W hx;have HY:=Hd fun W=>abs_any y W hy;have LB:=Hd (below_alloc w (.cells (Zv x y) 26));have ox:=great_ord (r:=rungOf x) (by omega);have oy:=great_ord (r:=rungOf y) (by omega)
 have hc:FloatKind.f64.format.order (rungOf x) 8660422083433463808=some .gt\/((FloatKind.f64.format.order (rungOf x) 8660422083433463808=some .lt\/FloatKind.f64.format.order (rungOf x) 8660422083433463808=some .eq)/\FloatKind.f64.format.order (rungOf y) 8660422083433463808=some .gt):=by
  rcases ox with h | h
  ·rcases oy with h2 | h2
   ·omega
   ·exact .inr ⟨h.2,h2.2⟩
  ·exact .inl h.2
 obtain⟨r,hr⟩:∃ r,pat (rndI d (fl (idx x)+fl (idx y)))=r:=⟨_,rfl⟩
 rw [hr] at HT ⊢
 obtain⟨X,hX⟩:∃ r,rungOf x=r:=⟨_,rfl⟩
 obtain⟨Y,hY⟩:∃ r,rungOf y=r:=⟨_,rfl⟩
 rw [hX] at HX hc;rw [hY] at HY hc;clear HO0 ho ox oy hr hX hY rx ry hx hy hd hM hg
 rcases hc with o1 | ⟨o1 | o1,o2⟩
 all_goals
  go_enter func139,ntmps139
  go_wp2_with fail
  apply scope_once 0 _ _ rfl
  focus
   go_wp2_with fail;refine cy (HO.out _ (Below.refl _ _)) ?_;go_wp2_with fail;refine cy (HX.out _) ?_;go_wp2_with fail
   try (refine cy (HY.out _) ?_;go_wp2_with fail)
   try go_step3
   exact⟨rfl,rfl,rfl⟩
  clear HO HX HY;generalize w.alloc (.cells (Zv x y) 26)=wa at LB ⊢;go_wp2_with fail;refine (HX1.out _).mono ?_;rintro e w1 ⟨A1,m1,c1,rfl,hu1,hb1⟩;have LB1:=Hd (LB.out.trans (hb1.mono LB.out.size));have U1:=Hd hu1;clear hu1 hb1 LB;go_wp2_with fail;refine (HX2.out _).mono ?_;rintro e w2 ⟨A2,m2,c2,rfl,hu2,hb2⟩;have LB2:=stB LB1 hb2 LB1.out.size;have V1:=Hd (U1.out.below hb2);have V2:=Hd hu2;clear hu2 hb2 LB1 U1;go_wp2_with fail;refine (HS.out _ _ _ _ _ _ _ V1.out V2.out).mono ?_;rintro e w3 ⟨A3,m3,c3,rfl,hu3,hb3⟩;have LB3:=stB LB2 hb3 LB2.out.size;have V3:=Hd hu3;clear hu3 hb3 LB2 V1 V2;go_wp2_with fail;refine cx (HT.out _ _ _ _ V3.out) fun w4 hb4=>?_;have LB4:=stB LB3 hb4 LB3.out.size;clear hb4 LB3 V3;go_wp2
  simp only [Exit.jump]
  go_ret
  exact⟨rfl,LB4.out⟩
theorem radd_any(d:Int)(x y:Nat)(w:World)(hd:d=-1\/d=1)(hx:L64 x)(hy:L64 y)(rx:rungOf x<=M)(ry:rungOf y<=M)(hno:¬ (idx x=M/\idx y=-(M:Int))/\¬ (idx x=-(M:Int)/\idx y=M)):
  Rt 139 #[.int .i64 d,.float .f64 x,.float .f64 y] (.float .f64 (pat (ad d (idx x) (idx y)))) w:=by
 have hM:M=9218868437227405312:=rfl;have cx:=pat_cases hx;have cy:=pat_cases hy;unfold ad
 by_cases h1:rungOf x=M
 ·rw [if_pos (by omega)];refine radd_inf d x y _ w hx hy rx ry (by rw [decide_eq_true h1];rfl) (add_inf_left hx h1 ry (fun h2=>?_))
  rcases cx with ⟨a,b,c,e⟩ | ⟨a,b,c,e⟩<;>rcases cy with ⟨a',b',c',e'⟩ | ⟨a',b',c',e'⟩
  ·rw [c,c']
  ·omega
  ·omega
  ·rw [c,c']
 ·rw [if_neg (by omega)]
  by_cases h2:rungOf y=M
  ·rw [if_pos (by omega)]
   exact radd_inf d x y _ w hx hy rx ry (by rw [decide_eq_true h2,Bool.or_true]) (add_inf_right hy h2 (by omega))
  ·rw [if_neg (by omega)]
   by_cases hg:8660422083433463808<rungOf x\/8660422083433463808<rungOf y
   ·exact radd_exact d x y w hd hx hy (by omega) (by omega) hg
   ·obtain⟨t,ht⟩:∃ t,t=1922:=⟨_,rfl⟩
    exact radd_quick d x y t (52+t) w hd hx hy (by omega) (by omega) (by omega) (by omega) (by rw [ht]) rfl (by omega)
def NoCl(i j:Int):Prop:=¬ (i=M/\j=-(M:Int))/\¬ (i=-(M:Int)/\j=M)
theorem radd_pat(d i j:Int)(w:World)(hd:d=-1\/d=1)(hi:-(M:Int)<=i/\i<=M)(hj:-(M:Int)<=j/\j<=M)(hno:NoCl i j):
  Rt 139 #[.int .i64 d,.float .f64 (pat i),.float .f64 (pat j)] (.float .f64 (pat (ad d i j))) w:=by
 have h:=radd_any d (pat i) (pat j) w hd (pat_lt hi.1 hi.2) (pat_lt hj.1 hj.2) (by rw [rung_pat hi.1 hi.2];omega) (by rw [rung_pat hj.1 hj.2];omega) (by rw [idx_pat hi.1 hi.2,idx_pat hj.1 hj.2];exact hno);rw [idx_pat hi.1 hi.2,idx_pat hj.1 hj.2] at h
 exact h
theorem rsub_pat(d i j:Int)(w:World)(hd:d=-1\/d=1)(hi:-(M:Int)<=i/\i<=M)(hj:-(M:Int)<=j/\j<=M)(hno:NoCl i (-j)):
  Rt 84 #[.int .i64 d,.float .f64 (pat i),.float .f64 (pat j)] (.float .f64 (pat (ad d i (-j)))) w:=by
 have n:=negFloat_val (pat_lt hj.1 hj.2);have h:=radd_any d (pat i) (Op.negFloat .f64 (pat j)) w hd (pat_lt hi.1 hi.2) n.1 (by rw [rung_pat hi.1 hi.2];omega) (by rw [n.2.1,rung_pat hj.1 hj.2];omega) (by rw [n.2.2,idx_pat hi.1 hi.2,idx_pat hj.1 hj.2];exact hno);rw [n.2.2,idx_pat hi.1 hi.2,idx_pat hj.1 hj.2] at h;have H:=Hd h;clear h n hd hi hj hno
 obtain⟨r,hr⟩:∃ r,pat (ad d i (-j))=r:=⟨_,rfl⟩
 obtain⟨p,hp⟩:∃ r,pat i=r:=⟨_,rfl⟩
 obtain⟨q,hq⟩:∃ r,pat j=r:=⟨_,rfl⟩
 rw [hr,hp,hq] at H;rw [hr,hp,hq];clear hr hp hq
 go_enter func84,ntmps84
 go_wp2_with fail;refine H.out.mono ?_;rintro e w1 ⟨rfl,hb⟩;have LB:=Hd hb;clear hb;go_wp2
 go_ret
 exact⟨rfl,LB.out⟩
end
section
attribute [local go_sem] run_store_float
theorem ad_bounds{d i j:Int}(hd:d=-1\/d=1)(hi:-(M:Int)<=i/\i<=M)(hj:-(M:Int)<=j/\j<=M):-(M:Int)<=ad d i j/\ad d i j<=M:=by
 unfold ad
 split
 ·exact hi
 ·split
  ·exact hj
  ·rcases hd with rfl | rfl
   ·have:=rndI_down (fl i+fl j);omega
   ·have:=rndI_up (fl i+fl j);omega
def rar(i1 j1 i2 j2 i3 j3:Int):Int × Int:=if j1<i1\/j2<i2\/j3<i3 then ((M:Int),-(M:Int)) else ct i3 j3 (ad (-1) i2 (-j1)) (ad 1 i2 (-j1)) (ad (-1) j2 (-i1)) (ad 1 j2 (-i1))
theorem revadd_none(b1 b2 c1 c2 x y:Nat)(i1 j1 i2 j2 i3 j3:Int)(w:World)(hb1:L64 b1)(hb2:L64 b2)(hc1:L64 c1)(hc2:L64 c2)(hx:L64 x)(hy:L64 y)(r1:rd b1 b2=(i1,j1))(r2:rd c1 c2=(i2,j2))(r3:rd x y=(i3,j3))(hno:j1<i1\/j2<i2\/j3<i3):
  Rt 22 #[Zf b1 b2,Zf c1 c2,Zf x y] (Zf (pat (((M:Int),-(M:Int))).1) (pat (((M:Int),-(M:Int))).2)) w:=by
 have v1:=rd_iv b1 b2;have v2:=rd_iv c1 c2;have v3:=rd_iv x y;rw [r1] at v1;rw [r2] at v2;rw [r3] at v3
 dsimp only at v1 v2 v3
 have hM:M=9218868437227405312:=rfl;have t1:=fun W=>readf b1 b2 W hb1 hb2;have t2:=fun W=>readf c1 c2 W hc1 hc2;have t3:=fun W=>readf x y W hx hy;rw [r1] at t1;rw [r2] at t2;rw [r3] at t3
 dsimp only at t1 t2 t3
 have m1:=em_idx v1;have m2:=em_idx v2;have m3:=em_idx v3
 have hnn:(decide (j1<i1) || decide (j2<i2) || decide (j3<i3))=true:=by simp;omega
 rw [pat_max,pat_min];have HE:=Hd emptyf
 obtain⟨P1,hP1⟩:∃ z,pat i1=z:=⟨_,rfl⟩
 obtain⟨Q1,hQ1⟩:∃ z,pat j1=z:=⟨_,rfl⟩
 obtain⟨P2,hP2⟩:∃ z,pat i2=z:=⟨_,rfl⟩
 obtain⟨Q2,hQ2⟩:∃ z,pat j2=z:=⟨_,rfl⟩
 obtain⟨P3,hP3⟩:∃ z,pat i3=z:=⟨_,rfl⟩
 obtain⟨Q3,hQ3⟩:∃ z,pat j3=z:=⟨_,rfl⟩
 rw [hP1,hQ1] at t1 m1;rw [hP2,hQ2] at t2 m2;rw [hP3,hQ3] at t3 m3;have HRD:=readL43 w (Zv 0 0) 28 t1 m1 t2 m2 t3 m3 hnn;clear t1 t2 t3 m1 m2 m3 hnn hno v1 v2 v3 hM hP1 hQ1 hP2 hQ2 hP3 hQ3 r1 r2 r3
 go_enter func22,ntmps22
 go_wp2_with fail;refine HRD.out.mono ?_;rintro e w1 ⟨rfl,hl⟩;have LB1:=Hd hl.b;have LR1:=Hd (HasBlk.of (n:=2) (hl.blk 3 rfl) rfl rfl);have LG0_1:=Hd (hl.blk 0 rfl);have LG1_1:=Hd (hl.blk 1 rfl);have LG2_1:=Hd (hl.blk 2 rfl);clear hl HRD;go_wp2_with fail;refine cx (HE.out _) fun w2 hbx=>?_;have LB2:=stB LB1 hbx LB1.out.size;have LR2:=stR LR1 hbx;have LG0_2:=stG LG0_1 hbx;have LG1_2:=stG LG1_1 hbx;have LG2_2:=stG LG2_1 hbx;clear LB1 LR1 LG0_1 LG1_1 LG2_1;clear hbx;obtain⟨ha0,hf0,ha1,hf1⟩:=LR2.out.sf2;obtain⟨hk0,hk1⟩:=LR2.out.sc2 (.float .f64 9218868437227405312) (.float .f64 18442240474082181120);have F:=Hd (below_sets (w0:=w) (r:=(w.heap.size+3)) (by omega) [.float .f64 9218868437227405312,.float .f64 18442240474082181120] 0 _ LB2.out)
 simp [sets] at hk0 hk1
 go_wp2;refine bodyPost_ret (v:=Zf 9218868437227405312 18442240474082181120) (by simp [results,results22,go_sem,hk0,hk1]) rfl ?_
 exact⟨rfl,F.out⟩
theorem revadd_some(b1 b2 c1 c2 x y:Nat)(i1 j1 i2 j2 i3 j3:Int)(w:World)(hb1:L64 b1)(hb2:L64 b2)(hc1:L64 c1)(hc2:L64 c2)(hx:L64 x)(hy:L64 y)(r1:rd b1 b2=(i1,j1))(r2:rd c1 c2=(i2,j2))(r3:rd x y=(i3,j3))(hno:¬ (j1<i1\/j2<i2\/j3<i3)):
  Rt 22 #[Zf b1 b2,Zf c1 c2,Zf x y] (Zf (pat (ct i3 j3 (ad (-1) i2 (-j1)) (ad 1 i2 (-j1)) (ad (-1) j2 (-i1)) (ad 1 j2 (-i1))).1) (pat (ct i3 j3 (ad (-1) i2 (-j1)) (ad 1 i2 (-j1)) (ad (-1) j2 (-i1)) (ad 1 j2 (-i1))).2)) w:=by
 have v1:=rd_iv b1 b2;have v2:=rd_iv c1 c2;have v3:=rd_iv x y;rw [r1] at v1;rw [r2] at v2;rw [r3] at v3
 dsimp only at v1 v2 v3
 have hM:M=9218868437227405312:=rfl;have t1:=fun W=>readf b1 b2 W hb1 hb2;have t2:=fun W=>readf c1 c2 W hc1 hc2;have t3:=fun W=>readf x y W hx hy;rw [r1] at t1;rw [r2] at t2;rw [r3] at t3
 dsimp only at t1 t2 t3
 have m1:=em_idx v1;have m2:=em_idx v2;have m3:=em_idx v3
 have hnn:(decide (j1<i1) || decide (j2<i2) || decide (j3<i3))=false:=by simp;omega
 have n1:NoCl i2 (-j1):=by unfold NoCl;unfold Iv at v1 v2;omega
 have n2:NoCl j2 (-i1):=by unfold NoCl;unfold Iv at v1 v2;omega
 have g1:-(M:Int)<=-j1/\-j1<=M:=by have:=v1.hi;omega
 have g2:-(M:Int)<=-i1/\-i1<=M:=by have:=v1.lo;omega
 have HS1:=Hd fun W=>rsub_pat (-1) i2 j1 W (.inl rfl) v2.lo v1.hi n1;have HS2:=Hd fun W=>rsub_pat 1 i2 j1 W (.inr rfl) v2.lo v1.hi n1;have HS3:=Hd fun W=>rsub_pat (-1) j2 i1 W (.inl rfl) v2.hi v1.lo n2;have HS4:=Hd fun W=>rsub_pat 1 j2 i1 W (.inr rfl) v2.hi v1.lo n2;have HC:=Hd fun W=>rcut_any i3 j3 _ _ _ _ W v3.lo v3.hi (ad_bounds (.inl rfl) v2.lo g1) (ad_bounds (.inr rfl) v2.lo g1) (ad_bounds (.inl rfl) v2.hi g2) (ad_bounds (.inr rfl) v2.hi g2);clear n1 n2 g1 g2
 obtain⟨z1,hz1⟩:∃ z,pat (ct i3 j3 (ad (-1) i2 (-j1)) (ad 1 i2 (-j1)) (ad (-1) j2 (-i1)) (ad 1 j2 (-i1))).1=z:=⟨_,rfl⟩
 obtain⟨z2,hz2⟩:∃ z,pat (ct i3 j3 (ad (-1) i2 (-j1)) (ad 1 i2 (-j1)) (ad (-1) j2 (-i1)) (ad 1 j2 (-i1))).2=z:=⟨_,rfl⟩
 rw [hz1,hz2] at HC ⊢;clear hz1 hz2
 obtain⟨A1,hA1⟩:∃ z,pat (ad (-1) i2 (-j1))=z:=⟨_,rfl⟩
 obtain⟨A2,hA2⟩:∃ z,pat (ad 1 i2 (-j1))=z:=⟨_,rfl⟩
 obtain⟨A3,hA3⟩:∃ z,pat (ad (-1) j2 (-i1))=z:=⟨_,rfl⟩
 obtain⟨A4,hA4⟩:∃ z,pat (ad 1 j2 (-i1))=z:=⟨_,rfl⟩
 rw [hA1] at HS1 HC;rw [hA2] at HS2 HC;rw [hA3] at HS3 HC;rw [hA4] at HS4 HC;clear hA1 hA2 hA3 hA4
 obtain⟨P1,hP1⟩:∃ z,pat i1=z:=⟨_,rfl⟩
 obtain⟨Q1,hQ1⟩:∃ z,pat j1=z:=⟨_,rfl⟩
 obtain⟨P2,hP2⟩:∃ z,pat i2=z:=⟨_,rfl⟩
 obtain⟨Q2,hQ2⟩:∃ z,pat j2=z:=⟨_,rfl⟩
 obtain⟨P3,hP3⟩:∃ z,pat i3=z:=⟨_,rfl⟩
 obtain⟨Q3,hQ3⟩:∃ z,pat j3=z:=⟨_,rfl⟩
 rw [hP1,hQ1] at t1 m1;rw [hP2,hQ2] at t2 m2;rw [hP3,hQ3] at t3 m3;rw [hP2,hQ1] at HS1 HS2;rw [hQ2,hP1] at HS3 HS4;rw [hP3,hQ3] at HC;have HRD:=readL43 w (Zv 0 0) 28 t1 m1 t2 m2 t3 m3 hnn;clear t1 t2 t3 m1 m2 m3 hnn hno v1 v2 v3 hM hP1 hQ1 hP2 hQ2 hP3 hQ3 r1 r2 r3
 go_enter func22,ntmps22
 go_wp2_with fail;refine HRD.out.mono ?_;rintro e w1 ⟨rfl,hl⟩;have LB1:=Hd hl.b;have LR1:=Hd (HasBlk.of (n:=2) (hl.blk 3 rfl) rfl rfl);have LG0_1:=Hd (hl.blk 0 rfl);have LG1_1:=Hd (hl.blk 1 rfl);have LG2_1:=Hd (hl.blk 2 rfl);clear hl HRD;go_wp2_with fail;refine wp_region_held_drew (S:=fun W'=>Blk W' w.heap.size 28 (Zv P1 Q1)/\Blk W' (w.heap.size+1) 28 (Zv P2 Q2)/\Blk W' (w.heap.size+2) 28 (Zv P3 Q3)/\HasBlk W' (w.heap.size+3) 28 2/\Below w.heap.size w W') (by kernel_rfl) (by exact⟨LG0_1.out.drew,LG1_1.out.drew,LG2_1.out.drew,LR1.out.drew,LB1.out.drew⟩) (fun hHeld=>?_);refine tkb 0 (fun _ h=>h.2.2.1.c2) ?_;refine tks 1 ?_;refine tkb 2 (fun _ h=>h.2.1.c2) ?_;refine tks 3 ?_;refine tkb 4 (fun _ h=>h.1.c2) ?_;refine tks 6 ?_;refine tkb 7 (fun _ h=>h.2.1.c2) ?_;refine tks 8 ?_;refine tkb 9 (fun _ h=>h.1.c2) ?_;refine tks 12 ?_;refine tkb 13 (fun _ h=>h.2.1.c2) ?_;refine tks 14 ?_;refine tkb 15 (fun _ h=>h.1.c2) ?_;refine tks 17 ?_;refine tkb 18 (fun _ h=>h.2.1.c2) ?_;refine tks 19 ?_;refine tkb 20 (fun _ h=>h.1.c2) ?_;refine rdy 5 fun KK hKK=>?_;go_simp;refine cx (HS1.out _) fun w2 hbA=>?_;go_wp2_with fail;refine hKK.out _ _ (⟨hHeld.1.keep hbA,hHeld.2.1.keep hbA,hHeld.2.2.1.keep hbA,hHeld.2.2.2.1.keep hbA,hHeld.2.2.2.2.trans (hbA.mono hHeld.2.2.2.2.size)⟩) (fun _=>?_);clear hKK KK hHeld;rename_i hHeld;(try simp only [Act.put,lay]);refine rdy 10 fun KK hKK=>?_;go_simp;refine cx (HS2.out _) fun w3 hbB=>?_;go_wp2_with fail;refine hKK.out _ _ (⟨hHeld.1.keep hbB,hHeld.2.1.keep hbB,hHeld.2.2.1.keep hbB,hHeld.2.2.2.1.keep hbB,hHeld.2.2.2.2.trans (hbB.mono hHeld.2.2.2.2.size)⟩) (fun _=>?_)
 clear hKK KK hHeld;rename_i hHeld;(try simp only [Act.put,lay]);refine tks 11 ?_;refine rdy 16 fun KK hKK=>?_;go_simp;refine cx (HS3.out _) fun w4 hbC=>?_;go_wp2_with fail;refine hKK.out _ _ (⟨hHeld.1.keep hbC,hHeld.2.1.keep hbC,hHeld.2.2.1.keep hbC,hHeld.2.2.2.1.keep hbC,hHeld.2.2.2.2.trans (hbC.mono hHeld.2.2.2.2.size)⟩) (fun _=>?_);clear hKK KK hHeld;rename_i hHeld;(try simp only [Act.put,lay]);refine rdy 21 fun KK hKK=>?_;go_simp;refine cx (HS4.out _) fun w5 hbD=>?_;go_wp2_with fail;refine hKK.out _ _ (⟨hHeld.1.keep hbD,hHeld.2.1.keep hbD,hHeld.2.2.1.keep hbD,hHeld.2.2.2.1.keep hbD,hHeld.2.2.2.2.trans (hbD.mono hHeld.2.2.2.2.size)⟩) (fun _=>?_);clear hKK KK hHeld;rename_i hHeld;(try simp only [Act.put,lay]);refine tks 22 ?_;refine rdy 23 fun KK hKK=>?_;go_simp;refine cx (HC.out _) fun w6 hbE=>?_;go_wp2_with fail;refine hKK.out _ _ (⟨hHeld.1.keep hbE,hHeld.2.1.keep hbE,hHeld.2.2.1.keep hbE,hHeld.2.2.2.1.keep hbE,hHeld.2.2.2.2.trans (hbE.mono hHeld.2.2.2.2.size)⟩) (fun _=>?_);clear hKK KK hHeld;rename_i hHeld;(try simp only [Act.put,lay]);refine rdy 24 fun KK hKK=>?_;have ha0:=hHeld.2.2.2.1.someCell 0 (by decide);have hf0:=hHeld.2.2.2.1.frozen 0;have ha1:=hHeld.2.2.2.1.someCell 1 (by decide);have hf1:=hHeld.2.2.2.1.frozen 1;have HK:=Hd (hHeld.2.2.2.1.setCell [.float .f64 z1,.float .f64 z2] rfl);have F:=Hd (below_sets (w0:=w) (r:=(w.heap.size+3)) (by omega) [.float .f64 z1,.float .f64 z2] 0 _ hHeld.2.2.2.2);go_simp;refine hKK.out _ _ (⟨hHeld.1.other (by omega) 0 [.float .f64 z1,.float .f64 z2],hHeld.2.1.other (by omega) 0 [.float .f64 z1,.float .f64 z2],hHeld.2.2.1.other (by omega) 0 [.float .f64 z1,.float .f64 z2],hHeld.2.2.2.1.sets [.float .f64 z1,.float .f64 z2] rfl rfl,below_sets (by omega) [.float .f64 z1,.float .f64 z2] 0 _ hHeld.2.2.2.2⟩) (fun _=>?_)
 clear hKK KK hHeld;rename_i hHeld;(try simp only [Act.put,lay]);refine wpAnyH_done (by kernel_rfl) ?_ _;have hk0:=HK.out 0 (by decide);have hk1:=HK.out 1 (by decide)
 simp [sets] at hk0 hk1
 clear hHeld HK hbA hbB hbC hbD hbE;clear LB1 LR1 LG0_1 LG1_1 LG2_1;go_wp2;refine bodyPost_ret (v:=Zf z1 z2) (by simp [results,results22,go_sem,hk0,hk1]) rfl ?_
 exact⟨rfl,F.out⟩
theorem revadd_any(b1 b2 c1 c2 x y:Nat)(w:World)(hb1:L64 b1)(hb2:L64 b2)(hc1:L64 c1)(hc2:L64 c2)(hx:L64 x)(hy:L64 y):
  Rt 22 #[Zf b1 b2,Zf c1 c2,Zf x y] (Zf (pat (rar (rd b1 b2).1 (rd b1 b2).2 (rd c1 c2).1 (rd c1 c2).2 (rd x y).1 (rd x y).2).1) (pat (rar (rd b1 b2).1 (rd b1 b2).2 (rd c1 c2).1 (rd c1 c2).2 (rd x y).1 (rd x y).2).2)) w:=by
 unfold rar
 by_cases hno:(rd b1 b2).2<(rd b1 b2).1\/(rd c1 c2).2<(rd c1 c2).1\/(rd x y).2<(rd x y).1
 ·rw [if_pos hno]
  exact revadd_none b1 b2 c1 c2 x y _ _ _ _ _ _ w hb1 hb2 hc1 hc2 hx hy rfl rfl rfl hno
 ·rw [if_neg hno]
  exact revadd_some b1 b2 c1 c2 x y _ _ _ _ _ _ w hb1 hb2 hc1 hc2 hx hy rfl rfl rfl hno
end
theorem rep_dvd{n:Int}{k:Nat}(h:Rep n)(hn:2^(52+k)<=n.natAbs):(2:Int)^k ∣ n:=by
 obtain⟨q,j,hq,e⟩:=rep_iff.1 h
 have hj:k<=j:=by
  apply Nat.le_of_not_lt
  intro hlt;have h1:q*2^j<2^53*2^j:=Nat.mul_lt_mul_of_pos_right hq (Nat.two_pow_pos j)
  have h2:2^53*2^j<=2^(52+k):=by rw [<- Nat.pow_add];exact Nat.pow_le_pow_right (by omega) (by omega)
  rw [e] at hn
  exact absurd (Nat.lt_of_lt_of_le h1 (Nat.le_trans h2 hn)) (Nat.lt_irrefl _)
 exact Int.dvd_trans (pow_dvd_le hj) (dvd_of_natAbs e)
theorem R_err{n:Int}(k:Nat)(h:n.natAbs<=2^53*2^k):2*(n - R n).natAbs<=2^k:=by
 have hK:0<2^k:=Nat.two_pow_pos k
 have hKi:((2^k:Nat):Int)=(2:Int)^k:=by rw [Int.natCast_pow];rfl
 have hd:n=(2:Int)^k*(n / (2:Int)^k)+n % (2:Int)^k:=(Int.mul_ediv_add_emod n _).symm;have hb0:0<=n % (2:Int)^k:=Int.emod_nonneg _ (by omega);have hb1:n % (2:Int)^k<(2:Int)^k:=Int.emod_lt_of_pos _ (by omega);generalize n / (2:Int)^k=a at hd;generalize n % (2:Int)^k=b at hd hb0 hb1
 have rp:∀ c:Int,c.natAbs<=2^53->Rep ((2:Int)^k*c):=fun c hc=>rep_of_dvd k (Int.dvd_mul_right _ _) (by
  rw [Int.natAbs_mul,Int.natAbs_pow,Nat.mul_comm]
  exact Nat.mul_le_mul_right _ hc)
 have c1:a<=2^53:=by
  apply Int.le_of_not_gt;intro hlt
  have h1:(2:Int)^k*(2^53+1)<=(2:Int)^k*a:=Int.mul_le_mul_of_nonneg_left (by omega) (by omega)
  have h2:(n.natAbs:Int)<=2^53*2^k:=by exact_mod_cast h
  have h3:(2:Int)^k*(2^53+1)=2^53*2^k+2^k:=by rw [Int.mul_add,Int.mul_one,Int.mul_comm]
  omega
 have c2:-2^53<=a:=by
  apply Int.le_of_not_gt;intro hlt
  have h1:(2:Int)^k*a<=(2:Int)^k*(-2^53 - 1):=Int.mul_le_mul_of_nonneg_left (by omega) (by omega)
  have h2:(n.natAbs:Int)<=2^53*2^k:=by exact_mod_cast h
  have h3:(2:Int)^k*(-2^53 - 1)=-(2^53*2^k) - 2^k:=by rw [Int.mul_sub,Int.mul_one,Int.mul_comm,Int.neg_mul]
  omega
 have n1:=R_nearest (n:=n) (rp a (by omega))
 by_cases hb:b=0
 ·have e:n - (2:Int)^k*a=0:=by omega
  rw [e] at n1
  simp at n1
  omega
 ·have c3:a+1<=2^53:=by
   apply Int.le_of_not_gt;intro hlt
   have ea:a=2^53:=by omega
   have h2:(n.natAbs:Int)<=2^53*2^k:=by exact_mod_cast h
   have h3:(2:Int)^k*a=2^53*2^k:=by rw [ea,Int.mul_comm]
   omega
  have n2:=R_nearest (n:=n) (rp (a+1) (by omega));rw [Int.mul_add,Int.mul_one] at n2
  omega
theorem R_ge{n:Int}{t:Nat}(h:2^t<=n.natAbs):2^t<=(R n).natAbs:=by
 have h0:((2^t:Nat):Int)=(2:Int)^t:=by rw [Int.natCast_pow];rfl
 rcases Int.lt_or_le n 0 with hn | hn
 ·have h1:R n<=-(2:Int)^t:=R_le (rep_two_pow t).neg (by omega)
  omega
 ·have h1:(2:Int)^t<=R n:=le_R (rep_two_pow t) (by omega)
  omega
theorem cut_pos{m:Int}(h1:2^52<=m)(h2:m<2^53):
  ∃ q l:Int,R (R (134217729*m) - R (R (134217729*m) - m))=2^27*q/\m=2^27*q+l/\q.natAbs<=2^26/\l.natAbs<=2^26:=by
 have d1:(2:Int)^27 ∣ R (134217729*m):=rep_dvd (R_rep _) (R_ge (t:=52+27) (by omega));have e1:=R_err (n:=134217729*m) 28 (by omega);have e2:134217729*m<=2^80->2*(134217729*m - R (134217729*m)).natAbs<=2^27:=fun h=>R_err 27 (by omega);have e3:m=2^52->R (134217729*m)=134217729*m:=fun h=>R_of_rep (rep_of_dvd 27 ⟨2^52+2^25,by omega⟩ (by omega));generalize R (134217729*m)=t at *
 have b1:2^79<=t - m:=by
  by_cases hm:m=2^52
  ·have:=e3 hm;omega
  ·by_cases hc:134217729*m<=2^80
   ·have:=e2 hc;omega
   ·omega
 have b2:t - m<=2^80:=by omega
 have d2:(2:Int)^27 ∣ R (t - m):=rep_dvd (R_rep _) (R_ge (t:=52+27) (by omega));have e4:=R_err (n:=t - m) 27 (by omega);generalize R (t - m)=u at *;obtain⟨q,hq⟩:=Int.dvd_sub d1 d2;have hR:R (t - u)=t - u:=R_of_rep (rep_of_dvd 27 (Int.dvd_sub d1 d2) (by omega));refine⟨q,m - 2^27*q,by rw [hR,hq],by omega,by omega,by omega⟩
theorem dcut_any{m:Int}(h1:2^52<=m.natAbs)(h2:m.natAbs<2^53):
  ∃ q l:Int,R (R (134217729*m) - R (R (134217729*m) - m))=2^27*q/\m=2^27*q+l/\q.natAbs<=2^26/\l.natAbs<=2^26:=by
 rcases Int.lt_or_le m 0 with hm | hm
 ·obtain⟨q,l,a,b,c,d⟩:=cut_pos (m:=-m) (by omega) (by omega);refine⟨-q,-l,?_,by omega,by omega,by omega⟩
  rw [show (134217729:Int)*-m=-(134217729*m) from by omega,R_neg,show -R (134217729*m) - -m=-(R (134217729*m) - m) from by omega,R_neg,
   show -R (134217729*m) - -R (R (134217729*m) - m)=-(R (134217729*m) - R (R (134217729*m) - m)) from by omega,R_neg] at a
  omega
 ·exact cut_pos (by omega) (by omega)
theorem missed_at{m n q l q' l':Int}(m1:2^52<=m.natAbs)(m2:m.natAbs<2^53)(n1:2^52<=n.natAbs)(n2:n.natAbs<2^53)(em:m=2^27*q+l)(en:n=2^27*q'+l')(hq:q.natAbs<=2^26)(hl:l.natAbs<=2^26)(hq':q'.natAbs<=2^26)(hl':l'.natAbs<=2^26):
  Rep ((2^27*q)*(2^27*q'))/\Rep ((2^27*q)*l')/\Rep (l*(2^27*q'))/\Rep (l*l') /\
  Rep ((2^27*q)*(2^27*q') - R (m*n))/\Rep ((2^27*q)*(2^27*q') - R (m*n)+(2^27*q)*l')/\Rep ((2^27*q)*(2^27*q') - R (m*n)+(2^27*q)*l'+l*(2^27*q')) /\
  (2^27*q)*(2^27*q') - R (m*n)+(2^27*q)*l'+l*(2^27*q')+l*l'=m*n - R (m*n)/\Rep (m*n - R (m*n))/\(2*(m*n - R (m*n)).natAbs<=2^53):=by
 have p1:(m*n).natAbs<2^106:=by
  rw [Int.natAbs_mul]
  calc m.natAbs*n.natAbs<2^53*2^53:=Nat.mul_lt_mul_of_lt_of_lt m2 n2
   _=2^106:=rfl
 have p2:2^104<=(m*n).natAbs:=by
  rw [Int.natAbs_mul]
  calc 2^104=2^52*2^52:=rfl
   _<=m.natAbs*n.natAbs:=Nat.mul_le_mul m1 n1
 have bd:∀ a b:Int,a.natAbs<=2^26->b.natAbs<=2^26->(a*b).natAbs<=2^52:=fun a b ha hb=>by
  rw [Int.natAbs_mul];exact Nat.le_trans (Nat.mul_le_mul ha hb) (by decide)
 have z1:=bd _ _ hq hq';have z2:=bd _ _ hq hl';have z3:=bd _ _ hl hq';have z4:=bd _ _ hl hl';have err:=R_err (n:=m*n) 53 (by omega);have dv:(2:Int)^52 ∣ R (m*n):=rep_dvd (R_rep _) (R_ge (t:=52+52) p2)
 have f1:(2^27*q)*(2^27*q')=2^54*(q*q'):=by grind
 have f2:(2^27*q)*l'=2^27*(q*l'):=by grind
 have f3:l*(2^27*q')=2^27*(l*q'):=by grind
 have f4:m*n=2^54*(q*q')+2^27*(q*l')+2^27*(l*q')+l*l':=by rw [em,en];grind
 rw [f1,f2,f3];generalize q*q'=Z1 at *;generalize q*l'=Z2 at *;generalize l*q'=Z3 at *;generalize l*l'=Z4 at *;generalize R (m*n)=P at *;generalize m*n=N at *;obtain⟨P',rfl⟩:=dv;clear f1 f2 f3 bd em en;refine⟨rep_of_dvd 54 (Int.dvd_mul_right _ _) (by omega),rep_of_dvd 27 (Int.dvd_mul_right _ _) (by omega),rep_of_dvd 27 (Int.dvd_mul_right _ _) (by omega),rep_of_dvd 0 (Int.one_dvd _) (by omega),rep_of_dvd 52 ⟨4*Z1 - P',by omega⟩ (by omega),rep_of_dvd 27 ⟨2^27*Z1 - 2^25*P'+Z2,by omega⟩ (by omega),rep_of_dvd 0 (Int.one_dvd _) (by omega),by omega,rep_of_dvd 0 (Int.one_dvd _) (by omega),err⟩
theorem nearRung_scale(n d:Nat):nearRung (n*2^d) d=nearRung n 0:=by
 unfold nearRung;rw [Nat.mul_div_cancel _ (Nat.two_pow_pos d),Nat.pow_zero,Nat.div_one,bump_shift,Nat.zero_add]
theorem near_scale(n:Int)(d:Nat):near (n*2^d) d=near n 0:=by
 have hp:(0:Int)<2^d:=by exact_mod_cast Nat.two_pow_pos d
 have e:(n*2^d).natAbs=n.natAbs*2^d:=by rw [Int.natAbs_mul,Int.natAbs_pow];rfl
 unfold near;rw [e,nearRung_scale]
 by_cases h:n<0
 ·rw [if_pos h,if_pos (Int.mul_neg_of_neg_of_pos h hp)]
 ·rw [if_neg h,if_neg (by have:=Int.mul_nonneg (show 0<=n by omega) (Int.le_of_lt hp);omega)]
theorem mag_nearRung_fine{n d:Nat}(h:2^(53+d)<=n):mag (nearRung n d)*2^d=mag (nearRung n 0):=by
 have h0:n≠0:=by have:=Nat.two_pow_pos (53+d);omega
 have hl:53+d<=n.log2:=(Nat.le_log2 h0).2 h
 have eo:over n=over (n / 2^d)+d:=by unfold over;rw [log2_div_pow];omega
 have hk:=over_spec (n / 2^d);rw [mag_nearRung];unfold nearRung floorRung
 obtain⟨o,ho⟩:∃ o,over (n / 2^d)=o:=⟨_,rfl⟩
 rw [ho] at eo hk;rw [ho,eo,div_div_pow] at *;have hb:(bump n (d+o)).toNat<=1:=Bool.toNat_le _;rw [Nat.add_assoc,mag_form o _ (by omega) (by omega),Nat.mul_assoc,<- Nat.pow_add,Nat.add_comm d o]
theorem near_fine{n:Int}{d:Nat}(h:2^(53+d)<=n.natAbs)(hM:-(M:Int)<near n d/\near n d<M):val (near n d)*2^d=R n:=by
 have h1:=near_natAbs n d
 have h2:min (nearRung n.natAbs d) M=nearRung n.natAbs d:=by omega
 have h3:=mag_nearRung_fine h;unfold near R;rw [h2]
 split
 ·rw [val_neg,val_nat,Int.neg_mul]
  congr 1
  exact_mod_cast h3
 ·rw [val_nat]
  exact_mod_cast h3
theorem near_R2{n:Int}{Q:Nat}(hQ:Q<=2090)(h:n.natAbs<=2^Q):val (near n 0)=R n/\-(M:Int)<near n 0/\near n 0<M:=by
 have hM:M=2047*2^52:=rfl
 obtain⟨r,hr⟩:∃ r,mag r=2^Q*2^0/\r<M:=by
  by_cases hq:Q<52
  ·have h1:2^Q<2^52:=Nat.pow_lt_pow_right (by omega) hq
   exact⟨2^Q,by rw [mag_small h1,Nat.pow_zero,Nat.mul_one],by omega⟩
  ·obtain⟨t,rfl⟩:∃ t,Q=52+t:=⟨Q - 52,by omega⟩
   refine⟨(t+1)*2^52,by rw [mag_two_pow,Nat.pow_zero,Nat.mul_one,Nat.pow_add],?_⟩;have:(t+1)*2^52<=2040*2^52:=Nat.mul_le_mul_right _ (by omega)
   omega
 have h1:nearRung n.natAbs 0<=r:=nearRung_le (by rw [Nat.pow_zero,Nat.mul_one];rw [Nat.pow_zero,Nat.mul_one] at hr;rw [hr.1];exact h)
 have h2:min (nearRung n.natAbs 0) M=nearRung n.natAbs 0:=by omega
 unfold near R;rw [h2];refine⟨?_,by split<;>omega,by split<;>omega⟩
 split
 ·rw [val_neg,val_nat]
 ·rw [val_nat]
theorem Fl.of_is2{b:Nat}{n:Int}{Q:Nat}(hQ:Q<=2090)(h:Is b (near n 0))(hn:n.natAbs<=2^Q):Fl b (R n):=by
 obtain⟨h1,h2,h3⟩:=near_R2 hQ hn;refine⟨h.lt,?_,by rw [h.idx,h1]⟩;have:=idx_natAbs b;rw [h.idx] at this
 show rungOf b<M
 omega
theorem Fl.add2{x y:Nat}{m n:Int}{Q:Nat}(hQ:Q<=2090)(hx:Fl x m)(hy:Fl y n)(h:(m+n).natAbs<=2^Q):∃ r,FloatKind.f64.format.add x y=some r/\Fl r (R (m+n)):=by
 obtain⟨r,h1,h2⟩:=add_fin hx.fin hy.fin;rw [hx.val,hy.val] at h2
 exact⟨r,h1,Fl.of_is2 hQ h2 h⟩
theorem Fl.sub2{x y:Nat}{m n:Int}{Q:Nat}(hQ:Q<=2090)(hx:Fl x m)(hy:Fl y n)(h:(m - n).natAbs<=2^Q):∃ r,FloatKind.f64.format.sub x y=some r/\Fl r (R (m - n)):=by
 obtain⟨r,h1,h2⟩:=sub_fin hx.fin hy.fin;rw [hx.val,hy.val] at h2
 exact⟨r,h1,Fl.of_is2 hQ h2 h⟩
theorem Fl.mul_at{x y:Nat}{m n Z:Int}{Q U:Nat}(hQ:Q<=2090)(hU:U=1074)(hx:Fl x m)(hy:Fl y n)(hz:m*n=Z*2^U)(h:Z.natAbs<=2^Q):∃ r,FloatKind.f64.format.mul x y=some r/\Fl r (R Z):=by
 obtain⟨r,h1,h2⟩:=mul_fin hx.fin hy.fin;subst hU;rw [hx.val,hy.val,hz,near_scale] at h2
 exact⟨r,h1,Fl.of_is2 hQ h2 h⟩
theorem Rep.shift{n:Int}(h:Rep n)(k:Nat):Rep (n*2^k):=by
 have e:=R_shift n k;rw [R_of_rep h] at e;rw [<- e];exact R_rep _
theorem cut_const{U:Nat}(hU:U=1074):Fl 4728779608772575232 (134217729*2^U):=by
 have h0:rungOf 4728779608772575232=1049*2^52+(2^52+2^25):=by decide
 refine⟨by decide,by unfold fin;rw [h0];decide,?_⟩
 have h1:idx 4728779608772575232=((1049*2^52+(2^52+2^25):Nat):Int):=by decide
 rw [h1,val_nat,mag_form 1049 (2^52+2^25) (by omega) (by omega)]
 obtain⟨u,hu⟩:∃ u:Nat,u=1049:=⟨_,rfl⟩
 rw [<- hu,show U=25+u from by omega,Int.natCast_mul,Int.natCast_pow,show ((2^52+2^25:Nat):Int)=134217729*2^25 from by decide,show ((2:Nat):Int)=2 from rfl,Int.pow_add,Int.mul_assoc]
theorem quick_half{x:Nat}{m:Int}{a T U:Nat}(hT:T<=2000)(hU:U=1074)(hx:Fl x (m*2^a))(h1:2^52<=m.natAbs)(h2:m.natAbs<2^53)(hb:(m*2^a).natAbs<=2^T):
  ∃ t u h l:Nat,∃ q v:Int,FloatKind.f64.format.mul 4728779608772575232 x=some t/\FloatKind.f64.format.sub t x=some u/\FloatKind.f64.format.sub t u=some h/\FloatKind.f64.format.sub x h=some l /\
   Fl h (2^27*q*2^a)/\Fl l (v*2^a)/\m=2^27*q+v/\q.natAbs<=2^26/\v.natAbs<=2^26:=by
 obtain⟨q,v,e1,e2,hq,hv⟩:=dcut_any h1 h2
 have p1:2^(T+28)=268435456*2^T:=by rw [Nat.pow_add,Nat.mul_comm]
 have p2:2^(T+32)=4294967296*2^T:=by rw [Nat.pow_add,Nat.mul_comm]
 have hQ:T+32<=2090:=by omega
 have s1:(134217729:Int)*(m*2^a)=134217729*m*2^a:=by rw [Int.mul_assoc]
 have b0:(134217729*(m*2^a):Int).natAbs<=2^(T+28):=by
  rw [Int.natAbs_mul,p1,show (134217729:Int).natAbs=134217729 from rfl];omega
 obtain⟨t,g1,f1⟩:=Fl.mul_at (Q:=T+32) hQ hU (cut_const hU) hx (Z:=134217729*(m*2^a)) (by rw [Int.mul_assoc,Int.mul_comm (2^U),<- Int.mul_assoc]) (by omega);have b1:=R_bound b0;obtain⟨u,g2,f2⟩:=Fl.sub2 (Q:=T+32) hQ f1 hx (by omega);have b2:(R (R (134217729*(m*2^a)) - m*2^a)).natAbs<=2^(T+29):=R_bound (by rw [show 2^(T+29)=536870912*2^T from by rw [Nat.pow_add,Nat.mul_comm]];omega)
 have p3:2^(T+29)=536870912*2^T:=by rw [Nat.pow_add,Nat.mul_comm]
 obtain⟨h,g3,f3⟩:=Fl.sub2 (Q:=T+32) hQ f1 f2 (by omega)
 have eh:R (R (134217729*(m*2^a)) - R (R (134217729*(m*2^a)) - m*2^a))=2^27*q*2^a:=by
  rw [s1,R_shift,<- Int.sub_mul,R_shift,<- Int.sub_mul,R_shift,e1]
 have b3:=R_bound (n:=R (134217729*(m*2^a)) - R (R (134217729*(m*2^a)) - m*2^a)) (t:=T+30) (by rw [show 2^(T+30)=1073741824*2^T from by rw [Nat.pow_add,Nat.mul_comm]];omega)
 have p4:2^(T+30)=1073741824*2^T:=by rw [Nat.pow_add,Nat.mul_comm]
 rw [eh] at f3 b3;obtain⟨l,g4,f4⟩:=Fl.sub2 (Q:=T+32) hQ hx f3 (by omega)
 have el:m*2^a - 2^27*q*2^a=v*2^a:=by rw [<- Int.sub_mul,show m - 2^27*q=v from by omega]
 have rv:Rep v:=rep_of_dvd 0 ⟨v,by rw [Int.pow_zero,Int.one_mul]⟩ (by rw [Nat.pow_zero,Nat.mul_one];exact Nat.le_trans hv (by decide));rw [el,R_of_rep (rv.shift a)] at f4
 exact⟨t,u,h,l,q,v,g1,g2,g3,g4,f3,f4,e2,hq,hv⟩
theorem quick_mul{x y p:Nat}{m n:Int}{a b U T:Nat}(hU:U=1074)(hT:T=1974)(hx:Fl x (m*2^a))(m1:2^52<=m.natAbs)(m2:m.natAbs<2^53)(bx:(m*2^a).natAbs<=2^T)(hy:Fl y (n*2^b))(n1:2^52<=n.natAbs)(n2:n.natAbs<2^53)(by_:(n*2^b).natAbs<=2^T)
  (hp:FloatKind.f64.format.mul x y=some p)(hf:fin p)(bp:(val (idx p)).natAbs<=2^T)(hab:U<=a+b):
  ∃ xt xu xh xl yt yu yh yl z1 e0 z2 e1 z3 e2 z4 e:Nat,FloatKind.f64.format.mul 4728779608772575232 x=some xt/\FloatKind.f64.format.sub xt x=some xu/\FloatKind.f64.format.sub xt xu=some xh/\FloatKind.f64.format.sub x xh=some xl /\
   FloatKind.f64.format.mul 4728779608772575232 y=some yt/\FloatKind.f64.format.sub yt y=some yu/\FloatKind.f64.format.sub yt yu=some yh/\FloatKind.f64.format.sub y yh=some yl /\
   FloatKind.f64.format.mul xh yh=some z1/\FloatKind.f64.format.sub z1 p=some e0/\FloatKind.f64.format.mul xh yl=some z2/\FloatKind.f64.format.add e0 z2=some e1 /\
   FloatKind.f64.format.mul xl yh=some z3/\FloatKind.f64.format.add e1 z3=some e2/\FloatKind.f64.format.mul xl yl=some z4/\FloatKind.f64.format.add e2 z4=some e /\
   ∃ N:Int,(m*2^a)*(n*2^b)=N*2^U/\Fl p (R N)/\Fl e (N - R N):=by
 obtain⟨s,hs⟩:∃ s,a+b=s+U:=⟨a+b - U,by omega⟩
 have scale:∀ A B:Int,(A*2^a)*(B*2^b)=A*B*2^s*2^U:=fun A B=>by
  rw [Int.mul_assoc (A*B),<- Int.pow_add,<- hs,Int.pow_add];ac_rfl
 obtain⟨xt,xu,xh,xl,q,l,x1,x2,x3,x4,fxh,fxl,em,hq,hl⟩:=quick_half (T:=T) (by omega) hU hx m1 m2 bx;obtain⟨yt,yu,yh,yl,q',l',y1,y2,y3,y4,fyh,fyl,en,hq',hl'⟩:=quick_half (T:=T) (by omega) hU hy n1 n2 by_;obtain⟨r1,r2,r3,r4,r5,r6,r7,r8,r9,-⟩:=missed_at m1 m2 n1 n2 em en hq hl hq' hl'
 have big:2^104<=(m*n).natAbs:=by
  rw [Int.natAbs_mul]
  exact Nat.le_trans (by decide:2^104<=2^52*2^52) (Nat.mul_le_mul m1 n1)
 -- p
 have ep:val (idx p)=R (m*n)*2^s:=by
  obtain⟨p',hp',hi⟩:=mul_fin hx.fin hy.fin
  obtain rfl:p'=p:=Option.some.inj (hp'.symm.trans hp)
  rw [hx.val,hy.val,<- hU,scale,near_scale] at hi;have h1:=idx_natAbs p';have hff:rungOf p'<M:=hf
  have h2:=near_fine (n:=m*n*2^s) (d:=0) (by
   rw [Int.natAbs_mul,Int.natAbs_pow]
   calc 2^(53+0)<=2^104*1:=by decide
    _<=_:=Nat.mul_le_mul big (Nat.two_pow_pos s)) (by rw [<- hi.idx];omega)
  rw [Int.pow_zero,Int.mul_one,R_shift] at h2;rw [hi.idx,h2]
 have fp:Fl p (R (m*n)*2^s):=⟨by
  obtain⟨p',hp',hi⟩:=mul_fin hx.fin hy.fin
  obtain rfl:p'=p:=Option.some.inj (hp'.symm.trans hp)
  exact hi.lt,hf,ep⟩
 rw [ep] at bp
 -- sizes: all parts are below 2^(T+6)
 have sz:∀ A:Int,A.natAbs<=2^110->(A*2^s).natAbs<=2^(T+6):=fun A hA=>by
  have h1:2^104<=(R (m*n)).natAbs:=R_ge big;rw [Int.natAbs_mul,Int.natAbs_pow] at bp ⊢;have h2:2^104*2^s<=2^T:=Nat.le_trans (Nat.mul_le_mul_right _ h1) bp
  have h3:s+104<=T:=by
   apply Nat.le_of_not_lt;intro hlt
   rw [<- Nat.pow_add] at h2;have:=(Nat.pow_le_pow_iff_right (by omega:1<2)).1 h2
   omega
  calc A.natAbs*2^s<=2^110*2^(T - 104):=Nat.mul_le_mul hA (Nat.pow_le_pow_right (by omega) (by omega))
   _<=2^(T+6):=by rw [<- Nat.pow_add];exact Nat.pow_le_pow_right (by omega) (by omega)
 have bd:∀ A B:Int,A.natAbs<=2^53->B.natAbs<=2^53->(A*B).natAbs<=2^106:=fun A B hA hB=>by
  rw [Int.natAbs_mul];exact Nat.le_trans (Nat.mul_le_mul hA hB) (by decide)
 have k1:=bd (2^27*q) (2^27*q') (by omega) (by omega);have k2:=bd (2^27*q) l' (by omega) (by omega);have k3:=bd l (2^27*q') (by omega) (by omega);have k4:=bd l l' (by omega) (by omega);have k5:(R (m*n)).natAbs<=2^106:=R_bound (bd m n (by omega) (by omega));obtain⟨z1,c1,f1⟩:=Fl.mul_at (Q:=T+6) (by omega) hU fxh fyh (scale _ _) (sz _ (by omega));rw [R_of_rep (r1.shift s)] at f1;obtain⟨e0,c2,f2⟩:=Fl.sub2 (Q:=T+6) (by omega) f1 fp (by rw [<- Int.sub_mul];exact sz _ (by omega));rw [<- Int.sub_mul,R_of_rep (r5.shift s)] at f2;obtain⟨z2,c3,f3⟩:=Fl.mul_at (Q:=T+6) (by omega) hU fxh fyl (scale _ _) (sz _ (by omega));rw [R_of_rep (r2.shift s)] at f3;obtain⟨e1,c4,f4⟩:=Fl.add2 (Q:=T+6) (by omega) f2 f3 (by rw [<- Int.add_mul];exact sz _ (by omega));rw [<- Int.add_mul,R_of_rep (r6.shift s)] at f4;obtain⟨z3,c5,f5⟩:=Fl.mul_at (Q:=T+6) (by omega) hU fxl fyh (scale _ _) (sz _ (by omega));rw [R_of_rep (r3.shift s)] at f5;obtain⟨e2,c6,f6⟩:=Fl.add2 (Q:=T+6) (by omega) f4 f5 (by rw [<- Int.add_mul];exact sz _ (by omega));rw [<- Int.add_mul,R_of_rep (r7.shift s)] at f6;obtain⟨z4,c7,f7⟩:=Fl.mul_at (Q:=T+6) (by omega) hU fxl fyl (scale _ _) (sz _ (by omega));rw [R_of_rep (r4.shift s)] at f7;obtain⟨e,c8,f8⟩:=Fl.add2 (Q:=T+6) (by omega) f6 f7 (by rw [<- Int.add_mul];exact sz _ (by omega));rw [<- Int.add_mul,r8,R_of_rep (r9.shift s)] at f8;refine⟨xt,xu,xh,xl,yt,yu,yh,yl,z1,e0,z2,e1,z3,e2,z4,e,x1,x2,x3,x4,y1,y2,y3,y4,c1,c2,c3,c4,c5,c6,c7,c8,m*n*2^s,scale _ _,?_,?_⟩
 ·rw [R_shift];exact fp
 ·rw [R_shift,<- Int.sub_mul];exact f8
theorem middle_form{x T L:Nat}(hT:T=1974)(hL:L=174)(hx:L64 x)(h1:553942754166571008<=rungOf x)(h2:rungOf x<=8660422083433463808):
  ∃ (m:Int) (a:Nat),Fl x (m*2^a)/\2^52<=m.natAbs/\m.natAbs<2^53/\(m*2^a).natAbs<=2^T/\2^L<=(m*2^a).natAbs:=by
 have hM:M=9218868437227405312:=rfl;obtain⟨k,q,e,hk,hq⟩:=rung_form (rungOf x);have hf:=Fl_self hx (by omega)
 have hmag:mag (rungOf x)=q*2^k:=by rw [e];exact mag_form k q hk (by omega)
 have hlo:mag ((122+1)*2^52)<=mag (rungOf x):=mag_le_iff.2 (by omega);have hhi:=not_great (x:=x) (t:=1922) (T:=T) (by omega) (by omega);rw [mag_two_pow,<- Nat.pow_add,show 52+122=L from by omega] at hlo
 have hv:(val (idx x)).natAbs=q*2^k:=by rw [val_natAbs,idx_natAbs,hmag]
 have q0:2^52<=q:=by omega
 have lo:2^L<=q*2^k:=by rw [<- hmag];exact hlo
 rcases Int.lt_or_le (val (idx x)) 0 with hn | hn
 ·have ev:val (idx x)=(-(q:Int))*2^k:=by
   have:((q*2^k:Nat):Int)=(q:Int)*2^k:=by push_cast;rfl
   rw [Int.neg_mul];omega
  rw [ev] at hf hv hhi
  exact⟨-(q:Int),k,hf,by omega,by omega,hhi,by rw [hv];exact lo⟩
 ·have ev:val (idx x)=(q:Int)*2^k:=by
   have:((q*2^k:Nat):Int)=(q:Int)*2^k:=by push_cast;rfl
   omega
  rw [ev] at hf hv hhi
  exact⟨(q:Int),k,hf,by omega,by omega,hhi,by rw [hv];exact lo⟩
section
open Go.RowKit Ieee
theorem nud_n{d:Int}(hd:d=-1\/d=1){s e:Nat}{n:Int}(hs:Fl s (R n))(he:Fl e (n - R n)):nud d (idx s) (idx e)=rndI d ((n:Rat)*2^(-1074:Int)):=by
 have h0:=idx_natAbs s;have hf:rungOf s<M:=hs.fin
 have e1:idx e<0↔n<R n:=by
  have h:=@val_lt_iff (idx e) 0;rw [val_zero,he.val] at h
  omega
 have e2:0<idx e↔R n<n:=by
  have h:=@val_lt_iff 0 (idx e);rw [val_zero,he.val] at h
  omega
 rcases hd with rfl | rfl
 ·rw [near_down hs.val (by omega) (by omega)];unfold nud
  by_cases h:n<R n
  ·rw [if_pos h,if_pos ⟨rfl,e1.2 h⟩]
  ·rw [if_neg h,if_neg (fun h'=>h (e1.1 h'.2)),if_neg (by omega)]
 ·rw [near_up hs.val (by omega) (by omega)];unfold nud
  by_cases h:R n<n
  ·rw [if_pos h,if_neg (by omega),if_pos ⟨rfl,e2.2 h⟩]
  ·rw [if_neg h,if_neg (by omega),if_neg (fun h'=>h (e2.1 h'.2))]
theorem fl_mul_units{i j N:Int}{U:Nat}(hU:U=1074)(h:val i*val j=N*2^U):fl i*fl j=(N:Rat)*2^(-1074:Int):=by
 have h1:((val i:Int):Rat)*((val j:Int):Rat)=(N:Rat)*2^(U:Int):=by
  rw [<- Rat.intCast_mul,h,Rat.intCast_mul,Rat.intCast_pow,Rat.zpow_natCast];rfl
 have h2:(2:Rat)^(U:Int)*2^(-1074:Int)=1:=by
  rw [<- zpow_add,show (U:Int)+-1074=0 from by omega];rfl
 unfold fl
 have h3:(val i:Rat)*2^(-1074:Int)*((val j:Rat)*2^(-1074:Int))=((val i:Rat)*(val j:Rat))*2^(-1074:Int)*2^(-1074:Int):=by grind
 rw [h3,h1]
 have h4:(N:Rat)*2^(U:Int)*2^(-1074:Int)*2^(-1074:Int)=(N:Rat)*(2^(U:Int)*2^(-1074:Int))*2^(-1074:Int):=by grind
 rw [h4,h2,Rat.mul_one]
def mid(b:Nat):Bool:=decide (553942754166571008<rungOf b) && decide (rungOf b<8660422083433463808)
theorem mid_iff{b:Nat}:mid b=true↔553942754166571008<rungOf b/\rungOf b<8660422083433463808:=by unfold mid;simp
theorem prod_small{m n V:Int}{a b U g:Nat}(hV:V=m*2^a*(n*2^b))(m2:m.natAbs<2^53)(n2:n.natAbs<2^53)(hg:54<=g)(h:a+b<U):nearRung V.natAbs U<=(g+1)*2^52:=by
 refine nearRung_le ?_;rw [hV,Int.natAbs_mul,Int.natAbs_mul,Int.natAbs_mul,Int.natAbs_pow,Int.natAbs_pow,mag_two_pow,<- Nat.pow_add]
 have k1:m.natAbs*2^a*(n.natAbs*2^b)=m.natAbs*n.natAbs*2^(a+b):=by rw [Nat.pow_add];ac_rfl
 show m.natAbs*2^a*(n.natAbs*2^b)<=_
 rw [k1];have k2:m.natAbs*n.natAbs<=2^53*2^53:=Nat.mul_le_mul (Nat.le_of_lt m2) (Nat.le_of_lt n2);have k3:2^(a+b)<=2^U:=Nat.pow_le_pow_right (by omega) (by omega)
 have k4:2^53*2^53<=2^(52+g):=by rw [<- Nat.pow_add];exact Nat.pow_le_pow_right (by omega) (by omega)
 exact Nat.mul_le_mul (Nat.le_trans k2 k4) k3
theorem quick_prod{d:Int}(hd:d=-1\/d=1){x y p:Nat}(hx:L64 x)(hy:L64 y)(mx:mid x=true)(my:mid y=true)(hp:FloatKind.f64.format.mul x y=some p)(mp:mid p=true):
  ∃ xt xu xh xl yt yu yh yl z1 e0 z2 e1 z3 e2 z4 e:Nat,FloatKind.f64.format.mul 4728779608772575232 x=some xt/\FloatKind.f64.format.sub xt x=some xu/\FloatKind.f64.format.sub xt xu=some xh/\FloatKind.f64.format.sub x xh=some xl /\
   FloatKind.f64.format.mul 4728779608772575232 y=some yt/\FloatKind.f64.format.sub yt y=some yu/\FloatKind.f64.format.sub yt yu=some yh/\FloatKind.f64.format.sub y yh=some yl /\
   FloatKind.f64.format.mul xh yh=some z1/\FloatKind.f64.format.sub z1 p=some e0/\FloatKind.f64.format.mul xh yl=some z2/\FloatKind.f64.format.add e0 z2=some e1 /\
   FloatKind.f64.format.mul xl yh=some z3/\FloatKind.f64.format.add e1 z3=some e2/\FloatKind.f64.format.mul xl yl=some z4/\FloatKind.f64.format.add e2 z4=some e /\
   p<18446744073709551616/\rungOf p<M/\rungOf e<=M/\nud d (idx p) (idx e)=rndI d (fl (idx x)*fl (idx y)):=by
 have hM:M=9218868437227405312:=rfl
 obtain⟨T,hT⟩:∃ T:Nat,T=1974:=⟨_,rfl⟩
 obtain⟨L,hL⟩:∃ T:Nat,T=174:=⟨_,rfl⟩
 obtain⟨U,hU⟩:∃ T:Nat,T=1074:=⟨_,rfl⟩
 have mx':=mid_iff.1 mx;have my':=mid_iff.1 my;have mp':=mid_iff.1 mp
 have pM:rungOf p<M:=by omega
 obtain⟨m,a,fx,m1,m2,bx,-⟩:=middle_form hT hL hx (by omega) (by omega);obtain⟨n,b,fy,n1,n2,by_,-⟩:=middle_form hT hL hy (by omega) (by omega);obtain⟨r,hr,his⟩:=mul_fin (show fin x by unfold fin;omega) (show fin y by unfold fin;omega)
 have e0:p=r:=by
  have:some p=some r:=by rw [<- hp];exact hr
  cases this;rfl
 subst e0;rw [<- hU] at his;have hip:=his.idx
 have hv:val (idx x)*val (idx y)=m*2^a*(n*2^b):=by rw [fx.val,fy.val]
 have hab:U<=a+b:=by
  rcases Nat.lt_or_ge (a+b) U with h | h
  ·exfalso
   obtain⟨g,hg⟩:∃ g:Nat,g=122:=⟨_,rfl⟩
   have h2:=prod_small (V:=val (idx x)*val (idx y)) hv m2 n2 (show 54<=g by omega) h;have h3:=near_natAbs (val (idx x)*val (idx y)) U;rw [<- hip,idx_natAbs] at h3;have h4:=mp'.1;clear bx by_ fx fy m1 m2 n1 n2 hv hT hL hU his hip mx my mp mx' my'
   omega
  ·exact h
 have fp:Fl p (val (idx p)):=⟨his.lt,by unfold fin;omega,rfl⟩
 have bp:=not_great (x:=p) (t:=1922) (T:=T) (by omega) (by omega);obtain⟨xt,xu,xh,xl,yt,yu,yh,yl,z1,e0,z2,e1,z3,e2,z4,e,q1,q2,q3,q4,q5,q6,q7,q8,q9,q10,q11,q12,q13,q14,q15,q16,N,hN,fpN,fe⟩:=quick_mul hU hT fx m1 m2 bx fy n1 n2 by_ hp fp.fin bp hab;refine⟨xt,xu,xh,xl,yt,yu,yh,yl,z1,e0,z2,e1,z3,e2,z4,e,q1,q2,q3,q4,q5,q6,q7,q8,q9,q10,q11,q12,q13,q14,q15,q16,his.lt,pM,Nat.le_of_lt fe.fin,?_⟩;have e5:fl (idx x)*fl (idx y)=(N:Rat)*2^(-1074:Int):=fl_mul_units hU (hv.trans hN);rw [e5]
 exact nud_n hd fpN fe
theorem inf_write(s:Bool):double.write (.infinity s)=pat (if s then -(M:Int) else M):=by
 cases s
 ·have h:=inf_word (x:=9218868437227405312) (by omega) (by decide);rw [show sgn 9218868437227405312=false from by decide] at h;rw [h];exact pat_max.symm
 ·have h:=inf_word (x:=18442240474082181120) (by omega) (by decide);rw [show sgn 18442240474082181120=true from by decide] at h;rw [h];exact pat_min.symm
theorem digits_pos{b m k:Nat}(h:m*2^k=mag (rungOf b))(hb:rungOf b≠0):m≠0:=by
 rintro rfl;rw [Nat.zero_mul] at h;have:=mag_lt_iff.2 (show 0<rungOf b by omega);rw [mag_zero] at this
 omega
theorem mul_inf{x y:Nat}(hx:rungOf x<=M)(hy:rungOf y<=M)(h:rungOf x=M\/rungOf y=M)(nx:rungOf x≠0)(ny:rungOf y≠0):double.mul x y=some (pat (if (sgn x ^^ sgn y) then -(M:Int) else M)):=by
 unfold Format.mul
 by_cases h1:rungOf x=M
 ·rw [read_inf h1]
  by_cases h2:rungOf y=M
  ·rw [read_inf h2]
   simp only [Datum.product,Option.map_some]
   rw [inf_write]
  ·obtain⟨m,k,e,hm,-⟩:=read_fin (show fin y from by unfold fin;omega);rw [e]
   simp only [Datum.product]
   rw [if_neg (digits_pos hm ny)]
   simp only [Option.map_some]
   rw [inf_write]
 ·have h2:rungOf y=M:=by omega
  rw [read_inf h2];obtain⟨m,k,e,hm,-⟩:=read_fin (show fin x from by unfold fin;omega);rw [e]
  simp only [Datum.product]
  rw [if_neg (digits_pos hm nx)]
  simp only [Option.map_some]
  rw [inf_write,Bool.xor_comm]
end
theorem nmul_in(A B:Option Addr)(p c q d:Nat)(xs ys:List Nat)(w:World)(hx:U32s w A p c xs)(hy:U32s w B q d ys)(hs1:p<=8589934592)(hs2:q<=8589934592):
  Calls prog 252 #[.slice A p c,.slice B q d] w fun e w'=>∃ (D:Option Addr) (n' c':Nat) (ls:List Nat),e=.returned (.slice D n' c')/\U32s w' D n' c' ls/\num ls=num xs*num ys/\n'=p+q/\Below w.heap.size w w':=by
 have HX:=Hd hx;have HY:=Hd hy;have l1:=wlen_le xs;have l2:=wlen_le ys;rw [hx.len] at l1;rw [hy.len] at l2;have HP:=Hd l1;have HQ:=Hd l2;clear hx hy l1 l2;have hmk:=fun W=>make_u32 (N:=(p:Int)+(q:Int)) (n:=p+q) (by omega) (by omega) W
 go_enter func252,ntmps252
 go_wp2
 go_loopw [6,7,20] (fun _ _ jv wr=>∃ (j:Nat) (ls:List Nat),jv=.int .i64 j/\j<=q/\TimesOut xs ys ls p q j/\Arr wr w.heap.size ls/\Below w.heap.size w wr) (fun _ _ jv _=>q - (intOf jv).toNat)
 case atStart=>exact⟨0,_,rfl,Nat.zero_le _,TimesOut.start _ _ _ _,Arr.zeros _ _,below_alloc _ _⟩
 case round=>
  obtain⟨j,ls,rfl,hj,hinv,harr,hb⟩:=hrel;have HI:=Hd hinv;have HA:=Hd harr;clear hinv harr hmk;have hbs:=hb.size
  by_cases hlt:j<q
  ·obtain⟨ad',e,hc'⟩:=(HY.out.below hb).cell (j:=j) (by omega)
   cases e
   have hy1:=HY.out.lt j
   by_cases hy0:ys[j]?.getD 0=0
   ·rw [hy0] at hc';have HZ:=Hd hy0;clear hy0;go_wp2
    go_roundw
    case rel=>exact⟨j+1,ls,by go_num,hlt,HI.out.skip HZ.out,HA.out,hb⟩
    case measure=>simp [intOf];omega
   ·obtain⟨y,hy⟩:∃ y,ys[j]?.getD 0=y:=⟨_,rfl⟩
    rw [hy] at hc' hy1 hy0;have HYY:=Hd hy
    have hy2:((y:Int) == 0)=false:=by simp;omega
    clear hy hy0
    obtain⟨wo,rfl⟩:∃ wo:World,wo=wr:=⟨_,rfl⟩
    have b0:(0:Int)<=(j:Int):=by omega
    have b1:(j:Int)<=(j:Int)+(p:Int)+1:=by omega
    have b2:(j:Int)+(p:Int)+1<=((p+q:Nat):Int):=by omega
    go_wp2
    go_loopw [8,10,11,37] (fun cv _ _ iv wr=>∃ (i k:Nat) (ls':List Nat),iv=.int .i64 i/\cv=.int .u64 k/\i<=p/\TimesIn xs ls' ls p q j i y k/\Arr wr w.heap.size ls'/\Below w.heap.size w wr) (fun _ _ _ iv _=>p - (intOf iv).toNat)
    case atStart=>exact⟨0,0,ls,rfl,rfl,Nat.zero_le _,TimesIn.start y HI.out,HA.out,hb⟩
    case round=>
     clear hb hbs HA hc';obtain⟨i,k,ls',rfl,rfl,hi,hin,harr,hb⟩:=hrel;have hk:=hin.2.2.2.1;have HIN:=Hd hin;have HA:=Hd harr;clear hin harr
     by_cases hlt2:i<p
     ·obtain⟨ad,e,hc⟩:=(HX.out.below hb).cell (j:=i) (by omega)
      cases e
      have hx1:=HX.out.lt i;have hc2:=HA.out.cell (j:=i+j) (by rw [HIN.out.2.1];omega);have hf2:=HA.out.frozen (i+j);have hl1:ls'[i+j]?.getD 0<4294967296:=HIN.out.1.get (i+j)
      obtain⟨x,hx⟩:∃ x,xs[i]?.getD 0=x:=⟨_,rfl⟩
      obtain⟨l,hl⟩:∃ l,ls'[i+j]?.getD 0=l:=⟨_,rfl⟩
      rw [hx] at hc hx1;rw [hl] at hc2 hl1;rw [Nat.add_comm i j] at hc2 hf2;have HXX:=Hd hx;have HLL:=Hd hl;clear hx hl;have hz1:x*y<=4294967295*4294967295:=Nat.mul_le_mul (by omega) (by omega)
      obtain⟨z,hz⟩:∃ z,x*y=z:=⟨_,rfl⟩
      rw [hz] at hz1
      have e1:(x:Int)*(y:Int)=(z:Int):=by rw [<- hz];simp
      have HZ:=Hd hz;clear hz
      have b3:(i:Int)<((p+1:Nat):Int):=by omega
      go_wp2
      go_roundw
      case rel=>
       refine⟨i+1,(k+l+z) / 4294967296,ls'.set (i+j) ((k+l+z) % 4294967296),by go_num,?_,by omega,?_,?_,hb.setCell (Nat.le_refl _) _⟩
       ·rw [show (k:Int)+((z:Int)+(l:Int))=((k+l+z:Nat):Int) from by omega];go_num
       ·exact HIN.out.step hlt2 hlt HX.out.w32 hy1 (by rw [HXX.out,HLL.out,HZ.out])
       ·have:=HA.out.set (i+j) ((k+l+z) % 4294967296);rw [show ((k:Int)+((z:Int)+(l:Int))) % 4294967296=(((k+l+z) % 4294967296:Nat):Int) from by omega,Nat.add_comm j i]
        exact this
      case measure=>simp [intOf];omega
     ·obtain rfl:i=p:=by omega
      have hc2:=HA.out.cell (j:=j+i) (by rw [HIN.out.2.1];omega);have hf2:=HA.out.frozen (j+i)
      have hk2:(k:Int) % 4294967296=(k:Int):=by omega
      have b3:(i:Int)<((i+1:Nat):Int):=by omega
      obtain⟨l,hl⟩:∃ l,ls'[j+i]?.getD 0=l:=⟨_,rfl⟩
      rw [hl] at hc2;clear hl;go_wp2
      go_roundw
      case rel=>
       exact⟨j+1,ls'.set (j+i) k,by go_num,hlt,HIN.out.done HI.out hlt HP.out HYY.out,HA.out.set _ _,hb.setCell (Nat.le_refl _) _⟩
      case measure=>simp [intOf];omega
  ·obtain rfl:j=q:=by omega
   have hnum:=HI.out.done HQ.out;have hu:=HA.out.u32s' HI.out.1 HI.out.2.1 (by omega);have HU:=Hd hu;clear hu;go_wp2
   go_ret
   exact⟨_,_,_,_,rfl,HU.out,hnum,rfl,hb⟩
theorem nmul_any(A B:Option Addr)(n c m d:Nat)(xs ys:List Nat)(w:World)(hx:U32s w A n c xs)(hy:U32s w B m d ys)(hl:wlen xs+wlen ys<=16384)(hbl:blen (num xs)+blen (num ys)<=524289):
  Calls prog 229 #[.slice A n c,.slice B m d] w (NewU32E w (digs (num xs*num ys))):=by
 obtain⟨w1,hw1⟩:∃ w1,w.alloc (.cells #[.slice A n c,.slice B m d] 40)=w1:=⟨_,rfl⟩
 have hb1:Below w.heap.size w w1:=by rw [<- hw1];exact below_alloc w _
 have hx1:=hx.below hb1;have hy1:=hy.below hb1;have hlong:=long_two w.heap.size A n c xs B m d ys w1 hx1 (by rw [<- hw1];simp [World.cell?_alloc_new]) (by omega) hy1 (by rw [<- hw1];simp [World.cell?_alloc_new]) (by omega);have HLG:=Hd hlong;have HL1:=Hd (nlen_any A n c xs w1 hx1);have HL2:=Hd (nlen_any B m d ys w1 hy1);have HQ1:=Hd fun W (h:U32s W A n c xs)=>nwords_any A n c xs W h;have HQ2:=Hd fun W (h:U32s W B m d ys)=>nwords_any B m d ys W h;have cc1:=hx.cap;have cc2:=hy.cap;have n1:=hx.small;have n2:=hy.small;have l1:=wlen_le xs;have l2:=wlen_le ys;rw [hx.len] at l1;rw [hy.len] at l2;have e1:=num_trim xs;have e2:=num_trim ys;rw [trim_eq_take] at e1 e2;have HX0:=hx1.take l1;have HY0:=hy1.take l2
 obtain⟨p,hp⟩:∃ p,wlen xs=p:=⟨_,rfl⟩
 obtain⟨q,hq⟩:∃ p,wlen ys=p:=⟨_,rfl⟩
 obtain⟨b1,hB1⟩:∃ p,blen (num xs)=p:=⟨_,rfl⟩
 obtain⟨b2,hB2⟩:∃ p,blen (num ys)=p:=⟨_,rfl⟩
 rw [hp] at HQ1 l1 hl e1 HX0;rw [hq] at HQ2 l2 hl e2 HY0;rw [hB1] at HL1 hbl;rw [hB2] at HL2 hbl
 obtain⟨us,hus⟩:∃ l,xs.take p=l:=⟨_,rfl⟩
 obtain⟨vs,hvs⟩:∃ l,ys.take q=l:=⟨_,rfl⟩
 rw [hus] at e1 HX0;rw [hvs] at e2 HY0;rw [<- e1,<- e2];have hlt1:=num_lt HX0.w32;have hlt2:=num_lt HY0.w32;rw [HX0.len] at hlt1;rw [HY0.len] at hlt2
 have HM:=Hd (show ∀ W,U32s W A p c us->U32s W B q d vs->Calls prog 252 #[.slice A p c,.slice B q d] W fun e w'=>∃ (D:Option Addr) (n' c':Nat) (ls:List Nat),e=.returned (.slice D n' c')/\U32s w' D n' c' ls/\num ls=num us*num vs/\wlen ls<=16384/\Below W.heap.size W w' from
  fun W h1 h2=>(nmul_in A B p c q d us vs W h1 h2 (by omega) (by omega)).mono fun e w' ⟨D,n',c',ls,he,hu,hv,hn,hb⟩=>
   ⟨D,n',c',ls,he,hu,hv,Nat.le_trans (wlen_lt hu.w32 (K:=p+q) (by
    rw [hv,Nat.mul_add,Nat.pow_add]
    exact Nat.lt_of_le_of_lt (Nat.mul_le_mul_left _ (Nat.le_of_lt hlt2)) ((Nat.mul_lt_mul_right (Nat.two_pow_pos _)).2 hlt1))) hl,hb⟩)
 have HF:=Hd fun W (D:Option Addr) (n' c':Nat) (ls:List Nat) (h:U32s W D n' c' ls) (hl:wlen ls<=16384)=>fit_any D n' c' ls W h hl;have HX1:=Hd hx1;have HY1:=Hd hy1;have HU1:=Hd HX0;have HU2:=Hd HY0;have HB1:=Hd hb1;have HW1:=Hd hw1
 have pc:p<=c:=by omega
 have qd:q<=d:=by omega
 have hbi:¬ ((524289:Int)<(b1:Int)+(b2:Int)):=by omega
 clear hx hy hx1 hy1 hlong hb1 hp hq e1 e2 HX0 HY0 hus hvs hw1 hlt1 hlt2 hB1 hB2
 go_enter func229,ntmps229
 go_wp2_with fail;rw [HW1.out];refine HLG.out.mono ?_;rintro e w' ⟨rfl,rfl⟩;go_wp2_with fail;refine HL1.out.mono ?_;rintro e w' ⟨rfl,rfl⟩;go_wp2_with fail;refine HL2.out.mono ?_;rintro e w' ⟨rfl,rfl⟩;have LL:=Hd (show Lies w1 w1 [] [] from⟨Below.refl _ _,by simp,by simp⟩)
 go_upto_region 3 with fail
 refine regL LL (fun hHeld=>?_);clear LL;replace HX1:=Hd (HX1.out.below (Below.refl _ _).drew);replace HY1:=Hd (HY1.out.below (Below.refl _ _).drew);replace HU1:=Hd (HU1.out.below (Below.refl _ _).drew);replace HU2:=Hd (HU2.out.below (Below.refl _ _).drew);generalize World.drew _=wk at hHeld HX1 HY1 HU1 HU2 ⊢;refine tks 0 ?_;refine tks 1 ?_;refine tks 4 ?_;refine tks 5 ?_;refine rdy 2 fun KK hKK=>?_;go_simp;refine (HQ1.out _ HX1.out).mono ?_;rintro e wk ⟨rfl,rfl⟩;go_wp2_with fail;refine hKK.out _ _ (hHeld.keep (Below.refl _ _)) (fun _=>?_);clear hKK KK hHeld;rename_i hHeld;(try simp only [Act.put,lay]);replace HX1:=Hd (HX1.out.below (Below.refl _ _));replace HY1:=Hd (HY1.out.below (Below.refl _ _));replace HU1:=Hd (HU1.out.below (Below.refl _ _));replace HU2:=Hd (HU2.out.below (Below.refl _ _));(try replace HU:=Hd (HU.out.below (Below.refl _ _)));refine tks 3 ?_;refine rdy 6 fun KK hKK=>?_;go_simp;refine (HQ2.out _ HY1.out).mono ?_;rintro e wk ⟨rfl,rfl⟩;go_wp2_with fail;refine hKK.out _ _ (hHeld.keep (Below.refl _ _)) (fun _=>?_);clear hKK KK hHeld;rename_i hHeld;(try simp only [Act.put,lay]);replace HX1:=Hd (HX1.out.below (Below.refl _ _));replace HY1:=Hd (HY1.out.below (Below.refl _ _));replace HU1:=Hd (HU1.out.below (Below.refl _ _));replace HU2:=Hd (HU2.out.below (Below.refl _ _));(try replace HU:=Hd (HU.out.below (Below.refl _ _)));refine tks 7 ?_;refine rdy 8 fun KK hKK=>?_;go_simp;refine (HM.out _ HU1.out HU2.out).mono ?_
 rintro e wk ⟨D,n2,c2,ls,rfl,hu,hnum,hwl,hb⟩;go_wp2_with fail;refine hKK.out _ _ (hHeld.keep hb) (fun _=>?_);clear hKK KK hHeld;rename_i hHeld;(try simp only [Act.put,lay]);replace HX1:=Hd (HX1.out.below hb);replace HY1:=Hd (HY1.out.below hb);replace HU1:=Hd (HU1.out.below hb);replace HU2:=Hd (HU2.out.below hb);have HU:=Hd hu;clear hu;clear hb;refine rdy 9 fun KK hKK=>?_;go_simp;refine (HF.out _ _ _ _ _ HU.out hwl).mono ?_;rintro e wk ⟨rfl,rfl⟩;go_wp2_with fail;refine hKK.out _ _ (hHeld.keep (Below.refl _ _)) (fun _=>?_);clear hKK KK hHeld;rename_i hHeld;(try simp only [Act.put,lay]);replace HX1:=Hd (HX1.out.below (Below.refl _ _));replace HY1:=Hd (HY1.out.below (Below.refl _ _));replace HU1:=Hd (HU1.out.below (Below.refl _ _));replace HU2:=Hd (HU2.out.below (Below.refl _ _));(try replace HU:=Hd (HU.out.below (Below.refl _ _)));refine tks 10 ?_;refine tks 11 ?_;refine tks 12 ?_;refine tks 13 ?_;refine wpAnyH_done (by kernel_rfl) ?_ _;have LL:=Hd hHeld;clear hHeld;go_wp2
 go_ret2
 have hd:=HU.out.cutd;rw [hnum] at hd
 exact⟨_,_,_,rfl,hd,HB1.out.trans (LL.out.b.mono HB1.out.size)⟩
theorem middle_walk(b r:Nat)(o1 o2:Ordering)(m:Bool)(w:World)(ha:∀ W,Calls prog 117 #[.float .f64 b] W fun e w'=>e=.returned (.float .f64 r)/\W=w')
  (h1:FloatKind.f64.format.order r 553942754166571008=some o1)(h2:FloatKind.f64.format.order r 8660422083433463808=some o2)(hm:((o1 == .gt) && (o2 == .lt))=m):
  Calls prog 185 #[.float .f64 b] w fun e w'=>e=.returned (.bool m)/\w=w':=by
 have HA:=Hd ha;have HM:=Hd hm;clear ha hm
 cases o1<;>cases o2
 all_goals
  go_enter func185,ntmps185
  go_wp2_with fail;refine cy (HA.out _) ?_;go_wp2
  go_ret
  refine⟨?_,rfl⟩;rw [<- HM.out]
  rfl
theorem middle_any(b:Nat)(w:World)(hb:L64 b)(hr:rungOf b<=M):Calls prog 185 #[.float .f64 b] w fun e w'=>e=.returned (.bool (mid b))/\w=w':=by
 have hM:M=9218868437227405312:=rfl;have r0:=rung_idx (b:=rungOf b) (by omega);have r1:rungOf 553942754166571008=553942754166571008/\idx 553942754166571008=((553942754166571008:Nat):Int):=rung_idx (by decide);have r2:rungOf 8660422083433463808=8660422083433463808/\idx 8660422083433463808=((8660422083433463808:Nat):Int):=rung_idx (by decide)
 have o1:FloatKind.f64.format.order (rungOf b) 553942754166571008=some (compare ((rungOf b:Nat):Int) ((553942754166571008:Nat):Int)):=by
  have h:=order_real (x:=rungOf b) (y:=553942754166571008) (show rungOf (rungOf b)<=M by rw [r0.1];exact hr) (show rungOf 553942754166571008<=M by rw [r1.1];omega);rw [r0.2,r1.2] at h;exact h
 have o2:FloatKind.f64.format.order (rungOf b) 8660422083433463808=some (compare ((rungOf b:Nat):Int) ((8660422083433463808:Nat):Int)):=by
  have h:=order_real (x:=rungOf b) (y:=8660422083433463808) (show rungOf (rungOf b)<=M by rw [r0.1];exact hr) (show rungOf 8660422083433463808<=M by rw [r2.1];omega);rw [r0.2,r2.2] at h;exact h
 refine middle_walk b _ _ _ _ w (fun W=>abs_any b W hb) o1 o2 ?_;unfold mid
 obtain⟨R,hR⟩:∃ R,rungOf b=R:=⟨_,rfl⟩
 rw [hR]
 obtain⟨c1,hc1⟩:∃ c,compare ((R:Nat):Int) ((553942754166571008:Nat):Int)=c:=⟨_,rfl⟩
 obtain⟨c2,hc2⟩:∃ c,compare ((R:Nat):Int) ((8660422083433463808:Nat):Int)=c:=⟨_,rfl⟩
 rw [hc1,hc2]
 have e1:(c1 == .gt)=decide (553942754166571008<R):=by
  by_cases h:553942754166571008<R
  ·rw [decide_eq_true h,<- hc1,Int.compare_eq_gt.2 (by omega)];rfl
  ·rw [decide_eq_false h,<- hc1]
   rcases Int.lt_or_eq_of_le (show ((R:Nat):Int)<=((553942754166571008:Nat):Int) by omega) with k | k
   ·rw [Int.compare_eq_lt.2 k];rfl
   ·rw [Int.compare_eq_eq.2 k];rfl
 have e2:(c2 == .lt)=decide (R<8660422083433463808):=by
  by_cases h:R<8660422083433463808
  ·rw [decide_eq_true h,<- hc2,Int.compare_eq_lt.2 (by omega)];rfl
  ·rw [decide_eq_false h,<- hc2]
   rcases Int.lt_or_eq_of_le (show ((8660422083433463808:Nat):Int)<=((R:Nat):Int) by omega) with k | k
   ·rw [Int.compare_eq_gt.2 k];rfl
   ·rw [Int.compare_eq_eq.2 k.symm];rfl
 rw [e1,e2]
theorem halves_walk(x t u h l:Nat)(w:World)(q1:FloatKind.f64.format.mul 4728779608772575232 x=some t)(q2:FloatKind.f64.format.sub t x=some u)(q3:FloatKind.f64.format.sub t u=some h)(q4:FloatKind.f64.format.sub x h=some l):
  Calls prog 228 #[.float .f64 x] w fun e w'=>e=.returned (.tuple (Zv h l))/\w=w':=by
 have A1:=fun W=>run_float_arith (P:=prog) W .mul 26 .f64 4728779608772575232 x t q1;have A2:=fun W=>run_float_arith (P:=prog) W .sub 26 .f64 t x u q2;have A3:=fun W=>run_float_arith (P:=prog) W .sub 26 .f64 t u h q3;have A4:=fun W=>run_float_arith (P:=prog) W .sub 26 .f64 x h l q4;clear q1 q2 q3 q4
 go_enter func228,ntmps228
 go_wp2
 go_ret2
 exact⟨rfl,rfl⟩
theorem missed_walk(x y p xh xl yh yl z1 e0 z2 e1 z3 e2 z4 e:Nat)(w:World)(hx:∀ W,Calls prog 228 #[.float .f64 x] W fun e w'=>e=.returned (.tuple (Zv xh xl))/\W=w')
  (hy:∀ W,Calls prog 228 #[.float .f64 y] W fun e w'=>e=.returned (.tuple (Zv yh yl))/\W=w')
  (q1:FloatKind.f64.format.mul xh yh=some z1)(q2:FloatKind.f64.format.sub z1 p=some e0)(q3:FloatKind.f64.format.mul xh yl=some z2)(q4:FloatKind.f64.format.add e0 z2=some e1)
  (q5:FloatKind.f64.format.mul xl yh=some z3)(q6:FloatKind.f64.format.add e1 z3=some e2)(q7:FloatKind.f64.format.mul xl yl=some z4)(q8:FloatKind.f64.format.add e2 z4=some e):
  Calls prog 187 #[.float .f64 x,.float .f64 y,.float .f64 p] w fun e' w'=>e'=.returned (.float .f64 e)/\w=w':=by
 have A1:=fun W=>run_float_arith (P:=prog) W .mul 26 .f64 _ _ _ q1;have A2:=fun W=>run_float_arith (P:=prog) W .sub 26 .f64 _ _ _ q2;have A3:=fun W=>run_float_arith (P:=prog) W .mul 26 .f64 _ _ _ q3;have A4:=fun W=>run_float_arith (P:=prog) W .add 26 .f64 _ _ _ q4;have A5:=fun W=>run_float_arith (P:=prog) W .mul 26 .f64 _ _ _ q5;have A6:=fun W=>run_float_arith (P:=prog) W .add 26 .f64 _ _ _ q6;have A7:=fun W=>run_float_arith (P:=prog) W .mul 26 .f64 _ _ _ q7;have A8:=fun W=>run_float_arith (P:=prog) W .add 26 .f64 _ _ _ q8;have HX:=Hd hx;have HY:=Hd hy;clear q1 q2 q3 q4 q5 q6 q7 q8 hx hy
 go_enter func187,ntmps187
 go_wp2_with fail;refine cy (HX.out _) ?_;go_wp2_with fail;refine cy (HY.out _) ?_;go_wp2
 go_ret
 exact⟨rfl,rfl⟩
theorem rmul_quick(d:Int)(x y p:Nat)(w:World)(hd:d=-1\/d=1)(hx:L64 x)(hy:L64 y)(rx:rungOf x<M)(ry:rungOf y<M)(hp:FloatKind.f64.format.mul x y=some p)(mx:mid x=true)(my:mid y=true)(mp:mid p=true):
  Rt 119 #[.int .i64 d,.float .f64 x,.float .f64 y] (.float .f64 (pat (rndI d (fl (idx x)*fl (idx y))))) w:=by
 have hM:M=9218868437227405312:=rfl;obtain⟨xt,xu,xh,xl,yt,yu,yh,yl,z1,e0,z2,e1,z3,e2,z4,e,q1,q2,q3,q4,q5,q6,q7,q8,q9,q10,q11,q12,q13,q14,q15,q16,p1,p2,p3,hn⟩:=quick_prod hd hx hy mx my hp mp;have HMI:=Hd fun W=>missed_walk x y p xh xl yh yl z1 e0 z2 e1 z3 e2 z4 e W (fun W=>halves_walk x xt xu xh xl W q1 q2 q3 q4) (fun W=>halves_walk y yt yu yh yl W q5 q6 q7 q8) q9 q10 q11 q12 q13 q14 q15 q16;have HN0:=fun W=>nudge_any d p e W hd p1 p2 p3;rw [hn] at HN0;have HN:=Hd HN0;have A1:=fun W=>run_float_arith (P:=prog) W .mul 26 .f64 x y p hp;have HX0:=fun W=>middle_any x W hx (by omega);have HY0:=fun W=>middle_any y W hy (by omega);have HP0:=fun W=>middle_any p W p1 (by omega);rw [mx] at HX0;rw [my] at HY0;rw [mp] at HP0;have HX:=Hd HX0;have HY:=Hd HY0;have HP:=Hd HP0
 have ho:(decide (rungOf x=M) || decide (rungOf y=M))=false:=by
  rw [decide_eq_false (by omega),decide_eq_false (by omega)];rfl
 have HO0:=fun (W:World) (hb:Below w.heap.size w W)=>odd_two W.heap.size x y (W.alloc (.cells (Zv x y) 26)) hx hy (by omega) (by omega) (by simp [World.cell?_alloc_new]) (by simp [World.cell?_alloc_new]);rw [ho] at HO0;have HO:=Hd HO0;have LB:=Hd (below_alloc w (.cells (Zv x y) 26))
 obtain⟨r,hr⟩:∃ r,pat (rndI d (fl (idx x)*fl (idx y)))=r:=⟨_,rfl⟩
 rw [hr] at HN ⊢;clear HO0 ho hn HN0 q1 q2 q3 q4 q5 q6 q7 q8 q9 q10 q11 q12 q13 q14 q15 q16 hr rx ry hx hy hd hM p1 p2 p3 mx my mp hp HX0 HY0 HP0
 go_enter func119,ntmps119
 go_wp2_with fail
 go_step3
 go_wp2_with fail;refine cy (HO.out _ (Below.refl _ _)) ?_;go_wp2_with fail;refine cy (HX.out _) ?_;go_wp2_with fail;refine cy (HY.out _) ?_;go_wp2_with fail;refine cy (HP.out _) ?_;go_wp2_with fail;refine cy (HMI.out _) ?_;go_wp2_with fail;refine cy (HN.out _) ?_;go_wp2
 try rw [Exit.noGoto_ret]
 go_ret
 exact⟨rfl,LB.out⟩
theorem rmul_inf(d:Int)(x y r q:Nat)(w:World)(hx:L64 x)(hy:L64 y)(rx:rungOf x<=M)(ry:rungOf y<=M)(ho:(decide (rungOf x=M) || decide (rungOf y=M))=true)(hr:floatBits .mul .f64 x y=some r)
  (hpl:∀ W,Calls prog 184 #[.float .f64 r] W fun e w'=>e=.returned (.float .f64 q)/\W=w'):
  Rt 119 #[.int .i64 d,.float .f64 x,.float .f64 y] (.float .f64 q) w:=by
 have HA:=fun W=>run_float_arith (P:=prog) W .mul 26 .f64 _ _ _ hr;have HPL:=Hd hpl;have HO0:=fun (W:World) (hb:Below w.heap.size w W)=>odd_two W.heap.size x y (W.alloc (.cells (Zv x y) 26)) hx hy rx ry (by simp [World.cell?_alloc_new]) (by simp [World.cell?_alloc_new]);rw [ho] at HO0;have HO:=Hd HO0;have LB:=Hd (below_alloc w (.cells (Zv x y) 26));clear HO0 ho hr rx ry hx hy hpl
 go_enter func119,ntmps119
 go_wp2_with fail
 go_step3
 go_wp2_with fail;refine cy (HO.out _ (Below.refl _ _)) ?_;go_wp2_with fail;refine cy (HPL.out _) ?_;go_wp2
 try rw [Exit.noGoto_ret]
 go_ret
 exact⟨rfl,LB.out⟩
theorem HasBlk.u32{W:World}{A:Option Addr}{k c:Nat}{xs:List Nat}{r:Nat}{t:TypeId}{n:Nat}(h:HasBlk W r t n)(hr:U32s W A k c xs)(vs:List Value):U32s (Proofs.YthlmlmfebpjgdaaGreatDoor.sets W r 0 vs) A k c xs:=by
 obtain⟨cs,h1,-,h2⟩:=h
 exact hr.sets h1 h2 0 vs
theorem digs_two2{S:Nat}(h:L64 S):wlen (digs S)<=2:=wlen_lt (W32.digs S) (K:=2) (by rw [num_digs];exact h)
theorem rprod_any(n1:Bool)(A1:Option Addr)(m1 c1 S1:Nat)(e1:Int)(n2:Bool)(A2:Option Addr)(m2 c2 S2:Nat)(e2:Int)(w:World)(hu1:U32s w A1 m1 c1 (digs S1))(hu2:U32s w A2 m2 c2 (digs S2))(h1:S1<9007199254740992)(h2:S2<9007199254740992)(b1:-1074<=e1/\e1<=971)(b2:-1074<=e2/\e2<=971):
  Calls prog 188 #[.agg #[.bool n1,.slice A1 m1 c1,.int .i64 e1],.agg #[.bool n2,.slice A2 m2 c2,.int .i64 e2]] w (NewDy w (n1 != n2) (S1*S2) (e1+e2)):=by
 have k1:=digs_two2 (S:=S1) (by omega);have k2:=digs_two2 (S:=S2) (by omega);have k3:blen S1<=53:=blen_le_iff.2 (show S1<2^53 from h1);have k4:blen S2<=53:=blen_le_iff.2 (show S2<2^53 from h2)
 have HM:=Hd fun W (a:U32s W A1 m1 c1 (digs S1)) (b:U32s W A2 m2 c2 (digs S2))=>by
  have h:=nmul_any A1 A2 m1 c1 m2 c2 (digs S1) (digs S2) W a b (by omega) (by rw [num_digs,num_digs];omega);rw [num_digs,num_digs] at h
  exact h
 obtain⟨P,hP⟩:∃ P,S1*S2=P:=⟨_,rfl⟩
 obtain⟨n3,hn3⟩:∃ z,(n1 != n2)=z:=⟨_,rfl⟩
 rw [hP] at HM ⊢;rw [hn3];have hne:(!n1 == n2)=n3:=hn3;clear hn3 hP k1 k2 k3 k4 h1 h2;have LL:=li3 w #[.bool n1,.slice A1 m1 c1,.int .i64 e1] 168 #[.bool n2,.slice A2 m2 c2,.int .i64 e2] 168 #[.bool false,.slice none 0 0,.int .i64 0] 168;have HU1:=Hd (hu1.below LL.out.b);have HU2:=Hd (hu2.below LL.out.b);clear hu1 hu2
 go_enter func188,ntmps188
 obtain⟨q1_0,q1_1,q1_2⟩:=(LL.out.blk 0 rfl).c3;obtain⟨q2_0,q2_1,q2_2⟩:=(LL.out.blk 1 rfl).c3;go_wp2_with fail;refine (HM.out _ HU1.out HU2.out).mono ?_;rintro e wk ⟨A3,m3,c3,rfl,hu3,hb⟩;replace LL:=stL LL hb;replace HU1:=Hd (HU1.out.below hb);replace HU2:=Hd (HU2.out.below hb);clear hb q1_0 q1_1 q1_2 q2_0 q2_1 q2_2;have HU3:=Hd hu3;clear hu3;obtain⟨q3_0,q3_1,q3_2⟩:=(LL.out.blk 0 rfl).c3;obtain⟨q4_0,q4_1,q4_2⟩:=(LL.out.blk 1 rfl).c3;replace LL:=Hd (LL.out.loose2 rfl);obtain⟨ha4_0,hf4_0,ha4_1,hf4_1,ha4_2,hf4_2⟩:=(LL.out.has 0 rfl).sf3;have LF:=Hd (LL.out.wr [.bool n3,.slice A3 m3 c3,.int .i64 (e1+e2)]);obtain⟨hk4_0,hk4_1,hk4_2⟩:=(LF.out.blk 2 rfl).c3
 simp [sets] at hk4_0 hk4_1 hk4_2
 have LL3:=LL;clear LL;go_wp2;refine bodyPost_ret (v:=.agg #[.bool n3,.slice A3 m3 c3,.int .i64 (e1+e2)]) (by simp [results,results188,go_sem,hk4_0,hk4_1,hk4_2]) rfl ?_
 exact⟨A3,m3,c3,rfl,(LL3.out.has 0 rfl).u32 HU3.out [.bool n3,.slice A3 m3 c3,.int .i64 (e1+e2)],LF.out.b⟩
theorem rmul_exact(d:Int)(x y p:Nat)(w:World)(hd:d=-1\/d=1)(hx:L64 x)(hy:L64 y)(rx:rungOf x<M)(ry:rungOf y<M)(hp:FloatKind.f64.format.mul x y=some p)(hp1:L64 p)(hp2:rungOf p<=M)(hm:¬ (mid x=true/\mid y=true/\mid p=true)):
  Rt 119 #[.int .i64 d,.float .f64 x,.float .f64 y] (.float .f64 (pat (rndI d (fl (idx x)*fl (idx y))))) w:=by
 have hM:M=9218868437227405312:=rfl;have A1:=fun W=>run_float_arith (P:=prog) W .mul 26 .f64 x y p hp;obtain⟨S1,e1,b1,l1,u1,v1,HP1⟩:=part_any x hx rx;obtain⟨S2,e2,b2,l2,u2,v2,HP2⟩:=part_any y hy ry;have k1:blen S1<=53:=blen_le_iff.2 (show S1<2^53 from b1);have k2:blen S2<=53:=blen_le_iff.2 (show S2<2^53 from b2)
 have kb:blen (S1*S2)<=106:=blen_le_iff.2 (by
  refine Nat.lt_of_le_of_lt (Nat.mul_le_mul_left S1 (Nat.le_of_lt b2)) ?_;rw [show (2:Nat)^106=2^53*2^53 from by rw [<- Nat.pow_add]]
  exact (Nat.mul_lt_mul_right (by omega)).2 b1)
 have hV:rv (sgn x != sgn y) (S1*S2) 1*2^(e1+e2)=fl (idx x)*fl (idx y):=by
  have hm:=rv_mul (sgn x) (sgn y) S1 1 S2 1;rw [Nat.mul_one] at hm;rw [v1,v2,zpow_add,<- hm]
  grind
 have HS0:=fun (A1:Option Addr) (m1 c1:Nat) (A2:Option Addr) (m2 c2:Nat) (W:World) (h1:U32s W A1 m1 c1 (digs S1)) (h2:U32s W A2 m2 c2 (digs S2))=>rprod_any (sgn x) A1 m1 c1 S1 e1 (sgn y) A2 m2 c2 S2 e2 W h1 h2 b1 b2 (by omega) (by omega);have HT0:=fun (A:Option Addr) (m c:Nat) (W:World) (h:U32s W A m c (digs (S1*S2)))=>to_any d (sgn x != sgn y) A m c (S1*S2) (e1+e2) W h hd (by omega) (by omega) (by omega);rw [hV] at HT0;have HS:=Hd HS0;have HT:=Hd HT0;have HX1:=Hd HP1;have HX2:=Hd HP2
 obtain⟨n1,hn1⟩:∃ z,sgn x=z:=⟨_,rfl⟩
 obtain⟨n2,hn2⟩:∃ z,sgn y=z:=⟨_,rfl⟩
 rw [hn1] at HX1 HS HT;rw [hn2] at HX2 HS HT
 obtain⟨n3,hn3⟩:∃ z,(n1 != n2)=z:=⟨_,rfl⟩
 obtain⟨S,hS⟩:∃ z,S1*S2=z:=⟨_,rfl⟩
 obtain⟨E,hE⟩:∃ z,e1+e2=z:=⟨_,rfl⟩
 rw [hn3,hS,hE] at HS HT;clear HP1 HP2 HS0 HT0 hS hE hV kb k1 k2 b1 b2 l1 l2 u1 u2 v1 v2 hn1 hn2 hn3 hp
 have ho:(decide (rungOf x=M) || decide (rungOf y=M))=false:=by
  rw [decide_eq_false (by omega),decide_eq_false (by omega)];rfl
 have HO0:=fun (W:World) (hb:Below w.heap.size w W)=>odd_two W.heap.size x y (W.alloc (.cells (Zv x y) 26)) hx hy (by omega) (by omega) (by simp [World.cell?_alloc_new]) (by simp [World.cell?_alloc_new]);rw [ho] at HO0;have HO:=Hd HO0;have HX0:=fun W=>middle_any x W hx (by omega);have HY0:=fun W=>middle_any y W hy (by omega);have HQ0:=fun W=>middle_any p W hp1 hp2
 obtain⟨mx,ex⟩:∃ z,mid x=z:=⟨_,rfl⟩
 obtain⟨my,ey⟩:∃ z,mid y=z:=⟨_,rfl⟩
 obtain⟨mp,ep⟩:∃ z,mid p=z:=⟨_,rfl⟩
 rw [ex] at HX0 hm;rw [ey] at HY0 hm;rw [ep] at HQ0 hm;have HX:=Hd HX0;have HY:=Hd HY0;have HQ:=Hd HQ0;have LB:=Hd (below_alloc w (.cells (Zv x y) 26))
 have hc:mx=false\/(mx=true/\my=false)\/(mx=true/\my=true/\mp=false):=by
  cases mx
  ·exact .inl rfl
  ·cases my
   ·exact .inr (.inl ⟨rfl,rfl⟩)
   ·cases mp
    ·exact .inr (.inr ⟨rfl,rfl,rfl⟩)
    ·exact absurd ⟨rfl,rfl,rfl⟩ hm
 obtain⟨r,hr⟩:∃ r,pat (rndI d (fl (idx x)*fl (idx y)))=r:=⟨_,rfl⟩
 rw [hr] at HT ⊢;clear HO0 ho hr rx ry hx hy hd hM hm ex ey ep HX0 HY0 HQ0 hp1 hp2
 rcases hc with rfl | ⟨rfl,rfl⟩ | ⟨rfl,rfl,rfl⟩
 all_goals
  go_enter func119,ntmps119
  go_wp2_with fail
  apply scope_once 0 _ _ rfl
  focus
   go_wp2_with fail;refine cy (HO.out _ (Below.refl _ _)) ?_;go_wp2_with fail;refine cy (HX.out _) ?_;go_wp2_with fail
   try (refine cy (HY.out _) ?_;go_wp2_with fail)
   try (refine cy (HQ.out _) ?_;go_wp2_with fail)
   try go_step3
   exact⟨rfl,rfl,rfl⟩
  clear HO HX HY HQ;generalize w.alloc (.cells (Zv x y) 26)=wa at LB ⊢;go_wp2_with fail;refine (HX1.out _).mono ?_;rintro e w1 ⟨A1,m1,c1,rfl,hu1,hb1⟩;have LB1:=Hd (LB.out.trans (hb1.mono LB.out.size));have U1:=Hd hu1;clear hu1 hb1 LB;go_wp2_with fail;refine (HX2.out _).mono ?_;rintro e w2 ⟨A2,m2,c2,rfl,hu2,hb2⟩;have LB2:=stB LB1 hb2 LB1.out.size;have V1:=Hd (U1.out.below hb2);have V2:=Hd hu2;clear hu2 hb2 LB1 U1;go_wp2_with fail;refine (HS.out _ _ _ _ _ _ _ V1.out V2.out).mono ?_;rintro e w3 ⟨A3,m3,c3,rfl,hu3,hb3⟩;have LB3:=stB LB2 hb3 LB2.out.size;have V3:=Hd hu3;clear hu3 hb3 LB2 V1 V2;go_wp2_with fail;refine cx (HT.out _ _ _ _ V3.out) fun w4 hb4=>?_;have LB4:=stB LB3 hb4 LB3.out.size;clear hb4 LB3 V3;go_wp2
  simp only [Exit.jump]
  go_ret
  exact⟨rfl,LB4.out⟩
theorem sgn_pat{i:Int}(h:-(M:Int)<=i/\i<=M)(h0:i≠0):sgn (pat i)=decide (i<0):=by
 have c:=pat_cases (pat_lt h.1 h.2);rw [idx_pat h.1 h.2] at c
 rcases c with ⟨c1,c2,c3,c4⟩ | ⟨c1,c2,c3,c4⟩
 ·rw [c3,decide_eq_false (by omega)]
 ·rw [c3,decide_eq_true (by omega)]
def mu(d i j:Int):Int:=if i=M\/i=-(M:Int)\/j=M\/j=-(M:Int) then (if (decide (i<0) ^^ decide (j<0))=true then -(M:Int) else M) else rndI d (fl i*fl j)
theorem rmul_pat(d i j:Int)(w:World)(hd:d=-1\/d=1)(hi:-(M:Int)<=i/\i<=M)(hj:-(M:Int)<=j/\j<=M)(ni:i≠0)(nj:j≠0):
  Rt 119 #[.int .i64 d,.float .f64 (pat i),.float .f64 (pat j)] (.float .f64 (pat (mu d i j))) w:=by
 have hM:M=9218868437227405312:=rfl;have px:=pat_lt hi.1 hi.2;have py:=pat_lt hj.1 hj.2;have rx:=rung_pat hi.1 hi.2;have ry:=rung_pat hj.1 hj.2;unfold mu
 by_cases h:i=M\/i=-(M:Int)\/j=M\/j=-(M:Int)
 ·rw [if_pos h];have hm:=mul_inf (x:=pat i) (y:=pat j) (by omega) (by omega) (by omega) (by omega) (by omega);rw [sgn_pat hi ni,sgn_pat hj nj] at hm
  obtain⟨k,hk⟩:∃ k:Int,(if (decide (i<0) ^^ decide (j<0))=true then -(M:Int) else M)=k:=⟨_,rfl⟩
  have hk2:-(M:Int)<=k/\k<=M:=by rw [<- hk];split<;>omega
  rw [hk] at hm ⊢;have hp:=fun W=>rplain (pat k) W (pat_lt hk2.1 hk2.2) (by rw [rung_pat hk2.1 hk2.2];omega);rw [idx_pat hk2.1 hk2.2] at hp;refine rmul_inf d (pat i) (pat j) (pat k) (pat k) w px py (by omega) (by omega) ?_ hm hp
  by_cases h2:rungOf (pat i)=M
  ·rw [decide_eq_true h2];rfl
  ·rw [decide_eq_true (show rungOf (pat j)=M by omega),Bool.or_true]
 ·rw [if_neg h];obtain⟨p,hp,his⟩:=mul_fin (show fin (pat i) by unfold fin;omega) (show fin (pat j) by unfold fin;omega);have hr:=near_range (val (idx (pat i))*val (idx (pat j))) 1074;have hn:=idx_natAbs p;rw [his.idx] at hn
  have hp2:rungOf p<=M:=by omega
  have e:rndI d (fl i*fl j)=rndI d (fl (idx (pat i))*fl (idx (pat j))):=by rw [idx_pat hi.1 hi.2,idx_pat hj.1 hj.2]
  rw [e]
  by_cases hm:mid (pat i)=true/\mid (pat j)=true/\mid p=true
  ·exact rmul_quick d (pat i) (pat j) p w hd px py (by omega) (by omega) hp hm.1 hm.2.1 hm.2.2
  ·exact rmul_exact d (pat i) (pat j) p w hd px py (by omega) (by omega) hp his.lt hp2 hm
section
attribute [local go_sem] run_store_float run_eqf
end
section
attribute [local go_sem] run_store_float
theorem ExI.setB{w:World}{s:Int}{g:Bool}{A:Option Addr}{n c:Nat}{E:Int}{x:Rat}(h:ExI w s g A n c E x){r:Nat}{t:TypeId}{cs:Array Value}(hb:Blk w r t cs)(hc:NoWd cs)(i:Nat)(vs:List Value):ExI (Proofs.YthlmlmfebpjgdaaGreatDoor.sets w r i vs) s g A n c E x:=
 h.keep fun _ hu=>hu.sets hb hc i vs
theorem ExI.setsE{w W':World}{s:Int}{g:Bool}{A:Option Addr}{n c:Nat}{E:Int}{x:Rat}(h:ExI w s g A n c E x){r:Nat}{t:TypeId}{cs:Array Value}{i:Nat}{vs:List Value}(hb:Blk w r t cs)(hc:NoWd cs)(e:Proofs.YthlmlmfebpjgdaaGreatDoor.sets w r i vs=W'):ExI W' s g A n c E x:=e ▸ h.setB hb hc i vs
end
section
attribute [local go_sem] run_store_float
theorem product_walk(x y p1 p2:Nat)(w:World)(h1:∀ W,Rt 119 #[.int .i64 (-1),.float .f64 x,.float .f64 y] (.float .f64 p1) W)(h2:∀ W,Rt 119 #[.int .i64 1,.float .f64 x,.float .f64 y] (.float .f64 p2) W):
  Calls prog 78 (Zv x y) w fun e w'=>e=.returned (Zf p1 p2)/\Below w.heap.size w w':=by
 have H1:=Hd h1;have H2:=Hd h2;clear h1 h2;have LL:=li1 w (Zv 0 0) 78
 go_enter func78,ntmps78
 go_wp2_with fail;refine cx (H1.out _) fun wk hb=>?_;replace LL:=stL LL hb;clear hb;go_wp2_with fail;refine cx (H2.out _) fun wk hb=>?_;replace LL:=stL LL hb;clear hb;replace LL:=Hd (LL.out.loose0 rfl);obtain⟨ha4_0,hf4_0,ha4_1,hf4_1⟩:=(LL.out.has 0 rfl).sf2;have LF:=Hd (LL.out.wr [.float .f64 p1,.float .f64 p2]);obtain⟨hk4_0,hk4_1⟩:=(LF.out.blk 0 rfl).c2
 simp [sets] at hk4_0 hk4_1
 clear LL;go_wp2;refine bodyPost_ret (v:=Zf p1 p2) (by simp [results,results78,go_sem,hk4_0,hk4_1]) rfl ?_
 exact⟨rfl,LF.out.b⟩
end
theorem mul_mono_r{a b c:Rat}(h:a<=b)(hc:0<=c):a*c<=b*c:=by
 by_cases h0:c=0
 ·subst h0;grind
 ·exact (mul_le_pos (by grind)).2 h
section
open Go.RowKit
end
end Go.Proofs.YthlmlmfebpjgdaaGreatDoor
