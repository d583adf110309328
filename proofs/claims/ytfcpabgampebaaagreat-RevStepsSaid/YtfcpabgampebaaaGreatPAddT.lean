/-
Walks: package round: odd of two; Add, Sub.
Walks: package rev, the functions that a step is handed.
-/
import Derived.Test.YtfcpabgampebaaaGreatM03
import Derived.Test.YtfcpabgampebaaaGreatPMathT
import Derived.Test.YtfcpabgampebaaaGreatPPartT
import Derived.Test.YtfcpabgampebaaaGreatPGoA
import Derived.ScopeJumps
import Derived.Test.YtfcpabgampebaaaGreatM11
import Derived.Test.YtfcpabgampebaaaGreatPMinusT
import Derived.Deep.DeepCutAuto
set_option linter.unusedSimpArgs false
set_option linter.unusedVariables false
set_option maxHeartbeats 12800000
namespace Go.Proofs.YtfcpabgampebaaaGreat
open Go.RowKit
attribute [local go_sem] run_store_float run_frombits run_bitsof run_negf
theorem odd_two(g x y:Nat)(w:World)(hx:x<18446744073709551616)(hy:y<18446744073709551616)(rx:rungOf x≤M)(ry:rungOf y≤M)(c0:w.cell? ⟨g,0,none⟩=some (.float .f64 x))(c1:w.cell? ⟨g,1,none⟩=some (.float .f64 y)):
  Calls Tryz.prog 94 #[.slice (some ⟨g,0,none⟩) 2 2] w fun e w'=>e=.returned (.bool (decide (rungOf x=M) || decide (rungOf y=M)))∧w=w':=by
 have N0:=Hd (isnanf x w rx);have N1:=Hd (isnanf y w ry);have I0:=Hd (isinff x w hx rx);have I1:=Hd (isinff y w hy ry)
 obtain⟨b0,e0⟩:∃ p,decide (rungOf x=M)=p:=⟨_,rfl⟩
 obtain⟨b1,e1⟩:∃ p,decide (rungOf y=M)=p:=⟨_,rfl⟩
 rw [e0] at I0 ⊢;rw [e1] at I1 ⊢;clear e0 e1 rx ry hx hy
 go_enter Tryz.func94,Tryz.ntmps94
 go_wp2
 go_loop [4,7] (fun _ v=>∃ k:Nat,k≤2∧v=.int .i64 k∧(0<k→b0=false)∧(1<k→b1=false)) (fun _ v=>2 - (intOf v).toNat)
 case atStart=>exact⟨0,by omega,rfl,by omega,by omega⟩
 case round=>
  obtain⟨k,hk,rfl,hk0,hk1⟩:=hrel
  match k,hk with
  | 0,_=>
   clear hk0 hk1
   cases b0
   ·go_wp2_with fail;refine N0.out.mono ?_;rintro e w' ⟨rfl,rfl⟩;go_wp2_with fail;refine I0.out.mono ?_;rintro e w' ⟨rfl,rfl⟩;go_wp2
    go_round
    case rel=>exact⟨1,by omega,rfl,by simp,by omega⟩
    case measure=>simp [intOf]
   ·go_wp2_with fail;refine N0.out.mono ?_;rintro e w' ⟨rfl,rfl⟩;go_wp2_with fail;refine I0.out.mono ?_;rintro e w' ⟨rfl,rfl⟩;go_wp2
    go_ret
    exact⟨rfl,rfl⟩
  | 1,_=>
   have h0:=hk0 (by omega);subst h0;clear hk0 hk1
   cases b1
   ·go_wp2_with fail;refine N1.out.mono ?_;rintro e w' ⟨rfl,rfl⟩;go_wp2_with fail;refine I1.out.mono ?_;rintro e w' ⟨rfl,rfl⟩;go_wp2
    go_round
    case rel=>exact⟨2,by omega,rfl,by simp,by simp⟩
    case measure=>simp [intOf]
   ·go_wp2_with fail;refine N1.out.mono ?_;rintro e w' ⟨rfl,rfl⟩;go_wp2_with fail;refine I1.out.mono ?_;rintro e w' ⟨rfl,rfl⟩;go_wp2
    go_ret
    exact⟨rfl,rfl⟩
  | 2,_=>
   have h0:=hk0 (by omega);have h1:=hk1 (by omega);subst h0 h1;clear hk0 hk1;go_wp2
   go_ret
   exact⟨rfl,rfl⟩
theorem radd_inf(d:Int)(x y r:Nat)(w:World)(hx:x<18446744073709551616)(hy:y<18446744073709551616)(rx:rungOf x≤M)(ry:rungOf y≤M)(ho:(decide (rungOf x=M) || decide (rungOf y=M))=true)(hr:floatBits .add .f64 x y=some r):
  Calls Tryz.prog 64 #[.int .i64 d,.float .f64 x,.float .f64 y] w fun e w'=>e=.returned (.float .f64 r)∧Below w.heap.size w w':=by
 have HA:=fun W=>run_float_arith (P:=Tryz.prog) W .add 25 .f64 _ _ _ hr;have HO0:=fun (W:World) (hb:Below w.heap.size w W)=>odd_two W.heap.size x y (W.alloc (.cells #[.float .f64 x,.float .f64 y] 25)) hx hy rx ry (by simp [World.cell?_alloc_new]) (by simp [World.cell?_alloc_new]);rw [ho] at HO0;have HO:=Hd HO0;have LB:=Hd (below_alloc w (.cells #[.float .f64 x,.float .f64 y] 25));clear HO0 ho hr rx ry hx hy
 go_enter Tryz.func64,Tryz.ntmps64
 go_wp2_with fail
 go_step3
 go_wp2_with fail;refine (HO.out _ (Below.refl _ _)).mono ?_;rintro e w' ⟨rfl,rfl⟩;go_wp2
 try rw [Exit.noGoto_ret]
 go_ret
 exact⟨rfl,LB.out⟩
theorem radd_quick(d:Int)(x y t T:Nat)(w:World)(hd:d=-1∨d=1)(hx:x<18446744073709551616)(hy:y<18446744073709551616)(rx:rungOf x<M)(ry:rungOf y<M)(gx:rungOf x≤8660422083433463808)(gy:rungOf y≤8660422083433463808)
  (ht:8660422083433463808=(t+1)*2^52)(hT:T=52+t)(hT2:T≤1990):
  Calls Tryz.prog 64 #[.int .i64 d,.float .f64 x,.float .f64 y] w fun e w'=>e=.returned (.float .f64 (pat (rndI d (fl (idx x)+fl (idx y)))))∧Below w.heap.size w w':=by
 have hM:M=9218868437227405312:=rfl;obtain⟨s,u,a,b,c,e,q1,q2,q3,q4,q5,q6,fs,fe⟩:=quick_sum hT2 (Fl_self hx rx) (Fl_self hy ry) (not_great (by omega) hT) (not_great (by omega) hT);have hn:=nud_sum hd fs fe rfl;have HN0:=fun W=>nudge_any d s e W hd fs.lt fs.fin (Nat.le_of_lt fe.fin);rw [hn] at HN0;have HN:=Hd HN0;have A1:=fun W=>run_float_arith (P:=Tryz.prog) W .add 25 .f64 x y s q1;have A2:=fun W=>run_float_arith (P:=Tryz.prog) W .sub 25 .f64 s x u q2;have A3:=fun W=>run_float_arith (P:=Tryz.prog) W .sub 25 .f64 s u a q3;have A4:=fun W=>run_float_arith (P:=Tryz.prog) W .sub 25 .f64 x a b q4;have A5:=fun W=>run_float_arith (P:=Tryz.prog) W .sub 25 .f64 y u c q5;have A6:=fun W=>run_float_arith (P:=Tryz.prog) W .add 25 .f64 b c e q6
 have ho:(decide (rungOf x=M) || decide (rungOf y=M))=false:=by
  rw [decide_eq_false (by omega),decide_eq_false (by omega)];rfl
 have HO0:=fun (W:World) (hb:Below w.heap.size w W)=>odd_two W.heap.size x y (W.alloc (.cells #[.float .f64 x,.float .f64 y] 25)) hx hy (by omega) (by omega) (by simp [World.cell?_alloc_new]) (by simp [World.cell?_alloc_new]);rw [ho] at HO0;have HO:=Hd HO0;have HX:=Hd fun W=>abs_any x W hx;have HY:=Hd fun W=>abs_any y W hy;have LB:=Hd (below_alloc w (.cells #[.float .f64 x,.float .f64 y] 25));have ox:=great_ord (r:=rungOf x) (by omega);have oy:=great_ord (r:=rungOf y) (by omega)
 have ox2:FloatKind.f64.format.order (rungOf x) 8660422083433463808=some .lt∨FloatKind.f64.format.order (rungOf x) 8660422083433463808=some .eq:=by
  rcases ox with h | h
  ·exact h.2
  ·omega
 have oy2:FloatKind.f64.format.order (rungOf y) 8660422083433463808=some .lt∨FloatKind.f64.format.order (rungOf y) 8660422083433463808=some .eq:=by
  rcases oy with h | h
  ·exact h.2
  ·omega
 obtain⟨r,hr⟩:∃ r,pat (rndI d (fl (idx x)+fl (idx y)))=r:=⟨_,rfl⟩
 rw [hr] at HN ⊢
 obtain⟨X,hX⟩:∃ r,rungOf x=r:=⟨_,rfl⟩
 obtain⟨Y,hY⟩:∃ r,rungOf y=r:=⟨_,rfl⟩
 rw [hX] at HX ox2;rw [hY] at HY oy2;clear HO0 ho ox oy hn HN0 fs fe q1 q2 q3 q4 q5 q6 hr hX hY gx gy ht hT hT2 rx ry hx hy hd hM
 rcases ox2 with o1 | o1<;>rcases oy2 with o2 | o2
 all_goals
  go_enter Tryz.func64,Tryz.ntmps64
  go_wp2_with fail
  go_step3
  go_wp2_with fail;refine (HO.out _ (Below.refl _ _)).mono ?_;rintro e w' ⟨rfl,rfl⟩;go_wp2_with fail;refine (HX.out _).mono ?_;rintro e w' ⟨rfl,rfl⟩;go_wp2_with fail;refine (HY.out _).mono ?_;rintro e w' ⟨rfl,rfl⟩;go_wp2_with fail;refine (HN.out _).mono ?_;rintro e w' ⟨rfl,rfl⟩;go_wp2
  try rw [Exit.noGoto_ret]
  go_ret
  exact⟨rfl,LB.out⟩
theorem scope_once{P:Program}{a:Act}{w:World}{Q:Exit→Act→World→Prop}{c rest:Code}(l:Nat)(A:Act)(W:World)(hf:findLabel c l=some rest)
  (first:c.wp P (Exit.jump l (fun a' w'=>a'=A∧w'=W) Q) a w)
  (pass:rest.wp P (Exit.jump l (fun a' w'=>(a'=A∧w'=W)∧0<0) Q) A W):(Code.scope c).wp P Q a w:=
 wp_scope_jumps l (fun a' w'=>a'=A∧w'=W) (fun _ _=>0) hf first (by rintro a w ⟨rfl,rfl⟩;exact pass)
theorem radd_exact(d:Int)(x y:Nat)(w:World)(hd:d=-1∨d=1)(hx:x<18446744073709551616)(hy:y<18446744073709551616)(rx:rungOf x<M)(ry:rungOf y<M)(hg:8660422083433463808<rungOf x∨8660422083433463808<rungOf y):
  Calls Tryz.prog 64 #[.int .i64 d,.float .f64 x,.float .f64 y] w fun e w'=>e=.returned (.float .f64 (pat (rndI d (fl (idx x)+fl (idx y)))))∧Below w.heap.size w w':=by
 have hM:M=9218868437227405312:=rfl;obtain⟨s,hs,-⟩:=add_fin (show fin x from rx) (show fin y from ry);have A1:=fun W=>run_float_arith (P:=Tryz.prog) W .add 25 .f64 x y s hs;obtain⟨S1,e1,b1,l1,u1,v1,HP1⟩:=part_any x hx rx;obtain⟨S2,e2,b2,l2,u2,v2,HP2⟩:=part_any y hy ry;have k1:blen S1≤53:=blen_le_iff.2 (show S1<2^53 from b1);have k2:blen S2≤53:=blen_le_iff.2 (show S2<2^53 from b2);have hB:=dsF_bound (sgn x) S1 e1 (sgn y) S2 e2 3000 (by omega) (by omega);have hV:=dsF_val (sgn x) S1 e1 (sgn y) S2 e2;rw [← v1,← v2] at hV;have HS0:=fun (A1:Option Addr) (m1 c1:Nat) (A2:Option Addr) (m2 c2:Nat) (W:World) (h1:U32s W A1 m1 c1 (digs S1)) (h2:U32s W A2 m2 c2 (digs S2))=>sum_any (sgn x) A1 m1 c1 S1 e1 (sgn y) A2 m2 c2 S2 e2 W h1 h2 (by omega) (by omega) (by omega) (by omega)
 obtain⟨n,hn⟩:∃ z,(dsF (sgn x) S1 e1 (sgn y) S2 e2).1=z:=⟨_,rfl⟩
 obtain⟨S,hS⟩:∃ z,(dsF (sgn x) S1 e1 (sgn y) S2 e2).2.1=z:=⟨_,rfl⟩
 obtain⟨E,hE⟩:∃ z,(dsF (sgn x) S1 e1 (sgn y) S2 e2).2.2=z:=⟨_,rfl⟩
 rw [hn,hS,hE] at HS0 hV;rw [hS,hE] at hB;have HT0:=fun (A:Option Addr) (m c:Nat) (W:World) (h:U32s W A m c (digs S))=>to_any d n A m c S E W h hd (by omega) (by omega) (by omega);rw [hV] at HT0;have HS:=Hd HS0;have HT:=Hd HT0;have HX1:=Hd HP1;have HX2:=Hd HP2
 obtain⟨n1,hn1⟩:∃ z,sgn x=z:=⟨_,rfl⟩
 obtain⟨n2,hn2⟩:∃ z,sgn y=z:=⟨_,rfl⟩
 rw [hn1] at HX1 HS;rw [hn2] at HX2 HS;clear HP1 HP2 HS0 HT0 hn hS hE hV hB k1 k2 b1 b2 l1 l2 u1 u2 v1 v2 hs hn1 hn2
 have ho:(decide (rungOf x=M) || decide (rungOf y=M))=false:=by
  rw [decide_eq_false (by omega),decide_eq_false (by omega)];rfl
 have HO0:=fun (W:World) (hb:Below w.heap.size w W)=>odd_two W.heap.size x y (W.alloc (.cells #[.float .f64 x,.float .f64 y] 25)) hx hy (by omega) (by omega) (by simp [World.cell?_alloc_new]) (by simp [World.cell?_alloc_new]);rw [ho] at HO0;have HO:=Hd HO0;have HX:=Hd fun W=>abs_any x W hx;have HY:=Hd fun W=>abs_any y W hy;have LB:=Hd (below_alloc w (.cells #[.float .f64 x,.float .f64 y] 25));have ox:=great_ord (r:=rungOf x) (by omega);have oy:=great_ord (r:=rungOf y) (by omega)
 have hc:FloatKind.f64.format.order (rungOf x) 8660422083433463808=some .gt∨((FloatKind.f64.format.order (rungOf x) 8660422083433463808=some .lt∨FloatKind.f64.format.order (rungOf x) 8660422083433463808=some .eq)∧FloatKind.f64.format.order (rungOf y) 8660422083433463808=some .gt):=by
  rcases ox with h | h
  ·rcases oy with h2 | h2
   ·omega
   ·exact .inr ⟨h.2,h2.2⟩
  ·exact .inl h.2
 obtain⟨r,hr⟩:∃ r,pat (rndI d (fl (idx x)+fl (idx y)))=r:=⟨_,rfl⟩
 rw [hr] at HT ⊢
 obtain⟨X,hX⟩:∃ r,rungOf x=r:=⟨_,rfl⟩
 obtain⟨Y,hY⟩:∃ r,rungOf y=r:=⟨_,rfl⟩
 rw [hX] at HX hc;rw [hY] at HY hc;clear HO0 ho ox oy hr hX hY rx ry hx hy hd hM hg
 rcases hc with o1 | ⟨o1 | o1,o2⟩
 all_goals
  go_enter Tryz.func64,Tryz.ntmps64
  go_wp2_with fail
  apply scope_once 0 _ _ rfl
  focus
   go_wp2_with fail;refine (HO.out _ (Below.refl _ _)).mono ?_;rintro e w' ⟨rfl,rfl⟩;go_wp2_with fail;refine (HX.out _).mono ?_;rintro e w' ⟨rfl,rfl⟩;go_wp2_with fail
   try (refine (HY.out _).mono ?_;rintro e w' ⟨rfl,rfl⟩;go_wp2_with fail)
   try go_step3
   exact⟨rfl,rfl,rfl⟩
  clear HO HX HY;generalize w.alloc (.cells #[.float .f64 x,.float .f64 y] 25)=wa at LB ⊢;go_wp2_with fail;refine (HX1.out _).mono ?_;rintro e w1 ⟨A1,m1,c1,rfl,hu1,hb1⟩;have LB1:=Hd (LB.out.trans (hb1.mono LB.out.size));have U1:=Hd hu1;clear hu1 hb1 LB;go_wp2_with fail;refine (HX2.out _).mono ?_;rintro e w2 ⟨A2,m2,c2,rfl,hu2,hb2⟩;have LB2:=stB LB1 hb2 LB1.out.size;have V1:=Hd (U1.out.below hb2);have V2:=Hd hu2;clear hu2 hb2 LB1 U1;go_wp2_with fail;refine (HS.out _ _ _ _ _ _ _ V1.out V2.out).mono ?_;rintro e w3 ⟨A3,m3,c3,rfl,hu3,hb3⟩;have LB3:=stB LB2 hb3 LB2.out.size;have V3:=Hd hu3;clear hu3 hb3 LB2 V1 V2;go_wp2_with fail;refine (HT.out _ _ _ _ V3.out).mono ?_;rintro e w4 ⟨rfl,hb4⟩;have LB4:=stB LB3 hb4 LB3.out.size;clear hb4 LB3 V3;go_wp2
  simp only [Exit.jump]
  go_ret
  exact⟨rfl,LB4.out⟩
theorem radd_any(d:Int)(x y:Nat)(w:World)(hd:d=-1∨d=1)(hx:x<18446744073709551616)(hy:y<18446744073709551616)(rx:rungOf x≤M)(ry:rungOf y≤M)(hno:¬ (idx x=M∧idx y=-(M:Int))∧¬ (idx x=-(M:Int)∧idx y=M)):
  Calls Tryz.prog 64 #[.int .i64 d,.float .f64 x,.float .f64 y] w fun e w'=>e=.returned (.float .f64 (pat (ad d (idx x) (idx y))))∧Below w.heap.size w w':=by
 have hM:M=9218868437227405312:=rfl;have cx:=pat_cases hx;have cy:=pat_cases hy;unfold ad
 by_cases h1:rungOf x=M
 ·rw [if_pos (by omega)];refine radd_inf d x y _ w hx hy rx ry (by rw [decide_eq_true h1];rfl) (add_inf_left hx h1 ry (fun h2=>?_))
  rcases cx with ⟨a,b,c,e⟩ | ⟨a,b,c,e⟩<;>rcases cy with ⟨a',b',c',e'⟩ | ⟨a',b',c',e'⟩
  ·rw [c,c']
  ·omega
  ·omega
  ·rw [c,c']
 ·rw [if_neg (by omega)]
  by_cases h2:rungOf y=M
  ·rw [if_pos (by omega)]
   exact radd_inf d x y _ w hx hy rx ry (by rw [decide_eq_true h2,Bool.or_true]) (add_inf_right hy h2 (by omega))
  ·rw [if_neg (by omega)]
   by_cases hg:8660422083433463808<rungOf x∨8660422083433463808<rungOf y
   ·exact radd_exact d x y w hd hx hy (by omega) (by omega) hg
   ·obtain⟨t,ht⟩:∃ t,t=1922:=⟨_,rfl⟩
    exact radd_quick d x y t (52+t) w hd hx hy (by omega) (by omega) (by omega) (by omega) (by rw [ht]) rfl (by omega)
def NoCl(i j:Int):Prop:=¬ (i=M∧j=-(M:Int))∧¬ (i=-(M:Int)∧j=M)
theorem radd_pat(d i j:Int)(w:World)(hd:d=-1∨d=1)(hi:-(M:Int)≤i∧i≤M)(hj:-(M:Int)≤j∧j≤M)(hno:NoCl i j):
  Calls Tryz.prog 64 #[.int .i64 d,.float .f64 (pat i),.float .f64 (pat j)] w fun e w'=>e=.returned (.float .f64 (pat (ad d i j)))∧Below w.heap.size w w':=by
 have h:=radd_any d (pat i) (pat j) w hd (pat_lt hi.1 hi.2) (pat_lt hj.1 hj.2) (by rw [rung_pat hi.1 hi.2];omega) (by rw [rung_pat hj.1 hj.2];omega) (by rw [idx_pat hi.1 hi.2,idx_pat hj.1 hj.2];exact hno);rw [idx_pat hi.1 hi.2,idx_pat hj.1 hj.2] at h
 exact h
theorem rsub_pat(d i j:Int)(w:World)(hd:d=-1∨d=1)(hi:-(M:Int)≤i∧i≤M)(hj:-(M:Int)≤j∧j≤M)(hno:NoCl i (-j)):
  Calls Tryz.prog 68 #[.int .i64 d,.float .f64 (pat i),.float .f64 (pat j)] w fun e w'=>e=.returned (.float .f64 (pat (ad d i (-j))))∧Below w.heap.size w w':=by
 have n:=negFloat_val (pat_lt hj.1 hj.2);have h:=radd_any d (pat i) (Op.negFloat .f64 (pat j)) w hd (pat_lt hi.1 hi.2) n.1 (by rw [rung_pat hi.1 hi.2];omega) (by rw [n.2.1,rung_pat hj.1 hj.2];omega) (by rw [n.2.2,idx_pat hi.1 hi.2,idx_pat hj.1 hj.2];exact hno);rw [n.2.2,idx_pat hi.1 hi.2,idx_pat hj.1 hj.2] at h;have H:=Hd h;clear h n hd hi hj hno
 obtain⟨r,hr⟩:∃ r,pat (ad d i (-j))=r:=⟨_,rfl⟩
 obtain⟨p,hp⟩:∃ r,pat i=r:=⟨_,rfl⟩
 obtain⟨q,hq⟩:∃ r,pat j=r:=⟨_,rfl⟩
 rw [hr,hp,hq] at H;rw [hr,hp,hq];clear hr hp hq
 go_enter Tryz.func68,Tryz.ntmps68
 go_wp2_with fail;refine H.out.mono ?_;rintro e w1 ⟨rfl,hb⟩;have LB:=Hd hb;clear hb;go_wp2
 go_ret
 exact⟨rfl,LB.out⟩
end Go.Proofs.YtfcpabgampebaaaGreat
namespace Go.Proofs.YtfcpabgampebaaaGreat
open Go.RowKit
attribute [local go_sem] run_store_float run_negf
theorem itself_any(b:Nat)(w:World):Calls Tryz.prog 33 #[.float .f64 b] w fun e w'=>e=.returned (.float .f64 b)∧Below w.heap.size w w':=by
 go_enter Tryz.func33,Tryz.ntmps33
 go_wp2
 go_ret
 exact⟨rfl,Below.refl _ _⟩
theorem ahead_any(b:Nat)(w:World):Calls Tryz.prog 36 #[.float .f64 b] w fun e w'=>e=.returned (.func (.func 67) #[] #[.pointer (some ⟨w.heap.size,0,none⟩)])∧w'=w.alloc (.cells #[.float .f64 b] 25):=by
 have hmf:∀ (fn:Fn) (first cap:Array Value) (w:World),(Instr.makeFunc fn first cap).run Tryz.prog w=.ok (.func fn first cap) w:=fun _ _ _ _=>rfl
 go_enter Tryz.func36,Tryz.ntmps36
 go_wp2
 go_ret
 exact⟨rfl,rfl⟩
theorem behind_any(b:Nat)(w:World):Calls Tryz.prog 34 #[.float .f64 b] w fun e w'=>e=.returned (.func (.func 63) #[] #[.pointer (some ⟨w.heap.size,0,none⟩)])∧w'=w.alloc (.cells #[.float .f64 b] 25):=by
 have hmf:∀ (fn:Fn) (first cap:Array Value) (w:World),(Instr.makeFunc fn first cap).run Tryz.prog w=.ok (.func fn first cap) w:=fun _ _ _ _=>rfl
 go_enter Tryz.func34,Tryz.ntmps34
 go_wp2
 go_ret
 exact⟨rfl,rfl⟩
theorem side_any(b:Nat)(w:World):Calls Tryz.prog 16 #[.float .f64 b] w fun e w'=>e=.returned (.func (.func 17) #[] #[.pointer (some ⟨w.heap.size,0,none⟩)])∧w'=w.alloc (.cells #[.float .f64 b] 25):=by
 have hmf:∀ (fn:Fn) (first cap:Array Value) (w:World),(Instr.makeFunc fn first cap).run Tryz.prog w=.ok (.func fn first cap) w:=fun _ _ _ _=>rfl
 go_enter Tryz.func16,Tryz.ntmps16
 go_wp2
 go_ret
 exact⟨rfl,rfl⟩
theorem ahead1(k by_ r B:Nat)(w:World)(hB:w.cell? ⟨B,0,none⟩=some (.float .f64 by_))(hs:∀ W,Calls Tryz.prog 68 #[.int .i64 (-1),.float .f64 k,.float .f64 by_] W fun e w'=>e=.returned (.float .f64 r)∧Below W.heap.size W w'):
  Calls Tryz.prog 67 #[.float .f64 k,.pointer (some ⟨B,0,none⟩)] w fun e w'=>e=.returned (.float .f64 r)∧Below w.heap.size w w':=by
 have HS:=Hd hs;clear hs
 go_enter Tryz.func67,Tryz.ntmps67
 go_wp2_with fail;refine (HS.out _).mono ?_;rintro e wk ⟨rfl,hb⟩;have HB:=Hd hb;clear hb hB;go_wp2
 go_ret
 exact⟨rfl,HB.out⟩
theorem behind1(k by_ r B:Nat)(w:World)(hB:w.cell? ⟨B,0,none⟩=some (.float .f64 by_))(hs:∀ W,Calls Tryz.prog 64 #[.int .i64 1,.float .f64 k,.float .f64 by_] W fun e w'=>e=.returned (.float .f64 r)∧Below W.heap.size W w'):
  Calls Tryz.prog 63 #[.float .f64 k,.pointer (some ⟨B,0,none⟩)] w fun e w'=>e=.returned (.float .f64 r)∧Below w.heap.size w w':=by
 have HS:=Hd hs;clear hs
 go_enter Tryz.func63,Tryz.ntmps63
 go_wp2_with fail;refine (HS.out _).mono ?_;rintro e wk ⟨rfl,hb⟩;have HB:=Hd hb;clear hb hB;go_wp2
 go_ret
 exact⟨rfl,HB.out⟩
theorem truncfrom_pos(k:Nat)(w:World)(ho:FloatKind.f64.format.order k 0=some .gt):Calls Tryz.prog 37 #[.float .f64 k] w fun e w'=>e=.returned (.float .f64 k)∧Below w.heap.size w w':=by
 go_enter Tryz.func37,Tryz.ntmps37
 go_wp2
 go_ret
 exact⟨rfl,Below.refl _ _⟩
theorem truncto_neg(k:Nat)(w:World)(ho:FloatKind.f64.format.order k 0=some .lt):Calls Tryz.prog 38 #[.float .f64 k] w fun e w'=>e=.returned (.float .f64 k)∧Below w.heap.size w w':=by
 go_enter Tryz.func38,Tryz.ntmps38
 go_wp2
 go_ret
 exact⟨rfl,Below.refl _ _⟩
theorem truncfrom_neg(k r:Nat)(o:Ordering)(w:World)(ho:FloatKind.f64.format.order k 0=some o)(hoo:o=.lt∨o=.eq)(hs:∀ W,Calls Tryz.prog 68 #[.int .i64 (-1),.float .f64 k,.float .f64 4607182418800017408] W fun e w'=>e=.returned (.float .f64 r)∧Below W.heap.size W w'):
  Calls Tryz.prog 37 #[.float .f64 k] w fun e w'=>e=.returned (.float .f64 r)∧Below w.heap.size w w':=by
 have HA:=Hd (ahead_any 4607182418800017408 w);have HB:=Hd (below_alloc w (.cells #[.float .f64 4607182418800017408] 25));have HC:=Hd fun B W (hB:W.cell? ⟨B,0,none⟩=some (.float .f64 4607182418800017408))=>ahead1 k 4607182418800017408 r B W hB hs;clear hs
 rcases hoo with rfl | rfl
 all_goals
  go_enter Tryz.func37,Tryz.ntmps37
  go_wp2_with fail;refine HA.out.mono ?_;rintro e wk ⟨rfl,rfl⟩;go_wp2_with fail;refine (HC.out _ _ (by simp [World.cell?_alloc_new])).mono ?_;rintro e wk ⟨rfl,hb⟩;have HK:=stB HB hb HB.out.size;clear hb ho;go_wp2
  go_ret
  exact⟨rfl,HK.out⟩
theorem truncto_pos(k r:Nat)(o:Ordering)(w:World)(ho:FloatKind.f64.format.order k 0=some o)(hoo:o=.gt∨o=.eq)(hs:∀ W,Calls Tryz.prog 64 #[.int .i64 1,.float .f64 k,.float .f64 4607182418800017408] W fun e w'=>e=.returned (.float .f64 r)∧Below W.heap.size W w'):
  Calls Tryz.prog 38 #[.float .f64 k] w fun e w'=>e=.returned (.float .f64 r)∧Below w.heap.size w w':=by
 have HA:=Hd (behind_any 4607182418800017408 w);have HB:=Hd (below_alloc w (.cells #[.float .f64 4607182418800017408] 25));have HC:=Hd fun B W (hB:W.cell? ⟨B,0,none⟩=some (.float .f64 4607182418800017408))=>behind1 k 4607182418800017408 r B W hB hs;clear hs
 rcases hoo with rfl | rfl
 all_goals
  go_enter Tryz.func38,Tryz.ntmps38
  go_wp2_with fail;refine HA.out.mono ?_;rintro e wk ⟨rfl,rfl⟩;go_wp2_with fail;refine (HC.out _ _ (by simp [World.cell?_alloc_new])).mono ?_;rintro e wk ⟨rfl,hb⟩;have HK:=stB HB hb HB.out.size;clear hb ho;go_wp2
  go_ret
  exact⟨rfl,HK.out⟩
theorem sign1(k:Nat)(o:Ordering)(w:World)(ho:FloatKind.f64.format.order k 0=some o):Calls Tryz.prog 15 #[.float .f64 k] w fun e w'=>e=.returned (.float .f64 (match o with | .gt=>4607182418800017408 | .lt=>13830554455654793216 | .eq=>0))∧Below w.heap.size w w':=by
 cases o
 all_goals
  go_enter Tryz.func15,Tryz.ntmps15
  go_wp2
  go_ret
  exact⟨rfl,Below.refl _ _⟩
theorem side1_no(k far B:Nat)(w:World)(hB:w.cell? ⟨B,0,none⟩=some (.float .f64 far))(ho:(FloatKind.f64.format.order k far == some Ordering.eq)=false):
  Calls Tryz.prog 17 #[.float .f64 k,.pointer (some ⟨B,0,none⟩)] w fun e w'=>e=.returned (.float .f64 0)∧Below w.heap.size w w':=by
 go_enter Tryz.func17,Tryz.ntmps17
 go_wp2
 go_ret
 exact⟨rfl,Below.refl _ _⟩
theorem conv_one(w:World):(convert 25 3 (.float .f64 4607182418800017408)).run Tryz.prog w=.ok (.int .i64 1) w:=by kernel_rfl
theorem conv_neg(w:World):(convert 25 3 (.float .f64 13830554455654793216)).run Tryz.prog w=.ok (.int .i64 (-1)) w:=by kernel_rfl
theorem side1_up(B:Nat)(w:World)(hB:w.cell? ⟨B,0,none⟩=some (.float .f64 4607182418800017408)):
  Calls Tryz.prog 17 #[.float .f64 4607182418800017408,.pointer (some ⟨B,0,none⟩)] w fun e w'=>e=.returned (.float .f64 9218868437227405312)∧Below w.heap.size w w':=by
 have ho:(FloatKind.f64.format.order 4607182418800017408 4607182418800017408 == some Ordering.eq)=true:=by kernel_rfl
 have hc:=conv_one;have HI:=Hd inf_pos
 go_enter Tryz.func17,Tryz.ntmps17
 go_wp2_with fail;refine (HI.out _).mono ?_;rintro e wk ⟨rfl,rfl⟩;clear hB;go_wp2
 go_ret
 exact⟨rfl,Below.refl _ _⟩
theorem side1_down(B:Nat)(w:World)(hB:w.cell? ⟨B,0,none⟩=some (.float .f64 13830554455654793216)):
  Calls Tryz.prog 17 #[.float .f64 13830554455654793216,.pointer (some ⟨B,0,none⟩)] w fun e w'=>e=.returned (.float .f64 18442240474082181120)∧Below w.heap.size w w':=by
 have ho:(FloatKind.f64.format.order 13830554455654793216 13830554455654793216 == some Ordering.eq)=true:=by kernel_rfl
 have hc:=conv_neg;have HI:=Hd inf_neg
 go_enter Tryz.func17,Tryz.ntmps17
 go_wp2_with fail;refine (HI.out _).mono ?_;rintro e wk ⟨rfl,rfl⟩;clear hB;go_wp2
 go_ret
 exact⟨rfl,Below.refl _ _⟩
end Go.Proofs.YtfcpabgampebaaaGreat
