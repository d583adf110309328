/-
Lemmas for the statement: Sum2T AddT NmulT RmulT VdP DvP ClQ HdP CommT PairT PnP PrT.
-/
import Derived.Test.YthlmlmfebpjgdaaGreatDoorM01
import Derived.Test.YthlmlmfebpjgdaaGreatDoorM09
import Derived.Test.YthlmlmfebpjgdaaGreatDoorM02
import Derived.ScopeJumps
import Derived.Test.YthlmlmfebpjgdaaGreatDoorM04
import Derived.Test.YthlmlmfebpjgdaaGreatDoorM06
import Derived.Test.YthlmlmfebpjgdaaGreatDoorM03
import Derived.Test.YthlmlmfebpjgdaaGreatDoorM07
import Derived.Test.YthlmlmfebpjgdaaGreatDoorM08
import Derived.Deep.DeepCutAuto
set_option linter.unusedSimpArgs false
set_option linter.unusedVariables false
set_option maxHeartbeats 12800000
namespace Go.Proofs.YthlmlmfebpjgdaaGreatDoor
section
open Go.RowKit
attribute [local go_sem] run_store_float run_frombits run_bitsof run_negf
def dsF(n1:Bool)(S1:Nat)(e1:Int)(n2:Bool)(S2:Nat)(e2:Int):Bool × Nat × Int:=
 if S1=0 then (n2,S2,e2) else if S2=0 then (n1,S1,e1)
 else if e2<e1 then ((dsum n2 S2 n1 (S1*2^(e1 - e2).toNat)).1,(dsum n2 S2 n1 (S1*2^(e1 - e2).toNat)).2,e2)
 else ((dsum n1 S1 n2 (S2*2^(e2 - e1).toNat)).1,(dsum n1 S1 n2 (S2*2^(e2 - e1).toNat)).2,e1)
theorem sum_any(n1:Bool)(A1:Option Addr)(m1 c1 S1:Nat)(e1:Int)(n2:Bool)(A2:Option Addr)(m2 c2 S2:Nat)(e2:Int)(w:World)(h1:U32s w A1 m1 c1 (digs S1))(h2:U32s w A2 m2 c2 (digs S2))
  (he1:-1000000<=e1/\e1<=1000000)(he2:-1000000<=e2/\e2<=1000000)(hb1:(blen S1:Int)+(e1 - e2).toNat<=500000)(hb2:(blen S2:Int)+(e2 - e1).toNat<=500000):
  Calls Tryz.prog 201 #[.agg #[.bool n1,.slice A1 m1 c1,.int .i64 e1],.agg #[.bool n2,.slice A2 m2 c2,.int .i64 e2]] w (NewDy w (dsF n1 S1 e1 n2 S2 e2).1 (dsF n1 S1 e1 n2 S2 e2).2.1 (dsF n1 S1 e1 n2 S2 e2).2.2):=by
 unfold dsF
 by_cases h0:S1=0
 ·rw [if_pos h0];refine sum_left n1 A1 m1 c1 S1 e1 n2 A2 m2 c2 S2 e2 w h2 ?_;rw [<- h1.len,digs_length_eq_zero];exact h0
 ·rw [if_neg h0];have hp1:=digs_len_pos (S:=S1) (by omega) h1.len
  by_cases h0':S2=0
  ·rw [if_pos h0'];refine sum_right n1 A1 m1 c1 S1 e1 n2 A2 m2 c2 S2 e2 w h1 hp1 ?_;rw [<- h2.len,digs_length_eq_zero];exact h0'
  ·rw [if_neg h0']
   by_cases hlt:e2<e1
   ·rw [if_pos hlt]
    exact sum_two true n2 A2 m2 c2 S2 e2 n1 A1 m1 c1 S1 e1 (e1 - e2).toNat w h2 h1 (by omega) (by omega) (by omega) (fun _=>hlt) (by omega) he2 he1 (by omega) (by omega)
   ·rw [if_neg hlt]
    exact sum_two false n1 A1 m1 c1 S1 e1 n2 A2 m2 c2 S2 e2 (e2 - e1).toNat w h1 h2 (by omega) (by omega) (by omega) (fun h=>by cases h) (by omega) he1 he2 (by omega) (by omega)
theorem dsF_val(n1:Bool)(S1:Nat)(e1:Int)(n2:Bool)(S2:Nat)(e2:Int):
  rv (dsF n1 S1 e1 n2 S2 e2).1 (dsF n1 S1 e1 n2 S2 e2).2.1 1*2^(dsF n1 S1 e1 n2 S2 e2).2.2=rv n1 S1 1*2^e1+rv n2 S2 1*2^e2:=by
 unfold dsF
 by_cases h0:S1=0
 ·rw [if_pos h0,h0,rv_zero];grind
 ·rw [if_neg h0]
  by_cases h0':S2=0
  ·rw [if_pos h0',h0',rv_zero];grind
  ·rw [if_neg h0']
   by_cases hlt:e2<e1
   ·rw [if_pos hlt]
    dsimp only
    rw [dsum_val,<- rv_shift n1 S1 (e1 - e2).toNat e2 e1 (by omega)];grind
   ·rw [if_neg hlt]
    dsimp only
    rw [dsum_val,<- rv_shift n2 S2 (e2 - e1).toNat e1 e2 (by omega)];grind
theorem dsF_bound(n1:Bool)(S1:Nat)(e1:Int)(n2:Bool)(S2:Nat)(e2:Int)(P:Nat)(h1:blen S1+(e1 - e2).toNat<=P)(h2:blen S2+(e2 - e1).toNat<=P):
  blen (dsF n1 S1 e1 n2 S2 e2).2.1<=P+1/\((dsF n1 S1 e1 n2 S2 e2).2.2=e1\/(dsF n1 S1 e1 n2 S2 e2).2.2=e2):=by
 unfold dsF
 by_cases h0:S1=0
 ·rw [if_pos h0];exact⟨by dsimp only;omega,.inr rfl⟩
 ·rw [if_neg h0]
  by_cases h0':S2=0
  ·rw [if_pos h0'];exact⟨by dsimp only;omega,.inl rfl⟩
  ·rw [if_neg h0']
   by_cases hlt:e2<e1
   ·rw [if_pos hlt]
    exact⟨dsum_blen _ _ _ _ _ (by omega) (by rw [blen_shl _ _ (by omega)];omega),.inr rfl⟩
   ·rw [if_neg hlt]
    exact⟨dsum_blen _ _ _ _ _ (by omega) (by rw [blen_shl _ _ (by omega)];omega),.inl rfl⟩
theorem rv_exact(n:Bool)(S:Nat)(x:Int):rv n (S*2^x.toNat) (2^(-x).toNat)=rv n S 1*2^x:=by
 have h:=rv_scale n (p:=S) (q:=1) (by omega) x;rw [Nat.one_mul] at h;exact h
theorem to_any(d:Int)(neg:Bool)(A:Option Addr)(n c S:Nat)(x:Int)(w:World)(hu:U32s w A n c (digs S))(hd:d=-1\/d=1)(hb:blen S<=524288)(hx1:-1000000<=x)(hx2:x<=1099511627776):
  Rt 190 #[.agg #[.bool neg,.slice A n c,.int .i64 x],.int .i64 d] (.float .f64 (pat (rndI d (rv neg S 1*2^x)))) w:=by
 have HO:=Hd (show ∀ W,Below w.heap.size w W->Rt 230 #[.int .i64 d,.bool neg,.slice A n c,.int .i64 x,.bool false] (.float .f64 (pat (rndI d (rv neg S 1*2^x)))) W from fun W hW=>by
  rcases Nat.eq_zero_or_pos S with h0 | h0
  ·subst h0;rw [rv_zero,Rat.zero_mul,rndI_zero hd,pat_zero];refine cy (of_nought d neg false A n c (digs 0) x W (hu.below hW) (num_digs 0)) ?_
   exact⟨rfl,Below.refl _ _⟩
  ·rw [<- rv_exact]
   exact of_pos d neg false A n c S _ _ (digs S) x W (hu.below hW) (num_digs S) h0 (wlen_blen hb) hd (Dg.exact S x) (Nat.two_pow_pos _) (fun h=>by cases h) hx1 hx2)
 obtain⟨r,hr⟩:∃ r,pat (rndI d (rv neg S 1*2^x))=r:=⟨_,rfl⟩
 rw [hr] at HO ⊢;clear hu hd hr;obtain⟨LB0,LG0_0⟩:=bx1 w #[.bool neg,.slice A n c,.int .i64 x] 168
 go_enter Tryz.func190,Tryz.ntmps190
 obtain⟨q0_0,q0_1,q0_2⟩:=LG0_0.out.c3;go_wp2_with fail;refine cx (HO.out _ LB0.out) fun w1 hb1=>?_;have LB1:=stB LB0 hb1 LB0.out.size;have LG0_1:=stG LG0_0 hb1;clear LB0 LG0_0;clear hb1 HO q0_0 q0_1 q0_2;go_wp2
 go_ret
 exact⟨rfl,LB1.out⟩
end
section
open Go.RowKit
attribute [local go_sem] run_store_float run_frombits run_bitsof run_negf
theorem odd_two(g x y:Nat)(w:World)(hx:x<18446744073709551616)(hy:y<18446744073709551616)(rx:rungOf x<=M)(ry:rungOf y<=M)(c0:w.cell? ⟨g,0,none⟩=some (.float .f64 x))(c1:w.cell? ⟨g,1,none⟩=some (.float .f64 y)):
  Calls Tryz.prog 183 #[.slice (some ⟨g,0,none⟩) 2 2] w fun e w'=>e=.returned (.bool (decide (rungOf x=M) || decide (rungOf y=M)))/\w=w':=by
 have N0:=Hd (isnanf x w rx);have N1:=Hd (isnanf y w ry);have I0:=Hd (isinff x w hx rx);have I1:=Hd (isinff y w hy ry)
 obtain⟨b0,e0⟩:∃ p,decide (rungOf x=M)=p:=⟨_,rfl⟩
 obtain⟨b1,e1⟩:∃ p,decide (rungOf y=M)=p:=⟨_,rfl⟩
 rw [e0] at I0 ⊢;rw [e1] at I1 ⊢;clear e0 e1 rx ry hx hy
 go_enter Tryz.func183,Tryz.ntmps183
 go_wp2
 go_loop [4,7] (fun _ v=>∃ k:Nat,k<=2/\v=.int .i64 k/\(0<k->b0=false)/\(1<k->b1=false)) (fun _ v=>2 - (intOf v).toNat)
 case atStart=>exact⟨0,by omega,rfl,by omega,by omega⟩
 case round=>
  obtain⟨k,hk,rfl,hk0,hk1⟩:=hrel
  match k,hk with
  | 0,_=>
   clear hk0 hk1
   cases b0
   ·go_wp2_with fail;refine N0.out.mono ?_;rintro e w' ⟨rfl,rfl⟩;go_wp2_with fail;refine I0.out.mono ?_;rintro e w' ⟨rfl,rfl⟩;go_wp2
    go_round
    case rel=>exact⟨1,by omega,rfl,by simp,by omega⟩
    case measure=>simp [intOf]
   ·go_wp2_with fail;refine N0.out.mono ?_;rintro e w' ⟨rfl,rfl⟩;go_wp2_with fail;refine I0.out.mono ?_;rintro e w' ⟨rfl,rfl⟩;go_wp2
    go_ret
    exact⟨rfl,rfl⟩
  | 1,_=>
   have h0:=hk0 (by omega);subst h0;clear hk0 hk1
   cases b1
   ·go_wp2_with fail;refine N1.out.mono ?_;rintro e w' ⟨rfl,rfl⟩;go_wp2_with fail;refine I1.out.mono ?_;rintro e w' ⟨rfl,rfl⟩;go_wp2
    go_round
    case rel=>exact⟨2,by omega,rfl,by simp,by simp⟩
    case measure=>simp [intOf]
   ·go_wp2_with fail;refine N1.out.mono ?_;rintro e w' ⟨rfl,rfl⟩;go_wp2_with fail;refine I1.out.mono ?_;rintro e w' ⟨rfl,rfl⟩;go_wp2
    go_ret
    exact⟨rfl,rfl⟩
  | 2,_=>
   have h0:=hk0 (by omega);have h1:=hk1 (by omega);subst h0 h1;clear hk0 hk1;go_wp2
   go_ret
   exact⟨rfl,rfl⟩
theorem radd_inf(d:Int)(x y r:Nat)(w:World)(hx:x<18446744073709551616)(hy:y<18446744073709551616)(rx:rungOf x<=M)(ry:rungOf y<=M)(ho:(decide (rungOf x=M) || decide (rungOf y=M))=true)(hr:floatBits .add .f64 x y=some r):
  Rt 139 #[.int .i64 d,.float .f64 x,.float .f64 y] (.float .f64 r) w:=by
 have HA:=fun W=>run_float_arith (P:=Tryz.prog) W .add 26 .f64 _ _ _ hr;have HO0:=fun (W:World) (hb:Below w.heap.size w W)=>odd_two W.heap.size x y (W.alloc (.cells (Zv x y) 26)) hx hy rx ry (by simp [World.cell?_alloc_new]) (by simp [World.cell?_alloc_new]);rw [ho] at HO0;have HO:=Hd HO0;have LB:=Hd (below_alloc w (.cells (Zv x y) 26));clear HO0 ho hr rx ry hx hy
 go_enter Tryz.func139,Tryz.ntmps139
 go_wp2_with fail
 go_step3
 go_wp2_with fail;refine cy (HO.out _ (Below.refl _ _)) ?_;go_wp2
 try rw [Exit.noGoto_ret]
 go_ret
 exact⟨rfl,LB.out⟩
theorem radd_quick(d:Int)(x y t T:Nat)(w:World)(hd:d=-1\/d=1)(hx:x<18446744073709551616)(hy:y<18446744073709551616)(rx:rungOf x<M)(ry:rungOf y<M)(gx:rungOf x<=8660422083433463808)(gy:rungOf y<=8660422083433463808)
  (ht:8660422083433463808=(t+1)*2^52)(hT:T=52+t)(hT2:T<=1990):
  Rt 139 #[.int .i64 d,.float .f64 x,.float .f64 y] (.float .f64 (pat (rndI d (fl (idx x)+fl (idx y))))) w:=by
 have hM:M=9218868437227405312:=rfl;obtain⟨s,u,a,b,c,e,q1,q2,q3,q4,q5,q6,fs,fe⟩:=quick_sum hT2 (Fl_self hx rx) (Fl_self hy ry) (not_great (by omega) hT) (not_great (by omega) hT);have hn:=nud_sum hd fs fe rfl;have HN0:=fun W=>nudge_any d s e W hd fs.lt fs.fin (Nat.le_of_lt fe.fin);rw [hn] at HN0;have HN:=Hd HN0;have A1:=fun W=>run_float_arith (P:=Tryz.prog) W .add 26 .f64 x y s q1;have A2:=fun W=>run_float_arith (P:=Tryz.prog) W .sub 26 .f64 s x u q2;have A3:=fun W=>run_float_arith (P:=Tryz.prog) W .sub 26 .f64 s u a q3;have A4:=fun W=>run_float_arith (P:=Tryz.prog) W .sub 26 .f64 x a b q4;have A5:=fun W=>run_float_arith (P:=Tryz.prog) W .sub 26 .f64 y u c q5;have A6:=fun W=>run_float_arith (P:=Tryz.prog) W .add 26 .f64 b c e q6
 have ho:(decide (rungOf x=M) || decide (rungOf y=M))=false:=by
  rw [decide_eq_false (by omega),decide_eq_false (by omega)];rfl
 have HO0:=fun (W:World) (hb:Below w.heap.size w W)=>odd_two W.heap.size x y (W.alloc (.cells (Zv x y) 26)) hx hy (by omega) (by omega) (by simp [World.cell?_alloc_new]) (by simp [World.cell?_alloc_new]);rw [ho] at HO0;have HO:=Hd HO0;have HX:=Hd fun W=>abs_any x W hx;have HY:=Hd fun W=>abs_any y W hy;have LB:=Hd (below_alloc w (.cells (Zv x y) 26));have ox:=great_ord (r:=rungOf x) (by omega);have oy:=great_ord (r:=rungOf y) (by omega)
 have ox2:FloatKind.f64.format.order (rungOf x) 8660422083433463808=some .lt\/FloatKind.f64.format.order (rungOf x) 8660422083433463808=some .eq:=by
  rcases ox with h | h
  ·exact h.2
  ·omega
 have oy2:FloatKind.f64.format.order (rungOf y) 8660422083433463808=some .lt\/FloatKind.f64.format.order (rungOf y) 8660422083433463808=some .eq:=by
  rcases oy with h | h
  ·exact h.2
  ·omega
 obtain⟨r,hr⟩:∃ r,pat (rndI d (fl (idx x)+fl (idx y)))=r:=⟨_,rfl⟩
 rw [hr] at HN ⊢
 obtain⟨X,hX⟩:∃ r,rungOf x=r:=⟨_,rfl⟩
 obtain⟨Y,hY⟩:∃ r,rungOf y=r:=⟨_,rfl⟩
 rw [hX] at HX ox2;rw [hY] at HY oy2;clear HO0 ho ox oy hn HN0 fs fe q1 q2 q3 q4 q5 q6 hr hX hY gx gy ht hT hT2 rx ry hx hy hd hM
 rcases ox2 with o1 | o1<;>rcases oy2 with o2 | o2
 all_goals
  go_enter Tryz.func139,Tryz.ntmps139
  go_wp2_with fail
  go_step3
  go_wp2_with fail;refine cy (HO.out _ (Below.refl _ _)) ?_;go_wp2_with fail;refine cy (HX.out _) ?_;go_wp2_with fail;refine cy (HY.out _) ?_;go_wp2_with fail;refine cy (HN.out _) ?_;go_wp2
  try rw [Exit.noGoto_ret]
  go_ret
  exact⟨rfl,LB.out⟩
theorem scope_once{P:Program}{a:Act}{w:World}{Q:Exit->Act->World->Prop}{c rest:Code}(l:Nat)(A:Act)(W:World)(hf:findLabel c l=some rest)
  (first:c.wp P (Exit.jump l (fun a' w'=>a'=A/\w'=W) Q) a w)
  (pass:rest.wp P (Exit.jump l (fun a' w'=>(a'=A/\w'=W)/\0<0) Q) A W):(Code.scope c).wp P Q a w:=
 wp_scope_jumps l (fun a' w'=>a'=A/\w'=W) (fun _ _=>0) hf first (by rintro a w ⟨rfl,rfl⟩;exact pass)
theorem radd_exact(d:Int)(x y:Nat)(w:World)(hd:d=-1\/d=1)(hx:x<18446744073709551616)(hy:y<18446744073709551616)(rx:rungOf x<M)(ry:rungOf y<M)(hg:8660422083433463808<rungOf x\/8660422083433463808<rungOf y):
  Rt 139 #[.int .i64 d,.float .f64 x,.float .f64 y] (.float .f64 (pat (rndI d (fl (idx x)+fl (idx y))))) w:=by
 have hM:M=9218868437227405312:=rfl;obtain⟨s,hs,-⟩:=add_fin (show fin x from rx) (show fin y from ry);have A1:=fun W=>run_float_arith (P:=Tryz.prog) W .add 26 .f64 x y s hs;obtain⟨S1,e1,b1,l1,u1,v1,HP1⟩:=part_any x hx rx;obtain⟨S2,e2,b2,l2,u2,v2,HP2⟩:=part_any y hy ry;have k1:blen S1<=53:=blen_le_iff.2 (show S1<2^53 from b1);have k2:blen S2<=53:=blen_le_iff.2 (show S2<2^53 from b2);have hB:=dsF_bound (sgn x) S1 e1 (sgn y) S2 e2 3000 (by omega) (by omega);have hV:=dsF_val (sgn x) S1 e1 (sgn y) S2 e2;rw [<- v1,<- v2] at hV;have HS0:=fun (A1:Option Addr) (m1 c1:Nat) (A2:Option Addr) (m2 c2:Nat) (W:World) (h1:U32s W A1 m1 c1 (digs S1)) (h2:U32s W A2 m2 c2 (digs S2))=>sum_any (sgn x) A1 m1 c1 S1 e1 (sgn y) A2 m2 c2 S2 e2 W h1 h2 (by omega) (by omega) (by omega) (by omega)
 obtain⟨n,hn⟩:∃ z,(dsF (sgn x) S1 e1 (sgn y) S2 e2).1=z:=⟨_,rfl⟩
 obtain⟨S,hS⟩:∃ z,(dsF (sgn x) S1 e1 (sgn y) S2 e2).2.1=z:=⟨_,rfl⟩
 obtain⟨E,hE⟩:∃ z,(dsF (sgn x) S1 e1 (sgn y) S2 e2).2.2=z:=⟨_,rfl⟩
 rw [hn,hS,hE] at HS0 hV;rw [hS,hE] at hB;have HT0:=fun (A:Option Addr) (m c:Nat) (W:World) (h:U32s W A m c (digs S))=>to_any d n A m c S E W h hd (by omega) (by omega) (by omega);rw [hV] at HT0;have HS:=Hd HS0;have HT:=Hd HT0;have HX1:=Hd HP1;have HX2:=Hd HP2
 obtain⟨n1,hn1⟩:∃ z,sgn x=z:=⟨_,rfl⟩
 obtain⟨n2,hn2⟩:∃ z,sgn y=z:=⟨_,rfl⟩
 rw [hn1] at HX1 HS;rw [hn2] at HX2 HS;clear HP1 HP2 HS0 HT0 hn hS hE hV hB k1 k2 b1 b2 l1 l2 u1 u2 v1 v2 hs hn1 hn2
 have ho:(decide (rungOf x=M) || decide (rungOf y=M))=false:=by
  rw [decide_eq_false (by omega),decide_eq_false (by omega)];rfl
 have HO0:=fun (W:World) (hb:Below w.heap.size w W)=>odd_two W.heap.size x y (W.alloc (.cells (Zv x y) 26)) hx hy (by omega) (by omega) (by simp [World.cell?_alloc_new]) (by simp [World.cell?_alloc_new]);rw [ho] at HO0;have HO:=Hd HO0;have HX:=Hd fun W=>abs_any x W hx;have HY:=Hd fun W=>abs_any y W hy;have LB:=Hd (below_alloc w (.cells (Zv x y) 26));have ox:=great_ord (r:=rungOf x) (by omega);have oy:=great_ord (r:=rungOf y) (by omega)
 have hc:FloatKind.f64.format.order (rungOf x) 8660422083433463808=some .gt\/((FloatKind.f64.format.order (rungOf x) 8660422083433463808=some .lt\/FloatKind.f64.format.order (rungOf x) 8660422083433463808=some .eq)/\FloatKind.f64.format.order (rungOf y) 8660422083433463808=some .gt):=by
  rcases ox with h | h
  ·rcases oy with h2 | h2
   ·omega
   ·exact .inr ⟨h.2,h2.2⟩
  ·exact .inl h.2
 obtain⟨r,hr⟩:∃ r,pat (rndI d (fl (idx x)+fl (idx y)))=r:=⟨_,rfl⟩
 rw [hr] at HT ⊢
 obtain⟨X,hX⟩:∃ r,rungOf x=r:=⟨_,rfl⟩
 obtain⟨Y,hY⟩:∃ r,rungOf y=r:=⟨_,rfl⟩
 rw [hX] at HX hc;rw [hY] at HY hc;clear HO0 ho ox oy hr hX hY rx ry hx hy hd hM hg
 rcases hc with o1 | ⟨o1 | o1,o2⟩
 all_goals
  go_enter Tryz.func139,Tryz.ntmps139
  go_wp2_with fail
  apply scope_once 0 _ _ rfl
  focus
   go_wp2_with fail;refine cy (HO.out _ (Below.refl _ _)) ?_;go_wp2_with fail;refine cy (HX.out _) ?_;go_wp2_with fail
   try (refine cy (HY.out _) ?_;go_wp2_with fail)
   try go_step3
   exact⟨rfl,rfl,rfl⟩
  clear HO HX HY;generalize w.alloc (.cells (Zv x y) 26)=wa at LB ⊢;go_wp2_with fail;refine (HX1.out _).mono ?_;rintro e w1 ⟨A1,m1,c1,rfl,hu1,hb1⟩;have LB1:=Hd (LB.out.trans (hb1.mono LB.out.size));have U1:=Hd hu1;clear hu1 hb1 LB;go_wp2_with fail;refine (HX2.out _).mono ?_;rintro e w2 ⟨A2,m2,c2,rfl,hu2,hb2⟩;have LB2:=stB LB1 hb2 LB1.out.size;have V1:=Hd (U1.out.below hb2);have V2:=Hd hu2;clear hu2 hb2 LB1 U1;go_wp2_with fail;refine (HS.out _ _ _ _ _ _ _ V1.out V2.out).mono ?_;rintro e w3 ⟨A3,m3,c3,rfl,hu3,hb3⟩;have LB3:=stB LB2 hb3 LB2.out.size;have V3:=Hd hu3;clear hu3 hb3 LB2 V1 V2;go_wp2_with fail;refine cx (HT.out _ _ _ _ V3.out) fun w4 hb4=>?_;have LB4:=stB LB3 hb4 LB3.out.size;clear hb4 LB3 V3;go_wp2
  simp only [Exit.jump]
  go_ret
  exact⟨rfl,LB4.out⟩
theorem radd_any(d:Int)(x y:Nat)(w:World)(hd:d=-1\/d=1)(hx:x<18446744073709551616)(hy:y<18446744073709551616)(rx:rungOf x<=M)(ry:rungOf y<=M)(hno:¬ (idx x=M/\idx y=-(M:Int))/\¬ (idx x=-(M:Int)/\idx y=M)):
  Rt 139 #[.int .i64 d,.float .f64 x,.float .f64 y] (.float .f64 (pat (ad d (idx x) (idx y)))) w:=by
 have hM:M=9218868437227405312:=rfl;have cx:=pat_cases hx;have cy:=pat_cases hy;unfold ad
 by_cases h1:rungOf x=M
 ·rw [if_pos (by omega)];refine radd_inf d x y _ w hx hy rx ry (by rw [decide_eq_true h1];rfl) (add_inf_left hx h1 ry (fun h2=>?_))
  rcases cx with ⟨a,b,c,e⟩ | ⟨a,b,c,e⟩<;>rcases cy with ⟨a',b',c',e'⟩ | ⟨a',b',c',e'⟩
  ·rw [c,c']
  ·omega
  ·omega
  ·rw [c,c']
 ·rw [if_neg (by omega)]
  by_cases h2:rungOf y=M
  ·rw [if_pos (by omega)]
   exact radd_inf d x y _ w hx hy rx ry (by rw [decide_eq_true h2,Bool.or_true]) (add_inf_right hy h2 (by omega))
  ·rw [if_neg (by omega)]
   by_cases hg:8660422083433463808<rungOf x\/8660422083433463808<rungOf y
   ·exact radd_exact d x y w hd hx hy (by omega) (by omega) hg
   ·obtain⟨t,ht⟩:∃ t,t=1922:=⟨_,rfl⟩
    exact radd_quick d x y t (52+t) w hd hx hy (by omega) (by omega) (by omega) (by omega) (by rw [ht]) rfl (by omega)
def NoCl(i j:Int):Prop:=¬ (i=M/\j=-(M:Int))/\¬ (i=-(M:Int)/\j=M)
theorem radd_pat(d i j:Int)(w:World)(hd:d=-1\/d=1)(hi:-(M:Int)<=i/\i<=M)(hj:-(M:Int)<=j/\j<=M)(hno:NoCl i j):
  Rt 139 #[.int .i64 d,.float .f64 (pat i),.float .f64 (pat j)] (.float .f64 (pat (ad d i j))) w:=by
 have h:=radd_any d (pat i) (pat j) w hd (pat_lt hi.1 hi.2) (pat_lt hj.1 hj.2) (by rw [rung_pat hi.1 hi.2];omega) (by rw [rung_pat hj.1 hj.2];omega) (by rw [idx_pat hi.1 hi.2,idx_pat hj.1 hj.2];exact hno);rw [idx_pat hi.1 hi.2,idx_pat hj.1 hj.2] at h
 exact h
theorem rsub_pat(d i j:Int)(w:World)(hd:d=-1\/d=1)(hi:-(M:Int)<=i/\i<=M)(hj:-(M:Int)<=j/\j<=M)(hno:NoCl i (-j)):
  Rt 84 #[.int .i64 d,.float .f64 (pat i),.float .f64 (pat j)] (.float .f64 (pat (ad d i (-j)))) w:=by
 have n:=negFloat_val (pat_lt hj.1 hj.2);have h:=radd_any d (pat i) (Op.negFloat .f64 (pat j)) w hd (pat_lt hi.1 hi.2) n.1 (by rw [rung_pat hi.1 hi.2];omega) (by rw [n.2.1,rung_pat hj.1 hj.2];omega) (by rw [n.2.2,idx_pat hi.1 hi.2,idx_pat hj.1 hj.2];exact hno);rw [n.2.2,idx_pat hi.1 hi.2,idx_pat hj.1 hj.2] at h;have H:=Hd h;clear h n hd hi hj hno
 obtain⟨r,hr⟩:∃ r,pat (ad d i (-j))=r:=⟨_,rfl⟩
 obtain⟨p,hp⟩:∃ r,pat i=r:=⟨_,rfl⟩
 obtain⟨q,hq⟩:∃ r,pat j=r:=⟨_,rfl⟩
 rw [hr,hp,hq] at H;rw [hr,hp,hq];clear hr hp hq
 go_enter Tryz.func84,Tryz.ntmps84
 go_wp2_with fail;refine H.out.mono ?_;rintro e w1 ⟨rfl,hb⟩;have LB:=Hd hb;clear hb;go_wp2
 go_ret
 exact⟨rfl,LB.out⟩
end
section
open Go.RowKit
theorem nmul_in(A B:Option Addr)(p c q d:Nat)(xs ys:List Nat)(w:World)(hx:U32s w A p c xs)(hy:U32s w B q d ys)(hs1:p<=8589934592)(hs2:q<=8589934592):
  Calls Tryz.prog 252 #[.slice A p c,.slice B q d] w fun e w'=>∃ (D:Option Addr) (n' c':Nat) (ls:List Nat),e=.returned (.slice D n' c')/\U32s w' D n' c' ls/\num ls=num xs*num ys/\n'=p+q/\Below w.heap.size w w':=by
 have HX:=Hd hx;have HY:=Hd hy;have l1:=wlen_le xs;have l2:=wlen_le ys;rw [hx.len] at l1;rw [hy.len] at l2;have HP:=Hd l1;have HQ:=Hd l2;clear hx hy l1 l2;have hmk:=fun W=>make_u32 (N:=(p:Int)+(q:Int)) (n:=p+q) (by omega) (by omega) W
 go_enter Tryz.func252,Tryz.ntmps252
 go_wp2
 go_loopw [6,7,20] (fun _ _ jv wr=>∃ (j:Nat) (ls:List Nat),jv=.int .i64 j/\j<=q/\TimesOut xs ys ls p q j/\Arr wr w.heap.size ls/\Below w.heap.size w wr) (fun _ _ jv _=>q - (intOf jv).toNat)
 case atStart=>exact⟨0,_,rfl,Nat.zero_le _,TimesOut.start _ _ _ _,Arr.zeros _ _,below_alloc _ _⟩
 case round=>
  obtain⟨j,ls,rfl,hj,hinv,harr,hb⟩:=hrel;have HI:=Hd hinv;have HA:=Hd harr;clear hinv harr hmk;have hbs:=hb.size
  by_cases hlt:j<q
  ·obtain⟨ad',e,hc'⟩:=(HY.out.below hb).cell (j:=j) (by omega)
   cases e
   have hy1:=HY.out.lt j
   by_cases hy0:ys[j]?.getD 0=0
   ·rw [hy0] at hc';have HZ:=Hd hy0;clear hy0;go_wp2
    go_roundw
    case rel=>exact⟨j+1,ls,by go_num,hlt,HI.out.skip HZ.out,HA.out,hb⟩
    case measure=>simp [intOf];omega
   ·obtain⟨y,hy⟩:∃ y,ys[j]?.getD 0=y:=⟨_,rfl⟩
    rw [hy] at hc' hy1 hy0;have HYY:=Hd hy
    have hy2:((y:Int) == 0)=false:=by simp;omega
    clear hy hy0
    obtain⟨wo,rfl⟩:∃ wo:World,wo=wr:=⟨_,rfl⟩
    have b0:(0:Int)<=(j:Int):=by omega
    have b1:(j:Int)<=(j:Int)+(p:Int)+1:=by omega
    have b2:(j:Int)+(p:Int)+1<=((p+q:Nat):Int):=by omega
    go_wp2
    go_loopw [8,10,11,37] (fun cv _ _ iv wr=>∃ (i k:Nat) (ls':List Nat),iv=.int .i64 i/\cv=.int .u64 k/\i<=p/\TimesIn xs ls' ls p q j i y k/\Arr wr w.heap.size ls'/\Below w.heap.size w wr) (fun _ _ _ iv _=>p - (intOf iv).toNat)
    case atStart=>exact⟨0,0,ls,rfl,rfl,Nat.zero_le _,TimesIn.start y HI.out,HA.out,hb⟩
    case round=>
     clear hb hbs HA hc';obtain⟨i,k,ls',rfl,rfl,hi,hin,harr,hb⟩:=hrel;have hk:=hin.2.2.2.1;have HIN:=Hd hin;have HA:=Hd harr;clear hin harr
     by_cases hlt2:i<p
     ·obtain⟨ad,e,hc⟩:=(HX.out.below hb).cell (j:=i) (by omega)
      cases e
      have hx1:=HX.out.lt i;have hc2:=HA.out.cell (j:=i+j) (by rw [HIN.out.2.1];omega);have hf2:=HA.out.frozen (i+j);have hl1:ls'[i+j]?.getD 0<4294967296:=HIN.out.1.get (i+j)
      obtain⟨x,hx⟩:∃ x,xs[i]?.getD 0=x:=⟨_,rfl⟩
      obtain⟨l,hl⟩:∃ l,ls'[i+j]?.getD 0=l:=⟨_,rfl⟩
      rw [hx] at hc hx1;rw [hl] at hc2 hl1;rw [Nat.add_comm i j] at hc2 hf2;have HXX:=Hd hx;have HLL:=Hd hl;clear hx hl;have hz1:x*y<=4294967295*4294967295:=Nat.mul_le_mul (by omega) (by omega)
      obtain⟨z,hz⟩:∃ z,x*y=z:=⟨_,rfl⟩
      rw [hz] at hz1
      have e1:(x:Int)*(y:Int)=(z:Int):=by rw [<- hz];simp
      have HZ:=Hd hz;clear hz
      have b3:(i:Int)<((p+1:Nat):Int):=by omega
      go_wp2
      go_roundw
      case rel=>
       refine⟨i+1,(k+l+z) / 4294967296,ls'.set (i+j) ((k+l+z) % 4294967296),by go_num,?_,by omega,?_,?_,hb.setCell (Nat.le_refl _) _⟩
       ·rw [show (k:Int)+((z:Int)+(l:Int))=((k+l+z:Nat):Int) from by omega];go_num
       ·exact HIN.out.step hlt2 hlt HX.out.w32 hy1 (by rw [HXX.out,HLL.out,HZ.out])
       ·have:=HA.out.set (i+j) ((k+l+z) % 4294967296);rw [show ((k:Int)+((z:Int)+(l:Int))) % 4294967296=(((k+l+z) % 4294967296:Nat):Int) from by omega,Nat.add_comm j i]
        exact this
      case measure=>simp [intOf];omega
     ·obtain rfl:i=p:=by omega
      have hc2:=HA.out.cell (j:=j+i) (by rw [HIN.out.2.1];omega);have hf2:=HA.out.frozen (j+i)
      have hk2:(k:Int) % 4294967296=(k:Int):=by omega
      have b3:(i:Int)<((i+1:Nat):Int):=by omega
      obtain⟨l,hl⟩:∃ l,ls'[j+i]?.getD 0=l:=⟨_,rfl⟩
      rw [hl] at hc2;clear hl;go_wp2
      go_roundw
      case rel=>
       exact⟨j+1,ls'.set (j+i) k,by go_num,hlt,HIN.out.done HI.out hlt HP.out HYY.out,HA.out.set _ _,hb.setCell (Nat.le_refl _) _⟩
      case measure=>simp [intOf];omega
  ·obtain rfl:j=q:=by omega
   have hnum:=HI.out.done HQ.out;have hu:=HA.out.u32s' HI.out.1 HI.out.2.1 (by omega);have HU:=Hd hu;clear hu;go_wp2
   go_ret
   exact⟨_,_,_,_,rfl,HU.out,hnum,rfl,hb⟩
theorem nmul_any(A B:Option Addr)(n c m d:Nat)(xs ys:List Nat)(w:World)(hx:U32s w A n c xs)(hy:U32s w B m d ys)(hl:wlen xs+wlen ys<=16384)(hbl:blen (num xs)+blen (num ys)<=524289):
  Calls Tryz.prog 229 #[.slice A n c,.slice B m d] w (NewU32E w (digs (num xs*num ys))):=by
 obtain⟨w1,hw1⟩:∃ w1,w.alloc (.cells #[.slice A n c,.slice B m d] 40)=w1:=⟨_,rfl⟩
 have hb1:Below w.heap.size w w1:=by rw [<- hw1];exact below_alloc w _
 have hx1:=hx.below hb1;have hy1:=hy.below hb1;have hlong:=long_two w.heap.size A n c xs B m d ys w1 hx1 (by rw [<- hw1];simp [World.cell?_alloc_new]) (by omega) hy1 (by rw [<- hw1];simp [World.cell?_alloc_new]) (by omega);have HLG:=Hd hlong;have HL1:=Hd (nlen_any A n c xs w1 hx1);have HL2:=Hd (nlen_any B m d ys w1 hy1);have HQ1:=Hd fun W (h:U32s W A n c xs)=>nwords_any A n c xs W h;have HQ2:=Hd fun W (h:U32s W B m d ys)=>nwords_any B m d ys W h;have cc1:=hx.cap;have cc2:=hy.cap;have n1:=hx.small;have n2:=hy.small;have l1:=wlen_le xs;have l2:=wlen_le ys;rw [hx.len] at l1;rw [hy.len] at l2;have e1:=num_trim xs;have e2:=num_trim ys;rw [trim_eq_take] at e1 e2;have HX0:=hx1.take l1;have HY0:=hy1.take l2
 obtain⟨p,hp⟩:∃ p,wlen xs=p:=⟨_,rfl⟩
 obtain⟨q,hq⟩:∃ p,wlen ys=p:=⟨_,rfl⟩
 obtain⟨b1,hB1⟩:∃ p,blen (num xs)=p:=⟨_,rfl⟩
 obtain⟨b2,hB2⟩:∃ p,blen (num ys)=p:=⟨_,rfl⟩
 rw [hp] at HQ1 l1 hl e1 HX0;rw [hq] at HQ2 l2 hl e2 HY0;rw [hB1] at HL1 hbl;rw [hB2] at HL2 hbl
 obtain⟨us,hus⟩:∃ l,xs.take p=l:=⟨_,rfl⟩
 obtain⟨vs,hvs⟩:∃ l,ys.take q=l:=⟨_,rfl⟩
 rw [hus] at e1 HX0;rw [hvs] at e2 HY0;rw [<- e1,<- e2];have hlt1:=num_lt HX0.w32;have hlt2:=num_lt HY0.w32;rw [HX0.len] at hlt1;rw [HY0.len] at hlt2
 have HM:=Hd (show ∀ W,U32s W A p c us->U32s W B q d vs->Calls Tryz.prog 252 #[.slice A p c,.slice B q d] W fun e w'=>∃ (D:Option Addr) (n' c':Nat) (ls:List Nat),e=.returned (.slice D n' c')/\U32s w' D n' c' ls/\num ls=num us*num vs/\wlen ls<=16384/\Below W.heap.size W w' from
  fun W h1 h2=>(nmul_in A B p c q d us vs W h1 h2 (by omega) (by omega)).mono fun e w' ⟨D,n',c',ls,he,hu,hv,hn,hb⟩=>
   ⟨D,n',c',ls,he,hu,hv,Nat.le_trans (wlen_lt hu.w32 (K:=p+q) (by
    rw [hv,Nat.mul_add,Nat.pow_add]
    exact Nat.lt_of_le_of_lt (Nat.mul_le_mul_left _ (Nat.le_of_lt hlt2)) ((Nat.mul_lt_mul_right (Nat.two_pow_pos _)).2 hlt1))) hl,hb⟩)
 have HF:=Hd fun W (D:Option Addr) (n' c':Nat) (ls:List Nat) (h:U32s W D n' c' ls) (hl:wlen ls<=16384)=>fit_any D n' c' ls W h hl;have HX1:=Hd hx1;have HY1:=Hd hy1;have HU1:=Hd HX0;have HU2:=Hd HY0;have HB1:=Hd hb1;have HW1:=Hd hw1
 have pc:p<=c:=by omega
 have qd:q<=d:=by omega
 have hbi:¬ ((524289:Int)<(b1:Int)+(b2:Int)):=by omega
 clear hx hy hx1 hy1 hlong hb1 hp hq e1 e2 HX0 HY0 hus hvs hw1 hlt1 hlt2 hB1 hB2
 go_enter Tryz.func229,Tryz.ntmps229
 go_wp2_with fail;rw [HW1.out];refine HLG.out.mono ?_;rintro e w' ⟨rfl,rfl⟩;go_wp2_with fail;refine HL1.out.mono ?_;rintro e w' ⟨rfl,rfl⟩;go_wp2_with fail;refine HL2.out.mono ?_;rintro e w' ⟨rfl,rfl⟩;have LL:=Hd (show Lies w1 w1 [] [] from⟨Below.refl _ _,by simp,by simp⟩)
 go_upto_region 3 with fail
 refine regL LL (fun hHeld=>?_);clear LL;replace HX1:=Hd (HX1.out.below (Below.refl _ _).drew);replace HY1:=Hd (HY1.out.below (Below.refl _ _).drew);replace HU1:=Hd (HU1.out.below (Below.refl _ _).drew);replace HU2:=Hd (HU2.out.below (Below.refl _ _).drew);generalize World.drew _=wk at hHeld HX1 HY1 HU1 HU2 ⊢;refine tks 0 ?_;refine tks 1 ?_;refine tks 4 ?_;refine tks 5 ?_;refine rdy 2 fun KK hKK=>?_;go_simp;refine (HQ1.out _ HX1.out).mono ?_;rintro e wk ⟨rfl,rfl⟩;go_wp2_with fail;refine hKK.out _ _ (hHeld.keep (Below.refl _ _)) (fun _=>?_);clear hKK KK hHeld;rename_i hHeld;(try simp only [Act.put,lay]);replace HX1:=Hd (HX1.out.below (Below.refl _ _));replace HY1:=Hd (HY1.out.below (Below.refl _ _));replace HU1:=Hd (HU1.out.below (Below.refl _ _));replace HU2:=Hd (HU2.out.below (Below.refl _ _));(try replace HU:=Hd (HU.out.below (Below.refl _ _)));refine tks 3 ?_;refine rdy 6 fun KK hKK=>?_;go_simp;refine (HQ2.out _ HY1.out).mono ?_;rintro e wk ⟨rfl,rfl⟩;go_wp2_with fail;refine hKK.out _ _ (hHeld.keep (Below.refl _ _)) (fun _=>?_);clear hKK KK hHeld;rename_i hHeld;(try simp only [Act.put,lay]);replace HX1:=Hd (HX1.out.below (Below.refl _ _));replace HY1:=Hd (HY1.out.below (Below.refl _ _));replace HU1:=Hd (HU1.out.below (Below.refl _ _));replace HU2:=Hd (HU2.out.below (Below.refl _ _));(try replace HU:=Hd (HU.out.below (Below.refl _ _)));refine tks 7 ?_;refine rdy 8 fun KK hKK=>?_;go_simp;refine (HM.out _ HU1.out HU2.out).mono ?_
 rintro e wk ⟨D,n2,c2,ls,rfl,hu,hnum,hwl,hb⟩;go_wp2_with fail;refine hKK.out _ _ (hHeld.keep hb) (fun _=>?_);clear hKK KK hHeld;rename_i hHeld;(try simp only [Act.put,lay]);replace HX1:=Hd (HX1.out.below hb);replace HY1:=Hd (HY1.out.below hb);replace HU1:=Hd (HU1.out.below hb);replace HU2:=Hd (HU2.out.below hb);have HU:=Hd hu;clear hu;clear hb;refine rdy 9 fun KK hKK=>?_;go_simp;refine (HF.out _ _ _ _ _ HU.out hwl).mono ?_;rintro e wk ⟨rfl,rfl⟩;go_wp2_with fail;refine hKK.out _ _ (hHeld.keep (Below.refl _ _)) (fun _=>?_);clear hKK KK hHeld;rename_i hHeld;(try simp only [Act.put,lay]);replace HX1:=Hd (HX1.out.below (Below.refl _ _));replace HY1:=Hd (HY1.out.below (Below.refl _ _));replace HU1:=Hd (HU1.out.below (Below.refl _ _));replace HU2:=Hd (HU2.out.below (Below.refl _ _));(try replace HU:=Hd (HU.out.below (Below.refl _ _)));refine tks 10 ?_;refine tks 11 ?_;refine tks 12 ?_;refine tks 13 ?_;refine wpAnyH_done (by kernel_rfl) ?_ _;have LL:=Hd hHeld;clear hHeld;go_wp2
 go_ret2
 have hd:=HU.out.cutd;rw [hnum] at hd
 exact⟨_,_,_,rfl,hd,HB1.out.trans (LL.out.b.mono HB1.out.size)⟩
end
section
open Go.RowKit
theorem middle_walk(b r:Nat)(o1 o2:Ordering)(m:Bool)(w:World)(ha:∀ W,Calls Tryz.prog 117 #[.float .f64 b] W fun e w'=>e=.returned (.float .f64 r)/\W=w')
  (h1:FloatKind.f64.format.order r 553942754166571008=some o1)(h2:FloatKind.f64.format.order r 8660422083433463808=some o2)(hm:((o1 == .gt) && (o2 == .lt))=m):
  Calls Tryz.prog 185 #[.float .f64 b] w fun e w'=>e=.returned (.bool m)/\w=w':=by
 have HA:=Hd ha;have HM:=Hd hm;clear ha hm
 cases o1<;>cases o2
 all_goals
  go_enter Tryz.func185,Tryz.ntmps185
  go_wp2_with fail;refine cy (HA.out _) ?_;go_wp2
  go_ret
  refine⟨?_,rfl⟩;rw [<- HM.out]
  rfl
theorem middle_any(b:Nat)(w:World)(hb:b<18446744073709551616)(hr:rungOf b<=M):Calls Tryz.prog 185 #[.float .f64 b] w fun e w'=>e=.returned (.bool (mid b))/\w=w':=by
 have hM:M=9218868437227405312:=rfl;have r0:=rung_idx (b:=rungOf b) (by omega);have r1:rungOf 553942754166571008=553942754166571008/\idx 553942754166571008=((553942754166571008:Nat):Int):=rung_idx (by decide);have r2:rungOf 8660422083433463808=8660422083433463808/\idx 8660422083433463808=((8660422083433463808:Nat):Int):=rung_idx (by decide)
 have o1:FloatKind.f64.format.order (rungOf b) 553942754166571008=some (compare ((rungOf b:Nat):Int) ((553942754166571008:Nat):Int)):=by
  have h:=order_real (x:=rungOf b) (y:=553942754166571008) (show rungOf (rungOf b)<=M by rw [r0.1];exact hr) (show rungOf 553942754166571008<=M by rw [r1.1];omega);rw [r0.2,r1.2] at h;exact h
 have o2:FloatKind.f64.format.order (rungOf b) 8660422083433463808=some (compare ((rungOf b:Nat):Int) ((8660422083433463808:Nat):Int)):=by
  have h:=order_real (x:=rungOf b) (y:=8660422083433463808) (show rungOf (rungOf b)<=M by rw [r0.1];exact hr) (show rungOf 8660422083433463808<=M by rw [r2.1];omega);rw [r0.2,r2.2] at h;exact h
 refine middle_walk b _ _ _ _ w (fun W=>abs_any b W hb) o1 o2 ?_;unfold mid
 obtain⟨R,hR⟩:∃ R,rungOf b=R:=⟨_,rfl⟩
 rw [hR]
 obtain⟨c1,hc1⟩:∃ c,compare ((R:Nat):Int) ((553942754166571008:Nat):Int)=c:=⟨_,rfl⟩
 obtain⟨c2,hc2⟩:∃ c,compare ((R:Nat):Int) ((8660422083433463808:Nat):Int)=c:=⟨_,rfl⟩
 rw [hc1,hc2]
 have e1:(c1 == .gt)=decide (553942754166571008<R):=by
  by_cases h:553942754166571008<R
  ·rw [decide_eq_true h,<- hc1,Int.compare_eq_gt.2 (by omega)];rfl
  ·rw [decide_eq_false h,<- hc1]
   rcases Int.lt_or_eq_of_le (show ((R:Nat):Int)<=((553942754166571008:Nat):Int) by omega) with k | k
   ·rw [Int.compare_eq_lt.2 k];rfl
   ·rw [Int.compare_eq_eq.2 k];rfl
 have e2:(c2 == .lt)=decide (R<8660422083433463808):=by
  by_cases h:R<8660422083433463808
  ·rw [decide_eq_true h,<- hc2,Int.compare_eq_lt.2 (by omega)];rfl
  ·rw [decide_eq_false h,<- hc2]
   rcases Int.lt_or_eq_of_le (show ((8660422083433463808:Nat):Int)<=((R:Nat):Int) by omega) with k | k
   ·rw [Int.compare_eq_gt.2 k];rfl
   ·rw [Int.compare_eq_eq.2 k.symm];rfl
 rw [e1,e2]
theorem halves_walk(x t u h l:Nat)(w:World)(q1:FloatKind.f64.format.mul 4728779608772575232 x=some t)(q2:FloatKind.f64.format.sub t x=some u)(q3:FloatKind.f64.format.sub t u=some h)(q4:FloatKind.f64.format.sub x h=some l):
  Calls Tryz.prog 228 #[.float .f64 x] w fun e w'=>e=.returned (.tuple (Zv h l))/\w=w':=by
 have A1:=fun W=>run_float_arith (P:=Tryz.prog) W .mul 26 .f64 4728779608772575232 x t q1;have A2:=fun W=>run_float_arith (P:=Tryz.prog) W .sub 26 .f64 t x u q2;have A3:=fun W=>run_float_arith (P:=Tryz.prog) W .sub 26 .f64 t u h q3;have A4:=fun W=>run_float_arith (P:=Tryz.prog) W .sub 26 .f64 x h l q4;clear q1 q2 q3 q4
 go_enter Tryz.func228,Tryz.ntmps228
 go_wp2
 go_ret2
 exact⟨rfl,rfl⟩
theorem missed_walk(x y p xh xl yh yl z1 e0 z2 e1 z3 e2 z4 e:Nat)(w:World)(hx:∀ W,Calls Tryz.prog 228 #[.float .f64 x] W fun e w'=>e=.returned (.tuple (Zv xh xl))/\W=w')
  (hy:∀ W,Calls Tryz.prog 228 #[.float .f64 y] W fun e w'=>e=.returned (.tuple (Zv yh yl))/\W=w')
  (q1:FloatKind.f64.format.mul xh yh=some z1)(q2:FloatKind.f64.format.sub z1 p=some e0)(q3:FloatKind.f64.format.mul xh yl=some z2)(q4:FloatKind.f64.format.add e0 z2=some e1)
  (q5:FloatKind.f64.format.mul xl yh=some z3)(q6:FloatKind.f64.format.add e1 z3=some e2)(q7:FloatKind.f64.format.mul xl yl=some z4)(q8:FloatKind.f64.format.add e2 z4=some e):
  Calls Tryz.prog 187 #[.float .f64 x,.float .f64 y,.float .f64 p] w fun e' w'=>e'=.returned (.float .f64 e)/\w=w':=by
 have A1:=fun W=>run_float_arith (P:=Tryz.prog) W .mul 26 .f64 _ _ _ q1;have A2:=fun W=>run_float_arith (P:=Tryz.prog) W .sub 26 .f64 _ _ _ q2;have A3:=fun W=>run_float_arith (P:=Tryz.prog) W .mul 26 .f64 _ _ _ q3;have A4:=fun W=>run_float_arith (P:=Tryz.prog) W .add 26 .f64 _ _ _ q4;have A5:=fun W=>run_float_arith (P:=Tryz.prog) W .mul 26 .f64 _ _ _ q5;have A6:=fun W=>run_float_arith (P:=Tryz.prog) W .add 26 .f64 _ _ _ q6;have A7:=fun W=>run_float_arith (P:=Tryz.prog) W .mul 26 .f64 _ _ _ q7;have A8:=fun W=>run_float_arith (P:=Tryz.prog) W .add 26 .f64 _ _ _ q8;have HX:=Hd hx;have HY:=Hd hy;clear q1 q2 q3 q4 q5 q6 q7 q8 hx hy
 go_enter Tryz.func187,Tryz.ntmps187
 go_wp2_with fail;refine cy (HX.out _) ?_;go_wp2_with fail;refine cy (HY.out _) ?_;go_wp2
 go_ret
 exact⟨rfl,rfl⟩
theorem rmul_quick(d:Int)(x y p:Nat)(w:World)(hd:d=-1\/d=1)(hx:x<18446744073709551616)(hy:y<18446744073709551616)(rx:rungOf x<M)(ry:rungOf y<M)(hp:FloatKind.f64.format.mul x y=some p)(mx:mid x=true)(my:mid y=true)(mp:mid p=true):
  Rt 119 #[.int .i64 d,.float .f64 x,.float .f64 y] (.float .f64 (pat (rndI d (fl (idx x)*fl (idx y))))) w:=by
 have hM:M=9218868437227405312:=rfl;obtain⟨xt,xu,xh,xl,yt,yu,yh,yl,z1,e0,z2,e1,z3,e2,z4,e,q1,q2,q3,q4,q5,q6,q7,q8,q9,q10,q11,q12,q13,q14,q15,q16,p1,p2,p3,hn⟩:=quick_prod hd hx hy mx my hp mp;have HMI:=Hd fun W=>missed_walk x y p xh xl yh yl z1 e0 z2 e1 z3 e2 z4 e W (fun W=>halves_walk x xt xu xh xl W q1 q2 q3 q4) (fun W=>halves_walk y yt yu yh yl W q5 q6 q7 q8) q9 q10 q11 q12 q13 q14 q15 q16;have HN0:=fun W=>nudge_any d p e W hd p1 p2 p3;rw [hn] at HN0;have HN:=Hd HN0;have A1:=fun W=>run_float_arith (P:=Tryz.prog) W .mul 26 .f64 x y p hp;have HX0:=fun W=>middle_any x W hx (by omega);have HY0:=fun W=>middle_any y W hy (by omega);have HP0:=fun W=>middle_any p W p1 (by omega);rw [mx] at HX0;rw [my] at HY0;rw [mp] at HP0;have HX:=Hd HX0;have HY:=Hd HY0;have HP:=Hd HP0
 have ho:(decide (rungOf x=M) || decide (rungOf y=M))=false:=by
  rw [decide_eq_false (by omega),decide_eq_false (by omega)];rfl
 have HO0:=fun (W:World) (hb:Below w.heap.size w W)=>odd_two W.heap.size x y (W.alloc (.cells (Zv x y) 26)) hx hy (by omega) (by omega) (by simp [World.cell?_alloc_new]) (by simp [World.cell?_alloc_new]);rw [ho] at HO0;have HO:=Hd HO0;have LB:=Hd (below_alloc w (.cells (Zv x y) 26))
 obtain⟨r,hr⟩:∃ r,pat (rndI d (fl (idx x)*fl (idx y)))=r:=⟨_,rfl⟩
 rw [hr] at HN ⊢;clear HO0 ho hn HN0 q1 q2 q3 q4 q5 q6 q7 q8 q9 q10 q11 q12 q13 q14 q15 q16 hr rx ry hx hy hd hM p1 p2 p3 mx my mp hp HX0 HY0 HP0
 go_enter Tryz.func119,Tryz.ntmps119
 go_wp2_with fail
 go_step3
 go_wp2_with fail;refine cy (HO.out _ (Below.refl _ _)) ?_;go_wp2_with fail;refine cy (HX.out _) ?_;go_wp2_with fail;refine cy (HY.out _) ?_;go_wp2_with fail;refine cy (HP.out _) ?_;go_wp2_with fail;refine cy (HMI.out _) ?_;go_wp2_with fail;refine cy (HN.out _) ?_;go_wp2
 try rw [Exit.noGoto_ret]
 go_ret
 exact⟨rfl,LB.out⟩
theorem rmul_inf(d:Int)(x y r q:Nat)(w:World)(hx:x<18446744073709551616)(hy:y<18446744073709551616)(rx:rungOf x<=M)(ry:rungOf y<=M)(ho:(decide (rungOf x=M) || decide (rungOf y=M))=true)(hr:floatBits .mul .f64 x y=some r)
  (hpl:∀ W,Calls Tryz.prog 184 #[.float .f64 r] W fun e w'=>e=.returned (.float .f64 q)/\W=w'):
  Rt 119 #[.int .i64 d,.float .f64 x,.float .f64 y] (.float .f64 q) w:=by
 have HA:=fun W=>run_float_arith (P:=Tryz.prog) W .mul 26 .f64 _ _ _ hr;have HPL:=Hd hpl;have HO0:=fun (W:World) (hb:Below w.heap.size w W)=>odd_two W.heap.size x y (W.alloc (.cells (Zv x y) 26)) hx hy rx ry (by simp [World.cell?_alloc_new]) (by simp [World.cell?_alloc_new]);rw [ho] at HO0;have HO:=Hd HO0;have LB:=Hd (below_alloc w (.cells (Zv x y) 26));clear HO0 ho hr rx ry hx hy hpl
 go_enter Tryz.func119,Tryz.ntmps119
 go_wp2_with fail
 go_step3
 go_wp2_with fail;refine cy (HO.out _ (Below.refl _ _)) ?_;go_wp2_with fail;refine cy (HPL.out _) ?_;go_wp2
 try rw [Exit.noGoto_ret]
 go_ret
 exact⟨rfl,LB.out⟩
theorem HasBlk.u32{W:World}{A:Option Addr}{k c:Nat}{xs:List Nat}{r:Nat}{t:TypeId}{n:Nat}(h:HasBlk W r t n)(hr:U32s W A k c xs)(vs:List Value):U32s (Proofs.YthlmlmfebpjgdaaGreatDoor.sets W r 0 vs) A k c xs:=by
 obtain⟨cs,h1,-,h2⟩:=h
 exact hr.sets h1 h2 0 vs
theorem digs_two2{S:Nat}(h:S<18446744073709551616):wlen (digs S)<=2:=wlen_lt (W32.digs S) (K:=2) (by rw [num_digs];exact h)
theorem rprod_any(n1:Bool)(A1:Option Addr)(m1 c1 S1:Nat)(e1:Int)(n2:Bool)(A2:Option Addr)(m2 c2 S2:Nat)(e2:Int)(w:World)(hu1:U32s w A1 m1 c1 (digs S1))(hu2:U32s w A2 m2 c2 (digs S2))(h1:S1<9007199254740992)(h2:S2<9007199254740992)(b1:-1074<=e1/\e1<=971)(b2:-1074<=e2/\e2<=971):
  Calls Tryz.prog 188 #[.agg #[.bool n1,.slice A1 m1 c1,.int .i64 e1],.agg #[.bool n2,.slice A2 m2 c2,.int .i64 e2]] w (NewDy w (n1 != n2) (S1*S2) (e1+e2)):=by
 have k1:=digs_two2 (S:=S1) (by omega);have k2:=digs_two2 (S:=S2) (by omega);have k3:blen S1<=53:=blen_le_iff.2 (show S1<2^53 from h1);have k4:blen S2<=53:=blen_le_iff.2 (show S2<2^53 from h2)
 have HM:=Hd fun W (a:U32s W A1 m1 c1 (digs S1)) (b:U32s W A2 m2 c2 (digs S2))=>by
  have h:=nmul_any A1 A2 m1 c1 m2 c2 (digs S1) (digs S2) W a b (by omega) (by rw [num_digs,num_digs];omega);rw [num_digs,num_digs] at h
  exact h
 obtain⟨P,hP⟩:∃ P,S1*S2=P:=⟨_,rfl⟩
 obtain⟨n3,hn3⟩:∃ z,(n1 != n2)=z:=⟨_,rfl⟩
 rw [hP] at HM ⊢;rw [hn3];have hne:(!n1 == n2)=n3:=hn3;clear hn3 hP k1 k2 k3 k4 h1 h2;have LL:=li3 w #[.bool n1,.slice A1 m1 c1,.int .i64 e1] 168 #[.bool n2,.slice A2 m2 c2,.int .i64 e2] 168 #[.bool false,.slice none 0 0,.int .i64 0] 168;have HU1:=Hd (hu1.below LL.out.b);have HU2:=Hd (hu2.below LL.out.b);clear hu1 hu2
 go_enter Tryz.func188,Tryz.ntmps188
 obtain⟨q1_0,q1_1,q1_2⟩:=(LL.out.blk 0 rfl).c3;obtain⟨q2_0,q2_1,q2_2⟩:=(LL.out.blk 1 rfl).c3;go_wp2_with fail;refine (HM.out _ HU1.out HU2.out).mono ?_;rintro e wk ⟨A3,m3,c3,rfl,hu3,hb⟩;replace LL:=stL LL hb;replace HU1:=Hd (HU1.out.below hb);replace HU2:=Hd (HU2.out.below hb);clear hb q1_0 q1_1 q1_2 q2_0 q2_1 q2_2;have HU3:=Hd hu3;clear hu3;obtain⟨q3_0,q3_1,q3_2⟩:=(LL.out.blk 0 rfl).c3;obtain⟨q4_0,q4_1,q4_2⟩:=(LL.out.blk 1 rfl).c3;replace LL:=Hd (LL.out.loose2 rfl);obtain⟨ha4_0,hf4_0,ha4_1,hf4_1,ha4_2,hf4_2⟩:=(LL.out.has 0 rfl).sf3;have LF:=Hd (LL.out.wr [.bool n3,.slice A3 m3 c3,.int .i64 (e1+e2)]);obtain⟨hk4_0,hk4_1,hk4_2⟩:=(LF.out.blk 2 rfl).c3
 simp [sets] at hk4_0 hk4_1 hk4_2
 have LL3:=LL;clear LL;go_wp2;refine bodyPost_ret (v:=.agg #[.bool n3,.slice A3 m3 c3,.int .i64 (e1+e2)]) (by simp [results,Tryz.results188,go_sem,hk4_0,hk4_1,hk4_2]) rfl ?_
 exact⟨A3,m3,c3,rfl,(LL3.out.has 0 rfl).u32 HU3.out [.bool n3,.slice A3 m3 c3,.int .i64 (e1+e2)],LF.out.b⟩
theorem rmul_exact(d:Int)(x y p:Nat)(w:World)(hd:d=-1\/d=1)(hx:x<18446744073709551616)(hy:y<18446744073709551616)(rx:rungOf x<M)(ry:rungOf y<M)(hp:FloatKind.f64.format.mul x y=some p)(hp1:p<18446744073709551616)(hp2:rungOf p<=M)(hm:¬ (mid x=true/\mid y=true/\mid p=true)):
  Rt 119 #[.int .i64 d,.float .f64 x,.float .f64 y] (.float .f64 (pat (rndI d (fl (idx x)*fl (idx y))))) w:=by
 have hM:M=9218868437227405312:=rfl;have A1:=fun W=>run_float_arith (P:=Tryz.prog) W .mul 26 .f64 x y p hp;obtain⟨S1,e1,b1,l1,u1,v1,HP1⟩:=part_any x hx rx;obtain⟨S2,e2,b2,l2,u2,v2,HP2⟩:=part_any y hy ry;have k1:blen S1<=53:=blen_le_iff.2 (show S1<2^53 from b1);have k2:blen S2<=53:=blen_le_iff.2 (show S2<2^53 from b2)
 have kb:blen (S1*S2)<=106:=blen_le_iff.2 (by
  refine Nat.lt_of_le_of_lt (Nat.mul_le_mul_left S1 (Nat.le_of_lt b2)) ?_;rw [show (2:Nat)^106=2^53*2^53 from by rw [<- Nat.pow_add]]
  exact (Nat.mul_lt_mul_right (by omega)).2 b1)
 have hV:rv (sgn x != sgn y) (S1*S2) 1*2^(e1+e2)=fl (idx x)*fl (idx y):=by
  have hm:=rv_mul (sgn x) (sgn y) S1 1 S2 1;rw [Nat.mul_one] at hm;rw [v1,v2,zpow_add,<- hm]
  grind
 have HS0:=fun (A1:Option Addr) (m1 c1:Nat) (A2:Option Addr) (m2 c2:Nat) (W:World) (h1:U32s W A1 m1 c1 (digs S1)) (h2:U32s W A2 m2 c2 (digs S2))=>rprod_any (sgn x) A1 m1 c1 S1 e1 (sgn y) A2 m2 c2 S2 e2 W h1 h2 b1 b2 (by omega) (by omega);have HT0:=fun (A:Option Addr) (m c:Nat) (W:World) (h:U32s W A m c (digs (S1*S2)))=>to_any d (sgn x != sgn y) A m c (S1*S2) (e1+e2) W h hd (by omega) (by omega) (by omega);rw [hV] at HT0;have HS:=Hd HS0;have HT:=Hd HT0;have HX1:=Hd HP1;have HX2:=Hd HP2
 obtain⟨n1,hn1⟩:∃ z,sgn x=z:=⟨_,rfl⟩
 obtain⟨n2,hn2⟩:∃ z,sgn y=z:=⟨_,rfl⟩
 rw [hn1] at HX1 HS HT;rw [hn2] at HX2 HS HT
 obtain⟨n3,hn3⟩:∃ z,(n1 != n2)=z:=⟨_,rfl⟩
 obtain⟨S,hS⟩:∃ z,S1*S2=z:=⟨_,rfl⟩
 obtain⟨E,hE⟩:∃ z,e1+e2=z:=⟨_,rfl⟩
 rw [hn3,hS,hE] at HS HT;clear HP1 HP2 HS0 HT0 hS hE hV kb k1 k2 b1 b2 l1 l2 u1 u2 v1 v2 hn1 hn2 hn3 hp
 have ho:(decide (rungOf x=M) || decide (rungOf y=M))=false:=by
  rw [decide_eq_false (by omega),decide_eq_false (by omega)];rfl
 have HO0:=fun (W:World) (hb:Below w.heap.size w W)=>odd_two W.heap.size x y (W.alloc (.cells (Zv x y) 26)) hx hy (by omega) (by omega) (by simp [World.cell?_alloc_new]) (by simp [World.cell?_alloc_new]);rw [ho] at HO0;have HO:=Hd HO0;have HX0:=fun W=>middle_any x W hx (by omega);have HY0:=fun W=>middle_any y W hy (by omega);have HQ0:=fun W=>middle_any p W hp1 hp2
 obtain⟨mx,ex⟩:∃ z,mid x=z:=⟨_,rfl⟩
 obtain⟨my,ey⟩:∃ z,mid y=z:=⟨_,rfl⟩
 obtain⟨mp,ep⟩:∃ z,mid p=z:=⟨_,rfl⟩
 rw [ex] at HX0 hm;rw [ey] at HY0 hm;rw [ep] at HQ0 hm;have HX:=Hd HX0;have HY:=Hd HY0;have HQ:=Hd HQ0;have LB:=Hd (below_alloc w (.cells (Zv x y) 26))
 have hc:mx=false\/(mx=true/\my=false)\/(mx=true/\my=true/\mp=false):=by
  cases mx
  ·exact .inl rfl
  ·cases my
   ·exact .inr (.inl ⟨rfl,rfl⟩)
   ·cases mp
    ·exact .inr (.inr ⟨rfl,rfl,rfl⟩)
    ·exact absurd ⟨rfl,rfl,rfl⟩ hm
 obtain⟨r,hr⟩:∃ r,pat (rndI d (fl (idx x)*fl (idx y)))=r:=⟨_,rfl⟩
 rw [hr] at HT ⊢;clear HO0 ho hr rx ry hx hy hd hM hm ex ey ep HX0 HY0 HQ0 hp1 hp2
 rcases hc with rfl | ⟨rfl,rfl⟩ | ⟨rfl,rfl,rfl⟩
 all_goals
  go_enter Tryz.func119,Tryz.ntmps119
  go_wp2_with fail
  apply scope_once 0 _ _ rfl
  focus
   go_wp2_with fail;refine cy (HO.out _ (Below.refl _ _)) ?_;go_wp2_with fail;refine cy (HX.out _) ?_;go_wp2_with fail
   try (refine cy (HY.out _) ?_;go_wp2_with fail)
   try (refine cy (HQ.out _) ?_;go_wp2_with fail)
   try go_step3
   exact⟨rfl,rfl,rfl⟩
  clear HO HX HY HQ;generalize w.alloc (.cells (Zv x y) 26)=wa at LB ⊢;go_wp2_with fail;refine (HX1.out _).mono ?_;rintro e w1 ⟨A1,m1,c1,rfl,hu1,hb1⟩;have LB1:=Hd (LB.out.trans (hb1.mono LB.out.size));have U1:=Hd hu1;clear hu1 hb1 LB;go_wp2_with fail;refine (HX2.out _).mono ?_;rintro e w2 ⟨A2,m2,c2,rfl,hu2,hb2⟩;have LB2:=stB LB1 hb2 LB1.out.size;have V1:=Hd (U1.out.below hb2);have V2:=Hd hu2;clear hu2 hb2 LB1 U1;go_wp2_with fail;refine (HS.out _ _ _ _ _ _ _ V1.out V2.out).mono ?_;rintro e w3 ⟨A3,m3,c3,rfl,hu3,hb3⟩;have LB3:=stB LB2 hb3 LB2.out.size;have V3:=Hd hu3;clear hu3 hb3 LB2 V1 V2;go_wp2_with fail;refine cx (HT.out _ _ _ _ V3.out) fun w4 hb4=>?_;have LB4:=stB LB3 hb4 LB3.out.size;clear hb4 LB3 V3;go_wp2
  simp only [Exit.jump]
  go_ret
  exact⟨rfl,LB4.out⟩
theorem sgn_pat{i:Int}(h:-(M:Int)<=i/\i<=M)(h0:i≠0):sgn (pat i)=decide (i<0):=by
 have c:=pat_cases (pat_lt h.1 h.2);rw [idx_pat h.1 h.2] at c
 rcases c with ⟨c1,c2,c3,c4⟩ | ⟨c1,c2,c3,c4⟩
 ·rw [c3,decide_eq_false (by omega)]
 ·rw [c3,decide_eq_true (by omega)]
def mu(d i j:Int):Int:=if i=M\/i=-(M:Int)\/j=M\/j=-(M:Int) then (if (decide (i<0) ^^ decide (j<0))=true then -(M:Int) else M) else rndI d (fl i*fl j)
theorem rmul_pat(d i j:Int)(w:World)(hd:d=-1\/d=1)(hi:-(M:Int)<=i/\i<=M)(hj:-(M:Int)<=j/\j<=M)(ni:i≠0)(nj:j≠0):
  Rt 119 #[.int .i64 d,.float .f64 (pat i),.float .f64 (pat j)] (.float .f64 (pat (mu d i j))) w:=by
 have hM:M=9218868437227405312:=rfl;have px:=pat_lt hi.1 hi.2;have py:=pat_lt hj.1 hj.2;have rx:=rung_pat hi.1 hi.2;have ry:=rung_pat hj.1 hj.2;unfold mu
 by_cases h:i=M\/i=-(M:Int)\/j=M\/j=-(M:Int)
 ·rw [if_pos h];have hm:=mul_inf (x:=pat i) (y:=pat j) (by omega) (by omega) (by omega) (by omega) (by omega);rw [sgn_pat hi ni,sgn_pat hj nj] at hm
  obtain⟨k,hk⟩:∃ k:Int,(if (decide (i<0) ^^ decide (j<0))=true then -(M:Int) else M)=k:=⟨_,rfl⟩
  have hk2:-(M:Int)<=k/\k<=M:=by rw [<- hk];split<;>omega
  rw [hk] at hm ⊢;have hp:=fun W=>rplain (pat k) W (pat_lt hk2.1 hk2.2) (by rw [rung_pat hk2.1 hk2.2];omega);rw [idx_pat hk2.1 hk2.2] at hp;refine rmul_inf d (pat i) (pat j) (pat k) (pat k) w px py (by omega) (by omega) ?_ hm hp
  by_cases h2:rungOf (pat i)=M
  ·rw [decide_eq_true h2];rfl
  ·rw [decide_eq_true (show rungOf (pat j)=M by omega),Bool.or_true]
 ·rw [if_neg h];obtain⟨p,hp,his⟩:=mul_fin (show fin (pat i) by unfold fin;omega) (show fin (pat j) by unfold fin;omega);have hr:=near_range (val (idx (pat i))*val (idx (pat j))) 1074;have hn:=idx_natAbs p;rw [his.idx] at hn
  have hp2:rungOf p<=M:=by omega
  have e:rndI d (fl i*fl j)=rndI d (fl (idx (pat i))*fl (idx (pat j))):=by rw [idx_pat hi.1 hi.2,idx_pat hj.1 hj.2]
  rw [e]
  by_cases hm:mid (pat i)=true/\mid (pat j)=true/\mid p=true
  ·exact rmul_quick d (pat i) (pat j) p w hd px py (by omega) (by omega) hp hm.1 hm.2.1 hm.2.2
  ·exact rmul_exact d (pat i) (pat j) p w hd px py (by omega) (by omega) hp his.lt hp2 hm
end
section
open Go.RowKit
def prb(a b:Int):Int × Rat × Bool:=if a=0 then (0,0,false) else if b=0 then (0,0,true) else if es a≠0\/es b≠0 then ((if 0<a then 1 else -1),0,true) else (0,fl a*fl b,false)
def vdA(i1 j1 i2:Int):Int × Rat × Bool:=if 0<i2 then prb i2 (max i1 0) else prb i2 j1
def vdB(i1 j1 j2:Int):Int × Rat × Bool:=if j2<0 then prb j2 (max i1 0) else prb j2 j1
def FV(i1 j1 i2 j2:Int)(i j:Int):Int × Int:=
 if j1<=0\/j2<i2 then ((M:Int),-(M:Int)) else pf (vdA i1 j1 i2).1 (vdA i1 j1 i2).2.1 (vdA i1 j1 i2).2.2 (vdB i1 j1 j2).1 (vdB i1 j1 j2).2.1 (vdB i1 j1 j2).2.2 i j
def pdP(i1 j1 i2:Int):Int × Int:=if i2<0 then (mu (-1) i2 j1,mu 1 i2 j1) else if 0<i2/\0<i1 then (mu (-1) i2 i1,mu 1 i2 i1) else (0,0)
def pdQ(i1 j1 j2:Int):Int × Int:=if 0<j2 then (mu (-1) j2 j1,mu 1 j2 j1) else if j2<0/\0<i1 then (mu (-1) j2 i1,mu 1 j2 i1) else (0,0)
def dvd(i1 j1 i2 j2:Int)(i j:Int):Int × Int:=
 if j1<=0 then ((M:Int),-(M:Int)) else ctO (!decide (i2<=0/\0<=j2)) i j (pdP i1 j1 i2).1 (pdP i1 j1 i2).2 (pdQ i1 j1 j2).1 (pdQ i1 j1 j2).2
theorem fl_neg_lt{j:Int}(h:j<0):fl j<0:=by have:=fl_lt_iff.2 h;rwa [fl_zero] at this
theorem mu_prb{a b:Int}(ha:-(M:Int)<=a/\a<=M)(hb:0<b/\b<=M)(na:a≠0):mu (-1) a b=dn (prb a b).1 (prb a b).2.1/\mu 1 a b=up (prb a b).1 (prb a b).2.1:=by
 have hM:=M_val;unfold prb mu;rw [if_neg na,if_neg (show ¬ b=0 by omega)]
 by_cases h:a=M\/a=-(M:Int)\/b=M\/b=-(M:Int)
 ·have h2:es a≠0\/es b≠0:=by
   rcases h with h | h | h | h
   ·left;rw [h,es_max];omega
   ·left;rw [h,es_min];omega
   ·right;rw [h,es_max];omega
   ·omega
  rw [if_pos h,if_pos h,if_pos h2];rw [decide_eq_false (show ¬ b<0 by omega)]
  by_cases h3:0<a
  ·rw [decide_eq_false (show ¬ a<0 by omega),if_pos h3]
   have d1:(M:Int)=dn 1 0:=by unfold dn;rw [if_neg (by omega)];omega
   have u1:(M:Int)=up 1 0:=by unfold up;rw [if_neg (by omega)];omega
   exact⟨d1,u1⟩
  ·rw [decide_eq_true (show a<0 by omega),if_neg h3]
   have d1:-(M:Int)=dn (-1) 0:=by unfold dn;rw [if_neg (by omega)];omega
   have u1:-(M:Int)=up (-1) 0:=by unfold up;rw [if_neg (by omega)];omega
   exact⟨d1,u1⟩
 ·have h2:¬ (es a≠0\/es b≠0):=by
   rw [es_mid (by omega) (by omega),es_mid (by omega) (by omega)];omega
  rw [if_neg h,if_neg h,if_neg h2]
  exact⟨rfl,rfl⟩
theorem prb_kind{a b:Int}(hb:0<=b):(a=0/\prb a b=(0,0,false))\/(a≠0/\b=0/\prb a b=(0,0,true))\/(a≠0/\0<b/\(es a≠0\/es b≠0)/\prb a b=((if 0<a then 1 else -1),0,true))\/(a≠0/\0<b/\es a=0/\es b=0/\prb a b=(0,fl a*fl b,false)):=by
 unfold prb
 by_cases h:a=0
 ·exact .inl ⟨h,if_pos h⟩
 ·rw [if_neg h]
  by_cases h2:b=0
  ·exact .inr (.inl ⟨h,h2,if_pos h2⟩)
  ·rw [if_neg h2]
   by_cases h3:es a≠0\/es b≠0
   ·exact .inr (.inr (.inl ⟨h,by omega,h3,if_pos h3⟩))
   ·exact .inr (.inr (.inr ⟨h,by omega,by omega,by omega,if_neg h3⟩))
theorem prb_val{a b:Int}(h:(prb a b).1=0):(prb a b).2.1=fl a*fl b:=by
 revert h
 unfold prb
 by_cases h1:a=0
 ·subst h1;rw [if_pos rfl,fl_zero];intro _;grind
 ·rw [if_neg h1]
  by_cases h2:b=0
  ·subst h2;rw [if_pos rfl,fl_zero];intro _;grind
  ·rw [if_neg h2]
   by_cases h3:es a≠0\/es b≠0
   ·rw [if_pos h3];intro h
    exfalso
    dsimp only at h
    split at h<;>omega
   ·rw [if_neg h3];intro _;rfl
theorem mul_mono_r{a b c:Rat}(h:a<=b)(hc:0<=c):a*c<=b*c:=by
 by_cases h0:c=0
 ·subst h0;grind
 ·exact (mul_le_pos (by grind)).2 h
theorem mul_pos2{a b:Rat}(ha:0<a)(hb:0<b):0<a*b:=by
 have h:=(mul_le_pos (a:=a*b) (b:=0) hb)
 have h2:=(mul_le_pos (a:=a) (b:=0) hb)
 by_cases c:a*b<=0
 ·exfalso
  have:=h2.1 (by grind)
  grind
 ·grind
theorem vdA_kind{i1 j1 i2:Int}(h1:Ne i1 j1)(p1:0<j1)(h2:i2<M):
  ((vdA i1 j1 i2).1=0\/(vdA i1 j1 i2).1=-1)/\((vdA i1 j1 i2).2.2=true->(vdA i1 j1 i2).1=-1\/(vdA i1 j1 i2).1=0/\(vdA i1 j1 i2).2.1=0):=by
 have hM:=M_val;unfold Ne at h1;unfold vdA
 by_cases h:0<i2
 ·rw [if_pos h]
  rcases prb_kind (a:=i2) (b:=max i1 0) (by omega) with ⟨k,e⟩ | ⟨-,k,e⟩ | ⟨-,k,k2,e⟩ | ⟨-,k,k2,k3,e⟩
  ·omega
  ·rw [e];exact⟨.inl rfl,fun _=>.inr ⟨rfl,rfl⟩⟩
  ·exfalso
   rcases k2 with k2 | k2
   ·exact k2 (es_mid (by omega) (by omega))
   ·exact k2 (es_mid (by omega) (by omega))
  ·rw [e];exact⟨.inl rfl,fun h=>by cases h⟩
 ·rw [if_neg h]
  rcases prb_kind (a:=i2) (b:=j1) (by omega) with ⟨k,e⟩ | ⟨-,k,e⟩ | ⟨-,k,k2,e⟩ | ⟨-,k,k2,k3,e⟩
  ·rw [e];exact⟨.inl rfl,fun h=>by cases h⟩
  ·omega
  ·rw [e,if_neg h];exact⟨.inr rfl,fun _=>.inl rfl⟩
  ·rw [e];exact⟨.inl rfl,fun h=>by cases h⟩
theorem vdB_kind{i1 j1 j2:Int}(h1:Ne i1 j1)(p1:0<j1)(h2:-(M:Int)<j2):
  ((vdB i1 j1 j2).1=0\/(vdB i1 j1 j2).1=1)/\((vdB i1 j1 j2).2.2=true->(vdB i1 j1 j2).1=1\/(vdB i1 j1 j2).1=0/\(vdB i1 j1 j2).2.1=0):=by
 have hM:=M_val;unfold Ne at h1;unfold vdB
 by_cases h:j2<0
 ·rw [if_pos h]
  rcases prb_kind (a:=j2) (b:=max i1 0) (by omega) with ⟨k,e⟩ | ⟨-,k,e⟩ | ⟨-,k,k2,e⟩ | ⟨-,k,k2,k3,e⟩
  ·omega
  ·rw [e];exact⟨.inl rfl,fun _=>.inr ⟨rfl,rfl⟩⟩
  ·exfalso
   rcases k2 with k2 | k2
   ·exact k2 (es_mid (by omega) (by omega))
   ·exact k2 (es_mid (by omega) (by omega))
  ·rw [e];exact⟨.inl rfl,fun h=>by cases h⟩
 ·rw [if_neg h]
  rcases prb_kind (a:=j2) (b:=j1) (by omega) with ⟨k,e⟩ | ⟨-,k,e⟩ | ⟨k0,k,k2,e⟩ | ⟨-,k,k2,k3,e⟩
  ·rw [e];exact⟨.inl rfl,fun h=>by cases h⟩
  ·omega
  ·rw [e,if_pos (by omega)];exact⟨.inr rfl,fun _=>.inl rfl⟩
  ·rw [e];exact⟨.inl rfl,fun h=>by cases h⟩
theorem vd_le{i1 j1 i2 j2:Int}(h1:Ne i1 j1)(h2:Ne i2 j2)(p1:0<j1):dn (vdA i1 j1 i2).1 (vdA i1 j1 i2).2.1<=up (vdB i1 j1 j2).1 (vdB i1 j1 j2).2.1:=by
 have hM:=M_val;have n1:=h1;have n2:=h2;unfold Ne at n1 n2;obtain⟨ka,-⟩:=vdA_kind h1 p1 n2.2.2.2.1;obtain⟨kb,-⟩:=vdB_kind h1 p1 n2.2.2.2.2
 rcases ka with ka | ka
 ·rcases kb with kb | kb
  ·rw [ka,kb,dn_zero,up_zero];refine Int.le_trans (rndI_le _) (rndI_mono (.inr rfl) ?_);have ga:=fl_nonneg (j:=max i1 0) (by omega);have gb:=fl_pos p1;have gc:=fl_le_iff.2 (show max i1 0<=j1 by omega);have gd:=fl_le_iff.2 n2.2.1
   revert ka kb
   unfold vdA vdB
   by_cases hi:0<i2
   ·rw [if_pos hi,if_neg (show ¬ j2<0 by omega)];intro ka kb;rw [prb_val ka,prb_val kb];have ci:=fl_pos hi;have m1:=mul_mono_r (c:=fl i2) gc (by grind);have m2:=mul_mono_r (c:=fl j1) gd (by grind)
    grind
   ·rw [if_neg hi]
    have ci:fl i2<=0:=by have:=fl_le_iff.2 (show i2<=0 by omega);rwa [fl_zero] at this
    by_cases hj:j2<0
    ·rw [if_pos hj];intro ka kb;rw [prb_val ka,prb_val kb]
     have cj:fl j2<=0:=by have:=fl_le_iff.2 (show j2<=0 by omega);rwa [fl_zero] at this
     have m1:=mul_mono_r (c:=-fl j2) gc (by grind);have m2:=mul_mono_r (c:=fl j1) gd (by grind)
     grind
    ·rw [if_neg hj];intro ka kb;rw [prb_val ka,prb_val kb];have m2:=mul_mono_r (c:=fl j1) gd (by grind)
     exact m2
  ·rw [kb];have:=dn_lt (s:=(vdA i1 j1 i2).1) (x:=(vdA i1 j1 i2).2.1) (.inl ka);unfold up;rw [if_neg (by omega)];omega
 ·rw [ka];unfold dn;rw [if_neg (by omega)]
  rcases kb with kb | kb
  ·rw [kb,up_zero];have:=rndI_up (vdB i1 j1 j2).2.1
   omega
  ·unfold up;rw [kb,if_neg (by omega)];omega
theorem FV_iv{i1 j1 i2 j2:Int}(h1:Ne i1 j1)(h2:Iv i2 j2)(i j:Int)(hx:Iv i j):Iv (FV i1 j1 i2 j2 i j).1 (FV i1 j1 i2 j2 i j).2:=by
 unfold FV
 by_cases h:j1<=0\/j2<i2
 ·rw [if_pos h];exact Iv.none
 ·rw [if_neg h];have n2:=ne_or h2 (by omega);have n2':=n2;unfold Ne at n2'
  exact pf_iv (vdA_kind h1 (by omega) (by omega)).1 (vdB_kind h1 (by omega) (by omega)).1 (vd_le h1 n2 (by omega)) i j hx
theorem dvd_FV{i1 j1 i2 j2 i j:Int}(h1:Ne i1 j1)(h2:Ne i2 j2)(hx:Ne i j):dvd i1 j1 i2 j2 i j=FV i1 j1 i2 j2 i j:=by
 have hM:=M_val;have n1:=h1;have n2:=h2;unfold Ne at n1 n2;unfold dvd FV
 by_cases h:j1<=0
 ·rw [if_pos h,if_pos (.inl h)]
 ·rw [if_neg h,if_neg (by omega)];have z1:=rndI_zero (d:=-1) (.inl rfl);have z2:=rndI_zero (d:=1) (.inr rfl)
  have eA:pdP i1 j1 i2=(dn (vdA i1 j1 i2).1 (vdA i1 j1 i2).2.1,up (vdA i1 j1 i2).1 (vdA i1 j1 i2).2.1):=by
   unfold pdP vdA
   by_cases a:i2<0
   ·rw [if_pos a,if_neg (show ¬ 0<i2 by omega)];have m:=mu_prb (a:=i2) (b:=j1) (by omega) (by omega) (by omega);rw [m.1,m.2]
   ·rw [if_neg a]
    by_cases c:0<i2
    ·rw [if_pos c]
     by_cases f:0<i1
     ·rw [if_pos ⟨c,f⟩,show max i1 0=i1 from by omega];have m:=mu_prb (a:=i2) (b:=i1) (by omega) (by omega) (by omega);rw [m.1,m.2]
     ·rw [if_neg (by omega),show max i1 0=0 from by omega]
      have e:prb i2 0=(0,0,true):=by unfold prb;rw [if_neg (by omega),if_pos rfl]
      rw [e,dn_zero,up_zero,z1,z2]
    ·rw [if_neg (by omega),if_neg c,show i2=0 from by omega]
     have e:prb 0 j1=(0,0,false):=by unfold prb;rw [if_pos rfl]
     rw [e,dn_zero,up_zero,z1,z2]
  have eB:pdQ i1 j1 j2=(dn (vdB i1 j1 j2).1 (vdB i1 j1 j2).2.1,up (vdB i1 j1 j2).1 (vdB i1 j1 j2).2.1):=by
   unfold pdQ vdB
   by_cases a:0<j2
   ·rw [if_pos a,if_neg (show ¬ j2<0 by omega)];have m:=mu_prb (a:=j2) (b:=j1) (by omega) (by omega) (by omega);rw [m.1,m.2]
   ·rw [if_neg a]
    by_cases c:j2<0
    ·rw [if_pos c]
     by_cases f:0<i1
     ·rw [if_pos ⟨c,f⟩,show max i1 0=i1 from by omega];have m:=mu_prb (a:=j2) (b:=i1) (by omega) (by omega) (by omega);rw [m.1,m.2]
     ·rw [if_neg (by omega),show max i1 0=0 from by omega]
      have e:prb j2 0=(0,0,true):=by unfold prb;rw [if_neg (by omega),if_pos rfl]
      rw [e,dn_zero,up_zero,z1,z2]
    ·rw [if_neg (by omega),if_neg c,show j2=0 from by omega]
     have e:prb 0 j1=(0,0,false):=by unfold prb;rw [if_pos rfl]
     rw [e,dn_zero,up_zero,z1,z2]
  rw [eA,eB];obtain⟨ka,wa⟩:=vdA_kind h1 (by omega) n2.2.2.2.1;obtain⟨kb,wb⟩:=vdB_kind h1 (by omega) n2.2.2.2.2
  have hop:(!decide (i2<=0/\0<=j2))=true↔(0<i2\/j2<0):=by simp<;>omega
  refine ct_tail hx ka kb wa wb ?_ ?_
  ·rw [hop];unfold vdA
   by_cases a:0<i2
   ·rw [if_pos a]
    by_cases f:0<i1
    ·have m:=prb_kind (a:=i2) (b:=max i1 0) (by omega);rw [show max i1 0=i1 from by omega] at m ⊢
     rcases m with ⟨k,e⟩ | ⟨-,k,e⟩ | ⟨-,k,k2,e⟩ | ⟨-,k,k2,k3,e⟩
     ·omega
     ·omega
     ·exfalso
      rcases k2 with k2 | k2
      ·exact k2 (es_mid (by omega) (by omega))
      ·exact k2 (es_mid (by omega) (by omega))
     ·rw [e];have p:=mul_pos2 (fl_pos a) (fl_pos f);have q:=rndI_pos p
      constructor
      ·rintro⟨-,-,u⟩;rw [up_zero] at u;dsimp only at u;omega
      ·rintro⟨-,-,u⟩;cases u
    ·rw [show max i1 0=0 from by omega]
     have e:prb i2 0=(0,0,true):=by unfold prb;rw [if_neg (by omega),if_pos rfl]
     rw [e]
     exact⟨fun _=>⟨rfl,rfl,rfl⟩,fun _=>⟨.inl a,by rw [dn_zero];exact z1,by rw [up_zero];exact z2⟩⟩
   ·rw [if_neg a]
    rcases prb_kind (a:=i2) (b:=j1) (by omega) with ⟨k,e⟩ | ⟨-,k,e⟩ | ⟨k0,k,k2,e⟩ | ⟨k0,k,k2,k3,e⟩
    ·rw [e]
     constructor
     ·rintro⟨u,-⟩;omega
     ·rintro⟨-,-,u⟩;cases u
    ·omega
    ·rw [e,if_neg a]
     constructor
     ·rintro⟨-,u,-⟩;unfold dn at u;rw [if_neg (by omega)] at u;omega
     ·rintro⟨u,-⟩;omega
    ·rw [e]
     constructor
     ·rintro⟨-,u,-⟩;have p:=mul_pos2 (a:=-fl i2) (by have:=fl_neg_lt (show i2<0 by omega);grind) (fl_pos k);have q:=rndI_neg' (x:=fl i2*fl j1) (by grind);rw [dn_zero] at u;dsimp only at u;omega
     ·rintro⟨-,-,u⟩;cases u
  ·rw [hop];unfold vdB
   by_cases a:j2<0
   ·rw [if_pos a]
    by_cases f:0<i1
    ·have m:=prb_kind (a:=j2) (b:=max i1 0) (by omega);rw [show max i1 0=i1 from by omega] at m ⊢
     rcases m with ⟨k,e⟩ | ⟨-,k,e⟩ | ⟨-,k,k2,e⟩ | ⟨-,k,k2,k3,e⟩
     ·omega
     ·omega
     ·exfalso
      rcases k2 with k2 | k2
      ·exact k2 (es_mid (by omega) (by omega))
      ·exact k2 (es_mid (by omega) (by omega))
     ·rw [e];have p:=mul_pos2 (a:=-fl j2) (by have:=fl_neg_lt a;grind) (fl_pos f);have q:=rndI_neg' (x:=fl j2*fl i1) (by grind)
      constructor
      ·rintro⟨-,u,-⟩;rw [dn_zero] at u;dsimp only at u;omega
      ·rintro⟨-,-,u⟩;cases u
    ·rw [show max i1 0=0 from by omega]
     have e:prb j2 0=(0,0,true):=by unfold prb;rw [if_neg (by omega),if_pos rfl]
     rw [e]
     exact⟨fun _=>⟨rfl,rfl,rfl⟩,fun _=>⟨.inr a,by rw [dn_zero];exact z1,by rw [up_zero];exact z2⟩⟩
   ·rw [if_neg a]
    rcases prb_kind (a:=j2) (b:=j1) (by omega) with ⟨k,e⟩ | ⟨-,k,e⟩ | ⟨k0,k,k2,e⟩ | ⟨k0,k,k2,k3,e⟩
    ·rw [e]
     constructor
     ·rintro⟨u,-⟩;omega
     ·rintro⟨-,-,u⟩;cases u
    ·omega
    ·rw [e,if_pos (show 0<j2 by omega)]
     constructor
     ·rintro⟨-,u,-⟩;unfold dn at u;rw [if_neg (by omega)] at u;omega
     ·rintro⟨u,-⟩;omega
    ·rw [e]
     constructor
     ·rintro⟨-,-,u⟩;have q:=rndI_pos (mul_pos2 (fl_pos (show 0<j2 by omega)) (fl_pos k));rw [up_zero] at u;dsimp only at u;omega
     ·rintro⟨-,-,u⟩;cases u
end
section
open Go.RowKit
def dvA(i1 j2:Int):Int × Rat × Bool:=if 0<i1/\j2<M then (0,fl i1 / fl j2,false) else (0,0,true)
def dvB(j1 i2:Int):Int × Rat × Bool:=if j1<M/\0<i2 then (0,fl j1 / fl i2,false) else (1,0,true)
def FD(i1 j1 i2 j2:Int)(i j:Int):Int × Int:=
 if j1<=0\/j2<=0 then ((M:Int),-(M:Int)) else pf (dvA i1 j2).1 (dvA i1 j2).2.1 (dvA i1 j2).2.2 (dvB j1 i2).1 (dvB j1 i2).2.1 (dvB j1 i2).2.2 i j
def dvs(i1 j1 i2 j2:Int)(i j:Int):Int × Int:=
 if j1<=0\/j2<=0 then ((M:Int),-(M:Int)) else
  ctO true i j (if 0<i1 then ov (es i1) (ex i1) j2 else (0,0)).1 (if 0<i1 then ov (es i1) (ex i1) j2 else (0,0)).2 (if 0<i2 then ov (es j1) (ex j1) i2 else ((M:Int),(M:Int))).1 (if 0<i2 then ov (es j1) (ex j1) i2 else ((M:Int),(M:Int))).2
theorem dvA_kind{i1 j2:Int}(h2:0<j2):(dvA i1 j2).1=0/\((dvA i1 j2).2.1=0/\(dvA i1 j2).2.2=true\/0<(dvA i1 j2).2.1/\(dvA i1 j2).2.2=false/\0<i1/\j2<M/\(dvA i1 j2).2.1=fl i1 / fl j2):=by
 unfold dvA
 by_cases h:0<i1/\j2<M
 ·rw [if_pos h];exact⟨rfl,.inr ⟨div_pos' (fl_pos h.1) (fl_pos h2),rfl,h.1,h.2,rfl⟩⟩
 ·rw [if_neg h];exact⟨rfl,.inl ⟨rfl,rfl⟩⟩
theorem dvB_kind{j1 i2:Int}(h1:0<j1):((dvB j1 i2).1=1/\(dvB j1 i2).2.1=0/\(dvB j1 i2).2.2=true)\/((dvB j1 i2).1=0/\0<(dvB j1 i2).2.1/\(dvB j1 i2).2.2=false/\0<i2/\j1<M/\(dvB j1 i2).2.1=fl j1 / fl i2):=by
 unfold dvB
 by_cases h:j1<M/\0<i2
 ·rw [if_pos h];exact .inr ⟨rfl,div_pos' (fl_pos h1) (fl_pos h.2),rfl,h.2,h.1,rfl⟩
 ·rw [if_neg h];exact .inl ⟨rfl,rfl,rfl⟩
theorem dv_le{i1 j1 i2 j2:Int}(h1:i1<=j1)(h2:i2<=j2)(p1:0<j1)(p2:0<j2):dn (dvA i1 j2).1 (dvA i1 j2).2.1<=up (dvB j1 i2).1 (dvB j1 i2).2.1:=by
 have hM:=M_val;obtain⟨a0,a⟩:=dvA_kind (i1:=i1) p2
 rcases dvB_kind (i2:=i2) p1 with ⟨b0,-,-⟩ | ⟨b0,b1,b2,b3,b4,b5⟩
 ·have:=dn_lt (s:=(dvA i1 j2).1) (x:=(dvA i1 j2).2.1) (.inl a0);unfold up;rw [b0,if_neg (by omega)];omega
 ·rw [a0,b0,dn_zero,up_zero];refine Int.le_trans (rndI_le _) (rndI_mono (.inr rfl) ?_)
  rcases a with ⟨a1,-⟩ | ⟨a1,a2,a3,a4,a5⟩
  ·rw [a1];grind
  ·rw [a5,b5];have f1:=fl_pos p2;have f2:=fl_pos b3;refine div_le_div f1 f2 ?_;have e1:fl i1<=fl j1:=fl_le_iff.2 h1;have e2:fl i2<=fl j2:=fl_le_iff.2 h2;have m1:fl i1*fl i2<=fl j1*fl i2:=(mul_le_pos f2).2 e1;have m2:fl i2*fl j1<=fl j2*fl j1:=(mul_le_pos (fl_pos p1)).2 e2
   grind
theorem FD_iv{i1 j1 i2 j2:Int}(h1:i1<=j1)(h2:i2<=j2)(i j:Int)(hx:Iv i j):Iv (FD i1 j1 i2 j2 i j).1 (FD i1 j1 i2 j2 i j).2:=by
 unfold FD
 by_cases h:j1<=0\/j2<=0
 ·rw [if_pos h];exact Iv.none
 ·rw [if_neg h];refine pf_iv (.inl (dvA_kind (i1:=i1) (show 0<j2 by omega)).1) ?_ (dv_le h1 h2 (by omega) (by omega)) i j hx
  rcases dvB_kind (j1:=j1) (i2:=i2) (by omega) with k | k<;>omega
theorem dvs_FD{i1 j1 i2 j2 i j:Int}(h1:Ne i1 j1)(h2:Ne i2 j2)(hx:Ne i j):dvs i1 j1 i2 j2 i j=FD i1 j1 i2 j2 i j:=by
 have hM:=M_val;unfold Ne at *;unfold dvs FD
 by_cases h:j1<=0\/j2<=0
 ·rw [if_pos h,if_pos h]
 ·rw [if_neg h,if_neg h];have z1:=rndI_zero (d:=-1) (.inl rfl);have z2:=rndI_zero (d:=1) (.inr rfl)
  have eA:(if 0<i1 then ov (es i1) (ex i1) j2 else (0,0))=(dn (dvA i1 j2).1 (dvA i1 j2).2.1,up (dvA i1 j2).1 (dvA i1 j2).2.1):=by
   by_cases p:0<i1
   ·rw [if_pos p,es_mid (by omega) (by omega),ex_mid (by omega) (by omega)];unfold ov;rw [if_neg (by omega)]
    by_cases q:j2<M
    ·have d:dvA i1 j2=(0,fl i1 / fl j2,false):=if_pos ⟨p,q⟩;rw [d,if_neg (by have:=fl_pos p;rintro (h | h);grind;omega)];rfl
    ·have d:dvA i1 j2=(0,0,true):=if_neg (by omega);rw [d,if_pos (.inr (by omega)),dn_zero,up_zero,z1,z2]
   ·have d:dvA i1 j2=(0,0,true):=if_neg (by omega);rw [d,if_neg p,dn_zero,up_zero,z1,z2]
  have eB:(if 0<i2 then ov (es j1) (ex j1) i2 else ((M:Int),(M:Int)))=(dn (dvB j1 i2).1 (dvB j1 i2).2.1,up (dvB j1 i2).1 (dvB j1 i2).2.1):=by
   have u1:dn 1 0=M:=by unfold dn;rw [if_neg (by omega)];omega
   have u2:up 1 0=M:=by unfold up;rw [if_neg (by omega)];omega
   by_cases p:0<i2
   ·rw [if_pos p];unfold ov
    by_cases q:j1<M
    ·have d:dvB j1 i2=(0,fl j1 / fl i2,false):=if_pos ⟨q,p⟩;rw [d,es_mid (by omega) (by omega),ex_mid (by omega) (by omega),if_neg (by omega),if_neg (by have:=fl_pos (show 0<j1 by omega);rintro (h | h);grind;omega)];rfl
    ·have d:dvB j1 i2=(1,0,true):=if_neg (by omega)
     obtain rfl:j1=M:=by omega
     rw [d,es_max,if_pos (by omega),u1,u2,Int.one_mul]
   ·have d:dvB j1 i2=(1,0,true):=if_neg (by omega);rw [d,if_neg p,u1,u2]
  rw [eA,eB];obtain⟨a0,a⟩:=dvA_kind (i1:=i1) (show 0<j2 by omega);have b:=dvB_kind (j1:=j1) (i2:=i2) (by omega)
  obtain⟨⟨sa,xa,fa⟩,ea⟩:∃ z,dvA i1 j2=z:=⟨_,rfl⟩
  obtain⟨⟨sb,xb,fb⟩,eb⟩:∃ z,dvB j1 i2=z:=⟨_,rfl⟩
  rw [ea] at a0 a;rw [eb] at b;rw [ea,eb]
  dsimp only at *
  subst a0;refine ct_tail hx (.inl rfl) (by rcases b with b | b<;>omega) ?_ ?_ ?_ ?_
  ·intro h;rcases a with ⟨a1,-⟩ | ⟨-,a1,-⟩
   ·exact .inr ⟨rfl,a1⟩
   ·rw [a1] at h;cases h
  ·intro h;rcases b with ⟨b1,-,-⟩ | ⟨-,-,b1,-⟩
   ·exact .inl b1
   ·rw [b1] at h;cases h
  ·rw [dn_zero,up_zero]
   rcases a with ⟨a1,a2⟩ | ⟨a1,a2,-⟩
   ·rw [a1,a2,z1,z2];simp
   ·constructor
    ·rintro⟨-,-,h⟩;have:=rndI_pos a1;omega
    ·rintro⟨-,h,-⟩;exfalso;grind
  ·rcases b with ⟨b1,b2,b3⟩ | ⟨b1,b2,b3,-⟩
   ·rw [b1]
    constructor
    ·rintro⟨-,h,-⟩;unfold dn at h;rw [if_neg (by omega)] at h;omega
    ·rintro⟨h,-⟩;omega
   ·rw [b1,up_zero]
    constructor
    ·rintro⟨-,-,h⟩;have:=rndI_pos b2;omega
    ·rintro⟨-,h,-⟩;exfalso;grind
end
theorem q_od{s1 s2:Int}{x1 x2:Rat}{b1 b2:Int}(hs1:s1=0\/s1=-1)(hx1:s1≠0->x1=0)(hs2:s2=0\/s2=1)(hx2:s2≠0->x2=0)(hle:s1=0->s2=0->x1<=x2)(hb:b1<=b2)(h2:0<b2)(h3:b2<=M)(h1:b1<M):
  Od (qA s1 x1 b1 b2).1 (qA s1 x1 b1 b2).2.1 (qA s1 x1 b1 b2).2.2 (qB s2 x2 b1 b2).1 (qB s2 x2 b1 b2).2.1 (qB s2 x2 b1 b2).2.2:=by
 have hM:=M_val;have ka:=qA_kind hs1 hx1 hb h2 h3 h1;have kb:=qB_kind hs2 hx2 hb h2 h3 h1;have f2:=fl_pos h2;intro y1 y2
 rcases ka with ⟨a1,-,-,-⟩ | ⟨a1,a2,-,a4,a5⟩ | ⟨a1,a2,a3,a4⟩ | ⟨a1,a0,a3,a4,a5⟩
 ·omega
 all_goals rcases kb with ⟨c1,-,-,-⟩ | ⟨c1,c2,-,c4,c5⟩ | ⟨c1,c2,c3,c4⟩ | ⟨c1,c0,c3,c4,c5⟩
 all_goals first
  | omega
  | skip
 ·have p:=esx_pos hs1 a4;have q:=esx_lt hs2 c4;have:=hle p.1 q.1;exfalso;grind
 ·have p:=esx_pos hs1 a4;have q:=(esx_zero hx2).1 c4;have:=hle p.1 q.1;exfalso;grind
 ·have p:=esx_pos hs1 a4;have:=hle p.1 c3
  left
  rcases c5 with ⟨d1,d2,d3⟩ | ⟨d1,d2,d3⟩
  ·exfalso;grind
  ·rw [a2,d3];exact div_pos' d1 (fl_pos d2)
 ·have p:=(esx_zero hx1).1 a4;have q:=esx_lt hs2 c4;have:=hle p.1 q.1;exfalso;grind
 ·right
  rw [a2,c2];exact⟨rfl,a3,c3⟩
 ·have p:=(esx_zero hx1).1 a4;have:=hle p.1 c3
  left
  rcases c5 with ⟨d1,d2,d3⟩ | ⟨d1,d2,d3⟩
  ·exfalso;grind
  ·rw [a2,d3];exact div_pos' d1 (fl_pos d2)
 ·have q:=esx_lt hs2 c4;have:=hle a3 q.1
  left
  rcases a5 with ⟨d1,d2,d3⟩ | ⟨d1,d2,d3⟩
  ·exfalso;grind
  ·rw [c2,d3];exact div_neg' d1 (fl_pos d2)
 ·have q:=(esx_zero hx2).1 c4;have:=hle a3 q.1
  left
  rcases a5 with ⟨d1,d2,d3⟩ | ⟨d1,d2,d3⟩
  ·exfalso;grind
  ·rw [c2,d3];exact div_neg' d1 (fl_pos d2)
 ·have hh:=hle a3 c3;have fb:0<b1->fl b1<=fl b2:=fun _=>fl_le_iff.2 hb
  have le:(qA s1 x1 b1 b2).2.1<=(qB s2 x2 b1 b2).2.1:=by
   rcases a5 with ⟨d1,d2,d3⟩ | ⟨d1,d2,d3⟩
   ·rcases c5 with ⟨e1,e2,e3⟩ | ⟨e1,e2,e3⟩
    ·exfalso;grind
    ·rw [d3,e3];have f1:=fl_pos e2;refine div_le_div f2 f1 ?_;have m1:x1*fl b1<=x2*fl b1:=(mul_le_pos f1).2 hh;have m2:fl b1*x2<=fl b2*x2:=(mul_le_pos e1).2 (fb e2)
     grind
   ·have f1:=fl_pos d2
    rcases c5 with ⟨e1,e2,e3⟩ | ⟨e1,e2,e3⟩
    ·rw [d3,e3];refine div_le_div f1 f2 ?_;have m1:x1*fl b2<=x2*fl b2:=(mul_le_pos f2).2 hh;have m2:fl b1*(-x2)<=fl b2*(-x2):=(mul_le_pos (by grind)).2 (fb d2)
     grind
    ·rw [d3,e3];have:=div_neg' d1 f1;have:=div_pos' e1 f1
     grind
  by_cases e:(qA s1 x1 b1 b2).2.1=(qB s2 x2 b1 b2).2.1
  ·exact .inr ⟨e,a0,c0⟩
  ·exact .inl (by grind)
theorem Cl.PF{b1 b2 s1 s2:Int}{x1 x2:Rat}(k:NumOk s1 x1 s2 x2)(hb:Ne b1 b2):Cl (Go.Proofs.YthlmlmfebpjgdaaGreatDoor.PF b1 b2 s1 x1 s2 x2):=by
 by_cases h:b2<=0
 ·have e:Go.Proofs.YthlmlmfebpjgdaaGreatDoor.PF b1 b2 s1 x1 s2 x2=fun _ _=>((M:Int),-(M:Int)):=by funext i j;unfold Go.Proofs.YthlmlmfebpjgdaaGreatDoor.PF;rw [if_pos h]
  rw [e];exact Cl.none
 ·have e:Go.Proofs.YthlmlmfebpjgdaaGreatDoor.PF b1 b2 s1 x1 s2 x2=Go.Proofs.YthlmlmfebpjgdaaGreatDoor.pf (qA s1 x1 b1 b2).1 (qA s1 x1 b1 b2).2.1 (qA s1 x1 b1 b2).2.2 (qB s2 x2 b1 b2).1 (qB s2 x2 b1 b2).2.1 (qB s2 x2 b1 b2).2.2:=by funext i j;unfold Go.Proofs.YthlmlmfebpjgdaaGreatDoor.PF;rw [if_neg h]
  rw [e];unfold Ne at hb;refine Cl.pf ?_ ?_ (q_od k.a1 k.a2 k.b1 k.b2 k.le hb.2.1 (by omega) hb.2.2.1 hb.2.2.2.1)
  ·rcases qA_kind k.a1 k.a2 hb.2.1 (by omega) hb.2.2.1 hb.2.2.2.1 with k | k | k | k<;>omega
  ·rcases qB_kind k.b1 k.b2 hb.2.1 (by omega) hb.2.2.1 hb.2.2.2.1 with k | k | k | k<;>omega
theorem Cl.fa{b1 b2 s1 s2:Int}{x1 x2:Rat}(k:NumOk s1 x1 s2 x2)(hb:Ne b1 b2):Cl (Go.Proofs.YthlmlmfebpjgdaaGreatDoor.fa b1 b2 s1 x1 s2 x2):=by
 by_cases h:(b1<=0/\0<=b2)/\esx s1 x1<=0/\0<=esx s2 x2
 ·have e:Go.Proofs.YthlmlmfebpjgdaaGreatDoor.fa b1 b2 s1 x1 s2 x2=fun i j=>(i,j):=by funext i j;unfold Go.Proofs.YthlmlmfebpjgdaaGreatDoor.fa;rw [if_pos h]
  rw [e];exact Cl.id
 ·have e:Go.Proofs.YthlmlmfebpjgdaaGreatDoor.fa b1 b2 s1 x1 s2 x2=fun i j=>(min (Go.Proofs.YthlmlmfebpjgdaaGreatDoor.PF b1 b2 s1 x1 s2 x2 i j).1 (-(Go.Proofs.YthlmlmfebpjgdaaGreatDoor.PF (-b2) (-b1) s1 x1 s2 x2 (-j) (-i)).2),max (Go.Proofs.YthlmlmfebpjgdaaGreatDoor.PF b1 b2 s1 x1 s2 x2 i j).2 (-(Go.Proofs.YthlmlmfebpjgdaaGreatDoor.PF (-b2) (-b1) s1 x1 s2 x2 (-j) (-i)).1)):=by funext i j;unfold Go.Proofs.YthlmlmfebpjgdaaGreatDoor.fa;rw [if_neg h]
  rw [e]
  exact (Cl.PF k hb).hull (Cl.PF k hb.neg).ng
theorem dv_od{i1 j1 i2 j2:Int}(h1:i1<=j1)(h2:i2<=j2)(p1:0<j1)(p2:0<j2):Od (dvA i1 j2).1 (dvA i1 j2).2.1 (dvA i1 j2).2.2 (dvB j1 i2).1 (dvB j1 i2).2.1 (dvB j1 i2).2.2:=by
 have hM:=M_val;intro y1 y2;obtain⟨a0,a⟩:=dvA_kind (i1:=i1) p2
 rcases dvB_kind (i2:=i2) p1 with ⟨b0,-,-⟩ | ⟨b0,b1,b2,b3,b4,b5⟩
 ·omega
 ·rcases a with ⟨a1,-⟩ | ⟨a1,a2,a3,a4,a5⟩
  ·left;rw [a1];exact b1
  ·have le:(dvA i1 j2).2.1<=(dvB j1 i2).2.1:=by
    rw [a5,b5];have f1:=fl_pos p2;have f2:=fl_pos b3;refine div_le_div f1 f2 ?_;have e1:fl i1<=fl j1:=fl_le_iff.2 h1;have e2:fl i2<=fl j2:=fl_le_iff.2 h2;have m1:fl i1*fl i2<=fl j1*fl i2:=(mul_le_pos f2).2 e1;have m2:fl i2*fl j1<=fl j2*fl j1:=(mul_le_pos (fl_pos p1)).2 e2
    grind
   by_cases e:(dvA i1 j2).2.1=(dvB j1 i2).2.1
   ·exact .inr ⟨e,a2,b2⟩
   ·exact .inl (by grind)
theorem Cl.FD{i1 j1 i2 j2:Int}(h1:i1<=j1)(h2:i2<=j2):Cl (Go.Proofs.YthlmlmfebpjgdaaGreatDoor.FD i1 j1 i2 j2):=by
 by_cases h:j1<=0\/j2<=0
 ·have e:Go.Proofs.YthlmlmfebpjgdaaGreatDoor.FD i1 j1 i2 j2=fun _ _=>((M:Int),-(M:Int)):=by funext i j;unfold Go.Proofs.YthlmlmfebpjgdaaGreatDoor.FD;rw [if_pos h]
  rw [e];exact Cl.none
 ·have e:Go.Proofs.YthlmlmfebpjgdaaGreatDoor.FD i1 j1 i2 j2=Go.Proofs.YthlmlmfebpjgdaaGreatDoor.pf (dvA i1 j2).1 (dvA i1 j2).2.1 (dvA i1 j2).2.2 (dvB j1 i2).1 (dvB j1 i2).2.1 (dvB j1 i2).2.2:=by funext i j;unfold Go.Proofs.YthlmlmfebpjgdaaGreatDoor.FD;rw [if_neg h]
  rw [e];refine Cl.pf (.inl (dvA_kind (i1:=i1) (show 0<j2 by omega)).1) ?_ (dv_od h1 h2 (by omega) (by omega))
  rcases dvB_kind (j1:=j1) (i2:=i2) (by omega) with k | k<;>omega
theorem vd_od{i1 j1 i2 j2:Int}(h1:Ne i1 j1)(h2:Ne i2 j2)(p1:0<j1):Od (vdA i1 j1 i2).1 (vdA i1 j1 i2).2.1 (vdA i1 j1 i2).2.2 (vdB i1 j1 j2).1 (vdB i1 j1 j2).2.1 (vdB i1 j1 j2).2.2:=by
 have hM:=M_val;have n1:=h1;have n2:=h2;unfold Ne at n1 n2;intro ka kb;have oa:=(vdA_kind (i2:=i2) h1 p1 n2.2.2.2.1).2;have ob:=(vdB_kind (j2:=j2) h1 p1 n2.2.2.2.2).2;have ga:=fl_nonneg (j:=max i1 0) (by omega);have gb:=fl_pos p1;have gc:=fl_le_iff.2 (show max i1 0<=j1 by omega);have gd:=fl_le_iff.2 n2.2.1
 have le:(vdA i1 j1 i2).2.1<=(vdB i1 j1 j2).2.1:=by
  revert ka kb
  clear oa ob;unfold vdA vdB
  by_cases hi:0<i2
  ·rw [if_pos hi,if_neg (show ¬ j2<0 by omega)];intro ka kb;rw [prb_val ka,prb_val kb];have ci:=fl_pos hi;have m1:=mul_mono_r (c:=fl i2) gc (by grind);have m2:=mul_mono_r (c:=fl j1) gd (by grind)
   grind
  ·rw [if_neg hi]
   have ci:fl i2<=0:=by have:=fl_le_iff.2 (show i2<=0 by omega);rwa [fl_zero] at this
   by_cases hj:j2<0
   ·rw [if_pos hj];intro ka kb;rw [prb_val ka,prb_val kb]
    have cj:fl j2<=0:=by have:=fl_le_iff.2 (show j2<=0 by omega);rwa [fl_zero] at this
    have m1:=mul_mono_r (c:=-fl j2) gc (by grind);have m2:=mul_mono_r (c:=fl j1) gd (by grind)
    grind
   ·rw [if_neg hj];intro ka kb;rw [prb_val ka,prb_val kb]
    exact mul_mono_r (c:=fl j1) gd (by grind)
 by_cases e:(vdA i1 j1 i2).2.1=(vdB i1 j1 j2).2.1
 ·right
  refine⟨e,?_,?_⟩
  ·by_cases o:(vdA i1 j1 i2).2.2=true
   ·exfalso
    have z:(vdA i1 j1 i2).2.1=0:=by rcases oa o with q | q;omega;exact q.2
    -- the lower bound is 0 and open: i2 above 0
    have e2:(vdB i1 j1 j2).2.1=0:=by rw [<- e];exact z
    revert z e2 o ka kb
    clear e le oa ob;unfold vdA vdB
    by_cases hi:0<i2
    ·rw [if_pos hi,if_neg (show ¬ j2<0 by omega)];intro ka kb o z e2;rw [prb_val kb] at e2;have:=mul_pos2 (fl_pos (show 0<j2 by omega)) gb
     grind
    ·rw [if_neg hi];intro ka kb o z e2;rw [prb_val ka] at z
     by_cases h0:i2=0
     ·subst h0;unfold prb at o;rw [if_pos rfl] at o;cases o
     ·have ci:fl i2<0:=by have:=fl_lt_iff.2 (show i2<0 by omega);rwa [fl_zero] at this
      have:=mul_pos2 (show 0 < -fl i2 by grind) gb
      grind
   ·exact Bool.eq_false_iff.2 o
  ·by_cases o:(vdB i1 j1 j2).2.2=true
   ·exfalso
    have z:(vdB i1 j1 j2).2.1=0:=by rcases ob o with q | q;omega;exact q.2
    have e2:(vdA i1 j1 i2).2.1=0:=by rw [e];exact z
    revert z e2 o ka kb
    clear e le oa ob;unfold vdA vdB
    by_cases hj:j2<0
    ·rw [if_neg (show ¬ 0<i2 by omega),if_pos hj];intro ka kb o z e2;rw [prb_val ka] at e2
     have ci:fl i2<0:=by have:=fl_lt_iff.2 (show i2<0 by omega);rwa [fl_zero] at this
     have:=mul_pos2 (show 0 < -fl i2 by grind) gb
     grind
    ·rw [if_neg hj];intro ka kb o z e2;rw [prb_val kb] at z
     by_cases h0:j2=0
     ·subst h0;unfold prb at o;rw [if_pos rfl] at o;cases o
     ·have:=mul_pos2 (fl_pos (show 0<j2 by omega)) gb
      grind
   ·exact Bool.eq_false_iff.2 o
 ·exact .inl (by grind)
theorem Cl.FV{i1 j1 i2 j2:Int}(h1:Ne i1 j1)(h2:Ne i2 j2):Cl (Go.Proofs.YthlmlmfebpjgdaaGreatDoor.FV i1 j1 i2 j2):=by
 by_cases h:j1<=0\/j2<i2
 ·have e:Go.Proofs.YthlmlmfebpjgdaaGreatDoor.FV i1 j1 i2 j2=fun _ _=>((M:Int),-(M:Int)):=by funext i j;unfold Go.Proofs.YthlmlmfebpjgdaaGreatDoor.FV;rw [if_pos h]
  rw [e];exact Cl.none
 ·have e:Go.Proofs.YthlmlmfebpjgdaaGreatDoor.FV i1 j1 i2 j2=Go.Proofs.YthlmlmfebpjgdaaGreatDoor.pf (vdA i1 j1 i2).1 (vdA i1 j1 i2).2.1 (vdA i1 j1 i2).2.2 (vdB i1 j1 j2).1 (vdB i1 j1 j2).2.1 (vdB i1 j1 j2).2.2:=by funext i j;unfold Go.Proofs.YthlmlmfebpjgdaaGreatDoor.FV;rw [if_neg h]
  rw [e];have n2:=h2;unfold Ne at n2;have ka:=(vdA_kind (i2:=i2) h1 (by omega) n2.2.2.2.1).1;have kb:=(vdB_kind (j2:=j2) h1 (by omega) n2.2.2.2.2).1
  exact Cl.pf ka kb (vd_od h1 h2 (by omega))
section
open Go.RowKit
def In(i j:Int)(v:Rat):Prop:=i<=rndI (-1) v/\rndI 1 v<=j
theorem In.neg{i j:Int}{v:Rat}(h:In i j v):In (-j) (-i) (-v):=by
 have a:=rndI_neg (d:=1) (.inr rfl) v;have b:=rndI_neg (d:=-1) (.inl rfl) v;rw [show (-(1:Int))=-1 from rfl] at a;rw [show (-(-1:Int))=1 from rfl] at b;obtain⟨h1,h2⟩:=h
 exact⟨by omega,by omega⟩
theorem In.lo{i j:Int}{v:Rat}(h:In i j v)(h1:-(M:Int)<i):fl i<=v:=by
 have a:=rndI_down v
 exact (a.2.2 i h1 (by have:=h.1;omega)).1 h.1
theorem In.hi{i j:Int}{v:Rat}(h:In i j v)(h1:j<M):v<=fl j:=by
 have a:=rndI_up v
 exact (a.2.2 j (by have:=h.2;omega) h1).1 h.2
theorem In.hull{a b c d:Int}{v:Rat}(h:In a b v\/In c d v):In (min a c) (max b d) v:=by
 rcases h with h | h
 ·exact⟨by have:=h.1;omega,by have:=h.2;omega⟩
 ·exact⟨by have:=h.1;omega,by have:=h.2;omega⟩
end
section
open Go.RowKit
attribute [local go_sem] run_store_float run_eqf
end
section
open Go.RowKit
attribute [local go_sem] run_store_float
theorem ExI.setB{w:World}{s:Int}{g:Bool}{A:Option Addr}{n c:Nat}{E:Int}{x:Rat}(h:ExI w s g A n c E x){r:Nat}{t:TypeId}{cs:Array Value}(hb:Blk w r t cs)(hc:NoWd cs)(i:Nat)(vs:List Value):ExI (Proofs.YthlmlmfebpjgdaaGreatDoor.sets w r i vs) s g A n c E x:=
 h.keep fun _ hu=>hu.sets hb hc i vs
theorem ExI.setsE{w W':World}{s:Int}{g:Bool}{A:Option Addr}{n c:Nat}{E:Int}{x:Rat}(h:ExI w s g A n c E x){r:Nat}{t:TypeId}{cs:Array Value}{i:Nat}{vs:List Value}(hb:Blk w r t cs)(hc:NoWd cs)(e:Proofs.YthlmlmfebpjgdaaGreatDoor.sets w r i vs=W'):ExI W' s g A n c E x:=e ▸ h.setB hb hc i vs
end
section
open Go.RowKit
end
end Go.Proofs.YthlmlmfebpjgdaaGreatDoor
