/-
Lemmas for the statement: MathT NextT AddQ LdT.
-/
import Derived.Test.YthlmlmfebpjgdaaGreatDoorPGoA
import Derived.Test.YthlmlmfebpjgdaaGreatDoorM02
import Derived.Test.YthlmlmfebpjgdaaGreatDoorM08
import Derived.Test.YthlmlmfebpjgdaaGreatDoorM01
import Derived.Laws.FloatArith
import Derived.Laws.Bits128
set_option linter.unusedSimpArgs false
set_option linter.unusedVariables false
set_option maxHeartbeats 12800000
namespace Go.Proofs.YthlmlmfebpjgdaaGreatDoor
section
open Go.RowKit
attribute [local go_sem] run_store_float run_frombits run_bitsof run_negf
theorem ord_lt{a b:Nat}(ha:rungOf a<=M)(hb:rungOf b<=M)(h:idx a<idx b):FloatKind.f64.format.order a b=some .lt:=by
 have:=order_real ha hb;rw [Int.compare_eq_lt.2 h] at this;exact this
theorem ord_eq{a b:Nat}(ha:rungOf a<=M)(hb:rungOf b<=M)(h:idx a=idx b):FloatKind.f64.format.order a b=some .eq:=by
 have:=order_real ha hb;rw [Int.compare_eq_eq.2 h] at this;exact this
theorem ord_gt{a b:Nat}(ha:rungOf a<=M)(hb:rungOf b<=M)(h:idx b<idx a):FloatKind.f64.format.order a b=some .gt:=by
 have:=order_real ha hb;rw [Int.compare_eq_gt.2 h] at this;exact this
theorem real_zero:rungOf 0<=M:=by decide
theorem idx_zero:idx 0=0:=by decide
theorem real_max:rungOf 9218868437227405312<=M:=by decide
theorem real_min:rungOf 18442240474082181120<=M:=by decide
theorem idx_max:idx 9218868437227405312=M:=by decide
theorem idx_min:idx 18442240474082181120=-(M:Int):=by decide
theorem real_top:rungOf 9218868437227405311<=M:=by decide
theorem idx_top:idx 9218868437227405311=(M:Int) - 1:=by decide
theorem abs_any(b:Nat)(w:World)(hb:b<18446744073709551616):Calls Tryz.prog 117 #[.float .f64 b] w fun e w'=>e=.returned (.float .f64 (rungOf b))/\w=w':=by
 have h:=size_i hb;have hf:=fun W=>run_frombits (rungOf b) W
 go_enter Tryz.func117,Tryz.ntmps117
 go_wp2
 go_ret
 exact⟨rfl,rfl⟩
theorem isnanf(b:Nat)(w:World)(hr:rungOf b<=M):Calls Tryz.prog 221 #[.float .f64 b] w fun e w'=>e=.returned (.bool false)/\w=w':=by
 have h:=ord_eq hr hr rfl
 go_enter Tryz.func221,Tryz.ntmps221
 go_wp2
 go_ret
 exact⟨rfl,rfl⟩
theorem rung_idx{b:Nat}(h:b<9223372036854775808):rungOf b=b/\idx b=(b:Int):=by
 have:=pat_cases (b:=b) (by omega)
 omega
theorem isinff(b:Nat)(w:World)(hb:b<18446744073709551616)(hr:rungOf b<=M):Calls Tryz.prog 161 #[.float .f64 b,.int .i64 0] w fun e w'=>e=.returned (.bool (decide (rungOf b=M)))/\w=w':=by
 have HA:=Hd (abs_any b w hb);have hM:M=9218868437227405312:=rfl
 obtain⟨r,hrr⟩:∃ r,rungOf b=r:=⟨_,rfl⟩
 rw [hrr] at HA hr ⊢;have h1:=rung_idx (b:=r) (by omega)
 by_cases h:r=M
 ·have ho:=ord_gt (a:=r) (b:=9218868437227405311) (by omega) real_top (by rw [h1.2,idx_top];omega);rw [decide_eq_true h];clear h1 h hrr hr hM
  go_enter Tryz.func161,Tryz.ntmps161
  go_wp2_with fail;refine HA.out.mono ?_;rintro e w' ⟨rfl,rfl⟩;go_wp2
  go_ret
  exact⟨rfl,rfl⟩
 ·have ho:FloatKind.f64.format.order r 9218868437227405311=some .lt\/FloatKind.f64.format.order r 9218868437227405311=some .eq:=by
   by_cases h2:r=M - 1
   ·exact .inr (ord_eq (by omega) real_top (by rw [h1.2,idx_top];omega))
   ·exact .inl (ord_lt (by omega) real_top (by rw [h1.2,idx_top];omega))
  rw [decide_eq_false h];clear h1 h hrr hr hM
  rcases ho with ho | ho
  all_goals
   go_enter Tryz.func161,Tryz.ntmps161
   go_wp2_with fail;refine HA.out.mono ?_;rintro e w' ⟨rfl,rfl⟩;go_wp2
   go_ret
   exact⟨rfl,rfl⟩
theorem rplain(b:Nat)(w:World)(hb:b<18446744073709551616)(hr:rungOf b<=M):Calls Tryz.prog 184 #[.float .f64 b] w fun e w'=>e=.returned (.float .f64 (pat (idx b)))/\w=w':=by
 have hp:=pl_real hb hr
 by_cases h:idx b=0
 ·have ho:=ord_eq hr real_zero (by rw [idx_zero];exact h);rw [h,pat_zero];clear hp h hr
  go_enter Tryz.func184,Tryz.ntmps184
  go_wp2
  go_ret
  exact⟨rfl,rfl⟩
 ·have ho:FloatKind.f64.format.order b 0=some .lt\/FloatKind.f64.format.order b 0=some .gt:=by
   rcases Int.lt_trichotomy (idx b) 0 with h1 | h1 | h1
   ·exact .inl (ord_lt hr real_zero (by rw [idx_zero];exact h1))
   ·exact absurd h1 h
   ·exact .inr (ord_gt hr real_zero (by rw [idx_zero];exact h1))
  have e:pat (idx b)=b:=by
   rw [<- hp];unfold pl;have:=pat_cases hb;rw [if_neg (by omega),if_neg (by omega)]
  rw [e];clear hp h hr e
  rcases ho with ho | ho
  all_goals
   go_enter Tryz.func184,Tryz.ntmps184
   go_wp2
   go_ret
   exact⟨rfl,rfl⟩
def NextTo(w:World)(k:Int)(e:Ending)(w':World):Prop:=∃ r,e=.returned (.float .f64 r)/\r<18446744073709551616/\rungOf r<=M/\idx r=k/\w=w'
theorem copy_pos(w:World):Calls Tryz.prog 167 #[.float .f64 1,.float .f64 9218868437227405312] w fun e w'=>e=.returned (.float .f64 1)/\w=w':=by
 have h1:bits .andNot .u64 (1:Int) 9223372036854775808=1:=by decide
 have h2:bits .and .u64 (9218868437227405312:Int) 9223372036854775808=0:=by decide
 have h3:bits .or .u64 (1:Int) 0=1:=by decide
 have f1:∀ W:World,(callFunc 73 #[.float .f64 1]).run Tryz.prog W=.ok (.value (.int .u64 1)) W:=fun W=>run_bitsof 1 W;have f2:∀ W:World,(callFunc 73 #[.float .f64 9218868437227405312]).run Tryz.prog W=.ok (.value (.int .u64 9218868437227405312)) W:=fun W=>run_bitsof 9218868437227405312 W;have f3:∀ W:World,(callFunc 74 #[.int .u64 1]).run Tryz.prog W=.ok (.value (.float .f64 1)) W:=fun W=>run_frombits 1 W
 go_enter Tryz.func167,Tryz.ntmps167
 go_wp2
 go_ret
 exact⟨rfl,rfl⟩
theorem copy_neg(w:World):Calls Tryz.prog 167 #[.float .f64 1,.float .f64 18442240474082181120] w fun e w'=>e=.returned (.float .f64 9223372036854775809)/\w=w':=by
 have h1:bits .andNot .u64 (1:Int) 9223372036854775808=1:=by decide
 have h2:bits .and .u64 (18442240474082181120:Int) 9223372036854775808=9223372036854775808:=by decide
 have h3:bits .or .u64 (1:Int) 9223372036854775808=9223372036854775809:=by decide
 have f1:∀ W:World,(callFunc 73 #[.float .f64 1]).run Tryz.prog W=.ok (.value (.int .u64 1)) W:=fun W=>run_bitsof 1 W;have f2:∀ W:World,(callFunc 73 #[.float .f64 18442240474082181120]).run Tryz.prog W=.ok (.value (.int .u64 18442240474082181120)) W:=fun W=>run_bitsof 18442240474082181120 W;have f3:∀ W:World,(callFunc 74 #[.int .u64 9223372036854775809]).run Tryz.prog W=.ok (.value (.float .f64 9223372036854775809)) W:=fun W=>run_frombits 9223372036854775809 W
 go_enter Tryz.func167,Tryz.ntmps167
 go_wp2
 go_ret
 exact⟨rfl,rfl⟩
end
section
open Go.RowKit
attribute [local go_sem] run_store_float run_frombits run_bitsof run_negf
theorem next_up(s:Nat)(w:World)(hs:s<18446744073709551616)(hf:rungOf s<M):Calls Tryz.prog 227 #[.float .f64 s,.float .f64 9218868437227405312] w (NextTo w (idx s+1)):=by
 have hM:M=9218868437227405312:=rfl
 have hr:rungOf s<=M:=by omega
 have hc:=pat_cases hs;have hb:=idx_bounds hr;have N1:=Hd (isnanf s w hr);have N2:=Hd (isnanf 9218868437227405312 w real_max);have o1:=ord_lt hr real_max (by rw [idx_max];omega);have o2:=ord_gt real_max hr (by rw [idx_max];omega)
 rcases Int.lt_trichotomy (idx s) 0 with h | h | h
 ·have o3:=ord_lt hr real_zero (by rw [idx_zero];exact h);have hc2:=pat_cases (b:=s - 1) (by omega);have H:=Hd (show s - 1<18446744073709551616/\rungOf (s - 1)<=M/\idx (s - 1)=idx s+1 from by omega)
  have e1:(s:Int) - 1=((s - 1:Nat):Int):=by omega
  have f1:∀ W:World,(callFunc 74 #[.int .u64 ((s:Int) - 1)]).run Tryz.prog W=.ok (.value (.float .f64 (s - 1))) W:=fun W=>by rw [e1];exact run_frombits (s - 1) W
  have b1:0<=(s:Int) - 1/\(s:Int) - 1<18446744073709551616:=by omega
  clear hc hc2 hb h hM e1 hr hf
  go_enter Tryz.func227,Tryz.ntmps227
  go_wp2_with fail;refine N1.out.mono ?_;rintro e w' ⟨rfl,rfl⟩;go_wp2_with fail;refine N2.out.mono ?_;rintro e w' ⟨rfl,rfl⟩;go_wp2
  go_ret
  exact⟨_,rfl,H.out.1,H.out.2.1,H.out.2.2,rfl⟩
 ·have o3:=ord_eq hr real_zero (by rw [idx_zero];exact h);have HC:=Hd (copy_pos w);have f1:∀ W:World,(callFunc 74 #[.int .u64 1]).run Tryz.prog W=.ok (.value (.float .f64 1)) W:=fun W=>run_frombits 1 W;have H:=Hd (show rungOf 1<=M/\idx 1=idx s+1 from⟨by decide,by rw [h];decide⟩);clear hc hb h hM hr hf
  go_enter Tryz.func227,Tryz.ntmps227
  go_wp2_with fail;refine N1.out.mono ?_;rintro e w' ⟨rfl,rfl⟩;go_wp2_with fail;refine N2.out.mono ?_;rintro e w' ⟨rfl,rfl⟩;go_wp2_with fail;refine HC.out.mono ?_;rintro e w' ⟨rfl,rfl⟩;go_wp2
  go_ret
  exact⟨_,rfl,by decide,H.out.1,H.out.2,rfl⟩
 ·have o3:=ord_gt hr real_zero (by rw [idx_zero];exact h);have hc2:=pat_cases (b:=s+1) (by omega);have H:=Hd (show s+1<18446744073709551616/\rungOf (s+1)<=M/\idx (s+1)=idx s+1 from by omega)
  have e1:(s:Int)+1=((s+1:Nat):Int):=by omega
  have f1:∀ W:World,(callFunc 74 #[.int .u64 ((s:Int)+1)]).run Tryz.prog W=.ok (.value (.float .f64 (s+1))) W:=fun W=>by rw [e1];exact run_frombits (s+1) W
  have b1:0<=(s:Int)+1/\(s:Int)+1<18446744073709551616:=by omega
  clear hc hc2 hb h hM e1 hr hf
  go_enter Tryz.func227,Tryz.ntmps227
  go_wp2_with fail;refine N1.out.mono ?_;rintro e w' ⟨rfl,rfl⟩;go_wp2_with fail;refine N2.out.mono ?_;rintro e w' ⟨rfl,rfl⟩;go_wp2
  go_ret
  exact⟨_,rfl,H.out.1,H.out.2.1,H.out.2.2,rfl⟩
theorem next_down(s:Nat)(w:World)(hs:s<18446744073709551616)(hf:rungOf s<M):Calls Tryz.prog 227 #[.float .f64 s,.float .f64 18442240474082181120] w (NextTo w (idx s - 1)):=by
 have hM:M=9218868437227405312:=rfl
 have hr:rungOf s<=M:=by omega
 have hc:=pat_cases hs;have hb:=idx_bounds hr;have N1:=Hd (isnanf s w hr);have N2:=Hd (isnanf 18442240474082181120 w real_min);have o1:=ord_gt hr real_min (by rw [idx_min];omega);have o2:=ord_lt real_min hr (by rw [idx_min];omega)
 rcases Int.lt_trichotomy (idx s) 0 with h | h | h
 ·have o3:=ord_lt hr real_zero (by rw [idx_zero];exact h);have hc2:=pat_cases (b:=s+1) (by omega);have H:=Hd (show s+1<18446744073709551616/\rungOf (s+1)<=M/\idx (s+1)=idx s - 1 from by omega)
  have e1:(s:Int)+1=((s+1:Nat):Int):=by omega
  have f1:∀ W:World,(callFunc 74 #[.int .u64 ((s:Int)+1)]).run Tryz.prog W=.ok (.value (.float .f64 (s+1))) W:=fun W=>by rw [e1];exact run_frombits (s+1) W
  have b1:0<=(s:Int)+1/\(s:Int)+1<18446744073709551616:=by omega
  clear hc hc2 hb h hM e1 hr hf
  go_enter Tryz.func227,Tryz.ntmps227
  go_wp2_with fail;refine N1.out.mono ?_;rintro e w' ⟨rfl,rfl⟩;go_wp2_with fail;refine N2.out.mono ?_;rintro e w' ⟨rfl,rfl⟩;go_wp2
  go_ret
  exact⟨_,rfl,H.out.1,H.out.2.1,H.out.2.2,rfl⟩
 ·have o3:=ord_eq hr real_zero (by rw [idx_zero];exact h);have HC:=Hd (copy_neg w);have f1:∀ W:World,(callFunc 74 #[.int .u64 1]).run Tryz.prog W=.ok (.value (.float .f64 1)) W:=fun W=>run_frombits 1 W;have H:=Hd (show rungOf 9223372036854775809<=M/\idx 9223372036854775809=idx s - 1 from⟨by decide,by rw [h];decide⟩);clear hc hb h hM hr hf
  go_enter Tryz.func227,Tryz.ntmps227
  go_wp2_with fail;refine N1.out.mono ?_;rintro e w' ⟨rfl,rfl⟩;go_wp2_with fail;refine N2.out.mono ?_;rintro e w' ⟨rfl,rfl⟩;go_wp2_with fail;refine HC.out.mono ?_;rintro e w' ⟨rfl,rfl⟩;go_wp2
  go_ret
  exact⟨_,rfl,by decide,H.out.1,H.out.2,rfl⟩
 ·have o3:=ord_gt hr real_zero (by rw [idx_zero];exact h);have hc2:=pat_cases (b:=s - 1) (by omega);have H:=Hd (show s - 1<18446744073709551616/\rungOf (s - 1)<=M/\idx (s - 1)=idx s - 1 from by omega)
  have e1:(s:Int) - 1=((s - 1:Nat):Int):=by omega
  have f1:∀ W:World,(callFunc 74 #[.int .u64 ((s:Int) - 1)]).run Tryz.prog W=.ok (.value (.float .f64 (s - 1))) W:=fun W=>by rw [e1];exact run_frombits (s - 1) W
  have b1:0<=(s:Int) - 1/\(s:Int) - 1<18446744073709551616:=by omega
  clear hc hc2 hb h hM e1 hr hf
  go_enter Tryz.func227,Tryz.ntmps227
  go_wp2_with fail;refine N1.out.mono ?_;rintro e w' ⟨rfl,rfl⟩;go_wp2_with fail;refine N2.out.mono ?_;rintro e w' ⟨rfl,rfl⟩;go_wp2
  go_ret
  exact⟨_,rfl,H.out.1,H.out.2.1,H.out.2.2,rfl⟩
def nud(d k e:Int):Int:=if d=-1/\e<0 then k - 1 else if d=1/\0<e then k+1 else k
theorem nudge_any(d:Int)(s e:Nat)(w:World)(hd:d=-1\/d=1)(hs:s<18446744073709551616)(hf:rungOf s<M)(he:rungOf e<=M):
  Calls Tryz.prog 186 #[.int .i64 d,.float .f64 s,.float .f64 e] w fun e' w'=>e'=.returned (.float .f64 (pat (nud d (idx s) (idx e))))/\w=w':=by
 have H1:=Hd (inf_pos w);have H2:=Hd (inf_neg w);have HU:=Hd (next_up s w hs hf);have HD:=Hd (next_down s w hs hf);have HP:=Hd (rplain s w hs (by omega))
 have ho:(idx e<0/\FloatKind.f64.format.order e 0=some .lt)\/(idx e=0/\FloatKind.f64.format.order e 0=some .eq)\/(0<idx e/\FloatKind.f64.format.order e 0=some .gt):=by
  rcases Int.lt_trichotomy (idx e) 0 with h1 | h1 | h1
  ·exact .inl ⟨h1,ord_lt he real_zero (by rw [idx_zero];exact h1)⟩
  ·exact .inr (.inl ⟨h1,ord_eq he real_zero (by rw [idx_zero];exact h1)⟩)
  ·exact .inr (.inr ⟨h1,ord_gt he real_zero (by rw [idx_zero];exact h1)⟩)
 unfold nud;clear he hs hf
 rcases hd with rfl | rfl<;>rcases ho with ⟨h,o1⟩ | ⟨h,o1⟩ | ⟨h,o1⟩
 ·rw [if_pos ⟨rfl,h⟩];clear h
  go_enter Tryz.func186,Tryz.ntmps186
  go_wp2_with fail;refine H2.out.mono ?_;rintro e' w' ⟨rfl,rfl⟩;go_wp2_with fail;refine HD.out.mono ?_;rintro e' w' ⟨r,rfl,r1,r2,r3,rfl⟩;have HQ:=Hd (rplain r w r1 r2);rw [r3] at HQ;clear r1 r2 r3;go_wp2_with fail;refine HQ.out.mono ?_;rintro e' w' ⟨rfl,rfl⟩;go_wp2
  go_ret
  exact⟨rfl,rfl⟩
 ·rw [if_neg (by omega),if_neg (by omega)];clear h
  go_enter Tryz.func186,Tryz.ntmps186
  go_wp2_with fail;refine HP.out.mono ?_;rintro e' w' ⟨rfl,rfl⟩;go_wp2
  go_ret
  exact⟨rfl,rfl⟩
 ·rw [if_neg (by omega),if_neg (by omega)];clear h
  go_enter Tryz.func186,Tryz.ntmps186
  go_wp2_with fail;refine HP.out.mono ?_;rintro e' w' ⟨rfl,rfl⟩;go_wp2
  go_ret
  exact⟨rfl,rfl⟩
 ·rw [if_neg (by omega),if_neg (by omega)];clear h
  go_enter Tryz.func186,Tryz.ntmps186
  go_wp2_with fail;refine HP.out.mono ?_;rintro e' w' ⟨rfl,rfl⟩;go_wp2
  go_ret
  exact⟨rfl,rfl⟩
 ·rw [if_neg (by omega),if_neg (by omega)];clear h
  go_enter Tryz.func186,Tryz.ntmps186
  go_wp2_with fail;refine HP.out.mono ?_;rintro e' w' ⟨rfl,rfl⟩;go_wp2
  go_ret
  exact⟨rfl,rfl⟩
 ·rw [if_neg (by omega),if_pos ⟨rfl,h⟩];clear h
  go_enter Tryz.func186,Tryz.ntmps186
  go_wp2_with fail;refine H1.out.mono ?_;rintro e' w' ⟨rfl,rfl⟩;go_wp2_with fail;refine HU.out.mono ?_;rintro e' w' ⟨r,rfl,r1,r2,r3,rfl⟩;have HQ:=Hd (rplain r w r1 r2);rw [r3] at HQ;clear r1 r2 r3;go_wp2_with fail;refine HQ.out.mono ?_;rintro e' w' ⟨rfl,rfl⟩;go_wp2
  go_ret
  exact⟨rfl,rfl⟩
end
section
open Go.RowKit Ieee
theorem inf_word{x:Nat}(hx:x<18446744073709551616)(h:rungOf x=M):double.write (.infinity (sgn x))=x:=by
 show double.word (sgn x) double.infRung=x
 rw [infRung_eq];have h1:=Is.word (sgn x) (r:=M) (Nat.le_refl _);have h2:=pat_cases (b:=double.word (sgn x) M) (by have:=h1.lt;omega);have h3:=pat_cases hx;have h4:=h1.idx
 obtain⟨b,hb⟩:∃ b,double.word (sgn x) M=b:=⟨_,rfl⟩
 rw [hb] at h2 h4 ⊢;rw [M_val] at h h4
 rcases h3 with ⟨a,b1,c,d⟩ | ⟨a,b1,c,d⟩
 ·rw [c] at h4
  simp only [Bool.false_eq_true,if_false] at h4
  omega
 ·rw [c] at h4
  simp only [if_true] at h4
  omega
theorem inf_pat{x:Nat}(hx:x<18446744073709551616)(h:rungOf x=M):pat (idx x)=x:=by
 have h3:=pat_cases hx;rw [M_val] at *
 rcases h3 with ⟨a,b1,c,d⟩ | ⟨a,b1,c,d⟩
 ·rw [pat_nn (by omega)];omega
 ·rw [pat_neg (by omega)];omega
theorem add_inf_left{x y:Nat}(hx:x<18446744073709551616)(h:rungOf x=M)(hy:rungOf y<=M)(hno:rungOf y=M->sgn x=sgn y):double.add x y=some (pat (idx x)):=by
 rw [inf_pat hx h];unfold Format.add;rw [read_inf h]
 by_cases h2:rungOf y=M
 ·rw [read_inf h2]
  simp only [Datum.sum]
  rw [if_pos (hno h2)]
  simp only [Option.map_some]
  rw [inf_word hx h]
 ·obtain⟨m,k,e,-,-⟩:=read_fin (show fin y from by unfold fin;omega);rw [e]
  simp only [Datum.sum,Option.map_some]
  rw [inf_word hx h]
theorem add_inf_right{x y:Nat}(hy:y<18446744073709551616)(h:rungOf y=M)(hx:rungOf x<M):double.add x y=some (pat (idx y)):=by
 rw [inf_pat hy h];unfold Format.add;obtain⟨m,k,e,-,-⟩:=read_fin (show fin x from hx);rw [read_inf h,e]
 simp only [Datum.sum,Option.map_some]
 rw [inf_word hy h]
def ad(d i j:Int):Int:=if i=M\/i=-(M:Int) then i else if j=M\/j=-(M:Int) then j else rndI d (fl i+fl j)
theorem nud_sum{d:Int}(hd:d=-1\/d=1){s e:Nat}{n:Int}{j k:Int}(hs:Fl s (R n))(he:Fl e (n - R n))(hn:val j+val k=n):nud d (idx s) (idx e)=rndI d (fl j+fl k):=by
 rw [fl_add,hn];have h0:=idx_natAbs s;have hf:rungOf s<M:=hs.fin
 have e1:idx e<0↔n<R n:=by
  have h:=@val_lt_iff (idx e) 0;rw [val_zero,he.val] at h
  omega
 have e2:0<idx e↔R n<n:=by
  have h:=@val_lt_iff 0 (idx e);rw [val_zero,he.val] at h
  omega
 rcases hd with rfl | rfl
 ·rw [near_down hs.val (by omega) (by omega)];unfold nud
  by_cases h:n<R n
  ·rw [if_pos h,if_pos ⟨rfl,e1.2 h⟩]
  ·rw [if_neg h,if_neg (fun h'=>h (e1.1 h'.2)),if_neg (by omega)]
 ·rw [near_up hs.val (by omega) (by omega)];unfold nud
  by_cases h:R n<n
  ·rw [if_pos h,if_neg (by omega),if_pos ⟨rfl,e2.2 h⟩]
  ·rw [if_neg h,if_neg (by omega),if_neg (fun h'=>h (e2.1 h'.2))]
theorem not_great{x t T:Nat}(h:rungOf x<=(t+1)*2^52)(hT:T=52+t):(val (idx x)).natAbs<=2^T:=by
 rw [val_natAbs,idx_natAbs];have h1:mag (rungOf x)<=mag ((t+1)*2^52):=mag_le_iff.2 h;rw [mag_two_pow,<- Nat.pow_add] at h1;rw [hT];exact h1
theorem Fl_self{x:Nat}(hx:x<18446744073709551616)(h:rungOf x<M):Fl x (val (idx x)):=⟨hx,h,rfl⟩
theorem great_ord{r:Nat}(h:r<=M):(r<=8660422083433463808/\(FloatKind.f64.format.order r 8660422083433463808=some .lt\/FloatKind.f64.format.order r 8660422083433463808=some .eq))\/(8660422083433463808<r/\FloatKind.f64.format.order r 8660422083433463808=some .gt):=by
 have hM:M=9218868437227405312:=rfl;have g1:rungOf 8660422083433463808=8660422083433463808/\idx 8660422083433463808=((8660422083433463808:Nat):Int):=rung_idx (by decide);have r1:=rung_idx (b:=r) (by omega)
 rcases Nat.lt_trichotomy r 8660422083433463808 with h1 | h1 | h1
 ·exact .inl ⟨by omega,.inl (ord_lt (by omega) (by omega) (by omega))⟩
 ·exact .inl ⟨by omega,.inr (ord_eq (by omega) (by omega) (by omega))⟩
 ·exact .inr ⟨h1,ord_gt (by omega) (by omega) (by omega)⟩
end
section
open Go.RowKit Ieee
attribute [local go_sem] run_store_float run_frombits run_bitsof run_negf
theorem and_frac{a:Nat}(ha:a<9223372036854775808):bits .andNot .u64 (a:Int) 9218868437227405312=((a % 4503599627370496:Nat):Int):=by
 have h:=u64_andNot_nat a 9218868437227405312 (by omega) (by omega)
 have e:a &&& (18446744073709551615 - 9218868437227405312)=a % 4503599627370496:=by
  have e1:(18446744073709551615 - 9218868437227405312:Nat)=2^63 ||| (2^52 - 1):=by decide
  rw [e1]
  apply Nat.eq_of_testBit_eq
  intro i;rw [Nat.testBit_and,Nat.testBit_or,Nat.testBit_two_pow,Nat.testBit_two_pow_sub_one,show (4503599627370496:Nat)=2^52 from rfl,Nat.testBit_mod_two_pow]
  by_cases h1:i<52
  ·have h2:¬ 63=i:=by omega
   simp [h1,h2]
  ·by_cases h2:63=i
   ·subst h2;have h3:a.testBit 63=false:=Nat.testBit_lt_two_pow (by omega)
    simp [h3]
   ·simp [h1,h2]
 rw [e] at h
 exact h
theorem i64_and2047{n:Nat}(hn:n<2048):bits .and .i64 (n:Int) 2047=(n:Int):=by
 have h1:(BitVec.ofInt 64 2047).toNat=2 ^ 11 - 1:=by decide
 have key:(BitVec.ofInt 64 (n:Int) &&& BitVec.ofInt 64 2047).toNat=((n:Int) % ((2 ^ 64:Nat):Int)).toNat % 2 ^ 11:=by
  rw [BitVec.toNat_and,BitVec.toNat_ofInt,h1,Nat.and_two_pow_sub_one_eq_mod]
 show IntKind.i64.wrap ((BitVec.ofInt 64 (n:Int) &&& BitVec.ofInt 64 2047).toNat:Nat)=(n:Int)
 rw [key,IntKind.wrap_i64]
 omega
theorem float_of_nat{s r:Nat}(h:mag r=s*2^1074)(hr:r<=M):floatOfInt .f64 (s:Int)=r:=by
 have h1:floatOfInt .f64 (s:Int)=double.nearest false s 0:=by
  show FloatKind.f64.nearest (s:Int)=_
  unfold FloatKind.nearest FloatKind.encode;have:decide ((s:Int)<0)=false:=decide_eq_false (by omega);rw [this,Int.natAbs_natCast]
  exact write_num false s 0
 have h2:=nearest_high false s 1074;rw [show (-1074:Int)+((1074:Nat):Int)=0 from rfl] at h2;rw [h1,h2,<- h,word_false];have h3:=nearRung_mag r 0;rw [Nat.pow_zero,Nat.mul_one] at h3;rw [h3];omega
theorem float_of_zero:floatOfInt .f64 ((0:Nat):Int)=0:=by
 obtain⟨U,hU⟩:∃ U,U=1074:=⟨_,rfl⟩
 have h:=float_of_nat (s:=0) (r:=0);rw [<- hU,mag_zero,Nat.zero_mul] at h
 exact h rfl (Nat.zero_le _)
theorem float_of_shift{s r j J:Nat}(h:mag r=s*2^j*2^J)(hj:j+J=1074)(hr:r<=M):floatOfInt .f64 (s:Int)=r:=by
 refine float_of_nat ?_ hr;rw [h,Nat.mul_assoc,<- Nat.pow_add,hj]
theorem mul_bits{x y k:Nat}(hx:fin x)(hy:fin y)(hk:near (val (idx x)*val (idx y)) 1074=(k:Int))(hk0:0<k):floatBits .mul .f64 x y=some k:=by
 obtain⟨r,h1,h2⟩:=mul_fin hx hy;rw [hk] at h2;have h3:=pat_cases h2.lt;have h4:=h2.idx
 have:r=k:=by omega
 subst this
 exact h1
theorem val_two_pow{t U:Nat}{k:Int}(hk:k=(((t+1)*2^52:Nat):Int))(hU:U=52+t):val k=(2:Int)^U:=by
 subst hk hU;rw [val_nat,mag_two_pow,<- Nat.pow_add,Int.natCast_pow];rfl
theorem pow_join_nat{s A B C:Nat}(h:A+B=C):s*2^A*2^B=s*2^C:=by rw [Nat.mul_assoc,<- Nat.pow_add,h]
theorem pow_join{s A B C:Nat}(h:A+B=C):(2:Int)^A*((s*2^B:Nat):Int)=(s:Int)*2^C:=by
 rw [Int.natCast_mul,Int.natCast_pow,<- h,Int.pow_add];have:((2:Nat):Int)=2:=rfl;rw [this];ac_rfl
def LdPre(r F m:Nat):Prop:=r=F*4503599627370496+m/\m<4503599627370496/\1<=F/\F<=2046
theorem ldexp_norm(r F m X:Nat)(e:Int)(w:World)(h:LdPre r F m)(he:-5000<=e/\e<=5000)(hX:(X:Int)=e+F)(h1:1<=X)(h2:X<=2046):
  Calls Tryz.prog 256 #[.float .f64 r,.int .i64 e] w fun e' w'=>e'=.returned (.float .f64 (X*4503599627370496+m))/\w=w':=by
 obtain⟨hr,hm,hF1,hF2⟩:=h;have hM:M=9218868437227405312:=rfl
 have hb:r<18446744073709551616:=by omega
 have hrr:=rung_idx (b:=r) (by omega)
 have hfr:rungOf r<M:=by omega
 have HN:=Hd (isnanf r w (by omega));have HI:=Hd (isinff r w hb (by omega));rw [decide_eq_false (by omega)] at HI;have HA:=Hd (abs_any r w hb);rw [hrr.1] at HA;have o1:=ord_gt (a:=r) (b:=0) (by omega) real_zero (by rw [idx_zero];omega);have hn1:=rung_idx (b:=4503599627370496) (by omega)
 have o2:FloatKind.f64.format.order r 4503599627370496=some .gt\/FloatKind.f64.format.order r 4503599627370496=some .eq:=by
  by_cases h3:r=4503599627370496
  ·exact .inr (ord_eq (by omega) (by omega) (by omega))
  ·exact .inl (ord_gt (by omega) (by omega) (by omega))
 have b1:(r:Int) / 4503599627370496=(F:Int):=by omega
 have b2:=i64_and2047 (n:=F) (by omega);have b3:=and_frac (a:=r) (by omega);rw [show r % 4503599627370496=m from by omega] at b3;have b4:=or_join' (i:=52) (x:=X) (y:=m) (by omega) (by omega) (by omega);rw [show (2:Nat)^52=4503599627370496 from rfl,show ((X*4503599627370496:Nat):Int)=(X:Int)*4503599627370496 from by omega] at b4
 obtain⟨x,hx⟩:∃ x,m+X*4503599627370496=x:=⟨_,rfl⟩
 rw [show X*4503599627370496+m=x from by omega];rw [hx] at b4;have hxr:=rung_idx (b:=x) (by omega)
 have hmul:floatBits .mul .f64 4607182418800017408 x=some x:=by
  have i1:idx 4607182418800017408=4607182418800017408:=by decide
  have v1:val 4607182418800017408=(2:Int)^1074:=val_two_pow (t:=1022) (by decide) (by decide);refine mul_bits (by show rungOf _<M;decide) (by show rungOf _<M;omega) ?_ (by omega);rw [i1,v1,hxr.2,Int.mul_comm,near_val (by omega) (by omega)]
 have HM:=fun W=>run_float_arith (P:=Tryz.prog) W .mul 26 .f64 _ _ _ hmul;have ff:=fun W=>run_frombits x W;have eX:e+(F:Int)=(X:Int):=hX.symm
 have e1:e+((F:Int) - 1023)=(X:Int) - 1023:=by omega
 clear hmul hxr hx hr hrr hn1 hfr hb eX hX
 rcases o2 with o2 | o2
 all_goals
  go_enter Tryz.func256,Tryz.ntmps256
  go_wp2_with (first | (go_at_call 161;refine HI.out.mono ?_;rintro e w' ⟨rfl,rfl⟩) | (go_at_call 221;refine HN.out.mono ?_;rintro e w' ⟨rfl,rfl⟩) | (go_at_call 117;refine HA.out.mono ?_;rintro e w' ⟨rfl,rfl⟩) | go_in)
  go_ret
  exact⟨rfl,rfl⟩
theorem ldexp_over(r F m:Nat)(e:Int)(w:World)(h:LdPre r F m)(he:-5000<=e/\e<=5000)(hX:2046<e+F):
  Calls Tryz.prog 256 #[.float .f64 r,.int .i64 e] w fun e' w'=>e'=.returned (.float .f64 9218868437227405312)/\w=w':=by
 obtain⟨hr,hm,hF1,hF2⟩:=h;have hM:M=9218868437227405312:=rfl
 have hb:r<18446744073709551616:=by omega
 have hrr:=rung_idx (b:=r) (by omega)
 have hfr:rungOf r<M:=by omega
 have HN:=Hd (isnanf r w (by omega));have HI:=Hd (isinff r w hb (by omega));rw [decide_eq_false (by omega)] at HI;have HA:=Hd (abs_any r w hb);rw [hrr.1] at HA;have o1:=ord_gt (a:=r) (b:=0) (by omega) real_zero (by rw [idx_zero];omega);have hn1:=rung_idx (b:=4503599627370496) (by omega)
 have o2:FloatKind.f64.format.order r 4503599627370496=some .gt\/FloatKind.f64.format.order r 4503599627370496=some .eq:=by
  by_cases h3:r=4503599627370496
  ·exact .inr (ord_eq (by omega) (by omega) (by omega))
  ·exact .inl (ord_gt (by omega) (by omega) (by omega))
 have b1:(r:Int) / 4503599627370496=(F:Int):=by omega
 have b2:=i64_and2047 (n:=F) (by omega);have b3:=and_frac (a:=r) (by omega);rw [show r % 4503599627370496=m from by omega] at b3;have HP:=Hd (inf_pos w);have o3:=ord_gt (a:=r) (b:=0) (by omega) real_zero (by rw [idx_zero];omega)
 obtain⟨X,hX2⟩:∃ X:Int,e+(F:Int)=X:=⟨_,rfl⟩
 have e1:e+((F:Int) - 1023)=X - 1023:=by omega
 have hX3:1023<X - 1023:=by omega
 have hX4:X<=7046:=by omega
 clear hr hrr hn1 hfr hb hX hX2
 rcases o2 with o2 | o2
 all_goals
  go_enter Tryz.func256,Tryz.ntmps256
  go_wp2_with (first | (go_at_call 161;refine HI.out.mono ?_;rintro e w' ⟨rfl,rfl⟩) | (go_at_call 221;refine HN.out.mono ?_;rintro e w' ⟨rfl,rfl⟩) | (go_at_call 19;refine HP.out.mono ?_;rintro e w' ⟨rfl,rfl⟩) | (go_at_call 117;refine HA.out.mono ?_;rintro e w' ⟨rfl,rfl⟩) | go_in)
  go_ret
  exact⟨rfl,rfl⟩
theorem ldexp_den(r F m k s:Nat)(e:Int)(w:World)(h:LdPre r F m)(he:-5000<=e/\e<=5000)(hX:e+F=-(k:Int))(hk:k<=52)(hs:(4503599627370496+m)*2^(52 - k)=s*2^53)(hs0:0<s)(hs1:s<4503599627370496):
  Calls Tryz.prog 256 #[.float .f64 r,.int .i64 e] w fun e' w'=>e'=.returned (.float .f64 s)/\w=w':=by
 obtain⟨hr,hm,hF1,hF2⟩:=h;have hM:M=9218868437227405312:=rfl
 have hb:r<18446744073709551616:=by omega
 have hrr:=rung_idx (b:=r) (by omega)
 have hfr:rungOf r<M:=by omega
 have HN:=Hd (isnanf r w (by omega));have HI:=Hd (isinff r w hb (by omega));rw [decide_eq_false (by omega)] at HI;have HA:=Hd (abs_any r w hb);rw [hrr.1] at HA;have o1:=ord_gt (a:=r) (b:=0) (by omega) real_zero (by rw [idx_zero];omega);have hn1:=rung_idx (b:=4503599627370496) (by omega)
 have o2:FloatKind.f64.format.order r 4503599627370496=some .gt\/FloatKind.f64.format.order r 4503599627370496=some .eq:=by
  by_cases h3:r=4503599627370496
  ·exact .inr (ord_eq (by omega) (by omega) (by omega))
  ·exact .inl (ord_gt (by omega) (by omega) (by omega))
 have b1:(r:Int) / 4503599627370496=(F:Int):=by omega
 have b2:=i64_and2047 (n:=F) (by omega);have b3:=and_frac (a:=r) (by omega);rw [show r % 4503599627370496=m from by omega] at b3
 obtain⟨Y,hY⟩:∃ Y,53 - k=Y:=⟨_,rfl⟩
 have b4:=or_join' (i:=52) (x:=Y) (y:=m) (by omega) (by omega) (by omega);rw [show (2:Nat)^52=4503599627370496 from rfl,show ((Y*4503599627370496:Nat):Int)=(Y:Int)*4503599627370496 from by omega] at b4
 obtain⟨x,hx⟩:∃ x,m+Y*4503599627370496=x:=⟨_,rfl⟩
 rw [hx] at b4;have hxr:=rung_idx (b:=x) (by omega)
 have hmul:floatBits .mul .f64 4368491638549381120 x=some s:=by
  have i1:idx 4368491638549381120=4368491638549381120:=by decide
  have v1:val 4368491638549381120=(2:Int)^1021:=val_two_pow (t:=969) (by decide) (by decide)
  have v2:mag x=s*2^53:=by
   have h6:=mag_form (52 - k) (4503599627370496+m) (.inr (by omega)) (by omega);rw [hs] at h6;rw [<- h6];congr 1
   have:Y=52 - k+1:=by omega
   rw [<- hx,this,Nat.add_mul,show (2:Nat)^52=4503599627370496 from rfl,Nat.one_mul];generalize (52 - k)*4503599627370496=P
   omega
  have v3:val (x:Int)=((s*2^53:Nat):Int):=by rw [val_nat,v2]
  refine mul_bits (by show rungOf _<M;decide) (by show rungOf _<M;omega) ?_ hs0;rw [i1,v1,hxr.2,v3,pow_join (s:=s) (A:=1021) (B:=53) (C:=1074) (by decide)]
  have h7:val (s:Int)=(s:Int):=by rw [val_nat,mag_small (show s<2^52 from hs1)]
  have h8:=near_val (i:=(s:Int)) (by omega) (by omega) 1074;rw [h7] at h8
  exact h8
 have HM:=fun W=>run_float_arith (P:=Tryz.prog) W .mul 26 .f64 _ _ _ hmul;have ff:=fun W=>run_frombits x W
 have e1:e+((F:Int) - 1023)=-(k:Int) - 1023:=by omega
 have e2:-(k:Int) - 1023+53+1023=(Y:Int):=by omega
 have e3:-(k:Int) - 1023 < -1022:=by omega
 have hY1:Y<=53:=by omega
 clear hmul hxr hx hr hrr hn1 hfr hb hX hY hs
 rcases o2 with o2 | o2
 all_goals
  go_enter Tryz.func256,Tryz.ntmps256
  go_wp2_with (first | (go_at_call 161;refine HI.out.mono ?_;rintro e w' ⟨rfl,rfl⟩) | (go_at_call 221;refine HN.out.mono ?_;rintro e w' ⟨rfl,rfl⟩) | (go_at_call 117;refine HA.out.mono ?_;rintro e w' ⟨rfl,rfl⟩) | go_in)
  go_ret
  exact⟨rfl,rfl⟩
theorem ldexp_zero(e:Int)(w:World):Calls Tryz.prog 256 #[.float .f64 0,.int .i64 e] w fun e' w'=>e'=.returned (.float .f64 0)/\w=w':=by
 have o1:=ord_eq (a:=0) (b:=0) real_zero real_zero rfl
 go_enter Tryz.func256,Tryz.ntmps256
 go_wp2
 go_ret
 exact⟨rfl,rfl⟩
theorem ldexp_any(s:Nat)(e:Int)(w:World)(hs:s<=9007199254740992)(he:-1074<=e/\e<=971)(hd:e=-1074\/4503599627370496<=s):
  Calls Tryz.prog 256 #[.float .f64 (floatOfInt .f64 (s:Int)),.int .i64 e] w fun e' w'=>e'=.returned (.float .f64 ((e+1074).toNat*4503599627370496+s))/\w=w':=by
 have hM:M=9218868437227405312:=rfl
 by_cases h1:4503599627370496<=s
 ·have hm:=mag_form 1074 s (.inr h1) hs;have hf:floatOfInt .f64 (s:Int)=1074*2^52+s:=float_of_nat hm (by omega);rw [hf,show (1074*2^52+s:Nat)=4836865999795912704+s from rfl]
  by_cases h2:s<9007199254740992
  ·have h:=ldexp_norm (4836865999795912704+s) 1075 (s - 4503599627370496) (e+1075).toNat e w ⟨by omega,by omega,by omega,by omega⟩ (by omega) (by omega) (by omega) (by omega)
   rw [show (e+1075).toNat*4503599627370496+(s - 4503599627370496)=(e+1074).toNat*4503599627370496+s from by
    rw [show (e+1075).toNat=(e+1074).toNat+1 from by omega,Nat.add_mul];omega] at h
   exact h
  ·obtain rfl:s=9007199254740992:=by omega
   by_cases h3:e=971
   ·subst h3
    exact ldexp_over (4836865999795912704+9007199254740992) 1076 0 971 w ⟨by omega,by omega,by omega,by omega⟩ (by omega) (by omega)
   ·have h:=ldexp_norm (4836865999795912704+9007199254740992) 1076 0 (e+1076).toNat e w ⟨by omega,by omega,by omega,by omega⟩ (by omega) (by omega) (by omega) (by omega)
    rw [show (e+1076).toNat*4503599627370496+0=(e+1074).toNat*4503599627370496+9007199254740992 from by
     rw [show (e+1076).toNat=(e+1074).toNat+2 from by omega,Nat.add_mul]] at h
    exact h
 ·obtain rfl:e=-1074:=by omega
  rw [show ((-1074:Int)+1074).toNat=0 from rfl,Nat.zero_mul,Nat.zero_add]
  rcases Nat.eq_zero_or_pos s with h0 | h0
  ·subst h0;rw [float_of_zero]
   exact ldexp_zero _ w
  ·obtain⟨L,b1,b2,b3⟩:=blen_bounds h0;have hL:L<52:=(Nat.pow_lt_pow_iff_right (a:=2) (by omega)).1 (Nat.lt_of_le_of_lt b2 (by omega))
   obtain⟨j,hj⟩:∃ j,L+j=52:=⟨52 - L,by omega⟩
   have c1:4503599627370496<=s*2^j:=by
    rw [show (4503599627370496:Nat)=2^(L+j) from by rw [hj],Nat.pow_add];exact Nat.mul_le_mul_right _ b2
   have c2:s*2^j<9007199254740992:=by
    rw [show (9007199254740992:Nat)=2^(L+1+j) from by rw [show L+1+j=53 from by omega],Nat.pow_add];exact Nat.mul_lt_mul_of_pos_right b3 (Nat.two_pow_pos j)
   have hm:=mag_form (1074 - j) (s*2^j) (.inr c1) (by omega);have hf:floatOfInt .f64 (s:Int)=(1074 - j)*2^52+s*2^j:=float_of_shift hm (show j+(1074 - j)=1074 by omega) (Nat.le_trans (Nat.add_le_add (Nat.mul_le_mul_right (k:=2^52) (show 1074 - j<=1074 by omega)) (Nat.le_of_lt c2)) (by rw [hM];decide));rw [hf];have hs3:s*2^j*2^(52 - (j - 1))=s*2^53:=pow_join_nat (by omega);refine ldexp_den _ (1075 - j) (s*2^j - 4503599627370496) (j - 1) s (-1074) w ⟨?_,by omega,by omega,by omega⟩ (by omega) (by omega) (by omega) ?_ h0 (by omega)
   ·rw [show 1075 - j=1074 - j+1 from by omega,Nat.add_mul,show (2:Nat)^52=4503599627370496 from rfl];omega
   ·rw [show 4503599627370496+(s*2^j - 4503599627370496)=s*2^j from by omega];exact hs3
end
end Go.Proofs.YthlmlmfebpjgdaaGreatDoor
