/-
Walks: vergeref6.Holds; vergelaw10: is, kept, lesser, greater.
Walks: vergeref2.Norm of words of any length that can be handed in; vergelaw10.is.
Walks: vergeref2: RNeg, RSub of ratios as they are handed in; vergelaw10: lesser, greater.
-/
import Derived.Test.YthlmlmfebpjgdaaGreatDoorM14
import Derived.Test.YthlmlmfebpjgdaaGreatDoorM22
import Derived.Test.YthlmlmfebpjgdaaGreatDoorM19
import Derived.Test.YthlmlmfebpjgdaaGreatDoorM07
import Derived.Deep.DeepCutAuto
import Derived.Test.YthlmlmfebpjgdaaGreatDoorM15
set_option linter.unusedSimpArgs false
set_option linter.unusedVariables false
set_option maxHeartbeats 12800000
namespace Go.Proofs.YthlmlmfebpjgdaaGreatDoor
open Go.RowKit
theorem ec_swp(s:Int)(x:Rat)(t:Int)(y:Rat):ec s x t y=- ec t y s x:=by
 unfold ec
 by_cases h:s=t
 ·subst h;rw [if_pos rfl,if_pos rfl]
  split
  ·exact rc_swap x y
  ·rfl
 ·rw [if_neg h,if_neg (show ¬ t=s by omega)]
  by_cases h1:s<t
  ·rw [if_pos h1,if_neg (by omega)]
  ·rw [if_neg h1,if_pos (by omega)];rfl
set_option maxRecDepth 8000 in
theorem holds_none(f1 f2 K:Nat)(i1 j1:Int)(g2:Bool)(A2:Option Addr)(n2 c2:Nat)(B2:Option Addr)(m2 d2:Nat)(v:Rat)(w:World)(hO1:∀ W,Calls Tryz.prog 83 #[.agg #[.int .u64 (f1:Int),.int .u64 (f2:Int)]] W (NewSetI W i1 j1))
  (hN:∀ W o1 s1 g1 A1 n1 c1 B1 m1 d1 s51 g51 A51 n51 c51 B51 m51 d51,SetOf W (.agg #[.bool o1,.int .i64 s1,.bool g1,.slice A1 n1 c1,.slice B1 m1 d1,.int .i64 s51,.bool g51,.slice A51 n51 c51,.slice B51 m51 d51]) i1 j1→o1=true)
  (hr:RatW w K g2 (.slice A2 n2 c2) (.slice B2 m2 d2) v):
  Calls Tryz.prog 34 #[.agg #[.int .u64 (f1:Int),.int .u64 (f2:Int)],.agg #[.bool g2,.slice A2 n2 c2,.slice B2 m2 d2]] w fun e w'=>e=.returned (.bool false)∧Below w.heap.size w w':=by
 have HO1:=Hd hO1;have HN:=Hd hN;clear hO1 hN;have LL:=li2 w #[.int .u64 (f1:Int),.int .u64 (f2:Int)] 24 #[.bool g2,.slice A2 n2 c2,.slice B2 m2 d2] 42;have HR:=Hd (hr.below LL.out.b);clear hr
 go_enter Tryz.func34,Tryz.ntmps34
 obtain⟨q1_0,q1_1⟩:=(LL.out.blk 0 rfl).c2;go_wp2_with fail;refine (HO1.out _).mono ?_;rintro e wk ⟨o1,s1,g1,A1,n1,c1,B1,m1,d1,s51,g51,A51,n51,c51,B51,m51,d51,rfl,hs1,hb⟩;replace LL:=stL LL hb;replace HR:=Hd (HR.out.below hb);clear hb q1_0 q1_1 HO1;have HS1:=Hd hs1;clear hs1
 obtain rfl:o1=true:=HN.out _ _ _ _ _ _ _ _ _ _ _ _ _ _ _ _ _ _ HS1.out
 clear HN
 go_upto_region 2 with fail
 have hl_j5:=LL.out.lts;generalize hwn:World.alloc wk _=wn;replace HR:=Hd (HR.out.below (below_allocE hwn));replace HS1:=Hd (HS1.out.below (below_allocE hwn));replace LL:=Hd (LL.out.newE hwn)
 simp only [List.cons_append,List.nil_append] at LL
 simp only [List.mem_cons,List.not_mem_nil,or_false,forall_eq_or_imp,forall_eq,false_imp_iff,implies_true,and_true] at hl_j5
 clear hwn;generalize wk.heap.size=j5 at LL hl_j5 ⊢;obtain⟨q2_0,q2_1,q2_2⟩:=(LL.out.blk 1 rfl).c3
 go_upto_region 3 with fail
 clear q2_0 q2_1 q2_2;have hl_j6:=LL.out.lts;generalize hwn:World.alloc wn _=wn;replace HR:=Hd (HR.out.below (below_allocE hwn));replace HS1:=Hd (HS1.out.below (below_allocE hwn));replace LL:=Hd (LL.out.newE hwn)
 simp only [List.cons_append,List.nil_append] at LL
 simp only [List.mem_cons,List.not_mem_nil,or_false,forall_eq_or_imp,forall_eq,false_imp_iff,implies_true,and_true] at hl_j6
 clear hwn;generalize wn.heap.size=j6 at LL hl_j6 ⊢;obtain⟨q3_0,q3_1,q3_2,q3_3,q3_4,q3_5,q3_6,q3_7,q3_8⟩:=(LL.out.blk 2 rfl).c9;go_wp2
 go_ret
 exact⟨rfl,LL.out.b⟩
set_option maxRecDepth 8000 in
theorem holds_lo(f1 f2 K:Nat)(i1 j1 t1:Int)(g2:Bool)(A2:Option Addr)(n2 c2:Nat)(B2:Option Addr)(m2 d2:Nat)(v:Rat)(w:World)(hO1:∀ W,Calls Tryz.prog 83 #[.agg #[.int .u64 (f1:Int),.int .u64 (f2:Int)]] W (NewSetI W i1 j1))
  (hN:∀ W o1 s1 g1 A1 n1 c1 B1 m1 d1 s51 g51 A51 n51 c51 B51 m51 d51,SetOf W (.agg #[.bool o1,.int .i64 s1,.bool g1,.slice A1 n1 c1,.slice B1 m1 d1,.int .i64 s51,.bool g51,.slice A51 n51 c51,.slice B51 m51 d51]) i1 j1→o1=false)
  (hC1:∀ W o1 s1 g1 A1 n1 c1 B1 m1 d1 s51 g51 A51 n51 c51 B51 m51 d51,SetOf W (.agg #[.bool o1,.int .i64 s1,.bool g1,.slice A1 n1 c1,.slice B1 m1 d1,.int .i64 s51,.bool g51,.slice A51 n51 c51,.slice B51 m51 d51]) i1 j1→RatW W K g2 (.slice A2 n2 c2) (.slice B2 m2 d2) v→Calls Tryz.prog 94 #[.agg #[.int .i64 s1,.bool g1,.slice A1 n1 c1,.slice B1 m1 d1],.agg #[.int .i64 0,.bool g2,.slice A2 n2 c2,.slice B2 m2 d2]] W fun e w'=>e=.returned (.int .i64 t1)∧Below W.heap.size W w')(h1:decide (t1≤0)=false)
  (hr:RatW w K g2 (.slice A2 n2 c2) (.slice B2 m2 d2) v):
  Calls Tryz.prog 34 #[.agg #[.int .u64 (f1:Int),.int .u64 (f2:Int)],.agg #[.bool g2,.slice A2 n2 c2,.slice B2 m2 d2]] w fun e w'=>e=.returned (.bool false)∧Below w.heap.size w w':=by
 have HO1:=Hd hO1;have HN:=Hd hN;have HC1:=Hd hC1;have H1:=Hd h1;clear hO1 hN hC1 h1;have LL:=li2 w #[.int .u64 (f1:Int),.int .u64 (f2:Int)] 24 #[.bool g2,.slice A2 n2 c2,.slice B2 m2 d2] 42;have HR:=Hd (hr.below LL.out.b);clear hr
 go_enter Tryz.func34,Tryz.ntmps34
 obtain⟨q1_0,q1_1⟩:=(LL.out.blk 0 rfl).c2;go_wp2_with fail;refine (HO1.out _).mono ?_;rintro e wk ⟨o1,s1,g1,A1,n1,c1,B1,m1,d1,s51,g51,A51,n51,c51,B51,m51,d51,rfl,hs1,hb⟩;replace LL:=stL LL hb;replace HR:=Hd (HR.out.below hb);clear hb q1_0 q1_1 HO1;have HS1:=Hd hs1;clear hs1
 obtain rfl:o1=false:=HN.out _ _ _ _ _ _ _ _ _ _ _ _ _ _ _ _ _ _ HS1.out
 clear HN
 go_upto_region 2 with fail
 have hl_j5:=LL.out.lts;generalize hwn:World.alloc wk _=wn;replace HR:=Hd (HR.out.below (below_allocE hwn));replace HS1:=Hd (HS1.out.below (below_allocE hwn));replace LL:=Hd (LL.out.newE hwn)
 simp only [List.cons_append,List.nil_append] at LL
 simp only [List.mem_cons,List.not_mem_nil,or_false,forall_eq_or_imp,forall_eq,false_imp_iff,implies_true,and_true] at hl_j5
 clear hwn;generalize wk.heap.size=j5 at LL hl_j5 ⊢;obtain⟨q2_0,q2_1,q2_2⟩:=(LL.out.blk 1 rfl).c3
 go_upto_region 3 with fail
 clear q2_0 q2_1 q2_2;have hl_j6:=LL.out.lts;generalize hwn:World.alloc wn _=wn;replace HR:=Hd (HR.out.below (below_allocE hwn));replace HS1:=Hd (HS1.out.below (below_allocE hwn));replace LL:=Hd (LL.out.newE hwn)
 simp only [List.cons_append,List.nil_append] at LL
 simp only [List.mem_cons,List.not_mem_nil,or_false,forall_eq_or_imp,forall_eq,false_imp_iff,implies_true,and_true] at hl_j6
 clear hwn;generalize wn.heap.size=j6 at LL hl_j6 ⊢;have CC:=Hd (HC1.out _ _ _ _ _ _ _ _ _ _ _ _ _ _ _ _ _ _ HS1.out HR.out);have h1:=H1.out;obtain⟨q3_0,q3_1,q3_2,q3_3,q3_4,q3_5,q3_6,q3_7,q3_8⟩:=(LL.out.blk 2 rfl).c9;obtain⟨q4_0,q4_1,q4_2,q4_3⟩:=(LL.out.blk 3 rfl).c4;go_wp2_with fail;refine CC.out.mono ?_;rintro e wk ⟨rfl,hb⟩;replace LL:=stL LL hb;replace HR:=Hd (HR.out.below hb);replace HS1:=Hd (HS1.out.below hb);clear hb q3_0 q3_1 q3_2 q3_3 q3_4 q3_5 q3_6 q3_7 q3_8 q4_0 q4_1 q4_2 q4_3 CC HC1;go_wp2
 go_ret
 exact⟨rfl,LL.out.b⟩
set_option maxRecDepth 8000 in
theorem holds_all(f1 f2 K:Nat)(i1 j1 t1 t2:Int)(r:Bool)(g2:Bool)(A2:Option Addr)(n2 c2:Nat)(B2:Option Addr)(m2 d2:Nat)(v:Rat)(w:World)(hO1:∀ W,Calls Tryz.prog 83 #[.agg #[.int .u64 (f1:Int),.int .u64 (f2:Int)]] W (NewSetI W i1 j1))
  (hN:∀ W o1 s1 g1 A1 n1 c1 B1 m1 d1 s51 g51 A51 n51 c51 B51 m51 d51,SetOf W (.agg #[.bool o1,.int .i64 s1,.bool g1,.slice A1 n1 c1,.slice B1 m1 d1,.int .i64 s51,.bool g51,.slice A51 n51 c51,.slice B51 m51 d51]) i1 j1→o1=false)
  (hC1:∀ W o1 s1 g1 A1 n1 c1 B1 m1 d1 s51 g51 A51 n51 c51 B51 m51 d51,SetOf W (.agg #[.bool o1,.int .i64 s1,.bool g1,.slice A1 n1 c1,.slice B1 m1 d1,.int .i64 s51,.bool g51,.slice A51 n51 c51,.slice B51 m51 d51]) i1 j1→RatW W K g2 (.slice A2 n2 c2) (.slice B2 m2 d2) v→Calls Tryz.prog 94 #[.agg #[.int .i64 s1,.bool g1,.slice A1 n1 c1,.slice B1 m1 d1],.agg #[.int .i64 0,.bool g2,.slice A2 n2 c2,.slice B2 m2 d2]] W fun e w'=>e=.returned (.int .i64 t1)∧Below W.heap.size W w')(h1:decide (t1≤0)=true)
  (hC2:∀ W o1 s1 g1 A1 n1 c1 B1 m1 d1 s51 g51 A51 n51 c51 B51 m51 d51,SetOf W (.agg #[.bool o1,.int .i64 s1,.bool g1,.slice A1 n1 c1,.slice B1 m1 d1,.int .i64 s51,.bool g51,.slice A51 n51 c51,.slice B51 m51 d51]) i1 j1→RatW W K g2 (.slice A2 n2 c2) (.slice B2 m2 d2) v→Calls Tryz.prog 94 #[.agg #[.int .i64 0,.bool g2,.slice A2 n2 c2,.slice B2 m2 d2],.agg #[.int .i64 s51,.bool g51,.slice A51 n51 c51,.slice B51 m51 d51]] W fun e w'=>e=.returned (.int .i64 t2)∧Below W.heap.size W w')(h2:decide (t2≤0)=r)
  (hr:RatW w K g2 (.slice A2 n2 c2) (.slice B2 m2 d2) v):
  Calls Tryz.prog 34 #[.agg #[.int .u64 (f1:Int),.int .u64 (f2:Int)],.agg #[.bool g2,.slice A2 n2 c2,.slice B2 m2 d2]] w fun e w'=>e=.returned (.bool r)∧Below w.heap.size w w':=by
 have HO1:=Hd hO1;have HN:=Hd hN;have HC1:=Hd hC1;have H1:=Hd h1;have HC2:=Hd hC2;have H2:=Hd h2;clear hO1 hN hC1 h1 hC2 h2;have LL:=li2 w #[.int .u64 (f1:Int),.int .u64 (f2:Int)] 24 #[.bool g2,.slice A2 n2 c2,.slice B2 m2 d2] 42;have HR:=Hd (hr.below LL.out.b);clear hr
 go_enter Tryz.func34,Tryz.ntmps34
 obtain⟨q1_0,q1_1⟩:=(LL.out.blk 0 rfl).c2;go_wp2_with fail;refine (HO1.out _).mono ?_;rintro e wk ⟨o1,s1,g1,A1,n1,c1,B1,m1,d1,s51,g51,A51,n51,c51,B51,m51,d51,rfl,hs1,hb⟩;replace LL:=stL LL hb;replace HR:=Hd (HR.out.below hb);clear hb q1_0 q1_1 HO1;have HS1:=Hd hs1;clear hs1
 obtain rfl:o1=false:=HN.out _ _ _ _ _ _ _ _ _ _ _ _ _ _ _ _ _ _ HS1.out
 clear HN
 go_upto_region 2 with fail
 have hl_j5:=LL.out.lts;generalize hwn:World.alloc wk _=wn;replace HR:=Hd (HR.out.below (below_allocE hwn));replace HS1:=Hd (HS1.out.below (below_allocE hwn));replace LL:=Hd (LL.out.newE hwn)
 simp only [List.cons_append,List.nil_append] at LL
 simp only [List.mem_cons,List.not_mem_nil,or_false,forall_eq_or_imp,forall_eq,false_imp_iff,implies_true,and_true] at hl_j5
 clear hwn;generalize wk.heap.size=j5 at LL hl_j5 ⊢;obtain⟨q2_0,q2_1,q2_2⟩:=(LL.out.blk 1 rfl).c3
 go_upto_region 3 with fail
 clear q2_0 q2_1 q2_2;have hl_j6:=LL.out.lts;generalize hwn:World.alloc wn _=wn;replace HR:=Hd (HR.out.below (below_allocE hwn));replace HS1:=Hd (HS1.out.below (below_allocE hwn));replace LL:=Hd (LL.out.newE hwn)
 simp only [List.cons_append,List.nil_append] at LL
 simp only [List.mem_cons,List.not_mem_nil,or_false,forall_eq_or_imp,forall_eq,false_imp_iff,implies_true,and_true] at hl_j6
 clear hwn;generalize wn.heap.size=j6 at LL hl_j6 ⊢;have CC:=Hd (HC1.out _ _ _ _ _ _ _ _ _ _ _ _ _ _ _ _ _ _ HS1.out HR.out);have h1:=H1.out;obtain⟨q3_0,q3_1,q3_2,q3_3,q3_4,q3_5,q3_6,q3_7,q3_8⟩:=(LL.out.blk 2 rfl).c9;obtain⟨q4_0,q4_1,q4_2,q4_3⟩:=(LL.out.blk 3 rfl).c4;go_wp2_with fail;refine CC.out.mono ?_;rintro e wk ⟨rfl,hb⟩;replace LL:=stL LL hb;replace HR:=Hd (HR.out.below hb);replace HS1:=Hd (HS1.out.below hb);clear hb q3_0 q3_1 q3_2 q3_3 q3_4 q3_5 q3_6 q3_7 q3_8 q4_0 q4_1 q4_2 q4_3 CC HC1;have CC:=Hd (HC2.out _ _ _ _ _ _ _ _ _ _ _ _ _ _ _ _ _ _ HS1.out HR.out);have h2:=H2.out;obtain⟨q5_0,q5_1,q5_2,q5_3,q5_4,q5_5,q5_6,q5_7,q5_8⟩:=(LL.out.blk 2 rfl).c9;obtain⟨q6_0,q6_1,q6_2,q6_3⟩:=(LL.out.blk 3 rfl).c4;go_wp2_with fail;refine CC.out.mono ?_;rintro e wk ⟨rfl,hb⟩;replace LL:=stL LL hb;replace HR:=Hd (HR.out.below hb);replace HS1:=Hd (HS1.out.below hb);clear hb q5_0 q5_1 q5_2 q5_3 q5_4 q5_5 q5_6 q5_7 q5_8 q6_0 q6_1 q6_2 q6_3 CC HC2;go_wp2
 go_ret
 exact⟨by first | rw [h2] | rfl,LL.out.b⟩
def hd(i j:Int)(v:Rat):Bool:=decide (i≤rndI (-1) v) && decide (rndI 1 v≤j)
theorem hd_true{i j:Int}{v:Rat}:hd i j v=true↔i≤rndI (-1) v∧rndI 1 v≤j:=by unfold hd;simp
theorem hd_false{i j:Int}{v:Rat}(h:¬ (i≤rndI (-1) v∧rndI 1 v≤j)):hd i j v=false:=by
 cases e:hd i j v
 ·rfl
 ·exact absurd (hd_true.1 e) h
theorem holds_any(f1 f2 K:Nat)(g:Bool)(A:Option Addr)(n c:Nat)(B:Option Addr)(m d:Nat)(v:Rat)(w:World)(h1:f1<18446744073709551616)(h2:f2<18446744073709551616)(hr:RatW w K g (.slice A n c) (.slice B m d) v)(hK:34≤K)(hK2:K≤1073741824):
  Calls Tryz.prog 34 #[.agg #[.int .u64 (f1:Int),.int .u64 (f2:Int)],.agg #[.bool g,.slice A n c,.slice B m d]] w fun e w'=>e=.returned (.bool (hd (rd f1 f2).1 (rd f1 f2).2 v))∧Below w.heap.size w w':=by
 have hM:(M:Int)=9218868437227405312:=rfl;have hv:=rd_iv f1 f2;have hO:=fun W=>of_i f1 f2 W h1 h2;have b1:=rndI_down v;have b2:=rndI_up v
 obtain⟨⟨i,j⟩,r2⟩:∃ z,rd f1 f2=z:=⟨_,rfl⟩
 rw [r2] at hv hO ⊢
 dsimp only at *
 by_cases h0:j<i
 ·have e:hd i j v=false:=hd_false (by rcases hv with h | h<;>omega);rw [e];refine holds_none f1 f2 K i j g A n c B m d v w hO ?_ hr;intro W o1 s1 g1 A1 n1 c1 B1 m1 d1 s51 g51 A51 n51 c51 B51 m51 d51 hs
  rcases hs with ⟨-,-,s,x,t,y,g2,A2,n2,c2,B2,m2,d2,g',A',n',c',B',m',d',e,-,-⟩ | ⟨hne,-⟩
  ·cases e;rfl
  ·omega
 ·have hne:=ne_or hv h0;unfold Ne at hne
  have hN:∀ W o1 s1 g1 A1 n1 c1 B1 m1 d1 s51 g51 A51 n51 c51 B51 m51 d51,SetOf W (.agg #[.bool o1,.int .i64 s1,.bool g1,.slice A1 n1 c1,.slice B1 m1 d1,.int .i64 s51,.bool g51,.slice A51 n51 c51,.slice B51 m51 d51]) i j→o1=false:=by
   intro W o1 s1 g1 A1 n1 c1 B1 m1 d1 s51 g51 A51 n51 c51 B51 m51 d51 hs
   rcases hs with ⟨e1,e2,-⟩ | ⟨-,g2,A2,n2,c2,B2,m2,d2,g',A',n',c',B',m',d',e,-,-⟩
   ·omega
   ·cases e;rfl
  have hC1:∀ W o1 s1 g1 A1 n1 c1 B1 m1 d1 s51 g51 A51 n51 c51 B51 m51 d51,SetOf W (.agg #[.bool o1,.int .i64 s1,.bool g1,.slice A1 n1 c1,.slice B1 m1 d1,.int .i64 s51,.bool g51,.slice A51 n51 c51,.slice B51 m51 d51]) i j→RatW W K g (.slice A n c) (.slice B m d) v →
    Calls Tryz.prog 94 #[.agg #[.int .i64 s1,.bool g1,.slice A1 n1 c1,.slice B1 m1 d1],.agg #[.int .i64 0,.bool g,.slice A n c,.slice B m d]] W fun e w'=>e=.returned (.int .i64 (ec (es i) (ex i) 0 v))∧Below W.heap.size W w':=by
   intro W o1 s1 g1 A1 n1 c1 B1 m1 d1 s51 g51 A51 n51 c51 B51 m51 d51 hs hw
   rcases hs with ⟨e1,e2,-⟩ | ⟨-,g2,A2,n2,c2,B2,m2,d2,g',A',n',c',B',m',d',e,q1,q2⟩
   ·omega
   ·cases e
    exact ecmp_w K _ g1 A1 n1 c1 B1 m1 d1 _ 0 g A n c B m d v W (q1.w.mono hK) hw hK2
  have hC2:∀ W o1 s1 g1 A1 n1 c1 B1 m1 d1 s51 g51 A51 n51 c51 B51 m51 d51,SetOf W (.agg #[.bool o1,.int .i64 s1,.bool g1,.slice A1 n1 c1,.slice B1 m1 d1,.int .i64 s51,.bool g51,.slice A51 n51 c51,.slice B51 m51 d51]) i j→RatW W K g (.slice A n c) (.slice B m d) v →
    Calls Tryz.prog 94 #[.agg #[.int .i64 0,.bool g,.slice A n c,.slice B m d],.agg #[.int .i64 s51,.bool g51,.slice A51 n51 c51,.slice B51 m51 d51]] W fun e w'=>e=.returned (.int .i64 (ec 0 v (es j) (ex j)))∧Below W.heap.size W w':=by
   intro W o1 s1 g1 A1 n1 c1 B1 m1 d1 s51 g51 A51 n51 c51 B51 m51 d51 hs hw
   rcases hs with ⟨e1,e2,-⟩ | ⟨-,g2,A2,n2,c2,B2,m2,d2,g',A',n',c',B',m',d',e,q1,q2⟩
   ·omega
   ·cases e
    exact ecmp_w K 0 g A n c B m d v _ g51 A51 n51 c51 B51 m51 d51 _ W hw (q2.w.mono hK) hK2
  have k1:=ec_hi (i:=i) (s:=0) (x:=v) (by omega) (.inl rfl);have k2:=ec_lo (j:=j) (s:=0) (x:=v) (by omega) (.inl rfl);rw [dn_zero] at k1;rw [up_zero] at k2
  by_cases c1:ec (es i) (ex i) 0 v≤0
  ·have e:decide (ec 0 v (es j) (ex j)≤0)=hd i j v:=by
    have sw:=ec_swp 0 v (es j) (ex j)
    by_cases c2:ec 0 v (es j) (ex j)≤0
    ·rw [decide_eq_true c2,(hd_true (i:=i) (j:=j) (v:=v)).2 ⟨by omega,by omega⟩]
    ·rw [decide_eq_false c2,hd_false (by omega)]
   exact holds_all f1 f2 K i j _ _ _ g A n c B m d v w hO hN hC1 (decide_eq_true c1) hC2 e hr
  ·have e:hd i j v=false:=hd_false (by omega);rw [e]
   exact holds_lo f1 f2 K i j _ g A n c B m d v w hO hN hC1 (decide_eq_false c1) hr
set_option maxRecDepth 8000 in
theorem kept_walk(f1 f2 K:Nat)(r:Bool)(g2:Bool)(A2:Option Addr)(n2 c2:Nat)(B2:Option Addr)(m2 d2:Nat)(v:Rat)(w:World)(hH:∀ W,RatW W K g2 (.slice A2 n2 c2) (.slice B2 m2 d2) v→Calls Tryz.prog 34 #[.agg #[.int .u64 (f1:Int),.int .u64 (f2:Int)],.agg #[.bool g2,.slice A2 n2 c2,.slice B2 m2 d2]] W fun e w'=>e=.returned (.bool r)∧Below W.heap.size W w')(hr:RatW w K g2 (.slice A2 n2 c2) (.slice B2 m2 d2) v):
  Calls Tryz.prog 37 #[.agg #[.bool g2,.slice A2 n2 c2,.slice B2 m2 d2],.agg #[.float .f64 f1,.float .f64 f2]] w fun e w'=>e=.returned (.bool r)∧Below w.heap.size w w':=by
 have HO:=Hd fun W=>law_out f1 f2 W;have HH:=Hd hH;clear hH;have LL:=li2 w #[.bool g2,.slice A2 n2 c2,.slice B2 m2 d2] 42 #[.float .f64 f1,.float .f64 f2] 28;have HR:=Hd (hr.below LL.out.b);clear hr
 go_enter Tryz.func37,Tryz.ntmps37
 go_wp2_with fail;refine regL LL (fun hHeld=>?_);clear LL;replace HR:=Hd (HR.out.below (Below.refl _ _).drew);generalize World.drew _=wk at hHeld HR ⊢;refine tk 0 ?_ (hv:=by intro W2 hSw;obtain⟨q0,q1⟩:=(hSw.blk 1 rfl).c2;go_simp;(try with_reducible rfl));(try simp only [Act.put,lay]);refine tk 2 ?_ (hv:=by intro W2 hSw;obtain⟨q0,q1,q2⟩:=(hSw.blk 0 rfl).c3;go_simp;(try with_reducible rfl));(try simp only [Act.put,lay]);refine rdy 1 (fun KK hKK=>?_);go_simp;refine (HO.out _).mono ?_;rintro e wk ⟨rfl,hb1⟩;go_wp2_with fail;refine hKK.out _ _ (hHeld.keep hb1) (fun _=>?_);clear hKK KK hHeld;rename_i hHeld;(try simp only [Act.put,lay]);replace HR:=Hd (HR.out.below hb1);clear hb1;refine rdy 3 (fun KK hKK=>?_);go_simp;refine (HH.out _ HR.out).mono ?_;rintro e wk ⟨rfl,hb2⟩;go_wp2_with fail;refine hKK.out _ _ (hHeld.keep hb2) (fun _=>?_);clear hKK KK hHeld;rename_i hHeld;(try simp only [Act.put,lay]);replace HR:=Hd (HR.out.below hb2);clear hb2;refine tk 4 ?_;(try simp only [Act.put,lay]);refine wpAnyH_done (by kernel_rfl) ?_ _;have LL:=Hd hHeld;clear hHeld;go_wp2
 go_ret
 exact⟨rfl,LL.out.b⟩
theorem kept_any(i j:Int)(K:Nat)(g2:Bool)(A2:Option Addr)(n2 c2:Nat)(B2:Option Addr)(m2 d2:Nat)(v:Rat)(w:World)(hi:-(M:Int)≤i∧i≤M)(hj:-(M:Int)≤j∧j≤M)(hv:Iv i j)(hr:RatW w K g2 (.slice A2 n2 c2) (.slice B2 m2 d2) v)(hK:34≤K)(hK2:K≤1073741824):
  Calls Tryz.prog 37 #[.agg #[.bool g2,.slice A2 n2 c2,.slice B2 m2 d2],.agg #[.float .f64 (pat i),.float .f64 (pat j)]] w fun e w'=>e=.returned (.bool (hd i j v))∧Below w.heap.size w w':=by
 have k:=fun W (h:RatW W K g2 (.slice A2 n2 c2) (.slice B2 m2 d2) v)=>holds_any (pat i) (pat j) K g2 A2 n2 c2 B2 m2 d2 v W (pat_lt hi.1 hi.2) (pat_lt hj.1 hj.2) h hK hK2;rw [rd_pat hv] at k
 exact kept_walk _ _ K _ _ _ _ _ _ _ _ v w k hr
structure U32b (w:World) (A:Option Addr) (n c:Nat) (xs:List Nat):Prop where
 len:xs.length=n
 cap:n≤c
 small:n≤35184372087808
 w32:W32 xs
 at_:0<n→∃ ad,A=some ad∧ad.block<w.heap.size∧∀ j:Nat,j<n→w.cell? (ad.add j)=some (wd (xs[j]?.getD 0))
theorem U32b.below{w w':World}{A:Option Addr}{n c:Nat}{xs:List Nat}(h:U32b w A n c xs)(hb:Below w.heap.size w w'):U32b w' A n c xs:=
 ⟨h.len,h.cap,h.small,h.w32,fun hn=>by
   obtain⟨ad,e,hlt,hc⟩:=h.at_ hn;have:=hb.size;refine⟨ad,e,by omega,fun j hj=>?_⟩;rw [World.cell?_of_block (w:=w)]
   ·exact hc j hj
   ·rw [block_of_add];exact hb.block _ hlt⟩
theorem U32b.s{w:World}{A:Option Addr}{n c:Nat}{xs:List Nat}(h:U32b w A n c xs)(hn:n≤34359738368):U32s w A n c xs:=⟨h.len,h.cap,hn,h.w32,h.at_⟩
theorem U32b.cell{w:World}{A:Option Addr}{n c:Nat}{xs:List Nat}(h:U32b w A n c xs){j:Nat}(hj:j<n):
  ∃ ad,A=some ad∧w.cell? (ad.add j)=some (wd (xs[j]?.getD 0)):=by
 obtain⟨ad,e,_,hc⟩:=h.at_ (by omega)
 exact⟨ad,e,hc j hj⟩
section
variable {ops:Array Oper} {rest:List Oper} {o:Oper} {a:Act} {Q:Exit→Act→World→Prop} (w:World)
theorem wpList_append_u32b(hgd:o.guard=none)(s x:Operand)
  (ho:o.op=.call { callee:=.builtin .append,args:=#[s,x],argTypes:=#[40,40] })
  (B:Nat)(v:Value)(xs:List Nat)(hs:a.eval s=v)(hown:Own w B v xs)
  (ad:Addr)(c:Nat)(y:Nat)(hx:a.eval x=.slice (some ad) 1 c)(hc:w.cell? ad=some (wd y))(hlen:xs.length≤35184372087808)(hB:B≤w.heap.size)
  (h:∀ v' w',Own w' B v' (xs ++ [y])→w.grownBy w' v.ownBlock→wpList Tryz.prog ops Q rest (a.put o.dst v') w'):wpList Tryz.prog ops Q (o :: rest) a w:=by
 obtain⟨i0,hi,hz0,hz1,hz2⟩:=info_parts info_u32;refine wpList_append_own w hgd s x 40 ho B 117 i0 (.int .u32 0) 1 4 Tryz.underlying40 hi hz0 hz1 hz2 rfl (by decide) v xs.length (xs.map wd) hs hown ad 1 c [wd y] hx rfl ?_ ?_ ?_ ?_ hB ?_
 ·intro j u hu
  match j,hu with
  | 0,hu=>
   simp at hu
   subst hu;rw [show ad.add 0=ad from by simp [Addr.add]]
   exact hc
 ·intro u hu
  simp at hu
  subst hu;rfl
 ·unfold maxLen;omega
 ·omega
 ·intro v' w' h1 h2 _;refine h v' w' ?_ h2;unfold Own
  simpa using h1
end
theorem norm_big(A:Option Addr)(n c:Nat)(xs:List Nat)(w:World)(h:U32b w A n c xs):
  Calls Tryz.prog 93 #[.slice A n c] w fun e w'=>∃ A1 n1 c1,e=.returned (.slice A1 n1 c1)∧(n1=0↔num xs=0)∧Below w.heap.size w w':=by
 have hn:=h.small;have H:=Hd h;clear h
 go_enter Tryz.func93,Tryz.ntmps93
 go_wp2
 go_loop [3] (fun v=>∃ k:Nat,k≤n∧v=.int .i64 k∧∀ j:Nat,k≤j→xs[j]?.getD 0=0) (fun v=>(intOf v).toNat)
 case atStart=>exact⟨n,by omega,rfl,fun j hj=>by
  have:=H.out.len
  rw [List.getElem?_eq_none (by omega)];rfl⟩
 case round=>
  obtain⟨k,hk,rfl,hz⟩:=hrel;have Hz:=Hd hz;clear hz
  by_cases hg:0<k∧xs[k - 1]?.getD 0=0
  ·obtain⟨h0,hx⟩:=hg;obtain⟨ad,rfl,hc⟩:=H.out.cell (j:=k - 1) (by omega);rw [hx] at hc;have Hx:=Hd hx;clear hx;go_wp2
   go_round
   case rel=>
    refine⟨k - 1,by omega,by go_num,fun j hj=>?_⟩
    rcases Nat.lt_or_ge j k with h1 | h1
    ·obtain rfl:j=k - 1:=by omega
     exact Hx.out
    ·exact Hz.out j h1
   case measure=>simp [intOf];omega
  ·have hwl:wlen xs=k:=wlen_of (by rw [H.out.len];omega) Hz.out (by omega)
   have Hl:Hid (trim xs=xs.take k):=by
    have:=trim_eq_take xs;rw [hwl] at this;exact this
   clear hwl
   by_cases h0:0<k
   case' pos=>
    obtain⟨ad,rfl,hc⟩:=H.out.cell (j:=k - 1) (by omega)
    have hx:((xs[k - 1]?.getD 0:Nat):Int)≠0:=by omega
    have hx':(((xs[k - 1]?.getD 0:Nat):Int) == 0)=false:=by
     simpa using hx
    clear hg hx;go_wp2;clear hx' hc
   case' neg=>
    go_wp2;clear hg
   all_goals
    clear h0
    go_loopw [4,5] (fun v i wr=>∃ m:Nat,m≤k∧i=.int .i64 m∧Own wr w.heap.size v (xs.take m)∧Below w.heap.size w wr) (fun _ i _=>k - (intOf i).toNat)
    case atStart=>exact⟨0,by omega,rfl,Own.nil _ _,Below.refl _ _⟩
    case round=>
     obtain⟨m,hm,rfl,hown,hb⟩:=hrel
     by_cases hlt:m<k
     ·obtain⟨ad',e,hc⟩:=(H.out.below hb).cell (j:=m) (by omega)
      cases e
      have hbs:=hb.size
      go_wp2_with (at_builtin;refine wpList_append_u32b _ rfl _ _ rfl w.heap.size _ _ rfl (hown.alloc _) ⟨_,0,none⟩ 1 (xs[m]?.getD 0) rfl ?c1 ?c2 ?c3 ?_)
      case c1=>simp
      case c2=>rw [List.length_take];omega
      case c3=>simp;omega
      intro v' w' hown' hgrow
      have hown2:Own w' w.heap.size v' (xs.take (m+1)):=by
       rw [← getD_snoc (by rw [H.out.len];omega)];exact hown'
      have hb':Below w.heap.size w w':=(hb.alloc hbs _).grown hgrow (by simp;omega) (fun g hg=>(hown.lt g hg).1);clear hown hown' hb hgrow hc hbs;go_wp2
      go_roundw
      case rel=>exact⟨m+1,by omega,by go_num,hown2,hb'⟩
      case measure=>simp [intOf];omega
     ·obtain rfl:m=k:=by omega
      have hf:=hown.form;rw [← Hl.out] at hf;obtain⟨A1,c1,rfl⟩:=hf
      have hz:(trim xs).length=0↔num xs=0:=by rw [trim_eq_digs H.out.w32];exact digs_length_eq_zero
      clear hown;go_wp2
      go_ret
      exact⟨A1,_,c1,rfl,hz,hb⟩
set_option maxRecDepth 8000 in
theorem is_any(g2:Bool)(A2:Option Addr)(n2 c2:Nat)(B2:Option Addr)(m2 d2:Nat)(ys:List Nat)(r:Bool)(w:World)(hn:n2≤35184372087808)(hq:U32b w B2 m2 d2 ys)(hr:(decide (0<num ys) && decide (n2<100) && decide (m2<100))=r):
  Calls Tryz.prog 33 #[.agg #[.bool g2,.slice A2 n2 c2,.slice B2 m2 d2]] w fun e w'=>e=.returned (.bool r)∧Below w.heap.size w w':=by
 have hm:=hq.small;have hN:=fun W (hW:Below w.heap.size w W)=>norm_big B2 m2 d2 ys W (hq.below hW);have HN:=Hd hN
 obtain⟨q,hnq⟩:∃ q,num ys=q:=⟨_,rfl⟩
 rw [hnq] at hr HN;have HR:=Hd hr;clear hN hq hr hnq;have LL:=li1 w #[.bool g2,.slice A2 n2 c2,.slice B2 m2 d2] 42
 go_enter Tryz.func33,Tryz.ntmps33
 obtain⟨q1_0,q1_1,q1_2⟩:=(LL.out.blk 0 rfl).c3;go_wp2_with fail;refine (HN.out _ LL.out.b).mono ?_;rintro e wk ⟨A5,n5,c5,rfl,h5,hb⟩;replace LL:=stL LL hb;clear hb q1_0 q1_1 q1_2 HN;obtain⟨q2_0,q2_1,q2_2⟩:=(LL.out.blk 0 rfl).c3
 by_cases k0:0<q
 ·have k1:0<n5:=by omega
  by_cases k2:n2<100
  ·clear h5;go_wp2
   go_ret
   exact⟨ret_bool (by rw [← HR.out];simp [k0,k2];omega),LL.out.b⟩
  ·clear h5;go_wp2
   go_ret
   exact⟨ret_bool (by rw [← HR.out];simp [k0,k2]),LL.out.b⟩
 ·have k1:n5=0:=by omega
  subst k1;clear h5;go_wp2
  go_ret
  exact⟨ret_bool (by rw [← HR.out];simp [k0]),LL.out.b⟩
def NewRatW(w:World)(K:Nat)(x:Rat)(e:Ending)(w':World):Prop:=
 ∃ g A n c B m d,e=.returned (.agg #[.bool g,.slice A n c,.slice B m d])∧RatW w' K g (.slice A n c) (.slice B m d) x∧Below w.heap.size w w'
section
variable {w W W':World} {g n:Nat} {t:TypeId} {cs:Array Value} {B:Nat}
theorem U32n.setB{A:Option Addr}{m c a:Nat}(h:U32n W A m c a)(hb:Blk W g t cs)(hc:NoWd cs)(i:Nat)(vs:List Value):U32n (Proofs.YthlmlmfebpjgdaaGreatDoor.sets W g i vs) A m c a:=by
 obtain⟨xs,h1,h2⟩:=h
 exact⟨xs,h1.setsE hb hc rfl,h2⟩
theorem U32n.sets{A:Option Addr}{m c a:Nat}(h:U32n W A m c a)(hb:Blk W g t cs)(hc:NoWd cs)(i:Nat)(vs:List Value):U32n (Proofs.YthlmlmfebpjgdaaGreatDoor.sets W g i vs) A m c a:=h.setB hb hc i vs
theorem RatW.sets{K:Nat}{neg:Bool}{vn vd:Value}{x:Rat}(h:RatW W K neg vn vd x)(hb:Blk W g t cs)(hc:NoWd cs)(i:Nat)(vs:List Value):RatW (Proofs.YthlmlmfebpjgdaaGreatDoor.sets W g i vs) K neg vn vd x:=by
 obtain⟨p,q,A,n,c,B,m,d,h1,h2,h3,h4,h5⟩:=h
 exact⟨p,q,A,n,c,B,m,d,h1,h2,h3.setB hb hc i vs,h4.setB hb hc i vs,h5⟩
end
set_option maxRecDepth 8000 in
theorem rnegw_false(A1:Option Addr)(n1 c1:Nat)(B1:Option Addr)(m1 d1:Nat)(p q:Nat)(r1:Bool)(w:World)(hN1:∀ W,Below w.heap.size w W→Calls Tryz.prog 93 #[.slice A1 n1 c1] W fun e w'=>∃ A' n' c',e=.returned (.slice A' n' c')∧U32n w' A' n' c' p∧n'≤n1∧Below W.heap.size W w')(hN2:∀ W,Below w.heap.size w W→Calls Tryz.prog 93 #[.slice B1 m1 d1] W fun e w'=>∃ A' n' c',e=.returned (.slice A' n' c')∧U32n w' A' n' c' q∧n'≤m1∧Below W.heap.size W w')(hr:decide (0<n1)=r1)(hn:n1≤1073741824):
  Calls Tryz.prog 47 #[.agg #[.bool false,.slice A1 n1 c1,.slice B1 m1 d1]] w fun e w'=>∃ A5 n5 c5 B5 m5 d5,e=.returned (.agg #[.bool r1,.slice A5 n5 c5,.slice B5 m5 d5])∧U32n w' A5 n5 c5 p∧U32n w' B5 m5 d5 q∧n5≤n1∧m5≤m1∧Below w.heap.size w w':=by
 have HN1:=Hd hN1;have HN2:=Hd hN2;have HR:=Hd hr;clear hN1 hN2 hr;have LL:=li2 w #[.bool false,.slice A1 n1 c1,.slice B1 m1 d1] 42 #[.bool false,.slice none 0 0,.slice none 0 0] 42;have hr1:=HR.out
 have hr2:decide ((0:Int)<(n1:Int))=r1:=by rw [← hr1];simp
 go_enter Tryz.func47,Tryz.ntmps47
 go_wp2_with fail;replace LL:=Hd (LL.out.loose 1 rfl rfl)
 simp only [List.eraseIdx,List.size_toArray,List.length_cons,List.length_nil,Nat.zero_add,Nat.reduceAdd] at LL
 refine regL LL (fun hHeld=>?_);clear LL;generalize World.drew _=wk at hHeld  ⊢;refine tk 0 ?_;(try simp only [Act.put,lay]);refine tk 1 ?_ (hv:=by intro W2 hSw;obtain⟨q0,q1,q2⟩:=(hSw.blk 0 rfl).c3;go_simp;(try with_reducible rfl));(try simp only [Act.put,lay]);refine tk 2 ?_;(try simp only [Act.put,lay]);refine tk 3 ?_;(try simp only [Act.put,lay]);refine tk 4 ?_;(try simp only [Act.put,lay]);refine tk 5 ?_ (hv:=by intro W2 hSw;obtain⟨q0,q1,q2⟩:=(hSw.blk 0 rfl).c3;go_simp;(try with_reducible rfl));(try simp only [Act.put,lay]);refine tk 6 ?_;(try simp only [Act.put,lay]);refine tk 7 ?_;(try simp only [Act.put,lay]);refine tk 8 ?_;(try simp only [Act.put,lay]);refine tk 9 ?_;(try simp only [Act.put,lay]);refine tk 10 ?_ (hv:=by intro W2 hSw;obtain⟨q0,q1,q2⟩:=(hSw.blk 0 rfl).c3;go_simp;(try with_reducible rfl));(try simp only [Act.put,lay]);refine tk 12 ?_;(try simp only [Act.put,lay]);refine tk 13 ?_ (hv:=by intro W2 hSw;obtain⟨q0,q1,q2⟩:=(hSw.blk 0 rfl).c3;go_simp;(try with_reducible rfl));(try simp only [Act.put,lay]);refine rdy 11 (fun KK hKK=>?_);go_simp;refine (HN1.out _ hHeld.b).mono ?_;rintro e wk ⟨A5,n5,c5,rfl,hu5,hn5,hb5⟩;go_wp2_with fail;refine hKK.out _ _ (hHeld.keep hb5) (fun _=>?_);clear hKK KK hHeld;rename_i hHeld;(try simp only [Act.put,lay]);(try replace HU6:=Hd (HU6.out.below hb5));have HU5:=Hd hu5;clear hu5;clear hb5;refine rdy 14 (fun KK hKK=>?_);go_simp;refine (HN2.out _ hHeld.b).mono ?_;rintro e wk ⟨B5,m5,d5,rfl,hu6,hn6,hb6⟩;go_wp2_with fail;refine hKK.out _ _ (hHeld.keep hb6) (fun _=>?_)
 clear hKK KK hHeld;rename_i hHeld;(try simp only [Act.put,lay]);(try replace HU5:=Hd (HU5.out.below hb6));have HU6:=Hd hu6;clear hu6;clear hb6;refine tk 15 ?_;(try simp only [Act.put,lay]);refine rdy 16 (fun KK hKK=>?_);obtain⟨ha0,hf0,ha1,hf1,ha2,hf2⟩:=(hHeld.has 0 rfl).sf3;obtain⟨csx,hbx,-,hcx⟩:=hHeld.has 0 rfl;replace HU5:=Hd (HU5.out.sets hbx hcx 0 [.bool r1,.slice A5 n5 c5,.slice B5 m5 d5]);replace HU6:=Hd (HU6.out.sets hbx hcx 0 [.bool r1,.slice A5 n5 c5,.slice B5 m5 d5]);clear hbx hcx;go_simp;have HS_0:=(hHeld.has 0 rfl).laid [.bool r1,.slice A5 n5 c5,.slice B5 m5 d5] rfl;refine hKK.out _ _ (hHeld.over 0 rfl [.bool r1,.slice A5 n5 c5,.slice B5 m5 d5] rfl rfl (by first | omega | exact hHeld.le_of 0 rfl) (by simp<;>omega) (by simp<;>omega)) (fun _=>?_);clear hKK KK hHeld;rename_i hHeld;(try simp only [Act.put,lay]);refine wpAnyH_done (by kernel_rfl) ?_ _;have LB:=Hd hHeld.b;clear hHeld;obtain⟨hk2_0,hk2_1,hk2_2⟩:=HS_0.c3;clear HS_0
 simp [sets] at hk2_0 hk2_1 hk2_2
 go_wp2;refine bodyPost_ret (v:=.agg #[.bool r1,.slice A5 n5 c5,.slice B5 m5 d5]) (by simp [results,Tryz.results47,go_sem,hk2_0,hk2_1,hk2_2]) rfl ?_
 exact⟨A5,n5,c5,B5,m5,d5,rfl,HU5.out,HU6.out,hn5,hn6,LB.out⟩
set_option maxRecDepth 8000 in
theorem rnegw_true(A1:Option Addr)(n1 c1:Nat)(B1:Option Addr)(m1 d1:Nat)(p q:Nat)(w:World)(hN1:∀ W,Below w.heap.size w W→Calls Tryz.prog 93 #[.slice A1 n1 c1] W fun e w'=>∃ A' n' c',e=.returned (.slice A' n' c')∧U32n w' A' n' c' p∧n'≤n1∧Below W.heap.size W w')(hN2:∀ W,Below w.heap.size w W→Calls Tryz.prog 93 #[.slice B1 m1 d1] W fun e w'=>∃ A' n' c',e=.returned (.slice A' n' c')∧U32n w' A' n' c' q∧n'≤m1∧Below W.heap.size W w'):
  Calls Tryz.prog 47 #[.agg #[.bool true,.slice A1 n1 c1,.slice B1 m1 d1]] w fun e w'=>∃ A5 n5 c5 B5 m5 d5,e=.returned (.agg #[.bool false,.slice A5 n5 c5,.slice B5 m5 d5])∧U32n w' A5 n5 c5 p∧U32n w' B5 m5 d5 q∧n5≤n1∧m5≤m1∧Below w.heap.size w w':=by
 have HN1:=Hd hN1;have HN2:=Hd hN2;clear hN1 hN2;have LL:=li2 w #[.bool true,.slice A1 n1 c1,.slice B1 m1 d1] 42 #[.bool false,.slice none 0 0,.slice none 0 0] 42
 go_enter Tryz.func47,Tryz.ntmps47
 go_wp2_with fail;replace LL:=Hd (LL.out.loose 1 rfl rfl)
 simp only [List.eraseIdx,List.size_toArray,List.length_cons,List.length_nil,Nat.zero_add,Nat.reduceAdd] at LL
 refine regL LL (fun hHeld=>?_);clear LL;generalize World.drew _=wk at hHeld  ⊢;refine tk 0 ?_;(try simp only [Act.put,lay]);refine tk 1 ?_ (hv:=by intro W2 hSw;obtain⟨q0,q1,q2⟩:=(hSw.blk 0 rfl).c3;go_simp;(try with_reducible rfl));(try simp only [Act.put,lay]);refine tk 2 ?_;(try simp only [Act.put,lay]);refine tk 3 ?_;(try simp only [Act.put,lay]);refine tkn 4 ?_;(try simp only [Act.put,lay]);refine tkn 5 ?_;(try simp only [Act.put,lay]);refine tkn 6 ?_;(try simp only [Act.put,lay]);refine tkn 7 ?_;(try simp only [Act.put,lay]);refine tk 8 ?_;(try simp only [Act.put,lay]);refine tk 9 ?_;(try simp only [Act.put,lay]);refine tk 10 ?_ (hv:=by intro W2 hSw;obtain⟨q0,q1,q2⟩:=(hSw.blk 0 rfl).c3;go_simp;(try with_reducible rfl));(try simp only [Act.put,lay]);refine tk 12 ?_;(try simp only [Act.put,lay]);refine tk 13 ?_ (hv:=by intro W2 hSw;obtain⟨q0,q1,q2⟩:=(hSw.blk 0 rfl).c3;go_simp;(try with_reducible rfl));(try simp only [Act.put,lay]);refine rdy 11 (fun KK hKK=>?_);go_simp;refine (HN1.out _ hHeld.b).mono ?_;rintro e wk ⟨A5,n5,c5,rfl,hu5,hn5,hb5⟩;go_wp2_with fail;refine hKK.out _ _ (hHeld.keep hb5) (fun _=>?_);clear hKK KK hHeld;rename_i hHeld;(try simp only [Act.put,lay]);(try replace HU6:=Hd (HU6.out.below hb5));have HU5:=Hd hu5;clear hu5;clear hb5;refine rdy 14 (fun KK hKK=>?_);go_simp;refine (HN2.out _ hHeld.b).mono ?_;rintro e wk ⟨B5,m5,d5,rfl,hu6,hn6,hb6⟩;go_wp2_with fail;refine hKK.out _ _ (hHeld.keep hb6) (fun _=>?_);clear hKK KK hHeld;rename_i hHeld;(try simp only [Act.put,lay])
 (try replace HU5:=Hd (HU5.out.below hb6));have HU6:=Hd hu6;clear hu6;clear hb6;refine tk 15 ?_;(try simp only [Act.put,lay]);refine rdy 16 (fun KK hKK=>?_);obtain⟨ha0,hf0,ha1,hf1,ha2,hf2⟩:=(hHeld.has 0 rfl).sf3;obtain⟨csx,hbx,-,hcx⟩:=hHeld.has 0 rfl;replace HU5:=Hd (HU5.out.sets hbx hcx 0 [.bool false,.slice A5 n5 c5,.slice B5 m5 d5]);replace HU6:=Hd (HU6.out.sets hbx hcx 0 [.bool false,.slice A5 n5 c5,.slice B5 m5 d5]);clear hbx hcx;go_simp;have HS_0:=(hHeld.has 0 rfl).laid [.bool false,.slice A5 n5 c5,.slice B5 m5 d5] rfl;refine hKK.out _ _ (hHeld.over 0 rfl [.bool false,.slice A5 n5 c5,.slice B5 m5 d5] rfl rfl (by first | omega | exact hHeld.le_of 0 rfl) (by simp<;>omega) (by simp<;>omega)) (fun _=>?_);clear hKK KK hHeld;rename_i hHeld;(try simp only [Act.put,lay]);refine wpAnyH_done (by kernel_rfl) ?_ _;have LB:=Hd hHeld.b;clear hHeld;obtain⟨hk2_0,hk2_1,hk2_2⟩:=HS_0.c3;clear HS_0
 simp [sets] at hk2_0 hk2_1 hk2_2
 go_wp2;refine bodyPost_ret (v:=.agg #[.bool false,.slice A5 n5 c5,.slice B5 m5 d5]) (by simp [results,Tryz.results47,go_sem,hk2_0,hk2_1,hk2_2]) rfl ?_
 exact⟨A5,n5,c5,B5,m5,d5,rfl,HU5.out,HU6.out,hn5,hn6,LB.out⟩
theorem rneg_w(K:Nat)(g:Bool)(vn vd:Value)(x:Rat)(w:World)(h:RatW w K g vn vd x)(hK:K≤1073741824):Calls Tryz.prog 47 #[.agg #[.bool g,vn,vd]] w (NewRatW w K (-x)):=by
 obtain⟨p,q,A,n,c,B,m,d,rfl,rfl,hu,hv,hq,⟨hn,hm⟩,hp,hqK,rfl⟩:=h
 have N1:∀ W,Below w.heap.size w W→Calls Tryz.prog 93 #[.slice A n c] W fun e w'=>∃ A' n' c',e=.returned (.slice A' n' c')∧U32n w' A' n' c' p∧n'≤n∧Below W.heap.size W w':=fun W hW=>
  (norm_n A n c W (hu.below hW) (by omega)).mono (by rintro e w' ⟨A1,n1,c1,h1,h2,h3,h4,h5⟩;exact⟨A1,n1,c1,h1,h2.n,h3,h5⟩)
 have N2:∀ W,Below w.heap.size w W→Calls Tryz.prog 93 #[.slice B m d] W fun e w'=>∃ A' n' c',e=.returned (.slice A' n' c')∧U32n w' A' n' c' q∧n'≤m∧Below W.heap.size W w':=fun W hW=>
  (norm_n B m d W (hv.below hW) (by omega)).mono (by rintro e w' ⟨A1,n1,c1,h1,h2,h3,h4,h5⟩;exact⟨A1,n1,c1,h1,h2.n,h3,h5⟩)
 cases g
 ·refine (rnegw_false A n c B m d p q _ w N1 N2 rfl (by omega)).mono ?_;rintro e w' ⟨A5,n5,c5,B5,m5,d5,rfl,h5,h6,l5,l6,hb⟩;refine⟨_,A5,n5,c5,B5,m5,d5,rfl,⟨p,q,A5,n5,c5,B5,m5,d5,rfl,rfl,h5,h6,hq,⟨by omega,by omega⟩,hp,hqK,?_⟩,hb⟩
  by_cases h0:0<n
  ·rw [decide_eq_true h0,rv_true]
  ·rw [decide_eq_false h0]
   have p0:p=0:=by
    obtain⟨xs,hx,rfl⟩:=hu;have:=hx.len;have e:xs=[]:=List.eq_nil_of_length_eq_zero (by omega);rw [e];rfl
   subst p0;rw [rv_zero];grind
 ·refine (rnegw_true A n c B m d p q w N1 N2).mono ?_;rintro e w' ⟨A5,n5,c5,B5,m5,d5,rfl,h5,h6,l5,l6,hb⟩;refine⟨_,A5,n5,c5,B5,m5,d5,rfl,⟨p,q,A5,n5,c5,B5,m5,d5,rfl,rfl,h5,h6,hq,⟨by omega,by omega⟩,hp,hqK,?_⟩,hb⟩;rw [rv_true,Rat.neg_neg]
set_option maxRecDepth 8000 in
theorem rsub_walk(K:Nat)(y x:Rat)(g1:Bool)(A1:Option Addr)(n1 c1:Nat)(B1:Option Addr)(m1 d1:Nat)(g2:Bool)(A2:Option Addr)(n2 c2:Nat)(B2:Option Addr)(m2 d2:Nat)(w:World)(hN:∀ W,Below w.heap.size w W→Calls Tryz.prog 47 #[.agg #[.bool g2,.slice A2 n2 c2,.slice B2 m2 d2]] W (NewRatW W K y))
  (hA:∀ W (g3:Bool) (A3:Option Addr) (n3 c3:Nat) (B3:Option Addr) (m3 d3:Nat),Below w.heap.size w W→RatW W K g3 (.slice A3 n3 c3) (.slice B3 m3 d3) y→Calls Tryz.prog 35 #[.agg #[.bool g1,.slice A1 n1 c1,.slice B1 m1 d1],.agg #[.bool g3,.slice A3 n3 c3,.slice B3 m3 d3]] W (NewRatS W (2*K+1) x)):
  Calls Tryz.prog 41 #[.agg #[.bool g1,.slice A1 n1 c1,.slice B1 m1 d1],.agg #[.bool g2,.slice A2 n2 c2,.slice B2 m2 d2]] w (NewRatS w (2*K+1) x):=by
 have HN:=Hd hN;have HA:=Hd hA;clear hN hA;have LL:=li3 w #[.bool g1,.slice A1 n1 c1,.slice B1 m1 d1] 42 #[.bool g2,.slice A2 n2 c2,.slice B2 m2 d2] 42 #[.bool false,.slice none 0 0,.slice none 0 0] 42
 go_enter Tryz.func41,Tryz.ntmps41
 go_wp2_with fail;replace LL:=Hd (LL.out.loose 2 rfl rfl)
 simp only [List.eraseIdx,List.size_toArray,List.length_cons,List.length_nil,Nat.zero_add,Nat.reduceAdd] at LL
 refine regL LL (fun hHeld=>?_);clear LL;generalize World.drew _=wk at hHeld  ⊢;refine tk 0 ?_ (hv:=by intro W2 hSw;obtain⟨q0,q1,q2⟩:=(hSw.blk 0 rfl).c3;go_simp;(try with_reducible rfl));(try simp only [Act.put,lay]);refine tk 1 ?_ (hv:=by intro W2 hSw;obtain⟨q0,q1,q2⟩:=(hSw.blk 1 rfl).c3;go_simp;(try with_reducible rfl));(try simp only [Act.put,lay]);refine rdy 2 (fun KK hKK=>?_);go_simp;refine (HN.out _ hHeld.b).mono ?_;rintro e wk ⟨g3,A3,n3,c3,B3,m3,d3,rfl,hr3,hb3⟩;go_wp2_with fail;refine hKK.out _ _ (hHeld.keep hb3) (fun _=>?_);clear hKK KK hHeld;rename_i hHeld;(try simp only [Act.put,lay]);(try replace HR5:=Hd (HR5.out.below hb3));have HR3:=Hd hr3;clear hr3;clear hb3;refine rdy 3 (fun KK hKK=>?_);go_simp;refine (HA.out _ _ _ _ _ _ _ _ hHeld.b HR3.out).mono ?_;rintro e wk ⟨g5,A5,n5,c5,B5,m5,d5,rfl,hr5,hb5⟩;go_wp2_with fail;refine hKK.out _ _ (hHeld.keep hb5) (fun _=>?_);clear hKK KK hHeld;rename_i hHeld;(try simp only [Act.put,lay]);(try replace HR3:=Hd (HR3.out.below hb5));have HR5:=Hd hr5;clear hr5;clear hb5;refine rdy 4 (fun KK hKK=>?_);obtain⟨ha0,hf0,ha1,hf1,ha2,hf2⟩:=(hHeld.has 0 rfl).sf3;obtain⟨csx,hbx,-,hcx⟩:=hHeld.has 0 rfl;(try clear HR3);replace HR5:=Hd (HR5.out.sets hbx hcx 0 [.bool g5,.slice A5 n5 c5,.slice B5 m5 d5]);clear hbx hcx;go_simp;have HS_0:=(hHeld.has 0 rfl).laid [.bool g5,.slice A5 n5 c5,.slice B5 m5 d5] rfl;refine hKK.out _ _ (hHeld.over 0 rfl [.bool g5,.slice A5 n5 c5,.slice B5 m5 d5] rfl rfl (by first | omega | exact hHeld.le_of 0 rfl) (by simp<;>omega) (by simp<;>omega)) (fun _=>?_)
 clear hKK KK hHeld;rename_i hHeld;(try simp only [Act.put,lay]);refine wpAnyH_done (by kernel_rfl) ?_ _;have LB:=Hd hHeld.b;clear hHeld;obtain⟨hk4_0,hk4_1,hk4_2⟩:=HS_0.c3;clear HS_0
 simp [sets] at hk4_0 hk4_1 hk4_2
 go_wp2;refine bodyPost_ret (v:=.agg #[.bool g5,.slice A5 n5 c5,.slice B5 m5 d5]) (by simp [results,Tryz.results41,go_sem,hk4_0,hk4_1,hk4_2]) rfl ?_
 exact⟨g5,A5,n5,c5,B5,m5,d5,rfl,HR5.out,LB.out⟩
theorem rsub_w(K:Nat)(g1:Bool)(A1:Option Addr)(n1 c1:Nat)(B1:Option Addr)(m1 d1:Nat)(x1:Rat)(g2:Bool)(A2:Option Addr)(n2 c2:Nat)(B2:Option Addr)(m2 d2:Nat)(x2:Rat)(w:World)(h1:RatW w K g1 (.slice A1 n1 c1) (.slice B1 m1 d1) x1)(h2:RatW w K g2 (.slice A2 n2 c2) (.slice B2 m2 d2) x2)(hK:K≤1048576):
  Calls Tryz.prog 41 #[.agg #[.bool g1,.slice A1 n1 c1,.slice B1 m1 d1],.agg #[.bool g2,.slice A2 n2 c2,.slice B2 m2 d2]] w (NewRatS w (2*K+1) (x1 - x2)):=by
 rw [show x1 - x2=x1+-x2 from Rat.sub_eq_add_neg _ _]
 exact rsub_walk K (-x2) _ g1 A1 n1 c1 B1 m1 d1 g2 A2 n2 c2 B2 m2 d2 w (fun W hW=>rneg_w K g2 _ _ x2 W (h2.below hW) (by omega)) (fun W g A n c B m d hW h=>(radd_w K g1 _ _ x1 g _ _ (-x2) W (h1.below hW) h hK).mono fun _ _ h=>h.s)
set_option maxRecDepth 8000 in
theorem lesser_snd(g1:Bool)(A1:Option Addr)(n1 c1:Nat)(B1:Option Addr)(m1 d1:Nat)(g2:Bool)(A2:Option Addr)(n2 c2:Nat)(B2:Option Addr)(m2 d2:Nat)(s:Int)(w:World)(hC:∀ W,Below w.heap.size w W→Calls Tryz.prog 113 #[.agg #[.bool g2,.slice A2 n2 c2,.slice B2 m2 d2],.agg #[.bool g1,.slice A1 n1 c1,.slice B1 m1 d1]] W fun e w'=>e=.returned (.int .i64 s)∧Below W.heap.size W w')(hs:decide (s<0)=true):
  Calls Tryz.prog 44 #[.agg #[.bool g1,.slice A1 n1 c1,.slice B1 m1 d1],.agg #[.bool g2,.slice A2 n2 c2,.slice B2 m2 d2]] w fun e w'=>e=.returned (.agg #[.bool g2,.slice A2 n2 c2,.slice B2 m2 d2])∧Below w.heap.size w w':=by
 have HC:=Hd hC;clear hC;have LL:=li3 w #[.bool g1,.slice A1 n1 c1,.slice B1 m1 d1] 42 #[.bool g2,.slice A2 n2 c2,.slice B2 m2 d2] 42 #[.bool false,.slice none 0 0,.slice none 0 0] 42
 go_enter Tryz.func44,Tryz.ntmps44
 obtain⟨q1_0,q1_1,q1_2⟩:=(LL.out.blk 0 rfl).c3;obtain⟨q2_0,q2_1,q2_2⟩:=(LL.out.blk 1 rfl).c3;go_wp2_with fail;refine (HC.out _ LL.out.b).mono ?_;rintro e wk ⟨rfl,hb⟩;replace LL:=stL LL hb;clear hb q1_0 q1_1 q1_2 q2_0 q2_1 q2_2 HC;obtain⟨q3_0,q3_1,q3_2⟩:=(LL.out.blk 1 rfl).c3;replace LL:=Hd (LL.out.loose 2 rfl rfl)
 simp only [List.eraseIdx,List.size_toArray,List.length_cons,List.length_nil,Nat.zero_add,Nat.reduceAdd] at LL
 obtain⟨ha4_0,hf4_0,ha4_1,hf4_1,ha4_2,hf4_2⟩:=(LL.out.has 0 rfl).sf3;have LF:=Hd (LL.out.write [.bool g2,.slice A2 n2 c2,.slice B2 m2 d2] rfl (by omega) (by simp<;>omega) (by simp<;>omega));obtain⟨hk4_0,hk4_1,hk4_2⟩:=(LF.out.blk 2 rfl).c3
 simp [sets] at hk4_0 hk4_1 hk4_2
 clear LL;go_wp2;refine bodyPost_ret (v:=.agg #[.bool g2,.slice A2 n2 c2,.slice B2 m2 d2]) (by simp [results,Tryz.results44,go_sem,hk4_0,hk4_1,hk4_2]) rfl ?_
 exact⟨rfl,LF.out.b⟩
set_option maxRecDepth 8000 in
theorem lesser_fst(g1:Bool)(A1:Option Addr)(n1 c1:Nat)(B1:Option Addr)(m1 d1:Nat)(g2:Bool)(A2:Option Addr)(n2 c2:Nat)(B2:Option Addr)(m2 d2:Nat)(s:Int)(w:World)(hC:∀ W,Below w.heap.size w W→Calls Tryz.prog 113 #[.agg #[.bool g2,.slice A2 n2 c2,.slice B2 m2 d2],.agg #[.bool g1,.slice A1 n1 c1,.slice B1 m1 d1]] W fun e w'=>e=.returned (.int .i64 s)∧Below W.heap.size W w')(hs:decide (s<0)=false):
  Calls Tryz.prog 44 #[.agg #[.bool g1,.slice A1 n1 c1,.slice B1 m1 d1],.agg #[.bool g2,.slice A2 n2 c2,.slice B2 m2 d2]] w fun e w'=>e=.returned (.agg #[.bool g1,.slice A1 n1 c1,.slice B1 m1 d1])∧Below w.heap.size w w':=by
 have HC:=Hd hC;clear hC;have LL:=li3 w #[.bool g1,.slice A1 n1 c1,.slice B1 m1 d1] 42 #[.bool g2,.slice A2 n2 c2,.slice B2 m2 d2] 42 #[.bool false,.slice none 0 0,.slice none 0 0] 42
 go_enter Tryz.func44,Tryz.ntmps44
 obtain⟨q1_0,q1_1,q1_2⟩:=(LL.out.blk 0 rfl).c3;obtain⟨q2_0,q2_1,q2_2⟩:=(LL.out.blk 1 rfl).c3;go_wp2_with fail;refine (HC.out _ LL.out.b).mono ?_;rintro e wk ⟨rfl,hb⟩;replace LL:=stL LL hb;clear hb q1_0 q1_1 q1_2 q2_0 q2_1 q2_2 HC;obtain⟨q3_0,q3_1,q3_2⟩:=(LL.out.blk 0 rfl).c3;replace LL:=Hd (LL.out.loose 2 rfl rfl)
 simp only [List.eraseIdx,List.size_toArray,List.length_cons,List.length_nil,Nat.zero_add,Nat.reduceAdd] at LL
 obtain⟨ha4_0,hf4_0,ha4_1,hf4_1,ha4_2,hf4_2⟩:=(LL.out.has 0 rfl).sf3;have LF:=Hd (LL.out.write [.bool g1,.slice A1 n1 c1,.slice B1 m1 d1] rfl (by omega) (by simp<;>omega) (by simp<;>omega));obtain⟨hk4_0,hk4_1,hk4_2⟩:=(LF.out.blk 2 rfl).c3
 simp [sets] at hk4_0 hk4_1 hk4_2
 clear LL;go_wp2;refine bodyPost_ret (v:=.agg #[.bool g1,.slice A1 n1 c1,.slice B1 m1 d1]) (by simp [results,Tryz.results44,go_sem,hk4_0,hk4_1,hk4_2]) rfl ?_
 exact⟨rfl,LF.out.b⟩
set_option maxRecDepth 8000 in
theorem greater_snd(g1:Bool)(A1:Option Addr)(n1 c1:Nat)(B1:Option Addr)(m1 d1:Nat)(g2:Bool)(A2:Option Addr)(n2 c2:Nat)(B2:Option Addr)(m2 d2:Nat)(s:Int)(w:World)(hC:∀ W,Below w.heap.size w W→Calls Tryz.prog 113 #[.agg #[.bool g2,.slice A2 n2 c2,.slice B2 m2 d2],.agg #[.bool g1,.slice A1 n1 c1,.slice B1 m1 d1]] W fun e w'=>e=.returned (.int .i64 s)∧Below W.heap.size W w')(hs:decide (0<s)=true):
  Calls Tryz.prog 45 #[.agg #[.bool g1,.slice A1 n1 c1,.slice B1 m1 d1],.agg #[.bool g2,.slice A2 n2 c2,.slice B2 m2 d2]] w fun e w'=>e=.returned (.agg #[.bool g2,.slice A2 n2 c2,.slice B2 m2 d2])∧Below w.heap.size w w':=by
 have HC:=Hd hC;clear hC;have LL:=li3 w #[.bool g1,.slice A1 n1 c1,.slice B1 m1 d1] 42 #[.bool g2,.slice A2 n2 c2,.slice B2 m2 d2] 42 #[.bool false,.slice none 0 0,.slice none 0 0] 42
 go_enter Tryz.func45,Tryz.ntmps45
 obtain⟨q1_0,q1_1,q1_2⟩:=(LL.out.blk 0 rfl).c3;obtain⟨q2_0,q2_1,q2_2⟩:=(LL.out.blk 1 rfl).c3;go_wp2_with fail;refine (HC.out _ LL.out.b).mono ?_;rintro e wk ⟨rfl,hb⟩;replace LL:=stL LL hb;clear hb q1_0 q1_1 q1_2 q2_0 q2_1 q2_2 HC;obtain⟨q3_0,q3_1,q3_2⟩:=(LL.out.blk 1 rfl).c3;replace LL:=Hd (LL.out.loose 2 rfl rfl)
 simp only [List.eraseIdx,List.size_toArray,List.length_cons,List.length_nil,Nat.zero_add,Nat.reduceAdd] at LL
 obtain⟨ha4_0,hf4_0,ha4_1,hf4_1,ha4_2,hf4_2⟩:=(LL.out.has 0 rfl).sf3;have LF:=Hd (LL.out.write [.bool g2,.slice A2 n2 c2,.slice B2 m2 d2] rfl (by omega) (by simp<;>omega) (by simp<;>omega));obtain⟨hk4_0,hk4_1,hk4_2⟩:=(LF.out.blk 2 rfl).c3
 simp [sets] at hk4_0 hk4_1 hk4_2
 clear LL;go_wp2;refine bodyPost_ret (v:=.agg #[.bool g2,.slice A2 n2 c2,.slice B2 m2 d2]) (by simp [results,Tryz.results45,go_sem,hk4_0,hk4_1,hk4_2]) rfl ?_
 exact⟨rfl,LF.out.b⟩
set_option maxRecDepth 8000 in
theorem greater_fst(g1:Bool)(A1:Option Addr)(n1 c1:Nat)(B1:Option Addr)(m1 d1:Nat)(g2:Bool)(A2:Option Addr)(n2 c2:Nat)(B2:Option Addr)(m2 d2:Nat)(s:Int)(w:World)(hC:∀ W,Below w.heap.size w W→Calls Tryz.prog 113 #[.agg #[.bool g2,.slice A2 n2 c2,.slice B2 m2 d2],.agg #[.bool g1,.slice A1 n1 c1,.slice B1 m1 d1]] W fun e w'=>e=.returned (.int .i64 s)∧Below W.heap.size W w')(hs:decide (0<s)=false):
  Calls Tryz.prog 45 #[.agg #[.bool g1,.slice A1 n1 c1,.slice B1 m1 d1],.agg #[.bool g2,.slice A2 n2 c2,.slice B2 m2 d2]] w fun e w'=>e=.returned (.agg #[.bool g1,.slice A1 n1 c1,.slice B1 m1 d1])∧Below w.heap.size w w':=by
 have HC:=Hd hC;clear hC;have LL:=li3 w #[.bool g1,.slice A1 n1 c1,.slice B1 m1 d1] 42 #[.bool g2,.slice A2 n2 c2,.slice B2 m2 d2] 42 #[.bool false,.slice none 0 0,.slice none 0 0] 42
 go_enter Tryz.func45,Tryz.ntmps45
 obtain⟨q1_0,q1_1,q1_2⟩:=(LL.out.blk 0 rfl).c3;obtain⟨q2_0,q2_1,q2_2⟩:=(LL.out.blk 1 rfl).c3;go_wp2_with fail;refine (HC.out _ LL.out.b).mono ?_;rintro e wk ⟨rfl,hb⟩;replace LL:=stL LL hb;clear hb q1_0 q1_1 q1_2 q2_0 q2_1 q2_2 HC;obtain⟨q3_0,q3_1,q3_2⟩:=(LL.out.blk 0 rfl).c3;replace LL:=Hd (LL.out.loose 2 rfl rfl)
 simp only [List.eraseIdx,List.size_toArray,List.length_cons,List.length_nil,Nat.zero_add,Nat.reduceAdd] at LL
 obtain⟨ha4_0,hf4_0,ha4_1,hf4_1,ha4_2,hf4_2⟩:=(LL.out.has 0 rfl).sf3;have LF:=Hd (LL.out.write [.bool g1,.slice A1 n1 c1,.slice B1 m1 d1] rfl (by omega) (by simp<;>omega) (by simp<;>omega));obtain⟨hk4_0,hk4_1,hk4_2⟩:=(LF.out.blk 2 rfl).c3
 simp [sets] at hk4_0 hk4_1 hk4_2
 clear LL;go_wp2;refine bodyPost_ret (v:=.agg #[.bool g1,.slice A1 n1 c1,.slice B1 m1 d1]) (by simp [results,Tryz.results45,go_sem,hk4_0,hk4_1,hk4_2]) rfl ?_
 exact⟨rfl,LF.out.b⟩
def rmin(a b:Rat):Rat:=if b<a then b else a
def rmax(a b:Rat):Rat:=if a<b then b else a
theorem lesser_w(K:Nat)(g1:Bool)(A1:Option Addr)(n1 c1:Nat)(B1:Option Addr)(m1 d1:Nat)(x1:Rat)(g2:Bool)(A2:Option Addr)(n2 c2:Nat)(B2:Option Addr)(m2 d2:Nat)(x2:Rat)(w:World)(h1:RatW w K g1 (.slice A1 n1 c1) (.slice B1 m1 d1) x1)(h2:RatW w K g2 (.slice A2 n2 c2) (.slice B2 m2 d2) x2)(hK:K≤1048576):
  Calls Tryz.prog 44 #[.agg #[.bool g1,.slice A1 n1 c1,.slice B1 m1 d1],.agg #[.bool g2,.slice A2 n2 c2,.slice B2 m2 d2]] w (NewRatW w K (rmin x1 x2)):=by
 have hC:=fun W (hW:Below w.heap.size w W)=>rcmp_w K g2 _ _ x2 g1 _ _ x1 W (h2.below hW) (h1.below hW) (by omega);unfold rmin
 by_cases c:x2<x1
 ·rw [if_pos c]
  have e:rc x2 x1=-1:=by unfold rc;rw [if_pos c]
  rw [e] at hC;refine (lesser_snd g1 A1 n1 c1 B1 m1 d1 g2 A2 n2 c2 B2 m2 d2 _ w hC rfl).mono ?_;rintro e w' ⟨rfl,hb⟩
  exact⟨_,_,_,_,_,_,_,rfl,h2.below hb,hb⟩
 ·rw [if_neg c]
  have e:decide (rc x2 x1<0)=false:=by
   unfold rc;rw [if_neg c]
   split<;>rfl
  refine (lesser_fst g1 A1 n1 c1 B1 m1 d1 g2 A2 n2 c2 B2 m2 d2 _ w hC e).mono ?_;rintro e w' ⟨rfl,hb⟩
  exact⟨_,_,_,_,_,_,_,rfl,h1.below hb,hb⟩
theorem greater_w(K:Nat)(g1:Bool)(A1:Option Addr)(n1 c1:Nat)(B1:Option Addr)(m1 d1:Nat)(x1:Rat)(g2:Bool)(A2:Option Addr)(n2 c2:Nat)(B2:Option Addr)(m2 d2:Nat)(x2:Rat)(w:World)(h1:RatW w K g1 (.slice A1 n1 c1) (.slice B1 m1 d1) x1)(h2:RatW w K g2 (.slice A2 n2 c2) (.slice B2 m2 d2) x2)(hK:K≤1048576):
  Calls Tryz.prog 45 #[.agg #[.bool g1,.slice A1 n1 c1,.slice B1 m1 d1],.agg #[.bool g2,.slice A2 n2 c2,.slice B2 m2 d2]] w (NewRatW w K (rmax x1 x2)):=by
 have hC:=fun W (hW:Below w.heap.size w W)=>rcmp_w K g2 _ _ x2 g1 _ _ x1 W (h2.below hW) (h1.below hW) (by omega);unfold rmax
 by_cases c:x1<x2
 ·rw [if_pos c]
  have e:rc x2 x1=1:=by unfold rc;rw [if_neg (by grind),if_pos c]
  rw [e] at hC;refine (greater_snd g1 A1 n1 c1 B1 m1 d1 g2 A2 n2 c2 B2 m2 d2 _ w hC rfl).mono ?_;rintro e w' ⟨rfl,hb⟩
  exact⟨_,_,_,_,_,_,_,rfl,h2.below hb,hb⟩
 ·rw [if_neg c]
  have e:decide (0<rc x2 x1)=false:=by
   unfold rc
   by_cases z:x2<x1
   ·rw [if_pos z];rfl
   ·rw [if_neg z,if_neg c];rfl
  refine (greater_fst g1 A1 n1 c1 B1 m1 d1 g2 A2 n2 c2 B2 m2 d2 _ w hC e).mono ?_;rintro e w' ⟨rfl,hb⟩
  exact⟨_,_,_,_,_,_,_,rfl,h1.below hb,hb⟩
end Go.Proofs.YthlmlmfebpjgdaaGreatDoor
