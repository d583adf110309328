/-
Walks: vergeref6.Holds; vergelaw10: is, kept, lesser, greater.
Walks: vergeref2.Norm of words of any length that can be handed in; vergelaw10.is.
Walks: package rev, read.
Walks: package rev, cut of what is not open.
-/
import Derived.Test.YthlmlmfebpjgdaaGreatDoorM14
import Derived.Test.YthlmlmfebpjgdaaGreatDoorM22
import Derived.Test.YthlmlmfebpjgdaaGreatDoorM19
import Derived.Test.YthlmlmfebpjgdaaGreatDoorM07
import Derived.Deep.DeepCutAuto
import Derived.Test.YthlmlmfebpjgdaaGreatDoorM15
import Derived.Test.YthlmlmfebpjgdaaGreatDoorM03
import Derived.Test.YthlmlmfebpjgdaaGreatDoorPCut2T
set_option linter.unusedSimpArgs false
set_option linter.unusedVariables false
set_option maxHeartbeats 12800000
namespace Go.Proofs.YthlmlmfebpjgdaaGreatDoor
open Go.RowKit
theorem ec_swp(s:Int)(x:Rat)(t:Int)(y:Rat):ec s x t y=- ec t y s x:=by
 unfold ec
 by_cases h:s=t
 ·subst h;rw [if_pos rfl,if_pos rfl]
  split
  ·exact rc_swap x y
  ·rfl
 ·rw [if_neg h,if_neg (show ¬ t=s by omega)]
  by_cases h1:s<t
  ·rw [if_pos h1,if_neg (by omega)]
  ·rw [if_neg h1,if_pos (by omega)];rfl
set_option maxRecDepth 8000 in
theorem holds_none(f1 f2 K:Nat)(i1 j1:Int)(g2:Bool)(A2:Option Addr)(n2 c2:Nat)(B2:Option Addr)(m2 d2:Nat)(v:Rat)(w:World)(hO1:∀ W,Calls Tryz.prog 83 #[.agg #[.int .u64 (f1:Int),.int .u64 (f2:Int)]] W (NewSetI W i1 j1))
  (hN:∀ W o1 s1 g1 A1 n1 c1 B1 m1 d1 s51 g51 A51 n51 c51 B51 m51 d51,SetOf W (.agg #[.bool o1,.int .i64 s1,.bool g1,.slice A1 n1 c1,.slice B1 m1 d1,.int .i64 s51,.bool g51,.slice A51 n51 c51,.slice B51 m51 d51]) i1 j1→o1=true)
  (hr:RatW w K g2 (.slice A2 n2 c2) (.slice B2 m2 d2) v):
  Calls Tryz.prog 34 #[.agg #[.int .u64 (f1:Int),.int .u64 (f2:Int)],.agg #[.bool g2,.slice A2 n2 c2,.slice B2 m2 d2]] w fun e w'=>e=.returned (.bool false)∧Below w.heap.size w w':=by
 have HO1:=Hd hO1;have HN:=Hd hN;clear hO1 hN;have LL:=li2 w #[.int .u64 (f1:Int),.int .u64 (f2:Int)] 24 #[.bool g2,.slice A2 n2 c2,.slice B2 m2 d2] 42;have HR:=Hd (hr.below LL.out.b);clear hr
 go_enter Tryz.func34,Tryz.ntmps34
 obtain⟨q1_0,q1_1⟩:=(LL.out.blk 0 rfl).c2;go_wp2_with fail;refine (HO1.out _).mono ?_;rintro e wk ⟨o1,s1,g1,A1,n1,c1,B1,m1,d1,s51,g51,A51,n51,c51,B51,m51,d51,rfl,hs1,hb⟩;replace LL:=stL LL hb;replace HR:=Hd (HR.out.below hb);clear hb q1_0 q1_1 HO1;have HS1:=Hd hs1;clear hs1
 obtain rfl:o1=true:=HN.out _ _ _ _ _ _ _ _ _ _ _ _ _ _ _ _ _ _ HS1.out
 clear HN
 go_upto_region 2 with fail
 have hl_j5:=LL.out.lts;generalize hwn:World.alloc wk _=wn;replace HR:=Hd (HR.out.below (below_allocE hwn));replace HS1:=Hd (HS1.out.below (below_allocE hwn));replace LL:=Hd (LL.out.newE hwn)
 simp only [List.cons_append,List.nil_append] at LL
 simp only [List.mem_cons,List.not_mem_nil,or_false,forall_eq_or_imp,forall_eq,false_imp_iff,implies_true,and_true] at hl_j5
 clear hwn;generalize wk.heap.size=j5 at LL hl_j5 ⊢;obtain⟨q2_0,q2_1,q2_2⟩:=(LL.out.blk 1 rfl).c3
 go_upto_region 3 with fail
 clear q2_0 q2_1 q2_2;have hl_j6:=LL.out.lts;generalize hwn:World.alloc wn _=wn;replace HR:=Hd (HR.out.below (below_allocE hwn));replace HS1:=Hd (HS1.out.below (below_allocE hwn));replace LL:=Hd (LL.out.newE hwn)
 simp only [List.cons_append,List.nil_append] at LL
 simp only [List.mem_cons,List.not_mem_nil,or_false,forall_eq_or_imp,forall_eq,false_imp_iff,implies_true,and_true] at hl_j6
 clear hwn;generalize wn.heap.size=j6 at LL hl_j6 ⊢;obtain⟨q3_0,q3_1,q3_2,q3_3,q3_4,q3_5,q3_6,q3_7,q3_8⟩:=(LL.out.blk 2 rfl).c9;go_wp2
 go_ret
 exact⟨rfl,LL.out.b⟩
set_option maxRecDepth 8000 in
theorem holds_lo(f1 f2 K:Nat)(i1 j1 t1:Int)(g2:Bool)(A2:Option Addr)(n2 c2:Nat)(B2:Option Addr)(m2 d2:Nat)(v:Rat)(w:World)(hO1:∀ W,Calls Tryz.prog 83 #[.agg #[.int .u64 (f1:Int),.int .u64 (f2:Int)]] W (NewSetI W i1 j1))
  (hN:∀ W o1 s1 g1 A1 n1 c1 B1 m1 d1 s51 g51 A51 n51 c51 B51 m51 d51,SetOf W (.agg #[.bool o1,.int .i64 s1,.bool g1,.slice A1 n1 c1,.slice B1 m1 d1,.int .i64 s51,.bool g51,.slice A51 n51 c51,.slice B51 m51 d51]) i1 j1→o1=false)
  (hC1:∀ W o1 s1 g1 A1 n1 c1 B1 m1 d1 s51 g51 A51 n51 c51 B51 m51 d51,SetOf W (.agg #[.bool o1,.int .i64 s1,.bool g1,.slice A1 n1 c1,.slice B1 m1 d1,.int .i64 s51,.bool g51,.slice A51 n51 c51,.slice B51 m51 d51]) i1 j1→RatW W K g2 (.slice A2 n2 c2) (.slice B2 m2 d2) v→Calls Tryz.prog 94 #[.agg #[.int .i64 s1,.bool g1,.slice A1 n1 c1,.slice B1 m1 d1],.agg #[.int .i64 0,.bool g2,.slice A2 n2 c2,.slice B2 m2 d2]] W fun e w'=>e=.returned (.int .i64 t1)∧Below W.heap.size W w')(h1:decide (t1≤0)=false)
  (hr:RatW w K g2 (.slice A2 n2 c2) (.slice B2 m2 d2) v):
  Calls Tryz.prog 34 #[.agg #[.int .u64 (f1:Int),.int .u64 (f2:Int)],.agg #[.bool g2,.slice A2 n2 c2,.slice B2 m2 d2]] w fun e w'=>e=.returned (.bool false)∧Below w.heap.size w w':=by
 have HO1:=Hd hO1;have HN:=Hd hN;have HC1:=Hd hC1;have H1:=Hd h1;clear hO1 hN hC1 h1;have LL:=li2 w #[.int .u64 (f1:Int),.int .u64 (f2:Int)] 24 #[.bool g2,.slice A2 n2 c2,.slice B2 m2 d2] 42;have HR:=Hd (hr.below LL.out.b);clear hr
 go_enter Tryz.func34,Tryz.ntmps34
 obtain⟨q1_0,q1_1⟩:=(LL.out.blk 0 rfl).c2;go_wp2_with fail;refine (HO1.out _).mono ?_;rintro e wk ⟨o1,s1,g1,A1,n1,c1,B1,m1,d1,s51,g51,A51,n51,c51,B51,m51,d51,rfl,hs1,hb⟩;replace LL:=stL LL hb;replace HR:=Hd (HR.out.below hb);clear hb q1_0 q1_1 HO1;have HS1:=Hd hs1;clear hs1
 obtain rfl:o1=false:=HN.out _ _ _ _ _ _ _ _ _ _ _ _ _ _ _ _ _ _ HS1.out
 clear HN
 go_upto_region 2 with fail
 have hl_j5:=LL.out.lts;generalize hwn:World.alloc wk _=wn;replace HR:=Hd (HR.out.below (below_allocE hwn));replace HS1:=Hd (HS1.out.below (below_allocE hwn));replace LL:=Hd (LL.out.newE hwn)
 simp only [List.cons_append,List.nil_append] at LL
 simp only [List.mem_cons,List.not_mem_nil,or_false,forall_eq_or_imp,forall_eq,false_imp_iff,implies_true,and_true] at hl_j5
 clear hwn;generalize wk.heap.size=j5 at LL hl_j5 ⊢;obtain⟨q2_0,q2_1,q2_2⟩:=(LL.out.blk 1 rfl).c3
 go_upto_region 3 with fail
 clear q2_0 q2_1 q2_2;have hl_j6:=LL.out.lts;generalize hwn:World.alloc wn _=wn;replace HR:=Hd (HR.out.below (below_allocE hwn));replace HS1:=Hd (HS1.out.below (below_allocE hwn));replace LL:=Hd (LL.out.newE hwn)
 simp only [List.cons_append,List.nil_append] at LL
 simp only [List.mem_cons,List.not_mem_nil,or_false,forall_eq_or_imp,forall_eq,false_imp_iff,implies_true,and_true] at hl_j6
 clear hwn;generalize wn.heap.size=j6 at LL hl_j6 ⊢;have CC:=Hd (HC1.out _ _ _ _ _ _ _ _ _ _ _ _ _ _ _ _ _ _ HS1.out HR.out);have h1:=H1.out;obtain⟨q3_0,q3_1,q3_2,q3_3,q3_4,q3_5,q3_6,q3_7,q3_8⟩:=(LL.out.blk 2 rfl).c9;obtain⟨q4_0,q4_1,q4_2,q4_3⟩:=(LL.out.blk 3 rfl).c4;go_wp2_with fail;refine CC.out.mono ?_;rintro e wk ⟨rfl,hb⟩;replace LL:=stL LL hb;replace HR:=Hd (HR.out.below hb);replace HS1:=Hd (HS1.out.below hb);clear hb q3_0 q3_1 q3_2 q3_3 q3_4 q3_5 q3_6 q3_7 q3_8 q4_0 q4_1 q4_2 q4_3 CC HC1;go_wp2
 go_ret
 exact⟨rfl,LL.out.b⟩
set_option maxRecDepth 8000 in
theorem holds_all(f1 f2 K:Nat)(i1 j1 t1 t2:Int)(r:Bool)(g2:Bool)(A2:Option Addr)(n2 c2:Nat)(B2:Option Addr)(m2 d2:Nat)(v:Rat)(w:World)(hO1:∀ W,Calls Tryz.prog 83 #[.agg #[.int .u64 (f1:Int),.int .u64 (f2:Int)]] W (NewSetI W i1 j1))
  (hN:∀ W o1 s1 g1 A1 n1 c1 B1 m1 d1 s51 g51 A51 n51 c51 B51 m51 d51,SetOf W (.agg #[.bool o1,.int .i64 s1,.bool g1,.slice A1 n1 c1,.slice B1 m1 d1,.int .i64 s51,.bool g51,.slice A51 n51 c51,.slice B51 m51 d51]) i1 j1→o1=false)
  (hC1:∀ W o1 s1 g1 A1 n1 c1 B1 m1 d1 s51 g51 A51 n51 c51 B51 m51 d51,SetOf W (.agg #[.bool o1,.int .i64 s1,.bool g1,.slice A1 n1 c1,.slice B1 m1 d1,.int .i64 s51,.bool g51,.slice A51 n51 c51,.slice B51 m51 d51]) i1 j1→RatW W K g2 (.slice A2 n2 c2) (.slice B2 m2 d2) v→Calls Tryz.prog 94 #[.agg #[.int .i64 s1,.bool g1,.slice A1 n1 c1,.slice B1 m1 d1],.agg #[.int .i64 0,.bool g2,.slice A2 n2 c2,.slice B2 m2 d2]] W fun e w'=>e=.returned (.int .i64 t1)∧Below W.heap.size W w')(h1:decide (t1≤0)=true)
  (hC2:∀ W o1 s1 g1 A1 n1 c1 B1 m1 d1 s51 g51 A51 n51 c51 B51 m51 d51,SetOf W (.agg #[.bool o1,.int .i64 s1,.bool g1,.slice A1 n1 c1,.slice B1 m1 d1,.int .i64 s51,.bool g51,.slice A51 n51 c51,.slice B51 m51 d51]) i1 j1→RatW W K g2 (.slice A2 n2 c2) (.slice B2 m2 d2) v→Calls Tryz.prog 94 #[.agg #[.int .i64 0,.bool g2,.slice A2 n2 c2,.slice B2 m2 d2],.agg #[.int .i64 s51,.bool g51,.slice A51 n51 c51,.slice B51 m51 d51]] W fun e w'=>e=.returned (.int .i64 t2)∧Below W.heap.size W w')(h2:decide (t2≤0)=r)
  (hr:RatW w K g2 (.slice A2 n2 c2) (.slice B2 m2 d2) v):
  Calls Tryz.prog 34 #[.agg #[.int .u64 (f1:Int),.int .u64 (f2:Int)],.agg #[.bool g2,.slice A2 n2 c2,.slice B2 m2 d2]] w fun e w'=>e=.returned (.bool r)∧Below w.heap.size w w':=by
 have HO1:=Hd hO1;have HN:=Hd hN;have HC1:=Hd hC1;have H1:=Hd h1;have HC2:=Hd hC2;have H2:=Hd h2;clear hO1 hN hC1 h1 hC2 h2;have LL:=li2 w #[.int .u64 (f1:Int),.int .u64 (f2:Int)] 24 #[.bool g2,.slice A2 n2 c2,.slice B2 m2 d2] 42;have HR:=Hd (hr.below LL.out.b);clear hr
 go_enter Tryz.func34,Tryz.ntmps34
 obtain⟨q1_0,q1_1⟩:=(LL.out.blk 0 rfl).c2;go_wp2_with fail;refine (HO1.out _).mono ?_;rintro e wk ⟨o1,s1,g1,A1,n1,c1,B1,m1,d1,s51,g51,A51,n51,c51,B51,m51,d51,rfl,hs1,hb⟩;replace LL:=stL LL hb;replace HR:=Hd (HR.out.below hb);clear hb q1_0 q1_1 HO1;have HS1:=Hd hs1;clear hs1
 obtain rfl:o1=false:=HN.out _ _ _ _ _ _ _ _ _ _ _ _ _ _ _ _ _ _ HS1.out
 clear HN
 go_upto_region 2 with fail
 have hl_j5:=LL.out.lts;generalize hwn:World.alloc wk _=wn;replace HR:=Hd (HR.out.below (below_allocE hwn));replace HS1:=Hd (HS1.out.below (below_allocE hwn));replace LL:=Hd (LL.out.newE hwn)
 simp only [List.cons_append,List.nil_append] at LL
 simp only [List.mem_cons,List.not_mem_nil,or_false,forall_eq_or_imp,forall_eq,false_imp_iff,implies_true,and_true] at hl_j5
 clear hwn;generalize wk.heap.size=j5 at LL hl_j5 ⊢;obtain⟨q2_0,q2_1,q2_2⟩:=(LL.out.blk 1 rfl).c3
 go_upto_region 3 with fail
 clear q2_0 q2_1 q2_2;have hl_j6:=LL.out.lts;generalize hwn:World.alloc wn _=wn;replace HR:=Hd (HR.out.below (below_allocE hwn));replace HS1:=Hd (HS1.out.below (below_allocE hwn));replace LL:=Hd (LL.out.newE hwn)
 simp only [List.cons_append,List.nil_append] at LL
 simp only [List.mem_cons,List.not_mem_nil,or_false,forall_eq_or_imp,forall_eq,false_imp_iff,implies_true,and_true] at hl_j6
 clear hwn;generalize wn.heap.size=j6 at LL hl_j6 ⊢;have CC:=Hd (HC1.out _ _ _ _ _ _ _ _ _ _ _ _ _ _ _ _ _ _ HS1.out HR.out);have h1:=H1.out;obtain⟨q3_0,q3_1,q3_2,q3_3,q3_4,q3_5,q3_6,q3_7,q3_8⟩:=(LL.out.blk 2 rfl).c9;obtain⟨q4_0,q4_1,q4_2,q4_3⟩:=(LL.out.blk 3 rfl).c4;go_wp2_with fail;refine CC.out.mono ?_;rintro e wk ⟨rfl,hb⟩;replace LL:=stL LL hb;replace HR:=Hd (HR.out.below hb);replace HS1:=Hd (HS1.out.below hb);clear hb q3_0 q3_1 q3_2 q3_3 q3_4 q3_5 q3_6 q3_7 q3_8 q4_0 q4_1 q4_2 q4_3 CC HC1;have CC:=Hd (HC2.out _ _ _ _ _ _ _ _ _ _ _ _ _ _ _ _ _ _ HS1.out HR.out);have h2:=H2.out;obtain⟨q5_0,q5_1,q5_2,q5_3,q5_4,q5_5,q5_6,q5_7,q5_8⟩:=(LL.out.blk 2 rfl).c9;obtain⟨q6_0,q6_1,q6_2,q6_3⟩:=(LL.out.blk 3 rfl).c4;go_wp2_with fail;refine CC.out.mono ?_;rintro e wk ⟨rfl,hb⟩;replace LL:=stL LL hb;replace HR:=Hd (HR.out.below hb);replace HS1:=Hd (HS1.out.below hb);clear hb q5_0 q5_1 q5_2 q5_3 q5_4 q5_5 q5_6 q5_7 q5_8 q6_0 q6_1 q6_2 q6_3 CC HC2;go_wp2
 go_ret
 exact⟨by first | rw [h2] | rfl,LL.out.b⟩
def hd(i j:Int)(v:Rat):Bool:=decide (i≤rndI (-1) v) && decide (rndI 1 v≤j)
theorem hd_true{i j:Int}{v:Rat}:hd i j v=true↔i≤rndI (-1) v∧rndI 1 v≤j:=by unfold hd;simp
theorem hd_false{i j:Int}{v:Rat}(h:¬ (i≤rndI (-1) v∧rndI 1 v≤j)):hd i j v=false:=by
 cases e:hd i j v
 ·rfl
 ·exact absurd (hd_true.1 e) h
theorem holds_any(f1 f2 K:Nat)(g:Bool)(A:Option Addr)(n c:Nat)(B:Option Addr)(m d:Nat)(v:Rat)(w:World)(h1:f1<18446744073709551616)(h2:f2<18446744073709551616)(hr:RatW w K g (.slice A n c) (.slice B m d) v)(hK:34≤K)(hK2:K≤1073741824):
  Calls Tryz.prog 34 #[.agg #[.int .u64 (f1:Int),.int .u64 (f2:Int)],.agg #[.bool g,.slice A n c,.slice B m d]] w fun e w'=>e=.returned (.bool (hd (rd f1 f2).1 (rd f1 f2).2 v))∧Below w.heap.size w w':=by
 have hM:(M:Int)=9218868437227405312:=rfl;have hv:=rd_iv f1 f2;have hO:=fun W=>of_i f1 f2 W h1 h2;have b1:=rndI_down v;have b2:=rndI_up v
 obtain⟨⟨i,j⟩,r2⟩:∃ z,rd f1 f2=z:=⟨_,rfl⟩
 rw [r2] at hv hO ⊢
 dsimp only at *
 by_cases h0:j<i
 ·have e:hd i j v=false:=hd_false (by rcases hv with h | h<;>omega);rw [e];refine holds_none f1 f2 K i j g A n c B m d v w hO ?_ hr;intro W o1 s1 g1 A1 n1 c1 B1 m1 d1 s51 g51 A51 n51 c51 B51 m51 d51 hs
  rcases hs with ⟨-,-,s,x,t,y,g2,A2,n2,c2,B2,m2,d2,g',A',n',c',B',m',d',e,-,-⟩ | ⟨hne,-⟩
  ·cases e;rfl
  ·omega
 ·have hne:=ne_or hv h0;unfold Ne at hne
  have hN:∀ W o1 s1 g1 A1 n1 c1 B1 m1 d1 s51 g51 A51 n51 c51 B51 m51 d51,SetOf W (.agg #[.bool o1,.int .i64 s1,.bool g1,.slice A1 n1 c1,.slice B1 m1 d1,.int .i64 s51,.bool g51,.slice A51 n51 c51,.slice B51 m51 d51]) i j→o1=false:=by
   intro W o1 s1 g1 A1 n1 c1 B1 m1 d1 s51 g51 A51 n51 c51 B51 m51 d51 hs
   rcases hs with ⟨e1,e2,-⟩ | ⟨-,g2,A2,n2,c2,B2,m2,d2,g',A',n',c',B',m',d',e,-,-⟩
   ·omega
   ·cases e;rfl
  have hC1:∀ W o1 s1 g1 A1 n1 c1 B1 m1 d1 s51 g51 A51 n51 c51 B51 m51 d51,SetOf W (.agg #[.bool o1,.int .i64 s1,.bool g1,.slice A1 n1 c1,.slice B1 m1 d1,.int .i64 s51,.bool g51,.slice A51 n51 c51,.slice B51 m51 d51]) i j→RatW W K g (.slice A n c) (.slice B m d) v →
    Calls Tryz.prog 94 #[.agg #[.int .i64 s1,.bool g1,.slice A1 n1 c1,.slice B1 m1 d1],.agg #[.int .i64 0,.bool g,.slice A n c,.slice B m d]] W fun e w'=>e=.returned (.int .i64 (ec (es i) (ex i) 0 v))∧Below W.heap.size W w':=by
   intro W o1 s1 g1 A1 n1 c1 B1 m1 d1 s51 g51 A51 n51 c51 B51 m51 d51 hs hw
   rcases hs with ⟨e1,e2,-⟩ | ⟨-,g2,A2,n2,c2,B2,m2,d2,g',A',n',c',B',m',d',e,q1,q2⟩
   ·omega
   ·cases e
    exact ecmp_w K _ g1 A1 n1 c1 B1 m1 d1 _ 0 g A n c B m d v W (q1.w.mono hK) hw hK2
  have hC2:∀ W o1 s1 g1 A1 n1 c1 B1 m1 d1 s51 g51 A51 n51 c51 B51 m51 d51,SetOf W (.agg #[.bool o1,.int .i64 s1,.bool g1,.slice A1 n1 c1,.slice B1 m1 d1,.int .i64 s51,.bool g51,.slice A51 n51 c51,.slice B51 m51 d51]) i j→RatW W K g (.slice A n c) (.slice B m d) v →
    Calls Tryz.prog 94 #[.agg #[.int .i64 0,.bool g,.slice A n c,.slice B m d],.agg #[.int .i64 s51,.bool g51,.slice A51 n51 c51,.slice B51 m51 d51]] W fun e w'=>e=.returned (.int .i64 (ec 0 v (es j) (ex j)))∧Below W.heap.size W w':=by
   intro W o1 s1 g1 A1 n1 c1 B1 m1 d1 s51 g51 A51 n51 c51 B51 m51 d51 hs hw
   rcases hs with ⟨e1,e2,-⟩ | ⟨-,g2,A2,n2,c2,B2,m2,d2,g',A',n',c',B',m',d',e,q1,q2⟩
   ·omega
   ·cases e
    exact ecmp_w K 0 g A n c B m d v _ g51 A51 n51 c51 B51 m51 d51 _ W hw (q2.w.mono hK) hK2
  have k1:=ec_hi (i:=i) (s:=0) (x:=v) (by omega) (.inl rfl);have k2:=ec_lo (j:=j) (s:=0) (x:=v) (by omega) (.inl rfl);rw [dn_zero] at k1;rw [up_zero] at k2
  by_cases c1:ec (es i) (ex i) 0 v≤0
  ·have e:decide (ec 0 v (es j) (ex j)≤0)=hd i j v:=by
    have sw:=ec_swp 0 v (es j) (ex j)
    by_cases c2:ec 0 v (es j) (ex j)≤0
    ·rw [decide_eq_true c2,(hd_true (i:=i) (j:=j) (v:=v)).2 ⟨by omega,by omega⟩]
    ·rw [decide_eq_false c2,hd_false (by omega)]
   exact holds_all f1 f2 K i j _ _ _ g A n c B m d v w hO hN hC1 (decide_eq_true c1) hC2 e hr
  ·have e:hd i j v=false:=hd_false (by omega);rw [e]
   exact holds_lo f1 f2 K i j _ g A n c B m d v w hO hN hC1 (decide_eq_false c1) hr
set_option maxRecDepth 8000 in
theorem kept_walk(f1 f2 K:Nat)(r:Bool)(g2:Bool)(A2:Option Addr)(n2 c2:Nat)(B2:Option Addr)(m2 d2:Nat)(v:Rat)(w:World)(hH:∀ W,RatW W K g2 (.slice A2 n2 c2) (.slice B2 m2 d2) v→Calls Tryz.prog 34 #[.agg #[.int .u64 (f1:Int),.int .u64 (f2:Int)],.agg #[.bool g2,.slice A2 n2 c2,.slice B2 m2 d2]] W fun e w'=>e=.returned (.bool r)∧Below W.heap.size W w')(hr:RatW w K g2 (.slice A2 n2 c2) (.slice B2 m2 d2) v):
  Calls Tryz.prog 37 #[.agg #[.bool g2,.slice A2 n2 c2,.slice B2 m2 d2],.agg #[.float .f64 f1,.float .f64 f2]] w fun e w'=>e=.returned (.bool r)∧Below w.heap.size w w':=by
 have HO:=Hd fun W=>law_out f1 f2 W;have HH:=Hd hH;clear hH;have LL:=li2 w #[.bool g2,.slice A2 n2 c2,.slice B2 m2 d2] 42 #[.float .f64 f1,.float .f64 f2] 28;have HR:=Hd (hr.below LL.out.b);clear hr
 go_enter Tryz.func37,Tryz.ntmps37
 go_wp2_with fail;refine regL LL (fun hHeld=>?_);clear LL;replace HR:=Hd (HR.out.below (Below.refl _ _).drew);generalize World.drew _=wk at hHeld HR ⊢;refine tk 0 ?_ (hv:=by intro W2 hSw;obtain⟨q0,q1⟩:=(hSw.blk 1 rfl).c2;go_simp;(try with_reducible rfl));(try simp only [Act.put,lay]);refine tk 2 ?_ (hv:=by intro W2 hSw;obtain⟨q0,q1,q2⟩:=(hSw.blk 0 rfl).c3;go_simp;(try with_reducible rfl));(try simp only [Act.put,lay]);refine rdy 1 (fun KK hKK=>?_);go_simp;refine (HO.out _).mono ?_;rintro e wk ⟨rfl,hb1⟩;go_wp2_with fail;refine hKK.out _ _ (hHeld.keep hb1) (fun _=>?_);clear hKK KK hHeld;rename_i hHeld;(try simp only [Act.put,lay]);replace HR:=Hd (HR.out.below hb1);clear hb1;refine rdy 3 (fun KK hKK=>?_);go_simp;refine (HH.out _ HR.out).mono ?_;rintro e wk ⟨rfl,hb2⟩;go_wp2_with fail;refine hKK.out _ _ (hHeld.keep hb2) (fun _=>?_);clear hKK KK hHeld;rename_i hHeld;(try simp only [Act.put,lay]);replace HR:=Hd (HR.out.below hb2);clear hb2;refine tk 4 ?_;(try simp only [Act.put,lay]);refine wpAnyH_done (by kernel_rfl) ?_ _;have LL:=Hd hHeld;clear hHeld;go_wp2
 go_ret
 exact⟨rfl,LL.out.b⟩
theorem kept_any(i j:Int)(K:Nat)(g2:Bool)(A2:Option Addr)(n2 c2:Nat)(B2:Option Addr)(m2 d2:Nat)(v:Rat)(w:World)(hi:-(M:Int)≤i∧i≤M)(hj:-(M:Int)≤j∧j≤M)(hv:Iv i j)(hr:RatW w K g2 (.slice A2 n2 c2) (.slice B2 m2 d2) v)(hK:34≤K)(hK2:K≤1073741824):
  Calls Tryz.prog 37 #[.agg #[.bool g2,.slice A2 n2 c2,.slice B2 m2 d2],.agg #[.float .f64 (pat i),.float .f64 (pat j)]] w fun e w'=>e=.returned (.bool (hd i j v))∧Below w.heap.size w w':=by
 have k:=fun W (h:RatW W K g2 (.slice A2 n2 c2) (.slice B2 m2 d2) v)=>holds_any (pat i) (pat j) K g2 A2 n2 c2 B2 m2 d2 v W (pat_lt hi.1 hi.2) (pat_lt hj.1 hj.2) h hK hK2;rw [rd_pat hv] at k
 exact kept_walk _ _ K _ _ _ _ _ _ _ _ v w k hr
structure U32b (w:World) (A:Option Addr) (n c:Nat) (xs:List Nat):Prop where
 len:xs.length=n
 cap:n≤c
 small:n≤35184372087808
 w32:W32 xs
 at_:0<n→∃ ad,A=some ad∧ad.block<w.heap.size∧∀ j:Nat,j<n→w.cell? (ad.add j)=some (wd (xs[j]?.getD 0))
theorem U32b.below{w w':World}{A:Option Addr}{n c:Nat}{xs:List Nat}(h:U32b w A n c xs)(hb:Below w.heap.size w w'):U32b w' A n c xs:=
 ⟨h.len,h.cap,h.small,h.w32,fun hn=>by
   obtain⟨ad,e,hlt,hc⟩:=h.at_ hn;have:=hb.size;refine⟨ad,e,by omega,fun j hj=>?_⟩;rw [World.cell?_of_block (w:=w)]
   ·exact hc j hj
   ·rw [block_of_add];exact hb.block _ hlt⟩
theorem U32b.s{w:World}{A:Option Addr}{n c:Nat}{xs:List Nat}(h:U32b w A n c xs)(hn:n≤34359738368):U32s w A n c xs:=⟨h.len,h.cap,hn,h.w32,h.at_⟩
theorem U32b.cell{w:World}{A:Option Addr}{n c:Nat}{xs:List Nat}(h:U32b w A n c xs){j:Nat}(hj:j<n):
  ∃ ad,A=some ad∧w.cell? (ad.add j)=some (wd (xs[j]?.getD 0)):=by
 obtain⟨ad,e,_,hc⟩:=h.at_ (by omega)
 exact⟨ad,e,hc j hj⟩
section
variable {ops:Array Oper} {rest:List Oper} {o:Oper} {a:Act} {Q:Exit→Act→World→Prop} (w:World)
theorem wpList_append_u32b(hgd:o.guard=none)(s x:Operand)
  (ho:o.op=.call { callee:=.builtin .append,args:=#[s,x],argTypes:=#[40,40] })
  (B:Nat)(v:Value)(xs:List Nat)(hs:a.eval s=v)(hown:Own w B v xs)
  (ad:Addr)(c:Nat)(y:Nat)(hx:a.eval x=.slice (some ad) 1 c)(hc:w.cell? ad=some (wd y))(hlen:xs.length≤35184372087808)(hB:B≤w.heap.size)
  (h:∀ v' w',Own w' B v' (xs ++ [y])→w.grownBy w' v.ownBlock→wpList Tryz.prog ops Q rest (a.put o.dst v') w'):wpList Tryz.prog ops Q (o :: rest) a w:=by
 obtain⟨i0,hi,hz0,hz1,hz2⟩:=info_parts info_u32;refine wpList_append_own w hgd s x 40 ho B 117 i0 (.int .u32 0) 1 4 Tryz.underlying40 hi hz0 hz1 hz2 rfl (by decide) v xs.length (xs.map wd) hs hown ad 1 c [wd y] hx rfl ?_ ?_ ?_ ?_ hB ?_
 ·intro j u hu
  match j,hu with
  | 0,hu=>
   simp at hu
   subst hu;rw [show ad.add 0=ad from by simp [Addr.add]]
   exact hc
 ·intro u hu
  simp at hu
  subst hu;rfl
 ·unfold maxLen;omega
 ·omega
 ·intro v' w' h1 h2 _;refine h v' w' ?_ h2;unfold Own
  simpa using h1
end
theorem norm_big(A:Option Addr)(n c:Nat)(xs:List Nat)(w:World)(h:U32b w A n c xs):
  Calls Tryz.prog 93 #[.slice A n c] w fun e w'=>∃ A1 n1 c1,e=.returned (.slice A1 n1 c1)∧(n1=0↔num xs=0)∧Below w.heap.size w w':=by
 have hn:=h.small;have H:=Hd h;clear h
 go_enter Tryz.func93,Tryz.ntmps93
 go_wp2
 go_loop [3] (fun v=>∃ k:Nat,k≤n∧v=.int .i64 k∧∀ j:Nat,k≤j→xs[j]?.getD 0=0) (fun v=>(intOf v).toNat)
 case atStart=>exact⟨n,by omega,rfl,fun j hj=>by
  have:=H.out.len
  rw [List.getElem?_eq_none (by omega)];rfl⟩
 case round=>
  obtain⟨k,hk,rfl,hz⟩:=hrel;have Hz:=Hd hz;clear hz
  by_cases hg:0<k∧xs[k - 1]?.getD 0=0
  ·obtain⟨h0,hx⟩:=hg;obtain⟨ad,rfl,hc⟩:=H.out.cell (j:=k - 1) (by omega);rw [hx] at hc;have Hx:=Hd hx;clear hx;go_wp2
   go_round
   case rel=>
    refine⟨k - 1,by omega,by go_num,fun j hj=>?_⟩
    rcases Nat.lt_or_ge j k with h1 | h1
    ·obtain rfl:j=k - 1:=by omega
     exact Hx.out
    ·exact Hz.out j h1
   case measure=>simp [intOf];omega
  ·have hwl:wlen xs=k:=wlen_of (by rw [H.out.len];omega) Hz.out (by omega)
   have Hl:Hid (trim xs=xs.take k):=by
    have:=trim_eq_take xs;rw [hwl] at this;exact this
   clear hwl
   by_cases h0:0<k
   case' pos=>
    obtain⟨ad,rfl,hc⟩:=H.out.cell (j:=k - 1) (by omega)
    have hx:((xs[k - 1]?.getD 0:Nat):Int)≠0:=by omega
    have hx':(((xs[k - 1]?.getD 0:Nat):Int) == 0)=false:=by
     simpa using hx
    clear hg hx;go_wp2;clear hx' hc
   case' neg=>
    go_wp2;clear hg
   all_goals
    clear h0
    go_loopw [4,5] (fun v i wr=>∃ m:Nat,m≤k∧i=.int .i64 m∧Own wr w.heap.size v (xs.take m)∧Below w.heap.size w wr) (fun _ i _=>k - (intOf i).toNat)
    case atStart=>exact⟨0,by omega,rfl,Own.nil _ _,Below.refl _ _⟩
    case round=>
     obtain⟨m,hm,rfl,hown,hb⟩:=hrel
     by_cases hlt:m<k
     ·obtain⟨ad',e,hc⟩:=(H.out.below hb).cell (j:=m) (by omega)
      cases e
      have hbs:=hb.size
      go_wp2_with (at_builtin;refine wpList_append_u32b _ rfl _ _ rfl w.heap.size _ _ rfl (hown.alloc _) ⟨_,0,none⟩ 1 (xs[m]?.getD 0) rfl ?c1 ?c2 ?c3 ?_)
      case c1=>simp
      case c2=>rw [List.length_take];omega
      case c3=>simp;omega
      intro v' w' hown' hgrow
      have hown2:Own w' w.heap.size v' (xs.take (m+1)):=by
       rw [← getD_snoc (by rw [H.out.len];omega)];exact hown'
      have hb':Below w.heap.size w w':=(hb.alloc hbs _).grown hgrow (by simp;omega) (fun g hg=>(hown.lt g hg).1);clear hown hown' hb hgrow hc hbs;go_wp2
      go_roundw
      case rel=>exact⟨m+1,by omega,by go_num,hown2,hb'⟩
      case measure=>simp [intOf];omega
     ·obtain rfl:m=k:=by omega
      have hf:=hown.form;rw [← Hl.out] at hf;obtain⟨A1,c1,rfl⟩:=hf
      have hz:(trim xs).length=0↔num xs=0:=by rw [trim_eq_digs H.out.w32];exact digs_length_eq_zero
      clear hown;go_wp2
      go_ret
      exact⟨A1,_,c1,rfl,hz,hb⟩
set_option maxRecDepth 8000 in
theorem is_any(g2:Bool)(A2:Option Addr)(n2 c2:Nat)(B2:Option Addr)(m2 d2:Nat)(ys:List Nat)(r:Bool)(w:World)(hn:n2≤35184372087808)(hq:U32b w B2 m2 d2 ys)(hr:(decide (0<num ys) && decide (n2<100) && decide (m2<100))=r):
  Calls Tryz.prog 33 #[.agg #[.bool g2,.slice A2 n2 c2,.slice B2 m2 d2]] w fun e w'=>e=.returned (.bool r)∧Below w.heap.size w w':=by
 have hm:=hq.small;have hN:=fun W (hW:Below w.heap.size w W)=>norm_big B2 m2 d2 ys W (hq.below hW);have HN:=Hd hN
 obtain⟨q,hnq⟩:∃ q,num ys=q:=⟨_,rfl⟩
 rw [hnq] at hr HN;have HR:=Hd hr;clear hN hq hr hnq;have LL:=li1 w #[.bool g2,.slice A2 n2 c2,.slice B2 m2 d2] 42
 go_enter Tryz.func33,Tryz.ntmps33
 obtain⟨q1_0,q1_1,q1_2⟩:=(LL.out.blk 0 rfl).c3;go_wp2_with fail;refine (HN.out _ LL.out.b).mono ?_;rintro e wk ⟨A5,n5,c5,rfl,h5,hb⟩;replace LL:=stL LL hb;clear hb q1_0 q1_1 q1_2 HN;obtain⟨q2_0,q2_1,q2_2⟩:=(LL.out.blk 0 rfl).c3
 by_cases k0:0<q
 ·have k1:0<n5:=by omega
  by_cases k2:n2<100
  ·clear h5;go_wp2
   go_ret
   exact⟨ret_bool (by rw [← HR.out];simp [k0,k2];omega),LL.out.b⟩
  ·clear h5;go_wp2
   go_ret
   exact⟨ret_bool (by rw [← HR.out];simp [k0,k2]),LL.out.b⟩
 ·have k1:n5=0:=by omega
  subst k1;clear h5;go_wp2
  go_ret
  exact⟨ret_bool (by rw [← HR.out];simp [k0]),LL.out.b⟩
end Go.Proofs.YthlmlmfebpjgdaaGreatDoor
namespace Go.Proofs.YthlmlmfebpjgdaaGreatDoor
open Go.RowKit
attribute [local go_sem] run_store_float run_eqf
theorem read_three(x0 y0 x1 y1 x2 y2 p0 q0 p1 q1 p2 q2 g0 g1 g2 gl cap:Nat)(a0 a1 a2:Bool)(w:World)(n01:g0≠g1)(n02:g0≠g2)(n12:g1≠g2)(l0:gl≠g0)(l1:gl≠g1)(l2:gl≠g2)
  (hc0:w.cell? ⟨gl,0,none⟩=some (.pointer (some ⟨g0,0,none⟩)))(hc1:w.cell? ⟨gl,1,none⟩=some (.pointer (some ⟨g1,0,none⟩)))(hc2:w.cell? ⟨gl,2,none⟩=some (.pointer (some ⟨g2,0,none⟩)))
  (b0:Bx w g0 x0 y0)(b1:Bx w g1 x1 y1)(b2:Bx w g2 x2 y2)
  (h0:∀ W,Calls Tryz.prog 102 #[.agg #[.float .f64 x0,.float .f64 y0]] W fun e w'=>e=.returned (.agg #[.float .f64 p0,.float .f64 q0])∧Below W.heap.size W w')
  (h1:∀ W,Calls Tryz.prog 102 #[.agg #[.float .f64 x1,.float .f64 y1]] W fun e w'=>e=.returned (.agg #[.float .f64 p1,.float .f64 q1])∧Below W.heap.size W w')
  (h2:∀ W,Calls Tryz.prog 102 #[.agg #[.float .f64 x2,.float .f64 y2]] W fun e w'=>e=.returned (.agg #[.float .f64 p2,.float .f64 q2])∧Below W.heap.size W w')
  (e0:Em a0 p0 q0)(e1:Em a1 p1 q1)(e2:Em a2 p2 q2):
  Calls Tryz.prog 75 #[.slice (some ⟨gl,0,none⟩) 3 cap] w fun e w'=>e=.returned (.bool (a0 || a1 || a2))∧Bx w' g0 p0 q0∧Bx w' g1 p1 q1∧Bx w' g2 p2 q2∧Kp g0 g1 g2 w w':=by
 have H0:=Hd h0;have H1:=Hd h1;have H2:=Hd h2;have E0:=Hd e0;have E1:=Hd e1;have E2:=Hd e2;have HE:=Hd emptyf;have C0:=Hd hc0;have C1:=Hd hc1;have C2:=Hd hc2;have B0:=Hd b0;have B1:=Hd b1;have B2:=Hd b2
 obtain⟨nf,hnf⟩:∃ f:Nat→Bool,f=fun k=>(decide (0<k) && a0) || (decide (1<k) && a1) || (decide (2<k) && a2):=⟨_,rfl⟩
 have N0:nf 0=false:=by rw [hnf];rfl
 have N1:nf 1=a0:=by rw [hnf];cases a0<;>cases a1<;>cases a2<;>rfl
 have N2:nf 2=(a0 || a1):=by rw [hnf];cases a0<;>cases a1<;>cases a2<;>rfl
 have N3:nf 3=(a0 || a1 || a2):=by rw [hnf];cases a0<;>cases a1<;>cases a2<;>rfl
 have X0:nf 1=(nf 0 || a0):=by rw [N0,N1];rfl
 have X1:nf 2=(nf 1 || a1):=by rw [N1,N2]
 have X2:nf 3=(nf 2 || a2):=by rw [N2,N3]
 have HX0:=Hd X0;have HX1:=Hd X1;have HX2:=Hd X2;rw [← N3];have NN0:=Hd N0;have NN1:=Hd N1;have NN2:=Hd N2;have NN3:=Hd N3;clear h0 h1 h2 e0 e1 e2 hc0 hc1 hc2 b0 b1 b2 hnf N0 N1 N2 N3 X0 X1 X2
 go_enter Tryz.func75,Tryz.ntmps75
 go_wp2_with fail
 go_loopw [3,5,8] (fun nv _ iv wr=>∃ k:Nat,iv=.int .i64 (k:Int)∧nv=.bool (nf k)∧Kp g0 g1 g2 w wr ∧
  ((k=0∧Bx wr g0 x0 y0∧Bx wr g1 x1 y1∧Bx wr g2 x2 y2)∨(k=1∧Bx wr g0 p0 q0∧Bx wr g1 x1 y1∧Bx wr g2 x2 y2)∨(k=2∧Bx wr g0 p0 q0∧Bx wr g1 p1 q1∧Bx wr g2 x2 y2)∨(k=3∧Bx wr g0 p0 q0∧Bx wr g1 p1 q1∧Bx wr g2 p2 q2))) (fun _ _ iv _=>3 - (intOf iv).toNat)
 case atStart=>exact⟨0,rfl,by rw [NN0.out],Kp.refl _ _ _ _,.inl ⟨rfl,B0.out,B1.out,B2.out⟩⟩
 case round=>
  obtain⟨k,rfl,rfl,hkp,⟨rfl,c0,c1,c2⟩ | ⟨rfl,c0,c1,c2⟩ | ⟨rfl,c0,c1,c2⟩ | ⟨rfl,c0,c1,c2⟩⟩:=hrel
  ·have KP:=Hd hkp;have D0:=Hd c0;have D1:=Hd c1;have D2:=Hd c2;have r0:=hkp.cell C0.out l0 l1 l2;have s0:_=some (.float .f64 x0:Value):=Blk.cell c0 0;have s1:_=some (.float .f64 y0:Value):=Blk.cell c0 1;clear hkp c0 c1 c2
   obtain⟨nn,hnn⟩:∃ b,nf 0=b:=⟨_,rfl⟩
   have hx:=HX0.out;rw [hnn] at hx ⊢;have HXX:=Hd hx;clear hnn hx;go_wp2_with fail;refine (H0.out _).mono ?_;rintro e w2 ⟨rfl,hb⟩;have KP2:=KP.out.below hb;have d0:=D0.out.keep hb;have d1:=D1.out.keep hb;have d2:=D2.out.keep hb;have s0:_=some (.float .f64 x0:Value):=Blk.cell d0 0;have s1:_=some (.float .f64 y0:Value):=Blk.cell d0 1;have f0:=Blk.frozen d0 0;have f1:=Blk.frozen d0 1;have DD0:=Hd d0;have DD1:=Hd d1;have DD2:=Hd d2;have KP3:=Hd KP2;clear r0 hb d0 d1 d2 KP2 D0 D1 D2 KP
   go_upto_region 6 with fail
   have d0:=DD0.out.set p0 q0;have d1:=DD1.out.far (r:=g0) (by first | exact n01 | exact n02 | exact n12 | exact n01.symm | exact n02.symm | exact n12.symm) (.float .f64 p0) (.float .f64 q0);have d2:=DD2.out.far (r:=g0) (by first | exact n01 | exact n02 | exact n12 | exact n01.symm | exact n02.symm | exact n12.symm) (.float .f64 p0) (.float .f64 q0);have d3:=KP3.out.set (r:=g0) (by simp) (.float .f64 p0) (.float .f64 q0);clear s0 s1 f0 f1 DD0 DD1 DD2 KP3
   obtain⟨V,hV⟩:∃ X,((w2.setCell ⟨g0,0,none⟩ (.float .f64 p0)).setCell ⟨g0,1,none⟩ (.float .f64 q0))=X:=⟨_,rfl⟩
   rw [hV] at d0 d1 d2 d3 ⊢;clear hV
   cases nn
   ·cases a0
    ·skip;have o1:=E0.out.2 rfl;refine wp_region_held_drew (S:=fun W'=>Bx W' g0 p0 q0∧Bx W' g1 x1 y1∧Bx W' g2 x2 y2∧Kp g0 g1 g2 w W') (by kernel_rfl) (by exact⟨d0,d1,d2,d3.below (Below.refl _ _).drew⟩) (fun hHeld=>?_);refine tk 0 ?_;(try simp only [Act.put,lay]);refine tk 1 ?_;(try simp only [Act.put,lay]);refine tk 2 ?_;(try simp only [Act.put,lay]);refine tk 3 ?_;(try simp only [Act.put,lay]);refine tk 4 ?_ (hv:=by intro W2 hSw;have qa:_=some (.float .f64 p0:Value):=Blk.cell hSw.1 0;have qb:_=some (.float .f64 q0:Value):=Blk.cell hSw.1 1;go_simp;(try with_reducible rfl));(try simp only [Act.put,lay]);refine rdy 5 (fun KK hKK=>?_);go_simp;refine (HE.out _).mono ?_;rintro e we ⟨rfl,hbe⟩;go_wp2_with fail;refine hKK.out _ _ (⟨hHeld.1.keep hbe,hHeld.2.1.keep hbe,hHeld.2.2.1.keep hbe,hHeld.2.2.2.below hbe⟩) (fun _=>?_);clear hKK KK hHeld;rename_i hHeld;(try simp only [Act.put,lay]);refine tk 6 ?_;(try simp only [Act.put,lay]);refine tk 7 ?_;(try simp only [Act.put,lay]);refine tk 8 ?_;(try simp only [Act.put,lay]);refine wpAnyH_done (by kernel_rfl) ?_ _;clear hbe o1;clear d0 d1 d2 d3;have HF:=Hd hHeld;clear hHeld;go_wp2
     go_roundw
     case rel=>exact⟨1,by go_num,by rw [HXX.out];rfl,HF.out.2.2.2,.inr (.inl ⟨rfl,HF.out.1,HF.out.2.1,HF.out.2.2.1⟩)⟩
     case measure=>simp [intOf]
    ·skip;obtain⟨o1,o2⟩:=E0.out.1 rfl;refine wp_region_held_drew (S:=fun W'=>Bx W' g0 p0 q0∧Bx W' g1 x1 y1∧Bx W' g2 x2 y2∧Kp g0 g1 g2 w W') (by kernel_rfl) (by exact⟨d0,d1,d2,d3.below (Below.refl _ _).drew⟩) (fun hHeld=>?_);refine tk 0 ?_;(try simp only [Act.put,lay]);refine tk 1 ?_;(try simp only [Act.put,lay]);refine tk 2 ?_;(try simp only [Act.put,lay]);refine tk 3 ?_;(try simp only [Act.put,lay]);refine tk 4 ?_ (hv:=by intro W2 hSw;have qa:_=some (.float .f64 p0:Value):=Blk.cell hSw.1 0;have qb:_=some (.float .f64 q0:Value):=Blk.cell hSw.1 1;go_simp;(try with_reducible rfl));(try simp only [Act.put,lay]);refine rdy 5 (fun KK hKK=>?_);go_simp;refine (HE.out _).mono ?_;rintro e we ⟨rfl,hbe⟩;go_wp2_with fail;refine hKK.out _ _ (⟨hHeld.1.keep hbe,hHeld.2.1.keep hbe,hHeld.2.2.1.keep hbe,hHeld.2.2.2.below hbe⟩) (fun _=>?_);clear hKK KK hHeld;rename_i hHeld;(try simp only [Act.put,lay]);refine tk 6 ?_;(try simp only [Act.put,lay]);refine tk 7 ?_;(try simp only [Act.put,lay]);refine tk 8 ?_;(try simp only [Act.put,lay]);refine wpAnyH_done (by kernel_rfl) ?_ _;clear hbe o1 o2;clear d0 d1 d2 d3;have HF:=Hd hHeld;clear hHeld;go_wp2
     go_roundw
     case rel=>exact⟨1,by go_num,by rw [HXX.out];rfl,HF.out.2.2.2,.inr (.inl ⟨rfl,HF.out.1,HF.out.2.1,HF.out.2.2.1⟩)⟩
     case measure=>simp [intOf]
   ·skip;refine wp_region_held_drew (S:=fun W'=>Bx W' g0 p0 q0∧Bx W' g1 x1 y1∧Bx W' g2 x2 y2∧Kp g0 g1 g2 w W') (by kernel_rfl) (by exact⟨d0,d1,d2,d3.below (Below.refl _ _).drew⟩) (fun hHeld=>?_);refine tk 0 ?_;(try simp only [Act.put,lay]);refine tk 1 ?_;(try simp only [Act.put,lay]);refine tkn 2 ?_;(try simp only [Act.put,lay]);refine tkn 3 ?_;(try simp only [Act.put,lay]);refine tkn 4 ?_;(try simp only [Act.put,lay]);refine tkn 5 ?_;(try simp only [Act.put,lay]);refine tkn 6 ?_;(try simp only [Act.put,lay]);refine tk 7 ?_;(try simp only [Act.put,lay]);refine tk 8 ?_;(try simp only [Act.put,lay]);refine wpAnyH_done (by kernel_rfl) ?_ _;clear d0 d1 d2 d3;have HF:=Hd hHeld;clear hHeld;go_wp2
    go_roundw
    case rel=>exact⟨1,by go_num,by rw [HXX.out];rfl,HF.out.2.2.2,.inr (.inl ⟨rfl,HF.out.1,HF.out.2.1,HF.out.2.2.1⟩)⟩
    case measure=>simp [intOf]
  ·have KP:=Hd hkp;have D0:=Hd c0;have D1:=Hd c1;have D2:=Hd c2;have r0:=hkp.cell C1.out l0 l1 l2;have s0:_=some (.float .f64 x1:Value):=Blk.cell c1 0;have s1:_=some (.float .f64 y1:Value):=Blk.cell c1 1;clear hkp c0 c1 c2
   obtain⟨nn,hnn⟩:∃ b,nf 1=b:=⟨_,rfl⟩
   have hx:=HX1.out;rw [hnn] at hx ⊢;have HXX:=Hd hx;clear hnn hx;go_wp2_with fail;refine (H1.out _).mono ?_;rintro e w2 ⟨rfl,hb⟩;have KP2:=KP.out.below hb;have d0:=D0.out.keep hb;have d1:=D1.out.keep hb;have d2:=D2.out.keep hb;have s0:_=some (.float .f64 x1:Value):=Blk.cell d1 0;have s1:_=some (.float .f64 y1:Value):=Blk.cell d1 1;have f0:=Blk.frozen d1 0;have f1:=Blk.frozen d1 1;have DD0:=Hd d0;have DD1:=Hd d1;have DD2:=Hd d2;have KP3:=Hd KP2;clear r0 hb d0 d1 d2 KP2 D0 D1 D2 KP
   go_upto_region 6 with fail
   have d0:=DD0.out.far (r:=g1) (by first | exact n01 | exact n02 | exact n12 | exact n01.symm | exact n02.symm | exact n12.symm) (.float .f64 p1) (.float .f64 q1);have d1:=DD1.out.set p1 q1;have d2:=DD2.out.far (r:=g1) (by first | exact n01 | exact n02 | exact n12 | exact n01.symm | exact n02.symm | exact n12.symm) (.float .f64 p1) (.float .f64 q1);have d3:=KP3.out.set (r:=g1) (by simp) (.float .f64 p1) (.float .f64 q1);clear s0 s1 f0 f1 DD0 DD1 DD2 KP3
   obtain⟨V,hV⟩:∃ X,((w2.setCell ⟨g1,0,none⟩ (.float .f64 p1)).setCell ⟨g1,1,none⟩ (.float .f64 q1))=X:=⟨_,rfl⟩
   rw [hV] at d0 d1 d2 d3 ⊢;clear hV
   cases nn
   ·cases a1
    ·skip;have o1:=E1.out.2 rfl;refine wp_region_held_drew (S:=fun W'=>Bx W' g0 p0 q0∧Bx W' g1 p1 q1∧Bx W' g2 x2 y2∧Kp g0 g1 g2 w W') (by kernel_rfl) (by exact⟨d0,d1,d2,d3.below (Below.refl _ _).drew⟩) (fun hHeld=>?_);refine tk 0 ?_;(try simp only [Act.put,lay]);refine tk 1 ?_;(try simp only [Act.put,lay]);refine tk 2 ?_;(try simp only [Act.put,lay]);refine tk 3 ?_;(try simp only [Act.put,lay]);refine tk 4 ?_ (hv:=by intro W2 hSw;have qa:_=some (.float .f64 p1:Value):=Blk.cell hSw.2.1 0;have qb:_=some (.float .f64 q1:Value):=Blk.cell hSw.2.1 1;go_simp;(try with_reducible rfl));(try simp only [Act.put,lay]);refine rdy 5 (fun KK hKK=>?_);go_simp;refine (HE.out _).mono ?_;rintro e we ⟨rfl,hbe⟩;go_wp2_with fail;refine hKK.out _ _ (⟨hHeld.1.keep hbe,hHeld.2.1.keep hbe,hHeld.2.2.1.keep hbe,hHeld.2.2.2.below hbe⟩) (fun _=>?_);clear hKK KK hHeld;rename_i hHeld;(try simp only [Act.put,lay]);refine tk 6 ?_;(try simp only [Act.put,lay]);refine tk 7 ?_;(try simp only [Act.put,lay]);refine tk 8 ?_;(try simp only [Act.put,lay]);refine wpAnyH_done (by kernel_rfl) ?_ _;clear hbe o1;clear d0 d1 d2 d3;have HF:=Hd hHeld;clear hHeld;go_wp2
     go_roundw
     case rel=>exact⟨2,by go_num,by rw [HXX.out];rfl,HF.out.2.2.2,.inr (.inr (.inl ⟨rfl,HF.out.1,HF.out.2.1,HF.out.2.2.1⟩))⟩
     case measure=>simp [intOf]
    ·skip;obtain⟨o1,o2⟩:=E1.out.1 rfl;refine wp_region_held_drew (S:=fun W'=>Bx W' g0 p0 q0∧Bx W' g1 p1 q1∧Bx W' g2 x2 y2∧Kp g0 g1 g2 w W') (by kernel_rfl) (by exact⟨d0,d1,d2,d3.below (Below.refl _ _).drew⟩) (fun hHeld=>?_);refine tk 0 ?_;(try simp only [Act.put,lay]);refine tk 1 ?_;(try simp only [Act.put,lay]);refine tk 2 ?_;(try simp only [Act.put,lay]);refine tk 3 ?_;(try simp only [Act.put,lay]);refine tk 4 ?_ (hv:=by intro W2 hSw;have qa:_=some (.float .f64 p1:Value):=Blk.cell hSw.2.1 0;have qb:_=some (.float .f64 q1:Value):=Blk.cell hSw.2.1 1;go_simp;(try with_reducible rfl));(try simp only [Act.put,lay]);refine rdy 5 (fun KK hKK=>?_);go_simp;refine (HE.out _).mono ?_;rintro e we ⟨rfl,hbe⟩;go_wp2_with fail;refine hKK.out _ _ (⟨hHeld.1.keep hbe,hHeld.2.1.keep hbe,hHeld.2.2.1.keep hbe,hHeld.2.2.2.below hbe⟩) (fun _=>?_);clear hKK KK hHeld;rename_i hHeld;(try simp only [Act.put,lay]);refine tk 6 ?_;(try simp only [Act.put,lay]);refine tk 7 ?_;(try simp only [Act.put,lay]);refine tk 8 ?_;(try simp only [Act.put,lay]);refine wpAnyH_done (by kernel_rfl) ?_ _;clear hbe o1 o2;clear d0 d1 d2 d3;have HF:=Hd hHeld;clear hHeld;go_wp2
     go_roundw
     case rel=>exact⟨2,by go_num,by rw [HXX.out];rfl,HF.out.2.2.2,.inr (.inr (.inl ⟨rfl,HF.out.1,HF.out.2.1,HF.out.2.2.1⟩))⟩
     case measure=>simp [intOf]
   ·skip;refine wp_region_held_drew (S:=fun W'=>Bx W' g0 p0 q0∧Bx W' g1 p1 q1∧Bx W' g2 x2 y2∧Kp g0 g1 g2 w W') (by kernel_rfl) (by exact⟨d0,d1,d2,d3.below (Below.refl _ _).drew⟩) (fun hHeld=>?_);refine tk 0 ?_;(try simp only [Act.put,lay]);refine tk 1 ?_;(try simp only [Act.put,lay]);refine tkn 2 ?_;(try simp only [Act.put,lay]);refine tkn 3 ?_;(try simp only [Act.put,lay]);refine tkn 4 ?_;(try simp only [Act.put,lay]);refine tkn 5 ?_;(try simp only [Act.put,lay]);refine tkn 6 ?_;(try simp only [Act.put,lay]);refine tk 7 ?_;(try simp only [Act.put,lay]);refine tk 8 ?_;(try simp only [Act.put,lay]);refine wpAnyH_done (by kernel_rfl) ?_ _;clear d0 d1 d2 d3;have HF:=Hd hHeld;clear hHeld;go_wp2
    go_roundw
    case rel=>exact⟨2,by go_num,by rw [HXX.out];rfl,HF.out.2.2.2,.inr (.inr (.inl ⟨rfl,HF.out.1,HF.out.2.1,HF.out.2.2.1⟩))⟩
    case measure=>simp [intOf]
  ·have KP:=Hd hkp;have D0:=Hd c0;have D1:=Hd c1;have D2:=Hd c2;have r0:=hkp.cell C2.out l0 l1 l2;have s0:_=some (.float .f64 x2:Value):=Blk.cell c2 0;have s1:_=some (.float .f64 y2:Value):=Blk.cell c2 1;clear hkp c0 c1 c2
   obtain⟨nn,hnn⟩:∃ b,nf 2=b:=⟨_,rfl⟩
   have hx:=HX2.out;rw [hnn] at hx ⊢;have HXX:=Hd hx;clear hnn hx;go_wp2_with fail;refine (H2.out _).mono ?_;rintro e w2 ⟨rfl,hb⟩;have KP2:=KP.out.below hb;have d0:=D0.out.keep hb;have d1:=D1.out.keep hb;have d2:=D2.out.keep hb;have s0:_=some (.float .f64 x2:Value):=Blk.cell d2 0;have s1:_=some (.float .f64 y2:Value):=Blk.cell d2 1;have f0:=Blk.frozen d2 0;have f1:=Blk.frozen d2 1;have DD0:=Hd d0;have DD1:=Hd d1;have DD2:=Hd d2;have KP3:=Hd KP2;clear r0 hb d0 d1 d2 KP2 D0 D1 D2 KP
   go_upto_region 6 with fail
   have d0:=DD0.out.far (r:=g2) (by first | exact n01 | exact n02 | exact n12 | exact n01.symm | exact n02.symm | exact n12.symm) (.float .f64 p2) (.float .f64 q2);have d1:=DD1.out.far (r:=g2) (by first | exact n01 | exact n02 | exact n12 | exact n01.symm | exact n02.symm | exact n12.symm) (.float .f64 p2) (.float .f64 q2);have d2:=DD2.out.set p2 q2;have d3:=KP3.out.set (r:=g2) (by simp) (.float .f64 p2) (.float .f64 q2);clear s0 s1 f0 f1 DD0 DD1 DD2 KP3
   obtain⟨V,hV⟩:∃ X,((w2.setCell ⟨g2,0,none⟩ (.float .f64 p2)).setCell ⟨g2,1,none⟩ (.float .f64 q2))=X:=⟨_,rfl⟩
   rw [hV] at d0 d1 d2 d3 ⊢;clear hV
   cases nn
   ·cases a2
    ·skip;have o1:=E2.out.2 rfl;refine wp_region_held_drew (S:=fun W'=>Bx W' g0 p0 q0∧Bx W' g1 p1 q1∧Bx W' g2 p2 q2∧Kp g0 g1 g2 w W') (by kernel_rfl) (by exact⟨d0,d1,d2,d3.below (Below.refl _ _).drew⟩) (fun hHeld=>?_);refine tk 0 ?_;(try simp only [Act.put,lay]);refine tk 1 ?_;(try simp only [Act.put,lay]);refine tk 2 ?_;(try simp only [Act.put,lay]);refine tk 3 ?_;(try simp only [Act.put,lay]);refine tk 4 ?_ (hv:=by intro W2 hSw;have qa:_=some (.float .f64 p2:Value):=Blk.cell hSw.2.2.1 0;have qb:_=some (.float .f64 q2:Value):=Blk.cell hSw.2.2.1 1;go_simp;(try with_reducible rfl));(try simp only [Act.put,lay]);refine rdy 5 (fun KK hKK=>?_);go_simp;refine (HE.out _).mono ?_;rintro e we ⟨rfl,hbe⟩;go_wp2_with fail;refine hKK.out _ _ (⟨hHeld.1.keep hbe,hHeld.2.1.keep hbe,hHeld.2.2.1.keep hbe,hHeld.2.2.2.below hbe⟩) (fun _=>?_);clear hKK KK hHeld;rename_i hHeld;(try simp only [Act.put,lay]);refine tk 6 ?_;(try simp only [Act.put,lay]);refine tk 7 ?_;(try simp only [Act.put,lay]);refine tk 8 ?_;(try simp only [Act.put,lay]);refine wpAnyH_done (by kernel_rfl) ?_ _;clear hbe o1;clear d0 d1 d2 d3;have HF:=Hd hHeld;clear hHeld;go_wp2
     go_roundw
     case rel=>exact⟨3,by go_num,by rw [HXX.out];rfl,HF.out.2.2.2,.inr (.inr (.inr (⟨rfl,HF.out.1,HF.out.2.1,HF.out.2.2.1⟩)))⟩
     case measure=>simp [intOf]
    ·skip;obtain⟨o1,o2⟩:=E2.out.1 rfl;refine wp_region_held_drew (S:=fun W'=>Bx W' g0 p0 q0∧Bx W' g1 p1 q1∧Bx W' g2 p2 q2∧Kp g0 g1 g2 w W') (by kernel_rfl) (by exact⟨d0,d1,d2,d3.below (Below.refl _ _).drew⟩) (fun hHeld=>?_);refine tk 0 ?_;(try simp only [Act.put,lay]);refine tk 1 ?_;(try simp only [Act.put,lay]);refine tk 2 ?_;(try simp only [Act.put,lay]);refine tk 3 ?_;(try simp only [Act.put,lay]);refine tk 4 ?_ (hv:=by intro W2 hSw;have qa:_=some (.float .f64 p2:Value):=Blk.cell hSw.2.2.1 0;have qb:_=some (.float .f64 q2:Value):=Blk.cell hSw.2.2.1 1;go_simp;(try with_reducible rfl));(try simp only [Act.put,lay]);refine rdy 5 (fun KK hKK=>?_);go_simp;refine (HE.out _).mono ?_;rintro e we ⟨rfl,hbe⟩;go_wp2_with fail;refine hKK.out _ _ (⟨hHeld.1.keep hbe,hHeld.2.1.keep hbe,hHeld.2.2.1.keep hbe,hHeld.2.2.2.below hbe⟩) (fun _=>?_);clear hKK KK hHeld;rename_i hHeld;(try simp only [Act.put,lay]);refine tk 6 ?_;(try simp only [Act.put,lay]);refine tk 7 ?_;(try simp only [Act.put,lay]);refine tk 8 ?_;(try simp only [Act.put,lay]);refine wpAnyH_done (by kernel_rfl) ?_ _;clear hbe o1 o2;clear d0 d1 d2 d3;have HF:=Hd hHeld;clear hHeld;go_wp2
     go_roundw
     case rel=>exact⟨3,by go_num,by rw [HXX.out];rfl,HF.out.2.2.2,.inr (.inr (.inr (⟨rfl,HF.out.1,HF.out.2.1,HF.out.2.2.1⟩)))⟩
     case measure=>simp [intOf]
   ·skip;refine wp_region_held_drew (S:=fun W'=>Bx W' g0 p0 q0∧Bx W' g1 p1 q1∧Bx W' g2 p2 q2∧Kp g0 g1 g2 w W') (by kernel_rfl) (by exact⟨d0,d1,d2,d3.below (Below.refl _ _).drew⟩) (fun hHeld=>?_);refine tk 0 ?_;(try simp only [Act.put,lay]);refine tk 1 ?_;(try simp only [Act.put,lay]);refine tkn 2 ?_;(try simp only [Act.put,lay]);refine tkn 3 ?_;(try simp only [Act.put,lay]);refine tkn 4 ?_;(try simp only [Act.put,lay]);refine tkn 5 ?_;(try simp only [Act.put,lay]);refine tkn 6 ?_;(try simp only [Act.put,lay]);refine tk 7 ?_;(try simp only [Act.put,lay]);refine tk 8 ?_;(try simp only [Act.put,lay]);refine wpAnyH_done (by kernel_rfl) ?_ _;clear d0 d1 d2 d3;have HF:=Hd hHeld;clear hHeld;go_wp2
    go_roundw
    case rel=>exact⟨3,by go_num,by rw [HXX.out];rfl,HF.out.2.2.2,.inr (.inr (.inr (⟨rfl,HF.out.1,HF.out.2.1,HF.out.2.2.1⟩)))⟩
    case measure=>simp [intOf]
  ·have r:=NN3.out;go_wp2
   go_ret
   exact⟨rfl,c0,c1,c2,hkp⟩
end Go.Proofs.YthlmlmfebpjgdaaGreatDoor
namespace Go.Proofs.YthlmlmfebpjgdaaGreatDoor
open Go.RowKit
attribute [local go_sem] run_store_float
theorem not_gt{i j:Int}(hi:-(M:Int)≤i∧i≤M)(hj:-(M:Int)≤j∧j≤M)(h:¬ j<i):(FloatKind.f64.format.order (pat i) (pat j) == some Ordering.gt)=false:=by
 rw [order_pat hi.1 hi.2 hj.1 hj.2]
 rcases Int.lt_trichotomy i j with h2 | h2 | h2
 ·rw [Int.compare_eq_lt.2 h2];rfl
 ·rw [Int.compare_eq_eq.2 h2];rfl
 ·exact absurd h2 h
theorem not_lt'{i j:Int}(hi:-(M:Int)≤i∧i≤M)(hj:-(M:Int)≤j∧j≤M)(h:¬ i<j):(FloatKind.f64.format.order (pat i) (pat j) == some Ordering.lt)=false:=by
 rw [order_pat hi.1 hi.2 hj.1 hj.2]
 rcases Int.lt_trichotomy i j with h2 | h2 | h2
 ·exact absurd h2 h
 ·rw [Int.compare_eq_eq.2 h2];rfl
 ·rw [Int.compare_eq_gt.2 h2];rfl
theorem rcut_gt(i j pd pu qd qu:Nat)(w:World)(o1:FloatKind.f64.format.order i qd=some .gt):
  Calls Tryz.prog 77 #[.agg #[.float .f64 i,.float .f64 j],.agg #[.float .f64 pd,.float .f64 pu],.agg #[.float .f64 qd,.float .f64 qu],.bool false] w fun e w'=>e=.returned (.agg #[.float .f64 9218868437227405312,.float .f64 18442240474082181120])∧Below w.heap.size w w':=by
 obtain⟨LB0,LG0_0,LG1_0,LG2_0,LR⟩:=bx4 w #[.float .f64 i,.float .f64 j] 28 #[.float .f64 pd,.float .f64 pu] 78 #[.float .f64 qd,.float .f64 qu] 78 #[.float .f64 0,.float .f64 0] 28;have LR0:=Hd (HasBlk.of (n:=2) LR.out rfl rfl);clear LR;have HE:=Hd emptyf
 go_enter Tryz.func77,Tryz.ntmps77
 go_wp2_with fail;refine (HE.out _).mono ?_;rintro e w1 ⟨rfl,hb1⟩;have LB1:=stB LB0 hb1 LB0.out.size;have LR1:=stR LR0 hb1;have LG0_1:=stG LG0_0 hb1;have LG1_1:=stG LG1_0 hb1;have LG2_1:=stG LG2_0 hb1;clear LB0 LR0 LG0_0 LG1_0 LG2_0;clear hb1 HE;obtain⟨ha0,hf0,ha1,hf1⟩:=LR1.out.sf2;obtain⟨hk0,hk1⟩:=LR1.out.sc2 (.float .f64 9218868437227405312) (.float .f64 18442240474082181120);have F:=Hd (below_sets (w0:=w) (r:=(w.heap.size+3)) (by omega) [.float .f64 9218868437227405312,.float .f64 18442240474082181120] 0 _ LB1.out)
 simp [sets] at hk0 hk1
 go_wp2;refine bodyPost_ret (v:=.agg #[.float .f64 9218868437227405312,.float .f64 18442240474082181120]) (by simp [results,Tryz.results77,go_sem,hk0,hk1]) rfl ?_
 exact⟨rfl,F.out⟩
theorem rcut_lt(i j pd pu qd qu:Nat)(w:World)(o1:(FloatKind.f64.format.order i qd == some Ordering.gt)=false)(o2:FloatKind.f64.format.order j pu=some .lt):
  Calls Tryz.prog 77 #[.agg #[.float .f64 i,.float .f64 j],.agg #[.float .f64 pd,.float .f64 pu],.agg #[.float .f64 qd,.float .f64 qu],.bool false] w fun e w'=>e=.returned (.agg #[.float .f64 9218868437227405312,.float .f64 18442240474082181120])∧Below w.heap.size w w':=by
 obtain⟨LB0,LG0_0,LG1_0,LG2_0,LR⟩:=bx4 w #[.float .f64 i,.float .f64 j] 28 #[.float .f64 pd,.float .f64 pu] 78 #[.float .f64 qd,.float .f64 qu] 78 #[.float .f64 0,.float .f64 0] 28;have LR0:=Hd (HasBlk.of (n:=2) LR.out rfl rfl);clear LR;have HE:=Hd emptyf
 go_enter Tryz.func77,Tryz.ntmps77
 go_wp2_with fail;refine (HE.out _).mono ?_;rintro e w1 ⟨rfl,hb1⟩;have LB1:=stB LB0 hb1 LB0.out.size;have LR1:=stR LR0 hb1;have LG0_1:=stG LG0_0 hb1;have LG1_1:=stG LG1_0 hb1;have LG2_1:=stG LG2_0 hb1;clear LB0 LR0 LG0_0 LG1_0 LG2_0;clear hb1 HE;obtain⟨ha0,hf0,ha1,hf1⟩:=LR1.out.sf2;obtain⟨hk0,hk1⟩:=LR1.out.sc2 (.float .f64 9218868437227405312) (.float .f64 18442240474082181120);have F:=Hd (below_sets (w0:=w) (r:=(w.heap.size+3)) (by omega) [.float .f64 9218868437227405312,.float .f64 18442240474082181120] 0 _ LB1.out)
 simp [sets] at hk0 hk1
 go_wp2;refine bodyPost_ret (v:=.agg #[.float .f64 9218868437227405312,.float .f64 18442240474082181120]) (by simp [results,Tryz.results77,go_sem,hk0,hk1]) rfl ?_
 exact⟨rfl,F.out⟩
theorem rcut_in(i j pd pu qd qu a b:Nat)(w:World)(o1:(FloatKind.f64.format.order i qd == some Ordering.gt)=false)(o2:(FloatKind.f64.format.order j pu == some Ordering.lt)=false)(m1:∀ W ts t,(Builtin.max_ ts t #[.float .f64 i,.float .f64 pd]).run Tryz.prog W=.ok (.float .f64 a) W)(m2:∀ W ts t,(Builtin.min_ ts t #[.float .f64 j,.float .f64 qu]).run Tryz.prog W=.ok (.float .f64 b) W):
  Calls Tryz.prog 77 #[.agg #[.float .f64 i,.float .f64 j],.agg #[.float .f64 pd,.float .f64 pu],.agg #[.float .f64 qd,.float .f64 qu],.bool false] w fun e w'=>e=.returned (.agg #[.float .f64 a,.float .f64 b])∧Below w.heap.size w w':=by
 obtain⟨LB0,LG0_0,LG1_0,LG2_0,LR⟩:=bx4 w #[.float .f64 i,.float .f64 j] 28 #[.float .f64 pd,.float .f64 pu] 78 #[.float .f64 qd,.float .f64 qu] 78 #[.float .f64 0,.float .f64 0] 28;have LR0:=Hd (HasBlk.of (n:=2) LR.out rfl rfl);clear LR
 go_enter Tryz.func77,Tryz.ntmps77
 go_wp2_with fail
 go_quiet (fail)
 have LB1:=Hd (below_drewN LB0.out nq);have LR1:=Hd (show HasBlk ((((((w.alloc (.cells #[.float .f64 i,.float .f64 j] 28)).alloc (.cells #[.float .f64 pd,.float .f64 pu] 78)).alloc (.cells #[.float .f64 qd,.float .f64 qu] 78)).alloc (.cells #[.float .f64 0,.float .f64 0] 28))).drewN nq) (w.heap.size+3) 28 2 from LR0.out);have LG0_1:=Hd (LG0_0.out.drewN nq);have LG1_1:=Hd (LG1_0.out.drewN nq);have LG2_1:=Hd (LG2_0.out.drewN nq);clear LB0 LR0 LG0_0 LG1_0 LG2_0
 obtain⟨W1,hW1⟩:∃ X,(((((w.alloc (.cells #[.float .f64 i,.float .f64 j] 28)).alloc (.cells #[.float .f64 pd,.float .f64 pu] 78)).alloc (.cells #[.float .f64 qd,.float .f64 qu] 78)).alloc (.cells #[.float .f64 0,.float .f64 0] 28))).drewN nq=X:=⟨_,rfl⟩
 rw [hW1] at LB1 LR1 LG0_1 LG1_1 LG2_1 ⊢;clear hW1;clear o1 o2;obtain⟨q0_0,q0_1⟩:=LG0_1.out.c2;obtain⟨q1_0,q1_1⟩:=LG1_1.out.c2;obtain⟨q2_0,q2_1⟩:=LG2_1.out.c2;obtain⟨ha0,hf0,ha1,hf1⟩:=LR1.out.sf2;obtain⟨hk0,hk1⟩:=LR1.out.sc2 (.float .f64 a) (.float .f64 b);have F:=Hd (below_sets (w0:=w) (r:=(w.heap.size+3)) (by omega) [.float .f64 a,.float .f64 b] 0 _ LB1.out)
 simp [sets] at hk0 hk1
 go_wp2;refine bodyPost_ret (v:=.agg #[.float .f64 a,.float .f64 b]) (by simp [results,Tryz.results77,go_sem,hk0,hk1]) rfl ?_
 exact⟨rfl,F.out⟩
theorem rcut_any(i j pd pu qd qu:Int)(w:World)(hi:-(M:Int)≤i∧i≤M)(hj:-(M:Int)≤j∧j≤M)(h1:-(M:Int)≤pd∧pd≤M)(h2:-(M:Int)≤pu∧pu≤M)(h3:-(M:Int)≤qd∧qd≤M)(h4:-(M:Int)≤qu∧qu≤M):
  Calls Tryz.prog 77 #[.agg #[.float .f64 (pat i),.float .f64 (pat j)],.agg #[.float .f64 (pat pd),.float .f64 (pat pu)],.agg #[.float .f64 (pat qd),.float .f64 (pat qu)],.bool false] w
   fun e w'=>e=.returned (.agg #[.float .f64 (pat (ct i j pd pu qd qu).1),.float .f64 (pat (ct i j pd pu qd qu).2)])∧Below w.heap.size w w':=by
 unfold ct
 by_cases c1:qd<i
 ·rw [if_pos (.inl c1),pat_max,pat_min]
  exact rcut_gt _ _ _ _ _ _ w (by rw [order_pat hi.1 hi.2 h3.1 h3.2,Int.compare_eq_gt.2 c1])
 ·by_cases c2:j<pu
  ·rw [if_pos (.inr c2),pat_max,pat_min]
   exact rcut_lt _ _ _ _ _ _ w (not_gt hi h3 c1) (by rw [order_pat hj.1 hj.2 h2.1 h2.2,Int.compare_eq_lt.2 c2])
  ·rw [if_neg (by omega)]
   exact rcut_in _ _ _ _ _ _ _ _ w (not_gt hi h3 c1) (not_lt' hj h2 c2) (fun W ts t=>run_maxf hi h1 W ts t) (fun W ts t=>run_minf hj h4 W ts t)
end Go.Proofs.YthlmlmfebpjgdaaGreatDoor
