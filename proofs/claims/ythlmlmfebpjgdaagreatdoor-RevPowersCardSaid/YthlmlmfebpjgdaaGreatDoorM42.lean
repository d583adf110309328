/-
Lemmas for the statement: HoldT RpaI LawKT TabL.
-/
import Derived.Test.YthlmlmfebpjgdaaGreatDoorM41
import Derived.Test.YthlmlmfebpjgdaaGreatDoorPLessT
import Derived.Test.YthlmlmfebpjgdaaGreatDoorM24
import Derived.Test.YthlmlmfebpjgdaaGreatDoorM08
import Derived.Deep.DeepCutAuto
import Derived.Test.YthlmlmfebpjgdaaGreatDoorM27
import Derived.Test.YthlmlmfebpjgdaaGreatDoorM40
import Derived.Test.YthlmlmfebpjgdaaGreatDoorPCut2T
import Derived.Test.YthlmlmfebpjgdaaGreatDoorPRoot2T
import Derived.Test.YthlmlmfebpjgdaaGreatDoorRows
import Derived.WalkKit
import Derived.ProofKit
import Derived.JoinedOf
import Derived.RowKit
set_option linter.unusedSimpArgs false
set_option linter.unusedVariables false
set_option maxHeartbeats 12800000
namespace Go.Proofs.YthlmlmfebpjgdaaGreatDoor
section
open Go.RowKit
theorem ec_swp(s:Int)(x:Rat)(t:Int)(y:Rat):ec s x t y=- ec t y s x:=by
 unfold ec
 by_cases h:s=t
 ·subst h;rw [if_pos rfl,if_pos rfl]
  split
  ·exact rc_swap x y
  ·rfl
 ·rw [if_neg h,if_neg (show ¬ t=s by omega)]
  by_cases h1:s<t
  ·rw [if_pos h1,if_neg (by omega)]
  ·rw [if_neg h1,if_pos (by omega)];rfl
set_option maxRecDepth 8000 in
theorem holds_none(f1 f2 K:Nat)(i1 j1:Int)(g2:Bool)(A2:Option Addr)(n2 c2:Nat)(B2:Option Addr)(m2 d2:Nat)(v:Rat)(w:World)(hO1:∀ W,Calls Tryz.prog 83 #[.agg #[.int .u64 (f1:Int),.int .u64 (f2:Int)]] W (NewSetI W i1 j1))
  (hN:∀ W o1 s1 g1 A1 n1 c1 B1 m1 d1 s51 g51 A51 n51 c51 B51 m51 d51,SetOf W (.agg #[.bool o1,.int .i64 s1,.bool g1,.slice A1 n1 c1,.slice B1 m1 d1,.int .i64 s51,.bool g51,.slice A51 n51 c51,.slice B51 m51 d51]) i1 j1→o1=true)
  (hr:RatW w K g2 (.slice A2 n2 c2) (.slice B2 m2 d2) v):
  Calls Tryz.prog 34 #[.agg #[.int .u64 (f1:Int),.int .u64 (f2:Int)],.agg #[.bool g2,.slice A2 n2 c2,.slice B2 m2 d2]] w fun e w'=>e=.returned (.bool false)∧Below w.heap.size w w':=by
 have HO1:=Hd hO1;have HN:=Hd hN;clear hO1 hN;have LL:=li2 w #[.int .u64 (f1:Int),.int .u64 (f2:Int)] 24 #[.bool g2,.slice A2 n2 c2,.slice B2 m2 d2] 42;have HR:=Hd (hr.below LL.out.b);clear hr
 go_enter Tryz.func34,Tryz.ntmps34
 obtain⟨q1_0,q1_1⟩:=(LL.out.blk 0 rfl).c2;go_wp2_with fail;refine (HO1.out _).mono ?_;rintro e wk ⟨o1,s1,g1,A1,n1,c1,B1,m1,d1,s51,g51,A51,n51,c51,B51,m51,d51,rfl,hs1,hb⟩;replace LL:=stL LL hb;replace HR:=Hd (HR.out.below hb);clear hb q1_0 q1_1 HO1;have HS1:=Hd hs1;clear hs1
 obtain rfl:o1=true:=HN.out _ _ _ _ _ _ _ _ _ _ _ _ _ _ _ _ _ _ HS1.out
 clear HN
 go_upto_region 2 with fail
 have hl_j5:=LL.out.lts;generalize hwn:World.alloc wk _=wn;replace HR:=Hd (HR.out.below (below_allocE hwn));replace HS1:=Hd (HS1.out.below (below_allocE hwn));replace LL:=Hd (LL.out.newE hwn)
 simp only [List.cons_append,List.nil_append] at LL
 simp only [List.mem_cons,List.not_mem_nil,or_false,forall_eq_or_imp,forall_eq,false_imp_iff,implies_true,and_true] at hl_j5
 clear hwn;generalize wk.heap.size=j5 at LL hl_j5 ⊢;obtain⟨q2_0,q2_1,q2_2⟩:=(LL.out.blk 1 rfl).c3
 go_upto_region 3 with fail
 clear q2_0 q2_1 q2_2;have hl_j6:=LL.out.lts;generalize hwn:World.alloc wn _=wn;replace HR:=Hd (HR.out.below (below_allocE hwn));replace HS1:=Hd (HS1.out.below (below_allocE hwn));replace LL:=Hd (LL.out.newE hwn)
 simp only [List.cons_append,List.nil_append] at LL
 simp only [List.mem_cons,List.not_mem_nil,or_false,forall_eq_or_imp,forall_eq,false_imp_iff,implies_true,and_true] at hl_j6
 clear hwn;generalize wn.heap.size=j6 at LL hl_j6 ⊢;obtain⟨q3_0,q3_1,q3_2,q3_3,q3_4,q3_5,q3_6,q3_7,q3_8⟩:=(LL.out.blk 2 rfl).c9;go_wp2
 go_ret
 exact⟨rfl,LL.out.b⟩
set_option maxRecDepth 8000 in
theorem holds_lo(f1 f2 K:Nat)(i1 j1 t1:Int)(g2:Bool)(A2:Option Addr)(n2 c2:Nat)(B2:Option Addr)(m2 d2:Nat)(v:Rat)(w:World)(hO1:∀ W,Calls Tryz.prog 83 #[.agg #[.int .u64 (f1:Int),.int .u64 (f2:Int)]] W (NewSetI W i1 j1))
  (hN:∀ W o1 s1 g1 A1 n1 c1 B1 m1 d1 s51 g51 A51 n51 c51 B51 m51 d51,SetOf W (.agg #[.bool o1,.int .i64 s1,.bool g1,.slice A1 n1 c1,.slice B1 m1 d1,.int .i64 s51,.bool g51,.slice A51 n51 c51,.slice B51 m51 d51]) i1 j1→o1=false)
  (hC1:∀ W o1 s1 g1 A1 n1 c1 B1 m1 d1 s51 g51 A51 n51 c51 B51 m51 d51,SetOf W (.agg #[.bool o1,.int .i64 s1,.bool g1,.slice A1 n1 c1,.slice B1 m1 d1,.int .i64 s51,.bool g51,.slice A51 n51 c51,.slice B51 m51 d51]) i1 j1→RatW W K g2 (.slice A2 n2 c2) (.slice B2 m2 d2) v→Calls Tryz.prog 94 #[.agg #[.int .i64 s1,.bool g1,.slice A1 n1 c1,.slice B1 m1 d1],.agg #[.int .i64 0,.bool g2,.slice A2 n2 c2,.slice B2 m2 d2]] W fun e w'=>e=.returned (.int .i64 t1)∧Below W.heap.size W w')(h1:decide (t1≤0)=false)
  (hr:RatW w K g2 (.slice A2 n2 c2) (.slice B2 m2 d2) v):
  Calls Tryz.prog 34 #[.agg #[.int .u64 (f1:Int),.int .u64 (f2:Int)],.agg #[.bool g2,.slice A2 n2 c2,.slice B2 m2 d2]] w fun e w'=>e=.returned (.bool false)∧Below w.heap.size w w':=by
 have HO1:=Hd hO1;have HN:=Hd hN;have HC1:=Hd hC1;have H1:=Hd h1;clear hO1 hN hC1 h1;have LL:=li2 w #[.int .u64 (f1:Int),.int .u64 (f2:Int)] 24 #[.bool g2,.slice A2 n2 c2,.slice B2 m2 d2] 42;have HR:=Hd (hr.below LL.out.b);clear hr
 go_enter Tryz.func34,Tryz.ntmps34
 obtain⟨q1_0,q1_1⟩:=(LL.out.blk 0 rfl).c2;go_wp2_with fail;refine (HO1.out _).mono ?_;rintro e wk ⟨o1,s1,g1,A1,n1,c1,B1,m1,d1,s51,g51,A51,n51,c51,B51,m51,d51,rfl,hs1,hb⟩;replace LL:=stL LL hb;replace HR:=Hd (HR.out.below hb);clear hb q1_0 q1_1 HO1;have HS1:=Hd hs1;clear hs1
 obtain rfl:o1=false:=HN.out _ _ _ _ _ _ _ _ _ _ _ _ _ _ _ _ _ _ HS1.out
 clear HN
 go_upto_region 2 with fail
 have hl_j5:=LL.out.lts;generalize hwn:World.alloc wk _=wn;replace HR:=Hd (HR.out.below (below_allocE hwn));replace HS1:=Hd (HS1.out.below (below_allocE hwn));replace LL:=Hd (LL.out.newE hwn)
 simp only [List.cons_append,List.nil_append] at LL
 simp only [List.mem_cons,List.not_mem_nil,or_false,forall_eq_or_imp,forall_eq,false_imp_iff,implies_true,and_true] at hl_j5
 clear hwn;generalize wk.heap.size=j5 at LL hl_j5 ⊢;obtain⟨q2_0,q2_1,q2_2⟩:=(LL.out.blk 1 rfl).c3
 go_upto_region 3 with fail
 clear q2_0 q2_1 q2_2;have hl_j6:=LL.out.lts;generalize hwn:World.alloc wn _=wn;replace HR:=Hd (HR.out.below (below_allocE hwn));replace HS1:=Hd (HS1.out.below (below_allocE hwn));replace LL:=Hd (LL.out.newE hwn)
 simp only [List.cons_append,List.nil_append] at LL
 simp only [List.mem_cons,List.not_mem_nil,or_false,forall_eq_or_imp,forall_eq,false_imp_iff,implies_true,and_true] at hl_j6
 clear hwn;generalize wn.heap.size=j6 at LL hl_j6 ⊢;have CC:=Hd (HC1.out _ _ _ _ _ _ _ _ _ _ _ _ _ _ _ _ _ _ HS1.out HR.out);have h1:=H1.out;obtain⟨q3_0,q3_1,q3_2,q3_3,q3_4,q3_5,q3_6,q3_7,q3_8⟩:=(LL.out.blk 2 rfl).c9;obtain⟨q4_0,q4_1,q4_2,q4_3⟩:=(LL.out.blk 3 rfl).c4;go_wp2_with fail;refine CC.out.mono ?_;rintro e wk ⟨rfl,hb⟩;replace LL:=stL LL hb;replace HR:=Hd (HR.out.below hb);replace HS1:=Hd (HS1.out.below hb);clear hb q3_0 q3_1 q3_2 q3_3 q3_4 q3_5 q3_6 q3_7 q3_8 q4_0 q4_1 q4_2 q4_3 CC HC1;go_wp2
 go_ret
 exact⟨rfl,LL.out.b⟩
set_option maxRecDepth 8000 in
theorem holds_all(f1 f2 K:Nat)(i1 j1 t1 t2:Int)(r:Bool)(g2:Bool)(A2:Option Addr)(n2 c2:Nat)(B2:Option Addr)(m2 d2:Nat)(v:Rat)(w:World)(hO1:∀ W,Calls Tryz.prog 83 #[.agg #[.int .u64 (f1:Int),.int .u64 (f2:Int)]] W (NewSetI W i1 j1))
  (hN:∀ W o1 s1 g1 A1 n1 c1 B1 m1 d1 s51 g51 A51 n51 c51 B51 m51 d51,SetOf W (.agg #[.bool o1,.int .i64 s1,.bool g1,.slice A1 n1 c1,.slice B1 m1 d1,.int .i64 s51,.bool g51,.slice A51 n51 c51,.slice B51 m51 d51]) i1 j1→o1=false)
  (hC1:∀ W o1 s1 g1 A1 n1 c1 B1 m1 d1 s51 g51 A51 n51 c51 B51 m51 d51,SetOf W (.agg #[.bool o1,.int .i64 s1,.bool g1,.slice A1 n1 c1,.slice B1 m1 d1,.int .i64 s51,.bool g51,.slice A51 n51 c51,.slice B51 m51 d51]) i1 j1→RatW W K g2 (.slice A2 n2 c2) (.slice B2 m2 d2) v→Calls Tryz.prog 94 #[.agg #[.int .i64 s1,.bool g1,.slice A1 n1 c1,.slice B1 m1 d1],.agg #[.int .i64 0,.bool g2,.slice A2 n2 c2,.slice B2 m2 d2]] W fun e w'=>e=.returned (.int .i64 t1)∧Below W.heap.size W w')(h1:decide (t1≤0)=true)
  (hC2:∀ W o1 s1 g1 A1 n1 c1 B1 m1 d1 s51 g51 A51 n51 c51 B51 m51 d51,SetOf W (.agg #[.bool o1,.int .i64 s1,.bool g1,.slice A1 n1 c1,.slice B1 m1 d1,.int .i64 s51,.bool g51,.slice A51 n51 c51,.slice B51 m51 d51]) i1 j1→RatW W K g2 (.slice A2 n2 c2) (.slice B2 m2 d2) v→Calls Tryz.prog 94 #[.agg #[.int .i64 0,.bool g2,.slice A2 n2 c2,.slice B2 m2 d2],.agg #[.int .i64 s51,.bool g51,.slice A51 n51 c51,.slice B51 m51 d51]] W fun e w'=>e=.returned (.int .i64 t2)∧Below W.heap.size W w')(h2:decide (t2≤0)=r)
  (hr:RatW w K g2 (.slice A2 n2 c2) (.slice B2 m2 d2) v):
  Calls Tryz.prog 34 #[.agg #[.int .u64 (f1:Int),.int .u64 (f2:Int)],.agg #[.bool g2,.slice A2 n2 c2,.slice B2 m2 d2]] w fun e w'=>e=.returned (.bool r)∧Below w.heap.size w w':=by
 have HO1:=Hd hO1;have HN:=Hd hN;have HC1:=Hd hC1;have H1:=Hd h1;have HC2:=Hd hC2;have H2:=Hd h2;clear hO1 hN hC1 h1 hC2 h2;have LL:=li2 w #[.int .u64 (f1:Int),.int .u64 (f2:Int)] 24 #[.bool g2,.slice A2 n2 c2,.slice B2 m2 d2] 42;have HR:=Hd (hr.below LL.out.b);clear hr
 go_enter Tryz.func34,Tryz.ntmps34
 obtain⟨q1_0,q1_1⟩:=(LL.out.blk 0 rfl).c2;go_wp2_with fail;refine (HO1.out _).mono ?_;rintro e wk ⟨o1,s1,g1,A1,n1,c1,B1,m1,d1,s51,g51,A51,n51,c51,B51,m51,d51,rfl,hs1,hb⟩;replace LL:=stL LL hb;replace HR:=Hd (HR.out.below hb);clear hb q1_0 q1_1 HO1;have HS1:=Hd hs1;clear hs1
 obtain rfl:o1=false:=HN.out _ _ _ _ _ _ _ _ _ _ _ _ _ _ _ _ _ _ HS1.out
 clear HN
 go_upto_region 2 with fail
 have hl_j5:=LL.out.lts;generalize hwn:World.alloc wk _=wn;replace HR:=Hd (HR.out.below (below_allocE hwn));replace HS1:=Hd (HS1.out.below (below_allocE hwn));replace LL:=Hd (LL.out.newE hwn)
 simp only [List.cons_append,List.nil_append] at LL
 simp only [List.mem_cons,List.not_mem_nil,or_false,forall_eq_or_imp,forall_eq,false_imp_iff,implies_true,and_true] at hl_j5
 clear hwn;generalize wk.heap.size=j5 at LL hl_j5 ⊢;obtain⟨q2_0,q2_1,q2_2⟩:=(LL.out.blk 1 rfl).c3
 go_upto_region 3 with fail
 clear q2_0 q2_1 q2_2;have hl_j6:=LL.out.lts;generalize hwn:World.alloc wn _=wn;replace HR:=Hd (HR.out.below (below_allocE hwn));replace HS1:=Hd (HS1.out.below (below_allocE hwn));replace LL:=Hd (LL.out.newE hwn)
 simp only [List.cons_append,List.nil_append] at LL
 simp only [List.mem_cons,List.not_mem_nil,or_false,forall_eq_or_imp,forall_eq,false_imp_iff,implies_true,and_true] at hl_j6
 clear hwn;generalize wn.heap.size=j6 at LL hl_j6 ⊢;have CC:=Hd (HC1.out _ _ _ _ _ _ _ _ _ _ _ _ _ _ _ _ _ _ HS1.out HR.out);have h1:=H1.out;obtain⟨q3_0,q3_1,q3_2,q3_3,q3_4,q3_5,q3_6,q3_7,q3_8⟩:=(LL.out.blk 2 rfl).c9;obtain⟨q4_0,q4_1,q4_2,q4_3⟩:=(LL.out.blk 3 rfl).c4;go_wp2_with fail;refine CC.out.mono ?_;rintro e wk ⟨rfl,hb⟩;replace LL:=stL LL hb;replace HR:=Hd (HR.out.below hb);replace HS1:=Hd (HS1.out.below hb);clear hb q3_0 q3_1 q3_2 q3_3 q3_4 q3_5 q3_6 q3_7 q3_8 q4_0 q4_1 q4_2 q4_3 CC HC1;have CC:=Hd (HC2.out _ _ _ _ _ _ _ _ _ _ _ _ _ _ _ _ _ _ HS1.out HR.out);have h2:=H2.out;obtain⟨q5_0,q5_1,q5_2,q5_3,q5_4,q5_5,q5_6,q5_7,q5_8⟩:=(LL.out.blk 2 rfl).c9;obtain⟨q6_0,q6_1,q6_2,q6_3⟩:=(LL.out.blk 3 rfl).c4;go_wp2_with fail;refine CC.out.mono ?_;rintro e wk ⟨rfl,hb⟩;replace LL:=stL LL hb;replace HR:=Hd (HR.out.below hb);replace HS1:=Hd (HS1.out.below hb);clear hb q5_0 q5_1 q5_2 q5_3 q5_4 q5_5 q5_6 q5_7 q5_8 q6_0 q6_1 q6_2 q6_3 CC HC2;go_wp2
 go_ret
 exact⟨by first | rw [h2] | rfl,LL.out.b⟩
def hd(i j:Int)(v:Rat):Bool:=decide (i≤rndI (-1) v) && decide (rndI 1 v≤j)
theorem hd_true{i j:Int}{v:Rat}:hd i j v=true↔i≤rndI (-1) v∧rndI 1 v≤j:=by unfold hd;simp
theorem hd_false{i j:Int}{v:Rat}(h:¬ (i≤rndI (-1) v∧rndI 1 v≤j)):hd i j v=false:=by
 cases e:hd i j v
 ·rfl
 ·exact absurd (hd_true.1 e) h
theorem holds_any(f1 f2 K:Nat)(g:Bool)(A:Option Addr)(n c:Nat)(B:Option Addr)(m d:Nat)(v:Rat)(w:World)(h1:f1<18446744073709551616)(h2:f2<18446744073709551616)(hr:RatW w K g (.slice A n c) (.slice B m d) v)(hK:34≤K)(hK2:K≤1073741824):
  Calls Tryz.prog 34 #[.agg #[.int .u64 (f1:Int),.int .u64 (f2:Int)],.agg #[.bool g,.slice A n c,.slice B m d]] w fun e w'=>e=.returned (.bool (hd (rd f1 f2).1 (rd f1 f2).2 v))∧Below w.heap.size w w':=by
 have hM:(M:Int)=9218868437227405312:=rfl;have hv:=rd_iv f1 f2;have hO:=fun W=>of_i f1 f2 W h1 h2;have b1:=rndI_down v;have b2:=rndI_up v
 obtain⟨⟨i,j⟩,r2⟩:∃ z,rd f1 f2=z:=⟨_,rfl⟩
 rw [r2] at hv hO ⊢
 dsimp only at *
 by_cases h0:j<i
 ·have e:hd i j v=false:=hd_false (by rcases hv with h | h<;>omega);rw [e];refine holds_none f1 f2 K i j g A n c B m d v w hO ?_ hr;intro W o1 s1 g1 A1 n1 c1 B1 m1 d1 s51 g51 A51 n51 c51 B51 m51 d51 hs
  rcases hs with ⟨-,-,s,x,t,y,g2,A2,n2,c2,B2,m2,d2,g',A',n',c',B',m',d',e,-,-⟩ | ⟨hne,-⟩
  ·cases e;rfl
  ·omega
 ·have hne:=ne_or hv h0;unfold Ne at hne
  have hN:∀ W o1 s1 g1 A1 n1 c1 B1 m1 d1 s51 g51 A51 n51 c51 B51 m51 d51,SetOf W (.agg #[.bool o1,.int .i64 s1,.bool g1,.slice A1 n1 c1,.slice B1 m1 d1,.int .i64 s51,.bool g51,.slice A51 n51 c51,.slice B51 m51 d51]) i j→o1=false:=by
   intro W o1 s1 g1 A1 n1 c1 B1 m1 d1 s51 g51 A51 n51 c51 B51 m51 d51 hs
   rcases hs with ⟨e1,e2,-⟩ | ⟨-,g2,A2,n2,c2,B2,m2,d2,g',A',n',c',B',m',d',e,-,-⟩
   ·omega
   ·cases e;rfl
  have hC1:∀ W o1 s1 g1 A1 n1 c1 B1 m1 d1 s51 g51 A51 n51 c51 B51 m51 d51,SetOf W (.agg #[.bool o1,.int .i64 s1,.bool g1,.slice A1 n1 c1,.slice B1 m1 d1,.int .i64 s51,.bool g51,.slice A51 n51 c51,.slice B51 m51 d51]) i j→RatW W K g (.slice A n c) (.slice B m d) v →
    Calls Tryz.prog 94 #[.agg #[.int .i64 s1,.bool g1,.slice A1 n1 c1,.slice B1 m1 d1],.agg #[.int .i64 0,.bool g,.slice A n c,.slice B m d]] W fun e w'=>e=.returned (.int .i64 (ec (es i) (ex i) 0 v))∧Below W.heap.size W w':=by
   intro W o1 s1 g1 A1 n1 c1 B1 m1 d1 s51 g51 A51 n51 c51 B51 m51 d51 hs hw
   rcases hs with ⟨e1,e2,-⟩ | ⟨-,g2,A2,n2,c2,B2,m2,d2,g',A',n',c',B',m',d',e,q1,q2⟩
   ·omega
   ·cases e
    exact ecmp_w K _ g1 A1 n1 c1 B1 m1 d1 _ 0 g A n c B m d v W (q1.w.mono hK) hw hK2
  have hC2:∀ W o1 s1 g1 A1 n1 c1 B1 m1 d1 s51 g51 A51 n51 c51 B51 m51 d51,SetOf W (.agg #[.bool o1,.int .i64 s1,.bool g1,.slice A1 n1 c1,.slice B1 m1 d1,.int .i64 s51,.bool g51,.slice A51 n51 c51,.slice B51 m51 d51]) i j→RatW W K g (.slice A n c) (.slice B m d) v →
    Calls Tryz.prog 94 #[.agg #[.int .i64 0,.bool g,.slice A n c,.slice B m d],.agg #[.int .i64 s51,.bool g51,.slice A51 n51 c51,.slice B51 m51 d51]] W fun e w'=>e=.returned (.int .i64 (ec 0 v (es j) (ex j)))∧Below W.heap.size W w':=by
   intro W o1 s1 g1 A1 n1 c1 B1 m1 d1 s51 g51 A51 n51 c51 B51 m51 d51 hs hw
   rcases hs with ⟨e1,e2,-⟩ | ⟨-,g2,A2,n2,c2,B2,m2,d2,g',A',n',c',B',m',d',e,q1,q2⟩
   ·omega
   ·cases e
    exact ecmp_w K 0 g A n c B m d v _ g51 A51 n51 c51 B51 m51 d51 _ W hw (q2.w.mono hK) hK2
  have k1:=ec_hi (i:=i) (s:=0) (x:=v) (by omega) (.inl rfl);have k2:=ec_lo (j:=j) (s:=0) (x:=v) (by omega) (.inl rfl);rw [dn_zero] at k1;rw [up_zero] at k2
  by_cases c1:ec (es i) (ex i) 0 v≤0
  ·have e:decide (ec 0 v (es j) (ex j)≤0)=hd i j v:=by
    have sw:=ec_swp 0 v (es j) (ex j)
    by_cases c2:ec 0 v (es j) (ex j)≤0
    ·rw [decide_eq_true c2,(hd_true (i:=i) (j:=j) (v:=v)).2 ⟨by omega,by omega⟩]
    ·rw [decide_eq_false c2,hd_false (by omega)]
   exact holds_all f1 f2 K i j _ _ _ g A n c B m d v w hO hN hC1 (decide_eq_true c1) hC2 e hr
  ·have e:hd i j v=false:=hd_false (by omega);rw [e]
   exact holds_lo f1 f2 K i j _ g A n c B m d v w hO hN hC1 (decide_eq_false c1) hr
end
section
open Go.RowKit
theorem rndI_one{d:Int}(hd:d=-1∨d=1):rndI d 1=4607182418800017408:=by
 have hM:=M_val;have k:=K1_rng;have h:=rndI_fl hd (a:=K1) (by omega) k.2;rw [fl_K1] at h
 exact h
theorem refpownz_any(z:Int)(f1 f2 x1 x2:Nat)(w:World)(h1:f1<18446744073709551616)(h2:f2<18446744073709551616)(hx:x1<18446744073709551616)(hy:x2<18446744073709551616):
  Calls Tryz.prog 40 #[.int .i64 z,.agg #[.int .u64 (f1:Int),.int .u64 (f2:Int)],.agg #[.int .u64 (x1:Int),.int .u64 (x2:Int)]] w fun e w'=>
   e=.returned (.agg #[.int .u64 (pat (pwz z (rd f1 f2).1 (rd f1 f2).2 (rd x1 x2).1 (rd x1 x2).2).1:Int),.int .u64 (pat (pwz z (rd f1 f2).1 (rd f1 f2).2 (rd x1 x2).1 (rd x1 x2).2).2:Int)])∧Below w.heap.size w w':=by
 have hM:=M_val;have HR:=fun W=>read6 x1 x2 W hx hy;have O:=fun W=>of_i f1 f2 W h1 h2;have v2:=rd_iv f1 f2;have v3:=rd_iv x1 x2
 by_cases far:z < -1024∨1024<z
 ·have e:pwz z (rd f1 f2).1 (rd f1 f2).2 (rd x1 x2).1 (rd x1 x2).2=((rd x1 x2).1,(rd x1 x2).2):=by unfold pwz;rw [if_pos far]
  rw [e]
  rcases far with h | h
  ·exact refpownz_lo z f1 f2 x1 x2 _ _ w h HR
  ·exact refpownz_hi z f1 f2 x1 x2 _ _ w h HR
 by_cases z0:z=0
 ·subst z0;have HI:∀ W,Calls Tryz.prog 51 #[.int .i64 1] W (NewRatS W 1 1):=fun W=>(int_nat 1 W (by omega)).mono fun _ _ h=>h.s;have H:=fun (W:World) g A n c B m d (r:RatV W 1 g (.slice A n c) (.slice B m d) 1)=>holds_any f1 f2 34 g A n c B m d 1 W h1 h2 (r.mono (by omega)).w (by omega) (by omega)
  by_cases k:(rd f1 f2).1≤4607182418800017408∧4607182418800017408≤(rd f1 f2).2
  ·rw [hd_true.2 (by rw [rndI_one (.inl rfl),rndI_one (.inr rfl)];exact k)] at H
   have e:pwz 0 (rd f1 f2).1 (rd f1 f2).2 (rd x1 x2).1 (rd x1 x2).2=((rd x1 x2).1,(rd x1 x2).2):=by
    unfold pwz;rw [if_neg far]
    by_cases c:(rd f1 f2).2<(rd f1 f2).1∨(rd x1 x2).2<(rd x1 x2).1
    ·rw [if_pos c]
     rcases v3 with q | q
     ·omega
     ·rw [q.1,q.2]
    ·rw [if_neg c,if_pos rfl,if_pos k]
   rw [e]
   exact refpownz_in f1 f2 x1 x2 _ _ _ _ w O HI H HR
  ·rw [hd_false (by rw [rndI_one (.inl rfl),rndI_one (.inr rfl)];exact k)] at H
   have e:pwz 0 (rd f1 f2).1 (rd f1 f2).2 (rd x1 x2).1 (rd x1 x2).2=((M:Int),-(M:Int)):=by
    unfold pwz;rw [if_neg far]
    by_cases c:(rd f1 f2).2<(rd f1 f2).1∨(rd x1 x2).2<(rd x1 x2).1
    ·rw [if_pos c]
    ·rw [if_neg c,if_pos rfl,if_neg k]
   rw [e,pat_max,pat_min]
   exact refpownz_out f1 f2 x1 x2 _ _ w O HI H
 by_cases zp:0<z
 ·obtain⟨n,rfl⟩:∃ n:Nat,z=(n:Int):=⟨z.toNat,by omega⟩
  have e:pwz (n:Int) (rd f1 f2).1 (rd f1 f2).2 (rd x1 x2).1 (rd x1 x2).2=pwr n (rd f1 f2).1 (rd f1 f2).2 (rd x1 x2).1 (rd x1 x2).2:=by
   unfold pwz;rw [if_neg far,if_neg z0,if_neg (show ¬ (n:Int)<0 by omega),Int.natAbs_natCast]
   by_cases k:(rd f1 f2).2<(rd f1 f2).1∨(rd x1 x2).2<(rd x1 x2).1
   ·rw [if_pos k];unfold pwr;rw [if_pos (by omega)]
   ·rw [if_neg k]
  rw [e]
  rcases Nat.mod_two_eq_zero_or_one n with hp | hp
  ·exact refpown_any_even n f1 f2 x1 x2 w (by omega) (by omega) hp h1 h2 hx hy
  ·exact refpown_any_odd n f1 f2 x1 x2 w (by omega) (by omega) hp h1 h2 hx hy
 ·obtain⟨n,rfl⟩:∃ n:Nat,z=-(n:Int):=⟨z.natAbs,by omega⟩
  have hn:1≤n:=by omega
  have hn2:n≤1024:=by omega
  have en:(-(n:Int)).natAbs=n:=by omega
  have D:=fun (i j:Int) W u v a b=>divisors_q n hn hn2 u v i j W a b
  rcases Nat.mod_two_eq_zero_or_one n with hp | hp
  ·have e:pwz (-(n:Int)) (rd f1 f2).1 (rd f1 f2).2 (rd x1 x2).1 (rd x1 x2).2=zg (rd x1 x2).1 (rd x1 x2).2 (L2 (FDq n (rd f1 f2).1 (rd f1 f2).2) (ngF (FDq n (rd f1 f2).1 (rd f1 f2).2))) 2:=by
    rw [pwz_even hn hn2 hp v2 v3];unfold pwz;rw [if_neg far,if_neg z0,if_pos (show -(n:Int)<0 by omega),en]
    by_cases c:(rd f1 f2).2<(rd f1 f2).1∨(rd x1 x2).2<(rd x1 x2).1
    ·rw [if_pos c,if_pos c]
    ·rw [if_neg c,if_neg c]
     by_cases d:(rd f1 f2).2<0
     ·rw [if_pos ⟨by omega,d⟩,if_pos d]
     ·rw [if_neg (by omega),if_neg d]
   rw [e]
   exact refpown_neg_even n f1 f2 x1 x2 _ _ _ _ _ _ w (by omega) hn2 hp hx hy O one6_any (D _ _) rfl rfl
  ·have e:pwz (-(n:Int)) (rd f1 f2).1 (rd f1 f2).2 (rd x1 x2).1 (rd x1 x2).2=zg (rd x1 x2).1 (rd x1 x2).2 (L2 (FDq n (rd f1 f2).1 (rd f1 f2).2) (ngF (FDq n (-(rd f1 f2).2) (-(rd f1 f2).1)))) 2:=by
    rw [pwz_odd hn hn2 hp v2 v3];unfold pwz;rw [if_neg far,if_neg z0,if_pos (show -(n:Int)<0 by omega),en]
    by_cases c:(rd f1 f2).2<(rd f1 f2).1∨(rd x1 x2).2<(rd x1 x2).1
    ·rw [if_pos c,if_pos c]
    ·rw [if_neg c,if_neg c,if_neg (by omega)]
   rw [e]
   exact refpown_neg_odd n f1 f2 x1 x2 _ _ _ _ _ _ _ _ _ w (by omega) hn2 hp hx hy O one6_any (D _ _) (fun W v h=>minus_i v _ _ W h) (D _ _) rfl rfl
end
section
open Go.RowKit
attribute [local go_sem] run_store_float
set_option maxRecDepth 8000 in
theorem powers_law(z:Int)(c1 c2 x y:Nat)(w:World)(hc1:c1<18446744073709551616)(hc2:c2<18446744073709551616)(hx:x<18446744073709551616)(hy:y<18446744073709551616)(hT:Tab w):
  Calls Tryz.prog 6 #[.int .i64 z,.agg #[.int .u64 (c1:Int),.int .u64 (c2:Int)],.agg #[.int .u64 (x:Int),.int .u64 (y:Int)]] w fun e w'=>e=.returned (.bool true)∧Below w.heap.size w w':=by
 have R1:=Hd fun W (t:Tab W)=>pownz_any z c1 c2 x y W hc1 hc2 hx hy t;have R2:=Hd fun W=>refpownz_any z c1 c2 x y W hc1 hc2 hx hy
 obtain⟨A,ea⟩:∃ q,pat (pwz z (rd c1 c2).1 (rd c1 c2).2 (rd x y).1 (rd x y).2).1=q:=⟨_,rfl⟩
 obtain⟨B,eb⟩:∃ q,pat (pwz z (rd c1 c2).1 (rd c1 c2).2 (rd x y).1 (rd x y).2).2=q:=⟨_,rfl⟩
 rw [ea,eb] at R1 R2;have O1:=Hd fun W=>law_out A B W;have I1:=Hd fun W=>law_in c1 c2 W;have I2:=Hd fun W=>law_in x y W;clear ea eb hc1 hc2 hx hy;have LL:=li2 w #[.int .u64 (c1:Int),.int .u64 (c2:Int)] 24 #[.int .u64 (x:Int),.int .u64 (y:Int)] 24;have HT:=Hd (hT.below LL.out.b);clear hT
 go_enter Tryz.func6,Tryz.ntmps6
 go_wp2_with fail;refine regL LL (fun hHeld=>?_);clear LL;replace HT:=Hd (HT.out.below (Below.refl _ _).drew);generalize World.drew _=wk at hHeld HT ⊢;refine tk 0 ?_;(try simp only [Act.put,lay]);refine tk 1 ?_ (hv:=by intro W2 hSw;obtain⟨q0,q1⟩:=(hSw.blk 0 rfl).c2;go_simp;(try with_reducible rfl));(try simp only [Act.put,lay]);refine tk 3 ?_ (hv:=by intro W2 hSw;obtain⟨q0,q1⟩:=(hSw.blk 1 rfl).c2;go_simp;(try with_reducible rfl));(try simp only [Act.put,lay]);refine tk 7 ?_;(try simp only [Act.put,lay]);refine tk 8 ?_ (hv:=by intro W2 hSw;obtain⟨q0,q1⟩:=(hSw.blk 0 rfl).c2;go_simp;(try with_reducible rfl));(try simp only [Act.put,lay]);refine tk 9 ?_ (hv:=by intro W2 hSw;obtain⟨q0,q1⟩:=(hSw.blk 1 rfl).c2;go_simp;(try with_reducible rfl));(try simp only [Act.put,lay]);refine rdy 2 (fun KK hKK=>?_);go_simp;refine (I1.out _).mono ?_;rintro e wk ⟨rfl,hb1⟩;go_wp2_with fail;refine hKK.out _ _ (hHeld.keep hb1) (fun _=>?_);clear hKK KK hHeld;rename_i hHeld;(try simp only [Act.put,lay]);(try replace HT:=Hd (HT.out.below hb1));clear hb1;refine rdy 4 (fun KK hKK=>?_);go_simp;refine (I2.out _).mono ?_;rintro e wk ⟨rfl,hb2⟩;go_wp2_with fail;refine hKK.out _ _ (hHeld.keep hb2) (fun _=>?_);clear hKK KK hHeld;rename_i hHeld;(try simp only [Act.put,lay]);(try replace HT:=Hd (HT.out.below hb2));clear hb2;refine rdy 5 (fun KK hKK=>?_);go_simp;refine (R1.out _ HT.out).mono ?_;rintro e wk ⟨rfl,hb3⟩;go_wp2_with fail;refine hKK.out _ _ (hHeld.keep hb3) (fun _=>?_);clear hKK KK hHeld;rename_i hHeld
 (try simp only [Act.put,lay]);(try replace HT:=Hd (HT.out.below hb3));clear hb3;refine rdy 6 (fun KK hKK=>?_);go_simp;refine (O1.out _).mono ?_;rintro e wk ⟨rfl,hb4⟩;go_wp2_with fail;refine hKK.out _ _ (hHeld.keep hb4) (fun _=>?_);clear hKK KK hHeld;rename_i hHeld;(try simp only [Act.put,lay]);(try replace HT:=Hd (HT.out.below hb4));clear hb4;refine rdy 10 (fun KK hKK=>?_);go_simp;refine (R2.out _).mono ?_;rintro e wk ⟨rfl,hb5⟩;go_wp2_with fail;refine hKK.out _ _ (hHeld.keep hb5) (fun _=>?_);clear hKK KK hHeld;rename_i hHeld;(try simp only [Act.put,lay]);(try replace HT:=Hd (HT.out.below hb5));clear hb5;refine tk 11 ?_;(try simp only [Act.put,lay]);refine tk 12 ?_;(try simp only [Act.put,lay]);refine wpAnyH_done (by kernel_rfl) ?_ _;have LL:=Hd hHeld;clear hHeld;go_wp2
 go_ret
 exact⟨rfl,LL.out.b⟩
end
section
open Go.ChangeShapes Go.WideShapes Go.RowKit
theorem int_of_trod{H:Type}{enc:TypeId × Value→H}{P:Program}{w:World}{base:Nat}{sp:Nat→Bool}{held:Bool}{fuel:Nat}{t:TypeId}{k:IntKind}{c:Value}{y:DataW H × List MemPlace}
  (ht:P.underlying t=some (.int k))(h:DataW.trod enc P w base sp held fuel t [c]=some y):∃ n,c=.int k n∧y=(.lit (.int k n),[]):=by
 cases fuel with
 | zero=>simp [DataW.trod] at h
 | succ fuel=>
  cases c<;>simp [DataW.trod,ht] at h
  rename_i k' n;obtain⟨⟨rfl,_⟩,rfl⟩:=h
  exact⟨n,rfl,rfl⟩
theorem gdb: Tryz.prog.globalNamed "math/bits.deBruijn32tab" = some 1 := by kernel_rfl
theorem gdbType:(Tryz.prog.globals[1]?).map (·.type)=some 226:=by kernel_rfl
theorem cellsTab:Tryz.prog.cellsOf 226=32:=by kernel_rfl
theorem cellsU8:Tryz.prog.cellsOf 5=1:=by kernel_rfl
def tabCells:Array Value:=#[.int .u8 0,.int .u8 1,.int .u8 28,.int .u8 2,.int .u8 29,.int .u8 14,.int .u8 24,.int .u8 3,.int .u8 30,.int .u8 22,.int .u8 20,.int .u8 15,.int .u8 25,.int .u8 17,.int .u8 4,.int .u8 8,.int .u8 31,.int .u8 27,.int .u8 13,.int .u8 23,.int .u8 21,.int .u8 19,.int .u8 16,.int .u8 7,.int .u8 26,.int .u8 12,.int .u8 18,.int .u8 6,.int .u8 11,.int .u8 5,.int .u8 10,.int .u8 9]
theorem split32{l:List Value}(h:l.length=32):∃ c0 c1 c2 c3 c4 c5 c6 c7 c8 c9 c10 c11 c12 c13 c14 c15 c16 c17 c18 c19 c20 c21 c22 c23 c24 c25 c26 c27 c28 c29 c30 c31,l=[c0,c1,c2,c3,c4,c5,c6,c7,c8,c9,c10,c11,c12,c13,c14,c15,c16,c17,c18,c19,c20,c21,c22,c23,c24,c25,c26,c27,c28,c29,c30,c31]:=by
 match l,h with
 | [c0,c1,c2,c3,c4,c5,c6,c7,c8,c9,c10,c11,c12,c13,c14,c15,c16,c17,c18,c19,c20,c21,c22,c23,c24,c25,c26,c27,c28,c29,c30,c31],_=>exact⟨c0,c1,c2,c3,c4,c5,c6,c7,c8,c9,c10,c11,c12,c13,c14,c15,c16,c17,c18,c19,c20,c21,c22,c23,c24,c25,c26,c27,c28,c29,c30,c31,rfl⟩
set_option maxRecDepth 100000 in
theorem tab_trod{enc:TypeId × Value→Unit}{W:World}{fuel:Nat}{l:List Value}{p:List MemPlace}{b:Nat}{sp:Nat→Bool}{hd:Bool}(h:DataW.trod enc Tryz.prog W b sp hd fuel 226 l=some (Rows.laid_math_bits_deBruijn32tab,p)):l=tabCells.toList:=by
 cases fuel with
 | zero=>simp [DataW.trod] at h
 | succ fuel=>
 simp only [DataW.trod,Tryz.underlying226,cellsTab,cellsU8] at h
 split at h
 case isFalse=>cases h
 rename_i hl;obtain⟨c0,c1,c2,c3,c4,c5,c6,c7,c8,c9,c10,c11,c12,c13,c14,c15,c16,c17,c18,c19,c20,c21,c22,c23,c24,c25,c26,c27,c28,c29,c30,c31,rfl⟩:=split32 (by simpa using hl);have e:List.range 32=[0,1,2,3,4,5,6,7,8,9,10,11,12,13,14,15,16,17,18,19,20,21,22,23,24,25,26,27,28,29,30,31]:=rfl;rw [e] at h
 simp only [Option.map_eq_some_iff,List.mapM_cons,List.mapM_nil,Option.bind_eq_bind,Option.bind_eq_some_iff,Option.pure_def,Option.some.injEq] at h
 obtain⟨xs,⟨y0,h0,_,⟨y1,h1,_,⟨y2,h2,_,⟨y3,h3,_,⟨y4,h4,_,⟨y5,h5,_,⟨y6,h6,_,⟨y7,h7,_,⟨y8,h8,_,⟨y9,h9,_,⟨y10,h10,_,⟨y11,h11,_,⟨y12,h12,_,⟨y13,h13,_,⟨y14,h14,_,⟨y15,h15,_,⟨y16,h16,_,⟨y17,h17,_,⟨y18,h18,_,⟨y19,h19,_,⟨y20,h20,_,⟨y21,h21,_,⟨y22,h22,_,⟨y23,h23,_,⟨y24,h24,_,⟨y25,h25,_,⟨y26,h26,_,⟨y27,h27,_,⟨y28,h28,_,⟨y29,h29,_,⟨y30,h30,_,⟨y31,h31,_,rfl,rfl⟩,rfl⟩,rfl⟩,rfl⟩,rfl⟩,rfl⟩,rfl⟩,rfl⟩,rfl⟩,rfl⟩,rfl⟩,rfl⟩,rfl⟩,rfl⟩,rfl⟩,rfl⟩,rfl⟩,rfl⟩,rfl⟩,rfl⟩,rfl⟩,rfl⟩,rfl⟩,rfl⟩,rfl⟩,rfl⟩,rfl⟩,rfl⟩,rfl⟩,rfl⟩,rfl⟩,rfl⟩,hx⟩:=h;obtain⟨n0,rfl,rfl⟩:=int_of_trod Tryz.underlying5 h0;obtain⟨n1,rfl,rfl⟩:=int_of_trod Tryz.underlying5 h1;obtain⟨n2,rfl,rfl⟩:=int_of_trod Tryz.underlying5 h2;obtain⟨n3,rfl,rfl⟩:=int_of_trod Tryz.underlying5 h3;obtain⟨n4,rfl,rfl⟩:=int_of_trod Tryz.underlying5 h4;obtain⟨n5,rfl,rfl⟩:=int_of_trod Tryz.underlying5 h5;obtain⟨n6,rfl,rfl⟩:=int_of_trod Tryz.underlying5 h6;obtain⟨n7,rfl,rfl⟩:=int_of_trod Tryz.underlying5 h7;obtain⟨n8,rfl,rfl⟩:=int_of_trod Tryz.underlying5 h8;obtain⟨n9,rfl,rfl⟩:=int_of_trod Tryz.underlying5 h9;obtain⟨n10,rfl,rfl⟩:=int_of_trod Tryz.underlying5 h10;obtain⟨n11,rfl,rfl⟩:=int_of_trod Tryz.underlying5 h11;obtain⟨n12,rfl,rfl⟩:=int_of_trod Tryz.underlying5 h12;obtain⟨n13,rfl,rfl⟩:=int_of_trod Tryz.underlying5 h13;obtain⟨n14,rfl,rfl⟩:=int_of_trod Tryz.underlying5 h14;obtain⟨n15,rfl,rfl⟩:=int_of_trod Tryz.underlying5 h15;obtain⟨n16,rfl,rfl⟩:=int_of_trod Tryz.underlying5 h16;obtain⟨n17,rfl,rfl⟩:=int_of_trod Tryz.underlying5 h17;obtain⟨n18,rfl,rfl⟩:=int_of_trod Tryz.underlying5 h18
 obtain⟨n19,rfl,rfl⟩:=int_of_trod Tryz.underlying5 h19;obtain⟨n20,rfl,rfl⟩:=int_of_trod Tryz.underlying5 h20;obtain⟨n21,rfl,rfl⟩:=int_of_trod Tryz.underlying5 h21;obtain⟨n22,rfl,rfl⟩:=int_of_trod Tryz.underlying5 h22;obtain⟨n23,rfl,rfl⟩:=int_of_trod Tryz.underlying5 h23;obtain⟨n24,rfl,rfl⟩:=int_of_trod Tryz.underlying5 h24;obtain⟨n25,rfl,rfl⟩:=int_of_trod Tryz.underlying5 h25;obtain⟨n26,rfl,rfl⟩:=int_of_trod Tryz.underlying5 h26;obtain⟨n27,rfl,rfl⟩:=int_of_trod Tryz.underlying5 h27;obtain⟨n28,rfl,rfl⟩:=int_of_trod Tryz.underlying5 h28;obtain⟨n29,rfl,rfl⟩:=int_of_trod Tryz.underlying5 h29;obtain⟨n30,rfl,rfl⟩:=int_of_trod Tryz.underlying5 h30;obtain⟨n31,rfl,rfl⟩:=int_of_trod Tryz.underlying5 h31
 simp [Rows.laid_math_bits_deBruijn32tab] at hx
 obtain⟨⟨rfl,rfl,rfl,rfl,rfl,rfl,rfl,rfl,rfl,rfl,rfl,rfl,rfl,rfl,rfl,rfl,rfl,rfl,rfl,rfl,rfl,rfl,rfl,rfl,rfl,rfl,rfl,rfl,rfl,rfl,rfl,rfl⟩,_⟩:=hx
 rfl
theorem tab_of_laid{W : World}(h : laidMet Tryz.prog [("math/bits.deBruijn32tab", Rows.laid_math_bits_deBruijn32tab)] W): Tab W := by
 obtain⟨ps,⟨g,t,cs,fuel,p,q,hg,ht,hvar,hd,_,_⟩,_⟩:=h
 obtain rfl:=Option.some.inj (gdb.symm.trans hg)
 obtain rfl:=Option.some.inj (gdbType.symm.trans ht)
 have e:cs=tabCells:=by
  have:=tab_trod hd
  exact Array.ext' this
 subst e;intro j hj;rw [World.var?_cell hg hvar j]
 match j,hj with
 | 0,_=>rfl
 | 1,_=>rfl
 | 2,_=>rfl
 | 3,_=>rfl
 | 4,_=>rfl
 | 5,_=>rfl
 | 6,_=>rfl
 | 7,_=>rfl
 | 8,_=>rfl
 | 9,_=>rfl
 | 10,_=>rfl
 | 11,_=>rfl
 | 12,_=>rfl
 | 13,_=>rfl
 | 14,_=>rfl
 | 15,_=>rfl
 | 16,_=>rfl
 | 17,_=>rfl
 | 18,_=>rfl
 | 19,_=>rfl
 | 20,_=>rfl
 | 21,_=>rfl
 | 22,_=>rfl
 | 23,_=>rfl
 | 24,_=>rfl
 | 25,_=>rfl
 | 26,_=>rfl
 | 27,_=>rfl
 | 28,_=>rfl
 | 29,_=>rfl
 | 30,_=>rfl
 | 31,_=>rfl
 | k+32,hk=>omega
end
end Go.Proofs.YthlmlmfebpjgdaaGreatDoor
