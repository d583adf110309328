/-
Lemmas for the statement: Roo6T RptT.
-/
import Derived.Test.YthlmlmfebpjgdaaGreatDoorM11
import Derived.Test.YthlmlmfebpjgdaaGreatDoorPLessT
import Derived.Deep.DeepCutAuto
set_option linter.unusedSimpArgs false
set_option linter.unusedVariables false
set_option maxHeartbeats 12800000
namespace Go.Proofs.YthlmlmfebpjgdaaGreatDoor
section
open Go.RowKit
theorem ec_drop{i s1:Int}{x y:Rat}(h:es i≠0∨s1≠0):ec (es i) (ex i) s1 x=ec (es i) (ex i) s1 y:=by
 unfold ec
 by_cases h1:es i=s1
 ·rw [if_pos h1,if_pos h1,if_neg (by omega),if_neg (by omega)]
 ·rw [if_neg h1,if_neg h1]
theorem against_m(K nn:Nat)(hn0:0<nn)(hnn:nn≤1024)(q1:Rat)(i:Int)(s1:Int)(g1:Bool)(A1:Option Addr)(n1 c1:Nat)(B1:Option Addr)(m1 d1:Nat)(x1:Rat)(o1:Bool)(w:World)(hi:-(M:Int)≤i∧i≤M)(h1:RatV w K g1 (.slice A1 n1 c1) (.slice B1 m1 d1) x1)(hq1:Rtp nn x1 q1)(hK:34≤K)(hK2:K≤1048576):
  Calls Tryz.prog 208 #[.int .u64 (pat i:Int),.agg #[.int .i64 s1,.bool g1,.slice A1 n1 c1,.slice B1 m1 d1,.int .i64 (nn:Int),.bool o1]] w (Ag w (ec (es i) (ex i) s1 q1)):=by
 have hM:(M:Int)=9218868437227405312:=rfl
 by_cases h:i=M∨i=-(M:Int)
 ·rw [ec_drop (y:=x1) (.inl (by rcases h with rfl | rfl;rw [es_max];omega;rw [es_min];omega))]
  exact against_inf K i s1 g1 A1 n1 c1 B1 m1 d1 x1 o1 w h h1 hK hK2
 ·by_cases h0:s1=0
  ·subst h0;rw [es_mid (i:=i) (by omega) (by omega),ec_zero,ex_mid (by omega) (by omega)]
   exact against_n K nn hn0 hnn q1 i g1 A1 n1 c1 B1 m1 d1 x1 o1 w (by omega) h1 hq1 hK hK2
  ·rw [ec_drop (y:=x1) (.inr h0)]
   exact against_far K i s1 g1 A1 n1 c1 B1 m1 d1 x1 o1 w (by omega) h0 h1 hK hK2
theorem within_none_n(N1 N2:Int)(s1:Int)(g1:Bool)(A1:Option Addr)(n1 c1:Nat)(B1:Option Addr)(m1 d1:Nat)(x1:Rat)(s2:Int)(g2:Bool)(A2:Option Addr)(n2 c2:Nat)(B2:Option Addr)(m2 d2:Nat)(x2:Rat)(o1 o2:Bool)(w:World):
  Calls Tryz.prog 147 #[.agg #[.int .u64 9218868437227405312,.int .u64 18442240474082181120],.agg #[.bool false,.int .i64 s1,.bool g1,.slice A1 n1 c1,.slice B1 m1 d1,.int .i64 N1,.bool o1,.int .i64 s2,.bool g2,.slice A2 n2 c2,.slice B2 m2 d2,.int .i64 N2,.bool o2]] w fun e w'=>e=.returned (.agg #[.int .u64 9218868437227405312,.int .u64 18442240474082181120])∧Below w.heap.size w w':=by
 have HE:=Hd empty6;obtain⟨LB0,LG0_0,LG1_0,LR⟩:=bx3 w #[.int .u64 9218868437227405312,.int .u64 18442240474082181120] 24 #[.bool false,.int .i64 s1,.bool g1,.slice A1 n1 c1,.slice B1 m1 d1,.int .i64 N1,.bool o1,.int .i64 s2,.bool g2,.slice A2 n2 c2,.slice B2 m2 d2,.int .i64 N2,.bool o2] 84 #[.int .u64 0,.int .u64 0] 24;have LR0:=Hd (HasBlk.of (n:=2) LR.out rfl rfl);clear LR
 go_enter Tryz.func147,Tryz.ntmps147
 go_wp2_with fail;refine wp_region_held_drew (S:=fun W'=>Blk W' w.heap.size 24 #[.int .u64 9218868437227405312,.int .u64 18442240474082181120]∧Blk W' (w.heap.size+1) 84 #[.bool false,.int .i64 s1,.bool g1,.slice A1 n1 c1,.slice B1 m1 d1,.int .i64 N1,.bool o1,.int .i64 s2,.bool g2,.slice A2 n2 c2,.slice B2 m2 d2,.int .i64 N2,.bool o2]∧HasBlk W' (w.heap.size+2) 24 2∧Below w.heap.size w W') (by kernel_rfl) (by exact⟨LG0_0.out.drew,LG1_0.out.drew,LR0.out.drew,LB0.out.drew⟩) (fun hHeld=>?_);refine tk 0 ?_;(try simp only [Act.put,lay]);refine tk 1 ?_ (hv:=by intro W2 hSw;obtain⟨q0,q1,q2,q3,q4,q5,q6,q7,q8,q9,q10,q11,q12⟩:=hSw.2.1.c13;go_simp;(try with_reducible rfl));(try simp only [Act.put,lay]);refine tk 2 ?_;(try simp only [Act.put,lay]);refine tk 3 ?_ (hv:=by intro W2 hSw;obtain⟨q0,q1⟩:=hSw.1.c2;go_simp;(try with_reducible rfl));(try simp only [Act.put,lay]);refine rdy 4 (fun KK hKK=>?_);go_simp;refine (HE.out _).mono ?_;rintro e w1 ⟨rfl,hb1⟩;go_wp2_with fail;refine hKK.out _ _ (⟨hHeld.1.keep hb1,hHeld.2.1.keep hb1,hHeld.2.2.1.keep hb1,hHeld.2.2.2.trans (hb1.mono hHeld.2.2.2.size)⟩) (fun _=>?_);clear hKK KK hHeld;rename_i hHeld;(try simp only [Act.put,lay]);refine tk 5 ?_;(try simp only [Act.put,lay]);refine tk 6 ?_;(try simp only [Act.put,lay]);refine wpAnyH_done (by kernel_rfl) ?_ _;have LB1:=Hd hHeld.2.2.2;have LR1:=Hd hHeld.2.2.1;have LG0_1:=Hd hHeld.1;have LG1_1:=Hd hHeld.2.1;clear hHeld hb1 LB0 LR0 LG0_0 LG1_0;go_wp2_with fail;refine (HE.out _).mono ?_;rintro e w2 ⟨rfl,hb2⟩
 have LB2:=stB LB1 hb2 LB1.out.size;have LR2:=stR LR1 hb2;have LG0_2:=stG LG0_1 hb2;have LG1_2:=stG LG1_1 hb2;clear LB1 LR1 LG0_1 LG1_1;clear hb2;obtain⟨ha0,hf0,ha1,hf1⟩:=LR2.out.sf2;obtain⟨hk0,hk1⟩:=LR2.out.sc2 (.int .u64 9218868437227405312) (.int .u64 18442240474082181120);have F:=Hd (below_sets (w0:=w) (r:=(w.heap.size+2)) (by omega) [.int .u64 9218868437227405312,.int .u64 18442240474082181120] 0 _ LB2.out)
 simp [sets] at hk0 hk1
 go_wp2;refine bodyPost_ret (v:=.agg #[.int .u64 9218868437227405312,.int .u64 18442240474082181120]) (by simp [results,Tryz.results147,go_sem,hk0,hk1]) rfl ?_
 exact⟨rfl,F.out⟩
section
variable {w w':World} {K n:Nat} {o:Bool} {s1:Int} {g1:Bool} {A1:Option Addr} {n1 c1:Nat} {B1:Option Addr} {m1 d1:Nat} {N1:Int} {o1:Bool} {s2:Int} {g2:Bool} {A2:Option Addr} {n2 c2:Nat} {B2:Option Addr} {m2 d2:Nat} {N2:Int} {o2:Bool} {x1 x2 q1 q2:Rat} {F:Int→Int→Int × Int}
theorem pcw_n(hn:0<n)(hn2:n≤1024)(h1:RatV w K g1 (.slice A1 n1 c1) (.slice B1 m1 d1) x1)(h2:RatV w K g2 (.slice A2 n2 c2) (.slice B2 m2 d2) x2)(hq1:Rtp n x1 q1)(hq2:Rtp n x2 q2)(hK:34≤K)(hK2:K≤2000)(hs1:s1=0∨s1=-1)(hs2:s2=0∨s2=1)(hle:dn s1 q1≤up s2 q2):
  PcW w false s1 g1 A1 n1 c1 B1 m1 d1 n o1 s2 g2 A2 n2 c2 B2 m2 d2 n o2 (pf s1 q1 o1 s2 q2 o2):=by
 refine⟨pf_iv hs1 hs2 hle,fun W i j hW hij=>?_⟩
 rcases hij with h | ⟨rfl,rfl⟩
 ·unfold pf;rw [if_neg (by omega)];refine within_gen i j n n s1 g1 A1 n1 c1 B1 m1 d1 x1 s2 g2 A2 n2 c2 B2 m2 d2 x2 o1 o2 _ _ _ _ _ _ W (by omega) (fun W' hb=>?_) (fun W' hb=>?_) (fun W' hb=>?_) (fun W' hb=>?_) (fun W' hb _=>?_) (fun W' hb _=>?_)
  ·exact against_m K n hn hn2 q2 i s2 g2 A2 n2 c2 B2 m2 d2 x2 o2 W' (by omega) ((h2.below hW).below hb) hq2 hK (by omega)
  ·exact against_m K n hn hn2 q1 j s1 g1 A1 n1 c1 B1 m1 d1 x1 o1 W' (by omega) ((h1.below hW).below hb) hq1 hK (by omega)
  ·exact against_m K n hn hn2 q1 i s1 g1 A1 n1 c1 B1 m1 d1 x1 o1 W' (by omega) ((h1.below hW).below hb) hq1 hK (by omega)
  ·exact against_m K n hn hn2 q2 j s2 g2 A2 n2 c2 B2 m2 d2 x2 o2 W' (by omega) ((h2.below hW).below hb) hq2 hK (by omega)
  ·exact rounded_n K n (-1) s1 x1 q1 g1 A1 n1 c1 B1 m1 d1 o1 W' ((h1.below hW).below hb) hq1 hK2 hn hn2 (.inl rfl)
  ·exact rounded_n K n 1 s2 x2 q2 g2 A2 n2 c2 B2 m2 d2 o2 W' ((h2.below hW).below hb) hq2 hK2 hn hn2 (.inr rfl)
 ·have hM:M=9218868437227405312:=rfl;unfold pf;rw [if_pos (by omega),pat_max,pat_min]
  exact within_none_n n n s1 g1 A1 n1 c1 B1 m1 d1 x1 s2 g2 A2 n2 c2 B2 m2 d2 x2 o1 o2 W
theorem pcv_n(hn:0<n)(hn2:n≤1024)(h1:RatV w K g1 (.slice A1 n1 c1) (.slice B1 m1 d1) x1)(h2:RatV w K g2 (.slice A2 n2 c2) (.slice B2 m2 d2) x2)(hq1:Rtp n x1 q1)(hq2:Rtp n x2 q2)(hK:34≤K)(hK2:K≤2000)(hs1:s1=0∨s1=-1)(hs2:s2=0∨s2=1)(hle:dn s1 q1≤up s2 q2):
  PcV w false s1 g1 A1 n1 c1 B1 m1 d1 n o1 s2 g2 A2 n2 c2 B2 m2 d2 n o2 (pf s1 q1 o1 s2 q2 o2):=by
 refine⟨pcw_n hn hn2 h1 h2 hq1 hq2 hK hK2 hs1 hs2 hle,fun W hW=>?_⟩;refine (minusp_any K false s1 g1 A1 n1 c1 B1 m1 d1 x1 n o1 s2 g2 A2 n2 c2 B2 m2 d2 x2 n o2 W (h1.below hW) (h2.below hW) (by omega) (by omega) (by omega)).mono ?_;rintro e w' ⟨g5,A5,n5,c5,B5,m5,d5,g6,A6,n6,c6,B6,m6,d6,rfl,r1,r2,hbw⟩;refine⟨_,_,_,_,_,_,_,_,_,_,_,_,_,_,_,_,_,_,_,_,_,rfl,?_,hbw⟩
 have e:ngF (pf s1 q1 o1 s2 q2 o2)=pf (-s2) (-q2) o2 (-s1) (-q1) o1:=by
  funext i j;rw [pf_neg];rfl
 rw [e];refine pcw_n hn hn2 r1 r2 hq2.neg hq1.neg hK hK2 (by omega) (by omega) ?_;rw [dn_neg,up_neg];omega
def PcR(w:World)(n:Nat)(o:Bool)(s1:Int)(g1:Bool)(A1:Option Addr)(n1 c1:Nat)(B1:Option Addr)(m1 d1:Nat)(N1:Int)(o1:Bool)(s2:Int)(g2:Bool)(A2:Option Addr)(n2 c2:Nat)(B2:Option Addr)(m2 d2:Nat)(N2:Int)(o2:Bool)(F:Int→Int→Int × Int):Prop:=
 ∀ W,Below w.heap.size w W→Calls Tryz.prog 108 #[.agg #[.bool o,.int .i64 s1,.bool g1,.slice A1 n1 c1,.slice B1 m1 d1,.int .i64 N1,.bool o1,.int .i64 s2,.bool g2,.slice A2 n2 c2,.slice B2 m2 d2,.int .i64 N2,.bool o2],.int .i64 (n:Int)] W (NewPcV W F)
def NewPcR(w:World)(n:Nat)(F:Int→Int→Int × Int)(e:Ending)(w':World):Prop:=
 ∃ o s1 g1 A1 n1 c1 B1 m1 d1 N1 o1 s2 g2 A2 n2 c2 B2 m2 d2 N2 o2,
  e=.returned (.agg #[.bool o,.int .i64 s1,.bool g1,.slice A1 n1 c1,.slice B1 m1 d1,.int .i64 N1,.bool o1,.int .i64 s2,.bool g2,.slice A2 n2 c2,.slice B2 m2 d2,.int .i64 N2,.bool o2])∧PcR w' n o s1 g1 A1 n1 c1 B1 m1 d1 N1 o1 s2 g2 A2 n2 c2 B2 m2 d2 N2 o2 F∧Below w.heap.size w w'
theorem PcR.below(h:PcR w n o s1 g1 A1 n1 c1 B1 m1 d1 N1 o1 s2 g2 A2 n2 c2 B2 m2 d2 N2 o2 F)(hb:Below w.heap.size w w'):PcR w' n o s1 g1 A1 n1 c1 B1 m1 d1 N1 o1 s2 g2 A2 n2 c2 B2 m2 d2 N2 o2 F:=
 fun W hW=>h W (hb.trans (hW.mono hb.size))
end
set_option maxRecDepth 8000 in
theorem rooted_walk(n:Int)(o1:Bool)(s1 N1 s51 N51:Int)(p1 p51:Bool)(g1:Bool)(A1:Option Addr)(n1 c1:Nat)(B1:Option Addr)(m1 d1:Nat)(g51:Bool)(A51:Option Addr)(n51 c51:Nat)(B51:Option Addr)(m51 d51:Nat)(w:World):
  Calls Tryz.prog 108 #[.agg #[.bool o1,.int .i64 s1,.bool g1,.slice A1 n1 c1,.slice B1 m1 d1,.int .i64 N1,.bool p1,.int .i64 s51,.bool g51,.slice A51 n51 c51,.slice B51 m51 d51,.int .i64 N51,.bool p51],.int .i64 n] w fun e w'=>e=.returned (.agg #[.bool o1,.int .i64 s1,.bool g1,.slice A1 n1 c1,.slice B1 m1 d1,.int .i64 n,.bool p1,.int .i64 s51,.bool g51,.slice A51 n51 c51,.slice B51 m51 d51,.int .i64 n,.bool p51])∧Below w.heap.size w w':=by
 have HB:=Hd (show Below w.heap.size w ((w.alloc (.cells #[.bool o1,.int .i64 s1,.bool g1,.slice A1 n1 c1,.slice B1 m1 d1,.int .i64 n,.bool p1,.int .i64 s51,.bool g51,.slice A51 n51 c51,.slice B51 m51 d51,.int .i64 n,.bool p51] 84)).alloc (.cells #[.bool o1,.int .i64 s1,.bool g1,.slice A1 n1 c1,.slice B1 m1 d1,.int .i64 n,.bool p1,.int .i64 s51,.bool g51,.slice A51 n51 c51,.slice B51 m51 d51,.int .i64 n,.bool p51] 84)) from (below_alloc w _).alloc (by simp) _)
 go_enter Tryz.func108,Tryz.ntmps108
 go_wp2;refine bodyPost_ret (v:=.agg #[.bool o1,.int .i64 s1,.bool g1,.slice A1 n1 c1,.slice B1 m1 d1,.int .i64 n,.bool p1,.int .i64 s51,.bool g51,.slice A51 n51 c51,.slice B51 m51 d51,.int .i64 n,.bool p51]) (by simp [results,Tryz.results108,go_sem]) rfl ?_
 exact⟨rfl,HB.out⟩
section
variable {w w':World} {K n:Nat} {o:Bool} {s1:Int} {g1:Bool} {A1:Option Addr} {n1 c1:Nat} {B1:Option Addr} {m1 d1:Nat} {N1:Int} {o1:Bool} {s2:Int} {g2:Bool} {A2:Option Addr} {n2 c2:Nat} {B2:Option Addr} {m2 d2:Nat} {N2:Int} {o2:Bool} {x1 x2 q1 q2:Rat} {F:Int→Int→Int × Int}
theorem pcr_one(hn:0<n)(hn2:n≤1024)(h1:RatV w K g1 (.slice A1 n1 c1) (.slice B1 m1 d1) x1)(h2:RatV w K g2 (.slice A2 n2 c2) (.slice B2 m2 d2) x2)(hq1:Rtp n x1 q1)(hq2:Rtp n x2 q2)(hK:34≤K)(hK2:K≤2000)(hs1:s1=0∨s1=-1)(hs2:s2=0∨s2=1)(hle:dn s1 q1≤up s2 q2):
  PcR w n false s1 g1 A1 n1 c1 B1 m1 d1 N1 o1 s2 g2 A2 n2 c2 B2 m2 d2 N2 o2 (pf s1 q1 o1 s2 q2 o2):=by
 intro W hW;refine (rooted_walk n false s1 N1 s2 N2 o1 o2 g1 A1 n1 c1 B1 m1 d1 g2 A2 n2 c2 B2 m2 d2 W).mono ?_;rintro e w2 ⟨rfl,hb⟩
 exact⟨_,_,_,_,_,_,_,_,_,_,_,_,_,_,_,_,_,_,_,_,_,rfl,pcv_n hn hn2 ((h1.below hW).below hb) ((h2.below hW).below hb) hq1 hq2 hK hK2 hs1 hs2 hle,hb⟩
theorem pcr_nothing(h1:RatV w K g1 (.slice A1 n1 c1) (.slice B1 m1 d1) x1)(h2:RatV w K g2 (.slice A2 n2 c2) (.slice B2 m2 d2) x2)(hK2:K≤1048576)(hs1:-1≤s1∧s1≤1)(hs2:-1≤s2∧s2≤1):
  PcR w n true s1 g1 A1 n1 c1 B1 m1 d1 N1 o1 s2 g2 A2 n2 c2 B2 m2 d2 N2 o2 (fun _ _=>((M:Int),-(M:Int))):=by
 intro W hW;refine (rooted_walk n true s1 N1 s2 N2 o1 o2 g1 A1 n1 c1 B1 m1 d1 g2 A2 n2 c2 B2 m2 d2 W).mono ?_;rintro e w2 ⟨rfl,hb⟩
 exact⟨_,_,_,_,_,_,_,_,_,_,_,_,_,_,_,_,_,_,_,_,_,rfl,pcv_nothing ((h1.below hW).below hb) ((h2.below hW).below hb) hK2 hs1 hs2,hb⟩
theorem newPcR_one{e:Ending}(h:NewPiece w K false s1 x1 N1 o1 s2 x2 N2 o2 e w')(hn:0<n)(hn2:n≤1024)(hq1:Rtp n x1 q1)(hq2:Rtp n x2 q2)(hK:34≤K)(hK2:K≤2000)(hs1:s1=0∨s1=-1)(hs2:s2=0∨s2=1)(hle:dn s1 q1≤up s2 q2):
  NewPcR w n (pf s1 q1 o1 s2 q2 o2) e w':=by
 obtain⟨g,A,n,c,B,m,d,g',A',n',c',B',m',d',rfl,h1,h2,hb⟩:=h
 exact⟨_,_,_,_,_,_,_,_,_,_,_,_,_,_,_,_,_,_,_,_,_,rfl,pcr_one hn hn2 h1 h2 hq1 hq2 hK hK2 hs1 hs2 hle,hb⟩
theorem newPcR_nothing{e:Ending}(h:NewPiece w K true s1 x1 N1 o1 s2 x2 N2 o2 e w')(hK2:K≤1048576)(hs1:-1≤s1∧s1≤1)(hs2:-1≤s2∧s2≤1):NewPcR w n (fun _ _=>((M:Int),-(M:Int))) e w':=by
 obtain⟨g,A,n,c,B,m,d,g',A',n',c',B',m',d',rfl,h1,h2,hb⟩:=h
 exact⟨_,_,_,_,_,_,_,_,_,_,_,_,_,_,_,_,_,_,_,_,_,rfl,pcr_nothing h1 h2 hK2 hs1 hs2,hb⟩
end
set_option maxRecDepth 8000 in
theorem refpown_even(n f1 f2 x1 x2:Nat)(i2 j2 i4 j4:Int)(F1:Int→Int→Int × Int)(L:Nat→Int→Int→Int × Int)(w:World)(hn:0<n)(hn2:n≤1024)(hp:n % 2=0)(hx:x1<18446744073709551616)(hy:x2<18446744073709551616)(hO1:∀ W,Calls Tryz.prog 83 #[.agg #[.int .u64 (f1:Int),.int .u64 (f2:Int)]] W (NewSetI W i2 j2))(hW:∀ W v,SetOf W v i2 j2→Calls Tryz.prog 82 #[v] W (NewSetI W i4 j4))(hP:∀ W v,SetOf W v i4 j4→Calls Tryz.prog 80 #[v] W (NewPcR W n F1))(hL0:F1=L 0)(hL1:ngF F1=L 1):
  Calls Tryz.prog 40 #[.int .i64 (n:Int),.agg #[.int .u64 (f1:Int),.int .u64 (f2:Int)],.agg #[.int .u64 (x1:Int),.int .u64 (x2:Int)]] w fun e w'=>e=.returned (.agg #[.int .u64 (pat (zg (rd x1 x2).1 (rd x1 x2).2 L 2).1:Int),.int .u64 (pat (zg (rd x1 x2).1 (rd x1 x2).2 L 2).2:Int)])∧Below w.heap.size w w':=by
 have q0:¬ (n:Int) < -1024:=by omega
 have q1:¬ (1024:Int)<(n:Int):=by omega
 have q2:¬ (n:Int)=0:=by omega
 have q3:(0:Int)<(n:Int):=by omega
 have q4:((n:Int).tmod 2)=0:=by rw [Int.tmod_eq_emod_of_nonneg (by omega)];omega
 clear hn hn2 hp;have HO1:=Hd hO1;have HW:=Hd hW;have HP:=Hd hP;clear hO1 hW hP;have HL0:=Hd hL0;have HL1:=Hd hL1;clear hL0 hL1;have HA:=Hd fun W A c h1 h2 h3=>all_pcs x1 x2 A 2 c L W hx hy (by omega) h1 h2 h3
 obtain⟨r1,hr1⟩:∃ p,pat (zg (rd x1 x2).1 (rd x1 x2).2 L 2).1=p:=⟨_,rfl⟩
 obtain⟨r2,hr2⟩:∃ p,pat (zg (rd x1 x2).1 (rd x1 x2).2 L 2).2=p:=⟨_,rfl⟩
 rw [hr1,hr2] at HA ⊢;clear hr1 hr2 hx hy;have LL:=li3 w #[.int .u64 (f1:Int),.int .u64 (f2:Int)] 24 #[.int .u64 (x1:Int),.int .u64 (x2:Int)] 24 #[.int .u64 0,.int .u64 0] 24
 go_enter Tryz.func40,Tryz.ntmps40
 obtain⟨q1_0,q1_1⟩:=(LL.out.blk 0 rfl).c2;go_wp2_with fail;refine (HO1.out _).mono ?_;rintro e wk ⟨o2,s2,g2,A2,n2,c2,B2,m2,d2,s52,g52,A52,n52,c52,B52,m52,d52,rfl,hs2,hb⟩;replace LL:=stL LL hb;clear hb q1_0 q1_1;have HS2:=Hd hs2;clear hs2
 go_upto_region 4 with fail
 have hl_j7:=LL.out.lts;generalize hwn:World.alloc wk _=wn;replace HS2:=Hd (HS2.out.below (below_allocE hwn));replace LL:=Hd (LL.out.newE hwn)
 simp only [List.cons_append,List.nil_append] at LL
 simp only [List.mem_cons,List.not_mem_nil,or_false,forall_eq_or_imp,forall_eq,false_imp_iff,implies_true,and_true] at hl_j7
 clear hwn;generalize wk.heap.size=j7 at LL hl_j7 ⊢;clear HO1;obtain⟨q2_0,q2_1,q2_2,q2_3,q2_4,q2_5,q2_6,q2_7,q2_8⟩:=(LL.out.blk 3 rfl).c9;go_wp2_with fail;refine (HW.out _ _ HS2.out).mono ?_;rintro e wk ⟨o4,s4,g4,A4,n4,c4,B4,m4,d4,s54,g54,A54,n54,c54,B54,m54,d54,rfl,hs4,hb⟩;replace LL:=stL LL hb;replace HS2:=Hd (HS2.out.below hb);clear hb q2_0 q2_1 q2_2 q2_3 q2_4 q2_5 q2_6 q2_7 q2_8;have HS4:=Hd hs4;clear hs4;go_wp2_with fail;refine (HP.out _ _ HS4.out).mono ?_;rintro e wk ⟨o21,s21,g21,A21,n21,c21,B21,m21,d21,N21,p21,s71,g71,A71,n71,c71,B71,m71,d71,N71,p71,rfl,hp21,hb⟩;replace LL:=stL LL hb;replace HS2:=Hd (HS2.out.below hb);replace HS4:=Hd (HS4.out.below hb);clear hb;have HP21:=Hd hp21;clear hp21;go_wp2_with fail;refine (HP21.out _ (Below.refl _ _)).mono ?_;rintro e wk ⟨o22,s22,g22,A22,n22,c22,B22,m22,d22,N22,p22,s72,g72,A72,n72,c72,B72,m72,d72,N72,p72,rfl,hp22,hb⟩;replace LL:=stL LL hb;replace HS2:=Hd (HS2.out.below hb);replace HS4:=Hd (HS4.out.below hb);replace HP21:=Hd (HP21.out.below hb);clear hb;have HP22:=Hd hp22;clear hp22;clear HS2 HS4 HP21
 go_upto_region 12 with fail
 have hl_j8:=LL.out.lts;generalize hwn:World.alloc wk _=wn;replace HP22:=Hd (HP22.out.below (below_allocE hwn));replace LL:=Hd (LL.out.newE hwn)
 simp only [List.cons_append,List.nil_append] at LL
 simp only [List.mem_cons,List.not_mem_nil,or_false,forall_eq_or_imp,forall_eq,false_imp_iff,implies_true,and_true] at hl_j8
 clear hwn;generalize wk.heap.size=j8 at LL hl_j8 ⊢;replace LL:=Hd (LL.out.loose 2 rfl rfl)
 simp only [List.eraseIdx,List.size_toArray,List.length_cons,List.length_nil,Nat.zero_add,Nat.reduceAdd] at LL
 refine regL LL (fun hHeld=>?_);clear LL;replace HP22:=Hd (HP22.out.below (Below.refl _ _).drew);generalize World.drew _=wk at hHeld HP22 ⊢;refine tk 0 ?_ (hv:=by intro W2 hSw;obtain⟨q0,q1⟩:=(hSw.blk 1 rfl).c2;go_simp;(try with_reducible rfl));(try simp only [Act.put,lay]);refine tk 1 ?_ (hv:=by intro W2 hSw;obtain⟨q0,q1,q2,q3,q4,q5,q6,q7,q8,q9,q10,q11,q12⟩:=(hSw.blk 3 rfl).c13;go_simp;(try with_reducible rfl));(try simp only [Act.put,lay]);refine tk 2 ?_ (hv:=by intro W2 hSw;obtain⟨q0,q1,q2,q3,q4,q5,q6,q7,q8,q9,q10,q11,q12⟩:=(hSw.blk 3 rfl).c13;go_simp;(try with_reducible rfl));(try simp only [Act.put,lay]);refine rdy 3 (fun KK hKK=>?_);go_simp;refine (HP22.out.2 _ (Below.refl _ _)).mono ?_;rintro e wk ⟨o23,s23,g23,A23,n23,c23,B23,m23,d23,N23,p23,s73,g73,A73,n73,c73,B73,m73,d73,N73,p73,rfl,hp23,hb1⟩;go_wp2_with fail;refine hKK.out _ _ (hHeld.keep hb1) (fun _=>?_);clear hKK KK hHeld;rename_i hHeld;(try simp only [Act.put,lay]);(try replace HP22:=Hd (HP22.out.below hb1));have HP23:=Hd hp23;clear hp23;clear hb1;refine rdy 4 (fun KK hKK=>?_);go_simp;have hl_js:=hHeld.lts;refine hKK.out _ _ (hHeld.alloc _) (fun _=>?_);clear hKK KK hHeld;rename_i hHeld;(try simp only [Act.put,lay]);generalize hwn:World.alloc wk _=wn at hHeld ⊢;have B_js:=Blk.newE hwn;(try replace HP22:=Hd (HP22.out.below (below_allocE hwn)));(try replace HP23:=Hd (HP23.out.below (below_allocE hwn)))
 simp only [List.mem_cons,List.not_mem_nil,or_false,forall_eq_or_imp,forall_eq,false_imp_iff,implies_true,and_true] at hl_js
 clear hwn;generalize wk.heap.size=js at B_js hl_js ⊢
 obtain⟨wk,rfl⟩:∃ X,X=wn:=⟨_,rfl⟩
 refine rdy 5 (fun KK hKK=>?_);go_simp;refine (HA.out _ _ _ (Nat.le_refl _) (fun h=>absurd h (by omega)) (fun k hk=>⟨_,rfl,by match k,hk with | 0,_=>exact HL0.out ▸ PcG.at B_js 0 (HP22.out.1) ⟨rfl,rfl,rfl,rfl,rfl,rfl,rfl,rfl,rfl,rfl,rfl,rfl,rfl⟩ | 1,_=>exact HL1.out ▸ PcG.at B_js 1 (HP23.out) ⟨rfl,rfl,rfl,rfl,rfl,rfl,rfl,rfl,rfl,rfl,rfl,rfl,rfl⟩⟩)).mono ?_;rintro e wk ⟨rfl,hb2⟩;go_wp2_with fail;refine hKK.out _ _ (hHeld.keep hb2) (fun _=>?_);clear hKK KK hHeld;rename_i hHeld;(try simp only [Act.put,lay]);(try replace HP22:=Hd (HP22.out.below hb2));(try replace HP23:=Hd (HP23.out.below hb2));clear hb2;refine rdy 6 (fun KK hKK=>?_);obtain⟨ha0,hf0,ha1,hf1⟩:=(hHeld.has 0 rfl).sf2;obtain⟨csx,hbx,-,hcx⟩:=hHeld.has 0 rfl;(try clear HP22);(try clear HP23);clear hbx hcx;go_simp;have HS_0:=(hHeld.has 0 rfl).laid [.int .u64 (r1:Int),.int .u64 (r2:Int)] rfl;refine hKK.out _ _ (hHeld.over 0 rfl [.int .u64 (r1:Int),.int .u64 (r2:Int)] rfl rfl (by first | omega | exact hHeld.le_of 0 rfl) (by simp<;>omega) (by simp<;>omega)) (fun _=>?_);clear hKK KK hHeld;rename_i hHeld;(try simp only [Act.put,lay]);refine wpAnyH_done (by kernel_rfl) ?_ _;have LB:=Hd hHeld.b;clear hHeld;obtain⟨hk6_0,hk6_1⟩:=HS_0.c2;clear HS_0
 simp [sets] at hk6_0 hk6_1
 go_wp2;refine bodyPost_ret (v:=.agg #[.int .u64 (r1:Int),.int .u64 (r2:Int)]) (by simp [results,Tryz.results40,go_sem,hk6_0,hk6_1]) rfl ?_
 exact⟨rfl,LB.out⟩
end
section
open Go.RowKit
def PcT(w:World)(o:Bool)(s1:Int)(g1:Bool)(A1:Option Addr)(n1 c1:Nat)(B1:Option Addr)(m1 d1:Nat)(N1:Int)(o1:Bool)(s2:Int)(g2:Bool)(A2:Option Addr)(n2 c2:Nat)(B2:Option Addr)(m2 d2:Nat)(N2:Int)(o2:Bool)(F:Int→Int→Int × Int):Prop:=
 ∃ (K:Nat) (x1 x2:Rat),RatV w K g1 (.slice A1 n1 c1) (.slice B1 m1 d1) x1∧RatV w K g2 (.slice A2 n2 c2) (.slice B2 m2 d2) x2 ∧
  ∀ W,RatV W K g1 (.slice A1 n1 c1) (.slice B1 m1 d1) x1→RatV W K g2 (.slice A2 n2 c2) (.slice B2 m2 d2) x2→PcV W o s1 g1 A1 n1 c1 B1 m1 d1 N1 o1 s2 g2 A2 n2 c2 B2 m2 d2 N2 o2 F
def NewPcT(w:World)(F:Int→Int→Int × Int)(e:Ending)(w':World):Prop:=
 ∃ o s1 g1 A1 n1 c1 B1 m1 d1 N1 o1 s2 g2 A2 n2 c2 B2 m2 d2 N2 o2,e=.returned (.agg #[.bool o,.int .i64 s1,.bool g1,.slice A1 n1 c1,.slice B1 m1 d1,.int .i64 N1,.bool o1,.int .i64 s2,.bool g2,.slice A2 n2 c2,.slice B2 m2 d2,.int .i64 N2,.bool o2])∧PcT w' o s1 g1 A1 n1 c1 B1 m1 d1 N1 o1 s2 g2 A2 n2 c2 B2 m2 d2 N2 o2 F∧Below w.heap.size w w'
def PcX(w:World)(n:Nat)(o:Bool)(s1:Int)(g1:Bool)(A1:Option Addr)(n1 c1:Nat)(B1:Option Addr)(m1 d1:Nat)(N1:Int)(o1:Bool)(s2:Int)(g2:Bool)(A2:Option Addr)(n2 c2:Nat)(B2:Option Addr)(m2 d2:Nat)(N2:Int)(o2:Bool)(F:Int→Int→Int × Int):Prop:=
 ∀ W,Below w.heap.size w W→Calls Tryz.prog 108 #[.agg #[.bool o,.int .i64 s1,.bool g1,.slice A1 n1 c1,.slice B1 m1 d1,.int .i64 N1,.bool o1,.int .i64 s2,.bool g2,.slice A2 n2 c2,.slice B2 m2 d2,.int .i64 N2,.bool o2],.int .i64 (n:Int)] W (NewPcT W F)
def NewPcX(w:World)(n:Nat)(F:Int→Int→Int × Int)(e:Ending)(w':World):Prop:=
 ∃ o s1 g1 A1 n1 c1 B1 m1 d1 N1 o1 s2 g2 A2 n2 c2 B2 m2 d2 N2 o2,e=.returned (.agg #[.bool o,.int .i64 s1,.bool g1,.slice A1 n1 c1,.slice B1 m1 d1,.int .i64 N1,.bool o1,.int .i64 s2,.bool g2,.slice A2 n2 c2,.slice B2 m2 d2,.int .i64 N2,.bool o2])∧PcX w' n o s1 g1 A1 n1 c1 B1 m1 d1 N1 o1 s2 g2 A2 n2 c2 B2 m2 d2 N2 o2 F∧Below w.heap.size w w'
section
variable {w w':World} {K n:Nat} {o:Bool} {s1:Int} {g1:Bool} {A1:Option Addr} {n1 c1:Nat} {B1:Option Addr} {m1 d1:Nat} {N1:Int} {o1:Bool} {s2:Int} {g2:Bool} {A2:Option Addr} {n2 c2:Nat} {B2:Option Addr} {m2 d2:Nat} {N2:Int} {o2:Bool} {x1 x2 q1 q2:Rat} {F:Int→Int→Int × Int}
theorem PcT.below(h:PcT w o s1 g1 A1 n1 c1 B1 m1 d1 N1 o1 s2 g2 A2 n2 c2 B2 m2 d2 N2 o2 F)(hb:Below w.heap.size w w'):PcT w' o s1 g1 A1 n1 c1 B1 m1 d1 N1 o1 s2 g2 A2 n2 c2 B2 m2 d2 N2 o2 F:=by
 obtain⟨K,x1,x2,h1,h2,h3⟩:=h
 exact⟨K,x1,x2,h1.below hb,h2.below hb,h3⟩
theorem PcT.sets(h:PcT w o s1 g1 A1 n1 c1 B1 m1 d1 N1 o1 s2 g2 A2 n2 c2 B2 m2 d2 N2 o2 F){g:Nat}{t:TypeId}{cs:Array Value}(hb:Blk w g t cs)(hc:NoWd cs)(k:Nat)(vs:List Value):PcT (Go.Proofs.YthlmlmfebpjgdaaGreatDoor.sets w g k vs) o s1 g1 A1 n1 c1 B1 m1 d1 N1 o1 s2 g2 A2 n2 c2 B2 m2 d2 N2 o2 F:=by
 obtain⟨K,x1,x2,h1,h2,h3⟩:=h
 exact⟨K,x1,x2,h1.sets hb hc k vs,h2.sets hb hc k vs,h3⟩
theorem PcT.setsE(h:PcT w o s1 g1 A1 n1 c1 B1 m1 d1 N1 o1 s2 g2 A2 n2 c2 B2 m2 d2 N2 o2 F){g:Nat}{t:TypeId}{cs:Array Value}{k:Nat}{vs:List Value}(hb:Blk w g t cs)(hc:NoWd cs)(e:Go.Proofs.YthlmlmfebpjgdaaGreatDoor.sets w g k vs=w'):PcT w' o s1 g1 A1 n1 c1 B1 m1 d1 N1 o1 s2 g2 A2 n2 c2 B2 m2 d2 N2 o2 F:=e ▸ h.sets hb hc k vs
theorem PcT.v(h:PcT w o s1 g1 A1 n1 c1 B1 m1 d1 N1 o1 s2 g2 A2 n2 c2 B2 m2 d2 N2 o2 F):PcV w o s1 g1 A1 n1 c1 B1 m1 d1 N1 o1 s2 g2 A2 n2 c2 B2 m2 d2 N2 o2 F:=by
 obtain⟨K,x1,x2,h1,h2,h3⟩:=h
 exact h3 w h1 h2
theorem PcX.below(h:PcX w n o s1 g1 A1 n1 c1 B1 m1 d1 N1 o1 s2 g2 A2 n2 c2 B2 m2 d2 N2 o2 F)(hb:Below w.heap.size w w'):PcX w' n o s1 g1 A1 n1 c1 B1 m1 d1 N1 o1 s2 g2 A2 n2 c2 B2 m2 d2 N2 o2 F:=
 fun W hW=>h W (hb.trans (hW.mono hb.size))
theorem newPcX_one{e:Ending}(h:NewPiece w K false s1 x1 N1 o1 s2 x2 N2 o2 e w')(hn:0<n)(hn2:n≤1024)(hq1:Rtp n x1 q1)(hq2:Rtp n x2 q2)(hK:34≤K)(hK2:K≤2000)(hs1:s1=0∨s1=-1)(hs2:s2=0∨s2=1)(hle:dn s1 q1≤up s2 q2):
  NewPcX w n (pf s1 q1 o1 s2 q2 o2) e w':=by
 obtain⟨g,A,n0,c,B,m,d,g',A',n',c',B',m',d',rfl,h1,h2,hb⟩:=h;refine⟨_,_,_,_,_,_,_,_,_,_,_,_,_,_,_,_,_,_,_,_,_,rfl,fun W hW=>?_,hb⟩;refine (rooted_walk n false s1 N1 s2 N2 o1 o2 g A n0 c B m d g' A' n' c' B' m' d' W).mono ?_;rintro e w2 ⟨rfl,hb⟩
 exact⟨_,_,_,_,_,_,_,_,_,_,_,_,_,_,_,_,_,_,_,_,_,rfl,⟨K,x1,x2,(h1.below hW).below hb,(h2.below hW).below hb,fun W k1 k2=>pcv_n hn hn2 k1 k2 hq1 hq2 hK hK2 hs1 hs2 hle⟩,hb⟩
theorem newPcX_nothing{e:Ending}(h:NewPiece w K true s1 x1 N1 o1 s2 x2 N2 o2 e w')(hK2:K≤1048576)(hs1:-1≤s1∧s1≤1)(hs2:-1≤s2∧s2≤1):NewPcX w n (fun _ _=>((M:Int),-(M:Int))) e w':=by
 obtain⟨g,A,n0,c,B,m,d,g',A',n',c',B',m',d',rfl,h1,h2,hb⟩:=h;refine⟨_,_,_,_,_,_,_,_,_,_,_,_,_,_,_,_,_,_,_,_,_,rfl,fun W hW=>?_,hb⟩;refine (rooted_walk n true s1 N1 s2 N2 o1 o2 g A n0 c B m d g' A' n' c' B' m' d' W).mono ?_;rintro e w2 ⟨rfl,hb⟩
 exact⟨_,_,_,_,_,_,_,_,_,_,_,_,_,_,_,_,_,_,_,_,_,rfl,⟨K,x1,x2,(h1.below hW).below hb,(h2.below hW).below hb,fun W k1 k2=>pcv_nothing k1 k2 hK2 hs1 hs2⟩,hb⟩
end
end
end Go.Proofs.YthlmlmfebpjgdaaGreatDoor
