/-
Lemmas for the statement: LessT Es2P PtInfT FmaT MuT Pv0T None6T LowT LowR AllnT AllpT.
-/
import Derived.Test.YthlmlmfebpjgdaaGreatDoorM03
import Derived.Test.YthlmlmfebpjgdaaGreatDoorPNwT
import Derived.Test.YthlmlmfebpjgdaaGreatDoorM06
import Derived.Test.YthlmlmfebpjgdaaGreatDoorM20
import Derived.Laws.FloatArith
import Derived.Test.YthlmlmfebpjgdaaGreatDoorPCut2T
import Derived.Test.YthlmlmfebpjgdaaGreatDoorM24
import Derived.Test.YthlmlmfebpjgdaaGreatDoorM13
import Derived.Test.YthlmlmfebpjgdaaGreatDoorM12
import Derived.Test.YthlmlmfebpjgdaaGreatDoorM10
import Derived.Deep.DeepCutAuto
set_option linter.unusedSimpArgs false
set_option linter.unusedVariables false
set_option maxHeartbeats 12800000
namespace Go.Proofs.YthlmlmfebpjgdaaGreatDoor
section
open Go.RowKit
attribute [local go_sem] run_store_float run_negf
end
section
open Go.RowKit
end
section
open Go.RowKit
attribute [local go_sem] run_store_float run_negf
end
section
open Go.RowKit
attribute [local go_sem] run_store_float
end
section
open Go.RowKit
theorem rc_neg2(x y:Rat):rc (-x) (-y)=- rc x y:=by
 unfold rc
 by_cases h:x<y
 ·have h1:¬ -x < -y:=by grind
  have h2:-y < -x:=by grind
  rw [if_neg h1,if_pos h2,if_pos h];rfl
 ·by_cases h':y<x
  ·have h1:-x < -y:=by grind
   rw [if_pos h1,if_neg h,if_pos h']
  ·have h1:¬ -x < -y:=by grind
   have h2:¬ -y < -x:=by grind
   rw [if_neg h1,if_neg h2,if_neg h,if_neg h'];rfl
theorem ec_neg2(s:Int)(x:Rat)(t:Int)(y:Rat):ec (-s) (-x) (-t) (-y)=- ec s x t y:=by
 unfold ec
 by_cases h:s=t
 ·subst h;rw [if_pos rfl,if_pos rfl,rc_neg2]
  by_cases h0:s=0
  ·subst h0;simp
  ·rw [if_neg (by omega),if_neg h0];rfl
 ·rw [if_neg (show ¬ -s=-t by omega),if_neg h]
  by_cases h2:s<t
  ·rw [if_neg (show ¬ -s < -t by omega),if_pos h2];rfl
  ·rw [if_pos (show -s < -t by omega),if_neg h2]
theorem ec_turn(i t:Int)(y:Rat):ec (es i) (ex i) (-t) (-y)=- ec (es (-i)) (ex (-i)) t y:=by
 have h:=ec_neg2 (es (-i)) (ex (-i)) t y;rw [es_neg,ex_neg,Int.neg_neg,Rat.neg_neg] at h;rw [h,es_neg,ex_neg]
theorem pf_neg(sa:Int)(xa:Rat)(oa:Bool)(sb:Int)(xb:Rat)(ob:Bool)(i j:Int):
  pf (-sb) (-xb) ob (-sa) (-xa) oa i j=(-(pf sa xa oa sb xb ob (-j) (-i)).2,-(pf sa xa oa sb xb ob (-j) (-i)).1):=by
 have a:=rndI_neg (d:=1) (.inr rfl) xb;have b:=rndI_neg (d:=-1) (.inl rfl) xa;rw [show (-(1:Int))=-1 from rfl] at a;rw [show (- -1:Int)=1 from rfl] at b;unfold pf
 by_cases hji:j<i
 ·rw [if_pos hji,if_pos (show -i < -j by omega)];simp
 ·rw [if_neg hji,if_neg (show ¬ -i < -j by omega),ec_turn,ec_turn,ec_turn,ec_turn,a,b];unfold wg
  obtain⟨c1,h1⟩:∃ z,ec (es (-i)) (ex (-i)) sa xa=z:=⟨_,rfl⟩
  obtain⟨c2,h2⟩:∃ z,ec (es (-j)) (ex (-j)) sb xb=z:=⟨_,rfl⟩
  obtain⟨c3,h3⟩:∃ z,ec (es (-i)) (ex (-i)) sb xb=z:=⟨_,rfl⟩
  obtain⟨c4,h4⟩:∃ z,ec (es (-j)) (ex (-j)) sa xa=z:=⟨_,rfl⟩
  rw [h1,h2,h3,h4]
  by_cases hc:0<c2∨(c2=0∧ob=true)∨c1<0∨(c1=0∧oa=true)
  ·rw [if_pos hc,if_pos (by rcases hc with h | ⟨h,o⟩ | h | ⟨h,o⟩;exact .inr (.inr (.inl (by omega)));exact .inr (.inr (.inr ⟨by omega,o⟩));exact .inl (by omega);exact .inr (.inl ⟨by omega,o⟩))]
   simp
  ·rw [if_neg hc,if_neg (by rintro (h | ⟨h,o⟩ | h | ⟨h,o⟩);exact hc (.inr (.inr (.inl (by omega))));exact hc (.inr (.inr (.inr ⟨by omega,o⟩)));exact hc (.inl (by omega));exact hc (.inr (.inl ⟨by omega,o⟩)))]
   by_cases k1:c3≤0<;>by_cases k2:0≤c4
   ·rw [if_neg (by omega),if_neg (by omega),if_neg (by omega),if_neg (by omega)];simp
   ·rw [if_neg (show ¬ -c3<0 by omega),if_pos (show 0 < -c4 by omega),if_pos (show c4<0 by omega),if_neg (show ¬ 0<c3 by omega)];simp
   ·rw [if_pos (show -c3<0 by omega),if_neg (show ¬ 0 < -c4 by omega),if_neg (show ¬ c4<0 by omega),if_pos (show 0<c3 by omega)];simp
   ·rw [if_pos (show -c3<0 by omega),if_pos (show 0 < -c4 by omega),if_pos (show c4<0 by omega),if_pos (show 0<c3 by omega)]
structure NumOk (s1:Int) (x1:Rat) (s2:Int) (x2:Rat):Prop where
 a1:s1=0∨s1=-1
 a2:s1≠0→x1=0
 b1:s2=0∨s2=1
 b2:s2≠0→x2=0
 le:s1=0→s2=0→x1≤x2
def PF(b1 b2:Int)(s1:Int)(x1:Rat)(s2:Int)(x2:Rat)(i j:Int):Int × Int:=
 if b2≤0 then ((M:Int),-(M:Int)) else pf (qA s1 x1 b1 b2).1 (qA s1 x1 b1 b2).2.1 (qA s1 x1 b1 b2).2.2 (qB s2 x2 b1 b2).1 (qB s2 x2 b1 b2).2.1 (qB s2 x2 b1 b2).2.2 i j
def fa(b1 b2:Int)(s1:Int)(x1:Rat)(s2:Int)(x2:Rat)(i j:Int):Int × Int:=
 if (b1≤0∧0≤b2)∧esx s1 x1≤0∧0≤esx s2 x2 then (i,j)
 else (min (PF b1 b2 s1 x1 s2 x2 i j).1 (-(PF (-b2) (-b1) s1 x1 s2 x2 (-j) (-i)).2),max (PF b1 b2 s1 x1 s2 x2 i j).2 (-(PF (-b2) (-b1) s1 x1 s2 x2 (-j) (-i)).1))
end
section
open Go.RowKit
def NewPcF(w:World)(F:Int→Int→Int × Int)(e:Ending)(w':World):Prop:=
 ∃ o s1 g1 A1 n1 c1 B1 m1 d1 N1 o1 s2 g2 A2 n2 c2 B2 m2 d2 N2 o2,
  e=.returned (.agg #[.bool o,.int .i64 s1,.bool g1,.slice A1 n1 c1,.slice B1 m1 d1,.int .i64 N1,.bool o1,.int .i64 s2,.bool g2,.slice A2 n2 c2,.slice B2 m2 d2,.int .i64 N2,.bool o2])∧PcW w' o s1 g1 A1 n1 c1 B1 m1 d1 N1 o1 s2 g2 A2 n2 c2 B2 m2 d2 N2 o2 F∧Below w.heap.size w w'
theorem esx_idx{i:Int}(h:-(M:Int)≤i∧i≤M):(0<esx (es i) (ex i)↔0<i)∧(esx (es i) (ex i)<0↔i<0):=by
 have hM:(M:Int)=9218868437227405312:=rfl
 by_cases h1:i=M
 ·subst h1;rw [es_max];unfold esx;rw [if_pos (by omega)];omega
 ·by_cases h2:i=-(M:Int)
  ·subst h2;rw [es_min];unfold esx;rw [if_pos (by omega)];omega
  ·rw [es_mid (by omega) (by omega),ex_mid (by omega) (by omega)];unfold esx rsg;rw [if_neg (by omega)]
   rcases Int.lt_trichotomy i 0 with h3 | h3 | h3
   ·have:=fl_lt_iff.2 h3;rw [fl_zero] at this;rw [if_neg (by grind),if_pos this];omega
   ·subst h3;rw [fl_zero];simp
   ·have:=fl_pos h3;rw [if_neg (by grind),if_neg (by grind)];omega
theorem up_end{b:Int}(h:-(M:Int)≤b∧b≤M):(if 0<ec 0 0 (es b) (ex b) then 0 else es b)=es (max b 0)∧(if 0<ec 0 0 (es b) (ex b) then 0 else ex b)=ex (max b 0):=by
 have hM:(M:Int)=9218868437227405312:=rfl;have k:=ec_sel_hi (i:=b) (i':=0) h (by omega);rw [es_nought,ex_nought] at k
 exact k
theorem NewPiece.up{w w':World}{K K':Nat}{o:Bool}{s:Int}{x:Rat}{N:Int}{p:Bool}{s':Int}{x':Rat}{N':Int}{p':Bool}{e:Ending}(h:NewPiece w K o s x N p s' x' N' p' e w')(hk:K≤K'):NewPiece w K' o s x N p s' x' N' p' e w':=by
 obtain⟨g,A,n,c,B,m,d,g',A',n',c',B',m',d',rfl,h1,h2,hb⟩:=h
 exact⟨g,A,n,c,B,m,d,g',A',n',c',B',m',d',rfl,h1.mono hk,h2.mono hk,hb⟩
def ngF(F:Int→Int→Int × Int):Int→Int→Int × Int:=fun i j=>(-(F (-j) (-i)).2,-(F (-j) (-i)).1)
def PcV(w:World)(o:Bool)(s1:Int)(g1:Bool)(A1:Option Addr)(n1 c1:Nat)(B1:Option Addr)(m1 d1:Nat)(N1:Int)(o1:Bool)(s2:Int)(g2:Bool)(A2:Option Addr)(n2 c2:Nat)(B2:Option Addr)(m2 d2:Nat)(N2:Int)(o2:Bool)(F:Int→Int→Int × Int):Prop:=
 PcW w o s1 g1 A1 n1 c1 B1 m1 d1 N1 o1 s2 g2 A2 n2 c2 B2 m2 d2 N2 o2 F∧∀ W,Below w.heap.size w W →
  Calls Tryz.prog 109 #[.agg #[.bool o,.int .i64 s1,.bool g1,.slice A1 n1 c1,.slice B1 m1 d1,.int .i64 N1,.bool o1,.int .i64 s2,.bool g2,.slice A2 n2 c2,.slice B2 m2 d2,.int .i64 N2,.bool o2]] W (NewPcF W (ngF F))
def NewPcV(w:World)(F:Int→Int→Int × Int)(e:Ending)(w':World):Prop:=
 ∃ o s1 g1 A1 n1 c1 B1 m1 d1 N1 o1 s2 g2 A2 n2 c2 B2 m2 d2 N2 o2,
  e=.returned (.agg #[.bool o,.int .i64 s1,.bool g1,.slice A1 n1 c1,.slice B1 m1 d1,.int .i64 N1,.bool o1,.int .i64 s2,.bool g2,.slice A2 n2 c2,.slice B2 m2 d2,.int .i64 N2,.bool o2])∧PcV w' o s1 g1 A1 n1 c1 B1 m1 d1 N1 o1 s2 g2 A2 n2 c2 B2 m2 d2 N2 o2 F∧Below w.heap.size w w'
section
variable {w w':World} {K:Nat} {o:Bool} {s1:Int} {g1:Bool} {A1:Option Addr} {n1 c1:Nat} {B1:Option Addr} {m1 d1:Nat} {N1:Int} {o1:Bool} {s2:Int} {g2:Bool} {A2:Option Addr} {n2 c2:Nat} {B2:Option Addr} {m2 d2:Nat} {N2:Int} {o2:Bool} {x1 x2:Rat} {F:Int→Int→Int × Int}
theorem PcV.below(h:PcV w o s1 g1 A1 n1 c1 B1 m1 d1 N1 o1 s2 g2 A2 n2 c2 B2 m2 d2 N2 o2 F)(hb:Below w.heap.size w w'):PcV w' o s1 g1 A1 n1 c1 B1 m1 d1 N1 o1 s2 g2 A2 n2 c2 B2 m2 d2 N2 o2 F:=
 ⟨h.1.below hb,fun W hW=>h.2 W (hb.trans (hW.mono hb.size))⟩
theorem pcv_nothing(h1:RatV w K g1 (.slice A1 n1 c1) (.slice B1 m1 d1) x1)(h2:RatV w K g2 (.slice A2 n2 c2) (.slice B2 m2 d2) x2)(hK2:K≤1048576)(hs1:-1≤s1∧s1≤1)(hs2:-1≤s2∧s2≤1):
  PcV w true s1 g1 A1 n1 c1 B1 m1 d1 N1 o1 s2 g2 A2 n2 c2 B2 m2 d2 N2 o2 (fun _ _=>((M:Int),-(M:Int))):=by
 refine⟨pcw_nothing s1 g1 A1 n1 c1 B1 m1 d1 x1 o1 s2 g2 A2 n2 c2 B2 m2 d2 x2 o2 N1 N2 w,fun W hW=>?_⟩;refine (minusp_any K true s1 g1 A1 n1 c1 B1 m1 d1 x1 N1 o1 s2 g2 A2 n2 c2 B2 m2 d2 x2 N2 o2 W (h1.below hW) (h2.below hW) (by omega) hs1 hs2).mono ?_;rintro e w' ⟨g5,A5,n5,c5,B5,m5,d5,g6,A6,n6,c6,B6,m6,d6,rfl,r1,r2,hbw⟩;refine⟨_,_,_,_,_,_,_,_,_,_,_,_,_,_,_,_,_,_,_,_,_,rfl,?_,hbw⟩
 have e:ngF (fun _ _=>((M:Int),-(M:Int)))=fun _ _=>((M:Int),-(M:Int)):=by
  funext i j;unfold ngF;simp
 rw [e]
 exact pcw_nothing _ g5 A5 n5 c5 B5 m5 d5 0 _ _ g6 A6 n6 c6 B6 m6 d6 0 _ _ _ w'
theorem ngF_iv(h:∀ i j,Iv i j→Iv (F i j).1 (F i j).2)(i j:Int)(hx:Iv i j):Iv (ngF F i j).1 (ngF F i j).2:=(h (-j) (-i) hx.negg).negg
end
theorem minus_i(v:Value)(i j:Int)(w:World)(h:SetOf w v i j):
  Calls Tryz.prog 112 #[v] w (NewSetI w (-j) (-i)):=
 (minus_idx v i j w h).mono fun e w' ⟨v,he,hs,hb⟩=>by
  obtain⟨o,s,g,A,n,c,B,m,d,t,g',A',n',c',B',m',d',rfl⟩:=hs.cells
  exact⟨o,s,g,A,n,c,B,m,d,t,g',A',n',c',B',m',d',he,hs,hb⟩
end
section
open Go.RowKit
theorem none6(w:World):Calls Tryz.prog 155 #[] w (NewSet w 1 true 0 0 0 0):=by
 have HF:=Hd fun W=>finite_nat 0 W (by omega);obtain⟨LB0,LR⟩:=bx1 w #[.bool false,.int .i64 0,.bool false,.slice none 0 0,.slice none 0 0,.int .i64 0,.bool false,.slice none 0 0,.slice none 0 0] 89;have LR0:=Hd (HasBlk.of (n:=9) LR.out rfl rfl);clear LR
 go_enter Tryz.func155,Tryz.ntmps155
 go_wp2_with fail;refine (HF.out _).mono ?_;rintro e w1 ⟨g3,A3,n3,c3,B3,m3,d3,rfl,h3,hb3⟩;have LB1:=stB LB0 hb3 LB0.out.size;have LR1:=stR LR0 hb3;clear LB0 LR0;go_wp2_with fail;refine (HF.out _).mono ?_;rintro e w2 ⟨g4,A4,n4,c4,B4,m4,d4,rfl,h4,hb4⟩;have LB2:=stB LB1 hb4 LB1.out.size;have LR2:=stR LR1 hb4;clear LB1 LR1;have FR1:=Hd (LR2.out.rat (h3.below hb4) [.bool true,.int .i64 0,.bool g3,.slice A3 n3 c3,.slice B3 m3 d3,.int .i64 0,.bool g4,.slice A4 n4 c4,.slice B4 m4 d4]);have FR2:=Hd (LR2.out.rat h4 [.bool true,.int .i64 0,.bool g3,.slice A3 n3 c3,.slice B3 m3 d3,.int .i64 0,.bool g4,.slice A4 n4 c4,.slice B4 m4 d4]);clear h3 h4 hb3 hb4 HF;obtain⟨ha0,hf0,ha1,hf1,ha2,hf2,ha3,hf3,ha4,hf4,ha5,hf5,ha6,hf6,ha7,hf7,ha8,hf8⟩:=LR2.out.sf9;obtain⟨hk0,hk1,hk2,hk3,hk4,hk5,hk6,hk7,hk8⟩:=LR2.out.sc9 (.bool true) (.int .i64 0) (.bool g3) (.slice A3 n3 c3) (.slice B3 m3 d3) (.int .i64 0) (.bool g4) (.slice A4 n4 c4) (.slice B4 m4 d4);have F:=Hd (below_sets (w0:=w) (r:=w.heap.size) (by omega) [.bool true,.int .i64 0,.bool g3,.slice A3 n3 c3,.slice B3 m3 d3,.int .i64 0,.bool g4,.slice A4 n4 c4,.slice B4 m4 d4] 0 _ LB2.out)
 simp [sets] at hk0 hk1 hk2 hk3 hk4 hk5 hk6 hk7 hk8
 go_wp2;refine bodyPost_ret (v:=.agg #[.bool true,.int .i64 0,.bool g3,.slice A3 n3 c3,.slice B3 m3 d3,.int .i64 0,.bool g4,.slice A4 n4 c4,.slice B4 m4 d4]) (by simp [results,Tryz.results155,go_sem,hk0,hk1,hk2,hk3,hk4,hk5,hk6,hk7,hk8]) rfl ?_
 exact⟨_,_,_,_,_,_,_,_,_,_,_,_,_,_,rfl,FR1.out,FR2.out,F.out⟩
end
section
open Go.RowKit
set_option maxRecDepth 8000 in
theorem lower_none(o1:Bool)(s1 s51:Int)(g1:Bool)(A1:Option Addr)(n1 c1:Nat)(B1:Option Addr)(m1 d1:Nat)(g51:Bool)(A51:Option Addr)(n51 c51:Nat)(B51:Option Addr)(m51 d51:Nat)(a2:Int)(w:World)(hS2:∀ W,Below w.heap.size w W→Calls Tryz.prog 152 #[.agg #[.int .i64 s51,.bool g51,.slice A51 n51 c51,.slice B51 m51 d51]] W fun e w'=>e=.returned (.int .i64 a2)∧Below W.heap.size W w')(hc:o1=true∨o1=false∧decide (a2<0)=true):
  Calls Tryz.prog 82 #[.agg #[.bool o1,.int .i64 s1,.bool g1,.slice A1 n1 c1,.slice B1 m1 d1,.int .i64 s51,.bool g51,.slice A51 n51 c51,.slice B51 m51 d51]] w (NewSet w 1 true 0 0 0 0):=by
 have HN:=Hd none6;have HS2:=Hd hS2;have HC:=Hd hc;clear hS2 hc;have LL:=li2 w #[.bool o1,.int .i64 s1,.bool g1,.slice A1 n1 c1,.slice B1 m1 d1,.int .i64 s51,.bool g51,.slice A51 n51 c51,.slice B51 m51 d51] 89 #[.bool false,.int .i64 0,.bool false,.slice none 0 0,.slice none 0 0,.int .i64 0,.bool false,.slice none 0 0,.slice none 0 0] 89
 rcases HC.out with h | ⟨h,h2⟩<;>subst h<;>clear HC
 ·skip;have LL:=li2 w #[.bool true,.int .i64 s1,.bool g1,.slice A1 n1 c1,.slice B1 m1 d1,.int .i64 s51,.bool g51,.slice A51 n51 c51,.slice B51 m51 d51] 89 #[.bool false,.int .i64 0,.bool false,.slice none 0 0,.slice none 0 0,.int .i64 0,.bool false,.slice none 0 0,.slice none 0 0] 89
  go_enter Tryz.func82,Tryz.ntmps82
  obtain⟨q1_0,q1_1,q1_2,q1_3,q1_4,q1_5,q1_6,q1_7,q1_8⟩:=(LL.out.blk 0 rfl).c9;go_wp2_with fail;refine (HN.out _).mono ?_;rintro e wk ⟨g9,A9,n9,c9,B9,m9,d9,g10,A10,n10,c10,B10,m10,d10,rfl,hr9,hr10,hb⟩;replace LL:=stL LL hb;clear hb q1_0 q1_1 q1_2 q1_3 q1_4 q1_5 q1_6 q1_7 q1_8;have HR9:=Hd hr9;clear hr9;have HR10:=Hd hr10;clear hr10;replace LL:=Hd (LL.out.loose 1 rfl rfl)
  simp only [List.eraseIdx,List.size_toArray,List.length_cons,List.length_nil,Nat.zero_add,Nat.reduceAdd] at LL
  have HRB:=LL.out.has 0 rfl;obtain⟨ha2_0,hf2_0,ha2_1,hf2_1,ha2_2,hf2_2,ha2_3,hf2_3,ha2_4,hf2_4,ha2_5,hf2_5,ha2_6,hf2_6,ha2_7,hf2_7,ha2_8,hf2_8⟩:=(LL.out.has 0 rfl).sf9;have LF:=Hd (LL.out.write [.bool true,.int .i64 0,.bool g9,.slice A9 n9 c9,.slice B9 m9 d9,.int .i64 0,.bool g10,.slice A10 n10 c10,.slice B10 m10 d10] rfl (by omega) (by simp<;>omega) (by simp<;>omega));obtain⟨hk2_0,hk2_1,hk2_2,hk2_3,hk2_4,hk2_5,hk2_6,hk2_7,hk2_8⟩:=(LF.out.blk 1 rfl).c9
  simp [sets] at hk2_0 hk2_1 hk2_2 hk2_3 hk2_4 hk2_5 hk2_6 hk2_7 hk2_8
  clear LL;go_wp2;refine bodyPost_ret (v:=.agg #[.bool true,.int .i64 0,.bool g9,.slice A9 n9 c9,.slice B9 m9 d9,.int .i64 0,.bool g10,.slice A10 n10 c10,.slice B10 m10 d10]) (by simp [results,Tryz.results82,go_sem,hk2_0,hk2_1,hk2_2,hk2_3,hk2_4,hk2_5,hk2_6,hk2_7,hk2_8]) rfl ?_
  exact⟨g9,A9,n9,c9,B9,m9,d9,g10,A10,n10,c10,B10,m10,d10,rfl,HRB.rat HR9.out [.bool true,.int .i64 0,.bool g9,.slice A9 n9 c9,.slice B9 m9 d9,.int .i64 0,.bool g10,.slice A10 n10 c10,.slice B10 m10 d10],HRB.rat HR10.out [.bool true,.int .i64 0,.bool g9,.slice A9 n9 c9,.slice B9 m9 d9,.int .i64 0,.bool g10,.slice A10 n10 c10,.slice B10 m10 d10],LF.out.b⟩
 ·skip;have LL:=li2 w #[.bool false,.int .i64 s1,.bool g1,.slice A1 n1 c1,.slice B1 m1 d1,.int .i64 s51,.bool g51,.slice A51 n51 c51,.slice B51 m51 d51] 89 #[.bool false,.int .i64 0,.bool false,.slice none 0 0,.slice none 0 0,.int .i64 0,.bool false,.slice none 0 0,.slice none 0 0] 89
  go_enter Tryz.func82,Tryz.ntmps82
  obtain⟨q1_0,q1_1,q1_2,q1_3,q1_4,q1_5,q1_6,q1_7,q1_8⟩:=(LL.out.blk 0 rfl).c9;go_wp2_with fail;refine (HS2.out _ LL.out.b).mono ?_;rintro e wk ⟨rfl,hb⟩;replace LL:=stL LL hb;clear hb q1_0 q1_1 q1_2 q1_3 q1_4 q1_5 q1_6 q1_7 q1_8;go_wp2_with fail;refine (HN.out _).mono ?_;rintro e wk ⟨g9,A9,n9,c9,B9,m9,d9,g10,A10,n10,c10,B10,m10,d10,rfl,hr9,hr10,hb⟩;replace LL:=stL LL hb;clear hb h2;have HR9:=Hd hr9;clear hr9;have HR10:=Hd hr10;clear hr10;replace LL:=Hd (LL.out.loose 1 rfl rfl)
  simp only [List.eraseIdx,List.size_toArray,List.length_cons,List.length_nil,Nat.zero_add,Nat.reduceAdd] at LL
  have HRB:=LL.out.has 0 rfl;obtain⟨ha2_0,hf2_0,ha2_1,hf2_1,ha2_2,hf2_2,ha2_3,hf2_3,ha2_4,hf2_4,ha2_5,hf2_5,ha2_6,hf2_6,ha2_7,hf2_7,ha2_8,hf2_8⟩:=(LL.out.has 0 rfl).sf9;have LF:=Hd (LL.out.write [.bool true,.int .i64 0,.bool g9,.slice A9 n9 c9,.slice B9 m9 d9,.int .i64 0,.bool g10,.slice A10 n10 c10,.slice B10 m10 d10] rfl (by omega) (by simp<;>omega) (by simp<;>omega));obtain⟨hk2_0,hk2_1,hk2_2,hk2_3,hk2_4,hk2_5,hk2_6,hk2_7,hk2_8⟩:=(LF.out.blk 1 rfl).c9
  simp [sets] at hk2_0 hk2_1 hk2_2 hk2_3 hk2_4 hk2_5 hk2_6 hk2_7 hk2_8
  clear LL;go_wp2;refine bodyPost_ret (v:=.agg #[.bool true,.int .i64 0,.bool g9,.slice A9 n9 c9,.slice B9 m9 d9,.int .i64 0,.bool g10,.slice A10 n10 c10,.slice B10 m10 d10]) (by simp [results,Tryz.results82,go_sem,hk2_0,hk2_1,hk2_2,hk2_3,hk2_4,hk2_5,hk2_6,hk2_7,hk2_8]) rfl ?_
  exact⟨g9,A9,n9,c9,B9,m9,d9,g10,A10,n10,c10,B10,m10,d10,rfl,HRB.rat HR9.out [.bool true,.int .i64 0,.bool g9,.slice A9 n9 c9,.slice B9 m9 d9,.int .i64 0,.bool g10,.slice A10 n10 c10,.slice B10 m10 d10],HRB.rat HR10.out [.bool true,.int .i64 0,.bool g9,.slice A9 n9 c9,.slice B9 m9 d9,.int .i64 0,.bool g10,.slice A10 n10 c10,.slice B10 m10 d10],LF.out.b⟩
set_option maxRecDepth 8000 in
theorem lower_cut(s1 s51:Int)(g1:Bool)(A1:Option Addr)(n1 c1:Nat)(B1:Option Addr)(m1 d1:Nat)(g51:Bool)(A51:Option Addr)(n51 c51:Nat)(B51:Option Addr)(m51 d51:Nat)(a1 a2:Int)(x51:Rat)(w:World)(hS1:∀ W,Below w.heap.size w W→Calls Tryz.prog 152 #[.agg #[.int .i64 s1,.bool g1,.slice A1 n1 c1,.slice B1 m1 d1]] W fun e w'=>e=.returned (.int .i64 a1)∧Below W.heap.size W w')(hS2:∀ W,Below w.heap.size w W→Calls Tryz.prog 152 #[.agg #[.int .i64 s51,.bool g51,.slice A51 n51 c51,.slice B51 m51 d51]] W fun e w'=>e=.returned (.int .i64 a2)∧Below W.heap.size W w')(h1:a1<0)(h2:decide (a2<0)=false)(hr51:RatV w 34 g51 (.slice A51 n51 c51) (.slice B51 m51 d51) x51):
  Calls Tryz.prog 82 #[.agg #[.bool false,.int .i64 s1,.bool g1,.slice A1 n1 c1,.slice B1 m1 d1,.int .i64 s51,.bool g51,.slice A51 n51 c51,.slice B51 m51 d51]] w (NewSet w 34 false 0 0 s51 x51):=by
 have HF:=Hd (show ∀ W,Calls Tryz.prog 153 #[.int .i64 0] W (NewEnd W 1 0 0) from fun W=>finite_nat 0 W (by omega));have HS1:=Hd hS1;have HS2:=Hd hS2;have H1:=Hd h1;have H2:=Hd h2;clear hS1 hS2 h1 h2;have LL:=li2 w #[.bool false,.int .i64 s1,.bool g1,.slice A1 n1 c1,.slice B1 m1 d1,.int .i64 s51,.bool g51,.slice A51 n51 c51,.slice B51 m51 d51] 89 #[.bool false,.int .i64 0,.bool false,.slice none 0 0,.slice none 0 0,.int .i64 0,.bool false,.slice none 0 0,.slice none 0 0] 89;have HR51:=Hd (hr51.below LL.out.b);clear hr51
 go_enter Tryz.func82,Tryz.ntmps82
 obtain⟨q1_0,q1_1,q1_2,q1_3,q1_4,q1_5,q1_6,q1_7,q1_8⟩:=(LL.out.blk 0 rfl).c9;go_wp2_with fail;refine (HS2.out _ LL.out.b).mono ?_;rintro e wk ⟨rfl,hb⟩;replace LL:=stL LL hb;replace HR51:=Hd (HR51.out.below hb);clear hb q1_0 q1_1 q1_2 q1_3 q1_4 q1_5 q1_6 q1_7 q1_8;obtain⟨q2_0,q2_1,q2_2,q2_3,q2_4,q2_5,q2_6,q2_7,q2_8⟩:=(LL.out.blk 0 rfl).c9;have h2:=H2.out;go_wp2_with fail;refine (HS1.out _ LL.out.b).mono ?_;rintro e wk ⟨rfl,hb⟩;replace LL:=stL LL hb;replace HR51:=Hd (HR51.out.below hb);clear hb q2_0 q2_1 q2_2 q2_3 q2_4 q2_5 q2_6 q2_7 q2_8 h2;have h1:=H1.out;go_wp2_with fail;refine (HF.out _).mono ?_;rintro e wk ⟨g9,A9,n9,c9,B9,m9,d9,rfl,hr9,hb⟩;replace LL:=stL LL hb;replace HR51:=Hd (HR51.out.below hb);clear hb h1;have HR9:=Hd hr9;clear hr9;obtain⟨q3_0,q3_1,q3_2,q3_3,q3_4,q3_5,q3_6,q3_7,q3_8⟩:=(LL.out.blk 0 rfl).c9;have fz1:=(LL.out.blk 0 rfl).frozen 1;have fz2:=(LL.out.blk 0 rfl).frozen 2;have fz3:=(LL.out.blk 0 rfl).frozen 3;have fz4:=(LL.out.blk 0 rfl).frozen 4
 go_upto_region 5 with fail
 clear q3_0 q3_1 q3_2 q3_3 q3_4 q3_5 q3_6 q3_7 q3_8 fz1 fz2 fz3 fz4;have PB_1:=LL.out.blk 0 rfl;replace LL:=Hd (LL.out.part 0 rfl 1 [.int .i64 0,.bool g9,.slice A9 n9 c9,.slice B9 m9 d9] (by omega) (by simp<;>omega) (by simp<;>omega))
 simp only [List.eraseIdx,laid,List.cons_append,List.nil_append,List.setIfInBounds_toArray,List.set_cons_zero,List.set_cons_succ,Nat.zero_add,Nat.reduceAdd] at LL
 replace HR51:=Hd (HR51.out.sets PB_1 (nowd rfl) 1 [.int .i64 0,.bool g9,.slice A9 n9 c9,.slice B9 m9 d9]);replace HR9:=Hd (HR9.out.sets PB_1 (nowd rfl) 1 [.int .i64 0,.bool g9,.slice A9 n9 c9,.slice B9 m9 d9])
 obtain⟨wn,hwn⟩:∃ X,(sets wk w.heap.size 1 [.int .i64 0,.bool g9,.slice A9 n9 c9,.slice B9 m9 d9])=X:=⟨_,rfl⟩
 rw [hwn] at LL HR51 HR9
 simp only [sets,Nat.reduceAdd] at hwn
 rw [hwn];clear hwn PB_1;obtain⟨q4_0,q4_1,q4_2,q4_3,q4_4,q4_5,q4_6,q4_7,q4_8⟩:=(LL.out.blk 1 rfl).c9;replace LL:=Hd (LL.out.loose 0 rfl rfl)
 simp only [List.eraseIdx,List.size_toArray,List.length_cons,List.length_nil,Nat.zero_add,Nat.reduceAdd] at LL
 have HRB:=LL.out.has 0 rfl;obtain⟨ha2_0,hf2_0,ha2_1,hf2_1,ha2_2,hf2_2,ha2_3,hf2_3,ha2_4,hf2_4,ha2_5,hf2_5,ha2_6,hf2_6,ha2_7,hf2_7,ha2_8,hf2_8⟩:=(LL.out.has 0 rfl).sf9;have LF:=Hd (LL.out.write [.bool false,.int .i64 0,.bool g9,.slice A9 n9 c9,.slice B9 m9 d9,.int .i64 s51,.bool g51,.slice A51 n51 c51,.slice B51 m51 d51] rfl (by omega) (by simp<;>omega) (by simp<;>omega));obtain⟨hk2_0,hk2_1,hk2_2,hk2_3,hk2_4,hk2_5,hk2_6,hk2_7,hk2_8⟩:=(LF.out.blk 1 rfl).c9
 simp [sets] at hk2_0 hk2_1 hk2_2 hk2_3 hk2_4 hk2_5 hk2_6 hk2_7 hk2_8
 clear LL;go_wp2;refine bodyPost_ret (v:=.agg #[.bool false,.int .i64 0,.bool g9,.slice A9 n9 c9,.slice B9 m9 d9,.int .i64 s51,.bool g51,.slice A51 n51 c51,.slice B51 m51 d51]) (by simp [results,Tryz.results82,go_sem,hk2_0,hk2_1,hk2_2,hk2_3,hk2_4,hk2_5,hk2_6,hk2_7,hk2_8]) rfl ?_
 exact⟨g9,A9,n9,c9,B9,m9,d9,g51,A51,n51,c51,B51,m51,d51,rfl,(HRB.rat HR9.out [.bool false,.int .i64 0,.bool g9,.slice A9 n9 c9,.slice B9 m9 d9,.int .i64 s51,.bool g51,.slice A51 n51 c51,.slice B51 m51 d51]).mono (by omega),HRB.rat HR51.out [.bool false,.int .i64 0,.bool g9,.slice A9 n9 c9,.slice B9 m9 d9,.int .i64 s51,.bool g51,.slice A51 n51 c51,.slice B51 m51 d51],LF.out.b⟩
set_option maxRecDepth 8000 in
theorem lower_same(s1 s51:Int)(g1:Bool)(A1:Option Addr)(n1 c1:Nat)(B1:Option Addr)(m1 d1:Nat)(g51:Bool)(A51:Option Addr)(n51 c51:Nat)(B51:Option Addr)(m51 d51:Nat)(a1 a2:Int)(x1 x51:Rat)(w:World)(hS1:∀ W,Below w.heap.size w W→Calls Tryz.prog 152 #[.agg #[.int .i64 s1,.bool g1,.slice A1 n1 c1,.slice B1 m1 d1]] W fun e w'=>e=.returned (.int .i64 a1)∧Below W.heap.size W w')(hS2:∀ W,Below w.heap.size w W→Calls Tryz.prog 152 #[.agg #[.int .i64 s51,.bool g51,.slice A51 n51 c51,.slice B51 m51 d51]] W fun e w'=>e=.returned (.int .i64 a2)∧Below W.heap.size W w')(h1:¬ a1<0)(h2:decide (a2<0)=false)(hr1:RatV w 34 g1 (.slice A1 n1 c1) (.slice B1 m1 d1) x1)(hr51:RatV w 34 g51 (.slice A51 n51 c51) (.slice B51 m51 d51) x51):
  Calls Tryz.prog 82 #[.agg #[.bool false,.int .i64 s1,.bool g1,.slice A1 n1 c1,.slice B1 m1 d1,.int .i64 s51,.bool g51,.slice A51 n51 c51,.slice B51 m51 d51]] w (NewSet w 34 false s1 x1 s51 x51):=by
 have HS1:=Hd hS1;have HS2:=Hd hS2;have H1:=Hd h1;have H2:=Hd h2;clear hS1 hS2 h1 h2;have LL:=li2 w #[.bool false,.int .i64 s1,.bool g1,.slice A1 n1 c1,.slice B1 m1 d1,.int .i64 s51,.bool g51,.slice A51 n51 c51,.slice B51 m51 d51] 89 #[.bool false,.int .i64 0,.bool false,.slice none 0 0,.slice none 0 0,.int .i64 0,.bool false,.slice none 0 0,.slice none 0 0] 89;have HR51:=Hd (hr51.below LL.out.b);have HR1:=Hd (hr1.below LL.out.b);clear hr51 hr1
 go_enter Tryz.func82,Tryz.ntmps82
 obtain⟨q1_0,q1_1,q1_2,q1_3,q1_4,q1_5,q1_6,q1_7,q1_8⟩:=(LL.out.blk 0 rfl).c9;go_wp2_with fail;refine (HS2.out _ LL.out.b).mono ?_;rintro e wk ⟨rfl,hb⟩;replace LL:=stL LL hb;replace HR51:=Hd (HR51.out.below hb);replace HR1:=Hd (HR1.out.below hb);clear hb q1_0 q1_1 q1_2 q1_3 q1_4 q1_5 q1_6 q1_7 q1_8;obtain⟨q2_0,q2_1,q2_2,q2_3,q2_4,q2_5,q2_6,q2_7,q2_8⟩:=(LL.out.blk 0 rfl).c9;have h2:=H2.out;go_wp2_with fail;refine (HS1.out _ LL.out.b).mono ?_;rintro e wk ⟨rfl,hb⟩;replace LL:=stL LL hb;replace HR51:=Hd (HR51.out.below hb);replace HR1:=Hd (HR1.out.below hb);clear hb q2_0 q2_1 q2_2 q2_3 q2_4 q2_5 q2_6 q2_7 q2_8 h2;have h1:decide (a1<0)=false:=decide_eq_false (by have:=H1.out;omega);obtain⟨q3_0,q3_1,q3_2,q3_3,q3_4,q3_5,q3_6,q3_7,q3_8⟩:=(LL.out.blk 0 rfl).c9;replace LL:=Hd (LL.out.loose 1 rfl rfl)
 simp only [List.eraseIdx,List.size_toArray,List.length_cons,List.length_nil,Nat.zero_add,Nat.reduceAdd] at LL
 have HRB:=LL.out.has 0 rfl;obtain⟨ha2_0,hf2_0,ha2_1,hf2_1,ha2_2,hf2_2,ha2_3,hf2_3,ha2_4,hf2_4,ha2_5,hf2_5,ha2_6,hf2_6,ha2_7,hf2_7,ha2_8,hf2_8⟩:=(LL.out.has 0 rfl).sf9;have LF:=Hd (LL.out.write [.bool false,.int .i64 s1,.bool g1,.slice A1 n1 c1,.slice B1 m1 d1,.int .i64 s51,.bool g51,.slice A51 n51 c51,.slice B51 m51 d51] rfl (by omega) (by simp<;>omega) (by simp<;>omega));obtain⟨hk2_0,hk2_1,hk2_2,hk2_3,hk2_4,hk2_5,hk2_6,hk2_7,hk2_8⟩:=(LF.out.blk 1 rfl).c9
 simp [sets] at hk2_0 hk2_1 hk2_2 hk2_3 hk2_4 hk2_5 hk2_6 hk2_7 hk2_8
 clear LL;go_wp2;refine bodyPost_ret (v:=.agg #[.bool false,.int .i64 s1,.bool g1,.slice A1 n1 c1,.slice B1 m1 d1,.int .i64 s51,.bool g51,.slice A51 n51 c51,.slice B51 m51 d51]) (by simp [results,Tryz.results82,go_sem,hk2_0,hk2_1,hk2_2,hk2_3,hk2_4,hk2_5,hk2_6,hk2_7,hk2_8]) rfl ?_
 exact⟨g1,A1,n1,c1,B1,m1,d1,g51,A51,n51,c51,B51,m51,d51,rfl,HRB.rat HR1.out [.bool false,.int .i64 s1,.bool g1,.slice A1 n1 c1,.slice B1 m1 d1,.int .i64 s51,.bool g51,.slice A51 n51 c51,.slice B51 m51 d51],HRB.rat HR51.out [.bool false,.int .i64 s1,.bool g1,.slice A1 n1 c1,.slice B1 m1 d1,.int .i64 s51,.bool g51,.slice A51 n51 c51,.slice B51 m51 d51],LF.out.b⟩
set_option maxRecDepth 8000 in
theorem single_walk(g1:Bool)(A1:Option Addr)(n1 c1:Nat)(B1:Option Addr)(m1 d1:Nat)(x1:Rat)(w:World)(hr:RatV w 1 g1 (.slice A1 n1 c1) (.slice B1 m1 d1) x1):
  Calls Tryz.prog 180 #[.agg #[.bool g1,.slice A1 n1 c1,.slice B1 m1 d1]] w (NewSet w 1 false 0 x1 0 x1):=by
 have HB:=Hd (show Below w.heap.size w ((w.alloc (.cells #[.bool g1,.slice A1 n1 c1,.slice B1 m1 d1] 42)).alloc (.cells #[.bool false,.int .i64 0,.bool g1,.slice A1 n1 c1,.slice B1 m1 d1,.int .i64 0,.bool g1,.slice A1 n1 c1,.slice B1 m1 d1] 89)) from (below_alloc w _).alloc (by simp) _);have HR:=Hd (hr.below HB.out);clear hr
 go_enter Tryz.func180,Tryz.ntmps180
 go_wp2;refine bodyPost_ret (v:=.agg #[.bool false,.int .i64 0,.bool g1,.slice A1 n1 c1,.slice B1 m1 d1,.int .i64 0,.bool g1,.slice A1 n1 c1,.slice B1 m1 d1]) (by simp [results,Tryz.results180,go_sem]) rfl ?_
 exact⟨g1,A1,n1,c1,B1,m1,d1,g1,A1,n1,c1,B1,m1,d1,rfl,HR.out,HR.out,HB.out⟩
set_option maxRecDepth 8000 in
theorem one_walk(w:World):Calls Tryz.prog 111 #[] w (NewSet w 1 false 0 1 0 1):=by
 have HI:=Hd (show ∀ W,Calls Tryz.prog 51 #[.int .i64 1] W (NewRatS W 1 1) from fun W=>(int_nat 1 W (by omega)).mono fun _ _ h=>h.s);have HS:=Hd fun g1 A1 n1 c1 B1 m1 d1 W h=>single_walk g1 A1 n1 c1 B1 m1 d1 1 W h;have LL:=li1 w #[.bool false,.int .i64 0,.bool false,.slice none 0 0,.slice none 0 0,.int .i64 0,.bool false,.slice none 0 0,.slice none 0 0] 89
 go_enter Tryz.func111,Tryz.ntmps111
 go_wp2_with fail;refine (HI.out _).mono ?_;rintro e wk ⟨g1,A1,n1,c1,B1,m1,d1,rfl,hr1,hb⟩;replace LL:=stL LL hb;clear hb;have HR1:=Hd hr1;clear hr1;go_wp2_with fail;refine (HS.out _ _ _ _ _ _ _ _ HR1.out).mono ?_;rintro e wk ⟨g2,A2,n2,c2,B2,m2,d2,g3,A3,n3,c3,B3,m3,d3,rfl,hr2,hr3,hb⟩;replace LL:=stL LL hb;replace HR1:=Hd (HR1.out.below hb);clear hb HR1;have HR2:=Hd hr2;clear hr2;have HR3:=Hd hr3;clear hr3;replace LL:=Hd (LL.out.loose 0 rfl rfl)
 simp only [List.eraseIdx,List.size_toArray,List.length_cons,List.length_nil,Nat.zero_add,Nat.reduceAdd] at LL
 have HRB:=LL.out.has 0 rfl;obtain⟨ha0_0,hf0_0,ha0_1,hf0_1,ha0_2,hf0_2,ha0_3,hf0_3,ha0_4,hf0_4,ha0_5,hf0_5,ha0_6,hf0_6,ha0_7,hf0_7,ha0_8,hf0_8⟩:=(LL.out.has 0 rfl).sf9;have LF:=Hd (LL.out.write [.bool false,.int .i64 0,.bool g2,.slice A2 n2 c2,.slice B2 m2 d2,.int .i64 0,.bool g3,.slice A3 n3 c3,.slice B3 m3 d3] rfl (by omega) (by simp<;>omega) (by simp<;>omega));obtain⟨hk0_0,hk0_1,hk0_2,hk0_3,hk0_4,hk0_5,hk0_6,hk0_7,hk0_8⟩:=(LF.out.blk 0 rfl).c9
 simp [sets] at hk0_0 hk0_1 hk0_2 hk0_3 hk0_4 hk0_5 hk0_6 hk0_7 hk0_8
 clear LL;go_wp2;refine bodyPost_ret (v:=.agg #[.bool false,.int .i64 0,.bool g2,.slice A2 n2 c2,.slice B2 m2 d2,.int .i64 0,.bool g3,.slice A3 n3 c3,.slice B3 m3 d3]) (by simp [results,Tryz.results111,go_sem,hk0_0,hk0_1,hk0_2,hk0_3,hk0_4,hk0_5,hk0_6,hk0_7,hk0_8]) rfl ?_
 exact⟨g2,A2,n2,c2,B2,m2,d2,g3,A3,n3,c3,B3,m3,d3,rfl,HRB.rat HR2.out [.bool false,.int .i64 0,.bool g2,.slice A2 n2 c2,.slice B2 m2 d2,.int .i64 0,.bool g3,.slice A3 n3 c3,.slice B3 m3 d3],HRB.rat HR3.out [.bool false,.int .i64 0,.bool g2,.slice A2 n2 c2,.slice B2 m2 d2,.int .i64 0,.bool g3,.slice A3 n3 c3,.slice B3 m3 d3],LF.out.b⟩
end
section
open Go.RowKit
theorem hl_iv2{i j i' j':Int}(h:Iv i j)(h':Iv i' j'):hl i j i' j'=(min i i',max j j'):=by
 have hM:(M:Int)=9218868437227405312:=rfl;unfold hl;unfold Iv at h h'
 by_cases h1:j<i
 ·rw [if_pos h1,Prod.mk.injEq];omega
 ·rw [if_neg h1]
  by_cases h2:j'<i'
  ·rw [if_pos h2,Prod.mk.injEq];omega
  ·rw [if_neg h2]
theorem NewSet.up2{w w':World}{K K':Nat}{o:Bool}{s t:Int}{x y:Rat}{e:Ending}(h:NewSet w K o s x t y e w')(hk:K≤K'):NewSet w K' o s x t y e w':=by
 obtain⟨g,A,n,c,B,m,d,g',A',n',c',B',m',d',rfl,h1,h2,hb⟩:=h
 exact⟨g,A,n,c,B,m,d,g',A',n',c',B',m',d',rfl,h1.mono hk,h2.mono hk,hb⟩
def lwI(i j:Int):Int:=if j<0 then (M:Int) else max i 0
def lwJ(j:Int):Int:=if j<0 then -(M:Int) else j
theorem lower_any(v:Value)(i j:Int)(w:World)(h:SetOf w v i j):Calls Tryz.prog 82 #[v] w (NewSetI w (lwI i j) (lwJ j)):=by
 have hM:(M:Int)=9218868437227405312:=rfl
 have nv:∀ e w',NewSet w 1 true 0 0 0 0 e w'→NewSetI w (M:Int) (-(M:Int)) e w':=by
  rintro e w' ⟨g,A,n,c,B,m,d,g',A',n',c',B',m',d',rfl,h1,h2,hb⟩
  exact⟨_,_,g,A,n,c,B,m,d,_,g',A',n',c',B',m',d',rfl,.inl ⟨rfl,rfl,_,_,_,_,g,A,n,c,B,m,d,g',A',n',c',B',m',d',rfl,h1.mono (by omega),h2.mono (by omega)⟩,hb⟩
 have sv:∀ i' e w',-(M:Int)≤i'∧i'≤j∧j≤M∧i'<M∧-(M:Int)<j→NewSet w 34 false (es i') (ex i') (es j) (ex j) e w'→NewSetI w i' j e w':=by
  rintro i' e w' hi ⟨g,A,n,c,B,m,d,g',A',n',c',B',m',d',rfl,h1,h2,hb⟩
  exact⟨_,_,g,A,n,c,B,m,d,_,g',A',n',c',B',m',d',rfl,.inr ⟨hi,g,A,n,c,B,m,d,g',A',n',c',B',m',d',rfl,h1,h2⟩,hb⟩
 rcases h with ⟨rfl,rfl,s,x,t,y,g,A,n,c,B,m,d,g',A',n',c',B',m',d',rfl,h4,h5⟩ | ⟨h1,g,A,n,c,B,m,d,g',A',n',c',B',m',d',rfl,h4,h5⟩
 ·unfold lwI lwJ;rw [if_pos (by omega),if_pos (by omega)]
  exact (lower_none _ _ _ _ _ _ _ _ _ _ _ _ _ _ _ _ _ _ w (fun W hW=>sign6_any 34 t g' A' n' c' B' m' d' y W (h5.below hW) (by omega)) (.inl rfl)).mono nv
 ·have e1:=esx_idx (i:=i) (by omega);have e2:=esx_idx (i:=j) (by omega);have S1:=fun W (hW:Below w.heap.size w W)=>sign6_any 34 (es i) g A n c B m d (ex i) W (h4.below hW) (by omega);have S2:=fun W (hW:Below w.heap.size w W)=>sign6_any 34 (es j) g' A' n' c' B' m' d' (ex j) W (h5.below hW) (by omega);unfold lwI lwJ
  by_cases h0:j<0
  ·rw [if_pos h0,if_pos h0]
   exact (lower_none _ _ _ _ _ _ _ _ _ _ _ _ _ _ _ _ _ _ w S2 (.inr ⟨rfl,decide_eq_true (by omega)⟩)).mono nv
  ·rw [if_neg h0,if_neg h0]
   by_cases h2:i<0
   ·rw [show max i 0=0 from by omega];refine (lower_cut _ _ _ _ _ _ _ _ _ _ _ _ _ _ _ _ _ _ _ w S1 S2 (by omega) (decide_eq_false (by omega)) h5).mono fun e w' h=>sv 0 e w' (by omega) ?_;rw [es_nought,ex_nought];exact h
   ·rw [show max i 0=i from by omega]
    exact (lower_same _ _ _ _ _ _ _ _ _ _ _ _ _ _ _ _ _ _ _ _ w S1 S2 (by omega) (decide_eq_false (by omega)) h4 h5).mono fun e w' h=>sv i e w' (by omega) h
def L1(F:Int→Int→Int × Int):Nat→Int→Int→Int × Int | _=>F
def L2(F G:Int→Int→Int × Int):Nat→Int→Int→Int × Int | 0=>F | _=>G
theorem zg2{F G:Int→Int→Int × Int}{i j:Int}(h1:Iv (F i j).1 (F i j).2)(h2:Iv (G i j).1 (G i j).2):zg i j (L2 F G) 2=(min (F i j).1 (G i j).1,max (F i j).2 (G i j).2):=by
 have hM:(M:Int)=9218868437227405312:=rfl
 show hl (hl (M:Int) (-(M:Int)) (F i j).1 (F i j).2).1 (hl (M:Int) (-(M:Int)) (F i j).1 (F i j).2).2 (G i j).1 (G i j).2=_
 rw [show hl (M:Int) (-(M:Int)) (F i j).1 (F i j).2=F i j from by unfold hl;rw [if_pos (by omega)],hl_iv2 h1 h2]
end
section
open Go.RowKit
theorem all_nil(x y:Nat)(w:World)(hx:x<18446744073709551616)(hy:y<18446744073709551616):
  Calls Tryz.prog 79 #[.agg #[.int .u64 (x:Int),.int .u64 (y:Int)],.slice none 0 0] w fun e w'=>e=.returned (.agg #[.int .u64 9218868437227405312,.int .u64 18442240474082181120])∧Below w.heap.size w w':=by
 have HR:=Hd fun W=>read6 x y W hx hy;have HE:=Hd empty6
 obtain⟨p,hp⟩:∃ p,pat (rd x y).1=p:=⟨_,rfl⟩
 obtain⟨q,hq⟩:∃ p,pat (rd x y).2=p:=⟨_,rfl⟩
 rw [hp,hq] at HR;clear hp hq;obtain⟨LB0,LG0_0,LR⟩:=bx2 w #[.int .u64 (x:Int),.int .u64 (y:Int)] 24 #[.int .u64 0,.int .u64 0] 24;have LR0:=Hd (HasBlk.of (n:=2) LR.out rfl rfl);clear LR
 go_enter Tryz.func79,Tryz.ntmps79
 go_wp2_with fail;refine (HR.out _).mono ?_;rintro e w1 ⟨rfl,hb1⟩;have LB1:=stB LB0 hb1 LB0.out.size;have LR1:=stR LR0 hb1;have LG0_1:=stG LG0_0 hb1;clear LB0 LR0 LG0_0;have hlt2:=LR1.out.lt;have LB2:=Hd (LB1.out.alloc LB1.out.size (.cells #[.int .u64 (p:Int),.int .u64 (q:Int)] 24));have LR2:=Hd (LR1.out.alloc (.cells #[.int .u64 (p:Int),.int .u64 (q:Int)] 24));have LG0_2:=Hd (LG0_1.out.alloc (.cells #[.int .u64 (p:Int),.int .u64 (q:Int)] 24));have LG1_2:=Hd (Blk.new w1 24 #[.int .u64 (p:Int),.int .u64 (q:Int)]);clear LB1 LR1 LG0_1;clear hb1;go_wp2_with fail;refine (HE.out _).mono ?_;rintro e w2 ⟨rfl,hb2⟩;have LB3:=stB LB2 hb2 LB2.out.size;have LR3:=stR LR2 hb2;have LG0_3:=stG LG0_2 hb2;have LG1_3:=stG LG1_2 hb2;clear LB2 LR2 LG0_2 LG1_2;have hlt4:=LR3.out.lt;have LB4:=Hd (LB3.out.alloc LB3.out.size (.cells #[.int .u64 9218868437227405312,.int .u64 18442240474082181120] 24));have LR4:=Hd (LR3.out.alloc (.cells #[.int .u64 9218868437227405312,.int .u64 18442240474082181120] 24));have LG0_4:=Hd (LG0_3.out.alloc (.cells #[.int .u64 9218868437227405312,.int .u64 18442240474082181120] 24));have LG1_4:=Hd (LG1_3.out.alloc (.cells #[.int .u64 9218868437227405312,.int .u64 18442240474082181120] 24));have LG2_4:=Hd (Blk.new w2 24 #[.int .u64 9218868437227405312,.int .u64 18442240474082181120]);clear LB3 LR3 LG0_3 LG1_3;clear hb2
 go_upto_region 3 with fail
 obtain⟨V4,hV4⟩:∃ X,(w2.alloc (.cells #[.int .u64 9218868437227405312,.int .u64 18442240474082181120] 24))=X:=⟨_,rfl⟩
 rw [hV4] at LB4 LR4 LG0_4 LG1_4 LG2_4 ⊢;clear hV4;go_wp2_with fail
 go_loopw [7] (fun iv wr=>iv=.int .i64 0∧V4=wr) (fun _ _=>0)
 case atStart=>exact⟨rfl,rfl⟩
 case round=>
  obtain⟨rfl,rfl⟩:=hrel;obtain⟨q2_0,q2_1⟩:=LG2_4.out.c2;obtain⟨ha0,hf0,ha1,hf1⟩:=LR4.out.sf2;obtain⟨hk0,hk1⟩:=LR4.out.sc2 (.int .u64 9218868437227405312) (.int .u64 18442240474082181120);have F:=Hd (below_sets (w0:=w) (r:=(w.heap.size+1)) (by omega) [.int .u64 9218868437227405312,.int .u64 18442240474082181120] 0 _ LB4.out)
  simp [sets] at hk0 hk1
  go_wp2;refine bodyPost_ret (v:=.agg #[.int .u64 9218868437227405312,.int .u64 18442240474082181120]) (by simp [results,Tryz.results79,go_sem,hk0,hk1]) rfl ?_
  exact⟨rfl,F.out⟩
end
section
open Go.RowKit
theorem all_pcs(x y:Nat)(A:Option Addr)(n c:Nat)(L:Nat→Int→Int→Int × Int)(w:World)(hx:x<18446744073709551616)(hy:y<18446744073709551616)(hn:n≤100)(hc:n≤c)(h0:n=0→A=none∧c=0)(hL:∀ k:Nat,k<n→∃ ad,A=some ad∧PcG w ad k (L k)):
  Calls Tryz.prog 79 #[.agg #[.int .u64 (x:Int),.int .u64 (y:Int)],.slice A n c] w fun e w'=>e=.returned (.agg #[.int .u64 (pat (zg (rd x y).1 (rd x y).2 L n).1:Int),.int .u64 (pat (zg (rd x y).1 (rd x y).2 L n).2:Int)])∧Below w.heap.size w w':=by
 rcases Nat.eq_zero_or_pos n with h | h
 ·subst h;obtain⟨rfl,rfl⟩:=h0 rfl;have h:=all_nil x y w hx hy
  show Calls _ _ _ _ fun e w'=>e=.returned (.agg #[.int .u64 (pat (M:Int):Int),.int .u64 (pat (-(M:Int)):Int)])∧Below w.heap.size w w'
  rw [pat_max,pat_min]
  exact h
 ·obtain⟨ad,rfl,-⟩:=hL 0 h
  exact all_gen x y ad n c L w hx hy hn hc (fun k hk=>by
   obtain⟨ad',e,hp⟩:=hL k hk
   cases e;exact hp)
end
end Go.Proofs.YthlmlmfebpjgdaaGreatDoor
