/-
The reference's product, Times, FMARev, FMARevAdd by indexes.
Walk: RevFuses.
-/
import Derived.Test.YtmjkmoahkanblaaGreatM36
import Derived.Test.YtmjkmoahkanblaaGreatM37
import Derived.Test.YtmjkmoahkanblaaGreatM33
import Derived.Test.YtmjkmoahkanblaaGreatPMinusT
import Derived.Test.YtmjkmoahkanblaaGreatM04
import Derived.Test.YtmjkmoahkanblaaGreatPGoA
import Derived.Deep.DeepCutAuto
set_option linter.unusedSimpArgs false
set_option linter.unusedVariables false
set_option maxHeartbeats 12800000
namespace Go.Proofs.YtmjkmoahkanblaaGreat
open Go.RowKit
theorem np_none{w w':World}{K:Nat}{e:Ending}(h:NewPiece w K true 0 0 1 false 0 0 1 false e w')(hK:K≤1048576):NewPcV w (fun _ _=>((M:Int),-(M:Int))) e w':=by
 obtain⟨g,A,n,c,B,m,d,g',A',n',c',B',m',d',rfl,h1,h2,hb⟩:=h
 exact⟨_,_,_,_,_,_,_,_,_,_,_,_,_,_,_,_,_,_,_,_,_,rfl,pcv_nothing h1 h2 hK (by omega) (by omega),hb⟩
theorem np_some{w w':World}{K:Nat}{s1 s2:Int}{x1 x2:Rat}{o1 o2:Bool}{e:Ending}(h:NewPiece w K false s1 x1 1 o1 s2 x2 1 o2 e w')(hK:34≤K)(hK2:K≤1048576)(hs1:s1=0∨s1=-1)(hs2:s2=0∨s2=1)(hle:dn s1 x1≤up s2 x2):NewPcV w (pf s1 x1 o1 s2 x2 o2) e w':=by
 obtain⟨g,A,n,c,B,m,d,g',A',n',c',B',m',d',rfl,h1,h2,hb⟩:=h
 exact⟨_,_,_,_,_,_,_,_,_,_,_,_,_,_,_,_,_,_,_,_,_,rfl,pcv_one h1 h2 hK hK2 hs1 hs2 hle,hb⟩
theorem esx_sgn{i:Int}(h:-(M:Int)≤i∧i≤M):esx (es i) (ex i)=if 0<i then 1 else if i<0 then -1 else 0:=by
 have k:=esx_idx h
 have r:-1≤esx (es i) (ex i)∧esx (es i) (ex i)≤1:=by
  unfold esx es rsg
  split<;>(repeat' split)<;>omega
 split
 ·omega
 ·split<;>omega
theorem esx_inf{i:Int}(h:es i≠0):esx (es i) (ex i)=es i:=if_pos h
theorem p6_any(a b:Int)(g1:Bool)(A1:Option Addr)(n1 c1:Nat)(B1:Option Addr)(m1 d1:Nat)(g2:Bool)(A2:Option Addr)(n2 c2:Nat)(B2:Option Addr)(m2 d2:Nat)(w:World)(h1:RatV w 34 g1 (.slice A1 n1 c1) (.slice B1 m1 d1) (ex a))(h2:RatV w 34 g2 (.slice A2 n2 c2) (.slice B2 m2 d2) (ex b))(ha:-(M:Int)≤a∧a≤M)(hb:-(M:Int)≤b∧b≤M):
  Calls Tryz.prog 175 #[.agg #[.int .i64 (es a),.bool g1,.slice A1 n1 c1,.slice B1 m1 d1],.agg #[.int .i64 (es b),.bool g2,.slice A2 n2 c2,.slice B2 m2 d2]] w (NewEnd w 68 (pq a b).1 (pq a b).2):=by
 have S1:=fun W (hW:Below w.heap.size w W)=>sign6_any 34 (es a) g1 A1 n1 c1 B1 m1 d1 (ex a) W (h1.below hW) (by omega);have S2:=fun W (hW:Below w.heap.size w W)=>sign6_any 34 (es b) g2 A2 n2 c2 B2 m2 d2 (ex b) W (h2.below hW) (by omega);have v1:=esx_sgn ha;have v2:=esx_sgn hb
 by_cases z1:a=0
 ·have e:pq a b=(0,0):=if_pos (.inl z1);rw [if_neg (by omega),if_neg (by omega)] at v1;rw [v1] at S1;rw [e]
  exact (p6_zeroa _ _ _ _ _ _ _ _ _ _ _ _ _ _ _ _ w S1).mono fun _ _ h=>h.up (by omega)
 ·have w1:esx (es a) (ex a)=if 0<a then 1 else -1:=by
   rw [v1]
   by_cases p:0<a
   ·rw [if_pos p,if_pos p]
   ·rw [if_neg p,if_neg p,if_pos (by omega)]
  have o1:esx (es a) (ex a)=1∨esx (es a) (ex a)=-1:=by rw [w1];split<;>omega
  have hz:(esx (es a) (ex a) == 0)=false:=by rcases o1 with o | o<;>rw [o]<;>rfl
  by_cases z2:b=0
  ·have e:pq a b=(0,0):=if_pos (.inr z2);rw [if_neg (by omega),if_neg (by omega)] at v2;rw [v2] at S2;rw [e]
   exact (p6_zerob _ _ _ _ _ _ _ _ _ _ _ _ _ _ _ _ _ w S1 hz S2).mono fun _ _ h=>h.up (by omega)
  ·have w2:esx (es b) (ex b)=if 0<b then 1 else -1:=by
    rw [v2]
    by_cases p:0<b
    ·rw [if_pos p,if_pos p]
    ·rw [if_neg p,if_neg p,if_pos (by omega)]
   have o2:esx (es b) (ex b)=1∨esx (es b) (ex b)=-1:=by rw [w2];split<;>omega
   have hz2:(esx (es b) (ex b) == 0)=false:=by rcases o2 with o | o<;>rw [o]<;>rfl
   by_cases k:es a≠0∨es b≠0
   ·have e:pq a b=(esx (es a) (ex a)*esx (es b) (ex b),0):=by
     unfold pq;rw [if_neg (by omega),if_pos k,w1,w2]
    rw [e]
    by_cases k1:es a=0
    ·have k2:es b≠0:=by rcases k with k | k;exact absurd k1 k;exact k
     rw [k1] at S1;rw [k1] at o1 w1 ⊢;rw [esx_inf k2] at S2 o2 ⊢
     exact (p6_farb _ _ _ _ _ _ _ _ _ _ _ _ _ _ _ _ w S1 S2 o1 o2).mono fun _ _ h=>h.up (by omega)
    ·rw [esx_inf k1] at S1 o1 ⊢
     exact (p6_fara _ _ _ _ _ _ _ _ _ _ _ _ _ _ _ _ _ w S1 S2 o1 o2).mono fun _ _ h=>h.up (by omega)
   ·have k1:es a=0:=by omega
    have k2:es b=0:=by omega
    have e:pq a b=(0,fl a*fl b):=by
     unfold pq;rw [if_neg (by omega),if_neg k]
    have HM:=fun W (hW:Below w.heap.size w W)=>(rmul_v 34 g1 (.slice A1 n1 c1) (.slice B1 m1 d1) (ex a) g2 (.slice A2 n2 c2) (.slice B2 m2 d2) (ex b) W (h1.below hW) (h2.below hW) (by omega) (by omega)).mono fun _ _ h=>h.s;rw [k1] at S1 hz;rw [k2] at S2 hz2;rw [ex_zero k1,ex_zero k2] at HM;rw [k1,k2,e]
    exact p6_fin _ _ _ _ _ _ _ _ _ _ _ _ _ _ _ _ 68 _ w S1 hz S2 hz2 HM
theorem lesser_e(K:Nat)(e f:Int × Rat)(g1:Bool)(A1:Option Addr)(n1 c1:Nat)(B1:Option Addr)(m1 d1:Nat)(g2:Bool)(A2:Option Addr)(n2 c2:Nat)(B2:Option Addr)(m2 d2:Nat)(w:World)(h1:RatV w K g1 (.slice A1 n1 c1) (.slice B1 m1 d1) e.2)(h2:RatV w K g2 (.slice A2 n2 c2) (.slice B2 m2 d2) f.2)(hK:K≤1073741824):
  Calls Tryz.prog 176 #[.agg #[.int .i64 e.1,.bool g1,.slice A1 n1 c1,.slice B1 m1 d1],.agg #[.int .i64 f.1,.bool g2,.slice A2 n2 c2,.slice B2 m2 d2]] w (NewEnd w K (eL e f).1 (eL e f).2):=by
 have h:=lesser_any K e.1 g1 A1 n1 c1 B1 m1 d1 e.2 f.1 g2 A2 n2 c2 B2 m2 d2 f.2 w h1 h2 hK;unfold eL
 by_cases k:ec f.1 f.2 e.1 e.2<0
 ·rw [if_pos k,if_pos k] at h;rw [if_pos k];exact h
 ·rw [if_neg k,if_neg k] at h;rw [if_neg k];exact h
theorem greater_e(K:Nat)(e f:Int × Rat)(g1:Bool)(A1:Option Addr)(n1 c1:Nat)(B1:Option Addr)(m1 d1:Nat)(g2:Bool)(A2:Option Addr)(n2 c2:Nat)(B2:Option Addr)(m2 d2:Nat)(w:World)(h1:RatV w K g1 (.slice A1 n1 c1) (.slice B1 m1 d1) e.2)(h2:RatV w K g2 (.slice A2 n2 c2) (.slice B2 m2 d2) f.2)(hK:K≤1073741824):
  Calls Tryz.prog 177 #[.agg #[.int .i64 e.1,.bool g1,.slice A1 n1 c1,.slice B1 m1 d1],.agg #[.int .i64 f.1,.bool g2,.slice A2 n2 c2,.slice B2 m2 d2]] w (NewEnd w K (eG e f).1 (eG e f).2):=by
 have h:=greater_any K e.1 g1 A1 n1 c1 B1 m1 d1 e.2 f.1 g2 A2 n2 c2 B2 m2 d2 f.2 w h1 h2 hK;unfold eG
 by_cases k:0<ec f.1 f.2 e.1 e.2
 ·rw [if_pos k,if_pos k] at h;rw [if_pos k];exact h
 ·rw [if_neg k,if_neg k] at h;rw [if_neg k];exact h
def tZ(i1 j1 i2 j2:Int)(e:Int × Rat):Int × Rat:=if j1<i1∨j2<i2 then (0,0) else e
theorem times6_any(u v:Value)(i1 j1 i2 j2:Int)(w:World)(hu:SetOf w u i1 j1)(hv:SetOf w v i2 j2):
  Calls Tryz.prog 118 #[u,v] w (NewSet w 68 (decide (j1<i1∨j2<i2)) (tZ i1 j1 i2 j2 (tA i1 j1 i2 j2)).1 (tZ i1 j1 i2 j2 (tA i1 j1 i2 j2)).2 (tZ i1 j1 i2 j2 (tB i1 j1 i2 j2)).1 (tZ i1 j1 i2 j2 (tB i1 j1 i2 j2)).2):=by
 have hM:(M:Int)=9218868437227405312:=rfl
 have up:∀ e w',NewSet w 1 true 0 0 0 0 e w'→NewSet w 68 true 0 0 0 0 e w':=by
  rintro e w' ⟨g,A,n,c,B,m,d,g',A',n',c',B',m',d',rfl,h1,h2,hb⟩
  exact⟨g,A,n,c,B,m,d,g',A',n',c',B',m',d',rfl,h1.mono (by omega),h2.mono (by omega),hb⟩
 unfold tZ
 by_cases k:j1<i1∨j2<i2
 ·rw [if_pos k,if_pos k,decide_eq_true k]
  rcases hu with ⟨-,-,s,x,t,y,g,A,n,c,B,m,d,g',A',n',c',B',m',d',rfl,h4,h5⟩ | ⟨h1,g,A,n,c,B,m,d,g',A',n',c',B',m',d',rfl,h4,h5⟩
  ·obtain⟨o,s3,g3,A3,n3,c3,B3,m3,d3,s4,g4,A4,n4,c4,B4,m4,d4,rfl⟩:=hv.cells
   exact (times_none _ _ _ _ _ _ _ _ _ _ _ _ _ _ _ _ _ _ _ _ _ _ _ _ _ _ _ _ _ _ _ _ _ _ w (.inl rfl)).mono up
  ·rcases hv with ⟨-,-,s3,x3,t3,y3,g3,A3,n3,c3,B3,m3,d3,g4,A4,n4,c4,B4,m4,d4,rfl,-,-⟩ | ⟨h1',-⟩
   ·exact (times_none _ _ _ _ _ _ _ _ _ _ _ _ _ _ _ _ _ _ _ _ _ _ _ _ _ _ _ _ _ _ _ _ _ _ w (.inr ⟨rfl,rfl⟩)).mono up
   ·exfalso;omega
 ·rw [if_neg k,if_neg k,decide_eq_false k]
  rcases hu with ⟨e1,e2,-⟩ | ⟨h1,g1,A1,n1,c1,B1,m1,d1,g2,A2,n2,c2,B2,m2,d2,rfl,q1,q2⟩
  ·exfalso;omega
  ·rcases hv with ⟨e1,e2,-⟩ | ⟨h2,g3,A3,n3,c3,B3,m3,d3,g4,A4,n4,c4,B4,m4,d4,rfl,q3,q4⟩
   ·exfalso;omega
   ·exact times_some 34 68 _ _ _ _ _ _ _ _ _ _ _ _ _ _ _ _ _ _ _ _ _ _ _ _ _ _ _ _ _ _ _ _ _ _ _ _ _ _ _ _ _ _ _ _ _ _ _ _ _ _ _ _ _ _ _ _ w q1 q2 q3 q4
     (fun W g A n c B m d g' A' n' c' B' m' d' a b=>p6_any i1 i2 g A n c B m d g' A' n' c' B' m' d' W a b (by omega) (by omega))
     (fun W g A n c B m d g' A' n' c' B' m' d' a b=>p6_any i1 j2 g A n c B m d g' A' n' c' B' m' d' W a b (by omega) (by omega))
     (fun W g A n c B m d g' A' n' c' B' m' d' a b=>p6_any j1 i2 g A n c B m d g' A' n' c' B' m' d' W a b (by omega) (by omega))
     (fun W g A n c B m d g' A' n' c' B' m' d' a b=>p6_any j1 j2 g A n c B m d g' A' n' c' B' m' d' W a b (by omega) (by omega))
     (fun W g A n c B m d g' A' n' c' B' m' d' a b=>lesser_e 68 (pq i1 i2) (pq i1 j2) g A n c B m d g' A' n' c' B' m' d' W a b (by omega))
     (fun W g A n c B m d g' A' n' c' B' m' d' a b=>lesser_e 68 (pq j1 i2) (pq j1 j2) g A n c B m d g' A' n' c' B' m' d' W a b (by omega))
     (fun W g A n c B m d g' A' n' c' B' m' d' a b=>lesser_e 68 (eL (pq i1 i2) (pq i1 j2)) (eL (pq j1 i2) (pq j1 j2)) g A n c B m d g' A' n' c' B' m' d' W a b (by omega))
     (fun W g A n c B m d g' A' n' c' B' m' d' a b=>greater_e 68 (pq i1 i2) (pq i1 j2) g A n c B m d g' A' n' c' B' m' d' W a b (by omega))
     (fun W g A n c B m d g' A' n' c' B' m' d' a b=>greater_e 68 (pq j1 i2) (pq j1 j2) g A n c B m d g' A' n' c' B' m' d' W a b (by omega))
     (fun W g A n c B m d g' A' n' c' B' m' d' a b=>greater_e 68 (eG (pq i1 i2) (pq i1 j2)) (eG (pq j1 i2) (pq j1 j2)) g A n c B m d g' A' n' c' B' m' d' W a b (by omega))
theorem left_inf{c:Int}{e:Int × Rat}(he:EOk e)(h:es2 (es c) (-e.1)≠0):ex2 (es c) (ex c) (-e.1) (-e.2)=0:=by
 unfold es2 at h;unfold ex2
 by_cases k:es c=0
 ·rw [if_neg (by omega)] at h;rw [if_neg (by omega),if_pos h,he.2 (by omega)];grind
 ·rw [if_pos k,ex_inf k]
theorem sum_nothing{w w':World}{e:Ending}(h:NewSet w 1 true 0 0 0 0 e w'):∃ r,e=.returned r∧PieP w' r (fun _ _=>((M:Int),-(M:Int)))∧Below w.heap.size w w':=by
 obtain⟨g,A,n,c,B,m,d,g',A',n',c',B',m',d',rfl,h1,h2,hb⟩:=h
 exact⟨_,rfl,fun W hW=>(piece_none 1 _ _ _ _ _ _ _ _ 0 _ _ _ _ _ _ _ _ 0 W).mono fun _ _ h=>np_none h (by omega),hb⟩
theorem mis_any(i1 j1 i2 j2 c1 c2:Int)(g5:Bool)(A5:Option Addr)(n5 e5:Nat)(B5:Option Addr)(m5 d5:Nat)(g6:Bool)(A6:Option Addr)(n6 e6:Nat)(B6:Option Addr)(m6 d6:Nat)(w:World)(hi1:Iv i1 j1)(hi2:Iv i2 j2)(hc:Iv c1 c2)
  (h5:RatV w 68 g5 (.slice A5 n5 e5) (.slice B5 m5 d5) (tZ i1 j1 i2 j2 (tA i1 j1 i2 j2)).2)(h6:RatV w 68 g6 (.slice A6 n6 e6) (.slice B6 m6 d6) (tZ i1 j1 i2 j2 (tB i1 j1 i2 j2)).2):
  Calls Tryz.prog 58 #[.agg #[.bool (decide (j1<i1∨j2<i2)),.int .i64 (tZ i1 j1 i2 j2 (tA i1 j1 i2 j2)).1,.bool g5,.slice A5 n5 e5,.slice B5 m5 d5,.int .i64 (tZ i1 j1 i2 j2 (tB i1 j1 i2 j2)).1,.bool g6,.slice A6 n6 e6,.slice B6 m6 d6]] w
   fun e w'=>∃ t,e=.returned t∧PlsP w' t c1 c2 (Fad i1 j1 i2 j2 c1 c2)∧Below w.heap.size w w':=by
 have hM:(M:Int)=9218868437227405312:=rfl;unfold tZ at *
 by_cases k:j1<i1∨j2<i2
 ·rw [if_pos k] at h5 h6 ⊢;rw [if_pos k,decide_eq_true k];have e:Fad i1 j1 i2 j2 c1 c2=fun _ _=>((M:Int),-(M:Int)):=if_pos (by omega);rw [e];refine (minus_none 68 _ _ _ _ _ _ _ _ _ _ _ _ _ _ _ _ _ _ w h5 h6).mono ?_;rintro _ w' ⟨g,A,n,c,B,m,d,g',A',n',c',B',m',d',rfl,r1,r2,hb⟩;refine⟨_,rfl,fun W u hW hu=>?_,hb⟩
  rcases hu with ⟨-,-,s3,x3,t3,y3,g3,A3,n3,c3,B3,m3,d3,g4,A4,n4,c4,B4,m4,d4,rfl,-,-⟩ | ⟨-,g3,A3,n3,c3,B3,m3,d3,g4,A4,n4,c4,B4,m4,d4,rfl,-,-⟩
  ·exact (plus6_none1 _ _ _ _ _ _ _ _ _ _ _ _ _ _ _ _ _ _ _ _ _ _ _ _ _ _ _ _ _ _ _ _ _ W).mono fun _ _ h=>sum_nothing h
  ·exact (plus6_none2 _ _ _ _ _ _ _ _ _ _ _ _ _ _ _ _ _ _ _ _ _ _ _ _ _ _ _ _ _ _ _ _ W).mono fun _ _ h=>sum_nothing h
 ·rw [if_neg k] at h5 h6 ⊢;rw [if_neg k,decide_eq_false k];have n1:=ne_or hi1 (by omega);have n2:=ne_or hi2 (by omega);have oA:=tA_ok i1 j1 i2 j2;have oB:=tB_ok i1 j1 i2 j2;refine (minus_some 68 _ _ _ _ _ _ _ _ _ _ _ _ _ _ _ _ _ _ w h5 h6 (by omega) (by have:=oA.1;omega) (by have:=oB.1;omega)).mono ?_;rintro _ w' ⟨g,A,n,c,B,m,d,g',A',n',c',B',m',d',rfl,r1,r2,hb⟩;refine⟨_,rfl,fun W u hW hu=>?_,hb⟩
  rcases hu with ⟨e1,e2,s3,x3,t3,y3,g3,A3,n3,c3,B3,m3,d3,g4,A4,n4,c4,B4,m4,d4,rfl,-,-⟩ | ⟨h3,g3,A3,n3,c3,B3,m3,d3,g4,A4,n4,c4,B4,m4,d4,rfl,q3,q4⟩
  ·have e:Fad i1 j1 i2 j2 c1 c2=fun _ _=>((M:Int),-(M:Int)):=if_pos (by omega);rw [e]
   exact (plus6_none1 _ _ _ _ _ _ _ _ _ _ _ _ _ _ _ _ _ _ _ _ _ _ _ _ _ _ _ _ _ _ _ _ _ W).mono fun _ _ h=>sum_nothing h
  ·have e:Fad i1 j1 i2 j2 c1 c2=_:=if_neg (show ¬ (j1<i1∨j2<i2∨c2<c1) by omega);rw [e];refine (plus6_some 68 _ _ _ _ _ _ _ _ _ _ _ _ _ _ _ _ _ _ _ _ _ _ _ _ _ _ _ _ _ _ _ _ _ _ _ _ W (q3.mono (by omega)) (q4.mono (by omega)) (r1.below hW) (r2.below hW) (by omega)).mono ?_;rintro _ w'' ⟨g7,A7,n7,c7,B7,m7,d7,g8,A8,n8,c8,B8,m8,d8,rfl,p1,p2,hb2⟩;refine⟨_,rfl,fun W2 hW2=>?_,hb2⟩;refine (piece_some 137 _ _ _ _ _ _ _ _ _ _ _ _ _ _ _ _ _ _ W2 (p1.below hW2) (p2.below hW2) (by omega) (left_inf oB) (left_inf oA)).mono fun _ _ h=>np_some h (by omega) (by omega) (left_lo n1 n2 (by omega)) (left_hi n1 n2 (by omega)) ?_;rw [dn_De (by omega) oB,up_De (by omega) oA]
   exact left_le (by omega) (by omega) (by omega)
theorem zg_one(i j:Int)(F:Int→Int→Int × Int):zg i j (fun _=>F) 1=F i j:=by
 have hM:(M:Int)=9218868437227405312:=rfl
 show hl M (-(M:Int)) _ _=_
 unfold hl;rw [if_pos (by omega)]
theorem reffmaadd_any(a1 a2 b1 b2 c1 c2 x y:Nat)(w:World)(ha1:a1<18446744073709551616)(ha2:a2<18446744073709551616)(hb1:b1<18446744073709551616)(hb2:b2<18446744073709551616)(hc1:c1<18446744073709551616)(hc2:c2<18446744073709551616)(hx:x<18446744073709551616)(hy:y<18446744073709551616):
  Calls Tryz.prog 47 #[.agg #[.int .u64 (a1:Int),.int .u64 (a2:Int)],.agg #[.int .u64 (b1:Int),.int .u64 (b2:Int)],.agg #[.int .u64 (c1:Int),.int .u64 (c2:Int)],.agg #[.int .u64 (x:Int),.int .u64 (y:Int)]] w fun e w'=>
   e=.returned (.agg #[.int .u64 (pat (fad (rd a1 a2).1 (rd a1 a2).2 (rd b1 b2).1 (rd b1 b2).2 (rd c1 c2).1 (rd c1 c2).2 (rd x y).1 (rd x y).2).1:Int),.int .u64 (pat (fad (rd a1 a2).1 (rd a1 a2).2 (rd b1 b2).1 (rd b1 b2).2 (rd c1 c2).1 (rd c1 c2).2 (rd x y).1 (rd x y).2).2:Int)])∧Below w.heap.size w w':=by
 rw [← fad_Fad (rd_iv a1 a2) (rd_iv b1 b2) (rd_iv c1 c2) (rd_iv x y),← zg_one (rd x y).1 (rd x y).2 (Fad (rd a1 a2).1 (rd a1 a2).2 (rd b1 b2).1 (rd b1 b2).2 (rd c1 c2).1 (rd c1 c2).2)]
 exact reffmaadd_walk a1 a2 b1 b2 c1 c2 x y _ _ _ _ _ _ 68 _ _ _ _ _ _ _ w hx hy (fun W=>of_idx a1 a2 W ha1 ha2) (fun W=>of_idx b1 b2 W hb1 hb2) (fun W=>of_idx c1 c2 W hc1 hc2) (fun W u v h1 h2=>times6_any u v _ _ _ _ W h1 h2)
  (fun W g A n c B m d g' A' n' c' B' m' d' h5 h6=>mis_any _ _ _ _ _ _ g A n c B m d g' A' n' c' B' m' d' W (rd_iv a1 a2) (rd_iv b1 b2) (rd_iv c1 c2) h5 h6) rfl
def nFm(i1 j1 i4 j4 i3 j3:Int):Nat:=if j1<i1∨j4<i4∨j3<i3 then 0 else nF i1 j1 (es2 (es i3) (es i4)) (ex2 (es i3) (ex i3) (es i4) (ex i4)) (es2 (es j3) (es j4)) (ex2 (es j3) (ex j3) (es j4) (ex j4))
def LFm(i1 j1 i4 j4 i3 j3:Int):Nat→Int→Int→Int × Int:=LF i1 j1 (es2 (es i3) (es i4)) (ex2 (es i3) (ex i3) (es i4) (ex i4)) (es2 (es j3) (es j4)) (ex2 (es j3) (ex j3) (es j4) (ex j4))
theorem facp_nothing{w w':World}{e:Ending}{i1 j1:Int}(L:Nat→Int→Int→Int × Int)(h:NewSet w 1 true 0 0 0 0 e w'):∃ r,e=.returned r∧FacP w' r i1 j1 0 L∧Below w.heap.size w w':=by
 obtain⟨g,A,n,c,B,m,d,g',A',n',c',B',m',d',rfl,h1,h2,hb⟩:=h;refine⟨_,rfl,fun W v hW hv=>?_,hb⟩;obtain⟨o,s3,g3,A3,n3,c3,B3,m3,d3,s4,g4,A4,n4,c4,B4,m4,d4,rfl⟩:=hv.cells
 exact factors_nil _ _ _ _ _ _ _ _ _ _ _ _ _ _ _ _ _ _ _ _ _ _ _ _ _ _ _ _ _ _ _ _ _ _ _ W (.inl rfl)
theorem plus_fac(u v:Value)(i1 j1 i3 j3 i4 j4:Int)(w:World)(hu:SetOf w u i3 j3)(hv:SetOf w v i4 j4):
  Calls Tryz.prog 56 #[u,v] w fun e w'=>∃ r,e=.returned r∧FacP w' r i1 j1 (nFm i1 j1 i4 j4 i3 j3) (LFm i1 j1 i4 j4 i3 j3)∧Below w.heap.size w w':=by
 have hM:(M:Int)=9218868437227405312:=rfl
 rcases hu with ⟨e1,e2,s1,x1,t1,y1,g1,A1,n1,c1,B1,m1,d1,g2,A2,n2,c2,B2,m2,d2,rfl,-,-⟩ | ⟨h1,g1,A1,n1,c1,B1,m1,d1,g2,A2,n2,c2,B2,m2,d2,rfl,q1,q2⟩
 ·have e:nFm i1 j1 i4 j4 i3 j3=0:=if_pos (by omega);rw [e];obtain⟨o,s3,g3,A3,n3,c3,B3,m3,d3,s4,g4,A4,n4,c4,B4,m4,d4,rfl⟩:=hv.cells
  exact (plus6_none1 _ _ _ _ _ _ _ _ _ _ _ _ _ _ _ _ _ _ _ _ _ _ _ _ _ _ _ _ _ _ _ _ _ w).mono fun _ _ h=>facp_nothing _ h
 ·rcases hv with ⟨e1,e2,s3,x3,t3,y3,g3,A3,n3,c3,B3,m3,d3,g4,A4,n4,c4,B4,m4,d4,rfl,-,-⟩ | ⟨h2,g3,A3,n3,c3,B3,m3,d3,g4,A4,n4,c4,B4,m4,d4,rfl,q3,q4⟩
  ·have e:nFm i1 j1 i4 j4 i3 j3=0:=if_pos (by omega);rw [e]
   exact (plus6_none2 _ _ _ _ _ _ _ _ _ _ _ _ _ _ _ _ _ _ _ _ _ _ _ _ _ _ _ _ _ _ _ _ w).mono fun _ _ h=>facp_nothing _ h
  ·refine (plus6_some 34 _ _ _ _ _ _ _ _ _ _ _ _ _ _ _ _ _ _ _ _ _ _ _ _ _ _ _ _ _ _ _ _ _ _ _ _ w q1 q2 q3 q4 (by omega)).mono ?_;rintro _ w' ⟨g7,A7,n7,c7,B7,m7,d7,g8,A8,n8,c8,B8,m8,d8,rfl,p1,p2,hb⟩;refine⟨_,rfl,fun W v hW hv=>?_,hb⟩
   by_cases k:j1<i1
   ·have e:nFm i1 j1 i4 j4 i3 j3=0:=if_pos (by omega);rw [e]
    rcases hv with ⟨-,-,s3,x3,t3,y3,g5,A5,n5,c5,B5,m5,d5,g6,A6,n6,c6,B6,m6,d6,rfl,-,-⟩ | ⟨hb,-⟩
    ·exact factors_nil _ _ _ _ _ _ _ _ _ _ _ _ _ _ _ _ _ _ _ _ _ _ _ _ _ _ _ _ _ _ _ _ _ _ _ W (.inr rfl)
    ·exfalso;omega
   ·have e:nFm i1 j1 i4 j4 i3 j3=nF i1 j1 (es2 (es i3) (es i4)) (ex2 (es i3) (ex i3) (es i4) (ex i4)) (es2 (es j3) (es j4)) (ex2 (es j3) (ex j3) (es j4) (ex j4)):=if_neg (by omega);rw [e]
    exact factors_num 69 _ g7 A7 n7 c7 B7 m7 d7 _ _ g8 A8 n8 c8 B8 m8 d8 _ v i1 j1 W (p1.below hW) (p2.below hW) (by omega) (by omega) (numok_sum h1 h2) hv (ne_or hv.iv k)
theorem fmr_zg{i1 j1 iz jz i2 j2 i3 j3:Int}(h1:Iv i1 j1)(hz:Iv iz jz)(h2:Iv i2 j2)(h3:Iv i3 j3):
  fmr i1 j1 iz jz i2 j2 i3 j3=zg i3 j3 (LFm i1 j1 (-jz) (-iz) i2 j2) (nFm i1 j1 (-jz) (-iz) i2 j2):=by
 have hM:(M:Int)=9218868437227405312:=rfl;unfold fmr nFm LFm
 by_cases h:j1<i1∨jz<iz∨j2<i2
 ·rw [if_pos (show j1<i1∨-iz < -jz∨j2<i2 by omega),if_pos (by omega)];rfl
 ·rw [if_neg (show ¬ (j1<i1∨-iz < -jz∨j2<i2) by omega),zg_fa (numok_sum (ne_or h2 (by omega)) (ne_or hz (by omega)).neg) (ne_or h1 (by omega)) h3]
  by_cases h':j3<i3
  ·rw [if_pos h',if_pos (by omega)]
  ·rw [if_neg h',if_neg (by omega)]
theorem reffma_any(b1 b2 z1 z2 c1 c2 x y:Nat)(w:World)(hb1:b1<18446744073709551616)(hb2:b2<18446744073709551616)(hz1:z1<18446744073709551616)(hz2:z2<18446744073709551616)(hc1:c1<18446744073709551616)(hc2:c2<18446744073709551616)(hx:x<18446744073709551616)(hy:y<18446744073709551616):
  Calls Tryz.prog 45 #[.agg #[.int .u64 (b1:Int),.int .u64 (b2:Int)],.agg #[.int .u64 (z1:Int),.int .u64 (z2:Int)],.agg #[.int .u64 (c1:Int),.int .u64 (c2:Int)],.agg #[.int .u64 (x:Int),.int .u64 (y:Int)]] w fun e w'=>
   e=.returned (.agg #[.int .u64 (pat (fmr (rd b1 b2).1 (rd b1 b2).2 (rd z1 z2).1 (rd z1 z2).2 (rd c1 c2).1 (rd c1 c2).2 (rd x y).1 (rd x y).2).1:Int),.int .u64 (pat (fmr (rd b1 b2).1 (rd b1 b2).2 (rd z1 z2).1 (rd z1 z2).2 (rd c1 c2).1 (rd c1 c2).2 (rd x y).1 (rd x y).2).2:Int)])∧Below w.heap.size w w':=by
 rw [fmr_zg (rd_iv b1 b2) (rd_iv z1 z2) (rd_iv c1 c2) (rd_iv x y)];refine reffma_walk b1 b2 z1 z2 c1 c2 x y _ _ _ _ _ _ _ _ _ _ w hx hy ?_ (fun W=>of_idx c1 c2 W hc1 hc2) (fun W=>of_idx z1 z2 W hz1 hz2) (fun W=>of_idx b1 b2 W hb1 hb2) (fun W v h=>minus_idx v _ _ W h) (fun W u v h1 h2=>plus_fac u v _ _ _ _ _ _ W h1 h2);unfold nFm nF
 split<;>(try split)<;>omega
end Go.Proofs.YtmjkmoahkanblaaGreat
namespace Go.Proofs.YtmjkmoahkanblaaGreat
open Go.RowKit
attribute [local go_sem] run_store_float
set_option maxRecDepth 4000 in
theorem fuses_law(a1 a2 b1 b2 c1 c2 x y:Nat)(w:World)(ha1:a1<18446744073709551616)(ha2:a2<18446744073709551616)(hb1:b1<18446744073709551616)(hb2:b2<18446744073709551616)(hc1:c1<18446744073709551616)(hc2:c2<18446744073709551616)(hx:x<18446744073709551616)(hy:y<18446744073709551616):
  Calls Tryz.prog 10 #[.agg #[.int .u64 (a1:Int),.int .u64 (a2:Int),.int .u64 (b1:Int),.int .u64 (b2:Int),.int .u64 (c1:Int),.int .u64 (c2:Int),.int .u64 (x:Int),.int .u64 (y:Int)]] w fun e w'=>e=.returned (.bool true)∧Below w.heap.size w w':=by
 have R1:=Hd fun W=>fmarev_any a1 a2 b1 b2 c1 c2 x y W ha1 ha2 hb1 hb2 hc1 hc2 hx hy;have R2:=Hd fun W=>reffma_any a1 a2 b1 b2 c1 c2 x y W ha1 ha2 hb1 hb2 hc1 hc2 hx hy;have R3:=Hd fun W=>fmaadd_any a1 a2 b1 b2 c1 c2 x y W ha1 ha2 hb1 hb2 hc1 hc2 hx hy;have R4:=Hd fun W=>reffmaadd_any a1 a2 b1 b2 c1 c2 x y W ha1 ha2 hb1 hb2 hc1 hc2 hx hy
 obtain⟨P0,ea0⟩:∃ z,pat (fmr (rd a1 a2).1 (rd a1 a2).2 (rd b1 b2).1 (rd b1 b2).2 (rd c1 c2).1 (rd c1 c2).2 (rd x y).1 (rd x y).2).1=z:=⟨_,rfl⟩
 obtain⟨Q0,eb0⟩:∃ z,pat (fmr (rd a1 a2).1 (rd a1 a2).2 (rd b1 b2).1 (rd b1 b2).2 (rd c1 c2).1 (rd c1 c2).2 (rd x y).1 (rd x y).2).2=z:=⟨_,rfl⟩
 rw [ea0,eb0] at R1 R2;have O1:=Hd fun W=>law_out P0 Q0 W
 obtain⟨P1,ea1⟩:∃ z,pat (fad (rd a1 a2).1 (rd a1 a2).2 (rd b1 b2).1 (rd b1 b2).2 (rd c1 c2).1 (rd c1 c2).2 (rd x y).1 (rd x y).2).1=z:=⟨_,rfl⟩
 obtain⟨Q1,eb1⟩:∃ z,pat (fad (rd a1 a2).1 (rd a1 a2).2 (rd b1 b2).1 (rd b1 b2).2 (rd c1 c2).1 (rd c1 c2).2 (rd x y).1 (rd x y).2).2=z:=⟨_,rfl⟩
 rw [ea1,eb1] at R3 R4;have O2:=Hd fun W=>law_out P1 Q1 W;have I1:=Hd fun W=>law_in a1 a2 W;have I2:=Hd fun W=>law_in b1 b2 W;have I3:=Hd fun W=>law_in c1 c2 W;have I4:=Hd fun W=>law_in x y W;clear ea0 eb0 ea1 eb1 ha1 ha2 hb1 hb2 hc1 hc2 hx hy;obtain⟨LB0,LG0_0⟩:=bx1 w #[.int .u64 (a1:Int),.int .u64 (a2:Int),.int .u64 (b1:Int),.int .u64 (b2:Int),.int .u64 (c1:Int),.int .u64 (c2:Int),.int .u64 (x:Int),.int .u64 (y:Int)] 44
 go_enter Tryz.func10,Tryz.ntmps10
 obtain⟨q0_0,q0_1,q0_2,q0_3,q0_4,q0_5,q0_6,q0_7⟩:=LG0_0.out.c8;go_wp2_with fail;refine (I1.out _).mono ?_;rintro e w1 ⟨rfl,hb0⟩;have LB1:=stB LB0 hb0 LB0.out.size;have LG0_1:=stG LG0_0 hb0;clear LB0 LG0_0;clear hb0 q0_0 q0_1 q0_2 q0_3 q0_4 q0_5 q0_6 q0_7
 go_upto_region 2 with fail
 have LB2:=Hd (LB1.out.alloc LB1.out.size (.cells #[.float .f64 a1,.float .f64 a2] 29));have LG0_2:=Hd (LG0_1.out.alloc (.cells #[.float .f64 a1,.float .f64 a2] 29));have LG1_2:=Hd (Blk.new w1 29 #[.float .f64 a1,.float .f64 a2]);clear LB1 LG0_1
 obtain⟨V1,hV1⟩:∃ X,(w1.alloc (.cells #[.float .f64 a1,.float .f64 a2] 29))=X:=⟨_,rfl⟩
 rw [hV1] at LB2 LG0_2 LG1_2 ⊢;clear hV1;obtain⟨q0_0,q0_1,q0_2,q0_3,q0_4,q0_5,q0_6,q0_7⟩:=LG0_2.out.c8;go_wp2_with fail;refine (I2.out _).mono ?_;rintro e w2 ⟨rfl,hb1⟩;have LB3:=stB LB2 hb1 LB2.out.size;have LG0_3:=stG LG0_2 hb1;have LG1_3:=stG LG1_2 hb1;clear LB2 LG0_2 LG1_2;clear hb1 q0_0 q0_1 q0_2 q0_3 q0_4 q0_5 q0_6 q0_7
 go_upto_region 3 with fail
 have LB4:=Hd (LB3.out.alloc LB3.out.size (.cells #[.float .f64 b1,.float .f64 b2] 29));have LG0_4:=Hd (LG0_3.out.alloc (.cells #[.float .f64 b1,.float .f64 b2] 29));have LG1_4:=Hd (LG1_3.out.alloc (.cells #[.float .f64 b1,.float .f64 b2] 29));have LG2_4:=Hd (Blk.new w2 29 #[.float .f64 b1,.float .f64 b2]);clear LB3 LG0_3 LG1_3
 obtain⟨V2,hV2⟩:∃ X,(w2.alloc (.cells #[.float .f64 b1,.float .f64 b2] 29))=X:=⟨_,rfl⟩
 rw [hV2] at LB4 LG0_4 LG1_4 LG2_4 ⊢;clear hV2;obtain⟨q0_0,q0_1,q0_2,q0_3,q0_4,q0_5,q0_6,q0_7⟩:=LG0_4.out.c8;go_wp2_with fail;refine (I3.out _).mono ?_;rintro e w3 ⟨rfl,hb2⟩;have LB5:=stB LB4 hb2 LB4.out.size;have LG0_5:=stG LG0_4 hb2;have LG1_5:=stG LG1_4 hb2;have LG2_5:=stG LG2_4 hb2;clear LB4 LG0_4 LG1_4 LG2_4;clear hb2 q0_0 q0_1 q0_2 q0_3 q0_4 q0_5 q0_6 q0_7
 go_upto_region 4 with fail
 have LB6:=Hd (LB5.out.alloc LB5.out.size (.cells #[.float .f64 c1,.float .f64 c2] 29));have LG0_6:=Hd (LG0_5.out.alloc (.cells #[.float .f64 c1,.float .f64 c2] 29));have LG1_6:=Hd (LG1_5.out.alloc (.cells #[.float .f64 c1,.float .f64 c2] 29));have LG2_6:=Hd (LG2_5.out.alloc (.cells #[.float .f64 c1,.float .f64 c2] 29));have LG3_6:=Hd (Blk.new w3 29 #[.float .f64 c1,.float .f64 c2]);clear LB5 LG0_5 LG1_5 LG2_5
 obtain⟨V3,hV3⟩:∃ X,(w3.alloc (.cells #[.float .f64 c1,.float .f64 c2] 29))=X:=⟨_,rfl⟩
 rw [hV3] at LB6 LG0_6 LG1_6 LG2_6 LG3_6 ⊢;clear hV3;obtain⟨q0_0,q0_1,q0_2,q0_3,q0_4,q0_5,q0_6,q0_7⟩:=LG0_6.out.c8;go_wp2_with fail;refine (I4.out _).mono ?_;rintro e w4 ⟨rfl,hb3⟩;have LB7:=stB LB6 hb3 LB6.out.size;have LG0_7:=stG LG0_6 hb3;have LG1_7:=stG LG1_6 hb3;have LG2_7:=stG LG2_6 hb3;have LG3_7:=stG LG3_6 hb3;clear LB6 LG0_6 LG1_6 LG2_6 LG3_6;clear hb3 q0_0 q0_1 q0_2 q0_3 q0_4 q0_5 q0_6 q0_7
 go_upto_region 5 with fail
 have LB8:=Hd (LB7.out.alloc LB7.out.size (.cells #[.float .f64 x,.float .f64 y] 29));have LG0_8:=Hd (LG0_7.out.alloc (.cells #[.float .f64 x,.float .f64 y] 29));have LG1_8:=Hd (LG1_7.out.alloc (.cells #[.float .f64 x,.float .f64 y] 29));have LG2_8:=Hd (LG2_7.out.alloc (.cells #[.float .f64 x,.float .f64 y] 29));have LG3_8:=Hd (LG3_7.out.alloc (.cells #[.float .f64 x,.float .f64 y] 29));have LG4_8:=Hd (Blk.new w4 29 #[.float .f64 x,.float .f64 y]);clear LB7 LG0_7 LG1_7 LG2_7 LG3_7
 obtain⟨V4,hV4⟩:∃ X,(w4.alloc (.cells #[.float .f64 x,.float .f64 y] 29))=X:=⟨_,rfl⟩
 rw [hV4] at LB8 LG0_8 LG1_8 LG2_8 LG3_8 LG4_8 ⊢;clear hV4;refine wp_region_held_drew (S:=fun W'=>Blk W' w.heap.size 44 #[.int .u64 (a1:Int),.int .u64 (a2:Int),.int .u64 (b1:Int),.int .u64 (b2:Int),.int .u64 (c1:Int),.int .u64 (c2:Int),.int .u64 (x:Int),.int .u64 (y:Int)]∧Blk W' w1.heap.size 29 #[.float .f64 a1,.float .f64 a2]∧Blk W' w2.heap.size 29 #[.float .f64 b1,.float .f64 b2]∧Blk W' w3.heap.size 29 #[.float .f64 c1,.float .f64 c2]∧Blk W' w4.heap.size 29 #[.float .f64 x,.float .f64 y]∧Below w.heap.size w W') (by kernel_rfl) (by exact⟨LG0_8.out.drew,LG1_8.out.drew,LG2_8.out.drew,LG3_8.out.drew,LG4_8.out.drew,LB8.out.drew⟩) (fun hHeld=>?_);refine tk 0 ?_ (hv:=by intro W2 hSw;obtain⟨q0,q1⟩:=hSw.2.1.c2;go_simp;(try with_reducible rfl));(try simp only [Act.put,lay]);refine tk 1 ?_ (hv:=by intro W2 hSw;obtain⟨q0,q1⟩:=hSw.2.2.1.c2;go_simp;(try with_reducible rfl));(try simp only [Act.put,lay]);refine tk 2 ?_ (hv:=by intro W2 hSw;obtain⟨q0,q1⟩:=hSw.2.2.2.1.c2;go_simp;(try with_reducible rfl));(try simp only [Act.put,lay]);refine tk 3 ?_ (hv:=by intro W2 hSw;obtain⟨q0,q1⟩:=hSw.2.2.2.2.1.c2;go_simp;(try with_reducible rfl));(try simp only [Act.put,lay]);refine tk 6 ?_;(try simp only [Act.put,lay]);refine tk 7 ?_ (hv:=by intro W2 hSw;obtain⟨q0,q1,q2,q3,q4,q5,q6,q7⟩:=hSw.1.c8;go_simp;(try with_reducible rfl));(try simp only [Act.put,lay]);refine tk 8 ?_;(try simp only [Act.put,lay]);refine tk 9 ?_ (hv:=by intro W2 hSw;obtain⟨q0,q1,q2,q3,q4,q5,q6,q7⟩:=hSw.1.c8;go_simp;(try with_reducible rfl))
 (try simp only [Act.put,lay]);refine tk 10 ?_;(try simp only [Act.put,lay]);refine tk 11 ?_ (hv:=by intro W2 hSw;obtain⟨q0,q1,q2,q3,q4,q5,q6,q7⟩:=hSw.1.c8;go_simp;(try with_reducible rfl));(try simp only [Act.put,lay]);refine tk 12 ?_;(try simp only [Act.put,lay]);refine tk 13 ?_ (hv:=by intro W2 hSw;obtain⟨q0,q1,q2,q3,q4,q5,q6,q7⟩:=hSw.1.c8;go_simp;(try with_reducible rfl));(try simp only [Act.put,lay]);refine rdy 4 (fun KK hKK=>?_);go_simp;refine (R1.out _).mono ?_;rintro e wa ⟨rfl,hba⟩;go_wp2_with fail;refine hKK.out _ _ (⟨hHeld.1.keep hba,hHeld.2.1.keep hba,hHeld.2.2.1.keep hba,hHeld.2.2.2.1.keep hba,hHeld.2.2.2.2.1.keep hba,hHeld.2.2.2.2.2.trans (hba.mono hHeld.2.2.2.2.2.size)⟩) (fun _=>?_);clear hKK KK hHeld;rename_i hHeld;(try simp only [Act.put,lay]);refine rdy 5 (fun KK hKK=>?_);go_simp;refine (O1.out _).mono ?_;rintro e wb ⟨rfl,hbb⟩;go_wp2_with fail;refine hKK.out _ _ (⟨hHeld.1.keep hbb,hHeld.2.1.keep hbb,hHeld.2.2.1.keep hbb,hHeld.2.2.2.1.keep hbb,hHeld.2.2.2.2.1.keep hbb,hHeld.2.2.2.2.2.trans (hbb.mono hHeld.2.2.2.2.2.size)⟩) (fun _=>?_);clear hKK KK hHeld;rename_i hHeld;(try simp only [Act.put,lay]);refine rdy 14 (fun KK hKK=>?_);go_simp;refine (R2.out _).mono ?_;rintro e wc ⟨rfl,hbc⟩;go_wp2_with fail;refine hKK.out _ _ (⟨hHeld.1.keep hbc,hHeld.2.1.keep hbc,hHeld.2.2.1.keep hbc,hHeld.2.2.2.1.keep hbc,hHeld.2.2.2.2.1.keep hbc,hHeld.2.2.2.2.2.trans (hbc.mono hHeld.2.2.2.2.2.size)⟩) (fun _=>?_);clear hKK KK hHeld;rename_i hHeld;(try simp only [Act.put,lay]);refine tk 15 ?_
 (try simp only [Act.put,lay]);refine tk 16 ?_;(try simp only [Act.put,lay]);refine tk 17 ?_ (hv:=by intro W2 hSw;obtain⟨q0,q1⟩:=hSw.2.1.c2;go_simp;(try with_reducible rfl));(try simp only [Act.put,lay]);refine tk 18 ?_ (hv:=by intro W2 hSw;obtain⟨q0,q1⟩:=hSw.2.2.1.c2;go_simp;(try with_reducible rfl));(try simp only [Act.put,lay]);refine tk 19 ?_ (hv:=by intro W2 hSw;obtain⟨q0,q1⟩:=hSw.2.2.2.1.c2;go_simp;(try with_reducible rfl));(try simp only [Act.put,lay]);refine tk 20 ?_ (hv:=by intro W2 hSw;obtain⟨q0,q1⟩:=hSw.2.2.2.2.1.c2;go_simp;(try with_reducible rfl));(try simp only [Act.put,lay]);refine tk 23 ?_;(try simp only [Act.put,lay]);refine tk 24 ?_ (hv:=by intro W2 hSw;obtain⟨q0,q1,q2,q3,q4,q5,q6,q7⟩:=hSw.1.c8;go_simp;(try with_reducible rfl));(try simp only [Act.put,lay]);refine tk 25 ?_;(try simp only [Act.put,lay]);refine tk 26 ?_ (hv:=by intro W2 hSw;obtain⟨q0,q1,q2,q3,q4,q5,q6,q7⟩:=hSw.1.c8;go_simp;(try with_reducible rfl));(try simp only [Act.put,lay]);refine tk 27 ?_;(try simp only [Act.put,lay]);refine tk 28 ?_ (hv:=by intro W2 hSw;obtain⟨q0,q1,q2,q3,q4,q5,q6,q7⟩:=hSw.1.c8;go_simp;(try with_reducible rfl));(try simp only [Act.put,lay]);refine tk 29 ?_;(try simp only [Act.put,lay]);refine tk 30 ?_ (hv:=by intro W2 hSw;obtain⟨q0,q1,q2,q3,q4,q5,q6,q7⟩:=hSw.1.c8;go_simp;(try with_reducible rfl));(try simp only [Act.put,lay]);refine rdy 21 (fun KK hKK=>?_);go_simp;refine (R3.out _).mono ?_;rintro e wd ⟨rfl,hbd⟩;go_wp2_with fail;refine hKK.out _ _ (⟨hHeld.1.keep hbd,hHeld.2.1.keep hbd,hHeld.2.2.1.keep hbd,hHeld.2.2.2.1.keep hbd,hHeld.2.2.2.2.1.keep hbd,hHeld.2.2.2.2.2.trans (hbd.mono hHeld.2.2.2.2.2.size)⟩) (fun _=>?_)
 clear hKK KK hHeld;rename_i hHeld;(try simp only [Act.put,lay]);refine rdy 22 (fun KK hKK=>?_);go_simp;refine (O2.out _).mono ?_;rintro e we ⟨rfl,hbe⟩;go_wp2_with fail;refine hKK.out _ _ (⟨hHeld.1.keep hbe,hHeld.2.1.keep hbe,hHeld.2.2.1.keep hbe,hHeld.2.2.2.1.keep hbe,hHeld.2.2.2.2.1.keep hbe,hHeld.2.2.2.2.2.trans (hbe.mono hHeld.2.2.2.2.2.size)⟩) (fun _=>?_);clear hKK KK hHeld;rename_i hHeld;(try simp only [Act.put,lay]);refine rdy 31 (fun KK hKK=>?_);go_simp;refine (R4.out _).mono ?_;rintro e wf ⟨rfl,hbf⟩;go_wp2_with fail;refine hKK.out _ _ (⟨hHeld.1.keep hbf,hHeld.2.1.keep hbf,hHeld.2.2.1.keep hbf,hHeld.2.2.2.1.keep hbf,hHeld.2.2.2.2.1.keep hbf,hHeld.2.2.2.2.2.trans (hbf.mono hHeld.2.2.2.2.2.size)⟩) (fun _=>?_);clear hKK KK hHeld;rename_i hHeld;(try simp only [Act.put,lay]);refine tk 32 ?_;(try simp only [Act.put,lay]);refine tk 33 ?_;(try simp only [Act.put,lay]);refine tk 34 ?_;(try simp only [Act.put,lay]);refine wpAnyH_done (by kernel_rfl) ?_ _;have HF:=Hd hHeld.2.2.2.2.2;clear hHeld hba hbb hbc hbd hbe hbf R1 R2 R3 R4 O1 O2 I1 I2 I3 I4;go_wp2
 go_ret
 exact⟨rfl,HF.out⟩
end Go.Proofs.YtmjkmoahkanblaaGreat
