/-
Sets of read intervals: the calls of vergeref6 on them.
Walks: package vergeref10, all.
Walks: package vergeref10, all, whatever the pieces are.
Pieces whose bounds are numbers or infinities, open or not: what Within makes of them.
Plain: quotients by ends, as the program rounds them and as the reference has them.
-/
import Derived.Test.YtmjkmoahkanblaaGreatM29
import Derived.Test.YtmjkmoahkanblaaGreatM04
import Derived.Deep.DeepCutAuto
import Derived.Test.YtmjkmoahkanblaaGreatM10
import Derived.Test.YtmjkmoahkanblaaGreatM20
import Derived.Test.YtmjkmoahkanblaaGreatPIntsT
set_option linter.unusedSimpArgs false
set_option linter.unusedVariables false
set_option maxHeartbeats 12800000
namespace Go.Proofs.YtmjkmoahkanblaaGreat
open Go.RowKit
def SetOf(w:World)(v:Value)(i j:Int):Prop:=
 (i=M∧j=-(M:Int)∧∃ s x t y g A n c B m d g' A' n' c' B' m' d',v=.agg #[.bool true,.int .i64 s,.bool g,.slice A n c,.slice B m d,.int .i64 t,.bool g',.slice A' n' c',.slice B' m' d'] ∧
   RatV w 34 g (.slice A n c) (.slice B m d) x∧RatV w 34 g' (.slice A' n' c') (.slice B' m' d') y) ∨
 ((-(M:Int)≤i∧i≤j∧j≤M∧i<M∧-(M:Int)<j)∧∃ g A n c B m d g' A' n' c' B' m' d',v=.agg #[.bool false,.int .i64 (es i),.bool g,.slice A n c,.slice B m d,.int .i64 (es j),.bool g',.slice A' n' c',.slice B' m' d'] ∧
   RatV w 34 g (.slice A n c) (.slice B m d) (ex i)∧RatV w 34 g' (.slice A' n' c') (.slice B' m' d') (ex j))
theorem SetOf.below{w w':World}{v:Value}{i j:Int}(h:SetOf w v i j)(hb:Below w.heap.size w w'):SetOf w' v i j:=by
 rcases h with ⟨h1,h2,s,x,t,y,g,A,n,c,B,m,d,g',A',n',c',B',m',d',h3,h4,h5⟩ | ⟨h1,g,A,n,c,B,m,d,g',A',n',c',B',m',d',h3,h4,h5⟩
 ·exact .inl ⟨h1,h2,s,x,t,y,g,A,n,c,B,m,d,g',A',n',c',B',m',d',h3,h4.below hb,h5.below hb⟩
 ·exact .inr ⟨h1,g,A,n,c,B,m,d,g',A',n',c',B',m',d',h3,h4.below hb,h5.below hb⟩
theorem SetOf.iv{w:World}{v:Value}{i j:Int}(h:SetOf w v i j):Iv i j:=by
 rcases h with ⟨h1,h2,-⟩ | ⟨h1,-⟩
 ·exact .inr ⟨h1,h2⟩
 ·exact .inl h1
theorem of_idx(x y:Nat)(w:World)(hx:x<18446744073709551616)(hy:y<18446744073709551616):
  Calls Tryz.prog 57 #[.agg #[.int .u64 (x:Int),.int .u64 (y:Int)]] w fun e w'=>∃ v,e=.returned v∧SetOf w' v (rd x y).1 (rd x y).2∧Below w.heap.size w w':=by
 cases h:snd x y
 ·refine (of_none x y w hx hy h).mono ?_;rintro e w' ⟨g,A,n,c,B,m,d,g',A',n',c',B',m',d',rfl,h1,h2,hb⟩;refine⟨_,rfl,.inl ?_,hb⟩;unfold rd;rw [h]
  exact⟨rfl,rfl,_,_,_,_,g,A,n,c,B,m,d,g',A',n',c',B',m',d',rfl,h1.k34,h2.k34⟩
 ·refine (of_full x y w hx hy h).mono ?_;rintro e w' ⟨g,A,n,c,B,m,d,g',A',n',c',B',m',d',rfl,h1,h2,hb⟩;refine⟨_,rfl,.inr ?_,hb⟩;have hd:=of_decide_eq_true h;have hi:=idx_bounds hd.1;have hj:=idx_bounds hd.2.1;unfold rd;rw [h]
  exact⟨⟨hi.1,hd.2.2.1,hj.2,hd.2.2.2.1,hd.2.2.2.2⟩,g,A,n,c,B,m,d,g',A',n',c',B',m',d',rfl,h1,h2⟩
def hl(i j i' j':Int):Int × Int:=if j<i then (i',j') else if j'<i' then (i,j) else (min i i',max j j')
theorem least_idx(v:Value)(i j:Int)(w:World)(h:SetOf w v i j):
  Calls Tryz.prog 121 #[v] w fun e w'=>e=.returned (.agg #[.int .u64 (pat i:Int),.int .u64 (pat j:Int)])∧Below w.heap.size w w':=by
 rcases h with ⟨rfl,rfl,s,x,t,y,g,A,n,c,B,m,d,g',A',n',c',B',m',d',rfl,h4,h5⟩ | ⟨h1,g,A,n,c,B,m,d,g',A',n',c',B',m',d',rfl,h4,h5⟩
 ·rw [pat_max,pat_min]
  exact least_none s g A n c B m d x t g' A' n' c' B' m' d' y w
 ·refine (least_some 34 _ g A n c B m d _ _ g' A' n' c' B' m' d' _ w h4 h5 (by omega)).mono ?_;rintro e w' ⟨i',j',rfl,r1,r2,r3,r4,hb⟩;rw [least_lo (by omega) (by omega) r1 r2,least_hi (by omega) (by omega) r3 r4]
  exact⟨rfl,hb⟩
theorem ec_sel_lo{i i':Int}(h0:-(M:Int)≤i∧i≤M)(h1:-(M:Int)≤i'∧i'≤M):
  (if ec (es i') (ex i') (es i) (ex i)<0 then es i' else es i)=es (min i i')∧(if ec (es i') (ex i') (es i) (ex i)<0 then ex i' else ex i)=ex (min i i'):=by
 have:=ec_idx h1.1 h1.2 h0.1 h0.2;unfold SameSign at this
 by_cases h:i'<i
 ·rw [if_pos (by omega),if_pos (by omega),show min i i'=i' from by omega];exact⟨rfl,rfl⟩
 ·rw [if_neg (by omega),if_neg (by omega),show min i i'=i from by omega];exact⟨rfl,rfl⟩
theorem ec_sel_hi{i i':Int}(h0:-(M:Int)≤i∧i≤M)(h1:-(M:Int)≤i'∧i'≤M):
  (if 0<ec (es i') (ex i') (es i) (ex i) then es i' else es i)=es (max i i')∧(if 0<ec (es i') (ex i') (es i) (ex i) then ex i' else ex i)=ex (max i i'):=by
 have:=ec_idx h1.1 h1.2 h0.1 h0.2;unfold SameSign at this
 by_cases h:i<i'
 ·rw [if_pos (by omega),if_pos (by omega),show max i i'=i' from by omega];exact⟨rfl,rfl⟩
 ·rw [if_neg (by omega),if_neg (by omega),show max i i'=i from by omega];exact⟨rfl,rfl⟩
theorem hull_idx(u v:Value)(i j i' j':Int)(w:World)(h:SetOf w u i j)(h':SetOf w v i' j'):
  Calls Tryz.prog 122 #[u,v] w fun e w'=>∃ t,e=.returned t∧SetOf w' t (hl i j i' j').1 (hl i j i' j').2∧Below w.heap.size w w':=by
 have hM:M=9218868437227405312:=rfl
 rcases h with ⟨rfl,rfl,s1,x1,t1,y1,g,A,n,c,B,m,d,g2,A2,n2,c2,B2,m2,d2,rfl,h4,h5⟩ | ⟨h1,g,A,n,c,B,m,d,g2,A2,n2,c2,B2,m2,d2,rfl,h4,h5⟩
 ·have hh:hl M (-(M:Int)) i' j'=(i',j'):=by unfold hl;rw [if_pos (by omega)]
  rw [hh]
  rcases h' with ⟨rfl,rfl,s3,x3,t3,y3,g',A',n',c',B',m',d',g4,A4,n4,c4,B4,m4,d4,rfl,h6,h7⟩ | ⟨h1',g',A',n',c',B',m',d',g4,A4,n4,c4,B4,m4,d4,rfl,h6,h7⟩
  ·refine (hull_left 34 true s1 g A n c B m d x1 t1 g2 A2 n2 c2 B2 m2 d2 y1 s3 g' A' n' c' B' m' d' x3 t3 g4 A4 n4 c4 B4 m4 d4 y3 w h4 h5 h6 h7).mono ?_;rintro e w' ⟨g5,A5,n5,c5,B5,m5,d5,g6,A6,n6,c6,B6,m6,d6,rfl,q1,q2,hb⟩
   exact⟨_,rfl,.inl ⟨rfl,rfl,_,_,_,_,_,_,_,_,_,_,_,_,_,_,_,_,_,_,rfl,q1,q2⟩,hb⟩
  ·refine (hull_left 34 false s1 g A n c B m d x1 t1 g2 A2 n2 c2 B2 m2 d2 y1 _ g' A' n' c' B' m' d' _ _ g4 A4 n4 c4 B4 m4 d4 _ w h4 h5 h6 h7).mono ?_;rintro e w' ⟨g5,A5,n5,c5,B5,m5,d5,g6,A6,n6,c6,B6,m6,d6,rfl,q1,q2,hb⟩
   exact⟨_,rfl,.inr ⟨h1',_,_,_,_,_,_,_,_,_,_,_,_,_,_,rfl,q1,q2⟩,hb⟩
 ·rcases h' with ⟨rfl,rfl,s3,x3,t3,y3,g',A',n',c',B',m',d',g4,A4,n4,c4,B4,m4,d4,rfl,h6,h7⟩ | ⟨h1',g',A',n',c',B',m',d',g4,A4,n4,c4,B4,m4,d4,rfl,h6,h7⟩
  ·have hh:hl i j M (-(M:Int))=(i,j):=by unfold hl;rw [if_neg (by omega),if_pos (by omega)]
   rw [hh];refine (hull_right 34 _ g A n c B m d _ _ g2 A2 n2 c2 B2 m2 d2 _ s3 g' A' n' c' B' m' d' x3 t3 g4 A4 n4 c4 B4 m4 d4 y3 w h4 h5 h6 h7).mono ?_;rintro e w' ⟨g5,A5,n5,c5,B5,m5,d5,g6,A6,n6,c6,B6,m6,d6,rfl,q1,q2,hb⟩
   exact⟨_,rfl,.inr ⟨h1,_,_,_,_,_,_,_,_,_,_,_,_,_,_,rfl,q1,q2⟩,hb⟩
  ·have hh:hl i j i' j'=(min i i',max j j'):=by unfold hl;rw [if_neg (by omega),if_neg (by omega)]
   rw [hh];have e1:=ec_sel_lo (i:=i) (i':=i') (by omega) (by omega);have e2:=ec_sel_hi (i:=j) (i':=j') (by omega) (by omega);have:=hull_both 34 (es i) g A n c B m d (ex i) (es j) g2 A2 n2 c2 B2 m2 d2 (ex j) (es i') g' A' n' c' B' m' d' (ex i') (es j') g4 A4 n4 c4 B4 m4 d4 (ex j') w h4 h5 h6 h7 (by omega);rw [e1.1,e1.2,e2.1,e2.2] at this;refine this.mono ?_;rintro e w' ⟨g5,A5,n5,c5,B5,m5,d5,g6,A6,n6,c6,B6,m6,d6,rfl,q1,q2,hb⟩
   exact⟨_,rfl,.inr ⟨by dsimp only;omega,_,_,_,_,_,_,_,_,_,_,_,_,_,_,rfl,q1,q2⟩,hb⟩
theorem hl_iv{i j i' j':Int}(h:Iv i j)(h':Iv i' j'):Iv (hl i j i' j').1 (hl i j i' j').2:=by
 unfold hl
 split
 ·exact h'
 ·split
  ·exact h
  ·unfold Iv at *;rw [M_val] at *
   dsimp only
   omega
def PcW(w:World)(o:Bool)(s1:Int)(g1:Bool)(A1:Option Addr)(n1 c1:Nat)(B1:Option Addr)(m1 d1:Nat)(N1:Int)(o1:Bool)(s2:Int)(g2:Bool)(A2:Option Addr)(n2 c2:Nat)(B2:Option Addr)(m2 d2:Nat)(N2:Int)(o2:Bool)(F:Int→Int→Int × Int):Prop:=
 (∀ i j,Iv i j→Iv (F i j).1 (F i j).2)∧∀ W i j,Below w.heap.size w W→Iv i j →
  Calls Tryz.prog 88 #[.agg #[.int .u64 (pat i:Int),.int .u64 (pat j:Int)],.agg #[.bool o,.int .i64 s1,.bool g1,.slice A1 n1 c1,.slice B1 m1 d1,.int .i64 N1,.bool o1,.int .i64 s2,.bool g2,.slice A2 n2 c2,.slice B2 m2 d2,.int .i64 N2,.bool o2]] W
   fun e w'=>e=.returned (.agg #[.int .u64 (pat (F i j).1:Int),.int .u64 (pat (F i j).2:Int)])∧Below W.heap.size W w'
def PcG(W:World)(ad:Addr)(k:Nat)(F:Int→Int→Int × Int):Prop:=
 ∃ o s1 g1 A1 n1 c1 B1 m1 d1 N1 o1 s2 g2 A2 n2 c2 B2 m2 d2 N2 o2,
  W.cell? (ad.add (k*13))=some (.bool o)∧W.cell? ⟨(ad.add (k*13)).block,(ad.add (k*13)).off+1,none⟩=some (.int .i64 s1)∧W.cell? ⟨(ad.add (k*13)).block,(ad.add (k*13)).off+2,none⟩=some (.bool g1) ∧
  W.cell? ⟨(ad.add (k*13)).block,(ad.add (k*13)).off+3,none⟩=some (.slice A1 n1 c1)∧W.cell? ⟨(ad.add (k*13)).block,(ad.add (k*13)).off+4,none⟩=some (.slice B1 m1 d1)∧W.cell? ⟨(ad.add (k*13)).block,(ad.add (k*13)).off+5,none⟩=some (.int .i64 N1) ∧
  W.cell? ⟨(ad.add (k*13)).block,(ad.add (k*13)).off+6,none⟩=some (.bool o1)∧W.cell? ⟨(ad.add (k*13)).block,(ad.add (k*13)).off+7,none⟩=some (.int .i64 s2)∧W.cell? ⟨(ad.add (k*13)).block,(ad.add (k*13)).off+8,none⟩=some (.bool g2) ∧
  W.cell? ⟨(ad.add (k*13)).block,(ad.add (k*13)).off+9,none⟩=some (.slice A2 n2 c2)∧W.cell? ⟨(ad.add (k*13)).block,(ad.add (k*13)).off+10,none⟩=some (.slice B2 m2 d2)∧W.cell? ⟨(ad.add (k*13)).block,(ad.add (k*13)).off+11,none⟩=some (.int .i64 N2) ∧
  W.cell? ⟨(ad.add (k*13)).block,(ad.add (k*13)).off+12,none⟩=some (.bool o2)∧PcW W o s1 g1 A1 n1 c1 B1 m1 d1 N1 o1 s2 g2 A2 n2 c2 B2 m2 d2 N2 o2 F
def zg(i j:Int)(L:Nat→Int→Int→Int × Int):Nat→Int × Int
 | 0=>((M:Int),-(M:Int))
 | k+1=>hl (zg i j L k).1 (zg i j L k).2 (L k i j).1 (L k i j).2
theorem zg_iv{i j:Int}{L:Nat→Int→Int→Int × Int}:∀ k:Nat,(∀ t:Nat,t<k→Iv (L t i j).1 (L t i j).2)→Iv (zg i j L k).1 (zg i j L k).2
 | 0,_=>Iv.none
 | k+1,h=>hl_iv (zg_iv k fun t ht=>h t (by omega)) (h k (by omega))
theorem all_gen(x y:Nat)(ad:Addr)(n c:Nat)(L:Nat→Int→Int→Int × Int)(w:World)(hx:x<18446744073709551616)(hy:y<18446744073709551616)(hn:n≤100)(hc:n≤c)(hL:∀ k:Nat,k<n→PcG w ad k (L k)):
  Calls Tryz.prog 54 #[.agg #[.int .u64 (x:Int),.int .u64 (y:Int)],.slice (some ad) n c] w fun e w'=>
   e=.returned (.agg #[.int .u64 (pat (zg (rd x y).1 (rd x y).2 L n).1:Int),.int .u64 (pat (zg (rd x y).1 (rd x y).2 L n).2:Int)])∧Below w.heap.size w w':=by
 have HR:=Hd fun W=>read6 x y W hx hy;have HE:=Hd empty6;have hiv:=rd_iv x y
 obtain⟨i,hi⟩:∃ i,(rd x y).1=i:=⟨_,rfl⟩
 obtain⟨j,hj⟩:∃ i,(rd x y).2=i:=⟨_,rfl⟩
 rw [hi,hj] at HR hiv ⊢
 have HZI:=Hd fun (k:Nat) (hk:k≤n)=>zg_iv (L:=L) (i:=i) (j:=j) k fun t ht=>by
  obtain⟨o,s1,g1,A1,n1,c1,B1,m1,d1,N1,o1,s2,g2,A2,n2,c2,B2,m2,d2,N2,o2,-,-,-,-,-,-,-,-,-,-,-,-,-,h,-⟩:=hL t (by omega)
  exact h i j hiv
 have HIV:=Hd hiv;have HL:=Hd hL
 obtain⟨p,hp⟩:∃ p,pat i=p:=⟨_,rfl⟩
 obtain⟨q,hq⟩:∃ p,pat j=p:=⟨_,rfl⟩
 rw [hp,hq] at HR;have HP:=Hd hp;have HQ:=Hd hq
 obtain⟨zz,hzz⟩:∃ f:Nat→Int × Int,f=zg i j L:=⟨_,rfl⟩
 rw [← hzz] at HZI ⊢;have HZZ:=Hd hzz;clear hi hj hp hq hL hiv hzz;obtain⟨LB0,LG0_0,LR⟩:=bx2 w #[.int .u64 (x:Int),.int .u64 (y:Int)] 24 #[.int .u64 0,.int .u64 0] 24;have LR0:=Hd (HasBlk.of (n:=2) LR.out rfl rfl);clear LR
 go_enter Tryz.func54,Tryz.ntmps54
 go_wp2_with fail;refine (HR.out _).mono ?_;rintro e w1 ⟨rfl,hb1⟩;have LB1:=stB LB0 hb1 LB0.out.size;have LR1:=stR LR0 hb1;have LG0_1:=stG LG0_0 hb1;clear LB0 LR0 LG0_0;have hl1:=LB1.out.size;have hlr1:=LR1.out.lt;have hlt2:=LR1.out.lt;have LB2:=Hd (LB1.out.alloc LB1.out.size (.cells #[.int .u64 (p:Int),.int .u64 (q:Int)] 24));have LR2:=Hd (LR1.out.alloc (.cells #[.int .u64 (p:Int),.int .u64 (q:Int)] 24));have LG0_2:=Hd (LG0_1.out.alloc (.cells #[.int .u64 (p:Int),.int .u64 (q:Int)] 24));have LG1_2:=Hd (Blk.new w1 24 #[.int .u64 (p:Int),.int .u64 (q:Int)]);clear LB1 LR1 LG0_1;clear hb1
 have hl2:w1.heap.size<(w1.alloc (.cells #[.int .u64 (p:Int),.int .u64 (q:Int)] 24)).heap.size:=by simp
 go_wp2_with fail;refine (HE.out _).mono ?_;rintro e w2 ⟨rfl,hb2⟩;have LB3:=stB LB2 hb2 LB2.out.size;have LR3:=stR LR2 hb2;have LG0_3:=stG LG0_2 hb2;have LG1_3:=stG LG1_2 hb2;clear LB2 LR2 LG0_2 LG1_2;have hl3:=hb2.size
 have hl4:w1.heap.size<w2.heap.size:=by omega
 clear hl2 hl3;have hlt4:=LR3.out.lt;have LB4:=Hd (LB3.out.alloc LB3.out.size (.cells #[.int .u64 9218868437227405312,.int .u64 18442240474082181120] 24));have LR4:=Hd (LR3.out.alloc (.cells #[.int .u64 9218868437227405312,.int .u64 18442240474082181120] 24));have LG0_4:=Hd (LG0_3.out.alloc (.cells #[.int .u64 9218868437227405312,.int .u64 18442240474082181120] 24));have LG1_4:=Hd (LG1_3.out.alloc (.cells #[.int .u64 9218868437227405312,.int .u64 18442240474082181120] 24));have LG2_4:=Hd (Blk.new w2 24 #[.int .u64 9218868437227405312,.int .u64 18442240474082181120]);clear LB3 LR3 LG0_3 LG1_3;clear hb2;have hl5:=LB4.out.size;go_wp2_with fail
 have hl6:w.heap.size+1<w2.heap.size:=by omega
 go_loopw [7] (fun iv wr=>∃ k:Nat,iv=.int .i64 (k:Int)∧k≤n∧Blk wr w1.heap.size 24 #[.int .u64 (p:Int),.int .u64 (q:Int)]∧Blk wr w2.heap.size 24 #[.int .u64 (pat (zz k).1:Int),.int .u64 (pat (zz k).2:Int)]∧HasBlk wr (w.heap.size+1) 24 2∧Below w.heap.size w wr) (fun iv _=>n - (intOf iv).toNat)
 case atStart=>
  refine⟨0,rfl,by omega,LG1_4.out,?_,LR4.out,LB4.out⟩
  have e:zz 0=((M:Int),-(M:Int)):=by rw [HZZ.out];rfl
  rw [e,pat_max,pat_min]
  exact LG2_4.out
 case round=>
  clear LB4 LR4 LG0_4 LG1_4 LG2_4;obtain⟨k,rfl,hk,gy,gz,gr,gb⟩:=hrel;have hiz:=HZI.out k hk
  by_cases h:k<n
  ·have h2:(k:Int)<(n:Int):=by omega
   have gy0:=Hd gy;have gz0:=Hd gz;have gr0:=Hd gr;have gb0:=Hd gb;obtain⟨o,s1,g1,A1,n1,c1,B1,m1,d1,N1,o1,s2,g2,A2,n2,c2,B2,m2,d2,N2,o2,u0,u1,u2,u3,u4,u5,u6,u7,u8,u9,u10,u11,u12,riv,rcall⟩:=HL.out k h;have hwi:=riv i j HIV.out
   have e1:zz (k+1)=hl (zz k).1 (zz k).2 (L k i j).1 (L k i j).2:=by rw [HZZ.out];rfl
   have HWI:=Hd fun W (hW:Below w.heap.size w W)=>rcall W i j hW HIV.out;rw [HP.out,HQ.out] at HWI
   obtain⟨v1,hv1⟩:∃ v,(L k i j).1=v:=⟨_,rfl⟩
   obtain⟨v2,hv2⟩:∃ v,(L k i j).2=v:=⟨_,rfl⟩
   obtain⟨z1,hz1⟩:∃ v,(zz k).1=v:=⟨_,rfl⟩
   obtain⟨z2,hz2⟩:∃ v,(zz k).2=v:=⟨_,rfl⟩
   rw [hv1,hv2] at HWI hwi e1;rw [hz1,hz2] at gz0 hiz e1;have HO1:=Hd fun W=>of_idx (pat z1) (pat z2) W (pat_lt hiz.lo.1 hiz.lo.2) (pat_lt hiz.hi.1 hiz.hi.2);have HO2:=Hd fun W=>of_idx (pat v1) (pat v2) W (pat_lt hwi.lo.1 hwi.lo.2) (pat_lt hwi.hi.1 hwi.hi.2);rw [rd_pat hiz] at HO1;rw [rd_pat hwi] at HO2
   dsimp only at HO1 HO2
   obtain⟨t1,ht1⟩:∃ v,(hl z1 z2 v1 v2).1=v:=⟨_,rfl⟩
   obtain⟨t2,ht2⟩:∃ v,(hl z1 z2 v1 v2).2=v:=⟨_,rfl⟩
   have HH:=Hd fun W u v hu hv=>hull_idx u v z1 z2 v1 v2 W hu hv;rw [ht1,ht2] at HH;have HE1:=Hd (show (zz (k+1)).1=t1∧(zz (k+1)).2=t2 from by rw [e1];exact⟨ht1,ht2⟩)
   obtain⟨P1,hP1⟩:∃ v,pat z1=v:=⟨_,rfl⟩
   obtain⟨P2,hP2⟩:∃ v,pat z2=v:=⟨_,rfl⟩
   obtain⟨Q1,hQ1⟩:∃ v,pat v1=v:=⟨_,rfl⟩
   obtain⟨Q2,hQ2⟩:∃ v,pat v2=v:=⟨_,rfl⟩
   obtain⟨P3,hP3⟩:∃ v,pat t1=v:=⟨_,rfl⟩
   obtain⟨P4,hP4⟩:∃ v,pat t2=v:=⟨_,rfl⟩
   have HLE:=Hd fun W u hu=>least_idx u t1 t2 W hu;rw [hP1,hP2] at HO1 gz0;rw [hQ1,hQ2] at HO2 HWI;rw [hP3,hP4] at HLE;have HP3:=Hd hP3;have HP4:=Hd hP4
   have HU:=Hd fun W (hW:Below w.heap.size w W)=>(⟨cell_below u0 hW,cell_below u1 hW,cell_below u2 hW,cell_below u3 hW,cell_below u4 hW,cell_below u5 hW,cell_below u6 hW,cell_below u7 hW,cell_below u8 hW,cell_below u9 hW,cell_below u10 hW,cell_below u11 hW,cell_below u12 hW⟩:_∧_∧_∧_∧_∧_∧_∧_∧_∧_∧_∧_∧_)
   clear hv1 hv2 hz1 hz2 ht1 ht2 hP1 hP2 hQ1 hQ2 hP3 hP4 u0 u1 u2 u3 u4 u5 u6 u7 u8 u9 u10 u11 u12 riv rcall hwi hiz e1 gy gz gr gb hk;go_wp2_with fail;refine wp_region_held_drew (S:=fun W'=>Blk W' w1.heap.size 24 #[.int .u64 (p:Int),.int .u64 (q:Int)]∧HasBlk W' w2.heap.size 24 2∧HasBlk W' (w.heap.size+1) 24 2∧Below w.heap.size w W') (by kernel_rfl) (by exact⟨gy0.out.drew,HasBlk.of (n:=2) gz0.out.drew rfl rfl,gr0.out.drew,gb0.out.drew⟩) (fun hHeld=>?_);refine tk 2 ?_ (hv:=by intro W2 hSw;obtain⟨q0,q1⟩:=hSw.1.c2;go_simp;(try with_reducible rfl));(try simp only [Act.put,lay]);refine tk 3 ?_;(try simp only [Act.put,lay]);refine tk 4 ?_;(try simp only [Act.put,lay]);refine tk 5 ?_;(try simp only [Act.put,lay]);refine tk 6 ?_ (hv:=by intro W2 hSw;obtain⟨u0,u1,u2,u3,u4,u5,u6,u7,u8,u9,u10,u11,u12⟩:=HU.out W2 hSw.2.2.2;go_simp;(try with_reducible rfl));(try simp only [Act.put,lay]);refine rdy 0 (fun KK hKK=>?_);have q0:_=some (.int .u64 (P1:Int):Value):=gz0.out.drew.cell 0;have q1:_=some (.int .u64 (P2:Int):Value):=gz0.out.drew.cell 1;go_simp;refine hKK.out _ _ hHeld (fun _=>?_);clear hKK KK hHeld;rename_i hHeld;(try simp only [Act.put,lay]);refine rdy 1 (fun KK hKK=>?_);go_simp;refine (HO1.out _).mono ?_;rintro e wa ⟨u,rfl,hu,hba⟩;go_wp2_with fail;refine hKK.out _ _ (⟨hHeld.1.keep hba,hHeld.2.1.keep hba,hHeld.2.2.1.keep hba,hHeld.2.2.2.trans (hba.mono hHeld.2.2.2.size)⟩) (fun _=>?_);clear hKK KK hHeld;rename_i hHeld;(try simp only [Act.put,lay]);refine rdy 7 (fun KK hKK=>?_);go_simp;refine (HWI.out _ hHeld.2.2.2).mono ?_
   rintro e wb ⟨rfl,hbb⟩;go_wp2_with fail;refine hKK.out _ _ (⟨hHeld.1.keep hbb,hHeld.2.1.keep hbb,hHeld.2.2.1.keep hbb,hHeld.2.2.2.trans (hbb.mono hHeld.2.2.2.size)⟩) (fun _=>?_);clear hKK KK hHeld;rename_i hHeld;(try simp only [Act.put,lay]);refine rdy 8 (fun KK hKK=>?_);go_simp;refine (HO2.out _).mono ?_;rintro e wc ⟨v,rfl,hv,hbc⟩;go_wp2_with fail;refine hKK.out _ _ (⟨hHeld.1.keep hbc,hHeld.2.1.keep hbc,hHeld.2.2.1.keep hbc,hHeld.2.2.2.trans (hbc.mono hHeld.2.2.2.size)⟩) (fun _=>?_);clear hKK KK hHeld;rename_i hHeld;(try simp only [Act.put,lay]);refine rdy 9 (fun KK hKK=>?_);go_simp;refine (HH.out _ u v ((hu.below hbb).below hbc) hv).mono ?_;rintro e wd ⟨t,rfl,ht,hbd⟩;go_wp2_with fail;refine hKK.out _ _ (⟨hHeld.1.keep hbd,hHeld.2.1.keep hbd,hHeld.2.2.1.keep hbd,hHeld.2.2.2.trans (hbd.mono hHeld.2.2.2.size)⟩) (fun _=>?_);clear hKK KK hHeld;rename_i hHeld;(try simp only [Act.put,lay]);refine rdy 10 (fun KK hKK=>?_);go_simp;refine (HLE.out _ t ht).mono ?_;rintro e wf ⟨rfl,hbf⟩;go_wp2_with fail;refine hKK.out _ _ (⟨hHeld.1.keep hbf,hHeld.2.1.keep hbf,hHeld.2.2.1.keep hbf,hHeld.2.2.2.trans (hbf.mono hHeld.2.2.2.size)⟩) (fun _=>?_);clear hKK KK hHeld;rename_i hHeld;(try simp only [Act.put,lay]);refine rdy 11 (fun KK hKK=>?_);have ha0:=hHeld.2.1.someCell 0 (by decide);have hf0:=hHeld.2.1.frozen 0;have ha1:=hHeld.2.1.someCell 1 (by decide);have hf1:=hHeld.2.1.frozen 1;have HZN:=Hd (hHeld.2.1.laid [.int .u64 (P3:Int),.int .u64 (P4:Int)] rfl);go_simp;refine hKK.out _ _ (⟨hHeld.1.other (by omega) 0 [.int .u64 (P3:Int),.int .u64 (P4:Int)],hHeld.2.1.sets [.int .u64 (P3:Int),.int .u64 (P4:Int)] rfl rfl,hHeld.2.2.1.other (by omega) 0 [.int .u64 (P3:Int),.int .u64 (P4:Int)],below_sets (by omega) [.int .u64 (P3:Int),.int .u64 (P4:Int)] 0 _ hHeld.2.2.2⟩) (fun _=>?_)
   clear hKK KK hHeld;rename_i hHeld;(try simp only [Act.put,lay]);refine wpAnyH_done (by kernel_rfl) ?_ _;have HF:=Hd hHeld;clear hHeld hu hv ht hba hbb hbc hbd hbf ha0 ha1 hf0 hf1 gy0 gz0 gr0 gb0 HU HWI HO1 HO2 HH HLE;go_wp2
   go_roundw
   case rel=>
    refine⟨k+1,by go_num,by omega,HF.out.1,?_,HF.out.2.2.1,HF.out.2.2.2⟩;rw [HE1.out.1,HE1.out.2,HP3.out,HP4.out]
    exact HZN.out
   case measure=>simp [intOf];omega
  ·have h2:¬ (k:Int)<(n:Int):=by omega
   obtain rfl:k=n:=by omega
   obtain⟨Q1,hQ1⟩:∃ v,pat (zz k).1=v:=⟨_,rfl⟩
   obtain⟨Q2,hQ2⟩:∃ v,pat (zz k).2=v:=⟨_,rfl⟩
   rw [hQ1,hQ2] at gz;have LB9:=Hd gb;have LR9:=Hd gr;have LG2_9:=Hd gz;have HQ1:=Hd hQ1;have HQ2:=Hd hQ2;clear gy gz gr gb hiz hQ1 hQ2;obtain⟨q2_0,q2_1⟩:=LG2_9.out.c2;obtain⟨ha0,hf0,ha1,hf1⟩:=LR9.out.sf2;obtain⟨hk0,hk1⟩:=LR9.out.sc2 (.int .u64 (Q1:Int)) (.int .u64 (Q2:Int));have F:=Hd (below_sets (w0:=w) (r:=(w.heap.size+1)) (by omega) [.int .u64 (Q1:Int),.int .u64 (Q2:Int)] 0 _ LB9.out)
   simp [sets] at hk0 hk1
   go_wp2;refine bodyPost_ret (v:=.agg #[.int .u64 (Q1:Int),.int .u64 (Q2:Int)]) (by simp [results,Tryz.results54,go_sem,hk0,hk1]) rfl ?_
   exact⟨by rw [HQ1.out,HQ2.out],F.out⟩
theorem against_any(K:Nat)(i:Int)(s1:Int)(g1:Bool)(A1:Option Addr)(n1 c1:Nat)(B1:Option Addr)(m1 d1:Nat)(x1:Rat)(o1:Bool)(w:World)(hi:-(M:Int)≤i∧i≤M)(h1:RatV w K g1 (.slice A1 n1 c1) (.slice B1 m1 d1) x1)(hK:34≤K)(hK2:K≤1048576):
  Calls Tryz.prog 157 #[.int .u64 (pat i:Int),.agg #[.int .i64 s1,.bool g1,.slice A1 n1 c1,.slice B1 m1 d1,.int .i64 1,.bool o1]] w (Ag w (ec (es i) (ex i) s1 x1)):=by
 by_cases h:i=M∨i=-(M:Int)
 ·exact against_inf K i s1 g1 A1 n1 c1 B1 m1 d1 x1 o1 w h h1 hK hK2
 ·by_cases h0:s1=0
  ·subst h0;rw [es_mid (i:=i) (by omega) (by omega),ec_zero,ex_mid (by omega) (by omega)]
   exact against_fin K i g1 A1 n1 c1 B1 m1 d1 x1 o1 w (by omega) h1 hK hK2
  ·exact against_far K i s1 g1 A1 n1 c1 B1 m1 d1 x1 o1 w (by omega) h0 h1 hK hK2
def pf(s1:Int)(x1:Rat)(o1:Bool)(s2:Int)(x2:Rat)(o2:Bool)(i j:Int):Int × Int:=
 if j<i then ((M:Int),-(M:Int)) else wg i j (ec (es i) (ex i) s2 x2) (ec (es j) (ex j) s1 x1) (ec (es i) (ex i) s1 x1) (ec (es j) (ex j) s2 x2) (rndI (-1) x1) (rndI 1 x2) o1 o2
theorem dn_le_up(s:Int)(x:Rat):dn s x≤up s x:=by
 unfold dn up
 split
 ·exact rndI_le x
 ·omega
theorem dn_lt{s:Int}{x:Rat}(h:s=0∨s=-1):-(M:Int)≤dn s x∧dn s x<M:=by
 have hM:M=9218868437227405312:=rfl
 rcases h with rfl | rfl
 ·have:=rndI_down x;rw [dn_zero];omega
 ·unfold dn;rw [if_neg (by omega)];omega
theorem up_gt{s:Int}{x:Rat}(h:s=0∨s=1):-(M:Int)<up s x∧up s x≤M:=by
 have hM:M=9218868437227405312:=rfl
 rcases h with rfl | rfl
 ·have:=rndI_up x;rw [up_zero];omega
 ·unfold up;rw [if_neg (by omega)];omega
theorem pf_iv{s1:Int}{x1:Rat}{o1:Bool}{s2:Int}{x2:Rat}{o2:Bool}(hs1:s1=0∨s1=-1)(hs2:s2=0∨s2=1)(hle:dn s1 x1≤up s2 x2)(i j:Int)(h:Iv i j):Iv (pf s1 x1 o1 s2 x2 o2 i j).1 (pf s1 x1 o1 s2 x2 o2 i j).2:=by
 rcases h with h | ⟨rfl,rfl⟩
 ·unfold pf;rw [if_neg (by omega)];unfold wg
  split
  ·exact Iv.none
  ·rename_i hn;rw [ec_lo_at (by omega) hs1,ec_hi_at (by omega) hs2];have e1:¬ dn s2 x2<i:=fun h'=>hn (.inl ((ec_hi (by omega) hs2).2 h'));have e2:¬ j<up s1 x1:=fun h'=>hn (.inr (.inr (.inl ((ec_lo (by omega) hs1).2 h'))));have e3:=dn_le_up s1 x1;have e4:=dn_le_up s2 x2;have e5:=dn_lt (x:=x1) hs1;have e6:=up_gt (x:=x2) hs2;unfold Iv
   dsimp only
   omega
 ·unfold pf;have hM:M=9218868437227405312:=rfl;rw [if_pos (by omega)];exact Iv.none
theorem pcw_one(K:Nat)(s1:Int)(g1:Bool)(A1:Option Addr)(n1 c1:Nat)(B1:Option Addr)(m1 d1:Nat)(x1:Rat)(o1:Bool)(s2:Int)(g2:Bool)(A2:Option Addr)(n2 c2:Nat)(B2:Option Addr)(m2 d2:Nat)(x2:Rat)(o2:Bool)(w:World)(h1:RatV w K g1 (.slice A1 n1 c1) (.slice B1 m1 d1) x1)(h2:RatV w K g2 (.slice A2 n2 c2) (.slice B2 m2 d2) x2)(hK:34≤K)(hK2:K≤1048576)(hs1:s1=0∨s1=-1)(hs2:s2=0∨s2=1)(hle:dn s1 x1≤up s2 x2):
  PcW w false s1 g1 A1 n1 c1 B1 m1 d1 1 o1 s2 g2 A2 n2 c2 B2 m2 d2 1 o2 (pf s1 x1 o1 s2 x2 o2):=by
 refine⟨pf_iv hs1 hs2 hle,fun W i j hW hij=>?_⟩
 rcases hij with h | ⟨rfl,rfl⟩
 ·unfold pf;rw [if_neg (by omega)];refine within_gen i j 1 1 s1 g1 A1 n1 c1 B1 m1 d1 x1 s2 g2 A2 n2 c2 B2 m2 d2 x2 o1 o2 _ _ _ _ _ _ W (by omega) (fun W' hb=>?_) (fun W' hb=>?_) (fun W' hb=>?_) (fun W' hb=>?_) (fun W' hb _=>?_) (fun W' hb _=>?_)
  ·exact against_any K i s2 g2 A2 n2 c2 B2 m2 d2 x2 o2 W' (by omega) ((h2.below hW).below hb) hK hK2
  ·exact against_any K j s1 g1 A1 n1 c1 B1 m1 d1 x1 o1 W' (by omega) ((h1.below hW).below hb) hK hK2
  ·exact against_any K i s1 g1 A1 n1 c1 B1 m1 d1 x1 o1 W' (by omega) ((h1.below hW).below hb) hK hK2
  ·exact against_any K j s2 g2 A2 n2 c2 B2 m2 d2 x2 o2 W' (by omega) ((h2.below hW).below hb) hK hK2
  ·refine (rounded10 K g1 A1 n1 c1 B1 m1 d1 s1 x1 o1 (-1) W' ((h1.below hW).below hb) hK2 (.inl rfl)).mono ?_;rintro e w' ⟨k,rfl,hr,hb'⟩
   exact⟨by rw [← hr.eq],hb'⟩
  ·refine (rounded10 K g2 A2 n2 c2 B2 m2 d2 s2 x2 o2 1 W' ((h2.below hW).below hb) hK2 (.inr rfl)).mono ?_;rintro e w' ⟨k,rfl,hr,hb'⟩
   exact⟨by rw [← hr.eq],hb'⟩
 ·have hM:M=9218868437227405312:=rfl;unfold pf;rw [if_pos (by omega),pat_max,pat_min]
  exact within_none s1 g1 A1 n1 c1 B1 m1 d1 x1 s2 g2 A2 n2 c2 B2 m2 d2 x2 o1 o2 W
theorem pcw_nothing(s1:Int)(g1:Bool)(A1:Option Addr)(n1 c1:Nat)(B1:Option Addr)(m1 d1:Nat)(x1:Rat)(o1:Bool)(s2:Int)(g2:Bool)(A2:Option Addr)(n2 c2:Nat)(B2:Option Addr)(m2 d2:Nat)(x2:Rat)(o2:Bool)(N1 N2:Int)(w:World):PcW w true s1 g1 A1 n1 c1 B1 m1 d1 N1 o1 s2 g2 A2 n2 c2 B2 m2 d2 N2 o2 (fun _ _=>((M:Int),-(M:Int))):=by
 refine⟨fun _ _ _=>Iv.none,fun W i j hW hij=>?_⟩;rw [pat_max,pat_min]
 exact within_nothing i j N1 N2 s1 g1 A1 n1 c1 B1 m1 d1 x1 s2 g2 A2 n2 c2 B2 m2 d2 x2 o1 o2 W
theorem pf_closed{s1:Int}{x1:Rat}{s2:Int}{x2:Rat}(hs1:s1=0∨s1=-1)(hs2:s2=0∨s2=1)(i j:Int)(h:-(M:Int)≤i∧i≤j∧j≤M∧i<M∧-(M:Int)<j):
  pf s1 x1 (decide (s1≠0)) s2 x2 (decide (s2≠0)) i j=ct i j (dn s1 x1) (up s1 x1) (dn s2 x2) (up s2 x2):=by
 unfold pf;rw [if_neg (by omega)];unfold wg ct;rw [ec_lo_at (by omega) hs1,ec_hi_at (by omega) hs2];have e1:=ec_hi (i:=i) (s:=s2) (x:=x2) (by omega) hs2;have e2:=ec_lo (j:=j) (s:=s1) (x:=x1) (by omega) hs1
 have e3:¬ (ec (es i) (ex i) s2 x2=0∧decide (s2≠0)=true):=by
  rintro⟨a,b⟩;have b':=of_decide_eq_true b
  exact ec_hi_open (by omega) (by omega) a
 have e4:¬ (ec (es j) (ex j) s1 x1=0∧decide (s1≠0)=true):=by
  rintro⟨a,b⟩;have b':=of_decide_eq_true b
  exact ec_lo_open (by omega) (by omega) a
 by_cases hc:dn s2 x2<i∨j<up s1 x1
 ·rw [if_pos hc,if_pos]
  rcases hc with h1 | h1
  ·exact .inl (e1.2 h1)
  ·exact .inr (.inr (.inl (e2.2 h1)))
 ·rw [if_neg hc,if_neg];rintro (h1 | h1 | h1 | h1)
  ·exact hc (.inl (e1.1 h1))
  ·exact e3 h1
  ·exact hc (.inr (e2.1 h1))
  ·exact e4 h1
theorem rsg_neg(x:Rat):rsg (-x)=- rsg x:=by
 unfold rsg
 by_cases h:x=0
 ·subst h;simp
 ·rw [if_neg h,if_neg (by grind)]
  by_cases h2:x<0
  ·rw [if_pos h2,if_neg (by grind)];rfl
  ·rw [if_neg h2,if_pos (by grind)]
theorem esx_neg(s:Int)(x:Rat):esx (-s) (-x)=- esx s x:=by
 unfold esx
 by_cases h:s=0
 ·subst h;simp [rsg_neg]
 ·rw [if_pos (by omega),if_pos h]
theorem rt_neg(s:Int)(x:Rat)(t:Int)(y:Rat):rt (-s) (-x) t y=(-(rt s x t y).1,-(rt s x t y).2.1,(rt s x t y).2.2):=by
 unfold rt;rw [esx_neg]
 by_cases h:esx s x=0
 ·rw [if_pos h,if_pos (by omega)];simp
 ·rw [if_neg h,if_neg (by omega)]
  by_cases h2:t=0
  ·rw [if_neg (show ¬ t≠0 by simpa using h2),if_neg (show ¬ t≠0 by simpa using h2)]
   by_cases h3:s≠0∨y=0
   ·rw [if_pos h3,if_pos (show -s≠0∨y=0 by rcases h3 with h | h;exact .inl (by omega);exact .inr h)];simp
   ·rw [if_neg h3,if_neg (show ¬ (-s≠0∨y=0) by rintro (h | h);exact h3 (.inl (by omega));exact h3 (.inr h))]
    simp [Rat.div_def,Rat.neg_mul]
  ·rw [if_pos h2,if_pos h2];simp
theorem dn_neg(s:Int)(x:Rat):dn (-s) (-x)=- up s x:=by
 unfold dn up
 by_cases h:s=0
 ·subst h;simp only [Int.neg_zero,if_true];have:=rndI_neg (d:=1) (.inr rfl) x
  exact this
 ·rw [if_neg (by omega),if_neg h,Int.neg_mul]
theorem up_neg(s:Int)(x:Rat):up (-s) (-x)=- dn s x:=by
 have h:=dn_neg (-s) (-x);rw [Int.neg_neg,Rat.neg_neg] at h
 omega
theorem ov_neg(s:Int)(x:Rat)(j:Int):ov (-s) (-x) j=(-(ov s x j).2,-(ov s x j).1):=by
 unfold ov
 by_cases h:s=0
 ·subst h
  simp only [Int.neg_zero,ne_eq,not_true_eq_false,if_false]
  by_cases h2:x=0∨j=M
  ·rw [if_pos h2,if_pos (by rcases h2 with h | h;exact .inl (by grind);exact .inr h)];simp
  ·rw [if_neg h2,if_neg (by intro h;apply h2;rcases h with h | h;exact .inl (by grind);exact .inr h)]
   have e:-x / fl j=-(x / fl j):=by rw [Rat.div_def,Rat.div_def,Rat.neg_mul]
   have a:=rndI_neg (d:=1) (.inr rfl) (x / fl j);have b:=rndI_neg (d:=-1) (.inl rfl) (x / fl j);rw [e,show (1:Int)=- -1 from rfl,b,show (-(1:Int))=-1 from rfl];rw [show (- -1:Int)=1 from rfl,a]
 ·rw [if_pos (by omega),if_pos h,Int.neg_mul]
theorem fl_pos{j:Int}(h:0<j):0<fl j:=by have:=fl_lt_iff.2 h;rwa [fl_zero] at this
theorem esx_zero{s:Int}{x:Rat}(hx:s≠0→x=0):esx s x=0↔s=0∧x=0:=by
 unfold esx
 by_cases h:s=0
 ·subst h
  simp only [ne_eq,not_true_eq_false,if_false,true_and]
  unfold rsg
  by_cases h2:x=0
  ·simp [h2]
  ·rw [if_neg h2]
   constructor
   ·intro h3;split at h3<;>omega
   ·intro h3;exact absurd h3 h2
 ·rw [if_pos h]
  constructor
  ·intro h3;exact absurd h3 h
  ·intro h3;exact absurd h3.1 h
theorem ov_rt{s:Int}{x:Rat}{j:Int}(hx:s≠0→x=0)(hj:0<j)(hj2:j≤M)(h:s=0∨j<M):
  ov s x j=(dn (rt s x (es j) (ex j)).1 (rt s x (es j) (ex j)).2.1,up (rt s x (es j) (ex j)).1 (rt s x (es j) (ex j)).2.1):=by
 have hM:(M:Int)=9218868437227405312:=rfl;have z1:=rndI_zero (d:=-1) (.inl rfl);have z2:=rndI_zero (d:=1) (.inr rfl);unfold ov rt
 by_cases hs:s=0
 ·subst hs
  simp only [ne_eq,not_true_eq_false,if_false,false_or]
  by_cases h0:x=0
  ·rw [if_pos (.inl h0),if_pos ((esx_zero hx).2 ⟨rfl,h0⟩)]
   simp only [dn_zero,up_zero,z1,z2]
  ·rw [if_neg (fun h=>h0 ((esx_zero hx).1 h).2)]
   by_cases hm:j=M
   ·subst hm;rw [if_pos (.inr rfl),if_pos (by rw [es_max];omega)]
    simp only [dn_zero,up_zero,z1,z2]
   ·rw [if_neg (by intro h;rcases h with h | h;exact h0 h;exact hm h),if_neg (by rw [es_mid (by omega) (by omega)];omega),ex_mid (by omega) (by omega),if_neg (by have:=fl_pos hj;grind)]
    simp only [dn_zero,up_zero]
 ·rw [if_pos hs,if_neg (fun h=>hs ((esx_zero hx).1 h).1),if_neg (by rw [es_mid (by omega) (by omega)];omega),if_pos (.inl hs)];unfold dn up esx
  simp only [ne_eq,hs,not_false_eq_true,if_true,if_false]
def qA(s:Int)(x:Rat)(b1 b2:Int):Int × Rat × Bool:=if 0<esx s x then rt s x (es b2) (ex b2) else rt s x (es (max b1 0)) (ex (max b1 0))
def pA(s:Int)(x:Rat)(b1 b2:Int):Int × Int:=if 0≤esx s x then ov s x b2 else if 0<b1 then ov s x b1 else (-(M:Int),-(M:Int))
def qB(s:Int)(x:Rat)(b1 b2:Int):Int × Rat × Bool:=if esx s x<0 then rt s x (es b2) (ex b2) else rt s x (es (max b1 0)) (ex (max b1 0))
def pB(s:Int)(x:Rat)(b1 b2:Int):Int × Int:=if esx s x≤0 then ov s x b2 else if 0<b1 then ov s x b1 else ((M:Int),(M:Int))
theorem es_nought:es 0=0:=by decide
theorem ex_nought:ex 0=0:=by unfold ex;rw [if_pos es_nought,fl_zero]
theorem rt_nought{s:Int}{x:Rat}(t:Int)(y:Rat)(h:esx s x=0):rt s x t y=(0,0,false):=by unfold rt;rw [if_pos h]
theorem esx_rng{s:Int}{x:Rat}(hs:s=0∨s=-1):esx s x=-1∨esx s x=0∨esx s x=1:=by
 unfold esx rsg
 rcases hs with rfl | rfl
 ·rw [if_neg (by omega)]
  split
  ·exact .inr (.inl rfl)
  ·split
   ·exact .inl rfl
   ·exact .inr (.inr rfl)
 ·rw [if_pos (by omega)];exact .inl rfl
theorem pA_qA{s:Int}{x:Rat}{b1 b2:Int}(hs:s=0∨s=-1)(hx:s≠0→x=0)(hb:b1≤b2)(h2:0<b2)(h3:b2≤M)(h1:b1<M):
  pA s x b1 b2=(dn (qA s x b1 b2).1 (qA s x b1 b2).2.1,up (qA s x b1 b2).1 (qA s x b1 b2).2.1):=by
 unfold pA qA;have z1:=rndI_zero (d:=-1) (.inl rfl);have z2:=rndI_zero (d:=1) (.inr rfl)
 rcases esx_rng (x:=x) hs with he | he | he
 ·rw [if_neg (show ¬ 0≤esx s x by omega),if_neg (show ¬ 0<esx s x by omega)]
  by_cases hb0:0<b1
  ·rw [if_pos hb0,show max b1 0=b1 from by omega]
   exact ov_rt hx hb0 (by omega) (.inr h1)
  ·rw [if_neg hb0,show max b1 0=0 from by omega,es_nought,ex_nought];unfold rt;rw [if_neg (by omega),if_neg (by omega),if_pos (.inr rfl),he];unfold dn up
   simp only
   rw [if_neg (by omega),if_neg (by omega)]
   simp
 ·rw [if_pos (show 0≤esx s x by omega),if_neg (show ¬ 0<esx s x by omega)];have hz:=(esx_zero hx).1 he;rw [ov_rt hx h2 h3 (.inl hz.1),rt_nought _ _ he,rt_nought _ _ he]
 ·rw [if_pos (show 0≤esx s x by omega),if_pos (show 0<esx s x by omega)]
  have hz:s=0:=by
   rcases hs with h | h
   ·exact h
   ·exfalso;subst h;unfold esx at he;rw [if_pos (by omega)] at he;omega
  exact ov_rt hx h2 h3 (.inl hz)
theorem qB_neg(s:Int)(x:Rat)(b1 b2:Int):qB s x b1 b2=(-(qA (-s) (-x) b1 b2).1,-(qA (-s) (-x) b1 b2).2.1,(qA (-s) (-x) b1 b2).2.2):=by
 unfold qA qB;rw [esx_neg,rt_neg,rt_neg]
 by_cases h:esx s x<0
 ·rw [if_pos h,if_pos (show 0 < -esx s x by omega)];simp [Rat.neg_neg]
 ·rw [if_neg h,if_neg (show ¬ 0 < -esx s x by omega)];simp [Rat.neg_neg]
theorem pB_neg(s:Int)(x:Rat)(b1 b2:Int):pB s x b1 b2=(-(pA (-s) (-x) b1 b2).2,-(pA (-s) (-x) b1 b2).1):=by
 unfold pA pB;rw [esx_neg,ov_neg,ov_neg]
 by_cases h:esx s x≤0
 ·rw [if_pos h,if_pos (show 0≤-esx s x by omega)];simp
 ·rw [if_neg h,if_neg (show ¬ 0≤-esx s x by omega)]
  by_cases h2:0<b1
  ·rw [if_pos h2,if_pos h2];simp
  ·rw [if_neg h2,if_neg h2];simp
theorem pB_qB{s:Int}{x:Rat}{b1 b2:Int}(hs:s=0∨s=1)(hx:s≠0→x=0)(hb:b1≤b2)(h2:0<b2)(h3:b2≤M)(h1:b1<M):
  pB s x b1 b2=(dn (qB s x b1 b2).1 (qB s x b1 b2).2.1,up (qB s x b1 b2).1 (qB s x b1 b2).2.1):=by
 rw [pB_neg,qB_neg,pA_qA (s:=-s) (x:=-x) (by omega) (fun h=>by rw [hx (by omega)];rfl) hb h2 h3 h1]
 simp only [dn_neg,up_neg]
theorem qA_kind{s:Int}{x:Rat}{b1 b2:Int}(hs:s=0∨s=-1)(hx:s≠0→x=0)(hb:b1≤b2)(h2:0<b2)(h3:b2≤M)(h1:b1<M):
  ((qA s x b1 b2).1=-1∧(qA s x b1 b2).2.1=0∧(qA s x b1 b2).2.2=true∧esx s x<0) ∨
  ((qA s x b1 b2).1=0∧(qA s x b1 b2).2.1=0∧(qA s x b1 b2).2.2=true∧0<esx s x∧b2=M) ∨
  ((qA s x b1 b2).1=0∧(qA s x b1 b2).2.1=0∧(qA s x b1 b2).2.2=false∧esx s x=0) ∨
  ((qA s x b1 b2).1=0∧(qA s x b1 b2).2.2=false∧s=0∧x≠0∧((0<x∧b2<M∧(qA s x b1 b2).2.1=x / fl b2)∨(x<0∧0<b1∧(qA s x b1 b2).2.1=x / fl b1))):=by
 have hM:(M:Int)=9218868437227405312:=rfl;unfold qA
 rcases esx_rng (x:=x) hs with he | he | he
 ·rw [if_neg (by omega)]
  have hm:max b1 0<M:=by omega
  have hm0:0≤max b1 0:=by omega
  unfold rt;rw [if_neg (by omega),if_neg (by rw [es_mid (by omega) hm];omega)]
  by_cases h:s≠0∨ex (max b1 0)=0
  ·rw [if_pos h];exact .inl ⟨he,rfl,rfl,by omega⟩
  ·rw [if_neg h]
   have h4:s=0:=by
    rcases hs with h5 | h5
    ·exact h5
    ·exact absurd (.inl (by omega)) h
   have h6:0<b1:=by
    rcases Int.lt_or_le 0 b1 with h7 | h7
    ·exact h7
    ·exact absurd (.inr (by rw [show max b1 0=0 from by omega,ex_nought])) h
   have h8:x<0:=by
    unfold esx rsg at he;rw [if_neg (by omega)] at he
    split at he
    ·omega
    ·split at he
     ·assumption
     ·omega
   refine .inr (.inr (.inr ⟨rfl,rfl,h4,by grind,.inr ⟨h8,h6,?_⟩⟩));rw [show max b1 0=b1 from by omega,ex_mid (by omega) h1]
 ·rw [if_neg (by omega),rt_nought _ _ he]
  exact .inr (.inr (.inl ⟨rfl,rfl,rfl,he⟩))
 ·rw [if_pos (by omega)]
  have h4:s=0:=by
   rcases hs with h | h
   ·exact h
   ·exfalso;subst h;unfold esx at he;rw [if_pos (by omega)] at he;omega
  have h8:0<x:=by
   unfold esx rsg at he;rw [if_neg (by omega)] at he
   split at he
   ·omega
   ·split at he
    ·omega
    ·grind
  unfold rt;rw [if_neg (by omega)]
  by_cases hm:b2=M
  ·subst hm;rw [if_pos (by rw [es_max];omega)]
   exact .inr (.inl ⟨rfl,rfl,rfl,by omega,rfl⟩)
  ·rw [if_neg (by rw [es_mid (by omega) (by omega)];omega),ex_mid (by omega) (by omega),if_neg (by have:=fl_pos h2;rintro (h | h);exact h h4;grind)]
   exact .inr (.inr (.inr ⟨rfl,rfl,h4,by grind,.inl ⟨h8,by omega,rfl⟩⟩))
theorem qB_kind{s:Int}{x:Rat}{b1 b2:Int}(hs:s=0∨s=1)(hx:s≠0→x=0)(hb:b1≤b2)(h2:0<b2)(h3:b2≤M)(h1:b1<M):
  ((qB s x b1 b2).1=1∧(qB s x b1 b2).2.1=0∧(qB s x b1 b2).2.2=true∧0<esx s x) ∨
  ((qB s x b1 b2).1=0∧(qB s x b1 b2).2.1=0∧(qB s x b1 b2).2.2=true∧esx s x<0∧b2=M) ∨
  ((qB s x b1 b2).1=0∧(qB s x b1 b2).2.1=0∧(qB s x b1 b2).2.2=false∧esx s x=0) ∨
  ((qB s x b1 b2).1=0∧(qB s x b1 b2).2.2=false∧s=0∧x≠0∧((x<0∧b2<M∧(qB s x b1 b2).2.1=x / fl b2)∨(0<x∧0<b1∧(qB s x b1 b2).2.1=x / fl b1))):=by
 have k:=qA_kind (s:=-s) (x:=-x) (by omega) (fun h=>by rw [hx (by omega)];rfl) hb h2 h3 h1;rw [esx_neg] at k;rw [qB_neg]
 dsimp only
 have dv:∀ c:Rat,-(-x / c)=x / c:=fun c=>by rw [Rat.div_def,Rat.div_def,Rat.neg_mul,Rat.neg_neg]
 rcases k with ⟨a,b,c,d⟩ | ⟨a,b,c,d,e⟩ | ⟨a,b,c,d⟩ | ⟨a,b,c,d,e⟩
 ·exact .inl ⟨by omega,by rw [b];rfl,c,by omega⟩
 ·exact .inr (.inl ⟨by omega,by rw [b];rfl,c,by omega,e⟩)
 ·exact .inr (.inr (.inl ⟨by omega,by rw [b];rfl,c,by omega⟩))
 ·refine .inr (.inr (.inr ⟨by omega,b,by omega,by grind,?_⟩))
  rcases e with ⟨e1,e2,e3⟩ | ⟨e1,e2,e3⟩
  ·exact .inl ⟨by grind,e2,by rw [e3,dv]⟩
  ·exact .inr ⟨by grind,e2,by rw [e3,dv]⟩
theorem div_le_div{x y c d:Rat}(hc:0<c)(hd:0<d)(h:x*d≤y*c):x / c≤y / d:=by
 have hk:0<c*d:=Rat.mul_pos hc hd;refine (mul_le_pos hk).1 ?_
 have e1:x / c*(c*d)=x*d:=by rw [← Rat.mul_assoc,Rat.div_mul_cancel (by grind)]
 have e2:y / d*(c*d)=y*c:=by rw [Rat.mul_comm c d,← Rat.mul_assoc,Rat.div_mul_cancel (by grind)]
 rw [e1,e2];exact h
theorem div_pos'{x c:Rat}(hx:0<x)(hc:0<c):0<x / c:=by
 have h1:=Rat.inv_pos.2 hc;rw [Rat.div_def];exact Rat.mul_pos hx h1
theorem div_neg'{x c:Rat}(hx:x<0)(hc:0<c):x / c<0:=by
 have h:=div_pos' (x:=-x) (by grind) hc;rw [Rat.div_def,Rat.neg_mul,← Rat.div_def] at h
 grind
theorem esx_pos{s:Int}{x:Rat}(hs:s=0∨s=-1)(h:0<esx s x):s=0∧0<x:=by
 unfold esx at h
 rcases hs with rfl | rfl
 ·rw [if_neg (by omega)] at h;refine⟨rfl,?_⟩;unfold rsg at h
  split at h
  ·omega
  ·split at h
   ·omega
   ·grind
 ·rw [if_pos (by omega)] at h;omega
theorem esx_lt{s:Int}{x:Rat}(hs:s=0∨s=1)(h:esx s x<0):s=0∧x<0:=by
 have k:=esx_pos (s:=-s) (x:=-x) (by omega) (by rw [esx_neg];omega)
 exact⟨by omega,by grind⟩
theorem q_le{s1 s2:Int}{x1 x2:Rat}{b1 b2:Int}(hs1:s1=0∨s1=-1)(hx1:s1≠0→x1=0)(hs2:s2=0∨s2=1)(hx2:s2≠0→x2=0)(hle:s1=0→s2=0→x1≤x2)(hb:b1≤b2)(h2:0<b2)(h3:b2≤M)(h1:b1<M):
  dn (qA s1 x1 b1 b2).1 (qA s1 x1 b1 b2).2.1≤up (qB s2 x2 b1 b2).1 (qB s2 x2 b1 b2).2.1:=by
 have hM:(M:Int)=9218868437227405312:=rfl;have ka:=qA_kind hs1 hx1 hb h2 h3 h1;have kb:=qB_kind hs2 hx2 hb h2 h3 h1;have f2:=fl_pos h2
 have fin:(qA s1 x1 b1 b2).1=0→(qB s2 x2 b1 b2).1=0→(qA s1 x1 b1 b2).2.1≤(qB s2 x2 b1 b2).2.1→dn (qA s1 x1 b1 b2).1 (qA s1 x1 b1 b2).2.1≤up (qB s2 x2 b1 b2).1 (qB s2 x2 b1 b2).2.1:=fun e1 e2 h=>by
  rw [e1,e2,dn_zero,up_zero]
  exact Int.le_trans (rndI_le _) (rndI_mono (.inr rfl) h)
 rcases ka with ⟨a1,-,-,-⟩ | ⟨a1,a2,-,a4,a5⟩ | ⟨a1,a2,-,a4⟩ | ⟨a1,-,a3,a4,a5⟩
 ·have:=up_gt (s:=(qB s2 x2 b1 b2).1) (x:=(qB s2 x2 b1 b2).2.1) (by rcases kb with k | k | k | k<;>omega);unfold dn;rw [a1,if_neg (by omega)];omega
 all_goals rcases kb with ⟨c1,-,-,-⟩ | ⟨c1,c2,-,c4,c5⟩ | ⟨c1,c2,-,c4⟩ | ⟨c1,-,c3,c4,c5⟩
 all_goals first
  | (have:=dn_lt (s:=(qA s1 x1 b1 b2).1) (x:=(qA s1 x1 b1 b2).2.1) (.inl a1);unfold up;rw [c1,if_neg (by omega)];omega)
  | skip
 ·have p:=esx_pos hs1 a4;have q:=esx_lt hs2 c4;have:=hle p.1 q.1;exfalso;grind
 ·have p:=esx_pos hs1 a4;have q:=(esx_zero hx2).1 c4;have:=hle p.1 q.1;exfalso;grind
 ·have p:=esx_pos hs1 a4;have:=hle p.1 c3;refine fin a1 c1 ?_
  rcases c5 with ⟨d1,d2,d3⟩ | ⟨d1,d2,d3⟩
  ·exfalso;grind
  ·rw [a2,d3];have:=div_pos' d1 (fl_pos d2);grind
 ·have p:=(esx_zero hx1).1 a4;have q:=esx_lt hs2 c4;have:=hle p.1 q.1;exfalso;grind
 ·refine fin a1 c1 ?_;rw [a2,c2];exact Rat.le_refl
 ·have p:=(esx_zero hx1).1 a4;have:=hle p.1 c3;refine fin a1 c1 ?_
  rcases c5 with ⟨d1,d2,d3⟩ | ⟨d1,d2,d3⟩
  ·exfalso;grind
  ·rw [a2,d3];have:=div_pos' d1 (fl_pos d2);grind
 ·have q:=esx_lt hs2 c4;have:=hle a3 q.1;refine fin a1 c1 ?_
  rcases a5 with ⟨d1,d2,d3⟩ | ⟨d1,d2,d3⟩
  ·exfalso;grind
  ·rw [c2,d3];have:=div_neg' d1 (fl_pos d2);grind
 ·have q:=(esx_zero hx2).1 c4;have:=hle a3 q.1;refine fin a1 c1 ?_
  rcases a5 with ⟨d1,d2,d3⟩ | ⟨d1,d2,d3⟩
  ·exfalso;grind
  ·rw [c2,d3];have:=div_neg' d1 (fl_pos d2);grind
 ·have hh:=hle a3 c3;have fb:0<b1→fl b1≤fl b2:=fun _=>fl_le_iff.2 hb;refine fin a1 c1 ?_
  rcases a5 with ⟨d1,d2,d3⟩ | ⟨d1,d2,d3⟩
  ·rcases c5 with ⟨e1,e2,e3⟩ | ⟨e1,e2,e3⟩
   ·exfalso;grind
   ·rw [d3,e3];have f1:=fl_pos e2;refine div_le_div f2 f1 ?_;have m1:x1*fl b1≤x2*fl b1:=(mul_le_pos f1).2 hh;have m2:fl b1*x2≤fl b2*x2:=(mul_le_pos e1).2 (fb e2)
    grind
  ·have f1:=fl_pos d2
   rcases c5 with ⟨e1,e2,e3⟩ | ⟨e1,e2,e3⟩
   ·rw [d3,e3];refine div_le_div f1 f2 ?_;have m1:x1*fl b2≤x2*fl b2:=(mul_le_pos f2).2 hh;have m2:fl b1*(-x2)≤fl b2*(-x2):=(mul_le_pos (by grind)).2 (fb d2)
    grind
   ·rw [d3,e3];have:=div_neg' d1 f1;have:=div_pos' e1 f1
    grind
theorem rndI_pos{x:Rat}(h:0<x):0<rndI 1 x:=by
 have hM:(M:Int)=9218868437227405312:=rfl;have h1:=mt ((rndI_up x).2.2 0 (by omega) (by omega)).1 (by rw [fl_zero];grind)
 omega
theorem rndI_neg'{x:Rat}(h:x<0):rndI (-1) x<0:=by
 have hM:(M:Int)=9218868437227405312:=rfl;have h1:=mt ((rndI_down x).2.2 0 (by omega) (by omega)).1 (by rw [fl_zero];grind)
 omega
theorem openA{s1 s2:Int}{x1 x2:Rat}{b1 b2:Int}(hs1:s1=0∨s1=-1)(hx1:s1≠0→x1=0)(hs2:s2=0∨s2=1)(hle:s1=0→s2=0→x1≤x2)(hb:b1≤b2)(h2:0<b2)(h3:b2≤M)(h1:b1<M):
  ((0<esx s1 x1∨esx s2 x2<0)∧dn (qA s1 x1 b1 b2).1 (qA s1 x1 b1 b2).2.1=0∧up (qA s1 x1 b1 b2).1 (qA s1 x1 b1 b2).2.1=0)↔((qA s1 x1 b1 b2).1=0∧(qA s1 x1 b1 b2).2.1=0∧(qA s1 x1 b1 b2).2.2=true):=by
 have hM:(M:Int)=9218868437227405312:=rfl;have z1:=rndI_zero (d:=-1) (.inl rfl);have z2:=rndI_zero (d:=1) (.inr rfl)
 rcases qA_kind hs1 hx1 hb h2 h3 h1 with ⟨a1,-,-,-⟩ | ⟨a1,a2,a3,a4,a5⟩ | ⟨a1,a2,a3,a4⟩ | ⟨a1,a2,a3,a4,a5⟩
 ·constructor
  ·rintro⟨-,h,-⟩;unfold dn at h;rw [a1,if_neg (by omega)] at h;omega
  ·rintro⟨h,-⟩;omega
 ·refine⟨fun _=>⟨a1,a2,a3⟩,fun _=>⟨.inl a4,?_⟩⟩;rw [a1,a2,dn_zero,up_zero];exact⟨z1,z2⟩
 ·constructor
  ·rintro⟨h | h,-⟩
   ·omega
   ·have q:=esx_lt hs2 h;have r:=(esx_zero hx1).1 a4;have:=hle r.1 q.1
    exfalso;grind
  ·rintro⟨-,-,h⟩;rw [a3] at h;cases h
 ·constructor
  ·rintro⟨-,h,h'⟩;rw [a1,dn_zero] at h;rw [a1,up_zero] at h'
   rcases a5 with ⟨d1,d2,d3⟩ | ⟨d1,d2,d3⟩
   ·have:=rndI_pos (div_pos' d1 (fl_pos h2));rw [d3] at h';omega
   ·have:=rndI_neg' (div_neg' d1 (fl_pos d2));rw [d3] at h;omega
  ·rintro⟨-,-,h⟩;rw [a2] at h;cases h
theorem openB{s1 s2:Int}{x1 x2:Rat}{b1 b2:Int}(hs1:s1=0∨s1=-1)(hs2:s2=0∨s2=1)(hx2:s2≠0→x2=0)(hle:s1=0→s2=0→x1≤x2)(hb:b1≤b2)(h2:0<b2)(h3:b2≤M)(h1:b1<M):
  ((0<esx s1 x1∨esx s2 x2<0)∧dn (qB s2 x2 b1 b2).1 (qB s2 x2 b1 b2).2.1=0∧up (qB s2 x2 b1 b2).1 (qB s2 x2 b1 b2).2.1=0)↔((qB s2 x2 b1 b2).1=0∧(qB s2 x2 b1 b2).2.1=0∧(qB s2 x2 b1 b2).2.2=true):=by
 have k:=openA (s1:=-s2) (x1:=-x2) (s2:=-s1) (x2:=-x1) (by omega) (fun h=>by rw [hx2 (by omega)];rfl) (by omega) (fun a b=>by have:=hle (by omega) (by omega);grind) hb h2 h3 h1;rw [esx_neg,esx_neg] at k;rw [qB_neg]
 dsimp only
 rw [dn_neg,up_neg]
 constructor
 ·rintro⟨a,b,c⟩;have:=k.1 ⟨by omega,by omega,by omega⟩
  exact⟨by omega,by rw [this.2.1];rfl,this.2.2⟩
 ·rintro⟨a,b,c⟩;have:=k.2 ⟨by omega,by grind,c⟩
  exact⟨by omega,by omega,by omega⟩
theorem ct_tail{op:Bool}{sa:Int}{xa:Rat}{fa:Bool}{sb:Int}{xb:Rat}{fb:Bool}{i j:Int}(h:-(M:Int)≤i∧i≤j∧j≤M∧i<M∧-(M:Int)<j)(ka:sa=0∨sa=-1)(kb:sb=0∨sb=1)
  (wa:fa=true→sa=-1∨sa=0∧xa=0)(wb:fb=true→sb=1∨sb=0∧xb=0)(oa:(op=true∧dn sa xa=0∧up sa xa=0)↔(sa=0∧xa=0∧fa=true))(ob:(op=true∧dn sb xb=0∧up sb xb=0)↔(sb=0∧xb=0∧fb=true)):
  ctO op i j (dn sa xa) (up sa xa) (dn sb xb) (up sb xb)=pf sa xa fa sb xb fb i j:=by
 have hM:(M:Int)=9218868437227405312:=rfl;unfold pf;rw [if_neg (by omega)];unfold wg ctO;rw [ec_lo_at (by omega) ka,ec_hi_at (by omega) kb];have e1:=ec_hi (i:=i) (s:=sb) (x:=xb) (by omega) kb;have e2:=ec_lo (j:=j) (s:=sa) (x:=xa) (by omega) ka
 have z0:∀ k:Int,-(M:Int)≤k→k≤M→(ec (es k) (ex k) 0 0=0↔k=0):=fun k k1 k2=>by
  have h:=ec_idx (i:=k) (b:=0) k1 k2 (by omega) (by omega);rw [es_nought,ex_nought] at h;unfold SameSign at h
  omega
 have e3:(ec (es i) (ex i) sb xb=0∧fb=true)↔(op=true∧dn sb xb=0∧up sb xb=0∧i=0):=by
  constructor
  ·rintro⟨a,b⟩
   rcases wb b with k | k
   ·exact absurd a (ec_hi_open (by omega) k)
   ·have q:=ob.2 ⟨k.1,k.2,b⟩;rw [k.1,k.2] at a
    exact⟨q.1,q.2.1,q.2.2,(z0 i (by omega) (by omega)).1 a⟩
  ·rintro⟨a,b,c,d⟩;have q:=ob.1 ⟨a,b,c⟩;rw [q.1,q.2.1]
   exact⟨(z0 i (by omega) (by omega)).2 d,q.2.2⟩
 have e4:(ec (es j) (ex j) sa xa=0∧fa=true)↔(op=true∧dn sa xa=0∧up sa xa=0∧j=0):=by
  constructor
  ·rintro⟨a,b⟩
   rcases wa b with k | k
   ·exact absurd a (ec_lo_open (by omega) k)
   ·have q:=oa.2 ⟨k.1,k.2,b⟩;rw [k.1,k.2] at a
    exact⟨q.1,q.2.1,q.2.2,(z0 j (by omega) (by omega)).1 a⟩
  ·rintro⟨a,b,c,d⟩;have q:=oa.1 ⟨a,b,c⟩;rw [q.1,q.2.1]
   exact⟨(z0 j (by omega) (by omega)).2 d,q.2.2⟩
 by_cases hc:dn sb xb<i∨j<up sa xa
 ·rw [if_pos hc,if_pos]
  rcases hc with h1 | h1
  ·exact .inl (e1.2 h1)
  ·exact .inr (.inr (.inl (e2.2 h1)))
 ·rw [if_neg hc]
  by_cases hd:op=true∧((dn sa xa=0∧up sa xa=0∧j≤0)∨(dn sb xb=0∧up sb xb=0∧0≤i))
  ·rw [if_pos hd,if_pos];obtain⟨ho,hd | hd⟩:=hd
   ·exact .inr (.inr (.inr (e4.2 ⟨ho,hd.1,hd.2.1,by omega⟩)))
   ·exact .inr (.inl (e3.2 ⟨ho,hd.1,hd.2.1,by omega⟩))
  ·rw [if_neg hd,if_neg];rintro (h1 | h1 | h1 | h1)
   ·exact hc (.inl (e1.1 h1))
   ·have q:=e3.1 h1
    exact hd ⟨q.1,.inr ⟨q.2.1,q.2.2.1,by omega⟩⟩
   ·exact hc (.inr (e2.1 h1))
   ·have q:=e4.1 h1
    exact hd ⟨q.1,.inl ⟨q.2.1,q.2.2.1,by omega⟩⟩
theorem ct_pf{s1 s2:Int}{x1 x2:Rat}{b1 b2:Int}(hs1:s1=0∨s1=-1)(hx1:s1≠0→x1=0)(hs2:s2=0∨s2=1)(hx2:s2≠0→x2=0)(hle:s1=0→s2=0→x1≤x2)(hb:b1≤b2)(h2:0<b2)(h3:b2≤M)(h1:b1<M)
  (i j:Int)(h:-(M:Int)≤i∧i≤j∧j≤M∧i<M∧-(M:Int)<j):
  ctO (decide (0<esx s1 x1) || decide (esx s2 x2<0)) i j (pA s1 x1 b1 b2).1 (pA s1 x1 b1 b2).2 (pB s2 x2 b1 b2).1 (pB s2 x2 b1 b2).2=pf (qA s1 x1 b1 b2).1 (qA s1 x1 b1 b2).2.1 (qA s1 x1 b1 b2).2.2 (qB s2 x2 b1 b2).1 (qB s2 x2 b1 b2).2.1 (qB s2 x2 b1 b2).2.2 i j:=by
 have hM:(M:Int)=9218868437227405312:=rfl;rw [pA_qA hs1 hx1 hb h2 h3 h1,pB_qB hs2 hx2 hb h2 h3 h1];have oa:=openA hs1 hx1 hs2 hle hb h2 h3 h1;have ob:=openB hs1 hs2 hx2 hle hb h2 h3 h1
 have ka:(qA s1 x1 b1 b2).1=0∨(qA s1 x1 b1 b2).1=-1:=by rcases qA_kind hs1 hx1 hb h2 h3 h1 with k | k | k | k<;>omega
 have kb:(qB s2 x2 b1 b2).1=0∨(qB s2 x2 b1 b2).1=1:=by rcases qB_kind hs2 hx2 hb h2 h3 h1 with k | k | k | k<;>omega
 have wa:(qA s1 x1 b1 b2).2.2=true→(qA s1 x1 b1 b2).1=-1∨(qA s1 x1 b1 b2).1=0∧(qA s1 x1 b1 b2).2.1=0:=fun o=>by
  rcases qA_kind hs1 hx1 hb h2 h3 h1 with k | k | k | k
  ·exact .inl k.1
  ·exact .inr ⟨k.1,k.2.1⟩
  ·rw [k.2.2.1] at o;cases o
  ·rw [k.2.1] at o;cases o
 have wb:(qB s2 x2 b1 b2).2.2=true→(qB s2 x2 b1 b2).1=1∨(qB s2 x2 b1 b2).1=0∧(qB s2 x2 b1 b2).2.1=0:=fun o=>by
  rcases qB_kind hs2 hx2 hb h2 h3 h1 with k | k | k | k
  ·exact .inl k.1
  ·exact .inr ⟨k.1,k.2.1⟩
  ·rw [k.2.2.1] at o;cases o
  ·rw [k.2.1] at o;cases o
 obtain⟨⟨sa,xa,fa⟩,ea⟩:∃ z,qA s1 x1 b1 b2=z:=⟨_,rfl⟩
 obtain⟨⟨sb,xb,fb⟩,eb⟩:∃ z,qB s2 x2 b1 b2=z:=⟨_,rfl⟩
 rw [ea] at oa ka wa;rw [eb] at ob kb wb;rw [ea,eb]
 obtain⟨op,hop⟩:∃ o,(decide (0<esx s1 x1) || decide (esx s2 x2<0))=o:=⟨_,rfl⟩
 have hop2:(0<esx s1 x1∨esx s2 x2<0)↔op=true:=by rw [← hop];simp
 rw [hop2] at oa ob;rw [hop]
 dsimp only at *
 exact ct_tail h ka kb wa wb oa ob
end Go.Proofs.YtmjkmoahkanblaaGreat
