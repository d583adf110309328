/-
Lemmas for the statement: MnsT PieceG MiP PieceT MpT NeP.
-/
import Derived.Test.YthlmlmfebpjgdaaGreatDoorM03
import Derived.Test.YthlmlmfebpjgdaaGreatDoorM07
import Derived.Test.YthlmlmfebpjgdaaGreatDoorM12
import Derived.Test.YthlmlmfebpjgdaaGreatDoorM08
import Derived.Test.YthlmlmfebpjgdaaGreatDoorM09
import Derived.Test.YthlmlmfebpjgdaaGreatDoorM05
import Derived.Deep.DeepCutAuto
import Derived.Test.YthlmlmfebpjgdaaGreatDoorM04
set_option linter.unusedSimpArgs false
set_option linter.unusedVariables false
set_option maxHeartbeats 12800000
namespace Go.Proofs.YthlmlmfebpjgdaaGreatDoor
section
open Go.RowKit
theorem minus_none(K:Nat)(s1:Int)(g1:Bool)(A1:Option Addr)(n1 c1:Nat)(B1:Option Addr)(m1 d1:Nat)(x1:Rat)(s2:Int)(g2:Bool)(A2:Option Addr)(n2 c2:Nat)(B2:Option Addr)(m2 d2:Nat)(x2:Rat)(w:World)(h1:RatV w K g1 (.slice A1 n1 c1) (.slice B1 m1 d1) x1)(h2:RatV w K g2 (.slice A2 n2 c2) (.slice B2 m2 d2) x2):
  Calls Tryz.prog 112 #[.agg #[.bool true,.int .i64 s1,.bool g1,.slice A1 n1 c1,.slice B1 m1 d1,.int .i64 s2,.bool g2,.slice A2 n2 c2,.slice B2 m2 d2]] w (NewSet w K true s1 x1 s2 x2):=by
 have H1:=Hd h1;have H2:=Hd h2;clear h1 h2;obtain⟨LB0,LG0_0,LR⟩:=bx2 w #[.bool true,.int .i64 s1,.bool g1,.slice A1 n1 c1,.slice B1 m1 d1,.int .i64 s2,.bool g2,.slice A2 n2 c2,.slice B2 m2 d2] 89 #[.bool false,.int .i64 0,.bool false,.slice none 0 0,.slice none 0 0,.int .i64 0,.bool false,.slice none 0 0,.slice none 0 0] 89;have LR0:=Hd (HasBlk.of (n:=9) LR.out rfl rfl);clear LR;have ba:=LB0.out;clear LB0 LG0_0 LR0 ba
 go_enter Tryz.func112,Tryz.ntmps112
 go_wp2;refine bodyPost_ret (v:=.agg #[.bool true,.int .i64 s1,.bool g1,.slice A1 n1 c1,.slice B1 m1 d1,.int .i64 s2,.bool g2,.slice A2 n2 c2,.slice B2 m2 d2]) (by simp [results,Tryz.results112,go_sem]) rfl ?_
 exact have b:=((below_alloc w _).alloc (by simp<;>omega) _);⟨_,_,_,_,_,_,_,_,_,_,_,_,_,_,rfl,H1.out.below b,H2.out.below b,b⟩
theorem minus_some(K:Nat)(s1:Int)(g1:Bool)(A1:Option Addr)(n1 c1:Nat)(B1:Option Addr)(m1 d1:Nat)(x1:Rat)(s2:Int)(g2:Bool)(A2:Option Addr)(n2 c2:Nat)(B2:Option Addr)(m2 d2:Nat)(x2:Rat)(w:World)(h1:RatV w K g1 (.slice A1 n1 c1) (.slice B1 m1 d1) x1)(h2:RatV w K g2 (.slice A2 n2 c2) (.slice B2 m2 d2) x2)(hK:K≤1073741824)(hs:-1≤s1∧s1≤1)(ht:-1≤s2∧s2≤1):
  Calls Tryz.prog 112 #[.agg #[.bool false,.int .i64 s1,.bool g1,.slice A1 n1 c1,.slice B1 m1 d1,.int .i64 s2,.bool g2,.slice A2 n2 c2,.slice B2 m2 d2]] w (NewSet w K false (-s2) (-x2) (-s1) (-x1)):=by
 have T1:=Hd fun W (hW:Below w.heap.size w W)=>turned_any K s1 g1 A1 n1 c1 B1 m1 d1 x1 W (h1.below hW) hK hs;have T2:=Hd fun W (hW:Below w.heap.size w W)=>turned_any K s2 g2 A2 n2 c2 B2 m2 d2 x2 W (h2.below hW) hK ht
 obtain⟨s3,e3⟩:∃ s,-s2=s:=⟨_,rfl⟩
 obtain⟨s4,e4⟩:∃ s,-s1=s:=⟨_,rfl⟩
 rw [e3] at T2 ⊢;rw [e4] at T1 ⊢;clear h1 h2 hs ht e3 e4;obtain⟨LB0,LG0_0,LR⟩:=bx2 w #[.bool false,.int .i64 s1,.bool g1,.slice A1 n1 c1,.slice B1 m1 d1,.int .i64 s2,.bool g2,.slice A2 n2 c2,.slice B2 m2 d2] 89 #[.bool false,.int .i64 0,.bool false,.slice none 0 0,.slice none 0 0,.int .i64 0,.bool false,.slice none 0 0,.slice none 0 0] 89;have LR0:=Hd (HasBlk.of (n:=9) LR.out rfl rfl);clear LR
 go_enter Tryz.func112,Tryz.ntmps112
 go_wp2_with fail;refine wp_region_held_drew (S:=fun W'=>Blk W' w.heap.size 89 #[.bool false,.int .i64 s1,.bool g1,.slice A1 n1 c1,.slice B1 m1 d1,.int .i64 s2,.bool g2,.slice A2 n2 c2,.slice B2 m2 d2]∧HasBlk W' (w.heap.size+1) 89 9∧Below w.heap.size w W') (by kernel_rfl) (by exact⟨LG0_0.out.drew,LR0.out.drew,LB0.out.drew⟩) (fun hHeld=>?_);refine tk 0 ?_;(try simp only [Act.put,lay]);refine tk 1 ?_ (hv:=by intro W2 hSw;obtain⟨q0,q1,q2,q3,q4,q5,q6,q7,q8⟩:=hSw.1.c9;go_simp;(try with_reducible rfl));(try simp only [Act.put,lay]);refine tk 3 ?_;(try simp only [Act.put,lay]);refine tk 4 ?_ (hv:=by intro W2 hSw;obtain⟨q0,q1,q2,q3,q4,q5,q6,q7,q8⟩:=hSw.1.c9;go_simp;(try with_reducible rfl));(try simp only [Act.put,lay]);refine rdy 2 (fun KK hKK=>?_);go_simp;refine (T2.out _ ?_).mono ?_;exact hHeld.2.2;rintro e w3 ⟨g3,A3,n3,c3,B3,m3,d3,rfl,h3,hb3⟩;go_wp2_with fail;refine hKK.out _ _ (⟨hHeld.1.keep hb3,hHeld.2.1.keep hb3,hHeld.2.2.trans (hb3.mono hHeld.2.2.size)⟩) (fun _=>?_);clear hKK KK hHeld;rename_i hHeld;(try simp only [Act.put,lay]);refine rdy 5 (fun KK hKK=>?_);go_simp;refine (T1.out _ ?_).mono ?_;exact hHeld.2.2;rintro e w4 ⟨g4,A4,n4,c4,B4,m4,d4,rfl,h4,hb4⟩;go_wp2_with fail;refine hKK.out _ _ (⟨hHeld.1.keep hb4,hHeld.2.1.keep hb4,hHeld.2.2.trans (hb4.mono hHeld.2.2.size)⟩) (fun _=>?_);clear hKK KK hHeld;rename_i hHeld;(try simp only [Act.put,lay]);refine tk 6 ?_;(try simp only [Act.put,lay]);refine rdy 7 (fun KK hKK=>?_);have ha0:=hHeld.2.1.someCell 0 (by decide);have hf0:=hHeld.2.1.frozen 0;have ha1:=hHeld.2.1.someCell 1 (by decide);have hf1:=hHeld.2.1.frozen 1;have ha2:=hHeld.2.1.someCell 2 (by decide);have hf2:=hHeld.2.1.frozen 2;have ha3:=hHeld.2.1.someCell 3 (by decide);have hf3:=hHeld.2.1.frozen 3;have ha4:=hHeld.2.1.someCell 4 (by decide);have hf4:=hHeld.2.1.frozen 4;have ha5:=hHeld.2.1.someCell 5 (by decide);have hf5:=hHeld.2.1.frozen 5;have ha6:=hHeld.2.1.someCell 6 (by decide);have hf6:=hHeld.2.1.frozen 6;have ha7:=hHeld.2.1.someCell 7 (by decide);have hf7:=hHeld.2.1.frozen 7;have ha8:=hHeld.2.1.someCell 8 (by decide);have hf8:=hHeld.2.1.frozen 8;have HK:=Hd (hHeld.2.1.setCell [.bool false,.int .i64 s3,.bool g3,.slice A3 n3 c3,.slice B3 m3 d3,.int .i64 s4,.bool g4,.slice A4 n4 c4,.slice B4 m4 d4] rfl);have F:=Hd (below_sets (w0:=w) (r:=(w.heap.size+1)) (by omega) [.bool false,.int .i64 s3,.bool g3,.slice A3 n3 c3,.slice B3 m3 d3,.int .i64 s4,.bool g4,.slice A4 n4 c4,.slice B4 m4 d4] 0 _ hHeld.2.2);have FR1:=Hd (hHeld.2.1.rat (h3.below hb4) [.bool false,.int .i64 s3,.bool g3,.slice A3 n3 c3,.slice B3 m3 d3,.int .i64 s4,.bool g4,.slice A4 n4 c4,.slice B4 m4 d4]);have FR2:=Hd (hHeld.2.1.rat h4 [.bool false,.int .i64 s3,.bool g3,.slice A3 n3 c3,.slice B3 m3 d3,.int .i64 s4,.bool g4,.slice A4 n4 c4,.slice B4 m4 d4])
 go_simp;refine hKK.out _ _ (⟨hHeld.1.other (by omega) 0 [.bool false,.int .i64 s3,.bool g3,.slice A3 n3 c3,.slice B3 m3 d3,.int .i64 s4,.bool g4,.slice A4 n4 c4,.slice B4 m4 d4],hHeld.2.1.sets [.bool false,.int .i64 s3,.bool g3,.slice A3 n3 c3,.slice B3 m3 d3,.int .i64 s4,.bool g4,.slice A4 n4 c4,.slice B4 m4 d4] rfl rfl,below_sets (by omega) [.bool false,.int .i64 s3,.bool g3,.slice A3 n3 c3,.slice B3 m3 d3,.int .i64 s4,.bool g4,.slice A4 n4 c4,.slice B4 m4 d4] 0 _ hHeld.2.2⟩) (fun _=>?_);clear hKK KK hHeld;rename_i hHeld;(try simp only [Act.put,lay]);refine wpAnyH_done (by kernel_rfl) ?_ _;have hk0:=HK.out 0 (by decide);have hk1:=HK.out 1 (by decide);have hk2:=HK.out 2 (by decide);have hk3:=HK.out 3 (by decide);have hk4:=HK.out 4 (by decide);have hk5:=HK.out 5 (by decide);have hk6:=HK.out 6 (by decide);have hk7:=HK.out 7 (by decide);have hk8:=HK.out 8 (by decide)
 simp [sets] at hk0 hk1 hk2 hk3 hk4 hk5 hk6 hk7 hk8
 clear hHeld HK h3 hb3 h4 hb4;clear LB0 LR0 LG0_0;go_wp2;refine bodyPost_ret (v:=.agg #[.bool false,.int .i64 s3,.bool g3,.slice A3 n3 c3,.slice B3 m3 d3,.int .i64 s4,.bool g4,.slice A4 n4 c4,.slice B4 m4 d4]) (by simp [results,Tryz.results112,go_sem,hk0,hk1,hk2,hk3,hk4,hk5,hk6,hk7,hk8]) rfl ?_
 exact⟨_,_,_,_,_,_,_,_,_,_,_,_,_,_,rfl,FR1.out,FR2.out,F.out⟩
end
section
open Go.RowKit
def pf(s1:Int)(x1:Rat)(o1:Bool)(s2:Int)(x2:Rat)(o2:Bool)(i j:Int):Int × Int:=
 if j<i then ((M:Int),-(M:Int)) else wg i j (ec (es i) (ex i) s2 x2) (ec (es j) (ex j) s1 x1) (ec (es i) (ex i) s1 x1) (ec (es j) (ex j) s2 x2) (rndI (-1) x1) (rndI 1 x2) o1 o2
theorem dn_le_up(s:Int)(x:Rat):dn s x≤up s x:=by
 unfold dn up
 split
 ·exact rndI_le x
 ·omega
theorem dn_lt{s:Int}{x:Rat}(h:s=0∨s=-1):-(M:Int)≤dn s x∧dn s x<M:=by
 have hM:M=9218868437227405312:=rfl
 rcases h with rfl | rfl
 ·have:=rndI_down x;rw [dn_zero];omega
 ·unfold dn;rw [if_neg (by omega)];omega
theorem up_gt{s:Int}{x:Rat}(h:s=0∨s=1):-(M:Int)<up s x∧up s x≤M:=by
 have hM:M=9218868437227405312:=rfl
 rcases h with rfl | rfl
 ·have:=rndI_up x;rw [up_zero];omega
 ·unfold up;rw [if_neg (by omega)];omega
theorem pf_iv{s1:Int}{x1:Rat}{o1:Bool}{s2:Int}{x2:Rat}{o2:Bool}(hs1:s1=0∨s1=-1)(hs2:s2=0∨s2=1)(hle:dn s1 x1≤up s2 x2)(i j:Int)(h:Iv i j):Iv (pf s1 x1 o1 s2 x2 o2 i j).1 (pf s1 x1 o1 s2 x2 o2 i j).2:=by
 rcases h with h | ⟨rfl,rfl⟩
 ·unfold pf;rw [if_neg (by omega)];unfold wg
  split
  ·exact Iv.none
  ·rename_i hn;rw [ec_lo_at (by omega) hs1,ec_hi_at (by omega) hs2];have e1:¬ dn s2 x2<i:=fun h'=>hn (.inl ((ec_hi (by omega) hs2).2 h'));have e2:¬ j<up s1 x1:=fun h'=>hn (.inr (.inr (.inl ((ec_lo (by omega) hs1).2 h'))));have e3:=dn_le_up s1 x1;have e4:=dn_le_up s2 x2;have e5:=dn_lt (x:=x1) hs1;have e6:=up_gt (x:=x2) hs2;unfold Iv
   dsimp only
   omega
 ·unfold pf;have hM:M=9218868437227405312:=rfl;rw [if_pos (by omega)];exact Iv.none
theorem pcw_nothing(s1:Int)(g1:Bool)(A1:Option Addr)(n1 c1:Nat)(B1:Option Addr)(m1 d1:Nat)(x1:Rat)(o1:Bool)(s2:Int)(g2:Bool)(A2:Option Addr)(n2 c2:Nat)(B2:Option Addr)(m2 d2:Nat)(x2:Rat)(o2:Bool)(N1 N2:Int)(w:World):PcW w true s1 g1 A1 n1 c1 B1 m1 d1 N1 o1 s2 g2 A2 n2 c2 B2 m2 d2 N2 o2 (fun _ _=>((M:Int),-(M:Int))):=by
 refine⟨fun _ _ _=>Iv.none,fun W i j hW hij=>?_⟩;rw [pat_max,pat_min]
 exact within_nothing i j N1 N2 s1 g1 A1 n1 c1 B1 m1 d1 x1 s2 g2 A2 n2 c2 B2 m2 d2 x2 o1 o2 W
theorem pf_closed{s1:Int}{x1:Rat}{s2:Int}{x2:Rat}(hs1:s1=0∨s1=-1)(hs2:s2=0∨s2=1)(i j:Int)(h:-(M:Int)≤i∧i≤j∧j≤M∧i<M∧-(M:Int)<j):
  pf s1 x1 (decide (s1≠0)) s2 x2 (decide (s2≠0)) i j=ct i j (dn s1 x1) (up s1 x1) (dn s2 x2) (up s2 x2):=by
 unfold pf;rw [if_neg (by omega)];unfold wg ct;rw [ec_lo_at (by omega) hs1,ec_hi_at (by omega) hs2];have e1:=ec_hi (i:=i) (s:=s2) (x:=x2) (by omega) hs2;have e2:=ec_lo (j:=j) (s:=s1) (x:=x1) (by omega) hs1
 have e3:¬ (ec (es i) (ex i) s2 x2=0∧decide (s2≠0)=true):=by
  rintro⟨a,b⟩;have b':=of_decide_eq_true b
  exact ec_hi_open (by omega) (by omega) a
 have e4:¬ (ec (es j) (ex j) s1 x1=0∧decide (s1≠0)=true):=by
  rintro⟨a,b⟩;have b':=of_decide_eq_true b
  exact ec_lo_open (by omega) (by omega) a
 by_cases hc:dn s2 x2<i∨j<up s1 x1
 ·rw [if_pos hc,if_pos]
  rcases hc with h1 | h1
  ·exact .inl (e1.2 h1)
  ·exact .inr (.inr (.inl (e2.2 h1)))
 ·rw [if_neg hc,if_neg];rintro (h1 | h1 | h1 | h1)
  ·exact hc (.inl (e1.1 h1))
  ·exact e3 h1
  ·exact hc (.inr (e2.1 h1))
  ·exact e4 h1
end
section
open Go.RowKit
theorem minus_idx(v:Value)(i j:Int)(w:World)(h:SetOf w v i j):
  Calls Tryz.prog 112 #[v] w fun e w'=>∃ t,e=.returned t∧SetOf w' t (-j) (-i)∧Below w.heap.size w w':=by
 rcases h with ⟨rfl,rfl,s,x,t,y,g,A,n,c,B,m,d,g',A',n',c',B',m',d',rfl,h4,h5⟩ | ⟨h1,g,A,n,c,B,m,d,g',A',n',c',B',m',d',rfl,h4,h5⟩
 ·refine (minus_none 34 s g A n c B m d x t g' A' n' c' B' m' d' y w h4 h5).mono ?_;rintro e w' ⟨g5,A5,n5,c5,B5,m5,d5,g6,A6,n6,c6,B6,m6,d6,rfl,q1,q2,hb⟩
  exact⟨_,rfl,.inl ⟨by omega,rfl,_,_,_,_,_,_,_,_,_,_,_,_,_,_,_,_,_,_,rfl,q1,q2⟩,hb⟩
 ·refine (minus_some 34 _ g A n c B m d _ _ g' A' n' c' B' m' d' _ w h4 h5 (by omega) (es_bounds i) (es_bounds j)).mono ?_;rintro e w' ⟨g5,A5,n5,c5,B5,m5,d5,g6,A6,n6,c6,B6,m6,d6,rfl,q1,q2,hb⟩;rw [← es_neg,← es_neg];rw [← ex_neg] at q1 q2
  exact⟨_,rfl,.inr ⟨by omega,_,_,_,_,_,_,_,_,_,_,_,_,_,_,rfl,q1,q2⟩,hb⟩
theorem PcW.below{w w0:World}{o:Bool}{s1:Int}{g1:Bool}{A1:Option Addr}{n1 c1:Nat}{B1:Option Addr}{m1 d1:Nat}{N1:Int}{o1:Bool}{s2:Int}{g2:Bool}{A2:Option Addr}{n2 c2:Nat}{B2:Option Addr}{m2 d2:Nat}{N2:Int}{o2:Bool}{F:Int→Int→Int × Int}
  (h:PcW w0 o s1 g1 A1 n1 c1 B1 m1 d1 N1 o1 s2 g2 A2 n2 c2 B2 m2 d2 N2 o2 F)(hb:Below w0.heap.size w0 w):PcW w o s1 g1 A1 n1 c1 B1 m1 d1 N1 o1 s2 g2 A2 n2 c2 B2 m2 d2 N2 o2 F:=
 ⟨h.1,fun W i j hW hij=>h.2 W i j (hb.trans (hW.mono hb.size)) hij⟩
end
section
open Go.RowKit
theorem nothing_any(w:World):
  Calls Tryz.prog 148 #[] w (NewPiece w 1 true 0 0 1 false 0 0 1 false):=by
 have HS:=Hd (show ∀ W,Calls Tryz.prog 177 #[.int .i64 0,.bool false] W (NewBd W 1 0 0 1 false) from fun W=>whole_nat 0 false W (by omega));obtain⟨LB0,LR⟩:=bx1 w #[.bool false,.int .i64 0,.bool false,.slice none 0 0,.slice none 0 0,.int .i64 0,.bool false,.int .i64 0,.bool false,.slice none 0 0,.slice none 0 0,.int .i64 0,.bool false] 84;have LR0:=Hd (HasBlk.of (n:=13) LR.out rfl rfl);clear LR
 go_enter Tryz.func148,Tryz.ntmps148
 go_wp2_with fail;refine (HS.out _).mono ?_;rintro e w1 ⟨g1,A1,n1,c1,B1,m1,d1,rfl,h1,hb1⟩;have LB1:=stB LB0 hb1 LB0.out.size;have LR1:=stR LR0 hb1;clear LB0 LR0;go_wp2_with fail;refine (HS.out _).mono ?_;rintro e w2 ⟨g2,A2,n2,c2,B2,m2,d2,rfl,h2,hb2⟩;have LB2:=stB LB1 hb2 LB1.out.size;have LR2:=stR LR1 hb2;clear LB1 LR1;obtain⟨ha0,hf0,ha1,hf1,ha2,hf2,ha3,hf3,ha4,hf4,ha5,hf5,ha6,hf6,ha7,hf7,ha8,hf8,ha9,hf9,ha10,hf10,ha11,hf11,ha12,hf12⟩:=LR2.out.sf13;obtain⟨hk0,hk1,hk2,hk3,hk4,hk5,hk6,hk7,hk8,hk9,hk10,hk11,hk12⟩:=LR2.out.sc13 (.bool true) (.int .i64 0) (.bool g1) (.slice A1 n1 c1) (.slice B1 m1 d1) (.int .i64 1) (.bool false) (.int .i64 0) (.bool g2) (.slice A2 n2 c2) (.slice B2 m2 d2) (.int .i64 1) (.bool false);have F:=Hd (below_sets (w0:=w) (r:=w.heap.size) (by omega) [.bool true,.int .i64 0,.bool g1,.slice A1 n1 c1,.slice B1 m1 d1,.int .i64 1,.bool false,.int .i64 0,.bool g2,.slice A2 n2 c2,.slice B2 m2 d2,.int .i64 1,.bool false] 0 _ LB2.out)
 simp [sets] at hk0 hk1 hk2 hk3 hk4 hk5 hk6 hk7 hk8 hk9 hk10 hk11 hk12
 have FR1:=Hd (LR2.out.rat (h1.below hb2) [.bool true,.int .i64 0,.bool g1,.slice A1 n1 c1,.slice B1 m1 d1,.int .i64 1,.bool false,.int .i64 0,.bool g2,.slice A2 n2 c2,.slice B2 m2 d2,.int .i64 1,.bool false]);have FR2:=Hd (LR2.out.rat (h2) [.bool true,.int .i64 0,.bool g1,.slice A1 n1 c1,.slice B1 m1 d1,.int .i64 1,.bool false,.int .i64 0,.bool g2,.slice A2 n2 c2,.slice B2 m2 d2,.int .i64 1,.bool false]);clear hb1 h1 hb2 h2;go_wp2;refine bodyPost_ret (v:=.agg #[.bool true,.int .i64 0,.bool g1,.slice A1 n1 c1,.slice B1 m1 d1,.int .i64 1,.bool false,.int .i64 0,.bool g2,.slice A2 n2 c2,.slice B2 m2 d2,.int .i64 1,.bool false]) (by simp [results,Tryz.results148,go_sem,hk0,hk1,hk2,hk3,hk4,hk5,hk6,hk7,hk8,hk9,hk10,hk11,hk12]) rfl ?_
 exact⟨_,_,_,_,_,_,_,_,_,_,_,_,_,_,rfl,FR1.out,FR2.out,F.out⟩
theorem bound_end(K:Nat)(s1:Int)(g1:Bool)(A1:Option Addr)(n1 c1:Nat)(B1:Option Addr)(m1 d1:Nat)(x1:Rat)(w:World)(h1:RatV w K g1 (.slice A1 n1 c1) (.slice B1 m1 d1) x1)(hK:1≤K)(hx:s1≠0→x1=0):
  Calls Tryz.prog 149 #[.agg #[.int .i64 s1,.bool g1,.slice A1 n1 c1,.slice B1 m1 d1]] w (NewBd w K s1 x1 1 (decide (s1≠0))):=by
 by_cases h:s1=0
 ·subst h;rw [decide_eq_false (show ¬ ((0:Int)≠0) from fun h=>h rfl)];have H1:=Hd h1;clear h1 hx;obtain⟨LB0,LG0_0,LR⟩:=bx2 w #[.int .i64 0,.bool g1,.slice A1 n1 c1,.slice B1 m1 d1] 87 #[.int .i64 0,.bool false,.slice none 0 0,.slice none 0 0,.int .i64 0,.bool false] 82;have LR0:=Hd (HasBlk.of (n:=6) LR.out rfl rfl);clear LR;clear LB0 LG0_0 LR0
  go_enter Tryz.func149,Tryz.ntmps149
  go_wp2;refine bodyPost_ret (v:=.agg #[.int .i64 0,.bool g1,.slice A1 n1 c1,.slice B1 m1 d1,.int .i64 1,.bool false]) (by simp [results,Tryz.results149,go_sem]) rfl ?_
  exact have b:=((below_alloc w _).alloc (by simp<;>omega) _);⟨_,_,_,_,_,_,_,rfl,H1.out.below b,b⟩
 ·rw [decide_eq_true h,hx h]
  have hq:(s1 == 0)=false:=by simp;omega
  have HS:=Hd fun W=>far_any s1 W;have HK:=Hd hK;clear h1 hx h hK;obtain⟨LB0,LG0_0,LR⟩:=bx2 w #[.int .i64 s1,.bool g1,.slice A1 n1 c1,.slice B1 m1 d1] 87 #[.int .i64 0,.bool false,.slice none 0 0,.slice none 0 0,.int .i64 0,.bool false] 82;have LR0:=Hd (HasBlk.of (n:=6) LR.out rfl rfl);clear LR
  go_enter Tryz.func149,Tryz.ntmps149
  go_wp2_with fail;refine (HS.out _).mono ?_;rintro e w1 ⟨g2,A2,n2,c2,B2,m2,d2,rfl,h2,hb1⟩;have LB1:=stB LB0 hb1 LB0.out.size;have LR1:=stR LR0 hb1;have LG0_1:=stG LG0_0 hb1;clear LB0 LR0 LG0_0;obtain⟨ha0,hf0,ha1,hf1,ha2,hf2,ha3,hf3,ha4,hf4,ha5,hf5⟩:=LR1.out.sf6;obtain⟨hk0,hk1,hk2,hk3,hk4,hk5⟩:=LR1.out.sc6 (.int .i64 s1) (.bool g2) (.slice A2 n2 c2) (.slice B2 m2 d2) (.int .i64 1) (.bool true);have F:=Hd (below_sets (w0:=w) (r:=(w.heap.size+1)) (by omega) [.int .i64 s1,.bool g2,.slice A2 n2 c2,.slice B2 m2 d2,.int .i64 1,.bool true] 0 _ LB1.out)
  simp [sets] at hk0 hk1 hk2 hk3 hk4 hk5
  have FR1:=Hd (LR1.out.rat (h2.mono HK.out) [.int .i64 s1,.bool g2,.slice A2 n2 c2,.slice B2 m2 d2,.int .i64 1,.bool true]);clear hb1 h2;go_wp2;refine bodyPost_ret (v:=.agg #[.int .i64 s1,.bool g2,.slice A2 n2 c2,.slice B2 m2 d2,.int .i64 1,.bool true]) (by simp [results,Tryz.results149,go_sem,hk0,hk1,hk2,hk3,hk4,hk5]) rfl ?_
  exact⟨_,_,_,_,_,_,_,rfl,FR1.out,F.out⟩
theorem piece_none(K:Nat)(s1:Int)(g1:Bool)(A1:Option Addr)(n1 c1:Nat)(B1:Option Addr)(m1 d1:Nat)(x1:Rat)(s2:Int)(g2:Bool)(A2:Option Addr)(n2 c2:Nat)(B2:Option Addr)(m2 d2:Nat)(x2:Rat)(w:World):
  Calls Tryz.prog 80 #[.agg #[.bool true,.int .i64 s1,.bool g1,.slice A1 n1 c1,.slice B1 m1 d1,.int .i64 s2,.bool g2,.slice A2 n2 c2,.slice B2 m2 d2]] w (NewPiece w 1 true 0 0 1 false 0 0 1 false):=by
 have HS:=Hd fun W=>nothing_any W;obtain⟨LB0,LG0_0,LR⟩:=bx2 w #[.bool true,.int .i64 s1,.bool g1,.slice A1 n1 c1,.slice B1 m1 d1,.int .i64 s2,.bool g2,.slice A2 n2 c2,.slice B2 m2 d2] 89 #[.bool false,.int .i64 0,.bool false,.slice none 0 0,.slice none 0 0,.int .i64 0,.bool false,.int .i64 0,.bool false,.slice none 0 0,.slice none 0 0,.int .i64 0,.bool false] 84;have LR0:=Hd (HasBlk.of (n:=13) LR.out rfl rfl);clear LR
 go_enter Tryz.func80,Tryz.ntmps80
 go_wp2_with fail;refine (HS.out _).mono ?_;rintro e w1 ⟨g3,A3,n3,c3,B3,m3,d3,g4,A4,n4,c4,B4,m4,d4,rfl,h3,h4,hb1⟩;have LB1:=stB LB0 hb1 LB0.out.size;have LR1:=stR LR0 hb1;have LG0_1:=stG LG0_0 hb1;clear LB0 LR0 LG0_0;obtain⟨ha0,hf0,ha1,hf1,ha2,hf2,ha3,hf3,ha4,hf4,ha5,hf5,ha6,hf6,ha7,hf7,ha8,hf8,ha9,hf9,ha10,hf10,ha11,hf11,ha12,hf12⟩:=LR1.out.sf13;obtain⟨hk0,hk1,hk2,hk3,hk4,hk5,hk6,hk7,hk8,hk9,hk10,hk11,hk12⟩:=LR1.out.sc13 (.bool true) (.int .i64 0) (.bool g3) (.slice A3 n3 c3) (.slice B3 m3 d3) (.int .i64 1) (.bool false) (.int .i64 0) (.bool g4) (.slice A4 n4 c4) (.slice B4 m4 d4) (.int .i64 1) (.bool false);have F:=Hd (below_sets (w0:=w) (r:=(w.heap.size+1)) (by omega) [.bool true,.int .i64 0,.bool g3,.slice A3 n3 c3,.slice B3 m3 d3,.int .i64 1,.bool false,.int .i64 0,.bool g4,.slice A4 n4 c4,.slice B4 m4 d4,.int .i64 1,.bool false] 0 _ LB1.out)
 simp [sets] at hk0 hk1 hk2 hk3 hk4 hk5 hk6 hk7 hk8 hk9 hk10 hk11 hk12
 have FR1:=Hd (LR1.out.rat (h3) [.bool true,.int .i64 0,.bool g3,.slice A3 n3 c3,.slice B3 m3 d3,.int .i64 1,.bool false,.int .i64 0,.bool g4,.slice A4 n4 c4,.slice B4 m4 d4,.int .i64 1,.bool false]);have FR2:=Hd (LR1.out.rat (h4) [.bool true,.int .i64 0,.bool g3,.slice A3 n3 c3,.slice B3 m3 d3,.int .i64 1,.bool false,.int .i64 0,.bool g4,.slice A4 n4 c4,.slice B4 m4 d4,.int .i64 1,.bool false]);clear hb1 h3 h4;go_wp2;refine bodyPost_ret (v:=.agg #[.bool true,.int .i64 0,.bool g3,.slice A3 n3 c3,.slice B3 m3 d3,.int .i64 1,.bool false,.int .i64 0,.bool g4,.slice A4 n4 c4,.slice B4 m4 d4,.int .i64 1,.bool false]) (by simp [results,Tryz.results80,go_sem,hk0,hk1,hk2,hk3,hk4,hk5,hk6,hk7,hk8,hk9,hk10,hk11,hk12]) rfl ?_
 exact⟨_,_,_,_,_,_,_,_,_,_,_,_,_,_,rfl,FR1.out,FR2.out,F.out⟩
theorem piece_some(K:Nat)(s1:Int)(g1:Bool)(A1:Option Addr)(n1 c1:Nat)(B1:Option Addr)(m1 d1:Nat)(x1:Rat)(s2:Int)(g2:Bool)(A2:Option Addr)(n2 c2:Nat)(B2:Option Addr)(m2 d2:Nat)(x2:Rat)(w:World)(h1:RatV w K g1 (.slice A1 n1 c1) (.slice B1 m1 d1) x1)(h2:RatV w K g2 (.slice A2 n2 c2) (.slice B2 m2 d2) x2)(hK:1≤K)(hx:s1≠0→x1=0)(hy:s2≠0→x2=0):
  Calls Tryz.prog 80 #[.agg #[.bool false,.int .i64 s1,.bool g1,.slice A1 n1 c1,.slice B1 m1 d1,.int .i64 s2,.bool g2,.slice A2 n2 c2,.slice B2 m2 d2]] w (NewPiece w K false s1 x1 1 (decide (s1≠0)) s2 x2 1 (decide (s2≠0))):=by
 have T1:=Hd fun W (hW:Below w.heap.size w W)=>bound_end K s1 g1 A1 n1 c1 B1 m1 d1 x1 W (h1.below hW) hK hx;have T2:=Hd fun W (hW:Below w.heap.size w W)=>bound_end K s2 g2 A2 n2 c2 B2 m2 d2 x2 W (h2.below hW) hK hy
 obtain⟨o3,e1⟩:∃ s,decide (s1≠0)=s:=⟨_,rfl⟩
 obtain⟨o4,e2⟩:∃ s,decide (s2≠0)=s:=⟨_,rfl⟩
 rw [e1] at T1 ⊢;rw [e2] at T2 ⊢;clear h1 h2 e1 e2 hx hy;obtain⟨LB0,LG0_0,LR⟩:=bx2 w #[.bool false,.int .i64 s1,.bool g1,.slice A1 n1 c1,.slice B1 m1 d1,.int .i64 s2,.bool g2,.slice A2 n2 c2,.slice B2 m2 d2] 89 #[.bool false,.int .i64 0,.bool false,.slice none 0 0,.slice none 0 0,.int .i64 0,.bool false,.int .i64 0,.bool false,.slice none 0 0,.slice none 0 0,.int .i64 0,.bool false] 84;have LR0:=Hd (HasBlk.of (n:=13) LR.out rfl rfl);clear LR
 go_enter Tryz.func80,Tryz.ntmps80
 go_wp2_with fail;refine wp_region_held_drew (S:=fun W'=>Blk W' w.heap.size 89 #[.bool false,.int .i64 s1,.bool g1,.slice A1 n1 c1,.slice B1 m1 d1,.int .i64 s2,.bool g2,.slice A2 n2 c2,.slice B2 m2 d2]∧HasBlk W' (w.heap.size+1) 84 13∧Below w.heap.size w W') (by kernel_rfl) (by exact⟨LG0_0.out.drew,LR0.out.drew,LB0.out.drew⟩) (fun hHeld=>?_);refine tk 0 ?_;(try simp only [Act.put,lay]);refine tk 1 ?_ (hv:=by intro W2 hSw;obtain⟨q0,q1,q2,q3,q4,q5,q6,q7,q8⟩:=hSw.1.c9;go_simp;(try with_reducible rfl));(try simp only [Act.put,lay]);refine tk 3 ?_;(try simp only [Act.put,lay]);refine tk 4 ?_ (hv:=by intro W2 hSw;obtain⟨q0,q1,q2,q3,q4,q5,q6,q7,q8⟩:=hSw.1.c9;go_simp;(try with_reducible rfl));(try simp only [Act.put,lay]);refine rdy 2 (fun KK hKK=>?_);go_simp;refine (T1.out _ ?_).mono ?_;exact hHeld.2.2;rintro e w3 ⟨g3,A3,n3,c3,B3,m3,d3,rfl,h3,hb3⟩;go_wp2_with fail;refine hKK.out _ _ (⟨hHeld.1.keep hb3,hHeld.2.1.keep hb3,hHeld.2.2.trans (hb3.mono hHeld.2.2.size)⟩) (fun _=>?_);clear hKK KK hHeld;rename_i hHeld;(try simp only [Act.put,lay]);refine rdy 5 (fun KK hKK=>?_);go_simp;refine (T2.out _ ?_).mono ?_;exact hHeld.2.2;rintro e w4 ⟨g4,A4,n4,c4,B4,m4,d4,rfl,h4,hb4⟩;go_wp2_with fail;refine hKK.out _ _ (⟨hHeld.1.keep hb4,hHeld.2.1.keep hb4,hHeld.2.2.trans (hb4.mono hHeld.2.2.size)⟩) (fun _=>?_);clear hKK KK hHeld;rename_i hHeld;(try simp only [Act.put,lay]);refine tk 6 ?_;(try simp only [Act.put,lay]);refine rdy 7 (fun KK hKK=>?_);have ha0:=hHeld.2.1.someCell 0 (by decide);have hf0:=hHeld.2.1.frozen 0;have ha1:=hHeld.2.1.someCell 1 (by decide);have hf1:=hHeld.2.1.frozen 1;have ha2:=hHeld.2.1.someCell 2 (by decide);have hf2:=hHeld.2.1.frozen 2;have ha3:=hHeld.2.1.someCell 3 (by decide);have hf3:=hHeld.2.1.frozen 3;have ha4:=hHeld.2.1.someCell 4 (by decide);have hf4:=hHeld.2.1.frozen 4;have ha5:=hHeld.2.1.someCell 5 (by decide);have hf5:=hHeld.2.1.frozen 5;have ha6:=hHeld.2.1.someCell 6 (by decide);have hf6:=hHeld.2.1.frozen 6;have ha7:=hHeld.2.1.someCell 7 (by decide);have hf7:=hHeld.2.1.frozen 7;have ha8:=hHeld.2.1.someCell 8 (by decide);have hf8:=hHeld.2.1.frozen 8;have ha9:=hHeld.2.1.someCell 9 (by decide);have hf9:=hHeld.2.1.frozen 9;have ha10:=hHeld.2.1.someCell 10 (by decide);have hf10:=hHeld.2.1.frozen 10;have ha11:=hHeld.2.1.someCell 11 (by decide);have hf11:=hHeld.2.1.frozen 11;have ha12:=hHeld.2.1.someCell 12 (by decide);have hf12:=hHeld.2.1.frozen 12;have HK:=Hd (hHeld.2.1.setCell [.bool false,.int .i64 s1,.bool g3,.slice A3 n3 c3,.slice B3 m3 d3,.int .i64 1,.bool o3,.int .i64 s2,.bool g4,.slice A4 n4 c4,.slice B4 m4 d4,.int .i64 1,.bool o4] rfl);have F:=Hd (below_sets (w0:=w) (r:=(w.heap.size+1)) (by omega) [.bool false,.int .i64 s1,.bool g3,.slice A3 n3 c3,.slice B3 m3 d3,.int .i64 1,.bool o3,.int .i64 s2,.bool g4,.slice A4 n4 c4,.slice B4 m4 d4,.int .i64 1,.bool o4] 0 _ hHeld.2.2);have FR1:=Hd (hHeld.2.1.rat (h3.below hb4) [.bool false,.int .i64 s1,.bool g3,.slice A3 n3 c3,.slice B3 m3 d3,.int .i64 1,.bool o3,.int .i64 s2,.bool g4,.slice A4 n4 c4,.slice B4 m4 d4,.int .i64 1,.bool o4]);have FR2:=Hd (hHeld.2.1.rat h4 [.bool false,.int .i64 s1,.bool g3,.slice A3 n3 c3,.slice B3 m3 d3,.int .i64 1,.bool o3,.int .i64 s2,.bool g4,.slice A4 n4 c4,.slice B4 m4 d4,.int .i64 1,.bool o4])
 go_simp;refine hKK.out _ _ (⟨hHeld.1.other (by omega) 0 [.bool false,.int .i64 s1,.bool g3,.slice A3 n3 c3,.slice B3 m3 d3,.int .i64 1,.bool o3,.int .i64 s2,.bool g4,.slice A4 n4 c4,.slice B4 m4 d4,.int .i64 1,.bool o4],hHeld.2.1.sets [.bool false,.int .i64 s1,.bool g3,.slice A3 n3 c3,.slice B3 m3 d3,.int .i64 1,.bool o3,.int .i64 s2,.bool g4,.slice A4 n4 c4,.slice B4 m4 d4,.int .i64 1,.bool o4] rfl rfl,below_sets (by omega) [.bool false,.int .i64 s1,.bool g3,.slice A3 n3 c3,.slice B3 m3 d3,.int .i64 1,.bool o3,.int .i64 s2,.bool g4,.slice A4 n4 c4,.slice B4 m4 d4,.int .i64 1,.bool o4] 0 _ hHeld.2.2⟩) (fun _=>?_);clear hKK KK hHeld;rename_i hHeld;(try simp only [Act.put,lay]);refine wpAnyH_done (by kernel_rfl) ?_ _;have hk0:=HK.out 0 (by decide);have hk1:=HK.out 1 (by decide);have hk2:=HK.out 2 (by decide);have hk3:=HK.out 3 (by decide);have hk4:=HK.out 4 (by decide);have hk5:=HK.out 5 (by decide);have hk6:=HK.out 6 (by decide);have hk7:=HK.out 7 (by decide);have hk8:=HK.out 8 (by decide);have hk9:=HK.out 9 (by decide);have hk10:=HK.out 10 (by decide);have hk11:=HK.out 11 (by decide);have hk12:=HK.out 12 (by decide)
 simp [sets] at hk0 hk1 hk2 hk3 hk4 hk5 hk6 hk7 hk8 hk9 hk10 hk11 hk12
 clear hHeld HK h3 hb3 h4 hb4;clear LB0 LR0 LG0_0;go_wp2;refine bodyPost_ret (v:=.agg #[.bool false,.int .i64 s1,.bool g3,.slice A3 n3 c3,.slice B3 m3 d3,.int .i64 1,.bool o3,.int .i64 s2,.bool g4,.slice A4 n4 c4,.slice B4 m4 d4,.int .i64 1,.bool o4]) (by simp [results,Tryz.results80,go_sem,hk0,hk1,hk2,hk3,hk4,hk5,hk6,hk7,hk8,hk9,hk10,hk11,hk12]) rfl ?_
 exact⟨_,_,_,_,_,_,_,_,_,_,_,_,_,_,rfl,FR1.out,FR2.out,F.out⟩
end
section
open Go.RowKit
theorem minusp_any(K:Nat)(o:Bool)(s1:Int)(g1:Bool)(A1:Option Addr)(n1 c1:Nat)(B1:Option Addr)(m1 d1:Nat)(x1:Rat)(N1:Int)(o1:Bool)(s2:Int)(g2:Bool)(A2:Option Addr)(n2 c2:Nat)(B2:Option Addr)(m2 d2:Nat)(x2:Rat)(N2:Int)(o2:Bool)(w:World)(h1:RatV w K g1 (.slice A1 n1 c1) (.slice B1 m1 d1) x1)(h2:RatV w K g2 (.slice A2 n2 c2) (.slice B2 m2 d2) x2)(hK:K≤1073741824)(hs1:-1≤s1∧s1≤1)(hs2:-1≤s2∧s2≤1):
  Calls Tryz.prog 109 #[.agg #[.bool o,.int .i64 s1,.bool g1,.slice A1 n1 c1,.slice B1 m1 d1,.int .i64 N1,.bool o1,.int .i64 s2,.bool g2,.slice A2 n2 c2,.slice B2 m2 d2,.int .i64 N2,.bool o2]] w (NewPiece w K o (-s2) (-x2) N2 o2 (-s1) (-x1) N1 o1):=by
 have HR1:=Hd fun W (hW:Below w.heap.size w W)=>(rneg_any K g1 (.slice A1 n1 c1) (.slice B1 m1 d1) x1 W (h1.below hW) hK).mono fun _ _ h=>h.s;have HR2:=Hd fun W (hW:Below w.heap.size w W)=>(rneg_any K g2 (.slice A2 n2 c2) (.slice B2 m2 d2) x2 W (h2.below hW) hK).mono fun _ _ h=>h.s
 obtain⟨t1,ht1⟩:∃ t,-s1=t:=⟨_,rfl⟩
 obtain⟨t2,ht2⟩:∃ t,-s2=t:=⟨_,rfl⟩
 rw [ht1];rw [ht2]
 have hw1:IntKind.i64.wrap (-s1)=t1:=by rw [IntKind.wrap_i64];omega
 have hw2:IntKind.i64.wrap (-s2)=t2:=by rw [IntKind.wrap_i64];omega
 clear h1 h2 hK ht1 ht2;obtain⟨LB0,LG0_0,LR⟩:=bx2 w #[.bool o,.int .i64 s1,.bool g1,.slice A1 n1 c1,.slice B1 m1 d1,.int .i64 N1,.bool o1,.int .i64 s2,.bool g2,.slice A2 n2 c2,.slice B2 m2 d2,.int .i64 N2,.bool o2] 84 #[.bool false,.int .i64 0,.bool false,.slice none 0 0,.slice none 0 0,.int .i64 0,.bool false,.int .i64 0,.bool false,.slice none 0 0,.slice none 0 0,.int .i64 0,.bool false] 84;have LR0:=Hd (HasBlk.of (n:=13) LR.out rfl rfl);clear LR
 go_enter Tryz.func109,Tryz.ntmps109
 go_upto_region 1 with fail
 obtain⟨Wa,hWa⟩:∃ X,((w.alloc (.cells #[.bool o,.int .i64 s1,.bool g1,.slice A1 n1 c1,.slice B1 m1 d1,.int .i64 N1,.bool o1,.int .i64 s2,.bool g2,.slice A2 n2 c2,.slice B2 m2 d2,.int .i64 N2,.bool o2] 84)).alloc (.cells #[.bool false,.int .i64 0,.bool false,.slice none 0 0,.slice none 0 0,.int .i64 0,.bool false,.int .i64 0,.bool false,.slice none 0 0,.slice none 0 0,.int .i64 0,.bool false] 84))=X:=⟨_,rfl⟩
 rw [hWa] at LB0 LR0 LG0_0 ⊢;clear hWa;obtain⟨q0_0,q0_1,q0_2,q0_3,q0_4,q0_5,q0_6,q0_7,q0_8,q0_9,q0_10,q0_11,q0_12⟩:=LG0_0.out.c13
 go_upto_region 2 with fail
 clear q0_0 q0_1 q0_2 q0_3 q0_4 q0_5 q0_6 q0_7 q0_8 q0_9 q0_10 q0_11 q0_12;have hlt1:=LR0.out.lt;have LB1:=Hd (LB0.out.alloc LB0.out.size (.cells #[.int .i64 s1,.bool g1,.slice A1 n1 c1,.slice B1 m1 d1,.int .i64 N1,.bool o1] 82));have LR1:=Hd (LR0.out.alloc (.cells #[.int .i64 s1,.bool g1,.slice A1 n1 c1,.slice B1 m1 d1,.int .i64 N1,.bool o1] 82));have LG0_1:=Hd (LG0_0.out.alloc (.cells #[.int .i64 s1,.bool g1,.slice A1 n1 c1,.slice B1 m1 d1,.int .i64 N1,.bool o1] 82));have LG1_1:=Hd (Blk.new Wa 82 #[.int .i64 s1,.bool g1,.slice A1 n1 c1,.slice B1 m1 d1,.int .i64 N1,.bool o1]);clear LB0 LR0 LG0_0
 obtain⟨Wb,hWb⟩:∃ W,Wa.alloc (.cells #[.int .i64 s1,.bool g1,.slice A1 n1 c1,.slice B1 m1 d1,.int .i64 N1,.bool o1] 82)=W:=⟨_,rfl⟩
 rw [hWb] at LB1 LR1 LG0_1 LG1_1 ⊢;clear hWb
 obtain⟨h,hg⟩:∃ g,Wa.heap.size=g:=⟨_,rfl⟩
 rw [hg] at LG1_1 hlt1 ⊢;clear hg;have hlt:=hlt1;have hl1:=LG1_1.out.lt;clear hlt1;obtain⟨q0_0,q0_1,q0_2,q0_3,q0_4,q0_5,q0_6,q0_7,q0_8,q0_9,q0_10,q0_11,q0_12⟩:=LG0_1.out.c13
 go_upto_region 3 with fail
 clear q0_0 q0_1 q0_2 q0_3 q0_4 q0_5 q0_6 q0_7 q0_8 q0_9 q0_10 q0_11 q0_12;have hlt2:=LR1.out.lt;have LB2:=Hd (LB1.out.alloc LB1.out.size (.cells #[.int .i64 s2,.bool g2,.slice A2 n2 c2,.slice B2 m2 d2,.int .i64 N2,.bool o2] 82));have LR2:=Hd (LR1.out.alloc (.cells #[.int .i64 s2,.bool g2,.slice A2 n2 c2,.slice B2 m2 d2,.int .i64 N2,.bool o2] 82));have LG0_2:=Hd (LG0_1.out.alloc (.cells #[.int .i64 s2,.bool g2,.slice A2 n2 c2,.slice B2 m2 d2,.int .i64 N2,.bool o2] 82));have LG1_2:=Hd (LG1_1.out.alloc (.cells #[.int .i64 s2,.bool g2,.slice A2 n2 c2,.slice B2 m2 d2,.int .i64 N2,.bool o2] 82));have LG2_2:=Hd (Blk.new Wb 82 #[.int .i64 s2,.bool g2,.slice A2 n2 c2,.slice B2 m2 d2,.int .i64 N2,.bool o2]);clear LB1 LR1 LG0_1 LG1_1
 obtain⟨W1,hWb⟩:∃ W,Wb.alloc (.cells #[.int .i64 s2,.bool g2,.slice A2 n2 c2,.slice B2 m2 d2,.int .i64 N2,.bool o2] 82)=W:=⟨_,rfl⟩
 rw [hWb] at LB2 LR2 LG0_2 LG1_2 LG2_2 ⊢;clear hWb
 obtain⟨h2,hg⟩:∃ g,Wb.heap.size=g:=⟨_,rfl⟩
 rw [hg] at LG2_2 hlt2 hl1 ⊢;clear hg;have q1_0:=LG1_2.out.ce 0 rfl;have f0:=LG1_2.out.frozen 0
 go_upto_region 4 with fail
 clear q1_0 f0;have LB3:=Hd (LB2.out.setCell (p:=⟨h,0,none⟩) (show w.heap.size≤h by omega) (.int .i64 t1));have LR3:=Hd (show HasBlk (W1.setCell ⟨h,0,none⟩ (.int .i64 t1)) (w.heap.size+1) 84 13 from LR2.out.other (by omega) 0 [.int .i64 t1]);have LG0_3:=Hd (show Blk (W1.setCell ⟨h,0,none⟩ (.int .i64 t1)) w.heap.size 84 #[.bool o,.int .i64 s1,.bool g1,.slice A1 n1 c1,.slice B1 m1 d1,.int .i64 N1,.bool o1,.int .i64 s2,.bool g2,.slice A2 n2 c2,.slice B2 m2 d2,.int .i64 N2,.bool o2] from LG0_2.out.other (by omega) 0 [.int .i64 t1]);have LG1_3:=Hd (LG1_2.out.set 0 (.int .i64 t1));have LG2_3:=Hd (show Blk (W1.setCell ⟨h,0,none⟩ (.int .i64 t1)) h2 82 #[.int .i64 s2,.bool g2,.slice A2 n2 c2,.slice B2 m2 d2,.int .i64 N2,.bool o2] from LG2_2.out.other (by omega) 0 [.int .i64 t1]);clear LB2 LR2 LG0_2 LG1_2 LG2_2
 obtain⟨W2,hW⟩:∃ X,W1.setCell ⟨h,0,none⟩ (.int .i64 t1)=X:=⟨_,rfl⟩
 rw [hW] at LB3 LR3 LG0_3 LG1_3 LG2_3 ⊢;clear hW;have q2_0:=LG2_3.out.ce 0 rfl;have f0:=LG2_3.out.frozen 0
 go_upto_region 5 with fail
 clear q2_0 f0;have LB4:=Hd (LB3.out.setCell (p:=⟨h2,0,none⟩) (show w.heap.size≤h2 by omega) (.int .i64 t2));have LR4:=Hd (show HasBlk (W2.setCell ⟨h2,0,none⟩ (.int .i64 t2)) (w.heap.size+1) 84 13 from LR3.out.other (by omega) 0 [.int .i64 t2]);have LG0_4:=Hd (show Blk (W2.setCell ⟨h2,0,none⟩ (.int .i64 t2)) w.heap.size 84 #[.bool o,.int .i64 s1,.bool g1,.slice A1 n1 c1,.slice B1 m1 d1,.int .i64 N1,.bool o1,.int .i64 s2,.bool g2,.slice A2 n2 c2,.slice B2 m2 d2,.int .i64 N2,.bool o2] from LG0_3.out.other (by omega) 0 [.int .i64 t2]);have LG1_4:=Hd (show Blk (W2.setCell ⟨h2,0,none⟩ (.int .i64 t2)) h 82 #[.int .i64 t1,.bool g1,.slice A1 n1 c1,.slice B1 m1 d1,.int .i64 N1,.bool o1] from LG1_3.out.other (by omega) 0 [.int .i64 t2]);have LG2_4:=Hd (LG2_3.out.set 0 (.int .i64 t2));clear LB3 LR3 LG0_3 LG1_3 LG2_3
 obtain⟨W3,hW⟩:∃ X,W2.setCell ⟨h2,0,none⟩ (.int .i64 t2)=X:=⟨_,rfl⟩
 rw [hW] at LB4 LR4 LG0_4 LG1_4 LG2_4 ⊢;clear hW;clear hw1 hw2;have q1_1:=LG1_4.out.ce 1 rfl;have q1_2:=LG1_4.out.ce 2 rfl;have q1_3:=LG1_4.out.ce 3 rfl;go_wp2_with fail;refine (HR1.out _ LB4.out).mono ?_;rintro e W4 ⟨k1,F1,a1,e1,G1,j1,l1,rfl,hZ,hbZ⟩;have LB5:=stB LB4 hbZ LB4.out.size;have LR5:=stR LR4 hbZ;have LG0_5:=stG LG0_4 hbZ;have LG1_5:=stG LG1_4 hbZ;have LG2_5:=stG LG2_4 hbZ;clear LB4 LR4 LG0_4 LG1_4 LG2_4;have Z1:=Hd hZ;clear hZ hbZ HR1 q1_1 q1_2 q1_3;have q1_1:=LG1_5.out.ce 1 rfl;have q1_2:=LG1_5.out.ce 2 rfl;have q1_3:=LG1_5.out.ce 3 rfl;have f1:=LG1_5.out.frozen 1;have f2:=LG1_5.out.frozen 2;have f3:=LG1_5.out.frozen 3
 go_upto_region 6 with fail
 clear f1 f2 f3 q1_1 q1_2 q1_3;have Z1:=Hd (Z1.out.sets LG1_5.out (NoWd.of (by rw [← Array.all_toList];rfl)) 1 [.bool k1,.slice F1 a1 e1,.slice G1 j1 l1]);have LB6:=Hd (below_sets (w0:=w) (show w.heap.size≤h by omega) [.bool k1,.slice F1 a1 e1,.slice G1 j1 l1] 1 W4 LB5.out);have LR6:=Hd (LR5.out.other (r:=h) (by omega) 1 [.bool k1,.slice F1 a1 e1,.slice G1 j1 l1]);have LG0_6:=Hd (LG0_5.out.other (r:=h) (by omega) 1 [.bool k1,.slice F1 a1 e1,.slice G1 j1 l1]);have LG1_6:=Hd (show Blk (sets W4 h 1 [.bool k1,.slice F1 a1 e1,.slice G1 j1 l1]) h 82 #[.int .i64 t1,.bool k1,.slice F1 a1 e1,.slice G1 j1 l1,.int .i64 N1,.bool o1] from by have hbs:=Blk.sets [.bool k1,.slice F1 a1 e1,.slice G1 j1 l1] 1 W4 _ LG1_5.out;simpa [laid] using hbs);have LG2_6:=Hd (LG2_5.out.other (r:=h) (by omega) 1 [.bool k1,.slice F1 a1 e1,.slice G1 j1 l1]);clear LB5 LR5 LG0_5 LG1_5 LG2_5
 obtain⟨W5,hW⟩:∃ X,sets W4 h 1 [.bool k1,.slice F1 a1 e1,.slice G1 j1 l1]=X:=⟨_,rfl⟩
 rw [hW] at LB6 LR6 LG0_6 LG1_6 LG2_6 Z1
 simp only [sets] at hW
 rw [hW];clear hW;have q2_1:=LG2_6.out.ce 1 rfl;have q2_2:=LG2_6.out.ce 2 rfl;have q2_3:=LG2_6.out.ce 3 rfl;go_wp2_with fail;refine (HR2.out _ LB6.out).mono ?_;rintro e W6 ⟨k2,F2,a2,e2,G2,j2,l2,rfl,hZ,hbZ⟩;have LB7:=stB LB6 hbZ LB6.out.size;have LR7:=stR LR6 hbZ;have LG0_7:=stG LG0_6 hbZ;have LG1_7:=stG LG1_6 hbZ;have LG2_7:=stG LG2_6 hbZ;clear LB6 LR6 LG0_6 LG1_6 LG2_6;have Z1:=Hd (Z1.out.below hbZ);have Z2:=Hd hZ;clear hZ hbZ HR2 q2_1 q2_2 q2_3;have q2_1:=LG2_7.out.ce 1 rfl;have q2_2:=LG2_7.out.ce 2 rfl;have q2_3:=LG2_7.out.ce 3 rfl;have f1:=LG2_7.out.frozen 1;have f2:=LG2_7.out.frozen 2;have f3:=LG2_7.out.frozen 3
 go_upto_region 7 with fail
 clear f1 f2 f3 q2_1 q2_2 q2_3;have Z1:=Hd (Z1.out.sets LG2_7.out (NoWd.of (by rw [← Array.all_toList];rfl)) 1 [.bool k2,.slice F2 a2 e2,.slice G2 j2 l2]);have Z2:=Hd (Z2.out.sets LG2_7.out (NoWd.of (by rw [← Array.all_toList];rfl)) 1 [.bool k2,.slice F2 a2 e2,.slice G2 j2 l2]);have LB8:=Hd (below_sets (w0:=w) (show w.heap.size≤h2 by omega) [.bool k2,.slice F2 a2 e2,.slice G2 j2 l2] 1 W6 LB7.out);have LR8:=Hd (LR7.out.other (r:=h2) (by omega) 1 [.bool k2,.slice F2 a2 e2,.slice G2 j2 l2]);have LG0_8:=Hd (LG0_7.out.other (r:=h2) (by omega) 1 [.bool k2,.slice F2 a2 e2,.slice G2 j2 l2]);have LG1_8:=Hd (LG1_7.out.other (r:=h2) (by omega) 1 [.bool k2,.slice F2 a2 e2,.slice G2 j2 l2]);have LG2_8:=Hd (show Blk (sets W6 h2 1 [.bool k2,.slice F2 a2 e2,.slice G2 j2 l2]) h2 82 #[.int .i64 t2,.bool k2,.slice F2 a2 e2,.slice G2 j2 l2,.int .i64 N2,.bool o2] from by have hbs:=Blk.sets [.bool k2,.slice F2 a2 e2,.slice G2 j2 l2] 1 W6 _ LG2_7.out;simpa [laid] using hbs);clear LB7 LR7 LG0_7 LG1_7 LG2_7
 obtain⟨W7,hW⟩:∃ X,sets W6 h2 1 [.bool k2,.slice F2 a2 e2,.slice G2 j2 l2]=X:=⟨_,rfl⟩
 rw [hW] at LB8 LR8 LG0_8 LG1_8 LG2_8 Z1 Z2
 simp only [sets] at hW
 rw [hW];clear hW;have q0_0:=LG0_8.out.ce 0 rfl;obtain⟨q1_0,q1_1,q1_2,q1_3,q1_4,q1_5⟩:=LG1_8.out.c6;obtain⟨q2_0,q2_1,q2_2,q2_3,q2_4,q2_5⟩:=LG2_8.out.c6;have FR1:=Hd (LR8.out.rat Z2.out [.bool o,.int .i64 t2,.bool k2,.slice F2 a2 e2,.slice G2 j2 l2,.int .i64 N2,.bool o2,.int .i64 t1,.bool k1,.slice F1 a1 e1,.slice G1 j1 l1,.int .i64 N1,.bool o1]);have FR2:=Hd (LR8.out.rat Z1.out [.bool o,.int .i64 t2,.bool k2,.slice F2 a2 e2,.slice G2 j2 l2,.int .i64 N2,.bool o2,.int .i64 t1,.bool k1,.slice F1 a1 e1,.slice G1 j1 l1,.int .i64 N1,.bool o1]);clear Z1 Z2;obtain⟨ha0,hf0,ha1,hf1,ha2,hf2,ha3,hf3,ha4,hf4,ha5,hf5,ha6,hf6,ha7,hf7,ha8,hf8,ha9,hf9,ha10,hf10,ha11,hf11,ha12,hf12⟩:=LR8.out.sf13;obtain⟨hk0,hk1,hk2,hk3,hk4,hk5,hk6,hk7,hk8,hk9,hk10,hk11,hk12⟩:=LR8.out.sc13 (.bool o) (.int .i64 t2) (.bool k2) (.slice F2 a2 e2) (.slice G2 j2 l2) (.int .i64 N2) (.bool o2) (.int .i64 t1) (.bool k1) (.slice F1 a1 e1) (.slice G1 j1 l1) (.int .i64 N1) (.bool o1);have F:=Hd (below_sets (w0:=w) (r:=(w.heap.size+1)) (by omega) [.bool o,.int .i64 t2,.bool k2,.slice F2 a2 e2,.slice G2 j2 l2,.int .i64 N2,.bool o2,.int .i64 t1,.bool k1,.slice F1 a1 e1,.slice G1 j1 l1,.int .i64 N1,.bool o1] 0 _ LB8.out)
 simp [sets] at hk0 hk1 hk2 hk3 hk4 hk5 hk6 hk7 hk8 hk9 hk10 hk11 hk12
 go_wp2;refine bodyPost_ret (v:=.agg #[.bool o,.int .i64 t2,.bool k2,.slice F2 a2 e2,.slice G2 j2 l2,.int .i64 N2,.bool o2,.int .i64 t1,.bool k1,.slice F1 a1 e1,.slice G1 j1 l1,.int .i64 N1,.bool o1]) (by simp [results,Tryz.results109,go_sem,hk0,hk1,hk2,hk3,hk4,hk5,hk6,hk7,hk8,hk9,hk10,hk11,hk12]) rfl ?_
 exact⟨_,_,_,_,_,_,_,_,_,_,_,_,_,_,rfl,FR1.out,FR2.out,F.out⟩
end
def Ne(i j:Int):Prop:=-(M:Int)≤i∧i≤j∧j≤M∧i<M∧-(M:Int)<j
theorem Ne.neg{i j:Int}(h:Ne i j):Ne (-j) (-i):=by unfold Ne at *;omega
theorem ne_or{i j:Int}(h:Iv i j)(h2:¬ j<i):Ne i j:=by
 rcases h with h | ⟨rfl,rfl⟩
 ·exact h
 ·have hM:(M:Int)=9218868437227405312:=rfl
  omega
end Go.Proofs.YthlmlmfebpjgdaaGreatDoor
