/-
Walks: package vergeref6, intervals as sets.
Walks: package vergeref6, sets: negatives, hulls.
Walks: package vergeref10: whole, far.
Walks: package vergeref3, Bits.
Walks: package vergeref6, Least, Neg.
Walks: package vergeref6, Neg.
-/
import Derived.Test.YtfcpabgampebaaaGreatM03
import Derived.Test.YtfcpabgampebaaaGreatM06
import Derived.Test.YtfcpabgampebaaaGreatM07
import Derived.Deep.DeepCutAuto
set_option linter.unusedSimpArgs false
set_option linter.unusedVariables false
set_option maxHeartbeats 12800000
namespace Go.Proofs.YtfcpabgampebaaaGreat
open Go.RowKit
theorem pat_ne_max{i:Int}(h0:-(M:Int)≤i)(h1:i<M):((pat i:Int) == 9218868437227405312)=false:=by
 rw [beq_eq_false_iff_ne];intro h;have:=pat_inj h0 (by omega) (show -(M:Int)≤(M:Int) by rw [M_val];omega) (Int.le_refl _) (by rw [pat_max];omega)
 omega
theorem of_none(x y:Nat)(w:World)(hx:x<18446744073709551616)(hy:y<18446744073709551616)(h:snd x y=false):
  Calls Tryz.prog 21 #[.agg #[.int .u64 (x:Int),.int .u64 (y:Int)]] w (NewSet w 1 true 0 0 0 0):=by
 have h1:rd x y=((M:Int),-(M:Int)):=by unfold rd;rw [h];rfl
 have HR:=Hd fun W=>read6 x y W hx hy;rw [h1] at HR
 simp only [pat_max,pat_min] at HR
 have HE:=Hd empty6;have HF:=Hd fun W=>finite_nat 0 W (by omega);clear h h1;obtain⟨LB0,LG0_0,LR⟩:=bx2 w #[.int .u64 (x:Int),.int .u64 (y:Int)] 24 #[.bool false,.int .i64 0,.bool false,.slice none 0 0,.slice none 0 0,.int .i64 0,.bool false,.slice none 0 0,.slice none 0 0] 45;have LR0:=Hd (HasBlk.of (n:=9) LR.out rfl rfl);clear LR
 go_enter Tryz.func21,Tryz.ntmps21
 go_wp2_with fail;refine (HR.out _).mono ?_;rintro e w1 ⟨rfl,hb1⟩;have LB1:=stB LB0 hb1 LB0.out.size;have LR1:=stR LR0 hb1;have LG0_1:=stG LG0_0 hb1;clear LB0 LR0 LG0_0;have hlt2:=LR1.out.lt;have LB2:=Hd (LB1.out.alloc LB1.out.size (.cells #[.int .u64 9218868437227405312,.int .u64 18442240474082181120] 24));have LR2:=Hd (LR1.out.alloc (.cells #[.int .u64 9218868437227405312,.int .u64 18442240474082181120] 24));have LG0_2:=Hd (LG0_1.out.alloc (.cells #[.int .u64 9218868437227405312,.int .u64 18442240474082181120] 24));have LG1_2:=Hd (Blk.new w1 24 #[.int .u64 9218868437227405312,.int .u64 18442240474082181120]);clear LB1 LR1 LG0_1;go_wp2_with fail;refine wp_region_held_drew (S:=fun W'=>Blk W' w.heap.size 24 #[.int .u64 (x:Int),.int .u64 (y:Int)]∧Blk W' w1.heap.size 24 #[.int .u64 9218868437227405312,.int .u64 18442240474082181120]∧HasBlk W' (w.heap.size+1) 45 9∧Below w.heap.size w W') (by kernel_rfl) (by exact⟨LG0_2.out.drew,LG1_2.out.drew,LR2.out.drew,LB2.out.drew⟩) (fun hHeld=>?_);refine tk 0 ?_ (hv:=by intro W2 hSw;obtain⟨q0,q1⟩:=hSw.2.1.c2;go_simp;(try with_reducible rfl));(try simp only [Act.put,lay]);refine rdy 1 (fun KK hKK=>?_);go_simp;refine (HE.out _).mono ?_;rintro e w2 ⟨rfl,hb2⟩;go_wp2_with fail;refine hKK.out _ _ (⟨hHeld.1.keep hb2,hHeld.2.1.keep hb2,hHeld.2.2.1.keep hb2,hHeld.2.2.2.trans (hb2.mono hHeld.2.2.2.size)⟩) (fun _=>?_);clear hKK KK hHeld;rename_i hHeld;(try simp only [Act.put,lay]);refine tk 2 ?_;(try simp only [Act.put,lay]);refine wpAnyH_done (by kernel_rfl) ?_ _
 have LB3:=Hd hHeld.2.2.2;have LR3:=Hd hHeld.2.2.1;have LG0_3:=Hd hHeld.1;have LG1_3:=Hd hHeld.2.1;clear hHeld LB2 LR2 LG0_2 LG1_2;go_wp2_with fail;refine (HF.out _).mono ?_;rintro e w3 ⟨g1,A1,n1,c1,B1,m1,d1,rfl,h1,hb1⟩;have LB4:=stB LB3 hb1 LB3.out.size;have LR4:=stR LR3 hb1;have LG0_4:=stG LG0_3 hb1;have LG1_4:=stG LG1_3 hb1;clear LB3 LR3 LG0_3 LG1_3;go_wp2_with fail;refine (HF.out _).mono ?_;rintro e w4 ⟨g2,A2,n2,c2,B2,m2,d2,rfl,h2,hb2⟩;have LB5:=stB LB4 hb2 LB4.out.size;have LR5:=stR LR4 hb2;have LG0_5:=stG LG0_4 hb2;have LG1_5:=stG LG1_4 hb2;clear LB4 LR4 LG0_4 LG1_4;obtain⟨ha0,hf0,ha1,hf1,ha2,hf2,ha3,hf3,ha4,hf4,ha5,hf5,ha6,hf6,ha7,hf7,ha8,hf8⟩:=LR5.out.sf9;obtain⟨hk0,hk1,hk2,hk3,hk4,hk5,hk6,hk7,hk8⟩:=LR5.out.sc9 (.bool true) (.int .i64 0) (.bool g1) (.slice A1 n1 c1) (.slice B1 m1 d1) (.int .i64 0) (.bool g2) (.slice A2 n2 c2) (.slice B2 m2 d2);have F:=Hd (below_sets (w0:=w) (r:=(w.heap.size+1)) (by omega) [.bool true,.int .i64 0,.bool g1,.slice A1 n1 c1,.slice B1 m1 d1,.int .i64 0,.bool g2,.slice A2 n2 c2,.slice B2 m2 d2] 0 _ LB5.out)
 simp [sets] at hk0 hk1 hk2 hk3 hk4 hk5 hk6 hk7 hk8
 have FR1:=Hd (LR5.out.rat (h1.below hb2) [.bool true,.int .i64 0,.bool g1,.slice A1 n1 c1,.slice B1 m1 d1,.int .i64 0,.bool g2,.slice A2 n2 c2,.slice B2 m2 d2]);have FR2:=Hd (LR5.out.rat h2 [.bool true,.int .i64 0,.bool g1,.slice A1 n1 c1,.slice B1 m1 d1,.int .i64 0,.bool g2,.slice A2 n2 c2,.slice B2 m2 d2]);clear hb1 hb2 h1 h2 LR5 LB5 LG0_5 LG1_5;go_wp2;refine bodyPost_ret (v:=.agg #[.bool true,.int .i64 0,.bool g1,.slice A1 n1 c1,.slice B1 m1 d1,.int .i64 0,.bool g2,.slice A2 n2 c2,.slice B2 m2 d2]) (by simp [results,Tryz.results21,go_sem,hk0,hk1,hk2,hk3,hk4,hk5,hk6,hk7,hk8]) rfl ?_
 exact⟨_,_,_,_,_,_,_,_,_,_,_,_,_,_,rfl,FR1.out,FR2.out,F.out⟩
theorem of_full(x y:Nat)(w:World)(hx:x<18446744073709551616)(hy:y<18446744073709551616)(h:snd x y=true):
  Calls Tryz.prog 21 #[.agg #[.int .u64 (x:Int),.int .u64 (y:Int)]] w (NewSet w 34 false (es (idx x)) (ex (idx x)) (es (idx y)) (ex (idx y))):=by
 have h1:rd x y=(idx x,idx y):=by unfold rd;rw [h];rfl
 have hd:=of_decide_eq_true h;have hi:=idx_bounds hd.1;have hj:=idx_bounds hd.2.1;have HR:=Hd fun W=>read6 x y W hx hy;rw [h1] at HR;have H1:=Hd fun W=>bound_raw (pat (idx x)) W (pat_lt hi.1 hi.2) (by rw [rung_pat hi.1 hi.2];omega);have H2:=Hd fun W=>bound_raw (pat (idx y)) W (pat_lt hj.1 hj.2) (by rw [rung_pat hj.1 hj.2];omega);rw [idx_pat hi.1 hi.2] at H1;rw [idx_pat hj.1 hj.2] at H2;have hp:=pat_ne_max hi.1 hd.2.2.2.1
 dsimp only at HR
 obtain⟨p,hpp⟩:∃ p,pat (idx x)=p:=⟨_,rfl⟩
 obtain⟨q,hqq⟩:∃ q,pat (idx y)=q:=⟨_,rfl⟩
 obtain⟨s1,e1⟩:∃ s,es (idx x)=s:=⟨_,rfl⟩
 obtain⟨x1,e2⟩:∃ s,ex (idx x)=s:=⟨_,rfl⟩
 obtain⟨s2,e3⟩:∃ s,es (idx y)=s:=⟨_,rfl⟩
 obtain⟨x2,e4⟩:∃ s,ex (idx y)=s:=⟨_,rfl⟩
 rw [hpp] at HR H1 hp;rw [hqq] at HR H2;rw [e1,e2] at H1 ⊢;rw [e3,e4] at H2 ⊢;have HE:=Hd empty6;clear h h1 hd hi hj hpp hqq e1 e2 e3 e4;obtain⟨LB0,LG0_0,LR⟩:=bx2 w #[.int .u64 (x:Int),.int .u64 (y:Int)] 24 #[.bool false,.int .i64 0,.bool false,.slice none 0 0,.slice none 0 0,.int .i64 0,.bool false,.slice none 0 0,.slice none 0 0] 45;have LR0:=Hd (HasBlk.of (n:=9) LR.out rfl rfl);clear LR
 go_enter Tryz.func21,Tryz.ntmps21
 go_wp2_with fail;refine (HR.out _).mono ?_;rintro e w1 ⟨rfl,hb1⟩;have LB1:=stB LB0 hb1 LB0.out.size;have LR1:=stR LR0 hb1;have LG0_1:=stG LG0_0 hb1;clear LB0 LR0 LG0_0;have hlt2:=LR1.out.lt;have LB2:=Hd (LB1.out.alloc LB1.out.size (.cells #[.int .u64 (p:Int),.int .u64 (q:Int)] 24));have LR2:=Hd (LR1.out.alloc (.cells #[.int .u64 (p:Int),.int .u64 (q:Int)] 24));have LG0_2:=Hd (LG0_1.out.alloc (.cells #[.int .u64 (p:Int),.int .u64 (q:Int)] 24));have LG1_2:=Hd (Blk.new w1 24 #[.int .u64 (p:Int),.int .u64 (q:Int)]);clear LB1 LR1 LG0_1;go_wp2_with fail;refine wp_region_held_drew (S:=fun W'=>Blk W' w.heap.size 24 #[.int .u64 (x:Int),.int .u64 (y:Int)]∧Blk W' w1.heap.size 24 #[.int .u64 (p:Int),.int .u64 (q:Int)]∧HasBlk W' (w.heap.size+1) 45 9∧Below w.heap.size w W') (by kernel_rfl) (by exact⟨LG0_2.out.drew,LG1_2.out.drew,LR2.out.drew,LB2.out.drew⟩) (fun hHeld=>?_);refine tk 0 ?_ (hv:=by intro W2 hSw;obtain⟨q0,q1⟩:=hSw.2.1.c2;go_simp;(try with_reducible rfl));(try simp only [Act.put,lay]);refine rdy 1 (fun KK hKK=>?_);go_simp;refine (HE.out _).mono ?_;rintro e w2 ⟨rfl,hb2⟩;go_wp2_with fail;refine hKK.out _ _ (⟨hHeld.1.keep hb2,hHeld.2.1.keep hb2,hHeld.2.2.1.keep hb2,hHeld.2.2.2.trans (hb2.mono hHeld.2.2.2.size)⟩) (fun _=>?_);clear hKK KK hHeld;rename_i hHeld;(try simp only [Act.put,lay]);refine tk 2 ?_;(try simp only [Act.put,lay]);refine wpAnyH_done (by kernel_rfl) ?_ _;have LB3:=Hd hHeld.2.2.2;have LR3:=Hd hHeld.2.2.1;have LG0_3:=Hd hHeld.1;have LG1_3:=Hd hHeld.2.1
 clear hHeld LB2 LR2 LG0_2 LG1_2;go_wp2_with fail;refine wp_region_held_drew (S:=fun W'=>Blk W' w.heap.size 24 #[.int .u64 (x:Int),.int .u64 (y:Int)]∧Blk W' w1.heap.size 24 #[.int .u64 (p:Int),.int .u64 (q:Int)]∧HasBlk W' (w.heap.size+1) 45 9∧Below w.heap.size w W') (by kernel_rfl) (by exact⟨LG0_3.out.drew,LG1_3.out.drew,LR3.out.drew,LB3.out.drew⟩) (fun hHeld=>?_);refine tk 0 ?_;(try simp only [Act.put,lay]);refine tk 1 ?_ (hv:=by intro W2 hSw;obtain⟨q0,q1⟩:=hSw.2.1.c2;go_simp;(try with_reducible rfl));(try simp only [Act.put,lay]);refine tk 3 ?_;(try simp only [Act.put,lay]);refine tk 4 ?_ (hv:=by intro W2 hSw;obtain⟨q0,q1⟩:=hSw.2.1.c2;go_simp;(try with_reducible rfl));(try simp only [Act.put,lay]);refine rdy 2 (fun KK hKK=>?_);go_simp;refine (H1.out _).mono ?_;rintro e w3 ⟨g1,A1,n1,c1,B1,m1,d1,rfl,h1,hb1⟩;go_wp2_with fail;refine hKK.out _ _ (⟨hHeld.1.keep hb1,hHeld.2.1.keep hb1,hHeld.2.2.1.keep hb1,hHeld.2.2.2.trans (hb1.mono hHeld.2.2.2.size)⟩) (fun _=>?_);clear hKK KK hHeld;rename_i hHeld;(try simp only [Act.put,lay]);refine rdy 5 (fun KK hKK=>?_);go_simp;refine (H2.out _).mono ?_;rintro e w4 ⟨g2,A2,n2,c2,B2,m2,d2,rfl,h2,hb2⟩;go_wp2_with fail;refine hKK.out _ _ (⟨hHeld.1.keep hb2,hHeld.2.1.keep hb2,hHeld.2.2.1.keep hb2,hHeld.2.2.2.trans (hb2.mono hHeld.2.2.2.size)⟩) (fun _=>?_);clear hKK KK hHeld;rename_i hHeld;(try simp only [Act.put,lay]);refine tk 6 ?_;(try simp only [Act.put,lay]);refine rdy 7 (fun KK hKK=>?_);have ha0:=hHeld.2.2.1.someCell 0 (by decide);have hf0:=hHeld.2.2.1.frozen 0;have ha1:=hHeld.2.2.1.someCell 1 (by decide);have hf1:=hHeld.2.2.1.frozen 1;have ha2:=hHeld.2.2.1.someCell 2 (by decide);have hf2:=hHeld.2.2.1.frozen 2;have ha3:=hHeld.2.2.1.someCell 3 (by decide);have hf3:=hHeld.2.2.1.frozen 3;have ha4:=hHeld.2.2.1.someCell 4 (by decide);have hf4:=hHeld.2.2.1.frozen 4;have ha5:=hHeld.2.2.1.someCell 5 (by decide);have hf5:=hHeld.2.2.1.frozen 5;have ha6:=hHeld.2.2.1.someCell 6 (by decide);have hf6:=hHeld.2.2.1.frozen 6;have ha7:=hHeld.2.2.1.someCell 7 (by decide);have hf7:=hHeld.2.2.1.frozen 7;have ha8:=hHeld.2.2.1.someCell 8 (by decide);have hf8:=hHeld.2.2.1.frozen 8;have HK:=Hd (hHeld.2.2.1.setCell [.bool false,.int .i64 s1,.bool g1,.slice A1 n1 c1,.slice B1 m1 d1,.int .i64 s2,.bool g2,.slice A2 n2 c2,.slice B2 m2 d2] rfl);have F:=Hd (below_sets (w0:=w) (r:=(w.heap.size+1)) (by omega) [.bool false,.int .i64 s1,.bool g1,.slice A1 n1 c1,.slice B1 m1 d1,.int .i64 s2,.bool g2,.slice A2 n2 c2,.slice B2 m2 d2] 0 _ hHeld.2.2.2);have FR1:=Hd (hHeld.2.2.1.rat (h1.below hb2) [.bool false,.int .i64 s1,.bool g1,.slice A1 n1 c1,.slice B1 m1 d1,.int .i64 s2,.bool g2,.slice A2 n2 c2,.slice B2 m2 d2]);have FR2:=Hd (hHeld.2.2.1.rat h2 [.bool false,.int .i64 s1,.bool g1,.slice A1 n1 c1,.slice B1 m1 d1,.int .i64 s2,.bool g2,.slice A2 n2 c2,.slice B2 m2 d2])
 go_simp;refine hKK.out _ _ (⟨hHeld.1.other (by omega) 0 [.bool false,.int .i64 s1,.bool g1,.slice A1 n1 c1,.slice B1 m1 d1,.int .i64 s2,.bool g2,.slice A2 n2 c2,.slice B2 m2 d2],hHeld.2.1.other (by omega) 0 [.bool false,.int .i64 s1,.bool g1,.slice A1 n1 c1,.slice B1 m1 d1,.int .i64 s2,.bool g2,.slice A2 n2 c2,.slice B2 m2 d2],hHeld.2.2.1.sets [.bool false,.int .i64 s1,.bool g1,.slice A1 n1 c1,.slice B1 m1 d1,.int .i64 s2,.bool g2,.slice A2 n2 c2,.slice B2 m2 d2] rfl rfl,below_sets (by omega) [.bool false,.int .i64 s1,.bool g1,.slice A1 n1 c1,.slice B1 m1 d1,.int .i64 s2,.bool g2,.slice A2 n2 c2,.slice B2 m2 d2] 0 _ hHeld.2.2.2⟩) (fun _=>?_);clear hKK KK hHeld;rename_i hHeld;(try simp only [Act.put,lay]);refine wpAnyH_done (by kernel_rfl) ?_ _;have hk0:=HK.out 0 (by decide);have hk1:=HK.out 1 (by decide);have hk2:=HK.out 2 (by decide);have hk3:=HK.out 3 (by decide);have hk4:=HK.out 4 (by decide);have hk5:=HK.out 5 (by decide);have hk6:=HK.out 6 (by decide);have hk7:=HK.out 7 (by decide);have hk8:=HK.out 8 (by decide)
 simp [sets] at hk0 hk1 hk2 hk3 hk4 hk5 hk6 hk7 hk8
 clear hHeld HK;go_wp2;refine bodyPost_ret (v:=.agg #[.bool false,.int .i64 s1,.bool g1,.slice A1 n1 c1,.slice B1 m1 d1,.int .i64 s2,.bool g2,.slice A2 n2 c2,.slice B2 m2 d2]) (by simp [results,Tryz.results21,go_sem,hk0,hk1,hk2,hk3,hk4,hk5,hk6,hk7,hk8]) rfl ?_
 exact⟨_,_,_,_,_,_,_,_,_,_,_,_,_,_,rfl,FR1.out,FR2.out,F.out⟩
theorem hull_left(K:Nat)(o:Bool)(s1:Int)(g1:Bool)(A1:Option Addr)(n1 c1:Nat)(B1:Option Addr)(m1 d1:Nat)(x1:Rat)(s2:Int)(g2:Bool)(A2:Option Addr)(n2 c2:Nat)(B2:Option Addr)(m2 d2:Nat)(x2:Rat)(s3:Int)(g3:Bool)(A3:Option Addr)(n3 c3:Nat)(B3:Option Addr)(m3 d3:Nat)(x3:Rat)(s4:Int)(g4:Bool)(A4:Option Addr)(n4 c4:Nat)(B4:Option Addr)(m4 d4:Nat)(x4:Rat)(w:World)(h1:RatV w K g1 (.slice A1 n1 c1) (.slice B1 m1 d1) x1)(h2:RatV w K g2 (.slice A2 n2 c2) (.slice B2 m2 d2) x2)(h3:RatV w K g3 (.slice A3 n3 c3) (.slice B3 m3 d3) x3)(h4:RatV w K g4 (.slice A4 n4 c4) (.slice B4 m4 d4) x4):
  Calls Tryz.prog 59 #[.agg #[.bool true,.int .i64 s1,.bool g1,.slice A1 n1 c1,.slice B1 m1 d1,.int .i64 s2,.bool g2,.slice A2 n2 c2,.slice B2 m2 d2],.agg #[.bool o,.int .i64 s3,.bool g3,.slice A3 n3 c3,.slice B3 m3 d3,.int .i64 s4,.bool g4,.slice A4 n4 c4,.slice B4 m4 d4]] w (NewSet w K o s3 x3 s4 x4):=by
 have H1:=Hd h3;have H2:=Hd h4;clear h1 h2 h3 h4;obtain⟨LB0,LG0_0,LG1_0,LR⟩:=bx3 w #[.bool true,.int .i64 s1,.bool g1,.slice A1 n1 c1,.slice B1 m1 d1,.int .i64 s2,.bool g2,.slice A2 n2 c2,.slice B2 m2 d2] 45 #[.bool o,.int .i64 s3,.bool g3,.slice A3 n3 c3,.slice B3 m3 d3,.int .i64 s4,.bool g4,.slice A4 n4 c4,.slice B4 m4 d4] 45 #[.bool false,.int .i64 0,.bool false,.slice none 0 0,.slice none 0 0,.int .i64 0,.bool false,.slice none 0 0,.slice none 0 0] 45;have LR0:=Hd (HasBlk.of (n:=9) LR.out rfl rfl);clear LR;clear LB0 LG0_0 LG1_0 LR0
 go_enter Tryz.func59,Tryz.ntmps59
 go_wp2;refine bodyPost_ret (v:=.agg #[.bool o,.int .i64 s3,.bool g3,.slice A3 n3 c3,.slice B3 m3 d3,.int .i64 s4,.bool g4,.slice A4 n4 c4,.slice B4 m4 d4]) (by simp [results,Tryz.results59,go_sem]) rfl ?_
 exact have b:=(((below_alloc w _).alloc (by simp<;>omega) _).alloc (by simp<;>omega) _);⟨_,_,_,_,_,_,_,_,_,_,_,_,_,_,rfl,H1.out.below b,H2.out.below b,b⟩
theorem hull_right(K:Nat)(s1:Int)(g1:Bool)(A1:Option Addr)(n1 c1:Nat)(B1:Option Addr)(m1 d1:Nat)(x1:Rat)(s2:Int)(g2:Bool)(A2:Option Addr)(n2 c2:Nat)(B2:Option Addr)(m2 d2:Nat)(x2:Rat)(s3:Int)(g3:Bool)(A3:Option Addr)(n3 c3:Nat)(B3:Option Addr)(m3 d3:Nat)(x3:Rat)(s4:Int)(g4:Bool)(A4:Option Addr)(n4 c4:Nat)(B4:Option Addr)(m4 d4:Nat)(x4:Rat)(w:World)(h1:RatV w K g1 (.slice A1 n1 c1) (.slice B1 m1 d1) x1)(h2:RatV w K g2 (.slice A2 n2 c2) (.slice B2 m2 d2) x2)(h3:RatV w K g3 (.slice A3 n3 c3) (.slice B3 m3 d3) x3)(h4:RatV w K g4 (.slice A4 n4 c4) (.slice B4 m4 d4) x4):
  Calls Tryz.prog 59 #[.agg #[.bool false,.int .i64 s1,.bool g1,.slice A1 n1 c1,.slice B1 m1 d1,.int .i64 s2,.bool g2,.slice A2 n2 c2,.slice B2 m2 d2],.agg #[.bool true,.int .i64 s3,.bool g3,.slice A3 n3 c3,.slice B3 m3 d3,.int .i64 s4,.bool g4,.slice A4 n4 c4,.slice B4 m4 d4]] w (NewSet w K false s1 x1 s2 x2):=by
 have H1:=Hd h1;have H2:=Hd h2;clear h1 h2 h3 h4;obtain⟨LB0,LG0_0,LG1_0,LR⟩:=bx3 w #[.bool false,.int .i64 s1,.bool g1,.slice A1 n1 c1,.slice B1 m1 d1,.int .i64 s2,.bool g2,.slice A2 n2 c2,.slice B2 m2 d2] 45 #[.bool true,.int .i64 s3,.bool g3,.slice A3 n3 c3,.slice B3 m3 d3,.int .i64 s4,.bool g4,.slice A4 n4 c4,.slice B4 m4 d4] 45 #[.bool false,.int .i64 0,.bool false,.slice none 0 0,.slice none 0 0,.int .i64 0,.bool false,.slice none 0 0,.slice none 0 0] 45;have LR0:=Hd (HasBlk.of (n:=9) LR.out rfl rfl);clear LR;clear LB0 LG0_0 LG1_0 LR0
 go_enter Tryz.func59,Tryz.ntmps59
 go_wp2;refine bodyPost_ret (v:=.agg #[.bool false,.int .i64 s1,.bool g1,.slice A1 n1 c1,.slice B1 m1 d1,.int .i64 s2,.bool g2,.slice A2 n2 c2,.slice B2 m2 d2]) (by simp [results,Tryz.results59,go_sem]) rfl ?_
 exact have b:=(((below_alloc w _).alloc (by simp<;>omega) _).alloc (by simp<;>omega) _);⟨_,_,_,_,_,_,_,_,_,_,_,_,_,_,rfl,H1.out.below b,H2.out.below b,b⟩
theorem hull_both(K:Nat)(s1:Int)(g1:Bool)(A1:Option Addr)(n1 c1:Nat)(B1:Option Addr)(m1 d1:Nat)(x1:Rat)(s2:Int)(g2:Bool)(A2:Option Addr)(n2 c2:Nat)(B2:Option Addr)(m2 d2:Nat)(x2:Rat)(s3:Int)(g3:Bool)(A3:Option Addr)(n3 c3:Nat)(B3:Option Addr)(m3 d3:Nat)(x3:Rat)(s4:Int)(g4:Bool)(A4:Option Addr)(n4 c4:Nat)(B4:Option Addr)(m4 d4:Nat)(x4:Rat)(w:World)(h1:RatV w K g1 (.slice A1 n1 c1) (.slice B1 m1 d1) x1)(h2:RatV w K g2 (.slice A2 n2 c2) (.slice B2 m2 d2) x2)(h3:RatV w K g3 (.slice A3 n3 c3) (.slice B3 m3 d3) x3)(h4:RatV w K g4 (.slice A4 n4 c4) (.slice B4 m4 d4) x4)(hK:K≤1073741824):
  Calls Tryz.prog 59 #[.agg #[.bool false,.int .i64 s1,.bool g1,.slice A1 n1 c1,.slice B1 m1 d1,.int .i64 s2,.bool g2,.slice A2 n2 c2,.slice B2 m2 d2],.agg #[.bool false,.int .i64 s3,.bool g3,.slice A3 n3 c3,.slice B3 m3 d3,.int .i64 s4,.bool g4,.slice A4 n4 c4,.slice B4 m4 d4]] w
   (NewSet w K false (if ec s3 x3 s1 x1<0 then s3 else s1) (if ec s3 x3 s1 x1<0 then x3 else x1) (if 0<ec s4 x4 s2 x2 then s4 else s2) (if 0<ec s4 x4 s2 x2 then x4 else x2)):=by
 have T1:=Hd fun W (hW:Below w.heap.size w W)=>lesser_any K s1 g1 A1 n1 c1 B1 m1 d1 x1 s3 g3 A3 n3 c3 B3 m3 d3 x3 W (h1.below hW) (h3.below hW) hK;have T2:=Hd fun W (hW:Below w.heap.size w W)=>greater_any K s2 g2 A2 n2 c2 B2 m2 d2 x2 s4 g4 A4 n4 c4 B4 m4 d4 x4 W (h2.below hW) (h4.below hW) hK
 obtain⟨s5,e1⟩:∃ s,(if ec s3 x3 s1 x1<0 then s3 else s1)=s:=⟨_,rfl⟩
 obtain⟨x5,e2⟩:∃ s,(if ec s3 x3 s1 x1<0 then x3 else x1)=s:=⟨_,rfl⟩
 obtain⟨s6,e3⟩:∃ s,(if 0<ec s4 x4 s2 x2 then s4 else s2)=s:=⟨_,rfl⟩
 obtain⟨x6,e4⟩:∃ s,(if 0<ec s4 x4 s2 x2 then x4 else x2)=s:=⟨_,rfl⟩
 rw [e1,e2] at T1 ⊢;rw [e3,e4] at T2 ⊢;clear h1 h2 h3 h4 e1 e2 e3 e4;obtain⟨LB0,LG0_0,LG1_0,LR⟩:=bx3 w #[.bool false,.int .i64 s1,.bool g1,.slice A1 n1 c1,.slice B1 m1 d1,.int .i64 s2,.bool g2,.slice A2 n2 c2,.slice B2 m2 d2] 45 #[.bool false,.int .i64 s3,.bool g3,.slice A3 n3 c3,.slice B3 m3 d3,.int .i64 s4,.bool g4,.slice A4 n4 c4,.slice B4 m4 d4] 45 #[.bool false,.int .i64 0,.bool false,.slice none 0 0,.slice none 0 0,.int .i64 0,.bool false,.slice none 0 0,.slice none 0 0] 45;have LR0:=Hd (HasBlk.of (n:=9) LR.out rfl rfl);clear LR
 go_enter Tryz.func59,Tryz.ntmps59
 go_wp2_with fail;refine wp_region_held_drew (S:=fun W'=>Blk W' w.heap.size 45 #[.bool false,.int .i64 s1,.bool g1,.slice A1 n1 c1,.slice B1 m1 d1,.int .i64 s2,.bool g2,.slice A2 n2 c2,.slice B2 m2 d2]∧Blk W' (w.heap.size+1) 45 #[.bool false,.int .i64 s3,.bool g3,.slice A3 n3 c3,.slice B3 m3 d3,.int .i64 s4,.bool g4,.slice A4 n4 c4,.slice B4 m4 d4]∧HasBlk W' (w.heap.size+2) 45 9∧Below w.heap.size w W') (by kernel_rfl) (by exact⟨LG0_0.out.drew,LG1_0.out.drew,LR0.out.drew,LB0.out.drew⟩) (fun hHeld=>?_);refine tk 0 ?_;(try simp only [Act.put,lay]);refine tk 1 ?_ (hv:=by intro W2 hSw;obtain⟨q0,q1,q2,q3,q4,q5,q6,q7,q8⟩:=hSw.1.c9;go_simp;(try with_reducible rfl));(try simp only [Act.put,lay]);refine tk 2 ?_;(try simp only [Act.put,lay]);refine tk 3 ?_ (hv:=by intro W2 hSw;obtain⟨q0,q1,q2,q3,q4,q5,q6,q7,q8⟩:=hSw.2.1.c9;go_simp;(try with_reducible rfl));(try simp only [Act.put,lay]);refine tk 5 ?_;(try simp only [Act.put,lay]);refine tk 6 ?_ (hv:=by intro W2 hSw;obtain⟨q0,q1,q2,q3,q4,q5,q6,q7,q8⟩:=hSw.1.c9;go_simp;(try with_reducible rfl));(try simp only [Act.put,lay]);refine tk 7 ?_;(try simp only [Act.put,lay]);refine tk 8 ?_ (hv:=by intro W2 hSw;obtain⟨q0,q1,q2,q3,q4,q5,q6,q7,q8⟩:=hSw.2.1.c9;go_simp;(try with_reducible rfl));(try simp only [Act.put,lay]);refine rdy 4 (fun KK hKK=>?_);go_simp;refine (T1.out _ ?_).mono ?_;exact hHeld.2.2.2;rintro e w5 ⟨g5,A5,n5,c5,B5,m5,d5,rfl,h5,hb5⟩;go_wp2_with fail;refine hKK.out _ _ (⟨hHeld.1.keep hb5,hHeld.2.1.keep hb5,hHeld.2.2.1.keep hb5,hHeld.2.2.2.trans (hb5.mono hHeld.2.2.2.size)⟩) (fun _=>?_)
 clear hKK KK hHeld;rename_i hHeld;(try simp only [Act.put,lay]);refine rdy 9 (fun KK hKK=>?_);go_simp;refine (T2.out _ ?_).mono ?_;exact hHeld.2.2.2;rintro e w6 ⟨g6,A6,n6,c6,B6,m6,d6,rfl,h6,hb6⟩;go_wp2_with fail;refine hKK.out _ _ (⟨hHeld.1.keep hb6,hHeld.2.1.keep hb6,hHeld.2.2.1.keep hb6,hHeld.2.2.2.trans (hb6.mono hHeld.2.2.2.size)⟩) (fun _=>?_);clear hKK KK hHeld;rename_i hHeld;(try simp only [Act.put,lay]);refine tk 10 ?_;(try simp only [Act.put,lay]);refine rdy 11 (fun KK hKK=>?_);have ha0:=hHeld.2.2.1.someCell 0 (by decide);have hf0:=hHeld.2.2.1.frozen 0;have ha1:=hHeld.2.2.1.someCell 1 (by decide);have hf1:=hHeld.2.2.1.frozen 1;have ha2:=hHeld.2.2.1.someCell 2 (by decide);have hf2:=hHeld.2.2.1.frozen 2;have ha3:=hHeld.2.2.1.someCell 3 (by decide);have hf3:=hHeld.2.2.1.frozen 3;have ha4:=hHeld.2.2.1.someCell 4 (by decide);have hf4:=hHeld.2.2.1.frozen 4;have ha5:=hHeld.2.2.1.someCell 5 (by decide);have hf5:=hHeld.2.2.1.frozen 5;have ha6:=hHeld.2.2.1.someCell 6 (by decide);have hf6:=hHeld.2.2.1.frozen 6;have ha7:=hHeld.2.2.1.someCell 7 (by decide);have hf7:=hHeld.2.2.1.frozen 7;have ha8:=hHeld.2.2.1.someCell 8 (by decide);have hf8:=hHeld.2.2.1.frozen 8;have HK:=Hd (hHeld.2.2.1.setCell [.bool false,.int .i64 s5,.bool g5,.slice A5 n5 c5,.slice B5 m5 d5,.int .i64 s6,.bool g6,.slice A6 n6 c6,.slice B6 m6 d6] rfl);have F:=Hd (below_sets (w0:=w) (r:=(w.heap.size+2)) (by omega) [.bool false,.int .i64 s5,.bool g5,.slice A5 n5 c5,.slice B5 m5 d5,.int .i64 s6,.bool g6,.slice A6 n6 c6,.slice B6 m6 d6] 0 _ hHeld.2.2.2);have FR1:=Hd (hHeld.2.2.1.rat (h5.below hb6) [.bool false,.int .i64 s5,.bool g5,.slice A5 n5 c5,.slice B5 m5 d5,.int .i64 s6,.bool g6,.slice A6 n6 c6,.slice B6 m6 d6]);have FR2:=Hd (hHeld.2.2.1.rat h6 [.bool false,.int .i64 s5,.bool g5,.slice A5 n5 c5,.slice B5 m5 d5,.int .i64 s6,.bool g6,.slice A6 n6 c6,.slice B6 m6 d6])
 go_simp;refine hKK.out _ _ (⟨hHeld.1.other (by omega) 0 [.bool false,.int .i64 s5,.bool g5,.slice A5 n5 c5,.slice B5 m5 d5,.int .i64 s6,.bool g6,.slice A6 n6 c6,.slice B6 m6 d6],hHeld.2.1.other (by omega) 0 [.bool false,.int .i64 s5,.bool g5,.slice A5 n5 c5,.slice B5 m5 d5,.int .i64 s6,.bool g6,.slice A6 n6 c6,.slice B6 m6 d6],hHeld.2.2.1.sets [.bool false,.int .i64 s5,.bool g5,.slice A5 n5 c5,.slice B5 m5 d5,.int .i64 s6,.bool g6,.slice A6 n6 c6,.slice B6 m6 d6] rfl rfl,below_sets (by omega) [.bool false,.int .i64 s5,.bool g5,.slice A5 n5 c5,.slice B5 m5 d5,.int .i64 s6,.bool g6,.slice A6 n6 c6,.slice B6 m6 d6] 0 _ hHeld.2.2.2⟩) (fun _=>?_);clear hKK KK hHeld;rename_i hHeld;(try simp only [Act.put,lay]);refine wpAnyH_done (by kernel_rfl) ?_ _;have hk0:=HK.out 0 (by decide);have hk1:=HK.out 1 (by decide);have hk2:=HK.out 2 (by decide);have hk3:=HK.out 3 (by decide);have hk4:=HK.out 4 (by decide);have hk5:=HK.out 5 (by decide);have hk6:=HK.out 6 (by decide);have hk7:=HK.out 7 (by decide);have hk8:=HK.out 8 (by decide)
 simp [sets] at hk0 hk1 hk2 hk3 hk4 hk5 hk6 hk7 hk8
 clear hHeld HK h5 hb5 h6 hb6;clear LB0 LR0 LG0_0 LG1_0;go_wp2;refine bodyPost_ret (v:=.agg #[.bool false,.int .i64 s5,.bool g5,.slice A5 n5 c5,.slice B5 m5 d5,.int .i64 s6,.bool g6,.slice A6 n6 c6,.slice B6 m6 d6]) (by simp [results,Tryz.results59,go_sem,hk0,hk1,hk2,hk3,hk4,hk5,hk6,hk7,hk8]) rfl ?_
 exact⟨_,_,_,_,_,_,_,_,_,_,_,_,_,_,rfl,FR1.out,FR2.out,F.out⟩
def NewBd(w:World)(K:Nat)(s:Int)(x:Rat)(N:Int)(op:Bool)(e:Ending)(w':World):Prop:=
 ∃ neg A n c B m d,e=.returned (.agg #[.int .i64 s,.bool neg,.slice A n c,.slice B m d,.int .i64 N,.bool op])∧RatV w' K neg (.slice A n c) (.slice B m d) x∧Below w.heap.size w w'
theorem whole_nat(v:Nat)(op:Bool)(w:World)(hv:v<4294967296):
  Calls Tryz.prog 55 #[.int .i64 (v:Int),.bool op] w (NewBd w 1 0 (v:Rat) 1 op):=by
 have HS:=Hd fun W=>(int_nat v W (by omega)).mono fun _ _ h=>h.s;obtain⟨LB0,LR⟩:=bx1 w #[.int .i64 0,.bool false,.slice none 0 0,.slice none 0 0,.int .i64 0,.bool false] 51;have LR0:=Hd (HasBlk.of (n:=6) LR.out rfl rfl);clear LR
 go_enter Tryz.func55,Tryz.ntmps55
 go_wp2_with fail;refine (HS.out _).mono ?_;rintro e w1 ⟨g1,A1,n1,c1,B1,m1,d1,rfl,h1,hb1⟩;have LB1:=stB LB0 hb1 LB0.out.size;have LR1:=stR LR0 hb1;clear LB0 LR0;obtain⟨ha0,hf0,ha1,hf1,ha2,hf2,ha3,hf3,ha4,hf4,ha5,hf5⟩:=LR1.out.sf6;obtain⟨hk0,hk1,hk2,hk3,hk4,hk5⟩:=LR1.out.sc6 (.int .i64 0) (.bool g1) (.slice A1 n1 c1) (.slice B1 m1 d1) (.int .i64 1) (.bool op);have F:=Hd (below_sets (w0:=w) (r:=w.heap.size) (by omega) [.int .i64 0,.bool g1,.slice A1 n1 c1,.slice B1 m1 d1,.int .i64 1,.bool op] 0 _ LB1.out)
 simp [sets] at hk0 hk1 hk2 hk3 hk4 hk5
 have FR1:=Hd (LR1.out.rat (h1) [.int .i64 0,.bool g1,.slice A1 n1 c1,.slice B1 m1 d1,.int .i64 1,.bool op]);clear hb1 h1;go_wp2;refine bodyPost_ret (v:=.agg #[.int .i64 0,.bool g1,.slice A1 n1 c1,.slice B1 m1 d1,.int .i64 1,.bool op]) (by simp [results,Tryz.results55,go_sem,hk0,hk1,hk2,hk3,hk4,hk5]) rfl ?_
 exact⟨_,_,_,_,_,_,_,rfl,FR1.out,F.out⟩
theorem far_any(s:Int)(w:World):
  Calls Tryz.prog 25 #[.int .i64 s] w (NewBd w 1 s 0 1 true):=by
 have HS:=Hd (show ∀ W,Calls Tryz.prog 48 #[.int .i64 0] W (NewRatS W 1 0) from fun W=>(int_nat 0 W (by omega)).mono fun _ _ h=>h.s);obtain⟨LB0,LR⟩:=bx1 w #[.int .i64 0,.bool false,.slice none 0 0,.slice none 0 0,.int .i64 0,.bool false] 51;have LR0:=Hd (HasBlk.of (n:=6) LR.out rfl rfl);clear LR
 go_enter Tryz.func25,Tryz.ntmps25
 go_wp2_with fail;refine (HS.out _).mono ?_;rintro e w1 ⟨g1,A1,n1,c1,B1,m1,d1,rfl,h1,hb1⟩;have LB1:=stB LB0 hb1 LB0.out.size;have LR1:=stR LR0 hb1;clear LB0 LR0;obtain⟨ha0,hf0,ha1,hf1,ha2,hf2,ha3,hf3,ha4,hf4,ha5,hf5⟩:=LR1.out.sf6;obtain⟨hk0,hk1,hk2,hk3,hk4,hk5⟩:=LR1.out.sc6 (.int .i64 s) (.bool g1) (.slice A1 n1 c1) (.slice B1 m1 d1) (.int .i64 1) (.bool true);have F:=Hd (below_sets (w0:=w) (r:=w.heap.size) (by omega) [.int .i64 s,.bool g1,.slice A1 n1 c1,.slice B1 m1 d1,.int .i64 1,.bool true] 0 _ LB1.out)
 simp [sets] at hk0 hk1 hk2 hk3 hk4 hk5
 have FR1:=Hd (LR1.out.rat (h1) [.int .i64 s,.bool g1,.slice A1 n1 c1,.slice B1 m1 d1,.int .i64 1,.bool true]);clear hb1 h1;go_wp2;refine bodyPost_ret (v:=.agg #[.int .i64 s,.bool g1,.slice A1 n1 c1,.slice B1 m1 d1,.int .i64 1,.bool true]) (by simp [results,Tryz.results25,go_sem,hk0,hk1,hk2,hk3,hk4,hk5]) rfl ?_
 exact⟨_,_,_,_,_,_,_,rfl,FR1.out,F.out⟩
set_option maxRecDepth 8000 in
theorem rounded_zero(K:Nat)(neg:Bool)(A B:Option Addr)(n c m d:Nat)(dd:Int)(w:World)(h:RatV w K neg (.slice A n c) (.slice B m d) 0)(hK:K≤1048576):
  Calls Tryz.prog 109 #[.int .i64 dd,.agg #[.bool neg,.slice A n c,.slice B m d],.int .i64 53,.int .i64 1023] w fun e w'=>e=.returned (.int .u64 0)∧Below w.heap.size w w':=by
 have ba:=below_alloc w (.cells #[.bool neg,.slice A n c,.slice B m d] 41);have HS:=Hd fun W (hW:Below w.heap.size w W)=>rsign_any K neg _ _ _ W (h.below hW) (by omega);rw [show rsg 0=0 from rfl] at HS;have BA:=Hd ba;clear ba h
 go_enter Tryz.func109,Tryz.ntmps109
 go_wp2_with fail;refine (HS.out _ BA.out).mono ?_;rintro e w1 ⟨rfl,hb1⟩;have B1:=Hd (BA.out.trans (hb1.mono BA.out.size));clear hb1;go_wp2
 go_ret
 exact⟨rfl,B1.out⟩
def IsRnd(w:World)(d:Int)(x:Rat)(e:Ending)(w':World):Prop:=∃ i,e=.returned (.int .u64 (pat i:Int))∧Rnd d x i∧Below w.heap.size w w'
theorem rounded_any(K:Nat)(neg:Bool)(A B:Option Addr)(n c m d:Nat)(x:Rat)(dd:Int)(w:World)(h:RatV w K neg (.slice A n c) (.slice B m d) x)(hK:K≤1048576)(hd:dd=-1∨dd=1):
  Calls Tryz.prog 109 #[.int .i64 dd,.agg #[.bool neg,.slice A n c,.slice B m d],.int .i64 53,.int .i64 1023] w (IsRnd w dd x):=by
 have h':=h;obtain⟨p,q,A',n',c',B',m',d',e1,e2,hu,hv,hq,h0,hpK,hqK,rfl⟩:=h'
 cases e1;cases e2
 rcases Nat.eq_zero_or_pos p with hp | hp
 ·subst hp;rw [rv_zero] at h;refine (rounded_zero K neg A B n c m d dd w h hK).mono ?_;rintro e w' ⟨rfl,hb⟩;refine⟨0,rfl,?_,hb⟩;rw [rv_zero]
  exact rnd_zero hd
 ·refine (rounded_pos K neg A B n c m d p q dd w hu hv hp hq hpK hqK hK hd).mono ?_;rintro e w' ⟨rfl,hb⟩
  exact⟨_,rfl,rnd_ans hp hq (fout_sc hp hq rfl) hd,hb⟩
theorem bits_any(K:Nat)(neg:Bool)(A B:Option Addr)(n c m d:Nat)(x:Rat)(dd:Int)(w:World)(h:RatV w K neg (.slice A n c) (.slice B m d) x)(hK:K≤1048576)(hd:dd=-1∨dd=1):
  Calls Tryz.prog 86 #[.int .i64 dd,.agg #[.bool neg,.slice A n c,.slice B m d]] w (IsRnd w dd x):=by
 have ba:=below_alloc w (.cells #[.bool neg,.slice A n c,.slice B m d] 41);have HS:=Hd fun W (hW:Below w.heap.size w W)=>rounded_any K neg A B n c m d x dd W (h.below hW) hK hd;have BA:=Hd ba;clear ba h hd
 go_enter Tryz.func86,Tryz.ntmps86
 go_wp2_with fail;refine (HS.out _ BA.out).mono ?_;rintro e w1 ⟨i,rfl,hr,hb1⟩;have B1:=Hd (BA.out.trans (hb1.mono BA.out.size));have HR:=Hd hr;clear hb1 hr;go_wp2
 go_ret
 exact⟨i,rfl,HR.out,B1.out⟩
def NewLeast(w:World)(s:Int)(x:Rat)(t:Int)(y:Rat)(e:Ending)(w':World):Prop:=
 ∃ i j,e=.returned (.agg #[.int .u64 (pat i:Int),.int .u64 (pat j:Int)])∧(s=0→Rnd (-1) x i)∧(s≠0→i=-(M:Int))∧(t=0→Rnd 1 y j)∧(t≠0→j=M)∧Below w.heap.size w w'
theorem least_none(s1:Int)(g1:Bool)(A1:Option Addr)(n1 c1:Nat)(B1:Option Addr)(m1 d1:Nat)(x1:Rat)(s2:Int)(g2:Bool)(A2:Option Addr)(n2 c2:Nat)(B2:Option Addr)(m2 d2:Nat)(x2:Rat)(w:World):
  Calls Tryz.prog 58 #[.agg #[.bool true,.int .i64 s1,.bool g1,.slice A1 n1 c1,.slice B1 m1 d1,.int .i64 s2,.bool g2,.slice A2 n2 c2,.slice B2 m2 d2]] w fun e w'=>e=.returned (.agg #[.int .u64 9218868437227405312,.int .u64 18442240474082181120])∧Below w.heap.size w w':=by
 have HE:=Hd empty6;obtain⟨LB0,LG0_0,LR⟩:=bx2 w #[.bool true,.int .i64 s1,.bool g1,.slice A1 n1 c1,.slice B1 m1 d1,.int .i64 s2,.bool g2,.slice A2 n2 c2,.slice B2 m2 d2] 45 #[.int .u64 0,.int .u64 0] 24;have LR0:=Hd (HasBlk.of (n:=2) LR.out rfl rfl);clear LR
 go_enter Tryz.func58,Tryz.ntmps58
 go_wp2_with fail;refine (HE.out _).mono ?_;rintro e w1 ⟨rfl,hb1⟩;have LB1:=stB LB0 hb1 LB0.out.size;have LR1:=stR LR0 hb1;have LG0_1:=stG LG0_0 hb1;clear LB0 LR0 LG0_0;obtain⟨ha0,hf0,ha1,hf1⟩:=LR1.out.sf2;obtain⟨hk0,hk1⟩:=LR1.out.sc2 (.int .u64 9218868437227405312) (.int .u64 18442240474082181120);have F:=Hd (below_sets (w0:=w) (r:=(w.heap.size+1)) (by omega) [.int .u64 9218868437227405312,.int .u64 18442240474082181120] 0 _ LB1.out)
 simp [sets] at hk0 hk1
 clear hb1;go_wp2;refine bodyPost_ret (v:=.agg #[.int .u64 9218868437227405312,.int .u64 18442240474082181120]) (by simp [results,Tryz.results58,go_sem,hk0,hk1]) rfl ?_
 exact⟨rfl,F.out⟩
theorem least_some(K:Nat)(s1:Int)(g1:Bool)(A1:Option Addr)(n1 c1:Nat)(B1:Option Addr)(m1 d1:Nat)(x1:Rat)(s2:Int)(g2:Bool)(A2:Option Addr)(n2 c2:Nat)(B2:Option Addr)(m2 d2:Nat)(x2:Rat)(w:World)(h1:RatV w K g1 (.slice A1 n1 c1) (.slice B1 m1 d1) x1)(h2:RatV w K g2 (.slice A2 n2 c2) (.slice B2 m2 d2) x2)(hK:K≤1048576):
  Calls Tryz.prog 58 #[.agg #[.bool false,.int .i64 s1,.bool g1,.slice A1 n1 c1,.slice B1 m1 d1,.int .i64 s2,.bool g2,.slice A2 n2 c2,.slice B2 m2 d2]] w (NewLeast w s1 x1 s2 x2):=by
 have HE:=Hd entire6;have T1:=Hd fun W (hW:Below w.heap.size w W)=>bits_any K g1 A1 B1 n1 c1 m1 d1 x1 (-1) W (h1.below hW) hK (.inl rfl);have T2:=Hd fun W (hW:Below w.heap.size w W)=>bits_any K g2 A2 B2 n2 c2 m2 d2 x2 1 W (h2.below hW) hK (.inr rfl);clear h1 h2
 by_cases ha:s1=0
 ·subst ha
  by_cases hb:s2=0
  ·subst hb;obtain⟨LB0,LG0_0,LR⟩:=bx2 w #[.bool false,.int .i64 0,.bool g1,.slice A1 n1 c1,.slice B1 m1 d1,.int .i64 0,.bool g2,.slice A2 n2 c2,.slice B2 m2 d2] 45 #[.int .u64 0,.int .u64 0] 24;have LR0:=Hd (HasBlk.of (n:=2) LR.out rfl rfl);clear LR
   go_enter Tryz.func58,Tryz.ntmps58
   go_wp2_with fail;refine (HE.out _).mono ?_;rintro e w1 ⟨rfl,hb1⟩;have LB1:=stB LB0 hb1 LB0.out.size;have LR1:=stR LR0 hb1;have LG0_1:=stG LG0_0 hb1;clear LB0 LR0 LG0_0;have hlo:=LB1.out.size;have hlr:=LR1.out.lt;have hlt2:=LR1.out.lt;have LB2:=Hd (LB1.out.alloc LB1.out.size (.cells #[.int .u64 18442240474082181120,.int .u64 9218868437227405312] 24));have LR2:=Hd (LR1.out.alloc (.cells #[.int .u64 18442240474082181120,.int .u64 9218868437227405312] 24));have LG0_2:=Hd (LG0_1.out.alloc (.cells #[.int .u64 18442240474082181120,.int .u64 9218868437227405312] 24));have LG1_2:=Hd (Blk.new w1 24 #[.int .u64 18442240474082181120,.int .u64 9218868437227405312]);clear LB1 LR1 LG0_1;clear hb1
   go_upto_region 4 with fail
   obtain⟨V2,hV2⟩:∃ X,(w1.alloc (.cells #[.int .u64 18442240474082181120,.int .u64 9218868437227405312] 24))=X:=⟨_,rfl⟩
   rw [hV2] at LB2 LR2 LG0_2 LG1_2 ⊢;clear hV2;obtain⟨q0_0,q0_1,q0_2,q0_3,q0_4,q0_5,q0_6,q0_7,q0_8⟩:=LG0_2.out.c9;go_wp2_with fail;refine (T1.out _ LB2.out).mono ?_;rintro e w2 ⟨i,rfl,hi,hb2⟩;have LB3:=stB LB2 hb2 LB2.out.size;have LR3:=stR LR2 hb2;have LG0_3:=stG LG0_2 hb2;have LG1_3:=stG LG1_2 hb2;clear LB2 LR2 LG0_2 LG1_2;have HI:=Hd hi;clear hi hb2 q0_0 q0_1 q0_2 q0_3 q0_4 q0_5 q0_6 q0_7 q0_8;have q1_0:=LG1_3.out.ce 0 rfl;have hf1:=LG1_3.out.frozen 0
   go_upto_region 6 with fail
   clear q1_0 hf1;have LB4:=Hd (LB3.out.setCell (p:=⟨w1.heap.size,0,none⟩) (by first | exact Nat.le_refl _ | (show w.heap.size≤_+_;omega) | (show w.heap.size≤_;omega)) (.int .u64 (pat i:Int)));have LR4:=Hd (show HasBlk (w2.setCell ⟨w1.heap.size,0,none⟩ (.int .u64 (pat i:Int))) (w.heap.size+1) 24 2 from LR3.out.other (by omega) 0 [.int .u64 (pat i:Int)]);have LG0_4:=Hd (show Blk (w2.setCell ⟨w1.heap.size,0,none⟩ (.int .u64 (pat i:Int))) w.heap.size 45 #[.bool false,.int .i64 0,.bool g1,.slice A1 n1 c1,.slice B1 m1 d1,.int .i64 0,.bool g2,.slice A2 n2 c2,.slice B2 m2 d2] from LG0_3.out.other (by omega) 0 [.int .u64 (pat i:Int)]);have LG1_4:=Hd (LG1_3.out.set 0 (.int .u64 (pat i:Int)));clear LB3 LR3 LG0_3 LG1_3
   obtain⟨V3,hV3⟩:∃ X,w2.setCell ⟨w1.heap.size,0,none⟩ (.int .u64 (pat i:Int))=X:=⟨_,rfl⟩
   rw [hV3] at LB4 LR4 LG0_4 LG1_4 ⊢;clear hV3;obtain⟨q0_0,q0_1,q0_2,q0_3,q0_4,q0_5,q0_6,q0_7,q0_8⟩:=LG0_4.out.c9;go_wp2_with fail;refine (T2.out _ LB4.out).mono ?_;rintro e w3 ⟨j,rfl,hj,hb3⟩;have LB5:=stB LB4 hb3 LB4.out.size;have LR5:=stR LR4 hb3;have LG0_5:=stG LG0_4 hb3;have LG1_5:=stG LG1_4 hb3;clear LB4 LR4 LG0_4 LG1_4;have HJ:=Hd hj;clear hj hb3 q0_0 q0_1 q0_2 q0_3 q0_4 q0_5 q0_6 q0_7 q0_8;have q1_1:=LG1_5.out.ce 1 rfl;have hf1:=LG1_5.out.frozen 1
   go_upto_region 8 with fail
   clear q1_1 hf1;have LB6:=Hd (LB5.out.setCell (p:=⟨w1.heap.size,1,none⟩) (by first | exact Nat.le_refl _ | (show w.heap.size≤_+_;omega) | (show w.heap.size≤_;omega)) (.int .u64 (pat j:Int)));have LR6:=Hd (show HasBlk (w3.setCell ⟨w1.heap.size,1,none⟩ (.int .u64 (pat j:Int))) (w.heap.size+1) 24 2 from LR5.out.other (by omega) 1 [.int .u64 (pat j:Int)]);have LG0_6:=Hd (show Blk (w3.setCell ⟨w1.heap.size,1,none⟩ (.int .u64 (pat j:Int))) w.heap.size 45 #[.bool false,.int .i64 0,.bool g1,.slice A1 n1 c1,.slice B1 m1 d1,.int .i64 0,.bool g2,.slice A2 n2 c2,.slice B2 m2 d2] from LG0_5.out.other (by omega) 1 [.int .u64 (pat j:Int)]);have LG1_6:=Hd (LG1_5.out.set 1 (.int .u64 (pat j:Int)));clear LB5 LR5 LG0_5 LG1_5
   obtain⟨V4,hV4⟩:∃ X,w3.setCell ⟨w1.heap.size,1,none⟩ (.int .u64 (pat j:Int))=X:=⟨_,rfl⟩
   rw [hV4] at LB6 LR6 LG0_6 LG1_6 ⊢;clear hV4;obtain⟨q1_0,q1_1⟩:=LG1_6.out.c2;obtain⟨ha0,hf0,ha1,hf1⟩:=LR6.out.sf2;obtain⟨hk0,hk1⟩:=LR6.out.sc2 (.int .u64 (pat i:Int)) (.int .u64 (pat j:Int));have F:=Hd (below_sets (w0:=w) (r:=(w.heap.size+1)) (by omega) [.int .u64 (pat i:Int),.int .u64 (pat j:Int)] 0 _ LB6.out)
   simp [sets] at hk0 hk1
   clear T1 T2 HE
   have hfin:NewLeast w 0 x1 0 x2 (.returned (.agg #[.int .u64 (pat i:Int),.int .u64 (pat j:Int)])) _:=⟨i,j,rfl,fun _=>HI.out,fun h=>absurd rfl h,fun _=>HJ.out,fun h=>absurd rfl h,F.out⟩
   have HFIN:=Hd hfin;clear hfin;go_wp2;refine bodyPost_ret (v:=.agg #[.int .u64 (pat i:Int),.int .u64 (pat j:Int)]) (by simp [results,Tryz.results58,go_sem,hk0,hk1]) rfl ?_
   exact HFIN.out
  ·have hqb:(s2 == 0)=false:=by simp;omega
   obtain⟨LB0,LG0_0,LR⟩:=bx2 w #[.bool false,.int .i64 0,.bool g1,.slice A1 n1 c1,.slice B1 m1 d1,.int .i64 s2,.bool g2,.slice A2 n2 c2,.slice B2 m2 d2] 45 #[.int .u64 0,.int .u64 0] 24;have LR0:=Hd (HasBlk.of (n:=2) LR.out rfl rfl);clear LR
   go_enter Tryz.func58,Tryz.ntmps58
   go_wp2_with fail;refine (HE.out _).mono ?_;rintro e w1 ⟨rfl,hb1⟩;have LB1:=stB LB0 hb1 LB0.out.size;have LR1:=stR LR0 hb1;have LG0_1:=stG LG0_0 hb1;clear LB0 LR0 LG0_0;have hlo:=LB1.out.size;have hlr:=LR1.out.lt;have hlt2:=LR1.out.lt;have LB2:=Hd (LB1.out.alloc LB1.out.size (.cells #[.int .u64 18442240474082181120,.int .u64 9218868437227405312] 24));have LR2:=Hd (LR1.out.alloc (.cells #[.int .u64 18442240474082181120,.int .u64 9218868437227405312] 24));have LG0_2:=Hd (LG0_1.out.alloc (.cells #[.int .u64 18442240474082181120,.int .u64 9218868437227405312] 24));have LG1_2:=Hd (Blk.new w1 24 #[.int .u64 18442240474082181120,.int .u64 9218868437227405312]);clear LB1 LR1 LG0_1;clear hb1
   go_upto_region 4 with fail
   obtain⟨V2,hV2⟩:∃ X,(w1.alloc (.cells #[.int .u64 18442240474082181120,.int .u64 9218868437227405312] 24))=X:=⟨_,rfl⟩
   rw [hV2] at LB2 LR2 LG0_2 LG1_2 ⊢;clear hV2;obtain⟨q0_0,q0_1,q0_2,q0_3,q0_4,q0_5,q0_6,q0_7,q0_8⟩:=LG0_2.out.c9;go_wp2_with fail;refine (T1.out _ LB2.out).mono ?_;rintro e w2 ⟨i,rfl,hi,hb2⟩;have LB3:=stB LB2 hb2 LB2.out.size;have LR3:=stR LR2 hb2;have LG0_3:=stG LG0_2 hb2;have LG1_3:=stG LG1_2 hb2;clear LB2 LR2 LG0_2 LG1_2;have HI:=Hd hi;clear hi hb2 q0_0 q0_1 q0_2 q0_3 q0_4 q0_5 q0_6 q0_7 q0_8;have q1_0:=LG1_3.out.ce 0 rfl;have hf1:=LG1_3.out.frozen 0
   go_upto_region 6 with fail
   clear q1_0 hf1;have LB4:=Hd (LB3.out.setCell (p:=⟨w1.heap.size,0,none⟩) (by first | exact Nat.le_refl _ | (show w.heap.size≤_+_;omega) | (show w.heap.size≤_;omega)) (.int .u64 (pat i:Int)));have LR4:=Hd (show HasBlk (w2.setCell ⟨w1.heap.size,0,none⟩ (.int .u64 (pat i:Int))) (w.heap.size+1) 24 2 from LR3.out.other (by omega) 0 [.int .u64 (pat i:Int)]);have LG0_4:=Hd (show Blk (w2.setCell ⟨w1.heap.size,0,none⟩ (.int .u64 (pat i:Int))) w.heap.size 45 #[.bool false,.int .i64 0,.bool g1,.slice A1 n1 c1,.slice B1 m1 d1,.int .i64 s2,.bool g2,.slice A2 n2 c2,.slice B2 m2 d2] from LG0_3.out.other (by omega) 0 [.int .u64 (pat i:Int)]);have LG1_4:=Hd (LG1_3.out.set 0 (.int .u64 (pat i:Int)));clear LB3 LR3 LG0_3 LG1_3
   obtain⟨V3,hV3⟩:∃ X,w2.setCell ⟨w1.heap.size,0,none⟩ (.int .u64 (pat i:Int))=X:=⟨_,rfl⟩
   rw [hV3] at LB4 LR4 LG0_4 LG1_4 ⊢;clear hV3;obtain⟨q0_0,q0_1,q0_2,q0_3,q0_4,q0_5,q0_6,q0_7,q0_8⟩:=LG0_4.out.c9;obtain⟨q1_0,q1_1⟩:=LG1_4.out.c2;obtain⟨ha0,hf0,ha1,hf1⟩:=LR4.out.sf2;obtain⟨hk0,hk1⟩:=LR4.out.sc2 (.int .u64 (pat i:Int)) (.int .u64 9218868437227405312);have F:=Hd (below_sets (w0:=w) (r:=(w.heap.size+1)) (by omega) [.int .u64 (pat i:Int),.int .u64 9218868437227405312] 0 _ LB4.out)
   simp [sets] at hk0 hk1
   clear T1 T2 HE
   have hfin:NewLeast w 0 x1 s2 x2 (.returned (.agg #[.int .u64 (pat i:Int),.int .u64 9218868437227405312])) _:=⟨i,(M:Int),by rw [pat_max];rfl,fun _=>HI.out,fun h=>absurd rfl h,fun h=>absurd h hb,fun _=>rfl,F.out⟩
   have HFIN:=Hd hfin;clear hfin;go_wp2;refine bodyPost_ret (v:=.agg #[.int .u64 (pat i:Int),.int .u64 9218868437227405312]) (by simp [results,Tryz.results58,go_sem,hk0,hk1]) rfl ?_
   exact HFIN.out
 ·have hqa:(s1 == 0)=false:=by simp;omega
  by_cases hb:s2=0
  ·subst hb;obtain⟨LB0,LG0_0,LR⟩:=bx2 w #[.bool false,.int .i64 s1,.bool g1,.slice A1 n1 c1,.slice B1 m1 d1,.int .i64 0,.bool g2,.slice A2 n2 c2,.slice B2 m2 d2] 45 #[.int .u64 0,.int .u64 0] 24;have LR0:=Hd (HasBlk.of (n:=2) LR.out rfl rfl);clear LR
   go_enter Tryz.func58,Tryz.ntmps58
   go_wp2_with fail;refine (HE.out _).mono ?_;rintro e w1 ⟨rfl,hb1⟩;have LB1:=stB LB0 hb1 LB0.out.size;have LR1:=stR LR0 hb1;have LG0_1:=stG LG0_0 hb1;clear LB0 LR0 LG0_0;have hlo:=LB1.out.size;have hlr:=LR1.out.lt;have hlt2:=LR1.out.lt;have LB2:=Hd (LB1.out.alloc LB1.out.size (.cells #[.int .u64 18442240474082181120,.int .u64 9218868437227405312] 24));have LR2:=Hd (LR1.out.alloc (.cells #[.int .u64 18442240474082181120,.int .u64 9218868437227405312] 24));have LG0_2:=Hd (LG0_1.out.alloc (.cells #[.int .u64 18442240474082181120,.int .u64 9218868437227405312] 24));have LG1_2:=Hd (Blk.new w1 24 #[.int .u64 18442240474082181120,.int .u64 9218868437227405312]);clear LB1 LR1 LG0_1;clear hb1
   go_upto_region 4 with fail
   obtain⟨V2,hV2⟩:∃ X,(w1.alloc (.cells #[.int .u64 18442240474082181120,.int .u64 9218868437227405312] 24))=X:=⟨_,rfl⟩
   rw [hV2] at LB2 LR2 LG0_2 LG1_2 ⊢;clear hV2;obtain⟨q0_0,q0_1,q0_2,q0_3,q0_4,q0_5,q0_6,q0_7,q0_8⟩:=LG0_2.out.c9;go_wp2_with fail;refine (T2.out _ LB2.out).mono ?_;rintro e w3 ⟨j,rfl,hj,hb3⟩;have LB3:=stB LB2 hb3 LB2.out.size;have LR3:=stR LR2 hb3;have LG0_3:=stG LG0_2 hb3;have LG1_3:=stG LG1_2 hb3;clear LB2 LR2 LG0_2 LG1_2;have HJ:=Hd hj;clear hj hb3 q0_0 q0_1 q0_2 q0_3 q0_4 q0_5 q0_6 q0_7 q0_8;have q1_1:=LG1_3.out.ce 1 rfl;have hf1:=LG1_3.out.frozen 1
   go_upto_region 8 with fail
   clear q1_1 hf1;have LB4:=Hd (LB3.out.setCell (p:=⟨w1.heap.size,1,none⟩) (by first | exact Nat.le_refl _ | (show w.heap.size≤_+_;omega) | (show w.heap.size≤_;omega)) (.int .u64 (pat j:Int)));have LR4:=Hd (show HasBlk (w3.setCell ⟨w1.heap.size,1,none⟩ (.int .u64 (pat j:Int))) (w.heap.size+1) 24 2 from LR3.out.other (by omega) 1 [.int .u64 (pat j:Int)]);have LG0_4:=Hd (show Blk (w3.setCell ⟨w1.heap.size,1,none⟩ (.int .u64 (pat j:Int))) w.heap.size 45 #[.bool false,.int .i64 s1,.bool g1,.slice A1 n1 c1,.slice B1 m1 d1,.int .i64 0,.bool g2,.slice A2 n2 c2,.slice B2 m2 d2] from LG0_3.out.other (by omega) 1 [.int .u64 (pat j:Int)]);have LG1_4:=Hd (LG1_3.out.set 1 (.int .u64 (pat j:Int)));clear LB3 LR3 LG0_3 LG1_3
   obtain⟨V4,hV4⟩:∃ X,w3.setCell ⟨w1.heap.size,1,none⟩ (.int .u64 (pat j:Int))=X:=⟨_,rfl⟩
   rw [hV4] at LB4 LR4 LG0_4 LG1_4 ⊢;clear hV4;obtain⟨q1_0,q1_1⟩:=LG1_4.out.c2;obtain⟨ha0,hf0,ha1,hf1⟩:=LR4.out.sf2;obtain⟨hk0,hk1⟩:=LR4.out.sc2 (.int .u64 18442240474082181120) (.int .u64 (pat j:Int));have F:=Hd (below_sets (w0:=w) (r:=(w.heap.size+1)) (by omega) [.int .u64 18442240474082181120,.int .u64 (pat j:Int)] 0 _ LB4.out)
   simp [sets] at hk0 hk1
   clear T1 T2 HE
   have hfin:NewLeast w s1 x1 0 x2 (.returned (.agg #[.int .u64 18442240474082181120,.int .u64 (pat j:Int)])) _:=⟨(-(M:Int)),j,by rw [pat_min];rfl,fun h=>absurd h ha,fun _=>rfl,fun _=>HJ.out,fun h=>absurd rfl h,F.out⟩
   have HFIN:=Hd hfin;clear hfin;go_wp2;refine bodyPost_ret (v:=.agg #[.int .u64 18442240474082181120,.int .u64 (pat j:Int)]) (by simp [results,Tryz.results58,go_sem,hk0,hk1]) rfl ?_
   exact HFIN.out
  ·have hqb:(s2 == 0)=false:=by simp;omega
   obtain⟨LB0,LG0_0,LR⟩:=bx2 w #[.bool false,.int .i64 s1,.bool g1,.slice A1 n1 c1,.slice B1 m1 d1,.int .i64 s2,.bool g2,.slice A2 n2 c2,.slice B2 m2 d2] 45 #[.int .u64 0,.int .u64 0] 24;have LR0:=Hd (HasBlk.of (n:=2) LR.out rfl rfl);clear LR
   go_enter Tryz.func58,Tryz.ntmps58
   go_wp2_with fail;refine (HE.out _).mono ?_;rintro e w1 ⟨rfl,hb1⟩;have LB1:=stB LB0 hb1 LB0.out.size;have LR1:=stR LR0 hb1;have LG0_1:=stG LG0_0 hb1;clear LB0 LR0 LG0_0;have hlo:=LB1.out.size;have hlr:=LR1.out.lt;have hlt2:=LR1.out.lt;have LB2:=Hd (LB1.out.alloc LB1.out.size (.cells #[.int .u64 18442240474082181120,.int .u64 9218868437227405312] 24));have LR2:=Hd (LR1.out.alloc (.cells #[.int .u64 18442240474082181120,.int .u64 9218868437227405312] 24));have LG0_2:=Hd (LG0_1.out.alloc (.cells #[.int .u64 18442240474082181120,.int .u64 9218868437227405312] 24));have LG1_2:=Hd (Blk.new w1 24 #[.int .u64 18442240474082181120,.int .u64 9218868437227405312]);clear LB1 LR1 LG0_1;clear hb1
   go_upto_region 4 with fail
   obtain⟨V2,hV2⟩:∃ X,(w1.alloc (.cells #[.int .u64 18442240474082181120,.int .u64 9218868437227405312] 24))=X:=⟨_,rfl⟩
   rw [hV2] at LB2 LR2 LG0_2 LG1_2 ⊢;clear hV2;obtain⟨q0_0,q0_1,q0_2,q0_3,q0_4,q0_5,q0_6,q0_7,q0_8⟩:=LG0_2.out.c9;obtain⟨q1_0,q1_1⟩:=LG1_2.out.c2;obtain⟨ha0,hf0,ha1,hf1⟩:=LR2.out.sf2;obtain⟨hk0,hk1⟩:=LR2.out.sc2 (.int .u64 18442240474082181120) (.int .u64 9218868437227405312);have F:=Hd (below_sets (w0:=w) (r:=(w.heap.size+1)) (by omega) [.int .u64 18442240474082181120,.int .u64 9218868437227405312] 0 _ LB2.out)
   simp [sets] at hk0 hk1
   clear T1 T2 HE
   have hfin:NewLeast w s1 x1 s2 x2 (.returned (.agg #[.int .u64 18442240474082181120,.int .u64 9218868437227405312])) _:=⟨(-(M:Int)),(M:Int),by rw [pat_min,pat_max];rfl,fun h=>absurd h ha,fun _=>rfl,fun h=>absurd h hb,fun _=>rfl,F.out⟩
   have HFIN:=Hd hfin;clear hfin;go_wp2;refine bodyPost_ret (v:=.agg #[.int .u64 18442240474082181120,.int .u64 9218868437227405312]) (by simp [results,Tryz.results58,go_sem,hk0,hk1]) rfl ?_
   exact HFIN.out
theorem es_bounds(i:Int):-1≤es i∧es i≤1:=by unfold es;split<;>(try split)<;>omega
theorem es_zero{i:Int}(h:es i=0):i≠M∧i≠-(M:Int):=by
 unfold es at h
 split at h
 ·cases h
 ·split at h
  ·cases h
  ·exact⟨by assumption,by assumption⟩
theorem ex_zero{i:Int}(h:es i=0):ex i=fl i:=by unfold ex;rw [if_pos h]
theorem ex_inf{i:Int}(h:es i≠0):ex i=0:=by unfold ex;rw [if_neg h]
theorem least_lo{i k:Int}(h0:-(M:Int)≤i)(h1:i<M)(h2:es i=0→Rnd (-1) (ex i) k)(h3:es i≠0→k=-(M:Int)):k=i:=by
 by_cases h:es i=0
 ·have h4:=h2 h;rw [ex_zero h] at h4;have:=es_zero h
  exact h4.exact (by omega) h1
 ·rw [h3 h];unfold es at h;rw [if_neg (by omega)] at h
  by_cases hc:i=-(M:Int)
  ·exact hc.symm
  ·rw [if_neg hc] at h;exact absurd rfl h
theorem least_hi{i k:Int}(h0:-(M:Int)<i)(h1:i≤M)(h2:es i=0→Rnd 1 (ex i) k)(h3:es i≠0→k=M):k=i:=by
 by_cases h:es i=0
 ·have h4:=h2 h;rw [ex_zero h] at h4;have:=es_zero h
  exact h4.exact h0 (by omega)
 ·rw [h3 h];unfold es at h
  by_cases hc:i=M
  ·exact hc.symm
  ·rw [if_neg hc,if_neg (by omega)] at h;exact absurd rfl h
end Go.Proofs.YtfcpabgampebaaaGreat
