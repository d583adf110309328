/-
Walks: package vergeref6, intervals of patterns.
Walks: package vergeref6, Read.
Walks: package vergeref2, RNeg of what is below nought.
Walks: package vergeref6, ends.
Plain: lengths and values of signed naturals; cells that are no words beside words.
Walks: package vergeref2, RAdd.
Walks: package vergeref6, ends held against each other.
Walks: package vergeref6, sets.
Walks: package vergeref6, intervals as sets.
Walks: package vergeref6, sets: negatives, hulls.
Walks: package vergeref10, bounds and pieces.
-/
import Derived.Test.YthlmlmfebpjgdaaGreatDoorPMinusT
import Derived.Test.YthlmlmfebpjgdaaGreatDoorM03
import Derived.Test.YthlmlmfebpjgdaaGreatDoorM02
import Derived.Test.YthlmlmfebpjgdaaGreatDoorM01
set_option linter.unusedSimpArgs false
set_option linter.unusedVariables false
set_option maxHeartbeats 12800000
namespace Go.Proofs.YthlmlmfebpjgdaaGreatDoor
open Go.RowKit
theorem empty6(w:World):
  Calls Tryz.prog 107 #[] w fun e w'=>e=.returned (.agg #[.int .u64 9218868437227405312,.int .u64 18442240474082181120])∧Below w.heap.size w w':=by
 have hb:=Hd fun cs=>below_alloc w (.cells cs 24)
 go_enter Tryz.func107,Tryz.ntmps107
 go_wp2;refine bodyPost_ret (v:=.agg #[.int .u64 9218868437227405312,.int .u64 18442240474082181120]) (by simp [results,Tryz.results107,go_sem]) rfl ?_
 exact⟨rfl,hb.out _⟩
theorem sound6(x y:Nat)(w:World)(hx:x<18446744073709551616)(hy:y<18446744073709551616):
  Calls Tryz.prog 143 #[.agg #[.int .u64 (x:Int),.int .u64 (y:Int)]] w fun e w'=>e=.returned (.bool (snd x y))∧Below w.heap.size w w':=by
 have hb:=Hd (below_alloc w (.cells #[.int .u64 (x:Int),.int .u64 (y:Int)] 24));have H1:=Hd fun W=>isnan_any x W hx;have H2:=Hd fun W=>isnan_any y W hy;have H3:=Hd fun W=>above_any x y W hx hy
 obtain⟨s,hs⟩:∃ s,snd x y=s:=⟨_,rfl⟩
 rw [hs]
 by_cases h1:M<rungOf x
 ·rw [decide_eq_true h1] at H1
  have h0:s=false:=by rw [← hs];exact decide_eq_false (by omega)
  subst h0;clear h1 hs
  go_enter Tryz.func143,Tryz.ntmps143
  go_wp2_with fail;refine (H1.out _).mono ?_;rintro e w1 ⟨rfl,k,rfl⟩;go_wp2
  go_ret
  exact⟨rfl,below_drewN hb.out k⟩
 ·rw [decide_eq_false h1] at H1
  by_cases h2:M<rungOf y
  ·rw [decide_eq_true h2] at H2
   have h0:s=false:=by rw [← hs];exact decide_eq_false (by omega)
   subst h0;clear h1 h2 hs
   go_enter Tryz.func143,Tryz.ntmps143
   go_wp2_with fail;refine (H1.out _).mono ?_;rintro e w1 ⟨rfl,k,rfl⟩;go_wp2_with fail;refine (H2.out _).mono ?_;rintro e w1 ⟨rfl,k2,rfl⟩;go_wp2
   go_ret
   exact⟨rfl,below_drewN hb.out _⟩
  ·rw [decide_eq_false h2] at H2
   by_cases h3:idx y<idx x
   ·rw [decide_eq_true (show rungOf x≤M∧rungOf y≤M∧idx y<idx x from⟨by omega,by omega,h3⟩)] at H3
    have h0:s=false:=by rw [← hs];exact decide_eq_false (by omega)
    subst h0;clear h1 h2 h3 hs
    go_enter Tryz.func143,Tryz.ntmps143
    go_wp2_with fail;refine (H1.out _).mono ?_;rintro e w1 ⟨rfl,k,rfl⟩;go_wp2_with fail;refine (H2.out _).mono ?_;rintro e w1 ⟨rfl,k2,rfl⟩;go_wp2_with fail;refine (H3.out _).mono ?_;rintro e w1 ⟨rfl,k3,rfl⟩;go_wp2
    go_ret
    exact⟨rfl,below_drewN hb.out _⟩
   ·rw [decide_eq_false (show ¬ (rungOf x≤M∧rungOf y≤M∧idx y<idx x) from fun h=>h3 h.2.2)] at H3;have c1:=pat_cases hx;have c2:=pat_cases hy
    have h0:s=((!((x:Int) == 9218868437227405312)) && (!((y:Int) == 18442240474082181120))):=by
     rw [← hs];unfold snd;rw [M_val] at *;rw [Bool.eq_iff_iff]
     simp only [decide_eq_true_eq,Bool.and_eq_true,Bool.not_eq_true',beq_eq_false_iff_ne,ne_eq]
     omega
    have HS:=Hd h0;clear h1 h2 h3 hs c1 c2 h0
    by_cases h4:x=9218868437227405312
    ·subst h4
     go_enter Tryz.func143,Tryz.ntmps143
     go_wp2_with fail;refine (H1.out _).mono ?_;rintro e w1 ⟨rfl,k,rfl⟩;go_wp2_with fail;refine (H2.out _).mono ?_;rintro e w1 ⟨rfl,k2,rfl⟩;go_wp2_with fail;refine (H3.out _).mono ?_;rintro e w1 ⟨rfl,k3,rfl⟩;go_wp2
     go_ret
     exact⟨ret_bool HS.out.symm,below_drewN hb.out _⟩
    ·have h5:((x:Int) == 9218868437227405312)=false:=by simp;omega
     rw [h5] at HS
     have h6:((x:Int) != 9218868437227405312)=true:=by simp;omega
     have HS2:=Hd (show s=((y:Int) != 18442240474082181120) from by rw [HS.out];rfl);clear h4 h5 HS
     go_enter Tryz.func143,Tryz.ntmps143
     go_wp2_with fail;refine (H1.out _).mono ?_;rintro e w1 ⟨rfl,k,rfl⟩;go_wp2_with fail;refine (H2.out _).mono ?_;rintro e w1 ⟨rfl,k2,rfl⟩;go_wp2_with fail;refine (H3.out _).mono ?_;rintro e w1 ⟨rfl,k3,rfl⟩;go_wp2
     go_ret
     exact⟨ret_bool HS2.out.symm,below_drewN hb.out _⟩
theorem plain_b(b:Nat)(w:World)(hb:b<18446744073709551616):
  Calls Tryz.prog 175 #[.int .u64 (b:Int)] w fun e w'=>e=.returned (.int .u64 (pl b:Int))∧Below w.heap.size w w':=
 (plain_any b w hb).mono (by rintro e w' ⟨h,k,rfl⟩;exact⟨h,below_drewN (Below.refl _ _) k⟩)
theorem read6(x y:Nat)(w:World)(hx:x<18446744073709551616)(hy:y<18446744073709551616):
  Calls Tryz.prog 106 #[.agg #[.int .u64 (x:Int),.int .u64 (y:Int)]] w fun e w'=>e=.returned (.agg #[.int .u64 (pat (rd x y).1:Int),.int .u64 (pat (rd x y).2:Int)])∧Below w.heap.size w w':=by
 have ba:Below w.heap.size w ((w.alloc (.cells #[.int .u64 (x:Int),.int .u64 (y:Int)] 24)).alloc (.cells #[.int .u64 0,.int .u64 0] 24)):=(below_alloc w _).alloc (by simp) _;have HS:=Hd fun W=>sound6 x y W hx hy;have g1:=(Blk.new w 24 #[.int .u64 (x:Int),.int .u64 (y:Int)]).alloc (.cells #[.int .u64 0,.int .u64 0] 24);have g2:=Blk.new2 w (.cells #[.int .u64 (x:Int),.int .u64 (y:Int)] 24) 24 #[.int .u64 0,.int .u64 0];have G1:=Hd g1;have G2:=Hd g2;have BA:=Hd ba;clear g1 g2 ba
 obtain⟨s,hs⟩:∃ s,snd x y=s:=⟨_,rfl⟩
 rw [hs] at HS;unfold rd;rw [hs]
 cases s
 ·simp only [Bool.false_eq_true,if_false]
  rw [pat_max,pat_min];clear hs;have HE:=Hd empty6
  go_enter Tryz.func106,Tryz.ntmps106
  go_wp2_with fail;refine (HS.out _).mono ?_;rintro e w1 ⟨rfl,hb1⟩;have B1:=Hd (BA.out.trans (hb1.mono BA.out.size));have K1:=Hd (HasBlk.of (n:=2) (G2.out.keep hb1) rfl rfl);clear hb1;go_wp2_with fail;refine (HE.out _).mono ?_;rintro e w2 ⟨rfl,hb2⟩;have B2:=Hd (B1.out.trans (hb2.mono B1.out.size));have K2:=Hd (K1.out.keep hb2);clear hb2;obtain⟨cs,hblk,hsz,hnw⟩:=K2.out;have c0:=hblk.someCell (j:=0) (by omega);have c1:=hblk.someCell (j:=1) (by omega);have f0:=hblk.frozen 0;have f1:=hblk.frozen 1;have k0:=sets_cell hblk [.int .u64 9218868437227405312,.int .u64 18442240474082181120] 0 (by decide) (by simp;omega);have k1:=sets_cell hblk [.int .u64 9218868437227405312,.int .u64 18442240474082181120] 1 (by decide) (by simp;omega);have F:=Hd (below_sets (w0:=w) (r:=w.heap.size+1) (by omega) [.int .u64 9218868437227405312,.int .u64 18442240474082181120] 0 _ B2.out)
  simp [sets] at k0 k1
  clear hblk hsz hnw;go_wp2;refine bodyPost_ret (v:=.agg #[.int .u64 9218868437227405312,.int .u64 18442240474082181120]) (by simp [results,Tryz.results106,go_sem,k0,k1]) rfl ?_
  exact⟨rfl,F.out⟩
 ·simp only [if_true]
  have hd:=of_decide_eq_true hs;rw [← pl_real hx hd.1,← pl_real hy hd.2.1];clear hs hd;have P1:=Hd fun W=>plain_b x W hx;have P2:=Hd fun W=>plain_b y W hy
  go_enter Tryz.func106,Tryz.ntmps106
  go_wp2_with fail;refine (HS.out _).mono ?_;rintro e w1 ⟨rfl,hb1⟩
  have g0:Blk w1.drew w.heap.size 24 #[.int .u64 (x:Int),.int .u64 (y:Int)]∧HasBlk w1.drew (w.heap.size+1) 24 2∧Below w.heap.size w w1.drew:=⟨G1.out.keep hb1.drew,HasBlk.of (G2.out.keep hb1.drew) rfl rfl,(BA.out.trans (hb1.mono BA.out.size)).drew⟩
  clear hb1;go_wp2_with fail;refine wp_region_held_drew (S:=fun W'=>Blk W' w.heap.size 24 #[.int .u64 (x:Int),.int .u64 (y:Int)]∧HasBlk W' (w.heap.size+1) 24 2∧Below w.heap.size w W') (by kernel_rfl) (g0) (fun hHeld=>?_);refine tk 0 ?_;(try simp only [Act.put,List.setIfInBounds_toArray,List.set_cons_zero,List.set_cons_succ]);refine tk 1 ?_ (hv:=by intro W2 hSw;have q:=hSw.1.cell 0;have q1:=hSw.1.cell 1;simp at q q1;go_simp;(try with_reducible rfl));(try simp only [Act.put,List.setIfInBounds_toArray,List.set_cons_zero,List.set_cons_succ]);refine tk 3 ?_;(try simp only [Act.put,List.setIfInBounds_toArray,List.set_cons_zero,List.set_cons_succ]);refine tk 4 ?_ (hv:=by intro W2 hSw;have q:=hSw.1.cell 0;have q1:=hSw.1.cell 1;simp at q q1;go_simp;(try with_reducible rfl));(try simp only [Act.put,List.setIfInBounds_toArray,List.set_cons_zero,List.set_cons_succ]);refine rdy 2 (fun KK hKK=>?_);go_simp;refine (P1.out _).mono ?_;rintro e w2 ⟨rfl,hb2⟩;go_wp2_with fail;refine hKK.out _ _ (⟨hHeld.1.keep hb2,hHeld.2.1.keep hb2,hHeld.2.2.trans (hb2.mono hHeld.2.2.size)⟩) (fun _=>?_);clear hKK KK hHeld;rename_i hHeld;(try simp only [Act.put,List.setIfInBounds_toArray,List.set_cons_zero,List.set_cons_succ]);refine rdy 5 (fun KK hKK=>?_);go_simp;refine (P2.out _).mono ?_;rintro e w3 ⟨rfl,hb3⟩;go_wp2_with fail;refine hKK.out _ _ (⟨hHeld.1.keep hb3,hHeld.2.1.keep hb3,hHeld.2.2.trans (hb3.mono hHeld.2.2.size)⟩) (fun _=>?_);clear hKK KK hHeld;rename_i hHeld;(try simp only [Act.put,List.setIfInBounds_toArray,List.set_cons_zero,List.set_cons_succ])
  refine tk 6 ?_;(try simp only [Act.put,List.setIfInBounds_toArray,List.set_cons_zero,List.set_cons_succ]);refine rdy 7 (fun KK hKK=>?_);have c0:=hHeld.2.1.someCell 0 (by decide);have c1:=hHeld.2.1.someCell 1 (by decide);have f0:=hHeld.2.1.frozen 0;have f1:=hHeld.2.1.frozen 1;have HK:=Hd (hHeld.2.1.setCell [.int .u64 (pl x:Int),.int .u64 (pl y:Int)] rfl);have F:=Hd (below_sets (w0:=w) (r:=w.heap.size+1) (by omega) [.int .u64 (pl x:Int),.int .u64 (pl y:Int)] 0 _ hHeld.2.2);go_simp;refine hKK.out _ _ (show _∧_ from⟨hHeld.1.other (by omega) 0 [.int .u64 (pl x:Int),.int .u64 (pl y:Int)],hHeld.2.1.sets [.int .u64 (pl x:Int),.int .u64 (pl y:Int)] rfl rfl,below_sets (by omega) [.int .u64 (pl x:Int),.int .u64 (pl y:Int)] 0 _ hHeld.2.2⟩) (fun _=>?_);clear hKK KK hHeld;rename_i hHeld;(try simp only [Act.put,List.setIfInBounds_toArray,List.set_cons_zero,List.set_cons_succ]);refine wpAnyH_done (by kernel_rfl) ?_ _;have k0:=HK.out 0 (by decide);have k1:=HK.out 1 (by decide)
  simp [sets] at k0 k1
  clear hHeld HK;go_wp2;refine bodyPost_ret (v:=.agg #[.int .u64 (pl x:Int),.int .u64 (pl y:Int)]) (by simp [results,Tryz.results106,go_sem,k0,k1]) rfl ?_
  exact⟨rfl,F.out⟩
def NewEnd(w:World)(K:Nat)(s:Int)(x:Rat)(e:Ending)(w':World):Prop:=
 ∃ neg A n c B m d,e=.returned (.agg #[.int .i64 s,.bool neg,.slice A n c,.slice B m d])∧RatV w' K neg (.slice A n c) (.slice B m d) x∧Below w.heap.size w w'
def NewSet(w:World)(K:Nat)(o:Bool)(s:Int)(x:Rat)(t:Int)(y:Rat)(e:Ending)(w':World):Prop:=
 ∃ neg A n c B m d neg' A' n' c' B' m' d',e=.returned (.agg #[.bool o,.int .i64 s,.bool neg,.slice A n c,.slice B m d,.int .i64 t,.bool neg',.slice A' n' c',.slice B' m' d']) ∧
  RatV w' K neg (.slice A n c) (.slice B m d) x∧RatV w' K neg' (.slice A' n' c') (.slice B' m' d') y∧Below w.heap.size w w'
def NewRatS(w:World)(K:Nat)(x:Rat)(e:Ending)(w':World):Prop:=
 ∃ neg A n c B m d,e=.returned (.agg #[.bool neg,.slice A n c,.slice B m d])∧RatV w' K neg (.slice A n c) (.slice B m d) x∧Below w.heap.size w w'
theorem NewRat.s{w w':World}{K:Nat}{x:Rat}{e:Ending}(h:NewRat w K x e w'):NewRatS w K x e w':=by
 obtain⟨neg,vn,vd,rfl,hr,hb⟩:=h;obtain⟨A,n,c,B,m,d,rfl,rfl⟩:=hr.shape
 exact⟨neg,A,n,c,B,m,d,rfl,hr,hb⟩
def es(i:Int):Int:=if i=M then 1 else if i=-(M:Int) then -1 else 0
def ex(i:Int):Rat:=if es i=0 then fl i else 0
theorem es_max:es M=1:=rfl
theorem es_min:es (-(M:Int))=-1:=by decide
theorem ex_max:ex M=0:=rfl
theorem ex_min:ex (-(M:Int))=0:=by unfold ex;rw [es_min];rfl
theorem es_mid{i:Int}(h:-(M:Int)<i)(h':i<M):es i=0:=by unfold es;rw [if_neg (by omega),if_neg (by omega)]
theorem ex_mid{i:Int}(h:-(M:Int)<i)(h':i<M):ex i=fl i:=by unfold ex;rw [es_mid h h'];rfl
theorem finite_nat(v:Nat)(w:World)(hv:v<4294967296):
  Calls Tryz.prog 153 #[.int .i64 (v:Int)] w (NewEnd w 1 0 (v:Rat)):=by
 have hs:∀ W,Calls Tryz.prog 51 #[.int .i64 (v:Int)] W (NewRatS W 1 (v:Rat)):=fun W=>(int_nat v W hv).mono fun _ _ h=>h.s;have HS:=Hd hs;clear hs;obtain⟨LB0,LR⟩:=bx1 w #[.int .i64 0,.bool false,.slice none 0 0,.slice none 0 0] 87;have LR0:=Hd (HasBlk.of (n:=4) LR.out rfl rfl);clear LR
 go_enter Tryz.func153,Tryz.ntmps153
 go_wp2_with fail;refine (HS.out _).mono ?_;rintro e w1 ⟨neg,A5,n5,c5,A6,n6,c6,rfl,hr,hb1⟩;have LB1:=stB LB0 hb1 LB0.out.size;have LR1:=stR LR0 hb1;clear LB0 LR0;obtain⟨ha0,hf0,ha1,hf1,ha2,hf2,ha3,hf3⟩:=LR1.out.sf4;obtain⟨hk0,hk1,hk2,hk3⟩:=LR1.out.sc4 (.int .i64 0) (.bool neg) (.slice A5 n5 c5) (.slice A6 n6 c6);have F:=Hd (below_sets (w0:=w) (r:=w.heap.size) (by omega) [.int .i64 0,.bool neg,.slice A5 n5 c5,.slice A6 n6 c6] 0 _ LB1.out)
 simp [sets] at hk0 hk1 hk2 hk3
 have FR:=Hd (LR1.out.rat hr [.int .i64 0,.bool neg,.slice A5 n5 c5,.slice A6 n6 c6]);clear hr hb1 LR1 LB1;go_wp2;refine bodyPost_ret (v:=.agg #[.int .i64 0,.bool neg,.slice A5 n5 c5,.slice A6 n6 c6]) (by simp [results,Tryz.results153,go_sem,hk0,hk1,hk2,hk3]) rfl ?_
 exact⟨neg,_,_,_,_,_,_,rfl,FR.out,F.out⟩
theorem RatV.k34{w:World}{neg:Bool}{vn vd:Value}{x:Rat}(h:RatV w 1 neg vn vd x):RatV w 34 neg vn vd x:=h.mono (by decide)
theorem bound_raw(b:Nat)(w:World)(hb:b<18446744073709551616)(hr:rungOf b≤M):
  Calls Tryz.prog 156 #[.int .u64 (b:Int)] w (NewEnd w 34 (es (idx b)) (ex (idx b))):=by
 have hs:∀ W,Calls Tryz.prog 51 #[.int .i64 0] W (NewRatS W 1 0):=fun W=>(int_nat 0 W (by omega)).mono fun _ _ h=>h.s;have HS:=Hd hs;clear hs;have hc:=pat_cases hb;rw [M_val] at hr
 by_cases h1:b=9218868437227405312
 ·subst h1;rw [show idx 9218868437227405312=(M:Int) from by rw [M_val];omega,es_max,ex_max];clear hc hr;obtain⟨LB0,LR⟩:=bx1 w #[.int .i64 0,.bool false,.slice none 0 0,.slice none 0 0] 87;have LR0:=Hd (HasBlk.of (n:=4) LR.out rfl rfl);clear LR
  go_enter Tryz.func156,Tryz.ntmps156
  go_wp2_with fail;refine (HS.out _).mono ?_;rintro e w1 ⟨neg,A5,n5,c5,A6,n6,c6,rfl,hr,hb1⟩;have LB1:=stB LB0 hb1 LB0.out.size;have LR1:=stR LR0 hb1;clear LB0 LR0;obtain⟨ha0,hf0,ha1,hf1,ha2,hf2,ha3,hf3⟩:=LR1.out.sf4;obtain⟨hk0,hk1,hk2,hk3⟩:=LR1.out.sc4 (.int .i64 1) (.bool neg) (.slice A5 n5 c5) (.slice A6 n6 c6);have F:=Hd (below_sets (w0:=w) (r:=w.heap.size) (by omega) [.int .i64 1,.bool neg,.slice A5 n5 c5,.slice A6 n6 c6] 0 _ LB1.out)
  simp [sets] at hk0 hk1 hk2 hk3
  have FR:=Hd (LR1.out.rat hr [.int .i64 1,.bool neg,.slice A5 n5 c5,.slice A6 n6 c6]);clear hr hb1 LR1 LB1;go_wp2;refine bodyPost_ret (v:=.agg #[.int .i64 1,.bool neg,.slice A5 n5 c5,.slice A6 n6 c6]) (by simp [results,Tryz.results156,go_sem,hk0,hk1,hk2,hk3]) rfl ?_
  exact⟨neg,_,_,_,_,_,_,rfl,FR.out.k34,F.out⟩
 ·by_cases h2:b=18442240474082181120
  ·subst h2;rw [show idx 18442240474082181120=-(M:Int) from by rw [M_val];omega,es_min,ex_min];clear hc hr h1;obtain⟨LB0,LR⟩:=bx1 w #[.int .i64 0,.bool false,.slice none 0 0,.slice none 0 0] 87;have LR0:=Hd (HasBlk.of (n:=4) LR.out rfl rfl);clear LR
   go_enter Tryz.func156,Tryz.ntmps156
   go_wp2_with fail;refine (HS.out _).mono ?_;rintro e w1 ⟨neg,A5,n5,c5,A6,n6,c6,rfl,hr,hb1⟩;have LB1:=stB LB0 hb1 LB0.out.size;have LR1:=stR LR0 hb1;clear LB0 LR0;obtain⟨ha0,hf0,ha1,hf1,ha2,hf2,ha3,hf3⟩:=LR1.out.sf4;obtain⟨hk0,hk1,hk2,hk3⟩:=LR1.out.sc4 (.int .i64 (-1)) (.bool neg) (.slice A5 n5 c5) (.slice A6 n6 c6);have F:=Hd (below_sets (w0:=w) (r:=w.heap.size) (by omega) [.int .i64 (-1),.bool neg,.slice A5 n5 c5,.slice A6 n6 c6] 0 _ LB1.out)
   simp [sets] at hk0 hk1 hk2 hk3
   have FR:=Hd (LR1.out.rat hr [.int .i64 (-1),.bool neg,.slice A5 n5 c5,.slice A6 n6 c6]);clear hr hb1 LR1 LB1;go_wp2;refine bodyPost_ret (v:=.agg #[.int .i64 (-1),.bool neg,.slice A5 n5 c5,.slice A6 n6 c6]) (by simp [results,Tryz.results156,go_sem,hk0,hk1,hk2,hk3]) rfl ?_
   exact⟨neg,_,_,_,_,_,_,rfl,FR.out.k34,F.out⟩
  ·have e1:((b:Int) == 9218868437227405312)=false:=by simp;omega
   have e2:((b:Int) == 18442240474082181120)=false:=by simp;omega
   have hi:-(M:Int)<idx b∧idx b<M:=by rw [M_val];omega
   have hpl:pl b=pat (idx b):=pl_real hb (by rw [M_val];omega)
   have hf:fin (pat (idx b)):=by
    show rungOf _<M
    rw [rung_pat (by omega) (by omega)];omega
   have HP:=Hd fun W=>plain_b b W hb;have HF:=Hd fun W=>(frombits_any (pat (idx b)) W (pat_lt (by omega) (by omega)) hf).mono fun _ _ h=>h.s;rw [idx_pat (by omega) (by omega)] at HF;rw [hpl] at HP;rw [es_mid hi.1 hi.2,ex_mid hi.1 hi.2];clear hc hr h1 h2 hpl hf hi;obtain⟨LB0,LR⟩:=bx1 w #[.int .i64 0,.bool false,.slice none 0 0,.slice none 0 0] 87;have LR0:=Hd (HasBlk.of (n:=4) LR.out rfl rfl);clear LR
   go_enter Tryz.func156,Tryz.ntmps156
   go_wp2_with fail;refine (HP.out _).mono ?_;rintro e w1 ⟨rfl,hb1⟩;have LB1:=stB LB0 hb1 LB0.out.size;have LR1:=stR LR0 hb1;clear LB0 LR0;go_wp2_with fail;refine (HF.out _).mono ?_;rintro e w2 ⟨neg,A5,n5,c5,A6,n6,c6,rfl,hr,hb2⟩;have LB2:=stB LB1 hb2 LB1.out.size;have LR2:=stR LR1 hb2;clear LB1 LR1;obtain⟨ha0,hf0,ha1,hf1,ha2,hf2,ha3,hf3⟩:=LR2.out.sf4;obtain⟨hk0,hk1,hk2,hk3⟩:=LR2.out.sc4 (.int .i64 0) (.bool neg) (.slice A5 n5 c5) (.slice A6 n6 c6);have F:=Hd (below_sets (w0:=w) (r:=w.heap.size) (by omega) [.int .i64 0,.bool neg,.slice A5 n5 c5,.slice A6 n6 c6] 0 _ LB2.out)
   simp [sets] at hk0 hk1 hk2 hk3
   have FR:=Hd (LR2.out.rat hr [.int .i64 0,.bool neg,.slice A5 n5 c5,.slice A6 n6 c6]);clear hr hb1 hb2 LR2 LB2;go_wp2;refine bodyPost_ret (v:=.agg #[.int .i64 0,.bool neg,.slice A5 n5 c5,.slice A6 n6 c6]) (by simp [results,Tryz.results156,go_sem,hk0,hk1,hk2,hk3]) rfl ?_
   exact⟨neg,_,_,_,_,_,_,rfl,FR.out,F.out⟩
theorem digs_len_pos{S:Nat}(h:0<S){n:Nat}(hl:(digs S).length=n):0<n:=by
 rcases Nat.eq_zero_or_pos n with h0 | h0
 ·rw [h0,digs_length_eq_zero] at hl;omega
 ·exact h0
theorem U32s.carry{W:World}{g:Nat}{t:TypeId}{cs:Array Value}{A:Option Addr}{n c:Nat}{xs:List Nat}(h:U32s W A n c xs)(hb:Blk W g t cs)(hc:cs.toList.all notWd=true)(i:Nat)(v:Value):U32s (W.setCell ⟨g,i,none⟩ v) A n c xs:=
 h.sets hb (NoWd.of (by rw [← Array.all_toList];exact hc)) i [v]
theorem wlen_digs_le{S K:Nat}(h:blen S≤32*K):wlen (digs S)≤K:=by
 rw [wlen_digs];exact digs_length_le (blen_le_iff.1 h)
theorem blen_shl(S k:Nat)(h:0<S):blen (S*2^k)=blen S+k:=by
 have h1:=blen_high (hi:=S) (lo:=0) (k:=k) h (Nat.two_pow_pos k);rw [Nat.zero_add,Nat.mul_comm] at h1;rw [h1,Nat.add_comm]
def dsum(n1:Bool)(S1:Nat)(n2:Bool)(T2:Nat):Bool × Nat:=if n1=n2 then (n1,S1+T2) else if S1<T2 then (n2,T2 - S1) else (n1,S1 - T2)
theorem rv_int(n:Bool)(S:Nat):rv n S 1=((if n then -(S:Int) else (S:Int):Int):Rat):=by
 unfold rv
 cases n
 ·simp [Rat.div_def]
  rw [Rat.intCast_natCast];grind
 ·simp [Rat.div_def]
  rw [Rat.intCast_natCast];grind
theorem dsum_val(n1:Bool)(S1:Nat)(n2:Bool)(T2:Nat):rv (dsum n1 S1 n2 T2).1 (dsum n1 S1 n2 T2).2 1=rv n1 S1 1+rv n2 T2 1:=by
 rw [rv_int,rv_int,rv_int,← Rat.intCast_add]
 congr 1
 unfold dsum
 by_cases h:n1=n2
 ·subst h;rw [if_pos rfl]
  cases n1<;>simp<;>omega
 ·rw [if_neg h]
  by_cases hlt:S1<T2
  ·rw [if_pos hlt]
   cases n1<;>cases n2<;>simp at h ⊢<;>omega
  ·rw [if_neg hlt]
   cases n1<;>cases n2<;>simp at h ⊢<;>omega
theorem rv_shift(n:Bool)(S k:Nat)(a b:Int)(h:b=a+k):rv n (S*2^k) 1*2^a=rv n S 1*2^b:=by
 rw [h,zpow_add,zpow_nat,rv_int,rv_int]
 cases n
 ·simp only [Bool.false_eq_true,if_false]
  rw [Rat.intCast_natCast,Rat.intCast_natCast,Rat.natCast_mul];grind
 ·simp only [if_true]
  rw [Rat.intCast_neg,Rat.intCast_neg,Rat.intCast_natCast,Rat.intCast_natCast,Rat.natCast_mul];grind
theorem blen_mono{a b:Nat}(h:a≤b):blen a≤blen b:=blen_le_iff.2 (Nat.lt_of_le_of_lt h (lt_pow_blen b))
theorem dsum_blen(n1:Bool)(S1:Nat)(n2:Bool)(T2 P:Nat)(h1:blen S1≤P)(h2:blen T2≤P):blen (dsum n1 S1 n2 T2).2≤P+1:=by
 have a1:=blen_le_iff.1 h1;have a2:=blen_le_iff.1 h2;refine blen_le_iff.2 ?_;rw [Nat.pow_succ];unfold dsum
 split
 ·dsimp only;omega
 ·split<;>(dsimp only;omega)
theorem wlen_blen{S:Nat}(h:blen S≤524288):wlen (digs S)≤16384:=wlen_digs_le (K:=16384) (by omega)
theorem HasBlk.u32s{W:World}{r:Nat}{t:TypeId}{n0:Nat}{A:Option Addr}{n c:Nat}{xs:List Nat}(h:HasBlk W r t n0)(hu:U32s W A n c xs)(vs:List Value):U32s (Proofs.YthlmlmfebpjgdaaGreatDoor.sets W r 0 vs) A n c xs:=by
 obtain⟨cs,h1,h2,h3⟩:=h
 exact hu.sets h1 h3 0 vs
theorem rv_over(n:Bool)(a D:Nat):rv n a D=rv n a 1*(D:Rat)⁻¹:=by
 unfold rv
 cases n<;>simp [Rat.div_def]<;>grind
theorem rv_add(n1:Bool)(p1 q1:Nat)(n2:Bool)(p2 q2:Nat)(h1:0<q1)(h2:0<q2):
  rv n1 p1 q1+rv n2 p2 q2=rv (dsum n1 (p1*q2) n2 (p2*q1)).1 (dsum n1 (p1*q2) n2 (p2*q1)).2 (q1*q2):=by
 have e1:rv n1 p1 q1=rv n1 (p1*q2) (q1*q2):=rv_eq h1 (Nat.mul_pos h1 h2) (by ac_rfl);have e2:rv n2 p2 q2=rv n2 (p2*q1) (q1*q2):=rv_eq h2 (Nat.mul_pos h1 h2) (by ac_rfl);rw [e1,e2,rv_over,rv_over n2,rv_over (dsum n1 (p1*q2) n2 (p2*q1)).1,dsum_val]
 grind
theorem plus_v(A B:Option Addr)(n c m d a b:Nat)(w:World)(hx:U32s w A n c (digs a))(hy:U32s w B m d (digs b))(hs1:n≤8589934592)(hs2:m≤8589934592):
  Calls Tryz.prog 97 #[.slice A n c,.slice B m d] w (NewU32 w (digs (a+b))):=by
 have h:=plus_any A B n c m d _ _ w hx hy (by omega) (by omega);rw [num_digs,num_digs] at h;exact h
theorem minus_v(A B:Option Addr)(n c m d a b:Nat)(w:World)(hx:U32s w A n c (digs a))(hy:U32s w B m d (digs b))(hs1:n≤8589934592)(hle:b≤a):
  Calls Tryz.prog 99 #[.slice A n c,.slice B m d] w (NewU32 w (digs (a - b))):=by
 have h:=nminus_any A B n c m d _ _ w hx hy (by omega) (by rw [num_digs,num_digs];exact hle);rw [num_digs,num_digs] at h;exact h
theorem cmp_w(A B:Option Addr)(n c m d a b:Nat)(w:World)(hx:U32s w A n c (digs a))(hy:U32s w B m d (digs b)):
  Calls Tryz.prog 98 #[.slice A n c,.slice B m d] w fun e w'=>e=.returned (.int .i64 (cmp3 a b))∧Below w.heap.size w w':=by
 have h:=cmp_any A B n c m d _ _ w hx hy;rw [num_digs,num_digs] at h;refine h.mono ?_;rintro e w' ⟨rfl,k,rfl⟩
 exact⟨rfl,below_drewN (Below.refl _ _) k⟩
def ec(s:Int)(x:Rat)(t:Int)(y:Rat):Int:=if s=t then (if s=0 then rc x y else 0) else if s<t then -1 else 1
theorem ec_lt{s t:Int}(x y:Rat)(h:s<t):ec s x t y=-1:=by unfold ec;rw [if_neg (by omega),if_pos h]
theorem ec_gt{s t:Int}(x y:Rat)(h:t<s):ec s x t y=1:=by unfold ec;rw [if_neg (by omega),if_neg (by omega)]
theorem ec_inf{s t:Int}(x y:Rat)(h:s=t)(h0:s≠0):ec s x t y=0:=by unfold ec;rw [if_pos h,if_neg h0]
theorem ec_zero(x y:Rat):ec 0 x 0 y=rc x y:=by unfold ec;rw [if_pos rfl,if_pos rfl]
theorem pat_ne_max{i:Int}(h0:-(M:Int)≤i)(h1:i<M):((pat i:Int) == 9218868437227405312)=false:=by
 rw [beq_eq_false_iff_ne];intro h;have:=pat_inj h0 (by omega) (show -(M:Int)≤(M:Int) by rw [M_val];omega) (Int.le_refl _) (by rw [pat_max];omega)
 omega
theorem of_none(x y:Nat)(w:World)(hx:x<18446744073709551616)(hy:y<18446744073709551616)(h:snd x y=false):
  Calls Tryz.prog 83 #[.agg #[.int .u64 (x:Int),.int .u64 (y:Int)]] w (NewSet w 1 true 0 0 0 0):=by
 have h1:rd x y=((M:Int),-(M:Int)):=by unfold rd;rw [h];rfl
 have HR:=Hd fun W=>read6 x y W hx hy;rw [h1] at HR
 simp only [pat_max,pat_min] at HR
 have HE:=Hd empty6;have HF:=Hd fun W=>finite_nat 0 W (by omega);clear h h1;obtain⟨LB0,LG0_0,LR⟩:=bx2 w #[.int .u64 (x:Int),.int .u64 (y:Int)] 24 #[.bool false,.int .i64 0,.bool false,.slice none 0 0,.slice none 0 0,.int .i64 0,.bool false,.slice none 0 0,.slice none 0 0] 89;have LR0:=Hd (HasBlk.of (n:=9) LR.out rfl rfl);clear LR
 go_enter Tryz.func83,Tryz.ntmps83
 go_wp2_with fail;refine (HR.out _).mono ?_;rintro e w1 ⟨rfl,hb1⟩;have LB1:=stB LB0 hb1 LB0.out.size;have LR1:=stR LR0 hb1;have LG0_1:=stG LG0_0 hb1;clear LB0 LR0 LG0_0;have hlt2:=LR1.out.lt;have LB2:=Hd (LB1.out.alloc LB1.out.size (.cells #[.int .u64 9218868437227405312,.int .u64 18442240474082181120] 24));have LR2:=Hd (LR1.out.alloc (.cells #[.int .u64 9218868437227405312,.int .u64 18442240474082181120] 24));have LG0_2:=Hd (LG0_1.out.alloc (.cells #[.int .u64 9218868437227405312,.int .u64 18442240474082181120] 24));have LG1_2:=Hd (Blk.new w1 24 #[.int .u64 9218868437227405312,.int .u64 18442240474082181120]);clear LB1 LR1 LG0_1;go_wp2_with fail;refine wp_region_held_drew (S:=fun W'=>Blk W' w.heap.size 24 #[.int .u64 (x:Int),.int .u64 (y:Int)]∧Blk W' w1.heap.size 24 #[.int .u64 9218868437227405312,.int .u64 18442240474082181120]∧HasBlk W' (w.heap.size+1) 89 9∧Below w.heap.size w W') (by kernel_rfl) (by exact⟨LG0_2.out.drew,LG1_2.out.drew,LR2.out.drew,LB2.out.drew⟩) (fun hHeld=>?_);refine tk 0 ?_ (hv:=by intro W2 hSw;obtain⟨q0,q1⟩:=hSw.2.1.c2;go_simp;(try with_reducible rfl));(try simp only [Act.put,lay]);refine rdy 1 (fun KK hKK=>?_);go_simp;refine (HE.out _).mono ?_;rintro e w2 ⟨rfl,hb2⟩;go_wp2_with fail;refine hKK.out _ _ (⟨hHeld.1.keep hb2,hHeld.2.1.keep hb2,hHeld.2.2.1.keep hb2,hHeld.2.2.2.trans (hb2.mono hHeld.2.2.2.size)⟩) (fun _=>?_);clear hKK KK hHeld;rename_i hHeld;(try simp only [Act.put,lay]);refine tk 2 ?_;(try simp only [Act.put,lay]);refine wpAnyH_done (by kernel_rfl) ?_ _
 have LB3:=Hd hHeld.2.2.2;have LR3:=Hd hHeld.2.2.1;have LG0_3:=Hd hHeld.1;have LG1_3:=Hd hHeld.2.1;clear hHeld LB2 LR2 LG0_2 LG1_2;go_wp2_with fail;refine (HF.out _).mono ?_;rintro e w3 ⟨g1,A1,n1,c1,B1,m1,d1,rfl,h1,hb1⟩;have LB4:=stB LB3 hb1 LB3.out.size;have LR4:=stR LR3 hb1;have LG0_4:=stG LG0_3 hb1;have LG1_4:=stG LG1_3 hb1;clear LB3 LR3 LG0_3 LG1_3;go_wp2_with fail;refine (HF.out _).mono ?_;rintro e w4 ⟨g2,A2,n2,c2,B2,m2,d2,rfl,h2,hb2⟩;have LB5:=stB LB4 hb2 LB4.out.size;have LR5:=stR LR4 hb2;have LG0_5:=stG LG0_4 hb2;have LG1_5:=stG LG1_4 hb2;clear LB4 LR4 LG0_4 LG1_4;obtain⟨ha0,hf0,ha1,hf1,ha2,hf2,ha3,hf3,ha4,hf4,ha5,hf5,ha6,hf6,ha7,hf7,ha8,hf8⟩:=LR5.out.sf9;obtain⟨hk0,hk1,hk2,hk3,hk4,hk5,hk6,hk7,hk8⟩:=LR5.out.sc9 (.bool true) (.int .i64 0) (.bool g1) (.slice A1 n1 c1) (.slice B1 m1 d1) (.int .i64 0) (.bool g2) (.slice A2 n2 c2) (.slice B2 m2 d2);have F:=Hd (below_sets (w0:=w) (r:=(w.heap.size+1)) (by omega) [.bool true,.int .i64 0,.bool g1,.slice A1 n1 c1,.slice B1 m1 d1,.int .i64 0,.bool g2,.slice A2 n2 c2,.slice B2 m2 d2] 0 _ LB5.out)
 simp [sets] at hk0 hk1 hk2 hk3 hk4 hk5 hk6 hk7 hk8
 have FR1:=Hd (LR5.out.rat (h1.below hb2) [.bool true,.int .i64 0,.bool g1,.slice A1 n1 c1,.slice B1 m1 d1,.int .i64 0,.bool g2,.slice A2 n2 c2,.slice B2 m2 d2]);have FR2:=Hd (LR5.out.rat h2 [.bool true,.int .i64 0,.bool g1,.slice A1 n1 c1,.slice B1 m1 d1,.int .i64 0,.bool g2,.slice A2 n2 c2,.slice B2 m2 d2]);clear hb1 hb2 h1 h2 LR5 LB5 LG0_5 LG1_5;go_wp2;refine bodyPost_ret (v:=.agg #[.bool true,.int .i64 0,.bool g1,.slice A1 n1 c1,.slice B1 m1 d1,.int .i64 0,.bool g2,.slice A2 n2 c2,.slice B2 m2 d2]) (by simp [results,Tryz.results83,go_sem,hk0,hk1,hk2,hk3,hk4,hk5,hk6,hk7,hk8]) rfl ?_
 exact⟨_,_,_,_,_,_,_,_,_,_,_,_,_,_,rfl,FR1.out,FR2.out,F.out⟩
theorem of_full(x y:Nat)(w:World)(hx:x<18446744073709551616)(hy:y<18446744073709551616)(h:snd x y=true):
  Calls Tryz.prog 83 #[.agg #[.int .u64 (x:Int),.int .u64 (y:Int)]] w (NewSet w 34 false (es (idx x)) (ex (idx x)) (es (idx y)) (ex (idx y))):=by
 have h1:rd x y=(idx x,idx y):=by unfold rd;rw [h];rfl
 have hd:=of_decide_eq_true h;have hi:=idx_bounds hd.1;have hj:=idx_bounds hd.2.1;have HR:=Hd fun W=>read6 x y W hx hy;rw [h1] at HR;have H1:=Hd fun W=>bound_raw (pat (idx x)) W (pat_lt hi.1 hi.2) (by rw [rung_pat hi.1 hi.2];omega);have H2:=Hd fun W=>bound_raw (pat (idx y)) W (pat_lt hj.1 hj.2) (by rw [rung_pat hj.1 hj.2];omega);rw [idx_pat hi.1 hi.2] at H1;rw [idx_pat hj.1 hj.2] at H2;have hp:=pat_ne_max hi.1 hd.2.2.2.1
 dsimp only at HR
 obtain⟨p,hpp⟩:∃ p,pat (idx x)=p:=⟨_,rfl⟩
 obtain⟨q,hqq⟩:∃ q,pat (idx y)=q:=⟨_,rfl⟩
 obtain⟨s1,e1⟩:∃ s,es (idx x)=s:=⟨_,rfl⟩
 obtain⟨x1,e2⟩:∃ s,ex (idx x)=s:=⟨_,rfl⟩
 obtain⟨s2,e3⟩:∃ s,es (idx y)=s:=⟨_,rfl⟩
 obtain⟨x2,e4⟩:∃ s,ex (idx y)=s:=⟨_,rfl⟩
 rw [hpp] at HR H1 hp;rw [hqq] at HR H2;rw [e1,e2] at H1 ⊢;rw [e3,e4] at H2 ⊢;have HE:=Hd empty6;clear h h1 hd hi hj hpp hqq e1 e2 e3 e4;obtain⟨LB0,LG0_0,LR⟩:=bx2 w #[.int .u64 (x:Int),.int .u64 (y:Int)] 24 #[.bool false,.int .i64 0,.bool false,.slice none 0 0,.slice none 0 0,.int .i64 0,.bool false,.slice none 0 0,.slice none 0 0] 89;have LR0:=Hd (HasBlk.of (n:=9) LR.out rfl rfl);clear LR
 go_enter Tryz.func83,Tryz.ntmps83
 go_wp2_with fail;refine (HR.out _).mono ?_;rintro e w1 ⟨rfl,hb1⟩;have LB1:=stB LB0 hb1 LB0.out.size;have LR1:=stR LR0 hb1;have LG0_1:=stG LG0_0 hb1;clear LB0 LR0 LG0_0;have hlt2:=LR1.out.lt;have LB2:=Hd (LB1.out.alloc LB1.out.size (.cells #[.int .u64 (p:Int),.int .u64 (q:Int)] 24));have LR2:=Hd (LR1.out.alloc (.cells #[.int .u64 (p:Int),.int .u64 (q:Int)] 24));have LG0_2:=Hd (LG0_1.out.alloc (.cells #[.int .u64 (p:Int),.int .u64 (q:Int)] 24));have LG1_2:=Hd (Blk.new w1 24 #[.int .u64 (p:Int),.int .u64 (q:Int)]);clear LB1 LR1 LG0_1;go_wp2_with fail;refine wp_region_held_drew (S:=fun W'=>Blk W' w.heap.size 24 #[.int .u64 (x:Int),.int .u64 (y:Int)]∧Blk W' w1.heap.size 24 #[.int .u64 (p:Int),.int .u64 (q:Int)]∧HasBlk W' (w.heap.size+1) 89 9∧Below w.heap.size w W') (by kernel_rfl) (by exact⟨LG0_2.out.drew,LG1_2.out.drew,LR2.out.drew,LB2.out.drew⟩) (fun hHeld=>?_);refine tk 0 ?_ (hv:=by intro W2 hSw;obtain⟨q0,q1⟩:=hSw.2.1.c2;go_simp;(try with_reducible rfl));(try simp only [Act.put,lay]);refine rdy 1 (fun KK hKK=>?_);go_simp;refine (HE.out _).mono ?_;rintro e w2 ⟨rfl,hb2⟩;go_wp2_with fail;refine hKK.out _ _ (⟨hHeld.1.keep hb2,hHeld.2.1.keep hb2,hHeld.2.2.1.keep hb2,hHeld.2.2.2.trans (hb2.mono hHeld.2.2.2.size)⟩) (fun _=>?_);clear hKK KK hHeld;rename_i hHeld;(try simp only [Act.put,lay]);refine tk 2 ?_;(try simp only [Act.put,lay]);refine wpAnyH_done (by kernel_rfl) ?_ _;have LB3:=Hd hHeld.2.2.2;have LR3:=Hd hHeld.2.2.1;have LG0_3:=Hd hHeld.1;have LG1_3:=Hd hHeld.2.1
 clear hHeld LB2 LR2 LG0_2 LG1_2;go_wp2_with fail;refine wp_region_held_drew (S:=fun W'=>Blk W' w.heap.size 24 #[.int .u64 (x:Int),.int .u64 (y:Int)]∧Blk W' w1.heap.size 24 #[.int .u64 (p:Int),.int .u64 (q:Int)]∧HasBlk W' (w.heap.size+1) 89 9∧Below w.heap.size w W') (by kernel_rfl) (by exact⟨LG0_3.out.drew,LG1_3.out.drew,LR3.out.drew,LB3.out.drew⟩) (fun hHeld=>?_);refine tk 0 ?_;(try simp only [Act.put,lay]);refine tk 1 ?_ (hv:=by intro W2 hSw;obtain⟨q0,q1⟩:=hSw.2.1.c2;go_simp;(try with_reducible rfl));(try simp only [Act.put,lay]);refine tk 3 ?_;(try simp only [Act.put,lay]);refine tk 4 ?_ (hv:=by intro W2 hSw;obtain⟨q0,q1⟩:=hSw.2.1.c2;go_simp;(try with_reducible rfl));(try simp only [Act.put,lay]);refine rdy 2 (fun KK hKK=>?_);go_simp;refine (H1.out _).mono ?_;rintro e w3 ⟨g1,A1,n1,c1,B1,m1,d1,rfl,h1,hb1⟩;go_wp2_with fail;refine hKK.out _ _ (⟨hHeld.1.keep hb1,hHeld.2.1.keep hb1,hHeld.2.2.1.keep hb1,hHeld.2.2.2.trans (hb1.mono hHeld.2.2.2.size)⟩) (fun _=>?_);clear hKK KK hHeld;rename_i hHeld;(try simp only [Act.put,lay]);refine rdy 5 (fun KK hKK=>?_);go_simp;refine (H2.out _).mono ?_;rintro e w4 ⟨g2,A2,n2,c2,B2,m2,d2,rfl,h2,hb2⟩;go_wp2_with fail;refine hKK.out _ _ (⟨hHeld.1.keep hb2,hHeld.2.1.keep hb2,hHeld.2.2.1.keep hb2,hHeld.2.2.2.trans (hb2.mono hHeld.2.2.2.size)⟩) (fun _=>?_);clear hKK KK hHeld;rename_i hHeld;(try simp only [Act.put,lay]);refine tk 6 ?_;(try simp only [Act.put,lay]);refine rdy 7 (fun KK hKK=>?_);have ha0:=hHeld.2.2.1.someCell 0 (by decide);have hf0:=hHeld.2.2.1.frozen 0;have ha1:=hHeld.2.2.1.someCell 1 (by decide);have hf1:=hHeld.2.2.1.frozen 1;have ha2:=hHeld.2.2.1.someCell 2 (by decide);have hf2:=hHeld.2.2.1.frozen 2;have ha3:=hHeld.2.2.1.someCell 3 (by decide);have hf3:=hHeld.2.2.1.frozen 3;have ha4:=hHeld.2.2.1.someCell 4 (by decide);have hf4:=hHeld.2.2.1.frozen 4;have ha5:=hHeld.2.2.1.someCell 5 (by decide);have hf5:=hHeld.2.2.1.frozen 5;have ha6:=hHeld.2.2.1.someCell 6 (by decide);have hf6:=hHeld.2.2.1.frozen 6;have ha7:=hHeld.2.2.1.someCell 7 (by decide);have hf7:=hHeld.2.2.1.frozen 7;have ha8:=hHeld.2.2.1.someCell 8 (by decide);have hf8:=hHeld.2.2.1.frozen 8;have HK:=Hd (hHeld.2.2.1.setCell [.bool false,.int .i64 s1,.bool g1,.slice A1 n1 c1,.slice B1 m1 d1,.int .i64 s2,.bool g2,.slice A2 n2 c2,.slice B2 m2 d2] rfl);have F:=Hd (below_sets (w0:=w) (r:=(w.heap.size+1)) (by omega) [.bool false,.int .i64 s1,.bool g1,.slice A1 n1 c1,.slice B1 m1 d1,.int .i64 s2,.bool g2,.slice A2 n2 c2,.slice B2 m2 d2] 0 _ hHeld.2.2.2);have FR1:=Hd (hHeld.2.2.1.rat (h1.below hb2) [.bool false,.int .i64 s1,.bool g1,.slice A1 n1 c1,.slice B1 m1 d1,.int .i64 s2,.bool g2,.slice A2 n2 c2,.slice B2 m2 d2]);have FR2:=Hd (hHeld.2.2.1.rat h2 [.bool false,.int .i64 s1,.bool g1,.slice A1 n1 c1,.slice B1 m1 d1,.int .i64 s2,.bool g2,.slice A2 n2 c2,.slice B2 m2 d2])
 go_simp;refine hKK.out _ _ (⟨hHeld.1.other (by omega) 0 [.bool false,.int .i64 s1,.bool g1,.slice A1 n1 c1,.slice B1 m1 d1,.int .i64 s2,.bool g2,.slice A2 n2 c2,.slice B2 m2 d2],hHeld.2.1.other (by omega) 0 [.bool false,.int .i64 s1,.bool g1,.slice A1 n1 c1,.slice B1 m1 d1,.int .i64 s2,.bool g2,.slice A2 n2 c2,.slice B2 m2 d2],hHeld.2.2.1.sets [.bool false,.int .i64 s1,.bool g1,.slice A1 n1 c1,.slice B1 m1 d1,.int .i64 s2,.bool g2,.slice A2 n2 c2,.slice B2 m2 d2] rfl rfl,below_sets (by omega) [.bool false,.int .i64 s1,.bool g1,.slice A1 n1 c1,.slice B1 m1 d1,.int .i64 s2,.bool g2,.slice A2 n2 c2,.slice B2 m2 d2] 0 _ hHeld.2.2.2⟩) (fun _=>?_);clear hKK KK hHeld;rename_i hHeld;(try simp only [Act.put,lay]);refine wpAnyH_done (by kernel_rfl) ?_ _;have hk0:=HK.out 0 (by decide);have hk1:=HK.out 1 (by decide);have hk2:=HK.out 2 (by decide);have hk3:=HK.out 3 (by decide);have hk4:=HK.out 4 (by decide);have hk5:=HK.out 5 (by decide);have hk6:=HK.out 6 (by decide);have hk7:=HK.out 7 (by decide);have hk8:=HK.out 8 (by decide)
 simp [sets] at hk0 hk1 hk2 hk3 hk4 hk5 hk6 hk7 hk8
 clear hHeld HK;go_wp2;refine bodyPost_ret (v:=.agg #[.bool false,.int .i64 s1,.bool g1,.slice A1 n1 c1,.slice B1 m1 d1,.int .i64 s2,.bool g2,.slice A2 n2 c2,.slice B2 m2 d2]) (by simp [results,Tryz.results83,go_sem,hk0,hk1,hk2,hk3,hk4,hk5,hk6,hk7,hk8]) rfl ?_
 exact⟨_,_,_,_,_,_,_,_,_,_,_,_,_,_,rfl,FR1.out,FR2.out,F.out⟩
def NewBd(w:World)(K:Nat)(s:Int)(x:Rat)(N:Int)(op:Bool)(e:Ending)(w':World):Prop:=
 ∃ neg A n c B m d,e=.returned (.agg #[.int .i64 s,.bool neg,.slice A n c,.slice B m d,.int .i64 N,.bool op])∧RatV w' K neg (.slice A n c) (.slice B m d) x∧Below w.heap.size w w'
def NewPiece(w:World)(K:Nat)(none:Bool)(s:Int)(x:Rat)(N:Int)(o:Bool)(s':Int)(x':Rat)(N':Int)(o':Bool)(e:Ending)(w':World):Prop:=
 ∃ neg A n c B m d neg' A' n' c' B' m' d',e=.returned (.agg #[.bool none,.int .i64 s,.bool neg,.slice A n c,.slice B m d,.int .i64 N,.bool o,.int .i64 s',.bool neg',.slice A' n' c',.slice B' m' d',.int .i64 N',.bool o']) ∧
  RatV w' K neg (.slice A n c) (.slice B m d) x∧RatV w' K neg' (.slice A' n' c') (.slice B' m' d') x'∧Below w.heap.size w w'
end Go.Proofs.YthlmlmfebpjgdaaGreatDoor
