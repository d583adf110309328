/-
Lemmas for the statement: FmaT CommT.
-/
import Derived.Test.YthlmlmfebpjgdaaGreatDoorM02
import Derived.Test.YthlmlmfebpjgdaaGreatDoorPIntsT
import Derived.Test.YthlmlmfebpjgdaaGreatDoorM19
import Derived.Test.YthlmlmfebpjgdaaGreatDoorPLessT
import Derived.Test.YthlmlmfebpjgdaaGreatDoorPBothT
import Derived.Test.YthlmlmfebpjgdaaGreatDoorPMathT
set_option linter.unusedSimpArgs false
set_option linter.unusedVariables false
set_option maxHeartbeats 12800000
namespace Go.Proofs.YthlmlmfebpjgdaaGreatDoor
section
open Go.RowKit
attribute [local go_sem] run_store_float
theorem fmarev_none(b1 b2 z1 z2 c1 c2 x y P1 Q1 P2 Q2 P3 Q3 P4 Q4:Nat)(d1 d2 d3 d4:Bool)(w:World)(t1:∀ W,Rt 102 #[.agg #[.float .f64 b1,.float .f64 b2]] (.agg #[.float .f64 P1,.float .f64 Q1]) W)(m1:Em d1 P1 Q1)(t2:∀ W,Rt 102 #[.agg #[.float .f64 z1,.float .f64 z2]] (.agg #[.float .f64 P2,.float .f64 Q2]) W)(m2:Em d2 P2 Q2)(t3:∀ W,Rt 102 #[.agg #[.float .f64 c1,.float .f64 c2]] (.agg #[.float .f64 P3,.float .f64 Q3]) W)(m3:Em d3 P3 Q3)(t4:∀ W,Rt 102 #[.agg #[.float .f64 x,.float .f64 y]] (.agg #[.float .f64 P4,.float .f64 Q4]) W)(m4:Em d4 P4 Q4)(hnn:(d1 || d2 || d3 || d4)=true):
  Rt 31 #[.agg #[.float .f64 b1,.float .f64 b2],.agg #[.float .f64 z1,.float .f64 z2],.agg #[.float .f64 c1,.float .f64 c2],.agg #[.float .f64 x,.float .f64 y]] (.agg #[.float .f64 9218868437227405312,.float .f64 18442240474082181120]) w:=by
 have HE:=Hd emptyf;obtain⟨LB0,LG0_0,LG1_0,LG2_0,LG3_0,LR⟩:=bx5 w #[.float .f64 b1,.float .f64 b2] 28 #[.float .f64 z1,.float .f64 z2] 28 #[.float .f64 c1,.float .f64 c2] 28 #[.float .f64 x,.float .f64 y] 28 #[.float .f64 0,.float .f64 0] 28;have LR0:=Hd (HasBlk.of (n:=2) LR.out rfl rfl);clear LR;have hrow:=Blk.at (W:=(((((w.alloc (.cells #[.float .f64 b1,.float .f64 b2] 28)).alloc (.cells #[.float .f64 z1,.float .f64 z2] 28)).alloc (.cells #[.float .f64 c1,.float .f64 c2] 28)).alloc (.cells #[.float .f64 x,.float .f64 y] 28)).alloc (.cells #[.float .f64 0,.float .f64 0] 28))) (g:=w.heap.size+1+1+1+1+1) (by simp) 75 #[.pointer (some ⟨w.heap.size,0,none⟩),.pointer (some ⟨w.heap.size+1,0,none⟩),.pointer (some ⟨w.heap.size+1+1,0,none⟩),.pointer (some ⟨w.heap.size+1+1+1,0,none⟩)]
 have HRD:=Hd (read_n w.heap.size 4 (w.heap.size+1+1+1+1+1) 4 (fun k:Nat=>if k=0 then (b1,b2) else if k=1 then (z1,z2) else if k=2 then (c1,c2) else (x,y)) (fun k:Nat=>if k=0 then (P1,Q1) else if k=1 then (P2,Q2) else if k=2 then (P3,Q3) else (P4,Q4)) (fun k:Nat=>if k=0 then d1 else if k=1 then d2 else if k=2 then d3 else d4) _ (by omega) (by omega)
  (fun k hk=>by match k,hk with | 0,_=>exact hrow.cell 0 | 1,_=>exact hrow.cell 1 | 2,_=>exact hrow.cell 2 | 3,_=>exact hrow.cell 3)
  (fun k hk=>by match k,hk with | 0,_=>exact LG0_0.out.alloc (.cells #[.pointer (some ⟨w.heap.size,0,none⟩),.pointer (some ⟨w.heap.size+1,0,none⟩),.pointer (some ⟨w.heap.size+1+1,0,none⟩),.pointer (some ⟨w.heap.size+1+1+1,0,none⟩)] 75) | 1,_=>exact LG1_0.out.alloc (.cells #[.pointer (some ⟨w.heap.size,0,none⟩),.pointer (some ⟨w.heap.size+1,0,none⟩),.pointer (some ⟨w.heap.size+1+1,0,none⟩),.pointer (some ⟨w.heap.size+1+1+1,0,none⟩)] 75) | 2,_=>exact LG2_0.out.alloc (.cells #[.pointer (some ⟨w.heap.size,0,none⟩),.pointer (some ⟨w.heap.size+1,0,none⟩),.pointer (some ⟨w.heap.size+1+1,0,none⟩),.pointer (some ⟨w.heap.size+1+1+1,0,none⟩)] 75) | 3,_=>exact LG3_0.out.alloc (.cells #[.pointer (some ⟨w.heap.size,0,none⟩),.pointer (some ⟨w.heap.size+1,0,none⟩),.pointer (some ⟨w.heap.size+1+1,0,none⟩),.pointer (some ⟨w.heap.size+1+1+1,0,none⟩)] 75))
  (fun k hk=>by match k,hk with | 0,_=>exact t1 | 1,_=>exact t2 | 2,_=>exact t3 | 3,_=>exact t4)
  (fun k hk=>by match k,hk with | 0,_=>exact m1 | 1,_=>exact m2 | 2,_=>exact m3 | 3,_=>exact m4))
 rw [show anyB (fun k:Nat=>if k=0 then d1 else if k=1 then d2 else if k=2 then d3 else d4) 4=(d1 || d2 || d3 || d4) from by simp [anyB],hnn] at HRD;have LBr:=Hd (LB0.out.alloc (by simp<;>omega) (.cells #[.pointer (some ⟨w.heap.size,0,none⟩),.pointer (some ⟨w.heap.size+1,0,none⟩),.pointer (some ⟨w.heap.size+1+1,0,none⟩),.pointer (some ⟨w.heap.size+1+1+1,0,none⟩)] 75));have LRr:=Hd (LR0.out.alloc (.cells #[.pointer (some ⟨w.heap.size,0,none⟩),.pointer (some ⟨w.heap.size+1,0,none⟩),.pointer (some ⟨w.heap.size+1+1,0,none⟩),.pointer (some ⟨w.heap.size+1+1+1,0,none⟩)] 75));have HSZ:=Hd (show w.heap.size<=(((((((w.alloc (.cells #[.float .f64 b1,.float .f64 b2] 28)).alloc (.cells #[.float .f64 z1,.float .f64 z2] 28)).alloc (.cells #[.float .f64 c1,.float .f64 c2] 28)).alloc (.cells #[.float .f64 x,.float .f64 y] 28)).alloc (.cells #[.float .f64 0,.float .f64 0] 28))).alloc (.cells #[.pointer (some ⟨w.heap.size,0,none⟩),.pointer (some ⟨w.heap.size+1,0,none⟩),.pointer (some ⟨w.heap.size+1+1,0,none⟩),.pointer (some ⟨w.heap.size+1+1+1,0,none⟩)] 75)).heap.size by simp;omega);clear t1 t2 t3 t4 m1 m2 m3 m4 hrow hnn LB0 LR0 LG0_0 LG1_0 LG2_0 LG3_0
 go_enter Tryz.func31,Tryz.ntmps31
 go_wp2_with fail;refine HRD.out.mono ?_;rintro e w1 ⟨rfl,hd,kp⟩;have LB1:=Hd (kp.toBl LBr.out HSZ.out (Nat.le_refl _));have LR1:=Hd (kp.hasBk LRr.out (by omega));have LG0_1:=Hd (show Blk w1 w.heap.size 28 #[.float .f64 P1,.float .f64 Q1] from hd 0 (by omega));have LG1_1:=Hd (show Blk w1 (w.heap.size+1) 28 #[.float .f64 P2,.float .f64 Q2] from hd 1 (by omega));have LG2_1:=Hd (show Blk w1 (w.heap.size+2) 28 #[.float .f64 P3,.float .f64 Q3] from hd 2 (by omega));have LG3_1:=Hd (show Blk w1 (w.heap.size+3) 28 #[.float .f64 P4,.float .f64 Q4] from hd 3 (by omega));clear hd kp LBr LRr HSZ HRD;go_wp2_with fail;refine cx (HE.out _) fun w2 hbx=>?_;have LB2:=stB LB1 hbx LB1.out.size;have LR2:=stR LR1 hbx;have LG0_2:=stG LG0_1 hbx;have LG1_2:=stG LG1_1 hbx;have LG2_2:=stG LG2_1 hbx;have LG3_2:=stG LG3_1 hbx;clear LB1 LR1 LG0_1 LG1_1 LG2_1 LG3_1;clear hbx;obtain⟨ha0,hf0,ha1,hf1⟩:=LR2.out.sf2;obtain⟨hk0,hk1⟩:=LR2.out.sc2 (.float .f64 9218868437227405312) (.float .f64 18442240474082181120);have F:=Hd (below_sets (w0:=w) (r:=(w.heap.size+4)) (by omega) [.float .f64 9218868437227405312,.float .f64 18442240474082181120] 0 _ LB2.out)
 simp [sets] at hk0 hk1
 go_wp2;refine bodyPost_ret (v:=.agg #[.float .f64 9218868437227405312,.float .f64 18442240474082181120]) (by simp [results,Tryz.results31,go_sem,hk0,hk1]) rfl ?_
 exact⟨rfl,F.out⟩
theorem fmarev_some(b1 b2 z1 z2 c1 c2 x y P1 Q1 P2 Q2 P3 Q3 P4 Q4:Nat)(d1 d2 d3 d4:Bool)(s1 s2:Int)(y1 y2:Rat)(r1 r2:Nat)(w:World)(t1:∀ W,Rt 102 #[.agg #[.float .f64 b1,.float .f64 b2]] (.agg #[.float .f64 P1,.float .f64 Q1]) W)(m1:Em d1 P1 Q1)(t2:∀ W,Rt 102 #[.agg #[.float .f64 z1,.float .f64 z2]] (.agg #[.float .f64 P2,.float .f64 Q2]) W)(m2:Em d2 P2 Q2)(t3:∀ W,Rt 102 #[.agg #[.float .f64 c1,.float .f64 c2]] (.agg #[.float .f64 P3,.float .f64 Q3]) W)(m3:Em d3 P3 Q3)(t4:∀ W,Rt 102 #[.agg #[.float .f64 x,.float .f64 y]] (.agg #[.float .f64 P4,.float .f64 Q4]) W)(m4:Em d4 P4 Q4)(hnn:(d1 || d2 || d3 || d4)=false)
  (L1:∀ W,Calls Tryz.prog 91 #[.float .f64 P3,.float .f64 Q2] W (NewExI W s1 y1))(L2:∀ W,Calls Tryz.prog 91 #[.float .f64 Q3,.float .f64 P2] W (NewExI W s2 y2))
  (FA:∀ (g1:Bool) (A1:Option Addr) (n1 c1:Nat) (E1:Int) (g2:Bool) (A2:Option Addr) (n2 c2:Nat) (E2:Int) W,ExI W s1 g1 A1 n1 c1 E1 y1->ExI W s2 g2 A2 n2 c2 E2 y2->Rt 90 #[.agg #[.float .f64 P1,.float .f64 Q1],.agg #[.int .i64 s1,.bool g1,.slice A1 n1 c1,.int .i64 E1],.agg #[.int .i64 s2,.bool g2,.slice A2 n2 c2,.int .i64 E2],.agg #[.float .f64 P4,.float .f64 Q4]] (.agg #[.float .f64 r1,.float .f64 r2]) W):
  Rt 31 #[.agg #[.float .f64 b1,.float .f64 b2],.agg #[.float .f64 z1,.float .f64 z2],.agg #[.float .f64 c1,.float .f64 c2],.agg #[.float .f64 x,.float .f64 y]] (.agg #[.float .f64 r1,.float .f64 r2]) w:=by
 have HL1:=Hd L1;have HL2:=Hd L2;have HF:=Hd FA;clear L1 L2 FA;obtain⟨LB0,LG0_0,LG1_0,LG2_0,LG3_0,LR⟩:=bx5 w #[.float .f64 b1,.float .f64 b2] 28 #[.float .f64 z1,.float .f64 z2] 28 #[.float .f64 c1,.float .f64 c2] 28 #[.float .f64 x,.float .f64 y] 28 #[.float .f64 0,.float .f64 0] 28;have LR0:=Hd (HasBlk.of (n:=2) LR.out rfl rfl);clear LR;have hrow:=Blk.at (W:=(((((w.alloc (.cells #[.float .f64 b1,.float .f64 b2] 28)).alloc (.cells #[.float .f64 z1,.float .f64 z2] 28)).alloc (.cells #[.float .f64 c1,.float .f64 c2] 28)).alloc (.cells #[.float .f64 x,.float .f64 y] 28)).alloc (.cells #[.float .f64 0,.float .f64 0] 28))) (g:=w.heap.size+1+1+1+1+1) (by simp) 75 #[.pointer (some ⟨w.heap.size,0,none⟩),.pointer (some ⟨w.heap.size+1,0,none⟩),.pointer (some ⟨w.heap.size+1+1,0,none⟩),.pointer (some ⟨w.heap.size+1+1+1,0,none⟩)]
 have HRD:=Hd (read_n w.heap.size 4 (w.heap.size+1+1+1+1+1) 4 (fun k:Nat=>if k=0 then (b1,b2) else if k=1 then (z1,z2) else if k=2 then (c1,c2) else (x,y)) (fun k:Nat=>if k=0 then (P1,Q1) else if k=1 then (P2,Q2) else if k=2 then (P3,Q3) else (P4,Q4)) (fun k:Nat=>if k=0 then d1 else if k=1 then d2 else if k=2 then d3 else d4) _ (by omega) (by omega)
  (fun k hk=>by match k,hk with | 0,_=>exact hrow.cell 0 | 1,_=>exact hrow.cell 1 | 2,_=>exact hrow.cell 2 | 3,_=>exact hrow.cell 3)
  (fun k hk=>by match k,hk with | 0,_=>exact LG0_0.out.alloc (.cells #[.pointer (some ⟨w.heap.size,0,none⟩),.pointer (some ⟨w.heap.size+1,0,none⟩),.pointer (some ⟨w.heap.size+1+1,0,none⟩),.pointer (some ⟨w.heap.size+1+1+1,0,none⟩)] 75) | 1,_=>exact LG1_0.out.alloc (.cells #[.pointer (some ⟨w.heap.size,0,none⟩),.pointer (some ⟨w.heap.size+1,0,none⟩),.pointer (some ⟨w.heap.size+1+1,0,none⟩),.pointer (some ⟨w.heap.size+1+1+1,0,none⟩)] 75) | 2,_=>exact LG2_0.out.alloc (.cells #[.pointer (some ⟨w.heap.size,0,none⟩),.pointer (some ⟨w.heap.size+1,0,none⟩),.pointer (some ⟨w.heap.size+1+1,0,none⟩),.pointer (some ⟨w.heap.size+1+1+1,0,none⟩)] 75) | 3,_=>exact LG3_0.out.alloc (.cells #[.pointer (some ⟨w.heap.size,0,none⟩),.pointer (some ⟨w.heap.size+1,0,none⟩),.pointer (some ⟨w.heap.size+1+1,0,none⟩),.pointer (some ⟨w.heap.size+1+1+1,0,none⟩)] 75))
  (fun k hk=>by match k,hk with | 0,_=>exact t1 | 1,_=>exact t2 | 2,_=>exact t3 | 3,_=>exact t4)
  (fun k hk=>by match k,hk with | 0,_=>exact m1 | 1,_=>exact m2 | 2,_=>exact m3 | 3,_=>exact m4))
 rw [show anyB (fun k:Nat=>if k=0 then d1 else if k=1 then d2 else if k=2 then d3 else d4) 4=(d1 || d2 || d3 || d4) from by simp [anyB],hnn] at HRD;have LBr:=Hd (LB0.out.alloc (by simp<;>omega) (.cells #[.pointer (some ⟨w.heap.size,0,none⟩),.pointer (some ⟨w.heap.size+1,0,none⟩),.pointer (some ⟨w.heap.size+1+1,0,none⟩),.pointer (some ⟨w.heap.size+1+1+1,0,none⟩)] 75));have LRr:=Hd (LR0.out.alloc (.cells #[.pointer (some ⟨w.heap.size,0,none⟩),.pointer (some ⟨w.heap.size+1,0,none⟩),.pointer (some ⟨w.heap.size+1+1,0,none⟩),.pointer (some ⟨w.heap.size+1+1+1,0,none⟩)] 75));have HSZ:=Hd (show w.heap.size<=(((((((w.alloc (.cells #[.float .f64 b1,.float .f64 b2] 28)).alloc (.cells #[.float .f64 z1,.float .f64 z2] 28)).alloc (.cells #[.float .f64 c1,.float .f64 c2] 28)).alloc (.cells #[.float .f64 x,.float .f64 y] 28)).alloc (.cells #[.float .f64 0,.float .f64 0] 28))).alloc (.cells #[.pointer (some ⟨w.heap.size,0,none⟩),.pointer (some ⟨w.heap.size+1,0,none⟩),.pointer (some ⟨w.heap.size+1+1,0,none⟩),.pointer (some ⟨w.heap.size+1+1+1,0,none⟩)] 75)).heap.size by simp;omega);clear t1 t2 t3 t4 m1 m2 m3 m4 hrow hnn LB0 LR0 LG0_0 LG1_0 LG2_0 LG3_0
 go_enter Tryz.func31,Tryz.ntmps31
 go_wp2_with fail;refine HRD.out.mono ?_;rintro e w1 ⟨rfl,hd,kp⟩;have LB1:=Hd (kp.toBl LBr.out HSZ.out (Nat.le_refl _));have LR1:=Hd (kp.hasBk LRr.out (by omega));have LG0_1:=Hd (show Blk w1 w.heap.size 28 #[.float .f64 P1,.float .f64 Q1] from hd 0 (by omega));have LG1_1:=Hd (show Blk w1 (w.heap.size+1) 28 #[.float .f64 P2,.float .f64 Q2] from hd 1 (by omega));have LG2_1:=Hd (show Blk w1 (w.heap.size+2) 28 #[.float .f64 P3,.float .f64 Q3] from hd 2 (by omega));have LG3_1:=Hd (show Blk w1 (w.heap.size+3) 28 #[.float .f64 P4,.float .f64 Q4] from hd 3 (by omega));clear hd kp LBr LRr HSZ HRD;go_wp2_with fail;refine wp_region_held_drew (S:=fun W'=>Blk W' w.heap.size 28 #[.float .f64 P1,.float .f64 Q1]/\Blk W' (w.heap.size+1) 28 #[.float .f64 P2,.float .f64 Q2]/\Blk W' (w.heap.size+2) 28 #[.float .f64 P3,.float .f64 Q3]/\Blk W' (w.heap.size+3) 28 #[.float .f64 P4,.float .f64 Q4]/\HasBlk W' (w.heap.size+4) 28 2/\Below w.heap.size w W') (by kernel_rfl) (by exact⟨LG0_1.out.drew,LG1_1.out.drew,LG2_1.out.drew,LG3_1.out.drew,LR1.out.drew,LB1.out.drew⟩) (fun hHeld=>?_);refine tks 0 ?_ (hv:=by intro W2 hSw;obtain⟨q0,q1⟩:=hSw.1.c2;go_simp;(try with_reducible rfl));refine tks 1 ?_;refine tks 2 ?_ (hv:=by intro W2 hSw;obtain⟨q0,q1⟩:=hSw.2.2.1.c2;go_simp;(try with_reducible rfl));refine tks 3 ?_;refine tks 4 ?_ (hv:=by intro W2 hSw;obtain⟨q0,q1⟩:=hSw.2.1.c2;go_simp;(try with_reducible rfl));refine tks 6 ?_;refine tks 7 ?_ (hv:=by intro W2 hSw;obtain⟨q0,q1⟩:=hSw.2.2.1.c2;go_simp;(try with_reducible rfl))
 refine tks 8 ?_;refine tks 9 ?_ (hv:=by intro W2 hSw;obtain⟨q0,q1⟩:=hSw.2.1.c2;go_simp;(try with_reducible rfl));refine tks 11 ?_ (hv:=by intro W2 hSw;obtain⟨q0,q1⟩:=hSw.2.2.2.1.c2;go_simp;(try with_reducible rfl));refine rdy 5 (fun KK hKK=>?_);go_simp;refine (HL1.out _).mono ?_;rintro e w2 ⟨g1,A1,n1,c1,E1,rfl,he1,hbA⟩;go_wp2_with fail;refine hKK.out _ _ (⟨hHeld.1.keep hbA,hHeld.2.1.keep hbA,hHeld.2.2.1.keep hbA,hHeld.2.2.2.1.keep hbA,hHeld.2.2.2.2.1.keep hbA,hHeld.2.2.2.2.2.trans (hbA.mono hHeld.2.2.2.2.2.size)⟩) (fun _=>?_);clear hKK KK hHeld;rename_i hHeld;(try simp only [Act.put,lay]);refine rdy 10 (fun KK hKK=>?_);go_simp;refine (HL2.out _).mono ?_;rintro e w3 ⟨g2,A2,n2,c2,E2,rfl,he2,hbB⟩;go_wp2_with fail;refine hKK.out _ _ (⟨hHeld.1.keep hbB,hHeld.2.1.keep hbB,hHeld.2.2.1.keep hbB,hHeld.2.2.2.1.keep hbB,hHeld.2.2.2.2.1.keep hbB,hHeld.2.2.2.2.2.trans (hbB.mono hHeld.2.2.2.2.2.size)⟩) (fun _=>?_);clear hKK KK hHeld;rename_i hHeld;(try simp only [Act.put,lay]);refine rdy 12 (fun KK hKK=>?_);go_simp;refine cx (HF.out _ _ _ _ _ _ _ _ _ _ _ (he1.below hbB) he2) fun w4 hbC=>?_;go_wp2_with fail;refine hKK.out _ _ (⟨hHeld.1.keep hbC,hHeld.2.1.keep hbC,hHeld.2.2.1.keep hbC,hHeld.2.2.2.1.keep hbC,hHeld.2.2.2.2.1.keep hbC,hHeld.2.2.2.2.2.trans (hbC.mono hHeld.2.2.2.2.2.size)⟩) (fun _=>?_);clear hKK KK hHeld;rename_i hHeld;(try simp only [Act.put,lay]);refine rdy 13 (fun KK hKK=>?_);have ha0:=hHeld.2.2.2.2.1.someCell 0 (by decide);have hf0:=hHeld.2.2.2.2.1.frozen 0;have ha1:=hHeld.2.2.2.2.1.someCell 1 (by decide);have hf1:=hHeld.2.2.2.2.1.frozen 1;have HK:=Hd (hHeld.2.2.2.2.1.setCell [.float .f64 r1,.float .f64 r2] rfl);have F:=Hd (below_sets (w0:=w) (r:=(w.heap.size+4)) (by omega) [.float .f64 r1,.float .f64 r2] 0 _ hHeld.2.2.2.2.2)
 go_simp;refine hKK.out _ _ (⟨hHeld.1.other (by omega) 0 [.float .f64 r1,.float .f64 r2],hHeld.2.1.other (by omega) 0 [.float .f64 r1,.float .f64 r2],hHeld.2.2.1.other (by omega) 0 [.float .f64 r1,.float .f64 r2],hHeld.2.2.2.1.other (by omega) 0 [.float .f64 r1,.float .f64 r2],hHeld.2.2.2.2.1.sets [.float .f64 r1,.float .f64 r2] rfl rfl,below_sets (by omega) [.float .f64 r1,.float .f64 r2] 0 _ hHeld.2.2.2.2.2⟩) (fun _=>?_);clear hKK KK hHeld;rename_i hHeld;(try simp only [Act.put,lay]);refine wpAnyH_done (by kernel_rfl) ?_ _;have hk0:=HK.out 0 (by decide);have hk1:=HK.out 1 (by decide)
 simp [sets] at hk0 hk1
 clear hHeld HK he1 hbA he2 hbB hbC;clear LB1 LR1 LG0_1 LG1_1 LG2_1 LG3_1;go_wp2;refine bodyPost_ret (v:=.agg #[.float .f64 r1,.float .f64 r2]) (by simp [results,Tryz.results31,go_sem,hk0,hk1]) rfl ?_
 exact⟨rfl,F.out⟩
theorem mulrev_walk(b1 b2 c1 c2 x y r1 r2:Nat)(w:World)(H:∀ W,Rt 31 #[.agg #[.float .f64 b1,.float .f64 b2],.agg #[.float .f64 0,.float .f64 0],.agg #[.float .f64 c1,.float .f64 c2],.agg #[.float .f64 x,.float .f64 y]] (.agg #[.float .f64 r1,.float .f64 r2]) W):
  Rt 25 #[.agg #[.float .f64 b1,.float .f64 b2],.agg #[.float .f64 c1,.float .f64 c2],.agg #[.float .f64 x,.float .f64 y]] (.agg #[.float .f64 r1,.float .f64 r2]) w:=by
 have K:=Hd H;clear H;obtain⟨LB0,LG0_0,LG1_0,LG2_0,LR⟩:=bx4 w #[.float .f64 b1,.float .f64 b2] 28 #[.float .f64 c1,.float .f64 c2] 28 #[.float .f64 x,.float .f64 y] 28 #[.float .f64 0,.float .f64 0] 28;have LR0:=Hd (HasBlk.of (n:=2) LR.out rfl rfl);clear LR
 go_enter Tryz.func25,Tryz.ntmps25
 obtain⟨q0_0,q0_1⟩:=LG0_0.out.c2;obtain⟨q1_0,q1_1⟩:=LG1_0.out.c2;obtain⟨q2_0,q2_1⟩:=LG2_0.out.c2;go_wp2_with fail;refine cx (K.out _) fun w1 hb1=>?_;have LB1:=stB LB0 hb1 LB0.out.size;have LR1:=stR LR0 hb1;have LG0_1:=stG LG0_0 hb1;have LG1_1:=stG LG1_0 hb1;have LG2_1:=stG LG2_0 hb1;clear LB0 LR0 LG0_0 LG1_0 LG2_0;clear hb1 K q0_0 q0_1 q1_0 q1_1 q2_0 q2_1;obtain⟨ha0,hf0,ha1,hf1⟩:=LR1.out.sf2;obtain⟨hk0,hk1⟩:=LR1.out.sc2 (.float .f64 r1) (.float .f64 r2);have F:=Hd (below_sets (w0:=w) (r:=(w.heap.size+3)) (by omega) [.float .f64 r1,.float .f64 r2] 0 _ LB1.out)
 simp [sets] at hk0 hk1
 go_wp2;refine bodyPost_ret (v:=.agg #[.float .f64 r1,.float .f64 r2]) (by simp [results,Tryz.results25,go_sem,hk0,hk1]) rfl ?_
 exact⟨rfl,F.out⟩
end
section
open Go.RowKit
attribute [local go_sem] run_store_float run_eqf
def com(i j:Int):Bool:=decide (i<=j/\-(M:Int)<i/\j<M)
theorem entiref(w:World):Rt 64 #[] (.agg #[.float .f64 18442240474082181120,.float .f64 9218868437227405312]) w:=by
 have H1:=Hd inf_pos;have H2:=Hd inf_neg;obtain⟨LB0,LR⟩:=bx1 w #[.float .f64 0,.float .f64 0] 28;have LR0:=Hd (HasBlk.of (n:=2) LR.out rfl rfl);clear LR;have ba:=LB0.out;clear LB0 LR0 ba
 go_enter Tryz.func64,Tryz.ntmps64
 go_wp2_with fail;refine (H2.out _).mono ?_;rintro e w' ⟨rfl,rfl⟩;go_wp2_with fail;refine (H1.out _).mono ?_;rintro e w' ⟨rfl,rfl⟩;go_wp2;refine bodyPost_ret (v:=.agg #[.float .f64 18442240474082181120,.float .f64 9218868437227405312]) (by simp [results,Tryz.results64,go_sem]) rfl ?_
 exact have b:=(below_alloc w _);⟨rfl,b⟩
theorem common_none(p q:Nat)(w:World)(HR:∀ W,Rt 102 #[.agg #[.float .f64 p,.float .f64 q]] (.agg #[.float .f64 p,.float .f64 q]) W)(o:FloatKind.f64.format.order p q=some .gt):
  Rt 140 #[.agg #[.float .f64 p,.float .f64 q]] (.bool false) w:=by
 have KR:=Hd HR;clear HR;obtain⟨LB0,LG0_0⟩:=bx1 w #[.float .f64 p,.float .f64 q] 28
 go_enter Tryz.func140,Tryz.ntmps140
 go_wp2_with fail;refine cx (KR.out _) fun w1 hb1=>?_;have LB1:=stB LB0 hb1 LB0.out.size;have LG0_1:=stG LG0_0 hb1;clear LB0 LG0_0;clear hb1 KR;obtain⟨q0_0,q0_1⟩:=LG0_1.out.c2;have f0:=LG0_1.out.frozen 0;have f1:=LG0_1.out.frozen 1
 go_upto_region 2 with fail
 clear f0 f1 q0_0 q0_1;have LB2:=Hd (below_sets (w0:=w) (show w.heap.size<=w.heap.size by omega) [.float .f64 p,.float .f64 q] 0 w1 LB1.out);have LG0_2:=Hd (show Blk (sets w1 w.heap.size 0 [.float .f64 p,.float .f64 q]) w.heap.size 28 #[.float .f64 p,.float .f64 q] from by have hbs:=Blk.sets [.float .f64 p,.float .f64 q] 0 w1 _ LG0_1.out;simpa [laid] using hbs);clear LB1 LG0_1
 obtain⟨V1,hV1⟩:∃ X,(sets w1 w.heap.size 0 [.float .f64 p,.float .f64 q])=X:=⟨_,rfl⟩
 rw [hV1] at LB2 LG0_2;rw [show ((w1.setCell ⟨w.heap.size,0,none⟩ (.float .f64 p)).setCell ⟨w.heap.size,1,none⟩ (.float .f64 q))=V1 from hV1];clear hV1;obtain⟨q0_0,q0_1⟩:=LG0_2.out.c2;go_wp2
 go_ret
 exact⟨rfl,LB2.out⟩
theorem common_lo(p q:Nat)(w:World)(HR:∀ W,Rt 102 #[.agg #[.float .f64 p,.float .f64 q]] (.agg #[.float .f64 p,.float .f64 q]) W)(o:FloatKind.f64.format.order p q=some .lt\/FloatKind.f64.format.order p q=some .eq)(I1:∀ W,Calls Tryz.prog 161 #[.float .f64 p,.int .i64 0] W fun e w'=>e=.returned (.bool true)/\W=w'):
  Rt 140 #[.agg #[.float .f64 p,.float .f64 q]] (.bool false) w:=by
 have KR:=Hd HR;have K1:=Hd I1;clear HR I1
 rcases o with o | o
 all_goals
  obtain⟨LB0,LG0_0⟩:=bx1 w #[.float .f64 p,.float .f64 q] 28
  go_enter Tryz.func140,Tryz.ntmps140
  go_wp2_with fail;refine cx (KR.out _) fun w1 hb1=>?_;have LB1:=stB LB0 hb1 LB0.out.size;have LG0_1:=stG LG0_0 hb1;clear LB0 LG0_0;clear hb1 KR;obtain⟨q0_0,q0_1⟩:=LG0_1.out.c2;have f0:=LG0_1.out.frozen 0;have f1:=LG0_1.out.frozen 1
  go_upto_region 2 with fail
  clear f0 f1 q0_0 q0_1;have LB2:=Hd (below_sets (w0:=w) (show w.heap.size<=w.heap.size by omega) [.float .f64 p,.float .f64 q] 0 w1 LB1.out);have LG0_2:=Hd (show Blk (sets w1 w.heap.size 0 [.float .f64 p,.float .f64 q]) w.heap.size 28 #[.float .f64 p,.float .f64 q] from by have hbs:=Blk.sets [.float .f64 p,.float .f64 q] 0 w1 _ LG0_1.out;simpa [laid] using hbs);clear LB1 LG0_1
  obtain⟨V1,hV1⟩:∃ X,(sets w1 w.heap.size 0 [.float .f64 p,.float .f64 q])=X:=⟨_,rfl⟩
  rw [hV1] at LB2 LG0_2;rw [show ((w1.setCell ⟨w.heap.size,0,none⟩ (.float .f64 p)).setCell ⟨w.heap.size,1,none⟩ (.float .f64 q))=V1 from hV1];clear hV1;obtain⟨q0_0,q0_1⟩:=LG0_2.out.c2;go_wp2_with fail;refine (K1.out _).mono ?_;rintro e w' ⟨rfl,rfl⟩;go_wp2
  go_ret
  exact⟨rfl,LB2.out⟩
theorem common_hi(p q:Nat)(w:World)(HR:∀ W,Rt 102 #[.agg #[.float .f64 p,.float .f64 q]] (.agg #[.float .f64 p,.float .f64 q]) W)(o:FloatKind.f64.format.order p q=some .lt\/FloatKind.f64.format.order p q=some .eq)(I1:∀ W,Calls Tryz.prog 161 #[.float .f64 p,.int .i64 0] W fun e w'=>e=.returned (.bool false)/\W=w')(I2:∀ W,Calls Tryz.prog 161 #[.float .f64 q,.int .i64 0] W fun e w'=>e=.returned (.bool true)/\W=w'):
  Rt 140 #[.agg #[.float .f64 p,.float .f64 q]] (.bool false) w:=by
 have KR:=Hd HR;have K1:=Hd I1;have K2:=Hd I2;clear HR I1 I2
 rcases o with o | o
 all_goals
  obtain⟨LB0,LG0_0⟩:=bx1 w #[.float .f64 p,.float .f64 q] 28
  go_enter Tryz.func140,Tryz.ntmps140
  go_wp2_with fail;refine cx (KR.out _) fun w1 hb1=>?_;have LB1:=stB LB0 hb1 LB0.out.size;have LG0_1:=stG LG0_0 hb1;clear LB0 LG0_0;clear hb1 KR;obtain⟨q0_0,q0_1⟩:=LG0_1.out.c2;have f0:=LG0_1.out.frozen 0;have f1:=LG0_1.out.frozen 1
  go_upto_region 2 with fail
  clear f0 f1 q0_0 q0_1;have LB2:=Hd (below_sets (w0:=w) (show w.heap.size<=w.heap.size by omega) [.float .f64 p,.float .f64 q] 0 w1 LB1.out);have LG0_2:=Hd (show Blk (sets w1 w.heap.size 0 [.float .f64 p,.float .f64 q]) w.heap.size 28 #[.float .f64 p,.float .f64 q] from by have hbs:=Blk.sets [.float .f64 p,.float .f64 q] 0 w1 _ LG0_1.out;simpa [laid] using hbs);clear LB1 LG0_1
  obtain⟨V1,hV1⟩:∃ X,(sets w1 w.heap.size 0 [.float .f64 p,.float .f64 q])=X:=⟨_,rfl⟩
  rw [hV1] at LB2 LG0_2;rw [show ((w1.setCell ⟨w.heap.size,0,none⟩ (.float .f64 p)).setCell ⟨w.heap.size,1,none⟩ (.float .f64 q))=V1 from hV1];clear hV1;obtain⟨q0_0,q0_1⟩:=LG0_2.out.c2;go_wp2_with fail;refine (K1.out _).mono ?_;rintro e w' ⟨rfl,rfl⟩;go_wp2_with fail;refine (K2.out _).mono ?_;rintro e w' ⟨rfl,rfl⟩;go_wp2
  go_ret
  exact⟨rfl,LB2.out⟩
theorem common_yes(p q:Nat)(w:World)(HR:∀ W,Rt 102 #[.agg #[.float .f64 p,.float .f64 q]] (.agg #[.float .f64 p,.float .f64 q]) W)(o:FloatKind.f64.format.order p q=some .lt\/FloatKind.f64.format.order p q=some .eq)(I1:∀ W,Calls Tryz.prog 161 #[.float .f64 p,.int .i64 0] W fun e w'=>e=.returned (.bool false)/\W=w')(I2:∀ W,Calls Tryz.prog 161 #[.float .f64 q,.int .i64 0] W fun e w'=>e=.returned (.bool false)/\W=w'):
  Rt 140 #[.agg #[.float .f64 p,.float .f64 q]] (.bool true) w:=by
 have KR:=Hd HR;have K1:=Hd I1;have K2:=Hd I2;clear HR I1 I2
 rcases o with o | o
 all_goals
  obtain⟨LB0,LG0_0⟩:=bx1 w #[.float .f64 p,.float .f64 q] 28
  go_enter Tryz.func140,Tryz.ntmps140
  go_wp2_with fail;refine cx (KR.out _) fun w1 hb1=>?_;have LB1:=stB LB0 hb1 LB0.out.size;have LG0_1:=stG LG0_0 hb1;clear LB0 LG0_0;clear hb1 KR;obtain⟨q0_0,q0_1⟩:=LG0_1.out.c2;have f0:=LG0_1.out.frozen 0;have f1:=LG0_1.out.frozen 1
  go_upto_region 2 with fail
  clear f0 f1 q0_0 q0_1;have LB2:=Hd (below_sets (w0:=w) (show w.heap.size<=w.heap.size by omega) [.float .f64 p,.float .f64 q] 0 w1 LB1.out);have LG0_2:=Hd (show Blk (sets w1 w.heap.size 0 [.float .f64 p,.float .f64 q]) w.heap.size 28 #[.float .f64 p,.float .f64 q] from by have hbs:=Blk.sets [.float .f64 p,.float .f64 q] 0 w1 _ LG0_1.out;simpa [laid] using hbs);clear LB1 LG0_1
  obtain⟨V1,hV1⟩:∃ X,(sets w1 w.heap.size 0 [.float .f64 p,.float .f64 q])=X:=⟨_,rfl⟩
  rw [hV1] at LB2 LG0_2;rw [show ((w1.setCell ⟨w.heap.size,0,none⟩ (.float .f64 p)).setCell ⟨w.heap.size,1,none⟩ (.float .f64 q))=V1 from hV1];clear hV1;obtain⟨q0_0,q0_1⟩:=LG0_2.out.c2;go_wp2_with fail;refine (K1.out _).mono ?_;rintro e w' ⟨rfl,rfl⟩;go_wp2_with fail;refine (K2.out _).mono ?_;rintro e w' ⟨rfl,rfl⟩;go_wp2
  go_ret
  exact⟨rfl,LB2.out⟩
theorem common_any(i j:Int)(w:World)(h:Iv i j):
  Rt 140 #[.agg #[.float .f64 (pat i),.float .f64 (pat j)]] (.bool (com i j)) w:=by
 have hi:=h.lo;have hj:=h.hi;have HR:=fun W=>readf_idx i j W h;have I1:=fun W=>isinff (pat i) W (pat_lt hi.1 hi.2) (by rw [rung_pat hi.1 hi.2];omega);have I2:=fun W=>isinff (pat j) W (pat_lt hj.1 hj.2) (by rw [rung_pat hj.1 hj.2];omega);rw [rung_pat hi.1 hi.2] at I1;rw [rung_pat hj.1 hj.2] at I2;have hM:M=9218868437227405312:=rfl;unfold com
 by_cases h0:j<i
 ·rw [decide_eq_false (by omega)]
  exact common_none _ _ w HR (by rw [order_pat hi.1 hi.2 hj.1 hj.2,Int.compare_eq_gt.2 h0])
 ·have o:FloatKind.f64.format.order (pat i) (pat j)=some .lt\/FloatKind.f64.format.order (pat i) (pat j)=some .eq:=by
   rw [order_pat hi.1 hi.2 hj.1 hj.2]
   rcases Int.lt_trichotomy i j with h1 | h1 | h1
   ·exact .inl (by rw [Int.compare_eq_lt.2 h1])
   ·exact .inr (by rw [Int.compare_eq_eq.2 h1])
   ·omega
  unfold Iv at h
  by_cases c1:i=-(M:Int)
  ·rw [decide_eq_true (show i.natAbs=M by omega)] at I1;rw [decide_eq_false (by omega)]
   exact common_lo _ _ w HR o I1
  ·rw [decide_eq_false (show ¬ i.natAbs=M by omega)] at I1
   by_cases c2:j=M
   ·rw [decide_eq_true (show j.natAbs=M by omega)] at I2;rw [decide_eq_false (by omega)]
    exact common_hi _ _ w HR o I1 I2
   ·rw [decide_eq_false (show ¬ j.natAbs=M by omega)] at I2;rw [decide_eq_true (by omega)]
    exact common_yes _ _ w HR o I1 I2
end
end Go.Proofs.YthlmlmfebpjgdaaGreatDoor
