/-
Walks: package rev, read.
Walks: package rev, cut of what is not open.
Plain: a sum of floats of which one is infinite; the quick road's answer.
-/
import Derived.Test.YthlmlmfebpjgdaaGreatDoorM03
import Derived.Test.YthlmlmfebpjgdaaGreatDoorPCut2T
import Derived.Deep.DeepCutAuto
import Derived.Test.YthlmlmfebpjgdaaGreatDoorM19
import Derived.Test.YthlmlmfebpjgdaaGreatDoorM07
import Derived.Test.YthlmlmfebpjgdaaGreatDoorPGoA
import Derived.Test.YthlmlmfebpjgdaaGreatDoorM12
set_option linter.unusedSimpArgs false
set_option linter.unusedVariables false
set_option maxHeartbeats 12800000
namespace Go.Proofs.YthlmlmfebpjgdaaGreatDoor
open Go.RowKit
attribute [local go_sem] run_store_float run_eqf
theorem read_three(x0 y0 x1 y1 x2 y2 p0 q0 p1 q1 p2 q2 g0 g1 g2 gl cap:Nat)(a0 a1 a2:Bool)(w:World)(n01:g0≠g1)(n02:g0≠g2)(n12:g1≠g2)(l0:gl≠g0)(l1:gl≠g1)(l2:gl≠g2)
  (hc0:w.cell? ⟨gl,0,none⟩=some (.pointer (some ⟨g0,0,none⟩)))(hc1:w.cell? ⟨gl,1,none⟩=some (.pointer (some ⟨g1,0,none⟩)))(hc2:w.cell? ⟨gl,2,none⟩=some (.pointer (some ⟨g2,0,none⟩)))
  (b0:Bx w g0 x0 y0)(b1:Bx w g1 x1 y1)(b2:Bx w g2 x2 y2)
  (h0:∀ W,Calls Tryz.prog 102 #[.agg #[.float .f64 x0,.float .f64 y0]] W fun e w'=>e=.returned (.agg #[.float .f64 p0,.float .f64 q0])∧Below W.heap.size W w')
  (h1:∀ W,Calls Tryz.prog 102 #[.agg #[.float .f64 x1,.float .f64 y1]] W fun e w'=>e=.returned (.agg #[.float .f64 p1,.float .f64 q1])∧Below W.heap.size W w')
  (h2:∀ W,Calls Tryz.prog 102 #[.agg #[.float .f64 x2,.float .f64 y2]] W fun e w'=>e=.returned (.agg #[.float .f64 p2,.float .f64 q2])∧Below W.heap.size W w')
  (e0:Em a0 p0 q0)(e1:Em a1 p1 q1)(e2:Em a2 p2 q2):
  Calls Tryz.prog 75 #[.slice (some ⟨gl,0,none⟩) 3 cap] w fun e w'=>e=.returned (.bool (a0 || a1 || a2))∧Bx w' g0 p0 q0∧Bx w' g1 p1 q1∧Bx w' g2 p2 q2∧Kp g0 g1 g2 w w':=by
 have H0:=Hd h0;have H1:=Hd h1;have H2:=Hd h2;have E0:=Hd e0;have E1:=Hd e1;have E2:=Hd e2;have HE:=Hd emptyf;have C0:=Hd hc0;have C1:=Hd hc1;have C2:=Hd hc2;have B0:=Hd b0;have B1:=Hd b1;have B2:=Hd b2
 obtain⟨nf,hnf⟩:∃ f:Nat→Bool,f=fun k=>(decide (0<k) && a0) || (decide (1<k) && a1) || (decide (2<k) && a2):=⟨_,rfl⟩
 have N0:nf 0=false:=by rw [hnf];rfl
 have N1:nf 1=a0:=by rw [hnf];cases a0<;>cases a1<;>cases a2<;>rfl
 have N2:nf 2=(a0 || a1):=by rw [hnf];cases a0<;>cases a1<;>cases a2<;>rfl
 have N3:nf 3=(a0 || a1 || a2):=by rw [hnf];cases a0<;>cases a1<;>cases a2<;>rfl
 have X0:nf 1=(nf 0 || a0):=by rw [N0,N1];rfl
 have X1:nf 2=(nf 1 || a1):=by rw [N1,N2]
 have X2:nf 3=(nf 2 || a2):=by rw [N2,N3]
 have HX0:=Hd X0;have HX1:=Hd X1;have HX2:=Hd X2;rw [← N3];have NN0:=Hd N0;have NN1:=Hd N1;have NN2:=Hd N2;have NN3:=Hd N3;clear h0 h1 h2 e0 e1 e2 hc0 hc1 hc2 b0 b1 b2 hnf N0 N1 N2 N3 X0 X1 X2
 go_enter Tryz.func75,Tryz.ntmps75
 go_wp2_with fail
 go_loopw [3,5,8] (fun nv _ iv wr=>∃ k:Nat,iv=.int .i64 (k:Int)∧nv=.bool (nf k)∧Kp g0 g1 g2 w wr ∧
  ((k=0∧Bx wr g0 x0 y0∧Bx wr g1 x1 y1∧Bx wr g2 x2 y2)∨(k=1∧Bx wr g0 p0 q0∧Bx wr g1 x1 y1∧Bx wr g2 x2 y2)∨(k=2∧Bx wr g0 p0 q0∧Bx wr g1 p1 q1∧Bx wr g2 x2 y2)∨(k=3∧Bx wr g0 p0 q0∧Bx wr g1 p1 q1∧Bx wr g2 p2 q2))) (fun _ _ iv _=>3 - (intOf iv).toNat)
 case atStart=>exact⟨0,rfl,by rw [NN0.out],Kp.refl _ _ _ _,.inl ⟨rfl,B0.out,B1.out,B2.out⟩⟩
 case round=>
  obtain⟨k,rfl,rfl,hkp,⟨rfl,c0,c1,c2⟩ | ⟨rfl,c0,c1,c2⟩ | ⟨rfl,c0,c1,c2⟩ | ⟨rfl,c0,c1,c2⟩⟩:=hrel
  ·have KP:=Hd hkp;have D0:=Hd c0;have D1:=Hd c1;have D2:=Hd c2;have r0:=hkp.cell C0.out l0 l1 l2;have s0:_=some (.float .f64 x0:Value):=Blk.cell c0 0;have s1:_=some (.float .f64 y0:Value):=Blk.cell c0 1;clear hkp c0 c1 c2
   obtain⟨nn,hnn⟩:∃ b,nf 0=b:=⟨_,rfl⟩
   have hx:=HX0.out;rw [hnn] at hx ⊢;have HXX:=Hd hx;clear hnn hx;go_wp2_with fail;refine (H0.out _).mono ?_;rintro e w2 ⟨rfl,hb⟩;have KP2:=KP.out.below hb;have d0:=D0.out.keep hb;have d1:=D1.out.keep hb;have d2:=D2.out.keep hb;have s0:_=some (.float .f64 x0:Value):=Blk.cell d0 0;have s1:_=some (.float .f64 y0:Value):=Blk.cell d0 1;have f0:=Blk.frozen d0 0;have f1:=Blk.frozen d0 1;have DD0:=Hd d0;have DD1:=Hd d1;have DD2:=Hd d2;have KP3:=Hd KP2;clear r0 hb d0 d1 d2 KP2 D0 D1 D2 KP
   go_upto_region 6 with fail
   have d0:=DD0.out.set p0 q0;have d1:=DD1.out.far (r:=g0) (by first | exact n01 | exact n02 | exact n12 | exact n01.symm | exact n02.symm | exact n12.symm) (.float .f64 p0) (.float .f64 q0);have d2:=DD2.out.far (r:=g0) (by first | exact n01 | exact n02 | exact n12 | exact n01.symm | exact n02.symm | exact n12.symm) (.float .f64 p0) (.float .f64 q0);have d3:=KP3.out.set (r:=g0) (by simp) (.float .f64 p0) (.float .f64 q0);clear s0 s1 f0 f1 DD0 DD1 DD2 KP3
   obtain⟨V,hV⟩:∃ X,((w2.setCell ⟨g0,0,none⟩ (.float .f64 p0)).setCell ⟨g0,1,none⟩ (.float .f64 q0))=X:=⟨_,rfl⟩
   rw [hV] at d0 d1 d2 d3 ⊢;clear hV
   cases nn
   ·cases a0
    ·skip;have o1:=E0.out.2 rfl;refine wp_region_held_drew (S:=fun W'=>Bx W' g0 p0 q0∧Bx W' g1 x1 y1∧Bx W' g2 x2 y2∧Kp g0 g1 g2 w W') (by kernel_rfl) (by exact⟨d0,d1,d2,d3.below (Below.refl _ _).drew⟩) (fun hHeld=>?_);refine tk 0 ?_;(try simp only [Act.put,lay]);refine tk 1 ?_;(try simp only [Act.put,lay]);refine tk 2 ?_;(try simp only [Act.put,lay]);refine tk 3 ?_;(try simp only [Act.put,lay]);refine tk 4 ?_ (hv:=by intro W2 hSw;have qa:_=some (.float .f64 p0:Value):=Blk.cell hSw.1 0;have qb:_=some (.float .f64 q0:Value):=Blk.cell hSw.1 1;go_simp;(try with_reducible rfl));(try simp only [Act.put,lay]);refine rdy 5 (fun KK hKK=>?_);go_simp;refine (HE.out _).mono ?_;rintro e we ⟨rfl,hbe⟩;go_wp2_with fail;refine hKK.out _ _ (⟨hHeld.1.keep hbe,hHeld.2.1.keep hbe,hHeld.2.2.1.keep hbe,hHeld.2.2.2.below hbe⟩) (fun _=>?_);clear hKK KK hHeld;rename_i hHeld;(try simp only [Act.put,lay]);refine tk 6 ?_;(try simp only [Act.put,lay]);refine tk 7 ?_;(try simp only [Act.put,lay]);refine tk 8 ?_;(try simp only [Act.put,lay]);refine wpAnyH_done (by kernel_rfl) ?_ _;clear hbe o1;clear d0 d1 d2 d3;have HF:=Hd hHeld;clear hHeld;go_wp2
     go_roundw
     case rel=>exact⟨1,by go_num,by rw [HXX.out];rfl,HF.out.2.2.2,.inr (.inl ⟨rfl,HF.out.1,HF.out.2.1,HF.out.2.2.1⟩)⟩
     case measure=>simp [intOf]
    ·skip;obtain⟨o1,o2⟩:=E0.out.1 rfl;refine wp_region_held_drew (S:=fun W'=>Bx W' g0 p0 q0∧Bx W' g1 x1 y1∧Bx W' g2 x2 y2∧Kp g0 g1 g2 w W') (by kernel_rfl) (by exact⟨d0,d1,d2,d3.below (Below.refl _ _).drew⟩) (fun hHeld=>?_);refine tk 0 ?_;(try simp only [Act.put,lay]);refine tk 1 ?_;(try simp only [Act.put,lay]);refine tk 2 ?_;(try simp only [Act.put,lay]);refine tk 3 ?_;(try simp only [Act.put,lay]);refine tk 4 ?_ (hv:=by intro W2 hSw;have qa:_=some (.float .f64 p0:Value):=Blk.cell hSw.1 0;have qb:_=some (.float .f64 q0:Value):=Blk.cell hSw.1 1;go_simp;(try with_reducible rfl));(try simp only [Act.put,lay]);refine rdy 5 (fun KK hKK=>?_);go_simp;refine (HE.out _).mono ?_;rintro e we ⟨rfl,hbe⟩;go_wp2_with fail;refine hKK.out _ _ (⟨hHeld.1.keep hbe,hHeld.2.1.keep hbe,hHeld.2.2.1.keep hbe,hHeld.2.2.2.below hbe⟩) (fun _=>?_);clear hKK KK hHeld;rename_i hHeld;(try simp only [Act.put,lay]);refine tk 6 ?_;(try simp only [Act.put,lay]);refine tk 7 ?_;(try simp only [Act.put,lay]);refine tk 8 ?_;(try simp only [Act.put,lay]);refine wpAnyH_done (by kernel_rfl) ?_ _;clear hbe o1 o2;clear d0 d1 d2 d3;have HF:=Hd hHeld;clear hHeld;go_wp2
     go_roundw
     case rel=>exact⟨1,by go_num,by rw [HXX.out];rfl,HF.out.2.2.2,.inr (.inl ⟨rfl,HF.out.1,HF.out.2.1,HF.out.2.2.1⟩)⟩
     case measure=>simp [intOf]
   ·skip;refine wp_region_held_drew (S:=fun W'=>Bx W' g0 p0 q0∧Bx W' g1 x1 y1∧Bx W' g2 x2 y2∧Kp g0 g1 g2 w W') (by kernel_rfl) (by exact⟨d0,d1,d2,d3.below (Below.refl _ _).drew⟩) (fun hHeld=>?_);refine tk 0 ?_;(try simp only [Act.put,lay]);refine tk 1 ?_;(try simp only [Act.put,lay]);refine tkn 2 ?_;(try simp only [Act.put,lay]);refine tkn 3 ?_;(try simp only [Act.put,lay]);refine tkn 4 ?_;(try simp only [Act.put,lay]);refine tkn 5 ?_;(try simp only [Act.put,lay]);refine tkn 6 ?_;(try simp only [Act.put,lay]);refine tk 7 ?_;(try simp only [Act.put,lay]);refine tk 8 ?_;(try simp only [Act.put,lay]);refine wpAnyH_done (by kernel_rfl) ?_ _;clear d0 d1 d2 d3;have HF:=Hd hHeld;clear hHeld;go_wp2
    go_roundw
    case rel=>exact⟨1,by go_num,by rw [HXX.out];rfl,HF.out.2.2.2,.inr (.inl ⟨rfl,HF.out.1,HF.out.2.1,HF.out.2.2.1⟩)⟩
    case measure=>simp [intOf]
  ·have KP:=Hd hkp;have D0:=Hd c0;have D1:=Hd c1;have D2:=Hd c2;have r0:=hkp.cell C1.out l0 l1 l2;have s0:_=some (.float .f64 x1:Value):=Blk.cell c1 0;have s1:_=some (.float .f64 y1:Value):=Blk.cell c1 1;clear hkp c0 c1 c2
   obtain⟨nn,hnn⟩:∃ b,nf 1=b:=⟨_,rfl⟩
   have hx:=HX1.out;rw [hnn] at hx ⊢;have HXX:=Hd hx;clear hnn hx;go_wp2_with fail;refine (H1.out _).mono ?_;rintro e w2 ⟨rfl,hb⟩;have KP2:=KP.out.below hb;have d0:=D0.out.keep hb;have d1:=D1.out.keep hb;have d2:=D2.out.keep hb;have s0:_=some (.float .f64 x1:Value):=Blk.cell d1 0;have s1:_=some (.float .f64 y1:Value):=Blk.cell d1 1;have f0:=Blk.frozen d1 0;have f1:=Blk.frozen d1 1;have DD0:=Hd d0;have DD1:=Hd d1;have DD2:=Hd d2;have KP3:=Hd KP2;clear r0 hb d0 d1 d2 KP2 D0 D1 D2 KP
   go_upto_region 6 with fail
   have d0:=DD0.out.far (r:=g1) (by first | exact n01 | exact n02 | exact n12 | exact n01.symm | exact n02.symm | exact n12.symm) (.float .f64 p1) (.float .f64 q1);have d1:=DD1.out.set p1 q1;have d2:=DD2.out.far (r:=g1) (by first | exact n01 | exact n02 | exact n12 | exact n01.symm | exact n02.symm | exact n12.symm) (.float .f64 p1) (.float .f64 q1);have d3:=KP3.out.set (r:=g1) (by simp) (.float .f64 p1) (.float .f64 q1);clear s0 s1 f0 f1 DD0 DD1 DD2 KP3
   obtain⟨V,hV⟩:∃ X,((w2.setCell ⟨g1,0,none⟩ (.float .f64 p1)).setCell ⟨g1,1,none⟩ (.float .f64 q1))=X:=⟨_,rfl⟩
   rw [hV] at d0 d1 d2 d3 ⊢;clear hV
   cases nn
   ·cases a1
    ·skip;have o1:=E1.out.2 rfl;refine wp_region_held_drew (S:=fun W'=>Bx W' g0 p0 q0∧Bx W' g1 p1 q1∧Bx W' g2 x2 y2∧Kp g0 g1 g2 w W') (by kernel_rfl) (by exact⟨d0,d1,d2,d3.below (Below.refl _ _).drew⟩) (fun hHeld=>?_);refine tk 0 ?_;(try simp only [Act.put,lay]);refine tk 1 ?_;(try simp only [Act.put,lay]);refine tk 2 ?_;(try simp only [Act.put,lay]);refine tk 3 ?_;(try simp only [Act.put,lay]);refine tk 4 ?_ (hv:=by intro W2 hSw;have qa:_=some (.float .f64 p1:Value):=Blk.cell hSw.2.1 0;have qb:_=some (.float .f64 q1:Value):=Blk.cell hSw.2.1 1;go_simp;(try with_reducible rfl));(try simp only [Act.put,lay]);refine rdy 5 (fun KK hKK=>?_);go_simp;refine (HE.out _).mono ?_;rintro e we ⟨rfl,hbe⟩;go_wp2_with fail;refine hKK.out _ _ (⟨hHeld.1.keep hbe,hHeld.2.1.keep hbe,hHeld.2.2.1.keep hbe,hHeld.2.2.2.below hbe⟩) (fun _=>?_);clear hKK KK hHeld;rename_i hHeld;(try simp only [Act.put,lay]);refine tk 6 ?_;(try simp only [Act.put,lay]);refine tk 7 ?_;(try simp only [Act.put,lay]);refine tk 8 ?_;(try simp only [Act.put,lay]);refine wpAnyH_done (by kernel_rfl) ?_ _;clear hbe o1;clear d0 d1 d2 d3;have HF:=Hd hHeld;clear hHeld;go_wp2
     go_roundw
     case rel=>exact⟨2,by go_num,by rw [HXX.out];rfl,HF.out.2.2.2,.inr (.inr (.inl ⟨rfl,HF.out.1,HF.out.2.1,HF.out.2.2.1⟩))⟩
     case measure=>simp [intOf]
    ·skip;obtain⟨o1,o2⟩:=E1.out.1 rfl;refine wp_region_held_drew (S:=fun W'=>Bx W' g0 p0 q0∧Bx W' g1 p1 q1∧Bx W' g2 x2 y2∧Kp g0 g1 g2 w W') (by kernel_rfl) (by exact⟨d0,d1,d2,d3.below (Below.refl _ _).drew⟩) (fun hHeld=>?_);refine tk 0 ?_;(try simp only [Act.put,lay]);refine tk 1 ?_;(try simp only [Act.put,lay]);refine tk 2 ?_;(try simp only [Act.put,lay]);refine tk 3 ?_;(try simp only [Act.put,lay]);refine tk 4 ?_ (hv:=by intro W2 hSw;have qa:_=some (.float .f64 p1:Value):=Blk.cell hSw.2.1 0;have qb:_=some (.float .f64 q1:Value):=Blk.cell hSw.2.1 1;go_simp;(try with_reducible rfl));(try simp only [Act.put,lay]);refine rdy 5 (fun KK hKK=>?_);go_simp;refine (HE.out _).mono ?_;rintro e we ⟨rfl,hbe⟩;go_wp2_with fail;refine hKK.out _ _ (⟨hHeld.1.keep hbe,hHeld.2.1.keep hbe,hHeld.2.2.1.keep hbe,hHeld.2.2.2.below hbe⟩) (fun _=>?_);clear hKK KK hHeld;rename_i hHeld;(try simp only [Act.put,lay]);refine tk 6 ?_;(try simp only [Act.put,lay]);refine tk 7 ?_;(try simp only [Act.put,lay]);refine tk 8 ?_;(try simp only [Act.put,lay]);refine wpAnyH_done (by kernel_rfl) ?_ _;clear hbe o1 o2;clear d0 d1 d2 d3;have HF:=Hd hHeld;clear hHeld;go_wp2
     go_roundw
     case rel=>exact⟨2,by go_num,by rw [HXX.out];rfl,HF.out.2.2.2,.inr (.inr (.inl ⟨rfl,HF.out.1,HF.out.2.1,HF.out.2.2.1⟩))⟩
     case measure=>simp [intOf]
   ·skip;refine wp_region_held_drew (S:=fun W'=>Bx W' g0 p0 q0∧Bx W' g1 p1 q1∧Bx W' g2 x2 y2∧Kp g0 g1 g2 w W') (by kernel_rfl) (by exact⟨d0,d1,d2,d3.below (Below.refl _ _).drew⟩) (fun hHeld=>?_);refine tk 0 ?_;(try simp only [Act.put,lay]);refine tk 1 ?_;(try simp only [Act.put,lay]);refine tkn 2 ?_;(try simp only [Act.put,lay]);refine tkn 3 ?_;(try simp only [Act.put,lay]);refine tkn 4 ?_;(try simp only [Act.put,lay]);refine tkn 5 ?_;(try simp only [Act.put,lay]);refine tkn 6 ?_;(try simp only [Act.put,lay]);refine tk 7 ?_;(try simp only [Act.put,lay]);refine tk 8 ?_;(try simp only [Act.put,lay]);refine wpAnyH_done (by kernel_rfl) ?_ _;clear d0 d1 d2 d3;have HF:=Hd hHeld;clear hHeld;go_wp2
    go_roundw
    case rel=>exact⟨2,by go_num,by rw [HXX.out];rfl,HF.out.2.2.2,.inr (.inr (.inl ⟨rfl,HF.out.1,HF.out.2.1,HF.out.2.2.1⟩))⟩
    case measure=>simp [intOf]
  ·have KP:=Hd hkp;have D0:=Hd c0;have D1:=Hd c1;have D2:=Hd c2;have r0:=hkp.cell C2.out l0 l1 l2;have s0:_=some (.float .f64 x2:Value):=Blk.cell c2 0;have s1:_=some (.float .f64 y2:Value):=Blk.cell c2 1;clear hkp c0 c1 c2
   obtain⟨nn,hnn⟩:∃ b,nf 2=b:=⟨_,rfl⟩
   have hx:=HX2.out;rw [hnn] at hx ⊢;have HXX:=Hd hx;clear hnn hx;go_wp2_with fail;refine (H2.out _).mono ?_;rintro e w2 ⟨rfl,hb⟩;have KP2:=KP.out.below hb;have d0:=D0.out.keep hb;have d1:=D1.out.keep hb;have d2:=D2.out.keep hb;have s0:_=some (.float .f64 x2:Value):=Blk.cell d2 0;have s1:_=some (.float .f64 y2:Value):=Blk.cell d2 1;have f0:=Blk.frozen d2 0;have f1:=Blk.frozen d2 1;have DD0:=Hd d0;have DD1:=Hd d1;have DD2:=Hd d2;have KP3:=Hd KP2;clear r0 hb d0 d1 d2 KP2 D0 D1 D2 KP
   go_upto_region 6 with fail
   have d0:=DD0.out.far (r:=g2) (by first | exact n01 | exact n02 | exact n12 | exact n01.symm | exact n02.symm | exact n12.symm) (.float .f64 p2) (.float .f64 q2);have d1:=DD1.out.far (r:=g2) (by first | exact n01 | exact n02 | exact n12 | exact n01.symm | exact n02.symm | exact n12.symm) (.float .f64 p2) (.float .f64 q2);have d2:=DD2.out.set p2 q2;have d3:=KP3.out.set (r:=g2) (by simp) (.float .f64 p2) (.float .f64 q2);clear s0 s1 f0 f1 DD0 DD1 DD2 KP3
   obtain⟨V,hV⟩:∃ X,((w2.setCell ⟨g2,0,none⟩ (.float .f64 p2)).setCell ⟨g2,1,none⟩ (.float .f64 q2))=X:=⟨_,rfl⟩
   rw [hV] at d0 d1 d2 d3 ⊢;clear hV
   cases nn
   ·cases a2
    ·skip;have o1:=E2.out.2 rfl;refine wp_region_held_drew (S:=fun W'=>Bx W' g0 p0 q0∧Bx W' g1 p1 q1∧Bx W' g2 p2 q2∧Kp g0 g1 g2 w W') (by kernel_rfl) (by exact⟨d0,d1,d2,d3.below (Below.refl _ _).drew⟩) (fun hHeld=>?_);refine tk 0 ?_;(try simp only [Act.put,lay]);refine tk 1 ?_;(try simp only [Act.put,lay]);refine tk 2 ?_;(try simp only [Act.put,lay]);refine tk 3 ?_;(try simp only [Act.put,lay]);refine tk 4 ?_ (hv:=by intro W2 hSw;have qa:_=some (.float .f64 p2:Value):=Blk.cell hSw.2.2.1 0;have qb:_=some (.float .f64 q2:Value):=Blk.cell hSw.2.2.1 1;go_simp;(try with_reducible rfl));(try simp only [Act.put,lay]);refine rdy 5 (fun KK hKK=>?_);go_simp;refine (HE.out _).mono ?_;rintro e we ⟨rfl,hbe⟩;go_wp2_with fail;refine hKK.out _ _ (⟨hHeld.1.keep hbe,hHeld.2.1.keep hbe,hHeld.2.2.1.keep hbe,hHeld.2.2.2.below hbe⟩) (fun _=>?_);clear hKK KK hHeld;rename_i hHeld;(try simp only [Act.put,lay]);refine tk 6 ?_;(try simp only [Act.put,lay]);refine tk 7 ?_;(try simp only [Act.put,lay]);refine tk 8 ?_;(try simp only [Act.put,lay]);refine wpAnyH_done (by kernel_rfl) ?_ _;clear hbe o1;clear d0 d1 d2 d3;have HF:=Hd hHeld;clear hHeld;go_wp2
     go_roundw
     case rel=>exact⟨3,by go_num,by rw [HXX.out];rfl,HF.out.2.2.2,.inr (.inr (.inr (⟨rfl,HF.out.1,HF.out.2.1,HF.out.2.2.1⟩)))⟩
     case measure=>simp [intOf]
    ·skip;obtain⟨o1,o2⟩:=E2.out.1 rfl;refine wp_region_held_drew (S:=fun W'=>Bx W' g0 p0 q0∧Bx W' g1 p1 q1∧Bx W' g2 p2 q2∧Kp g0 g1 g2 w W') (by kernel_rfl) (by exact⟨d0,d1,d2,d3.below (Below.refl _ _).drew⟩) (fun hHeld=>?_);refine tk 0 ?_;(try simp only [Act.put,lay]);refine tk 1 ?_;(try simp only [Act.put,lay]);refine tk 2 ?_;(try simp only [Act.put,lay]);refine tk 3 ?_;(try simp only [Act.put,lay]);refine tk 4 ?_ (hv:=by intro W2 hSw;have qa:_=some (.float .f64 p2:Value):=Blk.cell hSw.2.2.1 0;have qb:_=some (.float .f64 q2:Value):=Blk.cell hSw.2.2.1 1;go_simp;(try with_reducible rfl));(try simp only [Act.put,lay]);refine rdy 5 (fun KK hKK=>?_);go_simp;refine (HE.out _).mono ?_;rintro e we ⟨rfl,hbe⟩;go_wp2_with fail;refine hKK.out _ _ (⟨hHeld.1.keep hbe,hHeld.2.1.keep hbe,hHeld.2.2.1.keep hbe,hHeld.2.2.2.below hbe⟩) (fun _=>?_);clear hKK KK hHeld;rename_i hHeld;(try simp only [Act.put,lay]);refine tk 6 ?_;(try simp only [Act.put,lay]);refine tk 7 ?_;(try simp only [Act.put,lay]);refine tk 8 ?_;(try simp only [Act.put,lay]);refine wpAnyH_done (by kernel_rfl) ?_ _;clear hbe o1 o2;clear d0 d1 d2 d3;have HF:=Hd hHeld;clear hHeld;go_wp2
     go_roundw
     case rel=>exact⟨3,by go_num,by rw [HXX.out];rfl,HF.out.2.2.2,.inr (.inr (.inr (⟨rfl,HF.out.1,HF.out.2.1,HF.out.2.2.1⟩)))⟩
     case measure=>simp [intOf]
   ·skip;refine wp_region_held_drew (S:=fun W'=>Bx W' g0 p0 q0∧Bx W' g1 p1 q1∧Bx W' g2 p2 q2∧Kp g0 g1 g2 w W') (by kernel_rfl) (by exact⟨d0,d1,d2,d3.below (Below.refl _ _).drew⟩) (fun hHeld=>?_);refine tk 0 ?_;(try simp only [Act.put,lay]);refine tk 1 ?_;(try simp only [Act.put,lay]);refine tkn 2 ?_;(try simp only [Act.put,lay]);refine tkn 3 ?_;(try simp only [Act.put,lay]);refine tkn 4 ?_;(try simp only [Act.put,lay]);refine tkn 5 ?_;(try simp only [Act.put,lay]);refine tkn 6 ?_;(try simp only [Act.put,lay]);refine tk 7 ?_;(try simp only [Act.put,lay]);refine tk 8 ?_;(try simp only [Act.put,lay]);refine wpAnyH_done (by kernel_rfl) ?_ _;clear d0 d1 d2 d3;have HF:=Hd hHeld;clear hHeld;go_wp2
    go_roundw
    case rel=>exact⟨3,by go_num,by rw [HXX.out];rfl,HF.out.2.2.2,.inr (.inr (.inr (⟨rfl,HF.out.1,HF.out.2.1,HF.out.2.2.1⟩)))⟩
    case measure=>simp [intOf]
  ·have r:=NN3.out;go_wp2
   go_ret
   exact⟨rfl,c0,c1,c2,hkp⟩
end Go.Proofs.YthlmlmfebpjgdaaGreatDoor
namespace Go.Proofs.YthlmlmfebpjgdaaGreatDoor
open Go.RowKit
attribute [local go_sem] run_store_float
theorem not_gt{i j:Int}(hi:-(M:Int)≤i∧i≤M)(hj:-(M:Int)≤j∧j≤M)(h:¬ j<i):(FloatKind.f64.format.order (pat i) (pat j) == some Ordering.gt)=false:=by
 rw [order_pat hi.1 hi.2 hj.1 hj.2]
 rcases Int.lt_trichotomy i j with h2 | h2 | h2
 ·rw [Int.compare_eq_lt.2 h2];rfl
 ·rw [Int.compare_eq_eq.2 h2];rfl
 ·exact absurd h2 h
theorem not_lt'{i j:Int}(hi:-(M:Int)≤i∧i≤M)(hj:-(M:Int)≤j∧j≤M)(h:¬ i<j):(FloatKind.f64.format.order (pat i) (pat j) == some Ordering.lt)=false:=by
 rw [order_pat hi.1 hi.2 hj.1 hj.2]
 rcases Int.lt_trichotomy i j with h2 | h2 | h2
 ·exact absurd h2 h
 ·rw [Int.compare_eq_eq.2 h2];rfl
 ·rw [Int.compare_eq_gt.2 h2];rfl
theorem rcut_gt(i j pd pu qd qu:Nat)(w:World)(o1:FloatKind.f64.format.order i qd=some .gt):
  Calls Tryz.prog 77 #[.agg #[.float .f64 i,.float .f64 j],.agg #[.float .f64 pd,.float .f64 pu],.agg #[.float .f64 qd,.float .f64 qu],.bool false] w fun e w'=>e=.returned (.agg #[.float .f64 9218868437227405312,.float .f64 18442240474082181120])∧Below w.heap.size w w':=by
 obtain⟨LB0,LG0_0,LG1_0,LG2_0,LR⟩:=bx4 w #[.float .f64 i,.float .f64 j] 28 #[.float .f64 pd,.float .f64 pu] 78 #[.float .f64 qd,.float .f64 qu] 78 #[.float .f64 0,.float .f64 0] 28;have LR0:=Hd (HasBlk.of (n:=2) LR.out rfl rfl);clear LR;have HE:=Hd emptyf
 go_enter Tryz.func77,Tryz.ntmps77
 go_wp2_with fail;refine (HE.out _).mono ?_;rintro e w1 ⟨rfl,hb1⟩;have LB1:=stB LB0 hb1 LB0.out.size;have LR1:=stR LR0 hb1;have LG0_1:=stG LG0_0 hb1;have LG1_1:=stG LG1_0 hb1;have LG2_1:=stG LG2_0 hb1;clear LB0 LR0 LG0_0 LG1_0 LG2_0;clear hb1 HE;obtain⟨ha0,hf0,ha1,hf1⟩:=LR1.out.sf2;obtain⟨hk0,hk1⟩:=LR1.out.sc2 (.float .f64 9218868437227405312) (.float .f64 18442240474082181120);have F:=Hd (below_sets (w0:=w) (r:=(w.heap.size+3)) (by omega) [.float .f64 9218868437227405312,.float .f64 18442240474082181120] 0 _ LB1.out)
 simp [sets] at hk0 hk1
 go_wp2;refine bodyPost_ret (v:=.agg #[.float .f64 9218868437227405312,.float .f64 18442240474082181120]) (by simp [results,Tryz.results77,go_sem,hk0,hk1]) rfl ?_
 exact⟨rfl,F.out⟩
theorem rcut_lt(i j pd pu qd qu:Nat)(w:World)(o1:(FloatKind.f64.format.order i qd == some Ordering.gt)=false)(o2:FloatKind.f64.format.order j pu=some .lt):
  Calls Tryz.prog 77 #[.agg #[.float .f64 i,.float .f64 j],.agg #[.float .f64 pd,.float .f64 pu],.agg #[.float .f64 qd,.float .f64 qu],.bool false] w fun e w'=>e=.returned (.agg #[.float .f64 9218868437227405312,.float .f64 18442240474082181120])∧Below w.heap.size w w':=by
 obtain⟨LB0,LG0_0,LG1_0,LG2_0,LR⟩:=bx4 w #[.float .f64 i,.float .f64 j] 28 #[.float .f64 pd,.float .f64 pu] 78 #[.float .f64 qd,.float .f64 qu] 78 #[.float .f64 0,.float .f64 0] 28;have LR0:=Hd (HasBlk.of (n:=2) LR.out rfl rfl);clear LR;have HE:=Hd emptyf
 go_enter Tryz.func77,Tryz.ntmps77
 go_wp2_with fail;refine (HE.out _).mono ?_;rintro e w1 ⟨rfl,hb1⟩;have LB1:=stB LB0 hb1 LB0.out.size;have LR1:=stR LR0 hb1;have LG0_1:=stG LG0_0 hb1;have LG1_1:=stG LG1_0 hb1;have LG2_1:=stG LG2_0 hb1;clear LB0 LR0 LG0_0 LG1_0 LG2_0;clear hb1 HE;obtain⟨ha0,hf0,ha1,hf1⟩:=LR1.out.sf2;obtain⟨hk0,hk1⟩:=LR1.out.sc2 (.float .f64 9218868437227405312) (.float .f64 18442240474082181120);have F:=Hd (below_sets (w0:=w) (r:=(w.heap.size+3)) (by omega) [.float .f64 9218868437227405312,.float .f64 18442240474082181120] 0 _ LB1.out)
 simp [sets] at hk0 hk1
 go_wp2;refine bodyPost_ret (v:=.agg #[.float .f64 9218868437227405312,.float .f64 18442240474082181120]) (by simp [results,Tryz.results77,go_sem,hk0,hk1]) rfl ?_
 exact⟨rfl,F.out⟩
theorem rcut_in(i j pd pu qd qu a b:Nat)(w:World)(o1:(FloatKind.f64.format.order i qd == some Ordering.gt)=false)(o2:(FloatKind.f64.format.order j pu == some Ordering.lt)=false)(m1:∀ W ts t,(Builtin.max_ ts t #[.float .f64 i,.float .f64 pd]).run Tryz.prog W=.ok (.float .f64 a) W)(m2:∀ W ts t,(Builtin.min_ ts t #[.float .f64 j,.float .f64 qu]).run Tryz.prog W=.ok (.float .f64 b) W):
  Calls Tryz.prog 77 #[.agg #[.float .f64 i,.float .f64 j],.agg #[.float .f64 pd,.float .f64 pu],.agg #[.float .f64 qd,.float .f64 qu],.bool false] w fun e w'=>e=.returned (.agg #[.float .f64 a,.float .f64 b])∧Below w.heap.size w w':=by
 obtain⟨LB0,LG0_0,LG1_0,LG2_0,LR⟩:=bx4 w #[.float .f64 i,.float .f64 j] 28 #[.float .f64 pd,.float .f64 pu] 78 #[.float .f64 qd,.float .f64 qu] 78 #[.float .f64 0,.float .f64 0] 28;have LR0:=Hd (HasBlk.of (n:=2) LR.out rfl rfl);clear LR
 go_enter Tryz.func77,Tryz.ntmps77
 go_wp2_with fail
 go_quiet (fail)
 have LB1:=Hd (below_drewN LB0.out nq);have LR1:=Hd (show HasBlk ((((((w.alloc (.cells #[.float .f64 i,.float .f64 j] 28)).alloc (.cells #[.float .f64 pd,.float .f64 pu] 78)).alloc (.cells #[.float .f64 qd,.float .f64 qu] 78)).alloc (.cells #[.float .f64 0,.float .f64 0] 28))).drewN nq) (w.heap.size+3) 28 2 from LR0.out);have LG0_1:=Hd (LG0_0.out.drewN nq);have LG1_1:=Hd (LG1_0.out.drewN nq);have LG2_1:=Hd (LG2_0.out.drewN nq);clear LB0 LR0 LG0_0 LG1_0 LG2_0
 obtain⟨W1,hW1⟩:∃ X,(((((w.alloc (.cells #[.float .f64 i,.float .f64 j] 28)).alloc (.cells #[.float .f64 pd,.float .f64 pu] 78)).alloc (.cells #[.float .f64 qd,.float .f64 qu] 78)).alloc (.cells #[.float .f64 0,.float .f64 0] 28))).drewN nq=X:=⟨_,rfl⟩
 rw [hW1] at LB1 LR1 LG0_1 LG1_1 LG2_1 ⊢;clear hW1;clear o1 o2;obtain⟨q0_0,q0_1⟩:=LG0_1.out.c2;obtain⟨q1_0,q1_1⟩:=LG1_1.out.c2;obtain⟨q2_0,q2_1⟩:=LG2_1.out.c2;obtain⟨ha0,hf0,ha1,hf1⟩:=LR1.out.sf2;obtain⟨hk0,hk1⟩:=LR1.out.sc2 (.float .f64 a) (.float .f64 b);have F:=Hd (below_sets (w0:=w) (r:=(w.heap.size+3)) (by omega) [.float .f64 a,.float .f64 b] 0 _ LB1.out)
 simp [sets] at hk0 hk1
 go_wp2;refine bodyPost_ret (v:=.agg #[.float .f64 a,.float .f64 b]) (by simp [results,Tryz.results77,go_sem,hk0,hk1]) rfl ?_
 exact⟨rfl,F.out⟩
theorem rcut_any(i j pd pu qd qu:Int)(w:World)(hi:-(M:Int)≤i∧i≤M)(hj:-(M:Int)≤j∧j≤M)(h1:-(M:Int)≤pd∧pd≤M)(h2:-(M:Int)≤pu∧pu≤M)(h3:-(M:Int)≤qd∧qd≤M)(h4:-(M:Int)≤qu∧qu≤M):
  Calls Tryz.prog 77 #[.agg #[.float .f64 (pat i),.float .f64 (pat j)],.agg #[.float .f64 (pat pd),.float .f64 (pat pu)],.agg #[.float .f64 (pat qd),.float .f64 (pat qu)],.bool false] w
   fun e w'=>e=.returned (.agg #[.float .f64 (pat (ct i j pd pu qd qu).1),.float .f64 (pat (ct i j pd pu qd qu).2)])∧Below w.heap.size w w':=by
 unfold ct
 by_cases c1:qd<i
 ·rw [if_pos (.inl c1),pat_max,pat_min]
  exact rcut_gt _ _ _ _ _ _ w (by rw [order_pat hi.1 hi.2 h3.1 h3.2,Int.compare_eq_gt.2 c1])
 ·by_cases c2:j<pu
  ·rw [if_pos (.inr c2),pat_max,pat_min]
   exact rcut_lt _ _ _ _ _ _ w (not_gt hi h3 c1) (by rw [order_pat hj.1 hj.2 h2.1 h2.2,Int.compare_eq_lt.2 c2])
  ·rw [if_neg (by omega)]
   exact rcut_in _ _ _ _ _ _ _ _ w (not_gt hi h3 c1) (not_lt' hj h2 c2) (fun W ts t=>run_maxf hi h1 W ts t) (fun W ts t=>run_minf hj h4 W ts t)
end Go.Proofs.YthlmlmfebpjgdaaGreatDoor
namespace Go.Proofs.YthlmlmfebpjgdaaGreatDoor
open Go.RowKit Ieee
theorem inf_word{x:Nat}(hx:x<18446744073709551616)(h:rungOf x=M):double.write (.infinity (sgn x))=x:=by
 show double.word (sgn x) double.infRung=x
 rw [infRung_eq];have h1:=Is.word (sgn x) (r:=M) (Nat.le_refl _);have h2:=pat_cases (b:=double.word (sgn x) M) (by have:=h1.lt;omega);have h3:=pat_cases hx;have h4:=h1.idx
 obtain⟨b,hb⟩:∃ b,double.word (sgn x) M=b:=⟨_,rfl⟩
 rw [hb] at h2 h4 ⊢;rw [M_val] at h h4
 rcases h3 with ⟨a,b1,c,d⟩ | ⟨a,b1,c,d⟩
 ·rw [c] at h4
  simp only [Bool.false_eq_true,if_false] at h4
  omega
 ·rw [c] at h4
  simp only [if_true] at h4
  omega
theorem inf_pat{x:Nat}(hx:x<18446744073709551616)(h:rungOf x=M):pat (idx x)=x:=by
 have h3:=pat_cases hx;rw [M_val] at *
 rcases h3 with ⟨a,b1,c,d⟩ | ⟨a,b1,c,d⟩
 ·rw [pat_nn (by omega)];omega
 ·rw [pat_neg (by omega)];omega
theorem add_inf_left{x y:Nat}(hx:x<18446744073709551616)(h:rungOf x=M)(hy:rungOf y≤M)(hno:rungOf y=M→sgn x=sgn y):double.add x y=some (pat (idx x)):=by
 rw [inf_pat hx h];unfold Format.add;rw [read_inf h]
 by_cases h2:rungOf y=M
 ·rw [read_inf h2]
  simp only [Datum.sum]
  rw [if_pos (hno h2)]
  simp only [Option.map_some]
  rw [inf_word hx h]
 ·obtain⟨m,k,e,-,-⟩:=read_fin (show fin y from by unfold fin;omega);rw [e]
  simp only [Datum.sum,Option.map_some]
  rw [inf_word hx h]
theorem add_inf_right{x y:Nat}(hy:y<18446744073709551616)(h:rungOf y=M)(hx:rungOf x<M):double.add x y=some (pat (idx y)):=by
 rw [inf_pat hy h];unfold Format.add;obtain⟨m,k,e,-,-⟩:=read_fin (show fin x from hx);rw [read_inf h,e]
 simp only [Datum.sum,Option.map_some]
 rw [inf_word hy h]
def ad(d i j:Int):Int:=if i=M∨i=-(M:Int) then i else if j=M∨j=-(M:Int) then j else rndI d (fl i+fl j)
theorem nud_sum{d:Int}(hd:d=-1∨d=1){s e:Nat}{n:Int}{j k:Int}(hs:Fl s (R n))(he:Fl e (n - R n))(hn:val j+val k=n):nud d (idx s) (idx e)=rndI d (fl j+fl k):=by
 rw [fl_add,hn];have h0:=idx_natAbs s;have hf:rungOf s<M:=hs.fin
 have e1:idx e<0↔n<R n:=by
  have h:=@val_lt_iff (idx e) 0;rw [val_zero,he.val] at h
  omega
 have e2:0<idx e↔R n<n:=by
  have h:=@val_lt_iff 0 (idx e);rw [val_zero,he.val] at h
  omega
 rcases hd with rfl | rfl
 ·rw [near_down hs.val (by omega) (by omega)];unfold nud
  by_cases h:n<R n
  ·rw [if_pos h,if_pos ⟨rfl,e1.2 h⟩]
  ·rw [if_neg h,if_neg (fun h'=>h (e1.1 h'.2)),if_neg (by omega)]
 ·rw [near_up hs.val (by omega) (by omega)];unfold nud
  by_cases h:R n<n
  ·rw [if_pos h,if_neg (by omega),if_pos ⟨rfl,e2.2 h⟩]
  ·rw [if_neg h,if_neg (by omega),if_neg (fun h'=>h (e2.1 h'.2))]
theorem not_great{x t T:Nat}(h:rungOf x≤(t+1)*2^52)(hT:T=52+t):(val (idx x)).natAbs≤2^T:=by
 rw [val_natAbs,idx_natAbs];have h1:mag (rungOf x)≤mag ((t+1)*2^52):=mag_le_iff.2 h;rw [mag_two_pow,← Nat.pow_add] at h1;rw [hT];exact h1
theorem Fl_self{x:Nat}(hx:x<18446744073709551616)(h:rungOf x<M):Fl x (val (idx x)):=⟨hx,h,rfl⟩
theorem great_ord{r:Nat}(h:r≤M):(r≤8660422083433463808∧(FloatKind.f64.format.order r 8660422083433463808=some .lt∨FloatKind.f64.format.order r 8660422083433463808=some .eq))∨(8660422083433463808<r∧FloatKind.f64.format.order r 8660422083433463808=some .gt):=by
 have hM:M=9218868437227405312:=rfl;have g1:rungOf 8660422083433463808=8660422083433463808∧idx 8660422083433463808=((8660422083433463808:Nat):Int):=rung_idx (by decide);have r1:=rung_idx (b:=r) (by omega)
 rcases Nat.lt_trichotomy r 8660422083433463808 with h1 | h1 | h1
 ·exact .inl ⟨by omega,.inl (ord_lt (by omega) (by omega) (by omega))⟩
 ·exact .inl ⟨by omega,.inr (ord_eq (by omega) (by omega) (by omega))⟩
 ·exact .inr ⟨h1,ord_gt (by omega) (by omega) (by omega)⟩
end Go.Proofs.YthlmlmfebpjgdaaGreatDoor
