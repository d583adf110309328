/-
Walks: package vergeref2, Minus.
Walks: package vergeref2, RAdd.
Walks: package vergeref6, None.
Walks: package vergeref6, sum, None, Plus.
Sets by their indexes: Minus; pieces that a call answers.
Sets by their indexes: Minus, Plus, piece of a sum, all of one piece.
-/
import Derived.Test.YtmjkmoahkanblaaGreatM31
import Derived.Test.YtmjkmoahkanblaaGreatM04
import Derived.Test.YtmjkmoahkanblaaGreatM07
import Derived.Test.YtmjkmoahkanblaaGreatM14
import Derived.Test.YtmjkmoahkanblaaGreatPLessT
import Derived.Test.YtmjkmoahkanblaaGreatM09
import Derived.Test.YtmjkmoahkanblaaGreatM30
import Derived.Test.YtmjkmoahkanblaaGreatPAddT
import Derived.Test.YtmjkmoahkanblaaGreatPMathT
set_option linter.unusedSimpArgs false
set_option linter.unusedVariables false
set_option maxHeartbeats 12800000
namespace Go.Proofs.YtmjkmoahkanblaaGreat
open Go.RowKit
theorem nminus_any(A B:Option Addr)(n c m d:Nat)(xs ys:List Nat)(w:World)(hx:U32s w A n c xs)(hy:U32s w B m d ys)(hs1:n≤34359738360)(hle:num ys≤num xs):
  Calls Tryz.prog 198 #[.slice A n c,.slice B m d] w (NewU32 w (digs (num xs - num ys))):=by
 have HX:=Hd hx;have HY:=Hd hy;have HLE:=Hd hle;clear hx hy hle
 go_enter Tryz.func198,Tryz.ntmps198
 go_wp2
 go_loopw [5,6,7] (fun v cv iv wr=>∃ (i k:Nat) (ls:List Nat),iv=.int .i64 i∧cv=.int .u64 k∧i≤n∧MinusInv xs ys ls i k∧Own wr w.heap.size v ls∧Below w.heap.size w wr) (fun _ _ iv _=>n - (intOf iv).toNat)
 case atStart=>exact⟨0,0,[],rfl,rfl,Nat.zero_le _,MinusInv.start _ _,Own.nil _ _,Below.refl _ _⟩
 case round=>
  obtain⟨i,k,ls,rfl,rfl,hi,hinv,hown,hb⟩:=hrel;have hk1:=hinv.carry;have hlen:=hinv.len;have HI:=Hd hinv;have HO:=Hd hown;clear hinv hown;have hbs:=hb.size;have HL:=Hd hlen;clear hlen
  by_cases ha:i<n
  ·obtain⟨ad,e,hc⟩:=(HX.out.below hb).cell (j:=i) ha
   cases e
   have hx1:=HX.out.lt i;have hst:=fun d c'=>HI.out.step (d:=d) (c':=c')
   obtain⟨x,hxx⟩:∃ r,xs[i]?.getD 0=r:=⟨_,rfl⟩
   rw [hxx] at hc hx1
   simp only [hxx] at hst
   clear hxx
   by_cases hbb:i<m
   ·obtain⟨ad',e,hc'⟩:=(HY.out.below hb).cell (j:=i) hbb
    cases e
    have hy1:=HY.out.lt i
    obtain⟨y,hyy⟩:∃ r,ys[i]?.getD 0=r:=⟨_,rfl⟩
    rw [hyy] at hc' hy1
    simp only [hyy] at hst
    clear hyy
    by_cases hxy:x<k+y
    ·obtain⟨D,hD⟩:∃ D:Nat,D+(k+y)=x+4294967296:=⟨x+4294967296 - (k+y),by omega⟩
     have hlt:(x:Int)<(k:Int)+(y:Int):=by omega
     have e1:(x:Int)+4294967296 - ((k:Int)+(y:Int))=(D:Int):=by omega
     have hD1:D<4294967296:=by omega
     have HS:=Hd (hst D 1 hD1 (by omega) (by omega));clear hst hD hxy
     go_wp2_with (at_builtin;refine wpList_append_u32 _ rfl _ _ rfl w.heap.size _ ls rfl (HO.out.alloc _) ⟨_,0,none⟩ 1 D rfl ?c1al ?c2al ?c3al ?_)
     try case c1al=>simp
     case c2al=>rw [HL.out];omega
     case c3al=>first | omega | (simp;omega)
     intro v' w' hown' hgrow;have HO':=Hd hown';have hb':Below w.heap.size w w':=(hb.alloc hbs _).grown hgrow (by simp;omega) (fun g hg=>(HO.out.lt g hg).1);clear hown' hb hgrow hc hc' hbs hlt e1;go_wp2
     go_roundw
     case rel=>exact⟨i+1,1,_,by go_num,by go_num,by omega,HS.out,HO'.out,hb'⟩
     case measure=>simp [intOf];omega
    ·obtain⟨D,hD⟩:∃ D:Nat,D+(k+y)=x:=⟨x - (k+y),by omega⟩
     have hlt:¬ (x:Int)<(k:Int)+(y:Int):=by omega
     have e1:(x:Int) - ((k:Int)+(y:Int))=(D:Int):=by omega
     have hD1:D<4294967296:=by omega
     have HS:=Hd (hst D 0 hD1 (by omega) (by omega));clear hst hD hxy
     go_wp2_with (at_builtin;refine wpList_append_u32 _ rfl _ _ rfl w.heap.size _ ls rfl (HO.out.alloc _) ⟨_,0,none⟩ 1 D rfl ?c1ag ?c2ag ?c3ag ?_)
     try case c1ag=>simp
     case c2ag=>rw [HL.out];omega
     case c3ag=>first | omega | (simp;omega)
     intro v' w' hown' hgrow;have HO':=Hd hown';have hb':Below w.heap.size w w':=(hb.alloc hbs _).grown hgrow (by simp;omega) (fun g hg=>(HO.out.lt g hg).1);clear hown' hb hgrow hc hc' hbs hlt e1;go_wp2
     go_roundw
     case rel=>exact⟨i+1,0,_,by go_num,by go_num,by omega,HS.out,HO'.out,hb'⟩
     case measure=>simp [intOf];omega
   ·have hz:ys[i]?.getD 0=0:=by rw [List.getElem?_eq_none (by rw [HY.out.len];omega)];rfl
    simp only [hz] at hst
    clear hz
    by_cases hxy:x<k
    ·obtain⟨D,hD⟩:∃ D:Nat,D+(k)=x+4294967296:=⟨x+4294967296 - (k),by omega⟩
     have hlt:(x:Int)<(k:Int):=by omega
     have e1:(x:Int)+4294967296 - ((k:Int))=(D:Int):=by omega
     have hD1:D<4294967296:=by omega
     have HS:=Hd (hst D 1 hD1 (by omega) (by omega));clear hst hD hxy
     go_wp2_with (at_builtin;refine wpList_append_u32 _ rfl _ _ rfl w.heap.size _ ls rfl (HO.out.alloc _) ⟨_,0,none⟩ 1 D rfl ?c1bl ?c2bl ?c3bl ?_)
     try case c1bl=>simp
     case c2bl=>rw [HL.out];omega
     case c3bl=>first | omega | (simp;omega)
     intro v' w' hown' hgrow;have HO':=Hd hown';have hb':Below w.heap.size w w':=(hb.alloc hbs _).grown hgrow (by simp;omega) (fun g hg=>(HO.out.lt g hg).1);clear hown' hb hgrow hc hbs hlt e1;go_wp2
     go_roundw
     case rel=>exact⟨i+1,1,_,by go_num,by go_num,by omega,HS.out,HO'.out,hb'⟩
     case measure=>simp [intOf];omega
    ·obtain⟨D,hD⟩:∃ D:Nat,D+(k)=x:=⟨x - (k),by omega⟩
     have hlt:¬ (x:Int)<(k:Int):=by omega
     have e1:(x:Int) - ((k:Int))=(D:Int):=by omega
     have hD1:D<4294967296:=by omega
     have HS:=Hd (hst D 0 hD1 (by omega) (by omega));clear hst hD hxy
     go_wp2_with (at_builtin;refine wpList_append_u32 _ rfl _ _ rfl w.heap.size _ ls rfl (HO.out.alloc _) ⟨_,0,none⟩ 1 D rfl ?c1bg ?c2bg ?c3bg ?_)
     try case c1bg=>simp
     case c2bg=>rw [HL.out];omega
     case c3bg=>first | omega | (simp;omega)
     intro v' w' hown' hgrow;have HO':=Hd hown';have hb':Below w.heap.size w w':=(hb.alloc hbs _).grown hgrow (by simp;omega) (fun g hg=>(HO.out.lt g hg).1);clear hown' hb hgrow hc hbs hlt e1;go_wp2
     go_roundw
     case rel=>exact⟨i+1,0,_,by go_num,by go_num,by omega,HS.out,HO'.out,hb'⟩
     case measure=>simp [intOf];omega
  ·have hW:=HI.out.1;have hD:=HI.out.done (by rw [HX.out.len];omega) HX.out.w32 HY.out.w32 HLE.out;obtain⟨A',c',rfl⟩:=HO.out.form;have hu:=HO.out.u32s rfl hW (by rw [HL.out];omega);have hnorm:=norm_any _ _ _ _ _ hu (by rw [HL.out];omega);rw [trim_eq_digs hW,hD] at hnorm;have HN:=Hd hnorm;have HB:=Hd hb;clear hnorm hu hW hD hb hbs HI HO;go_wp2_with fail;refine HN.out.mono ?_;rintro e w'' ⟨A2,n2,c2,rfl,hu2,hb2⟩;have H2:=Hd (show NewU32 w (digs (num xs - num ys)) (.returned (.slice A2 n2 c2)) w'' from NewU32.trans ⟨A2,n2,c2,rfl,hu2,hb2⟩ HB.out);clear hu2 hb2 HB;go_wp2
   go_ret
   exact H2.out
theorem rv_add(n1:Bool)(p1 q1:Nat)(n2:Bool)(p2 q2:Nat)(h1:0<q1)(h2:0<q2):
  rv n1 p1 q1+rv n2 p2 q2=rv (dsum n1 (p1*q2) n2 (p2*q1)).1 (dsum n1 (p1*q2) n2 (p2*q1)).2 (q1*q2):=by
 have e1:rv n1 p1 q1=rv n1 (p1*q2) (q1*q2):=rv_eq h1 (Nat.mul_pos h1 h2) (by ac_rfl);have e2:rv n2 p2 q2=rv n2 (p2*q1) (q1*q2):=rv_eq h2 (Nat.mul_pos h1 h2) (by ac_rfl);rw [e1,e2,rv_over,rv_over n2,rv_over (dsum n1 (p1*q2) n2 (p2*q1)).1,dsum_val]
 grind
theorem times_v(A B:Option Addr)(n c m d a b:Nat)(w:World)(hx:U32s w A n c (digs a))(hy:U32s w B m d (digs b))(hs1:n≤8589934592)(hs2:m≤8589934592):
  Calls Tryz.prog 143 #[.slice A n c,.slice B m d] w (NewU32 w (digs (a*b))):=by
 have h:=times_any A B n c m d _ _ w hx hy hs1 hs2;rw [num_digs,num_digs] at h;exact h
theorem plus_v(A B:Option Addr)(n c m d a b:Nat)(w:World)(hx:U32s w A n c (digs a))(hy:U32s w B m d (digs b))(hs1:n≤8589934592)(hs2:m≤8589934592):
  Calls Tryz.prog 197 #[.slice A n c,.slice B m d] w (NewU32 w (digs (a+b))):=by
 have h:=plus_any A B n c m d _ _ w hx hy (by omega) (by omega);rw [num_digs,num_digs] at h;exact h
theorem minus_v(A B:Option Addr)(n c m d a b:Nat)(w:World)(hx:U32s w A n c (digs a))(hy:U32s w B m d (digs b))(hs1:n≤8589934592)(hle:b≤a):
  Calls Tryz.prog 198 #[.slice A n c,.slice B m d] w (NewU32 w (digs (a - b))):=by
 have h:=nminus_any A B n c m d _ _ w hx hy (by omega) (by rw [num_digs,num_digs];exact hle);rw [num_digs,num_digs] at h;exact h
theorem cmp_w(A B:Option Addr)(n c m d a b:Nat)(w:World)(hx:U32s w A n c (digs a))(hy:U32s w B m d (digs b)):
  Calls Tryz.prog 142 #[.slice A n c,.slice B m d] w fun e w'=>e=.returned (.int .i64 (cmp3 a b))∧Below w.heap.size w w':=by
 have h:=cmp_any A B n c m d _ _ w hx hy;rw [num_digs,num_digs] at h;refine h.mono ?_;rintro e w' ⟨rfl,k,rfl⟩
 exact⟨rfl,below_drewN (Below.refl _ _) k⟩
theorem radd_same(K:Nat)(g:Bool)(p1 q1 p2 q2:Nat)(A1:Option Addr)(n1 c1:Nat)(B1:Option Addr)(m1 d1:Nat)(A2:Option Addr)(n2 c2:Nat)(B2:Option Addr)(m2 d2:Nat)(w:World)(u1:U32s w A1 n1 c1 (digs p1))(v1:U32s w B1 m1 d1 (digs q1))(u2:U32s w A2 n2 c2 (digs p2))(v2:U32s w B2 m2 d2 (digs q2))(l1:n1≤8589934592)(l2:m1≤8589934592)(l3:n2≤8589934592)(l4:m2≤8589934592)(hq1:0<q1)(hq2:0<q2)(hk1:p1*q2<2^(32*K))(hk2:p2*q1<2^(32*K))(hk3:q1*q2<2^(32*K))(hk4:p1*q2+p2*q1<2^(32*K))(hK:1≤K)(hK2:K≤1073741824):
  Calls Tryz.prog 138 #[.agg #[.bool g,.slice A1 n1 c1,.slice B1 m1 d1],.agg #[.bool g,.slice A2 n2 c2,.slice B2 m2 d2]] w (NewRat w K (rv g (p1*q2+p2*q1) (q1*q2))):=by
 have T1:=Hd fun W (hW:Below w.heap.size w W)=>times_v A1 B2 n1 c1 m2 d2 p1 q2 W (u1.below hW) (v2.below hW) l1 l4;have T2:=Hd fun W (hW:Below w.heap.size w W)=>times_v A2 B1 n2 c2 m1 d1 p2 q1 W (u2.below hW) (v1.below hW) l3 l2;have T3:=Hd fun W (hW:Below w.heap.size w W)=>times_v B1 B2 m1 d1 m2 d2 q1 q2 W (v1.below hW) (v2.below hW) l2 l4;have HQ:=Hd (Nat.mul_pos hq1 hq2)
 obtain⟨X,eX⟩:∃ x,p1*q2=x:=⟨_,rfl⟩
 obtain⟨Y,eY⟩:∃ x,p2*q1=x:=⟨_,rfl⟩
 obtain⟨D,eD⟩:∃ x,q1*q2=x:=⟨_,rfl⟩
 rw [eX,eY] at hk4 ⊢;rw [eX] at T1 hk1;rw [eY] at T2 hk2;rw [eD] at T3 HQ hk3 ⊢;have T4:=Hd fun W (A:Option Addr) (n c:Nat) (B:Option Addr) (m d:Nat) (hx:U32s W A n c (digs X)) (hy:U32s W B m d (digs Y))=>plus_v A B n c m d X Y W hx hy (by have:=hx.len_le hk1;omega) (by have:=hy.len_le hk2;omega)
 obtain⟨Z,eZ⟩:∃ x,X+Y=x:=⟨_,rfl⟩
 rw [eZ] at T4 hk4 ⊢;have T5:=Hd fun W (A:Option Addr) (n c:Nat) (B:Option Addr) (m d:Nat) (hx:U32s W A n c (digs Z)) (hy:U32s W B m d (digs D))=>frac_plain g A B n c m d K Z D W hx hy HQ.out hk4 hk3 hK hK2;clear u1 v1 u2 v2 l1 l2 l3 l4 hq1 hq2 hk1 hk2 hk3 hk4 hK hK2 eX eY eD eZ HQ;obtain⟨LB0,LG0_0,LG1_0,LR⟩:=bx3 w #[.bool g,.slice A1 n1 c1,.slice B1 m1 d1] 60 #[.bool g,.slice A2 n2 c2,.slice B2 m2 d2] 60 #[.bool false,.slice none 0 0,.slice none 0 0] 60;have LR0:=Hd (HasBlk.of (n:=3) LR.out rfl rfl);clear LR
 go_enter Tryz.func138,Tryz.ntmps138
 go_wp2_with fail;refine (T1.out _ LB0.out).mono ?_;rintro e w1 ⟨AX,nX,cX,rfl,hX,hb1⟩;have LB1:=stB LB0 hb1 LB0.out.size;have LR1:=stR LR0 hb1;have LG0_1:=stG LG0_0 hb1;have LG1_1:=stG LG1_0 hb1;clear LB0 LR0 LG0_0 LG1_0;obtain⟨q0_0,q0_1,q0_2⟩:=LG0_1.out.c3;obtain⟨q1_0,q1_1,q1_2⟩:=LG1_1.out.c3;have HX1:=Hd hX;clear hX hb1 T1;go_wp2_with fail;refine (T2.out _ LB1.out).mono ?_;rintro e w2 ⟨AY,nY,cY,rfl,hY,hb2⟩;have LB2:=stB LB1 hb2 LB1.out.size;have LR2:=stR LR1 hb2;have LG0_2:=stG LG0_1 hb2;have LG1_2:=stG LG1_1 hb2;clear LB1 LR1 LG0_1 LG1_1;have HX2:=Hd (HX1.out.below hb2);have HY2:=Hd hY;clear hY hb2 HX1 T2 q0_0 q0_1 q0_2 q1_0 q1_1 q1_2;obtain⟨q0_0,q0_1,q0_2⟩:=LG0_2.out.c3;obtain⟨q1_0,q1_1,q1_2⟩:=LG1_2.out.c3;go_wp2_with fail;refine (T3.out _ LB2.out).mono ?_;rintro e w3 ⟨AD,nD,cD,rfl,hD,hb3⟩;have LB3:=stB LB2 hb3 LB2.out.size;have LR3:=stR LR2 hb3;have LG0_3:=stG LG0_2 hb3;have LG1_3:=stG LG1_2 hb3;clear LB2 LR2 LG0_2 LG1_2;have HX3:=Hd (HX2.out.below hb3);have HY3:=Hd (HY2.out.below hb3);have HD3:=Hd hD;clear hD hb3 HX2 HY2 T3 q0_0 q0_1 q0_2 q1_0 q1_1 q1_2;have q0_0:=LG0_3.out.ce 0 rfl;have q1_0:=LG1_3.out.ce 0 rfl;go_wp2_with fail;clear q0_0 q1_0;refine wp_region_held_drew (S:=fun W'=>Blk W' w.heap.size 60 #[.bool g,.slice A1 n1 c1,.slice B1 m1 d1]∧Blk W' (w.heap.size+1) 60 #[.bool g,.slice A2 n2 c2,.slice B2 m2 d2]∧HasBlk W' (w.heap.size+2) 60 3∧Below w.heap.size w W') (by kernel_rfl) (by exact⟨LG0_3.out.drew,LG1_3.out.drew,LR3.out.drew,LB3.out.drew⟩) (fun hHeld=>?_)
 refine tk 0 ?_;(try simp only [Act.put,lay]);refine tk 1 ?_ (hv:=by intro W2 hSw;obtain⟨q0,q1,q2⟩:=hSw.1.c3;go_simp;(try with_reducible rfl));(try simp only [Act.put,lay]);refine tk 2 ?_;(try simp only [Act.put,lay]);refine tk 3 ?_;(try simp only [Act.put,lay]);refine tk 5 ?_;(try simp only [Act.put,lay]);refine rdy 4 (fun KK hKK=>?_);go_simp;refine (T4.out _ _ _ _ _ _ _ HX3.out.drew HY3.out.drew).mono ?_;rintro e w6 ⟨AS,nS,cS,rfl,hS,hbA⟩;go_wp2_with fail;refine hKK.out _ _ (⟨hHeld.1.keep hbA,hHeld.2.1.keep hbA,hHeld.2.2.1.keep hbA,hHeld.2.2.2.trans (hbA.mono hHeld.2.2.2.size)⟩) (fun _=>?_);clear hKK KK hHeld;rename_i hHeld;(try simp only [Act.put,lay]);refine rdy 6 (fun KK hKK=>?_);go_simp;refine (T5.out _ _ _ _ _ _ _ hS (HD3.out.drew.below hbA)).mono ?_;rintro e w7 ⟨gz,vn,vd,rfl,hR,hbB⟩;obtain⟨AZ,nZ,cZ,BZ,mZ,dZ,rfl,rfl⟩:=hR.shape;go_wp2_with fail;refine hKK.out _ _ (⟨hHeld.1.keep hbB,hHeld.2.1.keep hbB,hHeld.2.2.1.keep hbB,hHeld.2.2.2.trans (hbB.mono hHeld.2.2.2.size)⟩) (fun _=>?_);clear hKK KK hHeld;rename_i hHeld;(try simp only [Act.put,lay]);refine rdy 7 (fun KK hKK=>?_);have ha0:=hHeld.2.2.1.someCell 0 (by decide);have hf0:=hHeld.2.2.1.frozen 0;have ha1:=hHeld.2.2.1.someCell 1 (by decide);have hf1:=hHeld.2.2.1.frozen 1;have ha2:=hHeld.2.2.1.someCell 2 (by decide);have hf2:=hHeld.2.2.1.frozen 2;have HK:=Hd (hHeld.2.2.1.setCell [.bool gz,.slice AZ nZ cZ,.slice BZ mZ dZ] rfl);have F:=Hd (below_sets (w0:=w) (r:=(w.heap.size+2)) (by omega) [.bool gz,.slice AZ nZ cZ,.slice BZ mZ dZ] 0 _ hHeld.2.2.2);have FR:=Hd (hHeld.2.2.1.rat hR [.bool gz,.slice AZ nZ cZ,.slice BZ mZ dZ])
 go_simp;refine hKK.out _ _ (⟨hHeld.1.other (by omega) 0 [.bool gz,.slice AZ nZ cZ,.slice BZ mZ dZ],hHeld.2.1.other (by omega) 0 [.bool gz,.slice AZ nZ cZ,.slice BZ mZ dZ],hHeld.2.2.1.sets [.bool gz,.slice AZ nZ cZ,.slice BZ mZ dZ] rfl rfl,below_sets (by omega) [.bool gz,.slice AZ nZ cZ,.slice BZ mZ dZ] 0 _ hHeld.2.2.2⟩) (fun _=>?_);clear hKK KK hHeld;rename_i hHeld;(try simp only [Act.put,lay]);refine wpAnyH_done (by kernel_rfl) ?_ _;have hk0:=HK.out 0 (by decide);have hk1:=HK.out 1 (by decide);have hk2:=HK.out 2 (by decide)
 simp [sets] at hk0 hk1 hk2
 clear hHeld HK hS hbA hR hbB;clear LB3 LR3 LG0_3 LG1_3;go_wp2;refine bodyPost_ret (v:=.agg #[.bool gz,.slice AZ nZ cZ,.slice BZ mZ dZ]) (by simp [results,Tryz.results138,go_sem,hk0,hk1,hk2]) rfl ?_
 exact⟨_,_,_,rfl,FR.out,F.out⟩
theorem radd_ge(K:Nat)(g h:Bool)(p1 q1 p2 q2:Nat)(A1:Option Addr)(n1 c1:Nat)(B1:Option Addr)(m1 d1:Nat)(A2:Option Addr)(n2 c2:Nat)(B2:Option Addr)(m2 d2:Nat)(w:World)(u1:U32s w A1 n1 c1 (digs p1))(v1:U32s w B1 m1 d1 (digs q1))(u2:U32s w A2 n2 c2 (digs p2))(v2:U32s w B2 m2 d2 (digs q2))(l1:n1≤8589934592)(l2:m1≤8589934592)(l3:n2≤8589934592)(l4:m2≤8589934592)(hgh:(g == h)=false)(hle:p2*q1≤p1*q2)(hq1:0<q1)(hq2:0<q2)(hk1:p1*q2<2^(32*K))(hk2:p2*q1<2^(32*K))(hk3:q1*q2<2^(32*K))(hk4:p1*q2 - p2*q1<2^(32*K))(hK:1≤K)(hK2:K≤1073741824):
  Calls Tryz.prog 138 #[.agg #[.bool g,.slice A1 n1 c1,.slice B1 m1 d1],.agg #[.bool h,.slice A2 n2 c2,.slice B2 m2 d2]] w (NewRat w K (rv g (p1*q2 - p2*q1) (q1*q2))):=by
 have T1:=Hd fun W (hW:Below w.heap.size w W)=>times_v A1 B2 n1 c1 m2 d2 p1 q2 W (u1.below hW) (v2.below hW) l1 l4;have T2:=Hd fun W (hW:Below w.heap.size w W)=>times_v A2 B1 n2 c2 m1 d1 p2 q1 W (u2.below hW) (v1.below hW) l3 l2;have T3:=Hd fun W (hW:Below w.heap.size w W)=>times_v B1 B2 m1 d1 m2 d2 q1 q2 W (v1.below hW) (v2.below hW) l2 l4;have HQ:=Hd (Nat.mul_pos hq1 hq2)
 obtain⟨X,eX⟩:∃ x,p1*q2=x:=⟨_,rfl⟩
 obtain⟨Y,eY⟩:∃ x,p2*q1=x:=⟨_,rfl⟩
 obtain⟨D,eD⟩:∃ x,q1*q2=x:=⟨_,rfl⟩
 rw [eX,eY] at hk4 ⊢;rw [eX,eY] at hle;rw [eX] at T1 hk1;rw [eY] at T2 hk2;rw [eD] at T3 HQ hk3 ⊢;have T4:=Hd fun W (A:Option Addr) (n c:Nat) (B:Option Addr) (m d:Nat) (hx:U32s W A n c (digs X)) (hy:U32s W B m d (digs Y))=>minus_v A B n c m d X Y W hx hy (by have:=hx.len_le hk1;omega) hle
 obtain⟨Z,eZ⟩:∃ x,X - Y=x:=⟨_,rfl⟩
 rw [eZ] at T4 hk4 ⊢;have T5:=Hd fun W (A:Option Addr) (n c:Nat) (B:Option Addr) (m d:Nat) (hx:U32s W A n c (digs Z)) (hy:U32s W B m d (digs D))=>frac_plain g A B n c m d K Z D W hx hy HQ.out hk4 hk3 hK hK2;have HC:=Hd fun W (A:Option Addr) (n c:Nat) (B:Option Addr) (m d:Nat) (hx:U32s W A n c (digs X)) (hy:U32s W B m d (digs Y))=>cmp_w A B n c m d X Y W hx hy
 obtain⟨cc,ecc⟩:∃ x,cmp3 X Y=x:=⟨_,rfl⟩
 have hcc:0≤cc:=by rw [← ecc];exact cmp3_nonneg.2 hle
 rw [ecc] at HC;clear u1 v1 u2 v2 l1 l2 l3 l4 hq1 hq2 hk1 hk2 hk3 hk4 hK hK2 eX eY eD eZ HQ hle ecc;obtain⟨LB0,LG0_0,LG1_0,LR⟩:=bx3 w #[.bool g,.slice A1 n1 c1,.slice B1 m1 d1] 60 #[.bool h,.slice A2 n2 c2,.slice B2 m2 d2] 60 #[.bool false,.slice none 0 0,.slice none 0 0] 60;have LR0:=Hd (HasBlk.of (n:=3) LR.out rfl rfl);clear LR
 go_enter Tryz.func138,Tryz.ntmps138
 go_wp2_with fail;refine (T1.out _ LB0.out).mono ?_;rintro e w1 ⟨AX,nX,cX,rfl,hX,hb1⟩;have LB1:=stB LB0 hb1 LB0.out.size;have LR1:=stR LR0 hb1;have LG0_1:=stG LG0_0 hb1;have LG1_1:=stG LG1_0 hb1;clear LB0 LR0 LG0_0 LG1_0;obtain⟨q0_0,q0_1,q0_2⟩:=LG0_1.out.c3;obtain⟨q1_0,q1_1,q1_2⟩:=LG1_1.out.c3;have HX1:=Hd hX;clear hX hb1 T1;go_wp2_with fail;refine (T2.out _ LB1.out).mono ?_;rintro e w2 ⟨AY,nY,cY,rfl,hY,hb2⟩;have LB2:=stB LB1 hb2 LB1.out.size;have LR2:=stR LR1 hb2;have LG0_2:=stG LG0_1 hb2;have LG1_2:=stG LG1_1 hb2;clear LB1 LR1 LG0_1 LG1_1;have HX2:=Hd (HX1.out.below hb2);have HY2:=Hd hY;clear hY hb2 HX1 T2 q0_0 q0_1 q0_2 q1_0 q1_1 q1_2;obtain⟨q0_0,q0_1,q0_2⟩:=LG0_2.out.c3;obtain⟨q1_0,q1_1,q1_2⟩:=LG1_2.out.c3;go_wp2_with fail;refine (T3.out _ LB2.out).mono ?_;rintro e w3 ⟨AD,nD,cD,rfl,hD,hb3⟩;have LB3:=stB LB2 hb3 LB2.out.size;have LR3:=stR LR2 hb3;have LG0_3:=stG LG0_2 hb3;have LG1_3:=stG LG1_2 hb3;clear LB2 LR2 LG0_2 LG1_2;have HX3:=Hd (HX2.out.below hb3);have HY3:=Hd (HY2.out.below hb3);have HD3:=Hd hD;clear hD hb3 HX2 HY2 T3 q0_0 q0_1 q0_2 q1_0 q1_1 q1_2;have q0_0:=LG0_3.out.ce 0 rfl;have q1_0:=LG1_3.out.ce 0 rfl;go_wp2_with fail;refine (HC.out _ _ _ _ _ _ _ HX3.out HY3.out).mono ?_;rintro e w4 ⟨rfl,hb4⟩;have LB4:=stB LB3 hb4 LB3.out.size;have LR4:=stR LR3 hb4;have LG0_4:=stG LG0_3 hb4;have LG1_4:=stG LG1_3 hb4;clear LB3 LR3 LG0_3 LG1_3;have HX4:=Hd (HX3.out.below hb4);have HY4:=Hd (HY3.out.below hb4);have HD4:=Hd (HD3.out.below hb4)
 clear hb4 HX3 HY3 HD3 HC q0_0 q1_0;go_wp2_with fail;clear hgh hcc;refine wp_region_held_drew (S:=fun W'=>Blk W' w.heap.size 60 #[.bool g,.slice A1 n1 c1,.slice B1 m1 d1]∧Blk W' (w.heap.size+1) 60 #[.bool h,.slice A2 n2 c2,.slice B2 m2 d2]∧HasBlk W' (w.heap.size+2) 60 3∧Below w.heap.size w W') (by kernel_rfl) (by exact⟨LG0_4.out.drew,LG1_4.out.drew,LR4.out.drew,LB4.out.drew⟩) (fun hHeld=>?_);refine tk 0 ?_;(try simp only [Act.put,lay]);refine tk 1 ?_ (hv:=by intro W2 hSw;obtain⟨q0,q1,q2⟩:=hSw.1.c3;go_simp;(try with_reducible rfl));(try simp only [Act.put,lay]);refine tk 2 ?_;(try simp only [Act.put,lay]);refine tk 3 ?_;(try simp only [Act.put,lay]);refine tk 5 ?_;(try simp only [Act.put,lay]);refine rdy 4 (fun KK hKK=>?_);go_simp;refine (T4.out _ _ _ _ _ _ _ HX4.out.drew HY4.out.drew).mono ?_;rintro e w6 ⟨AS,nS,cS,rfl,hS,hbA⟩;go_wp2_with fail;refine hKK.out _ _ (⟨hHeld.1.keep hbA,hHeld.2.1.keep hbA,hHeld.2.2.1.keep hbA,hHeld.2.2.2.trans (hbA.mono hHeld.2.2.2.size)⟩) (fun _=>?_);clear hKK KK hHeld;rename_i hHeld;(try simp only [Act.put,lay]);refine rdy 6 (fun KK hKK=>?_);go_simp;refine (T5.out _ _ _ _ _ _ _ hS (HD4.out.drew.below hbA)).mono ?_;rintro e w7 ⟨gz,vn,vd,rfl,hR,hbB⟩;obtain⟨AZ,nZ,cZ,BZ,mZ,dZ,rfl,rfl⟩:=hR.shape;go_wp2_with fail;refine hKK.out _ _ (⟨hHeld.1.keep hbB,hHeld.2.1.keep hbB,hHeld.2.2.1.keep hbB,hHeld.2.2.2.trans (hbB.mono hHeld.2.2.2.size)⟩) (fun _=>?_);clear hKK KK hHeld;rename_i hHeld;(try simp only [Act.put,lay]);refine rdy 7 (fun KK hKK=>?_);have ha0:=hHeld.2.2.1.someCell 0 (by decide);have hf0:=hHeld.2.2.1.frozen 0;have ha1:=hHeld.2.2.1.someCell 1 (by decide);have hf1:=hHeld.2.2.1.frozen 1;have ha2:=hHeld.2.2.1.someCell 2 (by decide);have hf2:=hHeld.2.2.1.frozen 2;have HK:=Hd (hHeld.2.2.1.setCell [.bool gz,.slice AZ nZ cZ,.slice BZ mZ dZ] rfl);have F:=Hd (below_sets (w0:=w) (r:=(w.heap.size+2)) (by omega) [.bool gz,.slice AZ nZ cZ,.slice BZ mZ dZ] 0 _ hHeld.2.2.2);have FR:=Hd (hHeld.2.2.1.rat hR [.bool gz,.slice AZ nZ cZ,.slice BZ mZ dZ])
 go_simp;refine hKK.out _ _ (⟨hHeld.1.other (by omega) 0 [.bool gz,.slice AZ nZ cZ,.slice BZ mZ dZ],hHeld.2.1.other (by omega) 0 [.bool gz,.slice AZ nZ cZ,.slice BZ mZ dZ],hHeld.2.2.1.sets [.bool gz,.slice AZ nZ cZ,.slice BZ mZ dZ] rfl rfl,below_sets (by omega) [.bool gz,.slice AZ nZ cZ,.slice BZ mZ dZ] 0 _ hHeld.2.2.2⟩) (fun _=>?_);clear hKK KK hHeld;rename_i hHeld;(try simp only [Act.put,lay]);refine wpAnyH_done (by kernel_rfl) ?_ _;have hk0:=HK.out 0 (by decide);have hk1:=HK.out 1 (by decide);have hk2:=HK.out 2 (by decide)
 simp [sets] at hk0 hk1 hk2
 clear hHeld HK hS hbA hR hbB;clear LB4 LR4 LG0_4 LG1_4;go_wp2;refine bodyPost_ret (v:=.agg #[.bool gz,.slice AZ nZ cZ,.slice BZ mZ dZ]) (by simp [results,Tryz.results138,go_sem,hk0,hk1,hk2]) rfl ?_
 exact⟨_,_,_,rfl,FR.out,F.out⟩
theorem radd_lt(K:Nat)(g h:Bool)(p1 q1 p2 q2:Nat)(A1:Option Addr)(n1 c1:Nat)(B1:Option Addr)(m1 d1:Nat)(A2:Option Addr)(n2 c2:Nat)(B2:Option Addr)(m2 d2:Nat)(w:World)(u1:U32s w A1 n1 c1 (digs p1))(v1:U32s w B1 m1 d1 (digs q1))(u2:U32s w A2 n2 c2 (digs p2))(v2:U32s w B2 m2 d2 (digs q2))(l1:n1≤8589934592)(l2:m1≤8589934592)(l3:n2≤8589934592)(l4:m2≤8589934592)(hgh:(g == h)=false)(hle:p1*q2<p2*q1)(hq1:0<q1)(hq2:0<q2)(hk1:p1*q2<2^(32*K))(hk2:p2*q1<2^(32*K))(hk3:q1*q2<2^(32*K))(hk4:p2*q1 - p1*q2<2^(32*K))(hK:1≤K)(hK2:K≤1073741824):
  Calls Tryz.prog 138 #[.agg #[.bool g,.slice A1 n1 c1,.slice B1 m1 d1],.agg #[.bool h,.slice A2 n2 c2,.slice B2 m2 d2]] w (NewRat w K (rv h (p2*q1 - p1*q2) (q1*q2))):=by
 have T1:=Hd fun W (hW:Below w.heap.size w W)=>times_v A1 B2 n1 c1 m2 d2 p1 q2 W (u1.below hW) (v2.below hW) l1 l4;have T2:=Hd fun W (hW:Below w.heap.size w W)=>times_v A2 B1 n2 c2 m1 d1 p2 q1 W (u2.below hW) (v1.below hW) l3 l2;have T3:=Hd fun W (hW:Below w.heap.size w W)=>times_v B1 B2 m1 d1 m2 d2 q1 q2 W (v1.below hW) (v2.below hW) l2 l4;have HQ:=Hd (Nat.mul_pos hq1 hq2)
 obtain⟨X,eX⟩:∃ x,p1*q2=x:=⟨_,rfl⟩
 obtain⟨Y,eY⟩:∃ x,p2*q1=x:=⟨_,rfl⟩
 obtain⟨D,eD⟩:∃ x,q1*q2=x:=⟨_,rfl⟩
 rw [eX,eY] at hk4 ⊢;rw [eX,eY] at hle;rw [eX] at T1 hk1;rw [eY] at T2 hk2;rw [eD] at T3 HQ hk3 ⊢;have T4:=Hd fun W (A:Option Addr) (n c:Nat) (B:Option Addr) (m d:Nat) (hx:U32s W A n c (digs Y)) (hy:U32s W B m d (digs X))=>minus_v A B n c m d Y X W hx hy (by have:=hx.len_le hk2;omega) (Nat.le_of_lt hle)
 obtain⟨Z,eZ⟩:∃ x,Y - X=x:=⟨_,rfl⟩
 rw [eZ] at T4 hk4 ⊢;have T5:=Hd fun W (A:Option Addr) (n c:Nat) (B:Option Addr) (m d:Nat) (hx:U32s W A n c (digs Z)) (hy:U32s W B m d (digs D))=>frac_plain h A B n c m d K Z D W hx hy HQ.out hk4 hk3 hK hK2;have HC:=Hd fun W (A:Option Addr) (n c:Nat) (B:Option Addr) (m d:Nat) (hx:U32s W A n c (digs X)) (hy:U32s W B m d (digs Y))=>cmp_w A B n c m d X Y W hx hy
 obtain⟨cc,ecc⟩:∃ x,cmp3 X Y=x:=⟨_,rfl⟩
 have hcc:cc<0:=by rw [← ecc];exact cmp3_neg.2 hle
 rw [ecc] at HC;clear u1 v1 u2 v2 l1 l2 l3 l4 hq1 hq2 hk1 hk2 hk3 hk4 hK hK2 eX eY eD eZ HQ hle ecc;obtain⟨LB0,LG0_0,LG1_0,LR⟩:=bx3 w #[.bool g,.slice A1 n1 c1,.slice B1 m1 d1] 60 #[.bool h,.slice A2 n2 c2,.slice B2 m2 d2] 60 #[.bool false,.slice none 0 0,.slice none 0 0] 60;have LR0:=Hd (HasBlk.of (n:=3) LR.out rfl rfl);clear LR
 go_enter Tryz.func138,Tryz.ntmps138
 go_wp2_with fail;refine (T1.out _ LB0.out).mono ?_;rintro e w1 ⟨AX,nX,cX,rfl,hX,hb1⟩;have LB1:=stB LB0 hb1 LB0.out.size;have LR1:=stR LR0 hb1;have LG0_1:=stG LG0_0 hb1;have LG1_1:=stG LG1_0 hb1;clear LB0 LR0 LG0_0 LG1_0;obtain⟨q0_0,q0_1,q0_2⟩:=LG0_1.out.c3;obtain⟨q1_0,q1_1,q1_2⟩:=LG1_1.out.c3;have HX1:=Hd hX;clear hX hb1 T1;go_wp2_with fail;refine (T2.out _ LB1.out).mono ?_;rintro e w2 ⟨AY,nY,cY,rfl,hY,hb2⟩;have LB2:=stB LB1 hb2 LB1.out.size;have LR2:=stR LR1 hb2;have LG0_2:=stG LG0_1 hb2;have LG1_2:=stG LG1_1 hb2;clear LB1 LR1 LG0_1 LG1_1;have HX2:=Hd (HX1.out.below hb2);have HY2:=Hd hY;clear hY hb2 HX1 T2 q0_0 q0_1 q0_2 q1_0 q1_1 q1_2;obtain⟨q0_0,q0_1,q0_2⟩:=LG0_2.out.c3;obtain⟨q1_0,q1_1,q1_2⟩:=LG1_2.out.c3;go_wp2_with fail;refine (T3.out _ LB2.out).mono ?_;rintro e w3 ⟨AD,nD,cD,rfl,hD,hb3⟩;have LB3:=stB LB2 hb3 LB2.out.size;have LR3:=stR LR2 hb3;have LG0_3:=stG LG0_2 hb3;have LG1_3:=stG LG1_2 hb3;clear LB2 LR2 LG0_2 LG1_2;have HX3:=Hd (HX2.out.below hb3);have HY3:=Hd (HY2.out.below hb3);have HD3:=Hd hD;clear hD hb3 HX2 HY2 T3 q0_0 q0_1 q0_2 q1_0 q1_1 q1_2;have q0_0:=LG0_3.out.ce 0 rfl;have q1_0:=LG1_3.out.ce 0 rfl;go_wp2_with fail;refine (HC.out _ _ _ _ _ _ _ HX3.out HY3.out).mono ?_;rintro e w4 ⟨rfl,hb4⟩;have LB4:=stB LB3 hb4 LB3.out.size;have LR4:=stR LR3 hb4;have LG0_4:=stG LG0_3 hb4;have LG1_4:=stG LG1_3 hb4;clear LB3 LR3 LG0_3 LG1_3;have HX4:=Hd (HX3.out.below hb4);have HY4:=Hd (HY3.out.below hb4);have HD4:=Hd (HD3.out.below hb4)
 clear hb4 HX3 HY3 HD3 HC q0_0 q1_0;go_wp2_with fail;clear hgh hcc;refine wp_region_held_drew (S:=fun W'=>Blk W' w.heap.size 60 #[.bool g,.slice A1 n1 c1,.slice B1 m1 d1]∧Blk W' (w.heap.size+1) 60 #[.bool h,.slice A2 n2 c2,.slice B2 m2 d2]∧HasBlk W' (w.heap.size+2) 60 3∧Below w.heap.size w W') (by kernel_rfl) (by exact⟨LG0_4.out.drew,LG1_4.out.drew,LR4.out.drew,LB4.out.drew⟩) (fun hHeld=>?_);refine tk 0 ?_;(try simp only [Act.put,lay]);refine tk 1 ?_ (hv:=by intro W2 hSw;obtain⟨q0,q1,q2⟩:=hSw.2.1.c3;go_simp;(try with_reducible rfl));(try simp only [Act.put,lay]);refine tk 2 ?_;(try simp only [Act.put,lay]);refine tk 3 ?_;(try simp only [Act.put,lay]);refine tk 5 ?_;(try simp only [Act.put,lay]);refine rdy 4 (fun KK hKK=>?_);go_simp;refine (T4.out _ _ _ _ _ _ _ HY4.out.drew HX4.out.drew).mono ?_;rintro e w6 ⟨AS,nS,cS,rfl,hS,hbA⟩;go_wp2_with fail;refine hKK.out _ _ (⟨hHeld.1.keep hbA,hHeld.2.1.keep hbA,hHeld.2.2.1.keep hbA,hHeld.2.2.2.trans (hbA.mono hHeld.2.2.2.size)⟩) (fun _=>?_);clear hKK KK hHeld;rename_i hHeld;(try simp only [Act.put,lay]);refine rdy 6 (fun KK hKK=>?_);go_simp;refine (T5.out _ _ _ _ _ _ _ hS (HD4.out.drew.below hbA)).mono ?_;rintro e w7 ⟨gz,vn,vd,rfl,hR,hbB⟩;obtain⟨AZ,nZ,cZ,BZ,mZ,dZ,rfl,rfl⟩:=hR.shape;go_wp2_with fail;refine hKK.out _ _ (⟨hHeld.1.keep hbB,hHeld.2.1.keep hbB,hHeld.2.2.1.keep hbB,hHeld.2.2.2.trans (hbB.mono hHeld.2.2.2.size)⟩) (fun _=>?_);clear hKK KK hHeld;rename_i hHeld;(try simp only [Act.put,lay]);refine rdy 7 (fun KK hKK=>?_);have ha0:=hHeld.2.2.1.someCell 0 (by decide);have hf0:=hHeld.2.2.1.frozen 0;have ha1:=hHeld.2.2.1.someCell 1 (by decide);have hf1:=hHeld.2.2.1.frozen 1;have ha2:=hHeld.2.2.1.someCell 2 (by decide);have hf2:=hHeld.2.2.1.frozen 2;have HK:=Hd (hHeld.2.2.1.setCell [.bool gz,.slice AZ nZ cZ,.slice BZ mZ dZ] rfl);have F:=Hd (below_sets (w0:=w) (r:=(w.heap.size+2)) (by omega) [.bool gz,.slice AZ nZ cZ,.slice BZ mZ dZ] 0 _ hHeld.2.2.2);have FR:=Hd (hHeld.2.2.1.rat hR [.bool gz,.slice AZ nZ cZ,.slice BZ mZ dZ])
 go_simp;refine hKK.out _ _ (⟨hHeld.1.other (by omega) 0 [.bool gz,.slice AZ nZ cZ,.slice BZ mZ dZ],hHeld.2.1.other (by omega) 0 [.bool gz,.slice AZ nZ cZ,.slice BZ mZ dZ],hHeld.2.2.1.sets [.bool gz,.slice AZ nZ cZ,.slice BZ mZ dZ] rfl rfl,below_sets (by omega) [.bool gz,.slice AZ nZ cZ,.slice BZ mZ dZ] 0 _ hHeld.2.2.2⟩) (fun _=>?_);clear hKK KK hHeld;rename_i hHeld;(try simp only [Act.put,lay]);refine wpAnyH_done (by kernel_rfl) ?_ _;have hk0:=HK.out 0 (by decide);have hk1:=HK.out 1 (by decide);have hk2:=HK.out 2 (by decide)
 simp [sets] at hk0 hk1 hk2
 clear hHeld HK hS hbA hR hbB;clear LB4 LR4 LG0_4 LG1_4;go_wp2;refine bodyPost_ret (v:=.agg #[.bool gz,.slice AZ nZ cZ,.slice BZ mZ dZ]) (by simp [results,Tryz.results138,go_sem,hk0,hk1,hk2]) rfl ?_
 exact⟨_,_,_,rfl,FR.out,F.out⟩
theorem radd_v(K:Nat)(g1:Bool)(vn1 vd1:Value)(x1:Rat)(g2:Bool)(vn2 vd2:Value)(x2:Rat)(w:World)(h1:RatV w K g1 vn1 vd1 x1)(h2:RatV w K g2 vn2 vd2 x2)(hK:K≤1048576):
  Calls Tryz.prog 138 #[.agg #[.bool g1,vn1,vd1],.agg #[.bool g2,vn2,vd2]] w (NewRat w (2*K+1) (x1+x2)):=by
 obtain⟨p1,q1,A1,n1,c1,B1,m1,d1,rfl,rfl,u1,v1,hq1,-,k1,k2,rfl⟩:=h1;obtain⟨p2,q2,A2,n2,c2,B2,m2,d2,rfl,rfl,u2,v2,hq2,-,k3,k4,rfl⟩:=h2;have l1:=u1.len_le k1;have l2:=v1.len_le k2;have l3:=u2.len_le k3;have l4:=v2.len_le k4
 have mm:∀ a b:Nat,a<2^(32*K)→b<2^(32*K)→a*b<2^(64*K):=by
  intro a b ha hb
  have h:2^(64*K)=2^(32*K)*2^(32*K):=by rw [← Nat.pow_add];congr 1;omega
  rw [h]
  exact Nat.mul_lt_mul'' ha hb
 have e1:=mm p1 q2 k1 k4;have e2:=mm p2 q1 k3 k2;have e3:=mm q1 q2 k2 k4
 have hh:2*2^(64*K)≤2^(32*(2*K+1)):=by
  rw [show 32*(2*K+1)=64*K+32 from by omega,Nat.pow_add]
  have:2*2^(64*K)≤2^(64*K)*2^32:=by rw [Nat.mul_comm];exact Nat.mul_le_mul_left _ (by decide)
  exact this
 rw [rv_add _ _ _ _ _ _ hq1 hq2];unfold dsum
 by_cases hg:g1=g2
 ·subst hg;rw [if_pos rfl]
  exact radd_same (2*K+1) g1 p1 q1 p2 q2 A1 n1 c1 B1 m1 d1 A2 n2 c2 B2 m2 d2 w u1 v1 u2 v2 (by omega) (by omega) (by omega) (by omega) hq1 hq2 (by omega) (by omega) (by omega) (by omega) (by omega) (by omega)
 ·rw [if_neg hg]
  have hgh:(g1 == g2)=false:=by simpa using hg
  by_cases hl:p1*q2<p2*q1
  ·rw [if_pos hl]
   exact radd_lt (2*K+1) g1 g2 p1 q1 p2 q2 A1 n1 c1 B1 m1 d1 A2 n2 c2 B2 m2 d2 w u1 v1 u2 v2 (by omega) (by omega) (by omega) (by omega) hgh hl hq1 hq2 (by omega) (by omega) (by omega) (by omega) (by omega) (by omega)
  ·rw [if_neg hl]
   exact radd_ge (2*K+1) g1 g2 p1 q1 p2 q2 A1 n1 c1 B1 m1 d1 A2 n2 c2 B2 m2 d2 w u1 v1 u2 v2 (by omega) (by omega) (by omega) (by omega) hgh (by omega) hq1 hq2 (by omega) (by omega) (by omega) (by omega) (by omega) (by omega)
theorem none6(w:World):Calls Tryz.prog 125 #[] w (NewSet w 1 true 0 0 0 0):=by
 have HF:=Hd fun W=>finite_nat 0 W (by omega);obtain⟨LB0,LR⟩:=bx1 w #[.bool false,.int .i64 0,.bool false,.slice none 0 0,.slice none 0 0,.int .i64 0,.bool false,.slice none 0 0,.slice none 0 0] 69;have LR0:=Hd (HasBlk.of (n:=9) LR.out rfl rfl);clear LR
 go_enter Tryz.func125,Tryz.ntmps125
 go_wp2_with fail;refine (HF.out _).mono ?_;rintro e w1 ⟨g3,A3,n3,c3,B3,m3,d3,rfl,h3,hb3⟩;have LB1:=stB LB0 hb3 LB0.out.size;have LR1:=stR LR0 hb3;clear LB0 LR0;go_wp2_with fail;refine (HF.out _).mono ?_;rintro e w2 ⟨g4,A4,n4,c4,B4,m4,d4,rfl,h4,hb4⟩;have LB2:=stB LB1 hb4 LB1.out.size;have LR2:=stR LR1 hb4;clear LB1 LR1;have FR1:=Hd (LR2.out.rat (h3.below hb4) [.bool true,.int .i64 0,.bool g3,.slice A3 n3 c3,.slice B3 m3 d3,.int .i64 0,.bool g4,.slice A4 n4 c4,.slice B4 m4 d4]);have FR2:=Hd (LR2.out.rat h4 [.bool true,.int .i64 0,.bool g3,.slice A3 n3 c3,.slice B3 m3 d3,.int .i64 0,.bool g4,.slice A4 n4 c4,.slice B4 m4 d4]);clear h3 h4 hb3 hb4 HF;obtain⟨ha0,hf0,ha1,hf1,ha2,hf2,ha3,hf3,ha4,hf4,ha5,hf5,ha6,hf6,ha7,hf7,ha8,hf8⟩:=LR2.out.sf9;obtain⟨hk0,hk1,hk2,hk3,hk4,hk5,hk6,hk7,hk8⟩:=LR2.out.sc9 (.bool true) (.int .i64 0) (.bool g3) (.slice A3 n3 c3) (.slice B3 m3 d3) (.int .i64 0) (.bool g4) (.slice A4 n4 c4) (.slice B4 m4 d4);have F:=Hd (below_sets (w0:=w) (r:=w.heap.size) (by omega) [.bool true,.int .i64 0,.bool g3,.slice A3 n3 c3,.slice B3 m3 d3,.int .i64 0,.bool g4,.slice A4 n4 c4,.slice B4 m4 d4] 0 _ LB2.out)
 simp [sets] at hk0 hk1 hk2 hk3 hk4 hk5 hk6 hk7 hk8
 go_wp2;refine bodyPost_ret (v:=.agg #[.bool true,.int .i64 0,.bool g3,.slice A3 n3 c3,.slice B3 m3 d3,.int .i64 0,.bool g4,.slice A4 n4 c4,.slice B4 m4 d4]) (by simp [results,Tryz.results125,go_sem,hk0,hk1,hk2,hk3,hk4,hk5,hk6,hk7,hk8]) rfl ?_
 exact⟨_,_,_,_,_,_,_,_,_,_,_,_,_,_,rfl,FR1.out,FR2.out,F.out⟩
theorem NewEnd.up{w w':World}{K K':Nat}{s:Int}{x:Rat}{e:Ending}(h:NewEnd w K s x e w')(hk:K≤K'):NewEnd w K' s x e w':=by
 obtain⟨neg,A,n,c,B,m,d,h1,h2,h3⟩:=h
 exact⟨neg,A,n,c,B,m,d,h1,h2.mono hk,h3⟩
theorem sum6_left(K:Nat)(s1 s2:Int)(g1:Bool)(A1:Option Addr)(n1 c1:Nat)(B1:Option Addr)(m1 d1:Nat)(x1:Rat)(g2:Bool)(A2:Option Addr)(n2 c2:Nat)(B2:Option Addr)(m2 d2:Nat)(x2:Rat)(w:World)(h1:RatV w K g1 (.slice A1 n1 c1) (.slice B1 m1 d1) x1)(h2:RatV w K g2 (.slice A2 n2 c2) (.slice B2 m2 d2) x2)(hs:s1≠0):
  Calls Tryz.prog 126 #[.agg #[.int .i64 s1,.bool g1,.slice A1 n1 c1,.slice B1 m1 d1],.agg #[.int .i64 s2,.bool g2,.slice A2 n2 c2,.slice B2 m2 d2]] w (NewEnd w K s1 x1):=by
 obtain⟨LB0,LG0_0,LG1_0,LR⟩:=bx3 w #[.int .i64 s1,.bool g1,.slice A1 n1 c1,.slice B1 m1 d1] 67 #[.int .i64 s2,.bool g2,.slice A2 n2 c2,.slice B2 m2 d2] 67 #[.int .i64 0,.bool false,.slice none 0 0,.slice none 0 0] 67;have LR0:=Hd (HasBlk.of (n:=4) LR.out rfl rfl);clear LR;have H1:=Hd h1
 have hq:(s1 == 0)=false:=by simp;omega
 clear h1 h2 LB0 LG0_0 LG1_0 LR0
 go_enter Tryz.func126,Tryz.ntmps126
 go_wp2;refine bodyPost_ret (v:=.agg #[.int .i64 s1,.bool g1,.slice A1 n1 c1,.slice B1 m1 d1]) (by simp [results,Tryz.results126,go_sem]) rfl ?_
 exact have b:=(((below_alloc w _).alloc (by simp<;>omega) _).alloc (by simp<;>omega) _);⟨_,_,_,_,_,_,_,rfl,H1.out.below b,b⟩
theorem sum6_right(K:Nat)(s2:Int)(g1:Bool)(A1:Option Addr)(n1 c1:Nat)(B1:Option Addr)(m1 d1:Nat)(x1:Rat)(g2:Bool)(A2:Option Addr)(n2 c2:Nat)(B2:Option Addr)(m2 d2:Nat)(x2:Rat)(w:World)(h1:RatV w K g1 (.slice A1 n1 c1) (.slice B1 m1 d1) x1)(h2:RatV w K g2 (.slice A2 n2 c2) (.slice B2 m2 d2) x2)(hs:s2≠0):
  Calls Tryz.prog 126 #[.agg #[.int .i64 0,.bool g1,.slice A1 n1 c1,.slice B1 m1 d1],.agg #[.int .i64 s2,.bool g2,.slice A2 n2 c2,.slice B2 m2 d2]] w (NewEnd w K s2 x2):=by
 obtain⟨LB0,LG0_0,LG1_0,LR⟩:=bx3 w #[.int .i64 0,.bool g1,.slice A1 n1 c1,.slice B1 m1 d1] 67 #[.int .i64 s2,.bool g2,.slice A2 n2 c2,.slice B2 m2 d2] 67 #[.int .i64 0,.bool false,.slice none 0 0,.slice none 0 0] 67;have LR0:=Hd (HasBlk.of (n:=4) LR.out rfl rfl);clear LR;have H1:=Hd h2
 have hq:(s2 == 0)=false:=by simp;omega
 clear h1 h2 LB0 LG0_0 LG1_0 LR0
 go_enter Tryz.func126,Tryz.ntmps126
 go_wp2;refine bodyPost_ret (v:=.agg #[.int .i64 s2,.bool g2,.slice A2 n2 c2,.slice B2 m2 d2]) (by simp [results,Tryz.results126,go_sem]) rfl ?_
 exact have b:=(((below_alloc w _).alloc (by simp<;>omega) _).alloc (by simp<;>omega) _);⟨_,_,_,_,_,_,_,rfl,H1.out.below b,b⟩
theorem sum6_both(K:Nat)(g1:Bool)(A1:Option Addr)(n1 c1:Nat)(B1:Option Addr)(m1 d1:Nat)(x1:Rat)(g2:Bool)(A2:Option Addr)(n2 c2:Nat)(B2:Option Addr)(m2 d2:Nat)(x2:Rat)(w:World)(h1:RatV w K g1 (.slice A1 n1 c1) (.slice B1 m1 d1) x1)(h2:RatV w K g2 (.slice A2 n2 c2) (.slice B2 m2 d2) x2)(hK:K≤1048576):
  Calls Tryz.prog 126 #[.agg #[.int .i64 0,.bool g1,.slice A1 n1 c1,.slice B1 m1 d1],.agg #[.int .i64 0,.bool g2,.slice A2 n2 c2,.slice B2 m2 d2]] w (NewEnd w (2*K+1) 0 (x1+x2)):=by
 obtain⟨LB0,LG0_0,LG1_0,LR⟩:=bx3 w #[.int .i64 0,.bool g1,.slice A1 n1 c1,.slice B1 m1 d1] 67 #[.int .i64 0,.bool g2,.slice A2 n2 c2,.slice B2 m2 d2] 67 #[.int .i64 0,.bool false,.slice none 0 0,.slice none 0 0] 67;have LR0:=Hd (HasBlk.of (n:=4) LR.out rfl rfl);clear LR;have HN:=Hd fun W (hW:Below w.heap.size w W)=>(radd_v K g1 _ _ x1 g2 _ _ x2 W (h1.below hW) (h2.below hW) hK).mono fun _ _ h=>h.s;clear h1 h2
 go_enter Tryz.func126,Tryz.ntmps126
 go_wp2_with fail;refine (HN.out _ LB0.out).mono ?_;rintro e w1 ⟨g3,A3,n3,c3,B3,m3,d3,rfl,h3,hb3⟩;have LB1:=stB LB0 hb3 LB0.out.size;have LR1:=stR LR0 hb3;have LG0_1:=stG LG0_0 hb3;have LG1_1:=stG LG1_0 hb3;clear LB0 LR0 LG0_0 LG1_0;have FR:=Hd (LR1.out.rat h3 [.int .i64 0,.bool g3,.slice A3 n3 c3,.slice B3 m3 d3]);clear h3 hb3 HN;obtain⟨ha0,hf0,ha1,hf1,ha2,hf2,ha3,hf3⟩:=LR1.out.sf4;obtain⟨hk0,hk1,hk2,hk3⟩:=LR1.out.sc4 (.int .i64 0) (.bool g3) (.slice A3 n3 c3) (.slice B3 m3 d3);have F:=Hd (below_sets (w0:=w) (r:=(w.heap.size+2)) (by omega) [.int .i64 0,.bool g3,.slice A3 n3 c3,.slice B3 m3 d3] 0 _ LB1.out)
 simp [sets] at hk0 hk1 hk2 hk3
 go_wp2;refine bodyPost_ret (v:=.agg #[.int .i64 0,.bool g3,.slice A3 n3 c3,.slice B3 m3 d3]) (by simp [results,Tryz.results126,go_sem,hk0,hk1,hk2,hk3]) rfl ?_
 exact⟨_,_,_,_,_,_,_,rfl,FR.out,F.out⟩
theorem sum6_any(K:Nat)(s1:Int)(g1:Bool)(A1:Option Addr)(n1 c1:Nat)(B1:Option Addr)(m1 d1:Nat)(x1:Rat)(s2:Int)(g2:Bool)(A2:Option Addr)(n2 c2:Nat)(B2:Option Addr)(m2 d2:Nat)(x2:Rat)(w:World)(h1:RatV w K g1 (.slice A1 n1 c1) (.slice B1 m1 d1) x1)(h2:RatV w K g2 (.slice A2 n2 c2) (.slice B2 m2 d2) x2)(hK:K≤1048576):
  Calls Tryz.prog 126 #[.agg #[.int .i64 s1,.bool g1,.slice A1 n1 c1,.slice B1 m1 d1],.agg #[.int .i64 s2,.bool g2,.slice A2 n2 c2,.slice B2 m2 d2]] w (NewEnd w (2*K+1) (es2 s1 s2) (ex2 s1 x1 s2 x2)):=by
 unfold es2 ex2
 by_cases hs1:s1=0
 ·subst hs1;rw [if_neg (fun h=>h rfl),if_neg (fun h=>h rfl)]
  by_cases hs2:s2=0
  ·subst hs2;rw [if_neg (fun h=>h rfl)]
   exact sum6_both K g1 A1 n1 c1 B1 m1 d1 x1 g2 A2 n2 c2 B2 m2 d2 x2 w h1 h2 hK
  ·rw [if_pos hs2]
   exact (sum6_right K s2 g1 A1 n1 c1 B1 m1 d1 x1 g2 A2 n2 c2 B2 m2 d2 x2 w h1 h2 hs2).mono fun _ _ h=>h.up (by omega)
 ·rw [if_pos hs1,if_pos hs1]
  exact (sum6_left K s1 s2 g1 A1 n1 c1 B1 m1 d1 x1 g2 A2 n2 c2 B2 m2 d2 x2 w h1 h2 hs1).mono fun _ _ h=>h.up (by omega)
theorem plus6_none1(o:Bool)(s1:Int)(g1:Bool)(A1:Option Addr)(n1 c1:Nat)(B1:Option Addr)(m1 d1:Nat)(s2:Int)(g2:Bool)(A2:Option Addr)(n2 c2:Nat)(B2:Option Addr)(m2 d2:Nat)(s3:Int)(g3:Bool)(A3:Option Addr)(n3 c3:Nat)(B3:Option Addr)(m3 d3:Nat)(s4:Int)(g4:Bool)(A4:Option Addr)(n4 c4:Nat)(B4:Option Addr)(m4 d4:Nat)(w:World):
  Calls Tryz.prog 56 #[.agg #[.bool true,.int .i64 s1,.bool g1,.slice A1 n1 c1,.slice B1 m1 d1,.int .i64 s2,.bool g2,.slice A2 n2 c2,.slice B2 m2 d2],.agg #[.bool o,.int .i64 s3,.bool g3,.slice A3 n3 c3,.slice B3 m3 d3,.int .i64 s4,.bool g4,.slice A4 n4 c4,.slice B4 m4 d4]] w (NewSet w 1 true 0 0 0 0):=by
 have HN:=Hd none6;obtain⟨LB0,LG0_0,LG1_0,LR⟩:=bx3 w #[.bool true,.int .i64 s1,.bool g1,.slice A1 n1 c1,.slice B1 m1 d1,.int .i64 s2,.bool g2,.slice A2 n2 c2,.slice B2 m2 d2] 69 #[.bool o,.int .i64 s3,.bool g3,.slice A3 n3 c3,.slice B3 m3 d3,.int .i64 s4,.bool g4,.slice A4 n4 c4,.slice B4 m4 d4] 69 #[.bool false,.int .i64 0,.bool false,.slice none 0 0,.slice none 0 0,.int .i64 0,.bool false,.slice none 0 0,.slice none 0 0] 69;have LR0:=Hd (HasBlk.of (n:=9) LR.out rfl rfl);clear LR
 go_enter Tryz.func56,Tryz.ntmps56
 go_wp2_with fail;refine (HN.out _).mono ?_;rintro e w1 ⟨g5,A5,n5,c5,B5,m5,d5,g6,A6,n6,c6,B6,m6,d6,rfl,h5,h6,hb5⟩;have LB1:=stB LB0 hb5 LB0.out.size;have LR1:=stR LR0 hb5;have LG0_1:=stG LG0_0 hb5;have LG1_1:=stG LG1_0 hb5;clear LB0 LR0 LG0_0 LG1_0;have FR1:=Hd (LR1.out.rat h5 [.bool true,.int .i64 0,.bool g5,.slice A5 n5 c5,.slice B5 m5 d5,.int .i64 0,.bool g6,.slice A6 n6 c6,.slice B6 m6 d6]);have FR2:=Hd (LR1.out.rat h6 [.bool true,.int .i64 0,.bool g5,.slice A5 n5 c5,.slice B5 m5 d5,.int .i64 0,.bool g6,.slice A6 n6 c6,.slice B6 m6 d6]);clear h5 h6 hb5 HN;obtain⟨ha0,hf0,ha1,hf1,ha2,hf2,ha3,hf3,ha4,hf4,ha5,hf5,ha6,hf6,ha7,hf7,ha8,hf8⟩:=LR1.out.sf9;obtain⟨hk0,hk1,hk2,hk3,hk4,hk5,hk6,hk7,hk8⟩:=LR1.out.sc9 (.bool true) (.int .i64 0) (.bool g5) (.slice A5 n5 c5) (.slice B5 m5 d5) (.int .i64 0) (.bool g6) (.slice A6 n6 c6) (.slice B6 m6 d6);have F:=Hd (below_sets (w0:=w) (r:=(w.heap.size+2)) (by omega) [.bool true,.int .i64 0,.bool g5,.slice A5 n5 c5,.slice B5 m5 d5,.int .i64 0,.bool g6,.slice A6 n6 c6,.slice B6 m6 d6] 0 _ LB1.out)
 simp [sets] at hk0 hk1 hk2 hk3 hk4 hk5 hk6 hk7 hk8
 go_wp2;refine bodyPost_ret (v:=.agg #[.bool true,.int .i64 0,.bool g5,.slice A5 n5 c5,.slice B5 m5 d5,.int .i64 0,.bool g6,.slice A6 n6 c6,.slice B6 m6 d6]) (by simp [results,Tryz.results56,go_sem,hk0,hk1,hk2,hk3,hk4,hk5,hk6,hk7,hk8]) rfl ?_
 exact⟨_,_,_,_,_,_,_,_,_,_,_,_,_,_,rfl,FR1.out,FR2.out,F.out⟩
theorem plus6_none2(s1:Int)(g1:Bool)(A1:Option Addr)(n1 c1:Nat)(B1:Option Addr)(m1 d1:Nat)(s2:Int)(g2:Bool)(A2:Option Addr)(n2 c2:Nat)(B2:Option Addr)(m2 d2:Nat)(s3:Int)(g3:Bool)(A3:Option Addr)(n3 c3:Nat)(B3:Option Addr)(m3 d3:Nat)(s4:Int)(g4:Bool)(A4:Option Addr)(n4 c4:Nat)(B4:Option Addr)(m4 d4:Nat)(w:World):
  Calls Tryz.prog 56 #[.agg #[.bool false,.int .i64 s1,.bool g1,.slice A1 n1 c1,.slice B1 m1 d1,.int .i64 s2,.bool g2,.slice A2 n2 c2,.slice B2 m2 d2],.agg #[.bool true,.int .i64 s3,.bool g3,.slice A3 n3 c3,.slice B3 m3 d3,.int .i64 s4,.bool g4,.slice A4 n4 c4,.slice B4 m4 d4]] w (NewSet w 1 true 0 0 0 0):=by
 have HN:=Hd none6;obtain⟨LB0,LG0_0,LG1_0,LR⟩:=bx3 w #[.bool false,.int .i64 s1,.bool g1,.slice A1 n1 c1,.slice B1 m1 d1,.int .i64 s2,.bool g2,.slice A2 n2 c2,.slice B2 m2 d2] 69 #[.bool true,.int .i64 s3,.bool g3,.slice A3 n3 c3,.slice B3 m3 d3,.int .i64 s4,.bool g4,.slice A4 n4 c4,.slice B4 m4 d4] 69 #[.bool false,.int .i64 0,.bool false,.slice none 0 0,.slice none 0 0,.int .i64 0,.bool false,.slice none 0 0,.slice none 0 0] 69;have LR0:=Hd (HasBlk.of (n:=9) LR.out rfl rfl);clear LR
 go_enter Tryz.func56,Tryz.ntmps56
 go_wp2_with fail;refine (HN.out _).mono ?_;rintro e w1 ⟨g5,A5,n5,c5,B5,m5,d5,g6,A6,n6,c6,B6,m6,d6,rfl,h5,h6,hb5⟩;have LB1:=stB LB0 hb5 LB0.out.size;have LR1:=stR LR0 hb5;have LG0_1:=stG LG0_0 hb5;have LG1_1:=stG LG1_0 hb5;clear LB0 LR0 LG0_0 LG1_0;have FR1:=Hd (LR1.out.rat h5 [.bool true,.int .i64 0,.bool g5,.slice A5 n5 c5,.slice B5 m5 d5,.int .i64 0,.bool g6,.slice A6 n6 c6,.slice B6 m6 d6]);have FR2:=Hd (LR1.out.rat h6 [.bool true,.int .i64 0,.bool g5,.slice A5 n5 c5,.slice B5 m5 d5,.int .i64 0,.bool g6,.slice A6 n6 c6,.slice B6 m6 d6]);clear h5 h6 hb5 HN;obtain⟨ha0,hf0,ha1,hf1,ha2,hf2,ha3,hf3,ha4,hf4,ha5,hf5,ha6,hf6,ha7,hf7,ha8,hf8⟩:=LR1.out.sf9;obtain⟨hk0,hk1,hk2,hk3,hk4,hk5,hk6,hk7,hk8⟩:=LR1.out.sc9 (.bool true) (.int .i64 0) (.bool g5) (.slice A5 n5 c5) (.slice B5 m5 d5) (.int .i64 0) (.bool g6) (.slice A6 n6 c6) (.slice B6 m6 d6);have F:=Hd (below_sets (w0:=w) (r:=(w.heap.size+2)) (by omega) [.bool true,.int .i64 0,.bool g5,.slice A5 n5 c5,.slice B5 m5 d5,.int .i64 0,.bool g6,.slice A6 n6 c6,.slice B6 m6 d6] 0 _ LB1.out)
 simp [sets] at hk0 hk1 hk2 hk3 hk4 hk5 hk6 hk7 hk8
 go_wp2;refine bodyPost_ret (v:=.agg #[.bool true,.int .i64 0,.bool g5,.slice A5 n5 c5,.slice B5 m5 d5,.int .i64 0,.bool g6,.slice A6 n6 c6,.slice B6 m6 d6]) (by simp [results,Tryz.results56,go_sem,hk0,hk1,hk2,hk3,hk4,hk5,hk6,hk7,hk8]) rfl ?_
 exact⟨_,_,_,_,_,_,_,_,_,_,_,_,_,_,rfl,FR1.out,FR2.out,F.out⟩
theorem plus6_some(K:Nat)(s1:Int)(g1:Bool)(A1:Option Addr)(n1 c1:Nat)(B1:Option Addr)(m1 d1:Nat)(x1:Rat)(s2:Int)(g2:Bool)(A2:Option Addr)(n2 c2:Nat)(B2:Option Addr)(m2 d2:Nat)(x2:Rat)(s3:Int)(g3:Bool)(A3:Option Addr)(n3 c3:Nat)(B3:Option Addr)(m3 d3:Nat)(x3:Rat)(s4:Int)(g4:Bool)(A4:Option Addr)(n4 c4:Nat)(B4:Option Addr)(m4 d4:Nat)(x4:Rat)(w:World)(h1:RatV w K g1 (.slice A1 n1 c1) (.slice B1 m1 d1) x1)(h2:RatV w K g2 (.slice A2 n2 c2) (.slice B2 m2 d2) x2)(h3:RatV w K g3 (.slice A3 n3 c3) (.slice B3 m3 d3) x3)(h4:RatV w K g4 (.slice A4 n4 c4) (.slice B4 m4 d4) x4)(hK:K≤1048576):
  Calls Tryz.prog 56 #[.agg #[.bool false,.int .i64 s1,.bool g1,.slice A1 n1 c1,.slice B1 m1 d1,.int .i64 s2,.bool g2,.slice A2 n2 c2,.slice B2 m2 d2],.agg #[.bool false,.int .i64 s3,.bool g3,.slice A3 n3 c3,.slice B3 m3 d3,.int .i64 s4,.bool g4,.slice A4 n4 c4,.slice B4 m4 d4]] w
   (NewSet w (2*K+1) false (es2 s1 s3) (ex2 s1 x1 s3 x3) (es2 s2 s4) (ex2 s2 x2 s4 x4)):=by
 have T1:=Hd fun W (hW:Below w.heap.size w W)=>sum6_any K s1 g1 A1 n1 c1 B1 m1 d1 x1 s3 g3 A3 n3 c3 B3 m3 d3 x3 W (h1.below hW) (h3.below hW) hK;have T2:=Hd fun W (hW:Below w.heap.size w W)=>sum6_any K s2 g2 A2 n2 c2 B2 m2 d2 x2 s4 g4 A4 n4 c4 B4 m4 d4 x4 W (h2.below hW) (h4.below hW) hK
 obtain⟨s5,e1⟩:∃ s,es2 s1 s3=s:=⟨_,rfl⟩
 obtain⟨x5,e2⟩:∃ s,ex2 s1 x1 s3 x3=s:=⟨_,rfl⟩
 obtain⟨s6,e3⟩:∃ s,es2 s2 s4=s:=⟨_,rfl⟩
 obtain⟨x6,e4⟩:∃ s,ex2 s2 x2 s4 x4=s:=⟨_,rfl⟩
 rw [e1,e2] at T1 ⊢;rw [e3,e4] at T2 ⊢;clear h1 h2 h3 h4 e1 e2 e3 e4;obtain⟨LB0,LG0_0,LG1_0,LR⟩:=bx3 w #[.bool false,.int .i64 s1,.bool g1,.slice A1 n1 c1,.slice B1 m1 d1,.int .i64 s2,.bool g2,.slice A2 n2 c2,.slice B2 m2 d2] 69 #[.bool false,.int .i64 s3,.bool g3,.slice A3 n3 c3,.slice B3 m3 d3,.int .i64 s4,.bool g4,.slice A4 n4 c4,.slice B4 m4 d4] 69 #[.bool false,.int .i64 0,.bool false,.slice none 0 0,.slice none 0 0,.int .i64 0,.bool false,.slice none 0 0,.slice none 0 0] 69;have LR0:=Hd (HasBlk.of (n:=9) LR.out rfl rfl);clear LR
 go_enter Tryz.func56,Tryz.ntmps56
 go_wp2_with fail;refine wp_region_held_drew (S:=fun W'=>Blk W' w.heap.size 69 #[.bool false,.int .i64 s1,.bool g1,.slice A1 n1 c1,.slice B1 m1 d1,.int .i64 s2,.bool g2,.slice A2 n2 c2,.slice B2 m2 d2]∧Blk W' (w.heap.size+1) 69 #[.bool false,.int .i64 s3,.bool g3,.slice A3 n3 c3,.slice B3 m3 d3,.int .i64 s4,.bool g4,.slice A4 n4 c4,.slice B4 m4 d4]∧HasBlk W' (w.heap.size+2) 69 9∧Below w.heap.size w W') (by kernel_rfl) (by exact⟨LG0_0.out.drew,LG1_0.out.drew,LR0.out.drew,LB0.out.drew⟩) (fun hHeld=>?_);refine tk 0 ?_;(try simp only [Act.put,lay]);refine tk 1 ?_ (hv:=by intro W2 hSw;obtain⟨q0,q1,q2,q3,q4,q5,q6,q7,q8⟩:=hSw.1.c9;go_simp;(try with_reducible rfl));(try simp only [Act.put,lay]);refine tk 2 ?_;(try simp only [Act.put,lay]);refine tk 3 ?_ (hv:=by intro W2 hSw;obtain⟨q0,q1,q2,q3,q4,q5,q6,q7,q8⟩:=hSw.2.1.c9;go_simp;(try with_reducible rfl));(try simp only [Act.put,lay]);refine tk 5 ?_;(try simp only [Act.put,lay]);refine tk 6 ?_ (hv:=by intro W2 hSw;obtain⟨q0,q1,q2,q3,q4,q5,q6,q7,q8⟩:=hSw.1.c9;go_simp;(try with_reducible rfl));(try simp only [Act.put,lay]);refine tk 7 ?_;(try simp only [Act.put,lay]);refine tk 8 ?_ (hv:=by intro W2 hSw;obtain⟨q0,q1,q2,q3,q4,q5,q6,q7,q8⟩:=hSw.2.1.c9;go_simp;(try with_reducible rfl));(try simp only [Act.put,lay]);refine rdy 4 (fun KK hKK=>?_);go_simp;refine (T1.out _ ?_).mono ?_;exact hHeld.2.2.2;rintro e w3 ⟨g5,A5,n5,c5,B5,m5,d5,rfl,h5,hb5⟩;go_wp2_with fail;refine hKK.out _ _ (⟨hHeld.1.keep hb5,hHeld.2.1.keep hb5,hHeld.2.2.1.keep hb5,hHeld.2.2.2.trans (hb5.mono hHeld.2.2.2.size)⟩) (fun _=>?_)
 clear hKK KK hHeld;rename_i hHeld;(try simp only [Act.put,lay]);refine rdy 9 (fun KK hKK=>?_);go_simp;refine (T2.out _ ?_).mono ?_;exact hHeld.2.2.2;rintro e w4 ⟨g6,A6,n6,c6,B6,m6,d6,rfl,h6,hb6⟩;go_wp2_with fail;refine hKK.out _ _ (⟨hHeld.1.keep hb6,hHeld.2.1.keep hb6,hHeld.2.2.1.keep hb6,hHeld.2.2.2.trans (hb6.mono hHeld.2.2.2.size)⟩) (fun _=>?_);clear hKK KK hHeld;rename_i hHeld;(try simp only [Act.put,lay]);refine tk 10 ?_;(try simp only [Act.put,lay]);refine rdy 11 (fun KK hKK=>?_);have ha0:=hHeld.2.2.1.someCell 0 (by decide);have hf0:=hHeld.2.2.1.frozen 0;have ha1:=hHeld.2.2.1.someCell 1 (by decide);have hf1:=hHeld.2.2.1.frozen 1;have ha2:=hHeld.2.2.1.someCell 2 (by decide);have hf2:=hHeld.2.2.1.frozen 2;have ha3:=hHeld.2.2.1.someCell 3 (by decide);have hf3:=hHeld.2.2.1.frozen 3;have ha4:=hHeld.2.2.1.someCell 4 (by decide);have hf4:=hHeld.2.2.1.frozen 4;have ha5:=hHeld.2.2.1.someCell 5 (by decide);have hf5:=hHeld.2.2.1.frozen 5;have ha6:=hHeld.2.2.1.someCell 6 (by decide);have hf6:=hHeld.2.2.1.frozen 6;have ha7:=hHeld.2.2.1.someCell 7 (by decide);have hf7:=hHeld.2.2.1.frozen 7;have ha8:=hHeld.2.2.1.someCell 8 (by decide);have hf8:=hHeld.2.2.1.frozen 8;have HK:=Hd (hHeld.2.2.1.setCell [.bool false,.int .i64 s5,.bool g5,.slice A5 n5 c5,.slice B5 m5 d5,.int .i64 s6,.bool g6,.slice A6 n6 c6,.slice B6 m6 d6] rfl);have F:=Hd (below_sets (w0:=w) (r:=(w.heap.size+2)) (by omega) [.bool false,.int .i64 s5,.bool g5,.slice A5 n5 c5,.slice B5 m5 d5,.int .i64 s6,.bool g6,.slice A6 n6 c6,.slice B6 m6 d6] 0 _ hHeld.2.2.2);have FR1:=Hd (hHeld.2.2.1.rat (h5.below hb6) [.bool false,.int .i64 s5,.bool g5,.slice A5 n5 c5,.slice B5 m5 d5,.int .i64 s6,.bool g6,.slice A6 n6 c6,.slice B6 m6 d6]);have FR2:=Hd (hHeld.2.2.1.rat h6 [.bool false,.int .i64 s5,.bool g5,.slice A5 n5 c5,.slice B5 m5 d5,.int .i64 s6,.bool g6,.slice A6 n6 c6,.slice B6 m6 d6])
 go_simp;refine hKK.out _ _ (⟨hHeld.1.other (by omega) 0 [.bool false,.int .i64 s5,.bool g5,.slice A5 n5 c5,.slice B5 m5 d5,.int .i64 s6,.bool g6,.slice A6 n6 c6,.slice B6 m6 d6],hHeld.2.1.other (by omega) 0 [.bool false,.int .i64 s5,.bool g5,.slice A5 n5 c5,.slice B5 m5 d5,.int .i64 s6,.bool g6,.slice A6 n6 c6,.slice B6 m6 d6],hHeld.2.2.1.sets [.bool false,.int .i64 s5,.bool g5,.slice A5 n5 c5,.slice B5 m5 d5,.int .i64 s6,.bool g6,.slice A6 n6 c6,.slice B6 m6 d6] rfl rfl,below_sets (by omega) [.bool false,.int .i64 s5,.bool g5,.slice A5 n5 c5,.slice B5 m5 d5,.int .i64 s6,.bool g6,.slice A6 n6 c6,.slice B6 m6 d6] 0 _ hHeld.2.2.2⟩) (fun _=>?_);clear hKK KK hHeld;rename_i hHeld;(try simp only [Act.put,lay]);refine wpAnyH_done (by kernel_rfl) ?_ _;have hk0:=HK.out 0 (by decide);have hk1:=HK.out 1 (by decide);have hk2:=HK.out 2 (by decide);have hk3:=HK.out 3 (by decide);have hk4:=HK.out 4 (by decide);have hk5:=HK.out 5 (by decide);have hk6:=HK.out 6 (by decide);have hk7:=HK.out 7 (by decide);have hk8:=HK.out 8 (by decide)
 simp [sets] at hk0 hk1 hk2 hk3 hk4 hk5 hk6 hk7 hk8
 clear hHeld HK h5 hb5 h6 hb6;clear LB0 LR0 LG0_0 LG1_0;go_wp2;refine bodyPost_ret (v:=.agg #[.bool false,.int .i64 s5,.bool g5,.slice A5 n5 c5,.slice B5 m5 d5,.int .i64 s6,.bool g6,.slice A6 n6 c6,.slice B6 m6 d6]) (by simp [results,Tryz.results56,go_sem,hk0,hk1,hk2,hk3,hk4,hk5,hk6,hk7,hk8]) rfl ?_
 exact⟨_,_,_,_,_,_,_,_,_,_,_,_,_,_,rfl,FR1.out,FR2.out,F.out⟩
theorem minus_idx(v:Value)(i j:Int)(w:World)(h:SetOf w v i j):
  Calls Tryz.prog 58 #[v] w fun e w'=>∃ t,e=.returned t∧SetOf w' t (-j) (-i)∧Below w.heap.size w w':=by
 rcases h with ⟨rfl,rfl,s,x,t,y,g,A,n,c,B,m,d,g',A',n',c',B',m',d',rfl,h4,h5⟩ | ⟨h1,g,A,n,c,B,m,d,g',A',n',c',B',m',d',rfl,h4,h5⟩
 ·refine (minus_none 34 s g A n c B m d x t g' A' n' c' B' m' d' y w h4 h5).mono ?_;rintro e w' ⟨g5,A5,n5,c5,B5,m5,d5,g6,A6,n6,c6,B6,m6,d6,rfl,q1,q2,hb⟩
  exact⟨_,rfl,.inl ⟨by omega,rfl,_,_,_,_,_,_,_,_,_,_,_,_,_,_,_,_,_,_,rfl,q1,q2⟩,hb⟩
 ·refine (minus_some 34 _ g A n c B m d _ _ g' A' n' c' B' m' d' _ w h4 h5 (by omega) (es_bounds i) (es_bounds j)).mono ?_;rintro e w' ⟨g5,A5,n5,c5,B5,m5,d5,g6,A6,n6,c6,B6,m6,d6,rfl,q1,q2,hb⟩;rw [← es_neg,← es_neg];rw [← ex_neg] at q1 q2
  exact⟨_,rfl,.inr ⟨by omega,_,_,_,_,_,_,_,_,_,_,_,_,_,_,rfl,q1,q2⟩,hb⟩
theorem PcW.below{w w0:World}{o:Bool}{s1:Int}{g1:Bool}{A1:Option Addr}{n1 c1:Nat}{B1:Option Addr}{m1 d1:Nat}{N1:Int}{o1:Bool}{s2:Int}{g2:Bool}{A2:Option Addr}{n2 c2:Nat}{B2:Option Addr}{m2 d2:Nat}{N2:Int}{o2:Bool}{F:Int→Int→Int × Int}
  (h:PcW w0 o s1 g1 A1 n1 c1 B1 m1 d1 N1 o1 s2 g2 A2 n2 c2 B2 m2 d2 N2 o2 F)(hb:Below w0.heap.size w0 w):PcW w o s1 g1 A1 n1 c1 B1 m1 d1 N1 o1 s2 g2 A2 n2 c2 B2 m2 d2 N2 o2 F:=
 ⟨h.1,fun W i j hW hij=>h.2 W i j (hb.trans (hW.mono hb.size)) hij⟩
theorem es_ne{i:Int}:es i≠0↔i=M∨i=-(M:Int):=by
 have hM:M=9218868437227405312:=rfl;unfold es
 split
 ·omega
 ·split<;>omega
end Go.Proofs.YtmjkmoahkanblaaGreat
