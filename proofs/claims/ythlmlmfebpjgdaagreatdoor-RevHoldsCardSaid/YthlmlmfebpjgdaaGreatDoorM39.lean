/-
RevHolds: what its calls answer; it returns true.
Arguments that are ratios, or structs of ratios, opened.
-/
import Derived.Test.YthlmlmfebpjgdaaGreatDoorM32
import Derived.Test.YthlmlmfebpjgdaaGreatDoorPRmT
import Derived.Test.YthlmlmfebpjgdaaGreatDoorM23
import Derived.Test.YthlmlmfebpjgdaaGreatDoorRows
import Derived.WalkKit
import Derived.ProofKit
import Derived.OpenShut
import Derived.Below
import Derived.Carry
import Derived.ChangeSame
import Derived.ChangeSlices
set_option linter.unusedSimpArgs false
set_option linter.unusedVariables false
set_option maxHeartbeats 12800000
namespace Go.Proofs.YthlmlmfebpjgdaaGreatDoor
open Go.RowKit
theorem dr1_iv{i1 j1 i2 j2 i j:Int}(h1:Iv i1 j1)(h2:Iv i2 j2)(hx:Iv i j):Iv (dr1 i1 j1 i2 j2 i j).1 (dr1 i1 j1 i2 j2 i j).2:=by
 unfold dr1
 split
 ·exact Iv.none
 ·have n1:=ne_or h1 (by omega)
  exact Iv.hull (FV_iv n1 h2 i j hx) (FV_iv n1.neg h2 (-j) (-i) hx.negg).negg
theorem dr2_iv{i1 j1 i2 j2 i j:Int}(h1:Iv i1 j1)(h2:Iv i2 j2)(hx:Iv i j):Iv (dr2 i1 j1 i2 j2 i j).1 (dr2 i1 j1 i2 j2 i j).2:=by
 unfold dr2
 split
 ·exact Iv.none
 ·split
  ·exact Iv.hull (zc1_iv i j hx) (zc2_iv i j hx)
  ·exact Iv.hull (Iv.hull (FD_iv (by omega) (by omega) i j hx) (FD_iv (by omega) (by omega) i j hx)) (Iv.hull (FD_iv (by omega) (by omega) (-j) (-i) hx.negg) (FD_iv (by omega) (by omega) (-j) (-i) hx.negg)).negg
theorem rmx_iv{b c x:Int × Int}(h1:Iv b.1 b.2)(h2:Iv c.1 c.2)(h3:Iv x.1 x.2):Iv (rmx b c x).1 (rmx b c x).2:=(rmr_iv h1.negg h2.negg h3.negg).negg
theorem NewRat.ww{w w':World}{K K':Nat}{x:Rat}{e:Ending}(h:NewRat w K x e w')(hk:K≤K'):NewRatW w K' x e w':=by
 obtain⟨g,A,n,c,B,m,d,rfl,hr,hb⟩:=h.s
 exact⟨g,A,n,c,B,m,d,rfl,hr.w.mono hk,hb⟩
theorem NewRatS.ww{w w':World}{K K':Nat}{x:Rat}{e:Ending}(h:NewRatS w K x e w')(hk:K≤K'):NewRatW w K' x e w':=by
 obtain⟨g,A,n,c,B,m,d,rfl,hr,hb⟩:=h
 exact⟨g,A,n,c,B,m,d,rfl,hr.w.mono hk,hb⟩
theorem NewRatW.ww{w w':World}{K K':Nat}{x:Rat}{e:Ending}(h:NewRatW w K x e w')(hk:K≤K'):NewRatW w K' x e w':=by
 obtain⟨g,A,n,c,B,m,d,rfl,hr,hb⟩:=h
 exact⟨g,A,n,c,B,m,d,rfl,hr.mono hk,hb⟩
theorem holds_law(b1 b2 e1 e2 x1 x2:Nat)(g1:Bool)(A1:Option Addr)(n1 c1:Nat)(B1:Option Addr)(m1 d1:Nat)(g2:Bool)(A2:Option Addr)(n2 c2:Nat)(B2:Option Addr)(m2 d2:Nat)(p1 q1 p2 q2:List Nat)(w:World)
  (l3:b1<18446744073709551616)(l4:b2<18446744073709551616)(l5:e1<18446744073709551616)(l6:e2<18446744073709551616)(l7:x1<18446744073709551616)(l8:x2<18446744073709551616)
  (u1:U32b w A1 n1 c1 p1)(v1:U32b w B1 m1 d1 q1)(u2:U32b w A2 n2 c2 p2)(v2:U32b w B2 m2 d2 q2):
  Calls Tryz.prog 7 #[.agg #[.int .u64 (b1:Int),.int .u64 (b2:Int),.int .u64 (e1:Int),.int .u64 (e2:Int),.int .u64 (x1:Int),.int .u64 (x2:Int)],.agg #[.bool g1,.slice A1 n1 c1,.slice B1 m1 d1],.agg #[.bool g2,.slice A2 n2 c2,.slice B2 m2 d2]] w
   fun e w'=>e=.returned (.bool true)∧Below w.heap.size w w':=by
 have i1:=fun W (hW:Below w.heap.size w W)=>is_any g1 A1 n1 c1 B1 m1 d1 q1 _ W u1.small (v1.below hW) rfl;have i2:=fun W (hW:Below w.heap.size w W)=>is_any g2 A2 n2 c2 B2 m2 d2 q2 _ W u2.small (v2.below hW) rfl
 cases r1:(decide (0<num q1) && decide (n1<100) && decide (m1<100))
 ·rw [r1] at i1
  exact holds_skip0 b1 b2 e1 e2 x1 x2 g1 A1 n1 c1 B1 m1 d1 g2 A2 n2 c2 B2 m2 d2 w awake_any i1
 rw [r1] at i1
 cases r2:(decide (0<num q2) && decide (n2<100) && decide (m2<100))
 ·rw [r2] at i2
  exact holds_skip1 b1 b2 e1 e2 x1 x2 g1 A1 n1 c1 B1 m1 d1 g2 A2 n2 c2 B2 m2 d2 w awake_any i1 i2
 rw [r2] at i2;have w1:=U32b.ratw (K:=100) (g:=g1) u1 v1 r1 (Nat.le_refl _);have w2:=U32b.ratw (K:=100) (g:=g2) u2 v2 r2 (Nat.le_refl _)
 obtain⟨v,hy1⟩:∃ y,rv g1 (num p1) (num q1)=y:=⟨_,rfl⟩
 obtain⟨q,hy2⟩:∃ y,rv g2 (num p2) (num q2)=y:=⟨_,rfl⟩
 rw [hy1] at w1;rw [hy2] at w2;have o1:=fun W (hW:Below w.heap.size w W)=>holds_any x1 x2 100 g1 A1 n1 c1 B1 m1 d1 v W l7 l8 (w1.below hW) (by omega) (by omega);have o2:=fun W (hW:Below w.heap.size w W)=>holds_any b1 b2 100 g2 A2 n2 c2 B2 m2 d2 q W l3 l4 (w2.below hW) (by omega) (by omega);have vb:=rd_iv b1 b2;have vc:=rd_iv e1 e2;have vx:=rd_iv x1 x2;have f1:=fun W=>revadd_any b1 b2 e1 e2 x1 x2 W l3 l4 l5 l6 l7 l8;have f2:=fun W=>revsub1_any b1 b2 e1 e2 x1 x2 W l3 l4 l5 l6 l7 l8;have f3:=fun W=>revsub2_any b1 b2 e1 e2 x1 x2 W l3 l4 l5 l6 l7 l8;have f4:=fun W=>mulrev_any b1 b2 e1 e2 x1 x2 W l3 l4 l5 l6 l7 l8;have f5:=fun W=>divrev1_any b1 b2 e1 e2 x1 x2 W l3 l4 l5 l6 l7 l8;have f6:=fun W=>divrev2_any b1 b2 e1 e2 x1 x2 W l3 l4 l5 l6 l7 l8;have f7:=fun W=>revmin_any b1 b2 e1 e2 x1 x2 W l3 l4 l5 l6 l7 l8;have f8:=fun W=>revmax_any b1 b2 e1 e2 x1 x2 W l3 l4 l5 l6 l7 l8;have hc:=fun y W g A n c B m d (h:RatW W 201 g (.slice A n c) (.slice B m d) y)=>holds_any e1 e2 201 g A n c B m d y W l5 l6 h (by omega) (by omega)
 obtain⟨⟨bi,bj⟩,rb⟩:∃ z,rd b1 b2=z:=⟨_,rfl⟩
 obtain⟨⟨ci,cj⟩,rc'⟩:∃ z,rd e1 e2=z:=⟨_,rfl⟩
 obtain⟨⟨xi,xj⟩,rx⟩:∃ z,rd x1 x2=z:=⟨_,rfl⟩
 rw [rb] at vb o2 f1 f2 f3 f4 f5 f6 f7 f8;rw [rc'] at vc f1 f2 f3 f4 f5 f6 f7 f8 hc;rw [rx] at vx o1 f1 f2 f3 f4 f5 f6 f7 f8
 dsimp only at vb vc vx o1 o2 f1 f2 f3 f4 f5 f6 hc
 cases ha:hd xi xj v
 ·rw [ha] at o1
  exact holds_skip2 b1 b2 e1 e2 x1 x2 g1 A1 n1 c1 B1 m1 d1 g2 A2 n2 c2 B2 m2 d2 w awake_any i1 i2 o1
 rw [ha] at o1
 cases hb:hd bi bj q
 ·rw [hb] at o2
  exact holds_skip3 b1 b2 e1 e2 x1 x2 g1 A1 n1 c1 B1 m1 d1 g2 A2 n2 c2 B2 m2 d2 w awake_any i1 i2 o1 o2
 rw [hb] at o2;have ix:=hd_in.1 ha;have ib:=hd_in.1 hb
 have kp:∀ (lo hi:Int),-(M:Int)≤lo→hi≤M→In lo hi v→∀ W,Below w.heap.size w W→Calls Tryz.prog 37 #[.agg #[.bool g1,.slice A1 n1 c1,.slice B1 m1 d1],.agg #[.float .f64 (pat lo),.float .f64 (pat hi)]] W fun e w'=>e=.returned (.bool true)∧Below W.heap.size W w':=by
  intro lo hi h1 h2 h W hW;have iv:=(h.ne h1 h2).iv;have k:=kept_any lo hi 100 g1 A1 n1 c1 B1 m1 d1 v W iv.lo iv.hi iv (w1.below hW) (by omega) (by omega);rw [hd_in.2 h] at k
  exact k
 have s5:rsg q≠0→q≠0:=fun h e=>h (rsg_zero_iff.2 e);have s6:rsg v≠0→v≠0:=fun h e=>h (rsg_zero_iff.2 e);have iv4:=mlr_iv vb vc vx;have iv5:=dr1_iv vb vc vx;have iv6:=dr2_iv vb vc vx;have iv7:=rmr_iv vb vc vx;have iv8:=rmx_iv (b:=(bi,bj)) (c:=(ci,cj)) (x:=(xi,xj)) vb vc vx
 refine holds_main b1 b2 e1 e2 x1 x2 g1 A1 n1 c1 B1 m1 d1 g2 A2 n2 c2 B2 m2 d2 201 (rsg q) (rsg v) (v+q) (v - q) (q - v) (v*q) (v / q) (q / v) (rmin v q) (rmax v q) (hd ci cj (v+q)) (hd ci cj (v - q)) (hd ci cj (q - v)) (hd ci cj (v*q)) (hd ci cj (v / q)) (hd ci cj (q / v)) (hd ci cj (rmin v q)) (hd ci cj (rmax v q)) _ _ _ _ _ _ _ _ _ _ _ _ _ _ _ _ w awake_any i1 i2 o1 o2
  (fun W hW=>rsign_w 100 g2 _ _ q W (w2.below hW) (by omega)) (fun W hW=>rsign_w 100 g1 _ _ v W (w1.below hW) (by omega))
  ?_ (hc _) f1 ?_ ?_ (hc _) f2 ?_ ?_ (hc _) f3 ?_ ?_ (hc _) f4 ?_ ?_ (hc _) f5 ?_ ?_ (hc _) f6 ?_ ?_ (hc _) f7 ?_ ?_ (hc _) f8 ?_
 ·exact fun W hW=>(radd_w 100 g1 _ _ v g2 _ _ q W (w1.below hW) (w2.below hW) (by omega)).mono fun _ _ h=>h.ww (by omega)
 ·exact fun hk=>kp _ _ (rar_rng vx.lo.1 vx.hi.2).1 (rar_rng vx.lo.1 vx.hi.2).2 (rar_in ⟨vb.lo.1,vb.hi.2,vc.lo.1,vc.hi.2,vx.lo.1,vx.hi.2⟩ ib (hd_in.1 hk) ix)
 ·exact fun W hW=>(rsub_w 100 g1 A1 n1 c1 B1 m1 d1 v g2 A2 n2 c2 B2 m2 d2 q W (w1.below hW) (w2.below hW) (by omega)).mono fun _ _ h=>h.ww (by omega)
 ·exact fun hk=>kp _ _ (rar_rng vx.lo.1 vx.hi.2).1 (rar_rng vx.lo.1 vx.hi.2).2 (rar_in ⟨vb.negg.lo.1,vb.negg.hi.2,vc.lo.1,vc.hi.2,vx.lo.1,vx.hi.2⟩ ib.neg (by rw [← Rat.sub_eq_add_neg];exact hd_in.1 hk) ix)
 ·exact fun W hW=>(rsub_w 100 g2 A2 n2 c2 B2 m2 d2 q g1 A1 n1 c1 B1 m1 d1 v W (w2.below hW) (w1.below hW) (by omega)).mono fun _ _ h=>h.ww (by omega)
 ·exact fun hk=>kp _ _ (rar_rng vx.lo.1 vx.hi.2).1 (rar_rng vx.lo.1 vx.hi.2).2 (rar_in ⟨vb.negg.lo.1,vb.negg.hi.2,vc.negg.lo.1,vc.negg.hi.2,vx.lo.1,vx.hi.2⟩ ib.neg (by rw [show v+-q=-(q - v) by grind];exact (hd_in.1 hk).neg) ix)
 ·exact fun W hW=>(rmul_w 100 g1 _ _ v g2 _ _ q W (w1.below hW) (w2.below hW) (by omega) (by omega)).mono fun _ _ h=>h.ww (by omega)
 ·exact fun hk=>kp _ _ iv4.lo.1 iv4.hi.2 (mlr_in ⟨vb.lo.1,vb.hi.2,vc.lo.1,vc.hi.2,vx.lo.1,vx.hi.2⟩ ib (hd_in.1 hk) ix)
 ·exact fun hs W hW=>(rquo_w 100 g1 _ _ v g2 _ _ q W (w1.below hW) (w2.below hW) (by omega) (by omega) (s5 hs)).mono fun _ _ h=>h.ww (by omega)
 ·exact fun hs hk=>kp _ _ iv5.lo.1 iv5.hi.2 (dr1_in ⟨vb.lo.1,vb.hi.2,vc.lo.1,vc.hi.2,vx.lo.1,vx.hi.2⟩ ib (s5 hs) (hd_in.1 hk) ix)
 ·exact fun hs W hW=>(rquo_w 100 g2 _ _ q g1 _ _ v W (w2.below hW) (w1.below hW) (by omega) (by omega) (s6 hs)).mono fun _ _ h=>h.ww (by omega)
 ·exact fun hs hk=>kp _ _ iv6.lo.1 iv6.hi.2 (dr2_in ⟨vb.lo.1,vb.hi.2,vc.lo.1,vc.hi.2,vx.lo.1,vx.hi.2⟩ ib (s6 hs) (hd_in.1 hk) ix)
 ·exact fun W hW=>(lesser_w 100 g1 A1 n1 c1 B1 m1 d1 v g2 A2 n2 c2 B2 m2 d2 q W (w1.below hW) (w2.below hW) (by omega)).mono fun _ _ h=>h.ww (by omega)
 ·exact fun hk=>kp _ _ iv7.lo.1 iv7.hi.2 (rmr_in vb.hi.2 vc.hi.2 vx.hi.2 ib (hd_in.1 hk) ix)
 ·exact fun W hW=>(greater_w 100 g1 A1 n1 c1 B1 m1 d1 v g2 A2 n2 c2 B2 m2 d2 q W (w1.below hW) (w2.below hW) (by omega)).mono fun _ _ h=>h.ww (by omega)
 ·exact fun hk=>kp _ _ iv8.lo.1 iv8.hi.2 (rmx_in (b:=(bi,bj)) (c:=(ci,cj)) (x:=(xi,xj)) vb.lo.1 vc.lo.1 vx.lo.1 ib (hd_in.1 hk) ix)
end Go.Proofs.YthlmlmfebpjgdaaGreatDoor
namespace Go.Proofs.YthlmlmfebpjgdaaGreatDoor
open Go.ChangeShapes Go.WideShapes Go.ChangeAt Go.RowKit
section
variable {H:Type} {enc:TypeId × Value→H} {w:World} {base:Nat} {spare:Nat→Bool} {held:Bool}
theorem u32_nat{z:Int}(h:(Lit.int .u32 z).wf=true):∃ n:Nat,z=n∧n<4294967296:=by
 simp only [Lit.wf,Bool.and_eq_true,decide_eq_true_eq] at h
 have h1:(0:Int)≤z:=h.1;have h2:z≤4294967295:=h.2
 exact⟨z.toNat,by omega,by omega⟩
theorem open_words{fuel:Nat}{c0:Value}{x:DataW H × List MemPlace}(h:DataW.trod enc Tryz.prog w base spare held fuel 40 [c0]=some x):
  ∃ A n c,c0=.slice A n c∧((∀ b ∈ x.1.weights Tryz.prog 40,b≤reachBytes)→∃ xs,U32b w A n c xs):=by
 have hc:Tryz.prog.cellsOf 117=1:=by kernel_rfl
 have hby:Tryz.prog.bytesOf 117=4:=by kernel_rfl
 rcases open_ints Tryz.underlying40 Tryz.underlying117 hc h with ⟨e,rfl⟩ | ⟨a,len,cap,zs,e,hb,hl,hm,hz,rfl,hcell,hw⟩
 ·obtain rfl:c0=.slice none 0 0:=by simpa using e
  exact⟨none,0,0,rfl,fun _=>⟨[],rfl,Nat.le_refl _,by omega,fun x hx=>(by cases hx),fun h=>absurd h (by omega)⟩⟩
 ·obtain rfl:c0=.slice (some a) len cap:=by simpa using e
  refine⟨some a,len,cap,rfl,fun hwt=>?_⟩
  have hlz:len≤zs.length:=by rw [hz];split<;>omega
  have hb4:zs.length*4≤reachBytes:=by
   have k:=hwt ((zs.take len).length*4+(zs.drop len).length*4) (by
    simp only [DataW.weights,Tryz.underlying40,hby,lits,List.length_map]
    rw [← Nat.add_mul]
    exact List.mem_cons_self ..)
   rw [List.length_take,List.length_drop] at k
   omega
  have hr:reachBytes=140737488351232:=rfl
  have nat:∀ i,i<zs.length→∃ n:Nat,zs.getD i 0=n∧n<4294967296:=fun i hi=>by
   refine u32_nat (hw _ ?_);rw [show zs.getD i 0=zs[i] from by simp [List.getD,hi]]
   exact List.getElem_mem hi
  refine⟨(zs.take len).map Int.toNat,by simp;omega,hl,by omega,fun x hx=>?_,fun h0=>⟨a,rfl,?_,fun j hj=>?_⟩⟩
  ·obtain⟨z,hz1,rfl⟩:=List.mem_map.1 hx;obtain⟨n,rfl,hn⟩:=u32_nat (hw z (List.mem_of_mem_take hz1))
   simpa using hn
  ·have k:=hcell 0 (by omega)
   have e0:a.add 0=a:=by unfold Addr.add;rfl
   rw [e0] at k;unfold World.cell? at k
   cases hh:w.heap[a.block]? with
   | none=>rw [hh] at k;cases k
   | some o=>exact (Array.getElem?_eq_some_iff.1 hh).1
  ·rw [hcell j (by omega)];obtain⟨n,en,hn⟩:=nat j (by omega)
   have e1:((zs.take len).map Int.toNat)[j]?.getD 0=n:=by
    rw [List.getElem?_map,List.getElem?_take_of_lt hj]
    have:zs[j]?=some (n:Int):=by
     rw [List.getElem?_eq_getElem (show j<zs.length by omega)];rw [show zs.getD j 0=zs[j]'(show j<zs.length by omega) from by simp [List.getD,show j<zs.length by omega]] at en;rw [en]
    rw [this];simp
   rw [e1,en]
theorem open_ratio{fuel:Nat}{c0 c1 c2:Value}{x:DataW H × List MemPlace}(h:DataW.trod enc Tryz.prog w base spare held fuel 42 [c0,c1,c2]=some x):
  ∃ g A n c B m d,c0=.bool g∧c1=.slice A n c∧c2=.slice B m d∧((∀ b ∈ x.1.weights Tryz.prog 42,b≤reachBytes)→∃ xs ys,U32b w A n c xs∧U32b w B m d ys):=by
 obtain⟨xs,n,_,hx,_,hlen,hg⟩:=DataW.trod_struct Tryz.underlying42 h
 have hb:Tryz.prog.cellsOf 4=1:=by kernel_rfl
 have hs:Tryz.prog.cellsOf 40=1:=by kernel_rfl
 match xs,hlen with
 | [y0,y1,y2],_=>
  have g0:=hg 0 _ rfl;have g1:=hg 1 _ rfl;have g2:=hg 2 _ rfl
  simp [hb,hs] at g0 g1 g2
  obtain⟨g,e0,rfl⟩:=DataW.trod_bool Tryz.underlying4 g0;obtain⟨A,n1,c,rfl,u1⟩:=open_words g1;obtain⟨B,m,d,rfl,u2⟩:=open_words g2
  simp at e0
  subst e0;refine⟨g,A,n1,c,B,m,d,rfl,rfl,rfl,fun hw=>?_⟩;subst hx
  simp only [DataW.weights,Tryz.underlying42,DataW.weightsEach,List.map_cons,List.map_nil,Array.toList,List.nil_append,List.append_nil,List.mem_append] at hw
  obtain⟨p,hp⟩:=u1 fun b hb=>hw b (.inl hb);obtain⟨q,hq⟩:=u2 fun b hb=>hw b (.inr hb)
  exact⟨p,q,hp,hq⟩
end
end Go.Proofs.YthlmlmfebpjgdaaGreatDoor
