/-
Lemmas for the statement: HoneT.
-/
import Derived.Test.YthlmlmfebpjgdaaGreatDoorM11
import Derived.Test.YthlmlmfebpjgdaaGreatDoorM19
import Derived.Test.YthlmlmfebpjgdaaGreatDoorM09
import Derived.Test.YthlmlmfebpjgdaaGreatDoorM15
import Derived.Deep.DeepCutAuto
set_option linter.unusedSimpArgs false
set_option linter.unusedVariables false
set_option maxHeartbeats 0
namespace Go.Proofs.YthlmlmfebpjgdaaGreatDoor
open Go.Proofs.Tryz
open Go.RowKit
section
attribute [local go_sem] run_store_float
section
variable {P:Program} {ops:Array Oper} {Q:Exit->Act->World->Prop} {md:Region.Mode} {S:World->Prop} {fuel:Nat} {listed:Array Bool} {a:Act} {w:World}
theorem rct(i:Nat){o:Oper}{C R:Prop}(c:C)(q:R)(hr:Region.ready md ops listed=[i]:=by kernel_rfl)(ho:ops[i]?=some o:=by rfl)
  (h:C->R->∀ K':Act->World->Prop,Shut (∀ a w,S w->(S w->wpAnyH P md ops Q S fuel (listed.setIfInBounds i true) a w)->K' a w)->if Region.wanted o (yielded ops a.tmps)=true then Oper.wp P o a w K' Q else K' (a.put o.dst undef) w:=by intro hc hq KK hKK;go_simp;refine hc.mono ?_;clear hc;rintro e wk ⟨rfl,hb⟩;refine hKK.out _ _ (hHeld.keep hb) (fun hH=>?_);(try simp only [Act.put,lay]);revert hH;revert hb;revert wk;exact hq):wpAnyH P md ops Q S (fuel+1) listed a w:=rdy i (h c q) hr ho
theorem rcm(i:Nat){o:Oper}{C R:Prop}(c:C)(q:R)(hr:Region.ready md ops listed=[i]:=by kernel_rfl)(ho:ops[i]?=some o:=by rfl)
  (h:C->R->∀ K':Act->World->Prop,Shut (∀ a w,S w->(S w->wpAnyH P md ops Q S fuel (listed.setIfInBounds i true) a w)->K' a w)->if Region.wanted o (yielded ops a.tmps)=true then Oper.wp P o a w K' Q else K' (a.put o.dst undef) w:=by intro hc hq KK hKK;go_simp;refine hc.mono ?_;clear hc;rintro e wk ⟨g,A,n,c,B,m,d,rfl,hr,hb⟩;refine hKK.out _ _ (hHeld.keep hb) (fun hH=>?_);(try simp only [Act.put,lay]);revert hH;revert hb;revert hr;revert d;revert m;revert B;revert c;revert n;revert A;revert g;revert wk;exact hq):wpAnyH P md ops Q S (fuel+1) listed a w:=rdy i (h c q) hr ho
end
structure Tw (W:World) (K K1:Nat) (g1:Bool) (A1:Option Addr) (n1 c1:Nat) (B1:Option Addr) (m1 d1:Nat) (y1:Rat) (g2:Bool) (A2:Option Addr) (n2 c2:Nat) (B2:Option Addr) (m2 d2:Nat) (y2:Rat):Prop where
 a:RatW W K g1 (.slice A1 n1 c1) (.slice B1 m1 d1) y1
 b:RatV W K1 g2 (.slice A2 n2 c2) (.slice B2 m2 d2) y2
section
variable {W W':World} {K K1:Nat} {g1:Bool} {A1:Option Addr} {n1 c1:Nat} {B1:Option Addr} {m1 d1:Nat} {y1:Rat} {g2:Bool} {A2:Option Addr} {n2 c2:Nat} {B2:Option Addr} {m2 d2:Nat} {y2:Rat}
theorem Tw.below(h:Tw W K K1 g1 A1 n1 c1 B1 m1 d1 y1 g2 A2 n2 c2 B2 m2 d2 y2)(b:Below W.heap.size W W'):Tw W' K K1 g1 A1 n1 c1 B1 m1 d1 y1 g2 A2 n2 c2 B2 m2 d2 y2:=⟨h.a.below b,h.b.below b⟩
theorem Tw.sets{g:Nat}{t:TypeId}{cs:Array Value}(h:Tw W K K1 g1 A1 n1 c1 B1 m1 d1 y1 g2 A2 n2 c2 B2 m2 d2 y2)(hb:Blk W g t cs)(hc:NoWd cs)(i:Nat)(vs:List Value):Tw (Proofs.YthlmlmfebpjgdaaGreatDoor.sets W g i vs) K K1 g1 A1 n1 c1 B1 m1 d1 y1 g2 A2 n2 c2 B2 m2 d2 y2:=⟨h.a.sets hb hc i vs,h.b.sets hb hc i vs⟩
end
abbrev HdV(K o1 o2:Nat)(y:Rat)(k:Bool):Prop:=∀ g1 A1 n1 c1 B1 m1 d1 W,RatV W K g1 (.slice A1 n1 c1) (.slice B1 m1 d1) y->Rt 34 #[.agg #[.int .u64 (o1:Int),.int .u64 (o2:Int)],Zg g1 A1 n1 c1 B1 m1 d1] (.bool k) W
abbrev HdW(K o1 o2:Nat)(y:Rat)(k:Bool):Prop:=∀ g1 A1 n1 c1 B1 m1 d1 W,RatW W K g1 (.slice A1 n1 c1) (.slice B1 m1 d1) y->Rt 34 #[.agg #[.int .u64 (o1:Int),.int .u64 (o2:Int)],Zg g1 A1 n1 c1 B1 m1 d1] (.bool k) W
abbrev Rvs(f:FuncId)(o1 o2 x1 x2 p q:Nat):Prop:=∀ W,Calls prog f #[Zf o1 o2,Zf x1 x2] W fun e w'=>e=.returned (Zf p q)/\Below W.heap.size W w'
abbrev Kpt(w:World)(v:Value)(p q:Nat):Prop:=∀ W,Below w.heap.size w W->Rt 37 #[v,Zf p q] (.bool true) W
set_option maxRecDepth 100000 in
theorem one_skip0(z:Int)(o1 o2 x1 x2:Nat)(g:Bool)(A:Option Addr)(n c:Nat)(B:Option Addr)(m d:Nat)(w:World)(hQ:∀ W,Rt 21 #[] (.bool true) W)(hi:∀ W,Below w.heap.size w W->Rt 33 #[Zg g A n c B m d] (.bool false) W):
  Rt 8 #[.int .i64 z,.agg #[.int .u64 (o1:Int),.int .u64 (o2:Int)],.agg #[.int .u64 (x1:Int),.int .u64 (x2:Int)],Zg g A n c B m d] (.bool true) w:=by
 have HQ:=Hd hQ;have HI:=Hd hi;clear hQ hi;have LL:=li3 w #[.int .u64 (o1:Int),.int .u64 (o2:Int)] 24 #[.int .u64 (x1:Int),.int .u64 (x2:Int)] 24 (Zr g A n c B m d) 42
 go_enter func8,ntmps8
 go_wp2_with fail;refine cx (HQ.out _) fun wk hb=>?_;replace LL:=stL LL hb;clear hb HQ;obtain⟨q1_0,q1_1,q1_2⟩:=(LL.out.blk 2 rfl).c3;go_wp2_with fail;refine cx (HI.out _ LL.out.b) fun wk hb=>?_;replace LL:=stL LL hb;clear hb q1_0 q1_1 q1_2 HI;go_wp2
 go_ret
 exact⟨rfl,LL.out.b⟩
set_option maxRecDepth 100000 in
theorem one_skip1(z:Int)(o1 o2 x1 x2:Nat)(g:Bool)(A:Option Addr)(n c:Nat)(B:Option Addr)(m d:Nat)(w:World)(hQ:∀ W,Rt 21 #[] (.bool true) W)(hi:∀ W,Below w.heap.size w W->Rt 33 #[Zg g A n c B m d] (.bool true) W)(hx:∀ W,Below w.heap.size w W->Rt 34 #[.agg #[.int .u64 (x1:Int),.int .u64 (x2:Int)],Zg g A n c B m d] (.bool false) W):
  Rt 8 #[.int .i64 z,.agg #[.int .u64 (o1:Int),.int .u64 (o2:Int)],.agg #[.int .u64 (x1:Int),.int .u64 (x2:Int)],Zg g A n c B m d] (.bool true) w:=by
 have HQ:=Hd hQ;have HI:=Hd hi;have HX:=Hd hx;clear hQ hi hx;have LL:=li3 w #[.int .u64 (o1:Int),.int .u64 (o2:Int)] 24 #[.int .u64 (x1:Int),.int .u64 (x2:Int)] 24 (Zr g A n c B m d) 42
 go_enter func8,ntmps8
 go_wp2_with fail;refine cx (HQ.out _) fun wk hb=>?_;replace LL:=stL LL hb;clear hb HQ;obtain⟨q1_0,q1_1,q1_2⟩:=(LL.out.blk 2 rfl).c3;go_wp2_with fail;refine cx (HI.out _ LL.out.b) fun wk hb=>?_;replace LL:=stL LL hb;clear hb q1_0 q1_1 q1_2 HI;obtain⟨q2_0,q2_1⟩:=(LL.out.blk 1 rfl).c2;obtain⟨q3_0,q3_1,q3_2⟩:=(LL.out.blk 2 rfl).c3;go_wp2_with fail;refine cx (HX.out _ LL.out.b) fun wk hb=>?_;replace LL:=stL LL hb;clear hb q2_0 q2_1 q3_0 q3_1 q3_2 HX;go_wp2
 go_ret
 exact⟨rfl,LL.out.b⟩
set_option maxRecDepth 100000 in
theorem one_main(z:Int)(o1 o2 x1 x2:Nat)(g:Bool)(A:Option Addr)(n c:Nat)(B:Option Addr)(m d:Nat)(K K1 K2 K3 K4 K5:Nat)(s:Int)(v yF yC yN yS yT yM yQ yP yR yW ys yE yA:Rat)(k1 k2 k3 k4 k5 k6 k7 k8 k9 k10 k11:Bool)(u1 u2 p1 q1 p2 q2 p3 q3 p4 q4 p5 q5 p6 q6 p7 q7 p8 q8 p9 q9 p10 q10 p11 q11 p12 q12:Nat)(w:World)(hT:Tab w)(hz1:-9223372036854775808<=z)(hz2:z<9223372036854775808)
  (hQ:∀ W,Rt 21 #[] (.bool true) W)
  (hi:∀ W,Below w.heap.size w W->Rt 33 #[Zg g A n c B m d] (.bool true) W)
  (hx:∀ W,Below w.heap.size w W->Rt 34 #[.agg #[.int .u64 (x1:Int),.int .u64 (x2:Int)],Zg g A n c B m d] (.bool true) W)
  (hs:∀ W,Below w.heap.size w W->Rt 42 #[Zg g A n c B m d] (.int .i64 s) W)
  (hf:∀ W,Below w.heap.size w W->Calls prog 46 #[Zg g A n c B m d] W (NewRatS W K1 yF))
  (ha:∀ W,Below w.heap.size w W->Calls prog 48 #[Zg g A n c B m d] W (NewRatS W K1 yC))
  (hn:∀ W,Below w.heap.size w W->Calls prog 47 #[Zg g A n c B m d] W (NewRatW W K yN))
  (hv:∀ W,Below w.heap.size w W->RatW W K g (.slice A n c) (.slice B m d) v)
  (hh1:HdW K o1 o2 yN k1)
  (hr1:Rvs 49 o1 o2 x1 x2 p1 q1)
  (hk1:k1=true->Kpt w (Zg g A n c B m d) p1 q1)
  (hh2:HdW K o1 o2 yS k2)
  (hr2:Rvs 50 o1 o2 x1 x2 p2 q2)
  (hk2:k2=true->Kpt w (Zg g A n c B m d) p2 q2)
  (hm:∀ W,Below w.heap.size w W->Calls prog 36 #[Zg g A n c B m d,Zg g A n c B m d] W (NewRatS W K2 yM))
  (hh3:HdV K2 o1 o2 yM k3)
  (hr3:Rvs 14 o1 o2 x1 x2 p3 q3)
  (hk3:k3=true->Kpt w (Zg g A n c B m d) p3 q3)
  (ho:∀ W,Calls prog 51 #[.int .i64 1] W (NewRatS W 1 1))
  (hqo:s≠0->∀ g1 A1 n1 c1 B1 m1 d1 W,Below w.heap.size w W->RatV W 1 g1 (.slice A1 n1 c1) (.slice B1 m1 d1) 1->Calls prog 43 #[Zg g1 A1 n1 c1 B1 m1 d1,Zg g A n c B m d] W (NewRatS W K2 yQ))
  (hh4:HdV K2 o1 o2 yQ k4)
  (hr4:Rvs 28 o1 o2 x1 x2 p4 q4)
  (hk4:s≠0->k4=true->Kpt w (Zg g A n c B m d) p4 q4)
  (hsq:∀ W,Rt 52 #[Zf x1 x2] (Zf u1 u2) W)
  (hr5:∀ W,Rt 17 #[Zf o1 o2,Zf u1 u2] (Zf p5 q5) W)
  (hk5:k2=true->∀ g1 A1 n1 c1 B1 m1 d1 W,RatV W K2 g1 (.slice A1 n1 c1) (.slice B1 m1 d1) yM->Rt 37 #[Zg g1 A1 n1 c1 B1 m1 d1,Zf p5 q5] (.bool true) W)
  (hp1:-9<z->z<9->∀ W,Below w.heap.size w W->Calls prog 53 #[Zg g A n c B m d,.int .i64 (bits .and .i64 z 15)] W (NewRatS W K3 yP))
  (hp2:-9<z->z<0->∀ W,Below w.heap.size w W->Calls prog 53 #[Zg g A n c B m d,.int .i64 (-z)] W (NewRatS W K3 yR))
  (hq2:z<0->s≠0->∀ g1 A1 n1 c1 B1 m1 d1 g2 A2 n2 c2 B2 m2 d2 W,RatV W 1 g1 (.slice A1 n1 c1) (.slice B1 m1 d1) 1->RatV W K3 g2 (.slice A2 n2 c2) (.slice B2 m2 d2) yR->Calls prog 43 #[Zg g1 A1 n1 c1 B1 m1 d1,Zg g2 A2 n2 c2 B2 m2 d2] W (NewRatS W K4 yW))
  (hh5:0<=z->HdV K3 o1 o2 yP k5)
  (hh6:z<0->HdV K4 o1 o2 yW k5)
  (hr6:-9<z->z<9->∀ W,Tab W->Rt 39 #[.int .i64 z,Zf o1 o2,Zf x1 x2] (Zf p6 q6) W)
  (hk6:(-9<z/\z<9/\(z<0->s≠0))->k5=true->Kpt w (Zg g A n c B m d) p6 q6)
  (his:∀ W,Calls prog 51 #[.int .i64 s] W (NewRatS W 1 ys))
  (hh7:HdV 1 o1 o2 ys k6)
  (hr7:Rvs 54 o1 o2 x1 x2 p7 q7)
  (hk7:k6=true->Kpt w (Zg g A n c B m d) p7 q7)
  (hh8:HdV K1 o1 o2 yF k7)
  (hr8:Rvs 55 o1 o2 x1 x2 p8 q8)
  (hk8:k7=true->Kpt w (Zg g A n c B m d) p8 q8)
  (hh9:HdV K1 o1 o2 yC k8)
  (hr9:Rvs 56 o1 o2 x1 x2 p9 q9)
  (hk9:k8=true->Kpt w (Zg g A n c B m d) p9 q9)
  (hh10:HdV K1 o1 o2 yT k9)
  (hr10:Rvs 57 o1 o2 x1 x2 p10 q10)
  (hk10:k9=true->Kpt w (Zg g A n c B m d) p10 q10)
  (he1:∀ W,Below w.heap.size w W->Calls prog 58 #[Zg g A n c B m d,.bool false] W (NewRatS W K5 yE))
  (hh11:HdV K5 o1 o2 yE k10)
  (hr11:Rvs 59 o1 o2 x1 x2 p11 q11)
  (hk11:k10=true->Kpt w (Zg g A n c B m d) p11 q11)
  (he2:∀ W,Below w.heap.size w W->Calls prog 58 #[Zg g A n c B m d,.bool true] W (NewRatS W K5 yA))
  (hh12:HdV K5 o1 o2 yA k11)
  (hraw:Rvs 60 o1 o2 x1 x2 p12 q12)
  (hk12:k11=true->Kpt w (Zg g A n c B m d) p12 q12)
  (hs3:s=-1\/s=0\/s=1)
  (hyn:s<0->yN=yS/\yC=yT)
  (hyp:¬ s<0->v=yS/\yF=yT):
  Rt 8 #[.int .i64 z,.agg #[.int .u64 (o1:Int),.int .u64 (o2:Int)],.agg #[.int .u64 (x1:Int),.int .u64 (x2:Int)],Zg g A n c B m d] (.bool true) w:=by
 have I1:=Hd fun W=>law_in o1 o2 W;have I2:=Hd fun W=>law_in x1 x2 W;have HT:=Hd hT;have HZ1:=Hd hz1;have HZ2:=Hd hz2;have HQ:=Hd hQ;have HI:=Hd hi;have HX:=Hd hx;have HS:=Hd hs;have HF:=Hd hf;have HA:=Hd ha;have HN:=Hd hn;have HV:=Hd hv;have HH1:=Hd hh1;have HR1:=Hd hr1;have HK1:=Hd hk1;have HH2:=Hd hh2;have HR2:=Hd hr2;have HK2:=Hd hk2;have HM:=Hd hm;have HH3:=Hd hh3;have HR3:=Hd hr3;have HK3:=Hd hk3;have HO:=Hd ho;have HQO:=Hd hqo;have HH4:=Hd hh4;have HR4:=Hd hr4;have HK4:=Hd hk4;have HSQ:=Hd hsq;have HR5:=Hd hr5;have HK5:=Hd hk5;have HP1:=Hd hp1;have HP2:=Hd hp2;have HQ2:=Hd hq2;have HH5:=Hd hh5;have HH6:=Hd hh6;have HR6:=Hd hr6;have HK6:=Hd hk6;have HIS:=Hd his;have HH7:=Hd hh7;have HR7:=Hd hr7;have HK7:=Hd hk7;have HH8:=Hd hh8;have HR8:=Hd hr8;have HK8:=Hd hk8;have HH9:=Hd hh9;have HR9:=Hd hr9;have HK9:=Hd hk9;have HH10:=Hd hh10;have HR10:=Hd hr10;have HK10:=Hd hk10;have HE1:=Hd he1;have HH11:=Hd hh11;have HR11:=Hd hr11;have HK11:=Hd hk11;have HE2:=Hd he2;have HH12:=Hd hh12;have HRAW:=Hd hraw;have HK12:=Hd hk12;have HYN:=Hd hyn;have HYP:=Hd hyp;clear hT hz1 hz2 hQ hi hx hs hf ha hn hv hh1 hr1 hk1 hh2 hr2 hk2 hm hh3 hr3 hk3 ho hqo hh4 hr4 hk4 hsq hr5 hk5 hp1 hp2 hq2 hh5 hh6 hr6 hk6 his hh7 hr7 hk7 hh8 hr8 hk8 hh9 hr9 hk9 hh10 hr10 hk10 he1 hh11 hr11 hk11 he2 hh12 hraw hk12 hyn hyp
 have LL:=li3 w #[.int .u64 (o1:Int),.int .u64 (o2:Int)] 24 #[.int .u64 (x1:Int),.int .u64 (x2:Int)] 24 (Zr g A n c B m d) 42
 go_enter func8,ntmps8
 go_wp2_with fail;refine cx (HQ.out _) fun wk hb=>?_;replace LL:=stL LL hb;clear hb HQ;obtain⟨q1_0,q1_1,q1_2⟩:=(LL.out.blk 2 rfl).c3;go_wp2_with fail;refine cx (HI.out _ LL.out.b) fun wk hb=>?_;replace LL:=stL LL hb;clear hb q1_0 q1_1 q1_2 HI;obtain⟨q2_0,q2_1⟩:=(LL.out.blk 1 rfl).c2;obtain⟨q3_0,q3_1,q3_2⟩:=(LL.out.blk 2 rfl).c3;go_wp2_with fail;refine cx (HX.out _ LL.out.b) fun wk hb=>?_;replace LL:=stL LL hb;clear hb q2_0 q2_1 q3_0 q3_1 q3_2 HX;obtain⟨q4_0,q4_1⟩:=(LL.out.blk 0 rfl).c2;go_wp2_with fail;refine cx (I1.out _) fun wk hb=>?_;replace LL:=stL LL hb;clear hb q4_0 q4_1 I1
 go_upto_region 6 with fail
 have hl_j9:=LL.out.lts;generalize hwn:World.alloc wk _=wn;replace LL:=Hd (LL.out.newE hwn)
 simp only [List.cons_append,List.nil_append] at LL
 simp only [List.mem_cons,List.not_mem_nil,or_false,forall_eq_or_imp,forall_eq,false_imp_iff,implies_true,and_true] at hl_j9
 clear hwn;generalize wk.heap.size=j9 at LL hl_j9 ⊢;obtain⟨q5_0,q5_1⟩:=(LL.out.blk 1 rfl).c2;go_wp2_with fail;refine cx (I2.out _) fun wk hb=>?_;replace LL:=stL LL hb;clear hb q5_0 q5_1 I2
 go_upto_region 7 with fail
 have hl_j10:=LL.out.lts;generalize hwn:World.alloc wk _=wn;replace LL:=Hd (LL.out.newE hwn)
 simp only [List.cons_append,List.nil_append] at LL
 simp only [List.mem_cons,List.not_mem_nil,or_false,forall_eq_or_imp,forall_eq,false_imp_iff,implies_true,and_true] at hl_j10
 clear hwn;generalize wk.heap.size=j10 at LL hl_j10 ⊢;obtain⟨q6_0,q6_1,q6_2⟩:=(LL.out.blk 2 rfl).c3;go_wp2_with fail;refine cx (HS.out _ LL.out.b) fun wk hb=>?_;replace LL:=stL LL hb;clear hb q6_0 q6_1 q6_2 HS;obtain⟨q7_0,q7_1,q7_2⟩:=(LL.out.blk 2 rfl).c3
 go_upto_region 9 with fail
 have hl_j12:=LL.out.lts;generalize hwn:World.alloc wk _=wn;replace LL:=Hd (LL.out.newE hwn)
 simp only [List.cons_append,List.nil_append] at LL
 simp only [List.mem_cons,List.not_mem_nil,or_false,forall_eq_or_imp,forall_eq,false_imp_iff,implies_true,and_true] at hl_j12
 clear hwn;generalize wk.heap.size=j12 at LL hl_j12 ⊢;clear q7_0 q7_1 q7_2;obtain⟨q8_0,q8_1,q8_2⟩:=(LL.out.blk 2 rfl).c3;go_wp2_with fail;refine (HF.out _ LL.out.b).mono ?_;rintro e wk ⟨g13,A13,n13,c13,B13,m13,d13,rfl,hr13,hb⟩;replace LL:=stL LL hb;clear hb q8_0 q8_1 q8_2;have HR13:=Hd hr13;clear hr13
 go_upto_region 10 with fail
 have hl_j13:=LL.out.lts;generalize hwn:World.alloc wk _=wn;replace HR13:=Hd (HR13.out.below (below_allocE hwn));replace LL:=Hd (LL.out.newE hwn)
 simp only [List.cons_append,List.nil_append] at LL
 simp only [List.mem_cons,List.not_mem_nil,or_false,forall_eq_or_imp,forall_eq,false_imp_iff,implies_true,and_true] at hl_j13
 clear hwn;generalize wk.heap.size=j13 at LL hl_j13 ⊢
 go_upto_if 36 with fail
 go_cut [] from 37 to 40 (fun wx=>∃ (g12:Bool) (A12:Option Addr) (n12 c12:Nat) (B12:Option Addr) (m12 d12:Nat) (g14:Bool) (A14:Option Addr) (n14 c14:Nat) (B14:Option Addr) (m14 d14:Nat),Lies w wx [(w.heap.size,24,#[.int .u64 (o1:Int),.int .u64 (o2:Int)]),((w.heap.size+1),24,#[.int .u64 (x1:Int),.int .u64 (x2:Int)]),((w.heap.size+2),42,(Zr g A n c B m d)),(j9,28,(Zv o1 o2)),(j10,28,(Zv x1 x2)),(j12,42,(Zr g12 A12 n12 c12 B12 m12 d12)),(j13,42,(Zr g14 A14 n14 c14 B14 m14 d14))] []/\RatW wx K g12 (.slice A12 n12 c12) (.slice B12 m12 d12) yS/\RatV wx K1 g14 (.slice A14 n14 c14) (.slice B14 m14 d14) yT)
 case first=>
  rcases hs3 with rfl | rfl | rfl
  ·as_aux_lemma=>
   obtain⟨e1,e2⟩:=HYN.out (by trivial);subst e1 e2;obtain⟨q9_0,q9_1,q9_2⟩:=(LL.out.blk 2 rfl).c3;go_wp2_with fail;refine (HN.out _ LL.out.b).mono ?_;rintro e wk ⟨g12,A12,n12,c12,B12,m12,d12,rfl,hr12,hb⟩;replace LL:=stL LL hb;replace HR13:=Hd (HR13.out.below hb);clear hb q9_0 q9_1 q9_2;have HR12:=Hd hr12;clear hr12;obtain⟨q10_0,q10_1,q10_2⟩:=(LL.out.blk 5 rfl).c3;have fz0:=(LL.out.blk 5 rfl).frozen 0;have fz1:=(LL.out.blk 5 rfl).frozen 1;have fz2:=(LL.out.blk 5 rfl).frozen 2;clear HR13
   go_upto_region 12 with fail
   clear q10_0 q10_1 q10_2 fz0 fz1 fz2;have PB_12:=LL.out.blk 5 rfl;replace LL:=Hd (LL.out.part 5 rfl 0 [.bool g12,.slice A12 n12 c12,.slice B12 m12 d12] (by omega) (by simp<;>omega) (by simp<;>omega))
   simp only [List.eraseIdx,laid,List.cons_append,List.nil_append,List.setIfInBounds_toArray,List.set_cons_zero,List.set_cons_succ,Nat.zero_add,Nat.reduceAdd] at LL
   replace HR12:=Hd (HR12.out.sets PB_12 (nowd rfl) 0 [.bool g12,.slice A12 n12 c12,.slice B12 m12 d12])
   obtain⟨wn,hwn⟩:∃ X,(sets wk j12 0 [.bool g12,.slice A12 n12 c12,.slice B12 m12 d12])=X:=⟨_,rfl⟩
   rw [hwn] at LL HR12
   simp only [sets,Nat.reduceAdd] at hwn
   rw [hwn];clear hwn PB_12;obtain⟨q11_0,q11_1,q11_2⟩:=(LL.out.blk 2 rfl).c3;go_wp2_with fail;refine (HA.out _ LL.out.b).mono ?_;rintro e wk ⟨g14,A14,n14,c14,B14,m14,d14,rfl,hr14,hb⟩;replace LL:=stL LL hb;replace HR12:=Hd (HR12.out.below hb);clear hb q11_0 q11_1 q11_2;have HR14:=Hd hr14;clear hr14;obtain⟨q12_0,q12_1,q12_2⟩:=(LL.out.blk 5 rfl).c3;have fz0:=(LL.out.blk 5 rfl).frozen 0;have fz1:=(LL.out.blk 5 rfl).frozen 1;have fz2:=(LL.out.blk 5 rfl).frozen 2;go_wp2_with fail;clear q12_0 q12_1 q12_2 fz0 fz1 fz2;have PB_13:=LL.out.blk 5 rfl;replace LL:=Hd (LL.out.part 5 rfl 0 [.bool g14,.slice A14 n14 c14,.slice B14 m14 d14] (by omega) (by simp<;>omega) (by simp<;>omega))
   simp only [List.eraseIdx,laid,List.cons_append,List.nil_append,List.setIfInBounds_toArray,List.set_cons_zero,List.set_cons_succ,Nat.zero_add,Nat.reduceAdd] at LL
   replace HR12:=Hd (HR12.out.sets PB_13 (nowd rfl) 0 [.bool g14,.slice A14 n14 c14,.slice B14 m14 d14]);replace HR14:=Hd (HR14.out.sets PB_13 (nowd rfl) 0 [.bool g14,.slice A14 n14 c14,.slice B14 m14 d14])
   obtain⟨wn,hwn⟩:∃ X,(sets wk j13 0 [.bool g14,.slice A14 n14 c14,.slice B14 m14 d14])=X:=⟨_,rfl⟩
   rw [hwn] at LL HR12 HR14
   simp only [sets,Nat.reduceAdd] at hwn
   rw [hwn];clear hwn PB_13
   go_meet
   case rel=>exact⟨g12,A12,n12,c12,B12,m12,d12,g14,A14,n14,c14,B14,m14,d14,LL.out.perm (by simp) (by simp),HR12.out,HR14.out⟩
  ·as_aux_lemma=>
   obtain⟨e1,e2⟩:=HYP.out (by trivial);subst e1 e2;go_wp2_with fail
   go_meet
   case rel=>exact⟨g,A,n,c,B,m,d,g13,A13,n13,c13,B13,m13,d13,LL.out.perm (by simp) (by simp),HV.out _ LL.out.b,HR13.out⟩
  ·as_aux_lemma=>
   obtain⟨e1,e2⟩:=HYP.out (by trivial);subst e1 e2;go_wp2_with fail
   go_meet
   case rel=>exact⟨g,A,n,c,B,m,d,g13,A13,n13,c13,B13,m13,d13,LL.out.perm (by simp) (by simp),HV.out _ LL.out.b,HR13.out⟩
 case rest=>
 obtain⟨g12,A12,n12,c12,B12,m12,d12,g14,A14,n14,c14,B14,m14,d14,hcl,hr12,hr14⟩:=hcut;rename World=>wx;clear LL HR13;have LL:=Hd hcl;clear hcl HYN HYP;have hy:=Tw.mk hr12 hr14;clear hr12 hr14;have HY:=Hd hy;clear hy
 go_upto_region 13 with fail
 go_cut [80] from 41 to 80 (fun s80 wx=>s80=.bool false/\Lies w wx [(w.heap.size,24,#[.int .u64 (o1:Int),.int .u64 (o2:Int)]),((w.heap.size+1),24,#[.int .u64 (x1:Int),.int .u64 (x2:Int)]),((w.heap.size+2),42,(Zr g A n c B m d)),(j9,28,(Zv o1 o2)),(j10,28,(Zv x1 x2)),(j12,42,(Zr g12 A12 n12 c12 B12 m12 d12)),(j13,42,(Zr g14 A14 n14 c14 B14 m14 d14))] []/\Tw wx K K1 g12 A12 n12 c12 B12 m12 d12 yS g14 A14 n14 c14 B14 m14 d14 yT)
 case first=>
  as_aux_lemma=>
   clear HF HA HO HQO HH4 HR4 HK4 HSQ HR5 HK5 HP1 HP2 HQ2 HH5 HH6 HR6 HK6 HIS HH7 HR7 HK7 HH8 HR8 HK8 HH9 HR9 HK9 HH10 HR10 HK10 HE1 HH11 HR11 HK11 HE2 HH12 HRAW HK12 HT HZ1 HZ2 hs3;refine regL LL (fun hHeld=>?_);clear LL;replace HY:=Hd (HY.out.below (Below.refl _ _).drew);generalize World.drew _=wk at hHeld HY ⊢;refine tkb 0 (fun _ h=>(h.blk 0 rfl).c2) ?_;refine tkb 1 (fun _ h=>(h.blk 2 rfl).c3) ?_;refine rcm 2 (HN.out _ hHeld.b) ?_;clear hHeld;intro wk g31 A31 n31 c31 B31 m31 d31 hr31 hbx1 hHeld;replace HY:=Hd (HY.out.below hbx1);have HR31:=Hd hr31;clear hbx1 hr31;refine rct 3 (HH1.out _ _ _ _ _ _ _ _ HR31.out) ?_;clear hHeld;intro wk hbx2 hHeld;replace HY:=Hd (HY.out.below hbx2);clear hbx2 HR31;refine tks 4 ?_
   cases k1
   case' false=>
    refine tkns 5 ?_;refine tkns 6 ?_;refine tkns 7 ?_;refine tkns 8 ?_;refine tkns 9 ?_;refine tkns 10 ?_
   case' true=>
    have KK_HK1:=Hd (HK1.out (by trivial));refine tkb 5 (fun _ h=>(h.blk 2 rfl).c3) ?_;refine tkb 6 (fun _ h=>(h.blk 3 rfl).c2) ?_;refine tkb 7 (fun _ h=>(h.blk 4 rfl).c2) ?_;refine rct 8 (HR1.out _) ?_;clear hHeld;intro wk hbx3 hHeld;replace HY:=Hd (HY.out.below hbx3);clear hbx3;refine rct 9 (KK_HK1.out _ hHeld.b) ?_;clear hHeld;intro wk hbx4 hHeld;replace HY:=Hd (HY.out.below hbx4);clear hbx4;refine tks 10 ?_;clear KK_HK1
   all_goals as_aux_lemma=>
    clear HN HH1 HR1 HK1;refine tks 11 ?_;refine tks 12 ?_;refine tkb 13 (fun _ h=>(h.blk 0 rfl).c2) ?_;refine tkb 14 (fun _ h=>(h.blk 5 rfl).c3) ?_;refine rct 15 (HH2.out _ _ _ _ _ _ _ _ HY.out.a) ?_;clear hHeld;intro wk hbx5 hHeld;replace HY:=Hd (HY.out.below hbx5);clear hbx5;refine tks 16 ?_
    cases k2
    case' false=>
     refine tkns 17 ?_;refine tkns 18 ?_;refine tkns 19 ?_;refine tkns 20 ?_;refine tkns 21 ?_;refine tkns 22 ?_
    case' true=>
     have KK_HK2:=Hd (HK2.out (by trivial));refine tkb 17 (fun _ h=>(h.blk 2 rfl).c3) ?_;refine tkb 18 (fun _ h=>(h.blk 3 rfl).c2) ?_;refine tkb 19 (fun _ h=>(h.blk 4 rfl).c2) ?_;refine rct 20 (HR2.out _) ?_;clear hHeld;intro wk hbx6 hHeld;replace HY:=Hd (HY.out.below hbx6);clear hbx6;refine rct 21 (KK_HK2.out _ hHeld.b) ?_;clear hHeld;intro wk hbx7 hHeld;replace HY:=Hd (HY.out.below hbx7);clear hbx7;refine tks 22 ?_;clear KK_HK2
    all_goals as_aux_lemma=>
     clear HH2 HR2 HK2;refine tks 23 ?_;refine tks 24 ?_;refine tks 25 ?_;refine tkb 26 (fun _ h=>(h.blk 0 rfl).c2) ?_;refine tkb 27 (fun _ h=>(h.blk 2 rfl).c3) ?_;refine tkb 28 (fun _ h=>(h.blk 2 rfl).c3) ?_;refine rcm 29 (HM.out _ hHeld.b) ?_;clear hHeld;intro wk g32 A32 n32 c32 B32 m32 d32 hr32 hbx8 hHeld;replace HY:=Hd (HY.out.below hbx8);have HR32:=Hd hr32;clear hbx8 hr32;refine rct 30 (HH3.out _ _ _ _ _ _ _ _ HR32.out) ?_;clear hHeld;intro wk hbx9 hHeld;replace HY:=Hd (HY.out.below hbx9);clear hbx9 HR32;refine tks 31 ?_
     cases k3
     case' false=>
      refine tkns 32 ?_;refine tkns 33 ?_;refine tkns 34 ?_;refine tkns 35 ?_;refine tkns 36 ?_;refine tkns 37 ?_
     case' true=>
      have KK_HK3:=Hd (HK3.out (by trivial));refine tkb 32 (fun _ h=>(h.blk 2 rfl).c3) ?_;refine tkb 33 (fun _ h=>(h.blk 3 rfl).c2) ?_;refine tkb 34 (fun _ h=>(h.blk 4 rfl).c2) ?_;refine rct 35 (HR3.out _) ?_;clear hHeld;intro wk hbx10 hHeld;replace HY:=Hd (HY.out.below hbx10);clear hbx10;refine rct 36 (KK_HK3.out _ hHeld.b) ?_;clear hHeld;intro wk hbx11 hHeld;replace HY:=Hd (HY.out.below hbx11);clear hbx11;refine tks 37 ?_;clear KK_HK3
     all_goals as_aux_lemma=>
      clear HM HH3 HR3 HK3;refine tks 38 ?_;refine tks 39 ?_;refine wpAnyH_done (by kernel_rfl) ?_ _;have LL:=Hd hHeld;clear hHeld;go_wp2_with fail
      go_meet
      case rel=>exact⟨rfl,LL.out,HY.out⟩
 case rest=>
 obtain⟨rfl,hcl,hy⟩:=hcut;rename World=>wx;clear LL HY;have LL:=Hd hcl;clear hcl HN HH1 HR1 HK1 HR2 HK2 HH3 HR3 HK3;have HY:=Hd hy;clear hy
 go_upto_region 15 with fail
 go_cut [97] from 81 to 97 (fun s97 wx=>s97=.bool false/\Lies w wx [(w.heap.size,24,#[.int .u64 (o1:Int),.int .u64 (o2:Int)]),((w.heap.size+1),24,#[.int .u64 (x1:Int),.int .u64 (x2:Int)]),((w.heap.size+2),42,(Zr g A n c B m d)),(j9,28,(Zv o1 o2)),(j10,28,(Zv x1 x2)),(j12,42,(Zr g12 A12 n12 c12 B12 m12 d12)),(j13,42,(Zr g14 A14 n14 c14 B14 m14 d14))] []/\Tw wx K K1 g12 A12 n12 c12 B12 m12 d12 yS g14 A14 n14 c14 B14 m14 d14 yT)
 case first=>
  rcases hs3 with rfl | rfl | rfl
  rotate_left
  ·as_aux_lemma=>
    clear HF HA HH2 HM HO HQO HH4 HR4 HK4 HSQ HR5 HK5 HP1 HP2 HQ2 HH5 HH6 HR6 HK6 HIS HH7 HR7 HK7 HH8 HR8 HK8 HH9 HR9 HK9 HH10 HR10 HK10 HE1 HH11 HR11 HK11 HE2 HH12 HRAW HK12 HT HZ1 HZ2;refine regL LL (fun hHeld=>?_);clear LL;replace HY:=Hd (HY.out.below (Below.refl _ _).drew);generalize World.drew _=wk at hHeld HY ⊢;refine tks 0 ?_;refine tks 1 ?_;refine tks 2 ?_;refine tkns 3 ?_;refine tkns 4 ?_;refine tkns 5 ?_;refine tkns 6 ?_;refine tkns 7 ?_;refine tks 8 ?_;refine tks 9 ?_;refine tkns 10 ?_;refine tkns 11 ?_;refine tkns 12 ?_;refine tkns 13 ?_;refine tkns 14 ?_;refine tkns 15 ?_;refine tks 16 ?_;refine wpAnyH_done (by kernel_rfl) ?_ _;have LL:=Hd hHeld;clear hHeld;go_wp2_with fail
    go_meet
    case rel=>exact⟨rfl,LL.out,HY.out⟩
  all_goals as_aux_lemma=>
   have HQU:=Hd (HQO.out (by decide));replace HK4:=Hd (HK4.out (by decide));clear HF HA HH2 HM HSQ HR5 HK5 HP1 HP2 HQ2 HH5 HH6 HR6 HK6 HIS HH7 HR7 HK7 HH8 HR8 HK8 HH9 HR9 HK9 HH10 HR10 HK10 HE1 HH11 HR11 HK11 HE2 HH12 HRAW HK12 HT HZ1 HZ2;clear HQO;refine regL LL (fun hHeld=>?_);clear LL;replace HY:=Hd (HY.out.below (Below.refl _ _).drew);generalize World.drew _=wk at hHeld HY ⊢;refine tks 0 ?_;refine tks 1 ?_;refine tks 2 ?_;refine tkb 3 (fun _ h=>(h.blk 0 rfl).c2) ?_;refine tkb 5 (fun _ h=>(h.blk 2 rfl).c3) ?_;refine rcm 4 (HO.out _) ?_;clear hHeld;intro wk g31 A31 n31 c31 B31 m31 d31 hr31 hbx12 hHeld;replace HY:=Hd (HY.out.below hbx12);have HR31:=Hd hr31;clear hbx12 hr31;refine rcm 6 (HQU.out _ _ _ _ _ _ _ _ hHeld.b HR31.out) ?_;clear hHeld;intro wk g32 A32 n32 c32 B32 m32 d32 hr32 hbx13 hHeld;replace HY:=Hd (HY.out.below hbx13);have HR32:=Hd hr32;clear hbx13 hr32 HR31;refine rct 7 (HH4.out _ _ _ _ _ _ _ _ HR32.out) ?_;clear hHeld;intro wk hbx14 hHeld;replace HY:=Hd (HY.out.below hbx14);clear hbx14 HR32;refine tks 8 ?_;refine tks 9 ?_
   cases k4
   case' false=>
    refine tkns 10 ?_;refine tkns 11 ?_;refine tkns 12 ?_;refine tkns 13 ?_;refine tkns 14 ?_;refine tkns 15 ?_
   case' true=>
    have KK_HK4:=Hd (HK4.out (by trivial));refine tkb 10 (fun _ h=>(h.blk 2 rfl).c3) ?_;refine tkb 11 (fun _ h=>(h.blk 3 rfl).c2) ?_;refine tkb 12 (fun _ h=>(h.blk 4 rfl).c2) ?_;refine rct 13 (HR4.out _) ?_;clear hHeld;intro wk hbx15 hHeld;replace HY:=Hd (HY.out.below hbx15);clear hbx15;refine rct 14 (KK_HK4.out _ hHeld.b) ?_;clear hHeld;intro wk hbx16 hHeld;replace HY:=Hd (HY.out.below hbx16);clear hbx16;refine tks 15 ?_;clear KK_HK4
   all_goals as_aux_lemma=>
    clear HO HH4 HR4 HK4;refine tks 16 ?_;refine wpAnyH_done (by kernel_rfl) ?_ _;have LL:=Hd hHeld;clear hHeld;go_wp2_with fail
    go_meet
    case rel=>exact⟨rfl,LL.out,HY.out⟩
 case rest=>
 obtain⟨rfl,hcl,hy⟩:=hcut;rename World=>wx;clear LL HY;have LL:=Hd hcl;clear hcl HQO HH4 HR4 HK4;have HY:=Hd hy;clear hy
 go_upto_region 17 with fail
 go_cut [111] from 98 to 111 (fun s111 wx=>s111=.bool false/\Lies w wx [(w.heap.size,24,#[.int .u64 (o1:Int),.int .u64 (o2:Int)]),((w.heap.size+1),24,#[.int .u64 (x1:Int),.int .u64 (x2:Int)]),((w.heap.size+2),42,(Zr g A n c B m d)),(j9,28,(Zv o1 o2)),(j10,28,(Zv x1 x2)),(j12,42,(Zr g12 A12 n12 c12 B12 m12 d12)),(j13,42,(Zr g14 A14 n14 c14 B14 m14 d14))] []/\Tw wx K K1 g12 A12 n12 c12 B12 m12 d12 yS g14 A14 n14 c14 B14 m14 d14 yT)
 case first=>
  as_aux_lemma=>
   clear HF HA HO HP1 HP2 HQ2 HH5 HH6 HR6 HK6 HIS HH7 HR7 HK7 HH8 HR8 HK8 HH9 HR9 HK9 HH10 HR10 HK10 HE1 HH11 HR11 HK11 HE2 HH12 HRAW HK12 HT HZ1 HZ2 hs3;refine regL LL (fun hHeld=>?_);clear LL;replace HY:=Hd (HY.out.below (Below.refl _ _).drew);generalize World.drew _=wk at hHeld HY ⊢;refine tkb 0 (fun _ h=>(h.blk 0 rfl).c2) ?_;refine tkb 1 (fun _ h=>(h.blk 5 rfl).c3) ?_;refine rct 2 (HH2.out _ _ _ _ _ _ _ _ HY.out.a) ?_;clear hHeld;intro wk hbx17 hHeld;replace HY:=Hd (HY.out.below hbx17);clear hbx17;refine tks 3 ?_
   cases k2
   case' false=>
    refine tkns 4 ?_;refine tkns 5 ?_;refine tkns 6 ?_;refine tkns 7 ?_;refine tkns 8 ?_;refine tkns 9 ?_;refine tkns 10 ?_;refine tkns 11 ?_;refine tkns 12 ?_
   case' true=>
    have KK_HK5:=Hd (HK5.out (by trivial));refine tkb 4 (fun _ h=>(h.blk 2 rfl).c3) ?_;refine tkb 5 (fun _ h=>(h.blk 2 rfl).c3) ?_;refine tkb 7 (fun _ h=>(h.blk 3 rfl).c2) ?_;refine tkb 8 (fun _ h=>(h.blk 4 rfl).c2) ?_;refine rcm 6 (HM.out _ hHeld.b) ?_;clear hHeld;intro wk g33 A33 n33 c33 B33 m33 d33 hr33 hbx18 hHeld;replace HY:=Hd (HY.out.below hbx18);have HR33:=Hd hr33;clear hbx18 hr33;refine rct 9 (HSQ.out _) ?_;clear hHeld;intro wk hbx19 hHeld;replace HY:=Hd (HY.out.below hbx19);replace HR33:=Hd (HR33.out.below hbx19);clear hbx19;refine rct 10 (HR5.out _) ?_;clear hHeld;intro wk hbx20 hHeld;replace HY:=Hd (HY.out.below hbx20);replace HR33:=Hd (HR33.out.below hbx20);clear hbx20;refine rct 11 (KK_HK5.out _ _ _ _ _ _ _ _ HR33.out) ?_;clear hHeld;intro wk hbx21 hHeld;replace HY:=Hd (HY.out.below hbx21);clear hbx21 HR33;refine tks 12 ?_;clear KK_HK5
   all_goals as_aux_lemma=>
    clear HH2 HM HSQ HR5 HK5;refine tks 13 ?_;refine wpAnyH_done (by kernel_rfl) ?_ _;have LL:=Hd hHeld;clear hHeld;go_wp2_with fail
    go_meet
    case rel=>exact⟨rfl,LL.out,HY.out⟩
 case rest=>
 obtain⟨rfl,hcl,hy⟩:=hcut;rename World=>wx;clear LL HY;have LL:=Hd hcl;clear hcl HH2 HM HSQ HR5 HK5;have HY:=Hd hy;clear hy
 obtain⟨bb,hbb⟩:∃ b:Bool,decide (-9<z/\z<9/\(z<0->s≠0))=b:=⟨_,rfl⟩
 go_upto_region 19 with fail
 go_cut [125] from 112 to 125 (fun s125 wx=>s125=.bool bb/\Lies w wx [(w.heap.size,24,#[.int .u64 (o1:Int),.int .u64 (o2:Int)]),((w.heap.size+1),24,#[.int .u64 (x1:Int),.int .u64 (x2:Int)]),((w.heap.size+2),42,(Zr g A n c B m d)),(j9,28,(Zv o1 o2)),(j10,28,(Zv x1 x2)),(j12,42,(Zr g12 A12 n12 c12 B12 m12 d12)),(j13,42,(Zr g14 A14 n14 c14 B14 m14 d14))] []/\Tw wx K K1 g12 A12 n12 c12 B12 m12 d12 yS g14 A14 n14 c14 B14 m14 d14 yT)
 case first=>
  have hc:((¬ -9<z)/\bb=false)\/(-9<z/\(¬ z<9)/\bb=false)\/(-9<z/\z<9/\0<=z/\bb=true)\/(-9<z/\z<9/\(¬ 0<=z)/\s=0/\bb=false)\/(-9<z/\z<9/\(¬ 0<=z)/\(s=-1\/s=1)/\bb=true):=by
   by_cases a:-9<z
   ·by_cases b:z<9
    ·by_cases e:0<=z
     ·exact .inr (.inr (.inl ⟨a,b,e,by rw [<- hbb];exact decide_eq_true ⟨a,b,fun h=>by omega⟩⟩))
     ·by_cases q:s=0
      ·exact .inr (.inr (.inr (.inl ⟨a,b,e,q,by rw [<- hbb];exact decide_eq_false (fun h=>h.2.2 (by omega) q)⟩)))
      ·exact .inr (.inr (.inr (.inr ⟨a,b,e,by omega,by rw [<- hbb];exact decide_eq_true ⟨a,b,fun _=>q⟩⟩)))
    ·exact .inr (.inl ⟨a,b,by rw [<- hbb];exact decide_eq_false (fun h=>b h.2.1)⟩)
   ·exact .inl ⟨a,by rw [<- hbb];exact decide_eq_false (fun h=>a h.1)⟩
  clear hbb
  rcases hc with ⟨z1,rfl⟩ | ⟨z1,z2,rfl⟩ | ⟨z1,z2,z3,rfl⟩ | ⟨z1,z2,z3,rfl,rfl⟩ | ⟨z1,z2,z3,rfl | rfl,rfl⟩
  all_goals
   go_wp2_with fail
   go_meet
   case rel=>exact⟨rfl,LL.out,HY.out⟩
 case rest=>
 obtain⟨rfl,hcl,hy⟩:=hcut;rename World=>wx;clear LL HY;have LL:=Hd hcl;clear hcl;have HY:=Hd hy;clear hy
 go_upto_if 125 with fail
 go_cut [] from 126 to 149 (fun wx=>Lies w wx [(w.heap.size,24,#[.int .u64 (o1:Int),.int .u64 (o2:Int)]),((w.heap.size+1),24,#[.int .u64 (x1:Int),.int .u64 (x2:Int)]),((w.heap.size+2),42,(Zr g A n c B m d)),(j9,28,(Zv o1 o2)),(j10,28,(Zv x1 x2)),(j12,42,(Zr g12 A12 n12 c12 B12 m12 d12)),(j13,42,(Zr g14 A14 n14 c14 B14 m14 d14))] []/\Tw wx K K1 g12 A12 n12 c12 B12 m12 d12 yS g14 A14 n14 c14 B14 m14 d14 yT)
 case first=>
  have HT0:=HT
  cases bb
  rotate_left
  ·have hin:=of_decide_eq_true hbb;clear hbb;have HPA:=Hd (HP1.out hin.1 hin.2.1);have HPR:=Hd (HR6.out hin.1 hin.2.1);have z1:=hin.1;have z2:=hin.2.1
   by_cases hneg:z<0
   ·as_aux_lemma=>
    have sn:=hin.2.2 hneg
    have hnn:¬ 0<=z:=by omega
    have kw:IntKind.i64.wrap (-z)=-z:=by rw [IntKind.wrap_i64];omega
    have HPB:=Hd (HP2.out hin.1 hneg);have HQ3:=Hd (HQ2.out hneg sn);have HHB:=Hd (HH6.out hneg)
    have sn2:(s == 0)=false:=by simp [sn]
    obtain⟨q9_0,q9_1,q9_2⟩:=(LL.out.blk 2 rfl).c3;go_wp2_with fail;refine (HPA.out _ LL.out.b).mono ?_;rintro e wk ⟨g15,A15,n15,c15,B15,m15,d15,rfl,hr15,hb⟩;replace LL:=stL LL hb;replace HY:=Hd (HY.out.below hb);clear hb q9_0 q9_1 q9_2 HPA;have HR15:=Hd hr15;clear hr15
    go_upto_region 21 with fail
    have hl_j14:=LL.out.lts;generalize hwn:World.alloc wk _=wn;replace HY:=Hd (HY.out.below (below_allocE hwn));replace HR15:=Hd (HR15.out.below (below_allocE hwn));replace LL:=Hd (LL.out.newE hwn)
    simp only [List.cons_append,List.nil_append] at LL
    simp only [List.mem_cons,List.not_mem_nil,or_false,forall_eq_or_imp,forall_eq,false_imp_iff,implies_true,and_true] at hl_j14
    clear hwn;generalize wk.heap.size=j14 at LL hl_j14 ⊢;clear HR15
    go_upto_region 22 with fail
    replace LL:=Hd (LL.out.loose 7 rfl rfl)
    simp only [List.eraseIdx,List.size_toArray,List.length_cons,List.length_nil,Nat.zero_add,Nat.reduceAdd] at LL
    refine regL LL (fun hHeld=>?_);clear LL;replace HY:=Hd (HY.out.below (Below.refl _ _).drew);generalize World.drew _=wk at hHeld HY ⊢;refine tkb 1 (fun _ h=>(h.blk 2 rfl).c3) ?_;refine tks 2 ?_;refine tks 3 ?_;refine rcm 0 (HO.out _) ?_;clear hHeld;intro wk g31 A31 n31 c31 B31 m31 d31 hr31 hbx22 hHeld;replace HY:=Hd (HY.out.below hbx22);(try replace HR32:=Hd (HR32.out.below hbx22));(try replace HR16:=Hd (HR16.out.below hbx22));have HR31:=Hd hr31;clear hr31;clear hbx22;refine rcm 4 (HPB.out _ hHeld.b) ?_;clear hHeld;intro wk g32 A32 n32 c32 B32 m32 d32 hr32 hbx23 hHeld;replace HY:=Hd (HY.out.below hbx23);(try replace HR31:=Hd (HR31.out.below hbx23));(try replace HR16:=Hd (HR16.out.below hbx23));have HR32:=Hd hr32;clear hr32;clear hbx23;refine rcm 5 (HQ3.out _ _ _ _ _ _ _ _ _ _ _ _ _ _ _ HR31.out HR32.out) ?_;clear hHeld;intro wk g16 A16 n16 c16 B16 m16 d16 hr16 hbz hHeld;replace HY:=Hd (HY.out.below hbz);(try replace HR31:=Hd (HR31.out.below hbz));(try replace HR32:=Hd (HR32.out.below hbz));have HR16:=Hd hr16;clear hr16;clear hbz;refine rdy 6 fun KK hKK=>?_;obtain⟨ha0,hf0,ha1,hf1,ha2,hf2⟩:=(hHeld.has 0 rfl).sf3;obtain⟨csx,hbx,-,hcx⟩:=hHeld.has 0 rfl;replace HY:=Hd (HY.out.sets hbx hcx 0 [.bool g16,.slice A16 n16 c16,.slice B16 m16 d16]);replace HR31:=Hd (HR31.out.sets hbx hcx 0 [.bool g16,.slice A16 n16 c16,.slice B16 m16 d16]);replace HR32:=Hd (HR32.out.sets hbx hcx 0 [.bool g16,.slice A16 n16 c16,.slice B16 m16 d16])
    replace HR16:=Hd (HR16.out.sets hbx hcx 0 [.bool g16,.slice A16 n16 c16,.slice B16 m16 d16]);clear hbx hcx;go_simp;have HS_0:=(hHeld.has 0 rfl).laid [.bool g16,.slice A16 n16 c16,.slice B16 m16 d16] rfl;refine hKK.out _ _ (hHeld.over 0 rfl [.bool g16,.slice A16 n16 c16,.slice B16 m16 d16] rfl rfl (by first | omega | exact hHeld.le_of 0 rfl) (by simp<;>omega) (by simp<;>omega)) (fun _=>?_);clear hKK KK hHeld;rename_i hHeld;(try simp only [Act.put,lay])
    replace hHeld:=(show Lies _ (sets wk j14 0 [.bool g16,.slice A16 n16 c16,.slice B16 m16 d16]) _ _ from hHeld)
    obtain⟨wk,hwn⟩:∃ X,sets wk j14 0 [.bool g16,.slice A16 n16 c16,.slice B16 m16 d16]=X:=⟨_,rfl⟩
    rw [hwn] at hHeld HY HR31 HR32 HR16 HS_0
    simp only [sets] at hwn
    rw [hwn];clear hwn;refine wpAnyH_done (by kernel_rfl) ?_ _;have LL:=Hd (hHeld.tight HS_0)
    simp only [List.cons_append,List.nil_append] at LL
    clear hHeld HS_0;clear HR31 HR32
    go_upto_region 23 with fail
    have HTT:=Hd (HT0.out.below LL.out.b);refine regL LL (fun hHeld=>?_);clear LL;replace HY:=Hd (HY.out.below (Below.refl _ _).drew);replace HR16:=Hd (HR16.out.below (Below.refl _ _).drew);replace HTT:=Hd (HTT.out.below (Below.refl _ _).drew);generalize World.drew _=wk at hHeld HY HR16 HTT ⊢;refine tkb 0 (fun _ h=>(h.blk 0 rfl).c2) ?_;refine tkb 1 (fun _ h=>(h.blk 7 rfl).c3) ?_;refine rct 2 (HHB.out _ _ _ _ _ _ _ _ HR16.out) ?_;clear hHeld;intro wk hbx24 hHeld;replace HY:=Hd (HY.out.below hbx24);replace HTT:=Hd (HTT.out.below hbx24);clear hbx24 HR16;refine tks 3 ?_
    cases k5
    case' false=>
     refine tkns 4 ?_;refine tkns 5 ?_;refine tkns 6 ?_;refine tkns 7 ?_;refine tkns 8 ?_;refine tkns 9 ?_;refine tkns 10 ?_
    case' true=>
     have KK6:=Hd (HK6.out hin (by trivial));refine tkb 4 (fun _ h=>(h.blk 2 rfl).c3) ?_;refine tks 5 ?_;refine tkb 6 (fun _ h=>(h.blk 3 rfl).c2) ?_;refine tkb 7 (fun _ h=>(h.blk 4 rfl).c2) ?_;refine rct 8 (HPR.out _ HTT.out) ?_;clear hHeld;intro wk hbx25 hHeld;replace HY:=Hd (HY.out.below hbx25);replace HTT:=Hd (HTT.out.below hbx25);clear hbx25;refine rct 9 (KK6.out _ hHeld.b) ?_;clear hHeld;intro wk hbx26 hHeld;replace HY:=Hd (HY.out.below hbx26);replace HTT:=Hd (HTT.out.below hbx26);clear hbx26;refine tks 10 ?_;clear KK6
    all_goals as_aux_lemma=>
     clear HK6;refine tks 11 ?_;refine wpAnyH_done (by kernel_rfl) ?_ _;have LL:=Hd hHeld;clear hHeld;go_wp2_with fail
     go_meet
     case rel=>exact⟨⟨LL.out.1,fun x hx=>LL.out.2.1 x (List.mem_append_left [_] hx),by simp⟩,HY.out⟩
   ·skip
    have hnn:0<=z:=by omega
    have HHA:=Hd (HH5.out hnn);obtain⟨q9_0,q9_1,q9_2⟩:=(LL.out.blk 2 rfl).c3;go_wp2_with fail;refine (HPA.out _ LL.out.b).mono ?_;rintro e wk ⟨g15,A15,n15,c15,B15,m15,d15,rfl,hr15,hb⟩;replace LL:=stL LL hb;replace HY:=Hd (HY.out.below hb);clear hb q9_0 q9_1 q9_2 HPA;have HR15:=Hd hr15;clear hr15
    go_upto_region 21 with fail
    have hl_j14:=LL.out.lts;generalize hwn:World.alloc wk _=wn;replace HY:=Hd (HY.out.below (below_allocE hwn));replace HR15:=Hd (HR15.out.below (below_allocE hwn));replace LL:=Hd (LL.out.newE hwn)
    simp only [List.cons_append,List.nil_append] at LL
    simp only [List.mem_cons,List.not_mem_nil,or_false,forall_eq_or_imp,forall_eq,false_imp_iff,implies_true,and_true] at hl_j14
    clear hwn;generalize wk.heap.size=j14 at LL hl_j14 ⊢
    go_upto_region 23 with fail
    have HTT:=Hd (HT0.out.below LL.out.b);refine regL LL (fun hHeld=>?_);clear LL;replace HY:=Hd (HY.out.below (Below.refl _ _).drew);replace HR15:=Hd (HR15.out.below (Below.refl _ _).drew);replace HTT:=Hd (HTT.out.below (Below.refl _ _).drew);generalize World.drew _=wk at hHeld HY HR15 HTT ⊢;refine tkb 0 (fun _ h=>(h.blk 0 rfl).c2) ?_;refine tkb 1 (fun _ h=>(h.blk 7 rfl).c3) ?_;refine rct 2 (HHA.out _ _ _ _ _ _ _ _ HR15.out) ?_;clear hHeld;intro wk hbx27 hHeld;replace HY:=Hd (HY.out.below hbx27);replace HTT:=Hd (HTT.out.below hbx27);clear hbx27 HR15;refine tks 3 ?_
    cases k5
    case' false=>
     refine tkns 4 ?_;refine tkns 5 ?_;refine tkns 6 ?_;refine tkns 7 ?_;refine tkns 8 ?_;refine tkns 9 ?_;refine tkns 10 ?_
    case' true=>
     have KK6:=Hd (HK6.out hin (by trivial));refine tkb 4 (fun _ h=>(h.blk 2 rfl).c3) ?_;refine tks 5 ?_;refine tkb 6 (fun _ h=>(h.blk 3 rfl).c2) ?_;refine tkb 7 (fun _ h=>(h.blk 4 rfl).c2) ?_;refine rct 8 (HPR.out _ HTT.out) ?_;clear hHeld;intro wk hbx28 hHeld;replace HY:=Hd (HY.out.below hbx28);replace HTT:=Hd (HTT.out.below hbx28);clear hbx28;refine rct 9 (KK6.out _ hHeld.b) ?_;clear hHeld;intro wk hbx29 hHeld;replace HY:=Hd (HY.out.below hbx29);replace HTT:=Hd (HTT.out.below hbx29);clear hbx29;refine tks 10 ?_;clear KK6
    all_goals as_aux_lemma=>
     clear HK6;refine tks 11 ?_;refine wpAnyH_done (by kernel_rfl) ?_ _;have LL:=Hd hHeld;clear hHeld;go_wp2_with fail
     go_meet
     case rel=>exact⟨⟨LL.out.1,fun x hx=>LL.out.2.1 x (List.mem_append_left [_] hx),by simp⟩,HY.out⟩
  ·skip;clear hbb;go_wp2_with fail
   go_meet
   case rel=>exact⟨LL.out,HY.out⟩
 case rest=>
 obtain⟨hcl,hy⟩:=hcut;rename World=>wx;clear LL HY;have LL:=Hd hcl;clear hcl HP1 HP2 HQ2 HH5 HH6 HR6 HK6 HO HT hs3 hbb;have HY:=Hd hy;clear hy
 go_upto_region 25 with fail
 go_cut [189] from 150 to 189 (fun s189 wx=>s189=.bool false/\Lies w wx [(w.heap.size,24,#[.int .u64 (o1:Int),.int .u64 (o2:Int)]),((w.heap.size+1),24,#[.int .u64 (x1:Int),.int .u64 (x2:Int)]),((w.heap.size+2),42,(Zr g A n c B m d)),(j9,28,(Zv o1 o2)),(j10,28,(Zv x1 x2)),(j12,42,(Zr g12 A12 n12 c12 B12 m12 d12)),(j13,42,(Zr g14 A14 n14 c14 B14 m14 d14))] []/\Tw wx K K1 g12 A12 n12 c12 B12 m12 d12 yS g14 A14 n14 c14 B14 m14 d14 yT)
 case first=>
  as_aux_lemma=>
   clear HH10 HR10 HK10 HE1 HH11 HR11 HK11 HE2 HH12 HRAW HK12 HZ1 HZ2;refine regL LL (fun hHeld=>?_);clear LL;replace HY:=Hd (HY.out.below (Below.refl _ _).drew);generalize World.drew _=wk at hHeld HY ⊢;refine tkb 0 (fun _ h=>(h.blk 0 rfl).c2) ?_;refine tks 1 ?_;refine rcm 2 (HIS.out _) ?_;clear hHeld;intro wk g34 A34 n34 c34 B34 m34 d34 hr34 hbx30 hHeld;replace HY:=Hd (HY.out.below hbx30);have HR34:=Hd hr34;clear hbx30 hr34;refine rct 3 (HH7.out _ _ _ _ _ _ _ _ HR34.out) ?_;clear hHeld;intro wk hbx31 hHeld;replace HY:=Hd (HY.out.below hbx31);clear hbx31 HR34;refine tks 4 ?_
   cases k6
   case' false=>
    refine tkns 5 ?_;refine tkns 6 ?_;refine tkns 7 ?_;refine tkns 8 ?_;refine tkns 9 ?_;refine tkns 10 ?_
   case' true=>
    have KK_HK7:=Hd (HK7.out (by trivial));refine tkb 5 (fun _ h=>(h.blk 2 rfl).c3) ?_;refine tkb 6 (fun _ h=>(h.blk 3 rfl).c2) ?_;refine tkb 7 (fun _ h=>(h.blk 4 rfl).c2) ?_;refine rct 8 (HR7.out _) ?_;clear hHeld;intro wk hbx32 hHeld;replace HY:=Hd (HY.out.below hbx32);clear hbx32;refine rct 9 (KK_HK7.out _ hHeld.b) ?_;clear hHeld;intro wk hbx33 hHeld;replace HY:=Hd (HY.out.below hbx33);clear hbx33;refine tks 10 ?_;clear KK_HK7
   all_goals as_aux_lemma=>
    clear HIS HH7 HR7 HK7;refine tks 11 ?_;refine tks 12 ?_;refine tkb 13 (fun _ h=>(h.blk 0 rfl).c2) ?_;refine tkb 14 (fun _ h=>(h.blk 2 rfl).c3) ?_;refine rcm 15 (HF.out _ hHeld.b) ?_;clear hHeld;intro wk g35 A35 n35 c35 B35 m35 d35 hr35 hbx34 hHeld;replace HY:=Hd (HY.out.below hbx34);have HR35:=Hd hr35;clear hbx34 hr35;refine rct 16 (HH8.out _ _ _ _ _ _ _ _ HR35.out) ?_;clear hHeld;intro wk hbx35 hHeld;replace HY:=Hd (HY.out.below hbx35);clear hbx35 HR35;refine tks 17 ?_
    cases k7
    case' false=>
     refine tkns 18 ?_;refine tkns 19 ?_;refine tkns 20 ?_;refine tkns 21 ?_;refine tkns 22 ?_;refine tkns 23 ?_
    case' true=>
     have KK_HK8:=Hd (HK8.out (by trivial));refine tkb 18 (fun _ h=>(h.blk 2 rfl).c3) ?_;refine tkb 19 (fun _ h=>(h.blk 3 rfl).c2) ?_;refine tkb 20 (fun _ h=>(h.blk 4 rfl).c2) ?_;refine rct 21 (HR8.out _) ?_;clear hHeld;intro wk hbx36 hHeld;replace HY:=Hd (HY.out.below hbx36);clear hbx36;refine rct 22 (KK_HK8.out _ hHeld.b) ?_;clear hHeld;intro wk hbx37 hHeld;replace HY:=Hd (HY.out.below hbx37);clear hbx37;refine tks 23 ?_;clear KK_HK8
    all_goals as_aux_lemma=>
     clear HF HH8 HR8 HK8;refine tks 24 ?_;refine tks 25 ?_;refine tks 26 ?_;refine tkb 27 (fun _ h=>(h.blk 0 rfl).c2) ?_;refine tkb 28 (fun _ h=>(h.blk 2 rfl).c3) ?_;refine rcm 29 (HA.out _ hHeld.b) ?_;clear hHeld;intro wk g36 A36 n36 c36 B36 m36 d36 hr36 hbx38 hHeld;replace HY:=Hd (HY.out.below hbx38);have HR36:=Hd hr36;clear hbx38 hr36;refine rct 30 (HH9.out _ _ _ _ _ _ _ _ HR36.out) ?_;clear hHeld;intro wk hbx39 hHeld;replace HY:=Hd (HY.out.below hbx39);clear hbx39 HR36;refine tks 31 ?_
     cases k8
     case' false=>
      refine tkns 32 ?_;refine tkns 33 ?_;refine tkns 34 ?_;refine tkns 35 ?_;refine tkns 36 ?_;refine tkns 37 ?_
     case' true=>
      have KK_HK9:=Hd (HK9.out (by trivial));refine tkb 32 (fun _ h=>(h.blk 2 rfl).c3) ?_;refine tkb 33 (fun _ h=>(h.blk 3 rfl).c2) ?_;refine tkb 34 (fun _ h=>(h.blk 4 rfl).c2) ?_;refine rct 35 (HR9.out _) ?_;clear hHeld;intro wk hbx40 hHeld;replace HY:=Hd (HY.out.below hbx40);clear hbx40;refine rct 36 (KK_HK9.out _ hHeld.b) ?_;clear hHeld;intro wk hbx41 hHeld;replace HY:=Hd (HY.out.below hbx41);clear hbx41;refine tks 37 ?_;clear KK_HK9
     all_goals as_aux_lemma=>
      clear HA HH9 HR9 HK9;refine tks 38 ?_;refine tks 39 ?_;refine wpAnyH_done (by kernel_rfl) ?_ _;have LL:=Hd hHeld;clear hHeld;go_wp2_with fail
      go_meet
      case rel=>exact⟨rfl,LL.out,HY.out⟩
 case rest=>
 obtain⟨rfl,hcl,hy⟩:=hcut;rename World=>wx;clear LL HY;have LL:=Hd hcl;clear hcl HIS HH7 HR7 HK7 HF HH8 HR8 HK8 HA HH9 HR9 HK9;have HY:=Hd hy;clear hy
 go_upto_region 27 with fail
 go_cut [214] from 190 to 214 (fun s214 wx=>s214=.bool false/\Lies w wx [(w.heap.size,24,#[.int .u64 (o1:Int),.int .u64 (o2:Int)]),((w.heap.size+1),24,#[.int .u64 (x1:Int),.int .u64 (x2:Int)]),((w.heap.size+2),42,(Zr g A n c B m d)),(j9,28,(Zv o1 o2)),(j10,28,(Zv x1 x2)),(j12,42,(Zr g12 A12 n12 c12 B12 m12 d12)),(j13,42,(Zr g14 A14 n14 c14 B14 m14 d14))] []/\Tw wx K K1 g12 A12 n12 c12 B12 m12 d12 yS g14 A14 n14 c14 B14 m14 d14 yT)
 case first=>
  as_aux_lemma=>
   clear HE2 HH12 HRAW HK12 HZ1 HZ2;refine regL LL (fun hHeld=>?_);clear LL;replace HY:=Hd (HY.out.below (Below.refl _ _).drew);generalize World.drew _=wk at hHeld HY ⊢;refine tkb 0 (fun _ h=>(h.blk 0 rfl).c2) ?_;refine tkb 1 (fun _ h=>(h.blk 6 rfl).c3) ?_;refine rct 2 (HH10.out _ _ _ _ _ _ _ _ HY.out.b) ?_;clear hHeld;intro wk hbx42 hHeld;replace HY:=Hd (HY.out.below hbx42);clear hbx42;refine tks 3 ?_
   cases k9
   case' false=>
    refine tkns 4 ?_;refine tkns 5 ?_;refine tkns 6 ?_;refine tkns 7 ?_;refine tkns 8 ?_;refine tkns 9 ?_
   case' true=>
    have KK_HK10:=Hd (HK10.out (by trivial));refine tkb 4 (fun _ h=>(h.blk 2 rfl).c3) ?_;refine tkb 5 (fun _ h=>(h.blk 3 rfl).c2) ?_;refine tkb 6 (fun _ h=>(h.blk 4 rfl).c2) ?_;refine rct 7 (HR10.out _) ?_;clear hHeld;intro wk hbx43 hHeld;replace HY:=Hd (HY.out.below hbx43);clear hbx43;refine rct 8 (KK_HK10.out _ hHeld.b) ?_;clear hHeld;intro wk hbx44 hHeld;replace HY:=Hd (HY.out.below hbx44);clear hbx44;refine tks 9 ?_;clear KK_HK10
   all_goals as_aux_lemma=>
    clear HH10 HR10 HK10;refine tks 10 ?_;refine tks 11 ?_;refine tkb 12 (fun _ h=>(h.blk 0 rfl).c2) ?_;refine tkb 13 (fun _ h=>(h.blk 2 rfl).c3) ?_;refine rcm 14 (HE1.out _ hHeld.b) ?_;clear hHeld;intro wk g37 A37 n37 c37 B37 m37 d37 hr37 hbx45 hHeld;replace HY:=Hd (HY.out.below hbx45);have HR37:=Hd hr37;clear hbx45 hr37;refine rct 15 (HH11.out _ _ _ _ _ _ _ _ HR37.out) ?_;clear hHeld;intro wk hbx46 hHeld;replace HY:=Hd (HY.out.below hbx46);clear hbx46 HR37;refine tks 16 ?_
    cases k10
    case' false=>
     refine tkns 17 ?_;refine tkns 18 ?_;refine tkns 19 ?_;refine tkns 20 ?_;refine tkns 21 ?_;refine tkns 22 ?_
    case' true=>
     have KK_HK11:=Hd (HK11.out (by trivial));refine tkb 17 (fun _ h=>(h.blk 2 rfl).c3) ?_;refine tkb 18 (fun _ h=>(h.blk 3 rfl).c2) ?_;refine tkb 19 (fun _ h=>(h.blk 4 rfl).c2) ?_;refine rct 20 (HR11.out _) ?_;clear hHeld;intro wk hbx47 hHeld;replace HY:=Hd (HY.out.below hbx47);clear hbx47;refine rct 21 (KK_HK11.out _ hHeld.b) ?_;clear hHeld;intro wk hbx48 hHeld;replace HY:=Hd (HY.out.below hbx48);clear hbx48;refine tks 22 ?_;clear KK_HK11
    all_goals as_aux_lemma=>
     clear HE1 HH11 HR11 HK11;refine tks 23 ?_;refine tks 24 ?_;refine wpAnyH_done (by kernel_rfl) ?_ _;have LL:=Hd hHeld;clear hHeld;go_wp2_with fail
     go_meet
     case rel=>exact⟨rfl,LL.out,HY.out⟩
 case rest=>
 obtain⟨rfl,hcl,hy⟩:=hcut;rename World=>wx;clear LL HY;have LL:=Hd hcl;clear hcl HH10 HR10 HK10 HE1 HH11 HR11 HK11;have HY:=Hd hy;clear hy
 go_upto_region 29 with fail
 refine regL LL (fun hHeld=>?_);clear LL;replace HY:=Hd (HY.out.below (Below.refl _ _).drew);generalize World.drew _=wk at hHeld HY ⊢;refine tkb 0 (fun _ h=>(h.blk 0 rfl).c2) ?_;refine tkb 1 (fun _ h=>(h.blk 2 rfl).c3) ?_;refine rcm 2 (HE2.out _ hHeld.b) ?_;clear hHeld;intro wk g38 A38 n38 c38 B38 m38 d38 hr38 hbx49 hHeld;replace HY:=Hd (HY.out.below hbx49);have HR38:=Hd hr38;clear hbx49 hr38;refine rct 3 (HH12.out _ _ _ _ _ _ _ _ HR38.out) ?_;clear hHeld;intro wk hbx50 hHeld;replace HY:=Hd (HY.out.below hbx50);clear hbx50 HR38;refine tks 4 ?_;refine tks 5 ?_
 cases k11
 case' false=>
  refine tkns 6 ?_;refine tkns 7 ?_;refine tkns 8 ?_;refine tkns 9 ?_;refine tkns 10 ?_
 case' true=>
  have KK_HK12:=Hd (HK12.out (by trivial));refine tkb 6 (fun _ h=>(h.blk 2 rfl).c3) ?_;refine tkb 7 (fun _ h=>(h.blk 3 rfl).c2) ?_;refine tkb 8 (fun _ h=>(h.blk 4 rfl).c2) ?_;refine rct 9 (HRAW.out _) ?_;clear hHeld;intro wk hbx51 hHeld;replace HY:=Hd (HY.out.below hbx51);clear hbx51;refine rct 10 (KK_HK12.out _ hHeld.b) ?_;clear hHeld;intro wk hbx52 hHeld;replace HY:=Hd (HY.out.below hbx52);clear hbx52;clear KK_HK12
 all_goals as_aux_lemma=>
  clear HE2 HH12 HRAW HK12;refine tks 11 ?_;refine tks 12 ?_;refine wpAnyH_done (by kernel_rfl) ?_ _;have LL:=Hd hHeld;clear hHeld;go_wp2
  go_ret
  exact⟨rfl,LL.out.b⟩
end
end Go.Proofs.YthlmlmfebpjgdaaGreatDoor
