/-
Lemmas for the statement: PairT NeP WhfT PlusT.
-/
import Derived.Test.YthlmlmfebpjgdaaGreatDoorPAddT
import Derived.Test.YthlmlmfebpjgdaaGreatDoorPBothT
import Derived.Test.YthlmlmfebpjgdaaGreatDoorM21
import Derived.Deep.DeepCutAuto
import Derived.Test.YthlmlmfebpjgdaaGreatDoorM02
import Derived.Test.YthlmlmfebpjgdaaGreatDoorM07
import Derived.Test.YthlmlmfebpjgdaaGreatDoorM01
set_option linter.unusedSimpArgs false
set_option linter.unusedVariables false
set_option maxHeartbeats 12800000
namespace Go.Proofs.YthlmlmfebpjgdaaGreatDoor
section
open Go.RowKit
attribute [local go_sem] run_store_float
theorem ExI.setB{w:World}{s:Int}{g:Bool}{A:Option Addr}{n c:Nat}{E:Int}{x:Rat}(h:ExI w s g A n c E x){r:Nat}{t:TypeId}{cs:Array Value}(hb:Blk w r t cs)(hc:NoWd cs)(i:Nat)(vs:List Value):ExI (Proofs.YthlmlmfebpjgdaaGreatDoor.sets w r i vs) s g A n c E x:=
 h.keep fun _ hu=>hu.sets hb hc i vs
theorem ExI.setsE{w W':World}{s:Int}{g:Bool}{A:Option Addr}{n c:Nat}{E:Int}{x:Rat}(h:ExI w s g A n c E x){r:Nat}{t:TypeId}{cs:Array Value}{i:Nat}{vs:List Value}(hb:Blk w r t cs)(hc:NoWd cs)(e:Proofs.YthlmlmfebpjgdaaGreatDoor.sets w r i vs=W'):ExI W' s g A n c E x:=e ▸ h.setB hb hc i vs
set_option maxRecDepth 8000 in
theorem mulpair_none(b1 b2 c1 c2 P1 Q1 P2 Q2:Nat)(d1 d2:Bool)(w:World)(t1:∀ W,Rt 102 #[.agg #[.float .f64 b1,.float .f64 b2]] (.agg #[.float .f64 P1,.float .f64 Q1]) W)(m1:Em d1 P1 Q1)(t2:∀ W,Rt 102 #[.agg #[.float .f64 c1,.float .f64 c2]] (.agg #[.float .f64 P2,.float .f64 Q2]) W)(m2:Em d2 P2 Q2)(hnn:(d1 || d2)=true):
  Rt 38 #[.agg #[.float .f64 b1,.float .f64 b2],.agg #[.float .f64 c1,.float .f64 c2]] (.tuple #[.agg #[.float .f64 9218868437227405312,.float .f64 18442240474082181120],.agg #[.float .f64 9218868437227405312,.float .f64 18442240474082181120]]) w:=by
 have HE:=Hd emptyf;have HRD:=readL42 w #[.float .f64 0,.float .f64 0] 28 #[.float .f64 0,.float .f64 0] 28 t1 m1 t2 m2 hnn;clear t1 m1 t2 m2 hnn
 go_enter Tryz.func38,Tryz.ntmps38
 go_wp2_with fail;refine HRD.out.mono ?_;rintro e wk ⟨rfl,hl⟩;have LL:=Hd hl;clear hl HRD;go_wp2_with fail;refine cx (HE.out _) fun wk hb=>?_;replace LL:=stL LL hb;clear hb;go_wp2_with fail;refine cx (HE.out _) fun wk hb=>?_;replace LL:=stL LL hb;clear hb;replace LL:=Hd (LL.out.loose2 rfl);replace LL:=Hd (LL.out.loose2 rfl);obtain⟨ha4_0,hf4_0,ha4_1,hf4_1⟩:=(LL.out.has 1 rfl).sf2;obtain⟨ha5_0,hf5_0,ha5_1,hf5_1⟩:=(LL.out.has 0 rfl).sf2;have LF:=Hd ((LL.out.swap.write [.float .f64 9218868437227405312,.float .f64 18442240474082181120] rfl (by omega) (by simp<;>omega) (by simp<;>omega)).write [.float .f64 9218868437227405312,.float .f64 18442240474082181120] rfl (by omega) (by simp<;>omega) (by simp<;>omega));obtain⟨hk4_0,hk4_1⟩:=(LF.out.blk 2 rfl).c2;obtain⟨hk5_0,hk5_1⟩:=(LF.out.blk 3 rfl).c2
 simp [sets] at hk4_0 hk4_1 hk5_0 hk5_1
 clear LL;go_wp2;refine bodyPost_ret (v:=.tuple #[.agg #[.float .f64 9218868437227405312,.float .f64 18442240474082181120],.agg #[.float .f64 9218868437227405312,.float .f64 18442240474082181120]]) (by simp [results,Tryz.results38,go_sem,hk4_0,hk4_1,hk5_0,hk5_1]) rfl ?_
 exact⟨rfl,LF.out.b⟩
set_option maxRecDepth 8000 in
theorem mulpair_one(b1 b2 c1 c2 P1 Q1 P2 Q2 r1 r2:Nat)(d1 d2:Bool)(a1 a2:Ordering)(hs sp:Bool)(w:World)(t1:∀ W,Rt 102 #[.agg #[.float .f64 b1,.float .f64 b2]] (.agg #[.float .f64 P1,.float .f64 Q1]) W)(m1:Em d1 P1 Q1)(t2:∀ W,Rt 102 #[.agg #[.float .f64 c1,.float .f64 c2]] (.agg #[.float .f64 P2,.float .f64 Q2]) W)(m2:Em d2 P2 Q2)(hnn:(d1 || d2)=false)
  (o1:FloatKind.f64.format.order P1 0=some a1)(o2:FloatKind.f64.format.order Q1 0=some a2)
  (hh:∀ W,Rt 87 #[.agg #[.float .f64 P2,.float .f64 Q2]] (.bool hs) W)(hsp:(a1 == .lt && a2 == .gt && !hs)=false)
  (hm:∀ W,Rt 25 #[.agg #[.float .f64 P1,.float .f64 Q1],.agg #[.float .f64 P2,.float .f64 Q2],.agg #[.float .f64 18442240474082181120,.float .f64 9218868437227405312]] (.agg #[.float .f64 r1,.float .f64 r2]) W):
  Rt 38 #[.agg #[.float .f64 b1,.float .f64 b2],.agg #[.float .f64 c1,.float .f64 c2]] (.tuple #[.agg #[.float .f64 r1,.float .f64 r2],.agg #[.float .f64 9218868437227405312,.float .f64 18442240474082181120]]) w:=by
 have O1:=Hd o1;have O2:=Hd o2;have HH:=Hd hh;have HSP:=Hd hsp;have HM:=Hd hm;have HN:=Hd entiref;have HE:=Hd emptyf;clear o1 o2 hh hsp hm;have HRD:=readL42 w #[.float .f64 0,.float .f64 0] 28 #[.float .f64 0,.float .f64 0] 28 t1 m1 t2 m2 hnn;clear t1 m1 t2 m2 hnn
 go_enter Tryz.func38,Tryz.ntmps38
 go_wp2_with fail;refine HRD.out.mono ?_;rintro e wk ⟨rfl,hl⟩;have LL:=Hd hl;clear hl HRD
 go_upto_region 3 with fail
 go_cut [24] (fun s24 wx=>s24=.bool false/\Lies w wx [(w.heap.size,28,#[.float .f64 P1,.float .f64 Q1]),((w.heap.size+1),28,#[.float .f64 P2,.float .f64 Q2]),((w.heap.size+2),28,#[.float .f64 0,.float .f64 0]),((w.heap.size+3),28,#[.float .f64 0,.float .f64 0])] [])
 case first=>
  have hsp:=HSP.out;have o1:=O1.out;have o2:=O2.out;clear O1 O2 HSP
  cases a1
  ·skip
   cases a2
   ·skip;obtain⟨q1_0,q1_1⟩:=(LL.out.blk 0 rfl).c2;go_wp2_with fail
    go_meet
    case rel=>exact⟨by rw [<- hsp];try rfl,LL.out⟩
   ·skip;obtain⟨q1_0,q1_1⟩:=(LL.out.blk 0 rfl).c2;go_wp2_with fail
    go_meet
    case rel=>exact⟨by rw [<- hsp];try rfl,LL.out⟩
   ·skip;obtain⟨q1_0,q1_1⟩:=(LL.out.blk 0 rfl).c2;obtain⟨q2_0,q2_1⟩:=(LL.out.blk 1 rfl).c2;go_wp2_with fail;refine cx (HH.out _) fun wk hb=>?_;replace LL:=stL LL hb;clear hb q1_0 q1_1 q2_0 q2_1;go_wp2_with fail
    go_meet
    case rel=>exact⟨by rw [<- hsp];try rfl,LL.out⟩
  ·skip;obtain⟨q1_0,q1_1⟩:=(LL.out.blk 0 rfl).c2;go_wp2_with fail
   go_meet
   case rel=>exact⟨by rw [<- hsp];try rfl,LL.out⟩
  ·skip;obtain⟨q1_0,q1_1⟩:=(LL.out.blk 0 rfl).c2;go_wp2_with fail
   go_meet
   case rel=>exact⟨by rw [<- hsp];try rfl,LL.out⟩
 case rest=>
 obtain⟨rfl,hcl⟩:=hcut;rename World=>wx;clear LL HSP O1 O2 HH;have LL:=Hd hcl;clear hcl;go_wp2_with fail;replace LL:=Hd (LL.out.loose2 rfl);replace LL:=Hd (LL.out.loose2 rfl);refine regL LL (fun hHeld=>?_);clear LL;generalize World.drew _=wk at hHeld  ⊢;refine tkb 0 (fun _ h=>(h.blk 0 rfl).c2) ?_;refine tkb 1 (fun _ h=>(h.blk 1 rfl).c2) ?_;refine rdy 2 (fun KK hKK=>?_);go_simp;refine cs (HN.out _) ?_;clear hKK KK hHeld;intro wk hb1 hHeld;clear hb1;refine rdy 3 (fun KK hKK=>?_);go_simp;refine cs (HM.out _) ?_;clear hKK KK hHeld;intro wk hb2 hHeld;clear hb2;refine rdy 4 (fun KK hKK=>?_);go_simp;refine cs (HE.out _) ?_;clear hKK KK hHeld;intro wk hb3 hHeld;clear hb3;refine rdy 5 (fun KK hKK=>?_);obtain⟨ha0,hf0,ha1,hf1⟩:=(hHeld.has 1 rfl).sf2;go_simp;have HS_1:=(hHeld.has 1 rfl).laid [.float .f64 r1,.float .f64 r2] rfl;refine hKK.out _ _ (hHeld.over 1 rfl [.float .f64 r1,.float .f64 r2] rfl rfl (by first | omega | exact hHeld.le_of 1 rfl) (by simp<;>omega) (by simp<;>omega)) (fun _=>?_);clear hKK KK hHeld;rename_i hHeld;(try simp only [Act.put,lay])
 replace hHeld:=(show Lies _ (sets wk (w.heap.size+2) 0 [.float .f64 r1,.float .f64 r2]) _ _ from hHeld)
 obtain⟨wk,hwn⟩:∃ X,sets wk (w.heap.size+2) 0 [.float .f64 r1,.float .f64 r2]=X:=⟨_,rfl⟩
 rw [hwn] at hHeld  HS_1
 simp only [sets] at hwn
 rw [hwn];clear hwn;refine rdy 6 (fun KK hKK=>?_);obtain⟨ha0,hf0,ha1,hf1⟩:=(hHeld.has 0 rfl).sf2;go_simp;have HS_0:=(hHeld.has 0 rfl).laid [.float .f64 9218868437227405312,.float .f64 18442240474082181120] rfl;refine hKK.out _ _ (hHeld.over 0 rfl [.float .f64 9218868437227405312,.float .f64 18442240474082181120] rfl rfl (by first | omega | exact hHeld.le_of 0 rfl) (by simp<;>omega) (by simp<;>omega)) (fun _=>?_);clear hKK KK hHeld;rename_i hHeld;(try simp only [Act.put,lay]);replace HS_1:=HS_1.other (r:=(w.heap.size+3)) (by omega) 0 [.float .f64 9218868437227405312,.float .f64 18442240474082181120];refine wpAnyH_done (by kernel_rfl) ?_ _;have LB:=Hd hHeld.b;clear hHeld;obtain⟨hk4_0,hk4_1⟩:=HS_1.c2;clear HS_1;obtain⟨hk5_0,hk5_1⟩:=HS_0.c2;clear HS_0
 simp [sets] at hk4_0 hk4_1 hk5_0 hk5_1
 go_wp2;refine bodyPost_ret (v:=.tuple #[.agg #[.float .f64 r1,.float .f64 r2],.agg #[.float .f64 9218868437227405312,.float .f64 18442240474082181120]]) (by simp [results,Tryz.results38,go_sem,hk4_0,hk4_1,hk5_0,hk5_1]) rfl ?_
 exact⟨rfl,LB.out⟩
set_option maxRecDepth 8000 in
theorem mulpair_split(b1 b2 c1 c2 P1 Q1 P2 Q2 y1 y2 v1 v2 l1 l2 u1 u2 r1 r2 r3 r4:Nat)(s1 s2:Int)(x1 x2:Rat)(a3:Ordering)(d1 d2:Bool)(a1 a2:Ordering)(hs sp:Bool)(w:World)(t1:∀ W,Rt 102 #[.agg #[.float .f64 b1,.float .f64 b2]] (.agg #[.float .f64 P1,.float .f64 Q1]) W)(m1:Em d1 P1 Q1)(t2:∀ W,Rt 102 #[.agg #[.float .f64 c1,.float .f64 c2]] (.agg #[.float .f64 P2,.float .f64 Q2]) W)(m2:Em d2 P2 Q2)(hnn:(d1 || d2)=false)
  (o1:FloatKind.f64.format.order P1 0=some a1)(o2:FloatKind.f64.format.order Q1 0=some a2)
  (hh:∀ W,Rt 87 #[.agg #[.float .f64 P2,.float .f64 Q2]] (.bool hs) W)(hsp:(a1 == .lt && a2 == .gt && !hs)=true)(o3:FloatKind.f64.format.order Q2 0=some a3)(h3:(a3=.lt/\r1=u1/\r2=u2/\r3=l1/\r4=l2)\/((a3=.eq\/a3=.gt)/\r1=l1/\r2=l2/\r3=u1/\r4=u2))
  (hp1:∀ W,Calls Tryz.prog 100 #[.float .f64 P2] W (NewExI W s1 x1))(hp2:∀ W,Calls Tryz.prog 100 #[.float .f64 Q2] W (NewExI W s2 x2))
  (hm1:∀ W,Rt 85 #[.agg #[.float .f64 P1,.float .f64 Q1]] (.agg #[.float .f64 y1,.float .f64 y2]) W)(hq1:∀ W (g1:Bool) (A1:Option Addr) (n1 k1:Nat) (E1:Int) (g2:Bool) (A2:Option Addr) (n2 k2:Nat) (E2:Int),ExI W s1 g1 A1 n1 k1 E1 x1->ExI W s2 g2 A2 n2 k2 E2 x2->Rt 101 #[.agg #[.float .f64 y1,.float .f64 y2],.agg #[.int .i64 s1,.bool g1,.slice A1 n1 k1,.int .i64 E1],.agg #[.int .i64 s2,.bool g2,.slice A2 n2 k2,.int .i64 E2],.agg #[.float .f64 18442240474082181120,.float .f64 9218868437227405312]] (.agg #[.float .f64 v1,.float .f64 v2]) W)(hm2:∀ W,Rt 85 #[.agg #[.float .f64 v1,.float .f64 v2]] (.agg #[.float .f64 l1,.float .f64 l2]) W)(hq2:∀ W (g1:Bool) (A1:Option Addr) (n1 k1:Nat) (E1:Int) (g2:Bool) (A2:Option Addr) (n2 k2:Nat) (E2:Int),ExI W s1 g1 A1 n1 k1 E1 x1->ExI W s2 g2 A2 n2 k2 E2 x2->Rt 101 #[.agg #[.float .f64 P1,.float .f64 Q1],.agg #[.int .i64 s1,.bool g1,.slice A1 n1 k1,.int .i64 E1],.agg #[.int .i64 s2,.bool g2,.slice A2 n2 k2,.int .i64 E2],.agg #[.float .f64 18442240474082181120,.float .f64 9218868437227405312]] (.agg #[.float .f64 u1,.float .f64 u2]) W):
  Rt 38 #[.agg #[.float .f64 b1,.float .f64 b2],.agg #[.float .f64 c1,.float .f64 c2]] (.tuple #[.agg #[.float .f64 r1,.float .f64 r2],.agg #[.float .f64 r3,.float .f64 r4]]) w:=by
 have O1:=Hd o1;have O2:=Hd o2;have HH:=Hd hh;have HSP:=Hd hsp;have O3:=Hd o3;have H3:=Hd h3;have HP1:=Hd hp1;have HP2:=Hd hp2;have HM1:=Hd hm1;have HM2:=Hd hm2;have HQ1:=Hd hq1;have HQ2:=Hd hq2;have HN:=Hd entiref;clear o1 o2 hh hsp o3 h3 hp1 hp2 hm1 hm2 hq1 hq2;have HRD:=readL42 w #[.float .f64 0,.float .f64 0] 28 #[.float .f64 0,.float .f64 0] 28 t1 m1 t2 m2 hnn;clear t1 m1 t2 m2 hnn
 go_enter Tryz.func38,Tryz.ntmps38
 go_wp2_with fail;refine HRD.out.mono ?_;rintro e wk ⟨rfl,hl⟩;have LL:=Hd hl;clear hl HRD
 go_upto_region 3 with fail
 go_cut [24] (fun s24 wx=>s24=.bool true/\Lies w wx [(w.heap.size,28,#[.float .f64 P1,.float .f64 Q1]),((w.heap.size+1),28,#[.float .f64 P2,.float .f64 Q2]),((w.heap.size+2),28,#[.float .f64 0,.float .f64 0]),((w.heap.size+3),28,#[.float .f64 0,.float .f64 0])] [])
 case first=>
  have hsp:=HSP.out;have o1:=O1.out;have o2:=O2.out;clear O1 O2 HSP
  cases a1
  ·skip
   cases a2
   ·skip;obtain⟨q1_0,q1_1⟩:=(LL.out.blk 0 rfl).c2;go_wp2_with fail
    go_meet
    case rel=>exact⟨by rw [<- hsp];try rfl,LL.out⟩
   ·skip;obtain⟨q1_0,q1_1⟩:=(LL.out.blk 0 rfl).c2;go_wp2_with fail
    go_meet
    case rel=>exact⟨by rw [<- hsp];try rfl,LL.out⟩
   ·skip;obtain⟨q1_0,q1_1⟩:=(LL.out.blk 0 rfl).c2;obtain⟨q2_0,q2_1⟩:=(LL.out.blk 1 rfl).c2;go_wp2_with fail;refine cx (HH.out _) fun wk hb=>?_;replace LL:=stL LL hb;clear hb q1_0 q1_1 q2_0 q2_1;go_wp2_with fail
    go_meet
    case rel=>exact⟨by rw [<- hsp];try rfl,LL.out⟩
  ·skip;obtain⟨q1_0,q1_1⟩:=(LL.out.blk 0 rfl).c2;go_wp2_with fail
   go_meet
   case rel=>exact⟨by rw [<- hsp];try rfl,LL.out⟩
  ·skip;obtain⟨q1_0,q1_1⟩:=(LL.out.blk 0 rfl).c2;go_wp2_with fail
   go_meet
   case rel=>exact⟨by rw [<- hsp];try rfl,LL.out⟩
 case rest=>
 obtain⟨rfl,hcl⟩:=hcut;rename World=>wx;clear LL HSP O1 O2 HH;have LL:=Hd hcl;clear hcl
 go_upto_region 4 with fail
 go_cut [6,7] (fun s6 s7 wx=>∃ (g6 g7:Nat) (g1:Bool) (A1:Option Addr) (n1 k1:Nat) (E1:Int) (g2:Bool) (A2:Option Addr) (n2 k2:Nat) (E2:Int),s6=.pointer (some ⟨g6,0,none⟩)/\s7=.pointer (some ⟨g7,0,none⟩)/\(w.heap.size+3<g6/\w.heap.size+3<g7/\g6≠g7)/\Lies w wx [(w.heap.size,28,#[.float .f64 P1,.float .f64 Q1]),((w.heap.size+1),28,#[.float .f64 P2,.float .f64 Q2]),((w.heap.size+2),28,#[.float .f64 0,.float .f64 0]),((w.heap.size+3),28,#[.float .f64 0,.float .f64 0]),(g6,97,#[.int .i64 s1,.bool g1,.slice A1 n1 k1,.int .i64 E1]),(g7,97,#[.int .i64 s2,.bool g2,.slice A2 n2 k2,.int .i64 E2])] []/\ExI wx s1 g1 A1 n1 k1 E1 x1/\ExI wx s2 g2 A2 n2 k2 E2 x2)
 case first=>
  refine regL LL (fun hHeld=>?_);clear LL;generalize World.drew _=wk at hHeld  ⊢;refine tks 0 ?_;refine tkb 1 (fun _ h=>(h.blk 1 rfl).c2) ?_;refine tks 3 ?_;refine tkb 4 (fun _ h=>(h.blk 1 rfl).c2) ?_
  repeat' first
   | (have hx:=hC2;clear hx;go_simp;refine (HP1.out _).mono ?_;rintro e wk ⟨g1,A1,n1,k1,E1,rfl,he1,hb1⟩;go_wp2_with fail;refine hC2.out _ _ (hHeld.keep hb1) (fun _=>?_);clear hC2 KK hHeld;rename_i hHeld;(try simp only [Act.put,lay]);(try replace HE2:=Hd (HE2.out.below hb1));(try replace B_g6:=B_g6.keep hb1);(try replace B_g7:=B_g7.keep hb1);have HE1:=Hd he1;clear he1;clear hb1;have mk2:=True.intro)
   | (have hx:=hC5;clear hx;go_simp;refine (HP2.out _).mono ?_;rintro e wk ⟨g2,A2,n2,k2,E2,rfl,he2,hb2⟩;go_wp2_with fail;refine hC5.out _ _ (hHeld.keep hb2) (fun _=>?_);clear hC5 KK hHeld;rename_i hHeld;(try simp only [Act.put,lay]);(try replace HE1:=Hd (HE1.out.below hb2));(try replace B_g6:=B_g6.keep hb2);(try replace B_g7:=B_g7.keep hb2);have HE2:=Hd he2;clear he2;clear hb2;have mk5:=True.intro)
   | (have hx:=hA6;clear hx;go_simp;have hl_g6:=hHeld.lts;refine hA6.out _ _ (hHeld.alloc _) (fun _=>?_);clear hA6 KK hHeld;rename_i hHeld;(try simp only [Act.put,lay]);generalize hwn:World.alloc wk _=wn at hHeld ⊢;(try replace HE1:=Hd (HE1.out.below (below_allocE hwn)));(try replace HE2:=Hd (HE2.out.below (below_allocE hwn)));(try (have hx_g6:=B_g7.lt;replace B_g7:=B_g7.keep (below_allocE hwn)));have B_g6:=Blk.newE hwn;simp only [List.mem_cons,List.not_mem_nil,or_false,forall_eq_or_imp,forall_eq,false_imp_iff,implies_true,and_true] at hl_g6;clear hwn;generalize hg:wk.heap.size=g6 at B_g6 hl_g6 ⊢;(try rw [hg] at hx_g6);clear hg;obtain⟨wk,rfl⟩:∃ X,X=wn:=⟨_,rfl⟩;have mk6:=True.intro)
   | (have hx:=hA7;clear hx;go_simp;have hl_g7:=hHeld.lts;refine hA7.out _ _ (hHeld.alloc _) (fun _=>?_);clear hA7 KK hHeld;rename_i hHeld;(try simp only [Act.put,lay]);generalize hwn:World.alloc wk _=wn at hHeld ⊢;(try replace HE1:=Hd (HE1.out.below (below_allocE hwn)));(try replace HE2:=Hd (HE2.out.below (below_allocE hwn)));(try (have hx_g7:=B_g6.lt;replace B_g6:=B_g6.keep (below_allocE hwn)));have B_g7:=Blk.newE hwn;simp only [List.mem_cons,List.not_mem_nil,or_false,forall_eq_or_imp,forall_eq,false_imp_iff,implies_true,and_true] at hl_g7;clear hwn;generalize hg:wk.heap.size=g7 at B_g7 hl_g7 ⊢;(try rw [hg] at hx_g7);clear hg;obtain⟨wk,rfl⟩:∃ X,X=wn:=⟨_,rfl⟩;have mk7:=True.intro)
   | (have hx:=hS8;clear hx;have qz0:=B_g6.ce 0 rfl;have fz0:=B_g6.frozen 0;have qz1:=B_g6.ce 1 rfl;have fz1:=B_g6.frozen 1;have qz2:=B_g6.ce 2 rfl;have fz2:=B_g6.frozen 2;have qz3:=B_g6.ce 3 rfl;have fz3:=B_g6.frozen 3;go_simp;have hsx:=hHeld.far [.int .i64 s1,.bool g1,.slice A1 n1 k1,.int .i64 E1] 0 (g:=g6) (by omega) (by simp<;>omega) (by simp<;>omega);generalize hwn:sets wk g6 0 _=wn at hsx;refine hS8.out _ _ (by have e:=hwn;simp only [sets,Nat.reduceAdd] at e;rw [e];exact hsx) (fun _=>?_);clear hS8 KK hHeld hsx;rename_i hHeld;(try simp only [Act.put,lay]);(try replace HE1:=Hd (HE1.out.setsE B_g6 (nowd rfl) hwn));(try replace HE2:=Hd (HE2.out.setsE B_g6 (nowd rfl) hwn));replace B_g7:=B_g7.otherE hwn (by omega);replace B_g6:=B_g6.setsE hwn;simp only [laid,lay,Nat.reduceAdd] at B_g6;simp only [sets,Nat.reduceAdd] at hwn;rw [hwn] at hHeld ⊢;clear hwn qz0 fz0 qz1 fz1 qz2 fz2 qz3 fz3;obtain⟨wk,rfl⟩:∃ X,X=wn:=⟨_,rfl⟩;have mk8:=True.intro)
   | (have hx:=hS9;clear hx;have qz0:=B_g7.ce 0 rfl;have fz0:=B_g7.frozen 0;have qz1:=B_g7.ce 1 rfl;have fz1:=B_g7.frozen 1;have qz2:=B_g7.ce 2 rfl;have fz2:=B_g7.frozen 2;have qz3:=B_g7.ce 3 rfl;have fz3:=B_g7.frozen 3;go_simp;have hsx:=hHeld.far [.int .i64 s2,.bool g2,.slice A2 n2 k2,.int .i64 E2] 0 (g:=g7) (by omega) (by simp<;>omega) (by simp<;>omega);generalize hwn:sets wk g7 0 _=wn at hsx;refine hS9.out _ _ (by have e:=hwn;simp only [sets,Nat.reduceAdd] at e;rw [e];exact hsx) (fun _=>?_);clear hS9 KK hHeld hsx;rename_i hHeld;(try simp only [Act.put,lay]);(try replace HE1:=Hd (HE1.out.setsE B_g7 (nowd rfl) hwn));(try replace HE2:=Hd (HE2.out.setsE B_g7 (nowd rfl) hwn));replace B_g6:=B_g6.otherE hwn (by omega);replace B_g7:=B_g7.setsE hwn;simp only [laid,lay,Nat.reduceAdd] at B_g7;simp only [sets,Nat.reduceAdd] at hwn;rw [hwn] at hHeld ⊢;clear hwn qz0 fz0 qz1 fz1 qz2 fz2 qz3 fz3;obtain⟨wk,rfl⟩:∃ X,X=wn:=⟨_,rfl⟩;have mk9:=True.intro)
   | (have hx:=mk2;have hx:=mk5;have hx:=mk6;have hx:=mk7;have hx:=mk8;have hx:=mk9;refine wpAnyH_done (by kernel_rfl) ?_ _;clear hx mk2 mk5 mk6 mk7 mk8 mk9;go_wp2_with fail;go_meet;exact⟨g6,g7,_,_,_,_,_,_,_,_,_,_,rfl,rfl,⟨by omega,by omega,by omega⟩,(hHeld.put B_g6).put B_g7,HE1.out,HE2.out⟩)
   | (have hx:=mk2;have hx:=mk5;have hx:=mk6;have hx:=mk7;have hx:=mk8;refine rdy 9 (fun KK hS9=>?_))
   | (have hx:=mk2;have hx:=mk5;have hx:=mk6;have hx:=mk7;refine rdy 8 (fun KK hS8=>?_))
   | (have hx:=mk2;have hx:=mk6;have hx:=mk7;refine rdy 5 (fun KK hC5=>?_))
   | (have hx:=mk2;have hx:=mk5;have hx:=mk7;refine rdy 6 (fun KK hA6=>?_))
   | (have hx:=mk2;have hx:=mk5;have hx:=mk6;refine rdy 7 (fun KK hA7=>?_))
   | (have hx:=mk6;have hx:=mk7;refine rdy 2 (fun KK hC2=>?_))
   | (have hx:=mk2;have hx:=mk7;refine rd2 5 6 (fun KK hC5=>?_) (fun KK hA6=>?_))
   | (have hx:=mk2;have hx:=mk6;refine rd2 5 7 (fun KK hC5=>?_) (fun KK hA7=>?_))
   | (have hx:=mk2;have hx:=mk5;refine rd2 6 7 (fun KK hA6=>?_) (fun KK hA7=>?_))
   | (have hx:=mk7;refine rd2 2 6 (fun KK hC2=>?_) (fun KK hA6=>?_))
   | (have hx:=mk6;refine rd2 2 7 (fun KK hC2=>?_) (fun KK hA7=>?_))
   | (have hx:=mk2;refine rd3 5 6 7 (fun KK hC5=>?_) (fun KK hA6=>?_) (fun KK hA7=>?_))
   | (refine rd3 2 6 7 (fun KK hC2=>?_) (fun KK hA6=>?_) (fun KK hA7=>?_))
 case rest=>
 obtain⟨g6,g7,g1,A1,n1,k1,E1,g2,A2,n2,k2,E2,rfl,rfl,hgs,hcl,hx1,hx2⟩:=hcut;rename World=>wx;clear LL HP1 HP2;have LL:=Hd hcl;have HE1:=Hd hx1;have HE2:=Hd hx2;clear hcl hx1 hx2;go_wp2_with fail;replace LL:=Hd (LL.out.loose2 rfl);refine regL LL (fun hHeld=>?_);clear LL;replace HE1:=Hd (HE1.out.below (Below.refl _ _).drew);replace HE2:=Hd (HE2.out.below (Below.refl _ _).drew);generalize World.drew _=wk at hHeld HE1 HE2 ⊢;refine tkb 0 (fun _ h=>(h.blk 0 rfl).c2) ?_;refine tkb 2 (fun _ h=>(h.blk 3 rfl).c4) ?_;refine tkb 3 (fun _ h=>(h.blk 4 rfl).c4) ?_;refine rdy 1 (fun KK hKK=>?_);go_simp;refine cs (HM1.out _) ?_;clear hKK KK hHeld;intro wk hb1 hHeld;replace HE1:=Hd (HE1.out.below hb1);replace HE2:=Hd (HE2.out.below hb1);clear hb1;refine rdy 4 (fun KK hKK=>?_);go_simp;refine cs (HN.out _) ?_;clear hKK KK hHeld;intro wk hb2 hHeld;replace HE1:=Hd (HE1.out.below hb2);replace HE2:=Hd (HE2.out.below hb2);clear hb2;refine rdy 5 (fun KK hKK=>?_);go_simp;refine cs (HQ1.out _ _ _ _ _ _ _ _ _ _ _ HE1.out HE2.out) ?_;clear hKK KK hHeld;intro wk hb3 hHeld;replace HE1:=Hd (HE1.out.below hb3);replace HE2:=Hd (HE2.out.below hb3);clear hb3;refine rdy 6 (fun KK hKK=>?_);go_simp;refine cs (HM2.out _) ?_;clear hKK KK hHeld;intro wk hb4 hHeld;replace HE1:=Hd (HE1.out.below hb4);replace HE2:=Hd (HE2.out.below hb4);clear hb4;refine rdy 7 (fun KK hKK=>?_);obtain⟨ha0,hf0,ha1,hf1⟩:=(hHeld.has 0 rfl).sf2;obtain⟨csx,hbx,-,hcx⟩:=hHeld.has 0 rfl
 replace HE1:=Hd (HE1.out.setB hbx hcx 0 [.float .f64 l1,.float .f64 l2]);replace HE2:=Hd (HE2.out.setB hbx hcx 0 [.float .f64 l1,.float .f64 l2]);clear hbx hcx;go_simp;have HS_0:=(hHeld.has 0 rfl).laid [.float .f64 l1,.float .f64 l2] rfl;refine hKK.out _ _ (hHeld.over 0 rfl [.float .f64 l1,.float .f64 l2] rfl rfl (by first | omega | exact hHeld.le_of 0 rfl) (by simp<;>omega) (by simp<;>omega)) (fun _=>?_);clear hKK KK hHeld;rename_i hHeld;(try simp only [Act.put,lay])
 replace hHeld:=(show Lies _ (sets wk (w.heap.size+2) 0 [.float .f64 l1,.float .f64 l2]) _ _ from hHeld)
 obtain⟨wk,hwn⟩:∃ X,sets wk (w.heap.size+2) 0 [.float .f64 l1,.float .f64 l2]=X:=⟨_,rfl⟩
 rw [hwn] at hHeld HE1 HE2 HS_0
 simp only [sets] at hwn
 rw [hwn];clear hwn;refine wpAnyH_done (by kernel_rfl) ?_ _;have LL:=Hd (hHeld.tight HS_0)
 simp only [List.cons_append,List.nil_append] at LL
 clear hHeld HS_0;go_wp2_with fail;replace LL:=Hd (LL.out.loose2 rfl);refine regL LL (fun hHeld=>?_);clear LL;replace HE1:=Hd (HE1.out.below (Below.refl _ _).drew);replace HE2:=Hd (HE2.out.below (Below.refl _ _).drew);generalize World.drew _=wk at hHeld HE1 HE2 ⊢;refine tkb 0 (fun _ h=>(h.blk 0 rfl).c2) ?_;refine tkb 1 (fun _ h=>(h.blk 2 rfl).c4) ?_;refine tkb 2 (fun _ h=>(h.blk 3 rfl).c4) ?_;refine rdy 3 (fun KK hKK=>?_);go_simp;refine cs (HN.out _) ?_;clear hKK KK hHeld;intro wk hb1 hHeld;replace HE1:=Hd (HE1.out.below hb1);replace HE2:=Hd (HE2.out.below hb1);clear hb1;refine rdy 4 (fun KK hKK=>?_);go_simp;refine cs (HQ2.out _ _ _ _ _ _ _ _ _ _ _ HE1.out HE2.out) ?_;clear hKK KK hHeld;intro wk hb2 hHeld;replace HE1:=Hd (HE1.out.below hb2);replace HE2:=Hd (HE2.out.below hb2);clear hb2;refine rdy 5 (fun KK hKK=>?_);obtain⟨ha0,hf0,ha1,hf1⟩:=(hHeld.has 0 rfl).sf2;obtain⟨csx,hbx,-,hcx⟩:=hHeld.has 0 rfl;replace HE1:=Hd (HE1.out.setB hbx hcx 0 [.float .f64 u1,.float .f64 u2]);replace HE2:=Hd (HE2.out.setB hbx hcx 0 [.float .f64 u1,.float .f64 u2]);clear hbx hcx;go_simp;have HS_0:=(hHeld.has 0 rfl).laid [.float .f64 u1,.float .f64 u2] rfl;refine hKK.out _ _ (hHeld.over 0 rfl [.float .f64 u1,.float .f64 u2] rfl rfl (by first | omega | exact hHeld.le_of 0 rfl) (by simp<;>omega) (by simp<;>omega)) (fun _=>?_);clear hKK KK hHeld;rename_i hHeld;(try simp only [Act.put,lay])
 replace hHeld:=(show Lies _ (sets wk (w.heap.size+3) 0 [.float .f64 u1,.float .f64 u2]) _ _ from hHeld)
 obtain⟨wk,hwn⟩:∃ X,sets wk (w.heap.size+3) 0 [.float .f64 u1,.float .f64 u2]=X:=⟨_,rfl⟩
 rw [hwn] at hHeld HE1 HE2 HS_0
 simp only [sets] at hwn
 rw [hwn];clear hwn;refine wpAnyH_done (by kernel_rfl) ?_ _;have LL:=Hd (hHeld.tight HS_0)
 simp only [List.cons_append,List.nil_append] at LL
 clear hHeld HS_0;clear HM1 HM2 HQ1 HQ2 HN HE1 HE2
 rcases H3.out with ⟨h3,e1,e2,e3,e4⟩ | ⟨h3,e1,e2,e3,e4⟩<;>subst e1 e2 e3 e4<;>clear H3
 ·skip;subst h3;have o3:=O3.out;clear O3;obtain⟨q1_0,q1_1⟩:=(LL.out.blk 1 rfl).c2;obtain⟨q2_0,q2_1⟩:=(LL.out.blk 4 rfl).c2;obtain⟨q3_0,q3_1⟩:=(LL.out.blk 5 rfl).c2;have hf4_0:=(LL.out.blk 4 rfl).frozen 0;have hf4_1:=(LL.out.blk 4 rfl).frozen 1;have hf5_0:=(LL.out.blk 5 rfl).frozen 0;have hf5_1:=(LL.out.blk 5 rfl).frozen 1
  go_upto_region 9 with fail
  clear q1_0 q1_1 q2_0 q2_1 q3_0 q3_1 hf4_0 hf4_1 hf5_0 hf5_1;replace LL:=Hd (LL.out.part 4 rfl 0 [.float .f64 r1,.float .f64 r2] (by omega) (by simp<;>omega) (by simp<;>omega))
  simp only [List.eraseIdx,laid,List.cons_append,List.nil_append,List.setIfInBounds_toArray,List.set_cons_zero,List.set_cons_succ,Nat.zero_add,Nat.reduceAdd] at LL
  replace LL:=Hd (LL.out.part 4 rfl 0 [.float .f64 r3,.float .f64 r4] (by omega) (by simp<;>omega) (by simp<;>omega))
  simp only [List.eraseIdx,laid,List.cons_append,List.nil_append,List.setIfInBounds_toArray,List.set_cons_zero,List.set_cons_succ,Nat.zero_add,Nat.reduceAdd] at LL
  obtain⟨wn,hwn⟩:∃ X,(sets (sets wk (w.heap.size+2) 0 [.float .f64 r1,.float .f64 r2]) (w.heap.size+3) 0 [.float .f64 r3,.float .f64 r4])=X:=⟨_,rfl⟩
  rw [hwn] at LL
  simp only [sets,Nat.reduceAdd] at hwn
  rw [hwn];clear hwn;clear o3;refine regL LL (fun hHeld=>?_);clear LL;generalize World.drew _=wk at hHeld  ⊢;refine tkb 0 (fun _ h=>(h.blk 4 rfl).c2) ?_;refine tkb 1 (fun _ h=>(h.blk 5 rfl).c2) ?_;refine rdy 2 (fun KK hKK=>?_);have qz0:=(hHeld.blk 4 rfl).ce 0 rfl;have fz0:=(hHeld.blk 4 rfl).frozen 0;have qz1:=(hHeld.blk 4 rfl).ce 1 rfl;have fz1:=(hHeld.blk 4 rfl).frozen 1;go_simp;refine hKK.out _ _ (hHeld.same 4 rfl [.float .f64 r1,.float .f64 r2] rfl (by omega) (by simp<;>omega) (by simp<;>omega)) (fun _=>?_);clear hKK KK hHeld qz0 fz0 qz1 fz1;rename_i hHeld;(try simp only [Act.put,lay])
  replace hHeld:=(show Lies _ (sets wk (w.heap.size+2) 0 [.float .f64 r1,.float .f64 r2]) _ _ from hHeld)
  obtain⟨wk,hwn⟩:∃ X,sets wk (w.heap.size+2) 0 [.float .f64 r1,.float .f64 r2]=X:=⟨_,rfl⟩
  rw [hwn] at hHeld
  simp only [sets] at hwn
  rw [hwn];clear hwn;refine rdy 3 (fun KK hKK=>?_);have qz0:=(hHeld.blk 5 rfl).ce 0 rfl;have fz0:=(hHeld.blk 5 rfl).frozen 0;have qz1:=(hHeld.blk 5 rfl).ce 1 rfl;have fz1:=(hHeld.blk 5 rfl).frozen 1;go_simp;refine hKK.out _ _ (hHeld.same 5 rfl [.float .f64 r3,.float .f64 r4] rfl (by omega) (by simp<;>omega) (by simp<;>omega)) (fun _=>?_);clear hKK KK hHeld qz0 fz0 qz1 fz1;rename_i hHeld;(try simp only [Act.put,lay])
  replace hHeld:=(show Lies _ (sets wk (w.heap.size+3) 0 [.float .f64 r3,.float .f64 r4]) _ _ from hHeld)
  obtain⟨wk,hwn⟩:∃ X,sets wk (w.heap.size+3) 0 [.float .f64 r3,.float .f64 r4]=X:=⟨_,rfl⟩
  rw [hwn] at hHeld
  simp only [sets] at hwn
  rw [hwn];clear hwn;refine wpAnyH_done (by kernel_rfl) ?_ _;have LL:=Hd hHeld;clear hHeld;obtain⟨hk4_0,hk4_1⟩:=(LL.out.blk 4 rfl).c2;obtain⟨hk5_0,hk5_1⟩:=(LL.out.blk 5 rfl).c2;go_wp2;refine bodyPost_ret (v:=.tuple #[.agg #[.float .f64 r1,.float .f64 r2],.agg #[.float .f64 r3,.float .f64 r4]]) (by simp [results,Tryz.results38,go_sem,hk4_0,hk4_1,hk5_0,hk5_1]) rfl ?_
  exact⟨rfl,LL.out.b⟩
 ·rcases h3 with h3 | h3<;>subst h3<;>have o3:=O3.out<;>clear O3
  all_goals
   obtain⟨q1_0,q1_1⟩:=(LL.out.blk 1 rfl).c2;go_wp2_with fail;clear q1_0 q1_1 o3;refine regL LL (fun hHeld=>?_);clear LL;generalize World.drew _=wk at hHeld  ⊢;refine tkb 0 (fun _ h=>(h.blk 4 rfl).c2) ?_;refine tkb 1 (fun _ h=>(h.blk 5 rfl).c2) ?_;refine rdy 2 (fun KK hKK=>?_);have qz0:=(hHeld.blk 4 rfl).ce 0 rfl;have fz0:=(hHeld.blk 4 rfl).frozen 0;have qz1:=(hHeld.blk 4 rfl).ce 1 rfl;have fz1:=(hHeld.blk 4 rfl).frozen 1;go_simp;refine hKK.out _ _ (hHeld.same 4 rfl [.float .f64 r1,.float .f64 r2] rfl (by omega) (by simp<;>omega) (by simp<;>omega)) (fun _=>?_);clear hKK KK hHeld qz0 fz0 qz1 fz1;rename_i hHeld;(try simp only [Act.put,lay])
   replace hHeld:=(show Lies _ (sets wk (w.heap.size+2) 0 [.float .f64 r1,.float .f64 r2]) _ _ from hHeld)
   obtain⟨wk,hwn⟩:∃ X,sets wk (w.heap.size+2) 0 [.float .f64 r1,.float .f64 r2]=X:=⟨_,rfl⟩
   rw [hwn] at hHeld
   simp only [sets] at hwn
   rw [hwn];clear hwn;refine rdy 3 (fun KK hKK=>?_);have qz0:=(hHeld.blk 5 rfl).ce 0 rfl;have fz0:=(hHeld.blk 5 rfl).frozen 0;have qz1:=(hHeld.blk 5 rfl).ce 1 rfl;have fz1:=(hHeld.blk 5 rfl).frozen 1;go_simp;refine hKK.out _ _ (hHeld.same 5 rfl [.float .f64 r3,.float .f64 r4] rfl (by omega) (by simp<;>omega) (by simp<;>omega)) (fun _=>?_);clear hKK KK hHeld qz0 fz0 qz1 fz1;rename_i hHeld;(try simp only [Act.put,lay])
   replace hHeld:=(show Lies _ (sets wk (w.heap.size+3) 0 [.float .f64 r3,.float .f64 r4]) _ _ from hHeld)
   obtain⟨wk,hwn⟩:∃ X,sets wk (w.heap.size+3) 0 [.float .f64 r3,.float .f64 r4]=X:=⟨_,rfl⟩
   rw [hwn] at hHeld
   simp only [sets] at hwn
   rw [hwn];clear hwn;refine wpAnyH_done (by kernel_rfl) ?_ _;have LL:=Hd hHeld;clear hHeld;obtain⟨hk4_0,hk4_1⟩:=(LL.out.blk 4 rfl).c2;obtain⟨hk5_0,hk5_1⟩:=(LL.out.blk 5 rfl).c2;go_wp2;refine bodyPost_ret (v:=.tuple #[.agg #[.float .f64 r1,.float .f64 r2],.agg #[.float .f64 r3,.float .f64 r4]]) (by simp [results,Tryz.results38,go_sem,hk4_0,hk4_1,hk5_0,hk5_1]) rfl ?_
   exact⟨rfl,LL.out.b⟩
end
def Ne(i j:Int):Prop:=-(M:Int)<=i/\i<=j/\j<=M/\i<M/\-(M:Int)<j
theorem Ne.iv{i j:Int}(h:Ne i j):Iv i j:=.inl h
theorem Ne.neg{i j:Int}(h:Ne i j):Ne (-j) (-i):=by unfold Ne at *;omega
theorem ne_or{i j:Int}(h:Iv i j)(h2:¬ j<i):Ne i j:=by
 rcases h with h | ⟨rfl,rfl⟩
 ·exact h
 ·have hM:=M_val
  omega
section
open Go.RowKit
def NewBd(w:World)(K:Nat)(s:Int)(x:Rat)(N:Int)(op:Bool)(e:Ending)(w':World):Prop:=
 ∃ neg A n c B m d,e=.returned (.agg #[.int .i64 s,.bool neg,.slice A n c,.slice B m d,.int .i64 N,.bool op])/\RatV w' K neg (.slice A n c) (.slice B m d) x/\Below w.heap.size w w'
end
section
open Go.RowKit
end
end Go.Proofs.YthlmlmfebpjgdaaGreatDoor
