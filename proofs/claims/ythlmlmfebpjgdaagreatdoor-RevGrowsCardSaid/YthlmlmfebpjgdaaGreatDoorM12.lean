/-
Lemmas for the statement: DvdT VdpT Div2T DvtT.
-/
import Derived.Test.YthlmlmfebpjgdaaGreatDoorM10
import Derived.Test.YthlmlmfebpjgdaaGreatDoorM07
import Derived.Deep.DeepCutAuto
import Derived.Deep.CutBlock
set_option linter.unusedSimpArgs false
set_option linter.unusedVariables false
set_option maxHeartbeats 12800000
namespace Go.Proofs.YthlmlmfebpjgdaaGreatDoor
section
open Go.RowKit
attribute [local go_sem] run_store_float
set_option maxRecDepth 8000 in
theorem product_walk(x y p1 p2:Nat)(w:World)(h1:∀ W,Rt 119 #[.int .i64 (-1),.float .f64 x,.float .f64 y] (.float .f64 p1) W)(h2:∀ W,Rt 119 #[.int .i64 1,.float .f64 x,.float .f64 y] (.float .f64 p2) W):
  Calls Tryz.prog 78 (Zv x y) w fun e w'=>e=.returned (Zf p1 p2)/\Below w.heap.size w w':=by
 have H1:=Hd h1;have H2:=Hd h2;clear h1 h2;have LL:=li1 w (Zv 0 0) 78
 go_enter Tryz.func78,Tryz.ntmps78
 go_wp2_with fail;refine cx (H1.out _) fun wk hb=>?_;replace LL:=stL LL hb;clear hb;go_wp2_with fail;refine cx (H2.out _) fun wk hb=>?_;replace LL:=stL LL hb;clear hb;replace LL:=Hd (LL.out.loose0 rfl);obtain⟨ha4_0,hf4_0,ha4_1,hf4_1⟩:=(LL.out.has 0 rfl).sf2;have LF:=Hd (LL.out.wr [.float .f64 p1,.float .f64 p2]);obtain⟨hk4_0,hk4_1⟩:=(LF.out.blk 0 rfl).c2
 simp [sets] at hk4_0 hk4_1
 clear LL;go_wp2;refine bodyPost_ret (v:=Zf p1 p2) (by simp [results,Tryz.results78,go_sem,hk4_0,hk4_1]) rfl ?_
 exact⟨rfl,LF.out.b⟩
set_option maxRecDepth 8000 in
theorem dividend_none(B1 B2 C1 C2 x1 x2:Nat)(w:World)(h:FloatKind.f64.format.order B2 0=some .eq\/FloatKind.f64.format.order B2 0=some .lt):
  Rt 86 #[Zf B1 B2,Zf C1 C2,Zf x1 x2] (Zf 9218868437227405312 18442240474082181120) w:=by
 have HE:=Hd emptyf
 rcases h with h | h
 all_goals
  have LL:=li4 w (Zv B1 B2) 28 (Zv C1 C2) 28 (Zv x1 x2) 28 (Zv 0 0) 28
  go_enter Tryz.func86,Tryz.ntmps86
  obtain⟨q1_0,q1_1⟩:=(LL.out.blk 0 rfl).c2;go_wp2_with fail;refine cx (HE.out _) fun wk hb=>?_;replace LL:=stL LL hb;clear hb q1_0 q1_1 h;replace LL:=Hd (LL.out.loose3 rfl);obtain⟨ha6_0,hf6_0,ha6_1,hf6_1⟩:=(LL.out.has 0 rfl).sf2;have LF:=Hd (LL.out.wr [.float .f64 9218868437227405312,.float .f64 18442240474082181120]);obtain⟨hk6_0,hk6_1⟩:=(LF.out.blk 3 rfl).c2
  simp [sets] at hk6_0 hk6_1
  clear LL;go_wp2;refine bodyPost_ret (v:=Zf 9218868437227405312 18442240474082181120) (by simp [results,Tryz.results86,go_sem,hk6_0,hk6_1]) rfl ?_
  exact⟨rfl,LF.out.b⟩
set_option maxRecDepth 8000 in
theorem dividend_walk(B1 B2 C1 C2 x1 x2 F P1 P2 Q1 Q2 r1 r2:Nat)(oF o1 o2:Ordering)(hz:Bool)(w:World)(h1:FloatKind.f64.format.order B2 0=some .gt)(hm:∀ W ts t,(Builtin.max_ ts t (Zv B1 0)).run Tryz.prog W=.ok (.float .f64 F) W)
  (hf:FloatKind.f64.format.order F 0=some oF)(hc1:FloatKind.f64.format.order C1 0=some o1)(hc2:FloatKind.f64.format.order C2 0=some o2)
  (hp:(o1=.lt/\∀ W,Calls Tryz.prog 78 (Zv C1 B2) W fun e w'=>e=.returned (Zf P1 P2)/\Below W.heap.size W w')\/(o1=.gt/\oF=.gt/\∀ W,Calls Tryz.prog 78 (Zv C1 F) W fun e w'=>e=.returned (Zf P1 P2)/\Below W.heap.size W w')\/((o1=.eq\/o1=.gt/\oF=.eq)/\P1=0/\P2=0))
  (hq:(o2=.gt/\∀ W,Calls Tryz.prog 78 (Zv C2 B2) W fun e w'=>e=.returned (Zf Q1 Q2)/\Below W.heap.size W w')\/(o2=.lt/\oF=.gt/\∀ W,Calls Tryz.prog 78 (Zv C2 F) W fun e w'=>e=.returned (Zf Q1 Q2)/\Below W.heap.size W w')\/((o2=.eq\/o2=.lt/\oF=.eq)/\Q1=0/\Q2=0))
  (hh:∀ W,Rt 87 #[Zf C1 C2] (.bool hz) W)(hcut:∀ W,Rt 77 #[Zf x1 x2,Zf P1 P2,Zf Q1 Q2,.bool (!hz)] (Zf r1 r2) W):
  Rt 86 #[Zf B1 B2,Zf C1 C2,Zf x1 x2] (Zf r1 r2) w:=by
 have HZ:=Hd fun W=>at_any 0 W;have H1:=Hd h1;have HM:=Hd hm;have HF:=Hd hf;have HC1:=Hd hc1;have HC2:=Hd hc2;have HP:=Hd hp;have HQ:=Hd hq;have HH:=Hd hh;have HCUT:=Hd hcut;clear h1 hm hf hc1 hc2 hp hq hh hcut;have LL:=li4 w (Zv B1 B2) 28 (Zv C1 C2) 28 (Zv x1 x2) 28 (Zv 0 0) 28
 go_enter Tryz.func86,Tryz.ntmps86
 obtain⟨q1_0,q1_1⟩:=(LL.out.blk 0 rfl).c2;have h1:=H1.out
 go_upto_region 3 with fail
 clear h1 H1 q1_0 q1_1;have hm:=HM.out;refine regL LL (fun hHeld=>?_);clear LL;generalize World.drew _=wk at hHeld  ⊢;refine tks 0 ?_;refine tkb 1 (fun _ h=>(h.blk 0 rfl).c2) ?_;refine tks 3 ?_;refine tkb 4 (fun _ h=>(h.blk 0 rfl).c2) ?_;refine rdy 2 fun KK hKK=>?_;go_simp;refine hKK.out _ _ hHeld (fun _=>?_);clear hKK KK hHeld;rename_i hHeld;(try simp only [Act.put,lay]);refine tks 5 ?_;refine tks 6 ?_;refine wpAnyH_done (by kernel_rfl) ?_ _;have LL:=Hd hHeld;clear hHeld;clear hm HM;go_wp2_with fail;refine cx (HZ.out _) fun wk hb=>?_;replace LL:=stL LL hb;clear hb;go_wp2_with fail;refine cx (HZ.out _) fun wk hb=>?_;replace LL:=stL LL hb;clear hb
 go_upto_block 0 with fail
 have hl_j9:=LL.out.lts;generalize hwm:World.alloc wk _=wm;replace LL:=Hd (LL.out.newE hwm)
 have hz:wm.heap.size=wk.heap.size+1:=by rw [<- hwm];simp
 clear hwm;generalize hwn:World.alloc wm _=wn;replace LL:=Hd (LL.out.newE hwn);rw [hz] at LL
 simp only [List.cons_append,List.nil_append] at LL
 simp only [List.mem_cons,List.not_mem_nil,or_false,forall_eq_or_imp,forall_eq,false_imp_iff,implies_true,and_true] at hl_j9
 clear hwn hz;generalize wk.heap.size=j9 at LL hl_j9 ⊢
 go_cut [] (fun wx=>Lies w wx [(w.heap.size,28,(Zv B1 B2)),((w.heap.size+1),28,(Zv C1 C2)),((w.heap.size+2),28,(Zv x1 x2)),((w.heap.size+3),28,(Zv 0 0)),((j9+1),78,(Zv 0 0)),(j9,78,(Zv P1 P2))] [])
 case first=>
  rcases HP.out with ⟨e,k⟩ | ⟨e,e2,k⟩ | ⟨e | ⟨e,e2⟩,e3,e4⟩
  ·skip;subst e;have oc:=HC1.out;obtain⟨q2_0,q2_1⟩:=(LL.out.blk 1 rfl).c2;have K:=Hd k;clear k;go_wp2_with fail;refine cx (K.out _) fun wk hb=>?_;replace LL:=stL LL hb;clear hb q2_0 q2_1 oc K;obtain⟨q3_0,q3_1⟩:=(LL.out.blk 4 rfl).c2;have fz0:=(LL.out.blk 4 rfl).frozen 0;have fz1:=(LL.out.blk 4 rfl).frozen 1;go_wp2_with fail;clear q3_0 q3_1 fz0 fz1;replace LL:=Hd (LL.out.part 4 rfl 0 [.float .f64 P1,.float .f64 P2] (by omega) (by simp<;>omega) (by simp<;>omega))
   simp only [List.eraseIdx,laid,List.cons_append,List.nil_append,List.setIfInBounds_toArray,List.set_cons_zero,List.set_cons_succ,Nat.zero_add,Nat.reduceAdd] at LL
   obtain⟨wn,hwn⟩:∃ X,(sets wk j9 0 [.float .f64 P1,.float .f64 P2])=X:=⟨_,rfl⟩
   rw [hwn] at LL
   simp only [sets,Nat.reduceAdd] at hwn
   rw [hwn];clear hwn
   go_meet
   case rel=>exact LL.out.perm (by simp) (by simp)
  ·skip;subst e;subst e2;have oc:=HC1.out;have of:=HF.out;obtain⟨q2_0,q2_1⟩:=(LL.out.blk 1 rfl).c2;have K:=Hd k;clear k;go_wp2_with fail;refine cx (K.out _) fun wk hb=>?_;replace LL:=stL LL hb;clear hb q2_0 q2_1 oc K of;obtain⟨q3_0,q3_1⟩:=(LL.out.blk 4 rfl).c2;have fz0:=(LL.out.blk 4 rfl).frozen 0;have fz1:=(LL.out.blk 4 rfl).frozen 1;go_wp2_with fail;clear q3_0 q3_1 fz0 fz1;replace LL:=Hd (LL.out.part 4 rfl 0 [.float .f64 P1,.float .f64 P2] (by omega) (by simp<;>omega) (by simp<;>omega))
   simp only [List.eraseIdx,laid,List.cons_append,List.nil_append,List.setIfInBounds_toArray,List.set_cons_zero,List.set_cons_succ,Nat.zero_add,Nat.reduceAdd] at LL
   obtain⟨wn,hwn⟩:∃ X,(sets wk j9 0 [.float .f64 P1,.float .f64 P2])=X:=⟨_,rfl⟩
   rw [hwn] at LL
   simp only [sets,Nat.reduceAdd] at hwn
   rw [hwn];clear hwn
   go_meet
   case rel=>exact LL.out.perm (by simp) (by simp)
  ·skip;subst e;subst e3;subst e4;have oc:=HC1.out;obtain⟨q2_0,q2_1⟩:=(LL.out.blk 1 rfl).c2;go_wp2_with fail
   go_meet
   case rel=>exact LL.out.perm (by simp) (by simp)
  ·skip;subst e;subst e2;subst e3;subst e4;have oc:=HC1.out;have of:=HF.out;obtain⟨q2_0,q2_1⟩:=(LL.out.blk 1 rfl).c2;go_wp2_with fail
   go_meet
   case rel=>exact LL.out.perm (by simp) (by simp)
 case rest=>
 have hcl:=hcut;rename World=>wx;clear hcut LL HP HC1;have LL:=Hd hcl;clear hcl
 go_upto_block 1 with fail
 go_cut [] (fun wx=>Lies w wx [(w.heap.size,28,(Zv B1 B2)),((w.heap.size+1),28,(Zv C1 C2)),((w.heap.size+2),28,(Zv x1 x2)),((w.heap.size+3),28,(Zv 0 0)),(j9,78,(Zv P1 P2)),((j9+1),78,(Zv Q1 Q2))] [])
 case first=>
  rcases HQ.out with ⟨e,k⟩ | ⟨e,e2,k⟩ | ⟨e | ⟨e,e2⟩,e3,e4⟩
  ·skip;subst e;have oc:=HC2.out;obtain⟨q2_0,q2_1⟩:=(LL.out.blk 1 rfl).c2;have K:=Hd k;clear k;go_wp2_with fail;refine cx (K.out _) fun wk hb=>?_;replace LL:=stL LL hb;clear hb q2_0 q2_1 oc K;obtain⟨q3_0,q3_1⟩:=(LL.out.blk 4 rfl).c2;have fz0:=(LL.out.blk 4 rfl).frozen 0;have fz1:=(LL.out.blk 4 rfl).frozen 1;go_wp2_with fail;clear q3_0 q3_1 fz0 fz1;replace LL:=Hd (LL.out.part 4 rfl 0 [.float .f64 Q1,.float .f64 Q2] (by omega) (by simp<;>omega) (by simp<;>omega))
   simp only [List.eraseIdx,laid,List.cons_append,List.nil_append,List.setIfInBounds_toArray,List.set_cons_zero,List.set_cons_succ,Nat.zero_add,Nat.reduceAdd] at LL
   obtain⟨wn,hwn⟩:∃ X,(sets wk (j9+1) 0 [.float .f64 Q1,.float .f64 Q2])=X:=⟨_,rfl⟩
   rw [hwn] at LL
   simp only [sets,Nat.reduceAdd] at hwn
   rw [hwn];clear hwn
   go_meet
   case rel=>exact LL.out.perm (by simp) (by simp)
  ·skip;subst e;subst e2;have oc:=HC2.out;have of:=HF.out;obtain⟨q2_0,q2_1⟩:=(LL.out.blk 1 rfl).c2;have K:=Hd k;clear k;go_wp2_with fail;refine cx (K.out _) fun wk hb=>?_;replace LL:=stL LL hb;clear hb q2_0 q2_1 oc K of;obtain⟨q3_0,q3_1⟩:=(LL.out.blk 4 rfl).c2;have fz0:=(LL.out.blk 4 rfl).frozen 0;have fz1:=(LL.out.blk 4 rfl).frozen 1;go_wp2_with fail;clear q3_0 q3_1 fz0 fz1;replace LL:=Hd (LL.out.part 4 rfl 0 [.float .f64 Q1,.float .f64 Q2] (by omega) (by simp<;>omega) (by simp<;>omega))
   simp only [List.eraseIdx,laid,List.cons_append,List.nil_append,List.setIfInBounds_toArray,List.set_cons_zero,List.set_cons_succ,Nat.zero_add,Nat.reduceAdd] at LL
   obtain⟨wn,hwn⟩:∃ X,(sets wk (j9+1) 0 [.float .f64 Q1,.float .f64 Q2])=X:=⟨_,rfl⟩
   rw [hwn] at LL
   simp only [sets,Nat.reduceAdd] at hwn
   rw [hwn];clear hwn
   go_meet
   case rel=>exact LL.out.perm (by simp) (by simp)
  ·skip;subst e;subst e3;subst e4;have oc:=HC2.out;obtain⟨q2_0,q2_1⟩:=(LL.out.blk 1 rfl).c2;go_wp2_with fail
   go_meet
   case rel=>exact LL.out.perm (by simp) (by simp)
  ·skip;subst e;subst e2;subst e3;subst e4;have oc:=HC2.out;have of:=HF.out;obtain⟨q2_0,q2_1⟩:=(LL.out.blk 1 rfl).c2;go_wp2_with fail
   go_meet
   case rel=>exact LL.out.perm (by simp) (by simp)
 case rest=>
 have hcl:=hcut;rename World=>wx;clear hcut LL HQ HC2;have LL:=Hd hcl;clear hcl;clear HF;go_wp2_with fail;replace LL:=Hd (LL.out.loose3 rfl);refine regL LL (fun hHeld=>?_);clear LL;generalize World.drew _=wk at hHeld  ⊢;refine tkb 0 (fun _ h=>(h.blk 2 rfl).c2) ?_;refine tkb 1 (fun _ h=>(h.blk 3 rfl).c2) ?_;refine tkb 2 (fun _ h=>(h.blk 4 rfl).c2) ?_;refine tkb 3 (fun _ h=>(h.blk 1 rfl).c2) ?_;refine rdy 4 fun KK hKK=>?_;go_simp;refine cs (HH.out _) ?_;clear hKK KK hHeld;intro wk hb1 hHeld;clear hb1;refine tks 5 ?_;refine rdy 6 fun KK hKK=>?_;go_simp;refine cs (HCUT.out _) ?_;clear hKK KK hHeld;intro wk hb2 hHeld;clear hb2;refine rdy 7 fun KK hKK=>?_;obtain⟨ha0,hf0,ha1,hf1⟩:=(hHeld.has 0 rfl).sf2;go_simp;have HS_0:=(hHeld.has 0 rfl).laid [.float .f64 r1,.float .f64 r2] rfl;refine hKK.out _ _ (hHeld.over 0 rfl [.float .f64 r1,.float .f64 r2] rfl rfl (by first | omega | exact hHeld.le_of 0 rfl) (by simp<;>omega) (by simp<;>omega)) (fun _=>?_);clear hKK KK hHeld;rename_i hHeld;(try simp only [Act.put,lay]);refine wpAnyH_done (by kernel_rfl) ?_ _;have LB:=Hd hHeld.b;clear hHeld;obtain⟨hk6_0,hk6_1⟩:=HS_0.c2;clear HS_0
 simp [sets] at hk6_0 hk6_1
 go_wp2;refine bodyPost_ret (v:=Zf r1 r2) (by simp [results,Tryz.results86,go_sem,hk6_0,hk6_1]) rfl ?_
 exact⟨rfl,LB.out⟩
set_option maxRecDepth 8000 in
theorem divrev1_none(b1 b2 c1 c2 y1 y2 A1 A2 C1 C2 x1 x2:Nat)(d1 d2 d3:Bool)(w:World)(t1:∀ W,Rt 102 #[Zf b1 b2] (Zf A1 A2) W)(m1:Em d1 A1 A2)(t2:∀ W,Rt 102 #[Zf c1 c2] (Zf C1 C2) W)(m2:Em d2 C1 C2)(t3:∀ W,Rt 102 #[Zf y1 y2] (Zf x1 x2) W)(m3:Em d3 x1 x2)(hnn:(d1 || d2 || d3)=true):
  Rt 26 #[Zf b1 b2,Zf c1 c2,Zf y1 y2] (Zf 9218868437227405312 18442240474082181120) w:=by
 have HE:=Hd emptyf;have HRD:=readL43 w (Zv 0 0) 28 t1 m1 t2 m2 t3 m3 hnn;clear t1 m1 t2 m2 t3 m3 hnn
 go_enter Tryz.func26,Tryz.ntmps26
 go_wp2_with fail;refine HRD.out.mono ?_;rintro e wk ⟨rfl,hl⟩;have LL:=Hd hl;clear hl HRD;go_wp2_with fail;refine cx (HE.out _) fun wk hb=>?_;replace LL:=stL LL hb;clear hb;replace LL:=Hd (LL.out.loose3 rfl);obtain⟨ha6_0,hf6_0,ha6_1,hf6_1⟩:=(LL.out.has 0 rfl).sf2;have LF:=Hd (LL.out.wr [.float .f64 9218868437227405312,.float .f64 18442240474082181120]);obtain⟨hk6_0,hk6_1⟩:=(LF.out.blk 3 rfl).c2
 simp [sets] at hk6_0 hk6_1
 clear LL;go_wp2;refine bodyPost_ret (v:=Zf 9218868437227405312 18442240474082181120) (by simp [results,Tryz.results26,go_sem,hk6_0,hk6_1]) rfl ?_
 exact⟨rfl,LF.out.b⟩
set_option maxRecDepth 8000 in
theorem divrev1_some(b1 b2 c1 c2 y1 y2 A1 A2 C1 C2 x1 x2 a1 a2 z1 z2 p1 q1 p2 q2 p3 q3 p4 q4:Nat)(d1 d2 d3:Bool)(w:World)(t1:∀ W,Rt 102 #[Zf b1 b2] (Zf A1 A2) W)(m1:Em d1 A1 A2)(t2:∀ W,Rt 102 #[Zf c1 c2] (Zf C1 C2) W)(m2:Em d2 C1 C2)(t3:∀ W,Rt 102 #[Zf y1 y2] (Zf x1 x2) W)(m3:Em d3 x1 x2)(hnn:(d1 || d2 || d3)=false)
  (hd1:∀ W,Rt 86 #[Zf A1 A2,Zf C1 C2,Zf x1 x2] (Zf p1 q1) W)(hm1:∀ W,Rt 85 #[Zf A1 A2] (Zf a1 a2) W)(hm2:∀ W,Rt 85 #[Zf x1 x2] (Zf z1 z2) W)(hd2:∀ W,Rt 86 #[Zf a1 a2,Zf C1 C2,Zf z1 z2] (Zf p2 q2) W)(hm3:∀ W,Rt 85 #[Zf p2 q2] (Zf p3 q3) W)(hu:∀ W,Rt 63 #[Zf p1 q1,Zf p3 q3] (Zf p4 q4) W):
  Rt 26 #[Zf b1 b2,Zf c1 c2,Zf y1 y2] (Zf p4 q4) w:=by
 have HD1:=Hd hd1;have HM1:=Hd hm1;have HM2:=Hd hm2;have HD2:=Hd hd2;have HM3:=Hd hm3;have HU:=Hd hu;clear hd1 hm1 hm2 hd2 hm3 hu;have HRD:=readL43 w (Zv 0 0) 28 t1 m1 t2 m2 t3 m3 hnn;clear t1 m1 t2 m2 t3 m3 hnn
 go_enter Tryz.func26,Tryz.ntmps26
 go_wp2_with fail;refine HRD.out.mono ?_;rintro e wk ⟨rfl,hl⟩;have LL:=Hd hl;clear hl HRD;go_wp2_with fail;replace LL:=Hd (LL.out.loose3 rfl);refine regL LL (fun hHeld=>?_);clear LL;generalize World.drew _=wk at hHeld  ⊢;refine tkb 0 (fun _ h=>(h.blk 0 rfl).c2) ?_;refine tkb 1 (fun _ h=>(h.blk 1 rfl).c2) ?_;refine tkb 2 (fun _ h=>(h.blk 2 rfl).c2) ?_;refine tkb 4 (fun _ h=>(h.blk 0 rfl).c2) ?_;refine tkb 6 (fun _ h=>(h.blk 1 rfl).c2) ?_;refine tkb 7 (fun _ h=>(h.blk 2 rfl).c2) ?_;refine rdy 3 fun KK hKK=>?_;go_simp;refine cs (HD1.out _) ?_;clear hKK KK hHeld;intro wk hb1 hHeld;clear hb1;refine rdy 5 fun KK hKK=>?_;go_simp;refine cs (HM1.out _) ?_;clear hKK KK hHeld;intro wk hb2 hHeld;clear hb2;refine rdy 8 fun KK hKK=>?_;go_simp;refine cs (HM2.out _) ?_;clear hKK KK hHeld;intro wk hb3 hHeld;clear hb3;refine rdy 9 fun KK hKK=>?_;go_simp;refine cs (HD2.out _) ?_;clear hKK KK hHeld;intro wk hb4 hHeld;clear hb4;refine rdy 10 fun KK hKK=>?_;go_simp;refine cs (HM3.out _) ?_;clear hKK KK hHeld;intro wk hb5 hHeld;clear hb5;refine rdy 11 fun KK hKK=>?_;go_simp;refine cs (HU.out _) ?_;clear hKK KK hHeld;intro wk hb6 hHeld;clear hb6;refine rdy 12 fun KK hKK=>?_;obtain⟨ha0,hf0,ha1,hf1⟩:=(hHeld.has 0 rfl).sf2;go_simp;have HS_0:=(hHeld.has 0 rfl).laid [.float .f64 p4,.float .f64 q4] rfl;refine hKK.out _ _ (hHeld.over 0 rfl [.float .f64 p4,.float .f64 q4] rfl rfl (by first | omega | exact hHeld.le_of 0 rfl) (by simp<;>omega) (by simp<;>omega)) (fun _=>?_);clear hKK KK hHeld;rename_i hHeld
 (try simp only [Act.put,lay]);refine wpAnyH_done (by kernel_rfl) ?_ _;have LB:=Hd hHeld.b;clear hHeld;obtain⟨hk6_0,hk6_1⟩:=HS_0.c2;clear HS_0
 simp [sets] at hk6_0 hk6_1
 go_wp2;refine bodyPost_ret (v:=Zf p4 q4) (by simp [results,Tryz.results26,go_sem,hk6_0,hk6_1]) rfl ?_
 exact⟨rfl,LB.out⟩
end
section
open Go.RowKit
theorem mu_rng{d a b:Int}(hd:d=-1\/d=1):-(M:Int)<=mu d a b/\mu d a b<=M:=by
 have hM:=M_val;unfold mu;have h1:=rndI_down (fl a*fl b);have h2:=rndI_up (fl a*fl b)
 split
 ·split<;>omega
 ·rcases hd with rfl | rfl<;>omega
theorem product_any(a b:Int)(w:World)(ha:-(M:Int)<=a/\a<=M)(hb:-(M:Int)<=b/\b<=M)(na:a≠0)(nb:b≠0):
  Calls Tryz.prog 78 (Zv (pat a) (pat b)) w fun e w'=>e=.returned (Zf (pat (mu (-1) a b)) (pat (mu 1 a b)))/\Below w.heap.size w w':=
 product_walk _ _ _ _ w (fun W=>rmul_pat (-1) a b W (.inl rfl) ha hb na nb) (fun W=>rmul_pat 1 a b W (.inr rfl) ha hb na nb)
theorem dividend_any(i1 j1 i2 j2 i j:Int)(w:World)(h1:Ne i1 j1)(h2:Ne i2 j2)(hx:Ne i j):
  Rt 86 #[Zf (pat i1) (pat j1),Zf (pat i2) (pat j2),Zf (pat i) (pat j)] (Zf (pat (FV i1 j1 i2 j2 i j).1) (pat (FV i1 j1 i2 j2 i j).2)) w:=by
 have hM:=M_val;rw [<- dvd_FV h1 h2 hx];have r1:=h1.iv.lo;have r2:=h1.iv.hi;have r3:=h2.iv.lo;have r4:=h2.iv.hi;unfold dvd
 by_cases h:j1<=0
 ·rw [if_pos h,pat_max,pat_min];refine dividend_none _ _ _ _ _ _ w ?_
  by_cases h0:j1=0
  ·exact .inl (ord0_eq h0)
  ·exact .inr (ord0_lt r2 (by omega))
 ·rw [if_neg h];have hmx:=fun W ts t=>run_maxf r1 (show -(M:Int)<=0/\(0:Int)<=M by omega) W ts t;rw [pat_zero] at hmx
  have rF:-(M:Int)<=max i1 0/\max i1 0<=M:=by omega
  have gP:(-(M:Int)<=(pdP i1 j1 i2).1/\(pdP i1 j1 i2).1<=M)/\(-(M:Int)<=(pdP i1 j1 i2).2/\(pdP i1 j1 i2).2<=M):=by
   have a1:=mu_rng (d:=-1) (a:=i2) (b:=j1) (.inl rfl);have a2:=mu_rng (d:=1) (a:=i2) (b:=j1) (.inr rfl);have a3:=mu_rng (d:=-1) (a:=i2) (b:=i1) (.inl rfl);have a4:=mu_rng (d:=1) (a:=i2) (b:=i1) (.inr rfl);unfold pdP
   split
   ·exact⟨a1,a2⟩
   ·split
    ·exact⟨a3,a4⟩
    ·dsimp only;omega
  have gQ:(-(M:Int)<=(pdQ i1 j1 j2).1/\(pdQ i1 j1 j2).1<=M)/\(-(M:Int)<=(pdQ i1 j1 j2).2/\(pdQ i1 j1 j2).2<=M):=by
   have a1:=mu_rng (d:=-1) (a:=j2) (b:=j1) (.inl rfl);have a2:=mu_rng (d:=1) (a:=j2) (b:=j1) (.inr rfl);have a3:=mu_rng (d:=-1) (a:=j2) (b:=i1) (.inl rfl);have a4:=mu_rng (d:=1) (a:=j2) (b:=i1) (.inr rfl);unfold pdQ
   split
   ·exact⟨a1,a2⟩
   ·split
    ·exact⟨a3,a4⟩
    ·dsimp only;omega
  refine dividend_walk _ _ _ _ _ _ (pat (max i1 0)) (pat (pdP i1 j1 i2).1) (pat (pdP i1 j1 i2).2) (pat (pdQ i1 j1 j2).1) (pat (pdQ i1 j1 j2).2) _ _ (compare (max i1 0) 0) (compare i2 0) (compare j2 0) _ w (ord0_gt r2 (by omega)) hmx (ord0 rF) (ord0 r3) (ord0 r4) ?_ ?_ (fun W=>has_any i2 j2 W r3 r4) (fun W=>rcut2_any _ i j _ _ _ _ W hx.iv.lo hx.iv.hi gP.1 gP.2 gQ.1 gQ.2)
  ·by_cases a:i2<0
   ·have e:pdP i1 j1 i2=(mu (-1) i2 j1,mu 1 i2 j1):=if_pos a;rw [e]
    exact .inl ⟨Int.compare_eq_lt.2 a,fun W=>product_any i2 j1 W r3 r2 (by omega) (by omega)⟩
   ·by_cases c:0<i2/\0<i1
    ·have e:pdP i1 j1 i2=(mu (-1) i2 i1,mu 1 i2 i1):=by unfold pdP;rw [if_neg a,if_pos c]
     rw [e,show max i1 0=i1 from by omega]
     exact .inr (.inl ⟨Int.compare_eq_gt.2 c.1,Int.compare_eq_gt.2 c.2,fun W=>product_any i2 i1 W r3 r1 (by omega) (by omega)⟩)
    ·have e:pdP i1 j1 i2=(0,0):=by unfold pdP;rw [if_neg a,if_neg c]
     rw [e];refine .inr (.inr ⟨?_,pat_zero,pat_zero⟩)
     by_cases z:i2=0
     ·exact .inl (Int.compare_eq_eq.2 z)
     ·exact .inr ⟨Int.compare_eq_gt.2 (by omega),Int.compare_eq_eq.2 (by omega)⟩
  ·by_cases a:0<j2
   ·have e:pdQ i1 j1 j2=(mu (-1) j2 j1,mu 1 j2 j1):=if_pos a;rw [e]
    exact .inl ⟨Int.compare_eq_gt.2 a,fun W=>product_any j2 j1 W r4 r2 (by omega) (by omega)⟩
   ·by_cases c:j2<0/\0<i1
    ·have e:pdQ i1 j1 j2=(mu (-1) j2 i1,mu 1 j2 i1):=by unfold pdQ;rw [if_neg a,if_pos c]
     rw [e,show max i1 0=i1 from by omega]
     exact .inr (.inl ⟨Int.compare_eq_lt.2 c.1,Int.compare_eq_gt.2 c.2,fun W=>product_any j2 i1 W r4 r1 (by omega) (by omega)⟩)
    ·have e:pdQ i1 j1 j2=(0,0):=by unfold pdQ;rw [if_neg a,if_neg c]
     rw [e];refine .inr (.inr ⟨?_,pat_zero,pat_zero⟩)
     by_cases z:j2=0
     ·exact .inl (Int.compare_eq_eq.2 z)
     ·exact .inr ⟨Int.compare_eq_lt.2 (by omega),Int.compare_eq_eq.2 (by omega)⟩
def dr1(i1 j1 i2 j2 i j:Int):Int × Int:=
 if j1<i1\/j2<i2\/j<i then ((M:Int),-(M:Int))
 else (min (FV i1 j1 i2 j2 i j).1 (-(FV (-j1) (-i1) i2 j2 (-j) (-i)).2),max (FV i1 j1 i2 j2 i j).2 (-(FV (-j1) (-i1) i2 j2 (-j) (-i)).1))
theorem divrev1_any(b1 b2 c1 c2 x y:Nat)(w:World)(hb1:b1<18446744073709551616)(hb2:b2<18446744073709551616)(hc1:c1<18446744073709551616)(hc2:c2<18446744073709551616)(hx:x<18446744073709551616)(hy:y<18446744073709551616):
  Rt 26 #[Zf b1 b2,Zf c1 c2,Zf x y] (Zf (pat (dr1 (rd b1 b2).1 (rd b1 b2).2 (rd c1 c2).1 (rd c1 c2).2 (rd x y).1 (rd x y).2).1) (pat (dr1 (rd b1 b2).1 (rd b1 b2).2 (rd c1 c2).1 (rd c1 c2).2 (rd x y).1 (rd x y).2).2)) w:=by
 have hM:=M_val;have v1:=rd_iv b1 b2;have v2:=rd_iv c1 c2;have v3:=rd_iv x y;have t1:=fun W=>readf b1 b2 W hb1 hb2;have t2:=fun W=>readf c1 c2 W hc1 hc2;have t3:=fun W=>readf x y W hx hy
 obtain⟨⟨i1,j1⟩,r1⟩:∃ z,rd b1 b2=z:=⟨_,rfl⟩
 obtain⟨⟨i2,j2⟩,r2⟩:∃ z,rd c1 c2=z:=⟨_,rfl⟩
 obtain⟨⟨i3,j3⟩,r3⟩:∃ z,rd x y=z:=⟨_,rfl⟩
 rw [r1] at v1 t1;rw [r2] at v2 t2;rw [r3] at v3 t3;rw [r1,r2,r3]
 dsimp only at *
 have m1:=em_idx v1;have m2:=em_idx v2;have m3:=em_idx v3;unfold dr1
 by_cases hno:j1<i1\/j2<i2\/j3<i3
 ·rw [if_pos hno,pat_max,pat_min]
  exact divrev1_none _ _ _ _ _ _ _ _ _ _ _ _ _ _ _ w t1 m1 t2 m2 t3 m3 (by simp;omega)
 ·rw [if_neg hno]
  have hnn:(decide (j1<i1) || decide (j2<i2) || decide (j3<i3))=false:=by simp;omega
  have n1:=ne_or v1 (by omega);have n2:=ne_or v2 (by omega);have n3:=ne_or v3 (by omega);have f1:=FV_iv n1 v2 i3 j3 v3;have f2:=FV_iv n1.neg v2 (-j3) (-i3) v3.negg
  exact divrev1_some _ _ _ _ _ _ _ _ _ _ _ _ _ _ _ _ _ _ _ _ _ _ _ _ _ _ _ w t1 m1 t2 m2 t3 m3 hnn (fun W=>dividend_any i1 j1 i2 j2 i3 j3 W n1 n2 n3) (fun W=>mirror_idx i1 j1 W v1) (fun W=>mirror_idx i3 j3 W v3) (fun W=>dividend_any (-j1) (-i1) i2 j2 (-j3) (-i3) W n1.neg n2 n3.neg) (fun W=>mirror_idx _ _ W f2) (fun W=>hullf _ _ _ _ W f1 f2.negg)
end
section
open Go.RowKit
attribute [local go_sem] run_store_float
set_option maxRecDepth 8000 in
theorem divisor_none(A1 A2 C1 C2 x1 x2:Nat)(o1 o2:Ordering)(w:World)(h1:FloatKind.f64.format.order A2 0=some o1)(h2:FloatKind.f64.format.order C2 0=some o2)(hc:o1≠.gt\/o2≠.gt):
  Rt 89 #[Zf A1 A2,Zf C1 C2,Zf x1 x2] (Zf 9218868437227405312 18442240474082181120) w:=by
 have HE:=Hd emptyf
 have hc2:o1=.eq\/o1=.lt\/(o1=.gt/\(o2=.eq\/o2=.lt)):=by cases o1<;>cases o2<;>simp at hc ⊢
 have H1:=Hd h1;have H2:=Hd h2;clear h1 h2;have HC:=Hd hc2;clear hc hc2;have LL:=li4 w (Zv A1 A2) 28 (Zv C1 C2) 28 (Zv x1 x2) 28 (Zv 0 0) 28
 rcases HC.out with e | e | ⟨e,e2 | e2⟩<;>subst e<;>(try subst e2)<;>clear HC<;>have h1:=H1.out<;>have h2:=H2.out<;>clear H1 H2
 all_goals
  go_enter Tryz.func89,Tryz.ntmps89
  obtain⟨q1_0,q1_1⟩:=(LL.out.blk 0 rfl).c2;obtain⟨q2_0,q2_1⟩:=(LL.out.blk 1 rfl).c2;go_wp2_with fail;refine cx (HE.out _) fun wk hb=>?_;replace LL:=stL LL hb;clear hb q1_0 q1_1 q2_0 q2_1 h1 h2;replace LL:=Hd (LL.out.loose3 rfl);obtain⟨ha6_0,hf6_0,ha6_1,hf6_1⟩:=(LL.out.has 0 rfl).sf2;have LF:=Hd (LL.out.wr [.float .f64 9218868437227405312,.float .f64 18442240474082181120]);obtain⟨hk6_0,hk6_1⟩:=(LF.out.blk 3 rfl).c2
  simp [sets] at hk6_0 hk6_1
  clear LL;go_wp2;refine bodyPost_ret (v:=Zf 9218868437227405312 18442240474082181120) (by simp [results,Tryz.results89,go_sem,hk6_0,hk6_1]) rfl ?_
  exact⟨rfl,LF.out.b⟩
set_option maxRecDepth 8000 in
theorem divisor_pq(A1 A2 C1 C2 x1 x2 r1 r2:Nat)(p1 p2:Nat)(s1:Int)(y1:Rat)(q1 q2:Nat)(s2:Int)(y2:Rat)(w:World)(h1:FloatKind.f64.format.order A2 0=some .gt)(h2:FloatKind.f64.format.order C2 0=some .gt)(ha:FloatKind.f64.format.order A1 0=some .gt)(hcc:FloatKind.f64.format.order C1 0=some .gt)(hp:∀ W,Calls Tryz.prog 100 #[.float .f64 A1] W (NewExI W s1 y1))(ho:∀ W (g1:Bool) (B1:Option Addr) (n1 k1:Nat) (E1:Int),ExI W s1 g1 B1 n1 k1 E1 y1->Rt 157 #[.agg #[.int .i64 s1,.bool g1,.slice B1 n1 k1,.int .i64 E1],.float .f64 C2] (Zf p1 p2) W)(hp2:∀ W,Calls Tryz.prog 100 #[.float .f64 A2] W (NewExI W s2 y2))(ho2:∀ W (g2:Bool) (B2:Option Addr) (n2 k2:Nat) (E2:Int),ExI W s2 g2 B2 n2 k2 E2 y2->Rt 157 #[.agg #[.int .i64 s2,.bool g2,.slice B2 n2 k2,.int .i64 E2],.float .f64 C1] (Zf q1 q2) W)
  (hcut:∀ W,Rt 77 #[Zf x1 x2,Zf p1 p2,Zf q1 q2,.bool true] (Zf r1 r2) W):
  Rt 89 #[Zf A1 A2,Zf C1 C2,Zf x1 x2] (Zf r1 r2) w:=by
 have HZ:=Hd fun W=>at_any 0 W;have HI:=Hd fun W=>inf_pos W;have HT:=Hd fun W=>at_any 9218868437227405312 W;have H1:=Hd h1;have H2:=Hd h2;have HA:=Hd ha;have HCC:=Hd hcc;have HCUT:=Hd hcut;have HP:=Hd hp;have HO:=Hd ho;have HP2:=Hd hp2;have HO2:=Hd ho2;clear h1 h2 ha hcc hcut hp ho hp2 ho2;have LL:=li4 w (Zv A1 A2) 28 (Zv C1 C2) 28 (Zv x1 x2) 28 (Zv 0 0) 28;have ha:=HA.out;have hcc:=HCC.out;have h1:=H1.out;have h2:=H2.out;clear H1 H2 HA HCC
 go_enter Tryz.func89,Tryz.ntmps89
 obtain⟨q1_0,q1_1⟩:=(LL.out.blk 0 rfl).c2;obtain⟨q2_0,q2_1⟩:=(LL.out.blk 1 rfl).c2;go_wp2_with fail;refine cx (HZ.out _) fun wk hb=>?_;replace LL:=stL LL hb;clear hb q1_0 q1_1 q2_0 q2_1 h1 h2;go_wp2_with fail;refine (HI.out _).mono ?_;rintro e wk ⟨rfl,rfl⟩;go_wp2_with fail;refine cx (HT.out _) fun wk hb=>?_;replace LL:=stL LL hb;clear hb
 go_upto_region 4 with fail
 have hl_j7:=LL.out.lts;generalize hwm:World.alloc wk _=wm;replace LL:=Hd (LL.out.newE hwm)
 have hz:wm.heap.size=wk.heap.size+1:=by rw [<- hwm];simp
 clear hwm;generalize hwn:World.alloc wm _=wn;replace LL:=Hd (LL.out.newE hwn);rw [hz] at LL
 simp only [List.cons_append,List.nil_append] at LL
 simp only [List.mem_cons,List.not_mem_nil,or_false,forall_eq_or_imp,forall_eq,false_imp_iff,implies_true,and_true] at hl_j7
 clear hwn hz;generalize wk.heap.size=j7 at LL hl_j7 ⊢;obtain⟨q3_0,q3_1⟩:=(LL.out.blk 0 rfl).c2;go_wp2_with fail;clear q3_0 q3_1;replace LL:=Hd (LL.out.loose 4 rfl rfl)
 simp only [List.eraseIdx,List.size_toArray,List.length_cons,List.length_nil,Nat.zero_add,Nat.reduceAdd] at LL
 refine regL LL (fun hHeld=>?_);clear LL;generalize World.drew _=wk at hHeld  ⊢;refine tks 0 ?_;refine tkb 1 (fun _ h=>(h.blk 0 rfl).c2) ?_;refine tks 3 ?_;refine tkb 4 (fun _ h=>(h.blk 1 rfl).c2) ?_;refine rdy 2 fun KK hKK=>?_;go_simp;refine (HP.out _).mono ?_;rintro e wk ⟨g1,B1,n1,k1,E1,rfl,he1,hb1⟩;go_wp2_with fail;refine hKK.out _ _ (hHeld.keep hb1) (fun _=>?_);clear hKK KK hHeld;rename_i hHeld;(try simp only [Act.put,lay]);have HE1:=Hd he1;clear he1;clear hb1;refine rdy 5 fun KK hKK=>?_;go_simp;refine cs (HO.out _ _ _ _ _ _ HE1.out) ?_;clear hKK KK hHeld;intro wk hb2 hHeld;(try replace HE1:=Hd (HE1.out.below hb2));clear hb2;refine rdy 6 fun KK hKK=>?_;obtain⟨ha0,hf0,ha1,hf1⟩:=(hHeld.has 0 rfl).sf2;obtain⟨csx,hbx,-,hcx⟩:=hHeld.has 0 rfl;replace HE1:=Hd (HE1.out.setB hbx hcx 0 [.float .f64 p1,.float .f64 p2]);clear hbx hcx;go_simp;have HS_0:=(hHeld.has 0 rfl).laid [.float .f64 p1,.float .f64 p2] rfl;refine hKK.out _ _ (hHeld.over 0 rfl [.float .f64 p1,.float .f64 p2] rfl rfl (by first | omega | exact hHeld.le_of 0 rfl) (by simp<;>omega) (by simp<;>omega)) (fun _=>?_);clear hKK KK hHeld;rename_i hHeld;(try simp only [Act.put,lay])
 replace hHeld:=(show Lies _ (sets wk j7 0 [.float .f64 p1,.float .f64 p2]) _ _ from hHeld)
 obtain⟨wk,hwn⟩:∃ X,sets wk j7 0 [.float .f64 p1,.float .f64 p2]=X:=⟨_,rfl⟩
 rw [hwn] at hHeld HE1 HS_0
 simp only [sets] at hwn
 rw [hwn];clear hwn;refine wpAnyH_done (by kernel_rfl) ?_ _;have LL:=Hd (hHeld.tight HS_0)
 simp only [List.cons_append,List.nil_append] at LL
 clear hHeld HS_0;clear HE1 ha;obtain⟨q4_0,q4_1⟩:=(LL.out.blk 1 rfl).c2;go_wp2_with fail;clear q4_0 q4_1;replace LL:=Hd (LL.out.loose 4 rfl rfl)
 simp only [List.eraseIdx,List.size_toArray,List.length_cons,List.length_nil,Nat.zero_add,Nat.reduceAdd] at LL
 refine regL LL (fun hHeld=>?_);clear LL;generalize World.drew _=wk at hHeld  ⊢;refine tks 0 ?_;refine tkb 1 (fun _ h=>(h.blk 0 rfl).c2) ?_;refine tks 3 ?_;refine tkb 4 (fun _ h=>(h.blk 1 rfl).c2) ?_;refine rdy 2 fun KK hKK=>?_;go_simp;refine (HP2.out _).mono ?_;rintro e wk ⟨g2,B2,n2,k2,E2,rfl,he2,hb1⟩;go_wp2_with fail;refine hKK.out _ _ (hHeld.keep hb1) (fun _=>?_);clear hKK KK hHeld;rename_i hHeld;(try simp only [Act.put,lay]);have HE2:=Hd he2;clear he2;clear hb1;refine rdy 5 fun KK hKK=>?_;go_simp;refine cs (HO2.out _ _ _ _ _ _ HE2.out) ?_;clear hKK KK hHeld;intro wk hb2 hHeld;(try replace HE2:=Hd (HE2.out.below hb2));clear hb2;refine rdy 6 fun KK hKK=>?_;obtain⟨ha0,hf0,ha1,hf1⟩:=(hHeld.has 0 rfl).sf2;obtain⟨csx,hbx,-,hcx⟩:=hHeld.has 0 rfl;replace HE2:=Hd (HE2.out.setB hbx hcx 0 [.float .f64 q1,.float .f64 q2]);clear hbx hcx;go_simp;have HS_0:=(hHeld.has 0 rfl).laid [.float .f64 q1,.float .f64 q2] rfl;refine hKK.out _ _ (hHeld.over 0 rfl [.float .f64 q1,.float .f64 q2] rfl rfl (by first | omega | exact hHeld.le_of 0 rfl) (by simp<;>omega) (by simp<;>omega)) (fun _=>?_);clear hKK KK hHeld;rename_i hHeld;(try simp only [Act.put,lay])
 replace hHeld:=(show Lies _ (sets wk (j7+1) 0 [.float .f64 q1,.float .f64 q2]) _ _ from hHeld)
 obtain⟨wk,hwn⟩:∃ X,sets wk (j7+1) 0 [.float .f64 q1,.float .f64 q2]=X:=⟨_,rfl⟩
 rw [hwn] at hHeld HE2 HS_0
 simp only [sets] at hwn
 rw [hwn];clear hwn;refine wpAnyH_done (by kernel_rfl) ?_ _;have LL:=Hd (hHeld.tight HS_0)
 simp only [List.cons_append,List.nil_append] at LL
 clear hHeld HS_0;clear HE2 hcc;obtain⟨q5_0,q5_1⟩:=(LL.out.blk 2 rfl).c2;obtain⟨q6_0,q6_1⟩:=(LL.out.blk 4 rfl).c2;obtain⟨q7_0,q7_1⟩:=(LL.out.blk 5 rfl).c2;go_wp2_with fail;refine cx (HCUT.out _) fun wk hb=>?_;replace LL:=stL LL hb;clear hb q5_0 q5_1 q6_0 q6_1 q7_0 q7_1;replace LL:=Hd (LL.out.loose3 rfl);obtain⟨ha6_0,hf6_0,ha6_1,hf6_1⟩:=(LL.out.has 0 rfl).sf2;have LF:=Hd (LL.out.wr [.float .f64 r1,.float .f64 r2]);obtain⟨hk6_0,hk6_1⟩:=(LF.out.blk 5 rfl).c2
 simp [sets] at hk6_0 hk6_1
 clear LL;go_wp2;refine bodyPost_ret (v:=Zf r1 r2) (by simp [results,Tryz.results89,go_sem,hk6_0,hk6_1]) rfl ?_
 exact⟨rfl,LF.out.b⟩
set_option maxRecDepth 8000 in
theorem divisor_pi(A1 A2 C1 C2 x1 x2 r1 r2:Nat)(p1 p2:Nat)(s1:Int)(y1:Rat)(w:World)(h1:FloatKind.f64.format.order A2 0=some .gt)(h2:FloatKind.f64.format.order C2 0=some .gt)(ha:FloatKind.f64.format.order A1 0=some .gt)(hcc:FloatKind.f64.format.order C1 0=some .eq\/FloatKind.f64.format.order C1 0=some .lt)(hp:∀ W,Calls Tryz.prog 100 #[.float .f64 A1] W (NewExI W s1 y1))(ho:∀ W (g1:Bool) (B1:Option Addr) (n1 k1:Nat) (E1:Int),ExI W s1 g1 B1 n1 k1 E1 y1->Rt 157 #[.agg #[.int .i64 s1,.bool g1,.slice B1 n1 k1,.int .i64 E1],.float .f64 C2] (Zf p1 p2) W)
  (hcut:∀ W,Rt 77 #[Zf x1 x2,Zf p1 p2,Zf 9218868437227405312 9218868437227405312,.bool true] (Zf r1 r2) W):
  Rt 89 #[Zf A1 A2,Zf C1 C2,Zf x1 x2] (Zf r1 r2) w:=by
 have HZ:=Hd fun W=>at_any 0 W;have HI:=Hd fun W=>inf_pos W;have HT:=Hd fun W=>at_any 9218868437227405312 W;have H1:=Hd h1;have H2:=Hd h2;have HA:=Hd ha;have HCC:=Hd hcc;have HCUT:=Hd hcut;have HP:=Hd hp;have HO:=Hd ho;clear h1 h2 ha hcc hcut hp ho;have LL:=li4 w (Zv A1 A2) 28 (Zv C1 C2) 28 (Zv x1 x2) 28 (Zv 0 0) 28
 rcases HCC.out with hcc | hcc
 all_goals
  have ha:=HA.out;have h1:=H1.out;have h2:=H2.out;clear H1 H2 HA HCC
  go_enter Tryz.func89,Tryz.ntmps89
  obtain⟨q1_0,q1_1⟩:=(LL.out.blk 0 rfl).c2;obtain⟨q2_0,q2_1⟩:=(LL.out.blk 1 rfl).c2;go_wp2_with fail;refine cx (HZ.out _) fun wk hb=>?_;replace LL:=stL LL hb;clear hb q1_0 q1_1 q2_0 q2_1 h1 h2;go_wp2_with fail;refine (HI.out _).mono ?_;rintro e wk ⟨rfl,rfl⟩;go_wp2_with fail;refine cx (HT.out _) fun wk hb=>?_;replace LL:=stL LL hb;clear hb
  go_upto_region 4 with fail
  have hl_j7:=LL.out.lts;generalize hwm:World.alloc wk _=wm;replace LL:=Hd (LL.out.newE hwm)
  have hz:wm.heap.size=wk.heap.size+1:=by rw [<- hwm];simp
  clear hwm;generalize hwn:World.alloc wm _=wn;replace LL:=Hd (LL.out.newE hwn);rw [hz] at LL
  simp only [List.cons_append,List.nil_append] at LL
  simp only [List.mem_cons,List.not_mem_nil,or_false,forall_eq_or_imp,forall_eq,false_imp_iff,implies_true,and_true] at hl_j7
  clear hwn hz;generalize wk.heap.size=j7 at LL hl_j7 ⊢;obtain⟨q3_0,q3_1⟩:=(LL.out.blk 0 rfl).c2;go_wp2_with fail;clear q3_0 q3_1;replace LL:=Hd (LL.out.loose 4 rfl rfl)
  simp only [List.eraseIdx,List.size_toArray,List.length_cons,List.length_nil,Nat.zero_add,Nat.reduceAdd] at LL
  refine regL LL (fun hHeld=>?_);clear LL;generalize World.drew _=wk at hHeld  ⊢;refine tks 0 ?_;refine tkb 1 (fun _ h=>(h.blk 0 rfl).c2) ?_;refine tks 3 ?_;refine tkb 4 (fun _ h=>(h.blk 1 rfl).c2) ?_;refine rdy 2 fun KK hKK=>?_;go_simp;refine (HP.out _).mono ?_;rintro e wk ⟨g1,B1,n1,k1,E1,rfl,he1,hb1⟩;go_wp2_with fail;refine hKK.out _ _ (hHeld.keep hb1) (fun _=>?_);clear hKK KK hHeld;rename_i hHeld;(try simp only [Act.put,lay]);have HE1:=Hd he1;clear he1;clear hb1;refine rdy 5 fun KK hKK=>?_;go_simp;refine cs (HO.out _ _ _ _ _ _ HE1.out) ?_;clear hKK KK hHeld;intro wk hb2 hHeld;(try replace HE1:=Hd (HE1.out.below hb2));clear hb2;refine rdy 6 fun KK hKK=>?_;obtain⟨ha0,hf0,ha1,hf1⟩:=(hHeld.has 0 rfl).sf2;obtain⟨csx,hbx,-,hcx⟩:=hHeld.has 0 rfl;replace HE1:=Hd (HE1.out.setB hbx hcx 0 [.float .f64 p1,.float .f64 p2]);clear hbx hcx;go_simp;have HS_0:=(hHeld.has 0 rfl).laid [.float .f64 p1,.float .f64 p2] rfl;refine hKK.out _ _ (hHeld.over 0 rfl [.float .f64 p1,.float .f64 p2] rfl rfl (by first | omega | exact hHeld.le_of 0 rfl) (by simp<;>omega) (by simp<;>omega)) (fun _=>?_);clear hKK KK hHeld;rename_i hHeld;(try simp only [Act.put,lay])
  replace hHeld:=(show Lies _ (sets wk j7 0 [.float .f64 p1,.float .f64 p2]) _ _ from hHeld)
  obtain⟨wk,hwn⟩:∃ X,sets wk j7 0 [.float .f64 p1,.float .f64 p2]=X:=⟨_,rfl⟩
  rw [hwn] at hHeld HE1 HS_0
  simp only [sets] at hwn
  rw [hwn];clear hwn;refine wpAnyH_done (by kernel_rfl) ?_ _;have LL:=Hd (hHeld.tight HS_0)
  simp only [List.cons_append,List.nil_append] at LL
  clear hHeld HS_0;clear HE1 ha;obtain⟨q4_0,q4_1⟩:=(LL.out.blk 1 rfl).c2;obtain⟨q5_0,q5_1⟩:=(LL.out.blk 2 rfl).c2;obtain⟨q6_0,q6_1⟩:=(LL.out.blk 5 rfl).c2;obtain⟨q7_0,q7_1⟩:=(LL.out.blk 4 rfl).c2;go_wp2_with fail;refine cx (HCUT.out _) fun wk hb=>?_;replace LL:=stL LL hb;clear hb q4_0 q4_1 q5_0 q5_1 q6_0 q6_1 q7_0 q7_1 hcc;replace LL:=Hd (LL.out.loose3 rfl);obtain⟨ha6_0,hf6_0,ha6_1,hf6_1⟩:=(LL.out.has 0 rfl).sf2;have LF:=Hd (LL.out.wr [.float .f64 r1,.float .f64 r2]);obtain⟨hk6_0,hk6_1⟩:=(LF.out.blk 5 rfl).c2
  simp [sets] at hk6_0 hk6_1
  clear LL;go_wp2;refine bodyPost_ret (v:=Zf r1 r2) (by simp [results,Tryz.results89,go_sem,hk6_0,hk6_1]) rfl ?_
  exact⟨rfl,LF.out.b⟩
set_option maxRecDepth 8000 in
theorem divisor_zq(A1 A2 C1 C2 x1 x2 r1 r2:Nat)(q1 q2:Nat)(s2:Int)(y2:Rat)(w:World)(h1:FloatKind.f64.format.order A2 0=some .gt)(h2:FloatKind.f64.format.order C2 0=some .gt)(ha:FloatKind.f64.format.order A1 0=some .eq\/FloatKind.f64.format.order A1 0=some .lt)(hcc:FloatKind.f64.format.order C1 0=some .gt)(hp2:∀ W,Calls Tryz.prog 100 #[.float .f64 A2] W (NewExI W s2 y2))(ho2:∀ W (g2:Bool) (B2:Option Addr) (n2 k2:Nat) (E2:Int),ExI W s2 g2 B2 n2 k2 E2 y2->Rt 157 #[.agg #[.int .i64 s2,.bool g2,.slice B2 n2 k2,.int .i64 E2],.float .f64 C1] (Zf q1 q2) W)
  (hcut:∀ W,Rt 77 #[Zf x1 x2,Zf 0 0,Zf q1 q2,.bool true] (Zf r1 r2) W):
  Rt 89 #[Zf A1 A2,Zf C1 C2,Zf x1 x2] (Zf r1 r2) w:=by
 have HZ:=Hd fun W=>at_any 0 W;have HI:=Hd fun W=>inf_pos W;have HT:=Hd fun W=>at_any 9218868437227405312 W;have H1:=Hd h1;have H2:=Hd h2;have HA:=Hd ha;have HCC:=Hd hcc;have HCUT:=Hd hcut;have HP2:=Hd hp2;have HO2:=Hd ho2;clear h1 h2 ha hcc hcut hp2 ho2;have LL:=li4 w (Zv A1 A2) 28 (Zv C1 C2) 28 (Zv x1 x2) 28 (Zv 0 0) 28
 rcases HA.out with ha | ha
 all_goals
  have hcc:=HCC.out;have h1:=H1.out;have h2:=H2.out;clear H1 H2 HA HCC
  go_enter Tryz.func89,Tryz.ntmps89
  obtain⟨q1_0,q1_1⟩:=(LL.out.blk 0 rfl).c2;obtain⟨q2_0,q2_1⟩:=(LL.out.blk 1 rfl).c2;go_wp2_with fail;refine cx (HZ.out _) fun wk hb=>?_;replace LL:=stL LL hb;clear hb q1_0 q1_1 q2_0 q2_1 h1 h2;go_wp2_with fail;refine (HI.out _).mono ?_;rintro e wk ⟨rfl,rfl⟩;go_wp2_with fail;refine cx (HT.out _) fun wk hb=>?_;replace LL:=stL LL hb;clear hb
  go_upto_region 4 with fail
  have hl_j7:=LL.out.lts;generalize hwm:World.alloc wk _=wm;replace LL:=Hd (LL.out.newE hwm)
  have hz:wm.heap.size=wk.heap.size+1:=by rw [<- hwm];simp
  clear hwm;generalize hwn:World.alloc wm _=wn;replace LL:=Hd (LL.out.newE hwn);rw [hz] at LL
  simp only [List.cons_append,List.nil_append] at LL
  simp only [List.mem_cons,List.not_mem_nil,or_false,forall_eq_or_imp,forall_eq,false_imp_iff,implies_true,and_true] at hl_j7
  clear hwn hz;generalize wk.heap.size=j7 at LL hl_j7 ⊢;obtain⟨q3_0,q3_1⟩:=(LL.out.blk 0 rfl).c2;obtain⟨q4_0,q4_1⟩:=(LL.out.blk 1 rfl).c2;go_wp2_with fail;clear ha q3_0 q3_1 q4_0 q4_1;replace LL:=Hd (LL.out.loose 5 rfl rfl)
  simp only [List.eraseIdx,List.size_toArray,List.length_cons,List.length_nil,Nat.zero_add,Nat.reduceAdd] at LL
  refine regL LL (fun hHeld=>?_);clear LL;generalize World.drew _=wk at hHeld  ⊢;refine tks 0 ?_;refine tkb 1 (fun _ h=>(h.blk 0 rfl).c2) ?_;refine tks 3 ?_;refine tkb 4 (fun _ h=>(h.blk 1 rfl).c2) ?_;refine rdy 2 fun KK hKK=>?_;go_simp;refine (HP2.out _).mono ?_;rintro e wk ⟨g2,B2,n2,k2,E2,rfl,he2,hb1⟩;go_wp2_with fail;refine hKK.out _ _ (hHeld.keep hb1) (fun _=>?_);clear hKK KK hHeld;rename_i hHeld;(try simp only [Act.put,lay]);have HE2:=Hd he2;clear he2;clear hb1;refine rdy 5 fun KK hKK=>?_;go_simp;refine cs (HO2.out _ _ _ _ _ _ HE2.out) ?_;clear hKK KK hHeld;intro wk hb2 hHeld;(try replace HE2:=Hd (HE2.out.below hb2));clear hb2;refine rdy 6 fun KK hKK=>?_;obtain⟨ha0,hf0,ha1,hf1⟩:=(hHeld.has 0 rfl).sf2;obtain⟨csx,hbx,-,hcx⟩:=hHeld.has 0 rfl;replace HE2:=Hd (HE2.out.setB hbx hcx 0 [.float .f64 q1,.float .f64 q2]);clear hbx hcx;go_simp;have HS_0:=(hHeld.has 0 rfl).laid [.float .f64 q1,.float .f64 q2] rfl;refine hKK.out _ _ (hHeld.over 0 rfl [.float .f64 q1,.float .f64 q2] rfl rfl (by first | omega | exact hHeld.le_of 0 rfl) (by simp<;>omega) (by simp<;>omega)) (fun _=>?_);clear hKK KK hHeld;rename_i hHeld;(try simp only [Act.put,lay])
  replace hHeld:=(show Lies _ (sets wk (j7+1) 0 [.float .f64 q1,.float .f64 q2]) _ _ from hHeld)
  obtain⟨wk,hwn⟩:∃ X,sets wk (j7+1) 0 [.float .f64 q1,.float .f64 q2]=X:=⟨_,rfl⟩
  rw [hwn] at hHeld HE2 HS_0
  simp only [sets] at hwn
  rw [hwn];clear hwn;refine wpAnyH_done (by kernel_rfl) ?_ _;have LL:=Hd (hHeld.tight HS_0)
  simp only [List.cons_append,List.nil_append] at LL
  clear hHeld HS_0;clear HE2 hcc;obtain⟨q5_0,q5_1⟩:=(LL.out.blk 2 rfl).c2;obtain⟨q6_0,q6_1⟩:=(LL.out.blk 4 rfl).c2;obtain⟨q7_0,q7_1⟩:=(LL.out.blk 5 rfl).c2;go_wp2_with fail;refine cx (HCUT.out _) fun wk hb=>?_;replace LL:=stL LL hb;clear hb q5_0 q5_1 q6_0 q6_1 q7_0 q7_1;replace LL:=Hd (LL.out.loose3 rfl);obtain⟨ha6_0,hf6_0,ha6_1,hf6_1⟩:=(LL.out.has 0 rfl).sf2;have LF:=Hd (LL.out.wr [.float .f64 r1,.float .f64 r2]);obtain⟨hk6_0,hk6_1⟩:=(LF.out.blk 5 rfl).c2
  simp [sets] at hk6_0 hk6_1
  clear LL;go_wp2;refine bodyPost_ret (v:=Zf r1 r2) (by simp [results,Tryz.results89,go_sem,hk6_0,hk6_1]) rfl ?_
  exact⟨rfl,LF.out.b⟩
set_option maxRecDepth 8000 in
theorem divisor_zi(A1 A2 C1 C2 x1 x2 r1 r2:Nat)(w:World)(h1:FloatKind.f64.format.order A2 0=some .gt)(h2:FloatKind.f64.format.order C2 0=some .gt)(ha:FloatKind.f64.format.order A1 0=some .eq\/FloatKind.f64.format.order A1 0=some .lt)(hcc:FloatKind.f64.format.order C1 0=some .eq\/FloatKind.f64.format.order C1 0=some .lt)
  (hcut:∀ W,Rt 77 #[Zf x1 x2,Zf 0 0,Zf 9218868437227405312 9218868437227405312,.bool true] (Zf r1 r2) W):
  Rt 89 #[Zf A1 A2,Zf C1 C2,Zf x1 x2] (Zf r1 r2) w:=by
 have HZ:=Hd fun W=>at_any 0 W;have HI:=Hd fun W=>inf_pos W;have HT:=Hd fun W=>at_any 9218868437227405312 W;have H1:=Hd h1;have H2:=Hd h2;have HA:=Hd ha;have HCC:=Hd hcc;have HCUT:=Hd hcut;clear h1 h2 ha hcc hcut;have LL:=li4 w (Zv A1 A2) 28 (Zv C1 C2) 28 (Zv x1 x2) 28 (Zv 0 0) 28
 rcases HA.out with ha | ha<;>rcases HCC.out with hcc | hcc
 all_goals
  have h1:=H1.out;have h2:=H2.out;clear H1 H2 HA HCC
  go_enter Tryz.func89,Tryz.ntmps89
  obtain⟨q1_0,q1_1⟩:=(LL.out.blk 0 rfl).c2;obtain⟨q2_0,q2_1⟩:=(LL.out.blk 1 rfl).c2;go_wp2_with fail;refine cx (HZ.out _) fun wk hb=>?_;replace LL:=stL LL hb;clear hb q1_0 q1_1 q2_0 q2_1 h1 h2;go_wp2_with fail;refine (HI.out _).mono ?_;rintro e wk ⟨rfl,rfl⟩;go_wp2_with fail;refine cx (HT.out _) fun wk hb=>?_;replace LL:=stL LL hb;clear hb
  go_upto_region 4 with fail
  have hl_j7:=LL.out.lts;generalize hwm:World.alloc wk _=wm;replace LL:=Hd (LL.out.newE hwm)
  have hz:wm.heap.size=wk.heap.size+1:=by rw [<- hwm];simp
  clear hwm;generalize hwn:World.alloc wm _=wn;replace LL:=Hd (LL.out.newE hwn);rw [hz] at LL
  simp only [List.cons_append,List.nil_append] at LL
  simp only [List.mem_cons,List.not_mem_nil,or_false,forall_eq_or_imp,forall_eq,false_imp_iff,implies_true,and_true] at hl_j7
  clear hwn hz;generalize wk.heap.size=j7 at LL hl_j7 ⊢;obtain⟨q3_0,q3_1⟩:=(LL.out.blk 0 rfl).c2;obtain⟨q4_0,q4_1⟩:=(LL.out.blk 1 rfl).c2;obtain⟨q5_0,q5_1⟩:=(LL.out.blk 2 rfl).c2;obtain⟨q6_0,q6_1⟩:=(LL.out.blk 4 rfl).c2;obtain⟨q7_0,q7_1⟩:=(LL.out.blk 5 rfl).c2;go_wp2_with fail;refine cx (HCUT.out _) fun wk hb=>?_;replace LL:=stL LL hb;clear hb q3_0 q3_1 q4_0 q4_1 q5_0 q5_1 q6_0 q6_1 q7_0 q7_1 hcc ha;replace LL:=Hd (LL.out.loose3 rfl);obtain⟨ha6_0,hf6_0,ha6_1,hf6_1⟩:=(LL.out.has 0 rfl).sf2;have LF:=Hd (LL.out.wr [.float .f64 r1,.float .f64 r2]);obtain⟨hk6_0,hk6_1⟩:=(LF.out.blk 5 rfl).c2
  simp [sets] at hk6_0 hk6_1
  clear LL;go_wp2;refine bodyPost_ret (v:=Zf r1 r2) (by simp [results,Tryz.results89,go_sem,hk6_0,hk6_1]) rfl ?_
  exact⟨rfl,LF.out.b⟩
set_option maxRecDepth 8000 in
theorem divrev2_none(b1 b2 c1 c2 y1 y2 A1 A2 C1 C2 x1 x2:Nat)(d1 d2 d3:Bool)(w:World)(t1:∀ W,Rt 102 #[Zf b1 b2] (Zf A1 A2) W)(m1:Em d1 A1 A2)(t2:∀ W,Rt 102 #[Zf c1 c2] (Zf C1 C2) W)(m2:Em d2 C1 C2)(t3:∀ W,Rt 102 #[Zf y1 y2] (Zf x1 x2) W)(m3:Em d3 x1 x2)(hnn:(d1 || d2 || d3)=true):
  Rt 27 #[Zf b1 b2,Zf c1 c2,Zf y1 y2] (Zf 9218868437227405312 18442240474082181120) w:=by
 have HE:=Hd emptyf;have HRD:=readL43 w (Zv 0 0) 28 t1 m1 t2 m2 t3 m3 hnn;clear t1 m1 t2 m2 t3 m3 hnn
 go_enter Tryz.func27,Tryz.ntmps27
 go_wp2_with fail;refine HRD.out.mono ?_;rintro e wk ⟨rfl,hl⟩;have LL:=Hd hl;clear hl HRD;go_wp2_with fail;refine cx (HE.out _) fun wk hb=>?_;replace LL:=stL LL hb;clear hb;replace LL:=Hd (LL.out.loose3 rfl);obtain⟨ha6_0,hf6_0,ha6_1,hf6_1⟩:=(LL.out.has 0 rfl).sf2;have LF:=Hd (LL.out.wr [.float .f64 9218868437227405312,.float .f64 18442240474082181120]);obtain⟨hk6_0,hk6_1⟩:=(LF.out.blk 3 rfl).c2
 simp [sets] at hk6_0 hk6_1
 clear LL;go_wp2;refine bodyPost_ret (v:=Zf 9218868437227405312 18442240474082181120) (by simp [results,Tryz.results27,go_sem,hk6_0,hk6_1]) rfl ?_
 exact⟨rfl,LF.out.b⟩
set_option maxRecDepth 8000 in
theorem divrev2_zero(b1 b2 c1 c2 y1 y2 A1 A2 C1 C2 x1 x2 l1 l2 u1 u2 r1 r2:Nat)(d1 d2 d3:Bool)(w:World)(t1:∀ W,Rt 102 #[Zf b1 b2] (Zf A1 A2) W)(m1:Em d1 A1 A2)(t2:∀ W,Rt 102 #[Zf c1 c2] (Zf C1 C2) W)(m2:Em d2 C1 C2)(t3:∀ W,Rt 102 #[Zf y1 y2] (Zf x1 x2) W)(m3:Em d3 x1 x2)(hnn:(d1 || d2 || d3)=false)
  (hh1:∀ W,Rt 87 #[Zf A1 A2] (.bool true) W)(hh2:∀ W,Rt 87 #[Zf C1 C2] (.bool true) W)
  (hc1:∀ W,Rt 77 #[Zf x1 x2,Zf 18442240474082181120 18442240474082181120,Zf 0 0,.bool true] (Zf l1 l2) W)(hc2:∀ W,Rt 77 #[Zf x1 x2,Zf 0 0,Zf 9218868437227405312 9218868437227405312,.bool true] (Zf u1 u2) W)
  (hu:∀ W,Rt 63 #[Zf l1 l2,Zf u1 u2] (Zf r1 r2) W):
  Rt 27 #[Zf b1 b2,Zf c1 c2,Zf y1 y2] (Zf r1 r2) w:=by
 have HZ:=Hd fun W=>at_any 0 W;have HI:=Hd fun W=>inf_pos W;have HJ:=Hd fun W=>inf_neg W;have HT:=Hd fun W=>at_any 9218868437227405312 W;have HS:=Hd fun W=>at_any 18442240474082181120 W;have HH1:=Hd hh1;have HH2:=Hd hh2;have HC1:=Hd hc1;have HC2:=Hd hc2;have HU:=Hd hu;clear hh1 hh2 hc1 hc2 hu;have HRD:=readL43 w (Zv 0 0) 28 t1 m1 t2 m2 t3 m3 hnn;clear t1 m1 t2 m2 t3 m3 hnn
 go_enter Tryz.func27,Tryz.ntmps27
 go_wp2_with fail;refine HRD.out.mono ?_;rintro e wk ⟨rfl,hl⟩;have LL:=Hd hl;clear hl HRD;obtain⟨q1_0,q1_1⟩:=(LL.out.blk 0 rfl).c2;obtain⟨q2_0,q2_1⟩:=(LL.out.blk 1 rfl).c2;go_wp2_with fail;refine cx (HH1.out _) fun wk hb=>?_;replace LL:=stL LL hb;clear hb q1_0 q1_1 q2_0 q2_1;obtain⟨q3_0,q3_1⟩:=(LL.out.blk 0 rfl).c2;obtain⟨q4_0,q4_1⟩:=(LL.out.blk 1 rfl).c2;go_wp2_with fail;refine cx (HH2.out _) fun wk hb=>?_;replace LL:=stL LL hb;clear hb q3_0 q3_1 q4_0 q4_1
 go_upto_region 4 with fail
 go_cut [7] (fun s7 wx=>∃ (j7:Nat),s7=.pointer (some ⟨j7,0,none⟩)/\w.heap.size+3<j7/\Lies w wx [(w.heap.size,28,(Zv A1 A2)),((w.heap.size+1),28,(Zv C1 C2)),((w.heap.size+2),28,(Zv x1 x2)),((w.heap.size+3),28,(Zv 0 0)),(j7,28,(Zv l1 l2))] [])
 case first=>
  refine regL LL (fun hHeld=>?_);clear LL;generalize World.drew _=wk at hHeld  ⊢;refine tkb 0 (fun _ h=>(h.blk 2 rfl).c2) ?_
  repeat' first
   | (have hx:=hC1;clear hx;go_simp;refine (HJ.out _).mono ?_;rintro e wk ⟨rfl,rfl⟩;go_wp2_with fail;refine hC1.out _ _ (hHeld.keep (Below.refl _ _)) (fun _=>?_);clear hC1 KK hHeld;rename_i hHeld;(try simp only [Act.put,lay]);(try replace B_j7:=B_j7.keep (Below.refl _ _));have mk1:=True.intro)
   | (have hx:=hC2;clear hx;go_simp;refine (HS.out _).mono ?_;rintro e wk ⟨rfl,hb2⟩;go_wp2_with fail;refine hC2.out _ _ (hHeld.keep hb2) (fun _=>?_);clear hC2 KK hHeld;rename_i hHeld;(try simp only [Act.put,lay]);(try replace B_j7:=B_j7.keep hb2);clear hb2;have mk2:=True.intro)
   | (have hx:=hC3;clear hx;go_simp;refine (HZ.out _).mono ?_;rintro e wk ⟨rfl,hb3⟩;go_wp2_with fail;refine hC3.out _ _ (hHeld.keep hb3) (fun _=>?_);clear hC3 KK hHeld;rename_i hHeld;(try simp only [Act.put,lay]);(try replace B_j7:=B_j7.keep hb3);clear hb3;have mk3:=True.intro)
   | (have hx:=hC4;clear hx;go_simp;refine (HC1.out _).mono ?_;rintro e wk ⟨rfl,hb4⟩;go_wp2_with fail;refine hC4.out _ _ (hHeld.keep hb4) (fun _=>?_);clear hC4 KK hHeld;rename_i hHeld;(try simp only [Act.put,lay]);(try replace B_j7:=B_j7.keep hb4);clear hb4;have mk4:=True.intro)
   | (have hx:=hA5;clear hx;go_simp;have hl_j7:=hHeld.lts;refine hA5.out _ _ (hHeld.alloc _) (fun _=>?_);clear hA5 KK hHeld;rename_i hHeld;(try simp only [Act.put,lay]);generalize hwn:World.alloc wk _=wn at hHeld ⊢;have B_j7:=Blk.newE hwn;simp only [List.mem_cons,List.not_mem_nil,or_false,forall_eq_or_imp,forall_eq,false_imp_iff,implies_true,and_true] at hl_j7;clear hwn;generalize hg:wk.heap.size=j7 at B_j7 hl_j7 ⊢;clear hg;obtain⟨wk,rfl⟩:∃ X,X=wn:=⟨_,rfl⟩;have mk5:=True.intro)
   | (have hx:=hS6;clear hx;have qz0:=B_j7.ce 0 rfl;have fz0:=B_j7.frozen 0;have qz1:=B_j7.ce 1 rfl;have fz1:=B_j7.frozen 1;go_simp;have hsx:=hHeld.far [.float .f64 l1,.float .f64 l2] 0 (g:=j7) (by omega) (by simp<;>omega) (by simp<;>omega);generalize hwn:sets wk j7 0 _=wn at hsx;refine hS6.out _ _ (by have e:=hwn;simp only [sets,Nat.reduceAdd] at e;rw [e];exact hsx) (fun _=>?_);clear hS6 KK hHeld hsx;rename_i hHeld;(try simp only [Act.put,lay]);replace B_j7:=B_j7.setsE hwn;simp only [laid,lay,Nat.reduceAdd] at B_j7;simp only [sets,Nat.reduceAdd] at hwn;rw [hwn] at hHeld ⊢;clear hwn qz0 fz0 qz1 fz1;obtain⟨wk,rfl⟩:∃ X,X=wn:=⟨_,rfl⟩;have mk6:=True.intro)
   | (have hx:=mk1;have hx:=mk2;have hx:=mk3;have hx:=mk4;have hx:=mk5;have hx:=mk6;refine wpAnyH_done (by kernel_rfl) ?_ _;clear hx mk1 mk2 mk3 mk4 mk5 mk6;go_wp2_with fail;go_meet;exact⟨j7,rfl,by omega,hHeld.put B_j7⟩)
   | (have hx:=mk1;have hx:=mk2;have hx:=mk3;have hx:=mk4;have hx:=mk5;refine rdy 6 (fun KK hS6=>?_))
   | (have hx:=mk1;have hx:=mk2;have hx:=mk3;have hx:=mk5;refine rdy 4 (fun KK hC4=>?_))
   | (have hx:=mk1;have hx:=mk2;have hx:=mk3;have hx:=mk4;refine rdy 5 (fun KK hA5=>?_))
   | (have hx:=mk1;have hx:=mk2;have hx:=mk5;refine rdy 3 (fun KK hC3=>?_))
   | (have hx:=mk1;have hx:=mk2;have hx:=mk3;refine rd2 4 5 (fun KK hC4=>?_) (fun KK hA5=>?_))
   | (have hx:=mk1;have hx:=mk5;refine rdy 2 (fun KK hC2=>?_))
   | (have hx:=mk1;have hx:=mk2;refine rd2 3 5 (fun KK hC3=>?_) (fun KK hA5=>?_))
   | (have hx:=mk5;refine rdy 1 (fun KK hC1=>?_))
   | (have hx:=mk1;refine rd2 2 5 (fun KK hC2=>?_) (fun KK hA5=>?_))
   | (refine rd2 1 5 (fun KK hC1=>?_) (fun KK hA5=>?_))
 case rest=>
 obtain⟨j7,rfl,hgs,hcl⟩:=hcut;rename World=>wx;clear LL HH1 HH2 HC1;have LL:=Hd hcl;clear hcl;go_wp2_with fail;replace LL:=Hd (LL.out.loose3 rfl);refine regL LL (fun hHeld=>?_);clear LL;generalize World.drew _=wk at hHeld  ⊢;refine tkb 0 (fun _ h=>(h.blk 3 rfl).c2) ?_;refine tkb 1 (fun _ h=>(h.blk 2 rfl).c2) ?_;refine rdy 2 fun KK hKK=>?_;go_simp;refine cs (HZ.out _) ?_;clear hKK KK hHeld;intro wk hb1 hHeld;clear hb1;refine rdy 3 fun KK hKK=>?_;go_simp;refine (HI.out _).mono ?_;rintro e wk ⟨rfl,rfl⟩;go_wp2_with fail;refine hKK.out _ _ (hHeld.keep (Below.refl _ _)) (fun _=>?_);clear hKK KK hHeld;rename_i hHeld;(try simp only [Act.put,lay]);refine rdy 4 fun KK hKK=>?_;go_simp;refine cs (HT.out _) ?_;clear hKK KK hHeld;intro wk hb3 hHeld;clear hb3;refine rdy 5 fun KK hKK=>?_;go_simp;refine cs (HC2.out _) ?_;clear hKK KK hHeld;intro wk hb4 hHeld;clear hb4;refine rdy 6 fun KK hKK=>?_;go_simp;refine cs (HU.out _) ?_;clear hKK KK hHeld;intro wk hb5 hHeld;clear hb5;refine rdy 7 fun KK hKK=>?_;obtain⟨ha0,hf0,ha1,hf1⟩:=(hHeld.has 0 rfl).sf2;go_simp;have HS_0:=(hHeld.has 0 rfl).laid [.float .f64 r1,.float .f64 r2] rfl;refine hKK.out _ _ (hHeld.over 0 rfl [.float .f64 r1,.float .f64 r2] rfl rfl (by first | omega | exact hHeld.le_of 0 rfl) (by simp<;>omega) (by simp<;>omega)) (fun _=>?_);clear hKK KK hHeld;rename_i hHeld;(try simp only [Act.put,lay]);refine wpAnyH_done (by kernel_rfl) ?_ _;have LB:=Hd hHeld.b;clear hHeld;obtain⟨hk6_0,hk6_1⟩:=HS_0.c2;clear HS_0
 simp [sets] at hk6_0 hk6_1
 go_wp2;refine bodyPost_ret (v:=Zf r1 r2) (by simp [results,Tryz.results27,go_sem,hk6_0,hk6_1]) rfl ?_
 exact⟨rfl,LB.out⟩
set_option maxRecDepth 8000 in
theorem divrev2_some(b1 b2 c1 c2 y1 y2 A1 A2 C1 C2 x1 x2 a1 a2 m1 m2 z1 z2 p1 q1 p2 q2 p3 q3 p4 q4 p5 q5 p6 q6 p7 q7 p8 q8:Nat)(d1 d2 d3 e1 e2:Bool)(w:World)(t1:∀ W,Rt 102 #[Zf b1 b2] (Zf A1 A2) W)(t4:Em d1 A1 A2)(t2:∀ W,Rt 102 #[Zf c1 c2] (Zf C1 C2) W)(t5:Em d2 C1 C2)(t3:∀ W,Rt 102 #[Zf y1 y2] (Zf x1 x2) W)(t6:Em d3 x1 x2)(hnn:(d1 || d2 || d3)=false)
  (hh1:∀ W,Rt 87 #[Zf A1 A2] (.bool e1) W)(hh2:∀ W,Rt 87 #[Zf C1 C2] (.bool e2) W)(hz:e1=false\/e1=true/\e2=false)
  (hm1:∀ W,Rt 85 #[Zf A1 A2] (Zf a1 a2) W)(hm2:∀ W,Rt 85 #[Zf C1 C2] (Zf m1 m2) W)(hm3:∀ W,Rt 85 #[Zf x1 x2] (Zf z1 z2) W)(hd1:∀ W,Rt 89 #[Zf A1 A2,Zf C1 C2,Zf x1 x2] (Zf p1 q1) W)(hd2:∀ W,Rt 89 #[Zf a1 a2,Zf m1 m2,Zf x1 x2] (Zf p2 q2) W)(hd3:∀ W,Rt 89 #[Zf a1 a2,Zf C1 C2,Zf z1 z2] (Zf p3 q3) W)(hd4:∀ W,Rt 89 #[Zf A1 A2,Zf m1 m2,Zf z1 z2] (Zf p4 q4) W)
  (hu1:∀ W,Rt 63 #[Zf p1 q1,Zf p2 q2] (Zf p5 q5) W)(hu2:∀ W,Rt 63 #[Zf p3 q3,Zf p4 q4] (Zf p6 q6) W)(hm4:∀ W,Rt 85 #[Zf p6 q6] (Zf p7 q7) W)(hu3:∀ W,Rt 63 #[Zf p5 q5,Zf p7 q7] (Zf p8 q8) W):
  Rt 27 #[Zf b1 b2,Zf c1 c2,Zf y1 y2] (Zf p8 q8) w:=by
 have HH1:=Hd hh1;have HH2:=Hd hh2;have HZ:=Hd hz;have HM1:=Hd hm1;have HM2:=Hd hm2;have HM3:=Hd hm3;have HM4:=Hd hm4;have HD1:=Hd hd1;have HD2:=Hd hd2;have HD3:=Hd hd3;have HD4:=Hd hd4;have HU1:=Hd hu1;have HU2:=Hd hu2;have HU3:=Hd hu3;clear hh1 hh2 hz hm1 hm2 hm3 hm4 hd1 hd2 hd3 hd4 hu1 hu2 hu3;have HRD:=readL43 w (Zv 0 0) 28 t1 t4 t2 t5 t3 t6 hnn;clear t1 t4 t2 t5 t3 t6 hnn
 go_enter Tryz.func27,Tryz.ntmps27
 go_wp2_with fail;refine HRD.out.mono ?_;rintro e wk ⟨rfl,hl⟩;have LL:=Hd hl;clear hl HRD
 go_upto_region 3 with fail
 go_cut [19] (fun s19 wx=>s19=.bool false/\Lies w wx [(w.heap.size,28,(Zv A1 A2)),((w.heap.size+1),28,(Zv C1 C2)),((w.heap.size+2),28,(Zv x1 x2)),((w.heap.size+3),28,(Zv 0 0))] [])
 case first=>
  obtain⟨q1_0,q1_1⟩:=(LL.out.blk 0 rfl).c2;obtain⟨q2_0,q2_1⟩:=(LL.out.blk 1 rfl).c2;go_wp2_with fail;refine cx (HH1.out _) fun wk hb=>?_;replace LL:=stL LL hb;clear hb q1_0 q1_1 q2_0 q2_1
  rcases HZ.out with h | ⟨h,h2⟩<;>subst h
  ·go_wp2_with fail
   go_meet
   case rel=>exact⟨rfl,LL.out⟩
  ·subst h2;obtain⟨q3_0,q3_1⟩:=(LL.out.blk 1 rfl).c2;go_wp2_with fail;refine cx (HH2.out _) fun wk hb=>?_;replace LL:=stL LL hb;clear hb q3_0 q3_1;go_wp2_with fail
   go_meet
   case rel=>exact⟨rfl,LL.out⟩
 case rest=>
 obtain⟨rfl,hcl⟩:=hcut;rename World=>wx;clear LL HH1 HH2 HZ;have LL:=Hd hcl;clear hcl;obtain⟨q1_0,q1_1⟩:=(LL.out.blk 2 rfl).c2;go_wp2_with fail;refine cx (HM3.out _) fun wk hb=>?_;replace LL:=stL LL hb;clear hb q1_0 q1_1
 go_upto_region 7 with fail
 have hl_j8:=LL.out.lts;generalize hwn:World.alloc wk _=wn;replace LL:=Hd (LL.out.newE hwn)
 simp only [List.cons_append,List.nil_append] at LL
 simp only [List.mem_cons,List.not_mem_nil,or_false,forall_eq_or_imp,forall_eq,false_imp_iff,implies_true,and_true] at hl_j8
 clear hwn;generalize wk.heap.size=j8 at LL hl_j8 ⊢
 go_cut [9] (fun s9 wx=>∃ (j9:Nat),s9=.pointer (some ⟨j9,0,none⟩)/\(w.heap.size+3<j9/\j8<j9)/\Lies w wx [(w.heap.size,28,(Zv A1 A2)),((w.heap.size+1),28,(Zv C1 C2)),((w.heap.size+2),28,(Zv x1 x2)),((w.heap.size+3),28,(Zv 0 0)),(j8,28,(Zv z1 z2)),(j9,28,(Zv p5 q5))] [])
 case first=>
  refine regL LL (fun hHeld=>?_);clear LL;generalize World.drew _=wk at hHeld  ⊢;refine tkb 0 (fun _ h=>(h.blk 0 rfl).c2) ?_;refine tkb 1 (fun _ h=>(h.blk 1 rfl).c2) ?_;refine tkb 2 (fun _ h=>(h.blk 2 rfl).c2) ?_;refine tkb 4 (fun _ h=>(h.blk 0 rfl).c2) ?_;refine tkb 6 (fun _ h=>(h.blk 1 rfl).c2) ?_;refine tkb 8 (fun _ h=>(h.blk 2 rfl).c2) ?_
  repeat' first
   | (have hx:=hC3;clear hx;go_simp;refine (HD1.out _).mono ?_;rintro e wk ⟨rfl,hb0⟩;go_wp2_with fail;refine hC3.out _ _ (hHeld.keep hb0) (fun _=>?_);clear hC3 KK hHeld;rename_i hHeld;(try simp only [Act.put,lay]);(try replace B_j9:=B_j9.keep hb0);clear hb0;have mk3:=True.intro)
   | (have hx:=hC5;clear hx;go_simp;refine (HM1.out _).mono ?_;rintro e wk ⟨rfl,hb1⟩;go_wp2_with fail;refine hC5.out _ _ (hHeld.keep hb1) (fun _=>?_);clear hC5 KK hHeld;rename_i hHeld;(try simp only [Act.put,lay]);(try replace B_j9:=B_j9.keep hb1);clear hb1;have mk5:=True.intro)
   | (have hx:=hC7;clear hx;go_simp;refine (HM2.out _).mono ?_;rintro e wk ⟨rfl,hb2⟩;go_wp2_with fail;refine hC7.out _ _ (hHeld.keep hb2) (fun _=>?_);clear hC7 KK hHeld;rename_i hHeld;(try simp only [Act.put,lay]);(try replace B_j9:=B_j9.keep hb2);clear hb2;have mk7:=True.intro)
   | (have hx:=hC9;clear hx;go_simp;refine (HD2.out _).mono ?_;rintro e wk ⟨rfl,hb3⟩;go_wp2_with fail;refine hC9.out _ _ (hHeld.keep hb3) (fun _=>?_);clear hC9 KK hHeld;rename_i hHeld;(try simp only [Act.put,lay]);(try replace B_j9:=B_j9.keep hb3);clear hb3;have mk9:=True.intro)
   | (have hx:=hC10;clear hx;go_simp;refine (HU1.out _).mono ?_;rintro e wk ⟨rfl,hb4⟩;go_wp2_with fail;refine hC10.out _ _ (hHeld.keep hb4) (fun _=>?_);clear hC10 KK hHeld;rename_i hHeld;(try simp only [Act.put,lay]);(try replace B_j9:=B_j9.keep hb4);clear hb4;have mk10:=True.intro)
   | (have hx:=hA11;clear hx;go_simp;have hl_j9:=hHeld.lts;refine hA11.out _ _ (hHeld.alloc _) (fun _=>?_);clear hA11 KK hHeld;rename_i hHeld;(try simp only [Act.put,lay]);generalize hwn:World.alloc wk _=wn at hHeld ⊢;have B_j9:=Blk.newE hwn;simp only [List.mem_cons,List.not_mem_nil,or_false,forall_eq_or_imp,forall_eq,false_imp_iff,implies_true,and_true] at hl_j9;clear hwn;generalize hg:wk.heap.size=j9 at B_j9 hl_j9 ⊢;clear hg;obtain⟨wk,rfl⟩:∃ X,X=wn:=⟨_,rfl⟩;have mk11:=True.intro)
   | (have hx:=hS12;clear hx;have qz0:=B_j9.ce 0 rfl;have fz0:=B_j9.frozen 0;have qz1:=B_j9.ce 1 rfl;have fz1:=B_j9.frozen 1;go_simp;have hsx:=hHeld.far [.float .f64 p5,.float .f64 q5] 0 (g:=j9) (by omega) (by simp<;>omega) (by simp<;>omega);generalize hwn:sets wk j9 0 _=wn at hsx;refine hS12.out _ _ (by have e:=hwn;simp only [sets,Nat.reduceAdd] at e;rw [e];exact hsx) (fun _=>?_);clear hS12 KK hHeld hsx;rename_i hHeld;(try simp only [Act.put,lay]);replace B_j9:=B_j9.setsE hwn;simp only [laid,lay,Nat.reduceAdd] at B_j9;simp only [sets,Nat.reduceAdd] at hwn;rw [hwn] at hHeld ⊢;clear hwn qz0 fz0 qz1 fz1;obtain⟨wk,rfl⟩:∃ X,X=wn:=⟨_,rfl⟩;have mk12:=True.intro)
   | (have hx:=mk3;have hx:=mk5;have hx:=mk7;have hx:=mk9;have hx:=mk10;have hx:=mk11;have hx:=mk12;refine wpAnyH_done (by kernel_rfl) ?_ _;clear hx mk3 mk5 mk7 mk9 mk10 mk11 mk12;go_wp2_with fail;go_meet;exact⟨j9,rfl,⟨by omega,by omega⟩,hHeld.put B_j9⟩)
   | (have hx:=mk3;have hx:=mk5;have hx:=mk7;have hx:=mk9;have hx:=mk10;have hx:=mk11;refine rdy 12 (fun KK hS12=>?_))
   | (have hx:=mk3;have hx:=mk5;have hx:=mk7;have hx:=mk9;have hx:=mk11;refine rdy 10 (fun KK hC10=>?_))
   | (have hx:=mk3;have hx:=mk5;have hx:=mk7;have hx:=mk9;have hx:=mk10;refine rdy 11 (fun KK hA11=>?_))
   | (have hx:=mk3;have hx:=mk5;have hx:=mk7;have hx:=mk11;refine rdy 9 (fun KK hC9=>?_))
   | (have hx:=mk3;have hx:=mk5;have hx:=mk7;have hx:=mk9;refine rd2 10 11 (fun KK hC10=>?_) (fun KK hA11=>?_))
   | (have hx:=mk3;have hx:=mk5;have hx:=mk11;refine rdy 7 (fun KK hC7=>?_))
   | (have hx:=mk3;have hx:=mk5;have hx:=mk7;refine rd2 9 11 (fun KK hC9=>?_) (fun KK hA11=>?_))
   | (have hx:=mk3;have hx:=mk11;refine rdy 5 (fun KK hC5=>?_))
   | (have hx:=mk3;have hx:=mk5;refine rd2 7 11 (fun KK hC7=>?_) (fun KK hA11=>?_))
   | (have hx:=mk11;refine rdy 3 (fun KK hC3=>?_))
   | (have hx:=mk3;refine rd2 5 11 (fun KK hC5=>?_) (fun KK hA11=>?_))
   | (refine rd2 3 11 (fun KK hC3=>?_) (fun KK hA11=>?_))
 case rest=>
 obtain⟨j9,rfl,hgs_j9,hcl⟩:=hcut;rename World=>wx;clear LL HD1 HD2 HU1;have LL:=Hd hcl;clear hcl
 go_upto_region 8 with fail
 go_cut [10] (fun s10 wx=>∃ (j10:Nat),s10=.pointer (some ⟨j10,0,none⟩)/\(w.heap.size+3<j10/\j8<j10/\j9<j10)/\Lies w wx [(w.heap.size,28,(Zv A1 A2)),((w.heap.size+1),28,(Zv C1 C2)),((w.heap.size+2),28,(Zv x1 x2)),((w.heap.size+3),28,(Zv 0 0)),(j8,28,(Zv z1 z2)),(j9,28,(Zv p5 q5)),(j10,28,(Zv p6 q6))] [])
 case first=>
  refine regL LL (fun hHeld=>?_);clear LL;generalize World.drew _=wk at hHeld  ⊢;refine tkb 0 (fun _ h=>(h.blk 0 rfl).c2) ?_;refine tkb 2 (fun _ h=>(h.blk 1 rfl).c2) ?_;refine tkb 3 (fun _ h=>(h.blk 4 rfl).c2) ?_;refine tkb 5 (fun _ h=>(h.blk 0 rfl).c2) ?_;refine tkb 6 (fun _ h=>(h.blk 1 rfl).c2) ?_;refine tkb 8 (fun _ h=>(h.blk 4 rfl).c2) ?_
  repeat' first
   | (have hx:=hC1;clear hx;go_simp;refine (HM1.out _).mono ?_;rintro e wk ⟨rfl,hb0⟩;go_wp2_with fail;refine hC1.out _ _ (hHeld.keep hb0) (fun _=>?_);clear hC1 KK hHeld;rename_i hHeld;(try simp only [Act.put,lay]);(try replace B_j10:=B_j10.keep hb0);clear hb0;have mk1:=True.intro)
   | (have hx:=hC4;clear hx;go_simp;refine (HD3.out _).mono ?_;rintro e wk ⟨rfl,hb1⟩;go_wp2_with fail;refine hC4.out _ _ (hHeld.keep hb1) (fun _=>?_);clear hC4 KK hHeld;rename_i hHeld;(try simp only [Act.put,lay]);(try replace B_j10:=B_j10.keep hb1);clear hb1;have mk4:=True.intro)
   | (have hx:=hC7;clear hx;go_simp;refine (HM2.out _).mono ?_;rintro e wk ⟨rfl,hb2⟩;go_wp2_with fail;refine hC7.out _ _ (hHeld.keep hb2) (fun _=>?_);clear hC7 KK hHeld;rename_i hHeld;(try simp only [Act.put,lay]);(try replace B_j10:=B_j10.keep hb2);clear hb2;have mk7:=True.intro)
   | (have hx:=hC9;clear hx;go_simp;refine (HD4.out _).mono ?_;rintro e wk ⟨rfl,hb3⟩;go_wp2_with fail;refine hC9.out _ _ (hHeld.keep hb3) (fun _=>?_);clear hC9 KK hHeld;rename_i hHeld;(try simp only [Act.put,lay]);(try replace B_j10:=B_j10.keep hb3);clear hb3;have mk9:=True.intro)
   | (have hx:=hC10;clear hx;go_simp;refine (HU2.out _).mono ?_;rintro e wk ⟨rfl,hb4⟩;go_wp2_with fail;refine hC10.out _ _ (hHeld.keep hb4) (fun _=>?_);clear hC10 KK hHeld;rename_i hHeld;(try simp only [Act.put,lay]);(try replace B_j10:=B_j10.keep hb4);clear hb4;have mk10:=True.intro)
   | (have hx:=hA11;clear hx;go_simp;have hl_j10:=hHeld.lts;refine hA11.out _ _ (hHeld.alloc _) (fun _=>?_);clear hA11 KK hHeld;rename_i hHeld;(try simp only [Act.put,lay]);generalize hwn:World.alloc wk _=wn at hHeld ⊢;have B_j10:=Blk.newE hwn;simp only [List.mem_cons,List.not_mem_nil,or_false,forall_eq_or_imp,forall_eq,false_imp_iff,implies_true,and_true] at hl_j10;clear hwn;generalize hg:wk.heap.size=j10 at B_j10 hl_j10 ⊢;clear hg;obtain⟨wk,rfl⟩:∃ X,X=wn:=⟨_,rfl⟩;have mk11:=True.intro)
   | (have hx:=hS12;clear hx;have qz0:=B_j10.ce 0 rfl;have fz0:=B_j10.frozen 0;have qz1:=B_j10.ce 1 rfl;have fz1:=B_j10.frozen 1;go_simp;have hsx:=hHeld.far [.float .f64 p6,.float .f64 q6] 0 (g:=j10) (by omega) (by simp<;>omega) (by simp<;>omega);generalize hwn:sets wk j10 0 _=wn at hsx;refine hS12.out _ _ (by have e:=hwn;simp only [sets,Nat.reduceAdd] at e;rw [e];exact hsx) (fun _=>?_);clear hS12 KK hHeld hsx;rename_i hHeld;(try simp only [Act.put,lay]);replace B_j10:=B_j10.setsE hwn;simp only [laid,lay,Nat.reduceAdd] at B_j10;simp only [sets,Nat.reduceAdd] at hwn;rw [hwn] at hHeld ⊢;clear hwn qz0 fz0 qz1 fz1;obtain⟨wk,rfl⟩:∃ X,X=wn:=⟨_,rfl⟩;have mk12:=True.intro)
   | (have hx:=mk1;have hx:=mk4;have hx:=mk7;have hx:=mk9;have hx:=mk10;have hx:=mk11;have hx:=mk12;refine wpAnyH_done (by kernel_rfl) ?_ _;clear hx mk1 mk4 mk7 mk9 mk10 mk11 mk12;go_wp2_with fail;go_meet;exact⟨j10,rfl,⟨by omega,by omega,by omega⟩,hHeld.put B_j10⟩)
   | (have hx:=mk1;have hx:=mk4;have hx:=mk7;have hx:=mk9;have hx:=mk10;have hx:=mk11;refine rdy 12 (fun KK hS12=>?_))
   | (have hx:=mk1;have hx:=mk4;have hx:=mk7;have hx:=mk9;have hx:=mk11;refine rdy 10 (fun KK hC10=>?_))
   | (have hx:=mk1;have hx:=mk4;have hx:=mk7;have hx:=mk9;have hx:=mk10;refine rdy 11 (fun KK hA11=>?_))
   | (have hx:=mk1;have hx:=mk4;have hx:=mk7;have hx:=mk11;refine rdy 9 (fun KK hC9=>?_))
   | (have hx:=mk1;have hx:=mk4;have hx:=mk7;have hx:=mk9;refine rd2 10 11 (fun KK hC10=>?_) (fun KK hA11=>?_))
   | (have hx:=mk1;have hx:=mk4;have hx:=mk11;refine rdy 7 (fun KK hC7=>?_))
   | (have hx:=mk1;have hx:=mk4;have hx:=mk7;refine rd2 9 11 (fun KK hC9=>?_) (fun KK hA11=>?_))
   | (have hx:=mk1;have hx:=mk11;refine rdy 4 (fun KK hC4=>?_))
   | (have hx:=mk1;have hx:=mk4;refine rd2 7 11 (fun KK hC7=>?_) (fun KK hA11=>?_))
   | (have hx:=mk11;refine rdy 1 (fun KK hC1=>?_))
   | (have hx:=mk1;refine rd2 4 11 (fun KK hC4=>?_) (fun KK hA11=>?_))
   | (refine rd2 1 11 (fun KK hC1=>?_) (fun KK hA11=>?_))
 case rest=>
 obtain⟨j10,rfl,hgs_j10,hcl⟩:=hcut;rename World=>wx;clear LL HD3 HD4 HU2;have LL:=Hd hcl;clear hcl;go_wp2_with fail;replace LL:=Hd (LL.out.loose3 rfl);refine regL LL (fun hHeld=>?_);clear LL;generalize World.drew _=wk at hHeld  ⊢;refine tkb 0 (fun _ h=>(h.blk 4 rfl).c2) ?_;refine tkb 1 (fun _ h=>(h.blk 5 rfl).c2) ?_;refine rdy 2 fun KK hKK=>?_;go_simp;refine cs (HM4.out _) ?_;clear hKK KK hHeld;intro wk hb1 hHeld;clear hb1;refine rdy 3 fun KK hKK=>?_;go_simp;refine cs (HU3.out _) ?_;clear hKK KK hHeld;intro wk hb2 hHeld;clear hb2;refine rdy 4 fun KK hKK=>?_;obtain⟨ha0,hf0,ha1,hf1⟩:=(hHeld.has 0 rfl).sf2;go_simp;have HS_0:=(hHeld.has 0 rfl).laid [.float .f64 p8,.float .f64 q8] rfl;refine hKK.out _ _ (hHeld.over 0 rfl [.float .f64 p8,.float .f64 q8] rfl rfl (by first | omega | exact hHeld.le_of 0 rfl) (by simp<;>omega) (by simp<;>omega)) (fun _=>?_);clear hKK KK hHeld;rename_i hHeld;(try simp only [Act.put,lay]);refine wpAnyH_done (by kernel_rfl) ?_ _;have LB:=Hd hHeld.b;clear hHeld;obtain⟨hk6_0,hk6_1⟩:=HS_0.c2;clear HS_0
 simp [sets] at hk6_0 hk6_1
 go_wp2;refine bodyPost_ret (v:=Zf p8 q8) (by simp [results,Tryz.results27,go_sem,hk6_0,hk6_1]) rfl ?_
 exact⟨rfl,LB.out⟩
set_option maxRecDepth 8000 in
theorem reciprev_walk(c1 c2 x1 x2 r1 r2:Nat)(w:World)(h:∀ W,Rt 27 #[Zf 4607182418800017408 4607182418800017408,Zf c1 c2,Zf x1 x2] (Zf r1 r2) W):
  Rt 28 #[Zf c1 c2,Zf x1 x2] (Zf r1 r2) w:=by
 have H:=Hd h;clear h;have LL:=li3 w (Zv c1 c2) 28 (Zv x1 x2) 28 (Zv 0 0) 28
 go_enter Tryz.func28,Tryz.ntmps28
 obtain⟨q1_0,q1_1⟩:=(LL.out.blk 0 rfl).c2;obtain⟨q2_0,q2_1⟩:=(LL.out.blk 1 rfl).c2;go_wp2_with fail;refine cx (H.out _) fun wk hb=>?_;replace LL:=stL LL hb;clear hb q1_0 q1_1 q2_0 q2_1;replace LL:=Hd (LL.out.loose2 rfl);obtain⟨ha4_0,hf4_0,ha4_1,hf4_1⟩:=(LL.out.has 0 rfl).sf2;have LF:=Hd (LL.out.wr [.float .f64 r1,.float .f64 r2]);obtain⟨hk4_0,hk4_1⟩:=(LF.out.blk 2 rfl).c2
 simp [sets] at hk4_0 hk4_1
 clear LL;go_wp2;refine bodyPost_ret (v:=Zf r1 r2) (by simp [results,Tryz.results28,go_sem,hk4_0,hk4_1]) rfl ?_
 exact⟨rfl,LF.out.b⟩
end
section
open Go.RowKit
theorem es3(i:Int):es i=0\/es i=1\/es i=-1:=by unfold es;split<;>(try split)<;>omega
theorem up10:up 1 0=M:=by
 have hM:=M_val;unfold up;rw [if_neg (by omega)];omega
theorem dn10:dn 1 0=M:=by
 have hM:=M_val;unfold dn;rw [if_neg (by omega)];omega
theorem up_10:up (-1) 0=-(M:Int):=by
 have hM:=M_val;unfold up;rw [if_neg (by omega)];omega
theorem dn_10:dn (-1) 0=-(M:Int):=by
 have hM:=M_val;unfold dn;rw [if_neg (by omega)];omega
theorem up00:up 0 0=0:=rndI_zero (.inr rfl)
theorem dn00:dn 0 0=0:=rndI_zero (.inl rfl)
theorem zc1{i j:Int}(hx:Ne i j):ctO true i j (-(M:Int)) (-(M:Int)) 0 0=pf (-1) 0 true 0 0 true i j:=by
 have hM:=M_val
 have h:=ct_tail (op:=true) (sa:=-1) (xa:=0) (fa:=true) (sb:=0) (xb:=0) (fb:=true) hx (.inr rfl) (.inl rfl) (fun _=>.inl rfl) (fun _=>.inr ⟨rfl,rfl⟩)
  ⟨fun h=>by have h1:=h.2.1;rw [dn_10] at h1;omega,fun h=>by have h1:=h.1;omega⟩ ⟨fun _=>⟨rfl,rfl,rfl⟩,fun _=>⟨rfl,dn00,up00⟩⟩
 rw [dn_10,up_10,dn00,up00] at h
 exact h
theorem zc2{i j:Int}(hx:Ne i j):ctO true i j 0 0 M M=pf 0 0 true 1 0 true i j:=by
 have hM:=M_val
 have h:=ct_tail (op:=true) (sa:=0) (xa:=0) (fa:=true) (sb:=1) (xb:=0) (fb:=true) hx (.inl rfl) (.inr rfl) (fun _=>.inr ⟨rfl,rfl⟩) (fun _=>.inl rfl)
  ⟨fun _=>⟨rfl,rfl,rfl⟩,fun _=>⟨rfl,dn00,up00⟩⟩ ⟨fun h=>by have h1:=h.2.1;rw [dn10] at h1;omega,fun h=>by have h1:=h.1;omega⟩
 rw [dn10,up10,dn00,up00] at h
 exact h
theorem zc1_iv(i j:Int)(h:Iv i j):Iv (pf (-1) 0 true 0 0 true i j).1 (pf (-1) 0 true 0 0 true i j).2:=by
 have hM:=M_val
 exact pf_iv (.inr rfl) (.inl rfl) (by rw [dn_10,up00];omega) i j h
theorem zc2_iv(i j:Int)(h:Iv i j):Iv (pf 0 0 true 1 0 true i j).1 (pf 0 0 true 1 0 true i j).2:=by
 have hM:=M_val
 exact pf_iv (.inl rfl) (.inr rfl) (by rw [dn00,up10];omega) i j h
theorem divisor_any(i1 j1 i2 j2 i j:Int)(w:World)(h1:Ne i1 j1)(h2:Ne i2 j2)(hx:Ne i j):
  Rt 89 #[Zf (pat i1) (pat j1),Zf (pat i2) (pat j2),Zf (pat i) (pat j)] (Zf (pat (FD i1 j1 i2 j2 i j).1) (pat (FD i1 j1 i2 j2 i j).2)) w:=by
 have hM:=M_val;rw [<- dvs_FD h1 h2 hx];have r1:=h1.iv.lo;have r2:=h1.iv.hi;have r3:=h2.iv.lo;have r4:=h2.iv.hi;unfold dvs
 by_cases h:j1<=0\/j2<=0
 ·rw [if_pos h,pat_max,pat_min];refine divisor_none _ _ _ _ _ _ (compare j1 0) (compare j2 0) w (ord0 r2) (ord0 r4) ?_
  rcases h with h | h
  ·exact .inl fun e=>by have:=Int.compare_eq_gt.1 e;omega
  ·exact .inr fun e=>by have:=Int.compare_eq_gt.1 e;omega
 ·rw [if_neg h];have o1:FloatKind.f64.format.order (pat j1) 0=some .gt:=ord0_gt r2 (by omega);have o2:FloatKind.f64.format.order (pat j2) 0=some .gt:=ord0_gt r4 (by omega)
  have le:∀ k:Int,-(M:Int)<=k/\k<=M->¬ 0<k->FloatKind.f64.format.order (pat k) 0=some .eq\/FloatKind.f64.format.order (pat k) 0=some .lt:=fun k hk hn=>by
   by_cases h0:k=0
   ·exact .inl (ord0_eq h0)
   ·exact .inr (ord0_lt hk (by omega))
  have P1:=fun W=>point_gen i1 W r1;have P2:=fun W=>point_gen j1 W r2;have V1:=fun W g B n k E he=>over_any (es i1) g B n k E (ex i1) j2 W he (by omega) r4.2;have V2:=fun (q:0<i2) W g B n k E he=>over_any (es j1) g B n k E (ex j1) i2 W he q r3.2;have g1:=ov_rng (x:=ex i1) (j:=j2) (es3 i1);have g2:=ov_rng (x:=ex j1) (j:=i2) (es3 j1)
  have z0:-(M:Int)<=0/\(0:Int)<=M:=by omega
  have zM:-(M:Int)<=M/\(M:Int)<=M:=by omega
  have hc:=fun (pd pu qd qu:Int) k1 k2 k3 k4 W=>rcut2_any true i j pd pu qd qu W hx.iv.lo hx.iv.hi k1 k2 k3 k4
  by_cases p:0<i1
  ·rw [if_pos p]
   by_cases q:0<i2
   ·rw [if_pos q]
    exact divisor_pq _ _ _ _ _ _ _ _ _ _ _ _ _ _ _ _ w o1 o2 (ord0_gt r1 p) (ord0_gt r3 q) P1 V1 P2 (V2 q) (hc _ _ _ _ g1.1 g1.2 g2.1 g2.2)
   ·rw [if_neg q];have hc:=hc _ _ _ _ g1.1 g1.2 zM zM;rw [pat_max] at hc
    exact divisor_pi _ _ _ _ _ _ _ _ _ _ _ _ w o1 o2 (ord0_gt r1 p) (le i2 r3 q) P1 V1 hc
  ·rw [if_neg p]
   by_cases q:0<i2
   ·rw [if_pos q];have hc:=hc _ _ _ _ z0 z0 g2.1 g2.2;rw [pat_zero] at hc
    exact divisor_zq _ _ _ _ _ _ _ _ _ _ _ _ w o1 o2 (le i1 r1 p) (ord0_gt r3 q) P2 (V2 q) hc
   ·rw [if_neg q];have hc:=hc _ _ _ _ z0 z0 zM zM;rw [pat_zero,pat_max] at hc
    exact divisor_zi _ _ _ _ _ _ _ _ w o1 o2 (le i1 r1 p) (le i2 r3 q) hc
def dr2(i1 j1 i2 j2 i j:Int):Int × Int:=
 if j1<i1\/j2<i2\/j<i then ((M:Int),-(M:Int))
 else if (i1<=0/\0<=j1)/\(i2<=0/\0<=j2) then (min (pf (-1) 0 true 0 0 true i j).1 (pf 0 0 true 1 0 true i j).1,max (pf (-1) 0 true 0 0 true i j).2 (pf 0 0 true 1 0 true i j).2)
 else (min (min (FD i1 j1 i2 j2 i j).1 (FD (-j1) (-i1) (-j2) (-i2) i j).1) (-(max (FD (-j1) (-i1) i2 j2 (-j) (-i)).2 (FD i1 j1 (-j2) (-i2) (-j) (-i)).2)),
  max (max (FD i1 j1 i2 j2 i j).2 (FD (-j1) (-i1) (-j2) (-i2) i j).2) (-(min (FD (-j1) (-i1) i2 j2 (-j) (-i)).1 (FD i1 j1 (-j2) (-i2) (-j) (-i)).1)))
theorem hull_iv{i j i' j':Int}(h:Iv i j)(h':Iv i' j'):Iv (min i i') (max j j'):=by
 have hM:=M_val;unfold Iv at *
 omega
theorem divrev2_any(b1 b2 c1 c2 x y:Nat)(w:World)(hb1:b1<18446744073709551616)(hb2:b2<18446744073709551616)(hc1:c1<18446744073709551616)(hc2:c2<18446744073709551616)(hx:x<18446744073709551616)(hy:y<18446744073709551616):
  Rt 27 #[Zf b1 b2,Zf c1 c2,Zf x y] (Zf (pat (dr2 (rd b1 b2).1 (rd b1 b2).2 (rd c1 c2).1 (rd c1 c2).2 (rd x y).1 (rd x y).2).1) (pat (dr2 (rd b1 b2).1 (rd b1 b2).2 (rd c1 c2).1 (rd c1 c2).2 (rd x y).1 (rd x y).2).2)) w:=by
 have hM:=M_val;have v1:=rd_iv b1 b2;have v2:=rd_iv c1 c2;have v3:=rd_iv x y;have t1:=fun W=>readf b1 b2 W hb1 hb2;have t2:=fun W=>readf c1 c2 W hc1 hc2;have t3:=fun W=>readf x y W hx hy
 obtain⟨⟨i1,j1⟩,r1⟩:∃ z,rd b1 b2=z:=⟨_,rfl⟩
 obtain⟨⟨i2,j2⟩,r2⟩:∃ z,rd c1 c2=z:=⟨_,rfl⟩
 obtain⟨⟨i3,j3⟩,r3⟩:∃ z,rd x y=z:=⟨_,rfl⟩
 rw [r1] at v1 t1;rw [r2] at v2 t2;rw [r3] at v3 t3;rw [r1,r2,r3]
 dsimp only at *
 have m1:=em_idx v1;have m2:=em_idx v2;have m3:=em_idx v3;unfold dr2
 by_cases hno:j1<i1\/j2<i2\/j3<i3
 ·rw [if_pos hno,pat_max,pat_min]
  exact divrev2_none _ _ _ _ _ _ _ _ _ _ _ _ _ _ _ w t1 m1 t2 m2 t3 m3 (by simp;omega)
 ·rw [if_neg hno]
  have hnn:(decide (j1<i1) || decide (j2<i2) || decide (j3<i3))=false:=by simp;omega
  have n1:=ne_or v1 (by omega);have n2:=ne_or v2 (by omega);have n3:=ne_or v3 (by omega);have H1:=fun W=>has_any i1 j1 W v1.lo v1.hi;have H2:=fun W=>has_any i2 j2 W v2.lo v2.hi
  by_cases hz:(i1<=0/\0<=j1)/\(i2<=0/\0<=j2)
  ·rw [if_pos hz];rw [decide_eq_true hz.1] at H1;rw [decide_eq_true hz.2] at H2
   have z0:-(M:Int)<=0/\(0:Int)<=M:=by omega
   have zM:-(M:Int)<=M/\(M:Int)<=M:=by omega
   have zN:-(M:Int)<=-(M:Int)/\-(M:Int)<=M:=by omega
   have C1:=fun W=>rcut2_any true i3 j3 (-(M:Int)) (-(M:Int)) 0 0 W v3.lo v3.hi zN zN z0 z0;have C2:=fun W=>rcut2_any true i3 j3 0 0 M M W v3.lo v3.hi z0 z0 zM zM;rw [zc1 n3,pat_min,pat_zero] at C1;rw [zc2 n3,pat_max,pat_zero] at C2
   exact divrev2_zero _ _ _ _ _ _ _ _ _ _ _ _ _ _ _ _ _ _ _ _ _ w t1 m1 t2 m2 t3 m3 hnn H1 H2 C1 C2 (fun W=>hullf _ _ _ _ W (zc1_iv _ _ v3) (zc2_iv _ _ v3))
  ·rw [if_neg hz];have n1':=n1;have n2':=n2;unfold Ne at n1' n2';have f1:=FD_iv n1'.2.1 n2'.2.1 i3 j3 v3;have f2:=FD_iv (show -j1<=-i1 by omega) (show -j2<=-i2 by omega) i3 j3 v3;have f3:=FD_iv (show -j1<=-i1 by omega) n2'.2.1 (-j3) (-i3) v3.negg;have f4:=FD_iv n1'.2.1 (show -j2<=-i2 by omega) (-j3) (-i3) v3.negg
   refine divrev2_some _ _ _ _ _ _ _ _ _ _ _ _ _ _ _ _ _ _ _ _ _ _ _ _ _ _ _ _ _ _ _ _ _ _ _ _ _ _ _ w t1 m1 t2 m2 t3 m3 hnn H1 H2 ?_ (fun W=>mirror_idx i1 j1 W v1) (fun W=>mirror_idx i2 j2 W v2) (fun W=>mirror_idx i3 j3 W v3) (fun W=>divisor_any i1 j1 i2 j2 i3 j3 W n1 n2 n3) (fun W=>divisor_any (-j1) (-i1) (-j2) (-i2) i3 j3 W n1.neg n2.neg n3) (fun W=>divisor_any (-j1) (-i1) i2 j2 (-j3) (-i3) W n1.neg n2 n3.neg) (fun W=>divisor_any i1 j1 (-j2) (-i2) (-j3) (-i3) W n1 n2.neg n3.neg)
    (fun W=>hullf _ _ _ _ W f1 f2) (fun W=>hullf _ _ _ _ W f3 f4) (fun W=>mirror_idx _ _ W (hull_iv f3 f4)) (fun W=>hullf _ _ _ _ W (hull_iv f1 f2) (hull_iv f3 f4).negg)
   by_cases ha:i1<=0/\0<=j1
   ·exact .inr ⟨decide_eq_true ha,decide_eq_false fun h=>hz ⟨ha,h⟩⟩
   ·exact .inl (decide_eq_false ha)
def K1:Int:=4607182418800017408
theorem pat_K1:pat K1=4607182418800017408:=by decide
theorem K1_iv:Iv K1 K1:=by
 have hM:=M_val;unfold K1;exact .inl (by omega)
theorem rd_K1:rd 4607182418800017408 4607182418800017408=(K1,K1):=by
 have h:=rd_pat K1_iv;rw [pat_K1] at h
 exact h
theorem reciprev_any(c1 c2 x y:Nat)(w:World)(hc1:c1<18446744073709551616)(hc2:c2<18446744073709551616)(hx:x<18446744073709551616)(hy:y<18446744073709551616):
  Rt 28 #[Zf c1 c2,Zf x y] (Zf (pat (dr2 K1 K1 (rd c1 c2).1 (rd c1 c2).2 (rd x y).1 (rd x y).2).1) (pat (dr2 K1 K1 (rd c1 c2).1 (rd c1 c2).2 (rd x y).1 (rd x y).2).2)) w:=by
 refine reciprev_walk c1 c2 x y _ _ w fun W=>?_;have h:=divrev2_any 4607182418800017408 4607182418800017408 c1 c2 x y W (by omega) (by omega) hc1 hc2 hx hy;rw [rd_K1] at h
 exact h
end
end Go.Proofs.YthlmlmfebpjgdaaGreatDoor
