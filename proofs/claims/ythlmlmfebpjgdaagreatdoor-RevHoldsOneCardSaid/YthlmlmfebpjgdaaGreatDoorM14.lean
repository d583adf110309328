/-
Lemmas for the statement: Div2T DvP DvtT RmT Hd3P ClP ClQ PnP PrT FmP RfmaT FmT WthT FadP Hd2P ClO FplT AbT.
-/
import Derived.Test.YthlmlmfebpjgdaaGreatDoorM13
import Derived.Test.YthlmlmfebpjgdaaGreatDoorM10
import Derived.Deep.DeepCutAuto
import Derived.Test.YthlmlmfebpjgdaaGreatDoorM11
import Derived.Test.YthlmlmfebpjgdaaGreatDoorM03
import Derived.Test.YthlmlmfebpjgdaaGreatDoorM12
import Derived.Test.YthlmlmfebpjgdaaGreatDoorM09
import Derived.Test.YthlmlmfebpjgdaaGreatDoorM05
set_option linter.unusedSimpArgs false
set_option linter.unusedVariables false
set_option maxHeartbeats 12800000
set_option maxRecDepth 8000
namespace Go.Proofs.YthlmlmfebpjgdaaGreatDoor
open Go.Proofs.Tryz
open Go.RowKit
section
attribute [local go_sem] run_store_float
theorem divisor_none(A1 A2 C1 C2 x1 x2:Nat)(o1 o2:Ordering)(w:World)(h1:FloatKind.f64.format.order A2 0=some o1)(h2:FloatKind.f64.format.order C2 0=some o2)(hc:o1≠.gt\/o2≠.gt):
  Rt 89 #[Zf A1 A2,Zf C1 C2,Zf x1 x2] (Zf 9218868437227405312 18442240474082181120) w:=by
 have HE:=Hd emptyf
 have hc2:o1=.eq\/o1=.lt\/(o1=.gt/\(o2=.eq\/o2=.lt)):=by cases o1<;>cases o2<;>simp at hc ⊢
 have H1:=Hd h1;have H2:=Hd h2;clear h1 h2;have HC:=Hd hc2;clear hc hc2;have LL:=li4 w (Zv A1 A2) 28 (Zv C1 C2) 28 (Zv x1 x2) 28 (Zv 0 0) 28
 rcases HC.out with e | e | ⟨e,e2 | e2⟩<;>subst e<;>(try subst e2)<;>clear HC<;>have h1:=H1.out<;>have h2:=H2.out<;>clear H1 H2
 all_goals
  go_enter func89,ntmps89
  obtain⟨q1_0,q1_1⟩:=(LL.out.blk 0 rfl).c2;obtain⟨q2_0,q2_1⟩:=(LL.out.blk 1 rfl).c2;go_wp2_with fail;refine cx (HE.out _) fun wk hb=>?_;replace LL:=stL LL hb;clear hb q1_0 q1_1 q2_0 q2_1 h1 h2;replace LL:=Hd (LL.out.loose3 rfl);obtain⟨ha6_0,hf6_0,ha6_1,hf6_1⟩:=(LL.out.has 0 rfl).sf2;have LF:=Hd (LL.out.wr [.float .f64 9218868437227405312,.float .f64 18442240474082181120]);obtain⟨hk6_0,hk6_1⟩:=(LF.out.blk 3 rfl).c2
  simp [sets] at hk6_0 hk6_1
  clear LL;go_wp2;refine bodyPost_ret (v:=Zf 9218868437227405312 18442240474082181120) (by simp [results,results89,go_sem,hk6_0,hk6_1]) rfl ?_
  exact⟨rfl,LF.out.b⟩
theorem divisor_pq(A1 A2 C1 C2 x1 x2 r1 r2:Nat)(p1 p2:Nat)(s1:Int)(y1:Rat)(q1 q2:Nat)(s2:Int)(y2:Rat)(w:World)(h1:FloatKind.f64.format.order A2 0=some .gt)(h2:FloatKind.f64.format.order C2 0=some .gt)(ha:FloatKind.f64.format.order A1 0=some .gt)(hcc:FloatKind.f64.format.order C1 0=some .gt)(hp:∀ W,Calls prog 100 #[.float .f64 A1] W (NewExI W s1 y1))(ho:∀ W (g1:Bool) (B1:Option Addr) (n1 k1:Nat) (E1:Int),ExI W s1 g1 B1 n1 k1 E1 y1->Rt 157 #[.agg #[.int .i64 s1,.bool g1,.slice B1 n1 k1,.int .i64 E1],.float .f64 C2] (Zf p1 p2) W)(hp2:∀ W,Calls prog 100 #[.float .f64 A2] W (NewExI W s2 y2))(ho2:∀ W (g2:Bool) (B2:Option Addr) (n2 k2:Nat) (E2:Int),ExI W s2 g2 B2 n2 k2 E2 y2->Rt 157 #[.agg #[.int .i64 s2,.bool g2,.slice B2 n2 k2,.int .i64 E2],.float .f64 C1] (Zf q1 q2) W)
  (hcut:∀ W,Rt 77 #[Zf x1 x2,Zf p1 p2,Zf q1 q2,.bool true] (Zf r1 r2) W):
  Rt 89 #[Zf A1 A2,Zf C1 C2,Zf x1 x2] (Zf r1 r2) w:=by
 have HZ:=Hd fun W=>at_any 0 W;have HI:=Hd fun W=>inf_pos W;have HT:=Hd fun W=>at_any 9218868437227405312 W;have H1:=Hd h1;have H2:=Hd h2;have HA:=Hd ha;have HCC:=Hd hcc;have HCUT:=Hd hcut;have HP:=Hd hp;have HO:=Hd ho;have HP2:=Hd hp2;have HO2:=Hd ho2;clear h1 h2 ha hcc hcut hp ho hp2 ho2;have LL:=li4 w (Zv A1 A2) 28 (Zv C1 C2) 28 (Zv x1 x2) 28 (Zv 0 0) 28;have ha:=HA.out;have hcc:=HCC.out;have h1:=H1.out;have h2:=H2.out;clear H1 H2 HA HCC
 go_enter func89,ntmps89
 obtain⟨q1_0,q1_1⟩:=(LL.out.blk 0 rfl).c2;obtain⟨q2_0,q2_1⟩:=(LL.out.blk 1 rfl).c2;go_wp2_with fail;refine cx (HZ.out _) fun wk hb=>?_;replace LL:=stL LL hb;clear hb q1_0 q1_1 q2_0 q2_1 h1 h2;go_wp2_with fail;refine (HI.out _).mono ?_;rintro e wk ⟨rfl,rfl⟩;go_wp2_with fail;refine cx (HT.out _) fun wk hb=>?_;replace LL:=stL LL hb;clear hb
 go_upto_region 4 with fail
 have hl_j7:=LL.out.lts;generalize hwm:World.alloc wk _=wm;replace LL:=Hd (LL.out.newE hwm)
 have hz:wm.heap.size=wk.heap.size+1:=by rw [<- hwm];simp
 clear hwm;generalize hwn:World.alloc wm _=wn;replace LL:=Hd (LL.out.newE hwn);rw [hz] at LL
 simp only [List.cons_append,List.nil_append] at LL
 simp only [List.mem_cons,List.not_mem_nil,or_false,forall_eq_or_imp,forall_eq,false_imp_iff,implies_true,and_true] at hl_j7
 clear hwn hz;generalize wk.heap.size=j7 at LL hl_j7 ⊢;obtain⟨q3_0,q3_1⟩:=(LL.out.blk 0 rfl).c2;go_wp2_with fail;clear q3_0 q3_1;replace LL:=Hd (LL.out.loose 4 rfl rfl)
 simp only [List.eraseIdx,List.size_toArray,List.length_cons,List.length_nil,Nat.zero_add,Nat.reduceAdd] at LL
 refine regL LL (fun hHeld=>?_);clear LL;generalize World.drew _=wk at hHeld  ⊢;refine tks 0 ?_;refine tkb 1 (fun _ h=>(h.blk 0 rfl).c2) ?_;refine tks 3 ?_;refine tkb 4 (fun _ h=>(h.blk 1 rfl).c2) ?_;refine rdy 2 fun KK hKK=>?_;go_simp;refine (HP.out _).mono ?_;rintro e wk ⟨g1,B1,n1,k1,E1,rfl,he1,hb1⟩;go_wp2_with fail;refine hKK.out _ _ (hHeld.keep hb1) (fun _=>?_);clear hKK KK hHeld;rename_i hHeld;(try simp only [Act.put,lay]);have HE1:=Hd he1;clear he1;clear hb1;refine rcs 5 (HO.out _ _ _ _ _ _ HE1.out) ?_;clear hHeld;intro wk hb2 hHeld;(try replace HE1:=Hd (HE1.out.below hb2));clear hb2;refine rdy 6 fun KK hKK=>?_;obtain⟨ha0,hf0,ha1,hf1⟩:=(hHeld.has 0 rfl).sf2;obtain⟨csx,hbx,-,hcx⟩:=hHeld.has 0 rfl;replace HE1:=Hd (HE1.out.setB hbx hcx 0 [.float .f64 p1,.float .f64 p2]);clear hbx hcx;go_simp;have HS_0:=(hHeld.has 0 rfl).laid [.float .f64 p1,.float .f64 p2] rfl;refine hKK.out _ _ (hHeld.over 0 rfl [.float .f64 p1,.float .f64 p2] rfl rfl (by first | omega | exact hHeld.le_of 0 rfl) (by simp<;>omega) (by simp<;>omega)) (fun _=>?_);clear hKK KK hHeld;rename_i hHeld;(try simp only [Act.put,lay])
 replace hHeld:=(show Lies _ (sets wk j7 0 [.float .f64 p1,.float .f64 p2]) _ _ from hHeld)
 obtain⟨wk,hwn⟩:∃ X,sets wk j7 0 [.float .f64 p1,.float .f64 p2]=X:=⟨_,rfl⟩
 rw [hwn] at hHeld HE1 HS_0
 simp only [sets] at hwn
 rw [hwn];clear hwn;refine wpAnyH_done (by kernel_rfl) ?_ _;have LL:=Hd (hHeld.tight HS_0)
 simp only [List.cons_append,List.nil_append] at LL
 clear hHeld HS_0;clear HE1 ha;obtain⟨q4_0,q4_1⟩:=(LL.out.blk 1 rfl).c2;go_wp2_with fail;clear q4_0 q4_1;replace LL:=Hd (LL.out.loose 4 rfl rfl)
 simp only [List.eraseIdx,List.size_toArray,List.length_cons,List.length_nil,Nat.zero_add,Nat.reduceAdd] at LL
 refine regL LL (fun hHeld=>?_);clear LL;generalize World.drew _=wk at hHeld  ⊢;refine tks 0 ?_;refine tkb 1 (fun _ h=>(h.blk 0 rfl).c2) ?_;refine tks 3 ?_;refine tkb 4 (fun _ h=>(h.blk 1 rfl).c2) ?_;refine rdy 2 fun KK hKK=>?_;go_simp;refine (HP2.out _).mono ?_;rintro e wk ⟨g2,B2,n2,k2,E2,rfl,he2,hb1⟩;go_wp2_with fail;refine hKK.out _ _ (hHeld.keep hb1) (fun _=>?_);clear hKK KK hHeld;rename_i hHeld;(try simp only [Act.put,lay]);have HE2:=Hd he2;clear he2;clear hb1;refine rcs 5 (HO2.out _ _ _ _ _ _ HE2.out) ?_;clear hHeld;intro wk hb2 hHeld;(try replace HE2:=Hd (HE2.out.below hb2));clear hb2;refine rdy 6 fun KK hKK=>?_;obtain⟨ha0,hf0,ha1,hf1⟩:=(hHeld.has 0 rfl).sf2;obtain⟨csx,hbx,-,hcx⟩:=hHeld.has 0 rfl;replace HE2:=Hd (HE2.out.setB hbx hcx 0 [.float .f64 q1,.float .f64 q2]);clear hbx hcx;go_simp;have HS_0:=(hHeld.has 0 rfl).laid [.float .f64 q1,.float .f64 q2] rfl;refine hKK.out _ _ (hHeld.over 0 rfl [.float .f64 q1,.float .f64 q2] rfl rfl (by first | omega | exact hHeld.le_of 0 rfl) (by simp<;>omega) (by simp<;>omega)) (fun _=>?_);clear hKK KK hHeld;rename_i hHeld;(try simp only [Act.put,lay])
 replace hHeld:=(show Lies _ (sets wk (j7+1) 0 [.float .f64 q1,.float .f64 q2]) _ _ from hHeld)
 obtain⟨wk,hwn⟩:∃ X,sets wk (j7+1) 0 [.float .f64 q1,.float .f64 q2]=X:=⟨_,rfl⟩
 rw [hwn] at hHeld HE2 HS_0
 simp only [sets] at hwn
 rw [hwn];clear hwn;refine wpAnyH_done (by kernel_rfl) ?_ _;have LL:=Hd (hHeld.tight HS_0)
 simp only [List.cons_append,List.nil_append] at LL
 clear hHeld HS_0;clear HE2 hcc;obtain⟨q5_0,q5_1⟩:=(LL.out.blk 2 rfl).c2;obtain⟨q6_0,q6_1⟩:=(LL.out.blk 4 rfl).c2;obtain⟨q7_0,q7_1⟩:=(LL.out.blk 5 rfl).c2;go_wp2_with fail;refine cx (HCUT.out _) fun wk hb=>?_;replace LL:=stL LL hb;clear hb q5_0 q5_1 q6_0 q6_1 q7_0 q7_1;replace LL:=Hd (LL.out.loose3 rfl);obtain⟨ha6_0,hf6_0,ha6_1,hf6_1⟩:=(LL.out.has 0 rfl).sf2;have LF:=Hd (LL.out.wr [.float .f64 r1,.float .f64 r2]);obtain⟨hk6_0,hk6_1⟩:=(LF.out.blk 5 rfl).c2
 simp [sets] at hk6_0 hk6_1
 clear LL;go_wp2;refine bodyPost_ret (v:=Zf r1 r2) (by simp [results,results89,go_sem,hk6_0,hk6_1]) rfl ?_
 exact⟨rfl,LF.out.b⟩
theorem divisor_pi(A1 A2 C1 C2 x1 x2 r1 r2:Nat)(p1 p2:Nat)(s1:Int)(y1:Rat)(w:World)(h1:FloatKind.f64.format.order A2 0=some .gt)(h2:FloatKind.f64.format.order C2 0=some .gt)(ha:FloatKind.f64.format.order A1 0=some .gt)(hcc:FloatKind.f64.format.order C1 0=some .eq\/FloatKind.f64.format.order C1 0=some .lt)(hp:∀ W,Calls prog 100 #[.float .f64 A1] W (NewExI W s1 y1))(ho:∀ W (g1:Bool) (B1:Option Addr) (n1 k1:Nat) (E1:Int),ExI W s1 g1 B1 n1 k1 E1 y1->Rt 157 #[.agg #[.int .i64 s1,.bool g1,.slice B1 n1 k1,.int .i64 E1],.float .f64 C2] (Zf p1 p2) W)
  (hcut:∀ W,Rt 77 #[Zf x1 x2,Zf p1 p2,Zf 9218868437227405312 9218868437227405312,.bool true] (Zf r1 r2) W):
  Rt 89 #[Zf A1 A2,Zf C1 C2,Zf x1 x2] (Zf r1 r2) w:=by
 have HZ:=Hd fun W=>at_any 0 W;have HI:=Hd fun W=>inf_pos W;have HT:=Hd fun W=>at_any 9218868437227405312 W;have H1:=Hd h1;have H2:=Hd h2;have HA:=Hd ha;have HCC:=Hd hcc;have HCUT:=Hd hcut;have HP:=Hd hp;have HO:=Hd ho;clear h1 h2 ha hcc hcut hp ho;have LL:=li4 w (Zv A1 A2) 28 (Zv C1 C2) 28 (Zv x1 x2) 28 (Zv 0 0) 28
 rcases HCC.out with hcc | hcc
 all_goals
  have ha:=HA.out;have h1:=H1.out;have h2:=H2.out;clear H1 H2 HA HCC
  go_enter func89,ntmps89
  obtain⟨q1_0,q1_1⟩:=(LL.out.blk 0 rfl).c2;obtain⟨q2_0,q2_1⟩:=(LL.out.blk 1 rfl).c2;go_wp2_with fail;refine cx (HZ.out _) fun wk hb=>?_;replace LL:=stL LL hb;clear hb q1_0 q1_1 q2_0 q2_1 h1 h2;go_wp2_with fail;refine (HI.out _).mono ?_;rintro e wk ⟨rfl,rfl⟩;go_wp2_with fail;refine cx (HT.out _) fun wk hb=>?_;replace LL:=stL LL hb;clear hb
  go_upto_region 4 with fail
  have hl_j7:=LL.out.lts;generalize hwm:World.alloc wk _=wm;replace LL:=Hd (LL.out.newE hwm)
  have hz:wm.heap.size=wk.heap.size+1:=by rw [<- hwm];simp
  clear hwm;generalize hwn:World.alloc wm _=wn;replace LL:=Hd (LL.out.newE hwn);rw [hz] at LL
  simp only [List.cons_append,List.nil_append] at LL
  simp only [List.mem_cons,List.not_mem_nil,or_false,forall_eq_or_imp,forall_eq,false_imp_iff,implies_true,and_true] at hl_j7
  clear hwn hz;generalize wk.heap.size=j7 at LL hl_j7 ⊢;obtain⟨q3_0,q3_1⟩:=(LL.out.blk 0 rfl).c2;go_wp2_with fail;clear q3_0 q3_1;replace LL:=Hd (LL.out.loose 4 rfl rfl)
  simp only [List.eraseIdx,List.size_toArray,List.length_cons,List.length_nil,Nat.zero_add,Nat.reduceAdd] at LL
  refine regL LL (fun hHeld=>?_);clear LL;generalize World.drew _=wk at hHeld  ⊢;refine tks 0 ?_;refine tkb 1 (fun _ h=>(h.blk 0 rfl).c2) ?_;refine tks 3 ?_;refine tkb 4 (fun _ h=>(h.blk 1 rfl).c2) ?_;refine rdy 2 fun KK hKK=>?_;go_simp;refine (HP.out _).mono ?_;rintro e wk ⟨g1,B1,n1,k1,E1,rfl,he1,hb1⟩;go_wp2_with fail;refine hKK.out _ _ (hHeld.keep hb1) (fun _=>?_);clear hKK KK hHeld;rename_i hHeld;(try simp only [Act.put,lay]);have HE1:=Hd he1;clear he1;clear hb1;refine rcs 5 (HO.out _ _ _ _ _ _ HE1.out) ?_;clear hHeld;intro wk hb2 hHeld;(try replace HE1:=Hd (HE1.out.below hb2));clear hb2;refine rdy 6 fun KK hKK=>?_;obtain⟨ha0,hf0,ha1,hf1⟩:=(hHeld.has 0 rfl).sf2;obtain⟨csx,hbx,-,hcx⟩:=hHeld.has 0 rfl;replace HE1:=Hd (HE1.out.setB hbx hcx 0 [.float .f64 p1,.float .f64 p2]);clear hbx hcx;go_simp;have HS_0:=(hHeld.has 0 rfl).laid [.float .f64 p1,.float .f64 p2] rfl;refine hKK.out _ _ (hHeld.over 0 rfl [.float .f64 p1,.float .f64 p2] rfl rfl (by first | omega | exact hHeld.le_of 0 rfl) (by simp<;>omega) (by simp<;>omega)) (fun _=>?_);clear hKK KK hHeld;rename_i hHeld;(try simp only [Act.put,lay])
  replace hHeld:=(show Lies _ (sets wk j7 0 [.float .f64 p1,.float .f64 p2]) _ _ from hHeld)
  obtain⟨wk,hwn⟩:∃ X,sets wk j7 0 [.float .f64 p1,.float .f64 p2]=X:=⟨_,rfl⟩
  rw [hwn] at hHeld HE1 HS_0
  simp only [sets] at hwn
  rw [hwn];clear hwn;refine wpAnyH_done (by kernel_rfl) ?_ _;have LL:=Hd (hHeld.tight HS_0)
  simp only [List.cons_append,List.nil_append] at LL
  clear hHeld HS_0;clear HE1 ha;obtain⟨q4_0,q4_1⟩:=(LL.out.blk 1 rfl).c2;obtain⟨q5_0,q5_1⟩:=(LL.out.blk 2 rfl).c2;obtain⟨q6_0,q6_1⟩:=(LL.out.blk 5 rfl).c2;obtain⟨q7_0,q7_1⟩:=(LL.out.blk 4 rfl).c2;go_wp2_with fail;refine cx (HCUT.out _) fun wk hb=>?_;replace LL:=stL LL hb;clear hb q4_0 q4_1 q5_0 q5_1 q6_0 q6_1 q7_0 q7_1 hcc;replace LL:=Hd (LL.out.loose3 rfl);obtain⟨ha6_0,hf6_0,ha6_1,hf6_1⟩:=(LL.out.has 0 rfl).sf2;have LF:=Hd (LL.out.wr [.float .f64 r1,.float .f64 r2]);obtain⟨hk6_0,hk6_1⟩:=(LF.out.blk 5 rfl).c2
  simp [sets] at hk6_0 hk6_1
  clear LL;go_wp2;refine bodyPost_ret (v:=Zf r1 r2) (by simp [results,results89,go_sem,hk6_0,hk6_1]) rfl ?_
  exact⟨rfl,LF.out.b⟩
theorem divisor_zq(A1 A2 C1 C2 x1 x2 r1 r2:Nat)(q1 q2:Nat)(s2:Int)(y2:Rat)(w:World)(h1:FloatKind.f64.format.order A2 0=some .gt)(h2:FloatKind.f64.format.order C2 0=some .gt)(ha:FloatKind.f64.format.order A1 0=some .eq\/FloatKind.f64.format.order A1 0=some .lt)(hcc:FloatKind.f64.format.order C1 0=some .gt)(hp2:∀ W,Calls prog 100 #[.float .f64 A2] W (NewExI W s2 y2))(ho2:∀ W (g2:Bool) (B2:Option Addr) (n2 k2:Nat) (E2:Int),ExI W s2 g2 B2 n2 k2 E2 y2->Rt 157 #[.agg #[.int .i64 s2,.bool g2,.slice B2 n2 k2,.int .i64 E2],.float .f64 C1] (Zf q1 q2) W)
  (hcut:∀ W,Rt 77 #[Zf x1 x2,Zf 0 0,Zf q1 q2,.bool true] (Zf r1 r2) W):
  Rt 89 #[Zf A1 A2,Zf C1 C2,Zf x1 x2] (Zf r1 r2) w:=by
 have HZ:=Hd fun W=>at_any 0 W;have HI:=Hd fun W=>inf_pos W;have HT:=Hd fun W=>at_any 9218868437227405312 W;have H1:=Hd h1;have H2:=Hd h2;have HA:=Hd ha;have HCC:=Hd hcc;have HCUT:=Hd hcut;have HP2:=Hd hp2;have HO2:=Hd ho2;clear h1 h2 ha hcc hcut hp2 ho2;have LL:=li4 w (Zv A1 A2) 28 (Zv C1 C2) 28 (Zv x1 x2) 28 (Zv 0 0) 28
 rcases HA.out with ha | ha
 all_goals
  have hcc:=HCC.out;have h1:=H1.out;have h2:=H2.out;clear H1 H2 HA HCC
  go_enter func89,ntmps89
  obtain⟨q1_0,q1_1⟩:=(LL.out.blk 0 rfl).c2;obtain⟨q2_0,q2_1⟩:=(LL.out.blk 1 rfl).c2;go_wp2_with fail;refine cx (HZ.out _) fun wk hb=>?_;replace LL:=stL LL hb;clear hb q1_0 q1_1 q2_0 q2_1 h1 h2;go_wp2_with fail;refine (HI.out _).mono ?_;rintro e wk ⟨rfl,rfl⟩;go_wp2_with fail;refine cx (HT.out _) fun wk hb=>?_;replace LL:=stL LL hb;clear hb
  go_upto_region 4 with fail
  have hl_j7:=LL.out.lts;generalize hwm:World.alloc wk _=wm;replace LL:=Hd (LL.out.newE hwm)
  have hz:wm.heap.size=wk.heap.size+1:=by rw [<- hwm];simp
  clear hwm;generalize hwn:World.alloc wm _=wn;replace LL:=Hd (LL.out.newE hwn);rw [hz] at LL
  simp only [List.cons_append,List.nil_append] at LL
  simp only [List.mem_cons,List.not_mem_nil,or_false,forall_eq_or_imp,forall_eq,false_imp_iff,implies_true,and_true] at hl_j7
  clear hwn hz;generalize wk.heap.size=j7 at LL hl_j7 ⊢;obtain⟨q3_0,q3_1⟩:=(LL.out.blk 0 rfl).c2;obtain⟨q4_0,q4_1⟩:=(LL.out.blk 1 rfl).c2;go_wp2_with fail;clear ha q3_0 q3_1 q4_0 q4_1;replace LL:=Hd (LL.out.loose 5 rfl rfl)
  simp only [List.eraseIdx,List.size_toArray,List.length_cons,List.length_nil,Nat.zero_add,Nat.reduceAdd] at LL
  refine regL LL (fun hHeld=>?_);clear LL;generalize World.drew _=wk at hHeld  ⊢;refine tks 0 ?_;refine tkb 1 (fun _ h=>(h.blk 0 rfl).c2) ?_;refine tks 3 ?_;refine tkb 4 (fun _ h=>(h.blk 1 rfl).c2) ?_;refine rdy 2 fun KK hKK=>?_;go_simp;refine (HP2.out _).mono ?_;rintro e wk ⟨g2,B2,n2,k2,E2,rfl,he2,hb1⟩;go_wp2_with fail;refine hKK.out _ _ (hHeld.keep hb1) (fun _=>?_);clear hKK KK hHeld;rename_i hHeld;(try simp only [Act.put,lay]);have HE2:=Hd he2;clear he2;clear hb1;refine rcs 5 (HO2.out _ _ _ _ _ _ HE2.out) ?_;clear hHeld;intro wk hb2 hHeld;(try replace HE2:=Hd (HE2.out.below hb2));clear hb2;refine rdy 6 fun KK hKK=>?_;obtain⟨ha0,hf0,ha1,hf1⟩:=(hHeld.has 0 rfl).sf2;obtain⟨csx,hbx,-,hcx⟩:=hHeld.has 0 rfl;replace HE2:=Hd (HE2.out.setB hbx hcx 0 [.float .f64 q1,.float .f64 q2]);clear hbx hcx;go_simp;have HS_0:=(hHeld.has 0 rfl).laid [.float .f64 q1,.float .f64 q2] rfl;refine hKK.out _ _ (hHeld.over 0 rfl [.float .f64 q1,.float .f64 q2] rfl rfl (by first | omega | exact hHeld.le_of 0 rfl) (by simp<;>omega) (by simp<;>omega)) (fun _=>?_);clear hKK KK hHeld;rename_i hHeld;(try simp only [Act.put,lay])
  replace hHeld:=(show Lies _ (sets wk (j7+1) 0 [.float .f64 q1,.float .f64 q2]) _ _ from hHeld)
  obtain⟨wk,hwn⟩:∃ X,sets wk (j7+1) 0 [.float .f64 q1,.float .f64 q2]=X:=⟨_,rfl⟩
  rw [hwn] at hHeld HE2 HS_0
  simp only [sets] at hwn
  rw [hwn];clear hwn;refine wpAnyH_done (by kernel_rfl) ?_ _;have LL:=Hd (hHeld.tight HS_0)
  simp only [List.cons_append,List.nil_append] at LL
  clear hHeld HS_0;clear HE2 hcc;obtain⟨q5_0,q5_1⟩:=(LL.out.blk 2 rfl).c2;obtain⟨q6_0,q6_1⟩:=(LL.out.blk 4 rfl).c2;obtain⟨q7_0,q7_1⟩:=(LL.out.blk 5 rfl).c2;go_wp2_with fail;refine cx (HCUT.out _) fun wk hb=>?_;replace LL:=stL LL hb;clear hb q5_0 q5_1 q6_0 q6_1 q7_0 q7_1;replace LL:=Hd (LL.out.loose3 rfl);obtain⟨ha6_0,hf6_0,ha6_1,hf6_1⟩:=(LL.out.has 0 rfl).sf2;have LF:=Hd (LL.out.wr [.float .f64 r1,.float .f64 r2]);obtain⟨hk6_0,hk6_1⟩:=(LF.out.blk 5 rfl).c2
  simp [sets] at hk6_0 hk6_1
  clear LL;go_wp2;refine bodyPost_ret (v:=Zf r1 r2) (by simp [results,results89,go_sem,hk6_0,hk6_1]) rfl ?_
  exact⟨rfl,LF.out.b⟩
theorem divisor_zi(A1 A2 C1 C2 x1 x2 r1 r2:Nat)(w:World)(h1:FloatKind.f64.format.order A2 0=some .gt)(h2:FloatKind.f64.format.order C2 0=some .gt)(ha:FloatKind.f64.format.order A1 0=some .eq\/FloatKind.f64.format.order A1 0=some .lt)(hcc:FloatKind.f64.format.order C1 0=some .eq\/FloatKind.f64.format.order C1 0=some .lt)
  (hcut:∀ W,Rt 77 #[Zf x1 x2,Zf 0 0,Zf 9218868437227405312 9218868437227405312,.bool true] (Zf r1 r2) W):
  Rt 89 #[Zf A1 A2,Zf C1 C2,Zf x1 x2] (Zf r1 r2) w:=by
 have HZ:=Hd fun W=>at_any 0 W;have HI:=Hd fun W=>inf_pos W;have HT:=Hd fun W=>at_any 9218868437227405312 W;have H1:=Hd h1;have H2:=Hd h2;have HA:=Hd ha;have HCC:=Hd hcc;have HCUT:=Hd hcut;clear h1 h2 ha hcc hcut;have LL:=li4 w (Zv A1 A2) 28 (Zv C1 C2) 28 (Zv x1 x2) 28 (Zv 0 0) 28
 rcases HA.out with ha | ha<;>rcases HCC.out with hcc | hcc
 all_goals
  have h1:=H1.out;have h2:=H2.out;clear H1 H2 HA HCC
  go_enter func89,ntmps89
  obtain⟨q1_0,q1_1⟩:=(LL.out.blk 0 rfl).c2;obtain⟨q2_0,q2_1⟩:=(LL.out.blk 1 rfl).c2;go_wp2_with fail;refine cx (HZ.out _) fun wk hb=>?_;replace LL:=stL LL hb;clear hb q1_0 q1_1 q2_0 q2_1 h1 h2;go_wp2_with fail;refine (HI.out _).mono ?_;rintro e wk ⟨rfl,rfl⟩;go_wp2_with fail;refine cx (HT.out _) fun wk hb=>?_;replace LL:=stL LL hb;clear hb
  go_upto_region 4 with fail
  have hl_j7:=LL.out.lts;generalize hwm:World.alloc wk _=wm;replace LL:=Hd (LL.out.newE hwm)
  have hz:wm.heap.size=wk.heap.size+1:=by rw [<- hwm];simp
  clear hwm;generalize hwn:World.alloc wm _=wn;replace LL:=Hd (LL.out.newE hwn);rw [hz] at LL
  simp only [List.cons_append,List.nil_append] at LL
  simp only [List.mem_cons,List.not_mem_nil,or_false,forall_eq_or_imp,forall_eq,false_imp_iff,implies_true,and_true] at hl_j7
  clear hwn hz;generalize wk.heap.size=j7 at LL hl_j7 ⊢;obtain⟨q3_0,q3_1⟩:=(LL.out.blk 0 rfl).c2;obtain⟨q4_0,q4_1⟩:=(LL.out.blk 1 rfl).c2;obtain⟨q5_0,q5_1⟩:=(LL.out.blk 2 rfl).c2;obtain⟨q6_0,q6_1⟩:=(LL.out.blk 4 rfl).c2;obtain⟨q7_0,q7_1⟩:=(LL.out.blk 5 rfl).c2;go_wp2_with fail;refine cx (HCUT.out _) fun wk hb=>?_;replace LL:=stL LL hb;clear hb q3_0 q3_1 q4_0 q4_1 q5_0 q5_1 q6_0 q6_1 q7_0 q7_1 hcc ha;replace LL:=Hd (LL.out.loose3 rfl);obtain⟨ha6_0,hf6_0,ha6_1,hf6_1⟩:=(LL.out.has 0 rfl).sf2;have LF:=Hd (LL.out.wr [.float .f64 r1,.float .f64 r2]);obtain⟨hk6_0,hk6_1⟩:=(LF.out.blk 5 rfl).c2
  simp [sets] at hk6_0 hk6_1
  clear LL;go_wp2;refine bodyPost_ret (v:=Zf r1 r2) (by simp [results,results89,go_sem,hk6_0,hk6_1]) rfl ?_
  exact⟨rfl,LF.out.b⟩
theorem divrev2_none(b1 b2 c1 c2 y1 y2 A1 A2 C1 C2 x1 x2:Nat)(d1 d2 d3:Bool)(w:World)(t1:∀ W,Rt 102 #[Zf b1 b2] (Zf A1 A2) W)(m1:Em d1 A1 A2)(t2:∀ W,Rt 102 #[Zf c1 c2] (Zf C1 C2) W)(m2:Em d2 C1 C2)(t3:∀ W,Rt 102 #[Zf y1 y2] (Zf x1 x2) W)(m3:Em d3 x1 x2)(hnn:(d1 || d2 || d3)=true):
  Rt 27 #[Zf b1 b2,Zf c1 c2,Zf y1 y2] (Zf 9218868437227405312 18442240474082181120) w:=by
 have HE:=Hd emptyf;have HRD:=readL43 w (Zv 0 0) 28 t1 m1 t2 m2 t3 m3 hnn;clear t1 m1 t2 m2 t3 m3 hnn
 go_enter func27,ntmps27
 go_wp2_with fail;refine HRD.out.mono ?_;rintro e wk ⟨rfl,hl⟩;have LL:=Hd hl;clear hl HRD;go_wp2_with fail;refine cx (HE.out _) fun wk hb=>?_;replace LL:=stL LL hb;clear hb;replace LL:=Hd (LL.out.loose3 rfl);obtain⟨ha6_0,hf6_0,ha6_1,hf6_1⟩:=(LL.out.has 0 rfl).sf2;have LF:=Hd (LL.out.wr [.float .f64 9218868437227405312,.float .f64 18442240474082181120]);obtain⟨hk6_0,hk6_1⟩:=(LF.out.blk 3 rfl).c2
 simp [sets] at hk6_0 hk6_1
 clear LL;go_wp2;refine bodyPost_ret (v:=Zf 9218868437227405312 18442240474082181120) (by simp [results,results27,go_sem,hk6_0,hk6_1]) rfl ?_
 exact⟨rfl,LF.out.b⟩
theorem divrev2_zero(b1 b2 c1 c2 y1 y2 A1 A2 C1 C2 x1 x2 l1 l2 u1 u2 r1 r2:Nat)(d1 d2 d3:Bool)(w:World)(t1:∀ W,Rt 102 #[Zf b1 b2] (Zf A1 A2) W)(m1:Em d1 A1 A2)(t2:∀ W,Rt 102 #[Zf c1 c2] (Zf C1 C2) W)(m2:Em d2 C1 C2)(t3:∀ W,Rt 102 #[Zf y1 y2] (Zf x1 x2) W)(m3:Em d3 x1 x2)(hnn:(d1 || d2 || d3)=false)
  (hh1:∀ W,Rt 87 #[Zf A1 A2] (.bool true) W)(hh2:∀ W,Rt 87 #[Zf C1 C2] (.bool true) W)
  (hc1:∀ W,Rt 77 #[Zf x1 x2,Zf 18442240474082181120 18442240474082181120,Zf 0 0,.bool true] (Zf l1 l2) W)(hc2:∀ W,Rt 77 #[Zf x1 x2,Zf 0 0,Zf 9218868437227405312 9218868437227405312,.bool true] (Zf u1 u2) W)
  (hu:∀ W,Rt 63 #[Zf l1 l2,Zf u1 u2] (Zf r1 r2) W):
  Rt 27 #[Zf b1 b2,Zf c1 c2,Zf y1 y2] (Zf r1 r2) w:=by
 have HZ:=Hd fun W=>at_any 0 W;have HI:=Hd fun W=>inf_pos W;have HJ:=Hd fun W=>inf_neg W;have HT:=Hd fun W=>at_any 9218868437227405312 W;have HS:=Hd fun W=>at_any 18442240474082181120 W;have HH1:=Hd hh1;have HH2:=Hd hh2;have HC1:=Hd hc1;have HC2:=Hd hc2;have HU:=Hd hu;clear hh1 hh2 hc1 hc2 hu;have HRD:=readL43 w (Zv 0 0) 28 t1 m1 t2 m2 t3 m3 hnn;clear t1 m1 t2 m2 t3 m3 hnn
 go_enter func27,ntmps27
 go_wp2_with fail;refine HRD.out.mono ?_;rintro e wk ⟨rfl,hl⟩;have LL:=Hd hl;clear hl HRD;obtain⟨q1_0,q1_1⟩:=(LL.out.blk 0 rfl).c2;obtain⟨q2_0,q2_1⟩:=(LL.out.blk 1 rfl).c2;go_wp2_with fail;refine cx (HH1.out _) fun wk hb=>?_;replace LL:=stL LL hb;clear hb q1_0 q1_1 q2_0 q2_1;obtain⟨q3_0,q3_1⟩:=(LL.out.blk 0 rfl).c2;obtain⟨q4_0,q4_1⟩:=(LL.out.blk 1 rfl).c2;go_wp2_with fail;refine cx (HH2.out _) fun wk hb=>?_;replace LL:=stL LL hb;clear hb q3_0 q3_1 q4_0 q4_1
 go_upto_region 4 with fail
 go_cut [7] (fun s7 wx=>∃ (j7:Nat),s7=.pointer (some ⟨j7,0,none⟩)/\w.heap.size+3<j7/\Lies w wx [(w.heap.size,28,(Zv A1 A2)),((w.heap.size+1),28,(Zv C1 C2)),((w.heap.size+2),28,(Zv x1 x2)),((w.heap.size+3),28,(Zv 0 0)),(j7,28,(Zv l1 l2))] [])
 case first=>
  refine regL LL (fun hHeld=>?_);clear LL;generalize World.drew _=wk at hHeld  ⊢;refine tkb 0 (fun _ h=>(h.blk 2 rfl).c2) ?_
  repeat' first
   | (have hx:=hC1;clear hx;go_simp;refine (HJ.out _).mono ?_;rintro e wk ⟨rfl,rfl⟩;go_wp2_with fail;refine hC1.out _ _ (hHeld.keep (Below.refl _ _)) (fun _=>?_);clear hC1 KK hHeld;rename_i hHeld;(try simp only [Act.put,lay]);(try replace B_j7:=B_j7.keep (Below.refl _ _));have mk1:=True.intro)
   | (have hx:=hC2;clear hx;go_simp;refine (HS.out _).mono ?_;rintro e wk ⟨rfl,hb2⟩;go_wp2_with fail;refine hC2.out _ _ (hHeld.keep hb2) (fun _=>?_);clear hC2 KK hHeld;rename_i hHeld;(try simp only [Act.put,lay]);(try replace B_j7:=B_j7.keep hb2);clear hb2;have mk2:=True.intro)
   | (have hx:=hC3;clear hx;go_simp;refine (HZ.out _).mono ?_;rintro e wk ⟨rfl,hb3⟩;go_wp2_with fail;refine hC3.out _ _ (hHeld.keep hb3) (fun _=>?_);clear hC3 KK hHeld;rename_i hHeld;(try simp only [Act.put,lay]);(try replace B_j7:=B_j7.keep hb3);clear hb3;have mk3:=True.intro)
   | (have hx:=hC4;clear hx;go_simp;refine (HC1.out _).mono ?_;rintro e wk ⟨rfl,hb4⟩;go_wp2_with fail;refine hC4.out _ _ (hHeld.keep hb4) (fun _=>?_);clear hC4 KK hHeld;rename_i hHeld;(try simp only [Act.put,lay]);(try replace B_j7:=B_j7.keep hb4);clear hb4;have mk4:=True.intro)
   | (have hx:=hA5;clear hx;go_simp;have hl_j7:=hHeld.lts;refine hA5.out _ _ (hHeld.alloc _) (fun _=>?_);clear hA5 KK hHeld;rename_i hHeld;(try simp only [Act.put,lay]);generalize hwn:World.alloc wk _=wn at hHeld ⊢;have B_j7:=Blk.newE hwn;simp only [List.mem_cons,List.not_mem_nil,or_false,forall_eq_or_imp,forall_eq,false_imp_iff,implies_true,and_true] at hl_j7;clear hwn;generalize hg:wk.heap.size=j7 at B_j7 hl_j7 ⊢;clear hg;obtain⟨wk,rfl⟩:∃ X,X=wn:=⟨_,rfl⟩;have mk5:=True.intro)
   | (have hx:=hS6;clear hx;have qz0:=B_j7.ce 0 rfl;have fz0:=B_j7.frozen 0;have qz1:=B_j7.ce 1 rfl;have fz1:=B_j7.frozen 1;go_simp;have hsx:=hHeld.far [.float .f64 l1,.float .f64 l2] 0 (g:=j7) (by omega) (by simp<;>omega) (by simp<;>omega);generalize hwn:sets wk j7 0 _=wn at hsx;refine hS6.out _ _ (by have e:=hwn;simp only [sets,Nat.reduceAdd] at e;rw [e];exact hsx) (fun _=>?_);clear hS6 KK hHeld hsx;rename_i hHeld;(try simp only [Act.put,lay]);replace B_j7:=B_j7.setsE hwn;simp only [laid,lay,Nat.reduceAdd] at B_j7;simp only [sets,Nat.reduceAdd] at hwn;rw [hwn] at hHeld ⊢;clear hwn qz0 fz0 qz1 fz1;obtain⟨wk,rfl⟩:∃ X,X=wn:=⟨_,rfl⟩;have mk6:=True.intro)
   | (have hx:=mk1;have hx:=mk2;have hx:=mk3;have hx:=mk4;have hx:=mk5;have hx:=mk6;refine wpAnyH_done (by kernel_rfl) ?_ _;clear hx mk1 mk2 mk3 mk4 mk5 mk6;go_wp2_with fail;go_meet;exact⟨j7,rfl,by omega,hHeld.put B_j7⟩)
   | (have hx:=mk1;have hx:=mk2;have hx:=mk3;have hx:=mk4;have hx:=mk5;refine rdy 6 (fun KK hS6=>?_))
   | (have hx:=mk1;have hx:=mk2;have hx:=mk3;have hx:=mk5;refine rdy 4 (fun KK hC4=>?_))
   | (have hx:=mk1;have hx:=mk2;have hx:=mk3;have hx:=mk4;refine rdy 5 (fun KK hA5=>?_))
   | (have hx:=mk1;have hx:=mk2;have hx:=mk5;refine rdy 3 (fun KK hC3=>?_))
   | (have hx:=mk1;have hx:=mk2;have hx:=mk3;refine rd2 4 5 (fun KK hC4=>?_) (fun KK hA5=>?_))
   | (have hx:=mk1;have hx:=mk5;refine rdy 2 (fun KK hC2=>?_))
   | (have hx:=mk1;have hx:=mk2;refine rd2 3 5 (fun KK hC3=>?_) (fun KK hA5=>?_))
   | (have hx:=mk5;refine rdy 1 (fun KK hC1=>?_))
   | (have hx:=mk1;refine rd2 2 5 (fun KK hC2=>?_) (fun KK hA5=>?_))
   | (refine rd2 1 5 (fun KK hC1=>?_) (fun KK hA5=>?_))
 case rest=>
 obtain⟨j7,rfl,hgs,hcl⟩:=hcut;rename World=>wx;clear LL HH1 HH2 HC1;have LL:=Hd hcl;clear hcl;go_wp2_with fail;replace LL:=Hd (LL.out.loose3 rfl);refine regL LL (fun hHeld=>?_);clear LL;generalize World.drew _=wk at hHeld  ⊢;refine tkb 0 (fun _ h=>(h.blk 3 rfl).c2) ?_;refine tkb 1 (fun _ h=>(h.blk 2 rfl).c2) ?_;refine rcs 2 (HZ.out _) ?_;clear hHeld;intro wk hb1 hHeld;clear hb1;refine rdy 3 fun KK hKK=>?_;go_simp;refine (HI.out _).mono ?_;rintro e wk ⟨rfl,rfl⟩;go_wp2_with fail;refine hKK.out _ _ (hHeld.keep (Below.refl _ _)) (fun _=>?_);clear hKK KK hHeld;rename_i hHeld;(try simp only [Act.put,lay]);refine rcs 4 (HT.out _) ?_;clear hHeld;intro wk hb3 hHeld;clear hb3;refine rcs 5 (HC2.out _) ?_;clear hHeld;intro wk hb4 hHeld;clear hb4;refine rcs 6 (HU.out _) ?_;clear hHeld;intro wk hb5 hHeld;clear hb5;refine rdy 7 fun KK hKK=>?_;obtain⟨ha0,hf0,ha1,hf1⟩:=(hHeld.has 0 rfl).sf2;go_simp;have HS_0:=(hHeld.has 0 rfl).laid [.float .f64 r1,.float .f64 r2] rfl;refine hKK.out _ _ (hHeld.over 0 rfl [.float .f64 r1,.float .f64 r2] rfl rfl (by first | omega | exact hHeld.le_of 0 rfl) (by simp<;>omega) (by simp<;>omega)) (fun _=>?_);clear hKK KK hHeld;rename_i hHeld;(try simp only [Act.put,lay]);refine wpAnyH_done (by kernel_rfl) ?_ _;have LB:=Hd hHeld.b;clear hHeld;obtain⟨hk6_0,hk6_1⟩:=HS_0.c2;clear HS_0
 simp [sets] at hk6_0 hk6_1
 go_wp2;refine bodyPost_ret (v:=Zf r1 r2) (by simp [results,results27,go_sem,hk6_0,hk6_1]) rfl ?_
 exact⟨rfl,LB.out⟩
theorem divrev2_some(b1 b2 c1 c2 y1 y2 A1 A2 C1 C2 x1 x2 a1 a2 m1 m2 z1 z2 p1 q1 p2 q2 p3 q3 p4 q4 p5 q5 p6 q6 p7 q7 p8 q8:Nat)(d1 d2 d3 e1 e2:Bool)(w:World)(t1:∀ W,Rt 102 #[Zf b1 b2] (Zf A1 A2) W)(t4:Em d1 A1 A2)(t2:∀ W,Rt 102 #[Zf c1 c2] (Zf C1 C2) W)(t5:Em d2 C1 C2)(t3:∀ W,Rt 102 #[Zf y1 y2] (Zf x1 x2) W)(t6:Em d3 x1 x2)(hnn:(d1 || d2 || d3)=false)
  (hh1:∀ W,Rt 87 #[Zf A1 A2] (.bool e1) W)(hh2:∀ W,Rt 87 #[Zf C1 C2] (.bool e2) W)(hz:e1=false\/e1=true/\e2=false)
  (hm1:∀ W,Rt 85 #[Zf A1 A2] (Zf a1 a2) W)(hm2:∀ W,Rt 85 #[Zf C1 C2] (Zf m1 m2) W)(hm3:∀ W,Rt 85 #[Zf x1 x2] (Zf z1 z2) W)(hd1:∀ W,Rt 89 #[Zf A1 A2,Zf C1 C2,Zf x1 x2] (Zf p1 q1) W)(hd2:∀ W,Rt 89 #[Zf a1 a2,Zf m1 m2,Zf x1 x2] (Zf p2 q2) W)(hd3:∀ W,Rt 89 #[Zf a1 a2,Zf C1 C2,Zf z1 z2] (Zf p3 q3) W)(hd4:∀ W,Rt 89 #[Zf A1 A2,Zf m1 m2,Zf z1 z2] (Zf p4 q4) W)
  (hu1:∀ W,Rt 63 #[Zf p1 q1,Zf p2 q2] (Zf p5 q5) W)(hu2:∀ W,Rt 63 #[Zf p3 q3,Zf p4 q4] (Zf p6 q6) W)(hm4:∀ W,Rt 85 #[Zf p6 q6] (Zf p7 q7) W)(hu3:∀ W,Rt 63 #[Zf p5 q5,Zf p7 q7] (Zf p8 q8) W):
  Rt 27 #[Zf b1 b2,Zf c1 c2,Zf y1 y2] (Zf p8 q8) w:=by
 have HH1:=Hd hh1;have HH2:=Hd hh2;have HZ:=Hd hz;have HM1:=Hd hm1;have HM2:=Hd hm2;have HM3:=Hd hm3;have HM4:=Hd hm4;have HD1:=Hd hd1;have HD2:=Hd hd2;have HD3:=Hd hd3;have HD4:=Hd hd4;have HU1:=Hd hu1;have HU2:=Hd hu2;have HU3:=Hd hu3;clear hh1 hh2 hz hm1 hm2 hm3 hm4 hd1 hd2 hd3 hd4 hu1 hu2 hu3;have HRD:=readL43 w (Zv 0 0) 28 t1 t4 t2 t5 t3 t6 hnn;clear t1 t4 t2 t5 t3 t6 hnn
 go_enter func27,ntmps27
 go_wp2_with fail;refine HRD.out.mono ?_;rintro e wk ⟨rfl,hl⟩;have LL:=Hd hl;clear hl HRD
 go_upto_region 3 with fail
 go_cut [19] (fun s19 wx=>s19=.bool false/\Lies w wx [(w.heap.size,28,(Zv A1 A2)),((w.heap.size+1),28,(Zv C1 C2)),((w.heap.size+2),28,(Zv x1 x2)),((w.heap.size+3),28,(Zv 0 0))] [])
 case first=>
  obtain⟨q1_0,q1_1⟩:=(LL.out.blk 0 rfl).c2;obtain⟨q2_0,q2_1⟩:=(LL.out.blk 1 rfl).c2;go_wp2_with fail;refine cx (HH1.out _) fun wk hb=>?_;replace LL:=stL LL hb;clear hb q1_0 q1_1 q2_0 q2_1
  rcases HZ.out with h | ⟨h,h2⟩<;>subst h
  ·go_wp2_with fail
   go_meet
   case rel=>exact⟨rfl,LL.out⟩
  ·subst h2;obtain⟨q3_0,q3_1⟩:=(LL.out.blk 1 rfl).c2;go_wp2_with fail;refine cx (HH2.out _) fun wk hb=>?_;replace LL:=stL LL hb;clear hb q3_0 q3_1;go_wp2_with fail
   go_meet
   case rel=>exact⟨rfl,LL.out⟩
 case rest=>
 obtain⟨rfl,hcl⟩:=hcut;rename World=>wx;clear LL HH1 HH2 HZ;have LL:=Hd hcl;clear hcl;obtain⟨q1_0,q1_1⟩:=(LL.out.blk 2 rfl).c2;go_wp2_with fail;refine cx (HM3.out _) fun wk hb=>?_;replace LL:=stL LL hb;clear hb q1_0 q1_1
 go_upto_region 7 with fail
 have hl_j8:=LL.out.lts;generalize hwn:World.alloc wk _=wn;replace LL:=Hd (LL.out.newE hwn)
 simp only [List.cons_append,List.nil_append] at LL
 simp only [List.mem_cons,List.not_mem_nil,or_false,forall_eq_or_imp,forall_eq,false_imp_iff,implies_true,and_true] at hl_j8
 clear hwn;generalize wk.heap.size=j8 at LL hl_j8 ⊢
 go_cut [9] (fun s9 wx=>∃ (j9:Nat),s9=.pointer (some ⟨j9,0,none⟩)/\(w.heap.size+3<j9/\j8<j9)/\Lies w wx [(w.heap.size,28,(Zv A1 A2)),((w.heap.size+1),28,(Zv C1 C2)),((w.heap.size+2),28,(Zv x1 x2)),((w.heap.size+3),28,(Zv 0 0)),(j8,28,(Zv z1 z2)),(j9,28,(Zv p5 q5))] [])
 case first=>
  refine regL LL (fun hHeld=>?_);clear LL;generalize World.drew _=wk at hHeld  ⊢;refine tkb 0 (fun _ h=>(h.blk 0 rfl).c2) ?_;refine tkb 1 (fun _ h=>(h.blk 1 rfl).c2) ?_;refine tkb 2 (fun _ h=>(h.blk 2 rfl).c2) ?_;refine tkb 4 (fun _ h=>(h.blk 0 rfl).c2) ?_;refine tkb 6 (fun _ h=>(h.blk 1 rfl).c2) ?_;refine tkb 8 (fun _ h=>(h.blk 2 rfl).c2) ?_
  repeat' first
   | (have hx:=hC3;clear hx;go_simp;refine (HD1.out _).mono ?_;rintro e wk ⟨rfl,hb0⟩;go_wp2_with fail;refine hC3.out _ _ (hHeld.keep hb0) (fun _=>?_);clear hC3 KK hHeld;rename_i hHeld;(try simp only [Act.put,lay]);(try replace B_j9:=B_j9.keep hb0);clear hb0;have mk3:=True.intro)
   | (have hx:=hC5;clear hx;go_simp;refine (HM1.out _).mono ?_;rintro e wk ⟨rfl,hb1⟩;go_wp2_with fail;refine hC5.out _ _ (hHeld.keep hb1) (fun _=>?_);clear hC5 KK hHeld;rename_i hHeld;(try simp only [Act.put,lay]);(try replace B_j9:=B_j9.keep hb1);clear hb1;have mk5:=True.intro)
   | (have hx:=hC7;clear hx;go_simp;refine (HM2.out _).mono ?_;rintro e wk ⟨rfl,hb2⟩;go_wp2_with fail;refine hC7.out _ _ (hHeld.keep hb2) (fun _=>?_);clear hC7 KK hHeld;rename_i hHeld;(try simp only [Act.put,lay]);(try replace B_j9:=B_j9.keep hb2);clear hb2;have mk7:=True.intro)
   | (have hx:=hC9;clear hx;go_simp;refine (HD2.out _).mono ?_;rintro e wk ⟨rfl,hb3⟩;go_wp2_with fail;refine hC9.out _ _ (hHeld.keep hb3) (fun _=>?_);clear hC9 KK hHeld;rename_i hHeld;(try simp only [Act.put,lay]);(try replace B_j9:=B_j9.keep hb3);clear hb3;have mk9:=True.intro)
   | (have hx:=hC10;clear hx;go_simp;refine (HU1.out _).mono ?_;rintro e wk ⟨rfl,hb4⟩;go_wp2_with fail;refine hC10.out _ _ (hHeld.keep hb4) (fun _=>?_);clear hC10 KK hHeld;rename_i hHeld;(try simp only [Act.put,lay]);(try replace B_j9:=B_j9.keep hb4);clear hb4;have mk10:=True.intro)
   | (have hx:=hA11;clear hx;go_simp;have hl_j9:=hHeld.lts;refine hA11.out _ _ (hHeld.alloc _) (fun _=>?_);clear hA11 KK hHeld;rename_i hHeld;(try simp only [Act.put,lay]);generalize hwn:World.alloc wk _=wn at hHeld ⊢;have B_j9:=Blk.newE hwn;simp only [List.mem_cons,List.not_mem_nil,or_false,forall_eq_or_imp,forall_eq,false_imp_iff,implies_true,and_true] at hl_j9;clear hwn;generalize hg:wk.heap.size=j9 at B_j9 hl_j9 ⊢;clear hg;obtain⟨wk,rfl⟩:∃ X,X=wn:=⟨_,rfl⟩;have mk11:=True.intro)
   | (have hx:=hS12;clear hx;have qz0:=B_j9.ce 0 rfl;have fz0:=B_j9.frozen 0;have qz1:=B_j9.ce 1 rfl;have fz1:=B_j9.frozen 1;go_simp;have hsx:=hHeld.far [.float .f64 p5,.float .f64 q5] 0 (g:=j9) (by omega) (by simp<;>omega) (by simp<;>omega);generalize hwn:sets wk j9 0 _=wn at hsx;refine hS12.out _ _ (by have e:=hwn;simp only [sets,Nat.reduceAdd] at e;rw [e];exact hsx) (fun _=>?_);clear hS12 KK hHeld hsx;rename_i hHeld;(try simp only [Act.put,lay]);replace B_j9:=B_j9.setsE hwn;simp only [laid,lay,Nat.reduceAdd] at B_j9;simp only [sets,Nat.reduceAdd] at hwn;rw [hwn] at hHeld ⊢;clear hwn qz0 fz0 qz1 fz1;obtain⟨wk,rfl⟩:∃ X,X=wn:=⟨_,rfl⟩;have mk12:=True.intro)
   | (have hx:=mk3;have hx:=mk5;have hx:=mk7;have hx:=mk9;have hx:=mk10;have hx:=mk11;have hx:=mk12;refine wpAnyH_done (by kernel_rfl) ?_ _;clear hx mk3 mk5 mk7 mk9 mk10 mk11 mk12;go_wp2_with fail;go_meet;exact⟨j9,rfl,⟨by omega,by omega⟩,hHeld.put B_j9⟩)
   | (have hx:=mk3;have hx:=mk5;have hx:=mk7;have hx:=mk9;have hx:=mk10;have hx:=mk11;refine rdy 12 (fun KK hS12=>?_))
   | (have hx:=mk3;have hx:=mk5;have hx:=mk7;have hx:=mk9;have hx:=mk11;refine rdy 10 (fun KK hC10=>?_))
   | (have hx:=mk3;have hx:=mk5;have hx:=mk7;have hx:=mk9;have hx:=mk10;refine rdy 11 (fun KK hA11=>?_))
   | (have hx:=mk3;have hx:=mk5;have hx:=mk7;have hx:=mk11;refine rdy 9 (fun KK hC9=>?_))
   | (have hx:=mk3;have hx:=mk5;have hx:=mk7;have hx:=mk9;refine rd2 10 11 (fun KK hC10=>?_) (fun KK hA11=>?_))
   | (have hx:=mk3;have hx:=mk5;have hx:=mk11;refine rdy 7 (fun KK hC7=>?_))
   | (have hx:=mk3;have hx:=mk5;have hx:=mk7;refine rd2 9 11 (fun KK hC9=>?_) (fun KK hA11=>?_))
   | (have hx:=mk3;have hx:=mk11;refine rdy 5 (fun KK hC5=>?_))
   | (have hx:=mk3;have hx:=mk5;refine rd2 7 11 (fun KK hC7=>?_) (fun KK hA11=>?_))
   | (have hx:=mk11;refine rdy 3 (fun KK hC3=>?_))
   | (have hx:=mk3;refine rd2 5 11 (fun KK hC5=>?_) (fun KK hA11=>?_))
   | (refine rd2 3 11 (fun KK hC3=>?_) (fun KK hA11=>?_))
 case rest=>
 obtain⟨j9,rfl,hgs_j9,hcl⟩:=hcut;rename World=>wx;clear LL HD1 HD2 HU1;have LL:=Hd hcl;clear hcl
 go_upto_region 8 with fail
 go_cut [10] (fun s10 wx=>∃ (j10:Nat),s10=.pointer (some ⟨j10,0,none⟩)/\(w.heap.size+3<j10/\j8<j10/\j9<j10)/\Lies w wx [(w.heap.size,28,(Zv A1 A2)),((w.heap.size+1),28,(Zv C1 C2)),((w.heap.size+2),28,(Zv x1 x2)),((w.heap.size+3),28,(Zv 0 0)),(j8,28,(Zv z1 z2)),(j9,28,(Zv p5 q5)),(j10,28,(Zv p6 q6))] [])
 case first=>
  refine regL LL (fun hHeld=>?_);clear LL;generalize World.drew _=wk at hHeld  ⊢;refine tkb 0 (fun _ h=>(h.blk 0 rfl).c2) ?_;refine tkb 2 (fun _ h=>(h.blk 1 rfl).c2) ?_;refine tkb 3 (fun _ h=>(h.blk 4 rfl).c2) ?_;refine tkb 5 (fun _ h=>(h.blk 0 rfl).c2) ?_;refine tkb 6 (fun _ h=>(h.blk 1 rfl).c2) ?_;refine tkb 8 (fun _ h=>(h.blk 4 rfl).c2) ?_
  repeat' first
   | (have hx:=hC1;clear hx;go_simp;refine (HM1.out _).mono ?_;rintro e wk ⟨rfl,hb0⟩;go_wp2_with fail;refine hC1.out _ _ (hHeld.keep hb0) (fun _=>?_);clear hC1 KK hHeld;rename_i hHeld;(try simp only [Act.put,lay]);(try replace B_j10:=B_j10.keep hb0);clear hb0;have mk1:=True.intro)
   | (have hx:=hC4;clear hx;go_simp;refine (HD3.out _).mono ?_;rintro e wk ⟨rfl,hb1⟩;go_wp2_with fail;refine hC4.out _ _ (hHeld.keep hb1) (fun _=>?_);clear hC4 KK hHeld;rename_i hHeld;(try simp only [Act.put,lay]);(try replace B_j10:=B_j10.keep hb1);clear hb1;have mk4:=True.intro)
   | (have hx:=hC7;clear hx;go_simp;refine (HM2.out _).mono ?_;rintro e wk ⟨rfl,hb2⟩;go_wp2_with fail;refine hC7.out _ _ (hHeld.keep hb2) (fun _=>?_);clear hC7 KK hHeld;rename_i hHeld;(try simp only [Act.put,lay]);(try replace B_j10:=B_j10.keep hb2);clear hb2;have mk7:=True.intro)
   | (have hx:=hC9;clear hx;go_simp;refine (HD4.out _).mono ?_;rintro e wk ⟨rfl,hb3⟩;go_wp2_with fail;refine hC9.out _ _ (hHeld.keep hb3) (fun _=>?_);clear hC9 KK hHeld;rename_i hHeld;(try simp only [Act.put,lay]);(try replace B_j10:=B_j10.keep hb3);clear hb3;have mk9:=True.intro)
   | (have hx:=hC10;clear hx;go_simp;refine (HU2.out _).mono ?_;rintro e wk ⟨rfl,hb4⟩;go_wp2_with fail;refine hC10.out _ _ (hHeld.keep hb4) (fun _=>?_);clear hC10 KK hHeld;rename_i hHeld;(try simp only [Act.put,lay]);(try replace B_j10:=B_j10.keep hb4);clear hb4;have mk10:=True.intro)
   | (have hx:=hA11;clear hx;go_simp;have hl_j10:=hHeld.lts;refine hA11.out _ _ (hHeld.alloc _) (fun _=>?_);clear hA11 KK hHeld;rename_i hHeld;(try simp only [Act.put,lay]);generalize hwn:World.alloc wk _=wn at hHeld ⊢;have B_j10:=Blk.newE hwn;simp only [List.mem_cons,List.not_mem_nil,or_false,forall_eq_or_imp,forall_eq,false_imp_iff,implies_true,and_true] at hl_j10;clear hwn;generalize hg:wk.heap.size=j10 at B_j10 hl_j10 ⊢;clear hg;obtain⟨wk,rfl⟩:∃ X,X=wn:=⟨_,rfl⟩;have mk11:=True.intro)
   | (have hx:=hS12;clear hx;have qz0:=B_j10.ce 0 rfl;have fz0:=B_j10.frozen 0;have qz1:=B_j10.ce 1 rfl;have fz1:=B_j10.frozen 1;go_simp;have hsx:=hHeld.far [.float .f64 p6,.float .f64 q6] 0 (g:=j10) (by omega) (by simp<;>omega) (by simp<;>omega);generalize hwn:sets wk j10 0 _=wn at hsx;refine hS12.out _ _ (by have e:=hwn;simp only [sets,Nat.reduceAdd] at e;rw [e];exact hsx) (fun _=>?_);clear hS12 KK hHeld hsx;rename_i hHeld;(try simp only [Act.put,lay]);replace B_j10:=B_j10.setsE hwn;simp only [laid,lay,Nat.reduceAdd] at B_j10;simp only [sets,Nat.reduceAdd] at hwn;rw [hwn] at hHeld ⊢;clear hwn qz0 fz0 qz1 fz1;obtain⟨wk,rfl⟩:∃ X,X=wn:=⟨_,rfl⟩;have mk12:=True.intro)
   | (have hx:=mk1;have hx:=mk4;have hx:=mk7;have hx:=mk9;have hx:=mk10;have hx:=mk11;have hx:=mk12;refine wpAnyH_done (by kernel_rfl) ?_ _;clear hx mk1 mk4 mk7 mk9 mk10 mk11 mk12;go_wp2_with fail;go_meet;exact⟨j10,rfl,⟨by omega,by omega,by omega⟩,hHeld.put B_j10⟩)
   | (have hx:=mk1;have hx:=mk4;have hx:=mk7;have hx:=mk9;have hx:=mk10;have hx:=mk11;refine rdy 12 (fun KK hS12=>?_))
   | (have hx:=mk1;have hx:=mk4;have hx:=mk7;have hx:=mk9;have hx:=mk11;refine rdy 10 (fun KK hC10=>?_))
   | (have hx:=mk1;have hx:=mk4;have hx:=mk7;have hx:=mk9;have hx:=mk10;refine rdy 11 (fun KK hA11=>?_))
   | (have hx:=mk1;have hx:=mk4;have hx:=mk7;have hx:=mk11;refine rdy 9 (fun KK hC9=>?_))
   | (have hx:=mk1;have hx:=mk4;have hx:=mk7;have hx:=mk9;refine rd2 10 11 (fun KK hC10=>?_) (fun KK hA11=>?_))
   | (have hx:=mk1;have hx:=mk4;have hx:=mk11;refine rdy 7 (fun KK hC7=>?_))
   | (have hx:=mk1;have hx:=mk4;have hx:=mk7;refine rd2 9 11 (fun KK hC9=>?_) (fun KK hA11=>?_))
   | (have hx:=mk1;have hx:=mk11;refine rdy 4 (fun KK hC4=>?_))
   | (have hx:=mk1;have hx:=mk4;refine rd2 7 11 (fun KK hC7=>?_) (fun KK hA11=>?_))
   | (have hx:=mk11;refine rdy 1 (fun KK hC1=>?_))
   | (have hx:=mk1;refine rd2 4 11 (fun KK hC4=>?_) (fun KK hA11=>?_))
   | (refine rd2 1 11 (fun KK hC1=>?_) (fun KK hA11=>?_))
 case rest=>
 obtain⟨j10,rfl,hgs_j10,hcl⟩:=hcut;rename World=>wx;clear LL HD3 HD4 HU2;have LL:=Hd hcl;clear hcl;go_wp2_with fail;replace LL:=Hd (LL.out.loose3 rfl);refine regL LL (fun hHeld=>?_);clear LL;generalize World.drew _=wk at hHeld  ⊢;refine tkb 0 (fun _ h=>(h.blk 4 rfl).c2) ?_;refine tkb 1 (fun _ h=>(h.blk 5 rfl).c2) ?_;refine rcs 2 (HM4.out _) ?_;clear hHeld;intro wk hb1 hHeld;clear hb1;refine rcs 3 (HU3.out _) ?_;clear hHeld;intro wk hb2 hHeld;clear hb2;refine rdy 4 fun KK hKK=>?_;obtain⟨ha0,hf0,ha1,hf1⟩:=(hHeld.has 0 rfl).sf2;go_simp;have HS_0:=(hHeld.has 0 rfl).laid [.float .f64 p8,.float .f64 q8] rfl;refine hKK.out _ _ (hHeld.over 0 rfl [.float .f64 p8,.float .f64 q8] rfl rfl (by first | omega | exact hHeld.le_of 0 rfl) (by simp<;>omega) (by simp<;>omega)) (fun _=>?_);clear hKK KK hHeld;rename_i hHeld;(try simp only [Act.put,lay]);refine wpAnyH_done (by kernel_rfl) ?_ _;have LB:=Hd hHeld.b;clear hHeld;obtain⟨hk6_0,hk6_1⟩:=HS_0.c2;clear HS_0
 simp [sets] at hk6_0 hk6_1
 go_wp2;refine bodyPost_ret (v:=Zf p8 q8) (by simp [results,results27,go_sem,hk6_0,hk6_1]) rfl ?_
 exact⟨rfl,LB.out⟩
theorem reciprev_walk(c1 c2 x1 x2 r1 r2:Nat)(w:World)(h:∀ W,Rt 27 #[Zf 4607182418800017408 4607182418800017408,Zf c1 c2,Zf x1 x2] (Zf r1 r2) W):
  Rt 28 #[Zf c1 c2,Zf x1 x2] (Zf r1 r2) w:=by
 have H:=Hd h;clear h;have LL:=li3 w (Zv c1 c2) 28 (Zv x1 x2) 28 (Zv 0 0) 28
 go_enter func28,ntmps28
 obtain⟨q1_0,q1_1⟩:=(LL.out.blk 0 rfl).c2;obtain⟨q2_0,q2_1⟩:=(LL.out.blk 1 rfl).c2;go_wp2_with fail;refine cx (H.out _) fun wk hb=>?_;replace LL:=stL LL hb;clear hb q1_0 q1_1 q2_0 q2_1;replace LL:=Hd (LL.out.loose2 rfl);obtain⟨ha4_0,hf4_0,ha4_1,hf4_1⟩:=(LL.out.has 0 rfl).sf2;have LF:=Hd (LL.out.wr [.float .f64 r1,.float .f64 r2]);obtain⟨hk4_0,hk4_1⟩:=(LF.out.blk 2 rfl).c2
 simp [sets] at hk4_0 hk4_1
 clear LL;go_wp2;refine bodyPost_ret (v:=Zf r1 r2) (by simp [results,results28,go_sem,hk4_0,hk4_1]) rfl ?_
 exact⟨rfl,LF.out.b⟩
end
def dvA(i1 j2:Int):Int × Rat × Bool:=if 0<i1/\j2<M then (0,fl i1 / fl j2,false) else (0,0,true)
def dvB(j1 i2:Int):Int × Rat × Bool:=if j1<M/\0<i2 then (0,fl j1 / fl i2,false) else (1,0,true)
def FD(i1 j1 i2 j2:Int)(i j:Int):Int × Int:=
 if j1<=0\/j2<=0 then ((M:Int),-(M:Int)) else pf (dvA i1 j2).1 (dvA i1 j2).2.1 (dvA i1 j2).2.2 (dvB j1 i2).1 (dvB j1 i2).2.1 (dvB j1 i2).2.2 i j
def dvs(i1 j1 i2 j2:Int)(i j:Int):Int × Int:=
 if j1<=0\/j2<=0 then ((M:Int),-(M:Int)) else
  ctO true i j (if 0<i1 then ov (es i1) (ex i1) j2 else (0,0)).1 (if 0<i1 then ov (es i1) (ex i1) j2 else (0,0)).2 (if 0<i2 then ov (es j1) (ex j1) i2 else ((M:Int),(M:Int))).1 (if 0<i2 then ov (es j1) (ex j1) i2 else ((M:Int),(M:Int))).2
theorem dvA_kind{i1 j2:Int}(h2:0<j2):(dvA i1 j2).1=0/\((dvA i1 j2).2.1=0/\(dvA i1 j2).2.2=true\/0<(dvA i1 j2).2.1/\(dvA i1 j2).2.2=false/\0<i1/\j2<M/\(dvA i1 j2).2.1=fl i1 / fl j2):=by
 unfold dvA
 by_cases h:0<i1/\j2<M
 ·rw [if_pos h];exact⟨rfl,.inr ⟨div_pos' (fl_pos h.1) (fl_pos h2),rfl,h.1,h.2,rfl⟩⟩
 ·rw [if_neg h];exact⟨rfl,.inl ⟨rfl,rfl⟩⟩
theorem dvB_kind{j1 i2:Int}(h1:0<j1):((dvB j1 i2).1=1/\(dvB j1 i2).2.1=0/\(dvB j1 i2).2.2=true)\/((dvB j1 i2).1=0/\0<(dvB j1 i2).2.1/\(dvB j1 i2).2.2=false/\0<i2/\j1<M/\(dvB j1 i2).2.1=fl j1 / fl i2):=by
 unfold dvB
 by_cases h:j1<M/\0<i2
 ·rw [if_pos h];exact .inr ⟨rfl,div_pos' (fl_pos h1) (fl_pos h.2),rfl,h.2,h.1,rfl⟩
 ·rw [if_neg h];exact .inl ⟨rfl,rfl,rfl⟩
theorem dv_le{i1 j1 i2 j2:Int}(h1:i1<=j1)(h2:i2<=j2)(p1:0<j1)(p2:0<j2):dn (dvA i1 j2).1 (dvA i1 j2).2.1<=up (dvB j1 i2).1 (dvB j1 i2).2.1:=by
 have hM:=M_val;obtain⟨a0,a⟩:=dvA_kind (i1:=i1) p2
 rcases dvB_kind (i2:=i2) p1 with ⟨b0,-,-⟩ | ⟨b0,b1,b2,b3,b4,b5⟩
 ·have:=dn_lt (s:=(dvA i1 j2).1) (x:=(dvA i1 j2).2.1) (.inl a0);unfold up;rw [b0,if_neg (by omega)];omega
 ·rw [a0,b0,dn_zero,up_zero];refine Int.le_trans (rndI_le _) (rndI_mono (.inr rfl) ?_)
  rcases a with ⟨a1,-⟩ | ⟨a1,a2,a3,a4,a5⟩
  ·rw [a1];grind
  ·rw [a5,b5];have f1:=fl_pos p2;have f2:=fl_pos b3;refine div_le_div f1 f2 ?_;have e1:fl i1<=fl j1:=fl_le_iff.2 h1;have e2:fl i2<=fl j2:=fl_le_iff.2 h2;have m1:fl i1*fl i2<=fl j1*fl i2:=(mul_le_pos f2).2 e1;have m2:fl i2*fl j1<=fl j2*fl j1:=(mul_le_pos (fl_pos p1)).2 e2
   grind
theorem FD_iv{i1 j1 i2 j2:Int}(h1:i1<=j1)(h2:i2<=j2)(i j:Int)(hx:Iv i j):Iv (FD i1 j1 i2 j2 i j).1 (FD i1 j1 i2 j2 i j).2:=by
 unfold FD
 by_cases h:j1<=0\/j2<=0
 ·rw [if_pos h];exact Iv.none
 ·rw [if_neg h];refine pf_iv (.inl (dvA_kind (i1:=i1) (show 0<j2 by omega)).1) ?_ (dv_le h1 h2 (by omega) (by omega)) i j hx
  rcases dvB_kind (j1:=j1) (i2:=i2) (by omega) with k | k<;>omega
theorem dvs_FD{i1 j1 i2 j2 i j:Int}(h1:Ne i1 j1)(h2:Ne i2 j2)(hx:Ne i j):dvs i1 j1 i2 j2 i j=FD i1 j1 i2 j2 i j:=by
 have hM:=M_val;unfold Ne at *;unfold dvs FD
 by_cases h:j1<=0\/j2<=0
 ·rw [if_pos h,if_pos h]
 ·rw [if_neg h,if_neg h];have z1:=rndI_zero (d:=-1) (.inl rfl);have z2:=rndI_zero (d:=1) (.inr rfl)
  have eA:(if 0<i1 then ov (es i1) (ex i1) j2 else (0,0))=(dn (dvA i1 j2).1 (dvA i1 j2).2.1,up (dvA i1 j2).1 (dvA i1 j2).2.1):=by
   by_cases p:0<i1
   ·rw [if_pos p,es_mid (by omega) (by omega),ex_mid (by omega) (by omega)];unfold ov;rw [if_neg (by omega)]
    by_cases q:j2<M
    ·have d:dvA i1 j2=(0,fl i1 / fl j2,false):=if_pos ⟨p,q⟩;rw [d,if_neg (by have:=fl_pos p;rintro (h | h);grind;omega)];rfl
    ·have d:dvA i1 j2=(0,0,true):=if_neg (by omega);rw [d,if_pos (.inr (by omega)),dn_zero,up_zero,z1,z2]
   ·have d:dvA i1 j2=(0,0,true):=if_neg (by omega);rw [d,if_neg p,dn_zero,up_zero,z1,z2]
  have eB:(if 0<i2 then ov (es j1) (ex j1) i2 else ((M:Int),(M:Int)))=(dn (dvB j1 i2).1 (dvB j1 i2).2.1,up (dvB j1 i2).1 (dvB j1 i2).2.1):=by
   have u1:dn 1 0=M:=by unfold dn;rw [if_neg (by omega)];omega
   have u2:up 1 0=M:=by unfold up;rw [if_neg (by omega)];omega
   by_cases p:0<i2
   ·rw [if_pos p];unfold ov
    by_cases q:j1<M
    ·have d:dvB j1 i2=(0,fl j1 / fl i2,false):=if_pos ⟨q,p⟩;rw [d,es_mid (by omega) (by omega),ex_mid (by omega) (by omega),if_neg (by omega),if_neg (by have:=fl_pos (show 0<j1 by omega);rintro (h | h);grind;omega)];rfl
    ·have d:dvB j1 i2=(1,0,true):=if_neg (by omega)
     obtain rfl:j1=M:=by omega
     rw [d,es_max,if_pos (by omega),u1,u2,Int.one_mul]
   ·have d:dvB j1 i2=(1,0,true):=if_neg (by omega);rw [d,if_neg p,u1,u2]
  rw [eA,eB];obtain⟨a0,a⟩:=dvA_kind (i1:=i1) (show 0<j2 by omega);have b:=dvB_kind (j1:=j1) (i2:=i2) (by omega)
  obtain⟨⟨sa,xa,fa⟩,ea⟩:∃ z,dvA i1 j2=z:=⟨_,rfl⟩
  obtain⟨⟨sb,xb,fb⟩,eb⟩:∃ z,dvB j1 i2=z:=⟨_,rfl⟩
  rw [ea] at a0 a;rw [eb] at b;rw [ea,eb]
  dsimp only at *
  subst a0;refine ct_tail hx (.inl rfl) (by rcases b with b | b<;>omega) ?_ ?_ ?_ ?_
  ·intro h;rcases a with ⟨a1,-⟩ | ⟨-,a1,-⟩
   ·exact .inr ⟨rfl,a1⟩
   ·rw [a1] at h;cases h
  ·intro h;rcases b with ⟨b1,-,-⟩ | ⟨-,-,b1,-⟩
   ·exact .inl b1
   ·rw [b1] at h;cases h
  ·rw [dn_zero,up_zero]
   rcases a with ⟨a1,a2⟩ | ⟨a1,a2,-⟩
   ·rw [a1,a2,z1,z2];simp
   ·constructor
    ·rintro⟨-,-,h⟩;have:=rndI_pos a1;omega
    ·rintro⟨-,h,-⟩;exfalso;grind
  ·rcases b with ⟨b1,b2,b3⟩ | ⟨b1,b2,b3,-⟩
   ·rw [b1]
    constructor
    ·rintro⟨-,h,-⟩;unfold dn at h;rw [if_neg (by omega)] at h;omega
    ·rintro⟨h,-⟩;omega
   ·rw [b1,up_zero]
    constructor
    ·rintro⟨-,-,h⟩;have:=rndI_pos b2;omega
    ·rintro⟨-,h,-⟩;exfalso;grind
theorem es3(i:Int):es i=0\/es i=1\/es i=-1:=by unfold es;split<;>(try split)<;>omega
theorem up10:up 1 0=M:=by
 have hM:=M_val;unfold up;rw [if_neg (by omega)];omega
theorem dn10:dn 1 0=M:=by
 have hM:=M_val;unfold dn;rw [if_neg (by omega)];omega
theorem up_10:up (-1) 0=-(M:Int):=by
 have hM:=M_val;unfold up;rw [if_neg (by omega)];omega
theorem dn_10:dn (-1) 0=-(M:Int):=by
 have hM:=M_val;unfold dn;rw [if_neg (by omega)];omega
theorem up00:up 0 0=0:=rndI_zero (.inr rfl)
theorem dn00:dn 0 0=0:=rndI_zero (.inl rfl)
theorem zc1{i j:Int}(hx:Ne i j):ctO true i j (-(M:Int)) (-(M:Int)) 0 0=pf (-1) 0 true 0 0 true i j:=by
 have hM:=M_val
 have h:=ct_tail (op:=true) (sa:=-1) (xa:=0) (fa:=true) (sb:=0) (xb:=0) (fb:=true) hx (.inr rfl) (.inl rfl) (fun _=>.inl rfl) (fun _=>.inr ⟨rfl,rfl⟩)
  ⟨fun h=>by have h1:=h.2.1;rw [dn_10] at h1;omega,fun h=>by have h1:=h.1;omega⟩ ⟨fun _=>⟨rfl,rfl,rfl⟩,fun _=>⟨rfl,dn00,up00⟩⟩
 rw [dn_10,up_10,dn00,up00] at h
 exact h
theorem zc2{i j:Int}(hx:Ne i j):ctO true i j 0 0 M M=pf 0 0 true 1 0 true i j:=by
 have hM:=M_val
 have h:=ct_tail (op:=true) (sa:=0) (xa:=0) (fa:=true) (sb:=1) (xb:=0) (fb:=true) hx (.inl rfl) (.inr rfl) (fun _=>.inr ⟨rfl,rfl⟩) (fun _=>.inl rfl)
  ⟨fun _=>⟨rfl,rfl,rfl⟩,fun _=>⟨rfl,dn00,up00⟩⟩ ⟨fun h=>by have h1:=h.2.1;rw [dn10] at h1;omega,fun h=>by have h1:=h.1;omega⟩
 rw [dn10,up10,dn00,up00] at h
 exact h
theorem zc1_iv(i j:Int)(h:Iv i j):Iv (pf (-1) 0 true 0 0 true i j).1 (pf (-1) 0 true 0 0 true i j).2:=by
 have hM:=M_val
 exact pf_iv (.inr rfl) (.inl rfl) (by rw [dn_10,up00];omega) i j h
theorem zc2_iv(i j:Int)(h:Iv i j):Iv (pf 0 0 true 1 0 true i j).1 (pf 0 0 true 1 0 true i j).2:=by
 have hM:=M_val
 exact pf_iv (.inl rfl) (.inr rfl) (by rw [dn00,up10];omega) i j h
theorem divisor_any(i1 j1 i2 j2 i j:Int)(w:World)(h1:Ne i1 j1)(h2:Ne i2 j2)(hx:Ne i j):
  Rt 89 #[Zf (pat i1) (pat j1),Zf (pat i2) (pat j2),Zf (pat i) (pat j)] (Zf (pat (FD i1 j1 i2 j2 i j).1) (pat (FD i1 j1 i2 j2 i j).2)) w:=by
 have hM:=M_val;rw [<- dvs_FD h1 h2 hx];have r1:=h1.iv.lo;have r2:=h1.iv.hi;have r3:=h2.iv.lo;have r4:=h2.iv.hi;unfold dvs
 by_cases h:j1<=0\/j2<=0
 ·rw [if_pos h,pat_max,pat_min];refine divisor_none _ _ _ _ _ _ (compare j1 0) (compare j2 0) w (ord0 r2) (ord0 r4) ?_
  rcases h with h | h
  ·exact .inl fun e=>by have:=Int.compare_eq_gt.1 e;omega
  ·exact .inr fun e=>by have:=Int.compare_eq_gt.1 e;omega
 ·rw [if_neg h];have o1:FloatKind.f64.format.order (pat j1) 0=some .gt:=ord0_gt r2 (by omega);have o2:FloatKind.f64.format.order (pat j2) 0=some .gt:=ord0_gt r4 (by omega)
  have le:∀ k:Int,-(M:Int)<=k/\k<=M->¬ 0<k->FloatKind.f64.format.order (pat k) 0=some .eq\/FloatKind.f64.format.order (pat k) 0=some .lt:=fun k hk hn=>by
   by_cases h0:k=0
   ·exact .inl (ord0_eq h0)
   ·exact .inr (ord0_lt hk (by omega))
  have P1:=fun W=>point_gen i1 W r1;have P2:=fun W=>point_gen j1 W r2;have V1:=fun W g B n k E he=>over_any (es i1) g B n k E (ex i1) j2 W he (by omega) r4.2;have V2:=fun (q:0<i2) W g B n k E he=>over_any (es j1) g B n k E (ex j1) i2 W he q r3.2;have g1:=ov_rng (x:=ex i1) (j:=j2) (es3 i1);have g2:=ov_rng (x:=ex j1) (j:=i2) (es3 j1)
  have z0:-(M:Int)<=0/\(0:Int)<=M:=by omega
  have zM:-(M:Int)<=M/\(M:Int)<=M:=by omega
  have hc:=fun (pd pu qd qu:Int) k1 k2 k3 k4 W=>rcut2_any true i j pd pu qd qu W hx.iv.lo hx.iv.hi k1 k2 k3 k4
  by_cases p:0<i1
  ·rw [if_pos p]
   by_cases q:0<i2
   ·rw [if_pos q]
    exact divisor_pq _ _ _ _ _ _ _ _ _ _ _ _ _ _ _ _ w o1 o2 (ord0_gt r1 p) (ord0_gt r3 q) P1 V1 P2 (V2 q) (hc _ _ _ _ g1.1 g1.2 g2.1 g2.2)
   ·rw [if_neg q];have hc:=hc _ _ _ _ g1.1 g1.2 zM zM;rw [pat_max] at hc
    exact divisor_pi _ _ _ _ _ _ _ _ _ _ _ _ w o1 o2 (ord0_gt r1 p) (le i2 r3 q) P1 V1 hc
  ·rw [if_neg p]
   by_cases q:0<i2
   ·rw [if_pos q];have hc:=hc _ _ _ _ z0 z0 g2.1 g2.2;rw [pat_zero] at hc
    exact divisor_zq _ _ _ _ _ _ _ _ _ _ _ _ w o1 o2 (le i1 r1 p) (ord0_gt r3 q) P2 (V2 q) hc
   ·rw [if_neg q];have hc:=hc _ _ _ _ z0 z0 zM zM;rw [pat_zero,pat_max] at hc
    exact divisor_zi _ _ _ _ _ _ _ _ w o1 o2 (le i1 r1 p) (le i2 r3 q) hc
def dr2(i1 j1 i2 j2 i j:Int):Int × Int:=
 if j1<i1\/j2<i2\/j<i then ((M:Int),-(M:Int))
 else if (i1<=0/\0<=j1)/\(i2<=0/\0<=j2) then (min (pf (-1) 0 true 0 0 true i j).1 (pf 0 0 true 1 0 true i j).1,max (pf (-1) 0 true 0 0 true i j).2 (pf 0 0 true 1 0 true i j).2)
 else (min (min (FD i1 j1 i2 j2 i j).1 (FD (-j1) (-i1) (-j2) (-i2) i j).1) (-(max (FD (-j1) (-i1) i2 j2 (-j) (-i)).2 (FD i1 j1 (-j2) (-i2) (-j) (-i)).2)),
  max (max (FD i1 j1 i2 j2 i j).2 (FD (-j1) (-i1) (-j2) (-i2) i j).2) (-(min (FD (-j1) (-i1) i2 j2 (-j) (-i)).1 (FD i1 j1 (-j2) (-i2) (-j) (-i)).1)))
theorem hull_iv{i j i' j':Int}(h:Iv i j)(h':Iv i' j'):Iv (min i i') (max j j'):=by
 have hM:=M_val;unfold Iv at *
 omega
theorem divrev2_any(b1 b2 c1 c2 x y:Nat)(w:World)(hb1:L64 b1)(hb2:L64 b2)(hc1:L64 c1)(hc2:L64 c2)(hx:L64 x)(hy:L64 y):
  Rt 27 #[Zf b1 b2,Zf c1 c2,Zf x y] (Zf (pat (dr2 (rd b1 b2).1 (rd b1 b2).2 (rd c1 c2).1 (rd c1 c2).2 (rd x y).1 (rd x y).2).1) (pat (dr2 (rd b1 b2).1 (rd b1 b2).2 (rd c1 c2).1 (rd c1 c2).2 (rd x y).1 (rd x y).2).2)) w:=by
 have hM:=M_val;have v1:=rd_iv b1 b2;have v2:=rd_iv c1 c2;have v3:=rd_iv x y;have t1:=fun W=>readf b1 b2 W hb1 hb2;have t2:=fun W=>readf c1 c2 W hc1 hc2;have t3:=fun W=>readf x y W hx hy
 obtain⟨⟨i1,j1⟩,r1⟩:∃ z,rd b1 b2=z:=⟨_,rfl⟩
 obtain⟨⟨i2,j2⟩,r2⟩:∃ z,rd c1 c2=z:=⟨_,rfl⟩
 obtain⟨⟨i3,j3⟩,r3⟩:∃ z,rd x y=z:=⟨_,rfl⟩
 rw [r1] at v1 t1;rw [r2] at v2 t2;rw [r3] at v3 t3;rw [r1,r2,r3]
 dsimp only at *
 have m1:=em_idx v1;have m2:=em_idx v2;have m3:=em_idx v3;unfold dr2
 by_cases hno:j1<i1\/j2<i2\/j3<i3
 ·rw [if_pos hno,pat_max,pat_min]
  exact divrev2_none _ _ _ _ _ _ _ _ _ _ _ _ _ _ _ w t1 m1 t2 m2 t3 m3 (by simp;omega)
 ·rw [if_neg hno]
  have hnn:(decide (j1<i1) || decide (j2<i2) || decide (j3<i3))=false:=by simp;omega
  have n1:=ne_or v1 (by omega);have n2:=ne_or v2 (by omega);have n3:=ne_or v3 (by omega);have H1:=fun W=>has_any i1 j1 W v1.lo v1.hi;have H2:=fun W=>has_any i2 j2 W v2.lo v2.hi
  by_cases hz:(i1<=0/\0<=j1)/\(i2<=0/\0<=j2)
  ·rw [if_pos hz];rw [decide_eq_true hz.1] at H1;rw [decide_eq_true hz.2] at H2
   have z0:-(M:Int)<=0/\(0:Int)<=M:=by omega
   have zM:-(M:Int)<=M/\(M:Int)<=M:=by omega
   have zN:-(M:Int)<=-(M:Int)/\-(M:Int)<=M:=by omega
   have C1:=fun W=>rcut2_any true i3 j3 (-(M:Int)) (-(M:Int)) 0 0 W v3.lo v3.hi zN zN z0 z0;have C2:=fun W=>rcut2_any true i3 j3 0 0 M M W v3.lo v3.hi z0 z0 zM zM;rw [zc1 n3,pat_min,pat_zero] at C1;rw [zc2 n3,pat_max,pat_zero] at C2
   exact divrev2_zero _ _ _ _ _ _ _ _ _ _ _ _ _ _ _ _ _ _ _ _ _ w t1 m1 t2 m2 t3 m3 hnn H1 H2 C1 C2 (fun W=>hullf _ _ _ _ W (zc1_iv _ _ v3) (zc2_iv _ _ v3))
  ·rw [if_neg hz];have n1':=n1;have n2':=n2;unfold Ne at n1' n2';have f1:=FD_iv n1'.2.1 n2'.2.1 i3 j3 v3;have f2:=FD_iv (show -j1<=-i1 by omega) (show -j2<=-i2 by omega) i3 j3 v3;have f3:=FD_iv (show -j1<=-i1 by omega) n2'.2.1 (-j3) (-i3) v3.negg;have f4:=FD_iv n1'.2.1 (show -j2<=-i2 by omega) (-j3) (-i3) v3.negg
   refine divrev2_some _ _ _ _ _ _ _ _ _ _ _ _ _ _ _ _ _ _ _ _ _ _ _ _ _ _ _ _ _ _ _ _ _ _ _ _ _ _ _ w t1 m1 t2 m2 t3 m3 hnn H1 H2 ?_ (fun W=>mirror_idx i1 j1 W v1) (fun W=>mirror_idx i2 j2 W v2) (fun W=>mirror_idx i3 j3 W v3) (fun W=>divisor_any i1 j1 i2 j2 i3 j3 W n1 n2 n3) (fun W=>divisor_any (-j1) (-i1) (-j2) (-i2) i3 j3 W n1.neg n2.neg n3) (fun W=>divisor_any (-j1) (-i1) i2 j2 (-j3) (-i3) W n1.neg n2 n3.neg) (fun W=>divisor_any i1 j1 (-j2) (-i2) (-j3) (-i3) W n1 n2.neg n3.neg)
    (fun W=>hullf _ _ _ _ W f1 f2) (fun W=>hullf _ _ _ _ W f3 f4) (fun W=>mirror_idx _ _ W (hull_iv f3 f4)) (fun W=>hullf _ _ _ _ W (hull_iv f1 f2) (hull_iv f3 f4).negg)
   by_cases ha:i1<=0/\0<=j1
   ·exact .inr ⟨decide_eq_true ha,decide_eq_false fun h=>hz ⟨ha,h⟩⟩
   ·exact .inl (decide_eq_false ha)
def K1:Int:=4607182418800017408
theorem pat_K1:pat K1=4607182418800017408:=by decide
theorem K1_iv:Iv K1 K1:=by
 have hM:=M_val;unfold K1;exact .inl (by omega)
theorem rd_K1:rd 4607182418800017408 4607182418800017408=(K1,K1):=by
 have h:=rd_pat K1_iv;rw [pat_K1] at h
 exact h
theorem reciprev_any(c1 c2 x y:Nat)(w:World)(hc1:L64 c1)(hc2:L64 c2)(hx:L64 x)(hy:L64 y):
  Rt 28 #[Zf c1 c2,Zf x y] (Zf (pat (dr2 K1 K1 (rd c1 c2).1 (rd c1 c2).2 (rd x y).1 (rd x y).2).1) (pat (dr2 K1 K1 (rd c1 c2).1 (rd c1 c2).2 (rd x y).1 (rd x y).2).2)) w:=by
 refine reciprev_walk c1 c2 x y _ _ w fun W=>?_;have h:=divrev2_any 4607182418800017408 4607182418800017408 c1 c2 x y W (by omega) (by omega) hc1 hc2 hx hy;rw [rd_K1] at h
 exact h
section
attribute [local go_sem] run_store_float
end
theorem ct_in{i j pd pu qd qu:Int}{v:Rat}(h:In i j v)(l1:pd<=rndI (-1) v)(l2:pu<=rndI 1 v)(u1:rndI (-1) v<=qd)(u2:rndI 1 v<=qu):In (ct i j pd pu qd qu).1 (ct i j pd pu qd qu).2 v:=by
 have h1:=h.1;have h2:=h.2;unfold ct;rw [if_neg (by omega)]
 exact⟨by dsimp only;omega,by dsimp only;omega⟩
theorem In.pos_hi{i j:Int}{v:Rat}(h:In i j v)(hv:0<v)(hj:j<=M):0<j:=by
 have hM:=M_val
 by_cases c:j=M
 ·omega
 ·have:=h.hi (by omega)
  by_cases z:0<j
  ·exact z
  ·exfalso
   have:=fl_le_iff.2 (show j<=0 by omega);rw [fl_zero] at this
   grind
theorem FD_in{i1 j1 i2 j2 i j:Int}{v r q:Rat}(h:-(M:Int)<=i1/\j1<=M/\-(M:Int)<=i2/\j2<=M/\-(M:Int)<=i/\j<=M)(hq:In i1 j1 q)(q0:0<q)(hc:In i2 j2 r)(r0:0<r)(hx:In i j v)(v0:0<v)(e:v*r=q):In (FD i1 j1 i2 j2 i j).1 (FD i1 j1 i2 j2 i j).2 v:=by
 have hM:=M_val;obtain⟨r1,r2,r3,r4,r5,r6⟩:=h;have n1:=hq.ne r1 r2;have n2:=hc.ne r3 r4;have jp:=hq.pos_hi q0 r2;have kp:=hc.pos_hi r0 r4;unfold Ne at n1 n2;unfold FD;rw [if_neg (by omega)]
 have a:((dvA i1 j2).1=0\/(dvA i1 j2).1=-1)/\((dvA i1 j2).1=0->(dvA i1 j2).2.1<=v)/\((dvA i1 j2).1=0->(dvA i1 j2).2.2=true->(dvA i1 j2).2.1≠v):=by
  unfold dvA
  by_cases c:0<i1/\j2<M
  ·rw [if_pos c];refine⟨.inl rfl,fun _=>?_,fun _ h=>by cases h⟩
   dsimp only
   have p:=fl_pos kp;have e1:=hq.lo (by omega);have e2:=Rat.mul_le_mul_of_nonneg_left (hc.hi c.2) (show 0<=v by grind);rw [<- mul_le_pos p,Rat.div_mul_cancel (by grind)]
   grind
  ·rw [if_neg c]
   exact⟨.inl rfl,fun _=>by dsimp only;grind,fun _ _=>by dsimp only;grind⟩
 have b:((dvB j1 i2).1=0\/(dvB j1 i2).1=1)/\((dvB j1 i2).1=0->v<=(dvB j1 i2).2.1)/\((dvB j1 i2).1=0->(dvB j1 i2).2.2=true->(dvB j1 i2).2.1≠v):=by
  unfold dvB
  by_cases c:j1<M/\0<i2
  ·rw [if_pos c];refine⟨.inl rfl,fun _=>?_,fun _ h=>by cases h⟩
   dsimp only
   have p:=fl_pos c.2;have e1:=hq.hi c.1;have e2:=Rat.mul_le_mul_of_nonneg_left (hc.lo (by omega)) (show 0<=v by grind);rw [<- mul_le_pos p,Rat.div_mul_cancel (by grind)]
   grind
  ·rw [if_neg c]
   exact⟨.inr rfl,fun h=>by dsimp only at h;omega,fun h=>by dsimp only at h;omega⟩
 exact pf_in a.1 b.1 r5 r6 hx a.2.1 a.2.2 b.2.1 b.2.2
theorem In.zero{i j:Int}(h:In i j 0):i<=0/\0<=j:=by
 have a:=h.1;have b:=h.2;rw [rndI_zero (.inl rfl)] at a;rw [rndI_zero (.inr rfl)] at b
 exact⟨a,b⟩
theorem dr2_in{i1 j1 i2 j2 i j:Int}{v q:Rat}(h:-(M:Int)<=i1/\j1<=M/\-(M:Int)<=i2/\j2<=M/\-(M:Int)<=i/\j<=M)(hq:In i1 j1 q)(v0:v≠0)(hc:In i2 j2 (q / v))(hx:In i j v):In (dr2 i1 j1 i2 j2 i j).1 (dr2 i1 j1 i2 j2 i j).2 v:=by
 have hM:=M_val;have l1:=hq.nonempty;have l2:=hc.nonempty;have l3:=hx.nonempty;have hh:=h;obtain⟨r1,r2,r3,r4,r5,r6⟩:=h
 obtain⟨r,hr⟩:∃ r,q / v=r:=⟨_,rfl⟩
 have e:v*r=q:=by rw [<- hr,Rat.mul_comm,Rat.div_mul_cancel v0]
 rw [hr] at hc;unfold dr2;rw [if_neg (by omega)]
 by_cases c:(i1<=0/\0<=j1)/\(i2<=0/\0<=j2)
 ·rw [if_pos c];refine In.hull ?_
  by_cases p:0<v
  ·exact .inr (pf_in (.inl rfl) (.inr rfl) r5 r6 hx (fun _=>by grind) (fun _ _=>by grind) (fun h=>by omega) (fun h=>by omega))
  ·exact .inl (pf_in (.inr rfl) (.inl rfl) r5 r6 hx (fun h=>by omega) (fun h=>by omega) (fun _=>by grind) (fun _ _=>by grind))
 ·rw [if_neg c]
  have q0:q≠0:=by
   rintro rfl
   have r0:r=0:=by rw [<- hr,Rat.div_def,Rat.zero_mul]
   subst r0
   exact c ⟨hq.zero,hc.zero⟩
  have r0:r≠0:=by rintro rfl;rw [Rat.mul_zero] at e;exact q0 e.symm
  have sg:∀ {a b:Rat},0<a->0<a*b->0<b:=fun {a b} ha h=>by
   by_cases z:0<b
   ·exact z
   ·exfalso
    have:=Rat.mul_le_mul_of_nonneg_left (show b<=0 by grind) (show 0<=a by grind);rw [Rat.mul_zero] at this
    grind
  have main:In (FD i1 j1 i2 j2 i j).1 (FD i1 j1 i2 j2 i j).2 v\/In (FD (-j1) (-i1) (-j2) (-i2) i j).1 (FD (-j1) (-i1) (-j2) (-i2) i j).2 v\/In (FD (-j1) (-i1) i2 j2 (-j) (-i)).1 (FD (-j1) (-i1) i2 j2 (-j) (-i)).2 (-v)\/In (FD i1 j1 (-j2) (-i2) (-j) (-i)).1 (FD i1 j1 (-j2) (-i2) (-j) (-i)).2 (-v):=by
   by_cases pv:0<v
   ·by_cases pq:0<q
    ·exact .inl (FD_in hh hq pq hc (sg pv (by rw [e];exact pq)) hx pv e)
    ·exact .inr (.inl (FD_in (q:=-q) (r:=-r) ⟨by omega,by omega,by omega,by omega,r5,r6⟩ hq.neg (by grind) hc.neg (sg pv (by rw [show v*-r=-q by grind];grind)) hx pv (by grind)))
   ·by_cases pq:0<q
    ·exact .inr (.inr (.inr (FD_in (q:=q) (r:=-r) ⟨r1,r2,by omega,by omega,by omega,by omega⟩ hq pq hc.neg (sg (a:=-v) (by grind) (by rw [show -v*-r=q by grind];exact pq)) hx.neg (by grind) (by grind))))
    ·exact .inr (.inr (.inl (FD_in (q:=-q) (r:=r) ⟨by omega,by omega,r3,r4,by omega,by omega⟩ hq.neg (by grind) hc (sg (a:=-v) (by grind) (by rw [show -v*r=-q by grind];grind)) hx.neg (by grind) (by grind))))
  rcases main with k | k | k | k
  ·have a:=k.1;have b:=k.2;exact⟨by dsimp only;omega,by dsimp only;omega⟩
  ·have a:=k.1;have b:=k.2;exact⟨by dsimp only;omega,by dsimp only;omega⟩
  ·have k2:=k.neg;rw [Rat.neg_neg] at k2;have a:=k2.1;have b:=k2.2;exact⟨by dsimp only;omega,by dsimp only;omega⟩
  ·have k2:=k.neg;rw [Rat.neg_neg] at k2;have a:=k2.1;have b:=k2.2;exact⟨by dsimp only;omega,by dsimp only;omega⟩
structure Cl (F:Int->Int->Int × Int):Prop where
 iv:∀ i j,Iv i j->Iv (F i j).1 (F i j).2
 sub:∀ i j,Iv i j->i<=(F i j).1/\(F i j).2<=j
 mono:∀ i j i' j',Iv i j->Iv i' j'->i'<=i->j<=j'->(F i' j').1<=(F i j).1/\(F i j).2<=(F i' j').2
 idem:∀ i j,Iv i j->F (F i j).1 (F i j).2=F i j
theorem Iv.hull{a b c d:Int}(h:Iv a b)(h':Iv c d):Iv (min a c) (max b d):=by
 have hM:=M_val;unfold Iv at *
 omega
theorem Iv.ng{a b:Int}(h:Iv a b):Iv (-b) (-a):=by
 have hM:=M_val;unfold Iv at *
 omega
section
open Go.RowKit
end
section
open Go.RowKit Ieee
end
section
attribute [local go_sem] run_store_float run_frombits run_bitsof run_negf
end
section
open Go.RowKit Ieee
end
section
attribute [local go_sem] run_store_float run_negf
end
theorem fl_nn{i:Int}(h:0<=i):0<=fl i:=by have:=fl_le_iff.2 h;rwa [fl_zero] at this
theorem fl_np{i:Int}(h:i<=0):fl i<=0:=by have:=fl_le_iff.2 h;rwa [fl_zero] at this
theorem in_some{i j:Int}(h:Ne i j):∃ v:Rat,In i j v:=by
 have hM:=M_val;unfold Ne at h
 by_cases h1:-(M:Int)<i
 ·refine⟨fl i,?_,?_⟩
  ·rw [rndI_fl (.inl rfl) h1 (by omega)];omega
  ·rw [rndI_fl (.inr rfl) h1 (by omega)];omega
 ·by_cases h2:j<M
  ·refine⟨fl j,?_,?_⟩
   ·rw [rndI_fl (.inl rfl) (by omega) h2];omega
   ·rw [rndI_fl (.inr rfl) (by omega) h2];omega
  ·refine⟨0,?_,?_⟩
   ·rw [rndI_zero (.inl rfl)];omega
   ·rw [rndI_zero (.inr rfl)];omega
section
attribute [local go_sem] run_store_float
theorem fplainf(b:Nat)(w:World)(hb:L64 b)(hr:rungOf b<=M):Calls prog 191 #[.float .f64 b] w fun e w'=>e=.returned (.float .f64 (pat (idx b)))/\w=w':=by
 have ho:FloatKind.f64.format.order b 0=some (compare (idx b) (idx 0)):=order_real hr (by show rungOf 0<=M;decide);rw [show idx 0=0 from by decide] at ho;have hp:=pl_real hb hr
 by_cases h:idx b=0
 ·have hq:(FloatKind.f64.format.order b 0 == some Ordering.eq)=true:=by rw [ho,h];rfl
  rw [h,pat_zero];clear ho hp h hr
  go_enter func191,ntmps191
  go_wp2
  go_ret
  exact⟨rfl,rfl⟩
 ·have hq:(FloatKind.f64.format.order b 0 == some Ordering.eq)=false:=by
   rw [ho]
   rcases Int.lt_trichotomy (idx b) 0 with h1 | h1 | h1
   ·rw [show compare (idx b) 0=.lt from Int.compare_eq_lt.2 h1];rfl
   ·exact absurd h1 h
   ·rw [show compare (idx b) 0=.gt from Int.compare_eq_gt.2 h1];rfl
  have e:pat (idx b)=b:=by
   rw [<- hp];unfold pl;have:=pat_cases hb;rw [if_neg (by omega),if_neg (by omega)]
  rw [e];clear ho hp h hr e
  go_enter func191,ntmps191
  go_wp2
  go_ret
  exact⟨rfl,rfl⟩
end
section
attribute [local go_sem] run_store_float
attribute [local go_sem] run_negf
theorem turned_walk(b1 b2 r1 r2:Nat)(w:World)(h1:∀ W,Rt 191 #[.float .f64 (Op.negFloat .f64 b2)] (.float .f64 r1) W)(h2:∀ W,Rt 191 #[.float .f64 (Op.negFloat .f64 b1)] (.float .f64 r2) W):
  Rt 173 #[Zf b1 b2] (Zf r1 r2) w:=by
 have H1:=Hd h1;have H2:=Hd h2;clear h1 h2;have LL:=li2 w (Zv b1 b2) 78 (Zv 0 0) 78
 go_enter func173,ntmps173
 go_wp2_with fail;replace LL:=Hd (LL.out.loose1 rfl);refine regL LL (fun hHeld=>?_);clear LL;generalize World.drew _=wk at hHeld  ⊢;refine tks 0 ?_;refine tkb 1 (fun _ h=>(h.blk 0 rfl).c2) ?_;refine tks 2 ?_;refine tks 4 ?_;refine tkb 5 (fun _ h=>(h.blk 0 rfl).c2) ?_;refine tks 6 ?_;refine rcs 3 (H1.out _) ?_;clear hHeld;intro wk hb1 hHeld;clear hb1;refine rcs 7 (H2.out _) ?_;clear hHeld;intro wk hb2 hHeld;clear hb2;refine tks 8 ?_;refine rdy 9 fun KK hKK=>?_;obtain⟨ha0,hf0,ha1,hf1⟩:=(hHeld.has 0 rfl).sf2;go_simp;have HS_0:=(hHeld.has 0 rfl).laid [.float .f64 r1,.float .f64 r2] rfl;refine hKK.out _ _ (hHeld.over 0 rfl [.float .f64 r1,.float .f64 r2] rfl rfl (by first | omega | exact hHeld.le_of 0 rfl) (by simp<;>omega) (by simp<;>omega)) (fun _=>?_);clear hKK KK hHeld;rename_i hHeld;(try simp only [Act.put,lay]);refine wpAnyH_done (by kernel_rfl) ?_ _;have LB:=Hd hHeld.b;clear hHeld;obtain⟨hk2_0,hk2_1⟩:=HS_0.c2;clear HS_0
 simp [sets] at hk2_0 hk2_1
 go_wp2;refine bodyPost_ret (v:=Zf r1 r2) (by simp [results,results173,go_sem,hk2_0,hk2_1]) rfl ?_
 exact⟨rfl,LB.out⟩
theorem turned_idx(k l:Int)(w:World)(hk:-(M:Int)<=k/\k<=M)(hl:-(M:Int)<=l/\l<=M):Rt 173 #[Zf (pat k) (pat l)] (Zf (pat (-l)) (pat (-k))) w:=by
 have n1:=negFloat_val (pat_lt hk.1 hk.2);have n2:=negFloat_val (pat_lt hl.1 hl.2);rw [idx_pat hk.1 hk.2,rung_pat hk.1 hk.2] at n1;rw [idx_pat hl.1 hl.2,rung_pat hl.1 hl.2] at n2;have p1:=fun W=>fplainf _ W n1.1 (by omega);have p2:=fun W=>fplainf _ W n2.1 (by omega);rw [n1.2.2] at p1;rw [n2.2.2] at p2
 exact turned_walk _ _ _ _ w (fun W=>(p2 W).mono fun e w' h=>⟨h.1,h.2 ▸ Below.refl _ _⟩) (fun W=>(p1 W).mono fun e w' h=>⟨h.1,h.2 ▸ Below.refl _ _⟩)
theorem twice_walk(x1 x2 p1 p2 q1 q2 s1 s2 t1 t2 l1 l2 u1 u2 r1 r2:Nat)(op:Bool)(w:World)(hc1:∀ W,Rt 77 #[Zf x1 x2,Zf p1 p2,Zf q1 q2,.bool op] (Zf l1 l2) W)(ht1:∀ W,Rt 173 #[Zf q1 q2] (Zf t1 t2) W)(ht2:∀ W,Rt 173 #[Zf p1 p2] (Zf s1 s2) W)(hc2:∀ W,Rt 77 #[Zf x1 x2,Zf t1 t2,Zf s1 s2,.bool op] (Zf u1 u2) W)
  (hu:∀ W,Rt 63 #[Zf l1 l2,Zf u1 u2] (Zf r1 r2) W):
  Rt 104 #[Zf x1 x2,Zf p1 p2,Zf q1 q2,.bool op] (Zf r1 r2) w:=by
 have HC1:=Hd hc1;have HT1:=Hd ht1;have HT2:=Hd ht2;have HC2:=Hd hc2;have HU:=Hd hu;clear hc1 ht1 ht2 hc2 hu;have LL:=li4 w (Zv x1 x2) 28 (Zv p1 p2) 78 (Zv q1 q2) 78 (Zv 0 0) 28
 go_enter func104,ntmps104
 go_wp2_with fail;replace LL:=Hd (LL.out.loose3 rfl);refine regL LL (fun hHeld=>?_);clear LL;generalize World.drew _=wk at hHeld  ⊢;refine tkb 0 (fun _ h=>(h.blk 0 rfl).c2) ?_;refine tkb 1 (fun _ h=>(h.blk 1 rfl).c2) ?_;refine tkb 2 (fun _ h=>(h.blk 2 rfl).c2) ?_;refine tks 3 ?_;refine tkb 5 (fun _ h=>(h.blk 0 rfl).c2) ?_;refine tkb 6 (fun _ h=>(h.blk 2 rfl).c2) ?_;refine tkb 8 (fun _ h=>(h.blk 1 rfl).c2) ?_;refine tks 10 ?_;refine rcs 4 (HC1.out _) ?_;clear hHeld;intro wk hb1 hHeld;clear hb1;refine rcs 7 (HT1.out _) ?_;clear hHeld;intro wk hb2 hHeld;clear hb2;refine rcs 9 (HT2.out _) ?_;clear hHeld;intro wk hb3 hHeld;clear hb3;refine rcs 11 (HC2.out _) ?_;clear hHeld;intro wk hb4 hHeld;clear hb4;refine rcs 12 (HU.out _) ?_;clear hHeld;intro wk hb5 hHeld;clear hb5;refine rdy 13 fun KK hKK=>?_;obtain⟨ha0,hf0,ha1,hf1⟩:=(hHeld.has 0 rfl).sf2;go_simp;have HS_0:=(hHeld.has 0 rfl).laid [.float .f64 r1,.float .f64 r2] rfl;refine hKK.out _ _ (hHeld.over 0 rfl [.float .f64 r1,.float .f64 r2] rfl rfl (by first | omega | exact hHeld.le_of 0 rfl) (by simp<;>omega) (by simp<;>omega)) (fun _=>?_);clear hKK KK hHeld;rename_i hHeld;(try simp only [Act.put,lay]);refine wpAnyH_done (by kernel_rfl) ?_ _;have LB:=Hd hHeld.b;clear hHeld;obtain⟨hk8_0,hk8_1⟩:=HS_0.c2;clear HS_0
 simp [sets] at hk8_0 hk8_1
 go_wp2;refine bodyPost_ret (v:=Zf r1 r2) (by simp [results,results104,go_sem,hk8_0,hk8_1]) rfl ?_
 exact⟨rfl,LB.out⟩
theorem negrev_walk(c1 c2 x1 x2 m1 m2 r1 r2:Nat)(w:World)(hm:∀ W,Rt 85 #[Zf c1 c2] (Zf m1 m2) W)(hi:∀ W,Rt 62 #[Zf m1 m2,Zf x1 x2] (Zf r1 r2) W):
  Rt 49 #[Zf c1 c2,Zf x1 x2] (Zf r1 r2) w:=by
 have HM:=Hd hm;have HI:=Hd hi;clear hm hi;have LL:=li3 w (Zv c1 c2) 28 (Zv x1 x2) 28 (Zv 0 0) 28
 go_enter func49,ntmps49
 go_wp2_with fail;replace LL:=Hd (LL.out.loose2 rfl);refine regL LL (fun hHeld=>?_);clear LL;generalize World.drew _=wk at hHeld  ⊢;refine tkb 0 (fun _ h=>(h.blk 0 rfl).c2) ?_;refine tkb 2 (fun _ h=>(h.blk 1 rfl).c2) ?_;refine rcs 1 (HM.out _) ?_;clear hHeld;intro wk hb1 hHeld;clear hb1;refine rcs 3 (HI.out _) ?_;clear hHeld;intro wk hb2 hHeld;clear hb2;refine rdy 4 fun KK hKK=>?_;obtain⟨ha0,hf0,ha1,hf1⟩:=(hHeld.has 0 rfl).sf2;go_simp;have HS_0:=(hHeld.has 0 rfl).laid [.float .f64 r1,.float .f64 r2] rfl;refine hKK.out _ _ (hHeld.over 0 rfl [.float .f64 r1,.float .f64 r2] rfl rfl (by first | omega | exact hHeld.le_of 0 rfl) (by simp<;>omega) (by simp<;>omega)) (fun _=>?_);clear hKK KK hHeld;rename_i hHeld;(try simp only [Act.put,lay]);refine wpAnyH_done (by kernel_rfl) ?_ _;have LB:=Hd hHeld.b;clear hHeld;obtain⟨hk4_0,hk4_1⟩:=HS_0.c2;clear HS_0
 simp [sets] at hk4_0 hk4_1
 go_wp2;refine bodyPost_ret (v:=Zf r1 r2) (by simp [results,results49,go_sem,hk4_0,hk4_1]) rfl ?_
 exact⟨rfl,LB.out⟩
theorem absrev_none(b1 b2 c1 c2 A1 A2 x1 x2:Nat)(d1 d2:Bool)(w:World)(t1:∀ W,Rt 102 #[Zf b1 b2] (Zf A1 A2) W)(m1:Em d1 A1 A2)(t2:∀ W,Rt 102 #[Zf c1 c2] (Zf x1 x2) W)(m2:Em d2 x1 x2)(hnn:(d1 || d2)=true):
  Rt 50 #[Zf b1 b2,Zf c1 c2] (Zf 9218868437227405312 18442240474082181120) w:=by
 have HE:=Hd emptyf;have HRD:=readL32 w (Zv 0 0) 28 t1 m1 t2 m2 hnn;clear t1 m1 t2 m2 hnn
 go_enter func50,ntmps50
 go_wp2_with fail;refine HRD.out.mono ?_;rintro e wk ⟨rfl,hl⟩;have LL:=Hd hl;clear hl HRD;go_wp2_with fail;refine cx (HE.out _) fun wk hb=>?_;replace LL:=stL LL hb;clear hb;replace LL:=Hd (LL.out.loose2 rfl);obtain⟨ha4_0,hf4_0,ha4_1,hf4_1⟩:=(LL.out.has 0 rfl).sf2;have LF:=Hd (LL.out.wr [.float .f64 9218868437227405312,.float .f64 18442240474082181120]);obtain⟨hk4_0,hk4_1⟩:=(LF.out.blk 2 rfl).c2
 simp [sets] at hk4_0 hk4_1
 clear LL;go_wp2;refine bodyPost_ret (v:=Zf 9218868437227405312 18442240474082181120) (by simp [results,results50,go_sem,hk4_0,hk4_1]) rfl ?_
 exact⟨rfl,LF.out.b⟩
theorem absrev_neg(b1 b2 c1 c2 A1 A2 x1 x2:Nat)(d1 d2:Bool)(w:World)(t1:∀ W,Rt 102 #[Zf b1 b2] (Zf A1 A2) W)(m1:Em d1 A1 A2)(t2:∀ W,Rt 102 #[Zf c1 c2] (Zf x1 x2) W)(m2:Em d2 x1 x2)(hnn:(d1 || d2)=false)(ho:FloatKind.f64.format.order A2 0=some .lt):
  Rt 50 #[Zf b1 b2,Zf c1 c2] (Zf 9218868437227405312 18442240474082181120) w:=by
 have HE:=Hd emptyf;have HRD:=readL32 w (Zv 0 0) 28 t1 m1 t2 m2 hnn;clear t1 m1 t2 m2 hnn
 go_enter func50,ntmps50
 go_wp2_with fail;refine HRD.out.mono ?_;rintro e wk ⟨rfl,hl⟩;have LL:=Hd hl;clear hl HRD;obtain⟨q1_0,q1_1⟩:=(LL.out.blk 0 rfl).c2;go_wp2_with fail;refine cx (HE.out _) fun wk hb=>?_;replace LL:=stL LL hb;clear hb q1_0 q1_1 ho;replace LL:=Hd (LL.out.loose2 rfl);obtain⟨ha4_0,hf4_0,ha4_1,hf4_1⟩:=(LL.out.has 0 rfl).sf2;have LF:=Hd (LL.out.wr [.float .f64 9218868437227405312,.float .f64 18442240474082181120]);obtain⟨hk4_0,hk4_1⟩:=(LF.out.blk 2 rfl).c2
 simp [sets] at hk4_0 hk4_1
 clear LL;go_wp2;refine bodyPost_ret (v:=Zf 9218868437227405312 18442240474082181120) (by simp [results,results50,go_sem,hk4_0,hk4_1]) rfl ?_
 exact⟨rfl,LF.out.b⟩
theorem absrev_some(b1 b2 c1 c2 A1 A2 x1 x2 mx r1 r2:Nat)(d1 d2:Bool)(w:World)(t1:∀ W,Rt 102 #[Zf b1 b2] (Zf A1 A2) W)(m1:Em d1 A1 A2)(t2:∀ W,Rt 102 #[Zf c1 c2] (Zf x1 x2) W)(m2:Em d2 x1 x2)(hnn:(d1 || d2)=false)(ho:(FloatKind.f64.format.order A2 0 == some Ordering.lt)=false)
  (hmx:∀ W ts t,(Builtin.max_ ts t (Zv A1 0)).run prog W=.ok (.float .f64 mx) W)(ht:∀ W,Rt 104 #[Zf x1 x2,Zf mx mx,Zf A2 A2,.bool false] (Zf r1 r2) W):
  Rt 50 #[Zf b1 b2,Zf c1 c2] (Zf r1 r2) w:=by
 have HP:=Hd fun W=>at_any mx W;have HQ:=Hd fun W=>at_any A2 W;have HT:=Hd ht;clear ht;have HRD:=readL32 w (Zv 0 0) 28 t1 m1 t2 m2 hnn;clear t1 m1 t2 m2 hnn
 go_enter func50,ntmps50
 go_wp2_with fail;refine HRD.out.mono ?_;rintro e wk ⟨rfl,hl⟩;have LL:=Hd hl;clear hl HRD;obtain⟨q1_0,q1_1⟩:=(LL.out.blk 0 rfl).c2
 go_upto_region 3 with fail
 clear ho q1_0 q1_1;replace LL:=Hd (LL.out.loose2 rfl);refine regL LL (fun hHeld=>?_);clear LL;generalize World.drew _=wk at hHeld  ⊢;refine tkb 0 (fun _ h=>(h.blk 1 rfl).c2) ?_;refine tks 1 ?_;refine tkb 2 (fun _ h=>(h.blk 0 rfl).c2) ?_;refine tks 5 ?_;refine tkb 6 (fun _ h=>(h.blk 0 rfl).c2) ?_;refine rdy 3 fun KK hKK=>?_;go_simp;refine hKK.out _ _ hHeld (fun _=>?_);clear hKK KK hHeld;rename_i hHeld;(try simp only [Act.put,lay]);refine rcs 4 (HP.out _) ?_;clear hHeld;intro wk hb1 hHeld;clear hb1;refine rcs 7 (HQ.out _) ?_;clear hHeld;intro wk hb2 hHeld;clear hb2;refine rcs 8 (HT.out _) ?_;clear hHeld;intro wk hb3 hHeld;clear hb3;refine rdy 9 fun KK hKK=>?_;obtain⟨ha0,hf0,ha1,hf1⟩:=(hHeld.has 0 rfl).sf2;go_simp;have HS_0:=(hHeld.has 0 rfl).laid [.float .f64 r1,.float .f64 r2] rfl;refine hKK.out _ _ (hHeld.over 0 rfl [.float .f64 r1,.float .f64 r2] rfl rfl (by first | omega | exact hHeld.le_of 0 rfl) (by simp<;>omega) (by simp<;>omega)) (fun _=>?_);clear hKK KK hHeld;rename_i hHeld;(try simp only [Act.put,lay]);refine wpAnyH_done (by kernel_rfl) ?_ _;have LB:=Hd hHeld.b;clear hHeld;obtain⟨hk4_0,hk4_1⟩:=HS_0.c2;clear HS_0
 simp [sets] at hk4_0 hk4_1
 go_wp2;refine bodyPost_ret (v:=Zf r1 r2) (by simp [results,results50,go_sem,hk4_0,hk4_1]) rfl ?_
 exact⟨rfl,LB.out⟩
def abr(i2 j2 i j:Int):Int × Int:=
 if j2<i2\/j<i\/j2<0 then ((M:Int),-(M:Int))
 else (min (ctO false i j (max i2 0) (max i2 0) j2 j2).1 (ctO false i j (-j2) (-j2) (-(max i2 0)) (-(max i2 0))).1,max (ctO false i j (max i2 0) (max i2 0) j2 j2).2 (ctO false i j (-j2) (-j2) (-(max i2 0)) (-(max i2 0))).2)
theorem ctO_iv{i j a b:Int}(h:Iv i j)(h0:¬ j<i)(ha:-(M:Int)<=a/\a<M)(hb:-(M:Int)<b/\b<=M)(hab:a<=b):Iv (ctO false i j a a b b).1 (ctO false i j a a b b).2:=by
 have hM:=M_val;unfold ctO
 by_cases c:b<i\/j<a
 ·rw [if_pos c];exact Iv.none
 ·rw [if_neg c,if_neg (show ¬ (false=true/\(a=0/\a=0/\j<=0\/b=0/\b=0/\0<=i)) from fun h=>by cases h.1)];unfold Iv at *
  dsimp only
  omega
theorem negrev_any(c1 c2 x y:Nat)(w:World)(hc1:L64 c1)(hc2:L64 c2)(hx:L64 x)(hy:L64 y):
  Rt 49 #[Zf c1 c2,Zf x y] (Zf (pat (it (-(rd c1 c2).2) (-(rd c1 c2).1) (rd x y).1 (rd x y).2).1) (pat (it (-(rd c1 c2).2) (-(rd c1 c2).1) (rd x y).1 (rd x y).2).2)) w:=
 negrev_walk _ _ _ _ _ _ _ _ w (fun W=>mirrorf c1 c2 W hc1 hc2) (fun W=>inter_gen _ _ _ _ _ _ x y W (rd_iv c1 c2).negg (rd_iv x y) (fun W=>readf_idx _ _ W (rd_iv c1 c2).negg) (fun W=>readf x y W hx hy))
theorem absrev_any(c1 c2 x y:Nat)(w:World)(hc1:L64 c1)(hc2:L64 c2)(hx:L64 x)(hy:L64 y):
  Rt 50 #[Zf c1 c2,Zf x y] (Zf (pat (abr (rd c1 c2).1 (rd c1 c2).2 (rd x y).1 (rd x y).2).1) (pat (abr (rd c1 c2).1 (rd c1 c2).2 (rd x y).1 (rd x y).2).2)) w:=by
 have hM:=M_val;have v2:=rd_iv c1 c2;have v3:=rd_iv x y;have t2:=fun W=>readf c1 c2 W hc1 hc2;have t3:=fun W=>readf x y W hx hy
 obtain⟨⟨i2,j2⟩,r2⟩:∃ z,rd c1 c2=z:=⟨_,rfl⟩
 obtain⟨⟨i3,j3⟩,r3⟩:∃ z,rd x y=z:=⟨_,rfl⟩
 rw [r2] at v2 t2;rw [r3] at v3 t3;rw [r2,r3]
 dsimp only at *
 have m2:=em_idx v2;have m3:=em_idx v3;unfold abr
 by_cases hno:j2<i2\/j3<i3
 ·rw [if_pos (by omega),pat_max,pat_min]
  exact absrev_none _ _ _ _ _ _ _ _ _ _ w t2 m2 t3 m3 (by simp;omega)
 ·have hnn:(decide (j2<i2) || decide (j3<i3))=false:=by simp;omega
  by_cases h0:j2<0
  ·rw [if_pos (by omega),pat_max,pat_min]
   exact absrev_neg _ _ _ _ _ _ _ _ _ _ w t2 m2 t3 m3 hnn (ord0_lt v2.hi h0)
  ·rw [if_neg (by omega)];have n2:=ne_or v2 (by omega);unfold Ne at n2;have hmx:=fun W ts t=>run_maxf v2.lo (show -(M:Int)<=0/\(0:Int)<=M by omega) W ts t;rw [pat_zero] at hmx
   have oo:(FloatKind.f64.format.order (pat j2) 0 == some Ordering.lt)=false:=by
    by_cases h:j2=0
    ·rw [ord0_eq h];rfl
    ·rw [ord0_gt v2.hi (by omega)];rfl
   have ka:-(M:Int)<=max i2 0/\max i2 0<=M:=by omega
   have kn:-(M:Int)<=-max i2 0/\-max i2 0<=M:=by omega
   have kj:-(M:Int)<=-j2/\-j2<=M:=by omega
   refine absrev_some _ _ _ _ _ _ _ _ _ _ _ _ _ w t2 m2 t3 m3 hnn oo hmx fun W=>?_
   exact twice_walk _ _ _ _ _ _ _ _ _ _ _ _ _ _ _ _ false W (fun W=>rcut2_any false i3 j3 (max i2 0) (max i2 0) j2 j2 W v3.lo v3.hi ka ka v2.hi v2.hi) (fun W=>turned_idx j2 j2 W v2.hi v2.hi) (fun W=>turned_idx _ _ W ka ka) (fun W=>rcut2_any false i3 j3 (-j2) (-j2) (-max i2 0) (-max i2 0) W v3.lo v3.hi kj kj kn kn)
    (fun W=>hullf _ _ _ _ W (ctO_iv v3 (by omega) (by omega) (by omega) (by omega)) (ctO_iv v3 (by omega) (by omega) (by omega) (by omega)))
end
end Go.Proofs.YthlmlmfebpjgdaaGreatDoor
