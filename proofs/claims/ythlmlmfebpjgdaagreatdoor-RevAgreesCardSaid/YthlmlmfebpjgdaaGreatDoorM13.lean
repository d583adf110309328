/-
Lemmas for the statement: Div2T DvtT RmT RwT RngT Hd3P ClO.
-/
import Derived.Test.YthlmlmfebpjgdaaGreatDoorM11
import Derived.Test.YthlmlmfebpjgdaaGreatDoorM08
import Derived.Deep.DeepCutAuto
import Derived.Test.YthlmlmfebpjgdaaGreatDoorM01
import Derived.Test.YthlmlmfebpjgdaaGreatDoorM12
import Derived.Test.YthlmlmfebpjgdaaGreatDoorM03
import Derived.Test.YthlmlmfebpjgdaaGreatDoorM07
import Derived.Test.YthlmlmfebpjgdaaGreatDoorM02
set_option linter.unusedSimpArgs false
set_option linter.unusedVariables false
set_option maxHeartbeats 12800000
namespace Go.Proofs.YthlmlmfebpjgdaaGreatDoor
section
open Go.RowKit
attribute [local go_sem] run_store_float
set_option maxRecDepth 8000 in
theorem divisor_none(A1 A2 C1 C2 x1 x2:Nat)(o1 o2:Ordering)(w:World)(h1:FloatKind.f64.format.order A2 0=some o1)(h2:FloatKind.f64.format.order C2 0=some o2)(hc:o1≠.gt\/o2≠.gt):
  Rt 89 #[Zf A1 A2,Zf C1 C2,Zf x1 x2] (Zf 9218868437227405312 18442240474082181120) w:=by
 have HE:=Hd emptyf
 have hc2:o1=.eq\/o1=.lt\/(o1=.gt/\(o2=.eq\/o2=.lt)):=by cases o1<;>cases o2<;>simp at hc ⊢
 have H1:=Hd h1;have H2:=Hd h2;clear h1 h2;have HC:=Hd hc2;clear hc hc2;have LL:=li4 w (Zv A1 A2) 28 (Zv C1 C2) 28 (Zv x1 x2) 28 (Zv 0 0) 28
 rcases HC.out with e | e | ⟨e,e2 | e2⟩<;>subst e<;>(try subst e2)<;>clear HC<;>have h1:=H1.out<;>have h2:=H2.out<;>clear H1 H2
 all_goals
  go_enter Tryz.func89,Tryz.ntmps89
  obtain⟨q1_0,q1_1⟩:=(LL.out.blk 0 rfl).c2;obtain⟨q2_0,q2_1⟩:=(LL.out.blk 1 rfl).c2;go_wp2_with fail;refine cx (HE.out _) fun wk hb=>?_;replace LL:=stL LL hb;clear hb q1_0 q1_1 q2_0 q2_1 h1 h2;replace LL:=Hd (LL.out.loose3 rfl);obtain⟨ha6_0,hf6_0,ha6_1,hf6_1⟩:=(LL.out.has 0 rfl).sf2;have LF:=Hd (LL.out.wr [.float .f64 9218868437227405312,.float .f64 18442240474082181120]);obtain⟨hk6_0,hk6_1⟩:=(LF.out.blk 3 rfl).c2
  simp [sets] at hk6_0 hk6_1
  clear LL;go_wp2;refine bodyPost_ret (v:=Zf 9218868437227405312 18442240474082181120) (by simp [results,Tryz.results89,go_sem,hk6_0,hk6_1]) rfl ?_
  exact⟨rfl,LF.out.b⟩
set_option maxRecDepth 8000 in
theorem divisor_pq(A1 A2 C1 C2 x1 x2 r1 r2:Nat)(p1 p2:Nat)(s1:Int)(y1:Rat)(q1 q2:Nat)(s2:Int)(y2:Rat)(w:World)(h1:FloatKind.f64.format.order A2 0=some .gt)(h2:FloatKind.f64.format.order C2 0=some .gt)(ha:FloatKind.f64.format.order A1 0=some .gt)(hcc:FloatKind.f64.format.order C1 0=some .gt)(hp:∀ W,Calls Tryz.prog 100 #[.float .f64 A1] W (NewExI W s1 y1))(ho:∀ W (g1:Bool) (B1:Option Addr) (n1 k1:Nat) (E1:Int),ExI W s1 g1 B1 n1 k1 E1 y1->Rt 157 #[.agg #[.int .i64 s1,.bool g1,.slice B1 n1 k1,.int .i64 E1],.float .f64 C2] (Zf p1 p2) W)(hp2:∀ W,Calls Tryz.prog 100 #[.float .f64 A2] W (NewExI W s2 y2))(ho2:∀ W (g2:Bool) (B2:Option Addr) (n2 k2:Nat) (E2:Int),ExI W s2 g2 B2 n2 k2 E2 y2->Rt 157 #[.agg #[.int .i64 s2,.bool g2,.slice B2 n2 k2,.int .i64 E2],.float .f64 C1] (Zf q1 q2) W)
  (hcut:∀ W,Rt 77 #[Zf x1 x2,Zf p1 p2,Zf q1 q2,.bool true] (Zf r1 r2) W):
  Rt 89 #[Zf A1 A2,Zf C1 C2,Zf x1 x2] (Zf r1 r2) w:=by
 have HZ:=Hd fun W=>at_any 0 W;have HI:=Hd fun W=>inf_pos W;have HT:=Hd fun W=>at_any 9218868437227405312 W;have H1:=Hd h1;have H2:=Hd h2;have HA:=Hd ha;have HCC:=Hd hcc;have HCUT:=Hd hcut;have HP:=Hd hp;have HO:=Hd ho;have HP2:=Hd hp2;have HO2:=Hd ho2;clear h1 h2 ha hcc hcut hp ho hp2 ho2;have LL:=li4 w (Zv A1 A2) 28 (Zv C1 C2) 28 (Zv x1 x2) 28 (Zv 0 0) 28;have ha:=HA.out;have hcc:=HCC.out;have h1:=H1.out;have h2:=H2.out;clear H1 H2 HA HCC
 go_enter Tryz.func89,Tryz.ntmps89
 obtain⟨q1_0,q1_1⟩:=(LL.out.blk 0 rfl).c2;obtain⟨q2_0,q2_1⟩:=(LL.out.blk 1 rfl).c2;go_wp2_with fail;refine cx (HZ.out _) fun wk hb=>?_;replace LL:=stL LL hb;clear hb q1_0 q1_1 q2_0 q2_1 h1 h2;go_wp2_with fail;refine (HI.out _).mono ?_;rintro e wk ⟨rfl,rfl⟩;go_wp2_with fail;refine cx (HT.out _) fun wk hb=>?_;replace LL:=stL LL hb;clear hb
 go_upto_region 4 with fail
 have hl_j7:=LL.out.lts;generalize hwm:World.alloc wk _=wm;replace LL:=Hd (LL.out.newE hwm)
 have hz:wm.heap.size=wk.heap.size+1:=by rw [<- hwm];simp
 clear hwm;generalize hwn:World.alloc wm _=wn;replace LL:=Hd (LL.out.newE hwn);rw [hz] at LL
 simp only [List.cons_append,List.nil_append] at LL
 simp only [List.mem_cons,List.not_mem_nil,or_false,forall_eq_or_imp,forall_eq,false_imp_iff,implies_true,and_true] at hl_j7
 clear hwn hz;generalize wk.heap.size=j7 at LL hl_j7 ⊢;obtain⟨q3_0,q3_1⟩:=(LL.out.blk 0 rfl).c2;go_wp2_with fail;clear q3_0 q3_1;replace LL:=Hd (LL.out.loose 4 rfl rfl)
 simp only [List.eraseIdx,List.size_toArray,List.length_cons,List.length_nil,Nat.zero_add,Nat.reduceAdd] at LL
 refine regL LL (fun hHeld=>?_);clear LL;generalize World.drew _=wk at hHeld  ⊢;refine tks 0 ?_;refine tkb 1 (fun _ h=>(h.blk 0 rfl).c2) ?_;refine tks 3 ?_;refine tkb 4 (fun _ h=>(h.blk 1 rfl).c2) ?_;refine rdy 2 fun KK hKK=>?_;go_simp;refine (HP.out _).mono ?_;rintro e wk ⟨g1,B1,n1,k1,E1,rfl,he1,hb1⟩;go_wp2_with fail;refine hKK.out _ _ (hHeld.keep hb1) (fun _=>?_);clear hKK KK hHeld;rename_i hHeld;(try simp only [Act.put,lay]);have HE1:=Hd he1;clear he1;clear hb1;refine rdy 5 fun KK hKK=>?_;go_simp;refine cs (HO.out _ _ _ _ _ _ HE1.out) ?_;clear hKK KK hHeld;intro wk hb2 hHeld;(try replace HE1:=Hd (HE1.out.below hb2));clear hb2;refine rdy 6 fun KK hKK=>?_;obtain⟨ha0,hf0,ha1,hf1⟩:=(hHeld.has 0 rfl).sf2;obtain⟨csx,hbx,-,hcx⟩:=hHeld.has 0 rfl;replace HE1:=Hd (HE1.out.setB hbx hcx 0 [.float .f64 p1,.float .f64 p2]);clear hbx hcx;go_simp;have HS_0:=(hHeld.has 0 rfl).laid [.float .f64 p1,.float .f64 p2] rfl;refine hKK.out _ _ (hHeld.over 0 rfl [.float .f64 p1,.float .f64 p2] rfl rfl (by first | omega | exact hHeld.le_of 0 rfl) (by simp<;>omega) (by simp<;>omega)) (fun _=>?_);clear hKK KK hHeld;rename_i hHeld;(try simp only [Act.put,lay])
 replace hHeld:=(show Lies _ (sets wk j7 0 [.float .f64 p1,.float .f64 p2]) _ _ from hHeld)
 obtain⟨wk,hwn⟩:∃ X,sets wk j7 0 [.float .f64 p1,.float .f64 p2]=X:=⟨_,rfl⟩
 rw [hwn] at hHeld HE1 HS_0
 simp only [sets] at hwn
 rw [hwn];clear hwn;refine wpAnyH_done (by kernel_rfl) ?_ _;have LL:=Hd (hHeld.tight HS_0)
 simp only [List.cons_append,List.nil_append] at LL
 clear hHeld HS_0;clear HE1 ha;obtain⟨q4_0,q4_1⟩:=(LL.out.blk 1 rfl).c2;go_wp2_with fail;clear q4_0 q4_1;replace LL:=Hd (LL.out.loose 4 rfl rfl)
 simp only [List.eraseIdx,List.size_toArray,List.length_cons,List.length_nil,Nat.zero_add,Nat.reduceAdd] at LL
 refine regL LL (fun hHeld=>?_);clear LL;generalize World.drew _=wk at hHeld  ⊢;refine tks 0 ?_;refine tkb 1 (fun _ h=>(h.blk 0 rfl).c2) ?_;refine tks 3 ?_;refine tkb 4 (fun _ h=>(h.blk 1 rfl).c2) ?_;refine rdy 2 fun KK hKK=>?_;go_simp;refine (HP2.out _).mono ?_;rintro e wk ⟨g2,B2,n2,k2,E2,rfl,he2,hb1⟩;go_wp2_with fail;refine hKK.out _ _ (hHeld.keep hb1) (fun _=>?_);clear hKK KK hHeld;rename_i hHeld;(try simp only [Act.put,lay]);have HE2:=Hd he2;clear he2;clear hb1;refine rdy 5 fun KK hKK=>?_;go_simp;refine cs (HO2.out _ _ _ _ _ _ HE2.out) ?_;clear hKK KK hHeld;intro wk hb2 hHeld;(try replace HE2:=Hd (HE2.out.below hb2));clear hb2;refine rdy 6 fun KK hKK=>?_;obtain⟨ha0,hf0,ha1,hf1⟩:=(hHeld.has 0 rfl).sf2;obtain⟨csx,hbx,-,hcx⟩:=hHeld.has 0 rfl;replace HE2:=Hd (HE2.out.setB hbx hcx 0 [.float .f64 q1,.float .f64 q2]);clear hbx hcx;go_simp;have HS_0:=(hHeld.has 0 rfl).laid [.float .f64 q1,.float .f64 q2] rfl;refine hKK.out _ _ (hHeld.over 0 rfl [.float .f64 q1,.float .f64 q2] rfl rfl (by first | omega | exact hHeld.le_of 0 rfl) (by simp<;>omega) (by simp<;>omega)) (fun _=>?_);clear hKK KK hHeld;rename_i hHeld;(try simp only [Act.put,lay])
 replace hHeld:=(show Lies _ (sets wk (j7+1) 0 [.float .f64 q1,.float .f64 q2]) _ _ from hHeld)
 obtain⟨wk,hwn⟩:∃ X,sets wk (j7+1) 0 [.float .f64 q1,.float .f64 q2]=X:=⟨_,rfl⟩
 rw [hwn] at hHeld HE2 HS_0
 simp only [sets] at hwn
 rw [hwn];clear hwn;refine wpAnyH_done (by kernel_rfl) ?_ _;have LL:=Hd (hHeld.tight HS_0)
 simp only [List.cons_append,List.nil_append] at LL
 clear hHeld HS_0;clear HE2 hcc;obtain⟨q5_0,q5_1⟩:=(LL.out.blk 2 rfl).c2;obtain⟨q6_0,q6_1⟩:=(LL.out.blk 4 rfl).c2;obtain⟨q7_0,q7_1⟩:=(LL.out.blk 5 rfl).c2;go_wp2_with fail;refine cx (HCUT.out _) fun wk hb=>?_;replace LL:=stL LL hb;clear hb q5_0 q5_1 q6_0 q6_1 q7_0 q7_1;replace LL:=Hd (LL.out.loose3 rfl);obtain⟨ha6_0,hf6_0,ha6_1,hf6_1⟩:=(LL.out.has 0 rfl).sf2;have LF:=Hd (LL.out.wr [.float .f64 r1,.float .f64 r2]);obtain⟨hk6_0,hk6_1⟩:=(LF.out.blk 5 rfl).c2
 simp [sets] at hk6_0 hk6_1
 clear LL;go_wp2;refine bodyPost_ret (v:=Zf r1 r2) (by simp [results,Tryz.results89,go_sem,hk6_0,hk6_1]) rfl ?_
 exact⟨rfl,LF.out.b⟩
set_option maxRecDepth 8000 in
theorem divisor_pi(A1 A2 C1 C2 x1 x2 r1 r2:Nat)(p1 p2:Nat)(s1:Int)(y1:Rat)(w:World)(h1:FloatKind.f64.format.order A2 0=some .gt)(h2:FloatKind.f64.format.order C2 0=some .gt)(ha:FloatKind.f64.format.order A1 0=some .gt)(hcc:FloatKind.f64.format.order C1 0=some .eq\/FloatKind.f64.format.order C1 0=some .lt)(hp:∀ W,Calls Tryz.prog 100 #[.float .f64 A1] W (NewExI W s1 y1))(ho:∀ W (g1:Bool) (B1:Option Addr) (n1 k1:Nat) (E1:Int),ExI W s1 g1 B1 n1 k1 E1 y1->Rt 157 #[.agg #[.int .i64 s1,.bool g1,.slice B1 n1 k1,.int .i64 E1],.float .f64 C2] (Zf p1 p2) W)
  (hcut:∀ W,Rt 77 #[Zf x1 x2,Zf p1 p2,Zf 9218868437227405312 9218868437227405312,.bool true] (Zf r1 r2) W):
  Rt 89 #[Zf A1 A2,Zf C1 C2,Zf x1 x2] (Zf r1 r2) w:=by
 have HZ:=Hd fun W=>at_any 0 W;have HI:=Hd fun W=>inf_pos W;have HT:=Hd fun W=>at_any 9218868437227405312 W;have H1:=Hd h1;have H2:=Hd h2;have HA:=Hd ha;have HCC:=Hd hcc;have HCUT:=Hd hcut;have HP:=Hd hp;have HO:=Hd ho;clear h1 h2 ha hcc hcut hp ho;have LL:=li4 w (Zv A1 A2) 28 (Zv C1 C2) 28 (Zv x1 x2) 28 (Zv 0 0) 28
 rcases HCC.out with hcc | hcc
 all_goals
  have ha:=HA.out;have h1:=H1.out;have h2:=H2.out;clear H1 H2 HA HCC
  go_enter Tryz.func89,Tryz.ntmps89
  obtain⟨q1_0,q1_1⟩:=(LL.out.blk 0 rfl).c2;obtain⟨q2_0,q2_1⟩:=(LL.out.blk 1 rfl).c2;go_wp2_with fail;refine cx (HZ.out _) fun wk hb=>?_;replace LL:=stL LL hb;clear hb q1_0 q1_1 q2_0 q2_1 h1 h2;go_wp2_with fail;refine (HI.out _).mono ?_;rintro e wk ⟨rfl,rfl⟩;go_wp2_with fail;refine cx (HT.out _) fun wk hb=>?_;replace LL:=stL LL hb;clear hb
  go_upto_region 4 with fail
  have hl_j7:=LL.out.lts;generalize hwm:World.alloc wk _=wm;replace LL:=Hd (LL.out.newE hwm)
  have hz:wm.heap.size=wk.heap.size+1:=by rw [<- hwm];simp
  clear hwm;generalize hwn:World.alloc wm _=wn;replace LL:=Hd (LL.out.newE hwn);rw [hz] at LL
  simp only [List.cons_append,List.nil_append] at LL
  simp only [List.mem_cons,List.not_mem_nil,or_false,forall_eq_or_imp,forall_eq,false_imp_iff,implies_true,and_true] at hl_j7
  clear hwn hz;generalize wk.heap.size=j7 at LL hl_j7 ⊢;obtain⟨q3_0,q3_1⟩:=(LL.out.blk 0 rfl).c2;go_wp2_with fail;clear q3_0 q3_1;replace LL:=Hd (LL.out.loose 4 rfl rfl)
  simp only [List.eraseIdx,List.size_toArray,List.length_cons,List.length_nil,Nat.zero_add,Nat.reduceAdd] at LL
  refine regL LL (fun hHeld=>?_);clear LL;generalize World.drew _=wk at hHeld  ⊢;refine tks 0 ?_;refine tkb 1 (fun _ h=>(h.blk 0 rfl).c2) ?_;refine tks 3 ?_;refine tkb 4 (fun _ h=>(h.blk 1 rfl).c2) ?_;refine rdy 2 fun KK hKK=>?_;go_simp;refine (HP.out _).mono ?_;rintro e wk ⟨g1,B1,n1,k1,E1,rfl,he1,hb1⟩;go_wp2_with fail;refine hKK.out _ _ (hHeld.keep hb1) (fun _=>?_);clear hKK KK hHeld;rename_i hHeld;(try simp only [Act.put,lay]);have HE1:=Hd he1;clear he1;clear hb1;refine rdy 5 fun KK hKK=>?_;go_simp;refine cs (HO.out _ _ _ _ _ _ HE1.out) ?_;clear hKK KK hHeld;intro wk hb2 hHeld;(try replace HE1:=Hd (HE1.out.below hb2));clear hb2;refine rdy 6 fun KK hKK=>?_;obtain⟨ha0,hf0,ha1,hf1⟩:=(hHeld.has 0 rfl).sf2;obtain⟨csx,hbx,-,hcx⟩:=hHeld.has 0 rfl;replace HE1:=Hd (HE1.out.setB hbx hcx 0 [.float .f64 p1,.float .f64 p2]);clear hbx hcx;go_simp;have HS_0:=(hHeld.has 0 rfl).laid [.float .f64 p1,.float .f64 p2] rfl;refine hKK.out _ _ (hHeld.over 0 rfl [.float .f64 p1,.float .f64 p2] rfl rfl (by first | omega | exact hHeld.le_of 0 rfl) (by simp<;>omega) (by simp<;>omega)) (fun _=>?_);clear hKK KK hHeld;rename_i hHeld;(try simp only [Act.put,lay])
  replace hHeld:=(show Lies _ (sets wk j7 0 [.float .f64 p1,.float .f64 p2]) _ _ from hHeld)
  obtain⟨wk,hwn⟩:∃ X,sets wk j7 0 [.float .f64 p1,.float .f64 p2]=X:=⟨_,rfl⟩
  rw [hwn] at hHeld HE1 HS_0
  simp only [sets] at hwn
  rw [hwn];clear hwn;refine wpAnyH_done (by kernel_rfl) ?_ _;have LL:=Hd (hHeld.tight HS_0)
  simp only [List.cons_append,List.nil_append] at LL
  clear hHeld HS_0;clear HE1 ha;obtain⟨q4_0,q4_1⟩:=(LL.out.blk 1 rfl).c2;obtain⟨q5_0,q5_1⟩:=(LL.out.blk 2 rfl).c2;obtain⟨q6_0,q6_1⟩:=(LL.out.blk 5 rfl).c2;obtain⟨q7_0,q7_1⟩:=(LL.out.blk 4 rfl).c2;go_wp2_with fail;refine cx (HCUT.out _) fun wk hb=>?_;replace LL:=stL LL hb;clear hb q4_0 q4_1 q5_0 q5_1 q6_0 q6_1 q7_0 q7_1 hcc;replace LL:=Hd (LL.out.loose3 rfl);obtain⟨ha6_0,hf6_0,ha6_1,hf6_1⟩:=(LL.out.has 0 rfl).sf2;have LF:=Hd (LL.out.wr [.float .f64 r1,.float .f64 r2]);obtain⟨hk6_0,hk6_1⟩:=(LF.out.blk 5 rfl).c2
  simp [sets] at hk6_0 hk6_1
  clear LL;go_wp2;refine bodyPost_ret (v:=Zf r1 r2) (by simp [results,Tryz.results89,go_sem,hk6_0,hk6_1]) rfl ?_
  exact⟨rfl,LF.out.b⟩
set_option maxRecDepth 8000 in
theorem divisor_zq(A1 A2 C1 C2 x1 x2 r1 r2:Nat)(q1 q2:Nat)(s2:Int)(y2:Rat)(w:World)(h1:FloatKind.f64.format.order A2 0=some .gt)(h2:FloatKind.f64.format.order C2 0=some .gt)(ha:FloatKind.f64.format.order A1 0=some .eq\/FloatKind.f64.format.order A1 0=some .lt)(hcc:FloatKind.f64.format.order C1 0=some .gt)(hp2:∀ W,Calls Tryz.prog 100 #[.float .f64 A2] W (NewExI W s2 y2))(ho2:∀ W (g2:Bool) (B2:Option Addr) (n2 k2:Nat) (E2:Int),ExI W s2 g2 B2 n2 k2 E2 y2->Rt 157 #[.agg #[.int .i64 s2,.bool g2,.slice B2 n2 k2,.int .i64 E2],.float .f64 C1] (Zf q1 q2) W)
  (hcut:∀ W,Rt 77 #[Zf x1 x2,Zf 0 0,Zf q1 q2,.bool true] (Zf r1 r2) W):
  Rt 89 #[Zf A1 A2,Zf C1 C2,Zf x1 x2] (Zf r1 r2) w:=by
 have HZ:=Hd fun W=>at_any 0 W;have HI:=Hd fun W=>inf_pos W;have HT:=Hd fun W=>at_any 9218868437227405312 W;have H1:=Hd h1;have H2:=Hd h2;have HA:=Hd ha;have HCC:=Hd hcc;have HCUT:=Hd hcut;have HP2:=Hd hp2;have HO2:=Hd ho2;clear h1 h2 ha hcc hcut hp2 ho2;have LL:=li4 w (Zv A1 A2) 28 (Zv C1 C2) 28 (Zv x1 x2) 28 (Zv 0 0) 28
 rcases HA.out with ha | ha
 all_goals
  have hcc:=HCC.out;have h1:=H1.out;have h2:=H2.out;clear H1 H2 HA HCC
  go_enter Tryz.func89,Tryz.ntmps89
  obtain⟨q1_0,q1_1⟩:=(LL.out.blk 0 rfl).c2;obtain⟨q2_0,q2_1⟩:=(LL.out.blk 1 rfl).c2;go_wp2_with fail;refine cx (HZ.out _) fun wk hb=>?_;replace LL:=stL LL hb;clear hb q1_0 q1_1 q2_0 q2_1 h1 h2;go_wp2_with fail;refine (HI.out _).mono ?_;rintro e wk ⟨rfl,rfl⟩;go_wp2_with fail;refine cx (HT.out _) fun wk hb=>?_;replace LL:=stL LL hb;clear hb
  go_upto_region 4 with fail
  have hl_j7:=LL.out.lts;generalize hwm:World.alloc wk _=wm;replace LL:=Hd (LL.out.newE hwm)
  have hz:wm.heap.size=wk.heap.size+1:=by rw [<- hwm];simp
  clear hwm;generalize hwn:World.alloc wm _=wn;replace LL:=Hd (LL.out.newE hwn);rw [hz] at LL
  simp only [List.cons_append,List.nil_append] at LL
  simp only [List.mem_cons,List.not_mem_nil,or_false,forall_eq_or_imp,forall_eq,false_imp_iff,implies_true,and_true] at hl_j7
  clear hwn hz;generalize wk.heap.size=j7 at LL hl_j7 ⊢;obtain⟨q3_0,q3_1⟩:=(LL.out.blk 0 rfl).c2;obtain⟨q4_0,q4_1⟩:=(LL.out.blk 1 rfl).c2;go_wp2_with fail;clear ha q3_0 q3_1 q4_0 q4_1;replace LL:=Hd (LL.out.loose 5 rfl rfl)
  simp only [List.eraseIdx,List.size_toArray,List.length_cons,List.length_nil,Nat.zero_add,Nat.reduceAdd] at LL
  refine regL LL (fun hHeld=>?_);clear LL;generalize World.drew _=wk at hHeld  ⊢;refine tks 0 ?_;refine tkb 1 (fun _ h=>(h.blk 0 rfl).c2) ?_;refine tks 3 ?_;refine tkb 4 (fun _ h=>(h.blk 1 rfl).c2) ?_;refine rdy 2 fun KK hKK=>?_;go_simp;refine (HP2.out _).mono ?_;rintro e wk ⟨g2,B2,n2,k2,E2,rfl,he2,hb1⟩;go_wp2_with fail;refine hKK.out _ _ (hHeld.keep hb1) (fun _=>?_);clear hKK KK hHeld;rename_i hHeld;(try simp only [Act.put,lay]);have HE2:=Hd he2;clear he2;clear hb1;refine rdy 5 fun KK hKK=>?_;go_simp;refine cs (HO2.out _ _ _ _ _ _ HE2.out) ?_;clear hKK KK hHeld;intro wk hb2 hHeld;(try replace HE2:=Hd (HE2.out.below hb2));clear hb2;refine rdy 6 fun KK hKK=>?_;obtain⟨ha0,hf0,ha1,hf1⟩:=(hHeld.has 0 rfl).sf2;obtain⟨csx,hbx,-,hcx⟩:=hHeld.has 0 rfl;replace HE2:=Hd (HE2.out.setB hbx hcx 0 [.float .f64 q1,.float .f64 q2]);clear hbx hcx;go_simp;have HS_0:=(hHeld.has 0 rfl).laid [.float .f64 q1,.float .f64 q2] rfl;refine hKK.out _ _ (hHeld.over 0 rfl [.float .f64 q1,.float .f64 q2] rfl rfl (by first | omega | exact hHeld.le_of 0 rfl) (by simp<;>omega) (by simp<;>omega)) (fun _=>?_);clear hKK KK hHeld;rename_i hHeld;(try simp only [Act.put,lay])
  replace hHeld:=(show Lies _ (sets wk (j7+1) 0 [.float .f64 q1,.float .f64 q2]) _ _ from hHeld)
  obtain⟨wk,hwn⟩:∃ X,sets wk (j7+1) 0 [.float .f64 q1,.float .f64 q2]=X:=⟨_,rfl⟩
  rw [hwn] at hHeld HE2 HS_0
  simp only [sets] at hwn
  rw [hwn];clear hwn;refine wpAnyH_done (by kernel_rfl) ?_ _;have LL:=Hd (hHeld.tight HS_0)
  simp only [List.cons_append,List.nil_append] at LL
  clear hHeld HS_0;clear HE2 hcc;obtain⟨q5_0,q5_1⟩:=(LL.out.blk 2 rfl).c2;obtain⟨q6_0,q6_1⟩:=(LL.out.blk 4 rfl).c2;obtain⟨q7_0,q7_1⟩:=(LL.out.blk 5 rfl).c2;go_wp2_with fail;refine cx (HCUT.out _) fun wk hb=>?_;replace LL:=stL LL hb;clear hb q5_0 q5_1 q6_0 q6_1 q7_0 q7_1;replace LL:=Hd (LL.out.loose3 rfl);obtain⟨ha6_0,hf6_0,ha6_1,hf6_1⟩:=(LL.out.has 0 rfl).sf2;have LF:=Hd (LL.out.wr [.float .f64 r1,.float .f64 r2]);obtain⟨hk6_0,hk6_1⟩:=(LF.out.blk 5 rfl).c2
  simp [sets] at hk6_0 hk6_1
  clear LL;go_wp2;refine bodyPost_ret (v:=Zf r1 r2) (by simp [results,Tryz.results89,go_sem,hk6_0,hk6_1]) rfl ?_
  exact⟨rfl,LF.out.b⟩
set_option maxRecDepth 8000 in
theorem divisor_zi(A1 A2 C1 C2 x1 x2 r1 r2:Nat)(w:World)(h1:FloatKind.f64.format.order A2 0=some .gt)(h2:FloatKind.f64.format.order C2 0=some .gt)(ha:FloatKind.f64.format.order A1 0=some .eq\/FloatKind.f64.format.order A1 0=some .lt)(hcc:FloatKind.f64.format.order C1 0=some .eq\/FloatKind.f64.format.order C1 0=some .lt)
  (hcut:∀ W,Rt 77 #[Zf x1 x2,Zf 0 0,Zf 9218868437227405312 9218868437227405312,.bool true] (Zf r1 r2) W):
  Rt 89 #[Zf A1 A2,Zf C1 C2,Zf x1 x2] (Zf r1 r2) w:=by
 have HZ:=Hd fun W=>at_any 0 W;have HI:=Hd fun W=>inf_pos W;have HT:=Hd fun W=>at_any 9218868437227405312 W;have H1:=Hd h1;have H2:=Hd h2;have HA:=Hd ha;have HCC:=Hd hcc;have HCUT:=Hd hcut;clear h1 h2 ha hcc hcut;have LL:=li4 w (Zv A1 A2) 28 (Zv C1 C2) 28 (Zv x1 x2) 28 (Zv 0 0) 28
 rcases HA.out with ha | ha<;>rcases HCC.out with hcc | hcc
 all_goals
  have h1:=H1.out;have h2:=H2.out;clear H1 H2 HA HCC
  go_enter Tryz.func89,Tryz.ntmps89
  obtain⟨q1_0,q1_1⟩:=(LL.out.blk 0 rfl).c2;obtain⟨q2_0,q2_1⟩:=(LL.out.blk 1 rfl).c2;go_wp2_with fail;refine cx (HZ.out _) fun wk hb=>?_;replace LL:=stL LL hb;clear hb q1_0 q1_1 q2_0 q2_1 h1 h2;go_wp2_with fail;refine (HI.out _).mono ?_;rintro e wk ⟨rfl,rfl⟩;go_wp2_with fail;refine cx (HT.out _) fun wk hb=>?_;replace LL:=stL LL hb;clear hb
  go_upto_region 4 with fail
  have hl_j7:=LL.out.lts;generalize hwm:World.alloc wk _=wm;replace LL:=Hd (LL.out.newE hwm)
  have hz:wm.heap.size=wk.heap.size+1:=by rw [<- hwm];simp
  clear hwm;generalize hwn:World.alloc wm _=wn;replace LL:=Hd (LL.out.newE hwn);rw [hz] at LL
  simp only [List.cons_append,List.nil_append] at LL
  simp only [List.mem_cons,List.not_mem_nil,or_false,forall_eq_or_imp,forall_eq,false_imp_iff,implies_true,and_true] at hl_j7
  clear hwn hz;generalize wk.heap.size=j7 at LL hl_j7 ⊢;obtain⟨q3_0,q3_1⟩:=(LL.out.blk 0 rfl).c2;obtain⟨q4_0,q4_1⟩:=(LL.out.blk 1 rfl).c2;obtain⟨q5_0,q5_1⟩:=(LL.out.blk 2 rfl).c2;obtain⟨q6_0,q6_1⟩:=(LL.out.blk 4 rfl).c2;obtain⟨q7_0,q7_1⟩:=(LL.out.blk 5 rfl).c2;go_wp2_with fail;refine cx (HCUT.out _) fun wk hb=>?_;replace LL:=stL LL hb;clear hb q3_0 q3_1 q4_0 q4_1 q5_0 q5_1 q6_0 q6_1 q7_0 q7_1 hcc ha;replace LL:=Hd (LL.out.loose3 rfl);obtain⟨ha6_0,hf6_0,ha6_1,hf6_1⟩:=(LL.out.has 0 rfl).sf2;have LF:=Hd (LL.out.wr [.float .f64 r1,.float .f64 r2]);obtain⟨hk6_0,hk6_1⟩:=(LF.out.blk 5 rfl).c2
  simp [sets] at hk6_0 hk6_1
  clear LL;go_wp2;refine bodyPost_ret (v:=Zf r1 r2) (by simp [results,Tryz.results89,go_sem,hk6_0,hk6_1]) rfl ?_
  exact⟨rfl,LF.out.b⟩
set_option maxRecDepth 8000 in
theorem divrev2_none(b1 b2 c1 c2 y1 y2 A1 A2 C1 C2 x1 x2:Nat)(d1 d2 d3:Bool)(w:World)(t1:∀ W,Rt 102 #[Zf b1 b2] (Zf A1 A2) W)(m1:Em d1 A1 A2)(t2:∀ W,Rt 102 #[Zf c1 c2] (Zf C1 C2) W)(m2:Em d2 C1 C2)(t3:∀ W,Rt 102 #[Zf y1 y2] (Zf x1 x2) W)(m3:Em d3 x1 x2)(hnn:(d1 || d2 || d3)=true):
  Rt 27 #[Zf b1 b2,Zf c1 c2,Zf y1 y2] (Zf 9218868437227405312 18442240474082181120) w:=by
 have HE:=Hd emptyf;have HRD:=readL43 w (Zv 0 0) 28 t1 m1 t2 m2 t3 m3 hnn;clear t1 m1 t2 m2 t3 m3 hnn
 go_enter Tryz.func27,Tryz.ntmps27
 go_wp2_with fail;refine HRD.out.mono ?_;rintro e wk ⟨rfl,hl⟩;have LL:=Hd hl;clear hl HRD;go_wp2_with fail;refine cx (HE.out _) fun wk hb=>?_;replace LL:=stL LL hb;clear hb;replace LL:=Hd (LL.out.loose3 rfl);obtain⟨ha6_0,hf6_0,ha6_1,hf6_1⟩:=(LL.out.has 0 rfl).sf2;have LF:=Hd (LL.out.wr [.float .f64 9218868437227405312,.float .f64 18442240474082181120]);obtain⟨hk6_0,hk6_1⟩:=(LF.out.blk 3 rfl).c2
 simp [sets] at hk6_0 hk6_1
 clear LL;go_wp2;refine bodyPost_ret (v:=Zf 9218868437227405312 18442240474082181120) (by simp [results,Tryz.results27,go_sem,hk6_0,hk6_1]) rfl ?_
 exact⟨rfl,LF.out.b⟩
set_option maxRecDepth 8000 in
theorem divrev2_zero(b1 b2 c1 c2 y1 y2 A1 A2 C1 C2 x1 x2 l1 l2 u1 u2 r1 r2:Nat)(d1 d2 d3:Bool)(w:World)(t1:∀ W,Rt 102 #[Zf b1 b2] (Zf A1 A2) W)(m1:Em d1 A1 A2)(t2:∀ W,Rt 102 #[Zf c1 c2] (Zf C1 C2) W)(m2:Em d2 C1 C2)(t3:∀ W,Rt 102 #[Zf y1 y2] (Zf x1 x2) W)(m3:Em d3 x1 x2)(hnn:(d1 || d2 || d3)=false)
  (hh1:∀ W,Rt 87 #[Zf A1 A2] (.bool true) W)(hh2:∀ W,Rt 87 #[Zf C1 C2] (.bool true) W)
  (hc1:∀ W,Rt 77 #[Zf x1 x2,Zf 18442240474082181120 18442240474082181120,Zf 0 0,.bool true] (Zf l1 l2) W)(hc2:∀ W,Rt 77 #[Zf x1 x2,Zf 0 0,Zf 9218868437227405312 9218868437227405312,.bool true] (Zf u1 u2) W)
  (hu:∀ W,Rt 63 #[Zf l1 l2,Zf u1 u2] (Zf r1 r2) W):
  Rt 27 #[Zf b1 b2,Zf c1 c2,Zf y1 y2] (Zf r1 r2) w:=by
 have HZ:=Hd fun W=>at_any 0 W;have HI:=Hd fun W=>inf_pos W;have HJ:=Hd fun W=>inf_neg W;have HT:=Hd fun W=>at_any 9218868437227405312 W;have HS:=Hd fun W=>at_any 18442240474082181120 W;have HH1:=Hd hh1;have HH2:=Hd hh2;have HC1:=Hd hc1;have HC2:=Hd hc2;have HU:=Hd hu;clear hh1 hh2 hc1 hc2 hu;have HRD:=readL43 w (Zv 0 0) 28 t1 m1 t2 m2 t3 m3 hnn;clear t1 m1 t2 m2 t3 m3 hnn
 go_enter Tryz.func27,Tryz.ntmps27
 go_wp2_with fail;refine HRD.out.mono ?_;rintro e wk ⟨rfl,hl⟩;have LL:=Hd hl;clear hl HRD;obtain⟨q1_0,q1_1⟩:=(LL.out.blk 0 rfl).c2;obtain⟨q2_0,q2_1⟩:=(LL.out.blk 1 rfl).c2;go_wp2_with fail;refine cx (HH1.out _) fun wk hb=>?_;replace LL:=stL LL hb;clear hb q1_0 q1_1 q2_0 q2_1;obtain⟨q3_0,q3_1⟩:=(LL.out.blk 0 rfl).c2;obtain⟨q4_0,q4_1⟩:=(LL.out.blk 1 rfl).c2;go_wp2_with fail;refine cx (HH2.out _) fun wk hb=>?_;replace LL:=stL LL hb;clear hb q3_0 q3_1 q4_0 q4_1
 go_upto_region 4 with fail
 go_cut [7] (fun s7 wx=>∃ (j7:Nat),s7=.pointer (some ⟨j7,0,none⟩)/\w.heap.size+3<j7/\Lies w wx [(w.heap.size,28,(Zv A1 A2)),((w.heap.size+1),28,(Zv C1 C2)),((w.heap.size+2),28,(Zv x1 x2)),((w.heap.size+3),28,(Zv 0 0)),(j7,28,(Zv l1 l2))] [])
 case first=>
  refine regL LL (fun hHeld=>?_);clear LL;generalize World.drew _=wk at hHeld  ⊢;refine tkb 0 (fun _ h=>(h.blk 2 rfl).c2) ?_
  repeat' first
   | (have hx:=hC1;clear hx;go_simp;refine (HJ.out _).mono ?_;rintro e wk ⟨rfl,rfl⟩;go_wp2_with fail;refine hC1.out _ _ (hHeld.keep (Below.refl _ _)) (fun _=>?_);clear hC1 KK hHeld;rename_i hHeld;(try simp only [Act.put,lay]);(try replace B_j7:=B_j7.keep (Below.refl _ _));have mk1:=True.intro)
   | (have hx:=hC2;clear hx;go_simp;refine (HS.out _).mono ?_;rintro e wk ⟨rfl,hb2⟩;go_wp2_with fail;refine hC2.out _ _ (hHeld.keep hb2) (fun _=>?_);clear hC2 KK hHeld;rename_i hHeld;(try simp only [Act.put,lay]);(try replace B_j7:=B_j7.keep hb2);clear hb2;have mk2:=True.intro)
   | (have hx:=hC3;clear hx;go_simp;refine (HZ.out _).mono ?_;rintro e wk ⟨rfl,hb3⟩;go_wp2_with fail;refine hC3.out _ _ (hHeld.keep hb3) (fun _=>?_);clear hC3 KK hHeld;rename_i hHeld;(try simp only [Act.put,lay]);(try replace B_j7:=B_j7.keep hb3);clear hb3;have mk3:=True.intro)
   | (have hx:=hC4;clear hx;go_simp;refine (HC1.out _).mono ?_;rintro e wk ⟨rfl,hb4⟩;go_wp2_with fail;refine hC4.out _ _ (hHeld.keep hb4) (fun _=>?_);clear hC4 KK hHeld;rename_i hHeld;(try simp only [Act.put,lay]);(try replace B_j7:=B_j7.keep hb4);clear hb4;have mk4:=True.intro)
   | (have hx:=hA5;clear hx;go_simp;have hl_j7:=hHeld.lts;refine hA5.out _ _ (hHeld.alloc _) (fun _=>?_);clear hA5 KK hHeld;rename_i hHeld;(try simp only [Act.put,lay]);generalize hwn:World.alloc wk _=wn at hHeld ⊢;have B_j7:=Blk.newE hwn;simp only [List.mem_cons,List.not_mem_nil,or_false,forall_eq_or_imp,forall_eq,false_imp_iff,implies_true,and_true] at hl_j7;clear hwn;generalize hg:wk.heap.size=j7 at B_j7 hl_j7 ⊢;clear hg;obtain⟨wk,rfl⟩:∃ X,X=wn:=⟨_,rfl⟩;have mk5:=True.intro)
   | (have hx:=hS6;clear hx;have qz0:=B_j7.ce 0 rfl;have fz0:=B_j7.frozen 0;have qz1:=B_j7.ce 1 rfl;have fz1:=B_j7.frozen 1;go_simp;have hsx:=hHeld.far [.float .f64 l1,.float .f64 l2] 0 (g:=j7) (by omega) (by simp<;>omega) (by simp<;>omega);generalize hwn:sets wk j7 0 _=wn at hsx;refine hS6.out _ _ (by have e:=hwn;simp only [sets,Nat.reduceAdd] at e;rw [e];exact hsx) (fun _=>?_);clear hS6 KK hHeld hsx;rename_i hHeld;(try simp only [Act.put,lay]);replace B_j7:=B_j7.setsE hwn;simp only [laid,lay,Nat.reduceAdd] at B_j7;simp only [sets,Nat.reduceAdd] at hwn;rw [hwn] at hHeld ⊢;clear hwn qz0 fz0 qz1 fz1;obtain⟨wk,rfl⟩:∃ X,X=wn:=⟨_,rfl⟩;have mk6:=True.intro)
   | (have hx:=mk1;have hx:=mk2;have hx:=mk3;have hx:=mk4;have hx:=mk5;have hx:=mk6;refine wpAnyH_done (by kernel_rfl) ?_ _;clear hx mk1 mk2 mk3 mk4 mk5 mk6;go_wp2_with fail;go_meet;exact⟨j7,rfl,by omega,hHeld.put B_j7⟩)
   | (have hx:=mk1;have hx:=mk2;have hx:=mk3;have hx:=mk4;have hx:=mk5;refine rdy 6 (fun KK hS6=>?_))
   | (have hx:=mk1;have hx:=mk2;have hx:=mk3;have hx:=mk5;refine rdy 4 (fun KK hC4=>?_))
   | (have hx:=mk1;have hx:=mk2;have hx:=mk3;have hx:=mk4;refine rdy 5 (fun KK hA5=>?_))
   | (have hx:=mk1;have hx:=mk2;have hx:=mk5;refine rdy 3 (fun KK hC3=>?_))
   | (have hx:=mk1;have hx:=mk2;have hx:=mk3;refine rd2 4 5 (fun KK hC4=>?_) (fun KK hA5=>?_))
   | (have hx:=mk1;have hx:=mk5;refine rdy 2 (fun KK hC2=>?_))
   | (have hx:=mk1;have hx:=mk2;refine rd2 3 5 (fun KK hC3=>?_) (fun KK hA5=>?_))
   | (have hx:=mk5;refine rdy 1 (fun KK hC1=>?_))
   | (have hx:=mk1;refine rd2 2 5 (fun KK hC2=>?_) (fun KK hA5=>?_))
   | (refine rd2 1 5 (fun KK hC1=>?_) (fun KK hA5=>?_))
 case rest=>
 obtain⟨j7,rfl,hgs,hcl⟩:=hcut;rename World=>wx;clear LL HH1 HH2 HC1;have LL:=Hd hcl;clear hcl;go_wp2_with fail;replace LL:=Hd (LL.out.loose3 rfl);refine regL LL (fun hHeld=>?_);clear LL;generalize World.drew _=wk at hHeld  ⊢;refine tkb 0 (fun _ h=>(h.blk 3 rfl).c2) ?_;refine tkb 1 (fun _ h=>(h.blk 2 rfl).c2) ?_;refine rdy 2 fun KK hKK=>?_;go_simp;refine cs (HZ.out _) ?_;clear hKK KK hHeld;intro wk hb1 hHeld;clear hb1;refine rdy 3 fun KK hKK=>?_;go_simp;refine (HI.out _).mono ?_;rintro e wk ⟨rfl,rfl⟩;go_wp2_with fail;refine hKK.out _ _ (hHeld.keep (Below.refl _ _)) (fun _=>?_);clear hKK KK hHeld;rename_i hHeld;(try simp only [Act.put,lay]);refine rdy 4 fun KK hKK=>?_;go_simp;refine cs (HT.out _) ?_;clear hKK KK hHeld;intro wk hb3 hHeld;clear hb3;refine rdy 5 fun KK hKK=>?_;go_simp;refine cs (HC2.out _) ?_;clear hKK KK hHeld;intro wk hb4 hHeld;clear hb4;refine rdy 6 fun KK hKK=>?_;go_simp;refine cs (HU.out _) ?_;clear hKK KK hHeld;intro wk hb5 hHeld;clear hb5;refine rdy 7 fun KK hKK=>?_;obtain⟨ha0,hf0,ha1,hf1⟩:=(hHeld.has 0 rfl).sf2;go_simp;have HS_0:=(hHeld.has 0 rfl).laid [.float .f64 r1,.float .f64 r2] rfl;refine hKK.out _ _ (hHeld.over 0 rfl [.float .f64 r1,.float .f64 r2] rfl rfl (by first | omega | exact hHeld.le_of 0 rfl) (by simp<;>omega) (by simp<;>omega)) (fun _=>?_);clear hKK KK hHeld;rename_i hHeld;(try simp only [Act.put,lay]);refine wpAnyH_done (by kernel_rfl) ?_ _;have LB:=Hd hHeld.b;clear hHeld;obtain⟨hk6_0,hk6_1⟩:=HS_0.c2;clear HS_0
 simp [sets] at hk6_0 hk6_1
 go_wp2;refine bodyPost_ret (v:=Zf r1 r2) (by simp [results,Tryz.results27,go_sem,hk6_0,hk6_1]) rfl ?_
 exact⟨rfl,LB.out⟩
set_option maxRecDepth 8000 in
theorem divrev2_some(b1 b2 c1 c2 y1 y2 A1 A2 C1 C2 x1 x2 a1 a2 m1 m2 z1 z2 p1 q1 p2 q2 p3 q3 p4 q4 p5 q5 p6 q6 p7 q7 p8 q8:Nat)(d1 d2 d3 e1 e2:Bool)(w:World)(t1:∀ W,Rt 102 #[Zf b1 b2] (Zf A1 A2) W)(t4:Em d1 A1 A2)(t2:∀ W,Rt 102 #[Zf c1 c2] (Zf C1 C2) W)(t5:Em d2 C1 C2)(t3:∀ W,Rt 102 #[Zf y1 y2] (Zf x1 x2) W)(t6:Em d3 x1 x2)(hnn:(d1 || d2 || d3)=false)
  (hh1:∀ W,Rt 87 #[Zf A1 A2] (.bool e1) W)(hh2:∀ W,Rt 87 #[Zf C1 C2] (.bool e2) W)(hz:e1=false\/e1=true/\e2=false)
  (hm1:∀ W,Rt 85 #[Zf A1 A2] (Zf a1 a2) W)(hm2:∀ W,Rt 85 #[Zf C1 C2] (Zf m1 m2) W)(hm3:∀ W,Rt 85 #[Zf x1 x2] (Zf z1 z2) W)(hd1:∀ W,Rt 89 #[Zf A1 A2,Zf C1 C2,Zf x1 x2] (Zf p1 q1) W)(hd2:∀ W,Rt 89 #[Zf a1 a2,Zf m1 m2,Zf x1 x2] (Zf p2 q2) W)(hd3:∀ W,Rt 89 #[Zf a1 a2,Zf C1 C2,Zf z1 z2] (Zf p3 q3) W)(hd4:∀ W,Rt 89 #[Zf A1 A2,Zf m1 m2,Zf z1 z2] (Zf p4 q4) W)
  (hu1:∀ W,Rt 63 #[Zf p1 q1,Zf p2 q2] (Zf p5 q5) W)(hu2:∀ W,Rt 63 #[Zf p3 q3,Zf p4 q4] (Zf p6 q6) W)(hm4:∀ W,Rt 85 #[Zf p6 q6] (Zf p7 q7) W)(hu3:∀ W,Rt 63 #[Zf p5 q5,Zf p7 q7] (Zf p8 q8) W):
  Rt 27 #[Zf b1 b2,Zf c1 c2,Zf y1 y2] (Zf p8 q8) w:=by
 have HH1:=Hd hh1;have HH2:=Hd hh2;have HZ:=Hd hz;have HM1:=Hd hm1;have HM2:=Hd hm2;have HM3:=Hd hm3;have HM4:=Hd hm4;have HD1:=Hd hd1;have HD2:=Hd hd2;have HD3:=Hd hd3;have HD4:=Hd hd4;have HU1:=Hd hu1;have HU2:=Hd hu2;have HU3:=Hd hu3;clear hh1 hh2 hz hm1 hm2 hm3 hm4 hd1 hd2 hd3 hd4 hu1 hu2 hu3;have HRD:=readL43 w (Zv 0 0) 28 t1 t4 t2 t5 t3 t6 hnn;clear t1 t4 t2 t5 t3 t6 hnn
 go_enter Tryz.func27,Tryz.ntmps27
 go_wp2_with fail;refine HRD.out.mono ?_;rintro e wk ⟨rfl,hl⟩;have LL:=Hd hl;clear hl HRD
 go_upto_region 3 with fail
 go_cut [19] (fun s19 wx=>s19=.bool false/\Lies w wx [(w.heap.size,28,(Zv A1 A2)),((w.heap.size+1),28,(Zv C1 C2)),((w.heap.size+2),28,(Zv x1 x2)),((w.heap.size+3),28,(Zv 0 0))] [])
 case first=>
  obtain⟨q1_0,q1_1⟩:=(LL.out.blk 0 rfl).c2;obtain⟨q2_0,q2_1⟩:=(LL.out.blk 1 rfl).c2;go_wp2_with fail;refine cx (HH1.out _) fun wk hb=>?_;replace LL:=stL LL hb;clear hb q1_0 q1_1 q2_0 q2_1
  rcases HZ.out with h | ⟨h,h2⟩<;>subst h
  ·go_wp2_with fail
   go_meet
   case rel=>exact⟨rfl,LL.out⟩
  ·subst h2;obtain⟨q3_0,q3_1⟩:=(LL.out.blk 1 rfl).c2;go_wp2_with fail;refine cx (HH2.out _) fun wk hb=>?_;replace LL:=stL LL hb;clear hb q3_0 q3_1;go_wp2_with fail
   go_meet
   case rel=>exact⟨rfl,LL.out⟩
 case rest=>
 obtain⟨rfl,hcl⟩:=hcut;rename World=>wx;clear LL HH1 HH2 HZ;have LL:=Hd hcl;clear hcl;obtain⟨q1_0,q1_1⟩:=(LL.out.blk 2 rfl).c2;go_wp2_with fail;refine cx (HM3.out _) fun wk hb=>?_;replace LL:=stL LL hb;clear hb q1_0 q1_1
 go_upto_region 7 with fail
 have hl_j8:=LL.out.lts;generalize hwn:World.alloc wk _=wn;replace LL:=Hd (LL.out.newE hwn)
 simp only [List.cons_append,List.nil_append] at LL
 simp only [List.mem_cons,List.not_mem_nil,or_false,forall_eq_or_imp,forall_eq,false_imp_iff,implies_true,and_true] at hl_j8
 clear hwn;generalize wk.heap.size=j8 at LL hl_j8 ⊢
 go_cut [9] (fun s9 wx=>∃ (j9:Nat),s9=.pointer (some ⟨j9,0,none⟩)/\(w.heap.size+3<j9/\j8<j9)/\Lies w wx [(w.heap.size,28,(Zv A1 A2)),((w.heap.size+1),28,(Zv C1 C2)),((w.heap.size+2),28,(Zv x1 x2)),((w.heap.size+3),28,(Zv 0 0)),(j8,28,(Zv z1 z2)),(j9,28,(Zv p5 q5))] [])
 case first=>
  refine regL LL (fun hHeld=>?_);clear LL;generalize World.drew _=wk at hHeld  ⊢;refine tkb 0 (fun _ h=>(h.blk 0 rfl).c2) ?_;refine tkb 1 (fun _ h=>(h.blk 1 rfl).c2) ?_;refine tkb 2 (fun _ h=>(h.blk 2 rfl).c2) ?_;refine tkb 4 (fun _ h=>(h.blk 0 rfl).c2) ?_;refine tkb 6 (fun _ h=>(h.blk 1 rfl).c2) ?_;refine tkb 8 (fun _ h=>(h.blk 2 rfl).c2) ?_
  repeat' first
   | (have hx:=hC3;clear hx;go_simp;refine (HD1.out _).mono ?_;rintro e wk ⟨rfl,hb0⟩;go_wp2_with fail;refine hC3.out _ _ (hHeld.keep hb0) (fun _=>?_);clear hC3 KK hHeld;rename_i hHeld;(try simp only [Act.put,lay]);(try replace B_j9:=B_j9.keep hb0);clear hb0;have mk3:=True.intro)
   | (have hx:=hC5;clear hx;go_simp;refine (HM1.out _).mono ?_;rintro e wk ⟨rfl,hb1⟩;go_wp2_with fail;refine hC5.out _ _ (hHeld.keep hb1) (fun _=>?_);clear hC5 KK hHeld;rename_i hHeld;(try simp only [Act.put,lay]);(try replace B_j9:=B_j9.keep hb1);clear hb1;have mk5:=True.intro)
   | (have hx:=hC7;clear hx;go_simp;refine (HM2.out _).mono ?_;rintro e wk ⟨rfl,hb2⟩;go_wp2_with fail;refine hC7.out _ _ (hHeld.keep hb2) (fun _=>?_);clear hC7 KK hHeld;rename_i hHeld;(try simp only [Act.put,lay]);(try replace B_j9:=B_j9.keep hb2);clear hb2;have mk7:=True.intro)
   | (have hx:=hC9;clear hx;go_simp;refine (HD2.out _).mono ?_;rintro e wk ⟨rfl,hb3⟩;go_wp2_with fail;refine hC9.out _ _ (hHeld.keep hb3) (fun _=>?_);clear hC9 KK hHeld;rename_i hHeld;(try simp only [Act.put,lay]);(try replace B_j9:=B_j9.keep hb3);clear hb3;have mk9:=True.intro)
   | (have hx:=hC10;clear hx;go_simp;refine (HU1.out _).mono ?_;rintro e wk ⟨rfl,hb4⟩;go_wp2_with fail;refine hC10.out _ _ (hHeld.keep hb4) (fun _=>?_);clear hC10 KK hHeld;rename_i hHeld;(try simp only [Act.put,lay]);(try replace B_j9:=B_j9.keep hb4);clear hb4;have mk10:=True.intro)
   | (have hx:=hA11;clear hx;go_simp;have hl_j9:=hHeld.lts;refine hA11.out _ _ (hHeld.alloc _) (fun _=>?_);clear hA11 KK hHeld;rename_i hHeld;(try simp only [Act.put,lay]);generalize hwn:World.alloc wk _=wn at hHeld ⊢;have B_j9:=Blk.newE hwn;simp only [List.mem_cons,List.not_mem_nil,or_false,forall_eq_or_imp,forall_eq,false_imp_iff,implies_true,and_true] at hl_j9;clear hwn;generalize hg:wk.heap.size=j9 at B_j9 hl_j9 ⊢;clear hg;obtain⟨wk,rfl⟩:∃ X,X=wn:=⟨_,rfl⟩;have mk11:=True.intro)
   | (have hx:=hS12;clear hx;have qz0:=B_j9.ce 0 rfl;have fz0:=B_j9.frozen 0;have qz1:=B_j9.ce 1 rfl;have fz1:=B_j9.frozen 1;go_simp;have hsx:=hHeld.far [.float .f64 p5,.float .f64 q5] 0 (g:=j9) (by omega) (by simp<;>omega) (by simp<;>omega);generalize hwn:sets wk j9 0 _=wn at hsx;refine hS12.out _ _ (by have e:=hwn;simp only [sets,Nat.reduceAdd] at e;rw [e];exact hsx) (fun _=>?_);clear hS12 KK hHeld hsx;rename_i hHeld;(try simp only [Act.put,lay]);replace B_j9:=B_j9.setsE hwn;simp only [laid,lay,Nat.reduceAdd] at B_j9;simp only [sets,Nat.reduceAdd] at hwn;rw [hwn] at hHeld ⊢;clear hwn qz0 fz0 qz1 fz1;obtain⟨wk,rfl⟩:∃ X,X=wn:=⟨_,rfl⟩;have mk12:=True.intro)
   | (have hx:=mk3;have hx:=mk5;have hx:=mk7;have hx:=mk9;have hx:=mk10;have hx:=mk11;have hx:=mk12;refine wpAnyH_done (by kernel_rfl) ?_ _;clear hx mk3 mk5 mk7 mk9 mk10 mk11 mk12;go_wp2_with fail;go_meet;exact⟨j9,rfl,⟨by omega,by omega⟩,hHeld.put B_j9⟩)
   | (have hx:=mk3;have hx:=mk5;have hx:=mk7;have hx:=mk9;have hx:=mk10;have hx:=mk11;refine rdy 12 (fun KK hS12=>?_))
   | (have hx:=mk3;have hx:=mk5;have hx:=mk7;have hx:=mk9;have hx:=mk11;refine rdy 10 (fun KK hC10=>?_))
   | (have hx:=mk3;have hx:=mk5;have hx:=mk7;have hx:=mk9;have hx:=mk10;refine rdy 11 (fun KK hA11=>?_))
   | (have hx:=mk3;have hx:=mk5;have hx:=mk7;have hx:=mk11;refine rdy 9 (fun KK hC9=>?_))
   | (have hx:=mk3;have hx:=mk5;have hx:=mk7;have hx:=mk9;refine rd2 10 11 (fun KK hC10=>?_) (fun KK hA11=>?_))
   | (have hx:=mk3;have hx:=mk5;have hx:=mk11;refine rdy 7 (fun KK hC7=>?_))
   | (have hx:=mk3;have hx:=mk5;have hx:=mk7;refine rd2 9 11 (fun KK hC9=>?_) (fun KK hA11=>?_))
   | (have hx:=mk3;have hx:=mk11;refine rdy 5 (fun KK hC5=>?_))
   | (have hx:=mk3;have hx:=mk5;refine rd2 7 11 (fun KK hC7=>?_) (fun KK hA11=>?_))
   | (have hx:=mk11;refine rdy 3 (fun KK hC3=>?_))
   | (have hx:=mk3;refine rd2 5 11 (fun KK hC5=>?_) (fun KK hA11=>?_))
   | (refine rd2 3 11 (fun KK hC3=>?_) (fun KK hA11=>?_))
 case rest=>
 obtain⟨j9,rfl,hgs_j9,hcl⟩:=hcut;rename World=>wx;clear LL HD1 HD2 HU1;have LL:=Hd hcl;clear hcl
 go_upto_region 8 with fail
 go_cut [10] (fun s10 wx=>∃ (j10:Nat),s10=.pointer (some ⟨j10,0,none⟩)/\(w.heap.size+3<j10/\j8<j10/\j9<j10)/\Lies w wx [(w.heap.size,28,(Zv A1 A2)),((w.heap.size+1),28,(Zv C1 C2)),((w.heap.size+2),28,(Zv x1 x2)),((w.heap.size+3),28,(Zv 0 0)),(j8,28,(Zv z1 z2)),(j9,28,(Zv p5 q5)),(j10,28,(Zv p6 q6))] [])
 case first=>
  refine regL LL (fun hHeld=>?_);clear LL;generalize World.drew _=wk at hHeld  ⊢;refine tkb 0 (fun _ h=>(h.blk 0 rfl).c2) ?_;refine tkb 2 (fun _ h=>(h.blk 1 rfl).c2) ?_;refine tkb 3 (fun _ h=>(h.blk 4 rfl).c2) ?_;refine tkb 5 (fun _ h=>(h.blk 0 rfl).c2) ?_;refine tkb 6 (fun _ h=>(h.blk 1 rfl).c2) ?_;refine tkb 8 (fun _ h=>(h.blk 4 rfl).c2) ?_
  repeat' first
   | (have hx:=hC1;clear hx;go_simp;refine (HM1.out _).mono ?_;rintro e wk ⟨rfl,hb0⟩;go_wp2_with fail;refine hC1.out _ _ (hHeld.keep hb0) (fun _=>?_);clear hC1 KK hHeld;rename_i hHeld;(try simp only [Act.put,lay]);(try replace B_j10:=B_j10.keep hb0);clear hb0;have mk1:=True.intro)
   | (have hx:=hC4;clear hx;go_simp;refine (HD3.out _).mono ?_;rintro e wk ⟨rfl,hb1⟩;go_wp2_with fail;refine hC4.out _ _ (hHeld.keep hb1) (fun _=>?_);clear hC4 KK hHeld;rename_i hHeld;(try simp only [Act.put,lay]);(try replace B_j10:=B_j10.keep hb1);clear hb1;have mk4:=True.intro)
   | (have hx:=hC7;clear hx;go_simp;refine (HM2.out _).mono ?_;rintro e wk ⟨rfl,hb2⟩;go_wp2_with fail;refine hC7.out _ _ (hHeld.keep hb2) (fun _=>?_);clear hC7 KK hHeld;rename_i hHeld;(try simp only [Act.put,lay]);(try replace B_j10:=B_j10.keep hb2);clear hb2;have mk7:=True.intro)
   | (have hx:=hC9;clear hx;go_simp;refine (HD4.out _).mono ?_;rintro e wk ⟨rfl,hb3⟩;go_wp2_with fail;refine hC9.out _ _ (hHeld.keep hb3) (fun _=>?_);clear hC9 KK hHeld;rename_i hHeld;(try simp only [Act.put,lay]);(try replace B_j10:=B_j10.keep hb3);clear hb3;have mk9:=True.intro)
   | (have hx:=hC10;clear hx;go_simp;refine (HU2.out _).mono ?_;rintro e wk ⟨rfl,hb4⟩;go_wp2_with fail;refine hC10.out _ _ (hHeld.keep hb4) (fun _=>?_);clear hC10 KK hHeld;rename_i hHeld;(try simp only [Act.put,lay]);(try replace B_j10:=B_j10.keep hb4);clear hb4;have mk10:=True.intro)
   | (have hx:=hA11;clear hx;go_simp;have hl_j10:=hHeld.lts;refine hA11.out _ _ (hHeld.alloc _) (fun _=>?_);clear hA11 KK hHeld;rename_i hHeld;(try simp only [Act.put,lay]);generalize hwn:World.alloc wk _=wn at hHeld ⊢;have B_j10:=Blk.newE hwn;simp only [List.mem_cons,List.not_mem_nil,or_false,forall_eq_or_imp,forall_eq,false_imp_iff,implies_true,and_true] at hl_j10;clear hwn;generalize hg:wk.heap.size=j10 at B_j10 hl_j10 ⊢;clear hg;obtain⟨wk,rfl⟩:∃ X,X=wn:=⟨_,rfl⟩;have mk11:=True.intro)
   | (have hx:=hS12;clear hx;have qz0:=B_j10.ce 0 rfl;have fz0:=B_j10.frozen 0;have qz1:=B_j10.ce 1 rfl;have fz1:=B_j10.frozen 1;go_simp;have hsx:=hHeld.far [.float .f64 p6,.float .f64 q6] 0 (g:=j10) (by omega) (by simp<;>omega) (by simp<;>omega);generalize hwn:sets wk j10 0 _=wn at hsx;refine hS12.out _ _ (by have e:=hwn;simp only [sets,Nat.reduceAdd] at e;rw [e];exact hsx) (fun _=>?_);clear hS12 KK hHeld hsx;rename_i hHeld;(try simp only [Act.put,lay]);replace B_j10:=B_j10.setsE hwn;simp only [laid,lay,Nat.reduceAdd] at B_j10;simp only [sets,Nat.reduceAdd] at hwn;rw [hwn] at hHeld ⊢;clear hwn qz0 fz0 qz1 fz1;obtain⟨wk,rfl⟩:∃ X,X=wn:=⟨_,rfl⟩;have mk12:=True.intro)
   | (have hx:=mk1;have hx:=mk4;have hx:=mk7;have hx:=mk9;have hx:=mk10;have hx:=mk11;have hx:=mk12;refine wpAnyH_done (by kernel_rfl) ?_ _;clear hx mk1 mk4 mk7 mk9 mk10 mk11 mk12;go_wp2_with fail;go_meet;exact⟨j10,rfl,⟨by omega,by omega,by omega⟩,hHeld.put B_j10⟩)
   | (have hx:=mk1;have hx:=mk4;have hx:=mk7;have hx:=mk9;have hx:=mk10;have hx:=mk11;refine rdy 12 (fun KK hS12=>?_))
   | (have hx:=mk1;have hx:=mk4;have hx:=mk7;have hx:=mk9;have hx:=mk11;refine rdy 10 (fun KK hC10=>?_))
   | (have hx:=mk1;have hx:=mk4;have hx:=mk7;have hx:=mk9;have hx:=mk10;refine rdy 11 (fun KK hA11=>?_))
   | (have hx:=mk1;have hx:=mk4;have hx:=mk7;have hx:=mk11;refine rdy 9 (fun KK hC9=>?_))
   | (have hx:=mk1;have hx:=mk4;have hx:=mk7;have hx:=mk9;refine rd2 10 11 (fun KK hC10=>?_) (fun KK hA11=>?_))
   | (have hx:=mk1;have hx:=mk4;have hx:=mk11;refine rdy 7 (fun KK hC7=>?_))
   | (have hx:=mk1;have hx:=mk4;have hx:=mk7;refine rd2 9 11 (fun KK hC9=>?_) (fun KK hA11=>?_))
   | (have hx:=mk1;have hx:=mk11;refine rdy 4 (fun KK hC4=>?_))
   | (have hx:=mk1;have hx:=mk4;refine rd2 7 11 (fun KK hC7=>?_) (fun KK hA11=>?_))
   | (have hx:=mk11;refine rdy 1 (fun KK hC1=>?_))
   | (have hx:=mk1;refine rd2 4 11 (fun KK hC4=>?_) (fun KK hA11=>?_))
   | (refine rd2 1 11 (fun KK hC1=>?_) (fun KK hA11=>?_))
 case rest=>
 obtain⟨j10,rfl,hgs_j10,hcl⟩:=hcut;rename World=>wx;clear LL HD3 HD4 HU2;have LL:=Hd hcl;clear hcl;go_wp2_with fail;replace LL:=Hd (LL.out.loose3 rfl);refine regL LL (fun hHeld=>?_);clear LL;generalize World.drew _=wk at hHeld  ⊢;refine tkb 0 (fun _ h=>(h.blk 4 rfl).c2) ?_;refine tkb 1 (fun _ h=>(h.blk 5 rfl).c2) ?_;refine rdy 2 fun KK hKK=>?_;go_simp;refine cs (HM4.out _) ?_;clear hKK KK hHeld;intro wk hb1 hHeld;clear hb1;refine rdy 3 fun KK hKK=>?_;go_simp;refine cs (HU3.out _) ?_;clear hKK KK hHeld;intro wk hb2 hHeld;clear hb2;refine rdy 4 fun KK hKK=>?_;obtain⟨ha0,hf0,ha1,hf1⟩:=(hHeld.has 0 rfl).sf2;go_simp;have HS_0:=(hHeld.has 0 rfl).laid [.float .f64 p8,.float .f64 q8] rfl;refine hKK.out _ _ (hHeld.over 0 rfl [.float .f64 p8,.float .f64 q8] rfl rfl (by first | omega | exact hHeld.le_of 0 rfl) (by simp<;>omega) (by simp<;>omega)) (fun _=>?_);clear hKK KK hHeld;rename_i hHeld;(try simp only [Act.put,lay]);refine wpAnyH_done (by kernel_rfl) ?_ _;have LB:=Hd hHeld.b;clear hHeld;obtain⟨hk6_0,hk6_1⟩:=HS_0.c2;clear HS_0
 simp [sets] at hk6_0 hk6_1
 go_wp2;refine bodyPost_ret (v:=Zf p8 q8) (by simp [results,Tryz.results27,go_sem,hk6_0,hk6_1]) rfl ?_
 exact⟨rfl,LB.out⟩
set_option maxRecDepth 8000 in
theorem reciprev_walk(c1 c2 x1 x2 r1 r2:Nat)(w:World)(h:∀ W,Rt 27 #[Zf 4607182418800017408 4607182418800017408,Zf c1 c2,Zf x1 x2] (Zf r1 r2) W):
  Rt 28 #[Zf c1 c2,Zf x1 x2] (Zf r1 r2) w:=by
 have H:=Hd h;clear h;have LL:=li3 w (Zv c1 c2) 28 (Zv x1 x2) 28 (Zv 0 0) 28
 go_enter Tryz.func28,Tryz.ntmps28
 obtain⟨q1_0,q1_1⟩:=(LL.out.blk 0 rfl).c2;obtain⟨q2_0,q2_1⟩:=(LL.out.blk 1 rfl).c2;go_wp2_with fail;refine cx (H.out _) fun wk hb=>?_;replace LL:=stL LL hb;clear hb q1_0 q1_1 q2_0 q2_1;replace LL:=Hd (LL.out.loose2 rfl);obtain⟨ha4_0,hf4_0,ha4_1,hf4_1⟩:=(LL.out.has 0 rfl).sf2;have LF:=Hd (LL.out.wr [.float .f64 r1,.float .f64 r2]);obtain⟨hk4_0,hk4_1⟩:=(LF.out.blk 2 rfl).c2
 simp [sets] at hk4_0 hk4_1
 clear LL;go_wp2;refine bodyPost_ret (v:=Zf r1 r2) (by simp [results,Tryz.results28,go_sem,hk4_0,hk4_1]) rfl ?_
 exact⟨rfl,LF.out.b⟩
end
section
open Go.RowKit
theorem es3(i:Int):es i=0\/es i=1\/es i=-1:=by unfold es;split<;>(try split)<;>omega
theorem up10:up 1 0=M:=by
 have hM:=M_val;unfold up;rw [if_neg (by omega)];omega
theorem dn10:dn 1 0=M:=by
 have hM:=M_val;unfold dn;rw [if_neg (by omega)];omega
theorem up_10:up (-1) 0=-(M:Int):=by
 have hM:=M_val;unfold up;rw [if_neg (by omega)];omega
theorem dn_10:dn (-1) 0=-(M:Int):=by
 have hM:=M_val;unfold dn;rw [if_neg (by omega)];omega
theorem up00:up 0 0=0:=rndI_zero (.inr rfl)
theorem dn00:dn 0 0=0:=rndI_zero (.inl rfl)
theorem zc1{i j:Int}(hx:Ne i j):ctO true i j (-(M:Int)) (-(M:Int)) 0 0=pf (-1) 0 true 0 0 true i j:=by
 have hM:=M_val
 have h:=ct_tail (op:=true) (sa:=-1) (xa:=0) (fa:=true) (sb:=0) (xb:=0) (fb:=true) hx (.inr rfl) (.inl rfl) (fun _=>.inl rfl) (fun _=>.inr ⟨rfl,rfl⟩)
  ⟨fun h=>by have h1:=h.2.1;rw [dn_10] at h1;omega,fun h=>by have h1:=h.1;omega⟩ ⟨fun _=>⟨rfl,rfl,rfl⟩,fun _=>⟨rfl,dn00,up00⟩⟩
 rw [dn_10,up_10,dn00,up00] at h
 exact h
theorem zc2{i j:Int}(hx:Ne i j):ctO true i j 0 0 M M=pf 0 0 true 1 0 true i j:=by
 have hM:=M_val
 have h:=ct_tail (op:=true) (sa:=0) (xa:=0) (fa:=true) (sb:=1) (xb:=0) (fb:=true) hx (.inl rfl) (.inr rfl) (fun _=>.inr ⟨rfl,rfl⟩) (fun _=>.inl rfl)
  ⟨fun _=>⟨rfl,rfl,rfl⟩,fun _=>⟨rfl,dn00,up00⟩⟩ ⟨fun h=>by have h1:=h.2.1;rw [dn10] at h1;omega,fun h=>by have h1:=h.1;omega⟩
 rw [dn10,up10,dn00,up00] at h
 exact h
theorem zc1_iv(i j:Int)(h:Iv i j):Iv (pf (-1) 0 true 0 0 true i j).1 (pf (-1) 0 true 0 0 true i j).2:=by
 have hM:=M_val
 exact pf_iv (.inr rfl) (.inl rfl) (by rw [dn_10,up00];omega) i j h
theorem zc2_iv(i j:Int)(h:Iv i j):Iv (pf 0 0 true 1 0 true i j).1 (pf 0 0 true 1 0 true i j).2:=by
 have hM:=M_val
 exact pf_iv (.inl rfl) (.inr rfl) (by rw [dn00,up10];omega) i j h
theorem divisor_any(i1 j1 i2 j2 i j:Int)(w:World)(h1:Ne i1 j1)(h2:Ne i2 j2)(hx:Ne i j):
  Rt 89 #[Zf (pat i1) (pat j1),Zf (pat i2) (pat j2),Zf (pat i) (pat j)] (Zf (pat (FD i1 j1 i2 j2 i j).1) (pat (FD i1 j1 i2 j2 i j).2)) w:=by
 have hM:=M_val;rw [<- dvs_FD h1 h2 hx];have r1:=h1.iv.lo;have r2:=h1.iv.hi;have r3:=h2.iv.lo;have r4:=h2.iv.hi;unfold dvs
 by_cases h:j1<=0\/j2<=0
 ·rw [if_pos h,pat_max,pat_min];refine divisor_none _ _ _ _ _ _ (compare j1 0) (compare j2 0) w (ord0 r2) (ord0 r4) ?_
  rcases h with h | h
  ·exact .inl fun e=>by have:=Int.compare_eq_gt.1 e;omega
  ·exact .inr fun e=>by have:=Int.compare_eq_gt.1 e;omega
 ·rw [if_neg h];have o1:FloatKind.f64.format.order (pat j1) 0=some .gt:=ord0_gt r2 (by omega);have o2:FloatKind.f64.format.order (pat j2) 0=some .gt:=ord0_gt r4 (by omega)
  have le:∀ k:Int,-(M:Int)<=k/\k<=M->¬ 0<k->FloatKind.f64.format.order (pat k) 0=some .eq\/FloatKind.f64.format.order (pat k) 0=some .lt:=fun k hk hn=>by
   by_cases h0:k=0
   ·exact .inl (ord0_eq h0)
   ·exact .inr (ord0_lt hk (by omega))
  have P1:=fun W=>point_gen i1 W r1;have P2:=fun W=>point_gen j1 W r2;have V1:=fun W g B n k E he=>over_any (es i1) g B n k E (ex i1) j2 W he (by omega) r4.2;have V2:=fun (q:0<i2) W g B n k E he=>over_any (es j1) g B n k E (ex j1) i2 W he q r3.2;have g1:=ov_rng (x:=ex i1) (j:=j2) (es3 i1);have g2:=ov_rng (x:=ex j1) (j:=i2) (es3 j1)
  have z0:-(M:Int)<=0/\(0:Int)<=M:=by omega
  have zM:-(M:Int)<=M/\(M:Int)<=M:=by omega
  have hc:=fun (pd pu qd qu:Int) k1 k2 k3 k4 W=>rcut2_any true i j pd pu qd qu W hx.iv.lo hx.iv.hi k1 k2 k3 k4
  by_cases p:0<i1
  ·rw [if_pos p]
   by_cases q:0<i2
   ·rw [if_pos q]
    exact divisor_pq _ _ _ _ _ _ _ _ _ _ _ _ _ _ _ _ w o1 o2 (ord0_gt r1 p) (ord0_gt r3 q) P1 V1 P2 (V2 q) (hc _ _ _ _ g1.1 g1.2 g2.1 g2.2)
   ·rw [if_neg q];have hc:=hc _ _ _ _ g1.1 g1.2 zM zM;rw [pat_max] at hc
    exact divisor_pi _ _ _ _ _ _ _ _ _ _ _ _ w o1 o2 (ord0_gt r1 p) (le i2 r3 q) P1 V1 hc
  ·rw [if_neg p]
   by_cases q:0<i2
   ·rw [if_pos q];have hc:=hc _ _ _ _ z0 z0 g2.1 g2.2;rw [pat_zero] at hc
    exact divisor_zq _ _ _ _ _ _ _ _ _ _ _ _ w o1 o2 (le i1 r1 p) (ord0_gt r3 q) P2 (V2 q) hc
   ·rw [if_neg q];have hc:=hc _ _ _ _ z0 z0 zM zM;rw [pat_zero,pat_max] at hc
    exact divisor_zi _ _ _ _ _ _ _ _ w o1 o2 (le i1 r1 p) (le i2 r3 q) hc
def dr2(i1 j1 i2 j2 i j:Int):Int × Int:=
 if j1<i1\/j2<i2\/j<i then ((M:Int),-(M:Int))
 else if (i1<=0/\0<=j1)/\(i2<=0/\0<=j2) then (min (pf (-1) 0 true 0 0 true i j).1 (pf 0 0 true 1 0 true i j).1,max (pf (-1) 0 true 0 0 true i j).2 (pf 0 0 true 1 0 true i j).2)
 else (min (min (FD i1 j1 i2 j2 i j).1 (FD (-j1) (-i1) (-j2) (-i2) i j).1) (-(max (FD (-j1) (-i1) i2 j2 (-j) (-i)).2 (FD i1 j1 (-j2) (-i2) (-j) (-i)).2)),
  max (max (FD i1 j1 i2 j2 i j).2 (FD (-j1) (-i1) (-j2) (-i2) i j).2) (-(min (FD (-j1) (-i1) i2 j2 (-j) (-i)).1 (FD i1 j1 (-j2) (-i2) (-j) (-i)).1)))
theorem hull_iv{i j i' j':Int}(h:Iv i j)(h':Iv i' j'):Iv (min i i') (max j j'):=by
 have hM:=M_val;unfold Iv at *
 omega
theorem divrev2_any(b1 b2 c1 c2 x y:Nat)(w:World)(hb1:b1<18446744073709551616)(hb2:b2<18446744073709551616)(hc1:c1<18446744073709551616)(hc2:c2<18446744073709551616)(hx:x<18446744073709551616)(hy:y<18446744073709551616):
  Rt 27 #[Zf b1 b2,Zf c1 c2,Zf x y] (Zf (pat (dr2 (rd b1 b2).1 (rd b1 b2).2 (rd c1 c2).1 (rd c1 c2).2 (rd x y).1 (rd x y).2).1) (pat (dr2 (rd b1 b2).1 (rd b1 b2).2 (rd c1 c2).1 (rd c1 c2).2 (rd x y).1 (rd x y).2).2)) w:=by
 have hM:=M_val;have v1:=rd_iv b1 b2;have v2:=rd_iv c1 c2;have v3:=rd_iv x y;have t1:=fun W=>readf b1 b2 W hb1 hb2;have t2:=fun W=>readf c1 c2 W hc1 hc2;have t3:=fun W=>readf x y W hx hy
 obtain⟨⟨i1,j1⟩,r1⟩:∃ z,rd b1 b2=z:=⟨_,rfl⟩
 obtain⟨⟨i2,j2⟩,r2⟩:∃ z,rd c1 c2=z:=⟨_,rfl⟩
 obtain⟨⟨i3,j3⟩,r3⟩:∃ z,rd x y=z:=⟨_,rfl⟩
 rw [r1] at v1 t1;rw [r2] at v2 t2;rw [r3] at v3 t3;rw [r1,r2,r3]
 dsimp only at *
 have m1:=em_idx v1;have m2:=em_idx v2;have m3:=em_idx v3;unfold dr2
 by_cases hno:j1<i1\/j2<i2\/j3<i3
 ·rw [if_pos hno,pat_max,pat_min]
  exact divrev2_none _ _ _ _ _ _ _ _ _ _ _ _ _ _ _ w t1 m1 t2 m2 t3 m3 (by simp;omega)
 ·rw [if_neg hno]
  have hnn:(decide (j1<i1) || decide (j2<i2) || decide (j3<i3))=false:=by simp;omega
  have n1:=ne_or v1 (by omega);have n2:=ne_or v2 (by omega);have n3:=ne_or v3 (by omega);have H1:=fun W=>has_any i1 j1 W v1.lo v1.hi;have H2:=fun W=>has_any i2 j2 W v2.lo v2.hi
  by_cases hz:(i1<=0/\0<=j1)/\(i2<=0/\0<=j2)
  ·rw [if_pos hz];rw [decide_eq_true hz.1] at H1;rw [decide_eq_true hz.2] at H2
   have z0:-(M:Int)<=0/\(0:Int)<=M:=by omega
   have zM:-(M:Int)<=M/\(M:Int)<=M:=by omega
   have zN:-(M:Int)<=-(M:Int)/\-(M:Int)<=M:=by omega
   have C1:=fun W=>rcut2_any true i3 j3 (-(M:Int)) (-(M:Int)) 0 0 W v3.lo v3.hi zN zN z0 z0;have C2:=fun W=>rcut2_any true i3 j3 0 0 M M W v3.lo v3.hi z0 z0 zM zM;rw [zc1 n3,pat_min,pat_zero] at C1;rw [zc2 n3,pat_max,pat_zero] at C2
   exact divrev2_zero _ _ _ _ _ _ _ _ _ _ _ _ _ _ _ _ _ _ _ _ _ w t1 m1 t2 m2 t3 m3 hnn H1 H2 C1 C2 (fun W=>hullf _ _ _ _ W (zc1_iv _ _ v3) (zc2_iv _ _ v3))
  ·rw [if_neg hz];have n1':=n1;have n2':=n2;unfold Ne at n1' n2';have f1:=FD_iv n1'.2.1 n2'.2.1 i3 j3 v3;have f2:=FD_iv (show -j1<=-i1 by omega) (show -j2<=-i2 by omega) i3 j3 v3;have f3:=FD_iv (show -j1<=-i1 by omega) n2'.2.1 (-j3) (-i3) v3.negg;have f4:=FD_iv n1'.2.1 (show -j2<=-i2 by omega) (-j3) (-i3) v3.negg
   refine divrev2_some _ _ _ _ _ _ _ _ _ _ _ _ _ _ _ _ _ _ _ _ _ _ _ _ _ _ _ _ _ _ _ _ _ _ _ _ _ _ _ w t1 m1 t2 m2 t3 m3 hnn H1 H2 ?_ (fun W=>mirror_idx i1 j1 W v1) (fun W=>mirror_idx i2 j2 W v2) (fun W=>mirror_idx i3 j3 W v3) (fun W=>divisor_any i1 j1 i2 j2 i3 j3 W n1 n2 n3) (fun W=>divisor_any (-j1) (-i1) (-j2) (-i2) i3 j3 W n1.neg n2.neg n3) (fun W=>divisor_any (-j1) (-i1) i2 j2 (-j3) (-i3) W n1.neg n2 n3.neg) (fun W=>divisor_any i1 j1 (-j2) (-i2) (-j3) (-i3) W n1 n2.neg n3.neg)
    (fun W=>hullf _ _ _ _ W f1 f2) (fun W=>hullf _ _ _ _ W f3 f4) (fun W=>mirror_idx _ _ W (hull_iv f3 f4)) (fun W=>hullf _ _ _ _ W (hull_iv f1 f2) (hull_iv f3 f4).negg)
   by_cases ha:i1<=0/\0<=j1
   ·exact .inr ⟨decide_eq_true ha,decide_eq_false fun h=>hz ⟨ha,h⟩⟩
   ·exact .inl (decide_eq_false ha)
def K1:Int:=4607182418800017408
theorem pat_K1:pat K1=4607182418800017408:=by decide
theorem K1_iv:Iv K1 K1:=by
 have hM:=M_val;unfold K1;exact .inl (by omega)
theorem rd_K1:rd 4607182418800017408 4607182418800017408=(K1,K1):=by
 have h:=rd_pat K1_iv;rw [pat_K1] at h
 exact h
theorem reciprev_any(c1 c2 x y:Nat)(w:World)(hc1:c1<18446744073709551616)(hc2:c2<18446744073709551616)(hx:x<18446744073709551616)(hy:y<18446744073709551616):
  Rt 28 #[Zf c1 c2,Zf x y] (Zf (pat (dr2 K1 K1 (rd c1 c2).1 (rd c1 c2).2 (rd x y).1 (rd x y).2).1) (pat (dr2 K1 K1 (rd c1 c2).1 (rd c1 c2).2 (rd x y).1 (rd x y).2).2)) w:=by
 refine reciprev_walk c1 c2 x y _ _ w fun W=>?_;have h:=divrev2_any 4607182418800017408 4607182418800017408 c1 c2 x y W (by omega) (by omega) hc1 hc2 hx hy;rw [rd_K1] at h
 exact h
end
section
open Go.RowKit
attribute [local go_sem] run_store_float
def rmr(i1 j1 i2 j2 i3 j3:Int):Int × Int:=if j1<i1\/j2<i2\/j3<i3\/j1<i2 then ((M:Int),-(M:Int)) else it i2 (if i1<=j2 then (M:Int) else j2) i3 j3
theorem revmin_none(b1 b2 c1 c2 x y:Nat)(i1 j1 i2 j2 i3 j3:Int)(w:World)(hb1:b1<18446744073709551616)(hb2:b2<18446744073709551616)(hc1:c1<18446744073709551616)(hc2:c2<18446744073709551616)(hx:x<18446744073709551616)(hy:y<18446744073709551616)(r1:rd b1 b2=(i1,j1))(r2:rd c1 c2=(i2,j2))(r3:rd x y=(i3,j3))(hno:j1<i1\/j2<i2\/j3<i3):
  Rt 29 #[Zf b1 b2,Zf c1 c2,Zf x y] (Zf (pat (((M:Int),-(M:Int))).1) (pat (((M:Int),-(M:Int))).2)) w:=by
 have v1:=rd_iv b1 b2;have v2:=rd_iv c1 c2;have v3:=rd_iv x y;rw [r1] at v1;rw [r2] at v2;rw [r3] at v3
 dsimp only at v1 v2 v3
 have hM:M=9218868437227405312:=rfl;have t1:=fun W=>readf b1 b2 W hb1 hb2;have t2:=fun W=>readf c1 c2 W hc1 hc2;have t3:=fun W=>readf x y W hx hy;rw [r1] at t1;rw [r2] at t2;rw [r3] at t3
 dsimp only at t1 t2 t3
 have m1:=em_idx v1;have m2:=em_idx v2;have m3:=em_idx v3;have o1:=order_pat v2.lo.1 v2.lo.2 v1.hi.1 v1.hi.2;have o2:=order_pat v2.hi.1 v2.hi.2 v1.lo.1 v1.lo.2
 have hnn:(decide (j1<i1) || decide (j2<i2) || decide (j3<i3))=true:=by simp;omega
 rw [pat_max,pat_min];have HE:=Hd emptyf
 obtain⟨P1,hP1⟩:∃ z,pat i1=z:=⟨_,rfl⟩
 obtain⟨Q1,hQ1⟩:∃ z,pat j1=z:=⟨_,rfl⟩
 obtain⟨P2,hP2⟩:∃ z,pat i2=z:=⟨_,rfl⟩
 obtain⟨Q2,hQ2⟩:∃ z,pat j2=z:=⟨_,rfl⟩
 obtain⟨P3,hP3⟩:∃ z,pat i3=z:=⟨_,rfl⟩
 obtain⟨Q3,hQ3⟩:∃ z,pat j3=z:=⟨_,rfl⟩
 rw [hP1,hQ1] at t1 m1;rw [hP2,hQ2] at t2 m2;rw [hP3,hQ3] at t3 m3;have HRD:=readL43 w (Zv 0 0) 28 t1 m1 t2 m2 t3 m3 hnn;clear t1 t2 t3 m1 m2 m3 hnn hno v1 v2 v3 hM hP1 hQ1 hP2 hQ2 hP3 hQ3 r1 r2 r3 o1 o2
 go_enter Tryz.func29,Tryz.ntmps29
 go_wp2_with fail;refine HRD.out.mono ?_;rintro e w1 ⟨rfl,hl⟩;have LB1:=Hd hl.b;have LR1:=Hd (HasBlk.of (n:=2) (hl.blk 3 rfl) rfl rfl);have LG0_1:=Hd (hl.blk 0 rfl);have LG1_1:=Hd (hl.blk 1 rfl);have LG2_1:=Hd (hl.blk 2 rfl);clear hl HRD;obtain⟨q0_0,q0_1⟩:=LG0_1.out.c2;obtain⟨q1_0,q1_1⟩:=LG1_1.out.c2;go_wp2_with fail;refine cx (HE.out _) fun w2 hbx=>?_;have LB2:=stB LB1 hbx LB1.out.size;have LR2:=stR LR1 hbx;have LG0_2:=stG LG0_1 hbx;have LG1_2:=stG LG1_1 hbx;have LG2_2:=stG LG2_1 hbx;clear LB1 LR1 LG0_1 LG1_1 LG2_1;clear hbx q0_0 q0_1 q1_0 q1_1;obtain⟨ha0,hf0,ha1,hf1⟩:=LR2.out.sf2;obtain⟨hk0,hk1⟩:=LR2.out.sc2 (.float .f64 9218868437227405312) (.float .f64 18442240474082181120);have F:=Hd (below_sets (w0:=w) (r:=(w.heap.size+3)) (by omega) [.float .f64 9218868437227405312,.float .f64 18442240474082181120] 0 _ LB2.out)
 simp [sets] at hk0 hk1
 go_wp2;refine bodyPost_ret (v:=Zf 9218868437227405312 18442240474082181120) (by simp [results,Tryz.results29,go_sem,hk0,hk1]) rfl ?_
 exact⟨rfl,F.out⟩
theorem revmin_gt(b1 b2 c1 c2 x y:Nat)(i1 j1 i2 j2 i3 j3:Int)(w:World)(hb1:b1<18446744073709551616)(hb2:b2<18446744073709551616)(hc1:c1<18446744073709551616)(hc2:c2<18446744073709551616)(hx:x<18446744073709551616)(hy:y<18446744073709551616)(r1:rd b1 b2=(i1,j1))(r2:rd c1 c2=(i2,j2))(r3:rd x y=(i3,j3))(hno:¬ (j1<i1\/j2<i2\/j3<i3))(hgt:j1<i2):
  Rt 29 #[Zf b1 b2,Zf c1 c2,Zf x y] (Zf (pat (((M:Int),-(M:Int))).1) (pat (((M:Int),-(M:Int))).2)) w:=by
 have v1:=rd_iv b1 b2;have v2:=rd_iv c1 c2;have v3:=rd_iv x y;rw [r1] at v1;rw [r2] at v2;rw [r3] at v3
 dsimp only at v1 v2 v3
 have hM:M=9218868437227405312:=rfl;have t1:=fun W=>readf b1 b2 W hb1 hb2;have t2:=fun W=>readf c1 c2 W hc1 hc2;have t3:=fun W=>readf x y W hx hy;rw [r1] at t1;rw [r2] at t2;rw [r3] at t3
 dsimp only at t1 t2 t3
 have m1:=em_idx v1;have m2:=em_idx v2;have m3:=em_idx v3;have o1:=order_pat v2.lo.1 v2.lo.2 v1.hi.1 v1.hi.2;have o2:=order_pat v2.hi.1 v2.hi.2 v1.lo.1 v1.lo.2
 have hnn:(decide (j1<i1) || decide (j2<i2) || decide (j3<i3))=false:=by simp;omega
 rw [show compare i2 j1=.gt from Int.compare_eq_gt.2 hgt] at o1;rw [pat_max,pat_min];have HE:=Hd emptyf
 obtain⟨P1,hP1⟩:∃ z,pat i1=z:=⟨_,rfl⟩
 obtain⟨Q1,hQ1⟩:∃ z,pat j1=z:=⟨_,rfl⟩
 obtain⟨P2,hP2⟩:∃ z,pat i2=z:=⟨_,rfl⟩
 obtain⟨Q2,hQ2⟩:∃ z,pat j2=z:=⟨_,rfl⟩
 obtain⟨P3,hP3⟩:∃ z,pat i3=z:=⟨_,rfl⟩
 obtain⟨Q3,hQ3⟩:∃ z,pat j3=z:=⟨_,rfl⟩
 rw [hP1,hQ1] at t1 m1;rw [hP2,hQ2] at t2 m2;rw [hP3,hQ3] at t3 m3;rw [hP2,hQ1] at o1;have HRD:=readL43 w (Zv 0 0) 28 t1 m1 t2 m2 t3 m3 hnn;clear t1 t2 t3 m1 m2 m3 hnn hno v1 v2 v3 hM hP1 hQ1 hP2 hQ2 hP3 hQ3 r1 r2 r3 hgt o2
 go_enter Tryz.func29,Tryz.ntmps29
 go_wp2_with fail;refine HRD.out.mono ?_;rintro e w1 ⟨rfl,hl⟩;have LB1:=Hd hl.b;have LR1:=Hd (HasBlk.of (n:=2) (hl.blk 3 rfl) rfl rfl);have LG0_1:=Hd (hl.blk 0 rfl);have LG1_1:=Hd (hl.blk 1 rfl);have LG2_1:=Hd (hl.blk 2 rfl);clear hl HRD;obtain⟨q0_0,q0_1⟩:=LG0_1.out.c2;obtain⟨q1_0,q1_1⟩:=LG1_1.out.c2;go_wp2_with fail;refine cx (HE.out _) fun w2 hbx=>?_;have LB2:=stB LB1 hbx LB1.out.size;have LR2:=stR LR1 hbx;have LG0_2:=stG LG0_1 hbx;have LG1_2:=stG LG1_1 hbx;have LG2_2:=stG LG2_1 hbx;clear LB1 LR1 LG0_1 LG1_1 LG2_1;clear hbx q0_0 q0_1 q1_0 q1_1;obtain⟨ha0,hf0,ha1,hf1⟩:=LR2.out.sf2;obtain⟨hk0,hk1⟩:=LR2.out.sc2 (.float .f64 9218868437227405312) (.float .f64 18442240474082181120);have F:=Hd (below_sets (w0:=w) (r:=(w.heap.size+3)) (by omega) [.float .f64 9218868437227405312,.float .f64 18442240474082181120] 0 _ LB2.out)
 simp [sets] at hk0 hk1
 go_wp2;refine bodyPost_ret (v:=Zf 9218868437227405312 18442240474082181120) (by simp [results,Tryz.results29,go_sem,hk0,hk1]) rfl ?_
 exact⟨rfl,F.out⟩
theorem revmin_ge(b1 b2 c1 c2 x y:Nat)(i1 j1 i2 j2 i3 j3:Int)(w:World)(hb1:b1<18446744073709551616)(hb2:b2<18446744073709551616)(hc1:c1<18446744073709551616)(hc2:c2<18446744073709551616)(hx:x<18446744073709551616)(hy:y<18446744073709551616)(r1:rd b1 b2=(i1,j1))(r2:rd c1 c2=(i2,j2))(r3:rd x y=(i3,j3))(hno:¬ (j1<i1\/j2<i2\/j3<i3))(hgt:¬ j1<i2)(hge:i1<=j2):
  Rt 29 #[Zf b1 b2,Zf c1 c2,Zf x y] (Zf (pat (it i2 M i3 j3).1) (pat (it i2 M i3 j3).2)) w:=by
 have v1:=rd_iv b1 b2;have v2:=rd_iv c1 c2;have v3:=rd_iv x y;rw [r1] at v1;rw [r2] at v2;rw [r3] at v3
 dsimp only at v1 v2 v3
 have hM:M=9218868437227405312:=rfl;have t1:=fun W=>readf b1 b2 W hb1 hb2;have t2:=fun W=>readf c1 c2 W hc1 hc2;have t3:=fun W=>readf x y W hx hy;rw [r1] at t1;rw [r2] at t2;rw [r3] at t3
 dsimp only at t1 t2 t3
 have m1:=em_idx v1;have m2:=em_idx v2;have m3:=em_idx v3;have o1:=order_pat v2.lo.1 v2.lo.2 v1.hi.1 v1.hi.2;have o2:=order_pat v2.hi.1 v2.hi.2 v1.lo.1 v1.lo.2
 have hnn:(decide (j1<i1) || decide (j2<i2) || decide (j3<i3))=false:=by simp;omega
 have w2:Iv i2 M:=by unfold Iv at *;omega
 have HI:=Hd fun W=>inter_idx i2 M i3 j3 W w2 v3;rw [pat_max] at HI
 have ho1:(FloatKind.f64.format.order (pat i2) (pat j1) == some Ordering.gt)=false:=by
  rw [o1]
  rcases Int.lt_trichotomy i2 j1 with h | h | h
  ·rw [show compare i2 j1=.lt from Int.compare_eq_lt.2 h];rfl
  ·rw [show compare i2 j1=.eq from Int.compare_eq_eq.2 h];rfl
  ·exact absurd h hgt
 clear o1
 have hge2:compare j2 i1=.gt\/compare j2 i1=.eq:=by
  rcases Int.lt_trichotomy i1 j2 with h | h | h
  ·exact .inl (Int.compare_eq_gt.2 h)
  ·exact .inr (Int.compare_eq_eq.2 h.symm)
  ·omega
 obtain⟨z1,hz1⟩:∃ z,pat (it i2 M i3 j3).1=z:=⟨_,rfl⟩
 obtain⟨z2,hz2⟩:∃ z,pat (it i2 M i3 j3).2=z:=⟨_,rfl⟩
 rw [hz1,hz2] at HI ⊢;clear hz1 hz2
 obtain⟨P1,hP1⟩:∃ z,pat i1=z:=⟨_,rfl⟩
 obtain⟨Q1,hQ1⟩:∃ z,pat j1=z:=⟨_,rfl⟩
 obtain⟨P2,hP2⟩:∃ z,pat i2=z:=⟨_,rfl⟩
 obtain⟨Q2,hQ2⟩:∃ z,pat j2=z:=⟨_,rfl⟩
 obtain⟨P3,hP3⟩:∃ z,pat i3=z:=⟨_,rfl⟩
 obtain⟨Q3,hQ3⟩:∃ z,pat j3=z:=⟨_,rfl⟩
 rw [hP1,hQ1] at t1 m1;rw [hP2,hQ2] at t2 m2;rw [hP3,hQ3] at t3 m3;rw [hP2,hQ1] at ho1;rw [hQ2,hP1] at o2;rw [hP2,hP3,hQ3] at HI;have HRD:=readL43 w (Zv 0 0) 28 t1 m1 t2 m2 t3 m3 hnn;clear t1 t2 t3 m1 m2 m3 hnn hno v1 v2 v3 hM hP1 hQ1 hP2 hQ2 hP3 hQ3 r1 r2 r3 hgt hge
 go_enter Tryz.func29,Tryz.ntmps29
 go_wp2_with fail;refine HRD.out.mono ?_;rintro e w1 ⟨rfl,hl⟩;have LB1:=Hd hl.b;have LR1:=Hd (HasBlk.of (n:=2) (hl.blk 3 rfl) rfl rfl);have LG0_1:=Hd (hl.blk 0 rfl);have LG1_1:=Hd (hl.blk 1 rfl);have LG2_1:=Hd (hl.blk 2 rfl);clear hl HRD;obtain⟨q0_0,q0_1⟩:=LG0_1.out.c2;obtain⟨q1_0,q1_1⟩:=LG1_1.out.c2;have HP:=Hd inf_pos
 have hge3:(FloatKind.f64.format.order Q2 P1 == some Ordering.gt || FloatKind.f64.format.order Q2 P1 == some Ordering.eq)=true:=by
  rw [o2];rcases hge2 with e | e<;>rw [e]<;>rfl
 have hf1:=LG1_1.out.frozen 1
 rcases hge2 with e | e<;>rw [e] at o2<;>clear e
 all_goals
  go_wp2_with fail;refine (HP.out _).mono ?_;rintro e w2 ⟨rfl,rfl⟩
  go_upto_region 5 with fail
  clear hf1 q0_0 q0_1 q1_0 q1_1;have LB2:=Hd (below_sets (w0:=w) (show w.heap.size<=(w.heap.size+1) by omega) [.float .f64 9218868437227405312] 1 w1 LB1.out);have LR2:=Hd (LR1.out.other (r:=(w.heap.size+1)) (by omega) 1 [.float .f64 9218868437227405312]);have LG0_2:=Hd (LG0_1.out.other (r:=(w.heap.size+1)) (by omega) 1 [.float .f64 9218868437227405312]);have LG1_2:=Hd (show Blk (sets w1 (w.heap.size+1) 1 [.float .f64 9218868437227405312]) (w.heap.size+1) 28 (Zv P2 9218868437227405312) from by have hbs:=Blk.sets [.float .f64 9218868437227405312] 1 w1 _ LG1_1.out;simpa [laid] using hbs);have LG2_2:=Hd (LG2_1.out.other (r:=(w.heap.size+1)) (by omega) 1 [.float .f64 9218868437227405312]);clear LB1 LR1 LG0_1 LG1_1 LG2_1
  obtain⟨V1,hV1⟩:∃ X,(sets w1 (w.heap.size+1) 1 [.float .f64 9218868437227405312])=X:=⟨_,rfl⟩
  rw [hV1] at LB2 LR2 LG0_2 LG1_2 LG2_2;rw [show (w1.setCell ⟨(w.heap.size+1),1,none⟩ (.float .f64 9218868437227405312))=V1 from hV1];clear hV1;obtain⟨q1_0,q1_1⟩:=LG1_2.out.c2;obtain⟨q2_0,q2_1⟩:=LG2_2.out.c2;go_wp2_with fail;refine cx (HI.out _) fun w3 hbx=>?_;have LB3:=stB LB2 hbx LB2.out.size;have LR3:=stR LR2 hbx;have LG0_3:=stG LG0_2 hbx;have LG1_3:=stG LG1_2 hbx;have LG2_3:=stG LG2_2 hbx;clear LB2 LR2 LG0_2 LG1_2 LG2_2;clear hbx q1_0 q1_1 q2_0 q2_1;obtain⟨ha0,hf0,ha1,hf1⟩:=LR3.out.sf2;obtain⟨hk0,hk1⟩:=LR3.out.sc2 (.float .f64 z1) (.float .f64 z2);have F:=Hd (below_sets (w0:=w) (r:=(w.heap.size+3)) (by omega) [.float .f64 z1,.float .f64 z2] 0 _ LB3.out)
  simp [sets] at hk0 hk1
  go_wp2;refine bodyPost_ret (v:=Zf z1 z2) (by simp [results,Tryz.results29,go_sem,hk0,hk1]) rfl ?_
  exact⟨rfl,F.out⟩
theorem revmin_lt(b1 b2 c1 c2 x y:Nat)(i1 j1 i2 j2 i3 j3:Int)(w:World)(hb1:b1<18446744073709551616)(hb2:b2<18446744073709551616)(hc1:c1<18446744073709551616)(hc2:c2<18446744073709551616)(hx:x<18446744073709551616)(hy:y<18446744073709551616)(r1:rd b1 b2=(i1,j1))(r2:rd c1 c2=(i2,j2))(r3:rd x y=(i3,j3))(hno:¬ (j1<i1\/j2<i2\/j3<i3))(hgt:¬ j1<i2)(hge:¬ i1<=j2):
  Rt 29 #[Zf b1 b2,Zf c1 c2,Zf x y] (Zf (pat (it i2 j2 i3 j3).1) (pat (it i2 j2 i3 j3).2)) w:=by
 have v1:=rd_iv b1 b2;have v2:=rd_iv c1 c2;have v3:=rd_iv x y;rw [r1] at v1;rw [r2] at v2;rw [r3] at v3
 dsimp only at v1 v2 v3
 have hM:M=9218868437227405312:=rfl;have t1:=fun W=>readf b1 b2 W hb1 hb2;have t2:=fun W=>readf c1 c2 W hc1 hc2;have t3:=fun W=>readf x y W hx hy;rw [r1] at t1;rw [r2] at t2;rw [r3] at t3
 dsimp only at t1 t2 t3
 have m1:=em_idx v1;have m2:=em_idx v2;have m3:=em_idx v3;have o1:=order_pat v2.lo.1 v2.lo.2 v1.hi.1 v1.hi.2;have o2:=order_pat v2.hi.1 v2.hi.2 v1.lo.1 v1.lo.2
 have hnn:(decide (j1<i1) || decide (j2<i2) || decide (j3<i3))=false:=by simp;omega
 have w2:Iv i2 j2:=by unfold Iv at *;omega
 have HI:=Hd fun W=>inter_idx i2 j2 i3 j3 W w2 v3
 have ho1:(FloatKind.f64.format.order (pat i2) (pat j1) == some Ordering.gt)=false:=by
  rw [o1]
  rcases Int.lt_trichotomy i2 j1 with h | h | h
  ·rw [show compare i2 j1=.lt from Int.compare_eq_lt.2 h];rfl
  ·rw [show compare i2 j1=.eq from Int.compare_eq_eq.2 h];rfl
  ·exact absurd h hgt
 clear o1;rw [show compare j2 i1=.lt from Int.compare_eq_lt.2 (by omega)] at o2
 obtain⟨z1,hz1⟩:∃ z,pat (it i2 j2 i3 j3).1=z:=⟨_,rfl⟩
 obtain⟨z2,hz2⟩:∃ z,pat (it i2 j2 i3 j3).2=z:=⟨_,rfl⟩
 rw [hz1,hz2] at HI ⊢;clear hz1 hz2
 obtain⟨P1,hP1⟩:∃ z,pat i1=z:=⟨_,rfl⟩
 obtain⟨Q1,hQ1⟩:∃ z,pat j1=z:=⟨_,rfl⟩
 obtain⟨P2,hP2⟩:∃ z,pat i2=z:=⟨_,rfl⟩
 obtain⟨Q2,hQ2⟩:∃ z,pat j2=z:=⟨_,rfl⟩
 obtain⟨P3,hP3⟩:∃ z,pat i3=z:=⟨_,rfl⟩
 obtain⟨Q3,hQ3⟩:∃ z,pat j3=z:=⟨_,rfl⟩
 rw [hP1,hQ1] at t1 m1;rw [hP2,hQ2] at t2 m2;rw [hP3,hQ3] at t3 m3;rw [hP2,hQ1] at ho1;rw [hQ2,hP1] at o2;rw [hP2,hQ2,hP3,hQ3] at HI;have HRD:=readL43 w (Zv 0 0) 28 t1 m1 t2 m2 t3 m3 hnn;clear t1 t2 t3 m1 m2 m3 hnn hno v1 v2 v3 hM hP1 hQ1 hP2 hQ2 hP3 hQ3 r1 r2 r3 hgt hge
 go_enter Tryz.func29,Tryz.ntmps29
 go_wp2_with fail;refine HRD.out.mono ?_;rintro e w1 ⟨rfl,hl⟩;have LB1:=Hd hl.b;have LR1:=Hd (HasBlk.of (n:=2) (hl.blk 3 rfl) rfl rfl);have LG0_1:=Hd (hl.blk 0 rfl);have LG1_1:=Hd (hl.blk 1 rfl);have LG2_1:=Hd (hl.blk 2 rfl);clear hl HRD;obtain⟨q0_0,q0_1⟩:=LG0_1.out.c2;obtain⟨q1_0,q1_1⟩:=LG1_1.out.c2;obtain⟨q2_0,q2_1⟩:=LG2_1.out.c2;go_wp2_with fail;refine cx (HI.out _) fun w3 hbx=>?_;have LB2:=stB LB1 hbx LB1.out.size;have LR2:=stR LR1 hbx;have LG0_2:=stG LG0_1 hbx;have LG1_2:=stG LG1_1 hbx;have LG2_2:=stG LG2_1 hbx;clear LB1 LR1 LG0_1 LG1_1 LG2_1;clear hbx q0_0 q0_1 q1_0 q1_1 q2_0 q2_1;obtain⟨ha0,hf0,ha1,hf1⟩:=LR2.out.sf2;obtain⟨hk0,hk1⟩:=LR2.out.sc2 (.float .f64 z1) (.float .f64 z2);have F:=Hd (below_sets (w0:=w) (r:=(w.heap.size+3)) (by omega) [.float .f64 z1,.float .f64 z2] 0 _ LB2.out)
 simp [sets] at hk0 hk1
 go_wp2;refine bodyPost_ret (v:=Zf z1 z2) (by simp [results,Tryz.results29,go_sem,hk0,hk1]) rfl ?_
 exact⟨rfl,F.out⟩
theorem revmin_any(b1 b2 c1 c2 x y:Nat)(w:World)(hb1:b1<18446744073709551616)(hb2:b2<18446744073709551616)(hc1:c1<18446744073709551616)(hc2:c2<18446744073709551616)(hx:x<18446744073709551616)(hy:y<18446744073709551616):
  Rt 29 #[Zf b1 b2,Zf c1 c2,Zf x y] (Zf (pat (rmr (rd b1 b2).1 (rd b1 b2).2 (rd c1 c2).1 (rd c1 c2).2 (rd x y).1 (rd x y).2).1) (pat (rmr (rd b1 b2).1 (rd b1 b2).2 (rd c1 c2).1 (rd c1 c2).2 (rd x y).1 (rd x y).2).2)) w:=by
 obtain⟨i1,hi1⟩:∃ z,(rd b1 b2).1=z:=⟨_,rfl⟩
 obtain⟨j1,hj1⟩:∃ z,(rd b1 b2).2=z:=⟨_,rfl⟩
 obtain⟨i2,hi2⟩:∃ z,(rd c1 c2).1=z:=⟨_,rfl⟩
 obtain⟨j2,hj2⟩:∃ z,(rd c1 c2).2=z:=⟨_,rfl⟩
 obtain⟨i3,hi3⟩:∃ z,(rd x y).1=z:=⟨_,rfl⟩
 obtain⟨j3,hj3⟩:∃ z,(rd x y).2=z:=⟨_,rfl⟩
 have r1:rd b1 b2=(i1,j1):=by rw [<- hi1,<- hj1]
 have r2:rd c1 c2=(i2,j2):=by rw [<- hi2,<- hj2]
 have r3:rd x y=(i3,j3):=by rw [<- hi3,<- hj3]
 rw [hi1,hj1,hi2,hj2,hi3,hj3];unfold rmr
 by_cases hno:j1<i1\/j2<i2\/j3<i3
 ·rw [if_pos (by omega)]
  exact revmin_none b1 b2 c1 c2 x y i1 j1 i2 j2 i3 j3 w hb1 hb2 hc1 hc2 hx hy r1 r2 r3 hno
 ·by_cases hgt:j1<i2
  ·rw [if_pos (by omega)]
   exact revmin_gt b1 b2 c1 c2 x y i1 j1 i2 j2 i3 j3 w hb1 hb2 hc1 hc2 hx hy r1 r2 r3 hno hgt
  ·rw [if_neg (by omega)]
   by_cases hge:i1<=j2
   ·rw [if_pos hge]
    exact revmin_ge b1 b2 c1 c2 x y i1 j1 i2 j2 i3 j3 w hb1 hb2 hc1 hc2 hx hy r1 r2 r3 hno hgt hge
   ·rw [if_neg hge]
    exact revmin_lt b1 b2 c1 c2 x y i1 j1 i2 j2 i3 j3 w hb1 hb2 hc1 hc2 hx hy r1 r2 r3 hno hgt hge
def rmx(b c x:Int × Int):Int × Int:=(-(rmr (-b.2) (-b.1) (-c.2) (-c.1) (-x.2) (-x.1)).2,-(rmr (-b.2) (-b.1) (-c.2) (-c.1) (-x.2) (-x.1)).1)
theorem Iv.negf{i j:Int}(h:Iv i j):Iv (-j) (-i):=by
 unfold Iv at *;rw [M_val] at *
 omega
theorem rmr_iv{i1 j1 i2 j2 i3 j3:Int}(h1:Iv i1 j1)(h2:Iv i2 j2)(h3:Iv i3 j3):Iv (rmr i1 j1 i2 j2 i3 j3).1 (rmr i1 j1 i2 j2 i3 j3).2:=by
 unfold rmr
 split
 ·exact Iv.none
 ·rename_i h;have hM:M=9218868437227405312:=rfl;refine it_iv ?_ h3;unfold Iv at *
  split<;>omega
theorem revmin_idx(i1 i2 i3 i4 i5 i6:Int)(w:World)(hb:Iv i1 i2)(hc:Iv i3 i4)(hx:Iv i5 i6):
  Calls Tryz.prog 29 #[Zf (pat i1) (pat i2),Zf (pat i3) (pat i4),Zf (pat i5) (pat i6)] w
   fun e w'=>e=.returned (Zf (pat (rmr i1 i2 i3 i4 i5 i6).1) (pat (rmr i1 i2 i3 i4 i5 i6).2))/\Below w.heap.size w w':=by
 have h:=revmin_any (pat i1) (pat i2) (pat i3) (pat i4) (pat i5) (pat i6) w (pat_lt hb.lo.1 hb.lo.2) (pat_lt hb.hi.1 hb.hi.2) (pat_lt hc.lo.1 hc.lo.2) (pat_lt hc.hi.1 hc.hi.2) (pat_lt hx.lo.1 hx.lo.2) (pat_lt hx.hi.1 hx.hi.2);rw [rd_pat hb,rd_pat hc,rd_pat hx] at h
 exact h
theorem mirror_idxm(i j:Int)(w:World)(h:Iv i j):
  Rt 85 #[Zf (pat i) (pat j)] (Zf (pat (-j)) (pat (-i))) w:=by
 have h2:=mirrorf (pat i) (pat j) w (pat_lt h.lo.1 h.lo.2) (pat_lt h.hi.1 h.hi.2);rw [rd_pat h] at h2
 exact h2
theorem revmax_any(b1 b2 c1 c2 x y:Nat)(w:World)(hb1:b1<18446744073709551616)(hb2:b2<18446744073709551616)(hc1:c1<18446744073709551616)(hc2:c2<18446744073709551616)(hx:x<18446744073709551616)(hy:y<18446744073709551616):
  Rt 30 #[Zf b1 b2,Zf c1 c2,Zf x y] (Zf (pat (rmx (rd b1 b2) (rd c1 c2) (rd x y)).1) (pat (rmx (rd b1 b2) (rd c1 c2) (rd x y)).2)) w:=by
 have HN1:=Hd fun W=>mirrorf b1 b2 W hb1 hb2;have HN2:=Hd fun W=>mirrorf c1 c2 W hc1 hc2;have HN3:=Hd fun W=>mirrorf x y W hx hy;have v1:=(rd_iv b1 b2).negf;have v2:=(rd_iv c1 c2).negf;have v3:=(rd_iv x y).negf;have vm:=rmr_iv v1 v2 v3;have HM:=Hd fun W=>revmin_idx _ _ _ _ _ _ W v1 v2 v3;have HN4:=Hd fun W=>mirror_idxm _ _ W vm;unfold rmx
 obtain⟨z1,hz1⟩:∃ z,(rmr (-(rd b1 b2).2) (-(rd b1 b2).1) (-(rd c1 c2).2) (-(rd c1 c2).1) (-(rd x y).2) (-(rd x y).1)).1=z:=⟨_,rfl⟩
 obtain⟨z2,hz2⟩:∃ z,(rmr (-(rd b1 b2).2) (-(rd b1 b2).1) (-(rd c1 c2).2) (-(rd c1 c2).1) (-(rd x y).2) (-(rd x y).1)).2=z:=⟨_,rfl⟩
 rw [hz1,hz2] at HM HN4 ⊢
 obtain⟨p1,e1⟩:∃ z,pat (-(rd b1 b2).2)=z:=⟨_,rfl⟩
 obtain⟨p2,e2⟩:∃ z,pat (-(rd b1 b2).1)=z:=⟨_,rfl⟩
 obtain⟨p3,e3⟩:∃ z,pat (-(rd c1 c2).2)=z:=⟨_,rfl⟩
 obtain⟨p4,e4⟩:∃ z,pat (-(rd c1 c2).1)=z:=⟨_,rfl⟩
 obtain⟨p5,e5⟩:∃ z,pat (-(rd x y).2)=z:=⟨_,rfl⟩
 obtain⟨p6,e6⟩:∃ z,pat (-(rd x y).1)=z:=⟨_,rfl⟩
 obtain⟨p7,e7⟩:∃ z,pat z1=z:=⟨_,rfl⟩
 obtain⟨p8,e8⟩:∃ z,pat z2=z:=⟨_,rfl⟩
 obtain⟨q1,f1⟩:∃ z,pat (-z2)=z:=⟨_,rfl⟩
 obtain⟨q2,f2⟩:∃ z,pat (-z1)=z:=⟨_,rfl⟩
 rw [e1,e2] at HN1;rw [e3,e4] at HN2;rw [e5,e6] at HN3;rw [e1,e2,e3,e4,e5,e6,e7,e8] at HM;rw [e7,e8,f1,f2] at HN4
 dsimp only
 rw [f1,f2];clear v1 v2 v3 vm hz1 hz2 e1 e2 e3 e4 e5 e6 e7 e8 f1 f2;obtain⟨LB0,LG0_0,LG1_0,LG2_0,LR⟩:=bx4 w (Zv b1 b2) 28 (Zv c1 c2) 28 (Zv x y) 28 (Zv 0 0) 28;have LR0:=Hd (HasBlk.of (n:=2) LR.out rfl rfl);clear LR
 go_enter Tryz.func30,Tryz.ntmps30
 go_wp2_with fail;refine wp_region_held_drew (S:=fun W'=>Blk W' w.heap.size 28 (Zv b1 b2)/\Blk W' (w.heap.size+1) 28 (Zv c1 c2)/\Blk W' (w.heap.size+2) 28 (Zv x y)/\HasBlk W' (w.heap.size+3) 28 2/\Below w.heap.size w W') (by kernel_rfl) (by exact⟨LG0_0.out.drew,LG1_0.out.drew,LG2_0.out.drew,LR0.out.drew,LB0.out.drew⟩) (fun hHeld=>?_);refine tkb 0 (fun _ h=>h.1.c2) ?_;refine tkb 2 (fun _ h=>h.2.1.c2) ?_;refine tkb 4 (fun _ h=>h.2.2.1.c2) ?_;refine rdy 1 fun KK hKK=>?_;go_simp;refine cx (HN1.out _) fun w1 hbA=>?_;go_wp2_with fail;refine hKK.out _ _ (⟨hHeld.1.keep hbA,hHeld.2.1.keep hbA,hHeld.2.2.1.keep hbA,hHeld.2.2.2.1.keep hbA,hHeld.2.2.2.2.trans (hbA.mono hHeld.2.2.2.2.size)⟩) (fun _=>?_);clear hKK KK hHeld;rename_i hHeld;(try simp only [Act.put,lay]);refine rdy 3 fun KK hKK=>?_;go_simp;refine cx (HN2.out _) fun w2 hbB=>?_;go_wp2_with fail;refine hKK.out _ _ (⟨hHeld.1.keep hbB,hHeld.2.1.keep hbB,hHeld.2.2.1.keep hbB,hHeld.2.2.2.1.keep hbB,hHeld.2.2.2.2.trans (hbB.mono hHeld.2.2.2.2.size)⟩) (fun _=>?_);clear hKK KK hHeld;rename_i hHeld;(try simp only [Act.put,lay]);refine rdy 5 fun KK hKK=>?_;go_simp;refine cx (HN3.out _) fun w3 hbC=>?_;go_wp2_with fail;refine hKK.out _ _ (⟨hHeld.1.keep hbC,hHeld.2.1.keep hbC,hHeld.2.2.1.keep hbC,hHeld.2.2.2.1.keep hbC,hHeld.2.2.2.2.trans (hbC.mono hHeld.2.2.2.2.size)⟩) (fun _=>?_);clear hKK KK hHeld;rename_i hHeld;(try simp only [Act.put,lay]);refine rdy 6 fun KK hKK=>?_;go_simp;refine cx (HM.out _) fun w4 hbD=>?_;go_wp2_with fail;refine hKK.out _ _ (⟨hHeld.1.keep hbD,hHeld.2.1.keep hbD,hHeld.2.2.1.keep hbD,hHeld.2.2.2.1.keep hbD,hHeld.2.2.2.2.trans (hbD.mono hHeld.2.2.2.2.size)⟩) (fun _=>?_)
 clear hKK KK hHeld;rename_i hHeld;(try simp only [Act.put,lay]);refine rdy 7 fun KK hKK=>?_;go_simp;refine cx (HN4.out _) fun w5 hbE=>?_;go_wp2_with fail;refine hKK.out _ _ (⟨hHeld.1.keep hbE,hHeld.2.1.keep hbE,hHeld.2.2.1.keep hbE,hHeld.2.2.2.1.keep hbE,hHeld.2.2.2.2.trans (hbE.mono hHeld.2.2.2.2.size)⟩) (fun _=>?_);clear hKK KK hHeld;rename_i hHeld;(try simp only [Act.put,lay]);refine rdy 8 fun KK hKK=>?_;have ha0:=hHeld.2.2.2.1.someCell 0 (by decide);have hf0:=hHeld.2.2.2.1.frozen 0;have ha1:=hHeld.2.2.2.1.someCell 1 (by decide);have hf1:=hHeld.2.2.2.1.frozen 1;have HK:=Hd (hHeld.2.2.2.1.setCell [.float .f64 q1,.float .f64 q2] rfl);have F:=Hd (below_sets (w0:=w) (r:=(w.heap.size+3)) (by omega) [.float .f64 q1,.float .f64 q2] 0 _ hHeld.2.2.2.2);go_simp;refine hKK.out _ _ (⟨hHeld.1.other (by omega) 0 [.float .f64 q1,.float .f64 q2],hHeld.2.1.other (by omega) 0 [.float .f64 q1,.float .f64 q2],hHeld.2.2.1.other (by omega) 0 [.float .f64 q1,.float .f64 q2],hHeld.2.2.2.1.sets [.float .f64 q1,.float .f64 q2] rfl rfl,below_sets (by omega) [.float .f64 q1,.float .f64 q2] 0 _ hHeld.2.2.2.2⟩) (fun _=>?_);clear hKK KK hHeld;rename_i hHeld;(try simp only [Act.put,lay]);refine wpAnyH_done (by kernel_rfl) ?_ _;have hk0:=HK.out 0 (by decide);have hk1:=HK.out 1 (by decide)
 simp [sets] at hk0 hk1
 clear hHeld HK hbA hbB hbC hbD hbE;clear LB0 LR0 LG0_0 LG1_0 LG2_0;go_wp2;refine bodyPost_ret (v:=Zf q1 q2) (by simp [results,Tryz.results30,go_sem,hk0,hk1]) rfl ?_
 exact⟨rfl,F.out⟩
end
section
open Go.RowKit
def U32n(w:World)(A:Option Addr)(n c a:Nat):Prop:=∃ xs,U32s w A n c xs/\num xs=a
theorem U32n.below{w w':World}{A:Option Addr}{n c a:Nat}(h:U32n w A n c a)(hb:Below w.heap.size w w'):U32n w' A n c a:=by
 obtain⟨xs,h1,h2⟩:=h
 exact⟨xs,h1.below hb,h2⟩
def RatW(w:World)(K:Nat)(neg:Bool)(vn vd:Value)(x:Rat):Prop:=
 ∃ (p q:Nat) (A:Option Addr) (n c:Nat) (B:Option Addr) (m d:Nat),vn=.slice A n c/\vd=.slice B m d/\U32n w A n c p/\U32n w B m d q /\
  0<q/\(n<=K/\m<=K)/\p<2^(32*K)/\q<2^(32*K)/\x=rv neg p q
theorem RatW.below{w w':World}{K:Nat}{neg:Bool}{vn vd:Value}{x:Rat}(h:RatW w K neg vn vd x)(hb:Below w.heap.size w w'):RatW w' K neg vn vd x:=by
 obtain⟨p,q,A,n,c,B,m,d,h1,h2,h3,h4,h5⟩:=h
 exact⟨p,q,A,n,c,B,m,d,h1,h2,h3.below hb,h4.below hb,h5⟩
theorem RatW.mono{w:World}{K K':Nat}{neg:Bool}{vn vd:Value}{x:Rat}(h:RatW w K neg vn vd x)(hk:K<=K'):RatW w K' neg vn vd x:=by
 obtain⟨p,q,A,n,c,B,m,d,h1,h2,h3,h4,h5,h6,h7,h8,h9⟩:=h;have:=Nat.pow_le_pow_right (n:=2) (by omega) (show 32*K<=32*K' by omega)
 exact⟨p,q,A,n,c,B,m,d,h1,h2,h3,h4,h5,by omega,by omega,by omega,h9⟩
end
section
open Go.RowKit
section
variable {w W W':World} {g n:Nat} {t:TypeId} {cs:Array Value} {B:Nat}
theorem U32n.setB{A:Option Addr}{m c a:Nat}(h:U32n W A m c a)(hb:Blk W g t cs)(hc:NoWd cs)(i:Nat)(vs:List Value):U32n (Proofs.YthlmlmfebpjgdaaGreatDoor.sets W g i vs) A m c a:=by
 obtain⟨xs,h1,h2⟩:=h
 exact⟨xs,h1.setsE hb hc rfl,h2⟩
theorem U32n.sets{A:Option Addr}{m c a:Nat}(h:U32n W A m c a)(hb:Blk W g t cs)(hc:NoWd cs)(i:Nat)(vs:List Value):U32n (Proofs.YthlmlmfebpjgdaaGreatDoor.sets W g i vs) A m c a:=h.setB hb hc i vs
theorem RatW.sets{K:Nat}{neg:Bool}{vn vd:Value}{x:Rat}(h:RatW W K neg vn vd x)(hb:Blk W g t cs)(hc:NoWd cs)(i:Nat)(vs:List Value):RatW (Proofs.YthlmlmfebpjgdaaGreatDoor.sets W g i vs) K neg vn vd x:=by
 obtain⟨p,q,A,n,c,B,m,d,h1,h2,h3,h4,h5⟩:=h
 exact⟨p,q,A,n,c,B,m,d,h1,h2,h3.setB hb hc i vs,h4.setB hb hc i vs,h5⟩
end
end
section
open Go.RowKit
theorem ad_lo{i2 j1:Int}{v q:Rat}(h2:-(M:Int)<=i2/\i2<M)(h1:-(M:Int)<j1/\j1<=M)(hl:-(M:Int)<i2->fl i2<=v+q)(hu:j1<M->q<=fl j1):ad (-1) i2 (-j1)<=rndI (-1) v/\ad 1 i2 (-j1)<=rndI 1 v:=by
 have hM:=M_val;have a:=rndI_down v;have b:=rndI_up v;unfold ad
 by_cases c1:i2=M\/i2=-(M:Int)
 ·rw [if_pos c1,if_pos c1];omega
 ·rw [if_neg c1,if_neg c1]
  by_cases c2:-j1=M\/-j1=-(M:Int)
  ·rw [if_pos c2,if_pos c2];omega
  ·rw [if_neg c2,if_neg c2,fl_neg];have e1:=hl (by omega);have e2:=hu (by omega)
   have e:fl i2+-fl j1<=v:=by grind
   exact⟨rndI_mono (.inl rfl) e,rndI_mono (.inr rfl) e⟩
theorem ad_hi{j2 i1:Int}{v q:Rat}(h2:-(M:Int)<j2/\j2<=M)(h1:-(M:Int)<=i1/\i1<M)(hl:j2<M->v+q<=fl j2)(hu:-(M:Int)<i1->fl i1<=q):rndI (-1) v<=ad (-1) j2 (-i1)/\rndI 1 v<=ad 1 j2 (-i1):=by
 have hM:=M_val;have a:=rndI_down v;have b:=rndI_up v;unfold ad
 by_cases c1:j2=M\/j2=-(M:Int)
 ·rw [if_pos c1,if_pos c1];omega
 ·rw [if_neg c1,if_neg c1]
  by_cases c2:-i1=M\/-i1=-(M:Int)
  ·rw [if_pos c2,if_pos c2];omega
  ·rw [if_neg c2,if_neg c2,fl_neg];have e1:=hl (by omega);have e2:=hu (by omega)
   have e:v<=fl j2+-fl i1:=by grind
   exact⟨rndI_mono (.inl rfl) e,rndI_mono (.inr rfl) e⟩
theorem In.zero{i j:Int}(h:In i j 0):i<=0/\0<=j:=by
 have a:=h.1;have b:=h.2;rw [rndI_zero (.inl rfl)] at a;rw [rndI_zero (.inr rfl)] at b
 exact⟨a,b⟩
end
theorem Cl.it{a b:Int}(h:Iv a b):Cl fun i j=>Go.Proofs.YthlmlmfebpjgdaaGreatDoor.it a b i j:=by
 have hM:=M_val
 rcases h with h | ⟨rfl,rfl⟩
 ·refine (Cl.ct (pd:=a) (pu:=a) (qd:=b) (qu:=b) (by omega) (by omega) (by omega) (by omega) (by omega) (by omega)).cut (fun i j n=>?_) (fun i j c=>?_)
  ·unfold Ne at n;unfold Go.Proofs.YthlmlmfebpjgdaaGreatDoor.it Go.Proofs.YthlmlmfebpjgdaaGreatDoor.ct
   by_cases c:b<i\/j<a
   ·rw [if_pos c,if_pos (by omega)]
   ·rw [if_neg c,if_neg (by omega)]
    exact Prod.ext (by dsimp only;omega) (by dsimp only;omega)
  ·unfold Go.Proofs.YthlmlmfebpjgdaaGreatDoor.it;rw [if_pos (by omega)]
 ·have e:(fun i j=>Go.Proofs.YthlmlmfebpjgdaaGreatDoor.it (M:Int) (-(M:Int)) i j)=fun _ _=>((M:Int),-(M:Int)):=by
   funext i j
   unfold Go.Proofs.YthlmlmfebpjgdaaGreatDoor.it;rw [if_pos (by omega)]
  rw [e];exact Cl.none
theorem in_some{i j:Int}(h:Ne i j):∃ v:Rat,In i j v:=by
 have hM:=M_val;unfold Ne at h
 by_cases h1:-(M:Int)<i
 ·refine⟨fl i,?_,?_⟩
  ·rw [rndI_fl (.inl rfl) h1 (by omega)];omega
  ·rw [rndI_fl (.inr rfl) h1 (by omega)];omega
 ·by_cases h2:j<M
  ·refine⟨fl j,?_,?_⟩
   ·rw [rndI_fl (.inl rfl) (by omega) h2];omega
   ·rw [rndI_fl (.inr rfl) (by omega) h2];omega
  ·refine⟨0,?_,?_⟩
   ·rw [rndI_zero (.inl rfl)];omega
   ·rw [rndI_zero (.inr rfl)];omega
theorem ad_pair(i j:Int):ad (-1) i j<=ad 1 i j:=by
 unfold ad
 split
 ·omega
 ·split
  ·omega
  ·exact rndI_le _
theorem Cl.rar{i1 j1 i2 j2:Int}(h1:Iv i1 j1)(h2:Iv i2 j2):Cl fun i j=>Go.Proofs.YthlmlmfebpjgdaaGreatDoor.rar i1 j1 i2 j2 i j:=by
 have hM:=M_val
 by_cases e:j1<i1\/j2<i2
 ·refine Cl.none.congr fun i j _=>?_;unfold Go.Proofs.YthlmlmfebpjgdaaGreatDoor.rar;rw [if_pos (by omega)]
 ·have n1:=ne_or h1 (by omega);have n2:=ne_or h2 (by omega);obtain⟨q,hq⟩:=in_some n1;obtain⟨c,hc⟩:=in_some n2;unfold Ne at n1 n2
  have ec:c - q+q=c:=by grind
  have L:=ad_lo (i2:=i2) (j1:=j1) (v:=c - q) (q:=q) (by omega) (by omega) (fun z=>by rw [ec];exact hc.lo z) (fun z=>hq.hi z);have U:=ad_hi (j2:=j2) (i1:=i1) (v:=c - q) (q:=q) (by omega) (by omega) (fun z=>by rw [ec];exact hc.hi z) (fun z=>hq.lo z);have b1:=ad_bounds (d:=-1) (i:=i2) (j:=-j1) (.inl rfl) (by omega) (by omega);have b2:=ad_bounds (d:=1) (i:=j2) (j:=-i1) (.inr rfl) (by omega) (by omega);have r1:=rndI_down (c - q);have r2:=rndI_up (c - q);have p1:=ad_pair i2 (-j1);have p2:=ad_pair j2 (-i1);refine (Cl.ct (by omega) (by omega) p1 p2 (by omega) (by omega)).cut (fun i j n=>?_) (fun i j k=>?_)
  ·unfold Ne at n;unfold Go.Proofs.YthlmlmfebpjgdaaGreatDoor.rar;rw [if_neg (by omega)]
  ·unfold Go.Proofs.YthlmlmfebpjgdaaGreatDoor.rar;rw [if_pos (by omega)]
theorem Cl.mlr{i1 j1 i2 j2:Int}(h1:Iv i1 j1)(h2:Iv i2 j2):Cl fun i j=>Go.Proofs.YthlmlmfebpjgdaaGreatDoor.mlr i1 j1 i2 j2 i j:=by
 by_cases e:j1<i1\/j2<i2
 ·refine Cl.none.congr fun i j _=>?_;unfold Go.Proofs.YthlmlmfebpjgdaaGreatDoor.mlr;rw [if_pos (by omega)]
 ·have n1:=ne_or h1 (by omega);have n2:=ne_or h2 (by omega);refine (Cl.fa (numok_idx n2) n1).cut (fun i j n=>?_) (fun i j k=>?_)
  ·unfold Ne at n;unfold Go.Proofs.YthlmlmfebpjgdaaGreatDoor.mlr;rw [if_neg (by omega)]
  ·unfold Go.Proofs.YthlmlmfebpjgdaaGreatDoor.mlr;rw [if_pos (by omega)]
theorem Cl.dr2{i1 j1 i2 j2:Int}(h1:Iv i1 j1)(h2:Iv i2 j2):Cl fun i j=>Go.Proofs.YthlmlmfebpjgdaaGreatDoor.dr2 i1 j1 i2 j2 i j:=by
 by_cases e:j1<i1\/j2<i2
 ·refine Cl.none.congr fun i j _=>?_;unfold Go.Proofs.YthlmlmfebpjgdaaGreatDoor.dr2;rw [if_pos (by omega)]
 ·by_cases z:(i1<=0/\0<=j1)/\(i2<=0/\0<=j2)
  ·refine ((Cl.pf (s1:=-1) (x1:=0) (o1:=true) (s2:=0) (x2:=0) (o2:=true) (.inr rfl) (.inl rfl) (fun h=>by omega)).hull (Cl.pf (s1:=0) (x1:=0) (o1:=true) (s2:=1) (x2:=0) (o2:=true) (.inl rfl) (.inr rfl) (fun _ h=>by omega))).cut (fun i j n=>?_) (fun i j k=>?_)
   ·unfold Ne at n;unfold Go.Proofs.YthlmlmfebpjgdaaGreatDoor.dr2;rw [if_neg (by omega),if_pos z]
   ·unfold Go.Proofs.YthlmlmfebpjgdaaGreatDoor.dr2;rw [if_pos (by omega)]
  ·refine (((Cl.FD (show i1<=j1 by omega) (show i2<=j2 by omega)).hull (Cl.FD (show -j1<=-i1 by omega) (show -j2<=-i2 by omega))).hull ((Cl.FD (show -j1<=-i1 by omega) (show i2<=j2 by omega)).hull (Cl.FD (show i1<=j1 by omega) (show -j2<=-i2 by omega))).ng).cut (fun i j n=>?_) (fun i j k=>?_)
   ·unfold Ne at n;unfold Go.Proofs.YthlmlmfebpjgdaaGreatDoor.dr2;rw [if_neg (by omega),if_neg z]
   ·unfold Go.Proofs.YthlmlmfebpjgdaaGreatDoor.dr2;rw [if_pos (by omega)]
theorem Cl.rmr{i1 j1 i2 j2:Int}(h1:Iv i1 j1)(h2:Iv i2 j2):Cl fun i j=>Go.Proofs.YthlmlmfebpjgdaaGreatDoor.rmr i1 j1 i2 j2 i j:=by
 have hM:=M_val
 by_cases e:j1<i1\/j2<i2\/j1<i2
 ·refine Cl.none.congr fun i j _=>?_;unfold Go.Proofs.YthlmlmfebpjgdaaGreatDoor.rmr;rw [if_pos (by omega)]
 ·have n1:=ne_or h1 (by omega);have n2:=ne_or h2 (by omega);unfold Ne at n1 n2;refine (Cl.it (a:=i2) (b:=if i1<=j2 then (M:Int) else j2) (.inl (by split<;>omega))).cut (fun i j n=>?_) (fun i j k=>?_)
  ·unfold Ne at n;unfold Go.Proofs.YthlmlmfebpjgdaaGreatDoor.rmr;rw [if_neg (by omega)]
  ·unfold Go.Proofs.YthlmlmfebpjgdaaGreatDoor.rmr;rw [if_pos (by omega)]
end Go.Proofs.YthlmlmfebpjgdaaGreatDoor
