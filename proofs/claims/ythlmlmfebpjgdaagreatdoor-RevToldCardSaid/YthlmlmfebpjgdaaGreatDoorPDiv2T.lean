/-
Lemmas for the statement: Div2T.
-/
import Derived.Test.YthlmlmfebpjgdaaGreatDoorPPairT
import Derived.Test.YthlmlmfebpjgdaaGreatDoorPAddT
import Derived.Deep.DeepCutAuto
set_option linter.unusedSimpArgs false
set_option linter.unusedVariables false
set_option maxHeartbeats 12800000
namespace Go.Proofs.YthlmlmfebpjgdaaGreatDoor
section
open Go.RowKit
attribute [local go_sem] run_store_float
set_option maxRecDepth 8000 in
theorem divisor_none(A1 A2 C1 C2 x1 x2:Nat)(o1 o2:Ordering)(w:World)(h1:FloatKind.f64.format.order A2 0=some o1)(h2:FloatKind.f64.format.order C2 0=some o2)(hc:o1≠.gt\/o2≠.gt):
  Rt 89 #[.agg #[.float .f64 A1,.float .f64 A2],.agg #[.float .f64 C1,.float .f64 C2],.agg #[.float .f64 x1,.float .f64 x2]] (.agg #[.float .f64 9218868437227405312,.float .f64 18442240474082181120]) w:=by
 have HE:=Hd emptyf
 have hc2:o1=.eq\/o1=.lt\/(o1=.gt/\(o2=.eq\/o2=.lt)):=by cases o1<;>cases o2<;>simp at hc ⊢
 have H1:=Hd h1;have H2:=Hd h2;clear h1 h2;have HC:=Hd hc2;clear hc hc2;have LL:=li4 w #[.float .f64 A1,.float .f64 A2] 28 #[.float .f64 C1,.float .f64 C2] 28 #[.float .f64 x1,.float .f64 x2] 28 #[.float .f64 0,.float .f64 0] 28
 rcases HC.out with e | e | ⟨e,e2 | e2⟩<;>subst e<;>(try subst e2)<;>clear HC<;>have h1:=H1.out<;>have h2:=H2.out<;>clear H1 H2
 all_goals
  go_enter Tryz.func89,Tryz.ntmps89
  obtain⟨q1_0,q1_1⟩:=(LL.out.blk 0 rfl).c2;obtain⟨q2_0,q2_1⟩:=(LL.out.blk 1 rfl).c2;go_wp2_with fail;refine cx (HE.out _) fun wk hb=>?_;replace LL:=stL LL hb;clear hb q1_0 q1_1 q2_0 q2_1 h1 h2;replace LL:=Hd (LL.out.loose3 rfl);obtain⟨ha6_0,hf6_0,ha6_1,hf6_1⟩:=(LL.out.has 0 rfl).sf2;have LF:=Hd (LL.out.write [.float .f64 9218868437227405312,.float .f64 18442240474082181120] rfl (by omega) (by simp<;>omega) (by simp<;>omega));obtain⟨hk6_0,hk6_1⟩:=(LF.out.blk 3 rfl).c2
  simp [sets] at hk6_0 hk6_1
  clear LL;go_wp2;refine bodyPost_ret (v:=.agg #[.float .f64 9218868437227405312,.float .f64 18442240474082181120]) (by simp [results,Tryz.results89,go_sem,hk6_0,hk6_1]) rfl ?_
  exact⟨rfl,LF.out.b⟩
set_option maxRecDepth 8000 in
theorem divisor_pq(A1 A2 C1 C2 x1 x2 r1 r2:Nat)(p1 p2:Nat)(s1:Int)(y1:Rat)(q1 q2:Nat)(s2:Int)(y2:Rat)(w:World)(h1:FloatKind.f64.format.order A2 0=some .gt)(h2:FloatKind.f64.format.order C2 0=some .gt)(ha:FloatKind.f64.format.order A1 0=some .gt)(hcc:FloatKind.f64.format.order C1 0=some .gt)(hp:∀ W,Calls Tryz.prog 100 #[.float .f64 A1] W (NewExI W s1 y1))(ho:∀ W (g1:Bool) (B1:Option Addr) (n1 k1:Nat) (E1:Int),ExI W s1 g1 B1 n1 k1 E1 y1->Rt 157 #[.agg #[.int .i64 s1,.bool g1,.slice B1 n1 k1,.int .i64 E1],.float .f64 C2] (.agg #[.float .f64 p1,.float .f64 p2]) W)(hp2:∀ W,Calls Tryz.prog 100 #[.float .f64 A2] W (NewExI W s2 y2))(ho2:∀ W (g2:Bool) (B2:Option Addr) (n2 k2:Nat) (E2:Int),ExI W s2 g2 B2 n2 k2 E2 y2->Rt 157 #[.agg #[.int .i64 s2,.bool g2,.slice B2 n2 k2,.int .i64 E2],.float .f64 C1] (.agg #[.float .f64 q1,.float .f64 q2]) W)
  (hcut:∀ W,Rt 77 #[.agg #[.float .f64 x1,.float .f64 x2],.agg #[.float .f64 p1,.float .f64 p2],.agg #[.float .f64 q1,.float .f64 q2],.bool true] (.agg #[.float .f64 r1,.float .f64 r2]) W):
  Rt 89 #[.agg #[.float .f64 A1,.float .f64 A2],.agg #[.float .f64 C1,.float .f64 C2],.agg #[.float .f64 x1,.float .f64 x2]] (.agg #[.float .f64 r1,.float .f64 r2]) w:=by
 have HZ:=Hd fun W=>at_any 0 W;have HI:=Hd fun W=>inf_pos W;have HT:=Hd fun W=>at_any 9218868437227405312 W;have H1:=Hd h1;have H2:=Hd h2;have HA:=Hd ha;have HCC:=Hd hcc;have HCUT:=Hd hcut;have HP:=Hd hp;have HO:=Hd ho;have HP2:=Hd hp2;have HO2:=Hd ho2;clear h1 h2 ha hcc hcut hp ho hp2 ho2;have LL:=li4 w #[.float .f64 A1,.float .f64 A2] 28 #[.float .f64 C1,.float .f64 C2] 28 #[.float .f64 x1,.float .f64 x2] 28 #[.float .f64 0,.float .f64 0] 28;have ha:=HA.out;have hcc:=HCC.out;have h1:=H1.out;have h2:=H2.out;clear H1 H2 HA HCC
 go_enter Tryz.func89,Tryz.ntmps89
 obtain⟨q1_0,q1_1⟩:=(LL.out.blk 0 rfl).c2;obtain⟨q2_0,q2_1⟩:=(LL.out.blk 1 rfl).c2;go_wp2_with fail;refine cx (HZ.out _) fun wk hb=>?_;replace LL:=stL LL hb;clear hb q1_0 q1_1 q2_0 q2_1 h1 h2;go_wp2_with fail;refine (HI.out _).mono ?_;rintro e wk ⟨rfl,rfl⟩;go_wp2_with fail;refine cx (HT.out _) fun wk hb=>?_;replace LL:=stL LL hb;clear hb
 go_upto_region 4 with fail
 have hl_j7:=LL.out.lts;generalize hwm:World.alloc wk _=wm;replace LL:=Hd (LL.out.newE hwm)
 have hz:wm.heap.size=wk.heap.size+1:=by rw [<- hwm];simp
 clear hwm;generalize hwn:World.alloc wm _=wn;replace LL:=Hd (LL.out.newE hwn);rw [hz] at LL
 simp only [List.cons_append,List.nil_append] at LL
 simp only [List.mem_cons,List.not_mem_nil,or_false,forall_eq_or_imp,forall_eq,false_imp_iff,implies_true,and_true] at hl_j7
 clear hwn hz;generalize wk.heap.size=j7 at LL hl_j7 ⊢;obtain⟨q3_0,q3_1⟩:=(LL.out.blk 0 rfl).c2;go_wp2_with fail;clear q3_0 q3_1;replace LL:=Hd (LL.out.loose 4 rfl rfl)
 simp only [List.eraseIdx,List.size_toArray,List.length_cons,List.length_nil,Nat.zero_add,Nat.reduceAdd] at LL
 refine regL LL (fun hHeld=>?_);clear LL;generalize World.drew _=wk at hHeld  ⊢;refine tks 0 ?_;refine tkb 1 (fun _ h=>(h.blk 0 rfl).c2) ?_;refine tks 3 ?_;refine tkb 4 (fun _ h=>(h.blk 1 rfl).c2) ?_;refine rdy 2 (fun KK hKK=>?_);go_simp;refine (HP.out _).mono ?_;rintro e wk ⟨g1,B1,n1,k1,E1,rfl,he1,hb1⟩;go_wp2_with fail;refine hKK.out _ _ (hHeld.keep hb1) (fun _=>?_);clear hKK KK hHeld;rename_i hHeld;(try simp only [Act.put,lay]);have HE1:=Hd he1;clear he1;clear hb1;refine rdy 5 (fun KK hKK=>?_);go_simp;refine cs (HO.out _ _ _ _ _ _ HE1.out) ?_;clear hKK KK hHeld;intro wk hb2 hHeld;(try replace HE1:=Hd (HE1.out.below hb2));clear hb2;refine rdy 6 (fun KK hKK=>?_);obtain⟨ha0,hf0,ha1,hf1⟩:=(hHeld.has 0 rfl).sf2;obtain⟨csx,hbx,-,hcx⟩:=hHeld.has 0 rfl;replace HE1:=Hd (HE1.out.setB hbx hcx 0 [.float .f64 p1,.float .f64 p2]);clear hbx hcx;go_simp;have HS_0:=(hHeld.has 0 rfl).laid [.float .f64 p1,.float .f64 p2] rfl;refine hKK.out _ _ (hHeld.over 0 rfl [.float .f64 p1,.float .f64 p2] rfl rfl (by first | omega | exact hHeld.le_of 0 rfl) (by simp<;>omega) (by simp<;>omega)) (fun _=>?_);clear hKK KK hHeld;rename_i hHeld;(try simp only [Act.put,lay])
 replace hHeld:=(show Lies _ (sets wk j7 0 [.float .f64 p1,.float .f64 p2]) _ _ from hHeld)
 obtain⟨wk,hwn⟩:∃ X,sets wk j7 0 [.float .f64 p1,.float .f64 p2]=X:=⟨_,rfl⟩
 rw [hwn] at hHeld HE1 HS_0
 simp only [sets] at hwn
 rw [hwn];clear hwn;refine wpAnyH_done (by kernel_rfl) ?_ _;have LL:=Hd (hHeld.tight HS_0)
 simp only [List.cons_append,List.nil_append] at LL
 clear hHeld HS_0;clear HE1 ha;obtain⟨q4_0,q4_1⟩:=(LL.out.blk 1 rfl).c2;go_wp2_with fail;clear q4_0 q4_1;replace LL:=Hd (LL.out.loose 4 rfl rfl)
 simp only [List.eraseIdx,List.size_toArray,List.length_cons,List.length_nil,Nat.zero_add,Nat.reduceAdd] at LL
 refine regL LL (fun hHeld=>?_);clear LL;generalize World.drew _=wk at hHeld  ⊢;refine tks 0 ?_;refine tkb 1 (fun _ h=>(h.blk 0 rfl).c2) ?_;refine tks 3 ?_;refine tkb 4 (fun _ h=>(h.blk 1 rfl).c2) ?_;refine rdy 2 (fun KK hKK=>?_);go_simp;refine (HP2.out _).mono ?_;rintro e wk ⟨g2,B2,n2,k2,E2,rfl,he2,hb1⟩;go_wp2_with fail;refine hKK.out _ _ (hHeld.keep hb1) (fun _=>?_);clear hKK KK hHeld;rename_i hHeld;(try simp only [Act.put,lay]);have HE2:=Hd he2;clear he2;clear hb1;refine rdy 5 (fun KK hKK=>?_);go_simp;refine cs (HO2.out _ _ _ _ _ _ HE2.out) ?_;clear hKK KK hHeld;intro wk hb2 hHeld;(try replace HE2:=Hd (HE2.out.below hb2));clear hb2;refine rdy 6 (fun KK hKK=>?_);obtain⟨ha0,hf0,ha1,hf1⟩:=(hHeld.has 0 rfl).sf2;obtain⟨csx,hbx,-,hcx⟩:=hHeld.has 0 rfl;replace HE2:=Hd (HE2.out.setB hbx hcx 0 [.float .f64 q1,.float .f64 q2]);clear hbx hcx;go_simp;have HS_0:=(hHeld.has 0 rfl).laid [.float .f64 q1,.float .f64 q2] rfl;refine hKK.out _ _ (hHeld.over 0 rfl [.float .f64 q1,.float .f64 q2] rfl rfl (by first | omega | exact hHeld.le_of 0 rfl) (by simp<;>omega) (by simp<;>omega)) (fun _=>?_);clear hKK KK hHeld;rename_i hHeld;(try simp only [Act.put,lay])
 replace hHeld:=(show Lies _ (sets wk (j7+1) 0 [.float .f64 q1,.float .f64 q2]) _ _ from hHeld)
 obtain⟨wk,hwn⟩:∃ X,sets wk (j7+1) 0 [.float .f64 q1,.float .f64 q2]=X:=⟨_,rfl⟩
 rw [hwn] at hHeld HE2 HS_0
 simp only [sets] at hwn
 rw [hwn];clear hwn;refine wpAnyH_done (by kernel_rfl) ?_ _;have LL:=Hd (hHeld.tight HS_0)
 simp only [List.cons_append,List.nil_append] at LL
 clear hHeld HS_0;clear HE2 hcc;obtain⟨q5_0,q5_1⟩:=(LL.out.blk 2 rfl).c2;obtain⟨q6_0,q6_1⟩:=(LL.out.blk 4 rfl).c2;obtain⟨q7_0,q7_1⟩:=(LL.out.blk 5 rfl).c2;go_wp2_with fail;refine cx (HCUT.out _) fun wk hb=>?_;replace LL:=stL LL hb;clear hb q5_0 q5_1 q6_0 q6_1 q7_0 q7_1;replace LL:=Hd (LL.out.loose3 rfl);obtain⟨ha6_0,hf6_0,ha6_1,hf6_1⟩:=(LL.out.has 0 rfl).sf2;have LF:=Hd (LL.out.write [.float .f64 r1,.float .f64 r2] rfl (by omega) (by simp<;>omega) (by simp<;>omega));obtain⟨hk6_0,hk6_1⟩:=(LF.out.blk 5 rfl).c2
 simp [sets] at hk6_0 hk6_1
 clear LL;go_wp2;refine bodyPost_ret (v:=.agg #[.float .f64 r1,.float .f64 r2]) (by simp [results,Tryz.results89,go_sem,hk6_0,hk6_1]) rfl ?_
 exact⟨rfl,LF.out.b⟩
set_option maxRecDepth 8000 in
theorem divisor_pi(A1 A2 C1 C2 x1 x2 r1 r2:Nat)(p1 p2:Nat)(s1:Int)(y1:Rat)(w:World)(h1:FloatKind.f64.format.order A2 0=some .gt)(h2:FloatKind.f64.format.order C2 0=some .gt)(ha:FloatKind.f64.format.order A1 0=some .gt)(hcc:FloatKind.f64.format.order C1 0=some .eq\/FloatKind.f64.format.order C1 0=some .lt)(hp:∀ W,Calls Tryz.prog 100 #[.float .f64 A1] W (NewExI W s1 y1))(ho:∀ W (g1:Bool) (B1:Option Addr) (n1 k1:Nat) (E1:Int),ExI W s1 g1 B1 n1 k1 E1 y1->Rt 157 #[.agg #[.int .i64 s1,.bool g1,.slice B1 n1 k1,.int .i64 E1],.float .f64 C2] (.agg #[.float .f64 p1,.float .f64 p2]) W)
  (hcut:∀ W,Rt 77 #[.agg #[.float .f64 x1,.float .f64 x2],.agg #[.float .f64 p1,.float .f64 p2],.agg #[.float .f64 9218868437227405312,.float .f64 9218868437227405312],.bool true] (.agg #[.float .f64 r1,.float .f64 r2]) W):
  Rt 89 #[.agg #[.float .f64 A1,.float .f64 A2],.agg #[.float .f64 C1,.float .f64 C2],.agg #[.float .f64 x1,.float .f64 x2]] (.agg #[.float .f64 r1,.float .f64 r2]) w:=by
 have HZ:=Hd fun W=>at_any 0 W;have HI:=Hd fun W=>inf_pos W;have HT:=Hd fun W=>at_any 9218868437227405312 W;have H1:=Hd h1;have H2:=Hd h2;have HA:=Hd ha;have HCC:=Hd hcc;have HCUT:=Hd hcut;have HP:=Hd hp;have HO:=Hd ho;clear h1 h2 ha hcc hcut hp ho;have LL:=li4 w #[.float .f64 A1,.float .f64 A2] 28 #[.float .f64 C1,.float .f64 C2] 28 #[.float .f64 x1,.float .f64 x2] 28 #[.float .f64 0,.float .f64 0] 28
 rcases HCC.out with hcc | hcc
 all_goals
  have ha:=HA.out;have h1:=H1.out;have h2:=H2.out;clear H1 H2 HA HCC
  go_enter Tryz.func89,Tryz.ntmps89
  obtain⟨q1_0,q1_1⟩:=(LL.out.blk 0 rfl).c2;obtain⟨q2_0,q2_1⟩:=(LL.out.blk 1 rfl).c2;go_wp2_with fail;refine cx (HZ.out _) fun wk hb=>?_;replace LL:=stL LL hb;clear hb q1_0 q1_1 q2_0 q2_1 h1 h2;go_wp2_with fail;refine (HI.out _).mono ?_;rintro e wk ⟨rfl,rfl⟩;go_wp2_with fail;refine cx (HT.out _) fun wk hb=>?_;replace LL:=stL LL hb;clear hb
  go_upto_region 4 with fail
  have hl_j7:=LL.out.lts;generalize hwm:World.alloc wk _=wm;replace LL:=Hd (LL.out.newE hwm)
  have hz:wm.heap.size=wk.heap.size+1:=by rw [<- hwm];simp
  clear hwm;generalize hwn:World.alloc wm _=wn;replace LL:=Hd (LL.out.newE hwn);rw [hz] at LL
  simp only [List.cons_append,List.nil_append] at LL
  simp only [List.mem_cons,List.not_mem_nil,or_false,forall_eq_or_imp,forall_eq,false_imp_iff,implies_true,and_true] at hl_j7
  clear hwn hz;generalize wk.heap.size=j7 at LL hl_j7 ⊢;obtain⟨q3_0,q3_1⟩:=(LL.out.blk 0 rfl).c2;go_wp2_with fail;clear q3_0 q3_1;replace LL:=Hd (LL.out.loose 4 rfl rfl)
  simp only [List.eraseIdx,List.size_toArray,List.length_cons,List.length_nil,Nat.zero_add,Nat.reduceAdd] at LL
  refine regL LL (fun hHeld=>?_);clear LL;generalize World.drew _=wk at hHeld  ⊢;refine tks 0 ?_;refine tkb 1 (fun _ h=>(h.blk 0 rfl).c2) ?_;refine tks 3 ?_;refine tkb 4 (fun _ h=>(h.blk 1 rfl).c2) ?_;refine rdy 2 (fun KK hKK=>?_);go_simp;refine (HP.out _).mono ?_;rintro e wk ⟨g1,B1,n1,k1,E1,rfl,he1,hb1⟩;go_wp2_with fail;refine hKK.out _ _ (hHeld.keep hb1) (fun _=>?_);clear hKK KK hHeld;rename_i hHeld;(try simp only [Act.put,lay]);have HE1:=Hd he1;clear he1;clear hb1;refine rdy 5 (fun KK hKK=>?_);go_simp;refine cs (HO.out _ _ _ _ _ _ HE1.out) ?_;clear hKK KK hHeld;intro wk hb2 hHeld;(try replace HE1:=Hd (HE1.out.below hb2));clear hb2;refine rdy 6 (fun KK hKK=>?_);obtain⟨ha0,hf0,ha1,hf1⟩:=(hHeld.has 0 rfl).sf2;obtain⟨csx,hbx,-,hcx⟩:=hHeld.has 0 rfl;replace HE1:=Hd (HE1.out.setB hbx hcx 0 [.float .f64 p1,.float .f64 p2]);clear hbx hcx;go_simp;have HS_0:=(hHeld.has 0 rfl).laid [.float .f64 p1,.float .f64 p2] rfl;refine hKK.out _ _ (hHeld.over 0 rfl [.float .f64 p1,.float .f64 p2] rfl rfl (by first | omega | exact hHeld.le_of 0 rfl) (by simp<;>omega) (by simp<;>omega)) (fun _=>?_);clear hKK KK hHeld;rename_i hHeld;(try simp only [Act.put,lay])
  replace hHeld:=(show Lies _ (sets wk j7 0 [.float .f64 p1,.float .f64 p2]) _ _ from hHeld)
  obtain⟨wk,hwn⟩:∃ X,sets wk j7 0 [.float .f64 p1,.float .f64 p2]=X:=⟨_,rfl⟩
  rw [hwn] at hHeld HE1 HS_0
  simp only [sets] at hwn
  rw [hwn];clear hwn;refine wpAnyH_done (by kernel_rfl) ?_ _;have LL:=Hd (hHeld.tight HS_0)
  simp only [List.cons_append,List.nil_append] at LL
  clear hHeld HS_0;clear HE1 ha;obtain⟨q4_0,q4_1⟩:=(LL.out.blk 1 rfl).c2;obtain⟨q5_0,q5_1⟩:=(LL.out.blk 2 rfl).c2;obtain⟨q6_0,q6_1⟩:=(LL.out.blk 5 rfl).c2;obtain⟨q7_0,q7_1⟩:=(LL.out.blk 4 rfl).c2;go_wp2_with fail;refine cx (HCUT.out _) fun wk hb=>?_;replace LL:=stL LL hb;clear hb q4_0 q4_1 q5_0 q5_1 q6_0 q6_1 q7_0 q7_1 hcc;replace LL:=Hd (LL.out.loose3 rfl);obtain⟨ha6_0,hf6_0,ha6_1,hf6_1⟩:=(LL.out.has 0 rfl).sf2;have LF:=Hd (LL.out.write [.float .f64 r1,.float .f64 r2] rfl (by omega) (by simp<;>omega) (by simp<;>omega));obtain⟨hk6_0,hk6_1⟩:=(LF.out.blk 5 rfl).c2
  simp [sets] at hk6_0 hk6_1
  clear LL;go_wp2;refine bodyPost_ret (v:=.agg #[.float .f64 r1,.float .f64 r2]) (by simp [results,Tryz.results89,go_sem,hk6_0,hk6_1]) rfl ?_
  exact⟨rfl,LF.out.b⟩
set_option maxRecDepth 8000 in
theorem divisor_zq(A1 A2 C1 C2 x1 x2 r1 r2:Nat)(q1 q2:Nat)(s2:Int)(y2:Rat)(w:World)(h1:FloatKind.f64.format.order A2 0=some .gt)(h2:FloatKind.f64.format.order C2 0=some .gt)(ha:FloatKind.f64.format.order A1 0=some .eq\/FloatKind.f64.format.order A1 0=some .lt)(hcc:FloatKind.f64.format.order C1 0=some .gt)(hp2:∀ W,Calls Tryz.prog 100 #[.float .f64 A2] W (NewExI W s2 y2))(ho2:∀ W (g2:Bool) (B2:Option Addr) (n2 k2:Nat) (E2:Int),ExI W s2 g2 B2 n2 k2 E2 y2->Rt 157 #[.agg #[.int .i64 s2,.bool g2,.slice B2 n2 k2,.int .i64 E2],.float .f64 C1] (.agg #[.float .f64 q1,.float .f64 q2]) W)
  (hcut:∀ W,Rt 77 #[.agg #[.float .f64 x1,.float .f64 x2],.agg #[.float .f64 0,.float .f64 0],.agg #[.float .f64 q1,.float .f64 q2],.bool true] (.agg #[.float .f64 r1,.float .f64 r2]) W):
  Rt 89 #[.agg #[.float .f64 A1,.float .f64 A2],.agg #[.float .f64 C1,.float .f64 C2],.agg #[.float .f64 x1,.float .f64 x2]] (.agg #[.float .f64 r1,.float .f64 r2]) w:=by
 have HZ:=Hd fun W=>at_any 0 W;have HI:=Hd fun W=>inf_pos W;have HT:=Hd fun W=>at_any 9218868437227405312 W;have H1:=Hd h1;have H2:=Hd h2;have HA:=Hd ha;have HCC:=Hd hcc;have HCUT:=Hd hcut;have HP2:=Hd hp2;have HO2:=Hd ho2;clear h1 h2 ha hcc hcut hp2 ho2;have LL:=li4 w #[.float .f64 A1,.float .f64 A2] 28 #[.float .f64 C1,.float .f64 C2] 28 #[.float .f64 x1,.float .f64 x2] 28 #[.float .f64 0,.float .f64 0] 28
 rcases HA.out with ha | ha
 all_goals
  have hcc:=HCC.out;have h1:=H1.out;have h2:=H2.out;clear H1 H2 HA HCC
  go_enter Tryz.func89,Tryz.ntmps89
  obtain⟨q1_0,q1_1⟩:=(LL.out.blk 0 rfl).c2;obtain⟨q2_0,q2_1⟩:=(LL.out.blk 1 rfl).c2;go_wp2_with fail;refine cx (HZ.out _) fun wk hb=>?_;replace LL:=stL LL hb;clear hb q1_0 q1_1 q2_0 q2_1 h1 h2;go_wp2_with fail;refine (HI.out _).mono ?_;rintro e wk ⟨rfl,rfl⟩;go_wp2_with fail;refine cx (HT.out _) fun wk hb=>?_;replace LL:=stL LL hb;clear hb
  go_upto_region 4 with fail
  have hl_j7:=LL.out.lts;generalize hwm:World.alloc wk _=wm;replace LL:=Hd (LL.out.newE hwm)
  have hz:wm.heap.size=wk.heap.size+1:=by rw [<- hwm];simp
  clear hwm;generalize hwn:World.alloc wm _=wn;replace LL:=Hd (LL.out.newE hwn);rw [hz] at LL
  simp only [List.cons_append,List.nil_append] at LL
  simp only [List.mem_cons,List.not_mem_nil,or_false,forall_eq_or_imp,forall_eq,false_imp_iff,implies_true,and_true] at hl_j7
  clear hwn hz;generalize wk.heap.size=j7 at LL hl_j7 ⊢;obtain⟨q3_0,q3_1⟩:=(LL.out.blk 0 rfl).c2;obtain⟨q4_0,q4_1⟩:=(LL.out.blk 1 rfl).c2;go_wp2_with fail;clear ha q3_0 q3_1 q4_0 q4_1;replace LL:=Hd (LL.out.loose 5 rfl rfl)
  simp only [List.eraseIdx,List.size_toArray,List.length_cons,List.length_nil,Nat.zero_add,Nat.reduceAdd] at LL
  refine regL LL (fun hHeld=>?_);clear LL;generalize World.drew _=wk at hHeld  ⊢;refine tks 0 ?_;refine tkb 1 (fun _ h=>(h.blk 0 rfl).c2) ?_;refine tks 3 ?_;refine tkb 4 (fun _ h=>(h.blk 1 rfl).c2) ?_;refine rdy 2 (fun KK hKK=>?_);go_simp;refine (HP2.out _).mono ?_;rintro e wk ⟨g2,B2,n2,k2,E2,rfl,he2,hb1⟩;go_wp2_with fail;refine hKK.out _ _ (hHeld.keep hb1) (fun _=>?_);clear hKK KK hHeld;rename_i hHeld;(try simp only [Act.put,lay]);have HE2:=Hd he2;clear he2;clear hb1;refine rdy 5 (fun KK hKK=>?_);go_simp;refine cs (HO2.out _ _ _ _ _ _ HE2.out) ?_;clear hKK KK hHeld;intro wk hb2 hHeld;(try replace HE2:=Hd (HE2.out.below hb2));clear hb2;refine rdy 6 (fun KK hKK=>?_);obtain⟨ha0,hf0,ha1,hf1⟩:=(hHeld.has 0 rfl).sf2;obtain⟨csx,hbx,-,hcx⟩:=hHeld.has 0 rfl;replace HE2:=Hd (HE2.out.setB hbx hcx 0 [.float .f64 q1,.float .f64 q2]);clear hbx hcx;go_simp;have HS_0:=(hHeld.has 0 rfl).laid [.float .f64 q1,.float .f64 q2] rfl;refine hKK.out _ _ (hHeld.over 0 rfl [.float .f64 q1,.float .f64 q2] rfl rfl (by first | omega | exact hHeld.le_of 0 rfl) (by simp<;>omega) (by simp<;>omega)) (fun _=>?_);clear hKK KK hHeld;rename_i hHeld;(try simp only [Act.put,lay])
  replace hHeld:=(show Lies _ (sets wk (j7+1) 0 [.float .f64 q1,.float .f64 q2]) _ _ from hHeld)
  obtain⟨wk,hwn⟩:∃ X,sets wk (j7+1) 0 [.float .f64 q1,.float .f64 q2]=X:=⟨_,rfl⟩
  rw [hwn] at hHeld HE2 HS_0
  simp only [sets] at hwn
  rw [hwn];clear hwn;refine wpAnyH_done (by kernel_rfl) ?_ _;have LL:=Hd (hHeld.tight HS_0)
  simp only [List.cons_append,List.nil_append] at LL
  clear hHeld HS_0;clear HE2 hcc;obtain⟨q5_0,q5_1⟩:=(LL.out.blk 2 rfl).c2;obtain⟨q6_0,q6_1⟩:=(LL.out.blk 4 rfl).c2;obtain⟨q7_0,q7_1⟩:=(LL.out.blk 5 rfl).c2;go_wp2_with fail;refine cx (HCUT.out _) fun wk hb=>?_;replace LL:=stL LL hb;clear hb q5_0 q5_1 q6_0 q6_1 q7_0 q7_1;replace LL:=Hd (LL.out.loose3 rfl);obtain⟨ha6_0,hf6_0,ha6_1,hf6_1⟩:=(LL.out.has 0 rfl).sf2;have LF:=Hd (LL.out.write [.float .f64 r1,.float .f64 r2] rfl (by omega) (by simp<;>omega) (by simp<;>omega));obtain⟨hk6_0,hk6_1⟩:=(LF.out.blk 5 rfl).c2
  simp [sets] at hk6_0 hk6_1
  clear LL;go_wp2;refine bodyPost_ret (v:=.agg #[.float .f64 r1,.float .f64 r2]) (by simp [results,Tryz.results89,go_sem,hk6_0,hk6_1]) rfl ?_
  exact⟨rfl,LF.out.b⟩
set_option maxRecDepth 8000 in
theorem divisor_zi(A1 A2 C1 C2 x1 x2 r1 r2:Nat)(w:World)(h1:FloatKind.f64.format.order A2 0=some .gt)(h2:FloatKind.f64.format.order C2 0=some .gt)(ha:FloatKind.f64.format.order A1 0=some .eq\/FloatKind.f64.format.order A1 0=some .lt)(hcc:FloatKind.f64.format.order C1 0=some .eq\/FloatKind.f64.format.order C1 0=some .lt)
  (hcut:∀ W,Rt 77 #[.agg #[.float .f64 x1,.float .f64 x2],.agg #[.float .f64 0,.float .f64 0],.agg #[.float .f64 9218868437227405312,.float .f64 9218868437227405312],.bool true] (.agg #[.float .f64 r1,.float .f64 r2]) W):
  Rt 89 #[.agg #[.float .f64 A1,.float .f64 A2],.agg #[.float .f64 C1,.float .f64 C2],.agg #[.float .f64 x1,.float .f64 x2]] (.agg #[.float .f64 r1,.float .f64 r2]) w:=by
 have HZ:=Hd fun W=>at_any 0 W;have HI:=Hd fun W=>inf_pos W;have HT:=Hd fun W=>at_any 9218868437227405312 W;have H1:=Hd h1;have H2:=Hd h2;have HA:=Hd ha;have HCC:=Hd hcc;have HCUT:=Hd hcut;clear h1 h2 ha hcc hcut;have LL:=li4 w #[.float .f64 A1,.float .f64 A2] 28 #[.float .f64 C1,.float .f64 C2] 28 #[.float .f64 x1,.float .f64 x2] 28 #[.float .f64 0,.float .f64 0] 28
 rcases HA.out with ha | ha<;>rcases HCC.out with hcc | hcc
 all_goals
  have h1:=H1.out;have h2:=H2.out;clear H1 H2 HA HCC
  go_enter Tryz.func89,Tryz.ntmps89
  obtain⟨q1_0,q1_1⟩:=(LL.out.blk 0 rfl).c2;obtain⟨q2_0,q2_1⟩:=(LL.out.blk 1 rfl).c2;go_wp2_with fail;refine cx (HZ.out _) fun wk hb=>?_;replace LL:=stL LL hb;clear hb q1_0 q1_1 q2_0 q2_1 h1 h2;go_wp2_with fail;refine (HI.out _).mono ?_;rintro e wk ⟨rfl,rfl⟩;go_wp2_with fail;refine cx (HT.out _) fun wk hb=>?_;replace LL:=stL LL hb;clear hb
  go_upto_region 4 with fail
  have hl_j7:=LL.out.lts;generalize hwm:World.alloc wk _=wm;replace LL:=Hd (LL.out.newE hwm)
  have hz:wm.heap.size=wk.heap.size+1:=by rw [<- hwm];simp
  clear hwm;generalize hwn:World.alloc wm _=wn;replace LL:=Hd (LL.out.newE hwn);rw [hz] at LL
  simp only [List.cons_append,List.nil_append] at LL
  simp only [List.mem_cons,List.not_mem_nil,or_false,forall_eq_or_imp,forall_eq,false_imp_iff,implies_true,and_true] at hl_j7
  clear hwn hz;generalize wk.heap.size=j7 at LL hl_j7 ⊢;obtain⟨q3_0,q3_1⟩:=(LL.out.blk 0 rfl).c2;obtain⟨q4_0,q4_1⟩:=(LL.out.blk 1 rfl).c2;obtain⟨q5_0,q5_1⟩:=(LL.out.blk 2 rfl).c2;obtain⟨q6_0,q6_1⟩:=(LL.out.blk 4 rfl).c2;obtain⟨q7_0,q7_1⟩:=(LL.out.blk 5 rfl).c2;go_wp2_with fail;refine cx (HCUT.out _) fun wk hb=>?_;replace LL:=stL LL hb;clear hb q3_0 q3_1 q4_0 q4_1 q5_0 q5_1 q6_0 q6_1 q7_0 q7_1 hcc ha;replace LL:=Hd (LL.out.loose3 rfl);obtain⟨ha6_0,hf6_0,ha6_1,hf6_1⟩:=(LL.out.has 0 rfl).sf2;have LF:=Hd (LL.out.write [.float .f64 r1,.float .f64 r2] rfl (by omega) (by simp<;>omega) (by simp<;>omega));obtain⟨hk6_0,hk6_1⟩:=(LF.out.blk 5 rfl).c2
  simp [sets] at hk6_0 hk6_1
  clear LL;go_wp2;refine bodyPost_ret (v:=.agg #[.float .f64 r1,.float .f64 r2]) (by simp [results,Tryz.results89,go_sem,hk6_0,hk6_1]) rfl ?_
  exact⟨rfl,LF.out.b⟩
set_option maxRecDepth 8000 in
theorem divrev2_none(b1 b2 c1 c2 y1 y2 A1 A2 C1 C2 x1 x2:Nat)(d1 d2 d3:Bool)(w:World)(t1:∀ W,Rt 102 #[.agg #[.float .f64 b1,.float .f64 b2]] (.agg #[.float .f64 A1,.float .f64 A2]) W)(m1:Em d1 A1 A2)(t2:∀ W,Rt 102 #[.agg #[.float .f64 c1,.float .f64 c2]] (.agg #[.float .f64 C1,.float .f64 C2]) W)(m2:Em d2 C1 C2)(t3:∀ W,Rt 102 #[.agg #[.float .f64 y1,.float .f64 y2]] (.agg #[.float .f64 x1,.float .f64 x2]) W)(m3:Em d3 x1 x2)(hnn:(d1 || d2 || d3)=true):
  Rt 27 #[.agg #[.float .f64 b1,.float .f64 b2],.agg #[.float .f64 c1,.float .f64 c2],.agg #[.float .f64 y1,.float .f64 y2]] (.agg #[.float .f64 9218868437227405312,.float .f64 18442240474082181120]) w:=by
 have HE:=Hd emptyf;have HRD:=readL43 w #[.float .f64 0,.float .f64 0] 28 t1 m1 t2 m2 t3 m3 hnn;clear t1 m1 t2 m2 t3 m3 hnn
 go_enter Tryz.func27,Tryz.ntmps27
 go_wp2_with fail;refine HRD.out.mono ?_;rintro e wk ⟨rfl,hl⟩;have LL:=Hd hl;clear hl HRD;go_wp2_with fail;refine cx (HE.out _) fun wk hb=>?_;replace LL:=stL LL hb;clear hb;replace LL:=Hd (LL.out.loose3 rfl);obtain⟨ha6_0,hf6_0,ha6_1,hf6_1⟩:=(LL.out.has 0 rfl).sf2;have LF:=Hd (LL.out.write [.float .f64 9218868437227405312,.float .f64 18442240474082181120] rfl (by omega) (by simp<;>omega) (by simp<;>omega));obtain⟨hk6_0,hk6_1⟩:=(LF.out.blk 3 rfl).c2
 simp [sets] at hk6_0 hk6_1
 clear LL;go_wp2;refine bodyPost_ret (v:=.agg #[.float .f64 9218868437227405312,.float .f64 18442240474082181120]) (by simp [results,Tryz.results27,go_sem,hk6_0,hk6_1]) rfl ?_
 exact⟨rfl,LF.out.b⟩
set_option maxRecDepth 8000 in
theorem divrev2_zero(b1 b2 c1 c2 y1 y2 A1 A2 C1 C2 x1 x2 l1 l2 u1 u2 r1 r2:Nat)(d1 d2 d3:Bool)(w:World)(t1:∀ W,Rt 102 #[.agg #[.float .f64 b1,.float .f64 b2]] (.agg #[.float .f64 A1,.float .f64 A2]) W)(m1:Em d1 A1 A2)(t2:∀ W,Rt 102 #[.agg #[.float .f64 c1,.float .f64 c2]] (.agg #[.float .f64 C1,.float .f64 C2]) W)(m2:Em d2 C1 C2)(t3:∀ W,Rt 102 #[.agg #[.float .f64 y1,.float .f64 y2]] (.agg #[.float .f64 x1,.float .f64 x2]) W)(m3:Em d3 x1 x2)(hnn:(d1 || d2 || d3)=false)
  (hh1:∀ W,Rt 87 #[.agg #[.float .f64 A1,.float .f64 A2]] (.bool true) W)(hh2:∀ W,Rt 87 #[.agg #[.float .f64 C1,.float .f64 C2]] (.bool true) W)
  (hc1:∀ W,Rt 77 #[.agg #[.float .f64 x1,.float .f64 x2],.agg #[.float .f64 18442240474082181120,.float .f64 18442240474082181120],.agg #[.float .f64 0,.float .f64 0],.bool true] (.agg #[.float .f64 l1,.float .f64 l2]) W)(hc2:∀ W,Rt 77 #[.agg #[.float .f64 x1,.float .f64 x2],.agg #[.float .f64 0,.float .f64 0],.agg #[.float .f64 9218868437227405312,.float .f64 9218868437227405312],.bool true] (.agg #[.float .f64 u1,.float .f64 u2]) W)
  (hu:∀ W,Rt 63 #[.agg #[.float .f64 l1,.float .f64 l2],.agg #[.float .f64 u1,.float .f64 u2]] (.agg #[.float .f64 r1,.float .f64 r2]) W):
  Rt 27 #[.agg #[.float .f64 b1,.float .f64 b2],.agg #[.float .f64 c1,.float .f64 c2],.agg #[.float .f64 y1,.float .f64 y2]] (.agg #[.float .f64 r1,.float .f64 r2]) w:=by
 have HZ:=Hd fun W=>at_any 0 W;have HI:=Hd fun W=>inf_pos W;have HJ:=Hd fun W=>inf_neg W;have HT:=Hd fun W=>at_any 9218868437227405312 W;have HS:=Hd fun W=>at_any 18442240474082181120 W;have HH1:=Hd hh1;have HH2:=Hd hh2;have HC1:=Hd hc1;have HC2:=Hd hc2;have HU:=Hd hu;clear hh1 hh2 hc1 hc2 hu;have HRD:=readL43 w #[.float .f64 0,.float .f64 0] 28 t1 m1 t2 m2 t3 m3 hnn;clear t1 m1 t2 m2 t3 m3 hnn
 go_enter Tryz.func27,Tryz.ntmps27
 go_wp2_with fail;refine HRD.out.mono ?_;rintro e wk ⟨rfl,hl⟩;have LL:=Hd hl;clear hl HRD;obtain⟨q1_0,q1_1⟩:=(LL.out.blk 0 rfl).c2;obtain⟨q2_0,q2_1⟩:=(LL.out.blk 1 rfl).c2;go_wp2_with fail;refine cx (HH1.out _) fun wk hb=>?_;replace LL:=stL LL hb;clear hb q1_0 q1_1 q2_0 q2_1;obtain⟨q3_0,q3_1⟩:=(LL.out.blk 0 rfl).c2;obtain⟨q4_0,q4_1⟩:=(LL.out.blk 1 rfl).c2;go_wp2_with fail;refine cx (HH2.out _) fun wk hb=>?_;replace LL:=stL LL hb;clear hb q3_0 q3_1 q4_0 q4_1
 go_upto_region 4 with fail
 go_cut [7] (fun s7 wx=>∃ (j7:Nat),s7=.pointer (some ⟨j7,0,none⟩)/\w.heap.size+3<j7/\Lies w wx [(w.heap.size,28,#[.float .f64 A1,.float .f64 A2]),((w.heap.size+1),28,#[.float .f64 C1,.float .f64 C2]),((w.heap.size+2),28,#[.float .f64 x1,.float .f64 x2]),((w.heap.size+3),28,#[.float .f64 0,.float .f64 0]),(j7,28,#[.float .f64 l1,.float .f64 l2])] [])
 case first=>
  refine regL LL (fun hHeld=>?_);clear LL;generalize World.drew _=wk at hHeld  ⊢;refine tkb 0 (fun _ h=>(h.blk 2 rfl).c2) ?_
  repeat' first
   | (have hx:=hC1;clear hx;go_simp;refine (HJ.out _).mono ?_;rintro e wk ⟨rfl,rfl⟩;go_wp2_with fail;refine hC1.out _ _ (hHeld.keep (Below.refl _ _)) (fun _=>?_);clear hC1 KK hHeld;rename_i hHeld;(try simp only [Act.put,lay]);(try replace B_j7:=B_j7.keep (Below.refl _ _));have mk1:=True.intro)
   | (have hx:=hC2;clear hx;go_simp;refine (HS.out _).mono ?_;rintro e wk ⟨rfl,hb2⟩;go_wp2_with fail;refine hC2.out _ _ (hHeld.keep hb2) (fun _=>?_);clear hC2 KK hHeld;rename_i hHeld;(try simp only [Act.put,lay]);(try replace B_j7:=B_j7.keep hb2);clear hb2;have mk2:=True.intro)
   | (have hx:=hC3;clear hx;go_simp;refine (HZ.out _).mono ?_;rintro e wk ⟨rfl,hb3⟩;go_wp2_with fail;refine hC3.out _ _ (hHeld.keep hb3) (fun _=>?_);clear hC3 KK hHeld;rename_i hHeld;(try simp only [Act.put,lay]);(try replace B_j7:=B_j7.keep hb3);clear hb3;have mk3:=True.intro)
   | (have hx:=hC4;clear hx;go_simp;refine (HC1.out _).mono ?_;rintro e wk ⟨rfl,hb4⟩;go_wp2_with fail;refine hC4.out _ _ (hHeld.keep hb4) (fun _=>?_);clear hC4 KK hHeld;rename_i hHeld;(try simp only [Act.put,lay]);(try replace B_j7:=B_j7.keep hb4);clear hb4;have mk4:=True.intro)
   | (have hx:=hA5;clear hx;go_simp;have hl_j7:=hHeld.lts;refine hA5.out _ _ (hHeld.alloc _) (fun _=>?_);clear hA5 KK hHeld;rename_i hHeld;(try simp only [Act.put,lay]);generalize hwn:World.alloc wk _=wn at hHeld ⊢;have B_j7:=Blk.newE hwn;simp only [List.mem_cons,List.not_mem_nil,or_false,forall_eq_or_imp,forall_eq,false_imp_iff,implies_true,and_true] at hl_j7;clear hwn;generalize hg:wk.heap.size=j7 at B_j7 hl_j7 ⊢;clear hg;obtain⟨wk,rfl⟩:∃ X,X=wn:=⟨_,rfl⟩;have mk5:=True.intro)
   | (have hx:=hS6;clear hx;have qz0:=B_j7.ce 0 rfl;have fz0:=B_j7.frozen 0;have qz1:=B_j7.ce 1 rfl;have fz1:=B_j7.frozen 1;go_simp;have hsx:=hHeld.far [.float .f64 l1,.float .f64 l2] 0 (g:=j7) (by omega) (by simp<;>omega) (by simp<;>omega);generalize hwn:sets wk j7 0 _=wn at hsx;refine hS6.out _ _ (by have e:=hwn;simp only [sets,Nat.reduceAdd] at e;rw [e];exact hsx) (fun _=>?_);clear hS6 KK hHeld hsx;rename_i hHeld;(try simp only [Act.put,lay]);replace B_j7:=B_j7.setsE hwn;simp only [laid,lay,Nat.reduceAdd] at B_j7;simp only [sets,Nat.reduceAdd] at hwn;rw [hwn] at hHeld ⊢;clear hwn qz0 fz0 qz1 fz1;obtain⟨wk,rfl⟩:∃ X,X=wn:=⟨_,rfl⟩;have mk6:=True.intro)
   | (have hx:=mk1;have hx:=mk2;have hx:=mk3;have hx:=mk4;have hx:=mk5;have hx:=mk6;refine wpAnyH_done (by kernel_rfl) ?_ _;clear hx mk1 mk2 mk3 mk4 mk5 mk6;go_wp2_with fail;go_meet;exact⟨j7,rfl,by omega,hHeld.put B_j7⟩)
   | (have hx:=mk1;have hx:=mk2;have hx:=mk3;have hx:=mk4;have hx:=mk5;refine rdy 6 (fun KK hS6=>?_))
   | (have hx:=mk1;have hx:=mk2;have hx:=mk3;have hx:=mk5;refine rdy 4 (fun KK hC4=>?_))
   | (have hx:=mk1;have hx:=mk2;have hx:=mk3;have hx:=mk4;refine rdy 5 (fun KK hA5=>?_))
   | (have hx:=mk1;have hx:=mk2;have hx:=mk5;refine rdy 3 (fun KK hC3=>?_))
   | (have hx:=mk1;have hx:=mk2;have hx:=mk3;refine rd2 4 5 (fun KK hC4=>?_) (fun KK hA5=>?_))
   | (have hx:=mk1;have hx:=mk5;refine rdy 2 (fun KK hC2=>?_))
   | (have hx:=mk1;have hx:=mk2;refine rd2 3 5 (fun KK hC3=>?_) (fun KK hA5=>?_))
   | (have hx:=mk5;refine rdy 1 (fun KK hC1=>?_))
   | (have hx:=mk1;refine rd2 2 5 (fun KK hC2=>?_) (fun KK hA5=>?_))
   | (refine rd2 1 5 (fun KK hC1=>?_) (fun KK hA5=>?_))
 case rest=>
 obtain⟨j7,rfl,hgs,hcl⟩:=hcut;rename World=>wx;clear LL HH1 HH2 HC1;have LL:=Hd hcl;clear hcl;go_wp2_with fail;replace LL:=Hd (LL.out.loose3 rfl);refine regL LL (fun hHeld=>?_);clear LL;generalize World.drew _=wk at hHeld  ⊢;refine tkb 0 (fun _ h=>(h.blk 3 rfl).c2) ?_;refine tkb 1 (fun _ h=>(h.blk 2 rfl).c2) ?_;refine rdy 2 (fun KK hKK=>?_);go_simp;refine cs (HZ.out _) ?_;clear hKK KK hHeld;intro wk hb1 hHeld;clear hb1;refine rdy 3 (fun KK hKK=>?_);go_simp;refine (HI.out _).mono ?_;rintro e wk ⟨rfl,rfl⟩;go_wp2_with fail;refine hKK.out _ _ (hHeld.keep (Below.refl _ _)) (fun _=>?_);clear hKK KK hHeld;rename_i hHeld;(try simp only [Act.put,lay]);refine rdy 4 (fun KK hKK=>?_);go_simp;refine cs (HT.out _) ?_;clear hKK KK hHeld;intro wk hb3 hHeld;clear hb3;refine rdy 5 (fun KK hKK=>?_);go_simp;refine cs (HC2.out _) ?_;clear hKK KK hHeld;intro wk hb4 hHeld;clear hb4;refine rdy 6 (fun KK hKK=>?_);go_simp;refine cs (HU.out _) ?_;clear hKK KK hHeld;intro wk hb5 hHeld;clear hb5;refine rdy 7 (fun KK hKK=>?_);obtain⟨ha0,hf0,ha1,hf1⟩:=(hHeld.has 0 rfl).sf2;go_simp;have HS_0:=(hHeld.has 0 rfl).laid [.float .f64 r1,.float .f64 r2] rfl;refine hKK.out _ _ (hHeld.over 0 rfl [.float .f64 r1,.float .f64 r2] rfl rfl (by first | omega | exact hHeld.le_of 0 rfl) (by simp<;>omega) (by simp<;>omega)) (fun _=>?_);clear hKK KK hHeld;rename_i hHeld;(try simp only [Act.put,lay]);refine wpAnyH_done (by kernel_rfl) ?_ _;have LB:=Hd hHeld.b;clear hHeld;obtain⟨hk6_0,hk6_1⟩:=HS_0.c2;clear HS_0
 simp [sets] at hk6_0 hk6_1
 go_wp2;refine bodyPost_ret (v:=.agg #[.float .f64 r1,.float .f64 r2]) (by simp [results,Tryz.results27,go_sem,hk6_0,hk6_1]) rfl ?_
 exact⟨rfl,LB.out⟩
set_option maxRecDepth 8000 in
theorem divrev2_some(b1 b2 c1 c2 y1 y2 A1 A2 C1 C2 x1 x2 a1 a2 m1 m2 z1 z2 p1 q1 p2 q2 p3 q3 p4 q4 p5 q5 p6 q6 p7 q7 p8 q8:Nat)(d1 d2 d3 e1 e2:Bool)(w:World)(t1:∀ W,Rt 102 #[.agg #[.float .f64 b1,.float .f64 b2]] (.agg #[.float .f64 A1,.float .f64 A2]) W)(t4:Em d1 A1 A2)(t2:∀ W,Rt 102 #[.agg #[.float .f64 c1,.float .f64 c2]] (.agg #[.float .f64 C1,.float .f64 C2]) W)(t5:Em d2 C1 C2)(t3:∀ W,Rt 102 #[.agg #[.float .f64 y1,.float .f64 y2]] (.agg #[.float .f64 x1,.float .f64 x2]) W)(t6:Em d3 x1 x2)(hnn:(d1 || d2 || d3)=false)
  (hh1:∀ W,Rt 87 #[.agg #[.float .f64 A1,.float .f64 A2]] (.bool e1) W)(hh2:∀ W,Rt 87 #[.agg #[.float .f64 C1,.float .f64 C2]] (.bool e2) W)(hz:e1=false\/e1=true/\e2=false)
  (hm1:∀ W,Rt 85 #[.agg #[.float .f64 A1,.float .f64 A2]] (.agg #[.float .f64 a1,.float .f64 a2]) W)(hm2:∀ W,Rt 85 #[.agg #[.float .f64 C1,.float .f64 C2]] (.agg #[.float .f64 m1,.float .f64 m2]) W)(hm3:∀ W,Rt 85 #[.agg #[.float .f64 x1,.float .f64 x2]] (.agg #[.float .f64 z1,.float .f64 z2]) W)(hd1:∀ W,Rt 89 #[.agg #[.float .f64 A1,.float .f64 A2],.agg #[.float .f64 C1,.float .f64 C2],.agg #[.float .f64 x1,.float .f64 x2]] (.agg #[.float .f64 p1,.float .f64 q1]) W)(hd2:∀ W,Rt 89 #[.agg #[.float .f64 a1,.float .f64 a2],.agg #[.float .f64 m1,.float .f64 m2],.agg #[.float .f64 x1,.float .f64 x2]] (.agg #[.float .f64 p2,.float .f64 q2]) W)(hd3:∀ W,Rt 89 #[.agg #[.float .f64 a1,.float .f64 a2],.agg #[.float .f64 C1,.float .f64 C2],.agg #[.float .f64 z1,.float .f64 z2]] (.agg #[.float .f64 p3,.float .f64 q3]) W)(hd4:∀ W,Rt 89 #[.agg #[.float .f64 A1,.float .f64 A2],.agg #[.float .f64 m1,.float .f64 m2],.agg #[.float .f64 z1,.float .f64 z2]] (.agg #[.float .f64 p4,.float .f64 q4]) W)
  (hu1:∀ W,Rt 63 #[.agg #[.float .f64 p1,.float .f64 q1],.agg #[.float .f64 p2,.float .f64 q2]] (.agg #[.float .f64 p5,.float .f64 q5]) W)(hu2:∀ W,Rt 63 #[.agg #[.float .f64 p3,.float .f64 q3],.agg #[.float .f64 p4,.float .f64 q4]] (.agg #[.float .f64 p6,.float .f64 q6]) W)(hm4:∀ W,Rt 85 #[.agg #[.float .f64 p6,.float .f64 q6]] (.agg #[.float .f64 p7,.float .f64 q7]) W)(hu3:∀ W,Rt 63 #[.agg #[.float .f64 p5,.float .f64 q5],.agg #[.float .f64 p7,.float .f64 q7]] (.agg #[.float .f64 p8,.float .f64 q8]) W):
  Rt 27 #[.agg #[.float .f64 b1,.float .f64 b2],.agg #[.float .f64 c1,.float .f64 c2],.agg #[.float .f64 y1,.float .f64 y2]] (.agg #[.float .f64 p8,.float .f64 q8]) w:=by
 have HH1:=Hd hh1;have HH2:=Hd hh2;have HZ:=Hd hz;have HM1:=Hd hm1;have HM2:=Hd hm2;have HM3:=Hd hm3;have HM4:=Hd hm4;have HD1:=Hd hd1;have HD2:=Hd hd2;have HD3:=Hd hd3;have HD4:=Hd hd4;have HU1:=Hd hu1;have HU2:=Hd hu2;have HU3:=Hd hu3;clear hh1 hh2 hz hm1 hm2 hm3 hm4 hd1 hd2 hd3 hd4 hu1 hu2 hu3;have HRD:=readL43 w #[.float .f64 0,.float .f64 0] 28 t1 t4 t2 t5 t3 t6 hnn;clear t1 t4 t2 t5 t3 t6 hnn
 go_enter Tryz.func27,Tryz.ntmps27
 go_wp2_with fail;refine HRD.out.mono ?_;rintro e wk ⟨rfl,hl⟩;have LL:=Hd hl;clear hl HRD
 go_upto_region 3 with fail
 go_cut [19] (fun s19 wx=>s19=.bool false/\Lies w wx [(w.heap.size,28,#[.float .f64 A1,.float .f64 A2]),((w.heap.size+1),28,#[.float .f64 C1,.float .f64 C2]),((w.heap.size+2),28,#[.float .f64 x1,.float .f64 x2]),((w.heap.size+3),28,#[.float .f64 0,.float .f64 0])] [])
 case first=>
  obtain⟨q1_0,q1_1⟩:=(LL.out.blk 0 rfl).c2;obtain⟨q2_0,q2_1⟩:=(LL.out.blk 1 rfl).c2;go_wp2_with fail;refine cx (HH1.out _) fun wk hb=>?_;replace LL:=stL LL hb;clear hb q1_0 q1_1 q2_0 q2_1
  rcases HZ.out with h | ⟨h,h2⟩<;>subst h
  ·go_wp2_with fail
   go_meet
   case rel=>exact⟨rfl,LL.out⟩
  ·subst h2;obtain⟨q3_0,q3_1⟩:=(LL.out.blk 1 rfl).c2;go_wp2_with fail;refine cx (HH2.out _) fun wk hb=>?_;replace LL:=stL LL hb;clear hb q3_0 q3_1;go_wp2_with fail
   go_meet
   case rel=>exact⟨rfl,LL.out⟩
 case rest=>
 obtain⟨rfl,hcl⟩:=hcut;rename World=>wx;clear LL HH1 HH2 HZ;have LL:=Hd hcl;clear hcl;obtain⟨q1_0,q1_1⟩:=(LL.out.blk 2 rfl).c2;go_wp2_with fail;refine cx (HM3.out _) fun wk hb=>?_;replace LL:=stL LL hb;clear hb q1_0 q1_1
 go_upto_region 7 with fail
 have hl_j8:=LL.out.lts;generalize hwn:World.alloc wk _=wn;replace LL:=Hd (LL.out.newE hwn)
 simp only [List.cons_append,List.nil_append] at LL
 simp only [List.mem_cons,List.not_mem_nil,or_false,forall_eq_or_imp,forall_eq,false_imp_iff,implies_true,and_true] at hl_j8
 clear hwn;generalize wk.heap.size=j8 at LL hl_j8 ⊢
 go_cut [9] (fun s9 wx=>∃ (j9:Nat),s9=.pointer (some ⟨j9,0,none⟩)/\(w.heap.size+3<j9/\j8<j9)/\Lies w wx [(w.heap.size,28,#[.float .f64 A1,.float .f64 A2]),((w.heap.size+1),28,#[.float .f64 C1,.float .f64 C2]),((w.heap.size+2),28,#[.float .f64 x1,.float .f64 x2]),((w.heap.size+3),28,#[.float .f64 0,.float .f64 0]),(j8,28,#[.float .f64 z1,.float .f64 z2]),(j9,28,#[.float .f64 p5,.float .f64 q5])] [])
 case first=>
  refine regL LL (fun hHeld=>?_);clear LL;generalize World.drew _=wk at hHeld  ⊢;refine tkb 0 (fun _ h=>(h.blk 0 rfl).c2) ?_;refine tkb 1 (fun _ h=>(h.blk 1 rfl).c2) ?_;refine tkb 2 (fun _ h=>(h.blk 2 rfl).c2) ?_;refine tkb 4 (fun _ h=>(h.blk 0 rfl).c2) ?_;refine tkb 6 (fun _ h=>(h.blk 1 rfl).c2) ?_;refine tkb 8 (fun _ h=>(h.blk 2 rfl).c2) ?_
  repeat' first
   | (have hx:=hC3;clear hx;go_simp;refine (HD1.out _).mono ?_;rintro e wk ⟨rfl,hb0⟩;go_wp2_with fail;refine hC3.out _ _ (hHeld.keep hb0) (fun _=>?_);clear hC3 KK hHeld;rename_i hHeld;(try simp only [Act.put,lay]);(try replace B_j9:=B_j9.keep hb0);clear hb0;have mk3:=True.intro)
   | (have hx:=hC5;clear hx;go_simp;refine (HM1.out _).mono ?_;rintro e wk ⟨rfl,hb1⟩;go_wp2_with fail;refine hC5.out _ _ (hHeld.keep hb1) (fun _=>?_);clear hC5 KK hHeld;rename_i hHeld;(try simp only [Act.put,lay]);(try replace B_j9:=B_j9.keep hb1);clear hb1;have mk5:=True.intro)
   | (have hx:=hC7;clear hx;go_simp;refine (HM2.out _).mono ?_;rintro e wk ⟨rfl,hb2⟩;go_wp2_with fail;refine hC7.out _ _ (hHeld.keep hb2) (fun _=>?_);clear hC7 KK hHeld;rename_i hHeld;(try simp only [Act.put,lay]);(try replace B_j9:=B_j9.keep hb2);clear hb2;have mk7:=True.intro)
   | (have hx:=hC9;clear hx;go_simp;refine (HD2.out _).mono ?_;rintro e wk ⟨rfl,hb3⟩;go_wp2_with fail;refine hC9.out _ _ (hHeld.keep hb3) (fun _=>?_);clear hC9 KK hHeld;rename_i hHeld;(try simp only [Act.put,lay]);(try replace B_j9:=B_j9.keep hb3);clear hb3;have mk9:=True.intro)
   | (have hx:=hC10;clear hx;go_simp;refine (HU1.out _).mono ?_;rintro e wk ⟨rfl,hb4⟩;go_wp2_with fail;refine hC10.out _ _ (hHeld.keep hb4) (fun _=>?_);clear hC10 KK hHeld;rename_i hHeld;(try simp only [Act.put,lay]);(try replace B_j9:=B_j9.keep hb4);clear hb4;have mk10:=True.intro)
   | (have hx:=hA11;clear hx;go_simp;have hl_j9:=hHeld.lts;refine hA11.out _ _ (hHeld.alloc _) (fun _=>?_);clear hA11 KK hHeld;rename_i hHeld;(try simp only [Act.put,lay]);generalize hwn:World.alloc wk _=wn at hHeld ⊢;have B_j9:=Blk.newE hwn;simp only [List.mem_cons,List.not_mem_nil,or_false,forall_eq_or_imp,forall_eq,false_imp_iff,implies_true,and_true] at hl_j9;clear hwn;generalize hg:wk.heap.size=j9 at B_j9 hl_j9 ⊢;clear hg;obtain⟨wk,rfl⟩:∃ X,X=wn:=⟨_,rfl⟩;have mk11:=True.intro)
   | (have hx:=hS12;clear hx;have qz0:=B_j9.ce 0 rfl;have fz0:=B_j9.frozen 0;have qz1:=B_j9.ce 1 rfl;have fz1:=B_j9.frozen 1;go_simp;have hsx:=hHeld.far [.float .f64 p5,.float .f64 q5] 0 (g:=j9) (by omega) (by simp<;>omega) (by simp<;>omega);generalize hwn:sets wk j9 0 _=wn at hsx;refine hS12.out _ _ (by have e:=hwn;simp only [sets,Nat.reduceAdd] at e;rw [e];exact hsx) (fun _=>?_);clear hS12 KK hHeld hsx;rename_i hHeld;(try simp only [Act.put,lay]);replace B_j9:=B_j9.setsE hwn;simp only [laid,lay,Nat.reduceAdd] at B_j9;simp only [sets,Nat.reduceAdd] at hwn;rw [hwn] at hHeld ⊢;clear hwn qz0 fz0 qz1 fz1;obtain⟨wk,rfl⟩:∃ X,X=wn:=⟨_,rfl⟩;have mk12:=True.intro)
   | (have hx:=mk3;have hx:=mk5;have hx:=mk7;have hx:=mk9;have hx:=mk10;have hx:=mk11;have hx:=mk12;refine wpAnyH_done (by kernel_rfl) ?_ _;clear hx mk3 mk5 mk7 mk9 mk10 mk11 mk12;go_wp2_with fail;go_meet;exact⟨j9,rfl,⟨by omega,by omega⟩,hHeld.put B_j9⟩)
   | (have hx:=mk3;have hx:=mk5;have hx:=mk7;have hx:=mk9;have hx:=mk10;have hx:=mk11;refine rdy 12 (fun KK hS12=>?_))
   | (have hx:=mk3;have hx:=mk5;have hx:=mk7;have hx:=mk9;have hx:=mk11;refine rdy 10 (fun KK hC10=>?_))
   | (have hx:=mk3;have hx:=mk5;have hx:=mk7;have hx:=mk9;have hx:=mk10;refine rdy 11 (fun KK hA11=>?_))
   | (have hx:=mk3;have hx:=mk5;have hx:=mk7;have hx:=mk11;refine rdy 9 (fun KK hC9=>?_))
   | (have hx:=mk3;have hx:=mk5;have hx:=mk7;have hx:=mk9;refine rd2 10 11 (fun KK hC10=>?_) (fun KK hA11=>?_))
   | (have hx:=mk3;have hx:=mk5;have hx:=mk11;refine rdy 7 (fun KK hC7=>?_))
   | (have hx:=mk3;have hx:=mk5;have hx:=mk7;refine rd2 9 11 (fun KK hC9=>?_) (fun KK hA11=>?_))
   | (have hx:=mk3;have hx:=mk11;refine rdy 5 (fun KK hC5=>?_))
   | (have hx:=mk3;have hx:=mk5;refine rd2 7 11 (fun KK hC7=>?_) (fun KK hA11=>?_))
   | (have hx:=mk11;refine rdy 3 (fun KK hC3=>?_))
   | (have hx:=mk3;refine rd2 5 11 (fun KK hC5=>?_) (fun KK hA11=>?_))
   | (refine rd2 3 11 (fun KK hC3=>?_) (fun KK hA11=>?_))
 case rest=>
 obtain⟨j9,rfl,hgs_j9,hcl⟩:=hcut;rename World=>wx;clear LL HD1 HD2 HU1;have LL:=Hd hcl;clear hcl
 go_upto_region 8 with fail
 go_cut [10] (fun s10 wx=>∃ (j10:Nat),s10=.pointer (some ⟨j10,0,none⟩)/\(w.heap.size+3<j10/\j8<j10/\j9<j10)/\Lies w wx [(w.heap.size,28,#[.float .f64 A1,.float .f64 A2]),((w.heap.size+1),28,#[.float .f64 C1,.float .f64 C2]),((w.heap.size+2),28,#[.float .f64 x1,.float .f64 x2]),((w.heap.size+3),28,#[.float .f64 0,.float .f64 0]),(j8,28,#[.float .f64 z1,.float .f64 z2]),(j9,28,#[.float .f64 p5,.float .f64 q5]),(j10,28,#[.float .f64 p6,.float .f64 q6])] [])
 case first=>
  refine regL LL (fun hHeld=>?_);clear LL;generalize World.drew _=wk at hHeld  ⊢;refine tkb 0 (fun _ h=>(h.blk 0 rfl).c2) ?_;refine tkb 2 (fun _ h=>(h.blk 1 rfl).c2) ?_;refine tkb 3 (fun _ h=>(h.blk 4 rfl).c2) ?_;refine tkb 5 (fun _ h=>(h.blk 0 rfl).c2) ?_;refine tkb 6 (fun _ h=>(h.blk 1 rfl).c2) ?_;refine tkb 8 (fun _ h=>(h.blk 4 rfl).c2) ?_
  repeat' first
   | (have hx:=hC1;clear hx;go_simp;refine (HM1.out _).mono ?_;rintro e wk ⟨rfl,hb0⟩;go_wp2_with fail;refine hC1.out _ _ (hHeld.keep hb0) (fun _=>?_);clear hC1 KK hHeld;rename_i hHeld;(try simp only [Act.put,lay]);(try replace B_j10:=B_j10.keep hb0);clear hb0;have mk1:=True.intro)
   | (have hx:=hC4;clear hx;go_simp;refine (HD3.out _).mono ?_;rintro e wk ⟨rfl,hb1⟩;go_wp2_with fail;refine hC4.out _ _ (hHeld.keep hb1) (fun _=>?_);clear hC4 KK hHeld;rename_i hHeld;(try simp only [Act.put,lay]);(try replace B_j10:=B_j10.keep hb1);clear hb1;have mk4:=True.intro)
   | (have hx:=hC7;clear hx;go_simp;refine (HM2.out _).mono ?_;rintro e wk ⟨rfl,hb2⟩;go_wp2_with fail;refine hC7.out _ _ (hHeld.keep hb2) (fun _=>?_);clear hC7 KK hHeld;rename_i hHeld;(try simp only [Act.put,lay]);(try replace B_j10:=B_j10.keep hb2);clear hb2;have mk7:=True.intro)
   | (have hx:=hC9;clear hx;go_simp;refine (HD4.out _).mono ?_;rintro e wk ⟨rfl,hb3⟩;go_wp2_with fail;refine hC9.out _ _ (hHeld.keep hb3) (fun _=>?_);clear hC9 KK hHeld;rename_i hHeld;(try simp only [Act.put,lay]);(try replace B_j10:=B_j10.keep hb3);clear hb3;have mk9:=True.intro)
   | (have hx:=hC10;clear hx;go_simp;refine (HU2.out _).mono ?_;rintro e wk ⟨rfl,hb4⟩;go_wp2_with fail;refine hC10.out _ _ (hHeld.keep hb4) (fun _=>?_);clear hC10 KK hHeld;rename_i hHeld;(try simp only [Act.put,lay]);(try replace B_j10:=B_j10.keep hb4);clear hb4;have mk10:=True.intro)
   | (have hx:=hA11;clear hx;go_simp;have hl_j10:=hHeld.lts;refine hA11.out _ _ (hHeld.alloc _) (fun _=>?_);clear hA11 KK hHeld;rename_i hHeld;(try simp only [Act.put,lay]);generalize hwn:World.alloc wk _=wn at hHeld ⊢;have B_j10:=Blk.newE hwn;simp only [List.mem_cons,List.not_mem_nil,or_false,forall_eq_or_imp,forall_eq,false_imp_iff,implies_true,and_true] at hl_j10;clear hwn;generalize hg:wk.heap.size=j10 at B_j10 hl_j10 ⊢;clear hg;obtain⟨wk,rfl⟩:∃ X,X=wn:=⟨_,rfl⟩;have mk11:=True.intro)
   | (have hx:=hS12;clear hx;have qz0:=B_j10.ce 0 rfl;have fz0:=B_j10.frozen 0;have qz1:=B_j10.ce 1 rfl;have fz1:=B_j10.frozen 1;go_simp;have hsx:=hHeld.far [.float .f64 p6,.float .f64 q6] 0 (g:=j10) (by omega) (by simp<;>omega) (by simp<;>omega);generalize hwn:sets wk j10 0 _=wn at hsx;refine hS12.out _ _ (by have e:=hwn;simp only [sets,Nat.reduceAdd] at e;rw [e];exact hsx) (fun _=>?_);clear hS12 KK hHeld hsx;rename_i hHeld;(try simp only [Act.put,lay]);replace B_j10:=B_j10.setsE hwn;simp only [laid,lay,Nat.reduceAdd] at B_j10;simp only [sets,Nat.reduceAdd] at hwn;rw [hwn] at hHeld ⊢;clear hwn qz0 fz0 qz1 fz1;obtain⟨wk,rfl⟩:∃ X,X=wn:=⟨_,rfl⟩;have mk12:=True.intro)
   | (have hx:=mk1;have hx:=mk4;have hx:=mk7;have hx:=mk9;have hx:=mk10;have hx:=mk11;have hx:=mk12;refine wpAnyH_done (by kernel_rfl) ?_ _;clear hx mk1 mk4 mk7 mk9 mk10 mk11 mk12;go_wp2_with fail;go_meet;exact⟨j10,rfl,⟨by omega,by omega,by omega⟩,hHeld.put B_j10⟩)
   | (have hx:=mk1;have hx:=mk4;have hx:=mk7;have hx:=mk9;have hx:=mk10;have hx:=mk11;refine rdy 12 (fun KK hS12=>?_))
   | (have hx:=mk1;have hx:=mk4;have hx:=mk7;have hx:=mk9;have hx:=mk11;refine rdy 10 (fun KK hC10=>?_))
   | (have hx:=mk1;have hx:=mk4;have hx:=mk7;have hx:=mk9;have hx:=mk10;refine rdy 11 (fun KK hA11=>?_))
   | (have hx:=mk1;have hx:=mk4;have hx:=mk7;have hx:=mk11;refine rdy 9 (fun KK hC9=>?_))
   | (have hx:=mk1;have hx:=mk4;have hx:=mk7;have hx:=mk9;refine rd2 10 11 (fun KK hC10=>?_) (fun KK hA11=>?_))
   | (have hx:=mk1;have hx:=mk4;have hx:=mk11;refine rdy 7 (fun KK hC7=>?_))
   | (have hx:=mk1;have hx:=mk4;have hx:=mk7;refine rd2 9 11 (fun KK hC9=>?_) (fun KK hA11=>?_))
   | (have hx:=mk1;have hx:=mk11;refine rdy 4 (fun KK hC4=>?_))
   | (have hx:=mk1;have hx:=mk4;refine rd2 7 11 (fun KK hC7=>?_) (fun KK hA11=>?_))
   | (have hx:=mk11;refine rdy 1 (fun KK hC1=>?_))
   | (have hx:=mk1;refine rd2 4 11 (fun KK hC4=>?_) (fun KK hA11=>?_))
   | (refine rd2 1 11 (fun KK hC1=>?_) (fun KK hA11=>?_))
 case rest=>
 obtain⟨j10,rfl,hgs_j10,hcl⟩:=hcut;rename World=>wx;clear LL HD3 HD4 HU2;have LL:=Hd hcl;clear hcl;go_wp2_with fail;replace LL:=Hd (LL.out.loose3 rfl);refine regL LL (fun hHeld=>?_);clear LL;generalize World.drew _=wk at hHeld  ⊢;refine tkb 0 (fun _ h=>(h.blk 4 rfl).c2) ?_;refine tkb 1 (fun _ h=>(h.blk 5 rfl).c2) ?_;refine rdy 2 (fun KK hKK=>?_);go_simp;refine cs (HM4.out _) ?_;clear hKK KK hHeld;intro wk hb1 hHeld;clear hb1;refine rdy 3 (fun KK hKK=>?_);go_simp;refine cs (HU3.out _) ?_;clear hKK KK hHeld;intro wk hb2 hHeld;clear hb2;refine rdy 4 (fun KK hKK=>?_);obtain⟨ha0,hf0,ha1,hf1⟩:=(hHeld.has 0 rfl).sf2;go_simp;have HS_0:=(hHeld.has 0 rfl).laid [.float .f64 p8,.float .f64 q8] rfl;refine hKK.out _ _ (hHeld.over 0 rfl [.float .f64 p8,.float .f64 q8] rfl rfl (by first | omega | exact hHeld.le_of 0 rfl) (by simp<;>omega) (by simp<;>omega)) (fun _=>?_);clear hKK KK hHeld;rename_i hHeld;(try simp only [Act.put,lay]);refine wpAnyH_done (by kernel_rfl) ?_ _;have LB:=Hd hHeld.b;clear hHeld;obtain⟨hk6_0,hk6_1⟩:=HS_0.c2;clear HS_0
 simp [sets] at hk6_0 hk6_1
 go_wp2;refine bodyPost_ret (v:=.agg #[.float .f64 p8,.float .f64 q8]) (by simp [results,Tryz.results27,go_sem,hk6_0,hk6_1]) rfl ?_
 exact⟨rfl,LB.out⟩
set_option maxRecDepth 8000 in
theorem reciprev_walk(c1 c2 x1 x2 r1 r2:Nat)(w:World)(h:∀ W,Rt 27 #[.agg #[.float .f64 4607182418800017408,.float .f64 4607182418800017408],.agg #[.float .f64 c1,.float .f64 c2],.agg #[.float .f64 x1,.float .f64 x2]] (.agg #[.float .f64 r1,.float .f64 r2]) W):
  Rt 28 #[.agg #[.float .f64 c1,.float .f64 c2],.agg #[.float .f64 x1,.float .f64 x2]] (.agg #[.float .f64 r1,.float .f64 r2]) w:=by
 have H:=Hd h;clear h;have LL:=li3 w #[.float .f64 c1,.float .f64 c2] 28 #[.float .f64 x1,.float .f64 x2] 28 #[.float .f64 0,.float .f64 0] 28
 go_enter Tryz.func28,Tryz.ntmps28
 obtain⟨q1_0,q1_1⟩:=(LL.out.blk 0 rfl).c2;obtain⟨q2_0,q2_1⟩:=(LL.out.blk 1 rfl).c2;go_wp2_with fail;refine cx (H.out _) fun wk hb=>?_;replace LL:=stL LL hb;clear hb q1_0 q1_1 q2_0 q2_1;replace LL:=Hd (LL.out.loose2 rfl);obtain⟨ha4_0,hf4_0,ha4_1,hf4_1⟩:=(LL.out.has 0 rfl).sf2;have LF:=Hd (LL.out.write [.float .f64 r1,.float .f64 r2] rfl (by omega) (by simp<;>omega) (by simp<;>omega));obtain⟨hk4_0,hk4_1⟩:=(LF.out.blk 2 rfl).c2
 simp [sets] at hk4_0 hk4_1
 clear LL;go_wp2;refine bodyPost_ret (v:=.agg #[.float .f64 r1,.float .f64 r2]) (by simp [results,Tryz.results28,go_sem,hk4_0,hk4_1]) rfl ?_
 exact⟨rfl,LF.out.b⟩
end
end Go.Proofs.YthlmlmfebpjgdaaGreatDoor
