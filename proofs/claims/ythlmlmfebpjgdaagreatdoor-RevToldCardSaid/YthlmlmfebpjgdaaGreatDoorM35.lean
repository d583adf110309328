/-
Lemmas for the statement: StepsT StepJ StepT FloorP.
-/
import Derived.Test.YthlmlmfebpjgdaaGreatDoorM34
import Derived.Test.YthlmlmfebpjgdaaGreatDoorM14
import Derived.Deep.DeepCutAuto
import Derived.Test.YthlmlmfebpjgdaaGreatDoorPAddT
import Derived.Test.YthlmlmfebpjgdaaGreatDoorPBothT
import Derived.Test.YthlmlmfebpjgdaaGreatDoorPGoA
set_option linter.unusedSimpArgs false
set_option linter.unusedVariables false
set_option maxHeartbeats 12800000
namespace Go.Proofs.YthlmlmfebpjgdaaGreatDoor
section
open Go.RowKit
attribute [local go_sem] run_store_float run_negf
def Cap(w:World)(B b:Nat):Prop:=w.cell? ⟨B,0,none⟩=some (.float .f64 b)/\B<w.heap.size
theorem Cap.below{w w':World}{B b:Nat}(h:Cap w B b)(hb:Below w.heap.size w w'):Cap w' B b:=⟨(hb.cell (p:=⟨B,0,none⟩) h.2).trans h.1,Nat.lt_of_lt_of_le h.2 hb.size⟩
theorem Cap.new(w:World)(b:Nat):Cap (w.alloc (.cells #[.float .f64 b] 26)) w.heap.size b:=⟨by simp [World.cell?_alloc_new],by simp⟩
theorem ahead_cap(b:Nat)(w:World):Calls Tryz.prog 129 #[.float .f64 b] w fun e w'=>∃ B,e=.returned (.func (.func 197) #[] #[.pointer (some ⟨B,0,none⟩)])/\Cap w' B b/\Below w.heap.size w w':=
 (ahead_any b w).mono fun _ _ ⟨h,hw⟩=>⟨_,h,hw ▸ Cap.new w b,hw ▸ below_alloc w _⟩
theorem behind_cap(b:Nat)(w:World):Calls Tryz.prog 127 #[.float .f64 b] w fun e w'=>∃ B,e=.returned (.func (.func 194) #[] #[.pointer (some ⟨B,0,none⟩)])/\Cap w' B b/\Below w.heap.size w w':=
 (behind_any b w).mono fun _ _ ⟨h,hw⟩=>⟨_,h,hw ▸ Cap.new w b,hw ▸ below_alloc w _⟩
theorem side_cap(b:Nat)(w:World):Calls Tryz.prog 122 #[.float .f64 b] w fun e w'=>∃ B,e=.returned (.func (.func 123) #[] #[.pointer (some ⟨B,0,none⟩)])/\Cap w' B b/\Below w.heap.size w w':=
 (side_any b w).mono fun _ _ ⟨h,hw⟩=>⟨_,h,hw ▸ Cap.new w b,hw ▸ below_alloc w _⟩
set_option maxRecDepth 8000 in
theorem floor_walk(b1 b2 c1 c2 r1 r2:Nat)(w:World)(hst:∀ W B0,Cap W B0 4607182418800017408->Rt 124 #[.agg #[.float .f64 b1,.float .f64 b2],.agg #[.float .f64 c1,.float .f64 c2],.func (.func 125) #[] #[],.func (.func 126) #[] #[],.func (.func 194) #[] #[.pointer (some ⟨B0,0,none⟩)]] (.agg #[.float .f64 r1,.float .f64 r2]) W):
  Rt 55 #[.agg #[.float .f64 b1,.float .f64 b2],.agg #[.float .f64 c1,.float .f64 c2]] (.agg #[.float .f64 r1,.float .f64 r2]) w:=by
 have HST:=Hd hst;clear hst;have LL:=li3 w #[.float .f64 b1,.float .f64 b2] 28 #[.float .f64 c1,.float .f64 c2] 28 #[.float .f64 0,.float .f64 0] 28;have HC0:=Hd (behind_cap 4607182418800017408)
 go_enter Tryz.func55,Tryz.ntmps55
 go_upto_region 1 with fail
 replace LL:=Hd (LL.out.loose2 rfl);refine regL LL (fun hHeld=>?_);clear LL;generalize World.drew _=wk at hHeld  ⊢;refine tkb 0 (fun _ h=>(h.blk 0 rfl).c2) ?_;refine tkb 1 (fun _ h=>(h.blk 1 rfl).c2) ?_;refine rdy 2 (fun KK hKK=>?_);go_simp;refine (HC0.out _).mono ?_;rintro e wk ⟨B0,rfl,hq0,hb0⟩;go_wp2_with fail;refine hKK.out _ _ (hHeld.keep hb0) (fun _=>?_);clear hKK KK hHeld;rename_i hHeld;(try simp only [Act.put,lay]);have HQ0:=Hd hq0;clear hq0;clear hb0;refine rdy 3 (fun KK hKK=>?_);go_simp;refine cs (HST.out _ _ HQ0.out) ?_;clear hKK KK hHeld;intro wk hb9 hHeld;(try replace HQ0:=Hd (HQ0.out.below hb9));clear hb9;refine rdy 4 (fun KK hKK=>?_);obtain⟨ha0,hf0,ha1,hf1⟩:=(hHeld.has 0 rfl).sf2;obtain⟨csx,hbx,-,hcx⟩:=hHeld.has 0 rfl;(try clear HQ0);clear hbx hcx;go_simp;have HS_0:=(hHeld.has 0 rfl).laid [.float .f64 r1,.float .f64 r2] rfl;refine hKK.out _ _ (hHeld.over 0 rfl [.float .f64 r1,.float .f64 r2] rfl rfl (by first | omega | exact hHeld.le_of 0 rfl) (by simp<;>omega) (by simp<;>omega)) (fun _=>?_);clear hKK KK hHeld;rename_i hHeld;(try simp only [Act.put,lay]);refine wpAnyH_done (by kernel_rfl) ?_ _;have LB:=Hd hHeld.b;clear hHeld;obtain⟨hk4_0,hk4_1⟩:=HS_0.c2;clear HS_0
 simp [sets] at hk4_0 hk4_1
 go_wp2;refine bodyPost_ret (v:=.agg #[.float .f64 r1,.float .f64 r2]) (by simp [results,Tryz.results55,go_sem,hk4_0,hk4_1]) rfl ?_
 exact⟨rfl,LB.out⟩
set_option maxRecDepth 8000 in
theorem ceil_walk(b1 b2 c1 c2 r1 r2:Nat)(w:World)(hst:∀ W B0,Cap W B0 4607182418800017408->Rt 124 #[.agg #[.float .f64 b1,.float .f64 b2],.agg #[.float .f64 c1,.float .f64 c2],.func (.func 128) #[] #[],.func (.func 197) #[] #[.pointer (some ⟨B0,0,none⟩)],.func (.func 126) #[] #[]] (.agg #[.float .f64 r1,.float .f64 r2]) W):
  Rt 56 #[.agg #[.float .f64 b1,.float .f64 b2],.agg #[.float .f64 c1,.float .f64 c2]] (.agg #[.float .f64 r1,.float .f64 r2]) w:=by
 have HST:=Hd hst;clear hst;have LL:=li3 w #[.float .f64 b1,.float .f64 b2] 28 #[.float .f64 c1,.float .f64 c2] 28 #[.float .f64 0,.float .f64 0] 28;have HC0:=Hd (ahead_cap 4607182418800017408)
 go_enter Tryz.func56,Tryz.ntmps56
 go_upto_region 1 with fail
 replace LL:=Hd (LL.out.loose2 rfl);refine regL LL (fun hHeld=>?_);clear LL;generalize World.drew _=wk at hHeld  ⊢;refine tkb 0 (fun _ h=>(h.blk 0 rfl).c2) ?_;refine tkb 1 (fun _ h=>(h.blk 1 rfl).c2) ?_;refine rdy 2 (fun KK hKK=>?_);go_simp;refine (HC0.out _).mono ?_;rintro e wk ⟨B0,rfl,hq0,hb0⟩;go_wp2_with fail;refine hKK.out _ _ (hHeld.keep hb0) (fun _=>?_);clear hKK KK hHeld;rename_i hHeld;(try simp only [Act.put,lay]);have HQ0:=Hd hq0;clear hq0;clear hb0;refine rdy 3 (fun KK hKK=>?_);go_simp;refine cs (HST.out _ _ HQ0.out) ?_;clear hKK KK hHeld;intro wk hb9 hHeld;(try replace HQ0:=Hd (HQ0.out.below hb9));clear hb9;refine rdy 4 (fun KK hKK=>?_);obtain⟨ha0,hf0,ha1,hf1⟩:=(hHeld.has 0 rfl).sf2;obtain⟨csx,hbx,-,hcx⟩:=hHeld.has 0 rfl;(try clear HQ0);clear hbx hcx;go_simp;have HS_0:=(hHeld.has 0 rfl).laid [.float .f64 r1,.float .f64 r2] rfl;refine hKK.out _ _ (hHeld.over 0 rfl [.float .f64 r1,.float .f64 r2] rfl rfl (by first | omega | exact hHeld.le_of 0 rfl) (by simp<;>omega) (by simp<;>omega)) (fun _=>?_);clear hKK KK hHeld;rename_i hHeld;(try simp only [Act.put,lay]);refine wpAnyH_done (by kernel_rfl) ?_ _;have LB:=Hd hHeld.b;clear hHeld;obtain⟨hk4_0,hk4_1⟩:=HS_0.c2;clear HS_0
 simp [sets] at hk4_0 hk4_1
 go_wp2;refine bodyPost_ret (v:=.agg #[.float .f64 r1,.float .f64 r2]) (by simp [results,Tryz.results56,go_sem,hk4_0,hk4_1]) rfl ?_
 exact⟨rfl,LB.out⟩
set_option maxRecDepth 8000 in
theorem trunc_walk(b1 b2 c1 c2 r1 r2:Nat)(w:World)(hst:∀ W,Rt 124 #[.agg #[.float .f64 b1,.float .f64 b2],.agg #[.float .f64 c1,.float .f64 c2],.func (.func 132) #[] #[],.func (.func 130) #[] #[],.func (.func 131) #[] #[]] (.agg #[.float .f64 r1,.float .f64 r2]) W):
  Rt 57 #[.agg #[.float .f64 b1,.float .f64 b2],.agg #[.float .f64 c1,.float .f64 c2]] (.agg #[.float .f64 r1,.float .f64 r2]) w:=by
 have HST:=Hd hst;clear hst;have LL:=li3 w #[.float .f64 b1,.float .f64 b2] 28 #[.float .f64 c1,.float .f64 c2] 28 #[.float .f64 0,.float .f64 0] 28
 go_enter Tryz.func57,Tryz.ntmps57
 obtain⟨q1_0,q1_1⟩:=(LL.out.blk 0 rfl).c2;obtain⟨q2_0,q2_1⟩:=(LL.out.blk 1 rfl).c2;go_wp2_with fail;refine cx (HST.out _) fun wk hb=>?_;replace LL:=stL LL hb;clear hb q1_0 q1_1 q2_0 q2_1;replace LL:=Hd (LL.out.loose2 rfl);obtain⟨ha4_0,hf4_0,ha4_1,hf4_1⟩:=(LL.out.has 0 rfl).sf2;have LF:=Hd (LL.out.write [.float .f64 r1,.float .f64 r2] rfl (by omega) (by simp<;>omega) (by simp<;>omega));obtain⟨hk4_0,hk4_1⟩:=(LF.out.blk 2 rfl).c2
 simp [sets] at hk4_0 hk4_1
 clear LL;go_wp2;refine bodyPost_ret (v:=.agg #[.float .f64 r1,.float .f64 r2]) (by simp [results,Tryz.results57,go_sem,hk4_0,hk4_1]) rfl ?_
 exact⟨rfl,LF.out.b⟩
set_option maxRecDepth 8000 in
theorem even_walk(b1 b2 c1 c2 r1 r2:Nat)(w:World)(hst:∀ W B0 B1,Cap W B0 4602678819172646912->Cap W B1 4602678819172646912->Rt 124 #[.agg #[.float .f64 b1,.float .f64 b2],.agg #[.float .f64 c1,.float .f64 c2],.func (.func 135) #[] #[],.func (.func 197) #[] #[.pointer (some ⟨B0,0,none⟩)],.func (.func 194) #[] #[.pointer (some ⟨B1,0,none⟩)]] (.agg #[.float .f64 r1,.float .f64 r2]) W):
  Rt 59 #[.agg #[.float .f64 b1,.float .f64 b2],.agg #[.float .f64 c1,.float .f64 c2]] (.agg #[.float .f64 r1,.float .f64 r2]) w:=by
 have HST:=Hd hst;clear hst;have LL:=li3 w #[.float .f64 b1,.float .f64 b2] 28 #[.float .f64 c1,.float .f64 c2] 28 #[.float .f64 0,.float .f64 0] 28;have HC0:=Hd (ahead_cap 4602678819172646912);have HC1:=Hd (behind_cap 4602678819172646912)
 go_enter Tryz.func59,Tryz.ntmps59
 go_upto_region 1 with fail
 replace LL:=Hd (LL.out.loose2 rfl);refine regL LL (fun hHeld=>?_);clear LL;generalize World.drew _=wk at hHeld  ⊢;refine tkb 0 (fun _ h=>(h.blk 0 rfl).c2) ?_;refine tkb 1 (fun _ h=>(h.blk 1 rfl).c2) ?_;refine rdy 2 (fun KK hKK=>?_);go_simp;refine (HC0.out _).mono ?_;rintro e wk ⟨B0,rfl,hq0,hb0⟩;go_wp2_with fail;refine hKK.out _ _ (hHeld.keep hb0) (fun _=>?_);clear hKK KK hHeld;rename_i hHeld;(try simp only [Act.put,lay]);(try replace HQ1:=Hd (HQ1.out.below hb0));have HQ0:=Hd hq0;clear hq0;clear hb0;refine rdy 3 (fun KK hKK=>?_);go_simp;refine (HC1.out _).mono ?_;rintro e wk ⟨B1,rfl,hq1,hb1⟩;go_wp2_with fail;refine hKK.out _ _ (hHeld.keep hb1) (fun _=>?_);clear hKK KK hHeld;rename_i hHeld;(try simp only [Act.put,lay]);(try replace HQ0:=Hd (HQ0.out.below hb1));have HQ1:=Hd hq1;clear hq1;clear hb1;refine rdy 4 (fun KK hKK=>?_);go_simp;refine cs (HST.out _ _ _ HQ0.out HQ1.out) ?_;clear hKK KK hHeld;intro wk hb9 hHeld;(try replace HQ0:=Hd (HQ0.out.below hb9));(try replace HQ1:=Hd (HQ1.out.below hb9));clear hb9;refine rdy 5 (fun KK hKK=>?_);obtain⟨ha0,hf0,ha1,hf1⟩:=(hHeld.has 0 rfl).sf2;obtain⟨csx,hbx,-,hcx⟩:=hHeld.has 0 rfl;(try clear HQ0);(try clear HQ1);clear hbx hcx;go_simp;have HS_0:=(hHeld.has 0 rfl).laid [.float .f64 r1,.float .f64 r2] rfl;refine hKK.out _ _ (hHeld.over 0 rfl [.float .f64 r1,.float .f64 r2] rfl rfl (by first | omega | exact hHeld.le_of 0 rfl) (by simp<;>omega) (by simp<;>omega)) (fun _=>?_);clear hKK KK hHeld;rename_i hHeld
 (try simp only [Act.put,lay]);refine wpAnyH_done (by kernel_rfl) ?_ _;have LB:=Hd hHeld.b;clear hHeld;obtain⟨hk4_0,hk4_1⟩:=HS_0.c2;clear HS_0
 simp [sets] at hk4_0 hk4_1
 go_wp2;refine bodyPost_ret (v:=.agg #[.float .f64 r1,.float .f64 r2]) (by simp [results,Tryz.results59,go_sem,hk4_0,hk4_1]) rfl ?_
 exact⟨rfl,LB.out⟩
set_option maxRecDepth 8000 in
theorem away_walk(b1 b2 c1 c2 r1 r2:Nat)(w:World)(hst:∀ W B0 B1,Cap W B0 4602678819172646912->Cap W B1 4602678819172646912->Rt 124 #[.agg #[.float .f64 b1,.float .f64 b2],.agg #[.float .f64 c1,.float .f64 c2],.func (.func 136) #[] #[],.func (.func 197) #[] #[.pointer (some ⟨B0,0,none⟩)],.func (.func 194) #[] #[.pointer (some ⟨B1,0,none⟩)]] (.agg #[.float .f64 r1,.float .f64 r2]) W):
  Rt 60 #[.agg #[.float .f64 b1,.float .f64 b2],.agg #[.float .f64 c1,.float .f64 c2]] (.agg #[.float .f64 r1,.float .f64 r2]) w:=by
 have HST:=Hd hst;clear hst;have LL:=li3 w #[.float .f64 b1,.float .f64 b2] 28 #[.float .f64 c1,.float .f64 c2] 28 #[.float .f64 0,.float .f64 0] 28;have HC0:=Hd (ahead_cap 4602678819172646912);have HC1:=Hd (behind_cap 4602678819172646912)
 go_enter Tryz.func60,Tryz.ntmps60
 go_upto_region 1 with fail
 replace LL:=Hd (LL.out.loose2 rfl);refine regL LL (fun hHeld=>?_);clear LL;generalize World.drew _=wk at hHeld  ⊢;refine tkb 0 (fun _ h=>(h.blk 0 rfl).c2) ?_;refine tkb 1 (fun _ h=>(h.blk 1 rfl).c2) ?_;refine rdy 2 (fun KK hKK=>?_);go_simp;refine (HC0.out _).mono ?_;rintro e wk ⟨B0,rfl,hq0,hb0⟩;go_wp2_with fail;refine hKK.out _ _ (hHeld.keep hb0) (fun _=>?_);clear hKK KK hHeld;rename_i hHeld;(try simp only [Act.put,lay]);(try replace HQ1:=Hd (HQ1.out.below hb0));have HQ0:=Hd hq0;clear hq0;clear hb0;refine rdy 3 (fun KK hKK=>?_);go_simp;refine (HC1.out _).mono ?_;rintro e wk ⟨B1,rfl,hq1,hb1⟩;go_wp2_with fail;refine hKK.out _ _ (hHeld.keep hb1) (fun _=>?_);clear hKK KK hHeld;rename_i hHeld;(try simp only [Act.put,lay]);(try replace HQ0:=Hd (HQ0.out.below hb1));have HQ1:=Hd hq1;clear hq1;clear hb1;refine rdy 4 (fun KK hKK=>?_);go_simp;refine cs (HST.out _ _ _ HQ0.out HQ1.out) ?_;clear hKK KK hHeld;intro wk hb9 hHeld;(try replace HQ0:=Hd (HQ0.out.below hb9));(try replace HQ1:=Hd (HQ1.out.below hb9));clear hb9;refine rdy 5 (fun KK hKK=>?_);obtain⟨ha0,hf0,ha1,hf1⟩:=(hHeld.has 0 rfl).sf2;obtain⟨csx,hbx,-,hcx⟩:=hHeld.has 0 rfl;(try clear HQ0);(try clear HQ1);clear hbx hcx;go_simp;have HS_0:=(hHeld.has 0 rfl).laid [.float .f64 r1,.float .f64 r2] rfl;refine hKK.out _ _ (hHeld.over 0 rfl [.float .f64 r1,.float .f64 r2] rfl rfl (by first | omega | exact hHeld.le_of 0 rfl) (by simp<;>omega) (by simp<;>omega)) (fun _=>?_);clear hKK KK hHeld;rename_i hHeld
 (try simp only [Act.put,lay]);refine wpAnyH_done (by kernel_rfl) ?_ _;have LB:=Hd hHeld.b;clear hHeld;obtain⟨hk4_0,hk4_1⟩:=HS_0.c2;clear HS_0
 simp [sets] at hk4_0 hk4_1
 go_wp2;refine bodyPost_ret (v:=.agg #[.float .f64 r1,.float .f64 r2]) (by simp [results,Tryz.results60,go_sem,hk4_0,hk4_1]) rfl ?_
 exact⟨rfl,LB.out⟩
set_option maxRecDepth 8000 in
theorem sign_walk(b1 b2 c1 c2 i1 i2 r1 r2:Nat)(w:World)(hi:∀ W,Rt 62 #[.agg #[.float .f64 b1,.float .f64 b2],.agg #[.float .f64 13830554455654793216,.float .f64 4607182418800017408]] (.agg #[.float .f64 i1,.float .f64 i2]) W)(hst:∀ W B0 B1,Cap W B0 13830554455654793216->Cap W B1 4607182418800017408->Rt 124 #[.agg #[.float .f64 i1,.float .f64 i2],.agg #[.float .f64 c1,.float .f64 c2],.func (.func 121) #[] #[],.func (.func 123) #[] #[.pointer (some ⟨B0,0,none⟩)],.func (.func 123) #[] #[.pointer (some ⟨B1,0,none⟩)]] (.agg #[.float .f64 r1,.float .f64 r2]) W):
  Rt 54 #[.agg #[.float .f64 b1,.float .f64 b2],.agg #[.float .f64 c1,.float .f64 c2]] (.agg #[.float .f64 r1,.float .f64 r2]) w:=by
 have HI:=Hd hi;have HST:=Hd hst;clear hi hst;have LL:=li3 w #[.float .f64 b1,.float .f64 b2] 28 #[.float .f64 c1,.float .f64 c2] 28 #[.float .f64 0,.float .f64 0] 28;have HC0:=Hd (side_cap 13830554455654793216);have HC1:=Hd (side_cap 4607182418800017408)
 go_enter Tryz.func54,Tryz.ntmps54
 go_upto_region 3 with fail
 replace LL:=Hd (LL.out.loose2 rfl);refine regL LL (fun hHeld=>?_);clear LL;generalize World.drew _=wk at hHeld  ⊢;refine tkb 0 (fun _ h=>(h.blk 0 rfl).c2) ?_;refine tks 1 ?_;refine tkb 3 (fun _ h=>(h.blk 1 rfl).c2) ?_;refine tks 4 ?_;refine tks 5 ?_;refine tks 7 ?_;refine rdy 2 (fun KK hKK=>?_);go_simp;refine cs (HI.out _) ?_;clear hKK KK hHeld;intro wk hb5 hHeld;(try replace HQ0:=Hd (HQ0.out.below hb5));(try replace HQ1:=Hd (HQ1.out.below hb5));clear hb5;refine rdy 6 (fun KK hKK=>?_);go_simp;refine (HC0.out _).mono ?_;rintro e wk ⟨B0,rfl,hq0,hb0⟩;go_wp2_with fail;refine hKK.out _ _ (hHeld.keep hb0) (fun _=>?_);clear hKK KK hHeld;rename_i hHeld;(try simp only [Act.put,lay]);(try replace HQ1:=Hd (HQ1.out.below hb0));have HQ0:=Hd hq0;clear hq0;clear hb0;refine rdy 8 (fun KK hKK=>?_);go_simp;refine (HC1.out _).mono ?_;rintro e wk ⟨B1,rfl,hq1,hb1⟩;go_wp2_with fail;refine hKK.out _ _ (hHeld.keep hb1) (fun _=>?_);clear hKK KK hHeld;rename_i hHeld;(try simp only [Act.put,lay]);(try replace HQ0:=Hd (HQ0.out.below hb1));have HQ1:=Hd hq1;clear hq1;clear hb1;refine rdy 9 (fun KK hKK=>?_);go_simp;refine cs (HST.out _ _ _ HQ0.out HQ1.out) ?_;clear hKK KK hHeld;intro wk hb9 hHeld;(try replace HQ0:=Hd (HQ0.out.below hb9));(try replace HQ1:=Hd (HQ1.out.below hb9));clear hb9;refine rdy 10 (fun KK hKK=>?_);obtain⟨ha0,hf0,ha1,hf1⟩:=(hHeld.has 0 rfl).sf2;obtain⟨csx,hbx,-,hcx⟩:=hHeld.has 0 rfl;(try clear HQ0);(try clear HQ1);clear hbx hcx;go_simp;have HS_0:=(hHeld.has 0 rfl).laid [.float .f64 r1,.float .f64 r2] rfl
 refine hKK.out _ _ (hHeld.over 0 rfl [.float .f64 r1,.float .f64 r2] rfl rfl (by first | omega | exact hHeld.le_of 0 rfl) (by simp<;>omega) (by simp<;>omega)) (fun _=>?_);clear hKK KK hHeld;rename_i hHeld;(try simp only [Act.put,lay]);refine wpAnyH_done (by kernel_rfl) ?_ _;have LB:=Hd hHeld.b;clear hHeld;obtain⟨hk4_0,hk4_1⟩:=HS_0.c2;clear HS_0
 simp [sets] at hk4_0 hk4_1
 go_wp2;refine bodyPost_ret (v:=.agg #[.float .f64 r1,.float .f64 r2]) (by simp [results,Tryz.results54,go_sem,hk4_0,hk4_1]) rfl ?_
 exact⟨rfl,LB.out⟩
end
def FL(w:Nat)(i:Int):Int:=dn (es i) (bL w (ex i).floor)
def TU(w:Nat)(i:Int):Int:=up (es i) (bU w (ex i).floor)
def stq(w:Nat)(c x:Int × Int):Int × Int:=stp (wh w) (FL w) (TU w) c x
theorem FLc(w:Nat){i:Int}(h0:-(M:Int)<=i)(h1:i<M):(wh 2 i=-(M:Int)/\FL w (wh 2 i)=-(M:Int))\/(fl (wh 2 i)=((fl i).ceil:Rat)/\-(M:Int)<wh 2 i/\wh 2 i<M/\FL w (wh 2 i)=rndI (-1) (bL w (fl i).ceil)):=by
 have hM:=M_val
 by_cases h:i=-(M:Int)
 ·subst h
  left
  rw [wh_min];refine⟨rfl,?_⟩;unfold FL dn;rw [es_min,if_neg (by omega)];omega
 ·right
  obtain⟨b1,b2,b3⟩:=wh_fin (w:=2) (by omega) (i:=i) (by omega) h1;refine⟨b1,b2,b3,?_⟩;unfold FL;rw [es_mid b2 b3,ex_mid b2 b3,b1,Rat.floor_intCast];rfl
theorem TUc(w:Nat){i:Int}(h0:-(M:Int)<i)(h1:i<=M):(wh 1 i=M/\TU w (wh 1 i)=M)\/(fl (wh 1 i)=((fl i).floor:Rat)/\-(M:Int)<wh 1 i/\wh 1 i<M/\TU w (wh 1 i)=rndI 1 (bU w (fl i).floor)):=by
 have hM:=M_val
 by_cases h:i=M
 ·subst h
  left
  rw [wh_max];refine⟨rfl,?_⟩;unfold TU up;rw [es_max,if_neg (by omega)];omega
 ·right
  obtain⟨b1,b2,b3⟩:=wh_fin (w:=1) (by omega) (i:=i) h0 (by omega);refine⟨b1,b2,b3,?_⟩;unfold TU;rw [es_mid b2 b3,ex_mid b2 b3,b1,Rat.floor_intCast];rfl
theorem FL_rng(w:Nat){i:Int}(h0:-(M:Int)<=i)(h1:i<M):-(M:Int)<=FL w (wh 2 i)/\FL w (wh 2 i)<=M:=by
 have hM:=M_val
 rcases FLc w h0 h1 with ⟨-,h⟩ | ⟨-,-,-,h⟩
 ·omega
 ·have:=rndI_down (bL w (fl i).ceil);omega
theorem TU_rng(w:Nat){i:Int}(h0:-(M:Int)<i)(h1:i<=M):-(M:Int)<=TU w (wh 1 i)/\TU w (wh 1 i)<=M:=by
 have hM:=M_val
 rcases TUc w h0 h1 with ⟨-,h⟩ | ⟨-,-,-,h⟩
 ·omega
 ·have:=rndI_up (bU w (fl i).floor);omega
section
open Go.RowKit
attribute [local go_sem] run_store_float run_negf
set_option maxRecDepth 8000 in
theorem step_none(kV kF kT:FuncId)(cF cT:Array Value)(b1 b2 c1 c2 A1 A2 x1 x2:Nat)(d1 d2:Bool)(w:World)(t1:∀ W,Rt 102 #[.agg #[.float .f64 b1,.float .f64 b2]] (.agg #[.float .f64 A1,.float .f64 A2]) W)(m1:Em d1 A1 A2)(t2:∀ W,Rt 102 #[.agg #[.float .f64 c1,.float .f64 c2]] (.agg #[.float .f64 x1,.float .f64 x2]) W)(m2:Em d2 x1 x2)(hnn:(d1 || d2)=true):
  Rt 124 #[.agg #[.float .f64 b1,.float .f64 b2],.agg #[.float .f64 c1,.float .f64 c2],.func (.func kV) #[] #[],.func (.func kF) #[] cF,.func (.func kT) #[] cT] (.agg #[.float .f64 9218868437227405312,.float .f64 18442240474082181120]) w:=by
 have HE:=Hd emptyf;have HRD:=readL32 w #[.float .f64 0,.float .f64 0] 28 t1 m1 t2 m2 hnn;clear t1 m1 t2 m2 hnn
 go_enter Tryz.func124,Tryz.ntmps124
 go_wp2_with fail;refine HRD.out.mono ?_;rintro e wk ⟨rfl,hl⟩;have LL:=Hd hl;clear hl HRD;go_wp2_with fail;refine cx (HE.out _) fun wk hb=>?_;replace LL:=stL LL hb;clear hb;replace LL:=Hd (LL.out.loose2 rfl);obtain⟨ha10_0,hf10_0,ha10_1,hf10_1⟩:=(LL.out.has 0 rfl).sf2;have LF:=Hd (LL.out.write [.float .f64 9218868437227405312,.float .f64 18442240474082181120] rfl (by omega) (by simp<;>omega) (by simp<;>omega));obtain⟨hk10_0,hk10_1⟩:=(LF.out.blk 2 rfl).c2
 simp [sets] at hk10_0 hk10_1
 clear LL;go_wp2;refine bodyPost_ret (v:=.agg #[.float .f64 9218868437227405312,.float .f64 18442240474082181120]) (by simp [results,Tryz.results124,go_sem,hk10_0,hk10_1]) rfl ?_
 exact⟨rfl,LF.out.b⟩
set_option maxRecDepth 8000 in
theorem step_far(kV kF kT:FuncId)(cF cT:Array Value)(b1 b2 c1 c2 A1 A2 x1 x2 u1 u2 p q:Nat)(d1 d2:Bool)(w:World)(t1:∀ W,Rt 102 #[.agg #[.float .f64 b1,.float .f64 b2]] (.agg #[.float .f64 A1,.float .f64 A2]) W)(m1:Em d1 A1 A2)(t2:∀ W,Rt 102 #[.agg #[.float .f64 c1,.float .f64 c2]] (.agg #[.float .f64 x1,.float .f64 x2]) W)(m2:Em d2 x1 x2)(hnn:(d1 || d2)=false)(hc:∀ W,Rt 128 #[.float .f64 A1] (.float .f64 u1) W)(hp1:∀ W,Rt 191 #[.float .f64 u1] (.float .f64 p) W)(hf:∀ W,Rt 125 #[.float .f64 A2] (.float .f64 u2) W)(hp2:∀ W,Rt 191 #[.float .f64 u2] (.float .f64 q) W)(ho:FloatKind.f64.format.order p q=some .gt):
  Rt 124 #[.agg #[.float .f64 b1,.float .f64 b2],.agg #[.float .f64 c1,.float .f64 c2],.func (.func kV) #[] #[],.func (.func kF) #[] cF,.func (.func kT) #[] cT] (.agg #[.float .f64 9218868437227405312,.float .f64 18442240474082181120]) w:=by
 have HE:=Hd emptyf;have HC:=Hd hc;have HP1:=Hd hp1;have HF:=Hd hf;have HP2:=Hd hp2;clear hc hp1 hf hp2;have HRD:=readL32 w #[.float .f64 0,.float .f64 0] 28 t1 m1 t2 m2 hnn;clear t1 m1 t2 m2 hnn
 go_enter Tryz.func124,Tryz.ntmps124
 go_wp2_with fail;refine HRD.out.mono ?_;rintro e wk ⟨rfl,hl⟩;have LL:=Hd hl;clear hl HRD
 go_upto_region 3 with fail
 refine regL LL (fun hHeld=>?_);clear LL;generalize World.drew _=wk at hHeld  ⊢;refine tks 0 ?_;refine tkb 1 (fun _ h=>(h.blk 0 rfl).c2) ?_;refine tks 4 ?_;refine tkb 5 (fun _ h=>(h.blk 0 rfl).c2) ?_;refine rdy 2 (fun KK hKK=>?_);go_simp;refine cs (HC.out _) ?_;clear hKK KK hHeld;intro wk hb1 hHeld;clear hb1;refine rdy 3 (fun KK hKK=>?_);go_simp;refine cs (HP1.out _) ?_;clear hKK KK hHeld;intro wk hb2 hHeld;clear hb2;refine rdy 6 (fun KK hKK=>?_);go_simp;refine cs (HF.out _) ?_;clear hKK KK hHeld;intro wk hb3 hHeld;clear hb3;refine rdy 7 (fun KK hKK=>?_);go_simp;refine cs (HP2.out _) ?_;clear hKK KK hHeld;intro wk hb4 hHeld;clear hb4;refine tks 8 ?_;refine tks 9 ?_;refine wpAnyH_done (by kernel_rfl) ?_ _;have LL:=Hd hHeld;clear hHeld;go_wp2_with fail;refine cx (HE.out _) fun wk hb=>?_;replace LL:=stL LL hb;clear hb ho;replace LL:=Hd (LL.out.loose2 rfl);obtain⟨ha10_0,hf10_0,ha10_1,hf10_1⟩:=(LL.out.has 0 rfl).sf2;have LF:=Hd (LL.out.write [.float .f64 9218868437227405312,.float .f64 18442240474082181120] rfl (by omega) (by simp<;>omega) (by simp<;>omega));obtain⟨hk10_0,hk10_1⟩:=(LF.out.blk 2 rfl).c2
 simp [sets] at hk10_0 hk10_1
 clear LL;go_wp2;refine bodyPost_ret (v:=.agg #[.float .f64 9218868437227405312,.float .f64 18442240474082181120]) (by simp [results,Tryz.results124,go_sem,hk10_0,hk10_1]) rfl ?_
 exact⟨rfl,LF.out.b⟩
set_option maxRecDepth 8000 in
theorem step_low(kV kF kT:FuncId)(cF cT:Array Value)(eV:∀ (args:Array Value) (W:World),(callFunc kV args).run Tryz.prog W=.ok (.enter kV args) W)(b1 b2 c1 c2 A1 A2 x1 x2 u1 u2 p q:Nat)(d1 d2:Bool)(w:World)(t1:∀ W,Rt 102 #[.agg #[.float .f64 b1,.float .f64 b2]] (.agg #[.float .f64 A1,.float .f64 A2]) W)(m1:Em d1 A1 A2)(t2:∀ W,Rt 102 #[.agg #[.float .f64 c1,.float .f64 c2]] (.agg #[.float .f64 x1,.float .f64 x2]) W)(m2:Em d2 x1 x2)(hnn:(d1 || d2)=false)(hc:∀ W,Rt 128 #[.float .f64 A1] (.float .f64 u1) W)(hp1:∀ W,Rt 191 #[.float .f64 u1] (.float .f64 p) W)(hf:∀ W,Rt 125 #[.float .f64 A2] (.float .f64 u2) W)(hp2:∀ W,Rt 191 #[.float .f64 u2] (.float .f64 q) W)(v1:Nat)(ho:(FloatKind.f64.format.order p q == some Ordering.gt)=false)(hv1:∀ W,Below w.heap.size w W->Calls Tryz.prog kV #[.float .f64 x1] W fun e w'=>e=.returned (.float .f64 v1)/\Below W.heap.size W w')(ho2:FloatKind.f64.format.order v1 q=some .gt):
  Rt 124 #[.agg #[.float .f64 b1,.float .f64 b2],.agg #[.float .f64 c1,.float .f64 c2],.func (.func kV) #[] #[],.func (.func kF) #[] cF,.func (.func kT) #[] cT] (.agg #[.float .f64 9218868437227405312,.float .f64 18442240474082181120]) w:=by
 have HE:=Hd emptyf;have HC:=Hd hc;have HP1:=Hd hp1;have HF:=Hd hf;have HP2:=Hd hp2;have HV1:=Hd hv1;clear hc hp1 hf hp2 hv1;have HRD:=readL32 w #[.float .f64 0,.float .f64 0] 28 t1 m1 t2 m2 hnn;clear t1 m1 t2 m2 hnn
 go_enter Tryz.func124,Tryz.ntmps124
 go_wp2_with fail;refine HRD.out.mono ?_;rintro e wk ⟨rfl,hl⟩;have LL:=Hd hl;clear hl HRD
 go_upto_region 3 with fail
 refine regL LL (fun hHeld=>?_);clear LL;generalize World.drew _=wk at hHeld  ⊢;refine tks 0 ?_;refine tkb 1 (fun _ h=>(h.blk 0 rfl).c2) ?_;refine tks 4 ?_;refine tkb 5 (fun _ h=>(h.blk 0 rfl).c2) ?_;refine rdy 2 (fun KK hKK=>?_);go_simp;refine cs (HC.out _) ?_;clear hKK KK hHeld;intro wk hb1 hHeld;clear hb1;refine rdy 3 (fun KK hKK=>?_);go_simp;refine cs (HP1.out _) ?_;clear hKK KK hHeld;intro wk hb2 hHeld;clear hb2;refine rdy 6 (fun KK hKK=>?_);go_simp;refine cs (HF.out _) ?_;clear hKK KK hHeld;intro wk hb3 hHeld;clear hb3;refine rdy 7 (fun KK hKK=>?_);go_simp;refine cs (HP2.out _) ?_;clear hKK KK hHeld;intro wk hb4 hHeld;clear hb4;refine tks 8 ?_;refine tks 9 ?_;refine wpAnyH_done (by kernel_rfl) ?_ _;have LL:=Hd hHeld;clear hHeld;obtain⟨q1_0,q1_1⟩:=(LL.out.blk 1 rfl).c2;go_wp2_with fail;refine cx (HV1.out _ LL.out.b) fun wk hb=>?_;replace LL:=stL LL hb;clear hb q1_0 q1_1 ho HV1;go_wp2_with fail;refine cx (HE.out _) fun wk hb=>?_;replace LL:=stL LL hb;clear hb ho2;replace LL:=Hd (LL.out.loose2 rfl);obtain⟨ha10_0,hf10_0,ha10_1,hf10_1⟩:=(LL.out.has 0 rfl).sf2;have LF:=Hd (LL.out.write [.float .f64 9218868437227405312,.float .f64 18442240474082181120] rfl (by omega) (by simp<;>omega) (by simp<;>omega));obtain⟨hk10_0,hk10_1⟩:=(LF.out.blk 2 rfl).c2
 simp [sets] at hk10_0 hk10_1
 clear LL;go_wp2;refine bodyPost_ret (v:=.agg #[.float .f64 9218868437227405312,.float .f64 18442240474082181120]) (by simp [results,Tryz.results124,go_sem,hk10_0,hk10_1]) rfl ?_
 exact⟨rfl,LF.out.b⟩
set_option maxRecDepth 8000 in
theorem step_high(kV kF kT:FuncId)(cF cT:Array Value)(eV:∀ (args:Array Value) (W:World),(callFunc kV args).run Tryz.prog W=.ok (.enter kV args) W)(b1 b2 c1 c2 A1 A2 x1 x2 u1 u2 p q:Nat)(d1 d2:Bool)(w:World)(t1:∀ W,Rt 102 #[.agg #[.float .f64 b1,.float .f64 b2]] (.agg #[.float .f64 A1,.float .f64 A2]) W)(m1:Em d1 A1 A2)(t2:∀ W,Rt 102 #[.agg #[.float .f64 c1,.float .f64 c2]] (.agg #[.float .f64 x1,.float .f64 x2]) W)(m2:Em d2 x1 x2)(hnn:(d1 || d2)=false)(hc:∀ W,Rt 128 #[.float .f64 A1] (.float .f64 u1) W)(hp1:∀ W,Rt 191 #[.float .f64 u1] (.float .f64 p) W)(hf:∀ W,Rt 125 #[.float .f64 A2] (.float .f64 u2) W)(hp2:∀ W,Rt 191 #[.float .f64 u2] (.float .f64 q) W)(v1 v2:Nat)(ho:(FloatKind.f64.format.order p q == some Ordering.gt)=false)(hv1:∀ W,Below w.heap.size w W->Calls Tryz.prog kV #[.float .f64 x1] W fun e w'=>e=.returned (.float .f64 v1)/\Below W.heap.size W w')(ho2:(FloatKind.f64.format.order v1 q == some Ordering.gt)=false)(hv2:∀ W,Below w.heap.size w W->Calls Tryz.prog kV #[.float .f64 x2] W fun e w'=>e=.returned (.float .f64 v2)/\Below W.heap.size W w')(ho3:FloatKind.f64.format.order v2 p=some .lt):
  Rt 124 #[.agg #[.float .f64 b1,.float .f64 b2],.agg #[.float .f64 c1,.float .f64 c2],.func (.func kV) #[] #[],.func (.func kF) #[] cF,.func (.func kT) #[] cT] (.agg #[.float .f64 9218868437227405312,.float .f64 18442240474082181120]) w:=by
 have HE:=Hd emptyf;have HC:=Hd hc;have HP1:=Hd hp1;have HF:=Hd hf;have HP2:=Hd hp2;have HV1:=Hd hv1;have HV2:=Hd hv2;clear hc hp1 hf hp2 hv1 hv2;have HRD:=readL32 w #[.float .f64 0,.float .f64 0] 28 t1 m1 t2 m2 hnn;clear t1 m1 t2 m2 hnn
 go_enter Tryz.func124,Tryz.ntmps124
 go_wp2_with fail;refine HRD.out.mono ?_;rintro e wk ⟨rfl,hl⟩;have LL:=Hd hl;clear hl HRD
 go_upto_region 3 with fail
 refine regL LL (fun hHeld=>?_);clear LL;generalize World.drew _=wk at hHeld  ⊢;refine tks 0 ?_;refine tkb 1 (fun _ h=>(h.blk 0 rfl).c2) ?_;refine tks 4 ?_;refine tkb 5 (fun _ h=>(h.blk 0 rfl).c2) ?_;refine rdy 2 (fun KK hKK=>?_);go_simp;refine cs (HC.out _) ?_;clear hKK KK hHeld;intro wk hb1 hHeld;clear hb1;refine rdy 3 (fun KK hKK=>?_);go_simp;refine cs (HP1.out _) ?_;clear hKK KK hHeld;intro wk hb2 hHeld;clear hb2;refine rdy 6 (fun KK hKK=>?_);go_simp;refine cs (HF.out _) ?_;clear hKK KK hHeld;intro wk hb3 hHeld;clear hb3;refine rdy 7 (fun KK hKK=>?_);go_simp;refine cs (HP2.out _) ?_;clear hKK KK hHeld;intro wk hb4 hHeld;clear hb4;refine tks 8 ?_;refine tks 9 ?_;refine wpAnyH_done (by kernel_rfl) ?_ _;have LL:=Hd hHeld;clear hHeld;obtain⟨q1_0,q1_1⟩:=(LL.out.blk 1 rfl).c2;go_wp2_with fail;refine cx (HV1.out _ LL.out.b) fun wk hb=>?_;replace LL:=stL LL hb;clear hb q1_0 q1_1 ho HV1;obtain⟨q2_0,q2_1⟩:=(LL.out.blk 1 rfl).c2;go_wp2_with fail;refine cx (HV2.out _ LL.out.b) fun wk hb=>?_;replace LL:=stL LL hb;clear hb q2_0 q2_1 ho2 HV2;go_wp2_with fail;refine cx (HE.out _) fun wk hb=>?_;replace LL:=stL LL hb;clear hb ho3;replace LL:=Hd (LL.out.loose2 rfl);obtain⟨ha10_0,hf10_0,ha10_1,hf10_1⟩:=(LL.out.has 0 rfl).sf2;have LF:=Hd (LL.out.write [.float .f64 9218868437227405312,.float .f64 18442240474082181120] rfl (by omega) (by simp<;>omega) (by simp<;>omega));obtain⟨hk10_0,hk10_1⟩:=(LF.out.blk 2 rfl).c2
 simp [sets] at hk10_0 hk10_1
 clear LL;go_wp2;refine bodyPost_ret (v:=.agg #[.float .f64 9218868437227405312,.float .f64 18442240474082181120]) (by simp [results,Tryz.results124,go_sem,hk10_0,hk10_1]) rfl ?_
 exact⟨rfl,LF.out.b⟩
set_option maxRecDepth 8000 in
theorem step_some(kV kF kT:FuncId)(cF cT:Array Value)(eV:∀ (args:Array Value) (W:World),(callFunc kV args).run Tryz.prog W=.ok (.enter kV args) W)(eF:∀ (args:Array Value) (W:World),(callFunc kF args).run Tryz.prog W=.ok (.enter kF args) W)(eT:∀ (args:Array Value) (W:World),(callFunc kT args).run Tryz.prog W=.ok (.enter kT args) W)(b1 b2 c1 c2 A1 A2 x1 x2 u1 u2 p q:Nat)(d1 d2:Bool)(w:World)(t1:∀ W,Rt 102 #[.agg #[.float .f64 b1,.float .f64 b2]] (.agg #[.float .f64 A1,.float .f64 A2]) W)(m1:Em d1 A1 A2)(t2:∀ W,Rt 102 #[.agg #[.float .f64 c1,.float .f64 c2]] (.agg #[.float .f64 x1,.float .f64 x2]) W)(m2:Em d2 x1 x2)(hnn:(d1 || d2)=false)(hc:∀ W,Rt 128 #[.float .f64 A1] (.float .f64 u1) W)(hp1:∀ W,Rt 191 #[.float .f64 u1] (.float .f64 p) W)(hf:∀ W,Rt 125 #[.float .f64 A2] (.float .f64 u2) W)(hp2:∀ W,Rt 191 #[.float .f64 u2] (.float .f64 q) W)(v1 v2 f g r1 r2:Nat)(ho:(FloatKind.f64.format.order p q == some Ordering.gt)=false)(hv1:∀ W,Below w.heap.size w W->Calls Tryz.prog kV #[.float .f64 x1] W fun e w'=>e=.returned (.float .f64 v1)/\Below W.heap.size W w')(ho2:(FloatKind.f64.format.order v1 q == some Ordering.gt)=false)(hv2:∀ W,Below w.heap.size w W->Calls Tryz.prog kV #[.float .f64 x2] W fun e w'=>e=.returned (.float .f64 v2)/\Below W.heap.size W w')(ho3:(FloatKind.f64.format.order v2 p == some Ordering.lt)=false)
  (hfr:∀ W,Below w.heap.size w W->Calls Tryz.prog kF (#[.float .f64 p] ++ cF) W fun e w'=>e=.returned (.float .f64 f)/\Below W.heap.size W w')(hto:∀ W,Below w.heap.size w W->Calls Tryz.prog kT (#[.float .f64 q] ++ cT) W fun e w'=>e=.returned (.float .f64 g)/\Below W.heap.size W w')(hmx:∀ W ts t,(Builtin.max_ ts t #[.float .f64 x1,.float .f64 f]).run Tryz.prog W=.ok (.float .f64 r1) W)(hmn:∀ W ts t,(Builtin.min_ ts t #[.float .f64 x2,.float .f64 g]).run Tryz.prog W=.ok (.float .f64 r2) W):
  Rt 124 #[.agg #[.float .f64 b1,.float .f64 b2],.agg #[.float .f64 c1,.float .f64 c2],.func (.func kV) #[] #[],.func (.func kF) #[] cF,.func (.func kT) #[] cT] (.agg #[.float .f64 r1,.float .f64 r2]) w:=by
 have HC:=Hd hc;have HP1:=Hd hp1;have HF:=Hd hf;have HP2:=Hd hp2;have HV1:=Hd hv1;have HV2:=Hd hv2;have HFR:=Hd hfr;have HTO:=Hd hto;clear hc hp1 hf hp2 hv1 hv2 hfr hto;have HRD:=readL32 w #[.float .f64 0,.float .f64 0] 28 t1 m1 t2 m2 hnn;clear t1 m1 t2 m2 hnn
 go_enter Tryz.func124,Tryz.ntmps124
 go_wp2_with fail;refine HRD.out.mono ?_;rintro e wk ⟨rfl,hl⟩;have LL:=Hd hl;clear hl HRD
 go_upto_region 3 with fail
 refine regL LL (fun hHeld=>?_);clear LL;generalize World.drew _=wk at hHeld  ⊢;refine tks 0 ?_;refine tkb 1 (fun _ h=>(h.blk 0 rfl).c2) ?_;refine tks 4 ?_;refine tkb 5 (fun _ h=>(h.blk 0 rfl).c2) ?_;refine rdy 2 (fun KK hKK=>?_);go_simp;refine cs (HC.out _) ?_;clear hKK KK hHeld;intro wk hb1 hHeld;clear hb1;refine rdy 3 (fun KK hKK=>?_);go_simp;refine cs (HP1.out _) ?_;clear hKK KK hHeld;intro wk hb2 hHeld;clear hb2;refine rdy 6 (fun KK hKK=>?_);go_simp;refine cs (HF.out _) ?_;clear hKK KK hHeld;intro wk hb3 hHeld;clear hb3;refine rdy 7 (fun KK hKK=>?_);go_simp;refine cs (HP2.out _) ?_;clear hKK KK hHeld;intro wk hb4 hHeld;clear hb4;refine tks 8 ?_;refine tks 9 ?_;refine wpAnyH_done (by kernel_rfl) ?_ _;have LL:=Hd hHeld;clear hHeld;obtain⟨q1_0,q1_1⟩:=(LL.out.blk 1 rfl).c2;go_wp2_with fail;refine cx (HV1.out _ LL.out.b) fun wk hb=>?_;replace LL:=stL LL hb;clear hb q1_0 q1_1 ho HV1;obtain⟨q2_0,q2_1⟩:=(LL.out.blk 1 rfl).c2;go_wp2_with fail;refine cx (HV2.out _ LL.out.b) fun wk hb=>?_;replace LL:=stL LL hb;clear hb q2_0 q2_1 ho2 HV2
 go_upto_region 6 with fail
 clear ho3;replace LL:=Hd (LL.out.loose2 rfl);refine regL LL (fun hHeld=>?_);clear LL;generalize World.drew _=wk at hHeld  ⊢;refine tks 0 ?_;refine tkb 1 (fun _ h=>(h.blk 1 rfl).c2) ?_;refine tks 2 ?_;refine tks 3 ?_;refine tks 6 ?_;refine tkb 7 (fun _ h=>(h.blk 1 rfl).c2) ?_;refine tks 8 ?_;refine tks 9 ?_
 repeat' first
  | (have hx:=hC4;clear hx;go_simp;refine (HFR.out _ hHeld.b).mono ?_;rintro e wk ⟨rfl,hb1⟩;go_wp2_with fail;refine hC4.out _ _ (hHeld.keep hb1) (fun _=>?_);clear hC4 KK hHeld;rename_i hHeld;(try simp only [Act.put,lay]);clear hb1;have mk4:=True.intro)
  | (have hx:=hR5;clear hx;go_simp;refine hR5.out _ _ hHeld (fun _=>?_);clear hR5 KK hHeld;rename_i hHeld;(try simp only [Act.put,lay]);have mk5:=True.intro)
  | (have hx:=hC10;clear hx;go_simp;refine (HTO.out _ hHeld.b).mono ?_;rintro e wk ⟨rfl,hb2⟩;go_wp2_with fail;refine hC10.out _ _ (hHeld.keep hb2) (fun _=>?_);clear hC10 KK hHeld;rename_i hHeld;(try simp only [Act.put,lay]);clear hb2;have mk10:=True.intro)
  | (have hx:=hR11;clear hx;go_simp;refine hR11.out _ _ hHeld (fun _=>?_);clear hR11 KK hHeld;rename_i hHeld;(try simp only [Act.put,lay]);have mk11:=True.intro)
  | (have hx:=hS13;clear hx;obtain⟨ha0,hf0,ha1,hf1⟩:=(hHeld.has 0 rfl).sf2;go_simp;have HS_0:=(hHeld.has 0 rfl).laid [.float .f64 r1,.float .f64 r2] rfl;refine hS13.out _ _ (hHeld.over 0 rfl [.float .f64 r1,.float .f64 r2] rfl rfl (by first | omega | exact hHeld.le_of 0 rfl) (by simp<;>omega) (by simp<;>omega)) (fun _=>?_);clear hS13 KK hHeld;rename_i hHeld;(try simp only [Act.put,lay]);replace hHeld:=(show Lies _ (sets wk (w.heap.size+2) 0 [.float .f64 r1,.float .f64 r2]) _ _ from hHeld);obtain⟨wk,hwn⟩:∃ X,sets wk (w.heap.size+2) 0 [.float .f64 r1,.float .f64 r2]=X:=⟨_,rfl⟩;rw [hwn] at hHeld HS_0;simp only [sets] at hwn;rw [hwn];clear hwn ha0 hf0 ha1 hf1;have mk13:=True.intro)
  | (have hx:=mk4;have hx:=mk5;have hx:=mk10;have hx:=mk11;have hx:=mk12;have hx:=mk13;refine wpAnyH_done (by kernel_rfl) ?_ _;clear hx mk4 mk5 mk10 mk11 mk12 mk13;have LB:=Hd hHeld.b;clear hHeld;obtain⟨hk0,hk1⟩:=HS_0.c2;clear HS_0;go_wp2;refine bodyPost_ret (v:=.agg #[.float .f64 r1,.float .f64 r2]) (by simp [results,Tryz.results124,go_sem,hk0,hk1]) rfl ?_;exact⟨rfl,LB.out⟩)
  | (have hx:=mk4;have hx:=mk5;have hx:=mk10;have hx:=mk11;have hx:=mk12;refine rdy 13 (fun KK hS13=>?_))
  | (have hx:=mk4;have hx:=mk5;have hx:=mk10;have hx:=mk11;refine tk 12 ?_;(try simp only [Act.put,lay]);have mk12:=True.intro)
  | (have hx:=mk4;have hx:=mk10;have hx:=mk11;refine rdy 5 (fun KK hR5=>?_))
  | (have hx:=mk4;have hx:=mk5;have hx:=mk10;refine rdy 11 (fun KK hR11=>?_))
  | (have hx:=mk4;have hx:=mk10;refine rd2 5 11 (fun KK hR5=>?_) (fun KK hR11=>?_))
  | (have hx:=mk4;have hx:=mk5;refine rdy 10 (fun KK hC10=>?_))
  | (have hx:=mk4;refine rd2 5 10 (fun KK hR5=>?_) (fun KK hC10=>?_))
  | (refine rdy 4 (fun KK hC4=>?_))
set_option maxRecDepth 8000 in
theorem step_lowx(kV kF kT:FuncId)(cF cT:Array Value)(b1 b2 c1 c2 A1 A2 x1 x2 u1 u2 p q:Nat)(d1 d2:Bool)(w:World)(t1:∀ W,Rt 102 #[.agg #[.float .f64 b1,.float .f64 b2]] (.agg #[.float .f64 A1,.float .f64 A2]) W)(m1:Em d1 A1 A2)(t2:∀ W,Rt 102 #[.agg #[.float .f64 c1,.float .f64 c2]] (.agg #[.float .f64 x1,.float .f64 x2]) W)(m2:Em d2 x1 x2)(hnn:(d1 || d2)=false)(hc:∀ W,Rt 128 #[.float .f64 A1] (.float .f64 u1) W)(hp1:∀ W,Rt 191 #[.float .f64 u1] (.float .f64 p) W)(hf:∀ W,Rt 125 #[.float .f64 A2] (.float .f64 u2) W)(hp2:∀ W,Rt 191 #[.float .f64 u2] (.float .f64 q) W)(v1:Nat)(ho:(FloatKind.f64.format.order p q == some Ordering.gt)=false)(hv1:∀ W:World,(callFunc kV #[.float .f64 x1]).run Tryz.prog W=.ok (.value (.float .f64 v1)) W)(ho2:FloatKind.f64.format.order v1 q=some .gt):
  Rt 124 #[.agg #[.float .f64 b1,.float .f64 b2],.agg #[.float .f64 c1,.float .f64 c2],.func (.func kV) #[] #[],.func (.func kF) #[] cF,.func (.func kT) #[] cT] (.agg #[.float .f64 9218868437227405312,.float .f64 18442240474082181120]) w:=by
 have HE:=Hd emptyf;have HC:=Hd hc;have HP1:=Hd hp1;have HF:=Hd hf;have HP2:=Hd hp2;clear hc hp1 hf hp2;have HRD:=readL32 w #[.float .f64 0,.float .f64 0] 28 t1 m1 t2 m2 hnn;clear t1 m1 t2 m2 hnn
 go_enter Tryz.func124,Tryz.ntmps124
 go_wp2_with fail;refine HRD.out.mono ?_;rintro e wk ⟨rfl,hl⟩;have LL:=Hd hl;clear hl HRD
 go_upto_region 3 with fail
 refine regL LL (fun hHeld=>?_);clear LL;generalize World.drew _=wk at hHeld  ⊢;refine tks 0 ?_;refine tkb 1 (fun _ h=>(h.blk 0 rfl).c2) ?_;refine tks 4 ?_;refine tkb 5 (fun _ h=>(h.blk 0 rfl).c2) ?_;refine rdy 2 (fun KK hKK=>?_);go_simp;refine cs (HC.out _) ?_;clear hKK KK hHeld;intro wk hb1 hHeld;clear hb1;refine rdy 3 (fun KK hKK=>?_);go_simp;refine cs (HP1.out _) ?_;clear hKK KK hHeld;intro wk hb2 hHeld;clear hb2;refine rdy 6 (fun KK hKK=>?_);go_simp;refine cs (HF.out _) ?_;clear hKK KK hHeld;intro wk hb3 hHeld;clear hb3;refine rdy 7 (fun KK hKK=>?_);go_simp;refine cs (HP2.out _) ?_;clear hKK KK hHeld;intro wk hb4 hHeld;clear hb4;refine tks 8 ?_;refine tks 9 ?_;refine wpAnyH_done (by kernel_rfl) ?_ _;have LL:=Hd hHeld;clear hHeld;obtain⟨q1_0,q1_1⟩:=(LL.out.blk 1 rfl).c2;go_wp2_with fail;refine cx (HE.out _) fun wk hb=>?_;replace LL:=stL LL hb;clear hb q1_0 q1_1 ho2 ho;replace LL:=Hd (LL.out.loose2 rfl);obtain⟨ha10_0,hf10_0,ha10_1,hf10_1⟩:=(LL.out.has 0 rfl).sf2;have LF:=Hd (LL.out.write [.float .f64 9218868437227405312,.float .f64 18442240474082181120] rfl (by omega) (by simp<;>omega) (by simp<;>omega));obtain⟨hk10_0,hk10_1⟩:=(LF.out.blk 2 rfl).c2
 simp [sets] at hk10_0 hk10_1
 clear LL;go_wp2;refine bodyPost_ret (v:=.agg #[.float .f64 9218868437227405312,.float .f64 18442240474082181120]) (by simp [results,Tryz.results124,go_sem,hk10_0,hk10_1]) rfl ?_
 exact⟨rfl,LF.out.b⟩
set_option maxRecDepth 8000 in
theorem step_highx(kV kF kT:FuncId)(cF cT:Array Value)(b1 b2 c1 c2 A1 A2 x1 x2 u1 u2 p q:Nat)(d1 d2:Bool)(w:World)(t1:∀ W,Rt 102 #[.agg #[.float .f64 b1,.float .f64 b2]] (.agg #[.float .f64 A1,.float .f64 A2]) W)(m1:Em d1 A1 A2)(t2:∀ W,Rt 102 #[.agg #[.float .f64 c1,.float .f64 c2]] (.agg #[.float .f64 x1,.float .f64 x2]) W)(m2:Em d2 x1 x2)(hnn:(d1 || d2)=false)(hc:∀ W,Rt 128 #[.float .f64 A1] (.float .f64 u1) W)(hp1:∀ W,Rt 191 #[.float .f64 u1] (.float .f64 p) W)(hf:∀ W,Rt 125 #[.float .f64 A2] (.float .f64 u2) W)(hp2:∀ W,Rt 191 #[.float .f64 u2] (.float .f64 q) W)(v1 v2:Nat)(ho:(FloatKind.f64.format.order p q == some Ordering.gt)=false)(hv1:∀ W:World,(callFunc kV #[.float .f64 x1]).run Tryz.prog W=.ok (.value (.float .f64 v1)) W)(ho2:(FloatKind.f64.format.order v1 q == some Ordering.gt)=false)(hv2:∀ W:World,(callFunc kV #[.float .f64 x2]).run Tryz.prog W=.ok (.value (.float .f64 v2)) W)(ho3:FloatKind.f64.format.order v2 p=some .lt):
  Rt 124 #[.agg #[.float .f64 b1,.float .f64 b2],.agg #[.float .f64 c1,.float .f64 c2],.func (.func kV) #[] #[],.func (.func kF) #[] cF,.func (.func kT) #[] cT] (.agg #[.float .f64 9218868437227405312,.float .f64 18442240474082181120]) w:=by
 have HE:=Hd emptyf;have HC:=Hd hc;have HP1:=Hd hp1;have HF:=Hd hf;have HP2:=Hd hp2;clear hc hp1 hf hp2;have HRD:=readL32 w #[.float .f64 0,.float .f64 0] 28 t1 m1 t2 m2 hnn;clear t1 m1 t2 m2 hnn
 go_enter Tryz.func124,Tryz.ntmps124
 go_wp2_with fail;refine HRD.out.mono ?_;rintro e wk ⟨rfl,hl⟩;have LL:=Hd hl;clear hl HRD
 go_upto_region 3 with fail
 refine regL LL (fun hHeld=>?_);clear LL;generalize World.drew _=wk at hHeld  ⊢;refine tks 0 ?_;refine tkb 1 (fun _ h=>(h.blk 0 rfl).c2) ?_;refine tks 4 ?_;refine tkb 5 (fun _ h=>(h.blk 0 rfl).c2) ?_;refine rdy 2 (fun KK hKK=>?_);go_simp;refine cs (HC.out _) ?_;clear hKK KK hHeld;intro wk hb1 hHeld;clear hb1;refine rdy 3 (fun KK hKK=>?_);go_simp;refine cs (HP1.out _) ?_;clear hKK KK hHeld;intro wk hb2 hHeld;clear hb2;refine rdy 6 (fun KK hKK=>?_);go_simp;refine cs (HF.out _) ?_;clear hKK KK hHeld;intro wk hb3 hHeld;clear hb3;refine rdy 7 (fun KK hKK=>?_);go_simp;refine cs (HP2.out _) ?_;clear hKK KK hHeld;intro wk hb4 hHeld;clear hb4;refine tks 8 ?_;refine tks 9 ?_;refine wpAnyH_done (by kernel_rfl) ?_ _;have LL:=Hd hHeld;clear hHeld;obtain⟨q1_0,q1_1⟩:=(LL.out.blk 1 rfl).c2;go_wp2_with fail;refine cx (HE.out _) fun wk hb=>?_;replace LL:=stL LL hb;clear hb q1_0 q1_1 ho3 ho ho2;replace LL:=Hd (LL.out.loose2 rfl);obtain⟨ha10_0,hf10_0,ha10_1,hf10_1⟩:=(LL.out.has 0 rfl).sf2;have LF:=Hd (LL.out.write [.float .f64 9218868437227405312,.float .f64 18442240474082181120] rfl (by omega) (by simp<;>omega) (by simp<;>omega));obtain⟨hk10_0,hk10_1⟩:=(LF.out.blk 2 rfl).c2
 simp [sets] at hk10_0 hk10_1
 clear LL;go_wp2;refine bodyPost_ret (v:=.agg #[.float .f64 9218868437227405312,.float .f64 18442240474082181120]) (by simp [results,Tryz.results124,go_sem,hk10_0,hk10_1]) rfl ?_
 exact⟨rfl,LF.out.b⟩
set_option maxRecDepth 8000 in
theorem step_somex(kV kF kT:FuncId)(cF cT:Array Value)(eF:∀ (args:Array Value) (W:World),(callFunc kF args).run Tryz.prog W=.ok (.enter kF args) W)(eT:∀ (args:Array Value) (W:World),(callFunc kT args).run Tryz.prog W=.ok (.enter kT args) W)(b1 b2 c1 c2 A1 A2 x1 x2 u1 u2 p q:Nat)(d1 d2:Bool)(w:World)(t1:∀ W,Rt 102 #[.agg #[.float .f64 b1,.float .f64 b2]] (.agg #[.float .f64 A1,.float .f64 A2]) W)(m1:Em d1 A1 A2)(t2:∀ W,Rt 102 #[.agg #[.float .f64 c1,.float .f64 c2]] (.agg #[.float .f64 x1,.float .f64 x2]) W)(m2:Em d2 x1 x2)(hnn:(d1 || d2)=false)(hc:∀ W,Rt 128 #[.float .f64 A1] (.float .f64 u1) W)(hp1:∀ W,Rt 191 #[.float .f64 u1] (.float .f64 p) W)(hf:∀ W,Rt 125 #[.float .f64 A2] (.float .f64 u2) W)(hp2:∀ W,Rt 191 #[.float .f64 u2] (.float .f64 q) W)(v1 v2 f g r1 r2:Nat)(ho:(FloatKind.f64.format.order p q == some Ordering.gt)=false)(hv1:∀ W:World,(callFunc kV #[.float .f64 x1]).run Tryz.prog W=.ok (.value (.float .f64 v1)) W)(ho2:(FloatKind.f64.format.order v1 q == some Ordering.gt)=false)(hv2:∀ W:World,(callFunc kV #[.float .f64 x2]).run Tryz.prog W=.ok (.value (.float .f64 v2)) W)(ho3:(FloatKind.f64.format.order v2 p == some Ordering.lt)=false)
  (hfr:∀ W,Below w.heap.size w W->Calls Tryz.prog kF (#[.float .f64 p] ++ cF) W fun e w'=>e=.returned (.float .f64 f)/\Below W.heap.size W w')(hto:∀ W,Below w.heap.size w W->Calls Tryz.prog kT (#[.float .f64 q] ++ cT) W fun e w'=>e=.returned (.float .f64 g)/\Below W.heap.size W w')(hmx:∀ W ts t,(Builtin.max_ ts t #[.float .f64 x1,.float .f64 f]).run Tryz.prog W=.ok (.float .f64 r1) W)(hmn:∀ W ts t,(Builtin.min_ ts t #[.float .f64 x2,.float .f64 g]).run Tryz.prog W=.ok (.float .f64 r2) W):
  Rt 124 #[.agg #[.float .f64 b1,.float .f64 b2],.agg #[.float .f64 c1,.float .f64 c2],.func (.func kV) #[] #[],.func (.func kF) #[] cF,.func (.func kT) #[] cT] (.agg #[.float .f64 r1,.float .f64 r2]) w:=by
 have HC:=Hd hc;have HP1:=Hd hp1;have HF:=Hd hf;have HP2:=Hd hp2;have HFR:=Hd hfr;have HTO:=Hd hto;clear hc hp1 hf hp2 hfr hto;have HRD:=readL32 w #[.float .f64 0,.float .f64 0] 28 t1 m1 t2 m2 hnn;clear t1 m1 t2 m2 hnn
 go_enter Tryz.func124,Tryz.ntmps124
 go_wp2_with fail;refine HRD.out.mono ?_;rintro e wk ⟨rfl,hl⟩;have LL:=Hd hl;clear hl HRD
 go_upto_region 3 with fail
 refine regL LL (fun hHeld=>?_);clear LL;generalize World.drew _=wk at hHeld  ⊢;refine tks 0 ?_;refine tkb 1 (fun _ h=>(h.blk 0 rfl).c2) ?_;refine tks 4 ?_;refine tkb 5 (fun _ h=>(h.blk 0 rfl).c2) ?_;refine rdy 2 (fun KK hKK=>?_);go_simp;refine cs (HC.out _) ?_;clear hKK KK hHeld;intro wk hb1 hHeld;clear hb1;refine rdy 3 (fun KK hKK=>?_);go_simp;refine cs (HP1.out _) ?_;clear hKK KK hHeld;intro wk hb2 hHeld;clear hb2;refine rdy 6 (fun KK hKK=>?_);go_simp;refine cs (HF.out _) ?_;clear hKK KK hHeld;intro wk hb3 hHeld;clear hb3;refine rdy 7 (fun KK hKK=>?_);go_simp;refine cs (HP2.out _) ?_;clear hKK KK hHeld;intro wk hb4 hHeld;clear hb4;refine tks 8 ?_;refine tks 9 ?_;refine wpAnyH_done (by kernel_rfl) ?_ _;have LL:=Hd hHeld;clear hHeld;obtain⟨q1_0,q1_1⟩:=(LL.out.blk 1 rfl).c2
 go_upto_region 6 with fail
 clear ho3 ho ho2 q1_0 q1_1;replace LL:=Hd (LL.out.loose2 rfl);refine regL LL (fun hHeld=>?_);clear LL;generalize World.drew _=wk at hHeld  ⊢;refine tks 0 ?_;refine tkb 1 (fun _ h=>(h.blk 1 rfl).c2) ?_;refine tks 2 ?_;refine tks 3 ?_;refine tks 6 ?_;refine tkb 7 (fun _ h=>(h.blk 1 rfl).c2) ?_;refine tks 8 ?_;refine tks 9 ?_
 repeat' first
  | (have hx:=hC4;clear hx;go_simp;refine (HFR.out _ hHeld.b).mono ?_;rintro e wk ⟨rfl,hb1⟩;go_wp2_with fail;refine hC4.out _ _ (hHeld.keep hb1) (fun _=>?_);clear hC4 KK hHeld;rename_i hHeld;(try simp only [Act.put,lay]);clear hb1;have mk4:=True.intro)
  | (have hx:=hR5;clear hx;go_simp;refine hR5.out _ _ hHeld (fun _=>?_);clear hR5 KK hHeld;rename_i hHeld;(try simp only [Act.put,lay]);have mk5:=True.intro)
  | (have hx:=hC10;clear hx;go_simp;refine (HTO.out _ hHeld.b).mono ?_;rintro e wk ⟨rfl,hb2⟩;go_wp2_with fail;refine hC10.out _ _ (hHeld.keep hb2) (fun _=>?_);clear hC10 KK hHeld;rename_i hHeld;(try simp only [Act.put,lay]);clear hb2;have mk10:=True.intro)
  | (have hx:=hR11;clear hx;go_simp;refine hR11.out _ _ hHeld (fun _=>?_);clear hR11 KK hHeld;rename_i hHeld;(try simp only [Act.put,lay]);have mk11:=True.intro)
  | (have hx:=hS13;clear hx;obtain⟨ha0,hf0,ha1,hf1⟩:=(hHeld.has 0 rfl).sf2;go_simp;have HS_0:=(hHeld.has 0 rfl).laid [.float .f64 r1,.float .f64 r2] rfl;refine hS13.out _ _ (hHeld.over 0 rfl [.float .f64 r1,.float .f64 r2] rfl rfl (by first | omega | exact hHeld.le_of 0 rfl) (by simp<;>omega) (by simp<;>omega)) (fun _=>?_);clear hS13 KK hHeld;rename_i hHeld;(try simp only [Act.put,lay]);replace hHeld:=(show Lies _ (sets wk (w.heap.size+2) 0 [.float .f64 r1,.float .f64 r2]) _ _ from hHeld);obtain⟨wk,hwn⟩:∃ X,sets wk (w.heap.size+2) 0 [.float .f64 r1,.float .f64 r2]=X:=⟨_,rfl⟩;rw [hwn] at hHeld HS_0;simp only [sets] at hwn;rw [hwn];clear hwn ha0 hf0 ha1 hf1;have mk13:=True.intro)
  | (have hx:=mk4;have hx:=mk5;have hx:=mk10;have hx:=mk11;have hx:=mk12;have hx:=mk13;refine wpAnyH_done (by kernel_rfl) ?_ _;clear hx mk4 mk5 mk10 mk11 mk12 mk13;have LB:=Hd hHeld.b;clear hHeld;obtain⟨hk0,hk1⟩:=HS_0.c2;clear HS_0;go_wp2;refine bodyPost_ret (v:=.agg #[.float .f64 r1,.float .f64 r2]) (by simp [results,Tryz.results124,go_sem,hk0,hk1]) rfl ?_;exact⟨rfl,LB.out⟩)
  | (have hx:=mk4;have hx:=mk5;have hx:=mk10;have hx:=mk11;have hx:=mk12;refine rdy 13 (fun KK hS13=>?_))
  | (have hx:=mk4;have hx:=mk5;have hx:=mk10;have hx:=mk11;refine tk 12 ?_;(try simp only [Act.put,lay]);have mk12:=True.intro)
  | (have hx:=mk4;have hx:=mk10;have hx:=mk11;refine rdy 5 (fun KK hR5=>?_))
  | (have hx:=mk4;have hx:=mk5;have hx:=mk10;refine rdy 11 (fun KK hR11=>?_))
  | (have hx:=mk4;have hx:=mk10;refine rd2 5 11 (fun KK hR5=>?_) (fun KK hR11=>?_))
  | (have hx:=mk4;have hx:=mk5;refine rdy 10 (fun KK hC10=>?_))
  | (have hx:=mk4;refine rd2 5 10 (fun KK hR5=>?_) (fun KK hC10=>?_))
  | (refine rdy 4 (fun KK hC4=>?_))
end
section
open Ieee
def P2(d:Nat):Rat:=(((2^d:Nat):Int):Rat)
theorem P2_add(a b:Nat):P2 (a+b)=P2 a*P2 b:=by
 unfold P2;rw [Nat.pow_add,Int.natCast_mul,Rat.intCast_mul]
theorem P2_ne(a:Nat):P2 a≠0:=by
 intro h;have h':((2^a:Nat):Int)=0:=Rat.intCast_inj.1 (by unfold P2 at h;rw [h];rfl);have:=Nat.two_pow_pos a
 omega
theorem P2_cancel{x y:Rat}{a:Nat}(h:x*P2 a=y*P2 a):x=y:=by
 have k:(x - y)*P2 a=0:=by grind
 rcases Rat.mul_eq_zero.1 k with k | k
 ·grind
 ·exact absurd k (P2_ne a)
theorem signed_cast(s:Bool)(n:Nat)(d:Nat):(((if s=true then -((n*2^d:Nat):Int) else ((n*2^d:Nat):Int)):Int):Rat)=((if s=true then -(n:Int) else (n:Int):Int):Rat)*P2 d:=by
 unfold P2;rw [<- Rat.intCast_mul]
 congr 1
 cases s
 ·simp
 ·simp [Int.neg_mul]
theorem whole_word(way:Toward){b:Nat}(h:real b):Is (double.write ((double.read b).integral way)) (wh (kW way) (idx b)):=by
 have hM:=M_val;have hi:=idx_natAbs b
 rcases Nat.lt_or_ge (rungOf b) M with hf | hf
 ·obtain⟨m,k,e,hm,-,-⟩:=read_fin (b:=b) hf
  obtain⟨U,hU⟩:∃ U:Nat,U=1074:=⟨_,rfl⟩
  have i0:-(M:Int)<idx b:=by omega
  have i1:idx b<M:=by omega
  obtain⟨j1,j2,j3⟩:=wh_fin (w:=kW way) (by cases way<;>decide) i0 i1;rw [e]
  have e2:(0:Int)=-1074+((U:Nat):Int):=by omega
  obtain⟨d,hd⟩:∃ d:Nat,d=(-(-1074+(k:Int))).toNat:=⟨_,rfl⟩
  obtain⟨A,hA⟩:∃ A:Nat,A=(-1074+(k:Int)).toNat:=⟨_,rfl⟩
  have hAd:A+U=k+d:=by omega
  obtain⟨c,hc⟩:∃ c:Nat,c=way.cut (sgn b) (m <<< A) d:=⟨_,rfl⟩
  have goal_eq:double.write ((Datum.number (sgn b) m (-1074+(k:Int))).integral way)=double.nearest (sgn b) c (-1074+((U:Nat):Int)):=by
   rw [hc,hA,hd,<- e2];rfl
  rw [goal_eq,nearest_high]
  have hv:(val (idx b):Rat)=((if sgn b=true then -(m:Int) else (m:Int):Int):Rat)*P2 k:=by
   rw [<- read_val hm,signed_eq,signed_cast]
  have key:(if sgn b=true then -(c:Int) else (c:Int))=rK (kW way) (fl (idx b)):=by
   rw [hc,cut_gI];refine gI_rK way (by have:=Nat.two_pow_pos d;omega) ?_;have f1:fl (idx b)*P2 U=(val (idx b):Rat):=fl_mul hU (idx b)
   have f2:fl (idx b)*P2 d*P2 U=((if sgn b=true then -(m:Int) else (m:Int):Int):Rat)*P2 A*P2 U:=by
    rw [Rat.mul_assoc _ (P2 A),<- P2_add,hAd,P2_add];rw [hv] at f1
    grind
   have f3:=P2_cancel f2;rw [<- signed_cast] at f3;rw [Nat.shiftLeft_eq]
   exact f3
  have hw:val (wh (kW way) (idx b))=(if sgn b=true then -((c*2^U:Nat):Int) else ((c*2^U:Nat):Int)):=by
   have f1:fl (wh (kW way) (idx b))*P2 U=(val (wh (kW way) (idx b)):Rat):=fl_mul hU _;rw [j1,<- key,<- signed_cast] at f1
   exact (Rat.intCast_inj.1 f1).symm
  have hn:=Is.near (s:=sgn b) (n:=val (wh (kW way) (idx b))) (d:=0) (by
   intro h0;rw [hw] at h0 ⊢;generalize c*2^U=t at h0 ⊢
   cases sgn b
   ·simp only [Bool.false_eq_true,if_false] at h0 ⊢
    rw [decide_eq_false (by omega)]
   ·simp only [if_true] at h0 ⊢
    rw [decide_eq_true (by omega)])
  rw [near_val_zero (by omega) (by omega)] at hn
  have e3:(val (wh (kW way) (idx b))).natAbs=c*2^U:=by
   rw [hw];generalize c*2^U=t
   cases sgn b<;>simp
  rw [e3] at hn
  exact hn
 ·have e:rungOf b=M:=by unfold real at h;omega
  rw [read_inf e]
  show Is (double.word (sgn b) double.infRung) _
  rw [infRung_eq];have k:=Is.word (sgn b) (r:=M) (Nat.le_refl _)
  have e4:wh (kW way) (idx b)=if sgn b=true then -(M:Int) else (M:Int):=by
   unfold idx;rw [e]
   cases sgn b
   ·exact wh_max _
   ·exact wh_min _
  rw [e4];exact k
end
end Go.Proofs.YthlmlmfebpjgdaaGreatDoor
