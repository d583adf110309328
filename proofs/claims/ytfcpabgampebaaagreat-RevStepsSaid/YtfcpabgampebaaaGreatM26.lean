/-
Walks: package rev, the reverses of steps.
Walks: package fbit, Plain.
Boxes of two floats; what a call leaves as it was but three blocks.
Walks: package rev, read of however many intervals that lie one behind the other.
Blocks that a call which reads intervals keeps.
-/
import Derived.Test.YtfcpabgampebaaaGreatPAddT
import Derived.Test.YtfcpabgampebaaaGreatPIntsT
import Derived.Deep.DeepCutAuto
import Derived.Test.YtfcpabgampebaaaGreatM03
import Derived.Test.YtfcpabgampebaaaGreatPGoA
import Derived.Deep.RegionHeld3
import Derived.Test.YtfcpabgampebaaaGreatPMinusT
set_option linter.unusedSimpArgs false
set_option linter.unusedVariables false
set_option maxHeartbeats 12800000
namespace Go.Proofs.YtfcpabgampebaaaGreat
open Go.RowKit
attribute [local go_sem] run_store_float run_negf
def Cap(w:World)(B b:Nat):Prop:=w.cell? ⟨B,0,none⟩=some (.float .f64 b)∧B<w.heap.size
theorem Cap.below{w w':World}{B b:Nat}(h:Cap w B b)(hb:Below w.heap.size w w'):Cap w' B b:=⟨(hb.cell (p:=⟨B,0,none⟩) h.2).trans h.1,Nat.lt_of_lt_of_le h.2 hb.size⟩
theorem Cap.new(w:World)(b:Nat):Cap (w.alloc (.cells #[.float .f64 b] 25)) w.heap.size b:=⟨by simp [World.cell?_alloc_new],by simp⟩
theorem ahead_cap(b:Nat)(w:World):Calls Tryz.prog 36 #[.float .f64 b] w fun e w'=>∃ B,e=.returned (.func (.func 67) #[] #[.pointer (some ⟨B,0,none⟩)])∧Cap w' B b∧Below w.heap.size w w':=
 (ahead_any b w).mono fun _ _ ⟨h,hw⟩=>⟨_,h,hw ▸ Cap.new w b,hw ▸ below_alloc w _⟩
theorem behind_cap(b:Nat)(w:World):Calls Tryz.prog 34 #[.float .f64 b] w fun e w'=>∃ B,e=.returned (.func (.func 63) #[] #[.pointer (some ⟨B,0,none⟩)])∧Cap w' B b∧Below w.heap.size w w':=
 (behind_any b w).mono fun _ _ ⟨h,hw⟩=>⟨_,h,hw ▸ Cap.new w b,hw ▸ below_alloc w _⟩
theorem side_cap(b:Nat)(w:World):Calls Tryz.prog 16 #[.float .f64 b] w fun e w'=>∃ B,e=.returned (.func (.func 17) #[] #[.pointer (some ⟨B,0,none⟩)])∧Cap w' B b∧Below w.heap.size w w':=
 (side_any b w).mono fun _ _ ⟨h,hw⟩=>⟨_,h,hw ▸ Cap.new w b,hw ▸ below_alloc w _⟩
set_option maxRecDepth 8000 in
theorem floor_walk(b1 b2 c1 c2 r1 r2:Nat)(w:World)(hst:∀ W B0,Cap W B0 4607182418800017408→Calls Tryz.prog 19 #[.agg #[.float .f64 b1,.float .f64 b2],.agg #[.float .f64 c1,.float .f64 c2],.func (.func 32) #[] #[],.func (.func 33) #[] #[],.func (.func 63) #[] #[.pointer (some ⟨B0,0,none⟩)]] W fun e w'=>e=.returned (.agg #[.float .f64 r1,.float .f64 r2])∧Below W.heap.size W w'):
  Calls Tryz.prog 8 #[.agg #[.float .f64 b1,.float .f64 b2],.agg #[.float .f64 c1,.float .f64 c2]] w fun e w'=>e=.returned (.agg #[.float .f64 r1,.float .f64 r2])∧Below w.heap.size w w':=by
 have HST:=Hd hst;clear hst;have LL:=li3 w #[.float .f64 b1,.float .f64 b2] 27 #[.float .f64 c1,.float .f64 c2] 27 #[.float .f64 0,.float .f64 0] 27;have HC0:=Hd (behind_cap 4607182418800017408)
 go_enter Tryz.func8,Tryz.ntmps8
 go_upto_region 1 with fail
 replace LL:=Hd (LL.out.loose 2 rfl rfl)
 simp only [List.eraseIdx,List.size_toArray,List.length_cons,List.length_nil,Nat.zero_add,Nat.reduceAdd] at LL
 refine regL LL (fun hHeld=>?_);clear LL;generalize World.drew _=wk at hHeld  ⊢;refine tk 0 ?_ (hv:=by intro W2 hSw;obtain⟨q0,q1⟩:=(hSw.blk 0 rfl).c2;go_simp;(try with_reducible rfl));(try simp only [Act.put,lay]);refine tk 1 ?_ (hv:=by intro W2 hSw;obtain⟨q0,q1⟩:=(hSw.blk 1 rfl).c2;go_simp;(try with_reducible rfl));(try simp only [Act.put,lay]);refine rdy 2 (fun KK hKK=>?_);go_simp;refine (HC0.out _).mono ?_;rintro e wk ⟨B0,rfl,hq0,hb0⟩;go_wp2_with fail;refine hKK.out _ _ (hHeld.keep hb0) (fun _=>?_);clear hKK KK hHeld;rename_i hHeld;(try simp only [Act.put,lay]);have HQ0:=Hd hq0;clear hq0;clear hb0;refine rdy 3 (fun KK hKK=>?_);go_simp;refine (HST.out _ _ HQ0.out).mono ?_;rintro e wk ⟨rfl,hb9⟩;go_wp2_with fail;refine hKK.out _ _ (hHeld.keep hb9) (fun _=>?_);clear hKK KK hHeld;rename_i hHeld;(try simp only [Act.put,lay]);(try replace HQ0:=Hd (HQ0.out.below hb9));clear hb9;refine rdy 4 (fun KK hKK=>?_);obtain⟨ha0,hf0,ha1,hf1⟩:=(hHeld.has 0 rfl).sf2;obtain⟨csx,hbx,-,hcx⟩:=hHeld.has 0 rfl;(try clear HQ0);clear hbx hcx;go_simp;have HS_0:=(hHeld.has 0 rfl).laid [.float .f64 r1,.float .f64 r2] rfl;refine hKK.out _ _ (hHeld.over 0 rfl [.float .f64 r1,.float .f64 r2] rfl rfl (by first | omega | exact hHeld.le_of 0 rfl) (by simp<;>omega) (by simp<;>omega)) (fun _=>?_);clear hKK KK hHeld;rename_i hHeld;(try simp only [Act.put,lay]);refine wpAnyH_done (by kernel_rfl) ?_ _;have LB:=Hd hHeld.b;clear hHeld;obtain⟨hk4_0,hk4_1⟩:=HS_0.c2;clear HS_0
 simp [sets] at hk4_0 hk4_1
 go_wp2;refine bodyPost_ret (v:=.agg #[.float .f64 r1,.float .f64 r2]) (by simp [results,Tryz.results8,go_sem,hk4_0,hk4_1]) rfl ?_
 exact⟨rfl,LB.out⟩
set_option maxRecDepth 8000 in
theorem ceil_walk(b1 b2 c1 c2 r1 r2:Nat)(w:World)(hst:∀ W B0,Cap W B0 4607182418800017408→Calls Tryz.prog 19 #[.agg #[.float .f64 b1,.float .f64 b2],.agg #[.float .f64 c1,.float .f64 c2],.func (.func 35) #[] #[],.func (.func 67) #[] #[.pointer (some ⟨B0,0,none⟩)],.func (.func 33) #[] #[]] W fun e w'=>e=.returned (.agg #[.float .f64 r1,.float .f64 r2])∧Below W.heap.size W w'):
  Calls Tryz.prog 9 #[.agg #[.float .f64 b1,.float .f64 b2],.agg #[.float .f64 c1,.float .f64 c2]] w fun e w'=>e=.returned (.agg #[.float .f64 r1,.float .f64 r2])∧Below w.heap.size w w':=by
 have HST:=Hd hst;clear hst;have LL:=li3 w #[.float .f64 b1,.float .f64 b2] 27 #[.float .f64 c1,.float .f64 c2] 27 #[.float .f64 0,.float .f64 0] 27;have HC0:=Hd (ahead_cap 4607182418800017408)
 go_enter Tryz.func9,Tryz.ntmps9
 go_upto_region 1 with fail
 replace LL:=Hd (LL.out.loose 2 rfl rfl)
 simp only [List.eraseIdx,List.size_toArray,List.length_cons,List.length_nil,Nat.zero_add,Nat.reduceAdd] at LL
 refine regL LL (fun hHeld=>?_);clear LL;generalize World.drew _=wk at hHeld  ⊢;refine tk 0 ?_ (hv:=by intro W2 hSw;obtain⟨q0,q1⟩:=(hSw.blk 0 rfl).c2;go_simp;(try with_reducible rfl));(try simp only [Act.put,lay]);refine tk 1 ?_ (hv:=by intro W2 hSw;obtain⟨q0,q1⟩:=(hSw.blk 1 rfl).c2;go_simp;(try with_reducible rfl));(try simp only [Act.put,lay]);refine rdy 2 (fun KK hKK=>?_);go_simp;refine (HC0.out _).mono ?_;rintro e wk ⟨B0,rfl,hq0,hb0⟩;go_wp2_with fail;refine hKK.out _ _ (hHeld.keep hb0) (fun _=>?_);clear hKK KK hHeld;rename_i hHeld;(try simp only [Act.put,lay]);have HQ0:=Hd hq0;clear hq0;clear hb0;refine rdy 3 (fun KK hKK=>?_);go_simp;refine (HST.out _ _ HQ0.out).mono ?_;rintro e wk ⟨rfl,hb9⟩;go_wp2_with fail;refine hKK.out _ _ (hHeld.keep hb9) (fun _=>?_);clear hKK KK hHeld;rename_i hHeld;(try simp only [Act.put,lay]);(try replace HQ0:=Hd (HQ0.out.below hb9));clear hb9;refine rdy 4 (fun KK hKK=>?_);obtain⟨ha0,hf0,ha1,hf1⟩:=(hHeld.has 0 rfl).sf2;obtain⟨csx,hbx,-,hcx⟩:=hHeld.has 0 rfl;(try clear HQ0);clear hbx hcx;go_simp;have HS_0:=(hHeld.has 0 rfl).laid [.float .f64 r1,.float .f64 r2] rfl;refine hKK.out _ _ (hHeld.over 0 rfl [.float .f64 r1,.float .f64 r2] rfl rfl (by first | omega | exact hHeld.le_of 0 rfl) (by simp<;>omega) (by simp<;>omega)) (fun _=>?_);clear hKK KK hHeld;rename_i hHeld;(try simp only [Act.put,lay]);refine wpAnyH_done (by kernel_rfl) ?_ _;have LB:=Hd hHeld.b;clear hHeld;obtain⟨hk4_0,hk4_1⟩:=HS_0.c2;clear HS_0
 simp [sets] at hk4_0 hk4_1
 go_wp2;refine bodyPost_ret (v:=.agg #[.float .f64 r1,.float .f64 r2]) (by simp [results,Tryz.results9,go_sem,hk4_0,hk4_1]) rfl ?_
 exact⟨rfl,LB.out⟩
set_option maxRecDepth 8000 in
theorem trunc_walk(b1 b2 c1 c2 r1 r2:Nat)(w:World)(hst:∀ W,Calls Tryz.prog 19 #[.agg #[.float .f64 b1,.float .f64 b2],.agg #[.float .f64 c1,.float .f64 c2],.func (.func 39) #[] #[],.func (.func 37) #[] #[],.func (.func 38) #[] #[]] W fun e w'=>e=.returned (.agg #[.float .f64 r1,.float .f64 r2])∧Below W.heap.size W w'):
  Calls Tryz.prog 10 #[.agg #[.float .f64 b1,.float .f64 b2],.agg #[.float .f64 c1,.float .f64 c2]] w fun e w'=>e=.returned (.agg #[.float .f64 r1,.float .f64 r2])∧Below w.heap.size w w':=by
 have HST:=Hd hst;clear hst;have LL:=li3 w #[.float .f64 b1,.float .f64 b2] 27 #[.float .f64 c1,.float .f64 c2] 27 #[.float .f64 0,.float .f64 0] 27
 go_enter Tryz.func10,Tryz.ntmps10
 obtain⟨q1_0,q1_1⟩:=(LL.out.blk 0 rfl).c2;obtain⟨q2_0,q2_1⟩:=(LL.out.blk 1 rfl).c2;go_wp2_with fail;refine (HST.out _).mono ?_;rintro e wk ⟨rfl,hb⟩;replace LL:=stL LL hb;clear hb q1_0 q1_1 q2_0 q2_1;replace LL:=Hd (LL.out.loose 2 rfl rfl)
 simp only [List.eraseIdx,List.size_toArray,List.length_cons,List.length_nil,Nat.zero_add,Nat.reduceAdd] at LL
 obtain⟨ha4_0,hf4_0,ha4_1,hf4_1⟩:=(LL.out.has 0 rfl).sf2;have LF:=Hd (LL.out.write [.float .f64 r1,.float .f64 r2] rfl (by omega) (by simp<;>omega) (by simp<;>omega));obtain⟨hk4_0,hk4_1⟩:=(LF.out.blk 2 rfl).c2
 simp [sets] at hk4_0 hk4_1
 clear LL;go_wp2;refine bodyPost_ret (v:=.agg #[.float .f64 r1,.float .f64 r2]) (by simp [results,Tryz.results10,go_sem,hk4_0,hk4_1]) rfl ?_
 exact⟨rfl,LF.out.b⟩
set_option maxRecDepth 8000 in
theorem even_walk(b1 b2 c1 c2 r1 r2:Nat)(w:World)(hst:∀ W B0 B1,Cap W B0 4602678819172646912→Cap W B1 4602678819172646912→Calls Tryz.prog 19 #[.agg #[.float .f64 b1,.float .f64 b2],.agg #[.float .f64 c1,.float .f64 c2],.func (.func 40) #[] #[],.func (.func 67) #[] #[.pointer (some ⟨B0,0,none⟩)],.func (.func 63) #[] #[.pointer (some ⟨B1,0,none⟩)]] W fun e w'=>e=.returned (.agg #[.float .f64 r1,.float .f64 r2])∧Below W.heap.size W w'):
  Calls Tryz.prog 11 #[.agg #[.float .f64 b1,.float .f64 b2],.agg #[.float .f64 c1,.float .f64 c2]] w fun e w'=>e=.returned (.agg #[.float .f64 r1,.float .f64 r2])∧Below w.heap.size w w':=by
 have HST:=Hd hst;clear hst;have LL:=li3 w #[.float .f64 b1,.float .f64 b2] 27 #[.float .f64 c1,.float .f64 c2] 27 #[.float .f64 0,.float .f64 0] 27;have HC0:=Hd (ahead_cap 4602678819172646912);have HC1:=Hd (behind_cap 4602678819172646912)
 go_enter Tryz.func11,Tryz.ntmps11
 go_upto_region 1 with fail
 replace LL:=Hd (LL.out.loose 2 rfl rfl)
 simp only [List.eraseIdx,List.size_toArray,List.length_cons,List.length_nil,Nat.zero_add,Nat.reduceAdd] at LL
 refine regL LL (fun hHeld=>?_);clear LL;generalize World.drew _=wk at hHeld  ⊢;refine tk 0 ?_ (hv:=by intro W2 hSw;obtain⟨q0,q1⟩:=(hSw.blk 0 rfl).c2;go_simp;(try with_reducible rfl));(try simp only [Act.put,lay]);refine tk 1 ?_ (hv:=by intro W2 hSw;obtain⟨q0,q1⟩:=(hSw.blk 1 rfl).c2;go_simp;(try with_reducible rfl));(try simp only [Act.put,lay]);refine rdy 2 (fun KK hKK=>?_);go_simp;refine (HC0.out _).mono ?_;rintro e wk ⟨B0,rfl,hq0,hb0⟩;go_wp2_with fail;refine hKK.out _ _ (hHeld.keep hb0) (fun _=>?_);clear hKK KK hHeld;rename_i hHeld;(try simp only [Act.put,lay]);(try replace HQ1:=Hd (HQ1.out.below hb0));have HQ0:=Hd hq0;clear hq0;clear hb0;refine rdy 3 (fun KK hKK=>?_);go_simp;refine (HC1.out _).mono ?_;rintro e wk ⟨B1,rfl,hq1,hb1⟩;go_wp2_with fail;refine hKK.out _ _ (hHeld.keep hb1) (fun _=>?_);clear hKK KK hHeld;rename_i hHeld;(try simp only [Act.put,lay]);(try replace HQ0:=Hd (HQ0.out.below hb1));have HQ1:=Hd hq1;clear hq1;clear hb1;refine rdy 4 (fun KK hKK=>?_);go_simp;refine (HST.out _ _ _ HQ0.out HQ1.out).mono ?_;rintro e wk ⟨rfl,hb9⟩;go_wp2_with fail;refine hKK.out _ _ (hHeld.keep hb9) (fun _=>?_);clear hKK KK hHeld;rename_i hHeld;(try simp only [Act.put,lay]);(try replace HQ0:=Hd (HQ0.out.below hb9));(try replace HQ1:=Hd (HQ1.out.below hb9));clear hb9;refine rdy 5 (fun KK hKK=>?_);obtain⟨ha0,hf0,ha1,hf1⟩:=(hHeld.has 0 rfl).sf2;obtain⟨csx,hbx,-,hcx⟩:=hHeld.has 0 rfl;(try clear HQ0);(try clear HQ1);clear hbx hcx;go_simp;have HS_0:=(hHeld.has 0 rfl).laid [.float .f64 r1,.float .f64 r2] rfl
 refine hKK.out _ _ (hHeld.over 0 rfl [.float .f64 r1,.float .f64 r2] rfl rfl (by first | omega | exact hHeld.le_of 0 rfl) (by simp<;>omega) (by simp<;>omega)) (fun _=>?_);clear hKK KK hHeld;rename_i hHeld;(try simp only [Act.put,lay]);refine wpAnyH_done (by kernel_rfl) ?_ _;have LB:=Hd hHeld.b;clear hHeld;obtain⟨hk4_0,hk4_1⟩:=HS_0.c2;clear HS_0
 simp [sets] at hk4_0 hk4_1
 go_wp2;refine bodyPost_ret (v:=.agg #[.float .f64 r1,.float .f64 r2]) (by simp [results,Tryz.results11,go_sem,hk4_0,hk4_1]) rfl ?_
 exact⟨rfl,LB.out⟩
set_option maxRecDepth 8000 in
theorem away_walk(b1 b2 c1 c2 r1 r2:Nat)(w:World)(hst:∀ W B0 B1,Cap W B0 4602678819172646912→Cap W B1 4602678819172646912→Calls Tryz.prog 19 #[.agg #[.float .f64 b1,.float .f64 b2],.agg #[.float .f64 c1,.float .f64 c2],.func (.func 41) #[] #[],.func (.func 67) #[] #[.pointer (some ⟨B0,0,none⟩)],.func (.func 63) #[] #[.pointer (some ⟨B1,0,none⟩)]] W fun e w'=>e=.returned (.agg #[.float .f64 r1,.float .f64 r2])∧Below W.heap.size W w'):
  Calls Tryz.prog 12 #[.agg #[.float .f64 b1,.float .f64 b2],.agg #[.float .f64 c1,.float .f64 c2]] w fun e w'=>e=.returned (.agg #[.float .f64 r1,.float .f64 r2])∧Below w.heap.size w w':=by
 have HST:=Hd hst;clear hst;have LL:=li3 w #[.float .f64 b1,.float .f64 b2] 27 #[.float .f64 c1,.float .f64 c2] 27 #[.float .f64 0,.float .f64 0] 27;have HC0:=Hd (ahead_cap 4602678819172646912);have HC1:=Hd (behind_cap 4602678819172646912)
 go_enter Tryz.func12,Tryz.ntmps12
 go_upto_region 1 with fail
 replace LL:=Hd (LL.out.loose 2 rfl rfl)
 simp only [List.eraseIdx,List.size_toArray,List.length_cons,List.length_nil,Nat.zero_add,Nat.reduceAdd] at LL
 refine regL LL (fun hHeld=>?_);clear LL;generalize World.drew _=wk at hHeld  ⊢;refine tk 0 ?_ (hv:=by intro W2 hSw;obtain⟨q0,q1⟩:=(hSw.blk 0 rfl).c2;go_simp;(try with_reducible rfl));(try simp only [Act.put,lay]);refine tk 1 ?_ (hv:=by intro W2 hSw;obtain⟨q0,q1⟩:=(hSw.blk 1 rfl).c2;go_simp;(try with_reducible rfl));(try simp only [Act.put,lay]);refine rdy 2 (fun KK hKK=>?_);go_simp;refine (HC0.out _).mono ?_;rintro e wk ⟨B0,rfl,hq0,hb0⟩;go_wp2_with fail;refine hKK.out _ _ (hHeld.keep hb0) (fun _=>?_);clear hKK KK hHeld;rename_i hHeld;(try simp only [Act.put,lay]);(try replace HQ1:=Hd (HQ1.out.below hb0));have HQ0:=Hd hq0;clear hq0;clear hb0;refine rdy 3 (fun KK hKK=>?_);go_simp;refine (HC1.out _).mono ?_;rintro e wk ⟨B1,rfl,hq1,hb1⟩;go_wp2_with fail;refine hKK.out _ _ (hHeld.keep hb1) (fun _=>?_);clear hKK KK hHeld;rename_i hHeld;(try simp only [Act.put,lay]);(try replace HQ0:=Hd (HQ0.out.below hb1));have HQ1:=Hd hq1;clear hq1;clear hb1;refine rdy 4 (fun KK hKK=>?_);go_simp;refine (HST.out _ _ _ HQ0.out HQ1.out).mono ?_;rintro e wk ⟨rfl,hb9⟩;go_wp2_with fail;refine hKK.out _ _ (hHeld.keep hb9) (fun _=>?_);clear hKK KK hHeld;rename_i hHeld;(try simp only [Act.put,lay]);(try replace HQ0:=Hd (HQ0.out.below hb9));(try replace HQ1:=Hd (HQ1.out.below hb9));clear hb9;refine rdy 5 (fun KK hKK=>?_);obtain⟨ha0,hf0,ha1,hf1⟩:=(hHeld.has 0 rfl).sf2;obtain⟨csx,hbx,-,hcx⟩:=hHeld.has 0 rfl;(try clear HQ0);(try clear HQ1);clear hbx hcx;go_simp;have HS_0:=(hHeld.has 0 rfl).laid [.float .f64 r1,.float .f64 r2] rfl
 refine hKK.out _ _ (hHeld.over 0 rfl [.float .f64 r1,.float .f64 r2] rfl rfl (by first | omega | exact hHeld.le_of 0 rfl) (by simp<;>omega) (by simp<;>omega)) (fun _=>?_);clear hKK KK hHeld;rename_i hHeld;(try simp only [Act.put,lay]);refine wpAnyH_done (by kernel_rfl) ?_ _;have LB:=Hd hHeld.b;clear hHeld;obtain⟨hk4_0,hk4_1⟩:=HS_0.c2;clear HS_0
 simp [sets] at hk4_0 hk4_1
 go_wp2;refine bodyPost_ret (v:=.agg #[.float .f64 r1,.float .f64 r2]) (by simp [results,Tryz.results12,go_sem,hk4_0,hk4_1]) rfl ?_
 exact⟨rfl,LB.out⟩
set_option maxRecDepth 8000 in
theorem sign_walk(b1 b2 c1 c2 i1 i2 r1 r2:Nat)(w:World)(hi:∀ W,Calls Tryz.prog 20 #[.agg #[.float .f64 b1,.float .f64 b2],.agg #[.float .f64 13830554455654793216,.float .f64 4607182418800017408]] W fun e w'=>e=.returned (.agg #[.float .f64 i1,.float .f64 i2])∧Below W.heap.size W w')(hst:∀ W B0 B1,Cap W B0 13830554455654793216→Cap W B1 4607182418800017408→Calls Tryz.prog 19 #[.agg #[.float .f64 i1,.float .f64 i2],.agg #[.float .f64 c1,.float .f64 c2],.func (.func 15) #[] #[],.func (.func 17) #[] #[.pointer (some ⟨B0,0,none⟩)],.func (.func 17) #[] #[.pointer (some ⟨B1,0,none⟩)]] W fun e w'=>e=.returned (.agg #[.float .f64 r1,.float .f64 r2])∧Below W.heap.size W w'):
  Calls Tryz.prog 6 #[.agg #[.float .f64 b1,.float .f64 b2],.agg #[.float .f64 c1,.float .f64 c2]] w fun e w'=>e=.returned (.agg #[.float .f64 r1,.float .f64 r2])∧Below w.heap.size w w':=by
 have HI:=Hd hi;have HST:=Hd hst;clear hi hst;have LL:=li3 w #[.float .f64 b1,.float .f64 b2] 27 #[.float .f64 c1,.float .f64 c2] 27 #[.float .f64 0,.float .f64 0] 27;have HC0:=Hd (side_cap 13830554455654793216);have HC1:=Hd (side_cap 4607182418800017408)
 go_enter Tryz.func6,Tryz.ntmps6
 go_upto_region 3 with fail
 replace LL:=Hd (LL.out.loose 2 rfl rfl)
 simp only [List.eraseIdx,List.size_toArray,List.length_cons,List.length_nil,Nat.zero_add,Nat.reduceAdd] at LL
 refine regL LL (fun hHeld=>?_);clear LL;generalize World.drew _=wk at hHeld  ⊢;refine tk 0 ?_ (hv:=by intro W2 hSw;obtain⟨q0,q1⟩:=(hSw.blk 0 rfl).c2;go_simp;(try with_reducible rfl));(try simp only [Act.put,lay]);refine tk 1 ?_;(try simp only [Act.put,lay]);refine tk 3 ?_ (hv:=by intro W2 hSw;obtain⟨q0,q1⟩:=(hSw.blk 1 rfl).c2;go_simp;(try with_reducible rfl));(try simp only [Act.put,lay]);refine tk 4 ?_;(try simp only [Act.put,lay]);refine tk 5 ?_;(try simp only [Act.put,lay]);refine tk 7 ?_;(try simp only [Act.put,lay]);refine rdy 2 (fun KK hKK=>?_);go_simp;refine (HI.out _).mono ?_;rintro e wk ⟨rfl,hb5⟩;go_wp2_with fail;refine hKK.out _ _ (hHeld.keep hb5) (fun _=>?_);clear hKK KK hHeld;rename_i hHeld;(try simp only [Act.put,lay]);(try replace HQ0:=Hd (HQ0.out.below hb5));(try replace HQ1:=Hd (HQ1.out.below hb5));clear hb5;refine rdy 6 (fun KK hKK=>?_);go_simp;refine (HC0.out _).mono ?_;rintro e wk ⟨B0,rfl,hq0,hb0⟩;go_wp2_with fail;refine hKK.out _ _ (hHeld.keep hb0) (fun _=>?_);clear hKK KK hHeld;rename_i hHeld;(try simp only [Act.put,lay]);(try replace HQ1:=Hd (HQ1.out.below hb0));have HQ0:=Hd hq0;clear hq0;clear hb0;refine rdy 8 (fun KK hKK=>?_);go_simp;refine (HC1.out _).mono ?_;rintro e wk ⟨B1,rfl,hq1,hb1⟩;go_wp2_with fail;refine hKK.out _ _ (hHeld.keep hb1) (fun _=>?_);clear hKK KK hHeld;rename_i hHeld;(try simp only [Act.put,lay]);(try replace HQ0:=Hd (HQ0.out.below hb1));have HQ1:=Hd hq1;clear hq1;clear hb1;refine rdy 9 (fun KK hKK=>?_);go_simp
 refine (HST.out _ _ _ HQ0.out HQ1.out).mono ?_;rintro e wk ⟨rfl,hb9⟩;go_wp2_with fail;refine hKK.out _ _ (hHeld.keep hb9) (fun _=>?_);clear hKK KK hHeld;rename_i hHeld;(try simp only [Act.put,lay]);(try replace HQ0:=Hd (HQ0.out.below hb9));(try replace HQ1:=Hd (HQ1.out.below hb9));clear hb9;refine rdy 10 (fun KK hKK=>?_);obtain⟨ha0,hf0,ha1,hf1⟩:=(hHeld.has 0 rfl).sf2;obtain⟨csx,hbx,-,hcx⟩:=hHeld.has 0 rfl;(try clear HQ0);(try clear HQ1);clear hbx hcx;go_simp;have HS_0:=(hHeld.has 0 rfl).laid [.float .f64 r1,.float .f64 r2] rfl;refine hKK.out _ _ (hHeld.over 0 rfl [.float .f64 r1,.float .f64 r2] rfl rfl (by first | omega | exact hHeld.le_of 0 rfl) (by simp<;>omega) (by simp<;>omega)) (fun _=>?_);clear hKK KK hHeld;rename_i hHeld;(try simp only [Act.put,lay]);refine wpAnyH_done (by kernel_rfl) ?_ _;have LB:=Hd hHeld.b;clear hHeld;obtain⟨hk4_0,hk4_1⟩:=HS_0.c2;clear HS_0
 simp [sets] at hk4_0 hk4_1
 go_wp2;refine bodyPost_ret (v:=.agg #[.float .f64 r1,.float .f64 r2]) (by simp [results,Tryz.results6,go_sem,hk4_0,hk4_1]) rfl ?_
 exact⟨rfl,LB.out⟩
end Go.Proofs.YtfcpabgampebaaaGreat
namespace Go.Proofs.YtfcpabgampebaaaGreat
open Go.RowKit
attribute [local go_sem] run_store_float
theorem fplainf(b:Nat)(w:World)(hb:b<18446744073709551616)(hr:rungOf b≤M):Calls Tryz.prog 44 #[.float .f64 b] w fun e w'=>e=.returned (.float .f64 (pat (idx b)))∧w=w':=by
 have ho:FloatKind.f64.format.order b 0=some (compare (idx b) (idx 0)):=order_real hr (by show rungOf 0≤M;decide);rw [show idx 0=0 from by decide] at ho;have hp:=pl_real hb hr
 by_cases h:idx b=0
 ·have hq:(FloatKind.f64.format.order b 0 == some Ordering.eq)=true:=by rw [ho,h];rfl
  rw [h,pat_zero];clear ho hp h hr
  go_enter Tryz.func44,Tryz.ntmps44
  go_wp2
  go_ret
  exact⟨rfl,rfl⟩
 ·have hq:(FloatKind.f64.format.order b 0 == some Ordering.eq)=false:=by
   rw [ho]
   rcases Int.lt_trichotomy (idx b) 0 with h1 | h1 | h1
   ·rw [show compare (idx b) 0=.lt from Int.compare_eq_lt.2 h1];rfl
   ·exact absurd h1 h
   ·rw [show compare (idx b) 0=.gt from Int.compare_eq_gt.2 h1];rfl
  have e:pat (idx b)=b:=by
   rw [← hp];unfold pl;have:=pat_cases hb;rw [if_neg (by omega),if_neg (by omega)]
  rw [e];clear ho hp h hr e
  go_enter Tryz.func44,Tryz.ntmps44
  go_wp2
  go_ret
  exact⟨rfl,rfl⟩
end Go.Proofs.YtfcpabgampebaaaGreat
namespace Go.Proofs.YtfcpabgampebaaaGreat
open Go.RowKit
def Bx(w:World)(g p q:Nat):Prop:=Blk w g 27 #[.float .f64 p,.float .f64 q]
theorem Bx.keep{w w':World}{g p q:Nat}(h:Bx w g p q)(hb:Below w.heap.size w w'):Bx w' g p q:=Blk.keep h hb
theorem Bx.set{w:World}{g p q:Nat}(h:Bx w g p q)(a b:Nat):Bx ((w.setCell ⟨g,0,none⟩ (.float .f64 a)).setCell ⟨g,1,none⟩ (.float .f64 b)) g a b:=by
 have h1:=Blk.sets [.float .f64 a,.float .f64 b] 0 _ _ h;unfold Bx
 simpa [laid,sets] using h1
theorem Bx.far{w:World}{g p q r:Nat}(h:Bx w g p q)(hr:g≠r)(a b:Value):Bx ((w.setCell ⟨r,0,none⟩ a).setCell ⟨r,1,none⟩ b) g p q:=Blk.other h hr 0 [a,b]
structure Kp (g0 g1 g2:Nat) (w w':World):Prop where
 os:w'.os=w.os
 tape:w'.tape=w.tape
 output:w'.output=w.output
 size:w.heap.size≤w'.heap.size
 block:∀ k,k<w.heap.size→k≠g0→k≠g1→k≠g2→w'.heap[k]?=w.heap[k]?
theorem Kp.refl(g0 g1 g2:Nat)(w:World):Kp g0 g1 g2 w w:=⟨rfl,rfl,rfl,Nat.le_refl _,fun _ _ _ _ _=>rfl⟩
theorem Kp.below{g0 g1 g2:Nat}{w w1 w2:World}(h:Kp g0 g1 g2 w w1)(hb:Below w1.heap.size w1 w2):Kp g0 g1 g2 w w2:=
 ⟨hb.os.trans h.os,hb.tape.trans h.tape,hb.output.trans h.output,Nat.le_trans h.size hb.size,fun k hk a b c=>(hb.block k (Nat.lt_of_lt_of_le hk h.size)).trans (h.block k hk a b c)⟩
theorem Kp.set{g0 g1 g2 r:Nat}{w w1:World}(h:Kp g0 g1 g2 w w1)(hr:r=g0∨r=g1∨r=g2)(a b:Value):Kp g0 g1 g2 w ((w1.setCell ⟨r,0,none⟩ a).setCell ⟨r,1,none⟩ b):=
 ⟨h.os,h.tape,h.output,by have:=size_sets (r:=r) [a,b] 0 w1;have:=h.size;show w.heap.size≤(sets w1 r 0 [a,b]).heap.size;omega,
  fun k hk x y z=>(heap_sets (r:=r) (k:=k) (by rintro rfl;rcases hr with e | e | e<;>contradiction) [a,b] 0 w1).trans (h.block k hk x y z)⟩
theorem Kp.cell{g0 g1 g2:Nat}{w w1:World}(h:Kp g0 g1 g2 w w1){ad:Addr}{v:Value}(hc:w.cell? ad=some v)(h0:ad.block≠g0)(h1:ad.block≠g1)(h2:ad.block≠g2):w1.cell? ad=some v:=by
 have hlt:ad.block<w.heap.size:=by
  unfold World.cell? at hc
  split at hc
  ·rename_i e
   exact (Array.getElem?_eq_some_iff.1 e).1
  ·cases hc
 rw [World.cell?_of_block (w:=w)]
 ·exact hc
 ·exact h.block _ hlt h0 h1 h2
theorem Kp.toBl{g0 g1 g2 B:Nat}{w0 w w':World}(h:Kp g0 g1 g2 w w')(hb:Below B w0 w)(hB:B≤w.heap.size)(h0:B≤g0)(h1:B≤g1)(h2:B≤g2):Below B w0 w':=
 ⟨h.os.trans hb.os,h.tape.trans hb.tape,h.output.trans hb.output,Nat.le_trans hb.size h.size,fun k hk=>(h.block k (by omega) (by omega) (by omega) (by omega)).trans (hb.block k hk)⟩
end Go.Proofs.YtfcpabgampebaaaGreat
namespace Go.Proofs.YtfcpabgampebaaaGreat
open Go.RowKit
attribute [local go_sem] run_store_float run_eqf
def anyB(f:Nat→Bool):Nat→Bool
 | 0=>false
 | n+1=>anyB f n || f n
structure KeepN (G n:Nat) (w w':World):Prop where
 os:w'.os=w.os
 tape:w'.tape=w.tape
 output:w'.output=w.output
 size:w.heap.size≤w'.heap.size
 block:∀ k,k<w.heap.size→(k<G∨G+n≤k)→w'.heap[k]?=w.heap[k]?
theorem KeepN.refl(G n:Nat)(w:World):KeepN G n w w:=⟨rfl,rfl,rfl,Nat.le_refl _,fun _ _ _=>rfl⟩
theorem KeepN.below{G n:Nat}{w w1 w2:World}(h:KeepN G n w w1)(hb:Below w1.heap.size w1 w2):KeepN G n w w2:=
 ⟨hb.os.trans h.os,hb.tape.trans h.tape,hb.output.trans h.output,Nat.le_trans h.size hb.size,fun k hk a=>(hb.block k (Nat.lt_of_lt_of_le hk h.size)).trans (h.block k hk a)⟩
theorem KeepN.drew{G n:Nat}{w w1:World}(h:KeepN G n w w1):KeepN G n w w1.drew:=⟨h.os,h.tape,h.output,h.size,h.block⟩
theorem KeepN.set{G n t:Nat}{w w1:World}(h:KeepN G n w w1)(ht:t<n)(a b:Value):KeepN G n w ((w1.setCell ⟨G+t,0,none⟩ a).setCell ⟨G+t,1,none⟩ b):=
 ⟨h.os,h.tape,h.output,by have:=size_sets (r:=G+t) [a,b] 0 w1;have:=h.size;show w.heap.size≤(sets w1 (G+t) 0 [a,b]).heap.size;omega,
  fun k hk x=>(heap_sets (r:=G+t) (k:=k) (by omega) [a,b] 0 w1).trans (h.block k hk x)⟩
theorem KeepN.cell{G n:Nat}{w w1:World}(h:KeepN G n w w1){ad:Addr}{v:Value}(hc:w.cell? ad=some v)(h0:ad.block<G∨G+n≤ad.block):w1.cell? ad=some v:=by
 have hlt:ad.block<w.heap.size:=by
  unfold World.cell? at hc
  split at hc
  ·rename_i e
   exact (Array.getElem?_eq_some_iff.1 e).1
  ·cases hc
 rw [World.cell?_of_block (w:=w)]
 ·exact hc
 ·exact h.block _ hlt h0
theorem KeepN.toBl{G n B:Nat}{w0 w w':World}(h:KeepN G n w w')(hb:Below B w0 w)(hB:B≤w.heap.size)(h0:B≤G):Below B w0 w':=
 ⟨h.os.trans hb.os,h.tape.trans hb.tape,h.output.trans hb.output,Nat.le_trans hb.size h.size,fun k hk=>(h.block k (by omega) (by omega)).trans (hb.block k hk)⟩
theorem read_n(G n gl cap:Nat)(xs ps:Nat→Nat × Nat)(em:Nat→Bool)(w:World)(hn:n≤100)(hgl:G+n≤gl)
  (hc:∀ k:Nat,k<n→w.cell? ⟨gl,k,none⟩=some (.pointer (some ⟨G+k,0,none⟩)))(hb:∀ k:Nat,k<n→Bx w (G+k) (xs k).1 (xs k).2)
  (hr:∀ k:Nat,k<n→∀ W,Calls Tryz.prog 71 #[.agg #[.float .f64 (xs k).1,.float .f64 (xs k).2]] W fun e w'=>e=.returned (.agg #[.float .f64 (ps k).1,.float .f64 (ps k).2])∧Below W.heap.size W w')
  (he:∀ k:Nat,k<n→Em (em k) (ps k).1 (ps k).2):
  Calls Tryz.prog 42 #[.slice (some ⟨gl,0,none⟩) n cap] w fun e w'=>e=.returned (.bool (anyB em n))∧(∀ k:Nat,k<n→Bx w' (G+k) (ps k).1 (ps k).2)∧KeepN G n w w':=by
 have HC:=Hd hc;have HB:=Hd hb;have HR:=Hd hr;have HE:=Hd he;have HEM:=Hd emptyf;clear hc hb hr he
 go_enter Tryz.func42,Tryz.ntmps42
 go_wp2
 go_loopw [3,5,8] (fun nv _ iv wr=>∃ k:Nat,iv=.int .i64 k∧nv=.bool (anyB em k)∧k≤n∧(∀ t:Nat,t<k→Bx wr (G+t) (ps t).1 (ps t).2)∧(∀ t:Nat,k≤t→t<n→Bx wr (G+t) (xs t).1 (xs t).2)∧KeepN G n w wr) (fun _ _ iv _=>n - (intOf iv).toNat)
 case atStart=>exact⟨0,rfl,rfl,Nat.zero_le _,fun t h=>absurd h (by omega),fun t _ h=>HB.out t h,KeepN.refl _ _ _⟩
 case round=>
  obtain⟨k,rfl,rfl,hk,hd,hl,hkp⟩:=hrel;have HD:=Hd hd;have HL:=Hd hl;have HK:=Hd hkp;clear hd hl hkp
  by_cases hlt:k<n
  ·have hc:=HK.out.cell (HC.out k hlt) (.inr hgl);have hbx:=HL.out k (Nat.le_refl _) hlt;have hem:=HE.out k hlt;have hrd:=HR.out k hlt;have hS:anyB em (k+1)=(anyB em k || em k):=rfl
   obtain⟨p,hp⟩:∃ p,(ps k).1=p:=⟨_,rfl⟩
   obtain⟨q,hq⟩:∃ p,(ps k).2=p:=⟨_,rfl⟩
   obtain⟨x,hx⟩:∃ p,(xs k).1=p:=⟨_,rfl⟩
   obtain⟨y,hy⟩:∃ p,(xs k).2=p:=⟨_,rfl⟩
   rw [hp,hq] at hem hrd;rw [hx,hy] at hrd hbx
   obtain⟨na,hna⟩:∃ b,anyB em k=b:=⟨_,rfl⟩
   obtain⟨ea,hea⟩:∃ b,em k=b:=⟨_,rfl⟩
   rw [hna,hea] at hS;rw [hea] at hem;rw [hna];have HRD:=Hd hrd;have HMM:=Hd hem;have HP:=Hd hp;have HQ:=Hd hq;have HS:=Hd hS;clear hem hrd hp hq hx hy hna hea hS;have q0:_=some (.float .f64 x:Value):=Blk.cell hbx 0;have q1:_=some (.float .f64 y:Value):=Blk.cell hbx 1;go_wp2_with fail;refine (HRD.out _).mono ?_;rintro e w1 ⟨rfl,hb1⟩;have hb2:=Bx.keep hbx hb1;have HD1:=Hd fun t h=>(HD.out t h).keep hb1;have HL1:=Hd fun t h h'=>(HL.out t h h').keep hb1;have HK1:=Hd (HK.out.below hb1);clear hb1 q0 q1 HRD HD HL HK hc hbx;have q0:_=some (.float .f64 x:Value):=Blk.cell hb2 0;have q1:_=some (.float .f64 y:Value):=Blk.cell hb2 1;have f0:=Blk.frozen hb2 0;have f1:=Blk.frozen hb2 1;have HB2:=Hd (hb2.set p q)
   go_upto_region 6 with fail
   have HS6:=Hd (show (∀ t:Nat,t<k+1→Bx ((w1.setCell ⟨G+k,0,none⟩ (.float .f64 p)).setCell ⟨G+k,1,none⟩ (.float .f64 q)) (G+t) (ps t).1 (ps t).2)∧(∀ t:Nat,k+1≤t→t<n→Bx ((w1.setCell ⟨G+k,0,none⟩ (.float .f64 p)).setCell ⟨G+k,1,none⟩ (.float .f64 q)) (G+t) (xs t).1 (xs t).2)∧KeepN G n w ((w1.setCell ⟨G+k,0,none⟩ (.float .f64 p)).setCell ⟨G+k,1,none⟩ (.float .f64 q)) from
    ⟨fun t h=>by
      by_cases e:t=k
      ·subst e;rw [HP.out,HQ.out];exact HB2.out
      ·exact (HD1.out t (by omega)).far (by omega) _ _,fun t h h'=>(HL1.out t (by omega) h').far (by omega) _ _,HK1.out.set hlt _ _⟩)
   obtain⟨W2,hW2⟩:∃ W,(w1.setCell ⟨G+k,0,none⟩ (.float .f64 p)).setCell ⟨G+k,1,none⟩ (.float .f64 q)=W:=⟨_,rfl⟩
   rw [hW2] at HS6 ⊢;clear hW2 q0 q1 f0 f1 hb2 HB2 HD1 HL1 HK1
   cases na
   ·obtain⟨hm1,hm2⟩:=HMM.out;clear HMM
    cases ea
    ·have m1:=hm2 rfl;clear hm1 hm2;refine wp_region_held_drew (S:=fun W'=>(∀ t:Nat,t<k+1→Bx W' (G+t) (ps t).1 (ps t).2)∧(∀ t:Nat,k+1≤t→t<n→Bx W' (G+t) (xs t).1 (xs t).2)∧KeepN G n w W') (by kernel_rfl) (by exact⟨fun t h=>HS6.out.1 t h,fun t h h2=>HS6.out.2.1 t h h2,HS6.out.2.2.drew⟩) (fun hHeld=>?_);refine tk 0 ?_;(try simp only [Act.put,lay]);refine tk 1 ?_;(try simp only [Act.put,lay]);refine tk 2 ?_;(try simp only [Act.put,lay]);refine tk 3 ?_;(try simp only [Act.put,lay]);refine tk 4 ?_ (hv:=by intro W2 hSw;have hbx:=hSw.1 k (by omega);rw [HP.out,HQ.out] at hbx;have q0:_=some (.float .f64 p:Value):=Blk.cell hbx 0;have q1:_=some (.float .f64 q:Value):=Blk.cell hbx 1;go_simp;(try with_reducible rfl));(try simp only [Act.put,lay]);refine rdy 5 (fun KK hKK=>?_);go_simp;refine (HEM.out _).mono ?_;rintro e w3 ⟨rfl,hbE⟩;go_wp2_with fail;refine hKK.out _ _ (⟨fun t h=>(hHeld.1 t h).keep hbE,fun t h h2=>(hHeld.2.1 t h h2).keep hbE,hHeld.2.2.below hbE⟩) (fun _=>?_);clear hKK KK hHeld;rename_i hHeld;(try simp only [Act.put,lay]);refine tk 6 ?_;(try simp only [Act.put,lay]);refine tk 7 ?_;(try simp only [Act.put,lay]);refine tk 8 ?_;(try simp only [Act.put,lay]);refine wpAnyH_done (by kernel_rfl) ?_ _;go_wp2
     go_roundw
     case rel=>exact⟨k+1,by go_num,by rw [HS.out];rfl,by omega,hHeld.1,hHeld.2.1,hHeld.2.2⟩
     case measure=>simp [intOf];omega
    ·obtain⟨m1,m2⟩:=hm1 rfl;clear hm1 hm2;refine wp_region_held_drew (S:=fun W'=>(∀ t:Nat,t<k+1→Bx W' (G+t) (ps t).1 (ps t).2)∧(∀ t:Nat,k+1≤t→t<n→Bx W' (G+t) (xs t).1 (xs t).2)∧KeepN G n w W') (by kernel_rfl) (by exact⟨fun t h=>HS6.out.1 t h,fun t h h2=>HS6.out.2.1 t h h2,HS6.out.2.2.drew⟩) (fun hHeld=>?_);refine tk 0 ?_;(try simp only [Act.put,lay]);refine tk 1 ?_;(try simp only [Act.put,lay]);refine tk 2 ?_;(try simp only [Act.put,lay]);refine tk 3 ?_;(try simp only [Act.put,lay]);refine tk 4 ?_ (hv:=by intro W2 hSw;have hbx:=hSw.1 k (by omega);rw [HP.out,HQ.out] at hbx;have q0:_=some (.float .f64 p:Value):=Blk.cell hbx 0;have q1:_=some (.float .f64 q:Value):=Blk.cell hbx 1;go_simp;(try with_reducible rfl));(try simp only [Act.put,lay]);refine rdy 5 (fun KK hKK=>?_);go_simp;refine (HEM.out _).mono ?_;rintro e w3 ⟨rfl,hbE⟩;go_wp2_with fail;refine hKK.out _ _ (⟨fun t h=>(hHeld.1 t h).keep hbE,fun t h h2=>(hHeld.2.1 t h h2).keep hbE,hHeld.2.2.below hbE⟩) (fun _=>?_);clear hKK KK hHeld;rename_i hHeld;(try simp only [Act.put,lay]);refine tk 6 ?_;(try simp only [Act.put,lay]);refine tk 7 ?_;(try simp only [Act.put,lay]);refine tk 8 ?_;(try simp only [Act.put,lay]);refine wpAnyH_done (by kernel_rfl) ?_ _;go_wp2
     go_roundw
     case rel=>exact⟨k+1,by go_num,by rw [HS.out];rfl,by omega,hHeld.1,hHeld.2.1,hHeld.2.2⟩
     case measure=>simp [intOf];omega
   ·skip;refine wp_region_held_drew (S:=fun W'=>(∀ t:Nat,t<k+1→Bx W' (G+t) (ps t).1 (ps t).2)∧(∀ t:Nat,k+1≤t→t<n→Bx W' (G+t) (xs t).1 (xs t).2)∧KeepN G n w W') (by kernel_rfl) (by exact⟨fun t h=>HS6.out.1 t h,fun t h h2=>HS6.out.2.1 t h h2,HS6.out.2.2.drew⟩) (fun hHeld=>?_);refine tk 0 ?_;(try simp only [Act.put,lay]);refine tk 1 ?_;(try simp only [Act.put,lay]);refine tkn 2 ?_;(try simp only [Act.put,lay]);refine tkn 3 ?_;(try simp only [Act.put,lay]);refine tkn 4 ?_;(try simp only [Act.put,lay]);refine tkn 5 ?_;(try simp only [Act.put,lay]);refine tkn 6 ?_;(try simp only [Act.put,lay]);refine tk 7 ?_;(try simp only [Act.put,lay]);refine tk 8 ?_;(try simp only [Act.put,lay]);refine wpAnyH_done (by kernel_rfl) ?_ _;go_wp2
    go_roundw
    case rel=>exact⟨k+1,by go_num,by rw [HS.out];rfl,by omega,hHeld.1,hHeld.2.1,hHeld.2.2⟩
    case measure=>simp [intOf];omega
  ·obtain rfl:k=n:=by omega
   go_wp2
   go_ret
   exact⟨rfl,HD.out,HK.out⟩
end Go.Proofs.YtfcpabgampebaaaGreat
namespace Go.Proofs.YtfcpabgampebaaaGreat
open Go.RowKit
theorem KeepN.blk{G n r:Nat}{t:TypeId}{cs:Array Value}{w w':World}(h:KeepN G n w w')(hr:Blk w r t cs)(h0:r<G∨G+n≤r):Blk w' r t cs:=(h.block r hr.lt h0).trans hr
end Go.Proofs.YtfcpabgampebaaaGreat
