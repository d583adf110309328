/-
Lemmas for the statement: PwnT PwnI RwT.
-/
import Derived.Test.YthlmlmfebpjgdaaGreatDoorPAbT
import Derived.Test.YthlmlmfebpjgdaaGreatDoorPRoot2T
import Derived.Deep.DeepCutAuto
import Derived.Test.YthlmlmfebpjgdaaGreatDoorM40
import Derived.Test.YthlmlmfebpjgdaaGreatDoorPMinusT
import Derived.Test.YthlmlmfebpjgdaaGreatDoorM20
import Derived.Test.YthlmlmfebpjgdaaGreatDoorM06
set_option linter.unusedSimpArgs false
set_option linter.unusedVariables false
set_option maxHeartbeats 12800000
namespace Go.Proofs.YthlmlmfebpjgdaaGreatDoor
section
open Go.RowKit
attribute [local go_sem] run_store_float run_negf
set_option maxRecDepth 8000 in
theorem pownz_lo(z:Int)(b1 b2 c1 c2 r1 r2:Nat)(w:World)(hz:z < -1024)(hR:∀ W,Calls Tryz.prog 102 #[.agg #[.float .f64 c1,.float .f64 c2]] W fun e w'=>e=.returned (.agg #[.float .f64 r1,.float .f64 r2])∧Below W.heap.size W w'):
  Calls Tryz.prog 39 #[.int .i64 z,.agg #[.float .f64 b1,.float .f64 b2],.agg #[.float .f64 c1,.float .f64 c2]] w fun e w'=>e=.returned (.agg #[.float .f64 r1,.float .f64 r2])∧Below w.heap.size w w':=by
 have HR:=Hd hR;clear hR;have LL:=li3 w #[.float .f64 b1,.float .f64 b2] 28 #[.float .f64 c1,.float .f64 c2] 28 #[.float .f64 0,.float .f64 0] 28
 go_enter Tryz.func39,Tryz.ntmps39
 obtain⟨q1_0,q1_1⟩:=(LL.out.blk 1 rfl).c2;go_wp2_with fail;refine (HR.out _).mono ?_;rintro e wk ⟨rfl,hb⟩;replace LL:=stL LL hb;clear hb q1_0 q1_1;replace LL:=Hd (LL.out.loose 2 rfl rfl)
 simp only [List.eraseIdx,List.size_toArray,List.length_cons,List.length_nil,Nat.zero_add,Nat.reduceAdd] at LL
 obtain⟨ha6_0,hf6_0,ha6_1,hf6_1⟩:=(LL.out.has 0 rfl).sf2;have LF:=Hd (LL.out.write [.float .f64 r1,.float .f64 r2] rfl (by omega) (by simp<;>omega) (by simp<;>omega));obtain⟨hk6_0,hk6_1⟩:=(LF.out.blk 2 rfl).c2
 simp [sets] at hk6_0 hk6_1
 clear LL;go_wp2;refine bodyPost_ret (v:=.agg #[.float .f64 r1,.float .f64 r2]) (by simp [results,Tryz.results39,go_sem,hk6_0,hk6_1]) rfl ?_
 exact⟨rfl,LF.out.b⟩
set_option maxRecDepth 8000 in
theorem pownz_hi(z:Int)(b1 b2 c1 c2 r1 r2:Nat)(w:World)(hz:1024<z)(hR:∀ W,Calls Tryz.prog 102 #[.agg #[.float .f64 c1,.float .f64 c2]] W fun e w'=>e=.returned (.agg #[.float .f64 r1,.float .f64 r2])∧Below W.heap.size W w'):
  Calls Tryz.prog 39 #[.int .i64 z,.agg #[.float .f64 b1,.float .f64 b2],.agg #[.float .f64 c1,.float .f64 c2]] w fun e w'=>e=.returned (.agg #[.float .f64 r1,.float .f64 r2])∧Below w.heap.size w w':=by
 have hz2:¬ z < -1024:=by omega
 have HR:=Hd hR;clear hR;have LL:=li3 w #[.float .f64 b1,.float .f64 b2] 28 #[.float .f64 c1,.float .f64 c2] 28 #[.float .f64 0,.float .f64 0] 28
 go_enter Tryz.func39,Tryz.ntmps39
 obtain⟨q1_0,q1_1⟩:=(LL.out.blk 1 rfl).c2;go_wp2_with fail;refine (HR.out _).mono ?_;rintro e wk ⟨rfl,hb⟩;replace LL:=stL LL hb;clear hb q1_0 q1_1;replace LL:=Hd (LL.out.loose 2 rfl rfl)
 simp only [List.eraseIdx,List.size_toArray,List.length_cons,List.length_nil,Nat.zero_add,Nat.reduceAdd] at LL
 obtain⟨ha6_0,hf6_0,ha6_1,hf6_1⟩:=(LL.out.has 0 rfl).sf2;have LF:=Hd (LL.out.write [.float .f64 r1,.float .f64 r2] rfl (by omega) (by simp<;>omega) (by simp<;>omega));obtain⟨hk6_0,hk6_1⟩:=(LF.out.blk 2 rfl).c2
 simp [sets] at hk6_0 hk6_1
 clear LL;go_wp2;refine bodyPost_ret (v:=.agg #[.float .f64 r1,.float .f64 r2]) (by simp [results,Tryz.results39,go_sem,hk6_0,hk6_1]) rfl ?_
 exact⟨rfl,LF.out.b⟩
set_option maxRecDepth 8000 in
theorem pownz_none(z:Int)(b1 b2 c1 c2 A1 A2 x1 x2:Nat)(d1 d2:Bool)(w:World)(t1:∀ W,Calls Tryz.prog 102 #[.agg #[.float .f64 b1,.float .f64 b2]] W fun e w'=>e=.returned (.agg #[.float .f64 A1,.float .f64 A2])∧Below W.heap.size W w')(m1:Em d1 A1 A2)(t2:∀ W,Calls Tryz.prog 102 #[.agg #[.float .f64 c1,.float .f64 c2]] W fun e w'=>e=.returned (.agg #[.float .f64 x1,.float .f64 x2])∧Below W.heap.size W w')(m2:Em d2 x1 x2)(h1:¬ z < -1024)(h2:¬ 1024<z)(hnn:(d1 || d2)=true):
  Calls Tryz.prog 39 #[.int .i64 z,.agg #[.float .f64 b1,.float .f64 b2],.agg #[.float .f64 c1,.float .f64 c2]] w fun e w'=>e=.returned (.agg #[.float .f64 9218868437227405312,.float .f64 18442240474082181120])∧Below w.heap.size w w':=by
 have HE:=Hd emptyf;have LL:=li3 w #[.float .f64 b1,.float .f64 b2] 28 #[.float .f64 c1,.float .f64 c2] 28 #[.float .f64 0,.float .f64 0] 28;have hrow:=Blk.at (W:=(((w.alloc (.cells #[.float .f64 b1,.float .f64 b2] 28)).alloc (.cells #[.float .f64 c1,.float .f64 c2] 28)).alloc (.cells #[.float .f64 0,.float .f64 0] 28))) (g:=w.heap.size+1+1+1) (by simp) 75 #[.pointer (some ⟨w.heap.size,0,none⟩),.pointer (some ⟨w.heap.size+1,0,none⟩)]
 have HRD:=Hd (read_n w.heap.size 2 (w.heap.size+1+1+1) 2 (fun k:Nat=>if k=0 then (b1,b2) else (c1,c2)) (fun k:Nat=>if k=0 then (A1,A2) else (x1,x2)) (fun k:Nat=>if k=0 then d1 else d2) _ (by omega) (by omega)
  (fun k hk=>by match k,hk with | 0,_=>exact hrow.cell 0 | 1,_=>exact hrow.cell 1) (fun k hk=>by match k,hk with | 0,_=>exact (LL.out.blk 0 rfl).alloc (.cells #[.pointer (some ⟨w.heap.size,0,none⟩),.pointer (some ⟨w.heap.size+1,0,none⟩)] 75) | 1,_=>exact (LL.out.blk 1 rfl).alloc (.cells #[.pointer (some ⟨w.heap.size,0,none⟩),.pointer (some ⟨w.heap.size+1,0,none⟩)] 75)) (fun k hk=>by match k,hk with | 0,_=>exact t1 | 1,_=>exact t2) (fun k hk=>by match k,hk with | 0,_=>exact m1 | 1,_=>exact m2))
 rw [show anyB (fun k:Nat=>if k=0 then d1 else d2) 2=(d1 || d2) from by simp [anyB],hnn] at HRD;have LLR:=Hd (LL.out.alloc (.cells #[.pointer (some ⟨w.heap.size,0,none⟩),.pointer (some ⟨w.heap.size+1,0,none⟩)] 75));have HSZ:=Hd (show w.heap.size≤(((((w.alloc (.cells #[.float .f64 b1,.float .f64 b2] 28)).alloc (.cells #[.float .f64 c1,.float .f64 c2] 28)).alloc (.cells #[.float .f64 0,.float .f64 0] 28))).alloc (.cells #[.pointer (some ⟨w.heap.size,0,none⟩),.pointer (some ⟨w.heap.size+1,0,none⟩)] 75)).heap.size by simp;omega);clear t1 m1 t2 m2 hrow hnn LL
 go_enter Tryz.func39,Tryz.ntmps39
 go_wp2_with fail;refine HRD.out.mono ?_;rintro e wk ⟨rfl,hd,kp⟩;have LL:=Hd (show Lies w wk [(w.heap.size,28,#[.float .f64 A1,.float .f64 A2]),((w.heap.size+1),28,#[.float .f64 x1,.float .f64 x2]),((w.heap.size+2),28,#[.float .f64 0,.float .f64 0])] [] from⟨kp.toBl LLR.out.b HSZ.out (Nat.le_refl _),by simp only [List.mem_cons,List.not_mem_nil,or_false,forall_eq_or_imp,forall_eq];exact⟨show Blk wk w.heap.size 28 #[.float .f64 A1,.float .f64 A2] from hd 0 (by omega),show Blk wk (w.heap.size+1) 28 #[.float .f64 x1,.float .f64 x2] from hd 1 (by omega),kp.blk (LLR.out.blk 2 rfl) (by omega)⟩,by simp⟩);clear hd kp LLR HSZ HRD;go_wp2_with fail;refine (HE.out _).mono ?_;rintro e wk ⟨rfl,hb⟩;replace LL:=stL LL hb;clear hb;replace LL:=Hd (LL.out.loose 2 rfl rfl)
 simp only [List.eraseIdx,List.size_toArray,List.length_cons,List.length_nil,Nat.zero_add,Nat.reduceAdd] at LL
 obtain⟨ha6_0,hf6_0,ha6_1,hf6_1⟩:=(LL.out.has 0 rfl).sf2;have LF:=Hd (LL.out.write [.float .f64 9218868437227405312,.float .f64 18442240474082181120] rfl (by omega) (by simp<;>omega) (by simp<;>omega));obtain⟨hk6_0,hk6_1⟩:=(LF.out.blk 2 rfl).c2
 simp [sets] at hk6_0 hk6_1
 clear LL;go_wp2;refine bodyPost_ret (v:=.agg #[.float .f64 9218868437227405312,.float .f64 18442240474082181120]) (by simp [results,Tryz.results39,go_sem,hk6_0,hk6_1]) rfl ?_
 exact⟨rfl,LF.out.b⟩
set_option maxRecDepth 8000 in
theorem pownz_in(b1 b2 c1 c2 A1 A2 x1 x2:Nat)(d1 d2:Bool)(o1 o2:Ordering)(w:World)(t1:∀ W,Calls Tryz.prog 102 #[.agg #[.float .f64 b1,.float .f64 b2]] W fun e w'=>e=.returned (.agg #[.float .f64 A1,.float .f64 A2])∧Below W.heap.size W w')(m1:Em d1 A1 A2)(t2:∀ W,Calls Tryz.prog 102 #[.agg #[.float .f64 c1,.float .f64 c2]] W fun e w'=>e=.returned (.agg #[.float .f64 x1,.float .f64 x2])∧Below W.heap.size W w')(m2:Em d2 x1 x2)(hnn:(d1 || d2)=false)(ho1:FloatKind.f64.format.order A1 4607182418800017408=some o1)(ho2:FloatKind.f64.format.order A2 4607182418800017408=some o2)(k1:o1=.lt∨o1=.eq)(k2:o2=.gt∨o2=.eq):
  Calls Tryz.prog 39 #[.int .i64 0,.agg #[.float .f64 b1,.float .f64 b2],.agg #[.float .f64 c1,.float .f64 c2]] w fun e w'=>e=.returned (.agg #[.float .f64 x1,.float .f64 x2])∧Below w.heap.size w w':=by
 rcases k1 with rfl | rfl<;>rcases k2 with rfl | rfl
 all_goals
  have LL:=li3 w #[.float .f64 b1,.float .f64 b2] 28 #[.float .f64 c1,.float .f64 c2] 28 #[.float .f64 0,.float .f64 0] 28;have hrow:=Blk.at (W:=(((w.alloc (.cells #[.float .f64 b1,.float .f64 b2] 28)).alloc (.cells #[.float .f64 c1,.float .f64 c2] 28)).alloc (.cells #[.float .f64 0,.float .f64 0] 28))) (g:=w.heap.size+1+1+1) (by simp) 75 #[.pointer (some ⟨w.heap.size,0,none⟩),.pointer (some ⟨w.heap.size+1,0,none⟩)]
  have HRD:=Hd (read_n w.heap.size 2 (w.heap.size+1+1+1) 2 (fun k:Nat=>if k=0 then (b1,b2) else (c1,c2)) (fun k:Nat=>if k=0 then (A1,A2) else (x1,x2)) (fun k:Nat=>if k=0 then d1 else d2) _ (by omega) (by omega)
   (fun k hk=>by match k,hk with | 0,_=>exact hrow.cell 0 | 1,_=>exact hrow.cell 1) (fun k hk=>by match k,hk with | 0,_=>exact (LL.out.blk 0 rfl).alloc (.cells #[.pointer (some ⟨w.heap.size,0,none⟩),.pointer (some ⟨w.heap.size+1,0,none⟩)] 75) | 1,_=>exact (LL.out.blk 1 rfl).alloc (.cells #[.pointer (some ⟨w.heap.size,0,none⟩),.pointer (some ⟨w.heap.size+1,0,none⟩)] 75)) (fun k hk=>by match k,hk with | 0,_=>exact t1 | 1,_=>exact t2) (fun k hk=>by match k,hk with | 0,_=>exact m1 | 1,_=>exact m2))
  rw [show anyB (fun k:Nat=>if k=0 then d1 else d2) 2=(d1 || d2) from by simp [anyB],hnn] at HRD;have LLR:=Hd (LL.out.alloc (.cells #[.pointer (some ⟨w.heap.size,0,none⟩),.pointer (some ⟨w.heap.size+1,0,none⟩)] 75));have HSZ:=Hd (show w.heap.size≤(((((w.alloc (.cells #[.float .f64 b1,.float .f64 b2] 28)).alloc (.cells #[.float .f64 c1,.float .f64 c2] 28)).alloc (.cells #[.float .f64 0,.float .f64 0] 28))).alloc (.cells #[.pointer (some ⟨w.heap.size,0,none⟩),.pointer (some ⟨w.heap.size+1,0,none⟩)] 75)).heap.size by simp;omega);clear t1 m1 t2 m2 hrow hnn LL
  go_enter Tryz.func39,Tryz.ntmps39
  go_wp2_with fail;refine HRD.out.mono ?_;rintro e wk ⟨rfl,hd,kp⟩;have LL:=Hd (show Lies w wk [(w.heap.size,28,#[.float .f64 A1,.float .f64 A2]),((w.heap.size+1),28,#[.float .f64 x1,.float .f64 x2]),((w.heap.size+2),28,#[.float .f64 0,.float .f64 0])] [] from⟨kp.toBl LLR.out.b HSZ.out (Nat.le_refl _),by simp only [List.mem_cons,List.not_mem_nil,or_false,forall_eq_or_imp,forall_eq];exact⟨show Blk wk w.heap.size 28 #[.float .f64 A1,.float .f64 A2] from hd 0 (by omega),show Blk wk (w.heap.size+1) 28 #[.float .f64 x1,.float .f64 x2] from hd 1 (by omega),kp.blk (LLR.out.blk 2 rfl) (by omega)⟩,by simp⟩);clear hd kp LLR HSZ HRD;obtain⟨q1_0,q1_1⟩:=(LL.out.blk 0 rfl).c2;obtain⟨q2_0,q2_1⟩:=(LL.out.blk 1 rfl).c2
  go_upto_region 6 with fail
  clear ho1 ho2 q1_0 q1_1 q2_0 q2_1;obtain⟨q3_0,q3_1⟩:=(LL.out.blk 1 rfl).c2;replace LL:=Hd (LL.out.loose 2 rfl rfl)
  simp only [List.eraseIdx,List.size_toArray,List.length_cons,List.length_nil,Nat.zero_add,Nat.reduceAdd] at LL
  obtain⟨ha6_0,hf6_0,ha6_1,hf6_1⟩:=(LL.out.has 0 rfl).sf2;have LF:=Hd (LL.out.write [.float .f64 x1,.float .f64 x2] rfl (by omega) (by simp<;>omega) (by simp<;>omega));obtain⟨hk6_0,hk6_1⟩:=(LF.out.blk 2 rfl).c2
  simp [sets] at hk6_0 hk6_1
  clear LL;go_wp2;refine bodyPost_ret (v:=.agg #[.float .f64 x1,.float .f64 x2]) (by simp [results,Tryz.results39,go_sem,hk6_0,hk6_1]) rfl ?_
  exact⟨rfl,LF.out.b⟩
set_option maxRecDepth 8000 in
theorem pownz_out(b1 b2 c1 c2 A1 A2 x1 x2:Nat)(d1 d2:Bool)(o1 o2:Ordering)(w:World)(t1:∀ W,Calls Tryz.prog 102 #[.agg #[.float .f64 b1,.float .f64 b2]] W fun e w'=>e=.returned (.agg #[.float .f64 A1,.float .f64 A2])∧Below W.heap.size W w')(m1:Em d1 A1 A2)(t2:∀ W,Calls Tryz.prog 102 #[.agg #[.float .f64 c1,.float .f64 c2]] W fun e w'=>e=.returned (.agg #[.float .f64 x1,.float .f64 x2])∧Below W.heap.size W w')(m2:Em d2 x1 x2)(hnn:(d1 || d2)=false)(ho1:FloatKind.f64.format.order A1 4607182418800017408=some o1)(ho2:FloatKind.f64.format.order A2 4607182418800017408=some o2)(k:o1=.gt∨(o1=.lt∧o2=.lt)∨(o1=.eq∧o2=.lt)):
  Calls Tryz.prog 39 #[.int .i64 0,.agg #[.float .f64 b1,.float .f64 b2],.agg #[.float .f64 c1,.float .f64 c2]] w fun e w'=>e=.returned (.agg #[.float .f64 9218868437227405312,.float .f64 18442240474082181120])∧Below w.heap.size w w':=by
 have HE:=Hd emptyf
 rcases k with rfl | ⟨rfl,rfl⟩ | ⟨rfl,rfl⟩
 all_goals
  have LL:=li3 w #[.float .f64 b1,.float .f64 b2] 28 #[.float .f64 c1,.float .f64 c2] 28 #[.float .f64 0,.float .f64 0] 28;have hrow:=Blk.at (W:=(((w.alloc (.cells #[.float .f64 b1,.float .f64 b2] 28)).alloc (.cells #[.float .f64 c1,.float .f64 c2] 28)).alloc (.cells #[.float .f64 0,.float .f64 0] 28))) (g:=w.heap.size+1+1+1) (by simp) 75 #[.pointer (some ⟨w.heap.size,0,none⟩),.pointer (some ⟨w.heap.size+1,0,none⟩)]
  have HRD:=Hd (read_n w.heap.size 2 (w.heap.size+1+1+1) 2 (fun k:Nat=>if k=0 then (b1,b2) else (c1,c2)) (fun k:Nat=>if k=0 then (A1,A2) else (x1,x2)) (fun k:Nat=>if k=0 then d1 else d2) _ (by omega) (by omega)
   (fun k hk=>by match k,hk with | 0,_=>exact hrow.cell 0 | 1,_=>exact hrow.cell 1) (fun k hk=>by match k,hk with | 0,_=>exact (LL.out.blk 0 rfl).alloc (.cells #[.pointer (some ⟨w.heap.size,0,none⟩),.pointer (some ⟨w.heap.size+1,0,none⟩)] 75) | 1,_=>exact (LL.out.blk 1 rfl).alloc (.cells #[.pointer (some ⟨w.heap.size,0,none⟩),.pointer (some ⟨w.heap.size+1,0,none⟩)] 75)) (fun k hk=>by match k,hk with | 0,_=>exact t1 | 1,_=>exact t2) (fun k hk=>by match k,hk with | 0,_=>exact m1 | 1,_=>exact m2))
  rw [show anyB (fun k:Nat=>if k=0 then d1 else d2) 2=(d1 || d2) from by simp [anyB],hnn] at HRD;have LLR:=Hd (LL.out.alloc (.cells #[.pointer (some ⟨w.heap.size,0,none⟩),.pointer (some ⟨w.heap.size+1,0,none⟩)] 75));have HSZ:=Hd (show w.heap.size≤(((((w.alloc (.cells #[.float .f64 b1,.float .f64 b2] 28)).alloc (.cells #[.float .f64 c1,.float .f64 c2] 28)).alloc (.cells #[.float .f64 0,.float .f64 0] 28))).alloc (.cells #[.pointer (some ⟨w.heap.size,0,none⟩),.pointer (some ⟨w.heap.size+1,0,none⟩)] 75)).heap.size by simp;omega);clear t1 m1 t2 m2 hrow hnn LL
  go_enter Tryz.func39,Tryz.ntmps39
  go_wp2_with fail;refine HRD.out.mono ?_;rintro e wk ⟨rfl,hd,kp⟩;have LL:=Hd (show Lies w wk [(w.heap.size,28,#[.float .f64 A1,.float .f64 A2]),((w.heap.size+1),28,#[.float .f64 x1,.float .f64 x2]),((w.heap.size+2),28,#[.float .f64 0,.float .f64 0])] [] from⟨kp.toBl LLR.out.b HSZ.out (Nat.le_refl _),by simp only [List.mem_cons,List.not_mem_nil,or_false,forall_eq_or_imp,forall_eq];exact⟨show Blk wk w.heap.size 28 #[.float .f64 A1,.float .f64 A2] from hd 0 (by omega),show Blk wk (w.heap.size+1) 28 #[.float .f64 x1,.float .f64 x2] from hd 1 (by omega),kp.blk (LLR.out.blk 2 rfl) (by omega)⟩,by simp⟩);clear hd kp LLR HSZ HRD;obtain⟨q1_0,q1_1⟩:=(LL.out.blk 0 rfl).c2;go_wp2_with fail;refine (HE.out _).mono ?_;rintro e wk ⟨rfl,hb⟩;replace LL:=stL LL hb;clear hb q1_0 q1_1 ho1 ho2;replace LL:=Hd (LL.out.loose 2 rfl rfl)
  simp only [List.eraseIdx,List.size_toArray,List.length_cons,List.length_nil,Nat.zero_add,Nat.reduceAdd] at LL
  obtain⟨ha6_0,hf6_0,ha6_1,hf6_1⟩:=(LL.out.has 0 rfl).sf2;have LF:=Hd (LL.out.write [.float .f64 9218868437227405312,.float .f64 18442240474082181120] rfl (by omega) (by simp<;>omega) (by simp<;>omega));obtain⟨hk6_0,hk6_1⟩:=(LF.out.blk 2 rfl).c2
  simp [sets] at hk6_0 hk6_1
  clear LL;go_wp2;refine bodyPost_ret (v:=.agg #[.float .f64 9218868437227405312,.float .f64 18442240474082181120]) (by simp [results,Tryz.results39,go_sem,hk6_0,hk6_1]) rfl ?_
  exact⟨rfl,LF.out.b⟩
set_option maxRecDepth 8000 in
theorem pownz_neg(n:Nat)(b1 b2 c1 c2 A1 A2 x1 x2:Nat)(d1 d2:Bool)(w:World)(t1:∀ W,Calls Tryz.prog 102 #[.agg #[.float .f64 b1,.float .f64 b2]] W fun e w'=>e=.returned (.agg #[.float .f64 A1,.float .f64 A2])∧Below W.heap.size W w')(m1:Em d1 A1 A2)(t2:∀ W,Calls Tryz.prog 102 #[.agg #[.float .f64 c1,.float .f64 c2]] W fun e w'=>e=.returned (.agg #[.float .f64 x1,.float .f64 x2])∧Below W.heap.size W w')(m2:Em d2 x1 x2)(hn:1≤n)(hn2:n≤1024)(hp:n % 2=0)(hnn:(d1 || d2)=false)(ho:FloatKind.f64.format.order A2 0=some .lt):
  Calls Tryz.prog 39 #[.int .i64 (-(n:Int)),.agg #[.float .f64 b1,.float .f64 b2],.agg #[.float .f64 c1,.float .f64 c2]] w fun e w'=>e=.returned (.agg #[.float .f64 9218868437227405312,.float .f64 18442240474082181120])∧Below w.heap.size w w':=by
 have HE:=Hd emptyf
 have n1:¬ -(n:Int) < -1024:=by omega
 have n2:¬ (1024:Int) < -(n:Int):=by omega
 have n3:(-(n:Int) == 0)=false:=by simp;omega
 have n4:-(n:Int)<0:=by omega
 have n5:(-(n:Int)) % 2=0:=by omega
 have n6:(-(n:Int)).tmod 2=0:=by rw [Int.neg_tmod,Int.tmod_eq_emod_of_nonneg (by omega)];omega
 have n7:IntKind.i64.wrap (-(-(n:Int)))=(n:Int):=by rw [IntKind.wrap_i64];omega
 have n8:wrap64 (-(-(n:Int)))=(n:Int):=by unfold wrap64;omega
 have n9:-(-(n:Int))=(n:Int):=by omega
 clear hn hn2 hp;have LL:=li3 w #[.float .f64 b1,.float .f64 b2] 28 #[.float .f64 c1,.float .f64 c2] 28 #[.float .f64 0,.float .f64 0] 28;have hrow:=Blk.at (W:=(((w.alloc (.cells #[.float .f64 b1,.float .f64 b2] 28)).alloc (.cells #[.float .f64 c1,.float .f64 c2] 28)).alloc (.cells #[.float .f64 0,.float .f64 0] 28))) (g:=w.heap.size+1+1+1) (by simp) 75 #[.pointer (some ⟨w.heap.size,0,none⟩),.pointer (some ⟨w.heap.size+1,0,none⟩)]
 have HRD:=Hd (read_n w.heap.size 2 (w.heap.size+1+1+1) 2 (fun k:Nat=>if k=0 then (b1,b2) else (c1,c2)) (fun k:Nat=>if k=0 then (A1,A2) else (x1,x2)) (fun k:Nat=>if k=0 then d1 else d2) _ (by omega) (by omega)
  (fun k hk=>by match k,hk with | 0,_=>exact hrow.cell 0 | 1,_=>exact hrow.cell 1) (fun k hk=>by match k,hk with | 0,_=>exact (LL.out.blk 0 rfl).alloc (.cells #[.pointer (some ⟨w.heap.size,0,none⟩),.pointer (some ⟨w.heap.size+1,0,none⟩)] 75) | 1,_=>exact (LL.out.blk 1 rfl).alloc (.cells #[.pointer (some ⟨w.heap.size,0,none⟩),.pointer (some ⟨w.heap.size+1,0,none⟩)] 75)) (fun k hk=>by match k,hk with | 0,_=>exact t1 | 1,_=>exact t2) (fun k hk=>by match k,hk with | 0,_=>exact m1 | 1,_=>exact m2))
 rw [show anyB (fun k:Nat=>if k=0 then d1 else d2) 2=(d1 || d2) from by simp [anyB],hnn] at HRD;have LLR:=Hd (LL.out.alloc (.cells #[.pointer (some ⟨w.heap.size,0,none⟩),.pointer (some ⟨w.heap.size+1,0,none⟩)] 75));have HSZ:=Hd (show w.heap.size≤(((((w.alloc (.cells #[.float .f64 b1,.float .f64 b2] 28)).alloc (.cells #[.float .f64 c1,.float .f64 c2] 28)).alloc (.cells #[.float .f64 0,.float .f64 0] 28))).alloc (.cells #[.pointer (some ⟨w.heap.size,0,none⟩),.pointer (some ⟨w.heap.size+1,0,none⟩)] 75)).heap.size by simp;omega);clear t1 m1 t2 m2 hrow hnn LL
 go_enter Tryz.func39,Tryz.ntmps39
 go_wp2_with fail;refine HRD.out.mono ?_;rintro e wk ⟨rfl,hd,kp⟩;have LL:=Hd (show Lies w wk [(w.heap.size,28,#[.float .f64 A1,.float .f64 A2]),((w.heap.size+1),28,#[.float .f64 x1,.float .f64 x2]),((w.heap.size+2),28,#[.float .f64 0,.float .f64 0])] [] from⟨kp.toBl LLR.out.b HSZ.out (Nat.le_refl _),by simp only [List.mem_cons,List.not_mem_nil,or_false,forall_eq_or_imp,forall_eq];exact⟨show Blk wk w.heap.size 28 #[.float .f64 A1,.float .f64 A2] from hd 0 (by omega),show Blk wk (w.heap.size+1) 28 #[.float .f64 x1,.float .f64 x2] from hd 1 (by omega),kp.blk (LLR.out.blk 2 rfl) (by omega)⟩,by simp⟩);clear hd kp LLR HSZ HRD;obtain⟨q1_0,q1_1⟩:=(LL.out.blk 0 rfl).c2;go_wp2_with fail;refine (HE.out _).mono ?_;rintro e wk ⟨rfl,hb⟩;replace LL:=stL LL hb;clear hb q1_0 q1_1 ho;replace LL:=Hd (LL.out.loose 2 rfl rfl)
 simp only [List.eraseIdx,List.size_toArray,List.length_cons,List.length_nil,Nat.zero_add,Nat.reduceAdd] at LL
 obtain⟨ha6_0,hf6_0,ha6_1,hf6_1⟩:=(LL.out.has 0 rfl).sf2;have LF:=Hd (LL.out.write [.float .f64 9218868437227405312,.float .f64 18442240474082181120] rfl (by omega) (by simp<;>omega) (by simp<;>omega));obtain⟨hk6_0,hk6_1⟩:=(LF.out.blk 2 rfl).c2
 simp [sets] at hk6_0 hk6_1
 clear LL;go_wp2;refine bodyPost_ret (v:=.agg #[.float .f64 9218868437227405312,.float .f64 18442240474082181120]) (by simp [results,Tryz.results39,go_sem,hk6_0,hk6_1]) rfl ?_
 exact⟨rfl,LF.out.b⟩
set_option maxRecDepth 8000 in
theorem pownz_even(n:Nat)(b1 b2 c1 c2 A1 A2 x1 x2:Nat)(d1 d2:Bool)(o:Ordering)(r1 r2:Nat)(w:World)(t1:∀ W,Calls Tryz.prog 102 #[.agg #[.float .f64 b1,.float .f64 b2]] W fun e w'=>e=.returned (.agg #[.float .f64 A1,.float .f64 A2])∧Below W.heap.size W w')(m1:Em d1 A1 A2)(t2:∀ W,Calls Tryz.prog 102 #[.agg #[.float .f64 c1,.float .f64 c2]] W fun e w'=>e=.returned (.agg #[.float .f64 x1,.float .f64 x2])∧Below W.heap.size W w')(m2:Em d2 x1 x2)(hn:1≤n)(hn2:n≤1024)(hp:n % 2=0)(hnn:(d1 || d2)=false)(ho:FloatKind.f64.format.order A2 0=some o)(hoo:o=.eq∨o=.gt)(hB:∀ W,Tab W→Calls Tryz.prog 103 #[.int .i64 (n:Int),.agg #[.float .f64 A1,.float .f64 A2],.agg #[.float .f64 x1,.float .f64 x2]] W fun e w'=>e=.returned (.agg #[.float .f64 r1,.float .f64 r2])∧Below W.heap.size W w')(hT:Tab w):
  Calls Tryz.prog 39 #[.int .i64 (-(n:Int)),.agg #[.float .f64 b1,.float .f64 b2],.agg #[.float .f64 c1,.float .f64 c2]] w fun e w'=>e=.returned (.agg #[.float .f64 r1,.float .f64 r2])∧Below w.heap.size w w':=by
 have n1:¬ -(n:Int) < -1024:=by omega
 have n2:¬ (1024:Int) < -(n:Int):=by omega
 have n3:(-(n:Int) == 0)=false:=by simp;omega
 have n4:-(n:Int)<0:=by omega
 have n5:(-(n:Int)) % 2=0:=by omega
 have n6:(-(n:Int)).tmod 2=0:=by rw [Int.neg_tmod,Int.tmod_eq_emod_of_nonneg (by omega)];omega
 have n7:IntKind.i64.wrap (-(-(n:Int)))=(n:Int):=by rw [IntKind.wrap_i64];omega
 have n8:wrap64 (-(-(n:Int)))=(n:Int):=by unfold wrap64;omega
 have n9:-(-(n:Int))=(n:Int):=by omega
 clear hn hn2 hp;have HB:=Hd hB;clear hB
 rcases hoo with rfl | rfl
 all_goals
  have LL:=li3 w #[.float .f64 b1,.float .f64 b2] 28 #[.float .f64 c1,.float .f64 c2] 28 #[.float .f64 0,.float .f64 0] 28;have hrow:=Blk.at (W:=(((w.alloc (.cells #[.float .f64 b1,.float .f64 b2] 28)).alloc (.cells #[.float .f64 c1,.float .f64 c2] 28)).alloc (.cells #[.float .f64 0,.float .f64 0] 28))) (g:=w.heap.size+1+1+1) (by simp) 75 #[.pointer (some ⟨w.heap.size,0,none⟩),.pointer (some ⟨w.heap.size+1,0,none⟩)]
  have HRD:=Hd (read_n w.heap.size 2 (w.heap.size+1+1+1) 2 (fun k:Nat=>if k=0 then (b1,b2) else (c1,c2)) (fun k:Nat=>if k=0 then (A1,A2) else (x1,x2)) (fun k:Nat=>if k=0 then d1 else d2) _ (by omega) (by omega)
   (fun k hk=>by match k,hk with | 0,_=>exact hrow.cell 0 | 1,_=>exact hrow.cell 1) (fun k hk=>by match k,hk with | 0,_=>exact (LL.out.blk 0 rfl).alloc (.cells #[.pointer (some ⟨w.heap.size,0,none⟩),.pointer (some ⟨w.heap.size+1,0,none⟩)] 75) | 1,_=>exact (LL.out.blk 1 rfl).alloc (.cells #[.pointer (some ⟨w.heap.size,0,none⟩),.pointer (some ⟨w.heap.size+1,0,none⟩)] 75)) (fun k hk=>by match k,hk with | 0,_=>exact t1 | 1,_=>exact t2) (fun k hk=>by match k,hk with | 0,_=>exact m1 | 1,_=>exact m2))
  rw [show anyB (fun k:Nat=>if k=0 then d1 else d2) 2=(d1 || d2) from by simp [anyB],hnn] at HRD;have LLR:=Hd (LL.out.alloc (.cells #[.pointer (some ⟨w.heap.size,0,none⟩),.pointer (some ⟨w.heap.size+1,0,none⟩)] 75));have HSZ:=Hd (show w.heap.size≤(((((w.alloc (.cells #[.float .f64 b1,.float .f64 b2] 28)).alloc (.cells #[.float .f64 c1,.float .f64 c2] 28)).alloc (.cells #[.float .f64 0,.float .f64 0] 28))).alloc (.cells #[.pointer (some ⟨w.heap.size,0,none⟩),.pointer (some ⟨w.heap.size+1,0,none⟩)] 75)).heap.size by simp;omega);clear t1 m1 t2 m2 hrow hnn LL
  go_enter Tryz.func39,Tryz.ntmps39
  go_wp2_with fail;refine HRD.out.mono ?_;rintro e wk ⟨rfl,hd,kp⟩;have LL:=Hd (show Lies w wk [(w.heap.size,28,#[.float .f64 A1,.float .f64 A2]),((w.heap.size+1),28,#[.float .f64 x1,.float .f64 x2]),((w.heap.size+2),28,#[.float .f64 0,.float .f64 0])] [] from⟨kp.toBl LLR.out.b HSZ.out (Nat.le_refl _),by simp only [List.mem_cons,List.not_mem_nil,or_false,forall_eq_or_imp,forall_eq];exact⟨show Blk wk w.heap.size 28 #[.float .f64 A1,.float .f64 A2] from hd 0 (by omega),show Blk wk (w.heap.size+1) 28 #[.float .f64 x1,.float .f64 x2] from hd 1 (by omega),kp.blk (LLR.out.blk 2 rfl) (by omega)⟩,by simp⟩);clear hd kp LLR HSZ HRD;have HT:=Hd (hT.below LL.out.b);clear hT;obtain⟨q1_0,q1_1⟩:=(LL.out.blk 0 rfl).c2;obtain⟨q2_0,q2_1⟩:=(LL.out.blk 1 rfl).c2;go_wp2_with fail;refine (HB.out _ HT.out).mono ?_;rintro e wk ⟨rfl,hb⟩;replace LL:=stL LL hb;replace HT:=Hd (HT.out.below hb);clear hb q1_0 q1_1 q2_0 q2_1 ho;clear HT;replace LL:=Hd (LL.out.loose 2 rfl rfl)
  simp only [List.eraseIdx,List.size_toArray,List.length_cons,List.length_nil,Nat.zero_add,Nat.reduceAdd] at LL
  obtain⟨ha6_0,hf6_0,ha6_1,hf6_1⟩:=(LL.out.has 0 rfl).sf2;have LF:=Hd (LL.out.write [.float .f64 r1,.float .f64 r2] rfl (by omega) (by simp<;>omega) (by simp<;>omega));obtain⟨hk6_0,hk6_1⟩:=(LF.out.blk 2 rfl).c2
  simp [sets] at hk6_0 hk6_1
  clear LL;go_wp2;refine bodyPost_ret (v:=.agg #[.float .f64 r1,.float .f64 r2]) (by simp [results,Tryz.results39,go_sem,hk6_0,hk6_1]) rfl ?_
  exact⟨rfl,LF.out.b⟩
set_option maxRecDepth 8000 in
theorem pownz_odd(n:Nat)(b1 b2 c1 c2 A1 A2 x1 x2:Nat)(d1 d2:Bool)(r1 r2:Nat)(w:World)(t1:∀ W,Calls Tryz.prog 102 #[.agg #[.float .f64 b1,.float .f64 b2]] W fun e w'=>e=.returned (.agg #[.float .f64 A1,.float .f64 A2])∧Below W.heap.size W w')(m1:Em d1 A1 A2)(t2:∀ W,Calls Tryz.prog 102 #[.agg #[.float .f64 c1,.float .f64 c2]] W fun e w'=>e=.returned (.agg #[.float .f64 x1,.float .f64 x2])∧Below W.heap.size W w')(m2:Em d2 x1 x2)(hn:1≤n)(hn2:n≤1024)(hp:n % 2=1)(hnn:(d1 || d2)=false)(hB:∀ W,Tab W→Calls Tryz.prog 103 #[.int .i64 (n:Int),.agg #[.float .f64 A1,.float .f64 A2],.agg #[.float .f64 x1,.float .f64 x2]] W fun e w'=>e=.returned (.agg #[.float .f64 r1,.float .f64 r2])∧Below W.heap.size W w')(hT:Tab w):
  Calls Tryz.prog 39 #[.int .i64 (-(n:Int)),.agg #[.float .f64 b1,.float .f64 b2],.agg #[.float .f64 c1,.float .f64 c2]] w fun e w'=>e=.returned (.agg #[.float .f64 r1,.float .f64 r2])∧Below w.heap.size w w':=by
 have n1:¬ -(n:Int) < -1024:=by omega
 have n2:¬ (1024:Int) < -(n:Int):=by omega
 have n3:(-(n:Int) == 0)=false:=by simp;omega
 have n4:-(n:Int)<0:=by omega
 have n5:(-(n:Int)) % 2=1:=by omega
 have n6:(-(n:Int)).tmod 2=-1:=by rw [Int.neg_tmod,Int.tmod_eq_emod_of_nonneg (by omega)];omega
 have n7:IntKind.i64.wrap (-(-(n:Int)))=(n:Int):=by rw [IntKind.wrap_i64];omega
 have n8:wrap64 (-(-(n:Int)))=(n:Int):=by unfold wrap64;omega
 have n9:-(-(n:Int))=(n:Int):=by omega
 clear hn hn2 hp;have HB:=Hd hB;clear hB;have LL:=li3 w #[.float .f64 b1,.float .f64 b2] 28 #[.float .f64 c1,.float .f64 c2] 28 #[.float .f64 0,.float .f64 0] 28;have hrow:=Blk.at (W:=(((w.alloc (.cells #[.float .f64 b1,.float .f64 b2] 28)).alloc (.cells #[.float .f64 c1,.float .f64 c2] 28)).alloc (.cells #[.float .f64 0,.float .f64 0] 28))) (g:=w.heap.size+1+1+1) (by simp) 75 #[.pointer (some ⟨w.heap.size,0,none⟩),.pointer (some ⟨w.heap.size+1,0,none⟩)]
 have HRD:=Hd (read_n w.heap.size 2 (w.heap.size+1+1+1) 2 (fun k:Nat=>if k=0 then (b1,b2) else (c1,c2)) (fun k:Nat=>if k=0 then (A1,A2) else (x1,x2)) (fun k:Nat=>if k=0 then d1 else d2) _ (by omega) (by omega)
  (fun k hk=>by match k,hk with | 0,_=>exact hrow.cell 0 | 1,_=>exact hrow.cell 1) (fun k hk=>by match k,hk with | 0,_=>exact (LL.out.blk 0 rfl).alloc (.cells #[.pointer (some ⟨w.heap.size,0,none⟩),.pointer (some ⟨w.heap.size+1,0,none⟩)] 75) | 1,_=>exact (LL.out.blk 1 rfl).alloc (.cells #[.pointer (some ⟨w.heap.size,0,none⟩),.pointer (some ⟨w.heap.size+1,0,none⟩)] 75)) (fun k hk=>by match k,hk with | 0,_=>exact t1 | 1,_=>exact t2) (fun k hk=>by match k,hk with | 0,_=>exact m1 | 1,_=>exact m2))
 rw [show anyB (fun k:Nat=>if k=0 then d1 else d2) 2=(d1 || d2) from by simp [anyB],hnn] at HRD;have LLR:=Hd (LL.out.alloc (.cells #[.pointer (some ⟨w.heap.size,0,none⟩),.pointer (some ⟨w.heap.size+1,0,none⟩)] 75));have HSZ:=Hd (show w.heap.size≤(((((w.alloc (.cells #[.float .f64 b1,.float .f64 b2] 28)).alloc (.cells #[.float .f64 c1,.float .f64 c2] 28)).alloc (.cells #[.float .f64 0,.float .f64 0] 28))).alloc (.cells #[.pointer (some ⟨w.heap.size,0,none⟩),.pointer (some ⟨w.heap.size+1,0,none⟩)] 75)).heap.size by simp;omega);clear t1 m1 t2 m2 hrow hnn LL
 go_enter Tryz.func39,Tryz.ntmps39
 go_wp2_with fail;refine HRD.out.mono ?_;rintro e wk ⟨rfl,hd,kp⟩;have LL:=Hd (show Lies w wk [(w.heap.size,28,#[.float .f64 A1,.float .f64 A2]),((w.heap.size+1),28,#[.float .f64 x1,.float .f64 x2]),((w.heap.size+2),28,#[.float .f64 0,.float .f64 0])] [] from⟨kp.toBl LLR.out.b HSZ.out (Nat.le_refl _),by simp only [List.mem_cons,List.not_mem_nil,or_false,forall_eq_or_imp,forall_eq];exact⟨show Blk wk w.heap.size 28 #[.float .f64 A1,.float .f64 A2] from hd 0 (by omega),show Blk wk (w.heap.size+1) 28 #[.float .f64 x1,.float .f64 x2] from hd 1 (by omega),kp.blk (LLR.out.blk 2 rfl) (by omega)⟩,by simp⟩);clear hd kp LLR HSZ HRD;have HT:=Hd (hT.below LL.out.b);clear hT;obtain⟨q1_0,q1_1⟩:=(LL.out.blk 0 rfl).c2;obtain⟨q2_0,q2_1⟩:=(LL.out.blk 1 rfl).c2;go_wp2_with fail;refine (HB.out _ HT.out).mono ?_;rintro e wk ⟨rfl,hb⟩;replace LL:=stL LL hb;replace HT:=Hd (HT.out.below hb);clear hb q1_0 q1_1 q2_0 q2_1;clear HT;replace LL:=Hd (LL.out.loose 2 rfl rfl)
 simp only [List.eraseIdx,List.size_toArray,List.length_cons,List.length_nil,Nat.zero_add,Nat.reduceAdd] at LL
 obtain⟨ha6_0,hf6_0,ha6_1,hf6_1⟩:=(LL.out.has 0 rfl).sf2;have LF:=Hd (LL.out.write [.float .f64 r1,.float .f64 r2] rfl (by omega) (by simp<;>omega) (by simp<;>omega));obtain⟨hk6_0,hk6_1⟩:=(LF.out.blk 2 rfl).c2
 simp [sets] at hk6_0 hk6_1
 clear LL;go_wp2;refine bodyPost_ret (v:=.agg #[.float .f64 r1,.float .f64 r2]) (by simp [results,Tryz.results39,go_sem,hk6_0,hk6_1]) rfl ?_
 exact⟨rfl,LF.out.b⟩
end
section
open Go.RowKit
noncomputable def pwz(z:Int)(i2 j2 i j:Int):Int × Int:=
 if z < -1024∨1024<z then (i,j)
 else if j2<i2∨j<i then ((M:Int),-(M:Int))
 else if z=0 then (if i2≤4607182418800017408∧4607182418800017408≤j2 then (i,j) else ((M:Int),-(M:Int)))
 else if z<0 then (if z % 2=0∧j2<0 then ((M:Int),-(M:Int)) else blw z.natAbs i2 j2 i j)
 else pwr z.natAbs i2 j2 i j
theorem order_oneI{i:Int}(h:-(M:Int)≤i∧i≤M):FloatKind.f64.format.order (pat i) 4607182418800017408=some (compare i 4607182418800017408):=by
 have hM:=M_val;have o:=order_pat (i:=i) (j:=4607182418800017408) h.1 h.2 (by omega) (by omega)
 rwa [show pat 4607182418800017408=4607182418800017408 from pat_nn (by omega)] at o
theorem pownz_any(z:Int)(c1 c2 x y:Nat)(w:World)(hc1:c1<18446744073709551616)(hc2:c2<18446744073709551616)(hx:x<18446744073709551616)(hy:y<18446744073709551616)(hT:Tab w):
  Calls Tryz.prog 39 #[.int .i64 z,.agg #[.float .f64 c1,.float .f64 c2],.agg #[.float .f64 x,.float .f64 y]] w fun e w'=>
   e=.returned (.agg #[.float .f64 (pat (pwz z (rd c1 c2).1 (rd c1 c2).2 (rd x y).1 (rd x y).2).1),.float .f64 (pat (pwz z (rd c1 c2).1 (rd c1 c2).2 (rd x y).1 (rd x y).2).2)])∧Below w.heap.size w w':=by
 have hM:(M:Int)=9218868437227405312:=rfl
 by_cases zp:0<z∧z≤1024
 ·obtain⟨n,rfl⟩:∃ n:Nat,z=(n:Int):=⟨z.toNat,by omega⟩
  have h:=pown_any n c1 c2 x y w (by omega) (by omega) hc1 hc2 hx hy
  have e:pwz (n:Int) (rd c1 c2).1 (rd c1 c2).2 (rd x y).1 (rd x y).2=pwr n (rd c1 c2).1 (rd c1 c2).2 (rd x y).1 (rd x y).2:=by
   unfold pwz;rw [if_neg (by omega),if_neg (show ¬ (n:Int)=0 by omega),if_neg (show ¬ (n:Int)<0 by omega),Int.natAbs_natCast]
   by_cases k:(rd c1 c2).2<(rd c1 c2).1∨(rd x y).2<(rd x y).1
   ·rw [if_pos k];unfold pwr;rw [if_pos (by omega)]
   ·rw [if_neg k]
  rw [e]
  exact h
 have v2:=rd_iv c1 c2;have v3:=rd_iv x y;have t2:=fun W=>readf c1 c2 W hc1 hc2;have t3:=fun W=>readf x y W hx hy
 obtain⟨⟨i2,j2⟩,r2⟩:∃ z,rd c1 c2=z:=⟨_,rfl⟩
 obtain⟨⟨i3,j3⟩,r3⟩:∃ z,rd x y=z:=⟨_,rfl⟩
 rw [r2] at v2 t2;rw [r3] at v3 t3;rw [r2,r3]
 dsimp only at *
 have m2:=em_idx v2;have m3:=em_idx v3;unfold pwz
 by_cases far:z < -1024∨1024<z
 ·rw [if_pos far]
  rcases far with h | h
  ·exact pownz_lo z _ _ _ _ _ _ w h t3
  ·exact pownz_hi z _ _ _ _ _ _ w h t3
 rw [if_neg far]
 by_cases hno:j2<i2∨j3<i3
 ·rw [if_pos hno,pat_max,pat_min]
  exact pownz_none z _ _ _ _ _ _ _ _ _ _ w t2 m2 t3 m3 (by omega) (by omega) (by simp;omega)
 rw [if_neg hno]
 have hnn:(decide (j2<i2) || decide (j3<i3))=false:=by simp;omega
 have k2:=ne_or v2 (by omega);have k3:=ne_or v3 (by omega);unfold Ne at k2 k3
 by_cases z0:z=0
 ·subst z0;rw [if_pos rfl];have o1:=order_oneI (i:=i2) v2.lo;have o2:=order_oneI (i:=j2) v2.hi
  by_cases k:i2≤4607182418800017408∧4607182418800017408≤j2
  ·rw [if_pos k];refine pownz_in _ _ _ _ _ _ _ _ _ _ _ _ w t2 m2 t3 m3 hnn o1 o2 ?_ ?_
   ·rcases Int.lt_or_eq_of_le k.1 with h | h
    ·exact .inl (Int.compare_eq_lt.2 h)
    ·exact .inr (Int.compare_eq_eq.2 h)
   ·rcases Int.lt_or_eq_of_le k.2 with h | h
    ·exact .inl (Int.compare_eq_gt.2 h)
    ·exact .inr (Int.compare_eq_eq.2 h.symm)
  ·rw [if_neg k,pat_max,pat_min];refine pownz_out _ _ _ _ _ _ _ _ _ _ _ _ w t2 m2 t3 m3 hnn o1 o2 ?_
   rcases Int.lt_trichotomy i2 4607182418800017408 with h | h | h
   ·exact .inr (.inl ⟨Int.compare_eq_lt.2 h,Int.compare_eq_lt.2 (by omega)⟩)
   ·exact .inr (.inr ⟨Int.compare_eq_eq.2 h,Int.compare_eq_lt.2 (by omega)⟩)
   ·exact .inl (Int.compare_eq_gt.2 h)
 rw [if_neg z0,if_pos (show z<0 by omega)]
 obtain⟨n,rfl⟩:∃ n:Nat,z=-(n:Int):=⟨z.natAbs,by omega⟩
 have en:(-(n:Int)).natAbs=n:=by omega
 rw [en];have hB:=fun W (t:Tab W)=>below_any n i2 j2 i3 j3 W (by omega) (by omega) (by omega) (by omega) t
 rcases Nat.mod_two_eq_zero_or_one n with hp | hp
 ·by_cases h0:j2<0
  ·rw [if_pos (by omega),pat_max,pat_min]
   exact pownz_neg n _ _ _ _ _ _ _ _ _ _ w t2 m2 t3 m3 (by omega) (by omega) hp hnn (ord0_lt v2.hi h0)
  ·rw [if_neg (by omega)]
   exact pownz_even n _ _ _ _ _ _ _ _ _ _ (compare j2 0) _ _ w t2 m2 t3 m3 (by omega) (by omega) hp hnn (ord0 v2.hi) (by
    by_cases h:j2=0
    ·exact .inl (Int.compare_eq_eq.2 h)
    ·exact .inr (Int.compare_eq_gt.2 (by omega))) hB hT
 ·rw [if_neg (by omega)]
  exact pownz_odd n _ _ _ _ _ _ _ _ _ _ _ _ w t2 m2 t3 m3 (by omega) (by omega) hp hnn hB hT
end
section
open Go.RowKit
def U32n(w:World)(A:Option Addr)(n c a:Nat):Prop:=∃ xs,U32s w A n c xs∧num xs=a
theorem U32n.below{w w':World}{A:Option Addr}{n c a:Nat}(h:U32n w A n c a)(hb:Below w.heap.size w w'):U32n w' A n c a:=by
 obtain⟨xs,h1,h2⟩:=h
 exact⟨xs,h1.below hb,h2⟩
theorem U32s.n{w:World}{A:Option Addr}{n c a:Nat}(h:U32s w A n c (digs a)):U32n w A n c a:=⟨_,h,num_digs a⟩
theorem times_n(A B:Option Addr)(n c m d a b:Nat)(w:World)(hx:U32n w A n c a)(hy:U32n w B m d b)(hs1:n≤8589934592)(hs2:m≤8589934592):
  Calls Tryz.prog 95 #[.slice A n c,.slice B m d] w (NewU32 w (digs (a*b))):=by
 obtain⟨xs,hx,rfl⟩:=hx;obtain⟨ys,hy,rfl⟩:=hy
 exact times_any A B n c m d xs ys w hx hy hs1 hs2
theorem norm_n{v:Nat}(A:Option Addr)(n c:Nat)(w:World)(h:U32n w A n c v)(hs:n≤34359738367):
  Calls Tryz.prog 93 #[.slice A n c] w fun e w'=>∃ A1 n1 c1,e=.returned (.slice A1 n1 c1)∧U32s w' A1 n1 c1 (digs v)∧n1≤n∧(0<v→0<n1)∧Below w.heap.size w w':=by
 obtain⟨xs,h1,h2⟩:=h
 exact norm_v A n c xs w h1 hs h2
def RatW(w:World)(K:Nat)(neg:Bool)(vn vd:Value)(x:Rat):Prop:=
 ∃ (p q:Nat) (A:Option Addr) (n c:Nat) (B:Option Addr) (m d:Nat),vn=.slice A n c∧vd=.slice B m d∧U32n w A n c p∧U32n w B m d q ∧
  0<q∧(n≤K∧m≤K)∧p<2^(32*K)∧q<2^(32*K)∧x=rv neg p q
theorem RatW.below{w w':World}{K:Nat}{neg:Bool}{vn vd:Value}{x:Rat}(h:RatW w K neg vn vd x)(hb:Below w.heap.size w w'):RatW w' K neg vn vd x:=by
 obtain⟨p,q,A,n,c,B,m,d,h1,h2,h3,h4,h5⟩:=h
 exact⟨p,q,A,n,c,B,m,d,h1,h2,h3.below hb,h4.below hb,h5⟩
theorem RatW.shape{w:World}{K:Nat}{neg:Bool}{vn vd:Value}{x:Rat}(h:RatW w K neg vn vd x):∃ (A:Option Addr) (n c:Nat) (B:Option Addr) (m d:Nat),vn=.slice A n c∧vd=.slice B m d:=by
 obtain⟨p,q,A,n,c,B,m,d,h1,h2,-⟩:=h
 exact⟨A,n,c,B,m,d,h1,h2⟩
theorem RatW.mono{w:World}{K K':Nat}{neg:Bool}{vn vd:Value}{x:Rat}(h:RatW w K neg vn vd x)(hk:K≤K'):RatW w K' neg vn vd x:=by
 obtain⟨p,q,A,n,c,B,m,d,h1,h2,h3,h4,h5,h6,h7,h8,h9⟩:=h;have:=Nat.pow_le_pow_right (n:=2) (by omega) (show 32*K≤32*K' by omega)
 exact⟨p,q,A,n,c,B,m,d,h1,h2,h3,h4,h5,by omega,by omega,by omega,h9⟩
theorem RatV.w{w:World}{K:Nat}{neg:Bool}{vn vd:Value}{x:Rat}(h:RatV w K neg vn vd x):RatW w K neg vn vd x:=by
 obtain⟨p,q,A,n,c,B,m,d,h1,h2,h3,h4,h5,h6,h7,h8,h9⟩:=h
 exact⟨p,q,A,n,c,B,m,d,h1,h2,h3.n,h4.n,h5,⟨h3.len_le h7,h4.len_le h8⟩,h7,h8,h9⟩
theorem rsg_rw{neg:Bool}{p q:Nat}(hq:0<q):rsg (rv neg p q)=if p=0 then 0 else if neg then -1 else 1:=by
 rcases Nat.eq_zero_or_pos p with hp | hp
 ·subst hp;rw [rv_zero];simp [rsg]
 ·exact rsg_rv hq (by omega)
theorem rsign_w(K:Nat)(neg:Bool)(vn vd:Value)(x:Rat)(w:World)(h:RatW w K neg vn vd x)(hK:K≤1073741824):
  Calls Tryz.prog 42 #[.agg #[.bool neg,vn,vd]] w fun e w'=>e=.returned (.int .i64 (rsg x))∧Below w.heap.size w w':=by
 obtain⟨p,q,A,n,c,B,m,d,rfl,rfl,hu,-,hq,⟨hn,-⟩,hp,-,rfl⟩:=h;rw [rsg_rw hq]
 obtain⟨s,hs⟩:∃ s:Int,(if p=0 then 0 else if neg then -1 else 1)=s:=⟨_,rfl⟩
 have hs0:p=0→s=0:=by intro h;rw [if_pos h] at hs;exact hs.symm
 have hs1:p≠0→neg=true→s=-1:=by intro h h';rw [if_neg h,if_pos h'] at hs;exact hs.symm
 have hs2:p≠0→neg=false→s=1:=by intro h h';rw [if_neg h,h'] at hs;exact hs.symm
 rw [hs];clear hs;have ba:=below_alloc w (.cells #[.bool neg,.slice A n c,.slice B m d] 42);have HN:=Hd (norm_n A n c _ (hu.below ba) (by omega));clear hp hu
 go_enter Tryz.func42,Tryz.ntmps42
 go_wp2_with fail;refine HN.out.mono ?_;rintro e w1 ⟨A1,n1,c1,rfl,hu1,hn1,hp1,hb1⟩;have hblk:=(Blk.new w 42 #[.bool neg,.slice A n c,.slice B m d]).keep hb1;have k0:=hblk.cell 0;have hlt:=hblk.lt
 have hz:n1=0↔p=0:=by
  have:=@digs_length_eq_zero p;rw [hu1.len] at this;exact this
 have HB:=Hd (ba.trans (hb1.mono ba.size));clear hblk hb1 hu1 hp1 HN ba
 simp at k0
 go_wp2
 ·obtain rfl:p=0:=by simp at *;omega
  go_ret
  exact⟨ret_int (hs0 rfl).symm,HB.out⟩
 ·have hp0:p≠0:=by simp at *;omega
  go_ret
  exact⟨ret_int (hs1 hp0 (by assumption)).symm,HB.out⟩
 ·have hp0:p≠0:=by simp at *;omega
  go_ret
  exact⟨ret_int (hs2 hp0 (by assumption)).symm,HB.out⟩
theorem rc_samew{n n':Bool}{p q p' q':Nat}(hq:0<q)(hq':0<q')(hs:rsg (rv n p q)=rsg (rv n' p' q')):
  rc (rv n p q) (rv n' p' q')=if rsg (rv n p q)=0 then 0 else if n then -cmp3 (p*q') (p'*q) else cmp3 (p*q') (p'*q):=by
 rw [rsg_rw hq,rsg_rw hq'] at hs;rw [rsg_rw hq]
 by_cases hp:p=0
 ·have hp':p'=0:=by
   rw [if_pos hp] at hs
   by_cases h:p'=0
   ·exact h
   ·rw [if_neg h] at hs;cases n'<;>simp at hs
  rw [if_pos hp,if_pos rfl,hp,hp',rv_zero,rv_zero];unfold rc;rw [if_neg (by grind),if_neg (by grind)]
 ·have hp':p'≠0:=by
   intro h
   rw [if_neg hp,if_pos h] at hs;cases n<;>simp at hs
  rw [if_neg hp,if_neg hp'] at hs;have l1:=@rv_lt_false p q p' q' hq hq';have l2:=@rv_lt_false p' q' p q hq' hq
  have hc:rc (rv false p q) (rv false p' q')=cmp3 (p*q') (p'*q):=by
   unfold rc cmp3
   by_cases h1:p*q'<p'*q
   ·rw [if_pos (l1.2 h1),if_pos h1]
   ·rw [if_neg (fun h=>h1 (l1.1 h)),if_neg h1]
    by_cases h2:p'*q<p*q'
    ·rw [if_pos (l2.2 h2),if_pos h2]
    ·rw [if_neg (fun h=>h2 (l2.1 h)),if_neg h2]
  cases n<;>cases n'<;>simp at hs
  ·rw [if_neg hp,if_neg (by decide),hc];rfl
  ·rw [if_neg hp,if_neg (by decide),if_pos rfl,← hc,rv_true,rv_true];unfold rc
   by_cases h1:rv false p q<rv false p' q'
   ·rw [if_neg (by grind),if_pos (by grind),if_pos h1];rfl
   ·by_cases h2:rv false p' q'<rv false p q
    ·rw [if_pos (by grind),if_neg h1,if_pos h2]
    ·rw [if_neg (by grind),if_neg (by grind),if_neg h1,if_neg h2];rfl
theorem rcmp_w(K:Nat)(neg:Bool)(vn vd:Value)(x:Rat)(neg':Bool)(vn' vd':Value)(y:Rat)(w:World)(h:RatW w K neg vn vd x)(h':RatW w K neg' vn' vd' y)(hK:K≤1073741824):
  Calls Tryz.prog 113 #[.agg #[.bool neg,vn,vd],.agg #[.bool neg',vn',vd']] w fun e w'=>e=.returned (.int .i64 (rc x y))∧Below w.heap.size w w':=by
 obtain⟨A,n,c,B,m,d,rfl,rfl⟩:=h.shape;obtain⟨A',n',c',B',m',d',rfl,rfl⟩:=h'.shape;have H:=Hd h;have H':=Hd h';have ba:Below w.heap.size w ((w.alloc (.cells #[.bool neg,.slice A n c,.slice B m d] 42)).alloc (.cells #[.bool neg',.slice A' n' c',.slice B' m' d'] 42)):=(below_alloc w _).alloc (by simp) _;have h1:=Hd (rsign_w K neg _ _ x _ (h.below ba) hK);have BA:=Hd ba;clear h h' ba
 go_enter Tryz.func113,Tryz.ntmps113
 go_wp2_with fail;refine h1.out.mono ?_;rintro e w1 ⟨rfl,hb1⟩;have B1:=Hd (BA.out.trans (hb1.mono BA.out.size));have K1:=Hd (((Blk.new w 42 #[.bool neg,.slice A n c,.slice B m d]).alloc (.cells #[.bool neg',.slice A' n' c',.slice B' m' d'] 42)).keep hb1);have K2:=Hd ((Blk.new2 w (.cells #[.bool neg,.slice A n c,.slice B m d] 42) 42 #[.bool neg',.slice A' n' c',.slice B' m' d']).keep hb1);have k0:=K2.out.cell 0;have k1:=K2.out.cell 1;have k2:=K2.out.cell 2;have h2:=Hd (rsign_w K neg' _ _ y _ (H'.out.below B1.out) hK);clear hb1 h1
 simp at k0 k1 k2
 go_wp2_with fail;refine h2.out.mono ?_;rintro e w2 ⟨rfl,hb2⟩;have B2:=Hd (B1.out.trans (hb2.mono B1.out.size));have Q1:=Hd (K1.out.keep hb2);have Q2:=Hd (K2.out.keep hb2);clear hb2 k0 k1 k2 K1 K2 h2 B1 BA
 obtain⟨s,hs⟩:∃ s,rsg x=s:=⟨_,rfl⟩
 obtain⟨t,ht⟩:∃ t,rsg y=t:=⟨_,rfl⟩
 have HS:=Hd hs;have HT:=Hd ht;rw [hs,ht];clear hs ht
 rcases Int.lt_trichotomy s t with h0 | h0 | h0
 ·go_wp2
  go_ret
  exact⟨ret_int (by rw [rc_below (by rw [HS.out,HT.out];exact h0)]),B2.out⟩
 ·subst h0;obtain⟨p,q,A1,n1,c1,D1,m1,d1,e1,e2,hu,hv,hq,⟨l1,l2⟩,-,-,rfl⟩:=H.out;obtain⟨p',q',A2,n2,c2,D2,m2,d2,e3,e4,hu',hv',hq',⟨l3,l4⟩,-,-,rfl⟩:=H'.out
  cases e1;cases e2;cases e3;cases e4
  have HTm:∀ (W:World) (A B:Option Addr) (n c m d a b:Nat),Below w.heap.size w W→U32n w A n c a→U32n w B m d b→n≤K→m≤K→Calls Tryz.prog 95 #[.slice A n c,.slice B m d] W fun e w'=>∃ A1 n1 c1,e=.returned (.slice A1 n1 c1)∧U32s w' A1 n1 c1 (digs (a*b))∧Below W.heap.size W w'∧Below w.heap.size w w':=fun W A B n c m d a b hW h1 h2 h3 h4=>
   (times_n A B n c m d _ _ W (h1.below hW) (h2.below hW) (by omega) (by omega)).mono (by
    rintro e w' ⟨A1,n1,c1,h5,h6,h7⟩
    exact⟨A1,n1,c1,h5,h6,h7,hW.trans (h7.mono hW.size)⟩)
  have HCm:∀ (W:World) (A B:Option Addr) (n c m d a b:Nat),Below w.heap.size w W→U32s W A n c (digs a)→U32s W B m d (digs b)→Calls Tryz.prog 98 #[.slice A n c,.slice B m d] W fun e w'=>e=.returned (.int .i64 (cmp3 a b))∧Below W.heap.size W w'∧Below w.heap.size w w':=fun W A B n c m d a b hW h1 h2=>
   (cmp_any A B n c m d _ _ W h1 h2).mono (by
    rintro e w' ⟨h5,k,rfl⟩;rw [num_digs,num_digs] at h5
    exact⟨h5,below_drewN (Below.refl _ _) k,below_drewN hW k⟩)
  have R:=Hd (rc_samew hq hq' (by rw [HS.out,HT.out]));have HU:=Hd hu;have HV:=Hd hv;have HU':=Hd hu';have HV':=Hd hv';have HTm:=Hd HTm;have HCm:=Hd HCm;have k0:=Q1.out.cell 0;have k1:=Q1.out.cell 1;have k2:=Q1.out.cell 2;have j1:=Q2.out.cell 1;have j2:=Q2.out.cell 2;have b2:=B2.out
  simp at k0 k1 k2 j1 j2
  clear hu hv hu' hv' H H' hq hq' Q1 Q2;go_wp2_with fail
  go_region_held3 (fun w'=>w'.cell? ⟨w.heap.size,0,none⟩=some (.bool neg)∧w'.cell? ⟨w.heap.size,1,none⟩=some (.slice A n c)∧w'.cell? ⟨w.heap.size,2,none⟩=some (.slice B m d)∧w'.cell? ⟨w.heap.size+1,1,none⟩=some (.slice A' n' c')∧w'.cell? ⟨w.heap.size+1,2,none⟩=some (.slice B' m' d')∧Below w.heap.size w w')
   (first | (exact heldc (by assumption) hb1) | (exact⟨k0,k1,k2,j1,j2,b2.drew⟩))
   (first | (go_at_call 95;refine (HTm.out _ _ _ _ _ _ _ ?_ ?_ ?_ ?_ ?_ ?_ ?_).mono ?_;rotate_left;rotate_left;(first | exact B2.out.drew | assumption);(first | exact HU.out | exact HU'.out);(first | exact HV.out | exact HV'.out);(assumption);(assumption);rintro e w1 ⟨A1,n1,c1,rfl,hu1,hb1,hbw⟩) | (go_at_call 98;refine (HCm.out _ _ _ _ _ _ _ ?_ ?_ ?_ ?_ ?_).mono ?_;rotate_left;rotate_left;(assumption);(exact U32s.below (by assumption) hb1);(assumption);rintro e w1 ⟨rfl,hb1,hbw⟩))
  rename_i hHeld;have kk:=hHeld.1;have BW:=Hd hbw;have hc:=cmp3_range (p*q') (p'*q)
  obtain⟨r,hr⟩:∃ r,rc (rv neg p q) (rv neg' p' q')=r:=⟨_,rfl⟩
  have R:=R.out;rw [hr,HS.out] at R
  obtain⟨c,hcc⟩:∃ c,cmp3 (p*q') (p'*q)=c:=⟨_,rfl⟩
  rw [hcc] at R hc ⊢;have Hr:=Hd hr
  have r0:s=0→r=0:=by intro h;rw [if_pos h] at R;exact R
  have r1:s≠0→neg=true→r=-c:=by intro h h2;rw [if_neg h,if_pos h2] at R;exact R
  have r2:s≠0→neg=false→r=c:=by intro h h2;rw [if_neg h,h2] at R;exact R
  have R0:=Hd r0;have R1:=Hd r1;have R2:=Hd r2;clear R r0 r1 r2 hr hcc hHeld hbw hb1 hu1 HS HT HCm HTm HU HV HU' HV' k0 k1 k2 j1 j2 b2
  rcases Int.lt_trichotomy s 0 with hs | hs | hs
  ·have hs1:(s == 0)=false:=by simp;omega
   cases neg
   ·go_wp2
    go_ret
    exact⟨ret_int (Hr.out.trans (R2.out (by omega) (by simp))).symm,BW.out⟩
   ·go_wp2
    go_ret
    exact⟨ret_int (Hr.out.trans (R1.out (by omega) (by simp))).symm,BW.out⟩
  ·subst hs
   cases neg
   ·go_wp2
    go_ret
    exact⟨ret_int (Hr.out.trans (R0.out (by simp))).symm,BW.out⟩
   ·go_wp2
    go_ret
    exact⟨ret_int (Hr.out.trans (R0.out (by simp))).symm,BW.out⟩
  ·have hs1:(s == 0)=false:=by simp;omega
   cases neg
   ·go_wp2
    go_ret
    exact⟨ret_int (Hr.out.trans (R2.out (by omega) (by simp))).symm,BW.out⟩
   ·go_wp2
    go_ret
    exact⟨ret_int (Hr.out.trans (R1.out (by omega) (by simp))).symm,BW.out⟩
 ·have h0':¬ s<t:=by omega
  go_wp2
  go_ret
  exact⟨ret_int (by rw [rc_above (by rw [HS.out,HT.out];exact h0)]),B2.out⟩
theorem ecmp_w(K:Nat)(s1:Int)(g1:Bool)(A1:Option Addr)(n1 c1:Nat)(B1:Option Addr)(m1 d1:Nat)(x1:Rat)(s2:Int)(g2:Bool)(A2:Option Addr)(n2 c2:Nat)(B2:Option Addr)(m2 d2:Nat)(x2:Rat)(w:World)(h1:RatW w K g1 (.slice A1 n1 c1) (.slice B1 m1 d1) x1)(h2:RatW w K g2 (.slice A2 n2 c2) (.slice B2 m2 d2) x2)(hK:K≤1073741824):
  Calls Tryz.prog 94 #[.agg #[.int .i64 s1,.bool g1,.slice A1 n1 c1,.slice B1 m1 d1],.agg #[.int .i64 s2,.bool g2,.slice A2 n2 c2,.slice B2 m2 d2]] w fun e w'=>e=.returned (.int .i64 (ec s1 x1 s2 x2))∧Below w.heap.size w w':=by
 rcases Int.lt_trichotomy s1 s2 with h | h | h
 ·rw [ec_lt x1 x2 h]
  have hq:(s1 == s2)=false:=by simp;omega
  obtain⟨LB0,LG0_0,LG1_0⟩:=bx2 w #[.int .i64 s1,.bool g1,.slice A1 n1 c1,.slice B1 m1 d1] 87 #[.int .i64 s2,.bool g2,.slice A2 n2 c2,.slice B2 m2 d2] 87
  go_enter Tryz.func94,Tryz.ntmps94
  go_wp2
  go_ret
  exact⟨rfl,LB0.out⟩
 ·subst h
  by_cases h0:s1=0
  ·subst h0;rw [ec_zero];obtain⟨LB0,LG0_0,LG1_0⟩:=bx2 w #[.int .i64 0,.bool g1,.slice A1 n1 c1,.slice B1 m1 d1] 87 #[.int .i64 0,.bool g2,.slice A2 n2 c2,.slice B2 m2 d2] 87;have HC:=Hd fun W (hW:Below w.heap.size w W)=>rcmp_w K g1 _ _ x1 g2 _ _ x2 W (h1.below hW) (h2.below hW) hK;clear h1 h2
   go_enter Tryz.func94,Tryz.ntmps94
   go_wp2_with fail;refine (HC.out _ LB0.out).mono ?_;rintro e w1 ⟨rfl,hb1⟩;have LB1:=stB LB0 hb1 LB0.out.size;have LG0_1:=stG LG0_0 hb1;have LG1_1:=stG LG1_0 hb1;clear LB0 LG0_0 LG1_0;go_wp2
   go_ret
   exact⟨rfl,LB1.out⟩
  ·rw [ec_inf x1 x2 rfl h0]
   have hq:(s1 == 0)=false:=by simp;omega
   obtain⟨LB0,LG0_0,LG1_0⟩:=bx2 w #[.int .i64 s1,.bool g1,.slice A1 n1 c1,.slice B1 m1 d1] 87 #[.int .i64 s1,.bool g2,.slice A2 n2 c2,.slice B2 m2 d2] 87
   go_enter Tryz.func94,Tryz.ntmps94
   go_wp2
   go_ret
   exact⟨rfl,LB0.out⟩
 ·rw [ec_gt x1 x2 h]
  have hq:(s1 == s2)=false:=by simp;omega
  have hq2:¬ s1<s2:=by omega
  obtain⟨LB0,LG0_0,LG1_0⟩:=bx2 w #[.int .i64 s1,.bool g1,.slice A1 n1 c1,.slice B1 m1 d1] 87 #[.int .i64 s2,.bool g2,.slice A2 n2 c2,.slice B2 m2 d2] 87
  go_enter Tryz.func94,Tryz.ntmps94
  go_wp2
  go_ret
  exact⟨rfl,LB0.out⟩
end
end Go.Proofs.YthlmlmfebpjgdaaGreatDoor
