/-
Walks: package rev, FMARevAdd.
rev.FMARevAdd by indexes.
RevThrough: what its calls answer; it returns true.
Arguments that are ratios, or structs of ratios, opened.
-/
import Derived.Test.YthlmlmfebpjgdaaGreatDoorM35
import Derived.Deep.DeepCutAuto
import Derived.Deep.CutRange
import Derived.Deep.CutBlock
import Derived.Test.YthlmlmfebpjgdaaGreatDoorPThruT
import Derived.Test.YthlmlmfebpjgdaaGreatDoorM23
import Derived.Test.YthlmlmfebpjgdaaGreatDoorRows
import Derived.WalkKit
import Derived.ProofKit
import Derived.OpenShut
import Derived.Below
import Derived.Carry
import Derived.ChangeSame
import Derived.ChangeSlices
set_option linter.unusedSimpArgs false
set_option linter.unusedVariables false
set_option maxHeartbeats 12800000
namespace Go.Proofs.YthlmlmfebpjgdaaGreatDoor
open Go.RowKit
attribute [local go_sem] run_store_float
set_option maxRecDepth 8000 in
theorem fmaadd_none(a1 a2 b1 b2 c1 c2 y1 y2 A1 A2 B1 B2 C1 C2 x1 x2:Nat)(d1 d2 d3 d4:Bool)(w:World)(t1:∀ W,Calls Tryz.prog 102 #[.agg #[.float .f64 a1,.float .f64 a2]] W fun e w'=>e=.returned (.agg #[.float .f64 A1,.float .f64 A2])∧Below W.heap.size W w')(m1:Em d1 A1 A2)(t2:∀ W,Calls Tryz.prog 102 #[.agg #[.float .f64 b1,.float .f64 b2]] W fun e w'=>e=.returned (.agg #[.float .f64 B1,.float .f64 B2])∧Below W.heap.size W w')(m2:Em d2 B1 B2)(t3:∀ W,Calls Tryz.prog 102 #[.agg #[.float .f64 c1,.float .f64 c2]] W fun e w'=>e=.returned (.agg #[.float .f64 C1,.float .f64 C2])∧Below W.heap.size W w')(m3:Em d3 C1 C2)(t4:∀ W,Calls Tryz.prog 102 #[.agg #[.float .f64 y1,.float .f64 y2]] W fun e w'=>e=.returned (.agg #[.float .f64 x1,.float .f64 x2])∧Below W.heap.size W w')(m4:Em d4 x1 x2)(hnn:(d1 || d2 || d3 || d4)=true):
  Calls Tryz.prog 32 #[.agg #[.float .f64 a1,.float .f64 a2],.agg #[.float .f64 b1,.float .f64 b2],.agg #[.float .f64 c1,.float .f64 c2],.agg #[.float .f64 y1,.float .f64 y2]] w fun e w'=>e=.returned (.agg #[.float .f64 9218868437227405312,.float .f64 18442240474082181120])∧Below w.heap.size w w':=by
 have HE:=Hd emptyf;have LL:=li5 w #[.float .f64 a1,.float .f64 a2] 28 #[.float .f64 b1,.float .f64 b2] 28 #[.float .f64 c1,.float .f64 c2] 28 #[.float .f64 y1,.float .f64 y2] 28 #[.float .f64 0,.float .f64 0] 28;have hrow:=Blk.at (W:=(((((w.alloc (.cells #[.float .f64 a1,.float .f64 a2] 28)).alloc (.cells #[.float .f64 b1,.float .f64 b2] 28)).alloc (.cells #[.float .f64 c1,.float .f64 c2] 28)).alloc (.cells #[.float .f64 y1,.float .f64 y2] 28)).alloc (.cells #[.float .f64 0,.float .f64 0] 28))) (g:=w.heap.size+1+1+1+1+1) (by simp) 75 #[.pointer (some ⟨w.heap.size,0,none⟩),.pointer (some ⟨w.heap.size+1,0,none⟩),.pointer (some ⟨w.heap.size+1+1,0,none⟩),.pointer (some ⟨w.heap.size+1+1+1,0,none⟩)]
 have HRD:=Hd (read_n w.heap.size 4 (w.heap.size+1+1+1+1+1) 4 (fun k:Nat=>if k=0 then (a1,a2) else if k=1 then (b1,b2) else if k=2 then (c1,c2) else (y1,y2)) (fun k:Nat=>if k=0 then (A1,A2) else if k=1 then (B1,B2) else if k=2 then (C1,C2) else (x1,x2)) (fun k:Nat=>if k=0 then d1 else if k=1 then d2 else if k=2 then d3 else d4) _ (by omega) (by omega)
  (fun k hk=>by match k,hk with | 0,_=>exact hrow.cell 0 | 1,_=>exact hrow.cell 1 | 2,_=>exact hrow.cell 2 | 3,_=>exact hrow.cell 3) (fun k hk=>by match k,hk with | 0,_=>exact (LL.out.blk 0 rfl).alloc (.cells #[.pointer (some ⟨w.heap.size,0,none⟩),.pointer (some ⟨w.heap.size+1,0,none⟩),.pointer (some ⟨w.heap.size+1+1,0,none⟩),.pointer (some ⟨w.heap.size+1+1+1,0,none⟩)] 75) | 1,_=>exact (LL.out.blk 1 rfl).alloc (.cells #[.pointer (some ⟨w.heap.size,0,none⟩),.pointer (some ⟨w.heap.size+1,0,none⟩),.pointer (some ⟨w.heap.size+1+1,0,none⟩),.pointer (some ⟨w.heap.size+1+1+1,0,none⟩)] 75) | 2,_=>exact (LL.out.blk 2 rfl).alloc (.cells #[.pointer (some ⟨w.heap.size,0,none⟩),.pointer (some ⟨w.heap.size+1,0,none⟩),.pointer (some ⟨w.heap.size+1+1,0,none⟩),.pointer (some ⟨w.heap.size+1+1+1,0,none⟩)] 75) | 3,_=>exact (LL.out.blk 3 rfl).alloc (.cells #[.pointer (some ⟨w.heap.size,0,none⟩),.pointer (some ⟨w.heap.size+1,0,none⟩),.pointer (some ⟨w.heap.size+1+1,0,none⟩),.pointer (some ⟨w.heap.size+1+1+1,0,none⟩)] 75)) (fun k hk=>by match k,hk with | 0,_=>exact t1 | 1,_=>exact t2 | 2,_=>exact t3 | 3,_=>exact t4) (fun k hk=>by match k,hk with | 0,_=>exact m1 | 1,_=>exact m2 | 2,_=>exact m3 | 3,_=>exact m4))
 rw [show anyB (fun k:Nat=>if k=0 then d1 else if k=1 then d2 else if k=2 then d3 else d4) 4=(d1 || d2 || d3 || d4) from by simp [anyB],hnn] at HRD;have LLR:=Hd (LL.out.alloc (.cells #[.pointer (some ⟨w.heap.size,0,none⟩),.pointer (some ⟨w.heap.size+1,0,none⟩),.pointer (some ⟨w.heap.size+1+1,0,none⟩),.pointer (some ⟨w.heap.size+1+1+1,0,none⟩)] 75));have HSZ:=Hd (show w.heap.size≤(((((((w.alloc (.cells #[.float .f64 a1,.float .f64 a2] 28)).alloc (.cells #[.float .f64 b1,.float .f64 b2] 28)).alloc (.cells #[.float .f64 c1,.float .f64 c2] 28)).alloc (.cells #[.float .f64 y1,.float .f64 y2] 28)).alloc (.cells #[.float .f64 0,.float .f64 0] 28))).alloc (.cells #[.pointer (some ⟨w.heap.size,0,none⟩),.pointer (some ⟨w.heap.size+1,0,none⟩),.pointer (some ⟨w.heap.size+1+1,0,none⟩),.pointer (some ⟨w.heap.size+1+1+1,0,none⟩)] 75)).heap.size by simp;omega);clear t1 m1 t2 m2 t3 m3 t4 m4 hrow hnn LL
 go_enter Tryz.func32,Tryz.ntmps32
 go_wp2_with fail;refine HRD.out.mono ?_;rintro e wk ⟨rfl,hd,kp⟩;have LL:=Hd (show Lies w wk [(w.heap.size,28,#[.float .f64 A1,.float .f64 A2]),((w.heap.size+1),28,#[.float .f64 B1,.float .f64 B2]),((w.heap.size+2),28,#[.float .f64 C1,.float .f64 C2]),((w.heap.size+3),28,#[.float .f64 x1,.float .f64 x2]),((w.heap.size+4),28,#[.float .f64 0,.float .f64 0])] [] from⟨kp.toBl LLR.out.b HSZ.out (Nat.le_refl _),by simp only [List.mem_cons,List.not_mem_nil,or_false,forall_eq_or_imp,forall_eq];exact⟨show Blk wk w.heap.size 28 #[.float .f64 A1,.float .f64 A2] from hd 0 (by omega),show Blk wk (w.heap.size+1) 28 #[.float .f64 B1,.float .f64 B2] from hd 1 (by omega),show Blk wk (w.heap.size+2) 28 #[.float .f64 C1,.float .f64 C2] from hd 2 (by omega),show Blk wk (w.heap.size+3) 28 #[.float .f64 x1,.float .f64 x2] from hd 3 (by omega),kp.blk (LLR.out.blk 4 rfl) (by omega)⟩,by simp⟩);clear hd kp LLR HSZ HRD;go_wp2_with fail;refine (HE.out _).mono ?_;rintro e wk ⟨rfl,hb⟩;replace LL:=stL LL hb;clear hb;replace LL:=Hd (LL.out.loose 4 rfl rfl)
 simp only [List.eraseIdx,List.size_toArray,List.length_cons,List.length_nil,Nat.zero_add,Nat.reduceAdd] at LL
 obtain⟨ha8_0,hf8_0,ha8_1,hf8_1⟩:=(LL.out.has 0 rfl).sf2;have LF:=Hd (LL.out.write [.float .f64 9218868437227405312,.float .f64 18442240474082181120] rfl (by omega) (by simp<;>omega) (by simp<;>omega));obtain⟨hk8_0,hk8_1⟩:=(LF.out.blk 4 rfl).c2
 simp [sets] at hk8_0 hk8_1
 clear LL;go_wp2;refine bodyPost_ret (v:=.agg #[.float .f64 9218868437227405312,.float .f64 18442240474082181120]) (by simp [results,Tryz.results32,go_sem,hk8_0,hk8_1]) rfl ?_
 exact⟨rfl,LF.out.b⟩
set_option maxRecDepth 8000 in
theorem fmaadd_some(a1 a2 b1 b2 c1 c2 y1 y2 A1 A2 B1 B2 C1 C2 x1 x2 r1 r2:Nat)(us vs Pd Pu Qd Qu:Nat→Nat)(ld lu gd gu:Nat→Nat→Nat)(d1 d2 d3 d4:Bool)(w:World)(t1:∀ W,Calls Tryz.prog 102 #[.agg #[.float .f64 a1,.float .f64 a2]] W fun e w'=>e=.returned (.agg #[.float .f64 A1,.float .f64 A2])∧Below W.heap.size W w')(m1:Em d1 A1 A2)(t2:∀ W,Calls Tryz.prog 102 #[.agg #[.float .f64 b1,.float .f64 b2]] W fun e w'=>e=.returned (.agg #[.float .f64 B1,.float .f64 B2])∧Below W.heap.size W w')(m2:Em d2 B1 B2)(t3:∀ W,Calls Tryz.prog 102 #[.agg #[.float .f64 c1,.float .f64 c2]] W fun e w'=>e=.returned (.agg #[.float .f64 C1,.float .f64 C2])∧Below W.heap.size W w')(m3:Em d3 C1 C2)(t4:∀ W,Calls Tryz.prog 102 #[.agg #[.float .f64 y1,.float .f64 y2]] W fun e w'=>e=.returned (.agg #[.float .f64 x1,.float .f64 x2])∧Below W.heap.size W w')(m4:Em d4 x1 x2)(hnn:(d1 || d2 || d3 || d4)=false)
  (hu:us 0=A1∧us 1=A2)(hv:vs 0=B1∧vs 1=B2)(hp:Pd 0=9218868437227405312∧Pu 0=9218868437227405312)(hq:Qd 0=18442240474082181120∧Qu 0=18442240474082181120)
  (hl:∀ i j:Nat,i<2→j<2→∀ W,Calls Tryz.prog 92 #[.float .f64 C1,.float .f64 (us i),.float .f64 (vs j)] W fun e w'=>e=.returned (.agg #[.float .f64 (ld i j),.float .f64 (lu i j)])∧Below W.heap.size W w')(hh:∀ i j:Nat,i<2→j<2→∀ W,Calls Tryz.prog 92 #[.float .f64 C2,.float .f64 (us i),.float .f64 (vs j)] W fun e w'=>e=.returned (.agg #[.float .f64 (gd i j),.float .f64 (gu i j)])∧Below W.heap.size W w')
  (na:∀ i j:Nat,i<2→j<2→∀ W ts t,(Builtin.min_ ts t #[.float .f64 (Pd (2*i+j)),.float .f64 (ld i j)]).run Tryz.prog W=.ok (.float .f64 (Pd (2*i+j+1))) W)(nb:∀ i j:Nat,i<2→j<2→∀ W ts t,(Builtin.min_ ts t #[.float .f64 (Pu (2*i+j)),.float .f64 (lu i j)]).run Tryz.prog W=.ok (.float .f64 (Pu (2*i+j+1))) W)(xa:∀ i j:Nat,i<2→j<2→∀ W ts t,(Builtin.max_ ts t #[.float .f64 (Qd (2*i+j)),.float .f64 (gd i j)]).run Tryz.prog W=.ok (.float .f64 (Qd (2*i+j+1))) W)(xb:∀ i j:Nat,i<2→j<2→∀ W ts t,(Builtin.max_ ts t #[.float .f64 (Qu (2*i+j)),.float .f64 (gu i j)]).run Tryz.prog W=.ok (.float .f64 (Qu (2*i+j+1))) W)
  (hcut:∀ W,Calls Tryz.prog 77 #[.agg #[.float .f64 x1,.float .f64 x2],.agg #[.float .f64 (Pd (4)),.float .f64 (Pu (4))],.agg #[.float .f64 (Qd (4)),.float .f64 (Qu (4))],.bool false] W fun e w'=>e=.returned (.agg #[.float .f64 r1,.float .f64 r2])∧Below W.heap.size W w'):
  Calls Tryz.prog 32 #[.agg #[.float .f64 a1,.float .f64 a2],.agg #[.float .f64 b1,.float .f64 b2],.agg #[.float .f64 c1,.float .f64 c2],.agg #[.float .f64 y1,.float .f64 y2]] w fun e w'=>e=.returned (.agg #[.float .f64 r1,.float .f64 r2])∧Below w.heap.size w w':=by
 have HI:=Hd fun W=>inf_pos W;have HJ:=Hd fun W=>inf_neg W;have HT:=Hd fun W=>at_any 9218868437227405312 W;have HS:=Hd fun W=>at_any 18442240474082181120 W
 have IXA:=Hd (show ∀ i:Nat,i<2→∀ W,(Instr.index 99 (.agg #[.float .f64 A1,.float .f64 A2]) (.int .i64 (i:Int))).run Tryz.prog W=.ok (.float .f64 (us i)) W from fun i hi=>by
  match i,hi with
  | 0,_=>rw [hu.1];exact fun _=>by kernel_rfl
  | 1,_=>rw [hu.2];exact fun _=>by kernel_rfl)
 have IXB:=Hd (show ∀ i:Nat,i<2→∀ W,(Instr.index 99 (.agg #[.float .f64 B1,.float .f64 B2]) (.int .i64 (i:Int))).run Tryz.prog W=.ok (.float .f64 (vs i)) W from fun i hi=>by
  match i,hi with
  | 0,_=>rw [hv.1];exact fun _=>by kernel_rfl
  | 1,_=>rw [hv.2];exact fun _=>by kernel_rfl)
 have HL:=Hd hl;have HH:=Hd hh;have NA:=Hd na;have NB:=Hd nb;have XA:=Hd xa;have XB:=Hd xb;have HCUT:=Hd hcut;have HP:=Hd hp;have HQ:=Hd hq;clear hl hh na nb xa xb hcut hp hq;clear hu hv;have LL:=li5 w #[.float .f64 a1,.float .f64 a2] 28 #[.float .f64 b1,.float .f64 b2] 28 #[.float .f64 c1,.float .f64 c2] 28 #[.float .f64 y1,.float .f64 y2] 28 #[.float .f64 0,.float .f64 0] 28;have hrow:=Blk.at (W:=(((((w.alloc (.cells #[.float .f64 a1,.float .f64 a2] 28)).alloc (.cells #[.float .f64 b1,.float .f64 b2] 28)).alloc (.cells #[.float .f64 c1,.float .f64 c2] 28)).alloc (.cells #[.float .f64 y1,.float .f64 y2] 28)).alloc (.cells #[.float .f64 0,.float .f64 0] 28))) (g:=w.heap.size+1+1+1+1+1) (by simp) 75 #[.pointer (some ⟨w.heap.size,0,none⟩),.pointer (some ⟨w.heap.size+1,0,none⟩),.pointer (some ⟨w.heap.size+1+1,0,none⟩),.pointer (some ⟨w.heap.size+1+1+1,0,none⟩)]
 have HRD:=Hd (read_n w.heap.size 4 (w.heap.size+1+1+1+1+1) 4 (fun k:Nat=>if k=0 then (a1,a2) else if k=1 then (b1,b2) else if k=2 then (c1,c2) else (y1,y2)) (fun k:Nat=>if k=0 then (A1,A2) else if k=1 then (B1,B2) else if k=2 then (C1,C2) else (x1,x2)) (fun k:Nat=>if k=0 then d1 else if k=1 then d2 else if k=2 then d3 else d4) _ (by omega) (by omega)
  (fun k hk=>by match k,hk with | 0,_=>exact hrow.cell 0 | 1,_=>exact hrow.cell 1 | 2,_=>exact hrow.cell 2 | 3,_=>exact hrow.cell 3) (fun k hk=>by match k,hk with | 0,_=>exact (LL.out.blk 0 rfl).alloc (.cells #[.pointer (some ⟨w.heap.size,0,none⟩),.pointer (some ⟨w.heap.size+1,0,none⟩),.pointer (some ⟨w.heap.size+1+1,0,none⟩),.pointer (some ⟨w.heap.size+1+1+1,0,none⟩)] 75) | 1,_=>exact (LL.out.blk 1 rfl).alloc (.cells #[.pointer (some ⟨w.heap.size,0,none⟩),.pointer (some ⟨w.heap.size+1,0,none⟩),.pointer (some ⟨w.heap.size+1+1,0,none⟩),.pointer (some ⟨w.heap.size+1+1+1,0,none⟩)] 75) | 2,_=>exact (LL.out.blk 2 rfl).alloc (.cells #[.pointer (some ⟨w.heap.size,0,none⟩),.pointer (some ⟨w.heap.size+1,0,none⟩),.pointer (some ⟨w.heap.size+1+1,0,none⟩),.pointer (some ⟨w.heap.size+1+1+1,0,none⟩)] 75) | 3,_=>exact (LL.out.blk 3 rfl).alloc (.cells #[.pointer (some ⟨w.heap.size,0,none⟩),.pointer (some ⟨w.heap.size+1,0,none⟩),.pointer (some ⟨w.heap.size+1+1,0,none⟩),.pointer (some ⟨w.heap.size+1+1+1,0,none⟩)] 75)) (fun k hk=>by match k,hk with | 0,_=>exact t1 | 1,_=>exact t2 | 2,_=>exact t3 | 3,_=>exact t4) (fun k hk=>by match k,hk with | 0,_=>exact m1 | 1,_=>exact m2 | 2,_=>exact m3 | 3,_=>exact m4))
 rw [show anyB (fun k:Nat=>if k=0 then d1 else if k=1 then d2 else if k=2 then d3 else d4) 4=(d1 || d2 || d3 || d4) from by simp [anyB],hnn] at HRD;have LLR:=Hd (LL.out.alloc (.cells #[.pointer (some ⟨w.heap.size,0,none⟩),.pointer (some ⟨w.heap.size+1,0,none⟩),.pointer (some ⟨w.heap.size+1+1,0,none⟩),.pointer (some ⟨w.heap.size+1+1+1,0,none⟩)] 75));have HSZ:=Hd (show w.heap.size≤(((((((w.alloc (.cells #[.float .f64 a1,.float .f64 a2] 28)).alloc (.cells #[.float .f64 b1,.float .f64 b2] 28)).alloc (.cells #[.float .f64 c1,.float .f64 c2] 28)).alloc (.cells #[.float .f64 y1,.float .f64 y2] 28)).alloc (.cells #[.float .f64 0,.float .f64 0] 28))).alloc (.cells #[.pointer (some ⟨w.heap.size,0,none⟩),.pointer (some ⟨w.heap.size+1,0,none⟩),.pointer (some ⟨w.heap.size+1+1,0,none⟩),.pointer (some ⟨w.heap.size+1+1+1,0,none⟩)] 75)).heap.size by simp;omega);clear t1 m1 t2 m2 t3 m3 t4 m4 hrow hnn LL
 go_enter Tryz.func32,Tryz.ntmps32
 go_wp2_with fail;refine HRD.out.mono ?_;rintro e wk ⟨rfl,hd,kp⟩;have LL:=Hd (show Lies w wk [(w.heap.size,28,#[.float .f64 A1,.float .f64 A2]),((w.heap.size+1),28,#[.float .f64 B1,.float .f64 B2]),((w.heap.size+2),28,#[.float .f64 C1,.float .f64 C2]),((w.heap.size+3),28,#[.float .f64 x1,.float .f64 x2]),((w.heap.size+4),28,#[.float .f64 0,.float .f64 0])] [] from⟨kp.toBl LLR.out.b HSZ.out (Nat.le_refl _),by simp only [List.mem_cons,List.not_mem_nil,or_false,forall_eq_or_imp,forall_eq];exact⟨show Blk wk w.heap.size 28 #[.float .f64 A1,.float .f64 A2] from hd 0 (by omega),show Blk wk (w.heap.size+1) 28 #[.float .f64 B1,.float .f64 B2] from hd 1 (by omega),show Blk wk (w.heap.size+2) 28 #[.float .f64 C1,.float .f64 C2] from hd 2 (by omega),show Blk wk (w.heap.size+3) 28 #[.float .f64 x1,.float .f64 x2] from hd 3 (by omega),kp.blk (LLR.out.blk 4 rfl) (by omega)⟩,by simp⟩);clear hd kp LLR HSZ HRD;go_wp2_with fail;refine (HI.out _).mono ?_;rintro e wk ⟨rfl,rfl⟩;go_wp2_with fail;refine (HT.out _).mono ?_;rintro e wk ⟨rfl,hb⟩;replace LL:=stL LL hb;clear hb;go_wp2_with fail;refine (HJ.out _).mono ?_;rintro e wk ⟨rfl,rfl⟩;go_wp2_with fail;refine (HS.out _).mono ?_;rintro e wk ⟨rfl,hb⟩;replace LL:=stL LL hb;clear hb
 go_upto_region 4 with fail
 clear HI HJ HT HS;have hl_j9:=LL.out.lts;generalize hwm:World.alloc wk _=wm;replace LL:=Hd (LL.out.newE hwm)
 have hz:wm.heap.size=wk.heap.size+1:=by rw [← hwm];simp
 clear hwm;generalize hwn:World.alloc wm _=wn;replace LL:=Hd (LL.out.newE hwn);rw [hz] at LL
 simp only [List.cons_append,List.nil_append] at LL
 simp only [List.mem_cons,List.not_mem_nil,or_false,forall_eq_or_imp,forall_eq,false_imp_iff,implies_true,and_true] at hl_j9
 clear hwn hz;generalize wk.heap.size=j9 at LL hl_j9 ⊢;have LL0:=Hd (show Lies w wn [(w.heap.size,28,#[.float .f64 A1,.float .f64 A2]),((w.heap.size+1),28,#[.float .f64 B1,.float .f64 B2]),((w.heap.size+2),28,#[.float .f64 C1,.float .f64 C2]),((w.heap.size+3),28,#[.float .f64 x1,.float .f64 x2]),((w.heap.size+4),28,#[.float .f64 0,.float .f64 0]),(j9,78,#[.float .f64 (Pd (2*0)),.float .f64 (Pu (2*0))]),((j9+1),78,#[.float .f64 (Qd (2*0)),.float .f64 (Qu (2*0))])] [] from by rw [HP.out.1,HP.out.2,HQ.out.1,HQ.out.2];exact LL.out);clear LL HP HQ;have LL:=LL0;clear LL0;obtain⟨q1_0,q1_1⟩:=(LL.out.blk 0 rfl).c2;go_wp2;clear q1_0 q1_1
 go_loopw [12,29] (fun _ iv wr=>∃ i:Nat,iv=.int .i64 (i:Int)∧i≤2∧Lies w wr [(w.heap.size,28,#[.float .f64 A1,.float .f64 A2]),((w.heap.size+1),28,#[.float .f64 B1,.float .f64 B2]),((w.heap.size+2),28,#[.float .f64 C1,.float .f64 C2]),((w.heap.size+3),28,#[.float .f64 x1,.float .f64 x2]),((w.heap.size+4),28,#[.float .f64 0,.float .f64 0]),(j9,78,#[.float .f64 (Pd (2*i)),.float .f64 (Pu (2*i))]),((j9+1),78,#[.float .f64 (Qd (2*i)),.float .f64 (Qu (2*i))])] []) (fun _ iv _=>2 - (intOf iv).toNat)
 case atStart=>exact⟨0,rfl,by omega,LL.out⟩
 case round=>
  clear LL;obtain⟨i,rfl,hi,hl⟩:=hrel;have LL:=Hd hl;clear hl
  by_cases hlt:i<2
  ·skip
   obtain⟨wo,rfl⟩:∃ wo:World,wo=wr:=⟨_,rfl⟩
   have ixi:=IXA.out i hlt;obtain⟨q2_0,q2_1⟩:=(LL.out.blk 1 rfl).c2;go_wp2;clear ixi q2_0 q2_1
   go_loopw [14,37] (fun _ iv wr=>∃ j:Nat,iv=.int .i64 (j:Int)∧j≤2∧Lies w wr [(w.heap.size,28,#[.float .f64 A1,.float .f64 A2]),((w.heap.size+1),28,#[.float .f64 B1,.float .f64 B2]),((w.heap.size+2),28,#[.float .f64 C1,.float .f64 C2]),((w.heap.size+3),28,#[.float .f64 x1,.float .f64 x2]),((w.heap.size+4),28,#[.float .f64 0,.float .f64 0]),(j9,78,#[.float .f64 (Pd (2*i+j)),.float .f64 (Pu (2*i+j))]),((j9+1),78,#[.float .f64 (Qd (2*i+j)),.float .f64 (Qu (2*i+j))])] []) (fun _ iv _=>2 - (intOf iv).toNat)
   case atStart=>exact⟨0,rfl,by omega,LL.out⟩
   case round=>
    clear LL;obtain⟨j,rfl,hj,hl⟩:=hrel;have LL:=Hd hl;clear hl
    by_cases hlt2:j<2
    ·skip;have ixj:=IXB.out j hlt2;have HLk:=Hd (HL.out i j hlt hlt2);have HHk:=Hd (HH.out i j hlt hlt2)
     go_upto_region 10 with fail
     clear ixj
     go_cut [15,16,30,38] from 40 to 49 (fun s15 s16 s30 s38 wx=>∃ j15 j16:Nat,s30=.bool (decide ((i:Int)<2))∧s15=.pointer (some ⟨j15,0,none⟩)∧s16=.pointer (some ⟨j16,0,none⟩)∧(w.heap.size+4<j15∧w.heap.size+4<j16∧j9+1<j15∧j9+1<j16∧j15≠j16)∧Lies w wx [(w.heap.size,28,#[.float .f64 A1,.float .f64 A2]),((w.heap.size+1),28,#[.float .f64 B1,.float .f64 B2]),((w.heap.size+2),28,#[.float .f64 C1,.float .f64 C2]),((w.heap.size+3),28,#[.float .f64 x1,.float .f64 x2]),((w.heap.size+4),28,#[.float .f64 0,.float .f64 0]),(j9,78,#[.float .f64 (Pd (2*i+j)),.float .f64 (Pu (2*i+j))]),((j9+1),78,#[.float .f64 (Qd (2*i+j)),.float .f64 (Qu (2*i+j))]),(j15,78,#[.float .f64 (ld i j),.float .f64 (lu i j)]),(j16,78,#[.float .f64 (gd i j),.float .f64 (gu i j)])] [])
     case first=>
      clear HL HH NA NB XA XB HCUT IXA IXB hlt2 hi hj;refine regL LL (fun hHeld=>?_);clear LL;generalize World.drew _=wk at hHeld  ⊢;refine tk 0 ?_;(try simp only [Act.put,lay]);refine tk 1 ?_ (hv:=by intro W2 hSw;obtain⟨q0,q1⟩:=(hSw.blk 2 rfl).c2;go_simp;(try with_reducible rfl));(try simp only [Act.put,lay]);refine tk 2 ?_;(try simp only [Act.put,lay]);refine tk 3 ?_;(try simp only [Act.put,lay]);refine tk 5 ?_;(try simp only [Act.put,lay]);refine tk 6 ?_ (hv:=by intro W2 hSw;obtain⟨q0,q1⟩:=(hSw.blk 2 rfl).c2;go_simp;(try with_reducible rfl));(try simp only [Act.put,lay]);refine tk 7 ?_;(try simp only [Act.put,lay]);refine tk 8 ?_;(try simp only [Act.put,lay])
      repeat' first
       | (have hx:=hC4;clear hx;go_simp;refine (HLk.out _).mono ?_;rintro e wk ⟨rfl,hb1⟩;go_wp2_with fail;refine hC4.out _ _ (hHeld.keep hb1) (fun _=>?_);clear hC4 KK hHeld;rename_i hHeld;(try simp only [Act.put,lay]);(try replace B_j15:=B_j15.keep hb1);(try replace B_j16:=B_j16.keep hb1);clear hb1;have mk4:=True.intro)
       | (have hx:=hC9;clear hx;go_simp;refine (HHk.out _).mono ?_;rintro e wk ⟨rfl,hb2⟩;go_wp2_with fail;refine hC9.out _ _ (hHeld.keep hb2) (fun _=>?_);clear hC9 KK hHeld;rename_i hHeld;(try simp only [Act.put,lay]);(try replace B_j15:=B_j15.keep hb2);(try replace B_j16:=B_j16.keep hb2);clear hb2;have mk9:=True.intro)
       | (have hx:=hA10;clear hx;go_simp;have hl_j15:=hHeld.lts;refine hA10.out _ _ (hHeld.alloc _) (fun _=>?_);clear hA10 KK hHeld;rename_i hHeld;(try simp only [Act.put,lay]);generalize hwn:World.alloc wk _=wn at hHeld ⊢;have B_j15:=Blk.newE hwn;(try (have hx_j15:=B_j16.lt;replace B_j16:=B_j16.keep (below_allocE hwn)));simp only [List.mem_cons,List.not_mem_nil,or_false,forall_eq_or_imp,forall_eq,false_imp_iff,implies_true,and_true] at hl_j15;clear hwn;generalize hg:wk.heap.size=j15 at B_j15 hl_j15 ⊢;(try rw [hg] at hx_j15);clear hg;obtain⟨wk,rfl⟩:∃ X,X=wn:=⟨_,rfl⟩;have mk10:=True.intro)
       | (have hx:=hA11;clear hx;go_simp;have hl_j16:=hHeld.lts;refine hA11.out _ _ (hHeld.alloc _) (fun _=>?_);clear hA11 KK hHeld;rename_i hHeld;(try simp only [Act.put,lay]);generalize hwn:World.alloc wk _=wn at hHeld ⊢;have B_j16:=Blk.newE hwn;(try (have hx_j16:=B_j15.lt;replace B_j15:=B_j15.keep (below_allocE hwn)));simp only [List.mem_cons,List.not_mem_nil,or_false,forall_eq_or_imp,forall_eq,false_imp_iff,implies_true,and_true] at hl_j16;clear hwn;generalize hg:wk.heap.size=j16 at B_j16 hl_j16 ⊢;(try rw [hg] at hx_j16);clear hg;obtain⟨wk,rfl⟩:∃ X,X=wn:=⟨_,rfl⟩;have mk11:=True.intro)
       | (have hx:=hS12;clear hx;have qz0:=B_j15.ce 0 rfl;have fz0:=B_j15.frozen 0;have qz1:=B_j15.ce 1 rfl;have fz1:=B_j15.frozen 1;go_simp;have hsx:=hHeld.far [.float .f64 (ld i j),.float .f64 (lu i j)] 0 (g:=j15) (by omega) (by simp<;>omega) (by simp<;>omega);generalize hwn:sets wk j15 0 _=wn at hsx;refine hS12.out _ _ (by have e:=hwn;simp only [sets,Nat.reduceAdd] at e;rw [e];exact hsx) (fun _=>?_);clear hS12 KK hHeld hsx;rename_i hHeld;(try simp only [Act.put,lay]);(try replace B_j16:=B_j16.otherE hwn (by omega));replace B_j15:=B_j15.setsE hwn;simp only [laid,lay,Nat.reduceAdd] at B_j15;simp only [sets,Nat.reduceAdd] at hwn;rw [hwn] at hHeld ⊢;clear hwn qz0 fz0 qz1 fz1;obtain⟨wk,rfl⟩:∃ X,X=wn:=⟨_,rfl⟩;have mk12:=True.intro)
       | (have hx:=hS13;clear hx;have qz0:=B_j16.ce 0 rfl;have fz0:=B_j16.frozen 0;have qz1:=B_j16.ce 1 rfl;have fz1:=B_j16.frozen 1;go_simp;have hsx:=hHeld.far [.float .f64 (gd i j),.float .f64 (gu i j)] 0 (g:=j16) (by omega) (by simp<;>omega) (by simp<;>omega);generalize hwn:sets wk j16 0 _=wn at hsx;refine hS13.out _ _ (by have e:=hwn;simp only [sets,Nat.reduceAdd] at e;rw [e];exact hsx) (fun _=>?_);clear hS13 KK hHeld hsx;rename_i hHeld;(try simp only [Act.put,lay]);(try replace B_j15:=B_j15.otherE hwn (by omega));replace B_j16:=B_j16.setsE hwn;simp only [laid,lay,Nat.reduceAdd] at B_j16;simp only [sets,Nat.reduceAdd] at hwn;rw [hwn] at hHeld ⊢;clear hwn qz0 fz0 qz1 fz1;obtain⟨wk,rfl⟩:∃ X,X=wn:=⟨_,rfl⟩;have mk13:=True.intro)
       | (have hx:=mk4;have hx:=mk9;have hx:=mk10;have hx:=mk11;have hx:=mk12;have hx:=mk13;refine wpAnyH_done (by kernel_rfl) ?_ _;clear hx mk4 mk9 mk10 mk11 mk12 mk13;go_wp2_with fail;go_meet;exact⟨j15,j16,by (first | rfl | (simp<;>omega)),rfl,rfl,⟨by omega,by omega,by omega,by omega,by omega⟩,(hHeld.put B_j15).put B_j16⟩)
       | (have hx:=mk4;have hx:=mk9;have hx:=mk10;have hx:=mk11;have hx:=mk12;refine rdy 13 (fun KK hS13=>?_))
       | (have hx:=mk4;have hx:=mk9;have hx:=mk10;have hx:=mk11;refine rdy 12 (fun KK hS12=>?_))
       | (have hx:=mk4;have hx:=mk10;have hx:=mk11;refine rdy 9 (fun KK hC9=>?_))
       | (have hx:=mk4;have hx:=mk9;have hx:=mk11;refine rdy 10 (fun KK hA10=>?_))
       | (have hx:=mk4;have hx:=mk9;have hx:=mk10;refine rdy 11 (fun KK hA11=>?_))
       | (have hx:=mk10;have hx:=mk11;refine rdy 4 (fun KK hC4=>?_))
       | (have hx:=mk4;have hx:=mk11;refine rd2 9 10 (fun KK hC9=>?_) (fun KK hA10=>?_))
       | (have hx:=mk4;have hx:=mk10;refine rd2 9 11 (fun KK hC9=>?_) (fun KK hA11=>?_))
       | (have hx:=mk4;have hx:=mk9;refine rd2 10 11 (fun KK hA10=>?_) (fun KK hA11=>?_))
       | (have hx:=mk11;refine rd2 4 10 (fun KK hC4=>?_) (fun KK hA10=>?_))
       | (have hx:=mk10;refine rd2 4 11 (fun KK hC4=>?_) (fun KK hA11=>?_))
       | (have hx:=mk4;refine rd3 9 10 11 (fun KK hC9=>?_) (fun KK hA10=>?_) (fun KK hA11=>?_))
       | (refine rd3 4 10 11 (fun KK hC4=>?_) (fun KK hA10=>?_) (fun KK hA11=>?_))
     case rest=>
     obtain⟨j15,j16,rfl,rfl,rfl,hgs,hcl⟩:=hcut;rename World=>wx;clear LL;have LL:=Hd hcl;clear hcl;obtain⟨q3_0,q3_1⟩:=(LL.out.blk 5 rfl).c2;obtain⟨q4_0,q4_1⟩:=(LL.out.blk 7 rfl).c2;have fz0:=(LL.out.blk 5 rfl).frozen 0;have fz1:=(LL.out.blk 5 rfl).frozen 1;have ma:=NA.out i j hlt hlt2;have mb:=NB.out i j hlt hlt2
     go_upto_region 12 with fail
     clear ma mb q3_0 q3_1 q4_0 q4_1 fz0 fz1;replace LL:=Hd (LL.out.part 5 rfl 0 [.float .f64 (Pd (2*i+j+1)),.float .f64 (Pu (2*i+j+1))] (by omega) (by simp<;>omega) (by simp<;>omega))
     simp only [List.eraseIdx,laid,List.cons_append,List.nil_append,List.setIfInBounds_toArray,List.set_cons_zero,List.set_cons_succ,Nat.zero_add,Nat.reduceAdd] at LL
     obtain⟨wn,hwn⟩:∃ X,(sets wx j9 0 [.float .f64 (Pd (2*i+j+1)),.float .f64 (Pu (2*i+j+1))])=X:=⟨_,rfl⟩
     rw [hwn] at LL
     simp only [sets,Nat.reduceAdd] at hwn
     rw [hwn];clear hwn;obtain⟨q5_0,q5_1⟩:=(LL.out.blk 5 rfl).c2;obtain⟨q6_0,q6_1⟩:=(LL.out.blk 7 rfl).c2;have fz0:=(LL.out.blk 5 rfl).frozen 0;have fz1:=(LL.out.blk 5 rfl).frozen 1;have ma:=XA.out i j hlt hlt2;have mb:=XB.out i j hlt hlt2
     go_upto_region 13 with fail
     clear ma mb q5_0 q5_1 q6_0 q6_1 fz0 fz1;replace LL:=Hd (LL.out.part 5 rfl 0 [.float .f64 (Qd (2*i+j+1)),.float .f64 (Qu (2*i+j+1))] (by omega) (by simp<;>omega) (by simp<;>omega))
     simp only [List.eraseIdx,laid,List.cons_append,List.nil_append,List.setIfInBounds_toArray,List.set_cons_zero,List.set_cons_succ,Nat.zero_add,Nat.reduceAdd] at LL
     obtain⟨wn,hwn⟩:∃ X,(sets wn (j9+1) 0 [.float .f64 (Qd (2*i+j+1)),.float .f64 (Qu (2*i+j+1))])=X:=⟨_,rfl⟩
     rw [hwn] at LL
     simp only [sets,Nat.reduceAdd] at hwn
     rw [hwn];clear hwn;go_wp2
     go_roundw
     case rel=>exact⟨j+1,by go_num,by omega,LL.out.perm (by simp [Nat.add_assoc]) (by simp)⟩
     case measure=>simp [intOf];omega
    ·skip
     obtain rfl:j=2:=by omega
     go_wp2
     go_roundw
     case rel=>exact⟨i+1,by go_num,by omega,by rw [show 2*(i+1)=2*i+2 from by omega];exact LL.out⟩
     case measure=>simp [intOf];omega
  ·skip
   obtain rfl:i=2:=by omega
   obtain⟨q3_0,q3_1⟩:=(LL.out.blk 3 rfl).c2;obtain⟨q4_0,q4_1⟩:=(LL.out.blk 5 rfl).c2;obtain⟨q5_0,q5_1⟩:=(LL.out.blk 6 rfl).c2;go_wp2_with fail;refine (HCUT.out _).mono ?_;rintro e wk ⟨rfl,hb⟩;replace LL:=stL LL hb;clear hb q3_0 q3_1 q4_0 q4_1 q5_0 q5_1;replace LL:=Hd (LL.out.loose 4 rfl rfl)
   simp only [List.eraseIdx,List.size_toArray,List.length_cons,List.length_nil,Nat.zero_add,Nat.reduceAdd] at LL
   obtain⟨ha8_0,hf8_0,ha8_1,hf8_1⟩:=(LL.out.has 0 rfl).sf2;have LF:=Hd (LL.out.write [.float .f64 r1,.float .f64 r2] rfl (by omega) (by simp<;>omega) (by simp<;>omega));obtain⟨hk8_0,hk8_1⟩:=(LF.out.blk 6 rfl).c2
   simp [sets] at hk8_0 hk8_1
   clear LL;go_wp2;refine bodyPost_ret (v:=.agg #[.float .f64 r1,.float .f64 r2]) (by simp [results,Tryz.results32,go_sem,hk8_0,hk8_1]) rfl ?_
   exact⟨rfl,LF.out.b⟩
end Go.Proofs.YthlmlmfebpjgdaaGreatDoor
namespace Go.Proofs.YthlmlmfebpjgdaaGreatDoor
open Go.RowKit
def ul(a b:Int)(i:Nat):Int:=if i=0 then a else b
def mnk(f:Nat→Nat→Int):Nat→Int
 | 0=>M
 | k+1=>min (mnk f k) (f (k / 2) (k % 2))
def mxk(f:Nat→Nat→Int):Nat→Int
 | 0=>-(M:Int)
 | k+1=>max (mxk f k) (f (k / 2) (k % 2))
theorem mnk_rng{f:Nat→Nat→Int}(h:∀ i j,-(M:Int)≤f i j∧f i j≤M)(k:Nat):-(M:Int)≤mnk f k∧mnk f k≤M:=by
 have hM:(M:Int)=9218868437227405312:=rfl
 induction k with
 | zero=>show -(M:Int)≤(M:Int)∧(M:Int)≤M;omega
 | succ k ih=>have:=h (k / 2) (k % 2);show -(M:Int)≤min _ _∧min _ _≤(M:Int);omega
theorem mxk_rng{f:Nat→Nat→Int}(h:∀ i j,-(M:Int)≤f i j∧f i j≤M)(k:Nat):-(M:Int)≤mxk f k∧mxk f k≤M:=by
 have hM:(M:Int)=9218868437227405312:=rfl
 induction k with
 | zero=>show -(M:Int)≤-(M:Int)∧-(M:Int)≤M;omega
 | succ k ih=>have:=h (k / 2) (k % 2);show -(M:Int)≤max _ _∧max _ _≤(M:Int);omega
theorem mnk_step(f:Nat→Nat→Int)(i j:Nat)(hj:j<2):min (mnk f (2*i+j)) (f i j)=mnk f (2*i+j+1):=by
 show _=min (mnk f (2*i+j)) (f ((2*i+j) / 2) ((2*i+j) % 2))
 rw [show (2*i+j) / 2=i by omega,show (2*i+j) % 2=j by omega]
theorem mxk_step(f:Nat→Nat→Int)(i j:Nat)(hj:j<2):max (mxk f (2*i+j)) (f i j)=mxk f (2*i+j+1):=by
 show _=max (mxk f (2*i+j)) (f ((2*i+j) / 2) ((2*i+j) % 2))
 rw [show (2*i+j) / 2=i by omega,show (2*i+j) % 2=j by omega]
theorem ul_rng{i j:Int}(h:Iv i j)(k:Nat):-(M:Int)≤ul i j k∧ul i j k≤M:=by
 unfold ul
 split
 ·exact h.lo
 ·exact h.hi
theorem ctO_false(i j a b c d:Int):ctO false i j a b c d=ct i j a b c d:=by
 unfold ctO ct
 by_cases h:c<i∨j<b
 ·rw [if_pos h,if_pos h]
 ·rw [if_neg h,if_neg h,if_neg (by rintro⟨h,-⟩;cases h)]
theorem fad_k(i1 j1 i2 j2 c1 c2 i j:Int):fad i1 j1 i2 j2 c1 c2 i j=if j1<i1∨j2<i2∨c2<c1∨j<i then ((M:Int),-(M:Int)) else
  ct i j (mnk (fun k l=>(wt c1 (ul i1 j1 k) (ul i2 j2 l)).1) 4) (mnk (fun k l=>(wt c1 (ul i1 j1 k) (ul i2 j2 l)).2) 4) (mxk (fun k l=>(wt c2 (ul i1 j1 k) (ul i2 j2 l)).1) 4) (mxk (fun k l=>(wt c2 (ul i1 j1 k) (ul i2 j2 l)).2) 4):=rfl
theorem fmaadd_any(a1 a2 b1 b2 c1 c2 x y:Nat)(w:World)(ha1:a1<18446744073709551616)(ha2:a2<18446744073709551616)(hb1:b1<18446744073709551616)(hb2:b2<18446744073709551616)(hc1:c1<18446744073709551616)(hc2:c2<18446744073709551616)(hx:x<18446744073709551616)(hy:y<18446744073709551616):
  Calls Tryz.prog 32 #[.agg #[.float .f64 a1,.float .f64 a2],.agg #[.float .f64 b1,.float .f64 b2],.agg #[.float .f64 c1,.float .f64 c2],.agg #[.float .f64 x,.float .f64 y]] w fun e w'=>
   e=.returned (.agg #[.float .f64 (pat (fad (rd a1 a2).1 (rd a1 a2).2 (rd b1 b2).1 (rd b1 b2).2 (rd c1 c2).1 (rd c1 c2).2 (rd x y).1 (rd x y).2).1),.float .f64 (pat (fad (rd a1 a2).1 (rd a1 a2).2 (rd b1 b2).1 (rd b1 b2).2 (rd c1 c2).1 (rd c1 c2).2 (rd x y).1 (rd x y).2).2)])∧Below w.heap.size w w':=by
 have hM:(M:Int)=9218868437227405312:=rfl;have v1:=rd_iv a1 a2;have v2:=rd_iv b1 b2;have v3:=rd_iv c1 c2;have v4:=rd_iv x y;have t1:=fun W=>readf a1 a2 W ha1 ha2;have t2:=fun W=>readf b1 b2 W hb1 hb2;have t3:=fun W=>readf c1 c2 W hc1 hc2;have t4:=fun W=>readf x y W hx hy
 obtain⟨⟨i1,j1⟩,r1⟩:∃ z,rd a1 a2=z:=⟨_,rfl⟩
 obtain⟨⟨i2,j2⟩,r2⟩:∃ z,rd b1 b2=z:=⟨_,rfl⟩
 obtain⟨⟨i3,j3⟩,r3⟩:∃ z,rd c1 c2=z:=⟨_,rfl⟩
 obtain⟨⟨i4,j4⟩,r4⟩:∃ z,rd x y=z:=⟨_,rfl⟩
 rw [r1] at v1 t1;rw [r2] at v2 t2;rw [r3] at v3 t3;rw [r4] at v4 t4;rw [r1,r2,r3,r4]
 dsimp only at *
 have m1:=em_idx v1;have m2:=em_idx v2;have m3:=em_idx v3;have m4:=em_idx v4;rw [fad_k]
 by_cases hno:j1<i1∨j2<i2∨j3<i3∨j4<i4
 ·rw [if_pos hno,pat_max,pat_min]
  exact fmaadd_none _ _ _ _ _ _ _ _ _ _ _ _ _ _ _ _ _ _ _ _ w t1 m1 t2 m2 t3 m3 t4 m4 (by simp;omega)
 ·rw [if_neg hno];have g1:=fun i j=>wt_rng (c:=i3) (u:=ul i1 j1 i) (v:=ul i2 j2 j) v3.lo;have g2:=fun i j=>wt_rng (c:=j3) (u:=ul i1 j1 i) (v:=ul i2 j2 j) v3.hi;have q1:=mnk_rng (f:=fun k l=>(wt i3 (ul i1 j1 k) (ul i2 j2 l)).1) (fun i j=>(g1 i j).1);have q2:=mnk_rng (f:=fun k l=>(wt i3 (ul i1 j1 k) (ul i2 j2 l)).2) (fun i j=>(g1 i j).2);have q3:=mxk_rng (f:=fun k l=>(wt j3 (ul i1 j1 k) (ul i2 j2 l)).1) (fun i j=>(g2 i j).1);have q4:=mxk_rng (f:=fun k l=>(wt j3 (ul i1 j1 k) (ul i2 j2 l)).2) (fun i j=>(g2 i j).2)
  refine fmaadd_some a1 a2 b1 b2 c1 c2 x y _ _ _ _ _ _ _ _ _ _ (fun i=>pat (ul i1 j1 i)) (fun i=>pat (ul i2 j2 i)) (fun k=>pat (mnk (fun k l=>(wt i3 (ul i1 j1 k) (ul i2 j2 l)).1) k)) (fun k=>pat (mnk (fun k l=>(wt i3 (ul i1 j1 k) (ul i2 j2 l)).2) k)) (fun k=>pat (mxk (fun k l=>(wt j3 (ul i1 j1 k) (ul i2 j2 l)).1) k)) (fun k=>pat (mxk (fun k l=>(wt j3 (ul i1 j1 k) (ul i2 j2 l)).2) k))
   (fun i j=>pat (wt i3 (ul i1 j1 i) (ul i2 j2 j)).1) (fun i j=>pat (wt i3 (ul i1 j1 i) (ul i2 j2 j)).2) (fun i j=>pat (wt j3 (ul i1 j1 i) (ul i2 j2 j)).1) (fun i j=>pat (wt j3 (ul i1 j1 i) (ul i2 j2 j)).2) _ _ _ _ w t1 m1 t2 m2 t3 m3 t4 m4 (by simp;omega) ⟨rfl,rfl⟩ ⟨rfl,rfl⟩ ⟨pat_max,pat_max⟩ ⟨pat_min,pat_min⟩
   (fun i j _ _ W=>without_any i3 _ _ W v3.lo (ul_rng v1 i) (ul_rng v2 j)) (fun i j _ _ W=>without_any j3 _ _ W v3.hi (ul_rng v1 i) (ul_rng v2 j)) (fun i j _ hj W ts t=>?_) (fun i j _ hj W ts t=>?_) (fun i j _ hj W ts t=>?_) (fun i j _ hj W ts t=>?_) (fun W=>?_)
  ·rw [← mnk_step _ i j hj]
   exact run_minf (q1 _) (g1 i j).1 W ts t
  ·rw [← mnk_step _ i j hj]
   exact run_minf (q2 _) (g1 i j).2 W ts t
  ·rw [← mxk_step _ i j hj]
   exact run_maxf (q3 _) (g2 i j).1 W ts t
  ·rw [← mxk_step _ i j hj]
   exact run_maxf (q4 _) (g2 i j).2 W ts t
  ·rw [← ctO_false]
   exact rcut2_any false i4 j4 _ _ _ _ W v4.lo v4.hi (q1 4) (q2 4) (q3 4) (q4 4)
theorem Iv.hull{a b c d:Int}(h:Iv a b)(h':Iv c d):Iv (min a c) (max b d):=by
 have hM:(M:Int)=9218868437227405312:=rfl;unfold Iv at *
 omega
theorem fa_iv{b1 b2 s1 s2:Int}{x1 x2:Rat}(k:NumOk s1 x1 s2 x2)(hb:Ne b1 b2){i j:Int}(hx:Iv i j):Iv (fa b1 b2 s1 x1 s2 x2 i j).1 (fa b1 b2 s1 x1 s2 x2 i j).2:=by
 unfold fa
 split
 ·exact hx
 ·exact Iv.hull (PF_iv k hb i j hx) (PF_iv k hb.neg (-j) (-i) hx.negg).negg
theorem fmr_iv{i1 j1 iz jz i2 j2 i3 j3:Int}(h1:Iv i1 j1)(hz:Iv iz jz)(h2:Iv i2 j2)(h3:Iv i3 j3):Iv (fmr i1 j1 iz jz i2 j2 i3 j3).1 (fmr i1 j1 iz jz i2 j2 i3 j3).2:=by
 unfold fmr
 split
 ·exact Iv.none
 ·have n2:=ne_or h2 (by omega);have nz:=(ne_or hz (by omega)).neg
  exact fa_iv (numok_sum (i:=i2) (j:=j2) (i':=-jz) (j':=-iz) n2 nz) (ne_or h1 (by omega)) h3
theorem mlr_iv{i1 j1 i2 j2 i3 j3:Int}(h1:Iv i1 j1)(h2:Iv i2 j2)(h3:Iv i3 j3):Iv (mlr i1 j1 i2 j2 i3 j3).1 (mlr i1 j1 i2 j2 i3 j3).2:=by
 unfold mlr
 split
 ·exact Iv.none
 ·exact fa_iv (numok_idx (ne_or h2 (by omega))) (ne_or h1 (by omega)) h3
theorem PN_iv{b1 b2 s1 s2:Int}{x1 x2:Rat}(k:NumOk s1 x1 s2 x2)(hb:Ne b1 b2){i j:Int}(hx:Iv i j):Iv (PN b1 b2 s1 x1 s2 x2 i j).1 (PN b1 b2 s1 x1 s2 x2 i j).2:=by
 unfold PN
 exact (PF_iv k hb.neg (-j) (-i) hx.negg).negg
theorem prL_iv{i1 j1 i2 j2:Int}(h1:Iv i1 j1)(h2:Iv i2 j2):Iv (prL i1 j1 i2 j2).1 (prL i1 j1 i2 j2).2:=by
 unfold prL
 split
 ·exact Iv.none
 ·have n1:=ne_or h1 (by omega);have n2:=ne_or h2 (by omega)
  split
  ·split
   ·exact PF_iv (numok_idx n2) n1 _ _ ne_entire.iv
   ·exact PN_iv (numok_idx n2) n1 ne_entire.iv
  ·exact mlr_iv h1 h2 ne_entire.iv
theorem prU_iv{i1 j1 i2 j2:Int}(h1:Iv i1 j1)(h2:Iv i2 j2):Iv (prU i1 j1 i2 j2).1 (prU i1 j1 i2 j2).2:=by
 unfold prU
 split
 ·exact Iv.none
 ·have n1:=ne_or h1 (by omega);have n2:=ne_or h2 (by omega)
  split
  ·split
   ·exact PN_iv (numok_idx n2) n1 ne_entire.iv
   ·exact PF_iv (numok_idx n2) n1 _ _ ne_entire.iv
  ·exact Iv.none
theorem fad_rng{i1 j1 i2 j2 c1 c2 i j:Int}(h:Iv i j):-(M:Int)≤(fad i1 j1 i2 j2 c1 c2 i j).1∧(fad i1 j1 i2 j2 c1 c2 i j).2≤M:=by
 have hM:(M:Int)=9218868437227405312:=rfl;have a:=h.lo;have b:=h.hi;unfold fad ct
 split
 ·dsimp only;omega
 ·split
  ·dsimp only;omega
  ·dsimp only;omega
theorem hd_in{i j:Int}{v:Rat}:hd i j v=true↔In i j v:=hd_true
theorem U32b.ratw{w:World}{K:Nat}{g:Bool}{A:Option Addr}{n c:Nat}{B:Option Addr}{m d:Nat}{xs ys:List Nat}(h:U32b w A n c xs)(h':U32b w B m d ys)(hr:(decide (0<num ys) && decide (n<100) && decide (m<100))=true)(hK:100≤K):
  RatW w K g (.slice A n c) (.slice B m d) (rv g (num xs) (num ys)):=by
 simp only [Bool.and_eq_true,decide_eq_true_eq] at hr
 obtain⟨⟨h0,h1⟩,h2⟩:=hr;have e1:=num_lt h.w32;have e2:=num_lt h'.w32;rw [h.len] at e1;rw [h'.len] at e2
 exact⟨num xs,num ys,A,n,c,B,m,d,rfl,rfl,⟨xs,h.s (by omega),rfl⟩,⟨ys,h'.s (by omega),rfl⟩,h0,⟨by omega,by omega⟩,Nat.lt_of_lt_of_le e1 (Nat.pow_le_pow_right (by omega) (by omega)),Nat.lt_of_lt_of_le e2 (Nat.pow_le_pow_right (by omega) (by omega)),rfl⟩
theorem through_law(a1 a2 b1 b2 e1 e2 x1 x2:Nat)(g1:Bool)(A1:Option Addr)(n1 c1:Nat)(B1:Option Addr)(m1 d1:Nat)(g2:Bool)(A2:Option Addr)(n2 c2:Nat)(B2:Option Addr)(m2 d2:Nat)(g3:Bool)(A3:Option Addr)(n3 c3:Nat)(B3:Option Addr)(m3 d3:Nat)(g4:Bool)(A4:Option Addr)(n4 c4:Nat)(B4:Option Addr)(m4 d4:Nat)(p1 q1 p2 q2 p4 q4:List Nat)(w:World)
  (l1:a1<18446744073709551616)(l2:a2<18446744073709551616)(l3:b1<18446744073709551616)(l4:b2<18446744073709551616)(l5:e1<18446744073709551616)(l6:e2<18446744073709551616)(l7:x1<18446744073709551616)(l8:x2<18446744073709551616)
  (u1:U32b w A1 n1 c1 p1)(v1:U32b w B1 m1 d1 q1)(u2:U32b w A2 n2 c2 p2)(v2:U32b w B2 m2 d2 q2)(u4:U32b w A4 n4 c4 p4)(v4:U32b w B4 m4 d4 q4):
  Calls Tryz.prog 5 #[.agg #[.int .u64 (a1:Int),.int .u64 (a2:Int),.int .u64 (b1:Int),.int .u64 (b2:Int),.int .u64 (e1:Int),.int .u64 (e2:Int),.int .u64 (x1:Int),.int .u64 (x2:Int)],.agg #[.bool g1,.slice A1 n1 c1,.slice B1 m1 d1,.bool g2,.slice A2 n2 c2,.slice B2 m2 d2,.bool g3,.slice A3 n3 c3,.slice B3 m3 d3,.bool g4,.slice A4 n4 c4,.slice B4 m4 d4]] w
   fun e w'=>e=.returned (.bool true)∧Below w.heap.size w w':=by
 have i1:=fun W (hW:Below w.heap.size w W)=>is_any g1 A1 n1 c1 B1 m1 d1 q1 _ W u1.small (v1.below hW) rfl;have i2:=fun W (hW:Below w.heap.size w W)=>is_any g2 A2 n2 c2 B2 m2 d2 q2 _ W u2.small (v2.below hW) rfl;have i4:=fun W (hW:Below w.heap.size w W)=>is_any g4 A4 n4 c4 B4 m4 d4 q4 _ W u4.small (v4.below hW) rfl
 cases r1:(decide (0<num q1) && decide (n1<100) && decide (m1<100))
 ·rw [r1] at i1
  exact thru_skip0 a1 a2 b1 b2 e1 e2 x1 x2 g1 A1 n1 c1 B1 m1 d1 g2 A2 n2 c2 B2 m2 d2 g3 A3 n3 c3 B3 m3 d3 g4 A4 n4 c4 B4 m4 d4 w awake_any i1
 rw [r1] at i1
 cases r2:(decide (0<num q2) && decide (n2<100) && decide (m2<100))
 ·rw [r2] at i2
  exact thru_skip1 a1 a2 b1 b2 e1 e2 x1 x2 g1 A1 n1 c1 B1 m1 d1 g2 A2 n2 c2 B2 m2 d2 g3 A3 n3 c3 B3 m3 d3 g4 A4 n4 c4 B4 m4 d4 w awake_any i1 i2
 rw [r2] at i2
 cases r4:(decide (0<num q4) && decide (n4<100) && decide (m4<100))
 ·rw [r4] at i4
  exact thru_skip2 a1 a2 b1 b2 e1 e2 x1 x2 g1 A1 n1 c1 B1 m1 d1 g2 A2 n2 c2 B2 m2 d2 g3 A3 n3 c3 B3 m3 d3 g4 A4 n4 c4 B4 m4 d4 w awake_any i1 i2 i4
 rw [r4] at i4;have w1:=U32b.ratw (K:=100) (g:=g1) u1 v1 r1 (Nat.le_refl _);have w2:=U32b.ratw (K:=100) (g:=g2) u2 v2 r2 (Nat.le_refl _);have w4:=U32b.ratw (K:=100) (g:=g4) u4 v4 r4 (Nat.le_refl _)
 obtain⟨y1,hy1⟩:∃ y,rv g1 (num p1) (num q1)=y:=⟨_,rfl⟩
 obtain⟨y2,hy2⟩:∃ y,rv g2 (num p2) (num q2)=y:=⟨_,rfl⟩
 obtain⟨y4,hy4⟩:∃ y,rv g4 (num p4) (num q4)=y:=⟨_,rfl⟩
 rw [hy1] at w1;rw [hy2] at w2;rw [hy4] at w4;have o1:=fun W (hW:Below w.heap.size w W)=>holds_any a1 a2 100 g1 A1 n1 c1 B1 m1 d1 y1 W l1 l2 (w1.below hW) (by omega) (by omega);have o2:=fun W (hW:Below w.heap.size w W)=>holds_any b1 b2 100 g2 A2 n2 c2 B2 m2 d2 y2 W l3 l4 (w2.below hW) (by omega) (by omega);have o4:=fun W (hW:Below w.heap.size w W)=>holds_any x1 x2 100 g4 A4 n4 c4 B4 m4 d4 y4 W l7 l8 (w4.below hW) (by omega) (by omega);have va:=rd_iv a1 a2;have vb:=rd_iv b1 b2;have vc:=rd_iv e1 e2;have vx:=rd_iv x1 x2;have kf:=fun W=>fmarev_any a1 a2 b1 b2 e1 e2 x1 x2 W l1 l2 l3 l4 l5 l6 l7 l8;have kg:=fun W=>fmaadd_any a1 a2 b1 b2 e1 e2 x1 x2 W l1 l2 l3 l4 l5 l6 l7 l8;have kp:=fun W=>mulpair_any a1 a2 e1 e2 W l1 l2 l5 l6;have hc:=fun K (hK:34≤K) (hK2:K≤1073741824) y W g A n c B m d (h:RatV W K g (.slice A n c) (.slice B m d) y)=>holds_any e1 e2 K g A n c B m d y W l5 l6 h.w hK hK2
 obtain⟨⟨ai,aj⟩,ra⟩:∃ z,rd a1 a2=z:=⟨_,rfl⟩
 obtain⟨⟨bi,bj⟩,rb⟩:∃ z,rd b1 b2=z:=⟨_,rfl⟩
 obtain⟨⟨ci,cj⟩,rc'⟩:∃ z,rd e1 e2=z:=⟨_,rfl⟩
 obtain⟨⟨xi,xj⟩,rx⟩:∃ z,rd x1 x2=z:=⟨_,rfl⟩
 rw [ra] at va o1 kf kg kp;rw [rb] at vb o2 kf kg;rw [rc'] at vc kf kg kp hc;rw [rx] at vx o4 kf kg
 dsimp only at *
 cases ha:hd ai aj y1
 ·rw [ha] at o1
  exact thru_skip3 a1 a2 b1 b2 e1 e2 x1 x2 g1 A1 n1 c1 B1 m1 d1 g2 A2 n2 c2 B2 m2 d2 g3 A3 n3 c3 B3 m3 d3 g4 A4 n4 c4 B4 m4 d4 w awake_any i1 i2 i4 o1
 rw [ha] at o1
 cases hb:hd bi bj y2
 ·rw [hb] at o2
  exact thru_skip4 a1 a2 b1 b2 e1 e2 x1 x2 g1 A1 n1 c1 B1 m1 d1 g2 A2 n2 c2 B2 m2 d2 g3 A3 n3 c3 B3 m3 d3 g4 A4 n4 c4 B4 m4 d4 w awake_any i1 i2 i4 o1 o2
 rw [hb] at o2;have ia:=hd_in.1 ha;have ib:=hd_in.1 hb;have iv1:=fmr_iv va vb vc vx;have iv3:=prL_iv va vc;have iv4:=prU_iv va vc;refine thru_main a1 a2 b1 b2 e1 e2 x1 x2 g1 A1 n1 c1 B1 m1 d1 g2 A2 n2 c2 B2 m2 d2 g3 A3 n3 c3 B3 m3 d3 g4 A4 n4 c4 B4 m4 d4 200 401 (y4*y1) (y4*y1+y2) (y1*y2) (y4+y1*y2) (hd xi xj y4) (hd ci cj (y4*y1+y2)) (hd ci cj (y4+y1*y2)) (hd ci cj (y4*y1)) (hd (prL ai aj ci cj).1 (prL ai aj ci cj).2 y4) _ _ _ _ _ _ _ _ w awake_any i1 i2 i4 o1 o2 o4 ?_ ?_ ?_ kf ?_ ?_ ?_ ?_ kg ?_ kp ?_ ?_ ?_
 ·exact fun W hW=>(rmul_w 100 g4 _ _ y4 g1 _ _ y1 W (w4.below hW) (w1.below hW) (by omega) (by omega)).mono fun _ _ h=>h.s
 ·exact fun W hW g A n c B m d h=>(radd_w 200 g _ _ (y4*y1) g2 _ _ y2 W h.w ((w2.below hW).mono (by omega)) (by omega)).mono fun _ _ h=>h.s
 ·exact fun W g A n c B m d h=>hc 401 (by omega) (by omega) _ W g A n c B m d h
 ·intro hx hk W hW;have r:=fmr_in (i1:=ai) (j1:=aj) (iz:=bi) (jz:=bj) (i2:=ci) (j2:=cj) (i3:=xi) (j3:=xj) ⟨va.lo.1,va.hi.2,vb.lo.1,vb.hi.2,vc.lo.1,vc.hi.2,vx.lo.1,vx.hi.2⟩ ia ib (hd_in.1 hk) (hd_in.1 hx);have k:=kept_any (fmr ai aj bi bj ci cj xi xj).1 (fmr ai aj bi bj ci cj xi xj).2 100 g4 A4 n4 c4 B4 m4 d4 y4 W iv1.lo iv1.hi iv1 (w4.below hW) (by omega) (by omega);rw [hd_in.2 r] at k
  exact k
 ·exact fun W hW=>(rmul_w 100 g1 _ _ y1 g2 _ _ y2 W (w1.below hW) (w2.below hW) (by omega) (by omega)).mono fun _ _ h=>h.s
 ·exact fun W hW g A n c B m d h=>(radd_w 200 g4 _ _ y4 g _ _ (y1*y2) W ((w4.below hW).mono (by omega)) h.w (by omega)).mono fun _ _ h=>h.s
 ·exact fun W g A n c B m d h=>hc 401 (by omega) (by omega) _ W g A n c B m d h
 ·intro hx hk W hW;have r:=fad_in (i1:=ai) (j1:=aj) (i2:=bi) (j2:=bj) (c1:=ci) (c2:=cj) (i:=xi) (j:=xj) ⟨va.lo.1,va.hi.2,vb.lo.1,vb.hi.2,vc.lo.1,vc.hi.2,vx.lo.1,vx.hi.2⟩ ia ib (hd_in.1 hk) (hd_in.1 hx);have rg:=fad_rng (i1:=ai) (j1:=aj) (i2:=bi) (j2:=bj) (c1:=ci) (c2:=cj) vx;have iv:=(r.ne rg.1 rg.2).iv;have k:=kept_any (fad ai aj bi bj ci cj xi xj).1 (fad ai aj bi bj ci cj xi xj).2 100 g4 A4 n4 c4 B4 m4 d4 y4 W iv.lo iv.hi iv (w4.below hW) (by omega) (by omega);rw [hd_in.2 r] at k
  exact k
 ·exact fun W g A n c B m d h=>hc 200 (by omega) (by omega) _ W g A n c B m d h
 ·exact fun _ W hW=>kept_any (prL ai aj ci cj).1 (prL ai aj ci cj).2 100 g4 A4 n4 c4 B4 m4 d4 y4 W iv3.lo iv3.hi iv3 (w4.below hW) (by omega) (by omega)
 ·intro hk hr W hW;have r:=pair_in (i1:=ai) (j1:=aj) (i2:=ci) (j2:=cj) ⟨va.lo.1,va.hi.2,vc.lo.1,vc.hi.2⟩ ia (hd_in.1 hk);have k:=kept_any (prU ai aj ci cj).1 (prU ai aj ci cj).2 100 g4 A4 n4 c4 B4 m4 d4 y4 W iv4.lo iv4.hi iv4 (w4.below hW) (by omega) (by omega)
  rcases r with r | r
  ·rw [hd_in.2 r] at hr;cases hr
  ·rw [hd_in.2 r] at k;exact k
end Go.Proofs.YthlmlmfebpjgdaaGreatDoor
namespace Go.Proofs.YthlmlmfebpjgdaaGreatDoor
open Go.ChangeShapes Go.WideShapes Go.ChangeAt Go.RowKit
section
variable {H:Type} {enc:TypeId × Value→H} {w:World} {base:Nat} {spare:Nat→Bool} {held:Bool}
theorem u32_nat{z:Int}(h:(Lit.int .u32 z).wf=true):∃ n:Nat,z=n∧n<4294967296:=by
 simp only [Lit.wf,Bool.and_eq_true,decide_eq_true_eq] at h
 have h1:(0:Int)≤z:=h.1;have h2:z≤4294967295:=h.2
 exact⟨z.toNat,by omega,by omega⟩
theorem open_words{fuel:Nat}{c0:Value}{x:DataW H × List MemPlace}(h:DataW.trod enc Tryz.prog w base spare held fuel 40 [c0]=some x):
  ∃ A n c,c0=.slice A n c∧((∀ b ∈ x.1.weights Tryz.prog 40,b≤reachBytes)→∃ xs,U32b w A n c xs):=by
 have hc:Tryz.prog.cellsOf 117=1:=by kernel_rfl
 have hby:Tryz.prog.bytesOf 117=4:=by kernel_rfl
 rcases open_ints Tryz.underlying40 Tryz.underlying117 hc h with ⟨e,rfl⟩ | ⟨a,len,cap,zs,e,hb,hl,hm,hz,rfl,hcell,hw⟩
 ·obtain rfl:c0=.slice none 0 0:=by simpa using e
  exact⟨none,0,0,rfl,fun _=>⟨[],rfl,Nat.le_refl _,by omega,fun x hx=>(by cases hx),fun h=>absurd h (by omega)⟩⟩
 ·obtain rfl:c0=.slice (some a) len cap:=by simpa using e
  refine⟨some a,len,cap,rfl,fun hwt=>?_⟩
  have hlz:len≤zs.length:=by rw [hz];split<;>omega
  have hb4:zs.length*4≤reachBytes:=by
   have k:=hwt ((zs.take len).length*4+(zs.drop len).length*4) (by
    simp only [DataW.weights,Tryz.underlying40,hby,lits,List.length_map]
    rw [← Nat.add_mul]
    exact List.mem_cons_self ..)
   rw [List.length_take,List.length_drop] at k
   omega
  have hr:reachBytes=140737488351232:=rfl
  have nat:∀ i,i<zs.length→∃ n:Nat,zs.getD i 0=n∧n<4294967296:=fun i hi=>by
   refine u32_nat (hw _ ?_);rw [show zs.getD i 0=zs[i] from by simp [List.getD,hi]]
   exact List.getElem_mem hi
  refine⟨(zs.take len).map Int.toNat,by simp;omega,hl,by omega,fun x hx=>?_,fun h0=>⟨a,rfl,?_,fun j hj=>?_⟩⟩
  ·obtain⟨z,hz1,rfl⟩:=List.mem_map.1 hx;obtain⟨n,rfl,hn⟩:=u32_nat (hw z (List.mem_of_mem_take hz1))
   simpa using hn
  ·have k:=hcell 0 (by omega)
   have e0:a.add 0=a:=by unfold Addr.add;rfl
   rw [e0] at k;unfold World.cell? at k
   cases hh:w.heap[a.block]? with
   | none=>rw [hh] at k;cases k
   | some o=>exact (Array.getElem?_eq_some_iff.1 hh).1
  ·rw [hcell j (by omega)];obtain⟨n,en,hn⟩:=nat j (by omega)
   have e1:((zs.take len).map Int.toNat)[j]?.getD 0=n:=by
    rw [List.getElem?_map,List.getElem?_take_of_lt hj]
    have:zs[j]?=some (n:Int):=by
     rw [List.getElem?_eq_getElem (show j<zs.length by omega)];rw [show zs.getD j 0=zs[j]'(show j<zs.length by omega) from by simp [List.getD,show j<zs.length by omega]] at en;rw [en]
    rw [this];simp
   rw [e1,en]
theorem open_ratio{fuel:Nat}{c0 c1 c2:Value}{x:DataW H × List MemPlace}(h:DataW.trod enc Tryz.prog w base spare held fuel 42 [c0,c1,c2]=some x):
  ∃ g A n c B m d,c0=.bool g∧c1=.slice A n c∧c2=.slice B m d∧((∀ b ∈ x.1.weights Tryz.prog 42,b≤reachBytes)→∃ xs ys,U32b w A n c xs∧U32b w B m d ys):=by
 obtain⟨xs,n,_,hx,_,hlen,hg⟩:=DataW.trod_struct Tryz.underlying42 h
 have hb:Tryz.prog.cellsOf 4=1:=by kernel_rfl
 have hs:Tryz.prog.cellsOf 40=1:=by kernel_rfl
 match xs,hlen with
 | [y0,y1,y2],_=>
  have g0:=hg 0 _ rfl;have g1:=hg 1 _ rfl;have g2:=hg 2 _ rfl
  simp [hb,hs] at g0 g1 g2
  obtain⟨g,e0,rfl⟩:=DataW.trod_bool Tryz.underlying4 g0;obtain⟨A,n1,c,rfl,u1⟩:=open_words g1;obtain⟨B,m,d,rfl,u2⟩:=open_words g2
  simp at e0
  subst e0;refine⟨g,A,n1,c,B,m,d,rfl,rfl,rfl,fun hw=>?_⟩;subst hx
  simp only [DataW.weights,Tryz.underlying42,DataW.weightsEach,List.map_cons,List.map_nil,Array.toList,List.nil_append,List.append_nil,List.mem_append] at hw
  obtain⟨p,hp⟩:=u1 fun b hb=>hw b (.inl hb);obtain⟨q,hq⟩:=u2 fun b hb=>hw b (.inr hb)
  exact⟨p,q,hp,hq⟩
end
end Go.Proofs.YthlmlmfebpjgdaaGreatDoor
