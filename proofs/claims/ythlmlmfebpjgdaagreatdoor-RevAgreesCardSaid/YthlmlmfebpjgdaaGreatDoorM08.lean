/-
Lemmas for the statement: Rdl IraT PosT Fl2T IoT FacT.
-/
import Derived.Test.YthlmlmfebpjgdaaGreatDoorM07
import Derived.Test.YthlmlmfebpjgdaaGreatDoorM02
import Derived.Deep.DeepCutAuto
import Derived.Test.YthlmlmfebpjgdaaGreatDoorM01
import Derived.Deep.CutBlock
set_option linter.unusedSimpArgs false
set_option linter.unusedVariables false
set_option maxHeartbeats 12800000
namespace Go.Proofs.YthlmlmfebpjgdaaGreatDoor
section
open Go.RowKit
theorem readL32(w:World){b1 c1 b2 c2 p1 q1 p2 q2:Nat}{d1 d2 d:Bool}(e3:Array Value)(t3:TypeId)(s1:∀ W,Rt 102 #[Zf b1 c1] (Zf p1 q1) W)(m1:Em d1 p1 q1)(s2:∀ W,Rt 102 #[Zf b2 c2] (Zf p2 q2) W)(m2:Em d2 p2 q2)(hnn:(d1 || d2)=d):
  Hid (Calls Tryz.prog 75 #[.slice (some ⟨w.heap.size+1+1+1,0,none⟩) 2 2] ((((w.alloc (.cells (Zv b1 c1) 28)).alloc (.cells (Zv b2 c2) 28)).alloc (.cells e3 t3)).alloc (.cells #[.pointer (some ⟨w.heap.size,0,none⟩),.pointer (some ⟨w.heap.size+1,0,none⟩)] 75)) fun e wk=>e=.returned (.bool d)/\Lies w wk [(w.heap.size,28,(Zv p1 q1)),((w.heap.size+1),28,(Zv p2 q2)),((w.heap.size+2),t3,e3)] []):=by
 have LL:=li3 w (Zv b1 c1) 28 (Zv b2 c2) 28 e3 t3;have hrow:=Blk.at (W:=(((w.alloc (.cells (Zv b1 c1) 28)).alloc (.cells (Zv b2 c2) 28)).alloc (.cells e3 t3))) (g:=w.heap.size+1+1+1) (by simp) 75 #[.pointer (some ⟨w.heap.size,0,none⟩),.pointer (some ⟨w.heap.size+1,0,none⟩)]
 have HRD:=read_n w.heap.size 2 (w.heap.size+1+1+1) 2 (fun k:Nat=>if k=0 then (b1,c1) else (b2,c2)) (fun k:Nat=>if k=0 then (p1,q1) else (p2,q2)) (fun k:Nat=>if k=0 then d1 else d2) _ (by omega) (by omega)
  (fun k hk=>by match k,hk with | 0,_=>exact hrow.cell 0 | 1,_=>exact hrow.cell 1) (fun k hk=>by match k,hk with | 0,_=>exact (LL.out.blk 0 rfl).alloc (.cells #[.pointer (some ⟨w.heap.size,0,none⟩),.pointer (some ⟨w.heap.size+1,0,none⟩)] 75) | 1,_=>exact (LL.out.blk 1 rfl).alloc (.cells #[.pointer (some ⟨w.heap.size,0,none⟩),.pointer (some ⟨w.heap.size+1,0,none⟩)] 75)) (fun k hk=>by match k,hk with | 0,_=>exact s1 | 1,_=>exact s2) (fun k hk=>by match k,hk with | 0,_=>exact m1 | 1,_=>exact m2)
 rw [show anyB (fun k:Nat=>if k=0 then d1 else d2) 2=(d1 || d2) from by simp [anyB],hnn] at HRD;have LLR:=LL.out.alloc (.cells #[.pointer (some ⟨w.heap.size,0,none⟩),.pointer (some ⟨w.heap.size+1,0,none⟩)] 75)
 have HSZ:w.heap.size<=((((w.alloc (.cells (Zv b1 c1) 28)).alloc (.cells (Zv b2 c2) 28)).alloc (.cells e3 t3)).alloc (.cells #[.pointer (some ⟨w.heap.size,0,none⟩),.pointer (some ⟨w.heap.size+1,0,none⟩)] 75)).heap.size:=by simp;omega
 refine Hd (HRD.mono ?_);rintro e wk ⟨rfl,hd,kp⟩
 exact⟨rfl,kp.toBl LLR.b HSZ (Nat.le_refl _),by simp only [List.mem_cons,List.not_mem_nil,or_false,forall_eq_or_imp,forall_eq];exact⟨show Blk wk w.heap.size 28 (Zv p1 q1) from hd 0 (by omega),show Blk wk (w.heap.size+1) 28 (Zv p2 q2) from hd 1 (by omega),kp.blk (LLR.blk 2 rfl) (by omega)⟩,by simp⟩
theorem readL42(w:World){b1 c1 b2 c2 p1 q1 p2 q2:Nat}{d1 d2 d:Bool}(e3:Array Value)(t3:TypeId)(e4:Array Value)(t4:TypeId)(s1:∀ W,Rt 102 #[Zf b1 c1] (Zf p1 q1) W)(m1:Em d1 p1 q1)(s2:∀ W,Rt 102 #[Zf b2 c2] (Zf p2 q2) W)(m2:Em d2 p2 q2)(hnn:(d1 || d2)=d):
  Hid (Calls Tryz.prog 75 #[.slice (some ⟨w.heap.size+1+1+1+1,0,none⟩) 2 2] (((((w.alloc (.cells (Zv b1 c1) 28)).alloc (.cells (Zv b2 c2) 28)).alloc (.cells e3 t3)).alloc (.cells e4 t4)).alloc (.cells #[.pointer (some ⟨w.heap.size,0,none⟩),.pointer (some ⟨w.heap.size+1,0,none⟩)] 75)) fun e wk=>e=.returned (.bool d)/\Lies w wk [(w.heap.size,28,(Zv p1 q1)),((w.heap.size+1),28,(Zv p2 q2)),((w.heap.size+2),t3,e3),((w.heap.size+3),t4,e4)] []):=by
 have LL:=li4 w (Zv b1 c1) 28 (Zv b2 c2) 28 e3 t3 e4 t4;have hrow:=Blk.at (W:=((((w.alloc (.cells (Zv b1 c1) 28)).alloc (.cells (Zv b2 c2) 28)).alloc (.cells e3 t3)).alloc (.cells e4 t4))) (g:=w.heap.size+1+1+1+1) (by simp) 75 #[.pointer (some ⟨w.heap.size,0,none⟩),.pointer (some ⟨w.heap.size+1,0,none⟩)]
 have HRD:=read_n w.heap.size 2 (w.heap.size+1+1+1+1) 2 (fun k:Nat=>if k=0 then (b1,c1) else (b2,c2)) (fun k:Nat=>if k=0 then (p1,q1) else (p2,q2)) (fun k:Nat=>if k=0 then d1 else d2) _ (by omega) (by omega)
  (fun k hk=>by match k,hk with | 0,_=>exact hrow.cell 0 | 1,_=>exact hrow.cell 1) (fun k hk=>by match k,hk with | 0,_=>exact (LL.out.blk 0 rfl).alloc (.cells #[.pointer (some ⟨w.heap.size,0,none⟩),.pointer (some ⟨w.heap.size+1,0,none⟩)] 75) | 1,_=>exact (LL.out.blk 1 rfl).alloc (.cells #[.pointer (some ⟨w.heap.size,0,none⟩),.pointer (some ⟨w.heap.size+1,0,none⟩)] 75)) (fun k hk=>by match k,hk with | 0,_=>exact s1 | 1,_=>exact s2) (fun k hk=>by match k,hk with | 0,_=>exact m1 | 1,_=>exact m2)
 rw [show anyB (fun k:Nat=>if k=0 then d1 else d2) 2=(d1 || d2) from by simp [anyB],hnn] at HRD;have LLR:=LL.out.alloc (.cells #[.pointer (some ⟨w.heap.size,0,none⟩),.pointer (some ⟨w.heap.size+1,0,none⟩)] 75)
 have HSZ:w.heap.size<=(((((w.alloc (.cells (Zv b1 c1) 28)).alloc (.cells (Zv b2 c2) 28)).alloc (.cells e3 t3)).alloc (.cells e4 t4)).alloc (.cells #[.pointer (some ⟨w.heap.size,0,none⟩),.pointer (some ⟨w.heap.size+1,0,none⟩)] 75)).heap.size:=by simp;omega
 refine Hd (HRD.mono ?_);rintro e wk ⟨rfl,hd,kp⟩
 exact⟨rfl,kp.toBl LLR.b HSZ (Nat.le_refl _),by simp only [List.mem_cons,List.not_mem_nil,or_false,forall_eq_or_imp,forall_eq];exact⟨show Blk wk w.heap.size 28 (Zv p1 q1) from hd 0 (by omega),show Blk wk (w.heap.size+1) 28 (Zv p2 q2) from hd 1 (by omega),kp.blk (LLR.blk 2 rfl) (by omega),kp.blk (LLR.blk 3 rfl) (by omega)⟩,by simp⟩
theorem readL43(w:World){b1 c1 b2 c2 b3 c3 p1 q1 p2 q2 p3 q3:Nat}{d1 d2 d3 d:Bool}(e4:Array Value)(t4:TypeId)(s1:∀ W,Rt 102 #[Zf b1 c1] (Zf p1 q1) W)(m1:Em d1 p1 q1)(s2:∀ W,Rt 102 #[Zf b2 c2] (Zf p2 q2) W)(m2:Em d2 p2 q2)(s3:∀ W,Rt 102 #[Zf b3 c3] (Zf p3 q3) W)(m3:Em d3 p3 q3)(hnn:(d1 || d2 || d3)=d):
  Hid (Calls Tryz.prog 75 #[.slice (some ⟨w.heap.size+1+1+1+1,0,none⟩) 3 3] (((((w.alloc (.cells (Zv b1 c1) 28)).alloc (.cells (Zv b2 c2) 28)).alloc (.cells (Zv b3 c3) 28)).alloc (.cells e4 t4)).alloc (.cells #[.pointer (some ⟨w.heap.size,0,none⟩),.pointer (some ⟨w.heap.size+1,0,none⟩),.pointer (some ⟨w.heap.size+2,0,none⟩)] 75)) fun e wk=>e=.returned (.bool d)/\Lies w wk [(w.heap.size,28,(Zv p1 q1)),((w.heap.size+1),28,(Zv p2 q2)),((w.heap.size+2),28,(Zv p3 q3)),((w.heap.size+3),t4,e4)] []):=by
 have LL:=li4 w (Zv b1 c1) 28 (Zv b2 c2) 28 (Zv b3 c3) 28 e4 t4;have hrow:=Blk.at (W:=((((w.alloc (.cells (Zv b1 c1) 28)).alloc (.cells (Zv b2 c2) 28)).alloc (.cells (Zv b3 c3) 28)).alloc (.cells e4 t4))) (g:=w.heap.size+1+1+1+1) (by simp) 75 #[.pointer (some ⟨w.heap.size,0,none⟩),.pointer (some ⟨w.heap.size+1,0,none⟩),.pointer (some ⟨w.heap.size+2,0,none⟩)]
 have HRD:=read_n w.heap.size 3 (w.heap.size+1+1+1+1) 3 (fun k:Nat=>if k=0 then (b1,c1) else if k=1 then (b2,c2) else (b3,c3)) (fun k:Nat=>if k=0 then (p1,q1) else if k=1 then (p2,q2) else (p3,q3)) (fun k:Nat=>if k=0 then d1 else if k=1 then d2 else d3) _ (by omega) (by omega)
  (fun k hk=>by match k,hk with | 0,_=>exact hrow.cell 0 | 1,_=>exact hrow.cell 1 | 2,_=>exact hrow.cell 2) (fun k hk=>by match k,hk with | 0,_=>exact (LL.out.blk 0 rfl).alloc (.cells #[.pointer (some ⟨w.heap.size,0,none⟩),.pointer (some ⟨w.heap.size+1,0,none⟩),.pointer (some ⟨w.heap.size+2,0,none⟩)] 75) | 1,_=>exact (LL.out.blk 1 rfl).alloc (.cells #[.pointer (some ⟨w.heap.size,0,none⟩),.pointer (some ⟨w.heap.size+1,0,none⟩),.pointer (some ⟨w.heap.size+2,0,none⟩)] 75) | 2,_=>exact (LL.out.blk 2 rfl).alloc (.cells #[.pointer (some ⟨w.heap.size,0,none⟩),.pointer (some ⟨w.heap.size+1,0,none⟩),.pointer (some ⟨w.heap.size+2,0,none⟩)] 75)) (fun k hk=>by match k,hk with | 0,_=>exact s1 | 1,_=>exact s2 | 2,_=>exact s3) (fun k hk=>by match k,hk with | 0,_=>exact m1 | 1,_=>exact m2 | 2,_=>exact m3)
 rw [show anyB (fun k:Nat=>if k=0 then d1 else if k=1 then d2 else d3) 3=(d1 || d2 || d3) from by simp [anyB],hnn] at HRD;have LLR:=LL.out.alloc (.cells #[.pointer (some ⟨w.heap.size,0,none⟩),.pointer (some ⟨w.heap.size+1,0,none⟩),.pointer (some ⟨w.heap.size+2,0,none⟩)] 75)
 have HSZ:w.heap.size<=(((((w.alloc (.cells (Zv b1 c1) 28)).alloc (.cells (Zv b2 c2) 28)).alloc (.cells (Zv b3 c3) 28)).alloc (.cells e4 t4)).alloc (.cells #[.pointer (some ⟨w.heap.size,0,none⟩),.pointer (some ⟨w.heap.size+1,0,none⟩),.pointer (some ⟨w.heap.size+2,0,none⟩)] 75)).heap.size:=by simp;omega
 refine Hd (HRD.mono ?_);rintro e wk ⟨rfl,hd,kp⟩
 exact⟨rfl,kp.toBl LLR.b HSZ (Nat.le_refl _),by simp only [List.mem_cons,List.not_mem_nil,or_false,forall_eq_or_imp,forall_eq];exact⟨show Blk wk w.heap.size 28 (Zv p1 q1) from hd 0 (by omega),show Blk wk (w.heap.size+1) 28 (Zv p2 q2) from hd 1 (by omega),show Blk wk (w.heap.size+2) 28 (Zv p3 q3) from hd 2 (by omega),kp.blk (LLR.blk 3 rfl) (by omega)⟩,by simp⟩
theorem readL54(w:World){b1 c1 b2 c2 b3 c3 b4 c4 p1 q1 p2 q2 p3 q3 p4 q4:Nat}{d1 d2 d3 d4 d:Bool}(e5:Array Value)(t5:TypeId)(s1:∀ W,Rt 102 #[Zf b1 c1] (Zf p1 q1) W)(m1:Em d1 p1 q1)(s2:∀ W,Rt 102 #[Zf b2 c2] (Zf p2 q2) W)(m2:Em d2 p2 q2)(s3:∀ W,Rt 102 #[Zf b3 c3] (Zf p3 q3) W)(m3:Em d3 p3 q3)(s4:∀ W,Rt 102 #[Zf b4 c4] (Zf p4 q4) W)(m4:Em d4 p4 q4)(hnn:(d1 || d2 || d3 || d4)=d):
  Hid (Calls Tryz.prog 75 #[.slice (some ⟨w.heap.size+1+1+1+1+1,0,none⟩) 4 4] ((((((w.alloc (.cells (Zv b1 c1) 28)).alloc (.cells (Zv b2 c2) 28)).alloc (.cells (Zv b3 c3) 28)).alloc (.cells (Zv b4 c4) 28)).alloc (.cells e5 t5)).alloc (.cells #[.pointer (some ⟨w.heap.size,0,none⟩),.pointer (some ⟨w.heap.size+1,0,none⟩),.pointer (some ⟨w.heap.size+2,0,none⟩),.pointer (some ⟨w.heap.size+3,0,none⟩)] 75)) fun e wk=>e=.returned (.bool d)/\Lies w wk [(w.heap.size,28,(Zv p1 q1)),((w.heap.size+1),28,(Zv p2 q2)),((w.heap.size+2),28,(Zv p3 q3)),((w.heap.size+3),28,(Zv p4 q4)),((w.heap.size+4),t5,e5)] []):=by
 have LL:=li5 w (Zv b1 c1) 28 (Zv b2 c2) 28 (Zv b3 c3) 28 (Zv b4 c4) 28 e5 t5;have hrow:=Blk.at (W:=(((((w.alloc (.cells (Zv b1 c1) 28)).alloc (.cells (Zv b2 c2) 28)).alloc (.cells (Zv b3 c3) 28)).alloc (.cells (Zv b4 c4) 28)).alloc (.cells e5 t5))) (g:=w.heap.size+1+1+1+1+1) (by simp) 75 #[.pointer (some ⟨w.heap.size,0,none⟩),.pointer (some ⟨w.heap.size+1,0,none⟩),.pointer (some ⟨w.heap.size+2,0,none⟩),.pointer (some ⟨w.heap.size+3,0,none⟩)]
 have HRD:=read_n w.heap.size 4 (w.heap.size+1+1+1+1+1) 4 (fun k:Nat=>if k=0 then (b1,c1) else if k=1 then (b2,c2) else if k=2 then (b3,c3) else (b4,c4)) (fun k:Nat=>if k=0 then (p1,q1) else if k=1 then (p2,q2) else if k=2 then (p3,q3) else (p4,q4)) (fun k:Nat=>if k=0 then d1 else if k=1 then d2 else if k=2 then d3 else d4) _ (by omega) (by omega)
  (fun k hk=>by match k,hk with | 0,_=>exact hrow.cell 0 | 1,_=>exact hrow.cell 1 | 2,_=>exact hrow.cell 2 | 3,_=>exact hrow.cell 3) (fun k hk=>by match k,hk with | 0,_=>exact (LL.out.blk 0 rfl).alloc (.cells #[.pointer (some ⟨w.heap.size,0,none⟩),.pointer (some ⟨w.heap.size+1,0,none⟩),.pointer (some ⟨w.heap.size+2,0,none⟩),.pointer (some ⟨w.heap.size+3,0,none⟩)] 75) | 1,_=>exact (LL.out.blk 1 rfl).alloc (.cells #[.pointer (some ⟨w.heap.size,0,none⟩),.pointer (some ⟨w.heap.size+1,0,none⟩),.pointer (some ⟨w.heap.size+2,0,none⟩),.pointer (some ⟨w.heap.size+3,0,none⟩)] 75) | 2,_=>exact (LL.out.blk 2 rfl).alloc (.cells #[.pointer (some ⟨w.heap.size,0,none⟩),.pointer (some ⟨w.heap.size+1,0,none⟩),.pointer (some ⟨w.heap.size+2,0,none⟩),.pointer (some ⟨w.heap.size+3,0,none⟩)] 75) | 3,_=>exact (LL.out.blk 3 rfl).alloc (.cells #[.pointer (some ⟨w.heap.size,0,none⟩),.pointer (some ⟨w.heap.size+1,0,none⟩),.pointer (some ⟨w.heap.size+2,0,none⟩),.pointer (some ⟨w.heap.size+3,0,none⟩)] 75)) (fun k hk=>by match k,hk with | 0,_=>exact s1 | 1,_=>exact s2 | 2,_=>exact s3 | 3,_=>exact s4) (fun k hk=>by match k,hk with | 0,_=>exact m1 | 1,_=>exact m2 | 2,_=>exact m3 | 3,_=>exact m4)
 rw [show anyB (fun k:Nat=>if k=0 then d1 else if k=1 then d2 else if k=2 then d3 else d4) 4=(d1 || d2 || d3 || d4) from by simp [anyB],hnn] at HRD;have LLR:=LL.out.alloc (.cells #[.pointer (some ⟨w.heap.size,0,none⟩),.pointer (some ⟨w.heap.size+1,0,none⟩),.pointer (some ⟨w.heap.size+2,0,none⟩),.pointer (some ⟨w.heap.size+3,0,none⟩)] 75)
 have HSZ:w.heap.size<=((((((w.alloc (.cells (Zv b1 c1) 28)).alloc (.cells (Zv b2 c2) 28)).alloc (.cells (Zv b3 c3) 28)).alloc (.cells (Zv b4 c4) 28)).alloc (.cells e5 t5)).alloc (.cells #[.pointer (some ⟨w.heap.size,0,none⟩),.pointer (some ⟨w.heap.size+1,0,none⟩),.pointer (some ⟨w.heap.size+2,0,none⟩),.pointer (some ⟨w.heap.size+3,0,none⟩)] 75)).heap.size:=by simp;omega
 refine Hd (HRD.mono ?_);rintro e wk ⟨rfl,hd,kp⟩
 exact⟨rfl,kp.toBl LLR.b HSZ (Nat.le_refl _),by simp only [List.mem_cons,List.not_mem_nil,or_false,forall_eq_or_imp,forall_eq];exact⟨show Blk wk w.heap.size 28 (Zv p1 q1) from hd 0 (by omega),show Blk wk (w.heap.size+1) 28 (Zv p2 q2) from hd 1 (by omega),show Blk wk (w.heap.size+2) 28 (Zv p3 q3) from hd 2 (by omega),show Blk wk (w.heap.size+3) 28 (Zv p4 q4) from hd 3 (by omega),kp.blk (LLR.blk 4 rfl) (by omega)⟩,by simp⟩
end
section
open Go.RowKit
attribute [local go_sem] run_store_float run_eqf
set_option maxRecDepth 8000 in
theorem both_gen(u1 u2 v1 v2 p1 p2 q1 q2:Nat)(a b:Bool)(w:World)(hx:∀ W,Rt 102 #[Zf u1 u2] (Zf p1 p2) W)(hy:∀ W,Rt 102 #[Zf v1 v2] (Zf q1 q2) W)(ha:Em a p1 p2)(hb:Em b q1 q2):
  Rt 138 #[Zf u1 u2,Zf v1 v2] (.tuple #[Zf p1 p2,Zf q1 q2,.int .i64 ((if a then 1 else 0)+(if b then 2 else 0))]) w:=by
 have HE:=Hd emptyf
 have o01:bits .or .i64 0 1=1:=by decide
 have o02:bits .or .i64 0 2=2:=by decide
 have o12:bits .or .i64 1 2=3:=by decide
 have HX:=Hd hx;have HY:=Hd hy;have HA:=Hd ha;have HB:=Hd hb;clear hx hy ha hb;have LL:=li4 w (Zv u1 u2) 28 (Zv v1 v2) 28 (Zv 0 0) 28 (Zv 0 0) 28
 go_enter Tryz.func138,Tryz.ntmps138
 have PB2:=Hd (LL.out.blk 0 rfl);have PB3:=Hd (LL.out.blk 1 rfl)
 go_upto_region 1 with fail
 go_cut [7] (fun s7 wx=>s7=undef/\Lies w wx [((w.heap.size+2),28,(Zv 0 0)),((w.heap.size+3),28,(Zv 0 0)),((w.heap.size+1),28,(Zv q1 q2)),(w.heap.size,28,(Zv p1 p2))] [])
 case first=>
  replace LL:=Hd (LL.out.loose0 rfl);replace LL:=Hd (LL.out.loose0 rfl);refine regL LL (fun hHeld=>?_);clear LL
  obtain⟨wk,hwk⟩:∃ X,(((((w.alloc (.cells (Zv u1 u2) 28)).alloc (.cells (Zv v1 v2) 28)).alloc (.cells (Zv 0 0) 28)).alloc (.cells (Zv 0 0) 28))).drew=X:=⟨_,rfl⟩
  replace PB2:=Hd PB2.out.drew;replace PB3:=Hd PB3.out.drew;rw [hwk] at hHeld PB2 PB3 ⊢;clear hwk
  repeat' first
   | (have hx:=hR0;clear hx;have BXo:=PB2.out;obtain⟨qr0,qr1⟩:=BXo.c2;go_simp;refine hR0.out _ _ hHeld (fun _=>?_);clear hR0 KK hHeld BXo qr0 qr1;rename_i hHeld;(try simp only [Act.put,lay]);have mk0:=True.intro)
   | (have hx:=hC1;clear hx;go_simp;refine (HX.out _).mono ?_;rintro e wk ⟨rfl,hb1⟩;go_wp2_with fail;refine hC1.out _ _ (hHeld.keep hb1) (fun _=>?_);clear hC1 KK hHeld;rename_i hHeld;(try simp only [Act.put,lay]);(try replace PB2:=Hd (PB2.out.keep hb1));(try replace PB3:=Hd (PB3.out.keep hb1));clear hb1;have mk1:=True.intro)
   | (have hx:=hR2;clear hx;have BXo:=PB3.out;obtain⟨qr0,qr1⟩:=BXo.c2;go_simp;refine hR2.out _ _ hHeld (fun _=>?_);clear hR2 KK hHeld BXo qr0 qr1;rename_i hHeld;(try simp only [Act.put,lay]);have mk2:=True.intro)
   | (have hx:=hC3;clear hx;go_simp;refine (HY.out _).mono ?_;rintro e wk ⟨rfl,hb2⟩;go_wp2_with fail;refine hC3.out _ _ (hHeld.keep hb2) (fun _=>?_);clear hC3 KK hHeld;rename_i hHeld;(try simp only [Act.put,lay]);(try replace PB2:=Hd (PB2.out.keep hb2));(try replace PB3:=Hd (PB3.out.keep hb2));clear hb2;have mk3:=True.intro)
   | (have hx:=hS4;clear hx;obtain⟨ha0,hf0,ha1,hf1⟩:=(hHeld.has 1 rfl).sf2;obtain⟨csx,hbx,-,hcx⟩:=hHeld.has 1 rfl;(try clear PB2);(try clear PB3);clear hbx hcx;go_simp;have HS_1:=(hHeld.has 1 rfl).laid [.float .f64 p1,.float .f64 p2] rfl;refine hS4.out _ _ (hHeld.over 1 rfl [.float .f64 p1,.float .f64 p2] rfl rfl (by first | omega | exact hHeld.le_of 1 rfl) (by simp<;>omega) (by simp<;>omega)) (fun _=>?_);clear hS4 KK hHeld;rename_i hHeld;(try simp only [Act.put,lay]);(try replace HS_0:=HS_0.other (r:=w.heap.size) (by omega) 0 [.float .f64 p1,.float .f64 p2]);replace hHeld:=(show Lies _ (sets wk w.heap.size 0 [.float .f64 p1,.float .f64 p2]) _ _ from hHeld);obtain⟨wk,hwn⟩:∃ X,sets wk w.heap.size 0 [.float .f64 p1,.float .f64 p2]=X:=⟨_,rfl⟩;rw [hwn] at hHeld HS_1;(try rw [hwn] at HS_0);simp only [sets] at hwn;rw [hwn];clear hwn ha0 hf0 ha1 hf1;have mk4:=True.intro)
   | (have hx:=hS5;clear hx;obtain⟨ha0,hf0,ha1,hf1⟩:=(hHeld.has 0 rfl).sf2;obtain⟨csx,hbx,-,hcx⟩:=hHeld.has 0 rfl;(try clear PB2);(try clear PB3);clear hbx hcx;go_simp;have HS_0:=(hHeld.has 0 rfl).laid [.float .f64 q1,.float .f64 q2] rfl;refine hS5.out _ _ (hHeld.over 0 rfl [.float .f64 q1,.float .f64 q2] rfl rfl (by first | omega | exact hHeld.le_of 0 rfl) (by simp<;>omega) (by simp<;>omega)) (fun _=>?_);clear hS5 KK hHeld;rename_i hHeld;(try simp only [Act.put,lay]);(try replace HS_1:=HS_1.other (r:=(w.heap.size+1)) (by omega) 0 [.float .f64 q1,.float .f64 q2]);replace hHeld:=(show Lies _ (sets wk (w.heap.size+1) 0 [.float .f64 q1,.float .f64 q2]) _ _ from hHeld);obtain⟨wk,hwn⟩:∃ X,sets wk (w.heap.size+1) 0 [.float .f64 q1,.float .f64 q2]=X:=⟨_,rfl⟩;rw [hwn] at hHeld HS_0;(try rw [hwn] at HS_1);simp only [sets] at hwn;rw [hwn];clear hwn ha0 hf0 ha1 hf1;have mk5:=True.intro)
   | (have hx:=mk0;have hx:=mk1;have hx:=mk2;have hx:=mk3;have hx:=mk4;have hx:=mk5;refine wpAnyH_done (by kernel_rfl) ?_ _;clear hx mk0 mk1 mk2 mk3 mk4 mk5;go_wp2_with fail;go_meet;exact⟨rfl,(hHeld.tight HS_0).tight HS_1⟩)
   | (have hx:=mk0;have hx:=mk1;have hx:=mk2;have hx:=mk3;have hx:=mk4;refine rdy 5 (fun KK hS5=>?_))
   | (have hx:=mk0;have hx:=mk1;have hx:=mk2;have hx:=mk3;refine rdy 4 (fun KK hS4=>?_))
   | (have hx:=mk0;have hx:=mk1;have hx:=mk2;refine rdy 3 (fun KK hC3=>?_))
   | (have hx:=mk0;have hx:=mk2;refine rdy 1 (fun KK hC1=>?_))
   | (have hx:=mk0;have hx:=mk1;refine rdy 2 (fun KK hR2=>?_))
   | (have hx:=mk2;refine rdy 0 (fun KK hR0=>?_))
   | (have hx:=mk0;refine rd2 1 2 (fun KK hC1=>?_) (fun KK hR2=>?_))
   | (refine rd2 0 2 (fun KK hR0=>?_) (fun KK hR2=>?_))
 case rest=>
 obtain⟨rfl,hcl⟩:=hcut;rename World=>wx;clear LL HX HY PB2 PB3;have LL:=Hd hcl;clear hcl;obtain⟨ha1,ha2⟩:=HA.out;obtain⟨hb1,hb2⟩:=HB.out;clear HA HB
 cases a<;>cases b
 all_goals
  first
  | have e1:=ha2 rfl
  | obtain⟨e1,e2⟩:=ha1 rfl
  first
  | have e3:=hb2 rfl
  | obtain⟨e3,e4⟩:=hb1 rfl
  clear ha1 ha2 hb1 hb2;have E3:=Hd e3
  try have E4:=Hd e4
  clear e3
  try clear e4
  go_wp2_with fail;refine regL LL (fun hHeld=>?_);clear LL
  obtain⟨wk,hwk⟩:∃ X,(wx).drew=X:=⟨_,rfl⟩
  rw [hwk] at hHeld  ⊢;clear hwk;refine tkb 0 (fun _ h=>(h.blk 3 rfl).c2) ?_;refine rdy 1 fun KK hKK=>?_;go_simp;refine cs (HE.out _) ?_;clear hKK KK hHeld;intro wk hb1 hHeld;clear hb1;refine tks 2 ?_;refine wpAnyH_done (by kernel_rfl) ?_ _;have LL:=Hd hHeld;clear hHeld;have e3:=E3.out
  try have e4:=E4.out
  go_wp2_with fail;refine regL LL (fun hHeld=>?_);clear LL
  obtain⟨wk,hwk⟩:∃ X,(wk).drew=X:=⟨_,rfl⟩
  rw [hwk] at hHeld  ⊢;clear hwk;refine tkb 0 (fun _ h=>(h.blk 2 rfl).c2) ?_;refine rdy 1 fun KK hKK=>?_;go_simp;refine cs (HE.out _) ?_;clear hKK KK hHeld;intro wk hb1 hHeld;clear hb1;refine tks 2 ?_;refine wpAnyH_done (by kernel_rfl) ?_ _;have LL:=Hd hHeld;clear hHeld;clear e1
  try clear e2
  go_wp2_with fail;clear e3
  try clear e4
  replace LL:=Hd (LL.out.loose0 rfl);replace LL:=Hd (LL.out.loose0 rfl);refine regL LL (fun hHeld=>?_);clear LL
  obtain⟨wk,hwk⟩:∃ X,(wk).drew=X:=⟨_,rfl⟩
  rw [hwk] at hHeld  ⊢;clear hwk;refine tkb 0 (fun _ h=>(h.blk 1 rfl).c2) ?_;refine tkb 1 (fun _ h=>(h.blk 0 rfl).c2) ?_;refine tks 2 ?_;refine rdy 3 fun KK hKK=>?_;obtain⟨ha0,hf0,ha1,hf1⟩:=(hHeld.has 1 rfl).sf2;go_simp;have HS_1:=(hHeld.has 1 rfl).laid [.float .f64 p1,.float .f64 p2] rfl;refine hKK.out _ _ (hHeld.over 1 rfl [.float .f64 p1,.float .f64 p2] rfl rfl (by first | omega | exact hHeld.le_of 1 rfl) (by simp<;>omega) (by simp<;>omega)) (fun _=>?_);clear hKK KK hHeld;rename_i hHeld;(try simp only [Act.put,lay])
  replace hHeld:=(show Lies _ (sets wk (w.heap.size+2) 0 [.float .f64 p1,.float .f64 p2]) _ _ from hHeld)
  obtain⟨wk,hwn⟩:∃ X,sets wk (w.heap.size+2) 0 [.float .f64 p1,.float .f64 p2]=X:=⟨_,rfl⟩
  rw [hwn] at hHeld  HS_1
  simp only [sets] at hwn
  rw [hwn];clear hwn;refine rdy 4 fun KK hKK=>?_;obtain⟨ha0,hf0,ha1,hf1⟩:=(hHeld.has 0 rfl).sf2;go_simp;have HS_0:=(hHeld.has 0 rfl).laid [.float .f64 q1,.float .f64 q2] rfl;refine hKK.out _ _ (hHeld.over 0 rfl [.float .f64 q1,.float .f64 q2] rfl rfl (by first | omega | exact hHeld.le_of 0 rfl) (by simp<;>omega) (by simp<;>omega)) (fun _=>?_);clear hKK KK hHeld;rename_i hHeld;(try simp only [Act.put,lay]);replace HS_1:=HS_1.other (r:=(w.heap.size+3)) (by omega) 0 [.float .f64 q1,.float .f64 q2];refine tks 5 ?_;refine wpAnyH_done (by kernel_rfl) ?_ _;have LB:=Hd hHeld.b;clear hHeld;obtain⟨hk4_0,hk4_1⟩:=HS_1.c2;clear HS_1;obtain⟨hk5_0,hk5_1⟩:=HS_0.c2;clear HS_0
  simp [sets] at hk4_0 hk4_1 hk5_0 hk5_1
  go_wp2;refine bodyPost_ret ?_ rfl ⟨rfl,LB.out⟩
  simp [results,Tryz.results138,go_sem,hk4_0,hk4_1,hk5_0,hk5_1]
set_option maxRecDepth 8000 in
theorem inter_in(u1 u2 v1 v2 p1 p2 q1 q2 m1 m2:Nat)(kk:Int)(w:World)(hB:∀ W,Rt 138 #[Zf u1 u2,Zf v1 v2] (.tuple #[Zf p1 p2,Zf q1 q2,.int .i64 kk]) W)
  (hmx:∀ W ts t,(Builtin.max_ ts t (Zv p1 q1)).run Tryz.prog W=.ok (.float .f64 m1) W)(hmn:∀ W ts t,(Builtin.min_ ts t (Zv p2 q2)).run Tryz.prog W=.ok (.float .f64 m2) W)(hk:kk=0)(ho:(FloatKind.f64.format.order m1 m2 == some Ordering.gt)=false):
  Rt 62 #[Zf u1 u2,Zf v1 v2] (Zf m1 m2) w:=by
 have HB:=Hd hB;have HMX:=Hd hmx;have HMN:=Hd hmn;have HO:=Hd ho;clear hB hmx hmn ho;subst hk;have LL:=li3 w (Zv u1 u2) 28 (Zv v1 v2) 28 (Zv 0 0) 28
 go_enter Tryz.func62,Tryz.ntmps62
 obtain⟨q1_0,q1_1⟩:=(LL.out.blk 0 rfl).c2;obtain⟨q2_0,q2_1⟩:=(LL.out.blk 1 rfl).c2;go_wp2_with fail;refine cx (HB.out _) fun wk hb=>?_;replace LL:=stL LL hb;clear hb q1_0 q1_1 q2_0 q2_1;obtain⟨q3_0,q3_1⟩:=(LL.out.blk 0 rfl).c2;obtain⟨q4_0,q4_1⟩:=(LL.out.blk 1 rfl).c2;have fz2_0:=(LL.out.blk 0 rfl).frozen 0;have fz2_1:=(LL.out.blk 0 rfl).frozen 1;have fz3_0:=(LL.out.blk 1 rfl).frozen 0;have fz3_1:=(LL.out.blk 1 rfl).frozen 1
 go_upto_region 2 with fail
 clear q3_0 q3_1 q4_0 q4_1 fz2_0 fz2_1 fz3_0 fz3_1;replace LL:=Hd (LL.out.part 0 rfl 0 [.float .f64 p1,.float .f64 p2] (by omega) (by simp<;>omega) (by simp<;>omega))
 simp only [List.eraseIdx,laid,List.cons_append,List.nil_append,List.setIfInBounds_toArray,List.set_cons_zero,List.set_cons_succ,Nat.zero_add,Nat.reduceAdd] at LL
 replace LL:=Hd (LL.out.part 0 rfl 0 [.float .f64 q1,.float .f64 q2] (by omega) (by simp<;>omega) (by simp<;>omega))
 simp only [List.eraseIdx,laid,List.cons_append,List.nil_append,List.setIfInBounds_toArray,List.set_cons_zero,List.set_cons_succ,Nat.zero_add,Nat.reduceAdd] at LL
 obtain⟨wn,hwn⟩:∃ X,(sets (sets wk w.heap.size 0 [.float .f64 p1,.float .f64 p2]) (w.heap.size+1) 0 [.float .f64 q1,.float .f64 q2])=X:=⟨_,rfl⟩
 rw [hwn] at LL
 simp only [sets,Nat.reduceAdd] at hwn
 rw [hwn];clear hwn;obtain⟨q5_0,q5_1⟩:=(LL.out.blk 1 rfl).c2;obtain⟨q6_0,q6_1⟩:=(LL.out.blk 2 rfl).c2;have hmx:=HMX.out;have hmn:=HMN.out
 go_upto_region 3 with fail
 clear hmx hmn q5_0 q5_1 q6_0 q6_1;obtain⟨j6,hg,hb_j6,hl_j6,hr_j6,-⟩:=LL.out.fresh 28 (Zv m1 m2)
 simp only [List.mem_cons,List.not_mem_nil,or_false,forall_eq_or_imp,forall_eq,false_imp_iff,implies_true] at hl_j6 hr_j6
 replace LL:=Hd (LL.out.new 28 (Zv m1 m2))
 simp only [List.cons_append,List.nil_append] at LL
 rw [hg] at LL ⊢;clear hg
 obtain⟨wn,hwn⟩:∃ X,wn.alloc (.cells (Zv m1 m2) 28)=X:=⟨_,rfl⟩
 rw [hwn] at LL  ⊢;clear hwn;obtain⟨q7_0,q7_1⟩:=(LL.out.blk 3 rfl).c2;have ho:=HO.out;replace LL:=Hd (LL.out.loose0 rfl);obtain⟨ha4_0,hf4_0,ha4_1,hf4_1⟩:=(LL.out.has 0 rfl).sf2;have LF:=Hd (LL.out.wr [.float .f64 m1,.float .f64 m2]);obtain⟨hk4_0,hk4_1⟩:=(LF.out.blk 3 rfl).c2
 simp [sets] at hk4_0 hk4_1
 clear LL;go_wp2;refine bodyPost_ret (v:=Zf m1 m2) (by simp [results,Tryz.results62,go_sem,hk4_0,hk4_1]) rfl ?_
 exact⟨rfl,LF.out.b⟩
set_option maxRecDepth 8000 in
theorem inter_out(u1 u2 v1 v2 p1 p2 q1 q2 m1 m2:Nat)(kk:Int)(w:World)(hB:∀ W,Rt 138 #[Zf u1 u2,Zf v1 v2] (.tuple #[Zf p1 p2,Zf q1 q2,.int .i64 kk]) W)
  (hmx:∀ W ts t,(Builtin.max_ ts t (Zv p1 q1)).run Tryz.prog W=.ok (.float .f64 m1) W)(hmn:∀ W ts t,(Builtin.min_ ts t (Zv p2 q2)).run Tryz.prog W=.ok (.float .f64 m2) W)(hk:kk≠0\/kk=0/\FloatKind.f64.format.order m1 m2=some Ordering.gt):
  Rt 62 #[Zf u1 u2,Zf v1 v2] (Zf 9218868437227405312 18442240474082181120) w:=by
 have HB:=Hd hB;have HMX:=Hd hmx;have HMN:=Hd hmn;clear hB hmx hmn;have HE:=Hd emptyf
 rcases hk with hk | ⟨rfl,ho⟩
 ·skip;have LL:=li3 w (Zv u1 u2) 28 (Zv v1 v2) 28 (Zv 0 0) 28;have HO:=Hd hk;clear hk
  go_enter Tryz.func62,Tryz.ntmps62
  obtain⟨q1_0,q1_1⟩:=(LL.out.blk 0 rfl).c2;obtain⟨q2_0,q2_1⟩:=(LL.out.blk 1 rfl).c2;go_wp2_with fail;refine cx (HB.out _) fun wk hb=>?_;replace LL:=stL LL hb;clear hb q1_0 q1_1 q2_0 q2_1;obtain⟨q3_0,q3_1⟩:=(LL.out.blk 0 rfl).c2;obtain⟨q4_0,q4_1⟩:=(LL.out.blk 1 rfl).c2;have fz2_0:=(LL.out.blk 0 rfl).frozen 0;have fz2_1:=(LL.out.blk 0 rfl).frozen 1;have fz3_0:=(LL.out.blk 1 rfl).frozen 0;have fz3_1:=(LL.out.blk 1 rfl).frozen 1
  go_upto_region 2 with fail
  clear q3_0 q3_1 q4_0 q4_1 fz2_0 fz2_1 fz3_0 fz3_1;replace LL:=Hd (LL.out.part 0 rfl 0 [.float .f64 p1,.float .f64 p2] (by omega) (by simp<;>omega) (by simp<;>omega))
  simp only [List.eraseIdx,laid,List.cons_append,List.nil_append,List.setIfInBounds_toArray,List.set_cons_zero,List.set_cons_succ,Nat.zero_add,Nat.reduceAdd] at LL
  replace LL:=Hd (LL.out.part 0 rfl 0 [.float .f64 q1,.float .f64 q2] (by omega) (by simp<;>omega) (by simp<;>omega))
  simp only [List.eraseIdx,laid,List.cons_append,List.nil_append,List.setIfInBounds_toArray,List.set_cons_zero,List.set_cons_succ,Nat.zero_add,Nat.reduceAdd] at LL
  obtain⟨wn,hwn⟩:∃ X,(sets (sets wk w.heap.size 0 [.float .f64 p1,.float .f64 p2]) (w.heap.size+1) 0 [.float .f64 q1,.float .f64 q2])=X:=⟨_,rfl⟩
  rw [hwn] at LL
  simp only [sets,Nat.reduceAdd] at hwn
  rw [hwn];clear hwn;obtain⟨q5_0,q5_1⟩:=(LL.out.blk 1 rfl).c2;obtain⟨q6_0,q6_1⟩:=(LL.out.blk 2 rfl).c2;have hmx:=HMX.out;have hmn:=HMN.out
  go_upto_region 3 with fail
  clear hmx hmn q5_0 q5_1 q6_0 q6_1;obtain⟨j6,hg,hb_j6,hl_j6,hr_j6,-⟩:=LL.out.fresh 28 (Zv m1 m2)
  simp only [List.mem_cons,List.not_mem_nil,or_false,forall_eq_or_imp,forall_eq,false_imp_iff,implies_true] at hl_j6 hr_j6
  replace LL:=Hd (LL.out.new 28 (Zv m1 m2))
  simp only [List.cons_append,List.nil_append] at LL
  rw [hg] at LL ⊢;clear hg
  obtain⟨wn,hwn⟩:∃ X,wn.alloc (.cells (Zv m1 m2) 28)=X:=⟨_,rfl⟩
  rw [hwn] at LL  ⊢;clear hwn;have hk:=HO.out;obtain⟨q7_0,q7_1⟩:=(LL.out.blk 3 rfl).c2;go_wp2_with fail;refine cx (HE.out _) fun wk hb=>?_;replace LL:=stL LL hb;clear hb q7_0 q7_1 hk;replace LL:=Hd (LL.out.loose0 rfl);obtain⟨ha4_0,hf4_0,ha4_1,hf4_1⟩:=(LL.out.has 0 rfl).sf2;have LF:=Hd (LL.out.wr [.float .f64 9218868437227405312,.float .f64 18442240474082181120]);obtain⟨hk4_0,hk4_1⟩:=(LF.out.blk 3 rfl).c2
  simp [sets] at hk4_0 hk4_1
  clear LL;go_wp2;refine bodyPost_ret (v:=Zf 9218868437227405312 18442240474082181120) (by simp [results,Tryz.results62,go_sem,hk4_0,hk4_1]) rfl ?_
  exact⟨rfl,LF.out.b⟩
 ·skip;have LL:=li3 w (Zv u1 u2) 28 (Zv v1 v2) 28 (Zv 0 0) 28;have HO:=Hd ho;clear ho
  go_enter Tryz.func62,Tryz.ntmps62
  obtain⟨q1_0,q1_1⟩:=(LL.out.blk 0 rfl).c2;obtain⟨q2_0,q2_1⟩:=(LL.out.blk 1 rfl).c2;go_wp2_with fail;refine cx (HB.out _) fun wk hb=>?_;replace LL:=stL LL hb;clear hb q1_0 q1_1 q2_0 q2_1;obtain⟨q3_0,q3_1⟩:=(LL.out.blk 0 rfl).c2;obtain⟨q4_0,q4_1⟩:=(LL.out.blk 1 rfl).c2;have fz2_0:=(LL.out.blk 0 rfl).frozen 0;have fz2_1:=(LL.out.blk 0 rfl).frozen 1;have fz3_0:=(LL.out.blk 1 rfl).frozen 0;have fz3_1:=(LL.out.blk 1 rfl).frozen 1
  go_upto_region 2 with fail
  clear q3_0 q3_1 q4_0 q4_1 fz2_0 fz2_1 fz3_0 fz3_1;replace LL:=Hd (LL.out.part 0 rfl 0 [.float .f64 p1,.float .f64 p2] (by omega) (by simp<;>omega) (by simp<;>omega))
  simp only [List.eraseIdx,laid,List.cons_append,List.nil_append,List.setIfInBounds_toArray,List.set_cons_zero,List.set_cons_succ,Nat.zero_add,Nat.reduceAdd] at LL
  replace LL:=Hd (LL.out.part 0 rfl 0 [.float .f64 q1,.float .f64 q2] (by omega) (by simp<;>omega) (by simp<;>omega))
  simp only [List.eraseIdx,laid,List.cons_append,List.nil_append,List.setIfInBounds_toArray,List.set_cons_zero,List.set_cons_succ,Nat.zero_add,Nat.reduceAdd] at LL
  obtain⟨wn,hwn⟩:∃ X,(sets (sets wk w.heap.size 0 [.float .f64 p1,.float .f64 p2]) (w.heap.size+1) 0 [.float .f64 q1,.float .f64 q2])=X:=⟨_,rfl⟩
  rw [hwn] at LL
  simp only [sets,Nat.reduceAdd] at hwn
  rw [hwn];clear hwn;obtain⟨q5_0,q5_1⟩:=(LL.out.blk 1 rfl).c2;obtain⟨q6_0,q6_1⟩:=(LL.out.blk 2 rfl).c2;have hmx:=HMX.out;have hmn:=HMN.out
  go_upto_region 3 with fail
  clear hmx hmn q5_0 q5_1 q6_0 q6_1;obtain⟨j6,hg,hb_j6,hl_j6,hr_j6,-⟩:=LL.out.fresh 28 (Zv m1 m2)
  simp only [List.mem_cons,List.not_mem_nil,or_false,forall_eq_or_imp,forall_eq,false_imp_iff,implies_true] at hl_j6 hr_j6
  replace LL:=Hd (LL.out.new 28 (Zv m1 m2))
  simp only [List.cons_append,List.nil_append] at LL
  rw [hg] at LL ⊢;clear hg
  obtain⟨wn,hwn⟩:∃ X,wn.alloc (.cells (Zv m1 m2) 28)=X:=⟨_,rfl⟩
  rw [hwn] at LL  ⊢;clear hwn;have ho:=HO.out;obtain⟨q7_0,q7_1⟩:=(LL.out.blk 3 rfl).c2;go_wp2_with fail;refine cx (HE.out _) fun wk hb=>?_;replace LL:=stL LL hb;clear hb q7_0 q7_1 ho;replace LL:=Hd (LL.out.loose0 rfl);obtain⟨ha4_0,hf4_0,ha4_1,hf4_1⟩:=(LL.out.has 0 rfl).sf2;have LF:=Hd (LL.out.wr [.float .f64 9218868437227405312,.float .f64 18442240474082181120]);obtain⟨hk4_0,hk4_1⟩:=(LF.out.blk 3 rfl).c2
  simp [sets] at hk4_0 hk4_1
  clear LL;go_wp2;refine bodyPost_ret (v:=Zf 9218868437227405312 18442240474082181120) (by simp [results,Tryz.results62,go_sem,hk4_0,hk4_1]) rfl ?_
  exact⟨rfl,LF.out.b⟩
theorem inter_gen(i j i' j':Int)(u1 u2 v1 v2:Nat)(w:World)(h:Iv i j)(h':Iv i' j')(r1:∀ W,Rt 102 #[Zf u1 u2] (Zf (pat i) (pat j)) W)
  (r2:∀ W,Rt 102 #[Zf v1 v2] (.agg #[.float .f64 (pat i'),.float .f64 (pat j')]) W):
  Rt 62 #[Zf u1 u2,Zf v1 v2] (Zf (pat (it i j i' j').1) (pat (it i j i' j').2)) w:=by
 have HB:=fun W=>both_gen u1 u2 v1 v2 (pat i) (pat j) (pat i') (pat j') _ _ W r1 r2 (em_idx h) (em_idx h');have hmx:=fun W ts t=>run_maxf h.lo h'.lo W ts t;have hmn:=fun W ts t=>run_minf h.hi h'.hi W ts t
 have bz1:-(M:Int)<=max i i'/\max i i'<=M:=by have:=h.lo;have:=h'.lo;omega
 have bz2:-(M:Int)<=min j j'/\min j j'<=M:=by have:=h.hi;have:=h'.hi;omega
 have ho:=order_pat bz1.1 bz1.2 bz2.1 bz2.2;unfold it
 by_cases hc:j<i\/j'<i'\/min j j'<max i i'
 ·rw [if_pos hc,pat_max,pat_min];refine inter_out _ _ _ _ _ _ _ _ _ _ _ w HB hmx hmn ?_
  by_cases c:j<i\/j'<i'
  ·refine .inl ?_
   rcases c with c | c
   ·rw [decide_eq_true c];cases decide (j'<i')<;>decide
   ·rw [decide_eq_true c];cases decide (j<i)<;>decide
  ·refine .inr ⟨?_,?_⟩
   ·rw [decide_eq_false (show ¬ j<i by omega),decide_eq_false (show ¬ j'<i' by omega)];rfl
   ·rw [ho,Int.compare_eq_gt.2 (by omega)]
 ·rw [if_neg hc];refine inter_in _ _ _ _ _ _ _ _ _ _ _ w HB hmx hmn ?_ ?_
  ·rw [decide_eq_false (show ¬ j<i by omega),decide_eq_false (show ¬ j'<i' by omega)];rfl
  ·rw [ho]
   rcases Int.lt_or_eq_of_le (show max i i'<=min j j' by omega) with k | k
   ·rw [Int.compare_eq_lt.2 k];rfl
   ·rw [Int.compare_eq_eq.2 k];rfl
theorem both_any(p1 p2 q1 q2:Nat)(a b:Bool)(w:World)(hx:∀ W,Rt 102 #[Zf p1 p2] (Zf p1 p2) W)
  (hy:∀ W,Rt 102 #[Zf q1 q2] (Zf q1 q2) W)(ha:Em a p1 p2)(hb:Em b q1 q2):
  Rt 138 #[Zf p1 p2,Zf q1 q2] (.tuple #[Zf p1 p2,Zf q1 q2,.int .i64 ((if a then 1 else 0)+(if b then 2 else 0))]) w:=
 both_gen p1 p2 q1 q2 p1 p2 q1 q2 a b w hx hy ha hb
theorem inter_idx(i j i' j':Int)(w:World)(h:Iv i j)(h':Iv i' j'):
  Rt 62 #[Zf (pat i) (pat j),.agg #[.float .f64 (pat i'),.float .f64 (pat j')]] (Zf (pat (it i j i' j').1) (pat (it i j i' j').2)) w:=
 inter_gen i j i' j' _ _ _ _ w h h' (fun W=>readf_idx i j W h) (fun W=>readf_idx i' j' W h')
end
section
open Go.RowKit
attribute [local go_sem] run_store_float run_eqf
theorem NoWd.floats(a b:Nat):NoWd (Zv a b):=NoWd.of (by rw [<- Array.all_toList];rfl)
theorem ExI.sets{w:World}{s:Int}{g:Bool}{A:Option Addr}{n c:Nat}{E:Int}{x:Rat}(h:ExI w s g A n c E x){r:Nat}{t:TypeId}{a b:Nat}(hb:Blk w r t (Zv a b))(i:Nat)(vs:List Value):ExI (Proofs.YthlmlmfebpjgdaaGreatDoor.sets w r i vs) s g A n c E x:=
 h.keep fun _ hu=>hu.sets hb (NoWd.floats a b) i vs
theorem positive_none(b1 b2:Nat)(s1:Int)(g1:Bool)(A1:Option Addr)(n1 c1:Nat)(E1:Int)(s2:Int)(g2:Bool)(A2:Option Addr)(n2 c2:Nat)(E2:Int)(i j:Nat)(w:World)(o1:FloatKind.f64.format.order b2 0=some .lt\/FloatKind.f64.format.order b2 0=some .eq):
  Rt 101 #[Zf b1 b2,.agg #[.int .i64 s1,.bool g1,.slice A1 n1 c1,.int .i64 E1],.agg #[.int .i64 s2,.bool g2,.slice A2 n2 c2,.int .i64 E2],Zf i j] (Zf 9218868437227405312 18442240474082181120) w:=by
 have HE:=Hd emptyf
 rcases o1 with o1 | o1
 all_goals
  obtain⟨LB0,LG0_0,LG1_0,LG2_0,LG3_0,LR⟩:=bx5 w (Zv b1 b2) 28 #[.int .i64 s1,.bool g1,.slice A1 n1 c1,.int .i64 E1] 97 #[.int .i64 s2,.bool g2,.slice A2 n2 c2,.int .i64 E2] 97 (Zv i j) 28 (Zv 0 0) 28;have LR0:=Hd (HasBlk.of (n:=2) LR.out rfl rfl);clear LR
  go_enter Tryz.func101,Tryz.ntmps101
  obtain⟨q0_0,q0_1⟩:=LG0_0.out.c2;go_wp2_with fail;refine cx (HE.out _) fun w1 hb1=>?_;have LB1:=stB LB0 hb1 LB0.out.size;have LR1:=stR LR0 hb1;have LG0_1:=stG LG0_0 hb1;have LG1_1:=stG LG1_0 hb1;have LG2_1:=stG LG2_0 hb1;have LG3_1:=stG LG3_0 hb1;clear LB0 LR0 LG0_0 LG1_0 LG2_0 LG3_0;clear hb1 HE q0_0 q0_1;obtain⟨ha0,hf0,ha1,hf1⟩:=LR1.out.sf2;obtain⟨hk0,hk1⟩:=LR1.out.sc2 (.float .f64 9218868437227405312) (.float .f64 18442240474082181120);have F:=Hd (below_sets (w0:=w) (r:=(w.heap.size+4)) (by omega) [.float .f64 9218868437227405312,.float .f64 18442240474082181120] 0 _ LB1.out)
  simp [sets] at hk0 hk1
  go_wp2;refine bodyPost_ret (v:=Zf 9218868437227405312 18442240474082181120) (by simp [results,Tryz.results101,go_sem,hk0,hk1]) rfl ?_
  exact⟨rfl,F.out⟩
theorem ExI.setC{w:World}{s:Int}{g:Bool}{A:Option Addr}{n c:Nat}{E:Int}{x:Rat}(h:ExI w s g A n c E x){r:Nat}{t:TypeId}{cs:Array Value}(hb:Blk w r t cs)(hc:NoWd cs)(i:Nat)(vs:List Value):ExI (Proofs.YthlmlmfebpjgdaaGreatDoor.sets w r i vs) s g A n c E x:=
 h.keep fun _ hu=>hu.sets hb hc i vs
set_option maxRecDepth 8000 in
theorem positive_walk(b1 b2:Nat)(s1:Int)(g1:Bool)(A1:Option Addr)(n1 c1:Nat)(E1:Int)(s2:Int)(g2:Bool)(A2:Option Addr)(n2 c2:Nat)(E2:Int)(i j:Nat)(x1 x2:Rat)(F P1 P2 Q1 Q2 r1 r2:Nat)(sg1 sg2:Int)(cP cQ f op:Bool)(w:World)(o1:FloatKind.f64.format.order b2 0=some .gt)
  (m1:∀ W ts t,(Builtin.max_ ts t (Zv b1 0)).run Tryz.prog W=.ok (.float .f64 F) W)(of:(FloatKind.f64.format.order F 0 == some Ordering.gt)=f)
  (S1:∀ W,Rt 158 #[.agg #[.int .i64 s1,.bool g1,.slice A1 n1 c1,.int .i64 E1]] (.int .i64 sg1) W)(S2:∀ W,Rt 158 #[.agg #[.int .i64 s2,.bool g2,.slice A2 n2 c2,.int .i64 E2]] (.int .i64 sg2) W)
  (z1:decide (0<=sg1)=cP)(z2:decide (sg2<=0)=cQ)(z3:(decide (0<sg1) || decide (sg2<0))=op)(h1:ExI w s1 g1 A1 n1 c1 E1 x1)(h2:ExI w s2 g2 A2 n2 c2 E2 x2)
  (P:(cP=true->∀ W,ExI W s1 g1 A1 n1 c1 E1 x1->Rt 157 #[.agg #[.int .i64 s1,.bool g1,.slice A1 n1 c1,.int .i64 E1],.float .f64 b2] (Zf P1 P2) W)/\(cP=false->f=true->∀ W,ExI W s1 g1 A1 n1 c1 E1 x1->Rt 157 #[.agg #[.int .i64 s1,.bool g1,.slice A1 n1 c1,.int .i64 E1],.float .f64 F] (Zf P1 P2) W)/\(cP=false->f=false->P1=18442240474082181120/\P2=18442240474082181120))
  (Q:(cQ=true->∀ W,ExI W s2 g2 A2 n2 c2 E2 x2->Rt 157 #[.agg #[.int .i64 s2,.bool g2,.slice A2 n2 c2,.int .i64 E2],.float .f64 b2] (Zf Q1 Q2) W)/\(cQ=false->f=true->∀ W,ExI W s2 g2 A2 n2 c2 E2 x2->Rt 157 #[.agg #[.int .i64 s2,.bool g2,.slice A2 n2 c2,.int .i64 E2],.float .f64 F] (Zf Q1 Q2) W)/\(cQ=false->f=false->Q1=9218868437227405312/\Q2=9218868437227405312))
  (C:∀ W,Rt 77 #[Zf i j,Zf P1 P2,Zf Q1 Q2,.bool op] (Zf r1 r2) W):
  Rt 101 #[Zf b1 b2,.agg #[.int .i64 s1,.bool g1,.slice A1 n1 c1,.int .i64 E1],.agg #[.int .i64 s2,.bool g2,.slice A2 n2 c2,.int .i64 E2],Zf i j] (Zf r1 r2) w:=by
 have HM:=Hd m1;have HOF:=Hd of;have HS1:=Hd S1;have HS2:=Hd S2;have HZ1:=Hd z1;have HZ2:=Hd z2;have HZ3:=Hd z3;have HP:=Hd P;have HQ:=Hd Q;have HC:=Hd C;have HI1:=Hd fun W=>inf_neg W;have HI2:=Hd fun W=>inf_pos W;have HA1:=Hd fun W=>at_any 18442240474082181120 W;have HA2:=Hd fun W=>at_any 9218868437227405312 W;have X0:=Hd h1;have Y0:=Hd h2;clear m1 of S1 S2 z1 z2 z3 P Q C h1 h2;have LL:=li5 w (Zv b1 b2) 28 #[.int .i64 s1,.bool g1,.slice A1 n1 c1,.int .i64 E1] 97 #[.int .i64 s2,.bool g2,.slice A2 n2 c2,.int .i64 E2] 97 (Zv i j) 28 (Zv 0 0) 28;have HX:=Hd (X0.out.below LL.out.b);have HY:=Hd (Y0.out.below LL.out.b);clear X0 Y0
 go_enter Tryz.func101,Tryz.ntmps101
 obtain⟨q1_0,q1_1⟩:=(LL.out.blk 0 rfl).c2;have m1:=HM.out
 go_upto_region 3 with fail
 clear q1_0 q1_1;refine regL LL (fun hHeld=>?_);clear LL;replace HX:=Hd (HX.out.below (Below.refl _ _).drew);replace HY:=Hd (HY.out.below (Below.refl _ _).drew);generalize World.drew _=wk at hHeld HX HY ⊢;refine tks 0 ?_;refine tkb 1 (fun _ h=>(h.blk 0 rfl).c2) ?_;refine tks 3 ?_;refine tkb 4 (fun _ h=>(h.blk 0 rfl).c2) ?_;refine rdy 2 fun KK hKK=>?_;go_simp;refine hKK.out _ _ hHeld (fun _=>?_);clear hKK KK hHeld;rename_i hHeld;(try simp only [Act.put,lay]);refine tks 5 ?_;refine tks 6 ?_;refine wpAnyH_done (by kernel_rfl) ?_ _;have LL:=Hd hHeld;clear hHeld;clear m1 HM o1;go_wp2_with fail;refine cy (HI1.out _) ?_;clear HI1;go_wp2_with fail;refine cx (HA1.out _) fun wk hb=>?_;replace LL:=stL LL hb;replace HX:=Hd (HX.out.below hb);replace HY:=Hd (HY.out.below hb);clear hb HA1;go_wp2_with fail;refine cy (HI2.out _) ?_;clear HI2;go_wp2_with fail;refine cx (HA2.out _) fun wk hb=>?_;replace LL:=stL LL hb;replace HX:=Hd (HX.out.below hb);replace HY:=Hd (HY.out.below hb);clear hb HA2
 go_upto_block 0 with fail
 have hl_h:=LL.out.lts;generalize hwm:World.alloc wk _=wm;replace HX:=Hd (HX.out.below (below_allocE hwm));replace HY:=Hd (HY.out.below (below_allocE hwm));replace LL:=Hd (LL.out.newE hwm)
 have hz:wm.heap.size=wk.heap.size+1:=by rw [<- hwm];simp
 clear hwm;generalize hwn:World.alloc wm _=wn;replace HX:=Hd (HX.out.below (below_allocE hwn));replace HY:=Hd (HY.out.below (below_allocE hwn));replace LL:=Hd (LL.out.newE hwn);rw [hz] at LL
 simp only [List.cons_append,List.nil_append] at LL
 simp only [List.mem_cons,List.not_mem_nil,or_false,forall_eq_or_imp,forall_eq,false_imp_iff,implies_true,and_true] at hl_h
 clear hwn hz;generalize wk.heap.size=h at LL hl_h ⊢
 go_cut [11] (fun s11 wx=>s11=.pointer (some ⟨h,0,none⟩)/\Lies w wx [(w.heap.size,28,(Zv b1 b2)),((w.heap.size+1),97,#[.int .i64 s1,.bool g1,.slice A1 n1 c1,.int .i64 E1]),((w.heap.size+2),97,#[.int .i64 s2,.bool g2,.slice A2 n2 c2,.int .i64 E2]),((w.heap.size+3),28,(Zv i j)),((w.heap.size+4),28,(Zv 0 0)),((h+1),78,(Zv 9218868437227405312 9218868437227405312)),(h,78,(Zv P1 P2))] []/\ExI wx s1 g1 A1 n1 c1 E1 x1/\ExI wx s2 g2 A2 n2 c2 E2 x2)
 case first=>
  by_cases hz:cP=false/\f=false
  ·skip;obtain⟨hc,hf⟩:=hz;obtain⟨ea,eb⟩:=HP.out.2.2 hc hf;have EA:=Hd ea;have EB:=Hd eb;have z:=HZ1.out;rw [hc,decide_eq_false_iff_not] at z;have of:=HOF.out;rw [hf] at of;clear ea eb hc hf;obtain⟨q2_0,q2_1,q2_2,q2_3⟩:=(LL.out.blk 1 rfl).c4;go_wp2_with fail;refine cx (HS1.out _) fun wk hb=>?_;replace LL:=stL LL hb;replace HX:=Hd (HX.out.below hb);replace HY:=Hd (HY.out.below hb);clear hb q2_0 q2_1 q2_2 q2_3;go_wp2_with fail
   go_meet
   case rel=>exact⟨rfl,by rw [EA.out,EB.out];exact LL.out.perm (by simp) (by simp),HX.out,HY.out⟩
  ·skip
   have hc:cP=true\/(cP=false/\f=true):=by
    cases cP
    ·cases f
     ·exact absurd ⟨rfl,rfl⟩ hz
     ·exact .inr ⟨rfl,rfl⟩
    ·exact .inl rfl
   clear hz
   rcases hc with hc | ⟨hc,hf⟩
   all_goals
    first
    | have K:=Hd (HP.out.1 hc)
    | have K:=Hd (HP.out.2.1 hc hf)
    have z:=HZ1.out;rw [hc] at z
    first
    | rw [decide_eq_true_eq] at z
    | (rw [decide_eq_false_iff_not] at z;have of:=HOF.out;rw [hf] at of;clear hf)
    clear hc;obtain⟨q2_0,q2_1,q2_2,q2_3⟩:=(LL.out.blk 1 rfl).c4;go_wp2_with fail;refine cx (HS1.out _) fun wk hb=>?_;replace LL:=stL LL hb;replace HX:=Hd (HX.out.below hb);replace HY:=Hd (HY.out.below hb);clear hb q2_0 q2_1 q2_2 q2_3;obtain⟨q3_0,q3_1,q3_2,q3_3⟩:=(LL.out.blk 1 rfl).c4;go_wp2_with fail;refine cx (K.out _ HX.out) fun wk hb=>?_;replace LL:=stL LL hb;replace HX:=Hd (HX.out.below hb);replace HY:=Hd (HY.out.below hb);clear hb q3_0 q3_1 q3_2 q3_3;obtain⟨q4_0,q4_1⟩:=(LL.out.blk 5 rfl).c2;have fz0:=(LL.out.blk 5 rfl).frozen 0;have fz1:=(LL.out.blk 5 rfl).frozen 1;go_wp2_with fail;clear z K q4_0 q4_1 fz0 fz1;have PB_11:=LL.out.blk 5 rfl;replace LL:=Hd (LL.out.part 5 rfl 0 [.float .f64 P1,.float .f64 P2] (by omega) (by simp<;>omega) (by simp<;>omega))
    simp only [List.eraseIdx,laid,List.cons_append,List.nil_append,List.setIfInBounds_toArray,List.set_cons_zero,List.set_cons_succ,Nat.zero_add,Nat.reduceAdd] at LL
    replace HX:=Hd (HX.out.setC PB_11 (nowd rfl) 0 [.float .f64 P1,.float .f64 P2]);replace HY:=Hd (HY.out.setC PB_11 (nowd rfl) 0 [.float .f64 P1,.float .f64 P2])
    obtain⟨wn,hwn⟩:∃ X,(sets wk h 0 [.float .f64 P1,.float .f64 P2])=X:=⟨_,rfl⟩
    rw [hwn] at LL HX HY
    simp only [sets,Nat.reduceAdd] at hwn
    rw [hwn];clear hwn PB_11
    go_meet
    case rel=>exact⟨rfl,LL.out.perm (by simp) (by simp),HX.out,HY.out⟩
 case rest=>
 obtain⟨rfl,hcl,hx,hy⟩:=hcut;rename World=>wx;clear LL HX HY HP HZ1;have LL:=Hd hcl;have HX:=Hd hx;have HY:=Hd hy;clear hcl hx hy
 go_upto_block 1 with fail
 go_cut [12] (fun s12 wx=>s12=.pointer (some ⟨(h+1),0,none⟩)/\Lies w wx [(w.heap.size,28,(Zv b1 b2)),((w.heap.size+1),97,#[.int .i64 s1,.bool g1,.slice A1 n1 c1,.int .i64 E1]),((w.heap.size+2),97,#[.int .i64 s2,.bool g2,.slice A2 n2 c2,.int .i64 E2]),((w.heap.size+3),28,(Zv i j)),((w.heap.size+4),28,(Zv 0 0)),(h,78,(Zv P1 P2)),((h+1),78,(Zv Q1 Q2))] []/\ExI wx s1 g1 A1 n1 c1 E1 x1/\ExI wx s2 g2 A2 n2 c2 E2 x2)
 case first=>
  by_cases hz:cQ=false/\f=false
  ·skip;obtain⟨hc,hf⟩:=hz;obtain⟨ea,eb⟩:=HQ.out.2.2 hc hf;have EA:=Hd ea;have EB:=Hd eb;have z:=HZ2.out;rw [hc,decide_eq_false_iff_not] at z;have of:=HOF.out;rw [hf] at of;clear ea eb hc hf;obtain⟨q2_0,q2_1,q2_2,q2_3⟩:=(LL.out.blk 2 rfl).c4;go_wp2_with fail;refine cx (HS2.out _) fun wk hb=>?_;replace LL:=stL LL hb;replace HX:=Hd (HX.out.below hb);replace HY:=Hd (HY.out.below hb);clear hb q2_0 q2_1 q2_2 q2_3;go_wp2_with fail
   go_meet
   case rel=>exact⟨rfl,by rw [EA.out,EB.out];exact LL.out.perm (by simp) (by simp),HX.out,HY.out⟩
  ·skip
   have hc:cQ=true\/(cQ=false/\f=true):=by
    cases cQ
    ·cases f
     ·exact absurd ⟨rfl,rfl⟩ hz
     ·exact .inr ⟨rfl,rfl⟩
    ·exact .inl rfl
   clear hz
   rcases hc with hc | ⟨hc,hf⟩
   all_goals
    first
    | have K:=Hd (HQ.out.1 hc)
    | have K:=Hd (HQ.out.2.1 hc hf)
    have z:=HZ2.out;rw [hc] at z
    first
    | rw [decide_eq_true_eq] at z
    | (rw [decide_eq_false_iff_not] at z;have of:=HOF.out;rw [hf] at of;clear hf)
    clear hc;obtain⟨q2_0,q2_1,q2_2,q2_3⟩:=(LL.out.blk 2 rfl).c4;go_wp2_with fail;refine cx (HS2.out _) fun wk hb=>?_;replace LL:=stL LL hb;replace HX:=Hd (HX.out.below hb);replace HY:=Hd (HY.out.below hb);clear hb q2_0 q2_1 q2_2 q2_3;obtain⟨q3_0,q3_1,q3_2,q3_3⟩:=(LL.out.blk 2 rfl).c4;go_wp2_with fail;refine cx (K.out _ HY.out) fun wk hb=>?_;replace LL:=stL LL hb;replace HX:=Hd (HX.out.below hb);replace HY:=Hd (HY.out.below hb);clear hb q3_0 q3_1 q3_2 q3_3;obtain⟨q4_0,q4_1⟩:=(LL.out.blk 5 rfl).c2;have fz0:=(LL.out.blk 5 rfl).frozen 0;have fz1:=(LL.out.blk 5 rfl).frozen 1;go_wp2_with fail;clear z K q4_0 q4_1 fz0 fz1;have PB_12:=LL.out.blk 5 rfl;replace LL:=Hd (LL.out.part 5 rfl 0 [.float .f64 Q1,.float .f64 Q2] (by omega) (by simp<;>omega) (by simp<;>omega))
    simp only [List.eraseIdx,laid,List.cons_append,List.nil_append,List.setIfInBounds_toArray,List.set_cons_zero,List.set_cons_succ,Nat.zero_add,Nat.reduceAdd] at LL
    replace HX:=Hd (HX.out.setC PB_12 (nowd rfl) 0 [.float .f64 Q1,.float .f64 Q2]);replace HY:=Hd (HY.out.setC PB_12 (nowd rfl) 0 [.float .f64 Q1,.float .f64 Q2])
    obtain⟨wn,hwn⟩:∃ X,(sets wk (h+1) 0 [.float .f64 Q1,.float .f64 Q2])=X:=⟨_,rfl⟩
    rw [hwn] at LL HX HY
    simp only [sets,Nat.reduceAdd] at hwn
    rw [hwn];clear hwn PB_12
    go_meet
    case rel=>exact⟨rfl,LL.out.perm (by simp) (by simp),HX.out,HY.out⟩
 case rest=>
 obtain⟨rfl,hcl,hx,hy⟩:=hcut;rename World=>wx;clear LL HX HY HQ HZ2;have LL:=Hd hcl;have HX:=Hd hx;have HY:=Hd hy;clear hcl hx hy;clear HX HY HOF;have z3:=HZ3.out;clear HZ3
 go_upto_region 13 with fail
 rcases Bool.eq_false_or_eq_true (decide (0<sg1)) with hp | hp
 ·skip
  have hop:op=true:=by rw [<- z3,hp];rfl
  subst hop;clear z3 HS2;replace LL:=Hd (LL.out.loose 4 rfl rfl)
  simp only [List.eraseIdx,List.size_toArray,List.length_cons,List.length_nil,Nat.zero_add,Nat.reduceAdd] at LL
  refine regL LL (fun hHeld=>?_);clear LL;generalize World.drew _=wk at hHeld  ⊢;refine tkb 0 (fun _ h=>(h.blk 3 rfl).c2) ?_;refine tkb 1 (fun _ h=>(h.blk 4 rfl).c2) ?_;refine tkb 2 (fun _ h=>(h.blk 5 rfl).c2) ?_;refine tkb 3 (fun _ h=>(h.blk 1 rfl).c4) ?_;refine rdy 4 fun KK hKK=>?_;go_simp;refine cs (HS1.out _) ?_;clear hKK KK hHeld;intro wk hb1 hHeld;clear hb1;refine tks 5 ?_;refine tks 6 ?_;refine tkns 7 ?_;refine tkns 8 ?_;refine tkns 9 ?_;refine tks 10 ?_;refine rdy 11 fun KK hKK=>?_;go_simp;refine cs (HC.out _) ?_;clear hKK KK hHeld;intro wk hb3 hHeld;clear hb3;refine rdy 12 fun KK hKK=>?_;obtain⟨ha0,hf0,ha1,hf1⟩:=(hHeld.has 0 rfl).sf2;go_simp;have HS_0:=(hHeld.has 0 rfl).laid [.float .f64 r1,.float .f64 r2] rfl;refine hKK.out _ _ (hHeld.over 0 rfl [.float .f64 r1,.float .f64 r2] rfl rfl (by first | omega | exact hHeld.le_of 0 rfl) (by simp<;>omega) (by simp<;>omega)) (fun _=>?_);clear hKK KK hHeld;rename_i hHeld;(try simp only [Act.put,lay]);refine wpAnyH_done (by kernel_rfl) ?_ _;have LB:=Hd hHeld.b;clear hHeld;obtain⟨hk8_0,hk8_1⟩:=HS_0.c2;clear HS_0
  simp [sets] at hk8_0 hk8_1
  go_wp2;refine bodyPost_ret (v:=Zf r1 r2) (by simp [results,Tryz.results101,go_sem,hk8_0,hk8_1]) rfl ?_
  exact⟨rfl,LB.out⟩
 ·skip
  have hop:op=decide (sg2<0):=by rw [<- z3,hp];rfl
  subst hop;clear z3;replace LL:=Hd (LL.out.loose 4 rfl rfl)
  simp only [List.eraseIdx,List.size_toArray,List.length_cons,List.length_nil,Nat.zero_add,Nat.reduceAdd] at LL
  refine regL LL (fun hHeld=>?_);clear LL;generalize World.drew _=wk at hHeld  ⊢;refine tkb 0 (fun _ h=>(h.blk 3 rfl).c2) ?_;refine tkb 1 (fun _ h=>(h.blk 4 rfl).c2) ?_;refine tkb 2 (fun _ h=>(h.blk 5 rfl).c2) ?_;refine tkb 3 (fun _ h=>(h.blk 1 rfl).c4) ?_;refine rdy 4 fun KK hKK=>?_;go_simp;refine cs (HS1.out _) ?_;clear hKK KK hHeld;intro wk hb1 hHeld;clear hb1;refine tks 5 ?_;refine tks 6 ?_;refine tkb 7 (fun _ h=>(h.blk 2 rfl).c4) ?_;refine rdy 8 fun KK hKK=>?_;go_simp;refine cs (HS2.out _) ?_;clear hKK KK hHeld;intro wk hb2 hHeld;clear hb2;refine tks 9 ?_;refine tks 10 ?_;refine rdy 11 fun KK hKK=>?_;go_simp;refine cs (HC.out _) ?_;clear hKK KK hHeld;intro wk hb3 hHeld;clear hb3;refine rdy 12 fun KK hKK=>?_;obtain⟨ha0,hf0,ha1,hf1⟩:=(hHeld.has 0 rfl).sf2;go_simp;have HS_0:=(hHeld.has 0 rfl).laid [.float .f64 r1,.float .f64 r2] rfl;refine hKK.out _ _ (hHeld.over 0 rfl [.float .f64 r1,.float .f64 r2] rfl rfl (by first | omega | exact hHeld.le_of 0 rfl) (by simp<;>omega) (by simp<;>omega)) (fun _=>?_);clear hKK KK hHeld;rename_i hHeld;(try simp only [Act.put,lay]);refine wpAnyH_done (by kernel_rfl) ?_ _;have LB:=Hd hHeld.b;clear hHeld;obtain⟨hk8_0,hk8_1⟩:=HS_0.c2;clear HS_0
  simp [sets] at hk8_0 hk8_1
  go_wp2;refine bodyPost_ret (v:=Zf r1 r2) (by simp [results,Tryz.results101,go_sem,hk8_0,hk8_1]) rfl ?_
  exact⟨rfl,LB.out⟩
end
section
open Go.RowKit
attribute [local go_sem] run_store_float
theorem emptyq(i j:Int)(w:World)(h1:-(M:Int)<=i/\i<=M)(h2:-(M:Int)<=j/\j<=M):Rt 116 #[Zf (pat i) (pat j)] (.bool (decide (j<i))) w:=by
 have ho:=order_pat h1.1 h1.2 h2.1 h2.2
 obtain⟨p,hp⟩:∃ p,pat i=p:=⟨_,rfl⟩
 obtain⟨q,hq⟩:∃ p,pat j=p:=⟨_,rfl⟩
 rw [hp,hq] at ho;rw [hp,hq];clear hp hq h1 h2;have hb:=Hd fun cs=>below_alloc w (.cells cs 28)
 rcases Int.lt_trichotomy i j with h | h | h
 ·rw [show compare i j=.lt from Int.compare_eq_lt.2 h] at ho;rw [decide_eq_false (show ¬ j<i by omega)];clear h
  go_enter Tryz.func116,Tryz.ntmps116
  go_wp2
  go_ret
  exact⟨rfl,hb.out _⟩
 ·rw [show compare i j=.eq from Int.compare_eq_eq.2 h] at ho;rw [decide_eq_false (show ¬ j<i by omega)];clear h
  go_enter Tryz.func116,Tryz.ntmps116
  go_wp2
  go_ret
  exact⟨rfl,hb.out _⟩
 ·rw [show compare i j=.gt from Int.compare_eq_gt.2 h] at ho;rw [decide_eq_true (show j<i by omega)];clear h
  go_enter Tryz.func116,Tryz.ntmps116
  go_wp2
  go_ret
  exact⟨rfl,hb.out _⟩
attribute [local go_sem] run_negf
theorem turnedf(i j:Int)(w:World)(h1:-(M:Int)<=i/\i<=M)(h2:-(M:Int)<=j/\j<=M):Rt 137 #[Zf (pat i) (pat j)] (Zf (pat (-j)) (pat (-i))) w:=by
 have n1:=negFloat_val (pat_lt h1.1 h1.2);have n2:=negFloat_val (pat_lt h2.1 h2.2);have P1:=Hd fun W=>(plainf (Op.negFloat .f64 (pat i)) W n1.1 (by rw [n1.2.1,rung_pat h1.1 h1.2];omega)).mono (R':=fun e w'=>e=.returned (.float .f64 (pat (idx (Op.negFloat .f64 (pat i)))))/\Below W.heap.size W w') (by rintro e w' ⟨h,rfl⟩;exact⟨h,Below.refl _ _⟩);have P2:=Hd fun W=>(plainf (Op.negFloat .f64 (pat j)) W n2.1 (by rw [n2.2.1,rung_pat h2.1 h2.2];omega)).mono (R':=fun e w'=>e=.returned (.float .f64 (pat (idx (Op.negFloat .f64 (pat j)))))/\Below W.heap.size W w') (by rintro e w' ⟨h,rfl⟩;exact⟨h,Below.refl _ _⟩);rw [n1.2.2,idx_pat h1.1 h1.2] at P1;rw [n2.2.2,idx_pat h2.1 h2.2] at P2
 obtain⟨p,hp⟩:∃ p,pat i=p:=⟨_,rfl⟩
 obtain⟨q,hq⟩:∃ p,pat j=p:=⟨_,rfl⟩
 obtain⟨p2,hp2⟩:∃ p,pat (-i)=p:=⟨_,rfl⟩
 obtain⟨q2,hq2⟩:∃ p,pat (-j)=p:=⟨_,rfl⟩
 rw [hp,hp2] at P1;rw [hq,hq2] at P2;rw [hp,hq,hp2,hq2];clear n1 n2 hp hq hp2 hq2 h1 h2;obtain⟨LB0,LG0_0,LR⟩:=bx2 w (Zv p q) 28 (Zv 0 0) 28;have LR0:=Hd (HasBlk.of (n:=2) LR.out rfl rfl);clear LR
 go_enter Tryz.func137,Tryz.ntmps137
 go_wp2_with fail;refine wp_region_held_drew (S:=fun W'=>Blk W' w.heap.size 28 (Zv p q)/\HasBlk W' (w.heap.size+1) 28 2/\Below w.heap.size w W') (by kernel_rfl) (by exact⟨LG0_0.out.drew,LR0.out.drew,LB0.out.drew⟩) (fun hHeld=>?_);refine tks 0 ?_;refine tkb 1 (fun _ h=>h.1.c2) ?_;refine tks 2 ?_;refine tks 4 ?_;refine tkb 5 (fun _ h=>h.1.c2) ?_;refine tks 6 ?_;refine rdy 3 fun KK hKK=>?_;go_simp;refine cx (P2.out _) fun w2 hb2=>?_;go_wp2_with fail;refine hKK.out _ _ (⟨hHeld.1.keep hb2,hHeld.2.1.keep hb2,hHeld.2.2.trans (hb2.mono hHeld.2.2.size)⟩) (fun _=>?_);clear hKK KK hHeld;rename_i hHeld;(try simp only [Act.put,lay]);refine rdy 7 fun KK hKK=>?_;go_simp;refine cx (P1.out _) fun w3 hb3=>?_;go_wp2_with fail;refine hKK.out _ _ (⟨hHeld.1.keep hb3,hHeld.2.1.keep hb3,hHeld.2.2.trans (hb3.mono hHeld.2.2.size)⟩) (fun _=>?_);clear hKK KK hHeld;rename_i hHeld;(try simp only [Act.put,lay]);refine tks 8 ?_;refine rdy 9 fun KK hKK=>?_;have ha0:=hHeld.2.1.someCell 0 (by decide);have hf0:=hHeld.2.1.frozen 0;have ha1:=hHeld.2.1.someCell 1 (by decide);have hf1:=hHeld.2.1.frozen 1;have HK:=Hd (hHeld.2.1.setCell [.float .f64 q2,.float .f64 p2] rfl);have F:=Hd (below_sets (w0:=w) (r:=(w.heap.size+1)) (by omega) [.float .f64 q2,.float .f64 p2] 0 _ hHeld.2.2);go_simp;refine hKK.out _ _ (⟨hHeld.1.other (by omega) 0 [.float .f64 q2,.float .f64 p2],hHeld.2.1.sets [.float .f64 q2,.float .f64 p2] rfl rfl,below_sets (by omega) [.float .f64 q2,.float .f64 p2] 0 _ hHeld.2.2⟩) (fun _=>?_);clear hKK KK hHeld;rename_i hHeld
 (try simp only [Act.put,lay]);refine wpAnyH_done (by kernel_rfl) ?_ _;have hk0:=HK.out 0 (by decide);have hk1:=HK.out 1 (by decide)
 simp [sets] at hk0 hk1
 clear hHeld HK hb2 hb3;clear LB0 LR0 LG0_0;go_wp2;refine bodyPost_ret (v:=Zf q2 p2) (by simp [results,Tryz.results137,go_sem,hk0,hk1]) rfl ?_
 exact⟨rfl,F.out⟩
theorem negf(x y:Nat)(w:World)(hx:x<18446744073709551616)(hy:y<18446744073709551616):Rt 61 #[Zf x y] (Zf (pat (-(rd x y).2)) (pat (-(rd x y).1))) w:=by
 have HR:=Hd fun W=>readf x y W hx hy;have hiv:=rd_iv x y
 obtain⟨i,hi⟩:∃ i,(rd x y).1=i:=⟨_,rfl⟩
 obtain⟨j,hj⟩:∃ i,(rd x y).2=i:=⟨_,rfl⟩
 rw [hi,hj] at HR hiv ⊢;have HQ:=Hd fun W=>emptyq i j W hiv.lo hiv.hi;have HT:=Hd fun W=>turnedf i j W hiv.lo hiv.hi
 have hE:j<i->i=M/\j=-(M:Int):=by
  intro h;unfold Iv at hiv
  omega
 obtain⟨p,hp⟩:∃ p,pat i=p:=⟨_,rfl⟩
 obtain⟨q,hq⟩:∃ p,pat j=p:=⟨_,rfl⟩
 obtain⟨p2,hp2⟩:∃ p,pat (-i)=p:=⟨_,rfl⟩
 obtain⟨q2,hq2⟩:∃ p,pat (-j)=p:=⟨_,rfl⟩
 rw [hp,hq] at HR HQ HT;rw [hp2,hq2] at HT ⊢
 obtain⟨b,hb⟩:∃ b,decide (j<i)=b:=⟨_,rfl⟩
 rw [hb] at HQ
 have HE2:b=true->p=q2/\q=p2:=by
  intro h;rw [h] at hb;obtain⟨e1,e2⟩:=hE (of_decide_eq_true hb);rw [<- hp,<- hq2,<- hq,<- hp2,e1,e2,Int.neg_neg]
  exact⟨rfl,rfl⟩
 have HE:=Hd HE2;clear hi hj hiv hE hp hq hp2 hq2 hb HE2
 cases b
 ·skip;obtain⟨LB0,LG0_0,LR⟩:=bx2 w (Zv x y) 28 (Zv 0 0) 28;have LR0:=Hd (HasBlk.of (n:=2) LR.out rfl rfl);clear LR
  go_enter Tryz.func61,Tryz.ntmps61
  go_wp2_with fail;refine cx (HR.out _) fun w1 hb1=>?_;have LB1:=stB LB0 hb1 LB0.out.size;have LR1:=stR LR0 hb1;have LG0_1:=stG LG0_0 hb1;clear LB0 LR0 LG0_0;clear hb1;obtain⟨q0_0,q0_1⟩:=LG0_1.out.c2;have hf0:=LG0_1.out.frozen 0;have hf1:=LG0_1.out.frozen 1
  go_upto_region 2 with fail
  clear q0_0 q0_1 hf0 hf1;have LB2:=Hd (below_sets (w0:=w) (show w.heap.size<=w.heap.size by omega) [.float .f64 p,.float .f64 q] 0 w1 LB1.out);have LR2:=Hd (LR1.out.other (r:=w.heap.size) (by omega) 0 [.float .f64 p,.float .f64 q]);have LG0_2:=Hd (show Blk (sets w1 w.heap.size 0 [.float .f64 p,.float .f64 q]) w.heap.size 28 (Zv p q) from by have hbs:=Blk.sets [.float .f64 p,.float .f64 q] 0 w1 _ LG0_1.out;simpa [laid] using hbs);clear LB1 LR1 LG0_1
  obtain⟨V1,hV1⟩:∃ X,(sets w1 w.heap.size 0 [.float .f64 p,.float .f64 q])=X:=⟨_,rfl⟩
  rw [hV1] at LB2 LR2 LG0_2;rw [show ((w1.setCell ⟨w.heap.size,0,none⟩ (.float .f64 p)).setCell ⟨w.heap.size,1,none⟩ (.float .f64 q))=V1 from hV1];clear hV1;obtain⟨q0_0,q0_1⟩:=LG0_2.out.c2;go_wp2_with fail;refine cx (HQ.out _) fun w2 hb2=>?_;have LB3:=stB LB2 hb2 LB2.out.size;have LR3:=stR LR2 hb2;have LG0_3:=stG LG0_2 hb2;clear LB2 LR2 LG0_2;clear hb2 q0_0 q0_1;obtain⟨q0_0,q0_1⟩:=LG0_3.out.c2;go_wp2_with fail;refine cx (HT.out _) fun w3 hb3=>?_;have LB4:=stB LB3 hb3 LB3.out.size;have LR4:=stR LR3 hb3;have LG0_4:=stG LG0_3 hb3;clear LB3 LR3 LG0_3;clear hb3 q0_0 q0_1;obtain⟨ha0,hf0,ha1,hf1⟩:=LR4.out.sf2;obtain⟨hk0,hk1⟩:=LR4.out.sc2 (.float .f64 q2) (.float .f64 p2);have F:=Hd (below_sets (w0:=w) (r:=(w.heap.size+1)) (by omega) [.float .f64 q2,.float .f64 p2] 0 _ LB4.out)
  simp [sets] at hk0 hk1
  go_wp2;refine bodyPost_ret (v:=Zf q2 p2) (by simp [results,Tryz.results61,go_sem,hk0,hk1]) rfl ?_
  exact⟨rfl,F.out⟩
 ·skip;obtain⟨LB0,LG0_0,LR⟩:=bx2 w (Zv x y) 28 (Zv 0 0) 28;have LR0:=Hd (HasBlk.of (n:=2) LR.out rfl rfl);clear LR
  go_enter Tryz.func61,Tryz.ntmps61
  go_wp2_with fail;refine cx (HR.out _) fun w1 hb1=>?_;have LB1:=stB LB0 hb1 LB0.out.size;have LR1:=stR LR0 hb1;have LG0_1:=stG LG0_0 hb1;clear LB0 LR0 LG0_0;clear hb1;obtain⟨q0_0,q0_1⟩:=LG0_1.out.c2;have hf0:=LG0_1.out.frozen 0;have hf1:=LG0_1.out.frozen 1
  go_upto_region 2 with fail
  clear q0_0 q0_1 hf0 hf1;have LB2:=Hd (below_sets (w0:=w) (show w.heap.size<=w.heap.size by omega) [.float .f64 p,.float .f64 q] 0 w1 LB1.out);have LR2:=Hd (LR1.out.other (r:=w.heap.size) (by omega) 0 [.float .f64 p,.float .f64 q]);have LG0_2:=Hd (show Blk (sets w1 w.heap.size 0 [.float .f64 p,.float .f64 q]) w.heap.size 28 (Zv p q) from by have hbs:=Blk.sets [.float .f64 p,.float .f64 q] 0 w1 _ LG0_1.out;simpa [laid] using hbs);clear LB1 LR1 LG0_1
  obtain⟨V1,hV1⟩:∃ X,(sets w1 w.heap.size 0 [.float .f64 p,.float .f64 q])=X:=⟨_,rfl⟩
  rw [hV1] at LB2 LR2 LG0_2;rw [show ((w1.setCell ⟨w.heap.size,0,none⟩ (.float .f64 p)).setCell ⟨w.heap.size,1,none⟩ (.float .f64 q))=V1 from hV1];clear hV1;obtain⟨q0_0,q0_1⟩:=LG0_2.out.c2;go_wp2_with fail;refine cx (HQ.out _) fun w2 hb2=>?_;have LB3:=stB LB2 hb2 LB2.out.size;have LR3:=stR LR2 hb2;have LG0_3:=stG LG0_2 hb2;clear LB2 LR2 LG0_2;clear hb2 q0_0 q0_1;obtain⟨q0_0,q0_1⟩:=LG0_3.out.c2;obtain⟨ha0,hf0,ha1,hf1⟩:=LR3.out.sf2;obtain⟨hk0,hk1⟩:=LR3.out.sc2 (.float .f64 p) (.float .f64 q);have F:=Hd (below_sets (w0:=w) (r:=(w.heap.size+1)) (by omega) [.float .f64 p,.float .f64 q] 0 _ LB3.out)
  simp [sets] at hk0 hk1
  go_wp2;refine bodyPost_ret (v:=Zf p q) (by simp [results,Tryz.results61,go_sem,hk0,hk1]) rfl ?_
  exact⟨by rw [(HE.out trivial).1,(HE.out trivial).2],F.out⟩
end
section
open Go.RowKit
attribute [local go_sem] run_store_float run_frombits run_bitsof
theorem mirrorf(x y:Nat)(w:World)(hx:x<18446744073709551616)(hy:y<18446744073709551616):Rt 85 #[Zf x y] (Zf (pat (-(rd x y).2)) (pat (-(rd x y).1))) w:=by
 have HN:=Hd fun W=>negf x y W hx hy
 obtain⟨p,hp⟩:∃ p,pat (-(rd x y).2)=p:=⟨_,rfl⟩
 obtain⟨q,hq⟩:∃ p,pat (-(rd x y).1)=p:=⟨_,rfl⟩
 rw [hp,hq] at HN;rw [hp,hq];clear hp hq;obtain⟨LB0,LG0_0,LR⟩:=bx2 w (Zv x y) 28 (Zv 0 0) 28;have LR0:=Hd (HasBlk.of (n:=2) LR.out rfl rfl);clear LR
 go_enter Tryz.func85,Tryz.ntmps85
 go_wp2_with fail;refine cx (HN.out _) fun w1 hb1=>?_;have LB1:=stB LB0 hb1 LB0.out.size;have LR1:=stR LR0 hb1;have LG0_1:=stG LG0_0 hb1;clear LB0 LR0 LG0_0;clear hb1;obtain⟨ha0,hf0,ha1,hf1⟩:=LR1.out.sf2;obtain⟨hk0,hk1⟩:=LR1.out.sc2 (.float .f64 p) (.float .f64 q);have F:=Hd (below_sets (w0:=w) (r:=(w.heap.size+1)) (by omega) [.float .f64 p,.float .f64 q] 0 _ LB1.out)
 simp [sets] at hk0 hk1
 go_wp2;refine bodyPost_ret (v:=Zf p q) (by simp [results,Tryz.results85,go_sem,hk0,hk1]) rfl ?_
 exact⟨rfl,F.out⟩
end
section
open Go.RowKit
attribute [local go_sem] run_store_float run_eqf
theorem has_any(i j:Int)(w:World)(hi:-(M:Int)<=i/\i<=M)(hj:-(M:Int)<=j/\j<=M):Rt 87 #[Zf (pat i) (pat j)] (.bool (decide (i<=0/\0<=j))) w:=by
 have t1:i<=0->FloatKind.f64.format.order (pat i) 0=some .lt\/FloatKind.f64.format.order (pat i) 0=some .eq:=fun h=>by
  by_cases h0:i=0
  ·exact .inr (ord0_eq h0)
  ·exact .inl (ord0_lt hi (by omega))
 have t2:0<=j->FloatKind.f64.format.order (pat j) 0=some .gt\/FloatKind.f64.format.order (pat j) 0=some .eq:=fun h=>by
  by_cases h0:j=0
  ·exact .inr (ord0_eq h0)
  ·exact .inl (ord0_gt hj (by omega))
 obtain⟨LB0,LG0_0⟩:=bx1 w (Zv (pat i) (pat j)) 28
 obtain⟨p,hp⟩:∃ p,pat i=p:=⟨_,rfl⟩
 obtain⟨q,hq⟩:∃ p,pat j=p:=⟨_,rfl⟩
 by_cases h1:i<=0
 ·have o1:=t1 h1
  by_cases h2:0<=j
  ·have o2:=t2 h2;rw [decide_eq_true ⟨h1,h2⟩];rw [hp] at o1;rw [hq] at o2;rw [hp,hq] at LB0 LG0_0 ⊢;clear t1 t2 hp hq h1 h2 hi hj
   rcases o1 with o1 | o1<;>rcases o2 with o2 | o2
   all_goals
    have F:=Hd LB0.out;have q0:=LG0_0.out.cell 0;have q1:=LG0_0.out.cell 1
    go_enter Tryz.func87,Tryz.ntmps87
    go_wp2
    go_ret
    exact⟨rfl,F.out⟩
  ·have o2:=ord0_lt hj (by omega);rw [decide_eq_false (fun h=>h2 h.2)];rw [hp] at o1;rw [hq] at o2;rw [hp,hq] at LB0 LG0_0 ⊢;clear t1 t2 hp hq h1 h2 hi hj
   rcases o1 with o1 | o1
   all_goals
    have F:=Hd LB0.out;have q0:=LG0_0.out.cell 0;have q1:=LG0_0.out.cell 1
    go_enter Tryz.func87,Tryz.ntmps87
    go_wp2
    go_ret
    exact⟨rfl,F.out⟩
 ·have o1:=ord0_gt hi (by omega);rw [decide_eq_false (fun h=>h1 h.1)];rw [hp] at o1;rw [hp,hq] at LB0 LG0_0 ⊢;clear t1 t2 hp hq h1 hi hj;have F:=Hd LB0.out;have q0:=LG0_0.out.cell 0;have q1:=LG0_0.out.cell 1
  go_enter Tryz.func87,Tryz.ntmps87
  go_wp2
  go_ret
  exact⟨rfl,F.out⟩
theorem hull_walk(p1 p2 q1 q2 a b:Nat)(k:Int)(w:World)(hB:∀ W,Rt 138 #[Zf p1 p2,Zf q1 q2] (.tuple #[Zf p1 p2,Zf q1 q2,.int .i64 k]) W)
  (m1:∀ W ts t,(Builtin.min_ ts t (Zv p1 q1)).run Tryz.prog W=.ok (.float .f64 a) W)(m2:∀ W ts t,(Builtin.max_ ts t (Zv p2 q2)).run Tryz.prog W=.ok (.float .f64 b) W):
  Rt 63 #[Zf p1 p2,Zf q1 q2] (Zf a b) w:=by
 have HB:=Hd hB;have M1:=Hd m1;have M2:=Hd m2;clear hB m1 m2;obtain⟨LB0,LG0_0,LG1_0,LR⟩:=bx3 w (Zv p1 p2) 28 (Zv q1 q2) 28 (Zv 0 0) 28;have LR0:=Hd (HasBlk.of (n:=2) LR.out rfl rfl);clear LR
 go_enter Tryz.func63,Tryz.ntmps63
 obtain⟨q0_0,q0_1⟩:=LG0_0.out.c2;obtain⟨q1_0,q1_1⟩:=LG1_0.out.c2;go_wp2_with fail;refine cx (HB.out _) fun w1 hb1=>?_;have LB1:=stB LB0 hb1 LB0.out.size;have LR1:=stR LR0 hb1;have LG0_1:=stG LG0_0 hb1;have LG1_1:=stG LG1_0 hb1;clear LB0 LR0 LG0_0 LG1_0;clear hb1 HB q0_0 q0_1 q1_0 q1_1;obtain⟨q0_0,q0_1⟩:=LG0_1.out.c2;obtain⟨q1_0,q1_1⟩:=LG1_1.out.c2;have f00:=LG0_1.out.frozen 0;have f01:=LG0_1.out.frozen 1;have f10:=LG1_1.out.frozen 0;have f11:=LG1_1.out.frozen 1
 go_upto_region 2 with fail
 clear q0_0 q0_1 q1_0 q1_1 f00 f01 f10 f11;have LB2:=Hd (below_sets (w0:=w) (show w.heap.size<=w.heap.size by omega) [.float .f64 p1,.float .f64 p2] 0 w1 LB1.out);have LR2:=Hd (LR1.out.other (r:=w.heap.size) (by omega) 0 [.float .f64 p1,.float .f64 p2]);have LG0_2:=Hd (show Blk (sets w1 w.heap.size 0 [.float .f64 p1,.float .f64 p2]) w.heap.size 28 (Zv p1 p2) from by have hbs:=Blk.sets [.float .f64 p1,.float .f64 p2] 0 w1 _ LG0_1.out;simpa [laid] using hbs);have LG1_2:=Hd (LG1_1.out.other (r:=w.heap.size) (by omega) 0 [.float .f64 p1,.float .f64 p2]);clear LB1 LR1 LG0_1 LG1_1;have LB3:=Hd (below_sets (w0:=w) (show w.heap.size<=(w.heap.size+1) by omega) [.float .f64 q1,.float .f64 q2] 0 (sets w1 w.heap.size 0 [.float .f64 p1,.float .f64 p2]) LB2.out);have LR3:=Hd (LR2.out.other (r:=(w.heap.size+1)) (by omega) 0 [.float .f64 q1,.float .f64 q2]);have LG0_3:=Hd (LG0_2.out.other (r:=(w.heap.size+1)) (by omega) 0 [.float .f64 q1,.float .f64 q2]);have LG1_3:=Hd (show Blk (sets (sets w1 w.heap.size 0 [.float .f64 p1,.float .f64 p2]) (w.heap.size+1) 0 [.float .f64 q1,.float .f64 q2]) (w.heap.size+1) 28 (Zv q1 q2) from by have hbs:=Blk.sets [.float .f64 q1,.float .f64 q2] 0 (sets w1 w.heap.size 0 [.float .f64 p1,.float .f64 p2]) _ LG1_2.out;simpa [laid] using hbs);clear LB2 LR2 LG0_2 LG1_2
 obtain⟨W2,hW2⟩:∃ W,sets (sets w1 w.heap.size 0 [.float .f64 p1,.float .f64 p2]) (w.heap.size+1) 0 [.float .f64 q1,.float .f64 q2]=W:=⟨_,rfl⟩
 rw [hW2] at LB3 LR3 LG0_3 LG1_3
 simp only [sets] at hW2
 rw [hW2];clear hW2;obtain⟨q0_0,q0_1⟩:=LG0_3.out.c2;obtain⟨q1_0,q1_1⟩:=LG1_3.out.c2;have m1:=M1.out;have m2:=M2.out;obtain⟨ha0,hf0,ha1,hf1⟩:=LR3.out.sf2;obtain⟨hk0,hk1⟩:=LR3.out.sc2 (.float .f64 a) (.float .f64 b);have F:=Hd (below_sets (w0:=w) (r:=(w.heap.size+2)) (by omega) [.float .f64 a,.float .f64 b] 0 _ LB3.out)
 simp [sets] at hk0 hk1
 go_wp2;refine bodyPost_ret (v:=Zf a b) (by simp [results,Tryz.results63,go_sem,hk0,hk1]) rfl ?_
 exact⟨rfl,F.out⟩
theorem hullf(i j i' j':Int)(w:World)(h:Iv i j)(h':Iv i' j'):
  Rt 63 #[Zf (pat i) (pat j),.agg #[.float .f64 (pat i'),.float .f64 (pat j')]] (Zf (pat (min i i')) (pat (max j j'))) w:=
 hull_walk _ _ _ _ _ _ _ w (fun W=>both_any _ _ _ _ _ _ W (fun W=>readf_idx i j W h) (fun W=>readf_idx i' j' W h') (em_idx h) (em_idx h')) (fun W ts t=>run_minf h.lo h'.lo W ts t) (fun W ts t=>run_maxf h.hi h'.hi W ts t)
theorem factor_walk(b1 b2:Nat)(s1:Int)(g1:Bool)(A1:Option Addr)(n1 c1:Nat)(E1:Int)(s2:Int)(g2:Bool)(A2:Option Addr)(n2 c2:Nat)(E2:Int)(i j:Nat)(x1 x2:Rat)(sg1 sg2:Int)(hs ins:Bool)(u1 u2 mb1 mb2 mx1 mx2 v1 v2 mv1 mv2 r1 r2:Nat)(w:World)
  (S1:∀ W,Rt 158 #[.agg #[.int .i64 s1,.bool g1,.slice A1 n1 c1,.int .i64 E1]] (.int .i64 sg1) W)(S2:∀ W,Rt 158 #[.agg #[.int .i64 s2,.bool g2,.slice A2 n2 c2,.int .i64 E2]] (.int .i64 sg2) W)(h1:ExI w s1 g1 A1 n1 c1 E1 x1)(h2:ExI w s2 g2 A2 n2 c2 E2 x2)
  (HH:∀ W,Rt 87 #[Zf b1 b2] (.bool hs) W)(zi:(hs && decide (sg1<=0) && decide (0<=sg2))=ins)
  (P1:∀ W,ExI W s1 g1 A1 n1 c1 E1 x1->ExI W s2 g2 A2 n2 c2 E2 x2->Rt 101 #[Zf b1 b2,.agg #[.int .i64 s1,.bool g1,.slice A1 n1 c1,.int .i64 E1],.agg #[.int .i64 s2,.bool g2,.slice A2 n2 c2,.int .i64 E2],Zf i j] (Zf u1 u2) W)
  (M1:∀ W,Rt 85 #[Zf b1 b2] (Zf mb1 mb2) W)(M2:∀ W,Rt 85 #[Zf i j] (Zf mx1 mx2) W)
  (P2:∀ W,ExI W s1 g1 A1 n1 c1 E1 x1->ExI W s2 g2 A2 n2 c2 E2 x2->Rt 101 #[Zf mb1 mb2,.agg #[.int .i64 s1,.bool g1,.slice A1 n1 c1,.int .i64 E1],.agg #[.int .i64 s2,.bool g2,.slice A2 n2 c2,.int .i64 E2],Zf mx1 mx2] (Zf v1 v2) W)
  (M3:∀ W,Rt 85 #[Zf v1 v2] (Zf mv1 mv2) W)(HU:∀ W,Rt 63 #[Zf u1 u2,Zf mv1 mv2] (Zf r1 r2) W):
  Rt 90 #[Zf b1 b2,.agg #[.int .i64 s1,.bool g1,.slice A1 n1 c1,.int .i64 E1],.agg #[.int .i64 s2,.bool g2,.slice A2 n2 c2,.int .i64 E2],Zf i j] (.agg #[.float .f64 (if ins then i else r1),.float .f64 (if ins then j else r2)]) w:=by
 have KS1:=Hd S1;have KS2:=Hd S2;have KHH:=Hd HH;have Kzi:=Hd zi;have KP1:=Hd P1;have KM1:=Hd M1;have KM2:=Hd M2;have KP2:=Hd P2;have KM3:=Hd M3;have KHU:=Hd HU;have X0:=Hd h1;have Y0:=Hd h2;clear S1 S2 h1 h2 HH zi P1 M1 M2 P2 M3 HU;obtain⟨LB0,LG0_0,LG1_0,LG2_0,LG3_0,LR⟩:=bx5 w (Zv b1 b2) 28 #[.int .i64 s1,.bool g1,.slice A1 n1 c1,.int .i64 E1] 97 #[.int .i64 s2,.bool g2,.slice A2 n2 c2,.int .i64 E2] 97 (Zv i j) 28 (Zv 0 0) 28;have LR0:=Hd (HasBlk.of (n:=2) LR.out rfl rfl);clear LR;have X1:=Hd (X0.out.below LB0.out);have Y1:=Hd (Y0.out.below LB0.out);clear X0 Y0
 go_enter Tryz.func90,Tryz.ntmps90
 go_upto_region 1 with fail
 obtain⟨W0,hW0⟩:∃ X,(((((w.alloc (.cells (Zv b1 b2) 28)).alloc (.cells #[.int .i64 s1,.bool g1,.slice A1 n1 c1,.int .i64 E1] 97)).alloc (.cells #[.int .i64 s2,.bool g2,.slice A2 n2 c2,.int .i64 E2] 97)).alloc (.cells (Zv i j) 28)).alloc (.cells (Zv 0 0) 28))=X:=⟨_,rfl⟩
 rw [hW0] at LB0 LR0 LG0_0 LG1_0 LG2_0 LG3_0 X1 Y1 ⊢;clear hW0
 go_cut [20] (fun s20 wx=>s20=.bool ins/\Blk wx w.heap.size 28 (Zv b1 b2)/\Blk wx (w.heap.size+1) 97 #[.int .i64 s1,.bool g1,.slice A1 n1 c1,.int .i64 E1]/\Blk wx (w.heap.size+2) 97 #[.int .i64 s2,.bool g2,.slice A2 n2 c2,.int .i64 E2]/\Blk wx (w.heap.size+3) 28 (Zv i j)/\HasBlk wx (w.heap.size+4) 28 2/\ExI wx s1 g1 A1 n1 c1 E1 x1/\ExI wx s2 g2 A2 n2 c2 E2 x2/\Below w.heap.size w wx)
 case first=>
  have zi:=Kzi.out
  cases hs
  ·rw [Bool.false_and,Bool.false_and] at zi;subst zi;obtain⟨q0_0,q0_1⟩:=LG0_0.out.c2;go_wp2_with fail;refine cx (KHH.out _) fun wa hba=>?_;have LB1:=stB LB0 hba LB0.out.size;have LR1:=stR LR0 hba;have LG0_1:=stG LG0_0 hba;have LG1_1:=stG LG1_0 hba;have LG2_1:=stG LG2_0 hba;have LG3_1:=stG LG3_0 hba;clear LB0 LR0 LG0_0 LG1_0 LG2_0 LG3_0;have X2:=Hd (X1.out.below hba);have Y2:=Hd (Y1.out.below hba);clear hba q0_0 q0_1;go_wp2_with fail
   go_meet
   case rel=>exact⟨rfl,LG0_1.out,LG1_1.out,LG2_1.out,LG3_1.out,LR1.out,X2.out,Y2.out,LB1.out⟩
  ·rw [Bool.true_and] at zi
   by_cases hz:sg1<=0
   ·have hzb:=decide_eq_true hz;rw [hzb,Bool.true_and] at zi;subst zi;obtain⟨q0_0,q0_1⟩:=LG0_0.out.c2;go_wp2_with fail;refine cx (KHH.out _) fun wa hba=>?_;have LB1:=stB LB0 hba LB0.out.size;have LR1:=stR LR0 hba;have LG0_1:=stG LG0_0 hba;have LG1_1:=stG LG1_0 hba;have LG2_1:=stG LG2_0 hba;have LG3_1:=stG LG3_0 hba;clear LB0 LR0 LG0_0 LG1_0 LG2_0 LG3_0;have X2:=Hd (X1.out.below hba);have Y2:=Hd (Y1.out.below hba);clear hba q0_0 q0_1;obtain⟨q1_0,q1_1,q1_2,q1_3⟩:=LG1_1.out.c4;go_wp2_with fail;refine cx (KS1.out _) fun wb hbb=>?_;have LB2:=stB LB1 hbb LB1.out.size;have LR2:=stR LR1 hbb;have LG0_2:=stG LG0_1 hbb;have LG1_2:=stG LG1_1 hbb;have LG2_2:=stG LG2_1 hbb;have LG3_2:=stG LG3_1 hbb;clear LB1 LR1 LG0_1 LG1_1 LG2_1 LG3_1;have X3:=Hd (X2.out.below hbb);have Y3:=Hd (Y2.out.below hbb);clear hbb q1_0 q1_1 q1_2 q1_3;obtain⟨q2_0,q2_1,q2_2,q2_3⟩:=LG2_2.out.c4;go_wp2_with fail;refine cx (KS2.out _) fun wd hbd=>?_;have LB3:=stB LB2 hbd LB2.out.size;have LR3:=stR LR2 hbd;have LG0_3:=stG LG0_2 hbd;have LG1_3:=stG LG1_2 hbd;have LG2_3:=stG LG2_2 hbd;have LG3_3:=stG LG3_2 hbd;clear LB2 LR2 LG0_2 LG1_2 LG2_2 LG3_2;have X4:=Hd (X3.out.below hbd);have Y4:=Hd (Y3.out.below hbd);clear hbd q2_0 q2_1 q2_2 q2_3;go_wp2_with fail
    go_meet
    case rel=>exact⟨rfl,LG0_3.out,LG1_3.out,LG2_3.out,LG3_3.out,LR3.out,X4.out,Y4.out,LB3.out⟩
   ·have hzb:=decide_eq_false hz;rw [hzb,Bool.false_and] at zi;subst zi;obtain⟨q0_0,q0_1⟩:=LG0_0.out.c2;go_wp2_with fail;refine cx (KHH.out _) fun wa hba=>?_;have LB1:=stB LB0 hba LB0.out.size;have LR1:=stR LR0 hba;have LG0_1:=stG LG0_0 hba;have LG1_1:=stG LG1_0 hba;have LG2_1:=stG LG2_0 hba;have LG3_1:=stG LG3_0 hba;clear LB0 LR0 LG0_0 LG1_0 LG2_0 LG3_0;have X2:=Hd (X1.out.below hba);have Y2:=Hd (Y1.out.below hba);clear hba q0_0 q0_1;obtain⟨q1_0,q1_1,q1_2,q1_3⟩:=LG1_1.out.c4;go_wp2_with fail;refine cx (KS1.out _) fun wb hbb=>?_;have LB2:=stB LB1 hbb LB1.out.size;have LR2:=stR LR1 hbb;have LG0_2:=stG LG0_1 hbb;have LG1_2:=stG LG1_1 hbb;have LG2_2:=stG LG2_1 hbb;have LG3_2:=stG LG3_1 hbb;clear LB1 LR1 LG0_1 LG1_1 LG2_1 LG3_1;have X3:=Hd (X2.out.below hbb);have Y3:=Hd (Y2.out.below hbb);clear hbb q1_0 q1_1 q1_2 q1_3;go_wp2_with fail
    go_meet
    case rel=>exact⟨rfl,LG0_2.out,LG1_2.out,LG2_2.out,LG3_2.out,LR2.out,X3.out,Y3.out,LB2.out⟩
 case rest=>
  obtain⟨rfl,e0,e1,e2,e3,er,ex,ey,eb⟩:=hcut;clear LB0 LR0 LG0_0 LG1_0 LG2_0 LG3_0 X1 Y1 Kzi KS1 KS2 KHH;have LB1:=Hd eb;have LR1:=Hd er;have LG0_1:=Hd e0;have LG1_1:=Hd e1;have LG2_1:=Hd e2;have LG3_1:=Hd e3;have X2:=Hd ex;have Y2:=Hd ey;clear e0 e1 e2 e3 er ex ey eb
  cases ins
  ·go_wp2_with fail;refine wp_region_held_drew (S:=fun W'=>Blk W' w.heap.size 28 (Zv b1 b2)/\Blk W' (w.heap.size+1) 97 #[.int .i64 s1,.bool g1,.slice A1 n1 c1,.int .i64 E1]/\Blk W' (w.heap.size+2) 97 #[.int .i64 s2,.bool g2,.slice A2 n2 c2,.int .i64 E2]/\Blk W' (w.heap.size+3) 28 (Zv i j)/\HasBlk W' (w.heap.size+4) 28 2/\Below w.heap.size w W') (by kernel_rfl) (by exact⟨LG0_1.out.drew,LG1_1.out.drew,LG2_1.out.drew,LG3_1.out.drew,LR1.out.drew,LB1.out.drew⟩) (fun hHeld=>?_);refine tkb 0 (fun _ h=>h.1.c2) ?_;refine tkb 1 (fun _ h=>h.2.1.c4) ?_;refine tkb 2 (fun _ h=>h.2.2.1.c4) ?_;refine tkb 3 (fun _ h=>h.2.2.2.1.c2) ?_;refine tkb 5 (fun _ h=>h.1.c2) ?_;refine tkb 7 (fun _ h=>h.2.1.c4) ?_;refine tkb 8 (fun _ h=>h.2.2.1.c4) ?_;refine tkb 9 (fun _ h=>h.2.2.2.1.c2) ?_;refine rdy 4 fun KK hKK=>?_;go_simp;refine cx (KP1.out _ (X2.out.keep fun _ h=>h.drew) (Y2.out.keep fun _ h=>h.drew)) fun wa hbA=>?_;go_wp2_with fail;refine hKK.out _ _ (⟨hHeld.1.keep hbA,hHeld.2.1.keep hbA,hHeld.2.2.1.keep hbA,hHeld.2.2.2.1.keep hbA,hHeld.2.2.2.2.1.keep hbA,hHeld.2.2.2.2.2.trans (hbA.mono hHeld.2.2.2.2.2.size)⟩) (fun _=>?_);clear hKK KK hHeld;rename_i hHeld;(try simp only [Act.put,lay]);refine rdy 6 fun KK hKK=>?_;go_simp;refine cx (KM1.out _) fun wb hbB=>?_;go_wp2_with fail;refine hKK.out _ _ (⟨hHeld.1.keep hbB,hHeld.2.1.keep hbB,hHeld.2.2.1.keep hbB,hHeld.2.2.2.1.keep hbB,hHeld.2.2.2.2.1.keep hbB,hHeld.2.2.2.2.2.trans (hbB.mono hHeld.2.2.2.2.2.size)⟩) (fun _=>?_);clear hKK KK hHeld;rename_i hHeld;(try simp only [Act.put,lay])
   refine rdy 10 fun KK hKK=>?_;go_simp;refine cx (KM2.out _) fun wd hbD=>?_;go_wp2_with fail;refine hKK.out _ _ (⟨hHeld.1.keep hbD,hHeld.2.1.keep hbD,hHeld.2.2.1.keep hbD,hHeld.2.2.2.1.keep hbD,hHeld.2.2.2.2.1.keep hbD,hHeld.2.2.2.2.2.trans (hbD.mono hHeld.2.2.2.2.2.size)⟩) (fun _=>?_);clear hKK KK hHeld;rename_i hHeld;(try simp only [Act.put,lay]);refine rdy 11 fun KK hKK=>?_;go_simp;refine cx (KP2.out _ ((((X2.out.keep fun _ h=>h.drew).below hbA).below hbB).below hbD) ((((Y2.out.keep fun _ h=>h.drew).below hbA).below hbB).below hbD)) fun we hbE=>?_;go_wp2_with fail;refine hKK.out _ _ (⟨hHeld.1.keep hbE,hHeld.2.1.keep hbE,hHeld.2.2.1.keep hbE,hHeld.2.2.2.1.keep hbE,hHeld.2.2.2.2.1.keep hbE,hHeld.2.2.2.2.2.trans (hbE.mono hHeld.2.2.2.2.2.size)⟩) (fun _=>?_);clear hKK KK hHeld;rename_i hHeld;(try simp only [Act.put,lay]);refine rdy 12 fun KK hKK=>?_;go_simp;refine cx (KM3.out _) fun wf hbF=>?_;go_wp2_with fail;refine hKK.out _ _ (⟨hHeld.1.keep hbF,hHeld.2.1.keep hbF,hHeld.2.2.1.keep hbF,hHeld.2.2.2.1.keep hbF,hHeld.2.2.2.2.1.keep hbF,hHeld.2.2.2.2.2.trans (hbF.mono hHeld.2.2.2.2.2.size)⟩) (fun _=>?_);clear hKK KK hHeld;rename_i hHeld;(try simp only [Act.put,lay]);refine rdy 13 fun KK hKK=>?_;go_simp;refine cx (KHU.out _) fun wg hbG=>?_;go_wp2_with fail;refine hKK.out _ _ (⟨hHeld.1.keep hbG,hHeld.2.1.keep hbG,hHeld.2.2.1.keep hbG,hHeld.2.2.2.1.keep hbG,hHeld.2.2.2.2.1.keep hbG,hHeld.2.2.2.2.2.trans (hbG.mono hHeld.2.2.2.2.2.size)⟩) (fun _=>?_);clear hKK KK hHeld;rename_i hHeld;(try simp only [Act.put,lay])
   refine rdy 14 fun KK hKK=>?_;have ha0:=hHeld.2.2.2.2.1.someCell 0 (by decide);have hf0:=hHeld.2.2.2.2.1.frozen 0;have ha1:=hHeld.2.2.2.2.1.someCell 1 (by decide);have hf1:=hHeld.2.2.2.2.1.frozen 1;have HK:=Hd (hHeld.2.2.2.2.1.setCell [.float .f64 r1,.float .f64 r2] rfl);have F:=Hd (below_sets (w0:=w) (r:=(w.heap.size+4)) (by omega) [.float .f64 r1,.float .f64 r2] 0 _ hHeld.2.2.2.2.2);go_simp;refine hKK.out _ _ (⟨hHeld.1.other (by omega) 0 [.float .f64 r1,.float .f64 r2],hHeld.2.1.other (by omega) 0 [.float .f64 r1,.float .f64 r2],hHeld.2.2.1.other (by omega) 0 [.float .f64 r1,.float .f64 r2],hHeld.2.2.2.1.other (by omega) 0 [.float .f64 r1,.float .f64 r2],hHeld.2.2.2.2.1.sets [.float .f64 r1,.float .f64 r2] rfl rfl,below_sets (by omega) [.float .f64 r1,.float .f64 r2] 0 _ hHeld.2.2.2.2.2⟩) (fun _=>?_);clear hKK KK hHeld;rename_i hHeld;(try simp only [Act.put,lay]);refine wpAnyH_done (by kernel_rfl) ?_ _;have hk0:=HK.out 0 (by decide);have hk1:=HK.out 1 (by decide)
   simp [sets] at hk0 hk1
   clear hHeld HK hbA hbB hbD hbE hbF hbG;clear LB1 LR1 LG0_1 LG1_1 LG2_1 LG3_1;go_wp2;refine bodyPost_ret (v:=Zf r1 r2) (by simp [results,Tryz.results90,go_sem,hk0,hk1]) rfl ?_
   exact⟨rfl,F.out⟩
  ·have q3_0:_=some (.float .f64 i:Value):=LG3_1.out.cell 0;have q3_1:=LG3_1.out.ce 1 rfl;obtain⟨ha0,hf0,ha1,hf1⟩:=LR1.out.sf2;obtain⟨hk0,hk1⟩:=LR1.out.sc2 (.float .f64 i) (.float .f64 j);have F:=Hd (below_sets (w0:=w) (r:=(w.heap.size+4)) (by omega) [.float .f64 i,.float .f64 j] 0 _ LB1.out)
   simp [sets] at hk0 hk1
   go_wp2;refine bodyPost_ret (v:=Zf i j) (by simp [results,Tryz.results90,go_sem,hk0,hk1]) rfl ?_
   exact⟨rfl,F.out⟩
end
end Go.Proofs.YthlmlmfebpjgdaaGreatDoor
