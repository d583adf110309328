/-
Walks: package rev, MulPair.
Walks: package rev, without; by indexes.
Walks: package rev, FMARevAdd.
Walks: package vergeref10, power (of exponent one).
-/
import Derived.Test.YtmjkmoahkanblaaGreatPAddT
import Derived.Test.YtmjkmoahkanblaaGreatM27
import Derived.Deep.DeepCutAuto
import Derived.Test.YtmjkmoahkanblaaGreatM22
import Derived.Deep.CutRange
import Derived.Deep.CutBlock
import Derived.Test.YtmjkmoahkanblaaGreatM04
import Derived.Test.YtmjkmoahkanblaaGreatM08
import Derived.Test.YtmjkmoahkanblaaGreatM02
set_option linter.unusedSimpArgs false
set_option linter.unusedVariables false
set_option maxHeartbeats 12800000
namespace Go.Proofs.YtmjkmoahkanblaaGreat
open Go.RowKit
attribute [local go_sem] run_store_float
theorem ExI.setB{w:World}{s:Int}{g:Bool}{A:Option Addr}{n c:Nat}{E:Int}{x:Rat}(h:ExI w s g A n c E x){r:Nat}{t:TypeId}{cs:Array Value}(hb:Blk w r t cs)(hc:NoWd cs)(i:Nat)(vs:List Value):ExI (Proofs.YtmjkmoahkanblaaGreat.sets w r i vs) s g A n c E x:=
 h.keep fun _ hu=>hu.sets hb hc i vs
theorem ExI.setsE{w W':World}{s:Int}{g:Bool}{A:Option Addr}{n c:Nat}{E:Int}{x:Rat}(h:ExI w s g A n c E x){r:Nat}{t:TypeId}{cs:Array Value}{i:Nat}{vs:List Value}(hb:Blk w r t cs)(hc:NoWd cs)(e:Proofs.YtmjkmoahkanblaaGreat.sets w r i vs=W'):ExI W' s g A n c E x:=e ▸ h.setB hb hc i vs
theorem KeepN.blk{G n r:Nat}{t:TypeId}{cs:Array Value}{w w':World}(h:KeepN G n w w')(hr:Blk w r t cs)(h0:r<G∨G+n≤r):Blk w' r t cs:=(h.block r hr.lt h0).trans hr
end Go.Proofs.YtmjkmoahkanblaaGreat
namespace Go.Proofs.YtmjkmoahkanblaaGreat
open Go.RowKit
attribute [local go_sem] run_store_float run_negf
set_option maxRecDepth 8000 in
theorem without_at(c u v:Nat)(oi:Bool)(o1 o2:Ordering)(w:World)(hi:∀ W,Calls Tryz.prog 130 #[.float .f64 c,.int .i64 0] W fun e w'=>e=.returned (.bool oi)∧W=w')(h1:FloatKind.f64.format.order u 0=some o1)(h2:FloatKind.f64.format.order v 0=some o2)(hc:oi=true∨(oi=false∧o1=.eq)∨(oi=false∧(o1=.lt∨o1=.gt)∧o2=.eq)):
  Calls Tryz.prog 117 #[.float .f64 c,.float .f64 u,.float .f64 v] w fun e w'=>e=.returned (.agg #[.float .f64 c,.float .f64 c])∧Below w.heap.size w w':=by
 have HA:=Hd fun W=>at_any c W;have HI:=Hd hi;clear hi
 rcases hc with rfl | ⟨rfl,rfl⟩ | ⟨rfl,rfl | rfl,rfl⟩
 all_goals
  have LL:=li1 w #[.float .f64 0,.float .f64 0] 56
  go_enter Tryz.func117,Tryz.ntmps117
  go_wp2_with fail;refine (HI.out _).mono ?_;rintro e w' ⟨rfl,rfl⟩;go_wp2_with fail;refine (HA.out _).mono ?_;rintro e wk ⟨rfl,hb⟩;replace LL:=stL LL hb;clear hb h1 h2;replace LL:=Hd (LL.out.loose 0 rfl rfl)
  simp only [List.eraseIdx,List.size_toArray,List.length_cons,List.length_nil,Nat.zero_add,Nat.reduceAdd] at LL
  obtain⟨ha6_0,hf6_0,ha6_1,hf6_1⟩:=(LL.out.has 0 rfl).sf2;have LF:=Hd (LL.out.write [.float .f64 c,.float .f64 c] rfl (by omega) (by simp<;>omega) (by simp<;>omega));obtain⟨hk6_0,hk6_1⟩:=(LF.out.blk 0 rfl).c2
  simp [sets] at hk6_0 hk6_1
  clear LL;go_wp2;refine bodyPost_ret (v:=.agg #[.float .f64 c,.float .f64 c]) (by simp [results,Tryz.results117,go_sem,hk6_0,hk6_1]) rfl ?_
  exact⟨rfl,LF.out.b⟩
set_option maxRecDepth 8000 in
theorem without_fma(c u v r1 r2:Nat)(o1 o2:Ordering)(w:World)(hi:∀ W,Calls Tryz.prog 130 #[.float .f64 c,.int .i64 0] W fun e w'=>e=.returned (.bool false)∧W=w')(h1:FloatKind.f64.format.order u 0=some o1)(h2:FloatKind.f64.format.order v 0=some o2)(k1:o1=.lt∨o1=.gt)(k2:o2=.lt∨o2=.gt)(hf1:∀ W,Calls Tryz.prog 174 #[.int .i64 (-1),.float .f64 (Op.negFloat .f64 u),.float .f64 v,.float .f64 c] W fun e w'=>e=.returned (.float .f64 r1)∧Below W.heap.size W w')(hf2:∀ W,Calls Tryz.prog 174 #[.int .i64 1,.float .f64 (Op.negFloat .f64 u),.float .f64 v,.float .f64 c] W fun e w'=>e=.returned (.float .f64 r2)∧Below W.heap.size W w'):
  Calls Tryz.prog 117 #[.float .f64 c,.float .f64 u,.float .f64 v] w fun e w'=>e=.returned (.agg #[.float .f64 r1,.float .f64 r2])∧Below w.heap.size w w':=by
 have HI:=Hd hi;have HF1:=Hd hf1;have HF2:=Hd hf2;clear hi hf1 hf2
 rcases k1 with rfl | rfl<;>rcases k2 with rfl | rfl
 all_goals
  have LL:=li1 w #[.float .f64 0,.float .f64 0] 56
  go_enter Tryz.func117,Tryz.ntmps117
  go_wp2_with fail;refine (HI.out _).mono ?_;rintro e w' ⟨rfl,rfl⟩;go_wp2_with fail;refine (HF1.out _).mono ?_;rintro e wk ⟨rfl,hb⟩;replace LL:=stL LL hb;clear hb h1 h2;go_wp2_with fail;refine (HF2.out _).mono ?_;rintro e wk ⟨rfl,hb⟩;replace LL:=stL LL hb;clear hb;replace LL:=Hd (LL.out.loose 0 rfl rfl)
  simp only [List.eraseIdx,List.size_toArray,List.length_cons,List.length_nil,Nat.zero_add,Nat.reduceAdd] at LL
  obtain⟨ha6_0,hf6_0,ha6_1,hf6_1⟩:=(LL.out.has 0 rfl).sf2;have LF:=Hd (LL.out.write [.float .f64 r1,.float .f64 r2] rfl (by omega) (by simp<;>omega) (by simp<;>omega));obtain⟨hk6_0,hk6_1⟩:=(LF.out.blk 0 rfl).c2
  simp [sets] at hk6_0 hk6_1
  clear LL;go_wp2;refine bodyPost_ret (v:=.agg #[.float .f64 r1,.float .f64 r2]) (by simp [results,Tryz.results117,go_sem,hk6_0,hk6_1]) rfl ?_
  exact⟨rfl,LF.out.b⟩
def wt(c u v:Int):Int × Int:=if c=M∨c=-(M:Int)∨u=0∨v=0 then (c,c) else (fm (-1) (-u) v c,fm 1 (-u) v c)
theorem wt_rng{c u v:Int}(h:-(M:Int)≤c∧c≤M):(-(M:Int)≤(wt c u v).1∧(wt c u v).1≤M)∧(-(M:Int)≤(wt c u v).2∧(wt c u v).2≤M):=by
 have hM:(M:Int)=9218868437227405312:=rfl;unfold wt fm;have a:=rndI_down (fl (-u)*fl v+fl c);have b:=rndI_up (fl (-u)*fl v+fl c)
 split
 ·exact⟨h,h⟩
 ·dsimp only
  split
  ·split<;>omega
  ·omega
theorem without_any(c u v:Int)(w:World)(hc:-(M:Int)≤c∧c≤M)(hu:-(M:Int)≤u∧u≤M)(hv:-(M:Int)≤v∧v≤M):
  Calls Tryz.prog 117 #[.float .f64 (pat c),.float .f64 (pat u),.float .f64 (pat v)] w fun e w'=>e=.returned (.agg #[.float .f64 (pat (wt c u v).1),.float .f64 (pat (wt c u v).2)])∧Below w.heap.size w w':=by
 have hM:(M:Int)=9218868437227405312:=rfl;have I:=fun W=>isinff (pat c) W (pat_lt hc.1 hc.2) (by rw [rung_pat hc.1 hc.2];omega);rw [rung_pat hc.1 hc.2] at I;have o1:=ord0 hu;have o2:=ord0 hv;unfold wt
 by_cases h:c=M∨c=-(M:Int)∨u=0∨v=0
 ·rw [if_pos h];refine without_at (pat c) (pat u) (pat v) _ _ _ w I o1 o2 ?_
  by_cases h1:c.natAbs=M
  ·exact .inl (decide_eq_true h1)
  ·by_cases h2:u=0
   ·exact .inr (.inl ⟨decide_eq_false h1,Int.compare_eq_eq.2 h2⟩)
   ·exact .inr (.inr ⟨decide_eq_false h1,cmp_ne h2,Int.compare_eq_eq.2 (by omega)⟩)
 ·rw [if_neg h,decide_eq_false (show ¬ c.natAbs=M by omega)] at *;have n:=neg_pat hu.1 hu.2 (by omega);have F1:=fun W=>rfma_pat (-1) (-u) v c W (.inl rfl) (by omega) hv (by omega) (by omega) (by omega);have F2:=fun W=>rfma_pat 1 (-u) v c W (.inr rfl) (by omega) hv (by omega) (by omega) (by omega);rw [← n] at F1 F2
  exact without_fma (pat c) (pat u) (pat v) _ _ _ _ w I o1 o2 (cmp_ne (by omega)) (cmp_ne (by omega)) F1 F2
end Go.Proofs.YtmjkmoahkanblaaGreat
namespace Go.Proofs.YtmjkmoahkanblaaGreat
open Go.RowKit
attribute [local go_sem] run_store_float
set_option maxRecDepth 8000 in
theorem fmaadd_none(a1 a2 b1 b2 c1 c2 y1 y2 A1 A2 B1 B2 C1 C2 x1 x2:Nat)(d1 d2 d3 d4:Bool)(w:World)(t1:∀ W,Calls Tryz.prog 119 #[.agg #[.float .f64 a1,.float .f64 a2]] W fun e w'=>e=.returned (.agg #[.float .f64 A1,.float .f64 A2])∧Below W.heap.size W w')(m1:Em d1 A1 A2)(t2:∀ W,Calls Tryz.prog 119 #[.agg #[.float .f64 b1,.float .f64 b2]] W fun e w'=>e=.returned (.agg #[.float .f64 B1,.float .f64 B2])∧Below W.heap.size W w')(m2:Em d2 B1 B2)(t3:∀ W,Calls Tryz.prog 119 #[.agg #[.float .f64 c1,.float .f64 c2]] W fun e w'=>e=.returned (.agg #[.float .f64 C1,.float .f64 C2])∧Below W.heap.size W w')(m3:Em d3 C1 C2)(t4:∀ W,Calls Tryz.prog 119 #[.agg #[.float .f64 y1,.float .f64 y2]] W fun e w'=>e=.returned (.agg #[.float .f64 x1,.float .f64 x2])∧Below W.heap.size W w')(m4:Em d4 x1 x2)(hnn:(d1 || d2 || d3 || d4)=true):
  Calls Tryz.prog 46 #[.agg #[.float .f64 a1,.float .f64 a2],.agg #[.float .f64 b1,.float .f64 b2],.agg #[.float .f64 c1,.float .f64 c2],.agg #[.float .f64 y1,.float .f64 y2]] w fun e w'=>e=.returned (.agg #[.float .f64 9218868437227405312,.float .f64 18442240474082181120])∧Below w.heap.size w w':=by
 have HE:=Hd emptyf;have LL:=li5 w #[.float .f64 a1,.float .f64 a2] 29 #[.float .f64 b1,.float .f64 b2] 29 #[.float .f64 c1,.float .f64 c2] 29 #[.float .f64 y1,.float .f64 y2] 29 #[.float .f64 0,.float .f64 0] 29;have hrow:=Blk.at (W:=(((((w.alloc (.cells #[.float .f64 a1,.float .f64 a2] 29)).alloc (.cells #[.float .f64 b1,.float .f64 b2] 29)).alloc (.cells #[.float .f64 c1,.float .f64 c2] 29)).alloc (.cells #[.float .f64 y1,.float .f64 y2] 29)).alloc (.cells #[.float .f64 0,.float .f64 0] 29))) (g:=w.heap.size+1+1+1+1+1) (by simp) 51 #[.pointer (some ⟨w.heap.size,0,none⟩),.pointer (some ⟨w.heap.size+1,0,none⟩),.pointer (some ⟨w.heap.size+1+1,0,none⟩),.pointer (some ⟨w.heap.size+1+1+1,0,none⟩)]
 have HRD:=Hd (read_n w.heap.size 4 (w.heap.size+1+1+1+1+1) 4 (fun k:Nat=>if k=0 then (a1,a2) else if k=1 then (b1,b2) else if k=2 then (c1,c2) else (y1,y2)) (fun k:Nat=>if k=0 then (A1,A2) else if k=1 then (B1,B2) else if k=2 then (C1,C2) else (x1,x2)) (fun k:Nat=>if k=0 then d1 else if k=1 then d2 else if k=2 then d3 else d4) _ (by omega) (by omega)
  (fun k hk=>by match k,hk with | 0,_=>exact hrow.cell 0 | 1,_=>exact hrow.cell 1 | 2,_=>exact hrow.cell 2 | 3,_=>exact hrow.cell 3) (fun k hk=>by match k,hk with | 0,_=>exact (LL.out.blk 0 rfl).alloc (.cells #[.pointer (some ⟨w.heap.size,0,none⟩),.pointer (some ⟨w.heap.size+1,0,none⟩),.pointer (some ⟨w.heap.size+1+1,0,none⟩),.pointer (some ⟨w.heap.size+1+1+1,0,none⟩)] 51) | 1,_=>exact (LL.out.blk 1 rfl).alloc (.cells #[.pointer (some ⟨w.heap.size,0,none⟩),.pointer (some ⟨w.heap.size+1,0,none⟩),.pointer (some ⟨w.heap.size+1+1,0,none⟩),.pointer (some ⟨w.heap.size+1+1+1,0,none⟩)] 51) | 2,_=>exact (LL.out.blk 2 rfl).alloc (.cells #[.pointer (some ⟨w.heap.size,0,none⟩),.pointer (some ⟨w.heap.size+1,0,none⟩),.pointer (some ⟨w.heap.size+1+1,0,none⟩),.pointer (some ⟨w.heap.size+1+1+1,0,none⟩)] 51) | 3,_=>exact (LL.out.blk 3 rfl).alloc (.cells #[.pointer (some ⟨w.heap.size,0,none⟩),.pointer (some ⟨w.heap.size+1,0,none⟩),.pointer (some ⟨w.heap.size+1+1,0,none⟩),.pointer (some ⟨w.heap.size+1+1+1,0,none⟩)] 51)) (fun k hk=>by match k,hk with | 0,_=>exact t1 | 1,_=>exact t2 | 2,_=>exact t3 | 3,_=>exact t4) (fun k hk=>by match k,hk with | 0,_=>exact m1 | 1,_=>exact m2 | 2,_=>exact m3 | 3,_=>exact m4))
 rw [show anyB (fun k:Nat=>if k=0 then d1 else if k=1 then d2 else if k=2 then d3 else d4) 4=(d1 || d2 || d3 || d4) from by simp [anyB],hnn] at HRD;have LLR:=Hd (LL.out.alloc (.cells #[.pointer (some ⟨w.heap.size,0,none⟩),.pointer (some ⟨w.heap.size+1,0,none⟩),.pointer (some ⟨w.heap.size+1+1,0,none⟩),.pointer (some ⟨w.heap.size+1+1+1,0,none⟩)] 51));have HSZ:=Hd (show w.heap.size≤(((((((w.alloc (.cells #[.float .f64 a1,.float .f64 a2] 29)).alloc (.cells #[.float .f64 b1,.float .f64 b2] 29)).alloc (.cells #[.float .f64 c1,.float .f64 c2] 29)).alloc (.cells #[.float .f64 y1,.float .f64 y2] 29)).alloc (.cells #[.float .f64 0,.float .f64 0] 29))).alloc (.cells #[.pointer (some ⟨w.heap.size,0,none⟩),.pointer (some ⟨w.heap.size+1,0,none⟩),.pointer (some ⟨w.heap.size+1+1,0,none⟩),.pointer (some ⟨w.heap.size+1+1+1,0,none⟩)] 51)).heap.size by simp;omega);clear t1 m1 t2 m2 t3 m3 t4 m4 hrow hnn LL
 go_enter Tryz.func46,Tryz.ntmps46
 go_wp2_with fail;refine HRD.out.mono ?_;rintro e wk ⟨rfl,hd,kp⟩;have LL:=Hd (show Lies w wk [(w.heap.size,29,#[.float .f64 A1,.float .f64 A2]),((w.heap.size+1),29,#[.float .f64 B1,.float .f64 B2]),((w.heap.size+2),29,#[.float .f64 C1,.float .f64 C2]),((w.heap.size+3),29,#[.float .f64 x1,.float .f64 x2]),((w.heap.size+4),29,#[.float .f64 0,.float .f64 0])] [] from⟨kp.toBl LLR.out.b HSZ.out (Nat.le_refl _),by simp only [List.mem_cons,List.not_mem_nil,or_false,forall_eq_or_imp,forall_eq];exact⟨show Blk wk w.heap.size 29 #[.float .f64 A1,.float .f64 A2] from hd 0 (by omega),show Blk wk (w.heap.size+1) 29 #[.float .f64 B1,.float .f64 B2] from hd 1 (by omega),show Blk wk (w.heap.size+2) 29 #[.float .f64 C1,.float .f64 C2] from hd 2 (by omega),show Blk wk (w.heap.size+3) 29 #[.float .f64 x1,.float .f64 x2] from hd 3 (by omega),kp.blk (LLR.out.blk 4 rfl) (by omega)⟩,by simp⟩);clear hd kp LLR HSZ HRD;go_wp2_with fail;refine (HE.out _).mono ?_;rintro e wk ⟨rfl,hb⟩;replace LL:=stL LL hb;clear hb;replace LL:=Hd (LL.out.loose 4 rfl rfl)
 simp only [List.eraseIdx,List.size_toArray,List.length_cons,List.length_nil,Nat.zero_add,Nat.reduceAdd] at LL
 obtain⟨ha8_0,hf8_0,ha8_1,hf8_1⟩:=(LL.out.has 0 rfl).sf2;have LF:=Hd (LL.out.write [.float .f64 9218868437227405312,.float .f64 18442240474082181120] rfl (by omega) (by simp<;>omega) (by simp<;>omega));obtain⟨hk8_0,hk8_1⟩:=(LF.out.blk 4 rfl).c2
 simp [sets] at hk8_0 hk8_1
 clear LL;go_wp2;refine bodyPost_ret (v:=.agg #[.float .f64 9218868437227405312,.float .f64 18442240474082181120]) (by simp [results,Tryz.results46,go_sem,hk8_0,hk8_1]) rfl ?_
 exact⟨rfl,LF.out.b⟩
set_option maxRecDepth 8000 in
theorem fmaadd_some(a1 a2 b1 b2 c1 c2 y1 y2 A1 A2 B1 B2 C1 C2 x1 x2 r1 r2:Nat)(us vs Pd Pu Qd Qu:Nat→Nat)(ld lu gd gu:Nat→Nat→Nat)(d1 d2 d3 d4:Bool)(w:World)(t1:∀ W,Calls Tryz.prog 119 #[.agg #[.float .f64 a1,.float .f64 a2]] W fun e w'=>e=.returned (.agg #[.float .f64 A1,.float .f64 A2])∧Below W.heap.size W w')(m1:Em d1 A1 A2)(t2:∀ W,Calls Tryz.prog 119 #[.agg #[.float .f64 b1,.float .f64 b2]] W fun e w'=>e=.returned (.agg #[.float .f64 B1,.float .f64 B2])∧Below W.heap.size W w')(m2:Em d2 B1 B2)(t3:∀ W,Calls Tryz.prog 119 #[.agg #[.float .f64 c1,.float .f64 c2]] W fun e w'=>e=.returned (.agg #[.float .f64 C1,.float .f64 C2])∧Below W.heap.size W w')(m3:Em d3 C1 C2)(t4:∀ W,Calls Tryz.prog 119 #[.agg #[.float .f64 y1,.float .f64 y2]] W fun e w'=>e=.returned (.agg #[.float .f64 x1,.float .f64 x2])∧Below W.heap.size W w')(m4:Em d4 x1 x2)(hnn:(d1 || d2 || d3 || d4)=false)
  (hu:us 0=A1∧us 1=A2)(hv:vs 0=B1∧vs 1=B2)(hp:Pd 0=9218868437227405312∧Pu 0=9218868437227405312)(hq:Qd 0=18442240474082181120∧Qu 0=18442240474082181120)
  (hl:∀ i j:Nat,i<2→j<2→∀ W,Calls Tryz.prog 117 #[.float .f64 C1,.float .f64 (us i),.float .f64 (vs j)] W fun e w'=>e=.returned (.agg #[.float .f64 (ld i j),.float .f64 (lu i j)])∧Below W.heap.size W w')(hh:∀ i j:Nat,i<2→j<2→∀ W,Calls Tryz.prog 117 #[.float .f64 C2,.float .f64 (us i),.float .f64 (vs j)] W fun e w'=>e=.returned (.agg #[.float .f64 (gd i j),.float .f64 (gu i j)])∧Below W.heap.size W w')
  (na:∀ i j:Nat,i<2→j<2→∀ W ts t,(Builtin.min_ ts t #[.float .f64 (Pd (2*i+j)),.float .f64 (ld i j)]).run Tryz.prog W=.ok (.float .f64 (Pd (2*i+j+1))) W)(nb:∀ i j:Nat,i<2→j<2→∀ W ts t,(Builtin.min_ ts t #[.float .f64 (Pu (2*i+j)),.float .f64 (lu i j)]).run Tryz.prog W=.ok (.float .f64 (Pu (2*i+j+1))) W)(xa:∀ i j:Nat,i<2→j<2→∀ W ts t,(Builtin.max_ ts t #[.float .f64 (Qd (2*i+j)),.float .f64 (gd i j)]).run Tryz.prog W=.ok (.float .f64 (Qd (2*i+j+1))) W)(xb:∀ i j:Nat,i<2→j<2→∀ W ts t,(Builtin.max_ ts t #[.float .f64 (Qu (2*i+j)),.float .f64 (gu i j)]).run Tryz.prog W=.ok (.float .f64 (Qu (2*i+j+1))) W)
  (hcut:∀ W,Calls Tryz.prog 52 #[.agg #[.float .f64 x1,.float .f64 x2],.agg #[.float .f64 (Pd (4)),.float .f64 (Pu (4))],.agg #[.float .f64 (Qd (4)),.float .f64 (Qu (4))],.bool false] W fun e w'=>e=.returned (.agg #[.float .f64 r1,.float .f64 r2])∧Below W.heap.size W w'):
  Calls Tryz.prog 46 #[.agg #[.float .f64 a1,.float .f64 a2],.agg #[.float .f64 b1,.float .f64 b2],.agg #[.float .f64 c1,.float .f64 c2],.agg #[.float .f64 y1,.float .f64 y2]] w fun e w'=>e=.returned (.agg #[.float .f64 r1,.float .f64 r2])∧Below w.heap.size w w':=by
 have HI:=Hd fun W=>inf_pos W;have HJ:=Hd fun W=>inf_neg W;have HT:=Hd fun W=>at_any 9218868437227405312 W;have HS:=Hd fun W=>at_any 18442240474082181120 W
 have IXA:=Hd (show ∀ i:Nat,i<2→∀ W,(Instr.index 109 (.agg #[.float .f64 A1,.float .f64 A2]) (.int .i64 (i:Int))).run Tryz.prog W=.ok (.float .f64 (us i)) W from fun i hi=>by
  match i,hi with
  | 0,_=>rw [hu.1];exact fun _=>by kernel_rfl
  | 1,_=>rw [hu.2];exact fun _=>by kernel_rfl)
 have IXB:=Hd (show ∀ i:Nat,i<2→∀ W,(Instr.index 109 (.agg #[.float .f64 B1,.float .f64 B2]) (.int .i64 (i:Int))).run Tryz.prog W=.ok (.float .f64 (vs i)) W from fun i hi=>by
  match i,hi with
  | 0,_=>rw [hv.1];exact fun _=>by kernel_rfl
  | 1,_=>rw [hv.2];exact fun _=>by kernel_rfl)
 have HL:=Hd hl;have HH:=Hd hh;have NA:=Hd na;have NB:=Hd nb;have XA:=Hd xa;have XB:=Hd xb;have HCUT:=Hd hcut;have HP:=Hd hp;have HQ:=Hd hq;clear hl hh na nb xa xb hcut hp hq;clear hu hv;have LL:=li5 w #[.float .f64 a1,.float .f64 a2] 29 #[.float .f64 b1,.float .f64 b2] 29 #[.float .f64 c1,.float .f64 c2] 29 #[.float .f64 y1,.float .f64 y2] 29 #[.float .f64 0,.float .f64 0] 29;have hrow:=Blk.at (W:=(((((w.alloc (.cells #[.float .f64 a1,.float .f64 a2] 29)).alloc (.cells #[.float .f64 b1,.float .f64 b2] 29)).alloc (.cells #[.float .f64 c1,.float .f64 c2] 29)).alloc (.cells #[.float .f64 y1,.float .f64 y2] 29)).alloc (.cells #[.float .f64 0,.float .f64 0] 29))) (g:=w.heap.size+1+1+1+1+1) (by simp) 51 #[.pointer (some ⟨w.heap.size,0,none⟩),.pointer (some ⟨w.heap.size+1,0,none⟩),.pointer (some ⟨w.heap.size+1+1,0,none⟩),.pointer (some ⟨w.heap.size+1+1+1,0,none⟩)]
 have HRD:=Hd (read_n w.heap.size 4 (w.heap.size+1+1+1+1+1) 4 (fun k:Nat=>if k=0 then (a1,a2) else if k=1 then (b1,b2) else if k=2 then (c1,c2) else (y1,y2)) (fun k:Nat=>if k=0 then (A1,A2) else if k=1 then (B1,B2) else if k=2 then (C1,C2) else (x1,x2)) (fun k:Nat=>if k=0 then d1 else if k=1 then d2 else if k=2 then d3 else d4) _ (by omega) (by omega)
  (fun k hk=>by match k,hk with | 0,_=>exact hrow.cell 0 | 1,_=>exact hrow.cell 1 | 2,_=>exact hrow.cell 2 | 3,_=>exact hrow.cell 3) (fun k hk=>by match k,hk with | 0,_=>exact (LL.out.blk 0 rfl).alloc (.cells #[.pointer (some ⟨w.heap.size,0,none⟩),.pointer (some ⟨w.heap.size+1,0,none⟩),.pointer (some ⟨w.heap.size+1+1,0,none⟩),.pointer (some ⟨w.heap.size+1+1+1,0,none⟩)] 51) | 1,_=>exact (LL.out.blk 1 rfl).alloc (.cells #[.pointer (some ⟨w.heap.size,0,none⟩),.pointer (some ⟨w.heap.size+1,0,none⟩),.pointer (some ⟨w.heap.size+1+1,0,none⟩),.pointer (some ⟨w.heap.size+1+1+1,0,none⟩)] 51) | 2,_=>exact (LL.out.blk 2 rfl).alloc (.cells #[.pointer (some ⟨w.heap.size,0,none⟩),.pointer (some ⟨w.heap.size+1,0,none⟩),.pointer (some ⟨w.heap.size+1+1,0,none⟩),.pointer (some ⟨w.heap.size+1+1+1,0,none⟩)] 51) | 3,_=>exact (LL.out.blk 3 rfl).alloc (.cells #[.pointer (some ⟨w.heap.size,0,none⟩),.pointer (some ⟨w.heap.size+1,0,none⟩),.pointer (some ⟨w.heap.size+1+1,0,none⟩),.pointer (some ⟨w.heap.size+1+1+1,0,none⟩)] 51)) (fun k hk=>by match k,hk with | 0,_=>exact t1 | 1,_=>exact t2 | 2,_=>exact t3 | 3,_=>exact t4) (fun k hk=>by match k,hk with | 0,_=>exact m1 | 1,_=>exact m2 | 2,_=>exact m3 | 3,_=>exact m4))
 rw [show anyB (fun k:Nat=>if k=0 then d1 else if k=1 then d2 else if k=2 then d3 else d4) 4=(d1 || d2 || d3 || d4) from by simp [anyB],hnn] at HRD;have LLR:=Hd (LL.out.alloc (.cells #[.pointer (some ⟨w.heap.size,0,none⟩),.pointer (some ⟨w.heap.size+1,0,none⟩),.pointer (some ⟨w.heap.size+1+1,0,none⟩),.pointer (some ⟨w.heap.size+1+1+1,0,none⟩)] 51));have HSZ:=Hd (show w.heap.size≤(((((((w.alloc (.cells #[.float .f64 a1,.float .f64 a2] 29)).alloc (.cells #[.float .f64 b1,.float .f64 b2] 29)).alloc (.cells #[.float .f64 c1,.float .f64 c2] 29)).alloc (.cells #[.float .f64 y1,.float .f64 y2] 29)).alloc (.cells #[.float .f64 0,.float .f64 0] 29))).alloc (.cells #[.pointer (some ⟨w.heap.size,0,none⟩),.pointer (some ⟨w.heap.size+1,0,none⟩),.pointer (some ⟨w.heap.size+1+1,0,none⟩),.pointer (some ⟨w.heap.size+1+1+1,0,none⟩)] 51)).heap.size by simp;omega);clear t1 m1 t2 m2 t3 m3 t4 m4 hrow hnn LL
 go_enter Tryz.func46,Tryz.ntmps46
 go_wp2_with fail;refine HRD.out.mono ?_;rintro e wk ⟨rfl,hd,kp⟩;have LL:=Hd (show Lies w wk [(w.heap.size,29,#[.float .f64 A1,.float .f64 A2]),((w.heap.size+1),29,#[.float .f64 B1,.float .f64 B2]),((w.heap.size+2),29,#[.float .f64 C1,.float .f64 C2]),((w.heap.size+3),29,#[.float .f64 x1,.float .f64 x2]),((w.heap.size+4),29,#[.float .f64 0,.float .f64 0])] [] from⟨kp.toBl LLR.out.b HSZ.out (Nat.le_refl _),by simp only [List.mem_cons,List.not_mem_nil,or_false,forall_eq_or_imp,forall_eq];exact⟨show Blk wk w.heap.size 29 #[.float .f64 A1,.float .f64 A2] from hd 0 (by omega),show Blk wk (w.heap.size+1) 29 #[.float .f64 B1,.float .f64 B2] from hd 1 (by omega),show Blk wk (w.heap.size+2) 29 #[.float .f64 C1,.float .f64 C2] from hd 2 (by omega),show Blk wk (w.heap.size+3) 29 #[.float .f64 x1,.float .f64 x2] from hd 3 (by omega),kp.blk (LLR.out.blk 4 rfl) (by omega)⟩,by simp⟩);clear hd kp LLR HSZ HRD;go_wp2_with fail;refine (HI.out _).mono ?_;rintro e wk ⟨rfl,rfl⟩;go_wp2_with fail;refine (HT.out _).mono ?_;rintro e wk ⟨rfl,hb⟩;replace LL:=stL LL hb;clear hb;go_wp2_with fail;refine (HJ.out _).mono ?_;rintro e wk ⟨rfl,rfl⟩;go_wp2_with fail;refine (HS.out _).mono ?_;rintro e wk ⟨rfl,hb⟩;replace LL:=stL LL hb;clear hb
 go_upto_region 4 with fail
 clear HI HJ HT HS;have hl_j9:=LL.out.lts;generalize hwm:World.alloc wk _=wm;replace LL:=Hd (LL.out.newE hwm)
 have hz:wm.heap.size=wk.heap.size+1:=by rw [← hwm];simp
 clear hwm;generalize hwn:World.alloc wm _=wn;replace LL:=Hd (LL.out.newE hwn);rw [hz] at LL
 simp only [List.cons_append,List.nil_append] at LL
 simp only [List.mem_cons,List.not_mem_nil,or_false,forall_eq_or_imp,forall_eq,false_imp_iff,implies_true,and_true] at hl_j9
 clear hwn hz;generalize wk.heap.size=j9 at LL hl_j9 ⊢;have LL0:=Hd (show Lies w wn [(w.heap.size,29,#[.float .f64 A1,.float .f64 A2]),((w.heap.size+1),29,#[.float .f64 B1,.float .f64 B2]),((w.heap.size+2),29,#[.float .f64 C1,.float .f64 C2]),((w.heap.size+3),29,#[.float .f64 x1,.float .f64 x2]),((w.heap.size+4),29,#[.float .f64 0,.float .f64 0]),(j9,56,#[.float .f64 (Pd (2*0)),.float .f64 (Pu (2*0))]),((j9+1),56,#[.float .f64 (Qd (2*0)),.float .f64 (Qu (2*0))])] [] from by rw [HP.out.1,HP.out.2,HQ.out.1,HQ.out.2];exact LL.out);clear LL HP HQ;have LL:=LL0;clear LL0;obtain⟨q1_0,q1_1⟩:=(LL.out.blk 0 rfl).c2;go_wp2;clear q1_0 q1_1
 go_loopw [12,29] (fun _ iv wr=>∃ i:Nat,iv=.int .i64 (i:Int)∧i≤2∧Lies w wr [(w.heap.size,29,#[.float .f64 A1,.float .f64 A2]),((w.heap.size+1),29,#[.float .f64 B1,.float .f64 B2]),((w.heap.size+2),29,#[.float .f64 C1,.float .f64 C2]),((w.heap.size+3),29,#[.float .f64 x1,.float .f64 x2]),((w.heap.size+4),29,#[.float .f64 0,.float .f64 0]),(j9,56,#[.float .f64 (Pd (2*i)),.float .f64 (Pu (2*i))]),((j9+1),56,#[.float .f64 (Qd (2*i)),.float .f64 (Qu (2*i))])] []) (fun _ iv _=>2 - (intOf iv).toNat)
 case atStart=>exact⟨0,rfl,by omega,LL.out⟩
 case round=>
  clear LL;obtain⟨i,rfl,hi,hl⟩:=hrel;have LL:=Hd hl;clear hl
  by_cases hlt:i<2
  ·skip
   obtain⟨wo,rfl⟩:∃ wo:World,wo=wr:=⟨_,rfl⟩
   have ixi:=IXA.out i hlt;obtain⟨q2_0,q2_1⟩:=(LL.out.blk 1 rfl).c2;go_wp2;clear ixi q2_0 q2_1
   go_loopw [14,37] (fun _ iv wr=>∃ j:Nat,iv=.int .i64 (j:Int)∧j≤2∧Lies w wr [(w.heap.size,29,#[.float .f64 A1,.float .f64 A2]),((w.heap.size+1),29,#[.float .f64 B1,.float .f64 B2]),((w.heap.size+2),29,#[.float .f64 C1,.float .f64 C2]),((w.heap.size+3),29,#[.float .f64 x1,.float .f64 x2]),((w.heap.size+4),29,#[.float .f64 0,.float .f64 0]),(j9,56,#[.float .f64 (Pd (2*i+j)),.float .f64 (Pu (2*i+j))]),((j9+1),56,#[.float .f64 (Qd (2*i+j)),.float .f64 (Qu (2*i+j))])] []) (fun _ iv _=>2 - (intOf iv).toNat)
   case atStart=>exact⟨0,rfl,by omega,LL.out⟩
   case round=>
    clear LL;obtain⟨j,rfl,hj,hl⟩:=hrel;have LL:=Hd hl;clear hl
    by_cases hlt2:j<2
    ·skip;have ixj:=IXB.out j hlt2;have HLk:=Hd (HL.out i j hlt hlt2);have HHk:=Hd (HH.out i j hlt hlt2)
     go_upto_region 10 with fail
     clear ixj
     go_cut [15,16,30,38] from 40 to 49 (fun s15 s16 s30 s38 wx=>∃ j15 j16:Nat,s30=.bool (decide ((i:Int)<2))∧s15=.pointer (some ⟨j15,0,none⟩)∧s16=.pointer (some ⟨j16,0,none⟩)∧(w.heap.size+4<j15∧w.heap.size+4<j16∧j9+1<j15∧j9+1<j16∧j15≠j16)∧Lies w wx [(w.heap.size,29,#[.float .f64 A1,.float .f64 A2]),((w.heap.size+1),29,#[.float .f64 B1,.float .f64 B2]),((w.heap.size+2),29,#[.float .f64 C1,.float .f64 C2]),((w.heap.size+3),29,#[.float .f64 x1,.float .f64 x2]),((w.heap.size+4),29,#[.float .f64 0,.float .f64 0]),(j9,56,#[.float .f64 (Pd (2*i+j)),.float .f64 (Pu (2*i+j))]),((j9+1),56,#[.float .f64 (Qd (2*i+j)),.float .f64 (Qu (2*i+j))]),(j15,56,#[.float .f64 (ld i j),.float .f64 (lu i j)]),(j16,56,#[.float .f64 (gd i j),.float .f64 (gu i j)])] [])
     case first=>
      clear HL HH NA NB XA XB HCUT IXA IXB hlt2 hi hj;refine regL LL (fun hHeld=>?_);clear LL;generalize World.drew _=wk at hHeld  ⊢;refine tk 0 ?_;(try simp only [Act.put,lay]);refine tk 1 ?_ (hv:=by intro W2 hSw;obtain⟨q0,q1⟩:=(hSw.blk 2 rfl).c2;go_simp;(try with_reducible rfl));(try simp only [Act.put,lay]);refine tk 2 ?_;(try simp only [Act.put,lay]);refine tk 3 ?_;(try simp only [Act.put,lay]);refine tk 5 ?_;(try simp only [Act.put,lay]);refine tk 6 ?_ (hv:=by intro W2 hSw;obtain⟨q0,q1⟩:=(hSw.blk 2 rfl).c2;go_simp;(try with_reducible rfl));(try simp only [Act.put,lay]);refine tk 7 ?_;(try simp only [Act.put,lay]);refine tk 8 ?_;(try simp only [Act.put,lay])
      repeat' first
       | (have hx:=hC4;clear hx;go_simp;refine (HLk.out _).mono ?_;rintro e wk ⟨rfl,hb1⟩;go_wp2_with fail;refine hC4.out _ _ (hHeld.keep hb1) (fun _=>?_);clear hC4 KK hHeld;rename_i hHeld;(try simp only [Act.put,lay]);(try replace B_j15:=B_j15.keep hb1);(try replace B_j16:=B_j16.keep hb1);clear hb1;have mk4:=True.intro)
       | (have hx:=hC9;clear hx;go_simp;refine (HHk.out _).mono ?_;rintro e wk ⟨rfl,hb2⟩;go_wp2_with fail;refine hC9.out _ _ (hHeld.keep hb2) (fun _=>?_);clear hC9 KK hHeld;rename_i hHeld;(try simp only [Act.put,lay]);(try replace B_j15:=B_j15.keep hb2);(try replace B_j16:=B_j16.keep hb2);clear hb2;have mk9:=True.intro)
       | (have hx:=hA10;clear hx;go_simp;have hl_j15:=hHeld.lts;refine hA10.out _ _ (hHeld.alloc _) (fun _=>?_);clear hA10 KK hHeld;rename_i hHeld;(try simp only [Act.put,lay]);generalize hwn:World.alloc wk _=wn at hHeld ⊢;have B_j15:=Blk.newE hwn;(try (have hx_j15:=B_j16.lt;replace B_j16:=B_j16.keep (below_allocE hwn)));simp only [List.mem_cons,List.not_mem_nil,or_false,forall_eq_or_imp,forall_eq,false_imp_iff,implies_true,and_true] at hl_j15;clear hwn;generalize hg:wk.heap.size=j15 at B_j15 hl_j15 ⊢;(try rw [hg] at hx_j15);clear hg;obtain⟨wk,rfl⟩:∃ X,X=wn:=⟨_,rfl⟩;have mk10:=True.intro)
       | (have hx:=hA11;clear hx;go_simp;have hl_j16:=hHeld.lts;refine hA11.out _ _ (hHeld.alloc _) (fun _=>?_);clear hA11 KK hHeld;rename_i hHeld;(try simp only [Act.put,lay]);generalize hwn:World.alloc wk _=wn at hHeld ⊢;have B_j16:=Blk.newE hwn;(try (have hx_j16:=B_j15.lt;replace B_j15:=B_j15.keep (below_allocE hwn)));simp only [List.mem_cons,List.not_mem_nil,or_false,forall_eq_or_imp,forall_eq,false_imp_iff,implies_true,and_true] at hl_j16;clear hwn;generalize hg:wk.heap.size=j16 at B_j16 hl_j16 ⊢;(try rw [hg] at hx_j16);clear hg;obtain⟨wk,rfl⟩:∃ X,X=wn:=⟨_,rfl⟩;have mk11:=True.intro)
       | (have hx:=hS12;clear hx;have qz0:=B_j15.ce 0 rfl;have fz0:=B_j15.frozen 0;have qz1:=B_j15.ce 1 rfl;have fz1:=B_j15.frozen 1;go_simp;have hsx:=hHeld.far [.float .f64 (ld i j),.float .f64 (lu i j)] 0 (g:=j15) (by omega) (by simp<;>omega) (by simp<;>omega);generalize hwn:sets wk j15 0 _=wn at hsx;refine hS12.out _ _ (by have e:=hwn;simp only [sets,Nat.reduceAdd] at e;rw [e];exact hsx) (fun _=>?_);clear hS12 KK hHeld hsx;rename_i hHeld;(try simp only [Act.put,lay]);(try replace B_j16:=B_j16.otherE hwn (by omega));replace B_j15:=B_j15.setsE hwn;simp only [laid,lay,Nat.reduceAdd] at B_j15;simp only [sets,Nat.reduceAdd] at hwn;rw [hwn] at hHeld ⊢;clear hwn qz0 fz0 qz1 fz1;obtain⟨wk,rfl⟩:∃ X,X=wn:=⟨_,rfl⟩;have mk12:=True.intro)
       | (have hx:=hS13;clear hx;have qz0:=B_j16.ce 0 rfl;have fz0:=B_j16.frozen 0;have qz1:=B_j16.ce 1 rfl;have fz1:=B_j16.frozen 1;go_simp;have hsx:=hHeld.far [.float .f64 (gd i j),.float .f64 (gu i j)] 0 (g:=j16) (by omega) (by simp<;>omega) (by simp<;>omega);generalize hwn:sets wk j16 0 _=wn at hsx;refine hS13.out _ _ (by have e:=hwn;simp only [sets,Nat.reduceAdd] at e;rw [e];exact hsx) (fun _=>?_);clear hS13 KK hHeld hsx;rename_i hHeld;(try simp only [Act.put,lay]);(try replace B_j15:=B_j15.otherE hwn (by omega));replace B_j16:=B_j16.setsE hwn;simp only [laid,lay,Nat.reduceAdd] at B_j16;simp only [sets,Nat.reduceAdd] at hwn;rw [hwn] at hHeld ⊢;clear hwn qz0 fz0 qz1 fz1;obtain⟨wk,rfl⟩:∃ X,X=wn:=⟨_,rfl⟩;have mk13:=True.intro)
       | (have hx:=mk4;have hx:=mk9;have hx:=mk10;have hx:=mk11;have hx:=mk12;have hx:=mk13;refine wpAnyH_done (by kernel_rfl) ?_ _;clear hx mk4 mk9 mk10 mk11 mk12 mk13;go_wp2_with fail;go_meet;exact⟨j15,j16,by (first | rfl | (simp<;>omega)),rfl,rfl,⟨by omega,by omega,by omega,by omega,by omega⟩,(hHeld.put B_j15).put B_j16⟩)
       | (have hx:=mk4;have hx:=mk9;have hx:=mk10;have hx:=mk11;have hx:=mk12;refine rdy 13 (fun KK hS13=>?_))
       | (have hx:=mk4;have hx:=mk9;have hx:=mk10;have hx:=mk11;refine rdy 12 (fun KK hS12=>?_))
       | (have hx:=mk4;have hx:=mk10;have hx:=mk11;refine rdy 9 (fun KK hC9=>?_))
       | (have hx:=mk4;have hx:=mk9;have hx:=mk11;refine rdy 10 (fun KK hA10=>?_))
       | (have hx:=mk4;have hx:=mk9;have hx:=mk10;refine rdy 11 (fun KK hA11=>?_))
       | (have hx:=mk10;have hx:=mk11;refine rdy 4 (fun KK hC4=>?_))
       | (have hx:=mk4;have hx:=mk11;refine rd2 9 10 (fun KK hC9=>?_) (fun KK hA10=>?_))
       | (have hx:=mk4;have hx:=mk10;refine rd2 9 11 (fun KK hC9=>?_) (fun KK hA11=>?_))
       | (have hx:=mk4;have hx:=mk9;refine rd2 10 11 (fun KK hA10=>?_) (fun KK hA11=>?_))
       | (have hx:=mk11;refine rd2 4 10 (fun KK hC4=>?_) (fun KK hA10=>?_))
       | (have hx:=mk10;refine rd2 4 11 (fun KK hC4=>?_) (fun KK hA11=>?_))
       | (have hx:=mk4;refine rd3 9 10 11 (fun KK hC9=>?_) (fun KK hA10=>?_) (fun KK hA11=>?_))
       | (refine rd3 4 10 11 (fun KK hC4=>?_) (fun KK hA10=>?_) (fun KK hA11=>?_))
     case rest=>
     obtain⟨j15,j16,rfl,rfl,rfl,hgs,hcl⟩:=hcut;rename World=>wx;clear LL;have LL:=Hd hcl;clear hcl;obtain⟨q3_0,q3_1⟩:=(LL.out.blk 5 rfl).c2;obtain⟨q4_0,q4_1⟩:=(LL.out.blk 7 rfl).c2;have fz0:=(LL.out.blk 5 rfl).frozen 0;have fz1:=(LL.out.blk 5 rfl).frozen 1;have ma:=NA.out i j hlt hlt2;have mb:=NB.out i j hlt hlt2
     go_upto_region 12 with fail
     clear ma mb q3_0 q3_1 q4_0 q4_1 fz0 fz1;replace LL:=Hd (LL.out.part 5 rfl 0 [.float .f64 (Pd (2*i+j+1)),.float .f64 (Pu (2*i+j+1))] (by omega) (by simp<;>omega) (by simp<;>omega))
     simp only [List.eraseIdx,laid,List.cons_append,List.nil_append,List.setIfInBounds_toArray,List.set_cons_zero,List.set_cons_succ,Nat.zero_add,Nat.reduceAdd] at LL
     obtain⟨wn,hwn⟩:∃ X,(sets wx j9 0 [.float .f64 (Pd (2*i+j+1)),.float .f64 (Pu (2*i+j+1))])=X:=⟨_,rfl⟩
     rw [hwn] at LL
     simp only [sets,Nat.reduceAdd] at hwn
     rw [hwn];clear hwn;obtain⟨q5_0,q5_1⟩:=(LL.out.blk 5 rfl).c2;obtain⟨q6_0,q6_1⟩:=(LL.out.blk 7 rfl).c2;have fz0:=(LL.out.blk 5 rfl).frozen 0;have fz1:=(LL.out.blk 5 rfl).frozen 1;have ma:=XA.out i j hlt hlt2;have mb:=XB.out i j hlt hlt2
     go_upto_region 13 with fail
     clear ma mb q5_0 q5_1 q6_0 q6_1 fz0 fz1;replace LL:=Hd (LL.out.part 5 rfl 0 [.float .f64 (Qd (2*i+j+1)),.float .f64 (Qu (2*i+j+1))] (by omega) (by simp<;>omega) (by simp<;>omega))
     simp only [List.eraseIdx,laid,List.cons_append,List.nil_append,List.setIfInBounds_toArray,List.set_cons_zero,List.set_cons_succ,Nat.zero_add,Nat.reduceAdd] at LL
     obtain⟨wn,hwn⟩:∃ X,(sets wn (j9+1) 0 [.float .f64 (Qd (2*i+j+1)),.float .f64 (Qu (2*i+j+1))])=X:=⟨_,rfl⟩
     rw [hwn] at LL
     simp only [sets,Nat.reduceAdd] at hwn
     rw [hwn];clear hwn;go_wp2
     go_roundw
     case rel=>exact⟨j+1,by go_num,by omega,LL.out.perm (by simp [Nat.add_assoc]) (by simp)⟩
     case measure=>simp [intOf];omega
    ·skip
     obtain rfl:j=2:=by omega
     go_wp2
     go_roundw
     case rel=>exact⟨i+1,by go_num,by omega,by rw [show 2*(i+1)=2*i+2 from by omega];exact LL.out⟩
     case measure=>simp [intOf];omega
  ·skip
   obtain rfl:i=2:=by omega
   obtain⟨q3_0,q3_1⟩:=(LL.out.blk 3 rfl).c2;obtain⟨q4_0,q4_1⟩:=(LL.out.blk 5 rfl).c2;obtain⟨q5_0,q5_1⟩:=(LL.out.blk 6 rfl).c2;go_wp2_with fail;refine (HCUT.out _).mono ?_;rintro e wk ⟨rfl,hb⟩;replace LL:=stL LL hb;clear hb q3_0 q3_1 q4_0 q4_1 q5_0 q5_1;replace LL:=Hd (LL.out.loose 4 rfl rfl)
   simp only [List.eraseIdx,List.size_toArray,List.length_cons,List.length_nil,Nat.zero_add,Nat.reduceAdd] at LL
   obtain⟨ha8_0,hf8_0,ha8_1,hf8_1⟩:=(LL.out.has 0 rfl).sf2;have LF:=Hd (LL.out.write [.float .f64 r1,.float .f64 r2] rfl (by omega) (by simp<;>omega) (by simp<;>omega));obtain⟨hk8_0,hk8_1⟩:=(LF.out.blk 6 rfl).c2
   simp [sets] at hk8_0 hk8_1
   clear LL;go_wp2;refine bodyPost_ret (v:=.agg #[.float .f64 r1,.float .f64 r2]) (by simp [results,Tryz.results46,go_sem,hk8_0,hk8_1]) rfl ?_
   exact⟨rfl,LF.out.b⟩
end Go.Proofs.YtmjkmoahkanblaaGreat
namespace Go.Proofs.YtmjkmoahkanblaaGreat
open Go.RowKit
theorem rc_false{p q p' q':Nat}(hq:0<q)(hq':0<q'):rc (rv false p q) (rv false p' q')=cmp3 (p*q') (p'*q):=by
 have h1:=rv_lt_false (p:=p) (p':=p') hq hq';have h2:=rv_lt_false (p:=p') (p':=p) hq' hq;unfold rc cmp3
 by_cases a:p*q'<p'*q
 ·rw [if_pos (h1.2 a),if_pos a]
 ·rw [if_neg (fun h=>a (h1.1 h)),if_neg a]
  by_cases b:p'*q<p*q'
  ·rw [if_pos (h2.2 b),if_pos b]
  ·rw [if_neg (fun h=>b (h2.1 h)),if_neg b]
theorem pw_above{a b:Nat}{E:Int}(ha:0<a)(h:(blen b:Int)+1<(blen a:Int)+E):cmp3 (a*2^E.toNat) (b*2^(-E).toNat)=1:=by
 refine cmp3_gt ?_;obtain⟨L,e1,a1,a2⟩:=blen_bounds ha;have b2:=lt_pow_blen b
 rcases Int.lt_or_le E 0 with h0 | h0
 ·rw [show E.toNat=0 from by omega,Nat.pow_zero,Nat.mul_one]
  calc b*2^(-E).toNat<2^(blen b)*2^(-E).toNat:=Nat.mul_lt_mul_of_pos_right b2 (Nat.two_pow_pos _)
   _=2^(blen b+(-E).toNat):=by rw [← Nat.pow_add]
   _≤2^L:=Nat.pow_le_pow_right (by omega) (by omega)
   _≤a:=a1
 ·rw [show (-E).toNat=0 from by omega,Nat.pow_zero,Nat.mul_one]
  calc b<2^(blen b):=b2
   _≤2^(L+E.toNat):=Nat.pow_le_pow_right (by omega) (by omega)
   _=2^L*2^E.toNat:=by rw [Nat.pow_add]
   _≤a*2^E.toNat:=Nat.mul_le_mul_right _ a1
theorem pw_below{a b:Nat}{E:Int}(h:(blen a:Int)+E<(blen b:Int) - 1)(hb:0<b):cmp3 (a*2^E.toNat) (b*2^(-E).toNat)=-1:=by
 refine cmp3_lt ?_;obtain⟨L,e1,b1,b2⟩:=blen_bounds hb;have a2:=lt_pow_blen a
 rcases Int.lt_or_le E 0 with h0 | h0
 ·rw [show E.toNat=0 from by omega,Nat.pow_zero,Nat.mul_one]
  calc a<2^(blen a):=a2
   _≤2^(L+(-E).toNat):=Nat.pow_le_pow_right (by omega) (by omega)
   _=2^L*2^(-E).toNat:=by rw [Nat.pow_add]
   _≤b*2^(-E).toNat:=Nat.mul_le_mul_right _ b1
 ·rw [show (-E).toNat=0 from by omega,Nat.pow_zero,Nat.mul_one]
  calc a*2^E.toNat<2^(blen a)*2^E.toNat:=Nat.mul_lt_mul_of_pos_right a2 (Nat.two_pow_pos _)
   _=2^(blen a+E.toNat):=by rw [← Nat.pow_add]
   _≤2^L:=Nat.pow_le_pow_right (by omega) (by omega)
   _≤b:=b1
theorem pw_rc{F p q:Nat}{E:Int}{x:Rat}(hq:0<q)(hx:x=rv false F 1*2^E):rc x (rv false p q)=cmp3 (F*q*2^E.toNat) (p*2^(-E).toNat):=by
 have:=rv_scale false (p:=F) (q:=1) (by omega) E;rw [Nat.one_mul] at this;rw [hx,← this,rc_false (Nat.two_pow_pos _) hq]
 congr 1
 rw [Nat.mul_assoc,Nat.mul_comm (2^E.toNat) q,← Nat.mul_assoc]
set_option maxRecDepth 4000 in
theorem power_fin(K b:Nat)(A B:Option Addr)(n c m d p q:Nat)(w:World)(hb:b<9218868437227405312)(hb0:0<b)(hu:U32s w A n c (digs p))(hv:U32s w B m d (digs q))(hp:0<p)(hq:0<q)(hpK:p<2^(32*K))(hqK:q<2^(32*K))(hK:K≤1048576):
  Calls Tryz.prog 214 #[.int .u64 (b:Int),.int .i64 1,.agg #[.bool false,.slice A n c,.slice B m d]] w fun e w'=>e=.returned (.int .i64 (rc (fl (b:Int)) (rv false p q)))∧Below w.heap.size w w':=by
 have hc:=pat_cases (b:=b) (by omega)
 have hfin:fin b:=by show rungOf b<M;rw [M_val];omega
 have hidx:idx b=(b:Int):=by omega
 have hsg:sgn b=false:=by
  rcases hc with h | h
  ·exact h.2.2.1
  ·omega
 obtain⟨e0,he⟩:∃ e,b / 4503599627370496 % 2048=e:=⟨_,rfl⟩
 obtain⟨f0,hff⟩:∃ f,b % 4503599627370496=f:=⟨_,rfl⟩
 obtain⟨he1,hf1,v1,v2⟩:=fl_parts hfin he hff hsg;rw [hidx] at v1 v2
 have he':b / 4503599627370496=e0:=by omega
 have m1:(b:Int) / 4503599627370496=(e0:Int):=by omega
 have m2:=mask52_u64 (x:=b) (by omega);rw [hff] at m2
 obtain⟨F,E,hF0,hF,hE1,hE2,hfl,hFe⟩:∃ (F:Nat) (E:Int),0<F∧F<9007199254740992∧-1074≤E∧E≤971∧fl (b:Int)=rv false F 1*2^E∧((0<e0∧F=f0+4503599627370496∧(e0:Int) - 1 - 1074=E)∨(e0=0∧F=f0∧(e0:Int) - 1074=E)):=by
  rcases Nat.eq_zero_or_pos e0 with h | h
  ·exact⟨f0,(e0:Int) - 1074,by omega,by omega,by omega,by omega,v2 h,.inr ⟨h,rfl,rfl⟩⟩
  ·exact⟨f0+4503599627370496,(e0:Int) - 1 - 1074,by omega,by omega,by omega,by omega,v1 h,.inl ⟨h,rfl,rfl⟩⟩
 rw [pw_rc hq hfl];have hn1:=hu.len_le hpK;have hm1:=hv.len_le hqK;have HU:=Hd hu;have HV:=Hd hv
 have haK:F*q<2^(32*(K+2)):=by
  calc F*q<2^64*2^(32*K):=Nat.mul_lt_mul'' (by omega) hqK
   _=2^(32*(K+2)):=by rw [← Nat.pow_add];congr 1;omega
 have bp:blen p≤33554432:=Nat.le_trans (blen_le_iff.2 hpK) (by omega);have ba:blen (F*q)≤33554496:=Nat.le_trans (blen_le_iff.2 haK) (by omega);have hab:0<F*q:=Nat.mul_pos hF0 hq;have HSM:=Hd fun W=>small_any F W (by omega)
 obtain⟨a,ha⟩:∃ a,F*q=a:=⟨_,rfl⟩
 have T0:∀ (W:World) (A1:Option Addr) (n1 c1:Nat),Below w.heap.size w W→U32s W A1 n1 c1 (digs F)→Calls Tryz.prog 143 #[.slice A1 n1 c1,.slice B m d] W (NewU32 W (digs a)):=by
  intro W A1 n1 c1 hW h1;have:=times_any A1 B n1 c1 m d _ _ W h1 (HV.out.below hW) (by have:=h1.len_le (k:=2) (Nat.lt_of_lt_of_le hF (by decide));omega) (by omega);rw [num_digs,num_digs,ha] at this
  exact this
 have P0:∀ (W:World) (A1:Option Addr) (n1 c1:Nat),U32s W A1 n1 c1 (digs F)→Calls Tryz.prog 240 #[.slice A1 n1 c1,.int .i64 1] W (NewU32 W (digs F)):=by
  intro W A1 n1 c1 h1;have h2:F<2^(32*2):=Nat.lt_of_lt_of_le hF (by decide);have:=power_any A1 n1 c1 1 2 _ W h1 (by have:=h1.len_le h2;omega) (by rw [num_digs];exact hF0) (by rw [num_digs];exact h2) (by rw [num_digs,Nat.pow_one];exact h2) (by omega) (by omega);rw [num_digs,Nat.pow_one] at this
  exact this
 rw [ha] at haK ba hab ⊢;have TT:=Hd T0;have PT:=Hd P0;have PA:=Hd fun h=>pw_above (b:=p) (E:=E) hab h;have PB:=Hd fun h=>pw_below (a:=a) (E:=E) h hp
 obtain⟨r,hr⟩:∃ r,cmp3 (a*2^E.toNat) (p*2^(-E).toNat)=r:=⟨_,rfl⟩
 rw [hr] at PA PB ⊢;have HR:=Hd hr
 obtain⟨K2,hK2⟩:∃ x,K+2=x:=⟨_,rfl⟩
 rw [hK2] at haK
 have hK3:K2≤1048578:=by omega
 have HAK:=Hd haK;clear hK2;have HFE:=Hd hFe;clear hr T0 P0 haK hab hFe hfl v1 v2 hc hfin hidx hsg he hff he' hu hv hp hq hpK hqK ha hF0
 rcases HFE.out with ⟨h0,hFF,hEE⟩ | ⟨h0,hFF,hEE⟩
 ·skip;obtain⟨LB0,LG0_0⟩:=bx1 w #[.bool false,.slice A n c,.slice B m d] 60
  have h1:(f0:Int)+4503599627370496=(F:Int):=by omega
  have h3:(0:Int)<(e0:Int):=by omega
  clear hFF h0;clear HFE
  go_enter Tryz.func214,Tryz.ntmps214
  go_upto_region 7 with fail
  refine wp_region_held_drew (S:=fun W'=>Blk W' w.heap.size 60 #[.bool false,.slice A n c,.slice B m d]∧Below w.heap.size w W') (by kernel_rfl) (by exact⟨LG0_0.out.drew,LB0.out.drew⟩) (fun hHeld=>?_);refine tk 0 ?_;(try simp only [Act.put,lay]);refine tk 2 ?_;(try simp only [Act.put,lay]);refine tk 4 ?_;(try simp only [Act.put,lay]);refine tk 5 ?_ (hv:=by intro W2 hSw;obtain⟨q0,q1,q2⟩:=hSw.1.c3;go_simp;(try with_reducible rfl));(try simp only [Act.put,lay]);refine rdy 1 (fun KK hKK=>?_);go_simp;refine (HSM.out _).mono ?_;rintro e w1 ⟨A1,n1,c1,rfl,hu1,hb1⟩;go_wp2_with fail;refine hKK.out _ _ (⟨hHeld.1.keep hb1,hHeld.2.trans (hb1.mono hHeld.2.size)⟩) (fun _=>?_);clear hKK KK hHeld;rename_i hHeld;(try simp only [Act.put,lay]);refine rdy 3 (fun KK hKK=>?_);go_simp;refine (PT.out _ A1 n1 c1 hu1).mono ?_;rintro e w2 ⟨A2,n2,c2,rfl,hu2,hb2⟩;go_wp2_with fail;refine hKK.out _ _ (⟨hHeld.1.keep hb2,hHeld.2.trans (hb2.mono hHeld.2.size)⟩) (fun _=>?_);clear hKK KK hHeld;rename_i hHeld;(try simp only [Act.put,lay]);refine rdy 6 (fun KK hKK=>?_);go_simp;refine (TT.out _ A2 n2 c2 ?_ hu2).mono ?_;exact hHeld.2;rintro e w3 ⟨A3,n3,c3,rfl,hu3,hb3⟩;go_wp2_with fail;refine hKK.out _ _ (⟨hHeld.1.keep hb3,hHeld.2.trans (hb3.mono hHeld.2.size)⟩) (fun _=>?_);clear hKK KK hHeld;rename_i hHeld;(try simp only [Act.put,lay]);refine tk 7 ?_;(try simp only [Act.put,lay]);refine wpAnyH_done (by kernel_rfl) ?_ _;have LB3:=Hd hHeld.2;have LG0_3:=Hd hHeld.1;have HU3:=Hd hu3;have hn3:=hu3.len_le HAK.out
  clear hHeld hu1 hu2 hu3 hb1 hb2 hb3 HSM PT TT LB0 LG0_0
  obtain⟨la,hla⟩:∃ x,blen a=x:=⟨_,rfl⟩
  obtain⟨lp,hlp⟩:∃ x,blen p=x:=⟨_,rfl⟩
  have H1:=Hd (len_v A3 n3 c3 w3 HU3.out);have H2:=Hd (len_v A n c w3 (HU.out.below LB3.out));rw [hla] at H1 PA PB ba;rw [hlp] at H2 PA PB bp;clear hla hlp;obtain⟨q0_0,q0_1,q0_2⟩:=LG0_3.out.c3
  by_cases ho:(lp:Int)+1<(la:Int)+E
  ·have hr:=PA.out ho;clear PA PB HR;go_wp2_with fail;refine H1.out.mono ?_;rintro e w4 ⟨rfl,rfl⟩;go_wp2_with fail;refine H2.out.mono ?_;rintro e w4 ⟨rfl,rfl⟩;have HRR:=Hd hr;clear hr;go_wp2
   go_ret
   exact⟨ret_int HRR.out.symm,LB3.out⟩
  ·by_cases hu:(la:Int)+E<(lp:Int) - 1
   ·have hr:=PB.out hu;clear PA PB HR;go_wp2_with fail;refine H1.out.mono ?_;rintro e w4 ⟨rfl,rfl⟩;go_wp2_with fail;refine H2.out.mono ?_;rintro e w4 ⟨rfl,rfl⟩;go_wp2_with fail;refine H1.out.mono ?_;rintro e w4 ⟨rfl,rfl⟩;go_wp2_with fail;refine H2.out.mono ?_;rintro e w4 ⟨rfl,rfl⟩;have HRR:=Hd hr;clear hr;go_wp2
    go_ret
    exact⟨ret_int HRR.out.symm,LB3.out⟩
   ·clear PA PB;go_wp2_with fail;refine H1.out.mono ?_;rintro e w4 ⟨rfl,rfl⟩;go_wp2_with fail;refine H2.out.mono ?_;rintro e w4 ⟨rfl,rfl⟩;go_wp2_with fail;refine H1.out.mono ?_;rintro e w4 ⟨rfl,rfl⟩;go_wp2_with fail;refine H2.out.mono ?_;rintro e w4 ⟨rfl,rfl⟩;clear H1 H2
    by_cases hE:0≤E
    ·skip
     obtain⟨g,hg⟩:∃ g:Nat,E=g:=⟨E.toNat,by omega⟩
     subst hg
     have hg2:g≤971:=by omega
     have hr:=HR.out;rw [show (-(g:Int)).toNat=0 from by omega,Int.toNat_natCast,Nat.pow_zero,Nat.mul_one] at hr;have HLL:=Hd (left_v (v:=a) A3 n3 c3 g w3 HU3.out (by omega) (by omega));have HRR:=Hd hr;clear hr HR;go_wp2_with fail;refine HLL.out.mono ?_;rintro e w5 ⟨A5,n5,c5,rfl,hu5,hb5⟩;have LB5:=stB LB3 hb5 LB3.out.size;have HC:=Hd (cmp_v A5 A n5 c5 n c w5 hu5 (HU.out.below LB5.out));rw [HRR.out] at HC;clear hb5 hu5 HLL;go_wp2_with fail;refine HC.out.mono ?_;rintro e w6 ⟨rfl,kk,rfl⟩;go_wp2
     go_ret
     exact⟨rfl,below_drewN LB5.out kk⟩
    ·skip
     obtain⟨g,hg⟩:∃ g:Nat,-E=g:=⟨(-E:Int).toNat,by omega⟩
     have hg2:g≤1074:=by omega
     have hr:=HR.out;rw [show (E:Int).toNat=0 from by omega,show (-E:Int).toNat=g from by omega,Nat.pow_zero,Nat.mul_one] at hr;have HLL:=Hd (left_v (v:=p) A n c g w3 (HU.out.below LB3.out) (by omega) (by omega));have HRR:=Hd hr;clear hr HR
     have c2:E<0:=by omega
     go_wp2_with fail;refine HLL.out.mono ?_;rintro e w5 ⟨A5,n5,c5,rfl,hu5,hb5⟩;have HC:=Hd (cmp_v A3 A5 n3 c3 n5 c5 w5 (HU3.out.below hb5) hu5);have LB5:=stB LB3 hb5 LB3.out.size;rw [HRR.out] at HC;clear hb5 hu5 HLL;go_wp2_with fail;refine HC.out.mono ?_;rintro e w6 ⟨rfl,kk,rfl⟩;go_wp2
     go_ret
     exact⟨rfl,below_drewN LB5.out kk⟩
 ·skip;obtain⟨LB0,LG0_0⟩:=bx1 w #[.bool false,.slice A n c,.slice B m d] 60;subst h0;subst hFF
  obtain rfl:E=-1074:=by omega
  clear hEE;clear HFE
  go_enter Tryz.func214,Tryz.ntmps214
  go_upto_region 7 with fail
  refine wp_region_held_drew (S:=fun W'=>Blk W' w.heap.size 60 #[.bool false,.slice A n c,.slice B m d]∧Below w.heap.size w W') (by kernel_rfl) (by exact⟨LG0_0.out.drew,LB0.out.drew⟩) (fun hHeld=>?_);refine tk 0 ?_;(try simp only [Act.put,lay]);refine tk 2 ?_;(try simp only [Act.put,lay]);refine tk 4 ?_;(try simp only [Act.put,lay]);refine tk 5 ?_ (hv:=by intro W2 hSw;obtain⟨q0,q1,q2⟩:=hSw.1.c3;go_simp;(try with_reducible rfl));(try simp only [Act.put,lay]);refine rdy 1 (fun KK hKK=>?_);go_simp;refine (HSM.out _).mono ?_;rintro e w1 ⟨A1,n1,c1,rfl,hu1,hb1⟩;go_wp2_with fail;refine hKK.out _ _ (⟨hHeld.1.keep hb1,hHeld.2.trans (hb1.mono hHeld.2.size)⟩) (fun _=>?_);clear hKK KK hHeld;rename_i hHeld;(try simp only [Act.put,lay]);refine rdy 3 (fun KK hKK=>?_);go_simp;refine (PT.out _ A1 n1 c1 hu1).mono ?_;rintro e w2 ⟨A2,n2,c2,rfl,hu2,hb2⟩;go_wp2_with fail;refine hKK.out _ _ (⟨hHeld.1.keep hb2,hHeld.2.trans (hb2.mono hHeld.2.size)⟩) (fun _=>?_);clear hKK KK hHeld;rename_i hHeld;(try simp only [Act.put,lay]);refine rdy 6 (fun KK hKK=>?_);go_simp;refine (TT.out _ A2 n2 c2 ?_ hu2).mono ?_;exact hHeld.2;rintro e w3 ⟨A3,n3,c3,rfl,hu3,hb3⟩;go_wp2_with fail;refine hKK.out _ _ (⟨hHeld.1.keep hb3,hHeld.2.trans (hb3.mono hHeld.2.size)⟩) (fun _=>?_);clear hKK KK hHeld;rename_i hHeld;(try simp only [Act.put,lay]);refine tk 7 ?_;(try simp only [Act.put,lay]);refine wpAnyH_done (by kernel_rfl) ?_ _;have LB3:=Hd hHeld.2;have LG0_3:=Hd hHeld.1;have HU3:=Hd hu3;have hn3:=hu3.len_le HAK.out
  clear hHeld hu1 hu2 hu3 hb1 hb2 hb3 HSM PT TT LB0 LG0_0
  obtain⟨la,hla⟩:∃ x,blen a=x:=⟨_,rfl⟩
  obtain⟨lp,hlp⟩:∃ x,blen p=x:=⟨_,rfl⟩
  have H1:=Hd (len_v A3 n3 c3 w3 HU3.out);have H2:=Hd (len_v A n c w3 (HU.out.below LB3.out));rw [hla] at H1 PA PB ba;rw [hlp] at H2 PA PB bp;clear hla hlp;obtain⟨q0_0,q0_1,q0_2⟩:=LG0_3.out.c3
  by_cases ho:(lp:Int)+1<(la:Int)+(-1074)
  ·have hr:=PA.out ho;clear PA PB HR;go_wp2_with fail;refine H1.out.mono ?_;rintro e w4 ⟨rfl,rfl⟩;go_wp2_with fail;refine H2.out.mono ?_;rintro e w4 ⟨rfl,rfl⟩;have HRR:=Hd hr;clear hr;go_wp2
   go_ret
   exact⟨ret_int HRR.out.symm,LB3.out⟩
  ·by_cases hu:(la:Int)+(-1074)<(lp:Int) - 1
   ·have hr:=PB.out hu;clear PA PB HR;go_wp2_with fail;refine H1.out.mono ?_;rintro e w4 ⟨rfl,rfl⟩;go_wp2_with fail;refine H2.out.mono ?_;rintro e w4 ⟨rfl,rfl⟩;go_wp2_with fail;refine H1.out.mono ?_;rintro e w4 ⟨rfl,rfl⟩;go_wp2_with fail;refine H2.out.mono ?_;rintro e w4 ⟨rfl,rfl⟩;have HRR:=Hd hr;clear hr;go_wp2
    go_ret
    exact⟨ret_int HRR.out.symm,LB3.out⟩
   ·clear PA PB;go_wp2_with fail;refine H1.out.mono ?_;rintro e w4 ⟨rfl,rfl⟩;go_wp2_with fail;refine H2.out.mono ?_;rintro e w4 ⟨rfl,rfl⟩;go_wp2_with fail;refine H1.out.mono ?_;rintro e w4 ⟨rfl,rfl⟩;go_wp2_with fail;refine H2.out.mono ?_;rintro e w4 ⟨rfl,rfl⟩;clear H1 H2
    obtain⟨g,hg⟩:∃ g:Nat,g=1074:=⟨_,rfl⟩
    have hr:=HR.out;rw [show ((-1074):Int).toNat=0 from by omega,show (-(-1074):Int).toNat=g from by omega,Nat.pow_zero,Nat.mul_one] at hr;have HLL:=Hd (left_v (v:=p) A n c g w3 (HU.out.below LB3.out) (by omega) (by omega));rw [show ((g:Nat):Int)=1074 from by omega] at HLL;clear hg;have HRR:=Hd hr;clear hr HR;go_wp2_with fail;refine HLL.out.mono ?_;rintro e w5 ⟨A5,n5,c5,rfl,hu5,hb5⟩;have HC:=Hd (cmp_v A3 A5 n3 c3 n5 c5 w5 (HU3.out.below hb5) hu5);have LB5:=stB LB3 hb5 LB3.out.size;rw [HRR.out] at HC;clear hb5 hu5 HLL;go_wp2_with fail;refine HC.out.mono ?_;rintro e w6 ⟨rfl,kk,rfl⟩;go_wp2
    go_ret
    exact⟨rfl,below_drewN LB5.out kk⟩
end Go.Proofs.YtmjkmoahkanblaaGreat
