/-
Lemmas for the statement: AbT SqT NmulT NpowT.
-/
import Derived.Test.YthlmlmfebpjgdaaGreatDoorPDiv2T
import Derived.Test.YthlmlmfebpjgdaaGreatDoorPPairT
import Derived.Test.YthlmlmfebpjgdaaGreatDoorPLessT
import Derived.Deep.DeepCutAuto
import Derived.Test.YthlmlmfebpjgdaaGreatDoorPNwT
import Derived.Test.YthlmlmfebpjgdaaGreatDoorM01
import Derived.Test.YthlmlmfebpjgdaaGreatDoorM10
import Derived.Test.YthlmlmfebpjgdaaGreatDoorM02
import Derived.Test.YthlmlmfebpjgdaaGreatDoorM11
import Derived.Lib.RabinKarpLaws
set_option linter.unusedSimpArgs false
set_option linter.unusedVariables false
set_option maxHeartbeats 12800000
namespace Go.Proofs.YthlmlmfebpjgdaaGreatDoor
section
open Go.RowKit
attribute [local go_sem] run_store_float
attribute [local go_sem] run_negf
set_option maxRecDepth 8000 in
theorem turned_walk(b1 b2 r1 r2:Nat)(w:World)(h1:∀ W,Calls Tryz.prog 191 #[.float .f64 (Op.negFloat .f64 b2)] W fun e w'=>e=.returned (.float .f64 r1)∧Below W.heap.size W w')(h2:∀ W,Calls Tryz.prog 191 #[.float .f64 (Op.negFloat .f64 b1)] W fun e w'=>e=.returned (.float .f64 r2)∧Below W.heap.size W w'):
  Calls Tryz.prog 173 #[.agg #[.float .f64 b1,.float .f64 b2]] w fun e w'=>e=.returned (.agg #[.float .f64 r1,.float .f64 r2])∧Below w.heap.size w w':=by
 have H1:=Hd h1;have H2:=Hd h2;clear h1 h2;have LL:=li2 w #[.float .f64 b1,.float .f64 b2] 78 #[.float .f64 0,.float .f64 0] 78
 go_enter Tryz.func173,Tryz.ntmps173
 go_wp2_with fail;replace LL:=Hd (LL.out.loose 1 rfl rfl)
 simp only [List.eraseIdx,List.size_toArray,List.length_cons,List.length_nil,Nat.zero_add,Nat.reduceAdd] at LL
 refine regL LL (fun hHeld=>?_);clear LL;generalize World.drew _=wk at hHeld  ⊢;refine tk 0 ?_;(try simp only [Act.put,lay]);refine tk 1 ?_ (hv:=by intro W2 hSw;obtain⟨q0,q1⟩:=(hSw.blk 0 rfl).c2;go_simp;(try with_reducible rfl));(try simp only [Act.put,lay]);refine tk 2 ?_;(try simp only [Act.put,lay]);refine tk 4 ?_;(try simp only [Act.put,lay]);refine tk 5 ?_ (hv:=by intro W2 hSw;obtain⟨q0,q1⟩:=(hSw.blk 0 rfl).c2;go_simp;(try with_reducible rfl));(try simp only [Act.put,lay]);refine tk 6 ?_;(try simp only [Act.put,lay]);refine rdy 3 (fun KK hKK=>?_);go_simp;refine (H1.out _).mono ?_;rintro e wk ⟨rfl,hb1⟩;go_wp2_with fail;refine hKK.out _ _ (hHeld.keep hb1) (fun _=>?_);clear hKK KK hHeld;rename_i hHeld;(try simp only [Act.put,lay]);clear hb1;refine rdy 7 (fun KK hKK=>?_);go_simp;refine (H2.out _).mono ?_;rintro e wk ⟨rfl,hb2⟩;go_wp2_with fail;refine hKK.out _ _ (hHeld.keep hb2) (fun _=>?_);clear hKK KK hHeld;rename_i hHeld;(try simp only [Act.put,lay]);clear hb2;refine tk 8 ?_;(try simp only [Act.put,lay]);refine rdy 9 (fun KK hKK=>?_);obtain⟨ha0,hf0,ha1,hf1⟩:=(hHeld.has 0 rfl).sf2;go_simp;have HS_0:=(hHeld.has 0 rfl).laid [.float .f64 r1,.float .f64 r2] rfl;refine hKK.out _ _ (hHeld.over 0 rfl [.float .f64 r1,.float .f64 r2] rfl rfl (by first | omega | exact hHeld.le_of 0 rfl) (by simp<;>omega) (by simp<;>omega)) (fun _=>?_);clear hKK KK hHeld;rename_i hHeld;(try simp only [Act.put,lay]);refine wpAnyH_done (by kernel_rfl) ?_ _;have LB:=Hd hHeld.b;clear hHeld;obtain⟨hk2_0,hk2_1⟩:=HS_0.c2
 clear HS_0
 simp [sets] at hk2_0 hk2_1
 go_wp2;refine bodyPost_ret (v:=.agg #[.float .f64 r1,.float .f64 r2]) (by simp [results,Tryz.results173,go_sem,hk2_0,hk2_1]) rfl ?_
 exact⟨rfl,LB.out⟩
theorem turned_idx(k l:Int)(w:World)(hk:-(M:Int)≤k∧k≤M)(hl:-(M:Int)≤l∧l≤M):Calls Tryz.prog 173 #[.agg #[.float .f64 (pat k),.float .f64 (pat l)]] w fun e w'=>e=.returned (.agg #[.float .f64 (pat (-l)),.float .f64 (pat (-k))])∧Below w.heap.size w w':=by
 have n1:=negFloat_val (pat_lt hk.1 hk.2);have n2:=negFloat_val (pat_lt hl.1 hl.2);rw [idx_pat hk.1 hk.2,rung_pat hk.1 hk.2] at n1;rw [idx_pat hl.1 hl.2,rung_pat hl.1 hl.2] at n2;have p1:=fun W=>fplainf _ W n1.1 (by omega);have p2:=fun W=>fplainf _ W n2.1 (by omega);rw [n1.2.2] at p1;rw [n2.2.2] at p2
 exact turned_walk _ _ _ _ w (fun W=>(p2 W).mono fun e w' h=>⟨h.1,h.2 ▸ Below.refl _ _⟩) (fun W=>(p1 W).mono fun e w' h=>⟨h.1,h.2 ▸ Below.refl _ _⟩)
set_option maxRecDepth 8000 in
theorem twice_walk(x1 x2 p1 p2 q1 q2 s1 s2 t1 t2 l1 l2 u1 u2 r1 r2:Nat)(op:Bool)(w:World)(hc1:∀ W,Calls Tryz.prog 77 #[.agg #[.float .f64 x1,.float .f64 x2],.agg #[.float .f64 p1,.float .f64 p2],.agg #[.float .f64 q1,.float .f64 q2],.bool op] W fun e w'=>e=.returned (.agg #[.float .f64 l1,.float .f64 l2])∧Below W.heap.size W w')(ht1:∀ W,Calls Tryz.prog 173 #[.agg #[.float .f64 q1,.float .f64 q2]] W fun e w'=>e=.returned (.agg #[.float .f64 t1,.float .f64 t2])∧Below W.heap.size W w')(ht2:∀ W,Calls Tryz.prog 173 #[.agg #[.float .f64 p1,.float .f64 p2]] W fun e w'=>e=.returned (.agg #[.float .f64 s1,.float .f64 s2])∧Below W.heap.size W w')(hc2:∀ W,Calls Tryz.prog 77 #[.agg #[.float .f64 x1,.float .f64 x2],.agg #[.float .f64 t1,.float .f64 t2],.agg #[.float .f64 s1,.float .f64 s2],.bool op] W fun e w'=>e=.returned (.agg #[.float .f64 u1,.float .f64 u2])∧Below W.heap.size W w')
  (hu:∀ W,Calls Tryz.prog 63 #[.agg #[.float .f64 l1,.float .f64 l2],.agg #[.float .f64 u1,.float .f64 u2]] W fun e w'=>e=.returned (.agg #[.float .f64 r1,.float .f64 r2])∧Below W.heap.size W w'):
  Calls Tryz.prog 104 #[.agg #[.float .f64 x1,.float .f64 x2],.agg #[.float .f64 p1,.float .f64 p2],.agg #[.float .f64 q1,.float .f64 q2],.bool op] w fun e w'=>e=.returned (.agg #[.float .f64 r1,.float .f64 r2])∧Below w.heap.size w w':=by
 have HC1:=Hd hc1;have HT1:=Hd ht1;have HT2:=Hd ht2;have HC2:=Hd hc2;have HU:=Hd hu;clear hc1 ht1 ht2 hc2 hu;have LL:=li4 w #[.float .f64 x1,.float .f64 x2] 28 #[.float .f64 p1,.float .f64 p2] 78 #[.float .f64 q1,.float .f64 q2] 78 #[.float .f64 0,.float .f64 0] 28
 go_enter Tryz.func104,Tryz.ntmps104
 go_wp2_with fail;replace LL:=Hd (LL.out.loose 3 rfl rfl)
 simp only [List.eraseIdx,List.size_toArray,List.length_cons,List.length_nil,Nat.zero_add,Nat.reduceAdd] at LL
 refine regL LL (fun hHeld=>?_);clear LL;generalize World.drew _=wk at hHeld  ⊢;refine tk 0 ?_ (hv:=by intro W2 hSw;obtain⟨q0,q1⟩:=(hSw.blk 0 rfl).c2;go_simp;(try with_reducible rfl));(try simp only [Act.put,lay]);refine tk 1 ?_ (hv:=by intro W2 hSw;obtain⟨q0,q1⟩:=(hSw.blk 1 rfl).c2;go_simp;(try with_reducible rfl));(try simp only [Act.put,lay]);refine tk 2 ?_ (hv:=by intro W2 hSw;obtain⟨q0,q1⟩:=(hSw.blk 2 rfl).c2;go_simp;(try with_reducible rfl));(try simp only [Act.put,lay]);refine tk 3 ?_;(try simp only [Act.put,lay]);refine tk 5 ?_ (hv:=by intro W2 hSw;obtain⟨q0,q1⟩:=(hSw.blk 0 rfl).c2;go_simp;(try with_reducible rfl));(try simp only [Act.put,lay]);refine tk 6 ?_ (hv:=by intro W2 hSw;obtain⟨q0,q1⟩:=(hSw.blk 2 rfl).c2;go_simp;(try with_reducible rfl));(try simp only [Act.put,lay]);refine tk 8 ?_ (hv:=by intro W2 hSw;obtain⟨q0,q1⟩:=(hSw.blk 1 rfl).c2;go_simp;(try with_reducible rfl));(try simp only [Act.put,lay]);refine tk 10 ?_;(try simp only [Act.put,lay]);refine rdy 4 (fun KK hKK=>?_);go_simp;refine (HC1.out _).mono ?_;rintro e wk ⟨rfl,hb1⟩;go_wp2_with fail;refine hKK.out _ _ (hHeld.keep hb1) (fun _=>?_);clear hKK KK hHeld;rename_i hHeld;(try simp only [Act.put,lay]);clear hb1;refine rdy 7 (fun KK hKK=>?_);go_simp;refine (HT1.out _).mono ?_;rintro e wk ⟨rfl,hb2⟩;go_wp2_with fail;refine hKK.out _ _ (hHeld.keep hb2) (fun _=>?_);clear hKK KK hHeld;rename_i hHeld;(try simp only [Act.put,lay]);clear hb2;refine rdy 9 (fun KK hKK=>?_);go_simp;refine (HT2.out _).mono ?_;rintro e wk ⟨rfl,hb3⟩
 go_wp2_with fail;refine hKK.out _ _ (hHeld.keep hb3) (fun _=>?_);clear hKK KK hHeld;rename_i hHeld;(try simp only [Act.put,lay]);clear hb3;refine rdy 11 (fun KK hKK=>?_);go_simp;refine (HC2.out _).mono ?_;rintro e wk ⟨rfl,hb4⟩;go_wp2_with fail;refine hKK.out _ _ (hHeld.keep hb4) (fun _=>?_);clear hKK KK hHeld;rename_i hHeld;(try simp only [Act.put,lay]);clear hb4;refine rdy 12 (fun KK hKK=>?_);go_simp;refine (HU.out _).mono ?_;rintro e wk ⟨rfl,hb5⟩;go_wp2_with fail;refine hKK.out _ _ (hHeld.keep hb5) (fun _=>?_);clear hKK KK hHeld;rename_i hHeld;(try simp only [Act.put,lay]);clear hb5;refine rdy 13 (fun KK hKK=>?_);obtain⟨ha0,hf0,ha1,hf1⟩:=(hHeld.has 0 rfl).sf2;go_simp;have HS_0:=(hHeld.has 0 rfl).laid [.float .f64 r1,.float .f64 r2] rfl;refine hKK.out _ _ (hHeld.over 0 rfl [.float .f64 r1,.float .f64 r2] rfl rfl (by first | omega | exact hHeld.le_of 0 rfl) (by simp<;>omega) (by simp<;>omega)) (fun _=>?_);clear hKK KK hHeld;rename_i hHeld;(try simp only [Act.put,lay]);refine wpAnyH_done (by kernel_rfl) ?_ _;have LB:=Hd hHeld.b;clear hHeld;obtain⟨hk8_0,hk8_1⟩:=HS_0.c2;clear HS_0
 simp [sets] at hk8_0 hk8_1
 go_wp2;refine bodyPost_ret (v:=.agg #[.float .f64 r1,.float .f64 r2]) (by simp [results,Tryz.results104,go_sem,hk8_0,hk8_1]) rfl ?_
 exact⟨rfl,LB.out⟩
end
section
open Go.RowKit
attribute [local go_sem] run_store_float run_negf
set_option maxRecDepth 8000 in
theorem revroot_walk(x n r1 r2:Nat)(w:World)(h1:∀ W,Calls Tryz.prog 174 #[.int .i64 (-1),.float .f64 x,.int .i64 (n:Int)] W fun e w'=>e=.returned (.float .f64 r1)∧Below W.heap.size W w')(h2:∀ W,Calls Tryz.prog 174 #[.int .i64 1,.float .f64 x,.int .i64 (n:Int)] W fun e w'=>e=.returned (.float .f64 r2)∧Below W.heap.size W w'):
  Calls Tryz.prog 105 #[.float .f64 x,.int .i64 (n:Int)] w fun e w'=>e=.returned (.agg #[.float .f64 r1,.float .f64 r2])∧Below w.heap.size w w':=by
 have H1:=Hd h1;have H2:=Hd h2;clear h1 h2;have LL:=li1 w #[.float .f64 0,.float .f64 0] 78
 go_enter Tryz.func105,Tryz.ntmps105
 go_wp2_with fail;refine (H1.out _).mono ?_;rintro e wk ⟨rfl,hb⟩;replace LL:=stL LL hb;clear hb;go_wp2_with fail;refine (H2.out _).mono ?_;rintro e wk ⟨rfl,hb⟩;replace LL:=stL LL hb;clear hb;replace LL:=Hd (LL.out.loose 0 rfl rfl)
 simp only [List.eraseIdx,List.size_toArray,List.length_cons,List.length_nil,Nat.zero_add,Nat.reduceAdd] at LL
 obtain⟨ha4_0,hf4_0,ha4_1,hf4_1⟩:=(LL.out.has 0 rfl).sf2;have LF:=Hd (LL.out.write [.float .f64 r1,.float .f64 r2] rfl (by omega) (by simp<;>omega) (by simp<;>omega));obtain⟨hk4_0,hk4_1⟩:=(LF.out.blk 0 rfl).c2
 simp [sets] at hk4_0 hk4_1
 clear LL;go_wp2;refine bodyPost_ret (v:=.agg #[.float .f64 r1,.float .f64 r2]) (by simp [results,Tryz.results105,go_sem,hk4_0,hk4_1]) rfl ?_
 exact⟨rfl,LF.out.b⟩
set_option maxRecDepth 8000 in
theorem pown_none(n b1 b2 c1 c2 A1 A2 x1 x2:Nat)(d1 d2:Bool)(w:World)(t1:∀ W,Calls Tryz.prog 102 #[.agg #[.float .f64 b1,.float .f64 b2]] W fun e w'=>e=.returned (.agg #[.float .f64 A1,.float .f64 A2])∧Below W.heap.size W w')(m1:Em d1 A1 A2)(t2:∀ W,Calls Tryz.prog 102 #[.agg #[.float .f64 c1,.float .f64 c2]] W fun e w'=>e=.returned (.agg #[.float .f64 x1,.float .f64 x2])∧Below W.heap.size W w')(m2:Em d2 x1 x2)(hn:1≤n)(hn2:n≤1024)(hnn:(d1 || d2)=true):
  Calls Tryz.prog 39 #[.int .i64 (n:Int),.agg #[.float .f64 b1,.float .f64 b2],.agg #[.float .f64 c1,.float .f64 c2]] w fun e w'=>e=.returned (.agg #[.float .f64 9218868437227405312,.float .f64 18442240474082181120])∧Below w.heap.size w w':=by
 have HE:=Hd emptyf
 have n1:¬ (n:Int) < -1024:=by omega
 have n2:¬ (1024:Int)<(n:Int):=by omega
 clear hn hn2;have LL:=li3 w #[.float .f64 b1,.float .f64 b2] 28 #[.float .f64 c1,.float .f64 c2] 28 #[.float .f64 0,.float .f64 0] 28;have hrow:=Blk.at (W:=(((w.alloc (.cells #[.float .f64 b1,.float .f64 b2] 28)).alloc (.cells #[.float .f64 c1,.float .f64 c2] 28)).alloc (.cells #[.float .f64 0,.float .f64 0] 28))) (g:=w.heap.size+1+1+1) (by simp) 75 #[.pointer (some ⟨w.heap.size,0,none⟩),.pointer (some ⟨w.heap.size+1,0,none⟩)]
 have HRD:=Hd (read_n w.heap.size 2 (w.heap.size+1+1+1) 2 (fun k:Nat=>if k=0 then (b1,b2) else (c1,c2)) (fun k:Nat=>if k=0 then (A1,A2) else (x1,x2)) (fun k:Nat=>if k=0 then d1 else d2) _ (by omega) (by omega)
  (fun k hk=>by match k,hk with | 0,_=>exact hrow.cell 0 | 1,_=>exact hrow.cell 1) (fun k hk=>by match k,hk with | 0,_=>exact (LL.out.blk 0 rfl).alloc (.cells #[.pointer (some ⟨w.heap.size,0,none⟩),.pointer (some ⟨w.heap.size+1,0,none⟩)] 75) | 1,_=>exact (LL.out.blk 1 rfl).alloc (.cells #[.pointer (some ⟨w.heap.size,0,none⟩),.pointer (some ⟨w.heap.size+1,0,none⟩)] 75)) (fun k hk=>by match k,hk with | 0,_=>exact t1 | 1,_=>exact t2) (fun k hk=>by match k,hk with | 0,_=>exact m1 | 1,_=>exact m2))
 rw [show anyB (fun k:Nat=>if k=0 then d1 else d2) 2=(d1 || d2) from by simp [anyB],hnn] at HRD;have LLR:=Hd (LL.out.alloc (.cells #[.pointer (some ⟨w.heap.size,0,none⟩),.pointer (some ⟨w.heap.size+1,0,none⟩)] 75));have HSZ:=Hd (show w.heap.size≤(((((w.alloc (.cells #[.float .f64 b1,.float .f64 b2] 28)).alloc (.cells #[.float .f64 c1,.float .f64 c2] 28)).alloc (.cells #[.float .f64 0,.float .f64 0] 28))).alloc (.cells #[.pointer (some ⟨w.heap.size,0,none⟩),.pointer (some ⟨w.heap.size+1,0,none⟩)] 75)).heap.size by simp;omega);clear t1 m1 t2 m2 hrow hnn LL
 go_enter Tryz.func39,Tryz.ntmps39
 go_wp2_with fail;refine HRD.out.mono ?_;rintro e wk ⟨rfl,hd,kp⟩;have LL:=Hd (show Lies w wk [(w.heap.size,28,#[.float .f64 A1,.float .f64 A2]),((w.heap.size+1),28,#[.float .f64 x1,.float .f64 x2]),((w.heap.size+2),28,#[.float .f64 0,.float .f64 0])] [] from⟨kp.toBl LLR.out.b HSZ.out (Nat.le_refl _),by simp only [List.mem_cons,List.not_mem_nil,or_false,forall_eq_or_imp,forall_eq];exact⟨show Blk wk w.heap.size 28 #[.float .f64 A1,.float .f64 A2] from hd 0 (by omega),show Blk wk (w.heap.size+1) 28 #[.float .f64 x1,.float .f64 x2] from hd 1 (by omega),kp.blk (LLR.out.blk 2 rfl) (by omega)⟩,by simp⟩);clear hd kp LLR HSZ HRD;go_wp2_with fail;refine (HE.out _).mono ?_;rintro e wk ⟨rfl,hb⟩;replace LL:=stL LL hb;clear hb;replace LL:=Hd (LL.out.loose 2 rfl rfl)
 simp only [List.eraseIdx,List.size_toArray,List.length_cons,List.length_nil,Nat.zero_add,Nat.reduceAdd] at LL
 obtain⟨ha6_0,hf6_0,ha6_1,hf6_1⟩:=(LL.out.has 0 rfl).sf2;have LF:=Hd (LL.out.write [.float .f64 9218868437227405312,.float .f64 18442240474082181120] rfl (by omega) (by simp<;>omega) (by simp<;>omega));obtain⟨hk6_0,hk6_1⟩:=(LF.out.blk 2 rfl).c2
 simp [sets] at hk6_0 hk6_1
 clear LL;go_wp2;refine bodyPost_ret (v:=.agg #[.float .f64 9218868437227405312,.float .f64 18442240474082181120]) (by simp [results,Tryz.results39,go_sem,hk6_0,hk6_1]) rfl ?_
 exact⟨rfl,LF.out.b⟩
set_option maxRecDepth 8000 in
theorem pown_neg(n b1 b2 c1 c2 A1 A2 x1 x2:Nat)(d1 d2:Bool)(w:World)(t1:∀ W,Calls Tryz.prog 102 #[.agg #[.float .f64 b1,.float .f64 b2]] W fun e w'=>e=.returned (.agg #[.float .f64 A1,.float .f64 A2])∧Below W.heap.size W w')(m1:Em d1 A1 A2)(t2:∀ W,Calls Tryz.prog 102 #[.agg #[.float .f64 c1,.float .f64 c2]] W fun e w'=>e=.returned (.agg #[.float .f64 x1,.float .f64 x2])∧Below W.heap.size W w')(m2:Em d2 x1 x2)(hn:1≤n)(hn2:n≤1024)(hp:n % 2=0)(hnn:(d1 || d2)=false)(ho:FloatKind.f64.format.order A2 0=some .lt):
  Calls Tryz.prog 39 #[.int .i64 (n:Int),.agg #[.float .f64 b1,.float .f64 b2],.agg #[.float .f64 c1,.float .f64 c2]] w fun e w'=>e=.returned (.agg #[.float .f64 9218868437227405312,.float .f64 18442240474082181120])∧Below w.heap.size w w':=by
 have HE:=Hd emptyf
 have n1:¬ (n:Int) < -1024:=by omega
 have n2:¬ (1024:Int)<(n:Int):=by omega
 have n3:((n:Int) == 0)=false:=by simp;omega
 have n4:¬ (n:Int)<0:=by omega
 have n5:(n:Int) % 2=0:=by omega
 clear hn hn2 hp;have LL:=li3 w #[.float .f64 b1,.float .f64 b2] 28 #[.float .f64 c1,.float .f64 c2] 28 #[.float .f64 0,.float .f64 0] 28;have hrow:=Blk.at (W:=(((w.alloc (.cells #[.float .f64 b1,.float .f64 b2] 28)).alloc (.cells #[.float .f64 c1,.float .f64 c2] 28)).alloc (.cells #[.float .f64 0,.float .f64 0] 28))) (g:=w.heap.size+1+1+1) (by simp) 75 #[.pointer (some ⟨w.heap.size,0,none⟩),.pointer (some ⟨w.heap.size+1,0,none⟩)]
 have HRD:=Hd (read_n w.heap.size 2 (w.heap.size+1+1+1) 2 (fun k:Nat=>if k=0 then (b1,b2) else (c1,c2)) (fun k:Nat=>if k=0 then (A1,A2) else (x1,x2)) (fun k:Nat=>if k=0 then d1 else d2) _ (by omega) (by omega)
  (fun k hk=>by match k,hk with | 0,_=>exact hrow.cell 0 | 1,_=>exact hrow.cell 1) (fun k hk=>by match k,hk with | 0,_=>exact (LL.out.blk 0 rfl).alloc (.cells #[.pointer (some ⟨w.heap.size,0,none⟩),.pointer (some ⟨w.heap.size+1,0,none⟩)] 75) | 1,_=>exact (LL.out.blk 1 rfl).alloc (.cells #[.pointer (some ⟨w.heap.size,0,none⟩),.pointer (some ⟨w.heap.size+1,0,none⟩)] 75)) (fun k hk=>by match k,hk with | 0,_=>exact t1 | 1,_=>exact t2) (fun k hk=>by match k,hk with | 0,_=>exact m1 | 1,_=>exact m2))
 rw [show anyB (fun k:Nat=>if k=0 then d1 else d2) 2=(d1 || d2) from by simp [anyB],hnn] at HRD;have LLR:=Hd (LL.out.alloc (.cells #[.pointer (some ⟨w.heap.size,0,none⟩),.pointer (some ⟨w.heap.size+1,0,none⟩)] 75));have HSZ:=Hd (show w.heap.size≤(((((w.alloc (.cells #[.float .f64 b1,.float .f64 b2] 28)).alloc (.cells #[.float .f64 c1,.float .f64 c2] 28)).alloc (.cells #[.float .f64 0,.float .f64 0] 28))).alloc (.cells #[.pointer (some ⟨w.heap.size,0,none⟩),.pointer (some ⟨w.heap.size+1,0,none⟩)] 75)).heap.size by simp;omega);clear t1 m1 t2 m2 hrow hnn LL
 go_enter Tryz.func39,Tryz.ntmps39
 go_wp2_with fail;refine HRD.out.mono ?_;rintro e wk ⟨rfl,hd,kp⟩;have LL:=Hd (show Lies w wk [(w.heap.size,28,#[.float .f64 A1,.float .f64 A2]),((w.heap.size+1),28,#[.float .f64 x1,.float .f64 x2]),((w.heap.size+2),28,#[.float .f64 0,.float .f64 0])] [] from⟨kp.toBl LLR.out.b HSZ.out (Nat.le_refl _),by simp only [List.mem_cons,List.not_mem_nil,or_false,forall_eq_or_imp,forall_eq];exact⟨show Blk wk w.heap.size 28 #[.float .f64 A1,.float .f64 A2] from hd 0 (by omega),show Blk wk (w.heap.size+1) 28 #[.float .f64 x1,.float .f64 x2] from hd 1 (by omega),kp.blk (LLR.out.blk 2 rfl) (by omega)⟩,by simp⟩);clear hd kp LLR HSZ HRD;obtain⟨q1_0,q1_1⟩:=(LL.out.blk 0 rfl).c2;go_wp2_with fail;refine (HE.out _).mono ?_;rintro e wk ⟨rfl,hb⟩;replace LL:=stL LL hb;clear hb q1_0 q1_1 ho;replace LL:=Hd (LL.out.loose 2 rfl rfl)
 simp only [List.eraseIdx,List.size_toArray,List.length_cons,List.length_nil,Nat.zero_add,Nat.reduceAdd] at LL
 obtain⟨ha6_0,hf6_0,ha6_1,hf6_1⟩:=(LL.out.has 0 rfl).sf2;have LF:=Hd (LL.out.write [.float .f64 9218868437227405312,.float .f64 18442240474082181120] rfl (by omega) (by simp<;>omega) (by simp<;>omega));obtain⟨hk6_0,hk6_1⟩:=(LF.out.blk 2 rfl).c2
 simp [sets] at hk6_0 hk6_1
 clear LL;go_wp2;refine bodyPost_ret (v:=.agg #[.float .f64 9218868437227405312,.float .f64 18442240474082181120]) (by simp [results,Tryz.results39,go_sem,hk6_0,hk6_1]) rfl ?_
 exact⟨rfl,LF.out.b⟩
set_option maxRecDepth 8000 in
theorem pown_even(n b1 b2 c1 c2 A1 A2 x1 x2 mx p1 p2 q1 q2 r1 r2:Nat)(o:Ordering)(d1 d2:Bool)(w:World)(t1:∀ W,Calls Tryz.prog 102 #[.agg #[.float .f64 b1,.float .f64 b2]] W fun e w'=>e=.returned (.agg #[.float .f64 A1,.float .f64 A2])∧Below W.heap.size W w')(m1:Em d1 A1 A2)(t2:∀ W,Calls Tryz.prog 102 #[.agg #[.float .f64 c1,.float .f64 c2]] W fun e w'=>e=.returned (.agg #[.float .f64 x1,.float .f64 x2])∧Below W.heap.size W w')(m2:Em d2 x1 x2)(hn:1≤n)(hn2:n≤1024)(hp:n % 2=0)(hnn:(d1 || d2)=false)(ho:FloatKind.f64.format.order A2 0=some o)(hoo:o=.eq∨o=.gt)
  (hmx:∀ W ts t,(Builtin.max_ ts t #[.float .f64 A1,.float .f64 0]).run Tryz.prog W=.ok (.float .f64 mx) W)(h1:∀ W,Calls Tryz.prog 105 #[.float .f64 mx,.int .i64 (n:Int)] W fun e w'=>e=.returned (.agg #[.float .f64 p1,.float .f64 p2])∧Below W.heap.size W w')(h2:∀ W,Calls Tryz.prog 105 #[.float .f64 A2,.int .i64 (n:Int)] W fun e w'=>e=.returned (.agg #[.float .f64 q1,.float .f64 q2])∧Below W.heap.size W w')(ht:∀ W,Calls Tryz.prog 104 #[.agg #[.float .f64 x1,.float .f64 x2],.agg #[.float .f64 p1,.float .f64 p2],.agg #[.float .f64 q1,.float .f64 q2],.bool false] W fun e w'=>e=.returned (.agg #[.float .f64 r1,.float .f64 r2])∧Below W.heap.size W w'):
  Calls Tryz.prog 39 #[.int .i64 (n:Int),.agg #[.float .f64 b1,.float .f64 b2],.agg #[.float .f64 c1,.float .f64 c2]] w fun e w'=>e=.returned (.agg #[.float .f64 r1,.float .f64 r2])∧Below w.heap.size w w':=by
 have n1:¬ (n:Int) < -1024:=by omega
 have n2:¬ (1024:Int)<(n:Int):=by omega
 have n3:((n:Int) == 0)=false:=by simp;omega
 have n4:¬ (n:Int)<0:=by omega
 have n5:(n:Int) % 2=0:=by omega
 clear hn hn2 hp;have H1:=Hd h1;have H2:=Hd h2;have HT:=Hd ht;clear h1 h2 ht
 rcases hoo with rfl | rfl
 all_goals
  have LL:=li3 w #[.float .f64 b1,.float .f64 b2] 28 #[.float .f64 c1,.float .f64 c2] 28 #[.float .f64 0,.float .f64 0] 28;have hrow:=Blk.at (W:=(((w.alloc (.cells #[.float .f64 b1,.float .f64 b2] 28)).alloc (.cells #[.float .f64 c1,.float .f64 c2] 28)).alloc (.cells #[.float .f64 0,.float .f64 0] 28))) (g:=w.heap.size+1+1+1) (by simp) 75 #[.pointer (some ⟨w.heap.size,0,none⟩),.pointer (some ⟨w.heap.size+1,0,none⟩)]
  have HRD:=Hd (read_n w.heap.size 2 (w.heap.size+1+1+1) 2 (fun k:Nat=>if k=0 then (b1,b2) else (c1,c2)) (fun k:Nat=>if k=0 then (A1,A2) else (x1,x2)) (fun k:Nat=>if k=0 then d1 else d2) _ (by omega) (by omega)
   (fun k hk=>by match k,hk with | 0,_=>exact hrow.cell 0 | 1,_=>exact hrow.cell 1) (fun k hk=>by match k,hk with | 0,_=>exact (LL.out.blk 0 rfl).alloc (.cells #[.pointer (some ⟨w.heap.size,0,none⟩),.pointer (some ⟨w.heap.size+1,0,none⟩)] 75) | 1,_=>exact (LL.out.blk 1 rfl).alloc (.cells #[.pointer (some ⟨w.heap.size,0,none⟩),.pointer (some ⟨w.heap.size+1,0,none⟩)] 75)) (fun k hk=>by match k,hk with | 0,_=>exact t1 | 1,_=>exact t2) (fun k hk=>by match k,hk with | 0,_=>exact m1 | 1,_=>exact m2))
  rw [show anyB (fun k:Nat=>if k=0 then d1 else d2) 2=(d1 || d2) from by simp [anyB],hnn] at HRD;have LLR:=Hd (LL.out.alloc (.cells #[.pointer (some ⟨w.heap.size,0,none⟩),.pointer (some ⟨w.heap.size+1,0,none⟩)] 75));have HSZ:=Hd (show w.heap.size≤(((((w.alloc (.cells #[.float .f64 b1,.float .f64 b2] 28)).alloc (.cells #[.float .f64 c1,.float .f64 c2] 28)).alloc (.cells #[.float .f64 0,.float .f64 0] 28))).alloc (.cells #[.pointer (some ⟨w.heap.size,0,none⟩),.pointer (some ⟨w.heap.size+1,0,none⟩)] 75)).heap.size by simp;omega);clear t1 m1 t2 m2 hrow hnn LL
  go_enter Tryz.func39,Tryz.ntmps39
  go_wp2_with fail;refine HRD.out.mono ?_;rintro e wk ⟨rfl,hd,kp⟩;have LL:=Hd (show Lies w wk [(w.heap.size,28,#[.float .f64 A1,.float .f64 A2]),((w.heap.size+1),28,#[.float .f64 x1,.float .f64 x2]),((w.heap.size+2),28,#[.float .f64 0,.float .f64 0])] [] from⟨kp.toBl LLR.out.b HSZ.out (Nat.le_refl _),by simp only [List.mem_cons,List.not_mem_nil,or_false,forall_eq_or_imp,forall_eq];exact⟨show Blk wk w.heap.size 28 #[.float .f64 A1,.float .f64 A2] from hd 0 (by omega),show Blk wk (w.heap.size+1) 28 #[.float .f64 x1,.float .f64 x2] from hd 1 (by omega),kp.blk (LLR.out.blk 2 rfl) (by omega)⟩,by simp⟩);clear hd kp LLR HSZ HRD;obtain⟨q1_0,q1_1⟩:=(LL.out.blk 0 rfl).c2
  go_upto_region 12 with fail
  clear ho q1_0 q1_1;replace LL:=Hd (LL.out.loose 2 rfl rfl)
  simp only [List.eraseIdx,List.size_toArray,List.length_cons,List.length_nil,Nat.zero_add,Nat.reduceAdd] at LL
  refine regL LL (fun hHeld=>?_);clear LL;generalize World.drew _=wk at hHeld  ⊢;refine tk 0 ?_ (hv:=by intro W2 hSw;obtain⟨q0,q1⟩:=(hSw.blk 1 rfl).c2;go_simp;(try with_reducible rfl));(try simp only [Act.put,lay]);refine tk 1 ?_;(try simp only [Act.put,lay]);refine tk 2 ?_ (hv:=by intro W2 hSw;obtain⟨q0,q1⟩:=(hSw.blk 0 rfl).c2;go_simp;(try with_reducible rfl));(try simp only [Act.put,lay]);refine tk 4 ?_;(try simp only [Act.put,lay]);refine tk 6 ?_;(try simp only [Act.put,lay]);refine tk 7 ?_ (hv:=by intro W2 hSw;obtain⟨q0,q1⟩:=(hSw.blk 0 rfl).c2;go_simp;(try with_reducible rfl));(try simp only [Act.put,lay]);refine tk 8 ?_;(try simp only [Act.put,lay]);refine rdy 3 (fun KK hKK=>?_);go_simp;refine hKK.out _ _ hHeld (fun _=>?_);clear hKK KK hHeld;rename_i hHeld;(try simp only [Act.put,lay]);refine rdy 5 (fun KK hKK=>?_);go_simp;refine (H1.out _).mono ?_;rintro e wk ⟨rfl,hb1⟩;go_wp2_with fail;refine hKK.out _ _ (hHeld.keep hb1) (fun _=>?_);clear hKK KK hHeld;rename_i hHeld;(try simp only [Act.put,lay]);clear hb1;refine rdy 9 (fun KK hKK=>?_);go_simp;refine (H2.out _).mono ?_;rintro e wk ⟨rfl,hb2⟩;go_wp2_with fail;refine hKK.out _ _ (hHeld.keep hb2) (fun _=>?_);clear hKK KK hHeld;rename_i hHeld;(try simp only [Act.put,lay]);clear hb2;refine rdy 10 (fun KK hKK=>?_);go_simp;refine (HT.out _).mono ?_;rintro e wk ⟨rfl,hb3⟩;go_wp2_with fail;refine hKK.out _ _ (hHeld.keep hb3) (fun _=>?_);clear hKK KK hHeld;rename_i hHeld;(try simp only [Act.put,lay]);clear hb3;refine rdy 11 (fun KK hKK=>?_)
  obtain⟨ha0,hf0,ha1,hf1⟩:=(hHeld.has 0 rfl).sf2;go_simp;have HS_0:=(hHeld.has 0 rfl).laid [.float .f64 r1,.float .f64 r2] rfl;refine hKK.out _ _ (hHeld.over 0 rfl [.float .f64 r1,.float .f64 r2] rfl rfl (by first | omega | exact hHeld.le_of 0 rfl) (by simp<;>omega) (by simp<;>omega)) (fun _=>?_);clear hKK KK hHeld;rename_i hHeld;(try simp only [Act.put,lay]);refine wpAnyH_done (by kernel_rfl) ?_ _;have LB:=Hd hHeld.b;clear hHeld;obtain⟨hk6_0,hk6_1⟩:=HS_0.c2;clear HS_0
  simp [sets] at hk6_0 hk6_1
  go_wp2;refine bodyPost_ret (v:=.agg #[.float .f64 r1,.float .f64 r2]) (by simp [results,Tryz.results39,go_sem,hk6_0,hk6_1]) rfl ?_
  exact⟨rfl,LB.out⟩
set_option maxRecDepth 8000 in
theorem pown_odd(n b1 b2 c1 c2 A1 A2 x1 x2 p1 p2 q1 q2 r1 r2:Nat)(d1 d2:Bool)(w:World)(t1:∀ W,Calls Tryz.prog 102 #[.agg #[.float .f64 b1,.float .f64 b2]] W fun e w'=>e=.returned (.agg #[.float .f64 A1,.float .f64 A2])∧Below W.heap.size W w')(m1:Em d1 A1 A2)(t2:∀ W,Calls Tryz.prog 102 #[.agg #[.float .f64 c1,.float .f64 c2]] W fun e w'=>e=.returned (.agg #[.float .f64 x1,.float .f64 x2])∧Below W.heap.size W w')(m2:Em d2 x1 x2)(hn:1≤n)(hn2:n≤1024)(hp:n % 2=1)(hnn:(d1 || d2)=false)
  (h1:∀ W,Calls Tryz.prog 105 #[.float .f64 A1,.int .i64 (n:Int)] W fun e w'=>e=.returned (.agg #[.float .f64 p1,.float .f64 p2])∧Below W.heap.size W w')(h2:∀ W,Calls Tryz.prog 105 #[.float .f64 A2,.int .i64 (n:Int)] W fun e w'=>e=.returned (.agg #[.float .f64 q1,.float .f64 q2])∧Below W.heap.size W w')(ht:∀ W,Calls Tryz.prog 77 #[.agg #[.float .f64 x1,.float .f64 x2],.agg #[.float .f64 p1,.float .f64 p2],.agg #[.float .f64 q1,.float .f64 q2],.bool false] W fun e w'=>e=.returned (.agg #[.float .f64 r1,.float .f64 r2])∧Below W.heap.size W w'):
  Calls Tryz.prog 39 #[.int .i64 (n:Int),.agg #[.float .f64 b1,.float .f64 b2],.agg #[.float .f64 c1,.float .f64 c2]] w fun e w'=>e=.returned (.agg #[.float .f64 r1,.float .f64 r2])∧Below w.heap.size w w':=by
 have n1:¬ (n:Int) < -1024:=by omega
 have n2:¬ (1024:Int)<(n:Int):=by omega
 have n3:((n:Int) == 0)=false:=by simp;omega
 have n4:¬ (n:Int)<0:=by omega
 have n5:(n:Int) % 2=1:=by omega
 clear hn hn2 hp;have H1:=Hd h1;have H2:=Hd h2;have HT:=Hd ht;clear h1 h2 ht;have LL:=li3 w #[.float .f64 b1,.float .f64 b2] 28 #[.float .f64 c1,.float .f64 c2] 28 #[.float .f64 0,.float .f64 0] 28;have hrow:=Blk.at (W:=(((w.alloc (.cells #[.float .f64 b1,.float .f64 b2] 28)).alloc (.cells #[.float .f64 c1,.float .f64 c2] 28)).alloc (.cells #[.float .f64 0,.float .f64 0] 28))) (g:=w.heap.size+1+1+1) (by simp) 75 #[.pointer (some ⟨w.heap.size,0,none⟩),.pointer (some ⟨w.heap.size+1,0,none⟩)]
 have HRD:=Hd (read_n w.heap.size 2 (w.heap.size+1+1+1) 2 (fun k:Nat=>if k=0 then (b1,b2) else (c1,c2)) (fun k:Nat=>if k=0 then (A1,A2) else (x1,x2)) (fun k:Nat=>if k=0 then d1 else d2) _ (by omega) (by omega)
  (fun k hk=>by match k,hk with | 0,_=>exact hrow.cell 0 | 1,_=>exact hrow.cell 1) (fun k hk=>by match k,hk with | 0,_=>exact (LL.out.blk 0 rfl).alloc (.cells #[.pointer (some ⟨w.heap.size,0,none⟩),.pointer (some ⟨w.heap.size+1,0,none⟩)] 75) | 1,_=>exact (LL.out.blk 1 rfl).alloc (.cells #[.pointer (some ⟨w.heap.size,0,none⟩),.pointer (some ⟨w.heap.size+1,0,none⟩)] 75)) (fun k hk=>by match k,hk with | 0,_=>exact t1 | 1,_=>exact t2) (fun k hk=>by match k,hk with | 0,_=>exact m1 | 1,_=>exact m2))
 rw [show anyB (fun k:Nat=>if k=0 then d1 else d2) 2=(d1 || d2) from by simp [anyB],hnn] at HRD;have LLR:=Hd (LL.out.alloc (.cells #[.pointer (some ⟨w.heap.size,0,none⟩),.pointer (some ⟨w.heap.size+1,0,none⟩)] 75));have HSZ:=Hd (show w.heap.size≤(((((w.alloc (.cells #[.float .f64 b1,.float .f64 b2] 28)).alloc (.cells #[.float .f64 c1,.float .f64 c2] 28)).alloc (.cells #[.float .f64 0,.float .f64 0] 28))).alloc (.cells #[.pointer (some ⟨w.heap.size,0,none⟩),.pointer (some ⟨w.heap.size+1,0,none⟩)] 75)).heap.size by simp;omega);clear t1 m1 t2 m2 hrow hnn LL
 go_enter Tryz.func39,Tryz.ntmps39
 go_wp2_with fail;refine HRD.out.mono ?_;rintro e wk ⟨rfl,hd,kp⟩;have LL:=Hd (show Lies w wk [(w.heap.size,28,#[.float .f64 A1,.float .f64 A2]),((w.heap.size+1),28,#[.float .f64 x1,.float .f64 x2]),((w.heap.size+2),28,#[.float .f64 0,.float .f64 0])] [] from⟨kp.toBl LLR.out.b HSZ.out (Nat.le_refl _),by simp only [List.mem_cons,List.not_mem_nil,or_false,forall_eq_or_imp,forall_eq];exact⟨show Blk wk w.heap.size 28 #[.float .f64 A1,.float .f64 A2] from hd 0 (by omega),show Blk wk (w.heap.size+1) 28 #[.float .f64 x1,.float .f64 x2] from hd 1 (by omega),kp.blk (LLR.out.blk 2 rfl) (by omega)⟩,by simp⟩);clear hd kp LLR HSZ HRD
 go_upto_region 13 with fail
 replace LL:=Hd (LL.out.loose 2 rfl rfl)
 simp only [List.eraseIdx,List.size_toArray,List.length_cons,List.length_nil,Nat.zero_add,Nat.reduceAdd] at LL
 refine regL LL (fun hHeld=>?_);clear LL;generalize World.drew _=wk at hHeld  ⊢;refine tk 0 ?_ (hv:=by intro W2 hSw;obtain⟨q0,q1⟩:=(hSw.blk 1 rfl).c2;go_simp;(try with_reducible rfl));(try simp only [Act.put,lay]);refine tk 1 ?_;(try simp only [Act.put,lay]);refine tk 2 ?_ (hv:=by intro W2 hSw;obtain⟨q0,q1⟩:=(hSw.blk 0 rfl).c2;go_simp;(try with_reducible rfl));(try simp only [Act.put,lay]);refine tk 3 ?_;(try simp only [Act.put,lay]);refine tk 5 ?_;(try simp only [Act.put,lay]);refine tk 6 ?_ (hv:=by intro W2 hSw;obtain⟨q0,q1⟩:=(hSw.blk 0 rfl).c2;go_simp;(try with_reducible rfl));(try simp only [Act.put,lay]);refine tk 7 ?_;(try simp only [Act.put,lay]);refine rdy 4 (fun KK hKK=>?_);go_simp;refine (H1.out _).mono ?_;rintro e wk ⟨rfl,hb1⟩;go_wp2_with fail;refine hKK.out _ _ (hHeld.keep hb1) (fun _=>?_);clear hKK KK hHeld;rename_i hHeld;(try simp only [Act.put,lay]);clear hb1;refine rdy 8 (fun KK hKK=>?_);go_simp;refine (H2.out _).mono ?_;rintro e wk ⟨rfl,hb2⟩;go_wp2_with fail;refine hKK.out _ _ (hHeld.keep hb2) (fun _=>?_);clear hKK KK hHeld;rename_i hHeld;(try simp only [Act.put,lay]);clear hb2;refine rdy 9 (fun KK hKK=>?_);go_simp;refine (HT.out _).mono ?_;rintro e wk ⟨rfl,hb3⟩;go_wp2_with fail;refine hKK.out _ _ (hHeld.keep hb3) (fun _=>?_);clear hKK KK hHeld;rename_i hHeld;(try simp only [Act.put,lay]);clear hb3;refine rdy 10 (fun KK hKK=>?_);obtain⟨ha0,hf0,ha1,hf1⟩:=(hHeld.has 0 rfl).sf2;go_simp;have HS_0:=(hHeld.has 0 rfl).laid [.float .f64 r1,.float .f64 r2] rfl;refine hKK.out _ _ (hHeld.over 0 rfl [.float .f64 r1,.float .f64 r2] rfl rfl (by first | omega | exact hHeld.le_of 0 rfl) (by simp<;>omega) (by simp<;>omega)) (fun _=>?_)
 clear hKK KK hHeld;rename_i hHeld;(try simp only [Act.put,lay]);refine wpAnyH_done (by kernel_rfl) ?_ _;have LB:=Hd hHeld.b;clear hHeld;obtain⟨hk6_0,hk6_1⟩:=HS_0.c2;clear HS_0
 simp [sets] at hk6_0 hk6_1
 go_wp2;refine bodyPost_ret (v:=.agg #[.float .f64 r1,.float .f64 r2]) (by simp [results,Tryz.results39,go_sem,hk6_0,hk6_1]) rfl ?_
 exact⟨rfl,LB.out⟩
end
section
open Go.RowKit
theorem nmul_in(A B:Option Addr)(p c q d:Nat)(xs ys:List Nat)(w:World)(hx:U32s w A p c xs)(hy:U32s w B q d ys)(hs1:p≤8589934592)(hs2:q≤8589934592):
  Calls Tryz.prog 252 #[.slice A p c,.slice B q d] w fun e w'=>∃ (D:Option Addr) (n' c':Nat) (ls:List Nat),e=.returned (.slice D n' c')∧U32s w' D n' c' ls∧num ls=num xs*num ys∧n'=p+q∧Below w.heap.size w w':=by
 have HX:=Hd hx;have HY:=Hd hy;have l1:=wlen_le xs;have l2:=wlen_le ys;rw [hx.len] at l1;rw [hy.len] at l2;have HP:=Hd l1;have HQ:=Hd l2;clear hx hy l1 l2;have hmk:=fun W=>make_u32 (N:=(p:Int)+(q:Int)) (n:=p+q) (by omega) (by omega) W
 go_enter Tryz.func252,Tryz.ntmps252
 go_wp2
 go_loopw [6,7,20] (fun _ _ jv wr=>∃ (j:Nat) (ls:List Nat),jv=.int .i64 j∧j≤q∧TimesOut xs ys ls p q j∧Arr wr w.heap.size ls∧Below w.heap.size w wr) (fun _ _ jv _=>q - (intOf jv).toNat)
 case atStart=>exact⟨0,_,rfl,Nat.zero_le _,TimesOut.start _ _ _ _,Arr.zeros _ _,below_alloc _ _⟩
 case round=>
  obtain⟨j,ls,rfl,hj,hinv,harr,hb⟩:=hrel;have HI:=Hd hinv;have HA:=Hd harr;clear hinv harr hmk;have hbs:=hb.size
  by_cases hlt:j<q
  ·obtain⟨ad',e,hc'⟩:=(HY.out.below hb).cell (j:=j) (by omega)
   cases e
   have hy1:=HY.out.lt j
   by_cases hy0:ys[j]?.getD 0=0
   ·rw [hy0] at hc';have HZ:=Hd hy0;clear hy0;go_wp2
    go_roundw
    case rel=>exact⟨j+1,ls,by go_num,hlt,HI.out.skip HZ.out,HA.out,hb⟩
    case measure=>simp [intOf];omega
   ·obtain⟨y,hy⟩:∃ y,ys[j]?.getD 0=y:=⟨_,rfl⟩
    rw [hy] at hc' hy1 hy0;have HYY:=Hd hy
    have hy2:((y:Int) == 0)=false:=by simp;omega
    clear hy hy0
    obtain⟨wo,rfl⟩:∃ wo:World,wo=wr:=⟨_,rfl⟩
    have b0:(0:Int)≤(j:Int):=by omega
    have b1:(j:Int)≤(j:Int)+(p:Int)+1:=by omega
    have b2:(j:Int)+(p:Int)+1≤((p+q:Nat):Int):=by omega
    go_wp2
    go_loopw [8,10,11,37] (fun cv _ _ iv wr=>∃ (i k:Nat) (ls':List Nat),iv=.int .i64 i∧cv=.int .u64 k∧i≤p∧TimesIn xs ls' ls p q j i y k∧Arr wr w.heap.size ls'∧Below w.heap.size w wr) (fun _ _ _ iv _=>p - (intOf iv).toNat)
    case atStart=>exact⟨0,0,ls,rfl,rfl,Nat.zero_le _,TimesIn.start y HI.out,HA.out,hb⟩
    case round=>
     clear hb hbs HA hc';obtain⟨i,k,ls',rfl,rfl,hi,hin,harr,hb⟩:=hrel;have hk:=hin.2.2.2.1;have HIN:=Hd hin;have HA:=Hd harr;clear hin harr
     by_cases hlt2:i<p
     ·obtain⟨ad,e,hc⟩:=(HX.out.below hb).cell (j:=i) (by omega)
      cases e
      have hx1:=HX.out.lt i;have hc2:=HA.out.cell (j:=i+j) (by rw [HIN.out.2.1];omega);have hf2:=HA.out.frozen (i+j);have hl1:ls'[i+j]?.getD 0<4294967296:=HIN.out.1.get (i+j)
      obtain⟨x,hx⟩:∃ x,xs[i]?.getD 0=x:=⟨_,rfl⟩
      obtain⟨l,hl⟩:∃ l,ls'[i+j]?.getD 0=l:=⟨_,rfl⟩
      rw [hx] at hc hx1;rw [hl] at hc2 hl1;rw [Nat.add_comm i j] at hc2 hf2;have HXX:=Hd hx;have HLL:=Hd hl;clear hx hl;have hz1:x*y≤4294967295*4294967295:=Nat.mul_le_mul (by omega) (by omega)
      obtain⟨z,hz⟩:∃ z,x*y=z:=⟨_,rfl⟩
      rw [hz] at hz1
      have e1:(x:Int)*(y:Int)=(z:Int):=by rw [← hz];simp
      have HZ:=Hd hz;clear hz
      have b3:(i:Int)<((p+1:Nat):Int):=by omega
      go_wp2
      go_roundw
      case rel=>
       refine⟨i+1,(k+l+z) / 4294967296,ls'.set (i+j) ((k+l+z) % 4294967296),by go_num,?_,by omega,?_,?_,hb.setCell (Nat.le_refl _) _⟩
       ·rw [show (k:Int)+((z:Int)+(l:Int))=((k+l+z:Nat):Int) from by omega];go_num
       ·exact HIN.out.step hlt2 hlt HX.out.w32 hy1 (by rw [HXX.out,HLL.out,HZ.out])
       ·have:=HA.out.set (i+j) ((k+l+z) % 4294967296);rw [show ((k:Int)+((z:Int)+(l:Int))) % 4294967296=(((k+l+z) % 4294967296:Nat):Int) from by omega,Nat.add_comm j i]
        exact this
      case measure=>simp [intOf];omega
     ·obtain rfl:i=p:=by omega
      have hc2:=HA.out.cell (j:=j+i) (by rw [HIN.out.2.1];omega);have hf2:=HA.out.frozen (j+i)
      have hk2:(k:Int) % 4294967296=(k:Int):=by omega
      have b3:(i:Int)<((i+1:Nat):Int):=by omega
      obtain⟨l,hl⟩:∃ l,ls'[j+i]?.getD 0=l:=⟨_,rfl⟩
      rw [hl] at hc2;clear hl;go_wp2
      go_roundw
      case rel=>
       exact⟨j+1,ls'.set (j+i) k,by go_num,hlt,HIN.out.done HI.out hlt HP.out HYY.out,HA.out.set _ _,hb.setCell (Nat.le_refl _) _⟩
      case measure=>simp [intOf];omega
  ·obtain rfl:j=q:=by omega
   have hnum:=HI.out.done HQ.out;have hu:=HA.out.u32s' HI.out.1 HI.out.2.1 (by omega);have HU:=Hd hu;clear hu;go_wp2
   go_ret
   exact⟨_,_,_,_,rfl,HU.out,hnum,rfl,hb⟩
theorem nmul_any(A B:Option Addr)(n c m d:Nat)(xs ys:List Nat)(w:World)(hx:U32s w A n c xs)(hy:U32s w B m d ys)(hl:wlen xs+wlen ys≤16384)(hbl:blen (num xs)+blen (num ys)≤524289):
  Calls Tryz.prog 229 #[.slice A n c,.slice B m d] w (NewU32E w (digs (num xs*num ys))):=by
 obtain⟨w1,hw1⟩:∃ w1,w.alloc (.cells #[.slice A n c,.slice B m d] 40)=w1:=⟨_,rfl⟩
 have hb1:Below w.heap.size w w1:=by rw [← hw1];exact below_alloc w _
 have hx1:=hx.below hb1;have hy1:=hy.below hb1;have hlong:=long_two w.heap.size A n c xs B m d ys w1 hx1 (by rw [← hw1];simp [World.cell?_alloc_new]) (by omega) hy1 (by rw [← hw1];simp [World.cell?_alloc_new]) (by omega);have HLG:=Hd hlong;have HL1:=Hd (nlen_any A n c xs w1 hx1);have HL2:=Hd (nlen_any B m d ys w1 hy1);have HQ1:=Hd fun W (h:U32s W A n c xs)=>nwords_any A n c xs W h;have HQ2:=Hd fun W (h:U32s W B m d ys)=>nwords_any B m d ys W h;have cc1:=hx.cap;have cc2:=hy.cap;have n1:=hx.small;have n2:=hy.small;have l1:=wlen_le xs;have l2:=wlen_le ys;rw [hx.len] at l1;rw [hy.len] at l2;have e1:=num_trim xs;have e2:=num_trim ys;rw [trim_eq_take] at e1 e2;have HX0:=hx1.take l1;have HY0:=hy1.take l2
 obtain⟨p,hp⟩:∃ p,wlen xs=p:=⟨_,rfl⟩
 obtain⟨q,hq⟩:∃ p,wlen ys=p:=⟨_,rfl⟩
 obtain⟨b1,hB1⟩:∃ p,blen (num xs)=p:=⟨_,rfl⟩
 obtain⟨b2,hB2⟩:∃ p,blen (num ys)=p:=⟨_,rfl⟩
 rw [hp] at HQ1 l1 hl e1 HX0;rw [hq] at HQ2 l2 hl e2 HY0;rw [hB1] at HL1 hbl;rw [hB2] at HL2 hbl
 obtain⟨us,hus⟩:∃ l,xs.take p=l:=⟨_,rfl⟩
 obtain⟨vs,hvs⟩:∃ l,ys.take q=l:=⟨_,rfl⟩
 rw [hus] at e1 HX0;rw [hvs] at e2 HY0;rw [← e1,← e2];have hlt1:=num_lt HX0.w32;have hlt2:=num_lt HY0.w32;rw [HX0.len] at hlt1;rw [HY0.len] at hlt2
 have HM:=Hd (show ∀ W,U32s W A p c us→U32s W B q d vs→Calls Tryz.prog 252 #[.slice A p c,.slice B q d] W fun e w'=>∃ (D:Option Addr) (n' c':Nat) (ls:List Nat),e=.returned (.slice D n' c')∧U32s w' D n' c' ls∧num ls=num us*num vs∧wlen ls≤16384∧Below W.heap.size W w' from
  fun W h1 h2=>(nmul_in A B p c q d us vs W h1 h2 (by omega) (by omega)).mono fun e w' ⟨D,n',c',ls,he,hu,hv,hn,hb⟩=>
   ⟨D,n',c',ls,he,hu,hv,Nat.le_trans (wlen_lt hu.w32 (K:=p+q) (by
    rw [hv,Nat.mul_add,Nat.pow_add]
    exact Nat.lt_of_le_of_lt (Nat.mul_le_mul_left _ (Nat.le_of_lt hlt2)) ((Nat.mul_lt_mul_right (Nat.two_pow_pos _)).2 hlt1))) hl,hb⟩)
 have HF:=Hd fun W (D:Option Addr) (n' c':Nat) (ls:List Nat) (h:U32s W D n' c' ls) (hl:wlen ls≤16384)=>fit_any D n' c' ls W h hl;have HX1:=Hd hx1;have HY1:=Hd hy1;have HU1:=Hd HX0;have HU2:=Hd HY0;have HB1:=Hd hb1;have HW1:=Hd hw1
 have pc:p≤c:=by omega
 have qd:q≤d:=by omega
 have hbi:¬ ((524289:Int)<(b1:Int)+(b2:Int)):=by omega
 clear hx hy hx1 hy1 hlong hb1 hp hq e1 e2 HX0 HY0 hus hvs hw1 hlt1 hlt2 hB1 hB2
 go_enter Tryz.func229,Tryz.ntmps229
 go_wp2_with fail;rw [HW1.out];refine HLG.out.mono ?_;rintro e w' ⟨rfl,rfl⟩;go_wp2_with fail;refine HL1.out.mono ?_;rintro e w' ⟨rfl,rfl⟩;go_wp2_with fail;refine HL2.out.mono ?_;rintro e w' ⟨rfl,rfl⟩;have LL:=Hd (show Lies w1 w1 [] [] from⟨Below.refl _ _,by simp,by simp⟩)
 go_upto_region 3 with fail
 refine regL LL (fun hHeld=>?_);clear LL;replace HX1:=Hd (HX1.out.below (Below.refl _ _).drew);replace HY1:=Hd (HY1.out.below (Below.refl _ _).drew);replace HU1:=Hd (HU1.out.below (Below.refl _ _).drew);replace HU2:=Hd (HU2.out.below (Below.refl _ _).drew);generalize World.drew _=wk at hHeld HX1 HY1 HU1 HU2 ⊢;refine tk 0 ?_;(try simp only [Act.put,lay]);refine tk 1 ?_;(try simp only [Act.put,lay]);refine tk 4 ?_;(try simp only [Act.put,lay]);refine tk 5 ?_;(try simp only [Act.put,lay]);refine rdy 2 (fun KK hKK=>?_);go_simp;refine (HQ1.out _ HX1.out).mono ?_;rintro e wk ⟨rfl,rfl⟩;go_wp2_with fail;refine hKK.out _ _ (hHeld.keep (Below.refl _ _)) (fun _=>?_);clear hKK KK hHeld;rename_i hHeld;(try simp only [Act.put,lay]);replace HX1:=Hd (HX1.out.below (Below.refl _ _));replace HY1:=Hd (HY1.out.below (Below.refl _ _));replace HU1:=Hd (HU1.out.below (Below.refl _ _));replace HU2:=Hd (HU2.out.below (Below.refl _ _));(try replace HU:=Hd (HU.out.below (Below.refl _ _)));refine tk 3 ?_;(try simp only [Act.put,lay]);refine rdy 6 (fun KK hKK=>?_);go_simp;refine (HQ2.out _ HY1.out).mono ?_;rintro e wk ⟨rfl,rfl⟩;go_wp2_with fail;refine hKK.out _ _ (hHeld.keep (Below.refl _ _)) (fun _=>?_);clear hKK KK hHeld;rename_i hHeld;(try simp only [Act.put,lay]);replace HX1:=Hd (HX1.out.below (Below.refl _ _));replace HY1:=Hd (HY1.out.below (Below.refl _ _));replace HU1:=Hd (HU1.out.below (Below.refl _ _));replace HU2:=Hd (HU2.out.below (Below.refl _ _))
 (try replace HU:=Hd (HU.out.below (Below.refl _ _)));refine tk 7 ?_;(try simp only [Act.put,lay]);refine rdy 8 (fun KK hKK=>?_);go_simp;refine (HM.out _ HU1.out HU2.out).mono ?_;rintro e wk ⟨D,n2,c2,ls,rfl,hu,hnum,hwl,hb⟩;go_wp2_with fail;refine hKK.out _ _ (hHeld.keep hb) (fun _=>?_);clear hKK KK hHeld;rename_i hHeld;(try simp only [Act.put,lay]);replace HX1:=Hd (HX1.out.below hb);replace HY1:=Hd (HY1.out.below hb);replace HU1:=Hd (HU1.out.below hb);replace HU2:=Hd (HU2.out.below hb);have HU:=Hd hu;clear hu;clear hb;refine rdy 9 (fun KK hKK=>?_);go_simp;refine (HF.out _ _ _ _ _ HU.out hwl).mono ?_;rintro e wk ⟨rfl,rfl⟩;go_wp2_with fail;refine hKK.out _ _ (hHeld.keep (Below.refl _ _)) (fun _=>?_);clear hKK KK hHeld;rename_i hHeld;(try simp only [Act.put,lay]);replace HX1:=Hd (HX1.out.below (Below.refl _ _));replace HY1:=Hd (HY1.out.below (Below.refl _ _));replace HU1:=Hd (HU1.out.below (Below.refl _ _));replace HU2:=Hd (HU2.out.below (Below.refl _ _));(try replace HU:=Hd (HU.out.below (Below.refl _ _)));refine tk 10 ?_;(try simp only [Act.put,lay]);refine tk 11 ?_;(try simp only [Act.put,lay]);refine tk 12 ?_;(try simp only [Act.put,lay]);refine tk 13 ?_;(try simp only [Act.put,lay]);refine wpAnyH_done (by kernel_rfl) ?_ _;have LL:=Hd hHeld;clear hHeld;go_wp2
 go_ret2
 have hd:=HU.out.cutd;rw [hnum] at hd
 exact⟨_,_,_,rfl,hd,HB1.out.trans (LL.out.b.mono HB1.out.size)⟩
end
section
open Go.RowKit
theorem npow_any(A:Option Addr)(n c N:Nat)(xs:List Nat)(w:World)(hx:U32s w A n c xs)(hl:wlen xs≤16384)(hN:N≤4096)(hb:blen (num xs)*N≤500000):
  Calls Tryz.prog 251 #[.slice A n c,.int .i64 (N:Int)] w (NewU32E w (digs (num xs ^ N))):=by
 obtain⟨w1,hw1⟩:∃ w1,w.alloc (.cells #[.slice A n c] 40)=w1:=⟨_,rfl⟩
 have hb1:Below w.heap.size w w1:=by rw [← hw1];exact below_alloc w _
 have hx1:=hx.below hb1;have hlg:=long_one w.heap.size A n c xs w1 hx1 (by rw [← hw1];simp [World.cell?_alloc_new]) hl;have hnn:=Nat.le_trans (digs_length_le (num_lt_wlen hx.w32)) hl;have hn0:=nnorm_any A n c xs w1 hx1;have hln:=fun W (hb:Below w1.heap.size w1 W)=>nlen_any A n c xs W (hx1.below hb)
 obtain⟨X,hX⟩:∃ X,num xs=X:=⟨_,rfl⟩
 rw [hX] at hb hnn hn0 hln ⊢
 obtain⟨K,hK⟩:∃ K,blen X=K:=⟨_,rfl⟩
 rw [hK] at hb hln
 have hXK:X<2^K:=by rw [← hK];exact blen_le_iff.1 (Nat.le_refl _)
 have HLG:=Hd hlg;have HN:=Hd hn0;have HL:=Hd hln;have HB1:=Hd hb1;have HW1:=Hd hw1;have HK:=Hd hK;have HXK:=Hd hXK;have HNN:=Hd hnn;have HBB:=Hd hb;have HM:=Hd fun (W:World) (Ap Ax:Option Addr) (np cp nx cx P X:Nat) (h1:U32s W Ap np cp (digs P)) (h2:U32s W Ax nx cx (digs X)) (h3:np≤16384) (h4:nx≤16384)=>nmul_in Ap Ax np cp nx cx (digs P) (digs X) W h1 h2 (by omega) (by omega);have HC:=Hd fun (W:World) (D:Option Addr) (n c:Nat) (ls:List Nat) (h:U32s W D n c ls)=>cut_any D n c ls W h;have hAND:=fun (j:Nat) (hj:j≤4096)=>and_one j (by omega);have HAND:=Hd hAND;clear hx hx1 hlg hnn hn0 hln hX hK hXK hb hl hb1 hw1 hAND
 go_enter Tryz.func251,Tryz.ntmps251
 go_wp2_with fail;rw [HW1.out];refine HLG.out.mono ?_;rintro e w' ⟨rfl,rfl⟩;go_wp2_with fail;refine HN.out.mono ?_;rintro e w2 ⟨g,nn,rfl,hl2,ha,hg,hb2⟩;have hnn:=HNN.out;have HU:=Hd (ha.u32s' (W32.digs _) hl2 (by omega));have HNB:=Hd (show nn≤16384 by omega);have HB2:=Hd hb2;clear hl2 ha hg hb2 hnn HNN HN HLG;go_wp2_with fail;refine (HL.out _ HB2.out).mono ?_;rintro e w' ⟨rfl,rfl⟩;have HB3:=Hd (HB1.out.trans (HB2.out.mono HB1.out.size));clear HL HB1 HB2 HW1
 rcases Nat.eq_zero_or_pos N with h0 | h0
 ·subst h0;go_wp2
  go_ret2
  exact⟨_,1,1,rfl,by rw [Nat.pow_zero,digs_one];exact U32s.lit1 w2 117 (a:=1) (by omega),HB3.out.alloc HB3.out.size _⟩
 have hz:((N:Int) == 0)=false:=by simp;omega
 by_cases hK2:K<2
 ·have hk2:(K:Int)<2:=by omega
  have hXN:X ^ N=X:=by
   have h:=HXK.out;have h2:(2:Nat) ^ K≤2 ^ 1:=Nat.pow_le_pow_right (by omega) (by omega)
   rcases (show X=0∨X=1 by omega) with h | h
   ·rw [h,Nat.zero_pow h0]
   ·rw [h,Nat.one_pow]
  have HXI:=Hd hXN;clear hXN hK2;go_wp2
  go_ret2
  exact⟨_,nn,nn,rfl,by rw [HXI.out];exact HU.out,HB3.out⟩
 have hk2:¬ (K:Int)<2:=by omega
 have hX0:0<X:=by
  rcases Nat.eq_zero_or_pos X with h | h
  ·have:=HK.out;rw [h,blen_zero] at this;omega
  ·exact h
 have HX0:=Hd hX0
 have hq:N≤524288 / (K - 1):=by
  rw [Nat.le_div_iff_mul_le (by omega)];have:=HBB.out
  obtain⟨K1,rfl⟩:∃ K1,K=K1+1:=⟨K - 1,by omega⟩
  rw [Nat.mul_comm,Nat.add_sub_cancel];rw [Nat.add_mul,Nat.one_mul] at this
  omega
 obtain⟨K1,hK1⟩:∃ K1,K - 1=K1:=⟨_,rfl⟩
 rw [hK1] at hq
 obtain⟨Q,hQ⟩:∃ Q,524288 / K1=Q:=⟨_,rfl⟩
 rw [hQ] at hq
 have hKL:K≤524288:=by
  have:=HBB.out;have:=Nat.mul_le_mul_left K h0
  omega
 have hk3:wrap64 ((K:Int) - 1)=(K1:Int):=by unfold wrap64;omega
 have hk4:¬ (K1:Int)=0:=by omega
 have hq1:(524288:Int) / (K1:Int)=(Q:Int):=by rw [← hQ];rfl
 have hq2:(524288:Int).tdiv (K1:Int)=(Q:Int):=by rw [Int.tdiv_eq_ediv_of_nonneg (by omega)];exact hq1
 have hq5:(524288:Int) / ((K:Int) - 1)=(Q:Int):=by rw [show ((K:Int) - 1)=(K1:Int) from by omega];exact hq1
 have hq3:¬ ((Q:Int)<(N:Int)):=by omega
 have hQ2:Q≤524288:=by rw [← hQ];exact Nat.div_le_self _ _
 have hq4:wrap64 (Q:Int)=(Q:Int):=by unfold wrap64;omega
 clear hK1 hQ hq hQ2
 obtain⟨S,hS⟩:∃ S:Nat,S=15626:=⟨_,rfl⟩
 have HXN:=Hd (show X ^ N<2 ^ (32*S) from by
  calc X ^ N≤(2 ^ K) ^ N:=Nat.pow_le_pow_left (Nat.le_of_lt HXK.out) N
   _=2 ^ (K*N):=by rw [Nat.pow_mul]
   _<2 ^ (32*S):=Nat.pow_lt_pow_right (by omega) (by have:=HBB.out;omega))
 have HS:=Hd hS;clear hX0 hK2 hS HBB HXK HK;go_wp2
 simp only [show decide (Q<N)=false from decide_eq_false (by omega)]
 go_loopw [1,6,8] (fun jv xv pv wr=>∃ (j P Y:Nat) (Ap Ax:Option Addr) (np nx cp cx:Nat),jv=.int .i64 j∧xv=.slice Ax nx cx∧pv=.slice Ap np cp∧(1≤j∧j≤N)∧PowInv X N P Y j ∧
  U32s wr Ap np cp (digs P)∧U32s wr Ax nx cx (digs Y)∧(np≤16384∧nx≤16384)∧Below w.heap.size w wr) (fun jv _ _ _=>(intOf jv).toNat)
 case atStart=>exact⟨N,1,X,some ⟨w2.heap.size,0,none⟩,some ⟨g,0,none⟩,1,nn,1,nn,rfl,rfl,rfl,⟨h0,Nat.le_refl _⟩,by unfold PowInv;rw [Nat.one_mul],by rw [digs_one];exact U32s.lit1 w2 117 (a:=1) (by omega),HU.out.alloc _,⟨by omega,HNB.out⟩,HB3.out.alloc HB3.out.size _⟩
 case round=>
  obtain⟨j,P,Y,Ap,Ax,np,nx,cp,cx,rfl,rfl,rfl,hj,hinv,hp,hx,⟨hnp,hnx⟩,hb⟩:=hrel;have HI:=Hd hinv;have HP:=Hd hp;have HX:=Hd hx;have HBB:=Hd hb;clear hinv hp hx hb HU HB3 HNB hk2 hk3 hk4 hq1 hq2 hq3 hq4 hq5 hKL
  by_cases hodd:j % 2=1
  ·have ga:bits .and .i64 (j:Int) 1=1:=by rw [HAND.out j (by omega),hodd];rfl
   have HT:=Hd (HM.out _ Ap Ax np cp nx cx P Y HP.out HX.out hnp hnx);go_wp2_with fail;refine HT.out.mono ?_;rintro e w4 ⟨D4,n4,c4,ls4,rfl,hu4,hv4,hn4,hb4⟩;rw [num_digs,num_digs] at hv4;have HC4:=Hd (HC.out _ D4 n4 c4 ls4 hu4);have hp4:=hu4.cutd;rw [hv4] at hp4;have HP4:=Hd hp4;have HX4:=Hd (HX.out.below hb4);have HB4:=Hd (HBB.out.trans (hb4.mono HBB.out.size))
   have hl4:wlen ls4≤16384:=by
    have h:=digs_length_le (Nat.lt_of_le_of_lt (HI.out.le_px HX0.out (show 0<j by omega)) HXN.out);rw [hp4.len] at h;have:=HS.out;omega
   have HL4:=Hd hl4;clear hu4 hv4 hn4 hb4 hp4 HT HP HX HBB hl4;go_wp2_with fail;refine HC4.out.mono ?_;rintro e w' ⟨rfl,rfl⟩;clear HC4
   obtain⟨k4,hk4⟩:∃ k,wlen ls4=k:=⟨_,rfl⟩
   rw [hk4] at HP4 HL4 ⊢;clear hk4;have hk4:=HL4.out
   have HJ2:=Hd (show (j<2→P*Y=X ^ N)∧PowInv X N (P*Y) (Y*Y) (j / 2) from⟨fun h=>by
    have h2:=HI.out.odd hodd;rw [show j / 2=0 by omega] at h2
    exact h2.done,HI.out.odd hodd⟩)
   clear ga hodd
   by_cases hj1:j<2
   ·have gz:(j:Int) / 2=0:=by omega
    have e:P*Y=X ^ N:=HJ2.out.1 hj1;rw [e] at HP4;clear HM HC HAND hj1 e HJ2;go_wp2
    go_ret2
    exact⟨D4,k4,k4,rfl,HP4.out,HB4.out⟩
   ·have gz:¬ (j:Int) / 2=0:=by omega
    have HT2:=Hd (HM.out _ Ax Ax nx cx nx cx Y Y HX4.out HX4.out hnx hnx);go_wp2_with fail;refine HT2.out.mono ?_;rintro e w5 ⟨D5,n5,c5,ls5,rfl,hu5,hv5,hn5,hb5⟩
    simp only [num_digs] at hv5
    have HC5:=Hd (HC.out _ D5 n5 c5 ls5 hu5);have hx5:=hu5.cutd;rw [hv5] at hx5;have HX5:=Hd hx5;have HP5:=Hd (HP4.out.below hb5);have HB5:=Hd (HB4.out.trans (hb5.mono HB4.out.size))
    have HL5:=Hd (show wlen ls5≤16384 from by
     have h:=digs_length_le (Nat.lt_of_le_of_lt (HI.out.le_xx HX0.out (show 2≤j by omega)) HXN.out);rw [hx5.len] at h
     have:=HS.out;omega)
    clear hu5 hv5 hn5 hb5 hx5 HT2 HP4 HX4 HB4;go_wp2_with fail;refine HC5.out.mono ?_;rintro e w' ⟨rfl,rfl⟩;clear HC5
    obtain⟨k5,hk5⟩:∃ k,wlen ls5=k:=⟨_,rfl⟩
    rw [hk5] at HX5 HL5 ⊢;go_wp2
    go_roundw
    case rel=>exact⟨j / 2,_,_,D4,D5,k4,k5,_,_,by go_num,rfl,rfl,by omega,HJ2.out.2,HP5.out,HX5.out,⟨by omega,HL5.out⟩,HB5.out⟩
    case measure=>simp [intOf];omega
  ·have ga:bits .and .i64 (j:Int) 1=0:=by rw [HAND.out j (by omega),show j % 2=0 by omega];rfl
   have HJ2:=Hd (show (j<2→P=X ^ N)∧PowInv X N P (Y*Y) (j / 2) from⟨fun h=>by omega,HI.out.even (by omega)⟩);clear hodd
   by_cases hj1:j<2
   ·have gz:(j:Int) / 2=0:=by omega
    have e:P=X ^ N:=HJ2.out.1 hj1;rw [e] at HP;clear HM HC HAND hj1 e HJ2;go_wp2
    go_ret2
    exact⟨Ap,np,cp,rfl,HP.out,HBB.out⟩
   ·have gz:¬ (j:Int) / 2=0:=by omega
    have HT2:=Hd (HM.out _ Ax Ax nx cx nx cx Y Y HX.out HX.out hnx hnx);go_wp2_with fail;refine HT2.out.mono ?_;rintro e w5 ⟨D5,n5,c5,ls5,rfl,hu5,hv5,hn5,hb5⟩
    simp only [num_digs] at hv5
    have HC5:=Hd (HC.out _ D5 n5 c5 ls5 hu5);have hx5:=hu5.cutd;rw [hv5] at hx5;have HX5:=Hd hx5;have HP5:=Hd (HP.out.below hb5);have HB5:=Hd (HBB.out.trans (hb5.mono HBB.out.size))
    have HL5:=Hd (show wlen ls5≤16384 from by
     have h:=digs_length_le (Nat.lt_of_le_of_lt (HI.out.le_xx HX0.out (show 2≤j by omega)) HXN.out);rw [hx5.len] at h
     have:=HS.out;omega)
    clear hu5 hv5 hn5 hb5 hx5 HT2 HP HX HBB;go_wp2_with fail;refine HC5.out.mono ?_;rintro e w' ⟨rfl,rfl⟩;clear HC5
    obtain⟨k5,hk5⟩:∃ k,wlen ls5=k:=⟨_,rfl⟩
    rw [hk5] at HX5 HL5 ⊢;go_wp2
    go_roundw
    case rel=>exact⟨j / 2,_,_,Ap,D5,np,k5,_,_,by go_num,rfl,rfl,by omega,HJ2.out.2,HP5.out,HX5.out,⟨by omega,HL5.out⟩,HB5.out⟩
    case measure=>simp [intOf];omega
end
end Go.Proofs.YthlmlmfebpjgdaaGreatDoor
