/-
Walks: the reference's steps: where the reals begin and end of which a step makes a whole number.
-/
import Derived.Test.YtfcpabgampebaaaGreatM11
import Derived.Test.YtfcpabgampebaaaGreatM03
import Derived.Deep.DeepCutAuto
set_option linter.unusedSimpArgs false
set_option linter.unusedVariables false
set_option maxHeartbeats 12800000
namespace Go.Proofs.YtfcpabgampebaaaGreat
open Go.RowKit
theorem int_any(a:Int)(w:World)(ha:a=-1∨a=0∨a=1∨a=2):Calls Tryz.prog 48 #[.int .i64 a] w (NewRatS w 1 (a:Rat)):=by
 rcases ha with rfl | rfl | rfl | rfl
 ·exact (int_mone w).mono fun _ _ h=>h.s (K:=1) (by omega) (by decide)
 ·exact (int_nat 0 w (by omega)).mono fun _ _ h=>h.s
 ·exact (int_nat 1 w (by omega)).mono fun _ _ h=>h.s
 ·exact (int_nat 2 w (by omega)).mono fun _ _ h=>h.s
theorem moved_any{g:Bool}{A:Option Addr}{n c:Nat}{B:Option Addr}{m d:Nat}{x:Rat}{w:World}(h:RatV w 34 g (.slice A n c) (.slice B m d) x)(a b:Int)(op:Bool)(ha:a=-1∨a=0∨a=1)(hb:b=1∨b=2):
  Calls Tryz.prog 56 #[.agg #[.bool g,.slice A n c,.slice B m d],.int .i64 a,.int .i64 b,.bool op] w (NewBd w 69 0 (x+(a:Rat) / (b:Rat)) 1 op):=by
 have hb0:(b:Rat)≠0:=by rcases hb with rfl | rfl<;>decide
 exact moved_walk g A n c B m d a b op 2 69 _ _ _ _ w (fun W=>int_any a W (by omega)) (fun W=>int_any b W (by omega))
  (fun g2 A2 n2 c2 B2 m2 d2 g3 A3 n3 c3 B3 m3 d3 W h2 h3=>(rquo_v 1 g2 _ _ _ g3 _ _ _ W h2 h3 (by omega) (by omega) hb0).mono fun _ _ h=>h.s)
  (fun g2 A2 n2 c2 B2 m2 d2 W hW h2=>(radd_v 34 g _ _ x g2 _ _ _ W (h.below hW) (h2.mono (by omega)) (by omega)).mono fun _ _ h=>h.s)
set_option maxRecDepth 8000 in
theorem first_exact(g:Bool)(A:Option Addr)(n c:Nat)(B:Option Addr)(d:Nat)(w:World)(s:Int)(x:Rat)(hsg:∀ W,Below w.heap.size w W→Calls Tryz.prog 52 #[.agg #[.bool g,.slice A n c,.slice B 1 d]] W fun e w'=>e=.returned (.int .i64 s)∧Below W.heap.size W w')(hmv:∀ op W,Below w.heap.size w W→Calls Tryz.prog 56 #[.agg #[.bool g,.slice A n c,.slice B 1 d],.int .i64 0,.int .i64 1,.bool op] W (NewBd W 69 0 x 1 op)):
  Calls Tryz.prog 29 #[.int .i64 1,.agg #[.bool g,.slice A n c,.slice B 1 d]] w (NewBd w 69 0 x 1 false):=by
 have HSG:=Hd hsg;have HMV:=Hd hmv;clear hsg hmv;have LL:=li2 w #[.bool g,.slice A n c,.slice B 1 d] 41 #[.int .i64 0,.bool false,.slice none 0 0,.slice none 0 0,.int .i64 0,.bool false] 51
 go_enter Tryz.func29,Tryz.ntmps29
 obtain⟨q1_0,q1_1,q1_2⟩:=(LL.out.blk 0 rfl).c3;go_wp2_with fail;refine (HSG.out _ LL.out.b).mono ?_;rintro e wk ⟨rfl,hb⟩;replace LL:=stL LL hb;clear hb q1_0 q1_1 q1_2 HSG;obtain⟨q2_0,q2_1,q2_2⟩:=(LL.out.blk 0 rfl).c3;go_wp2_with fail;refine (HMV.out _ _ LL.out.b).mono ?_;rintro e wk ⟨g11,A11,n11,c11,B11,m11,d11,rfl,hr,hb⟩;replace LL:=stL LL hb;have HR:=Hd hr;clear hr hb q2_0 q2_1 q2_2;replace LL:=Hd (LL.out.loose 1 rfl rfl)
 simp only [List.eraseIdx,List.size_toArray,List.length_cons,List.length_nil,Nat.zero_add,Nat.reduceAdd] at LL
 obtain⟨ha4_0,hf4_0,ha4_1,hf4_1,ha4_2,hf4_2,ha4_3,hf4_3,ha4_4,hf4_4,ha4_5,hf4_5⟩:=(LL.out.has 0 rfl).sf6;have LF:=Hd (LL.out.write [.int .i64 0,.bool g11,.slice A11 n11 c11,.slice B11 m11 d11,.int .i64 1,.bool false] rfl (by omega) (by simp<;>omega) (by simp<;>omega));obtain⟨hk4_0,hk4_1,hk4_2,hk4_3,hk4_4,hk4_5⟩:=(LF.out.blk 1 rfl).c6
 simp [sets] at hk4_0 hk4_1 hk4_2 hk4_3 hk4_4 hk4_5
 have FR:=Hd ((LL.out.has 0 rfl).rat HR.out [.int .i64 0,.bool g11,.slice A11 n11 c11,.slice B11 m11 d11,.int .i64 1,.bool false]);clear LL;go_wp2;refine bodyPost_ret (v:=.agg #[.int .i64 0,.bool g11,.slice A11 n11 c11,.slice B11 m11 d11,.int .i64 1,.bool false]) (by simp [results,Tryz.results29,go_sem,hk4_0,hk4_1,hk4_2,hk4_3,hk4_4,hk4_5]) rfl ?_
 exact⟨g11,A11,n11,c11,B11,m11,d11,rfl,FR.out,LF.out.b⟩
set_option maxRecDepth 8000 in
theorem first_shift(g:Bool)(A:Option Addr)(n c:Nat)(B:Option Addr)(d:Nat)(w:World)(s:Int)(x:Rat)(hsg:∀ W,Below w.heap.size w W→Calls Tryz.prog 52 #[.agg #[.bool g,.slice A n c,.slice B 1 d]] W fun e w'=>e=.returned (.int .i64 s)∧Below W.heap.size W w')(hmv:∀ op W,Below w.heap.size w W→Calls Tryz.prog 56 #[.agg #[.bool g,.slice A n c,.slice B 1 d],.int .i64 (-1),.int .i64 1,.bool op] W (NewBd W 69 0 x 1 op)):
  Calls Tryz.prog 29 #[.int .i64 2,.agg #[.bool g,.slice A n c,.slice B 1 d]] w (NewBd w 69 0 x 1 true):=by
 have HSG:=Hd hsg;have HMV:=Hd hmv;clear hsg hmv;have LL:=li2 w #[.bool g,.slice A n c,.slice B 1 d] 41 #[.int .i64 0,.bool false,.slice none 0 0,.slice none 0 0,.int .i64 0,.bool false] 51
 go_enter Tryz.func29,Tryz.ntmps29
 obtain⟨q1_0,q1_1,q1_2⟩:=(LL.out.blk 0 rfl).c3;go_wp2_with fail;refine (HSG.out _ LL.out.b).mono ?_;rintro e wk ⟨rfl,hb⟩;replace LL:=stL LL hb;clear hb q1_0 q1_1 q1_2 HSG;obtain⟨q2_0,q2_1,q2_2⟩:=(LL.out.blk 0 rfl).c3;go_wp2_with fail;refine (HMV.out _ _ LL.out.b).mono ?_;rintro e wk ⟨g11,A11,n11,c11,B11,m11,d11,rfl,hr,hb⟩;replace LL:=stL LL hb;have HR:=Hd hr;clear hr hb q2_0 q2_1 q2_2;replace LL:=Hd (LL.out.loose 1 rfl rfl)
 simp only [List.eraseIdx,List.size_toArray,List.length_cons,List.length_nil,Nat.zero_add,Nat.reduceAdd] at LL
 obtain⟨ha4_0,hf4_0,ha4_1,hf4_1,ha4_2,hf4_2,ha4_3,hf4_3,ha4_4,hf4_4,ha4_5,hf4_5⟩:=(LL.out.has 0 rfl).sf6;have LF:=Hd (LL.out.write [.int .i64 0,.bool g11,.slice A11 n11 c11,.slice B11 m11 d11,.int .i64 1,.bool true] rfl (by omega) (by simp<;>omega) (by simp<;>omega));obtain⟨hk4_0,hk4_1,hk4_2,hk4_3,hk4_4,hk4_5⟩:=(LF.out.blk 1 rfl).c6
 simp [sets] at hk4_0 hk4_1 hk4_2 hk4_3 hk4_4 hk4_5
 have FR:=Hd ((LL.out.has 0 rfl).rat HR.out [.int .i64 0,.bool g11,.slice A11 n11 c11,.slice B11 m11 d11,.int .i64 1,.bool true]);clear LL;go_wp2;refine bodyPost_ret (v:=.agg #[.int .i64 0,.bool g11,.slice A11 n11 c11,.slice B11 m11 d11,.int .i64 1,.bool true]) (by simp [results,Tryz.results29,go_sem,hk4_0,hk4_1,hk4_2,hk4_3,hk4_4,hk4_5]) rfl ?_
 exact⟨g11,A11,n11,c11,B11,m11,d11,rfl,FR.out,LF.out.b⟩
set_option maxRecDepth 8000 in
theorem first_tin(g:Bool)(A:Option Addr)(n c:Nat)(B:Option Addr)(d:Nat)(w:World)(s:Int)(x:Rat)(hs:0<s)(hsg:∀ W,Below w.heap.size w W→Calls Tryz.prog 52 #[.agg #[.bool g,.slice A n c,.slice B 1 d]] W fun e w'=>e=.returned (.int .i64 s)∧Below W.heap.size W w')(hmv:∀ op W,Below w.heap.size w W→Calls Tryz.prog 56 #[.agg #[.bool g,.slice A n c,.slice B 1 d],.int .i64 0,.int .i64 1,.bool op] W (NewBd W 69 0 x 1 op)):
  Calls Tryz.prog 29 #[.int .i64 3,.agg #[.bool g,.slice A n c,.slice B 1 d]] w (NewBd w 69 0 x 1 false):=by
 have HSG:=Hd hsg;have HMV:=Hd hmv;clear hsg hmv;have LL:=li2 w #[.bool g,.slice A n c,.slice B 1 d] 41 #[.int .i64 0,.bool false,.slice none 0 0,.slice none 0 0,.int .i64 0,.bool false] 51
 go_enter Tryz.func29,Tryz.ntmps29
 obtain⟨q1_0,q1_1,q1_2⟩:=(LL.out.blk 0 rfl).c3;go_wp2_with fail;refine (HSG.out _ LL.out.b).mono ?_;rintro e wk ⟨rfl,hb⟩;replace LL:=stL LL hb;clear hb q1_0 q1_1 q1_2 HSG;obtain⟨q2_0,q2_1,q2_2⟩:=(LL.out.blk 0 rfl).c3;go_wp2_with fail;refine (HMV.out _ _ LL.out.b).mono ?_;rintro e wk ⟨g11,A11,n11,c11,B11,m11,d11,rfl,hr,hb⟩;replace LL:=stL LL hb;have HR:=Hd hr;clear hr hb q2_0 q2_1 q2_2;replace LL:=Hd (LL.out.loose 1 rfl rfl)
 simp only [List.eraseIdx,List.size_toArray,List.length_cons,List.length_nil,Nat.zero_add,Nat.reduceAdd] at LL
 obtain⟨ha4_0,hf4_0,ha4_1,hf4_1,ha4_2,hf4_2,ha4_3,hf4_3,ha4_4,hf4_4,ha4_5,hf4_5⟩:=(LL.out.has 0 rfl).sf6;have LF:=Hd (LL.out.write [.int .i64 0,.bool g11,.slice A11 n11 c11,.slice B11 m11 d11,.int .i64 1,.bool false] rfl (by omega) (by simp<;>omega) (by simp<;>omega));obtain⟨hk4_0,hk4_1,hk4_2,hk4_3,hk4_4,hk4_5⟩:=(LF.out.blk 1 rfl).c6
 simp [sets] at hk4_0 hk4_1 hk4_2 hk4_3 hk4_4 hk4_5
 have FR:=Hd ((LL.out.has 0 rfl).rat HR.out [.int .i64 0,.bool g11,.slice A11 n11 c11,.slice B11 m11 d11,.int .i64 1,.bool false]);clear LL;go_wp2;refine bodyPost_ret (v:=.agg #[.int .i64 0,.bool g11,.slice A11 n11 c11,.slice B11 m11 d11,.int .i64 1,.bool false]) (by simp [results,Tryz.results29,go_sem,hk4_0,hk4_1,hk4_2,hk4_3,hk4_4,hk4_5]) rfl ?_
 exact⟨g11,A11,n11,c11,B11,m11,d11,rfl,FR.out,LF.out.b⟩
set_option maxRecDepth 8000 in
theorem first_tout(g:Bool)(A:Option Addr)(n c:Nat)(B:Option Addr)(d:Nat)(w:World)(s:Int)(x:Rat)(hs:¬ 0<s)(hsg:∀ W,Below w.heap.size w W→Calls Tryz.prog 52 #[.agg #[.bool g,.slice A n c,.slice B 1 d]] W fun e w'=>e=.returned (.int .i64 s)∧Below W.heap.size W w')(hmv:∀ op W,Below w.heap.size w W→Calls Tryz.prog 56 #[.agg #[.bool g,.slice A n c,.slice B 1 d],.int .i64 (-1),.int .i64 1,.bool op] W (NewBd W 69 0 x 1 op)):
  Calls Tryz.prog 29 #[.int .i64 3,.agg #[.bool g,.slice A n c,.slice B 1 d]] w (NewBd w 69 0 x 1 true):=by
 have HSG:=Hd hsg;have HMV:=Hd hmv;clear hsg hmv;have LL:=li2 w #[.bool g,.slice A n c,.slice B 1 d] 41 #[.int .i64 0,.bool false,.slice none 0 0,.slice none 0 0,.int .i64 0,.bool false] 51
 go_enter Tryz.func29,Tryz.ntmps29
 obtain⟨q1_0,q1_1,q1_2⟩:=(LL.out.blk 0 rfl).c3;go_wp2_with fail;refine (HSG.out _ LL.out.b).mono ?_;rintro e wk ⟨rfl,hb⟩;replace LL:=stL LL hb;clear hb q1_0 q1_1 q1_2 HSG;obtain⟨q2_0,q2_1,q2_2⟩:=(LL.out.blk 0 rfl).c3;go_wp2_with fail;refine (HMV.out _ _ LL.out.b).mono ?_;rintro e wk ⟨g11,A11,n11,c11,B11,m11,d11,rfl,hr,hb⟩;replace LL:=stL LL hb;have HR:=Hd hr;clear hr hb q2_0 q2_1 q2_2;replace LL:=Hd (LL.out.loose 1 rfl rfl)
 simp only [List.eraseIdx,List.size_toArray,List.length_cons,List.length_nil,Nat.zero_add,Nat.reduceAdd] at LL
 obtain⟨ha4_0,hf4_0,ha4_1,hf4_1,ha4_2,hf4_2,ha4_3,hf4_3,ha4_4,hf4_4,ha4_5,hf4_5⟩:=(LL.out.has 0 rfl).sf6;have LF:=Hd (LL.out.write [.int .i64 0,.bool g11,.slice A11 n11 c11,.slice B11 m11 d11,.int .i64 1,.bool true] rfl (by omega) (by simp<;>omega) (by simp<;>omega));obtain⟨hk4_0,hk4_1,hk4_2,hk4_3,hk4_4,hk4_5⟩:=(LF.out.blk 1 rfl).c6
 simp [sets] at hk4_0 hk4_1 hk4_2 hk4_3 hk4_4 hk4_5
 have FR:=Hd ((LL.out.has 0 rfl).rat HR.out [.int .i64 0,.bool g11,.slice A11 n11 c11,.slice B11 m11 d11,.int .i64 1,.bool true]);clear LL;go_wp2;refine bodyPost_ret (v:=.agg #[.int .i64 0,.bool g11,.slice A11 n11 c11,.slice B11 m11 d11,.int .i64 1,.bool true]) (by simp [results,Tryz.results29,go_sem,hk4_0,hk4_1,hk4_2,hk4_3,hk4_4,hk4_5]) rfl ?_
 exact⟨g11,A11,n11,c11,B11,m11,d11,rfl,FR.out,LF.out.b⟩
set_option maxRecDepth 8000 in
theorem first_event(g:Bool)(A:Option Addr)(n c:Nat)(B:Option Addr)(d:Nat)(w:World)(s:Int)(x:Rat)(hsg:∀ W,Below w.heap.size w W→Calls Tryz.prog 52 #[.agg #[.bool g,.slice A n c,.slice B 1 d]] W fun e w'=>e=.returned (.int .i64 s)∧Below W.heap.size W w')(hmv:∀ op W,Below w.heap.size w W→Calls Tryz.prog 56 #[.agg #[.bool g,.slice A n c,.slice B 1 d],.int .i64 (-1),.int .i64 2,.bool op] W (NewBd W 69 0 x 1 op))(hev:∀ W,Below w.heap.size w W→Calls Tryz.prog 57 #[.agg #[.bool g,.slice A n c,.slice B 1 d]] W fun e w'=>e=.returned (.bool true)∧Below W.heap.size W w'):
  Calls Tryz.prog 29 #[.int .i64 4,.agg #[.bool g,.slice A n c,.slice B 1 d]] w (NewBd w 69 0 x 1 false):=by
 have HSG:=Hd hsg;have HMV:=Hd hmv;have HEV:=Hd hev;clear hsg hmv hev;have LL:=li2 w #[.bool g,.slice A n c,.slice B 1 d] 41 #[.int .i64 0,.bool false,.slice none 0 0,.slice none 0 0,.int .i64 0,.bool false] 51
 go_enter Tryz.func29,Tryz.ntmps29
 obtain⟨q1_0,q1_1,q1_2⟩:=(LL.out.blk 0 rfl).c3;go_wp2_with fail;refine (HSG.out _ LL.out.b).mono ?_;rintro e wk ⟨rfl,hb⟩;replace LL:=stL LL hb;clear hb q1_0 q1_1 q1_2 HSG
 go_upto_region 11 with fail
 replace LL:=Hd (LL.out.loose 1 rfl rfl)
 simp only [List.eraseIdx,List.size_toArray,List.length_cons,List.length_nil,Nat.zero_add,Nat.reduceAdd] at LL
 refine regL LL (fun hHeld=>?_);clear LL;generalize World.drew _=wk at hHeld  ⊢;refine tk 0 ?_ (hv:=by intro W2 hSw;obtain⟨q0,q1,q2⟩:=(hSw.blk 0 rfl).c3;go_simp;(try with_reducible rfl));(try simp only [Act.put,lay]);refine tk 1 ?_ (hv:=by intro W2 hSw;obtain⟨q0,q1,q2⟩:=(hSw.blk 0 rfl).c3;go_simp;(try with_reducible rfl));(try simp only [Act.put,lay]);refine rdy 2 (fun KK hKK=>?_);go_simp;refine (HEV.out _ hHeld.b).mono ?_;rintro e wk ⟨rfl,hb1⟩;go_wp2_with fail;refine hKK.out _ _ (hHeld.keep hb1) (fun _=>?_);clear hKK KK hHeld;rename_i hHeld;(try simp only [Act.put,lay]);(try replace HR11:=Hd (HR11.out.below hb1));clear hb1;refine tk 3 ?_;(try simp only [Act.put,lay]);refine rdy 4 (fun KK hKK=>?_);go_simp;refine (HMV.out _ _ hHeld.b).mono ?_;rintro e wk ⟨g11,A11,n11,c11,B11,m11,d11,rfl,hr11,hb2⟩;go_wp2_with fail;refine hKK.out _ _ (hHeld.keep hb2) (fun _=>?_);clear hKK KK hHeld;rename_i hHeld;(try simp only [Act.put,lay]);have HR11:=Hd hr11;clear hr11;clear hb2;refine rdy 5 (fun KK hKK=>?_);obtain⟨ha0,hf0,ha1,hf1,ha2,hf2,ha3,hf3,ha4,hf4,ha5,hf5⟩:=(hHeld.has 0 rfl).sf6;obtain⟨csx,hbx,-,hcx⟩:=hHeld.has 0 rfl;replace HR11:=Hd (HR11.out.sets hbx hcx 0 [.int .i64 0,.bool g11,.slice A11 n11 c11,.slice B11 m11 d11,.int .i64 1,.bool false]);clear hbx hcx;go_simp;have HS_0:=(hHeld.has 0 rfl).laid [.int .i64 0,.bool g11,.slice A11 n11 c11,.slice B11 m11 d11,.int .i64 1,.bool false] rfl;refine hKK.out _ _ (hHeld.over 0 rfl [.int .i64 0,.bool g11,.slice A11 n11 c11,.slice B11 m11 d11,.int .i64 1,.bool false] rfl rfl (by first | omega | exact hHeld.le_of 0 rfl) (by simp<;>omega) (by simp<;>omega)) (fun _=>?_)
 clear hKK KK hHeld;rename_i hHeld;(try simp only [Act.put,lay]);refine wpAnyH_done (by kernel_rfl) ?_ _;have LB:=Hd hHeld.b;clear hHeld;obtain⟨hk4_0,hk4_1,hk4_2,hk4_3,hk4_4,hk4_5⟩:=HS_0.c6;clear HS_0
 simp [sets] at hk4_0 hk4_1 hk4_2 hk4_3 hk4_4 hk4_5
 go_wp2;refine bodyPost_ret (v:=.agg #[.int .i64 0,.bool g11,.slice A11 n11 c11,.slice B11 m11 d11,.int .i64 1,.bool false]) (by simp [results,Tryz.results29,go_sem,hk4_0,hk4_1,hk4_2,hk4_3,hk4_4,hk4_5]) rfl ?_
 exact⟨g11,A11,n11,c11,B11,m11,d11,rfl,HR11.out,LB.out⟩
set_option maxRecDepth 8000 in
theorem first_evenf(g:Bool)(A:Option Addr)(n c:Nat)(B:Option Addr)(d:Nat)(w:World)(s:Int)(x:Rat)(hsg:∀ W,Below w.heap.size w W→Calls Tryz.prog 52 #[.agg #[.bool g,.slice A n c,.slice B 1 d]] W fun e w'=>e=.returned (.int .i64 s)∧Below W.heap.size W w')(hmv:∀ op W,Below w.heap.size w W→Calls Tryz.prog 56 #[.agg #[.bool g,.slice A n c,.slice B 1 d],.int .i64 (-1),.int .i64 2,.bool op] W (NewBd W 69 0 x 1 op))(hev:∀ W,Below w.heap.size w W→Calls Tryz.prog 57 #[.agg #[.bool g,.slice A n c,.slice B 1 d]] W fun e w'=>e=.returned (.bool false)∧Below W.heap.size W w'):
  Calls Tryz.prog 29 #[.int .i64 4,.agg #[.bool g,.slice A n c,.slice B 1 d]] w (NewBd w 69 0 x 1 true):=by
 have HSG:=Hd hsg;have HMV:=Hd hmv;have HEV:=Hd hev;clear hsg hmv hev;have LL:=li2 w #[.bool g,.slice A n c,.slice B 1 d] 41 #[.int .i64 0,.bool false,.slice none 0 0,.slice none 0 0,.int .i64 0,.bool false] 51
 go_enter Tryz.func29,Tryz.ntmps29
 obtain⟨q1_0,q1_1,q1_2⟩:=(LL.out.blk 0 rfl).c3;go_wp2_with fail;refine (HSG.out _ LL.out.b).mono ?_;rintro e wk ⟨rfl,hb⟩;replace LL:=stL LL hb;clear hb q1_0 q1_1 q1_2 HSG
 go_upto_region 11 with fail
 replace LL:=Hd (LL.out.loose 1 rfl rfl)
 simp only [List.eraseIdx,List.size_toArray,List.length_cons,List.length_nil,Nat.zero_add,Nat.reduceAdd] at LL
 refine regL LL (fun hHeld=>?_);clear LL;generalize World.drew _=wk at hHeld  ⊢;refine tk 0 ?_ (hv:=by intro W2 hSw;obtain⟨q0,q1,q2⟩:=(hSw.blk 0 rfl).c3;go_simp;(try with_reducible rfl));(try simp only [Act.put,lay]);refine tk 1 ?_ (hv:=by intro W2 hSw;obtain⟨q0,q1,q2⟩:=(hSw.blk 0 rfl).c3;go_simp;(try with_reducible rfl));(try simp only [Act.put,lay]);refine rdy 2 (fun KK hKK=>?_);go_simp;refine (HEV.out _ hHeld.b).mono ?_;rintro e wk ⟨rfl,hb1⟩;go_wp2_with fail;refine hKK.out _ _ (hHeld.keep hb1) (fun _=>?_);clear hKK KK hHeld;rename_i hHeld;(try simp only [Act.put,lay]);(try replace HR11:=Hd (HR11.out.below hb1));clear hb1;refine tk 3 ?_;(try simp only [Act.put,lay]);refine rdy 4 (fun KK hKK=>?_);go_simp;refine (HMV.out _ _ hHeld.b).mono ?_;rintro e wk ⟨g11,A11,n11,c11,B11,m11,d11,rfl,hr11,hb2⟩;go_wp2_with fail;refine hKK.out _ _ (hHeld.keep hb2) (fun _=>?_);clear hKK KK hHeld;rename_i hHeld;(try simp only [Act.put,lay]);have HR11:=Hd hr11;clear hr11;clear hb2;refine rdy 5 (fun KK hKK=>?_);obtain⟨ha0,hf0,ha1,hf1,ha2,hf2,ha3,hf3,ha4,hf4,ha5,hf5⟩:=(hHeld.has 0 rfl).sf6;obtain⟨csx,hbx,-,hcx⟩:=hHeld.has 0 rfl;replace HR11:=Hd (HR11.out.sets hbx hcx 0 [.int .i64 0,.bool g11,.slice A11 n11 c11,.slice B11 m11 d11,.int .i64 1,.bool true]);clear hbx hcx;go_simp;have HS_0:=(hHeld.has 0 rfl).laid [.int .i64 0,.bool g11,.slice A11 n11 c11,.slice B11 m11 d11,.int .i64 1,.bool true] rfl;refine hKK.out _ _ (hHeld.over 0 rfl [.int .i64 0,.bool g11,.slice A11 n11 c11,.slice B11 m11 d11,.int .i64 1,.bool true] rfl rfl (by first | omega | exact hHeld.le_of 0 rfl) (by simp<;>omega) (by simp<;>omega)) (fun _=>?_)
 clear hKK KK hHeld;rename_i hHeld;(try simp only [Act.put,lay]);refine wpAnyH_done (by kernel_rfl) ?_ _;have LB:=Hd hHeld.b;clear hHeld;obtain⟨hk4_0,hk4_1,hk4_2,hk4_3,hk4_4,hk4_5⟩:=HS_0.c6;clear HS_0
 simp [sets] at hk4_0 hk4_1 hk4_2 hk4_3 hk4_4 hk4_5
 go_wp2;refine bodyPost_ret (v:=.agg #[.int .i64 0,.bool g11,.slice A11 n11 c11,.slice B11 m11 d11,.int .i64 1,.bool true]) (by simp [results,Tryz.results29,go_sem,hk4_0,hk4_1,hk4_2,hk4_3,hk4_4,hk4_5]) rfl ?_
 exact⟨g11,A11,n11,c11,B11,m11,d11,rfl,HR11.out,LB.out⟩
set_option maxRecDepth 8000 in
theorem first_awayt(g:Bool)(A:Option Addr)(n c:Nat)(B:Option Addr)(d:Nat)(w:World)(s:Int)(x:Rat)(hs:s≤0)(hsg:∀ W,Below w.heap.size w W→Calls Tryz.prog 52 #[.agg #[.bool g,.slice A n c,.slice B 1 d]] W fun e w'=>e=.returned (.int .i64 s)∧Below W.heap.size W w')(hmv:∀ op W,Below w.heap.size w W→Calls Tryz.prog 56 #[.agg #[.bool g,.slice A n c,.slice B 1 d],.int .i64 (-1),.int .i64 2,.bool op] W (NewBd W 69 0 x 1 op)):
  Calls Tryz.prog 29 #[.int .i64 5,.agg #[.bool g,.slice A n c,.slice B 1 d]] w (NewBd w 69 0 x 1 true):=by
 have HSG:=Hd hsg;have HMV:=Hd hmv;clear hsg hmv;have LL:=li2 w #[.bool g,.slice A n c,.slice B 1 d] 41 #[.int .i64 0,.bool false,.slice none 0 0,.slice none 0 0,.int .i64 0,.bool false] 51
 go_enter Tryz.func29,Tryz.ntmps29
 obtain⟨q1_0,q1_1,q1_2⟩:=(LL.out.blk 0 rfl).c3;go_wp2_with fail;refine (HSG.out _ LL.out.b).mono ?_;rintro e wk ⟨rfl,hb⟩;replace LL:=stL LL hb;clear hb q1_0 q1_1 q1_2 HSG;obtain⟨q2_0,q2_1,q2_2⟩:=(LL.out.blk 0 rfl).c3;go_wp2_with fail;refine (HMV.out _ _ LL.out.b).mono ?_;rintro e wk ⟨g11,A11,n11,c11,B11,m11,d11,rfl,hr,hb⟩;replace LL:=stL LL hb;have HR:=Hd hr;clear hr hb q2_0 q2_1 q2_2;replace LL:=Hd (LL.out.loose 1 rfl rfl)
 simp only [List.eraseIdx,List.size_toArray,List.length_cons,List.length_nil,Nat.zero_add,Nat.reduceAdd] at LL
 obtain⟨ha4_0,hf4_0,ha4_1,hf4_1,ha4_2,hf4_2,ha4_3,hf4_3,ha4_4,hf4_4,ha4_5,hf4_5⟩:=(LL.out.has 0 rfl).sf6;have LF:=Hd (LL.out.write [.int .i64 0,.bool g11,.slice A11 n11 c11,.slice B11 m11 d11,.int .i64 1,.bool true] rfl (by omega) (by simp<;>omega) (by simp<;>omega));obtain⟨hk4_0,hk4_1,hk4_2,hk4_3,hk4_4,hk4_5⟩:=(LF.out.blk 1 rfl).c6
 simp [sets] at hk4_0 hk4_1 hk4_2 hk4_3 hk4_4 hk4_5
 have FR:=Hd ((LL.out.has 0 rfl).rat HR.out [.int .i64 0,.bool g11,.slice A11 n11 c11,.slice B11 m11 d11,.int .i64 1,.bool true]);clear LL;go_wp2;refine bodyPost_ret (v:=.agg #[.int .i64 0,.bool g11,.slice A11 n11 c11,.slice B11 m11 d11,.int .i64 1,.bool true]) (by simp [results,Tryz.results29,go_sem,hk4_0,hk4_1,hk4_2,hk4_3,hk4_4,hk4_5]) rfl ?_
 exact⟨g11,A11,n11,c11,B11,m11,d11,rfl,FR.out,LF.out.b⟩
set_option maxRecDepth 8000 in
theorem first_awayf(g:Bool)(A:Option Addr)(n c:Nat)(B:Option Addr)(d:Nat)(w:World)(s:Int)(x:Rat)(hs:decide (s≤0)=false)(hsg:∀ W,Below w.heap.size w W→Calls Tryz.prog 52 #[.agg #[.bool g,.slice A n c,.slice B 1 d]] W fun e w'=>e=.returned (.int .i64 s)∧Below W.heap.size W w')(hmv:∀ op W,Below w.heap.size w W→Calls Tryz.prog 56 #[.agg #[.bool g,.slice A n c,.slice B 1 d],.int .i64 (-1),.int .i64 2,.bool op] W (NewBd W 69 0 x 1 op)):
  Calls Tryz.prog 29 #[.int .i64 5,.agg #[.bool g,.slice A n c,.slice B 1 d]] w (NewBd w 69 0 x 1 false):=by
 have HSG:=Hd hsg;have HMV:=Hd hmv;clear hsg hmv;have LL:=li2 w #[.bool g,.slice A n c,.slice B 1 d] 41 #[.int .i64 0,.bool false,.slice none 0 0,.slice none 0 0,.int .i64 0,.bool false] 51
 go_enter Tryz.func29,Tryz.ntmps29
 obtain⟨q1_0,q1_1,q1_2⟩:=(LL.out.blk 0 rfl).c3;go_wp2_with fail;refine (HSG.out _ LL.out.b).mono ?_;rintro e wk ⟨rfl,hb⟩;replace LL:=stL LL hb;clear hb q1_0 q1_1 q1_2 HSG;obtain⟨q2_0,q2_1,q2_2⟩:=(LL.out.blk 0 rfl).c3;go_wp2_with fail;refine (HMV.out _ _ LL.out.b).mono ?_;rintro e wk ⟨g11,A11,n11,c11,B11,m11,d11,rfl,hr,hb⟩;replace LL:=stL LL hb;have HR:=Hd hr;clear hr hb q2_0 q2_1 q2_2;replace LL:=Hd (LL.out.loose 1 rfl rfl)
 simp only [List.eraseIdx,List.size_toArray,List.length_cons,List.length_nil,Nat.zero_add,Nat.reduceAdd] at LL
 obtain⟨ha4_0,hf4_0,ha4_1,hf4_1,ha4_2,hf4_2,ha4_3,hf4_3,ha4_4,hf4_4,ha4_5,hf4_5⟩:=(LL.out.has 0 rfl).sf6;have LF:=Hd (LL.out.write [.int .i64 0,.bool g11,.slice A11 n11 c11,.slice B11 m11 d11,.int .i64 1,.bool false] rfl (by omega) (by simp<;>omega) (by simp<;>omega));obtain⟨hk4_0,hk4_1,hk4_2,hk4_3,hk4_4,hk4_5⟩:=(LF.out.blk 1 rfl).c6
 simp [sets] at hk4_0 hk4_1 hk4_2 hk4_3 hk4_4 hk4_5
 have FR:=Hd ((LL.out.has 0 rfl).rat HR.out [.int .i64 0,.bool g11,.slice A11 n11 c11,.slice B11 m11 d11,.int .i64 1,.bool false]);clear LL;go_wp2;refine bodyPost_ret (v:=.agg #[.int .i64 0,.bool g11,.slice A11 n11 c11,.slice B11 m11 d11,.int .i64 1,.bool false]) (by simp [results,Tryz.results29,go_sem,hk4_0,hk4_1,hk4_2,hk4_3,hk4_4,hk4_5]) rfl ?_
 exact⟨g11,A11,n11,c11,B11,m11,d11,rfl,FR.out,LF.out.b⟩
set_option maxRecDepth 8000 in
theorem first_sgneg(g:Bool)(A:Option Addr)(n c:Nat)(B:Option Addr)(d:Nat)(w:World)(hsg:∀ W,Below w.heap.size w W→Calls Tryz.prog 52 #[.agg #[.bool g,.slice A n c,.slice B 1 d]] W fun e w'=>e=.returned (.int .i64 (-1))∧Below W.heap.size W w'):
  Calls Tryz.prog 29 #[.int .i64 0,.agg #[.bool g,.slice A n c,.slice B 1 d]] w (NewBd w 1 (-1) 0 1 true):=by
 have HFA:=Hd fun W=>far_any (-1) W;have HSG:=Hd hsg;clear hsg;have LL:=li2 w #[.bool g,.slice A n c,.slice B 1 d] 41 #[.int .i64 0,.bool false,.slice none 0 0,.slice none 0 0,.int .i64 0,.bool false] 51
 go_enter Tryz.func29,Tryz.ntmps29
 obtain⟨q1_0,q1_1,q1_2⟩:=(LL.out.blk 0 rfl).c3;go_wp2_with fail;refine (HSG.out _ LL.out.b).mono ?_;rintro e wk ⟨rfl,hb⟩;replace LL:=stL LL hb;clear hb q1_0 q1_1 q1_2 HSG;go_wp2_with fail;refine (HFA.out _).mono ?_;rintro e wk ⟨g11,A11,n11,c11,B11,m11,d11,rfl,hr,hb⟩;replace LL:=stL LL hb;have HR:=Hd hr;clear hr hb;replace LL:=Hd (LL.out.loose 1 rfl rfl)
 simp only [List.eraseIdx,List.size_toArray,List.length_cons,List.length_nil,Nat.zero_add,Nat.reduceAdd] at LL
 obtain⟨ha4_0,hf4_0,ha4_1,hf4_1,ha4_2,hf4_2,ha4_3,hf4_3,ha4_4,hf4_4,ha4_5,hf4_5⟩:=(LL.out.has 0 rfl).sf6;have LF:=Hd (LL.out.write [.int .i64 (-1),.bool g11,.slice A11 n11 c11,.slice B11 m11 d11,.int .i64 1,.bool true] rfl (by omega) (by simp<;>omega) (by simp<;>omega));obtain⟨hk4_0,hk4_1,hk4_2,hk4_3,hk4_4,hk4_5⟩:=(LF.out.blk 1 rfl).c6
 simp [sets] at hk4_0 hk4_1 hk4_2 hk4_3 hk4_4 hk4_5
 have FR:=Hd ((LL.out.has 0 rfl).rat HR.out [.int .i64 (-1),.bool g11,.slice A11 n11 c11,.slice B11 m11 d11,.int .i64 1,.bool true]);clear LL;go_wp2;refine bodyPost_ret (v:=.agg #[.int .i64 (-1),.bool g11,.slice A11 n11 c11,.slice B11 m11 d11,.int .i64 1,.bool true]) (by simp [results,Tryz.results29,go_sem,hk4_0,hk4_1,hk4_2,hk4_3,hk4_4,hk4_5]) rfl ?_
 exact⟨g11,A11,n11,c11,B11,m11,d11,rfl,FR.out,LF.out.b⟩
set_option maxRecDepth 8000 in
theorem first_sgnul(g:Bool)(A:Option Addr)(n c:Nat)(B:Option Addr)(d:Nat)(w:World)(hsg:∀ W,Below w.heap.size w W→Calls Tryz.prog 52 #[.agg #[.bool g,.slice A n c,.slice B 1 d]] W fun e w'=>e=.returned (.int .i64 0)∧Below W.heap.size W w'):
  Calls Tryz.prog 29 #[.int .i64 0,.agg #[.bool g,.slice A n c,.slice B 1 d]] w (NewBd w 1 0 0 1 false):=by
 have HFA:=Hd (show ∀ W,Calls Tryz.prog 55 #[.int .i64 0,.bool false] W (NewBd W 1 0 0 1 false) from fun W=>whole_nat 0 false W (by omega));have HSG:=Hd hsg;clear hsg;have LL:=li2 w #[.bool g,.slice A n c,.slice B 1 d] 41 #[.int .i64 0,.bool false,.slice none 0 0,.slice none 0 0,.int .i64 0,.bool false] 51
 go_enter Tryz.func29,Tryz.ntmps29
 obtain⟨q1_0,q1_1,q1_2⟩:=(LL.out.blk 0 rfl).c3;go_wp2_with fail;refine (HSG.out _ LL.out.b).mono ?_;rintro e wk ⟨rfl,hb⟩;replace LL:=stL LL hb;clear hb q1_0 q1_1 q1_2 HSG;go_wp2_with fail;refine (HFA.out _).mono ?_;rintro e wk ⟨g11,A11,n11,c11,B11,m11,d11,rfl,hr,hb⟩;replace LL:=stL LL hb;have HR:=Hd hr;clear hr hb;replace LL:=Hd (LL.out.loose 1 rfl rfl)
 simp only [List.eraseIdx,List.size_toArray,List.length_cons,List.length_nil,Nat.zero_add,Nat.reduceAdd] at LL
 obtain⟨ha4_0,hf4_0,ha4_1,hf4_1,ha4_2,hf4_2,ha4_3,hf4_3,ha4_4,hf4_4,ha4_5,hf4_5⟩:=(LL.out.has 0 rfl).sf6;have LF:=Hd (LL.out.write [.int .i64 0,.bool g11,.slice A11 n11 c11,.slice B11 m11 d11,.int .i64 1,.bool false] rfl (by omega) (by simp<;>omega) (by simp<;>omega));obtain⟨hk4_0,hk4_1,hk4_2,hk4_3,hk4_4,hk4_5⟩:=(LF.out.blk 1 rfl).c6
 simp [sets] at hk4_0 hk4_1 hk4_2 hk4_3 hk4_4 hk4_5
 have FR:=Hd ((LL.out.has 0 rfl).rat HR.out [.int .i64 0,.bool g11,.slice A11 n11 c11,.slice B11 m11 d11,.int .i64 1,.bool false]);clear LL;go_wp2;refine bodyPost_ret (v:=.agg #[.int .i64 0,.bool g11,.slice A11 n11 c11,.slice B11 m11 d11,.int .i64 1,.bool false]) (by simp [results,Tryz.results29,go_sem,hk4_0,hk4_1,hk4_2,hk4_3,hk4_4,hk4_5]) rfl ?_
 exact⟨g11,A11,n11,c11,B11,m11,d11,rfl,FR.out,LF.out.b⟩
set_option maxRecDepth 8000 in
theorem first_sgpos(g:Bool)(A:Option Addr)(n c:Nat)(B:Option Addr)(d:Nat)(w:World)(hsg:∀ W,Below w.heap.size w W→Calls Tryz.prog 52 #[.agg #[.bool g,.slice A n c,.slice B 1 d]] W fun e w'=>e=.returned (.int .i64 1)∧Below W.heap.size W w'):
  Calls Tryz.prog 29 #[.int .i64 0,.agg #[.bool g,.slice A n c,.slice B 1 d]] w (NewBd w 1 0 0 1 true):=by
 have HFA:=Hd (show ∀ W,Calls Tryz.prog 55 #[.int .i64 0,.bool true] W (NewBd W 1 0 0 1 true) from fun W=>whole_nat 0 true W (by omega));have HSG:=Hd hsg;clear hsg;have LL:=li2 w #[.bool g,.slice A n c,.slice B 1 d] 41 #[.int .i64 0,.bool false,.slice none 0 0,.slice none 0 0,.int .i64 0,.bool false] 51
 go_enter Tryz.func29,Tryz.ntmps29
 obtain⟨q1_0,q1_1,q1_2⟩:=(LL.out.blk 0 rfl).c3;go_wp2_with fail;refine (HSG.out _ LL.out.b).mono ?_;rintro e wk ⟨rfl,hb⟩;replace LL:=stL LL hb;clear hb q1_0 q1_1 q1_2 HSG;go_wp2_with fail;refine (HFA.out _).mono ?_;rintro e wk ⟨g11,A11,n11,c11,B11,m11,d11,rfl,hr,hb⟩;replace LL:=stL LL hb;have HR:=Hd hr;clear hr hb;replace LL:=Hd (LL.out.loose 1 rfl rfl)
 simp only [List.eraseIdx,List.size_toArray,List.length_cons,List.length_nil,Nat.zero_add,Nat.reduceAdd] at LL
 obtain⟨ha4_0,hf4_0,ha4_1,hf4_1,ha4_2,hf4_2,ha4_3,hf4_3,ha4_4,hf4_4,ha4_5,hf4_5⟩:=(LL.out.has 0 rfl).sf6;have LF:=Hd (LL.out.write [.int .i64 0,.bool g11,.slice A11 n11 c11,.slice B11 m11 d11,.int .i64 1,.bool true] rfl (by omega) (by simp<;>omega) (by simp<;>omega));obtain⟨hk4_0,hk4_1,hk4_2,hk4_3,hk4_4,hk4_5⟩:=(LF.out.blk 1 rfl).c6
 simp [sets] at hk4_0 hk4_1 hk4_2 hk4_3 hk4_4 hk4_5
 have FR:=Hd ((LL.out.has 0 rfl).rat HR.out [.int .i64 0,.bool g11,.slice A11 n11 c11,.slice B11 m11 d11,.int .i64 1,.bool true]);clear LL;go_wp2;refine bodyPost_ret (v:=.agg #[.int .i64 0,.bool g11,.slice A11 n11 c11,.slice B11 m11 d11,.int .i64 1,.bool true]) (by simp [results,Tryz.results29,go_sem,hk4_0,hk4_1,hk4_2,hk4_3,hk4_4,hk4_5]) rfl ?_
 exact⟨g11,A11,n11,c11,B11,m11,d11,rfl,FR.out,LF.out.b⟩
set_option maxRecDepth 8000 in
theorem last_exact(g:Bool)(A:Option Addr)(n c:Nat)(B:Option Addr)(d:Nat)(w:World)(s:Int)(x:Rat)(hsg:∀ W,Below w.heap.size w W→Calls Tryz.prog 52 #[.agg #[.bool g,.slice A n c,.slice B 1 d]] W fun e w'=>e=.returned (.int .i64 s)∧Below W.heap.size W w')(hmv:∀ op W,Below w.heap.size w W→Calls Tryz.prog 56 #[.agg #[.bool g,.slice A n c,.slice B 1 d],.int .i64 0,.int .i64 1,.bool op] W (NewBd W 69 0 x 1 op)):
  Calls Tryz.prog 30 #[.int .i64 2,.agg #[.bool g,.slice A n c,.slice B 1 d]] w (NewBd w 69 0 x 1 false):=by
 have HSG:=Hd hsg;have HMV:=Hd hmv;clear hsg hmv;have LL:=li2 w #[.bool g,.slice A n c,.slice B 1 d] 41 #[.int .i64 0,.bool false,.slice none 0 0,.slice none 0 0,.int .i64 0,.bool false] 51
 go_enter Tryz.func30,Tryz.ntmps30
 obtain⟨q1_0,q1_1,q1_2⟩:=(LL.out.blk 0 rfl).c3;go_wp2_with fail;refine (HSG.out _ LL.out.b).mono ?_;rintro e wk ⟨rfl,hb⟩;replace LL:=stL LL hb;clear hb q1_0 q1_1 q1_2 HSG;obtain⟨q2_0,q2_1,q2_2⟩:=(LL.out.blk 0 rfl).c3;go_wp2_with fail;refine (HMV.out _ _ LL.out.b).mono ?_;rintro e wk ⟨g11,A11,n11,c11,B11,m11,d11,rfl,hr,hb⟩;replace LL:=stL LL hb;have HR:=Hd hr;clear hr hb q2_0 q2_1 q2_2;replace LL:=Hd (LL.out.loose 1 rfl rfl)
 simp only [List.eraseIdx,List.size_toArray,List.length_cons,List.length_nil,Nat.zero_add,Nat.reduceAdd] at LL
 obtain⟨ha4_0,hf4_0,ha4_1,hf4_1,ha4_2,hf4_2,ha4_3,hf4_3,ha4_4,hf4_4,ha4_5,hf4_5⟩:=(LL.out.has 0 rfl).sf6;have LF:=Hd (LL.out.write [.int .i64 0,.bool g11,.slice A11 n11 c11,.slice B11 m11 d11,.int .i64 1,.bool false] rfl (by omega) (by simp<;>omega) (by simp<;>omega));obtain⟨hk4_0,hk4_1,hk4_2,hk4_3,hk4_4,hk4_5⟩:=(LF.out.blk 1 rfl).c6
 simp [sets] at hk4_0 hk4_1 hk4_2 hk4_3 hk4_4 hk4_5
 have FR:=Hd ((LL.out.has 0 rfl).rat HR.out [.int .i64 0,.bool g11,.slice A11 n11 c11,.slice B11 m11 d11,.int .i64 1,.bool false]);clear LL;go_wp2;refine bodyPost_ret (v:=.agg #[.int .i64 0,.bool g11,.slice A11 n11 c11,.slice B11 m11 d11,.int .i64 1,.bool false]) (by simp [results,Tryz.results30,go_sem,hk4_0,hk4_1,hk4_2,hk4_3,hk4_4,hk4_5]) rfl ?_
 exact⟨g11,A11,n11,c11,B11,m11,d11,rfl,FR.out,LF.out.b⟩
set_option maxRecDepth 8000 in
theorem last_shift(g:Bool)(A:Option Addr)(n c:Nat)(B:Option Addr)(d:Nat)(w:World)(s:Int)(x:Rat)(hsg:∀ W,Below w.heap.size w W→Calls Tryz.prog 52 #[.agg #[.bool g,.slice A n c,.slice B 1 d]] W fun e w'=>e=.returned (.int .i64 s)∧Below W.heap.size W w')(hmv:∀ op W,Below w.heap.size w W→Calls Tryz.prog 56 #[.agg #[.bool g,.slice A n c,.slice B 1 d],.int .i64 1,.int .i64 1,.bool op] W (NewBd W 69 0 x 1 op)):
  Calls Tryz.prog 30 #[.int .i64 1,.agg #[.bool g,.slice A n c,.slice B 1 d]] w (NewBd w 69 0 x 1 true):=by
 have HSG:=Hd hsg;have HMV:=Hd hmv;clear hsg hmv;have LL:=li2 w #[.bool g,.slice A n c,.slice B 1 d] 41 #[.int .i64 0,.bool false,.slice none 0 0,.slice none 0 0,.int .i64 0,.bool false] 51
 go_enter Tryz.func30,Tryz.ntmps30
 obtain⟨q1_0,q1_1,q1_2⟩:=(LL.out.blk 0 rfl).c3;go_wp2_with fail;refine (HSG.out _ LL.out.b).mono ?_;rintro e wk ⟨rfl,hb⟩;replace LL:=stL LL hb;clear hb q1_0 q1_1 q1_2 HSG;obtain⟨q2_0,q2_1,q2_2⟩:=(LL.out.blk 0 rfl).c3;go_wp2_with fail;refine (HMV.out _ _ LL.out.b).mono ?_;rintro e wk ⟨g11,A11,n11,c11,B11,m11,d11,rfl,hr,hb⟩;replace LL:=stL LL hb;have HR:=Hd hr;clear hr hb q2_0 q2_1 q2_2;replace LL:=Hd (LL.out.loose 1 rfl rfl)
 simp only [List.eraseIdx,List.size_toArray,List.length_cons,List.length_nil,Nat.zero_add,Nat.reduceAdd] at LL
 obtain⟨ha4_0,hf4_0,ha4_1,hf4_1,ha4_2,hf4_2,ha4_3,hf4_3,ha4_4,hf4_4,ha4_5,hf4_5⟩:=(LL.out.has 0 rfl).sf6;have LF:=Hd (LL.out.write [.int .i64 0,.bool g11,.slice A11 n11 c11,.slice B11 m11 d11,.int .i64 1,.bool true] rfl (by omega) (by simp<;>omega) (by simp<;>omega));obtain⟨hk4_0,hk4_1,hk4_2,hk4_3,hk4_4,hk4_5⟩:=(LF.out.blk 1 rfl).c6
 simp [sets] at hk4_0 hk4_1 hk4_2 hk4_3 hk4_4 hk4_5
 have FR:=Hd ((LL.out.has 0 rfl).rat HR.out [.int .i64 0,.bool g11,.slice A11 n11 c11,.slice B11 m11 d11,.int .i64 1,.bool true]);clear LL;go_wp2;refine bodyPost_ret (v:=.agg #[.int .i64 0,.bool g11,.slice A11 n11 c11,.slice B11 m11 d11,.int .i64 1,.bool true]) (by simp [results,Tryz.results30,go_sem,hk4_0,hk4_1,hk4_2,hk4_3,hk4_4,hk4_5]) rfl ?_
 exact⟨g11,A11,n11,c11,B11,m11,d11,rfl,FR.out,LF.out.b⟩
set_option maxRecDepth 8000 in
theorem last_tin(g:Bool)(A:Option Addr)(n c:Nat)(B:Option Addr)(d:Nat)(w:World)(s:Int)(x:Rat)(hs:s<0)(hsg:∀ W,Below w.heap.size w W→Calls Tryz.prog 52 #[.agg #[.bool g,.slice A n c,.slice B 1 d]] W fun e w'=>e=.returned (.int .i64 s)∧Below W.heap.size W w')(hmv:∀ op W,Below w.heap.size w W→Calls Tryz.prog 56 #[.agg #[.bool g,.slice A n c,.slice B 1 d],.int .i64 0,.int .i64 1,.bool op] W (NewBd W 69 0 x 1 op)):
  Calls Tryz.prog 30 #[.int .i64 3,.agg #[.bool g,.slice A n c,.slice B 1 d]] w (NewBd w 69 0 x 1 false):=by
 have HSG:=Hd hsg;have HMV:=Hd hmv;clear hsg hmv;have LL:=li2 w #[.bool g,.slice A n c,.slice B 1 d] 41 #[.int .i64 0,.bool false,.slice none 0 0,.slice none 0 0,.int .i64 0,.bool false] 51
 go_enter Tryz.func30,Tryz.ntmps30
 obtain⟨q1_0,q1_1,q1_2⟩:=(LL.out.blk 0 rfl).c3;go_wp2_with fail;refine (HSG.out _ LL.out.b).mono ?_;rintro e wk ⟨rfl,hb⟩;replace LL:=stL LL hb;clear hb q1_0 q1_1 q1_2 HSG;obtain⟨q2_0,q2_1,q2_2⟩:=(LL.out.blk 0 rfl).c3;go_wp2_with fail;refine (HMV.out _ _ LL.out.b).mono ?_;rintro e wk ⟨g11,A11,n11,c11,B11,m11,d11,rfl,hr,hb⟩;replace LL:=stL LL hb;have HR:=Hd hr;clear hr hb q2_0 q2_1 q2_2;replace LL:=Hd (LL.out.loose 1 rfl rfl)
 simp only [List.eraseIdx,List.size_toArray,List.length_cons,List.length_nil,Nat.zero_add,Nat.reduceAdd] at LL
 obtain⟨ha4_0,hf4_0,ha4_1,hf4_1,ha4_2,hf4_2,ha4_3,hf4_3,ha4_4,hf4_4,ha4_5,hf4_5⟩:=(LL.out.has 0 rfl).sf6;have LF:=Hd (LL.out.write [.int .i64 0,.bool g11,.slice A11 n11 c11,.slice B11 m11 d11,.int .i64 1,.bool false] rfl (by omega) (by simp<;>omega) (by simp<;>omega));obtain⟨hk4_0,hk4_1,hk4_2,hk4_3,hk4_4,hk4_5⟩:=(LF.out.blk 1 rfl).c6
 simp [sets] at hk4_0 hk4_1 hk4_2 hk4_3 hk4_4 hk4_5
 have FR:=Hd ((LL.out.has 0 rfl).rat HR.out [.int .i64 0,.bool g11,.slice A11 n11 c11,.slice B11 m11 d11,.int .i64 1,.bool false]);clear LL;go_wp2;refine bodyPost_ret (v:=.agg #[.int .i64 0,.bool g11,.slice A11 n11 c11,.slice B11 m11 d11,.int .i64 1,.bool false]) (by simp [results,Tryz.results30,go_sem,hk4_0,hk4_1,hk4_2,hk4_3,hk4_4,hk4_5]) rfl ?_
 exact⟨g11,A11,n11,c11,B11,m11,d11,rfl,FR.out,LF.out.b⟩
set_option maxRecDepth 8000 in
theorem last_tout(g:Bool)(A:Option Addr)(n c:Nat)(B:Option Addr)(d:Nat)(w:World)(s:Int)(x:Rat)(hs:¬ s<0)(hsg:∀ W,Below w.heap.size w W→Calls Tryz.prog 52 #[.agg #[.bool g,.slice A n c,.slice B 1 d]] W fun e w'=>e=.returned (.int .i64 s)∧Below W.heap.size W w')(hmv:∀ op W,Below w.heap.size w W→Calls Tryz.prog 56 #[.agg #[.bool g,.slice A n c,.slice B 1 d],.int .i64 1,.int .i64 1,.bool op] W (NewBd W 69 0 x 1 op)):
  Calls Tryz.prog 30 #[.int .i64 3,.agg #[.bool g,.slice A n c,.slice B 1 d]] w (NewBd w 69 0 x 1 true):=by
 have HSG:=Hd hsg;have HMV:=Hd hmv;clear hsg hmv;have LL:=li2 w #[.bool g,.slice A n c,.slice B 1 d] 41 #[.int .i64 0,.bool false,.slice none 0 0,.slice none 0 0,.int .i64 0,.bool false] 51
 go_enter Tryz.func30,Tryz.ntmps30
 obtain⟨q1_0,q1_1,q1_2⟩:=(LL.out.blk 0 rfl).c3;go_wp2_with fail;refine (HSG.out _ LL.out.b).mono ?_;rintro e wk ⟨rfl,hb⟩;replace LL:=stL LL hb;clear hb q1_0 q1_1 q1_2 HSG;obtain⟨q2_0,q2_1,q2_2⟩:=(LL.out.blk 0 rfl).c3;go_wp2_with fail;refine (HMV.out _ _ LL.out.b).mono ?_;rintro e wk ⟨g11,A11,n11,c11,B11,m11,d11,rfl,hr,hb⟩;replace LL:=stL LL hb;have HR:=Hd hr;clear hr hb q2_0 q2_1 q2_2;replace LL:=Hd (LL.out.loose 1 rfl rfl)
 simp only [List.eraseIdx,List.size_toArray,List.length_cons,List.length_nil,Nat.zero_add,Nat.reduceAdd] at LL
 obtain⟨ha4_0,hf4_0,ha4_1,hf4_1,ha4_2,hf4_2,ha4_3,hf4_3,ha4_4,hf4_4,ha4_5,hf4_5⟩:=(LL.out.has 0 rfl).sf6;have LF:=Hd (LL.out.write [.int .i64 0,.bool g11,.slice A11 n11 c11,.slice B11 m11 d11,.int .i64 1,.bool true] rfl (by omega) (by simp<;>omega) (by simp<;>omega));obtain⟨hk4_0,hk4_1,hk4_2,hk4_3,hk4_4,hk4_5⟩:=(LF.out.blk 1 rfl).c6
 simp [sets] at hk4_0 hk4_1 hk4_2 hk4_3 hk4_4 hk4_5
 have FR:=Hd ((LL.out.has 0 rfl).rat HR.out [.int .i64 0,.bool g11,.slice A11 n11 c11,.slice B11 m11 d11,.int .i64 1,.bool true]);clear LL;go_wp2;refine bodyPost_ret (v:=.agg #[.int .i64 0,.bool g11,.slice A11 n11 c11,.slice B11 m11 d11,.int .i64 1,.bool true]) (by simp [results,Tryz.results30,go_sem,hk4_0,hk4_1,hk4_2,hk4_3,hk4_4,hk4_5]) rfl ?_
 exact⟨g11,A11,n11,c11,B11,m11,d11,rfl,FR.out,LF.out.b⟩
set_option maxRecDepth 8000 in
theorem last_event(g:Bool)(A:Option Addr)(n c:Nat)(B:Option Addr)(d:Nat)(w:World)(s:Int)(x:Rat)(hsg:∀ W,Below w.heap.size w W→Calls Tryz.prog 52 #[.agg #[.bool g,.slice A n c,.slice B 1 d]] W fun e w'=>e=.returned (.int .i64 s)∧Below W.heap.size W w')(hmv:∀ op W,Below w.heap.size w W→Calls Tryz.prog 56 #[.agg #[.bool g,.slice A n c,.slice B 1 d],.int .i64 1,.int .i64 2,.bool op] W (NewBd W 69 0 x 1 op))(hev:∀ W,Below w.heap.size w W→Calls Tryz.prog 57 #[.agg #[.bool g,.slice A n c,.slice B 1 d]] W fun e w'=>e=.returned (.bool true)∧Below W.heap.size W w'):
  Calls Tryz.prog 30 #[.int .i64 4,.agg #[.bool g,.slice A n c,.slice B 1 d]] w (NewBd w 69 0 x 1 false):=by
 have HSG:=Hd hsg;have HMV:=Hd hmv;have HEV:=Hd hev;clear hsg hmv hev;have LL:=li2 w #[.bool g,.slice A n c,.slice B 1 d] 41 #[.int .i64 0,.bool false,.slice none 0 0,.slice none 0 0,.int .i64 0,.bool false] 51
 go_enter Tryz.func30,Tryz.ntmps30
 obtain⟨q1_0,q1_1,q1_2⟩:=(LL.out.blk 0 rfl).c3;go_wp2_with fail;refine (HSG.out _ LL.out.b).mono ?_;rintro e wk ⟨rfl,hb⟩;replace LL:=stL LL hb;clear hb q1_0 q1_1 q1_2 HSG
 go_upto_region 11 with fail
 replace LL:=Hd (LL.out.loose 1 rfl rfl)
 simp only [List.eraseIdx,List.size_toArray,List.length_cons,List.length_nil,Nat.zero_add,Nat.reduceAdd] at LL
 refine regL LL (fun hHeld=>?_);clear LL;generalize World.drew _=wk at hHeld  ⊢;refine tk 0 ?_ (hv:=by intro W2 hSw;obtain⟨q0,q1,q2⟩:=(hSw.blk 0 rfl).c3;go_simp;(try with_reducible rfl));(try simp only [Act.put,lay]);refine tk 1 ?_ (hv:=by intro W2 hSw;obtain⟨q0,q1,q2⟩:=(hSw.blk 0 rfl).c3;go_simp;(try with_reducible rfl));(try simp only [Act.put,lay]);refine rdy 2 (fun KK hKK=>?_);go_simp;refine (HEV.out _ hHeld.b).mono ?_;rintro e wk ⟨rfl,hb1⟩;go_wp2_with fail;refine hKK.out _ _ (hHeld.keep hb1) (fun _=>?_);clear hKK KK hHeld;rename_i hHeld;(try simp only [Act.put,lay]);(try replace HR11:=Hd (HR11.out.below hb1));clear hb1;refine tk 3 ?_;(try simp only [Act.put,lay]);refine rdy 4 (fun KK hKK=>?_);go_simp;refine (HMV.out _ _ hHeld.b).mono ?_;rintro e wk ⟨g11,A11,n11,c11,B11,m11,d11,rfl,hr11,hb2⟩;go_wp2_with fail;refine hKK.out _ _ (hHeld.keep hb2) (fun _=>?_);clear hKK KK hHeld;rename_i hHeld;(try simp only [Act.put,lay]);have HR11:=Hd hr11;clear hr11;clear hb2;refine rdy 5 (fun KK hKK=>?_);obtain⟨ha0,hf0,ha1,hf1,ha2,hf2,ha3,hf3,ha4,hf4,ha5,hf5⟩:=(hHeld.has 0 rfl).sf6;obtain⟨csx,hbx,-,hcx⟩:=hHeld.has 0 rfl;replace HR11:=Hd (HR11.out.sets hbx hcx 0 [.int .i64 0,.bool g11,.slice A11 n11 c11,.slice B11 m11 d11,.int .i64 1,.bool false]);clear hbx hcx;go_simp;have HS_0:=(hHeld.has 0 rfl).laid [.int .i64 0,.bool g11,.slice A11 n11 c11,.slice B11 m11 d11,.int .i64 1,.bool false] rfl;refine hKK.out _ _ (hHeld.over 0 rfl [.int .i64 0,.bool g11,.slice A11 n11 c11,.slice B11 m11 d11,.int .i64 1,.bool false] rfl rfl (by first | omega | exact hHeld.le_of 0 rfl) (by simp<;>omega) (by simp<;>omega)) (fun _=>?_)
 clear hKK KK hHeld;rename_i hHeld;(try simp only [Act.put,lay]);refine wpAnyH_done (by kernel_rfl) ?_ _;have LB:=Hd hHeld.b;clear hHeld;obtain⟨hk4_0,hk4_1,hk4_2,hk4_3,hk4_4,hk4_5⟩:=HS_0.c6;clear HS_0
 simp [sets] at hk4_0 hk4_1 hk4_2 hk4_3 hk4_4 hk4_5
 go_wp2;refine bodyPost_ret (v:=.agg #[.int .i64 0,.bool g11,.slice A11 n11 c11,.slice B11 m11 d11,.int .i64 1,.bool false]) (by simp [results,Tryz.results30,go_sem,hk4_0,hk4_1,hk4_2,hk4_3,hk4_4,hk4_5]) rfl ?_
 exact⟨g11,A11,n11,c11,B11,m11,d11,rfl,HR11.out,LB.out⟩
set_option maxRecDepth 8000 in
theorem last_evenf(g:Bool)(A:Option Addr)(n c:Nat)(B:Option Addr)(d:Nat)(w:World)(s:Int)(x:Rat)(hsg:∀ W,Below w.heap.size w W→Calls Tryz.prog 52 #[.agg #[.bool g,.slice A n c,.slice B 1 d]] W fun e w'=>e=.returned (.int .i64 s)∧Below W.heap.size W w')(hmv:∀ op W,Below w.heap.size w W→Calls Tryz.prog 56 #[.agg #[.bool g,.slice A n c,.slice B 1 d],.int .i64 1,.int .i64 2,.bool op] W (NewBd W 69 0 x 1 op))(hev:∀ W,Below w.heap.size w W→Calls Tryz.prog 57 #[.agg #[.bool g,.slice A n c,.slice B 1 d]] W fun e w'=>e=.returned (.bool false)∧Below W.heap.size W w'):
  Calls Tryz.prog 30 #[.int .i64 4,.agg #[.bool g,.slice A n c,.slice B 1 d]] w (NewBd w 69 0 x 1 true):=by
 have HSG:=Hd hsg;have HMV:=Hd hmv;have HEV:=Hd hev;clear hsg hmv hev;have LL:=li2 w #[.bool g,.slice A n c,.slice B 1 d] 41 #[.int .i64 0,.bool false,.slice none 0 0,.slice none 0 0,.int .i64 0,.bool false] 51
 go_enter Tryz.func30,Tryz.ntmps30
 obtain⟨q1_0,q1_1,q1_2⟩:=(LL.out.blk 0 rfl).c3;go_wp2_with fail;refine (HSG.out _ LL.out.b).mono ?_;rintro e wk ⟨rfl,hb⟩;replace LL:=stL LL hb;clear hb q1_0 q1_1 q1_2 HSG
 go_upto_region 11 with fail
 replace LL:=Hd (LL.out.loose 1 rfl rfl)
 simp only [List.eraseIdx,List.size_toArray,List.length_cons,List.length_nil,Nat.zero_add,Nat.reduceAdd] at LL
 refine regL LL (fun hHeld=>?_);clear LL;generalize World.drew _=wk at hHeld  ⊢;refine tk 0 ?_ (hv:=by intro W2 hSw;obtain⟨q0,q1,q2⟩:=(hSw.blk 0 rfl).c3;go_simp;(try with_reducible rfl));(try simp only [Act.put,lay]);refine tk 1 ?_ (hv:=by intro W2 hSw;obtain⟨q0,q1,q2⟩:=(hSw.blk 0 rfl).c3;go_simp;(try with_reducible rfl));(try simp only [Act.put,lay]);refine rdy 2 (fun KK hKK=>?_);go_simp;refine (HEV.out _ hHeld.b).mono ?_;rintro e wk ⟨rfl,hb1⟩;go_wp2_with fail;refine hKK.out _ _ (hHeld.keep hb1) (fun _=>?_);clear hKK KK hHeld;rename_i hHeld;(try simp only [Act.put,lay]);(try replace HR11:=Hd (HR11.out.below hb1));clear hb1;refine tk 3 ?_;(try simp only [Act.put,lay]);refine rdy 4 (fun KK hKK=>?_);go_simp;refine (HMV.out _ _ hHeld.b).mono ?_;rintro e wk ⟨g11,A11,n11,c11,B11,m11,d11,rfl,hr11,hb2⟩;go_wp2_with fail;refine hKK.out _ _ (hHeld.keep hb2) (fun _=>?_);clear hKK KK hHeld;rename_i hHeld;(try simp only [Act.put,lay]);have HR11:=Hd hr11;clear hr11;clear hb2;refine rdy 5 (fun KK hKK=>?_);obtain⟨ha0,hf0,ha1,hf1,ha2,hf2,ha3,hf3,ha4,hf4,ha5,hf5⟩:=(hHeld.has 0 rfl).sf6;obtain⟨csx,hbx,-,hcx⟩:=hHeld.has 0 rfl;replace HR11:=Hd (HR11.out.sets hbx hcx 0 [.int .i64 0,.bool g11,.slice A11 n11 c11,.slice B11 m11 d11,.int .i64 1,.bool true]);clear hbx hcx;go_simp;have HS_0:=(hHeld.has 0 rfl).laid [.int .i64 0,.bool g11,.slice A11 n11 c11,.slice B11 m11 d11,.int .i64 1,.bool true] rfl;refine hKK.out _ _ (hHeld.over 0 rfl [.int .i64 0,.bool g11,.slice A11 n11 c11,.slice B11 m11 d11,.int .i64 1,.bool true] rfl rfl (by first | omega | exact hHeld.le_of 0 rfl) (by simp<;>omega) (by simp<;>omega)) (fun _=>?_)
 clear hKK KK hHeld;rename_i hHeld;(try simp only [Act.put,lay]);refine wpAnyH_done (by kernel_rfl) ?_ _;have LB:=Hd hHeld.b;clear hHeld;obtain⟨hk4_0,hk4_1,hk4_2,hk4_3,hk4_4,hk4_5⟩:=HS_0.c6;clear HS_0
 simp [sets] at hk4_0 hk4_1 hk4_2 hk4_3 hk4_4 hk4_5
 go_wp2;refine bodyPost_ret (v:=.agg #[.int .i64 0,.bool g11,.slice A11 n11 c11,.slice B11 m11 d11,.int .i64 1,.bool true]) (by simp [results,Tryz.results30,go_sem,hk4_0,hk4_1,hk4_2,hk4_3,hk4_4,hk4_5]) rfl ?_
 exact⟨g11,A11,n11,c11,B11,m11,d11,rfl,HR11.out,LB.out⟩
set_option maxRecDepth 8000 in
theorem last_awayt(g:Bool)(A:Option Addr)(n c:Nat)(B:Option Addr)(d:Nat)(w:World)(s:Int)(x:Rat)(hs:0≤s)(hsg:∀ W,Below w.heap.size w W→Calls Tryz.prog 52 #[.agg #[.bool g,.slice A n c,.slice B 1 d]] W fun e w'=>e=.returned (.int .i64 s)∧Below W.heap.size W w')(hmv:∀ op W,Below w.heap.size w W→Calls Tryz.prog 56 #[.agg #[.bool g,.slice A n c,.slice B 1 d],.int .i64 1,.int .i64 2,.bool op] W (NewBd W 69 0 x 1 op)):
  Calls Tryz.prog 30 #[.int .i64 5,.agg #[.bool g,.slice A n c,.slice B 1 d]] w (NewBd w 69 0 x 1 true):=by
 have HSG:=Hd hsg;have HMV:=Hd hmv;clear hsg hmv;have LL:=li2 w #[.bool g,.slice A n c,.slice B 1 d] 41 #[.int .i64 0,.bool false,.slice none 0 0,.slice none 0 0,.int .i64 0,.bool false] 51
 go_enter Tryz.func30,Tryz.ntmps30
 obtain⟨q1_0,q1_1,q1_2⟩:=(LL.out.blk 0 rfl).c3;go_wp2_with fail;refine (HSG.out _ LL.out.b).mono ?_;rintro e wk ⟨rfl,hb⟩;replace LL:=stL LL hb;clear hb q1_0 q1_1 q1_2 HSG;obtain⟨q2_0,q2_1,q2_2⟩:=(LL.out.blk 0 rfl).c3;go_wp2_with fail;refine (HMV.out _ _ LL.out.b).mono ?_;rintro e wk ⟨g11,A11,n11,c11,B11,m11,d11,rfl,hr,hb⟩;replace LL:=stL LL hb;have HR:=Hd hr;clear hr hb q2_0 q2_1 q2_2;replace LL:=Hd (LL.out.loose 1 rfl rfl)
 simp only [List.eraseIdx,List.size_toArray,List.length_cons,List.length_nil,Nat.zero_add,Nat.reduceAdd] at LL
 obtain⟨ha4_0,hf4_0,ha4_1,hf4_1,ha4_2,hf4_2,ha4_3,hf4_3,ha4_4,hf4_4,ha4_5,hf4_5⟩:=(LL.out.has 0 rfl).sf6;have LF:=Hd (LL.out.write [.int .i64 0,.bool g11,.slice A11 n11 c11,.slice B11 m11 d11,.int .i64 1,.bool true] rfl (by omega) (by simp<;>omega) (by simp<;>omega));obtain⟨hk4_0,hk4_1,hk4_2,hk4_3,hk4_4,hk4_5⟩:=(LF.out.blk 1 rfl).c6
 simp [sets] at hk4_0 hk4_1 hk4_2 hk4_3 hk4_4 hk4_5
 have FR:=Hd ((LL.out.has 0 rfl).rat HR.out [.int .i64 0,.bool g11,.slice A11 n11 c11,.slice B11 m11 d11,.int .i64 1,.bool true]);clear LL;go_wp2;refine bodyPost_ret (v:=.agg #[.int .i64 0,.bool g11,.slice A11 n11 c11,.slice B11 m11 d11,.int .i64 1,.bool true]) (by simp [results,Tryz.results30,go_sem,hk4_0,hk4_1,hk4_2,hk4_3,hk4_4,hk4_5]) rfl ?_
 exact⟨g11,A11,n11,c11,B11,m11,d11,rfl,FR.out,LF.out.b⟩
set_option maxRecDepth 8000 in
theorem last_awayf(g:Bool)(A:Option Addr)(n c:Nat)(B:Option Addr)(d:Nat)(w:World)(s:Int)(x:Rat)(hs:decide (0≤s)=false)(hsg:∀ W,Below w.heap.size w W→Calls Tryz.prog 52 #[.agg #[.bool g,.slice A n c,.slice B 1 d]] W fun e w'=>e=.returned (.int .i64 s)∧Below W.heap.size W w')(hmv:∀ op W,Below w.heap.size w W→Calls Tryz.prog 56 #[.agg #[.bool g,.slice A n c,.slice B 1 d],.int .i64 1,.int .i64 2,.bool op] W (NewBd W 69 0 x 1 op)):
  Calls Tryz.prog 30 #[.int .i64 5,.agg #[.bool g,.slice A n c,.slice B 1 d]] w (NewBd w 69 0 x 1 false):=by
 have HSG:=Hd hsg;have HMV:=Hd hmv;clear hsg hmv;have LL:=li2 w #[.bool g,.slice A n c,.slice B 1 d] 41 #[.int .i64 0,.bool false,.slice none 0 0,.slice none 0 0,.int .i64 0,.bool false] 51
 go_enter Tryz.func30,Tryz.ntmps30
 obtain⟨q1_0,q1_1,q1_2⟩:=(LL.out.blk 0 rfl).c3;go_wp2_with fail;refine (HSG.out _ LL.out.b).mono ?_;rintro e wk ⟨rfl,hb⟩;replace LL:=stL LL hb;clear hb q1_0 q1_1 q1_2 HSG;obtain⟨q2_0,q2_1,q2_2⟩:=(LL.out.blk 0 rfl).c3;go_wp2_with fail;refine (HMV.out _ _ LL.out.b).mono ?_;rintro e wk ⟨g11,A11,n11,c11,B11,m11,d11,rfl,hr,hb⟩;replace LL:=stL LL hb;have HR:=Hd hr;clear hr hb q2_0 q2_1 q2_2;replace LL:=Hd (LL.out.loose 1 rfl rfl)
 simp only [List.eraseIdx,List.size_toArray,List.length_cons,List.length_nil,Nat.zero_add,Nat.reduceAdd] at LL
 obtain⟨ha4_0,hf4_0,ha4_1,hf4_1,ha4_2,hf4_2,ha4_3,hf4_3,ha4_4,hf4_4,ha4_5,hf4_5⟩:=(LL.out.has 0 rfl).sf6;have LF:=Hd (LL.out.write [.int .i64 0,.bool g11,.slice A11 n11 c11,.slice B11 m11 d11,.int .i64 1,.bool false] rfl (by omega) (by simp<;>omega) (by simp<;>omega));obtain⟨hk4_0,hk4_1,hk4_2,hk4_3,hk4_4,hk4_5⟩:=(LF.out.blk 1 rfl).c6
 simp [sets] at hk4_0 hk4_1 hk4_2 hk4_3 hk4_4 hk4_5
 have FR:=Hd ((LL.out.has 0 rfl).rat HR.out [.int .i64 0,.bool g11,.slice A11 n11 c11,.slice B11 m11 d11,.int .i64 1,.bool false]);clear LL;go_wp2;refine bodyPost_ret (v:=.agg #[.int .i64 0,.bool g11,.slice A11 n11 c11,.slice B11 m11 d11,.int .i64 1,.bool false]) (by simp [results,Tryz.results30,go_sem,hk4_0,hk4_1,hk4_2,hk4_3,hk4_4,hk4_5]) rfl ?_
 exact⟨g11,A11,n11,c11,B11,m11,d11,rfl,FR.out,LF.out.b⟩
set_option maxRecDepth 8000 in
theorem last_sgneg(g:Bool)(A:Option Addr)(n c:Nat)(B:Option Addr)(d:Nat)(w:World)(hsg:∀ W,Below w.heap.size w W→Calls Tryz.prog 52 #[.agg #[.bool g,.slice A n c,.slice B 1 d]] W fun e w'=>e=.returned (.int .i64 (-1))∧Below W.heap.size W w'):
  Calls Tryz.prog 30 #[.int .i64 0,.agg #[.bool g,.slice A n c,.slice B 1 d]] w (NewBd w 1 0 0 1 true):=by
 have HFA:=Hd (show ∀ W,Calls Tryz.prog 55 #[.int .i64 0,.bool true] W (NewBd W 1 0 0 1 true) from fun W=>whole_nat 0 true W (by omega));have HSG:=Hd hsg;clear hsg;have LL:=li2 w #[.bool g,.slice A n c,.slice B 1 d] 41 #[.int .i64 0,.bool false,.slice none 0 0,.slice none 0 0,.int .i64 0,.bool false] 51
 go_enter Tryz.func30,Tryz.ntmps30
 obtain⟨q1_0,q1_1,q1_2⟩:=(LL.out.blk 0 rfl).c3;go_wp2_with fail;refine (HSG.out _ LL.out.b).mono ?_;rintro e wk ⟨rfl,hb⟩;replace LL:=stL LL hb;clear hb q1_0 q1_1 q1_2 HSG;go_wp2_with fail;refine (HFA.out _).mono ?_;rintro e wk ⟨g11,A11,n11,c11,B11,m11,d11,rfl,hr,hb⟩;replace LL:=stL LL hb;have HR:=Hd hr;clear hr hb;replace LL:=Hd (LL.out.loose 1 rfl rfl)
 simp only [List.eraseIdx,List.size_toArray,List.length_cons,List.length_nil,Nat.zero_add,Nat.reduceAdd] at LL
 obtain⟨ha4_0,hf4_0,ha4_1,hf4_1,ha4_2,hf4_2,ha4_3,hf4_3,ha4_4,hf4_4,ha4_5,hf4_5⟩:=(LL.out.has 0 rfl).sf6;have LF:=Hd (LL.out.write [.int .i64 0,.bool g11,.slice A11 n11 c11,.slice B11 m11 d11,.int .i64 1,.bool true] rfl (by omega) (by simp<;>omega) (by simp<;>omega));obtain⟨hk4_0,hk4_1,hk4_2,hk4_3,hk4_4,hk4_5⟩:=(LF.out.blk 1 rfl).c6
 simp [sets] at hk4_0 hk4_1 hk4_2 hk4_3 hk4_4 hk4_5
 have FR:=Hd ((LL.out.has 0 rfl).rat HR.out [.int .i64 0,.bool g11,.slice A11 n11 c11,.slice B11 m11 d11,.int .i64 1,.bool true]);clear LL;go_wp2;refine bodyPost_ret (v:=.agg #[.int .i64 0,.bool g11,.slice A11 n11 c11,.slice B11 m11 d11,.int .i64 1,.bool true]) (by simp [results,Tryz.results30,go_sem,hk4_0,hk4_1,hk4_2,hk4_3,hk4_4,hk4_5]) rfl ?_
 exact⟨g11,A11,n11,c11,B11,m11,d11,rfl,FR.out,LF.out.b⟩
set_option maxRecDepth 8000 in
theorem last_sgnul(g:Bool)(A:Option Addr)(n c:Nat)(B:Option Addr)(d:Nat)(w:World)(hsg:∀ W,Below w.heap.size w W→Calls Tryz.prog 52 #[.agg #[.bool g,.slice A n c,.slice B 1 d]] W fun e w'=>e=.returned (.int .i64 0)∧Below W.heap.size W w'):
  Calls Tryz.prog 30 #[.int .i64 0,.agg #[.bool g,.slice A n c,.slice B 1 d]] w (NewBd w 1 0 0 1 false):=by
 have HFA:=Hd (show ∀ W,Calls Tryz.prog 55 #[.int .i64 0,.bool false] W (NewBd W 1 0 0 1 false) from fun W=>whole_nat 0 false W (by omega));have HSG:=Hd hsg;clear hsg;have LL:=li2 w #[.bool g,.slice A n c,.slice B 1 d] 41 #[.int .i64 0,.bool false,.slice none 0 0,.slice none 0 0,.int .i64 0,.bool false] 51
 go_enter Tryz.func30,Tryz.ntmps30
 obtain⟨q1_0,q1_1,q1_2⟩:=(LL.out.blk 0 rfl).c3;go_wp2_with fail;refine (HSG.out _ LL.out.b).mono ?_;rintro e wk ⟨rfl,hb⟩;replace LL:=stL LL hb;clear hb q1_0 q1_1 q1_2 HSG;go_wp2_with fail;refine (HFA.out _).mono ?_;rintro e wk ⟨g11,A11,n11,c11,B11,m11,d11,rfl,hr,hb⟩;replace LL:=stL LL hb;have HR:=Hd hr;clear hr hb;replace LL:=Hd (LL.out.loose 1 rfl rfl)
 simp only [List.eraseIdx,List.size_toArray,List.length_cons,List.length_nil,Nat.zero_add,Nat.reduceAdd] at LL
 obtain⟨ha4_0,hf4_0,ha4_1,hf4_1,ha4_2,hf4_2,ha4_3,hf4_3,ha4_4,hf4_4,ha4_5,hf4_5⟩:=(LL.out.has 0 rfl).sf6;have LF:=Hd (LL.out.write [.int .i64 0,.bool g11,.slice A11 n11 c11,.slice B11 m11 d11,.int .i64 1,.bool false] rfl (by omega) (by simp<;>omega) (by simp<;>omega));obtain⟨hk4_0,hk4_1,hk4_2,hk4_3,hk4_4,hk4_5⟩:=(LF.out.blk 1 rfl).c6
 simp [sets] at hk4_0 hk4_1 hk4_2 hk4_3 hk4_4 hk4_5
 have FR:=Hd ((LL.out.has 0 rfl).rat HR.out [.int .i64 0,.bool g11,.slice A11 n11 c11,.slice B11 m11 d11,.int .i64 1,.bool false]);clear LL;go_wp2;refine bodyPost_ret (v:=.agg #[.int .i64 0,.bool g11,.slice A11 n11 c11,.slice B11 m11 d11,.int .i64 1,.bool false]) (by simp [results,Tryz.results30,go_sem,hk4_0,hk4_1,hk4_2,hk4_3,hk4_4,hk4_5]) rfl ?_
 exact⟨g11,A11,n11,c11,B11,m11,d11,rfl,FR.out,LF.out.b⟩
set_option maxRecDepth 8000 in
theorem last_sgpos(g:Bool)(A:Option Addr)(n c:Nat)(B:Option Addr)(d:Nat)(w:World)(hsg:∀ W,Below w.heap.size w W→Calls Tryz.prog 52 #[.agg #[.bool g,.slice A n c,.slice B 1 d]] W fun e w'=>e=.returned (.int .i64 1)∧Below W.heap.size W w'):
  Calls Tryz.prog 30 #[.int .i64 0,.agg #[.bool g,.slice A n c,.slice B 1 d]] w (NewBd w 1 1 0 1 true):=by
 have HFA:=Hd fun W=>far_any 1 W;have HSG:=Hd hsg;clear hsg;have LL:=li2 w #[.bool g,.slice A n c,.slice B 1 d] 41 #[.int .i64 0,.bool false,.slice none 0 0,.slice none 0 0,.int .i64 0,.bool false] 51
 go_enter Tryz.func30,Tryz.ntmps30
 obtain⟨q1_0,q1_1,q1_2⟩:=(LL.out.blk 0 rfl).c3;go_wp2_with fail;refine (HSG.out _ LL.out.b).mono ?_;rintro e wk ⟨rfl,hb⟩;replace LL:=stL LL hb;clear hb q1_0 q1_1 q1_2 HSG;go_wp2_with fail;refine (HFA.out _).mono ?_;rintro e wk ⟨g11,A11,n11,c11,B11,m11,d11,rfl,hr,hb⟩;replace LL:=stL LL hb;have HR:=Hd hr;clear hr hb;replace LL:=Hd (LL.out.loose 1 rfl rfl)
 simp only [List.eraseIdx,List.size_toArray,List.length_cons,List.length_nil,Nat.zero_add,Nat.reduceAdd] at LL
 obtain⟨ha4_0,hf4_0,ha4_1,hf4_1,ha4_2,hf4_2,ha4_3,hf4_3,ha4_4,hf4_4,ha4_5,hf4_5⟩:=(LL.out.has 0 rfl).sf6;have LF:=Hd (LL.out.write [.int .i64 1,.bool g11,.slice A11 n11 c11,.slice B11 m11 d11,.int .i64 1,.bool true] rfl (by omega) (by simp<;>omega) (by simp<;>omega));obtain⟨hk4_0,hk4_1,hk4_2,hk4_3,hk4_4,hk4_5⟩:=(LF.out.blk 1 rfl).c6
 simp [sets] at hk4_0 hk4_1 hk4_2 hk4_3 hk4_4 hk4_5
 have FR:=Hd ((LL.out.has 0 rfl).rat HR.out [.int .i64 1,.bool g11,.slice A11 n11 c11,.slice B11 m11 d11,.int .i64 1,.bool true]);clear LL;go_wp2;refine bodyPost_ret (v:=.agg #[.int .i64 1,.bool g11,.slice A11 n11 c11,.slice B11 m11 d11,.int .i64 1,.bool true]) (by simp [results,Tryz.results30,go_sem,hk4_0,hk4_1,hk4_2,hk4_3,hk4_4,hk4_5]) rfl ?_
 exact⟨g11,A11,n11,c11,B11,m11,d11,rfl,FR.out,LF.out.b⟩
theorem rsg_int(z:Int):(0<rsg (z:Rat)↔0<z)∧(rsg (z:Rat)<0↔z<0):=by
 have e0:((0:Int):Rat)=0:=rfl
 have h1:(z:Rat)=0↔z=0:=by rw [← e0,Rat.intCast_inj]
 have h2:(z:Rat)<0↔z<0:=by rw [← e0,Rat.intCast_lt_intCast]
 unfold rsg
 by_cases a:z=0
 ·rw [if_pos (h1.2 a)];omega
 ·rw [if_neg (mt h1.1 a)]
  by_cases b:z<0
  ·rw [if_pos (h2.2 b)];omega
  ·rw [if_neg (mt h2.1 b)];omega
theorem first_any{g:Bool}{A:Option Addr}{n c:Nat}{B:Option Addr}{d:Nat}{z:Int}{K:Nat}{w:World}(h:RatI w g A n c B d z)(hK:K=34)(hz:z.natAbs<2 ^ (32*K))(k:Nat)(h1:1≤k)(h5:k≤5):
  Calls Tryz.prog 29 #[.int .i64 (k:Int),.agg #[.bool g,.slice A n c,.slice B 1 d]] w (NewBd w 69 0 (bL k z) 1 (oL k z)):=by
 have hr:=h.rat (K:=K) (by omega) hz;rw [hK] at hr;clear hz hK;have hsg:∀ W,Below w.heap.size w W→Calls Tryz.prog 52 #[.agg #[.bool g,.slice A n c,.slice B 1 d]] W fun e w'=>e=.returned (.int .i64 (rsg (z:Rat)))∧Below W.heap.size W w':=fun W hW=>rsign_any 34 g _ _ _ W (hr.below hW) (by omega);have mv:=fun (a b:Int) (ha:a=-1∨a=0∨a=1) (hb:b=1∨b=2) (op:Bool) (W:World) (hW:Below w.heap.size w W)=>moved_any (hr.below hW) a b op ha hb;have hs:(0<rsg (z:Rat)↔0<z)∧(rsg (z:Rat)<0↔z<0):=rsg_int z;have m0:=mv 0 1 (.inr (.inl rfl)) (.inl rfl);have m1:=mv (-1) 1 (by omega) (.inl rfl);have m2:=mv (-1) 2 (by omega) (.inr rfl);rw [show (z:Rat)+((0:Int):Rat) / ((1:Int):Rat)=z from by rw [show ((0:Int):Rat) / ((1:Int):Rat)=0 from by decide +kernel];grind] at m0;rw [show (z:Rat)+((-1:Int):Rat) / ((1:Int):Rat)=z - 1 from by rw [show ((-1:Int):Rat) / ((1:Int):Rat)=-1 from by decide +kernel];(try grind)] at m1;rw [show (z:Rat)+((-1:Int):Rat) / ((2:Int):Rat)=z - 1/2 from by rw [show ((-1:Int):Rat) / ((2:Int):Rat)=-1/2 from by decide +kernel];(try grind)] at m2
 match k,h1,h5 with
 | 1,_,_=>exact first_exact g A n c B d w _ _ hsg m0
 | 2,_,_=>exact first_shift g A n c B d w _ _ hsg m1
 | 3,_,_=>
  by_cases cc:0<z
  ·have e1:bL 3 z=z:=if_pos cc
   have e2:oL 3 z=false:=by show (!decide (0<z))=false;rw [decide_eq_true cc];rfl
   rw [e1,e2]
   exact first_tin g A n c B d w _ _ (hs.1.2 cc) hsg m0
  ·have e1:bL 3 z=z - 1:=if_neg cc
   have e2:oL 3 z=true:=by show (!decide (0<z))=true;rw [decide_eq_false cc];rfl
   rw [e1,e2]
   exact first_tout g A n c B d w _ _ (fun h=>cc (hs.1.1 h)) hsg m1
 | 4,_,_=>
  have hev:=fun W (hW:Below w.heap.size w W)=>even_any (h.below hW)
  by_cases cc:z % 2=0
  ·rw [decide_eq_true cc] at hev;have e2:oL 4 z=false:=decide_eq_false (by omega);rw [e2]
   exact first_event g A n c B d w _ _ hsg m2 hev
  ·rw [decide_eq_false cc] at hev;have e2:oL 4 z=true:=decide_eq_true (by omega);rw [e2]
   exact first_evenf g A n c B d w _ _ hsg m2 hev
 | 5,_,_=>
  by_cases cc:z≤0
  ·have e2:oL 5 z=true:=decide_eq_true cc;rw [e2]
   exact first_awayt g A n c B d w _ _ (by have:=hs;omega) hsg m2
  ·have e2:oL 5 z=false:=decide_eq_false cc;rw [e2]
   exact first_awayf g A n c B d w _ _ (decide_eq_false (by have:=hs;omega)) hsg m2
theorem last_any{g:Bool}{A:Option Addr}{n c:Nat}{B:Option Addr}{d:Nat}{z:Int}{K:Nat}{w:World}(h:RatI w g A n c B d z)(hK:K=34)(hz:z.natAbs<2 ^ (32*K))(k:Nat)(h1:1≤k)(h5:k≤5):
  Calls Tryz.prog 30 #[.int .i64 (k:Int),.agg #[.bool g,.slice A n c,.slice B 1 d]] w (NewBd w 69 0 (bU k z) 1 (oU k z)):=by
 have hr:=h.rat (K:=K) (by omega) hz;rw [hK] at hr;clear hz hK;have hsg:∀ W,Below w.heap.size w W→Calls Tryz.prog 52 #[.agg #[.bool g,.slice A n c,.slice B 1 d]] W fun e w'=>e=.returned (.int .i64 (rsg (z:Rat)))∧Below W.heap.size W w':=fun W hW=>rsign_any 34 g _ _ _ W (hr.below hW) (by omega);have mv:=fun (a b:Int) (ha:a=-1∨a=0∨a=1) (hb:b=1∨b=2) (op:Bool) (W:World) (hW:Below w.heap.size w W)=>moved_any (hr.below hW) a b op ha hb;have hs:(0<rsg (z:Rat)↔0<z)∧(rsg (z:Rat)<0↔z<0):=rsg_int z;have m0:=mv 0 1 (.inr (.inl rfl)) (.inl rfl);have m1:=mv (1) 1 (by omega) (.inl rfl);have m2:=mv (1) 2 (by omega) (.inr rfl);rw [show (z:Rat)+((0:Int):Rat) / ((1:Int):Rat)=z from by rw [show ((0:Int):Rat) / ((1:Int):Rat)=0 from by decide +kernel];grind] at m0;rw [show (z:Rat)+((1:Int):Rat) / ((1:Int):Rat)=z+1 from by rw [show ((1:Int):Rat) / ((1:Int):Rat)=1 from by decide +kernel];(try grind)] at m1;rw [show (z:Rat)+((1:Int):Rat) / ((2:Int):Rat)=z+1/2 from by rw [show ((1:Int):Rat) / ((2:Int):Rat)=1/2 from by decide +kernel];(try grind)] at m2
 match k,h1,h5 with
 | 2,_,_=>exact last_exact g A n c B d w _ _ hsg m0
 | 1,_,_=>exact last_shift g A n c B d w _ _ hsg m1
 | 3,_,_=>
  by_cases cc:z<0
  ·have e1:bU 3 z=z:=if_pos cc
   have e2:oU 3 z=false:=by show (!decide (z<0))=false;rw [decide_eq_true cc];rfl
   rw [e1,e2]
   exact last_tin g A n c B d w _ _ (hs.2.2 cc) hsg m0
  ·have e1:bU 3 z=z+1:=if_neg cc
   have e2:oU 3 z=true:=by show (!decide (z<0))=true;rw [decide_eq_false cc];rfl
   rw [e1,e2]
   exact last_tout g A n c B d w _ _ (fun h=>cc (hs.2.1 h)) hsg m1
 | 4,_,_=>
  have hev:=fun W (hW:Below w.heap.size w W)=>even_any (h.below hW)
  by_cases cc:z % 2=0
  ·rw [decide_eq_true cc] at hev;have e2:oU 4 z=false:=decide_eq_false (by omega);rw [e2]
   exact last_event g A n c B d w _ _ hsg m2 hev
  ·rw [decide_eq_false cc] at hev;have e2:oU 4 z=true:=decide_eq_true (by omega);rw [e2]
   exact last_evenf g A n c B d w _ _ hsg m2 hev
 | 5,_,_=>
  by_cases cc:0≤z
  ·have e2:oU 5 z=true:=decide_eq_true cc;rw [e2]
   exact last_awayt g A n c B d w _ _ (by have:=hs;omega) hsg m2
  ·have e2:oU 5 z=false:=decide_eq_false cc;rw [e2]
   exact last_awayf g A n c B d w _ _ (decide_eq_false (by have:=hs;omega)) hsg m2
end Go.Proofs.YtfcpabgampebaaaGreat
