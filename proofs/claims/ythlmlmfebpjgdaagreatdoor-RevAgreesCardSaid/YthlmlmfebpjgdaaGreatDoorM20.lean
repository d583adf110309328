/-
Lemmas for the statement: FadT Fad2T AwT AgnI AgrL TabL.
-/
import Derived.Test.YthlmlmfebpjgdaaGreatDoorM12
import Derived.Test.YthlmlmfebpjgdaaGreatDoorM08
import Derived.Deep.DeepCutAuto
import Derived.Deep.CutRange
import Derived.Deep.CutBlock
import Derived.Test.YthlmlmfebpjgdaaGreatDoorM15
import Derived.Test.YthlmlmfebpjgdaaGreatDoorM02
import Derived.Test.YthlmlmfebpjgdaaGreatDoorM19
import Derived.Test.YthlmlmfebpjgdaaGreatDoorM18
import Derived.Test.YthlmlmfebpjgdaaGreatDoorM11
import Derived.Test.YthlmlmfebpjgdaaGreatDoorRows
import Derived.WalkKit
import Derived.ProofKit
import Derived.JoinedOf
import Derived.RowKit
set_option linter.unusedSimpArgs false
set_option linter.unusedVariables false
set_option maxHeartbeats 12800000
namespace Go.Proofs.YthlmlmfebpjgdaaGreatDoor
section
open Go.RowKit
attribute [local go_sem] run_store_float
set_option maxRecDepth 8000 in
theorem fmaadd_none(a1 a2 b1 b2 c1 c2 y1 y2 A1 A2 B1 B2 C1 C2 x1 x2:Nat)(d1 d2 d3 d4:Bool)(w:World)(t1:∀ W,Rt 102 #[Zf a1 a2] (Zf A1 A2) W)(m1:Em d1 A1 A2)(t2:∀ W,Rt 102 #[Zf b1 b2] (Zf B1 B2) W)(m2:Em d2 B1 B2)(t3:∀ W,Rt 102 #[Zf c1 c2] (Zf C1 C2) W)(m3:Em d3 C1 C2)(t4:∀ W,Rt 102 #[Zf y1 y2] (Zf x1 x2) W)(m4:Em d4 x1 x2)(hnn:(d1 || d2 || d3 || d4)=true):
  Rt 32 #[Zf a1 a2,Zf b1 b2,Zf c1 c2,Zf y1 y2] (Zf 9218868437227405312 18442240474082181120) w:=by
 have HE:=Hd emptyf;have HRD:=readL54 w (Zv 0 0) 28 t1 m1 t2 m2 t3 m3 t4 m4 hnn;clear t1 m1 t2 m2 t3 m3 t4 m4 hnn
 go_enter Tryz.func32,Tryz.ntmps32
 go_wp2_with fail;refine HRD.out.mono ?_;rintro e wk ⟨rfl,hl⟩;have LL:=Hd hl;clear hl HRD;go_wp2_with fail;refine cx (HE.out _) fun wk hb=>?_;replace LL:=stL LL hb;clear hb;replace LL:=Hd (LL.out.loose 4 rfl rfl)
 simp only [List.eraseIdx,List.size_toArray,List.length_cons,List.length_nil,Nat.zero_add,Nat.reduceAdd] at LL
 obtain⟨ha8_0,hf8_0,ha8_1,hf8_1⟩:=(LL.out.has 0 rfl).sf2;have LF:=Hd (LL.out.wr [.float .f64 9218868437227405312,.float .f64 18442240474082181120]);obtain⟨hk8_0,hk8_1⟩:=(LF.out.blk 4 rfl).c2
 simp [sets] at hk8_0 hk8_1
 clear LL;go_wp2;refine bodyPost_ret (v:=Zf 9218868437227405312 18442240474082181120) (by simp [results,Tryz.results32,go_sem,hk8_0,hk8_1]) rfl ?_
 exact⟨rfl,LF.out.b⟩
set_option maxRecDepth 8000 in
theorem fmaadd_some(a1 a2 b1 b2 c1 c2 y1 y2 A1 A2 B1 B2 C1 C2 x1 x2 r1 r2:Nat)(us vs Pd Pu Qd Qu:Nat->Nat)(ld lu gd gu:Nat->Nat->Nat)(d1 d2 d3 d4:Bool)(w:World)(t1:∀ W,Rt 102 #[Zf a1 a2] (Zf A1 A2) W)(m1:Em d1 A1 A2)(t2:∀ W,Rt 102 #[Zf b1 b2] (Zf B1 B2) W)(m2:Em d2 B1 B2)(t3:∀ W,Rt 102 #[Zf c1 c2] (Zf C1 C2) W)(m3:Em d3 C1 C2)(t4:∀ W,Rt 102 #[Zf y1 y2] (Zf x1 x2) W)(m4:Em d4 x1 x2)(hnn:(d1 || d2 || d3 || d4)=false)
  (hu:us 0=A1/\us 1=A2)(hv:vs 0=B1/\vs 1=B2)(hp:Pd 0=9218868437227405312/\Pu 0=9218868437227405312)(hq:Qd 0=18442240474082181120/\Qu 0=18442240474082181120)
  (hl:∀ i j:Nat,i<2->j<2->∀ W,Rt 92 #[.float .f64 C1,.float .f64 (us i),.float .f64 (vs j)] (.agg #[.float .f64 (ld i j),.float .f64 (lu i j)]) W)(hh:∀ i j:Nat,i<2->j<2->∀ W,Rt 92 #[.float .f64 C2,.float .f64 (us i),.float .f64 (vs j)] (.agg #[.float .f64 (gd i j),.float .f64 (gu i j)]) W)
  (na:∀ i j:Nat,i<2->j<2->∀ W ts t,(Builtin.min_ ts t #[.float .f64 (Pd (2*i+j)),.float .f64 (ld i j)]).run Tryz.prog W=.ok (.float .f64 (Pd (2*i+j+1))) W)(nb:∀ i j:Nat,i<2->j<2->∀ W ts t,(Builtin.min_ ts t #[.float .f64 (Pu (2*i+j)),.float .f64 (lu i j)]).run Tryz.prog W=.ok (.float .f64 (Pu (2*i+j+1))) W)(xa:∀ i j:Nat,i<2->j<2->∀ W ts t,(Builtin.max_ ts t #[.float .f64 (Qd (2*i+j)),.float .f64 (gd i j)]).run Tryz.prog W=.ok (.float .f64 (Qd (2*i+j+1))) W)(xb:∀ i j:Nat,i<2->j<2->∀ W ts t,(Builtin.max_ ts t #[.float .f64 (Qu (2*i+j)),.float .f64 (gu i j)]).run Tryz.prog W=.ok (.float .f64 (Qu (2*i+j+1))) W)
  (hcut:∀ W,Rt 77 #[Zf x1 x2,.agg #[.float .f64 (Pd (4)),.float .f64 (Pu (4))],.agg #[.float .f64 (Qd (4)),.float .f64 (Qu (4))],.bool false] (Zf r1 r2) W):
  Rt 32 #[Zf a1 a2,Zf b1 b2,Zf c1 c2,Zf y1 y2] (Zf r1 r2) w:=by
 have HI:=Hd fun W=>inf_pos W;have HJ:=Hd fun W=>inf_neg W;have HT:=Hd fun W=>at_any 9218868437227405312 W;have HS:=Hd fun W=>at_any 18442240474082181120 W
 have IXA:=Hd (show ∀ i:Nat,i<2->∀ W,(Instr.index 99 (Zf A1 A2) (.int .i64 (i:Int))).run Tryz.prog W=.ok (.float .f64 (us i)) W from fun i hi=>by
  match i,hi with
  | 0,_=>rw [hu.1];exact fun _=>by kernel_rfl
  | 1,_=>rw [hu.2];exact fun _=>by kernel_rfl)
 have IXB:=Hd (show ∀ i:Nat,i<2->∀ W,(Instr.index 99 (Zf B1 B2) (.int .i64 (i:Int))).run Tryz.prog W=.ok (.float .f64 (vs i)) W from fun i hi=>by
  match i,hi with
  | 0,_=>rw [hv.1];exact fun _=>by kernel_rfl
  | 1,_=>rw [hv.2];exact fun _=>by kernel_rfl)
 have HL:=Hd hl;have HH:=Hd hh;have NA:=Hd na;have NB:=Hd nb;have XA:=Hd xa;have XB:=Hd xb;have HCUT:=Hd hcut;have HP:=Hd hp;have HQ:=Hd hq;clear hl hh na nb xa xb hcut hp hq;clear hu hv;have HRD:=readL54 w (Zv 0 0) 28 t1 m1 t2 m2 t3 m3 t4 m4 hnn;clear t1 m1 t2 m2 t3 m3 t4 m4 hnn
 go_enter Tryz.func32,Tryz.ntmps32
 go_wp2_with fail;refine HRD.out.mono ?_;rintro e wk ⟨rfl,hl⟩;have LL:=Hd hl;clear hl HRD;go_wp2_with fail;refine (HI.out _).mono ?_;rintro e wk ⟨rfl,rfl⟩;go_wp2_with fail;refine cx (HT.out _) fun wk hb=>?_;replace LL:=stL LL hb;clear hb;go_wp2_with fail;refine (HJ.out _).mono ?_;rintro e wk ⟨rfl,rfl⟩;go_wp2_with fail;refine cx (HS.out _) fun wk hb=>?_;replace LL:=stL LL hb;clear hb
 go_upto_region 4 with fail
 clear HI HJ HT HS;have hl_j9:=LL.out.lts;generalize hwm:World.alloc wk _=wm;replace LL:=Hd (LL.out.newE hwm)
 have hz:wm.heap.size=wk.heap.size+1:=by rw [<- hwm];simp
 clear hwm;generalize hwn:World.alloc wm _=wn;replace LL:=Hd (LL.out.newE hwn);rw [hz] at LL
 simp only [List.cons_append,List.nil_append] at LL
 simp only [List.mem_cons,List.not_mem_nil,or_false,forall_eq_or_imp,forall_eq,false_imp_iff,implies_true,and_true] at hl_j9
 clear hwn hz;generalize wk.heap.size=j9 at LL hl_j9 ⊢;have LL0:=Hd (show Lies w wn [(w.heap.size,28,(Zv A1 A2)),((w.heap.size+1),28,(Zv B1 B2)),((w.heap.size+2),28,(Zv C1 C2)),((w.heap.size+3),28,(Zv x1 x2)),((w.heap.size+4),28,(Zv 0 0)),(j9,78,#[.float .f64 (Pd (2*0)),.float .f64 (Pu (2*0))]),((j9+1),78,#[.float .f64 (Qd (2*0)),.float .f64 (Qu (2*0))])] [] from by rw [HP.out.1,HP.out.2,HQ.out.1,HQ.out.2];exact LL.out);clear LL HP HQ;have LL:=LL0;clear LL0;obtain⟨q1_0,q1_1⟩:=(LL.out.blk 0 rfl).c2;go_wp2;clear q1_0 q1_1
 go_loopw [12,29] (fun _ iv wr=>∃ i:Nat,iv=.int .i64 (i:Int)/\i<=2/\Lies w wr [(w.heap.size,28,(Zv A1 A2)),((w.heap.size+1),28,(Zv B1 B2)),((w.heap.size+2),28,(Zv C1 C2)),((w.heap.size+3),28,(Zv x1 x2)),((w.heap.size+4),28,(Zv 0 0)),(j9,78,#[.float .f64 (Pd (2*i)),.float .f64 (Pu (2*i))]),((j9+1),78,#[.float .f64 (Qd (2*i)),.float .f64 (Qu (2*i))])] []) (fun _ iv _=>2 - (intOf iv).toNat)
 case atStart=>exact⟨0,rfl,by omega,LL.out⟩
 case round=>
  clear LL;obtain⟨i,rfl,hi,hl⟩:=hrel;have LL:=Hd hl;clear hl
  by_cases hlt:i<2
  ·skip
   obtain⟨wo,rfl⟩:∃ wo:World,wo=wr:=⟨_,rfl⟩
   have ixi:=IXA.out i hlt;obtain⟨q2_0,q2_1⟩:=(LL.out.blk 1 rfl).c2;go_wp2;clear ixi q2_0 q2_1
   go_loopw [14,37] (fun _ iv wr=>∃ j:Nat,iv=.int .i64 (j:Int)/\j<=2/\Lies w wr [(w.heap.size,28,(Zv A1 A2)),((w.heap.size+1),28,(Zv B1 B2)),((w.heap.size+2),28,(Zv C1 C2)),((w.heap.size+3),28,(Zv x1 x2)),((w.heap.size+4),28,(Zv 0 0)),(j9,78,#[.float .f64 (Pd (2*i+j)),.float .f64 (Pu (2*i+j))]),((j9+1),78,#[.float .f64 (Qd (2*i+j)),.float .f64 (Qu (2*i+j))])] []) (fun _ iv _=>2 - (intOf iv).toNat)
   case atStart=>exact⟨0,rfl,by omega,LL.out⟩
   case round=>
    clear LL;obtain⟨j,rfl,hj,hl⟩:=hrel;have LL:=Hd hl;clear hl
    by_cases hlt2:j<2
    ·skip;have ixj:=IXB.out j hlt2;have HLk:=Hd (HL.out i j hlt hlt2);have HHk:=Hd (HH.out i j hlt hlt2)
     go_upto_region 10 with fail
     clear ixj
     go_cut [15,16,30,38] from 40 to 49 (fun s15 s16 s30 s38 wx=>∃ j15 j16:Nat,s30=.bool (decide ((i:Int)<2))/\s15=.pointer (some ⟨j15,0,none⟩)/\s16=.pointer (some ⟨j16,0,none⟩)/\(w.heap.size+4<j15/\w.heap.size+4<j16/\j9+1<j15/\j9+1<j16/\j15≠j16)/\Lies w wx [(w.heap.size,28,(Zv A1 A2)),((w.heap.size+1),28,(Zv B1 B2)),((w.heap.size+2),28,(Zv C1 C2)),((w.heap.size+3),28,(Zv x1 x2)),((w.heap.size+4),28,(Zv 0 0)),(j9,78,#[.float .f64 (Pd (2*i+j)),.float .f64 (Pu (2*i+j))]),((j9+1),78,#[.float .f64 (Qd (2*i+j)),.float .f64 (Qu (2*i+j))]),(j15,78,#[.float .f64 (ld i j),.float .f64 (lu i j)]),(j16,78,#[.float .f64 (gd i j),.float .f64 (gu i j)])] [])
     case first=>
      clear HL HH NA NB XA XB HCUT IXA IXB hlt2 hi hj;refine regL LL (fun hHeld=>?_);clear LL;generalize World.drew _=wk at hHeld  ⊢;refine tks 0 ?_;refine tkb 1 (fun _ h=>(h.blk 2 rfl).c2) ?_;refine tks 2 ?_;refine tks 3 ?_;refine tks 5 ?_;refine tkb 6 (fun _ h=>(h.blk 2 rfl).c2) ?_;refine tks 7 ?_;refine tks 8 ?_
      repeat' first
       | (have hx:=hC4;clear hx;go_simp;refine (HLk.out _).mono ?_;rintro e wk ⟨rfl,hb1⟩;go_wp2_with fail;refine hC4.out _ _ (hHeld.keep hb1) (fun _=>?_);clear hC4 KK hHeld;rename_i hHeld;(try simp only [Act.put,lay]);(try replace B_j15:=B_j15.keep hb1);(try replace B_j16:=B_j16.keep hb1);clear hb1;have mk4:=True.intro)
       | (have hx:=hC9;clear hx;go_simp;refine (HHk.out _).mono ?_;rintro e wk ⟨rfl,hb2⟩;go_wp2_with fail;refine hC9.out _ _ (hHeld.keep hb2) (fun _=>?_);clear hC9 KK hHeld;rename_i hHeld;(try simp only [Act.put,lay]);(try replace B_j15:=B_j15.keep hb2);(try replace B_j16:=B_j16.keep hb2);clear hb2;have mk9:=True.intro)
       | (have hx:=hA10;clear hx;go_simp;have hl_j15:=hHeld.lts;refine hA10.out _ _ (hHeld.alloc _) (fun _=>?_);clear hA10 KK hHeld;rename_i hHeld;(try simp only [Act.put,lay]);generalize hwn:World.alloc wk _=wn at hHeld ⊢;have B_j15:=Blk.newE hwn;(try (have hx_j15:=B_j16.lt;replace B_j16:=B_j16.keep (below_allocE hwn)));simp only [List.mem_cons,List.not_mem_nil,or_false,forall_eq_or_imp,forall_eq,false_imp_iff,implies_true,and_true] at hl_j15;clear hwn;generalize hg:wk.heap.size=j15 at B_j15 hl_j15 ⊢;(try rw [hg] at hx_j15);clear hg;obtain⟨wk,rfl⟩:∃ X,X=wn:=⟨_,rfl⟩;have mk10:=True.intro)
       | (have hx:=hA11;clear hx;go_simp;have hl_j16:=hHeld.lts;refine hA11.out _ _ (hHeld.alloc _) (fun _=>?_);clear hA11 KK hHeld;rename_i hHeld;(try simp only [Act.put,lay]);generalize hwn:World.alloc wk _=wn at hHeld ⊢;have B_j16:=Blk.newE hwn;(try (have hx_j16:=B_j15.lt;replace B_j15:=B_j15.keep (below_allocE hwn)));simp only [List.mem_cons,List.not_mem_nil,or_false,forall_eq_or_imp,forall_eq,false_imp_iff,implies_true,and_true] at hl_j16;clear hwn;generalize hg:wk.heap.size=j16 at B_j16 hl_j16 ⊢;(try rw [hg] at hx_j16);clear hg;obtain⟨wk,rfl⟩:∃ X,X=wn:=⟨_,rfl⟩;have mk11:=True.intro)
       | (have hx:=hS12;clear hx;have qz0:=B_j15.ce 0 rfl;have fz0:=B_j15.frozen 0;have qz1:=B_j15.ce 1 rfl;have fz1:=B_j15.frozen 1;go_simp;have hsx:=hHeld.far [.float .f64 (ld i j),.float .f64 (lu i j)] 0 (g:=j15) (by omega) (by simp<;>omega) (by simp<;>omega);generalize hwn:sets wk j15 0 _=wn at hsx;refine hS12.out _ _ (by have e:=hwn;simp only [sets,Nat.reduceAdd] at e;rw [e];exact hsx) (fun _=>?_);clear hS12 KK hHeld hsx;rename_i hHeld;(try simp only [Act.put,lay]);(try replace B_j16:=B_j16.otherE hwn (by omega));replace B_j15:=B_j15.setsE hwn;simp only [laid,lay,Nat.reduceAdd] at B_j15;simp only [sets,Nat.reduceAdd] at hwn;rw [hwn] at hHeld ⊢;clear hwn qz0 fz0 qz1 fz1;obtain⟨wk,rfl⟩:∃ X,X=wn:=⟨_,rfl⟩;have mk12:=True.intro)
       | (have hx:=hS13;clear hx;have qz0:=B_j16.ce 0 rfl;have fz0:=B_j16.frozen 0;have qz1:=B_j16.ce 1 rfl;have fz1:=B_j16.frozen 1;go_simp;have hsx:=hHeld.far [.float .f64 (gd i j),.float .f64 (gu i j)] 0 (g:=j16) (by omega) (by simp<;>omega) (by simp<;>omega);generalize hwn:sets wk j16 0 _=wn at hsx;refine hS13.out _ _ (by have e:=hwn;simp only [sets,Nat.reduceAdd] at e;rw [e];exact hsx) (fun _=>?_);clear hS13 KK hHeld hsx;rename_i hHeld;(try simp only [Act.put,lay]);(try replace B_j15:=B_j15.otherE hwn (by omega));replace B_j16:=B_j16.setsE hwn;simp only [laid,lay,Nat.reduceAdd] at B_j16;simp only [sets,Nat.reduceAdd] at hwn;rw [hwn] at hHeld ⊢;clear hwn qz0 fz0 qz1 fz1;obtain⟨wk,rfl⟩:∃ X,X=wn:=⟨_,rfl⟩;have mk13:=True.intro)
       | (have hx:=mk4;have hx:=mk9;have hx:=mk10;have hx:=mk11;have hx:=mk12;have hx:=mk13;refine wpAnyH_done (by kernel_rfl) ?_ _;clear hx mk4 mk9 mk10 mk11 mk12 mk13;go_wp2_with fail;go_meet;exact⟨j15,j16,by (first | rfl | (simp<;>omega)),rfl,rfl,⟨by omega,by omega,by omega,by omega,by omega⟩,(hHeld.put B_j15).put B_j16⟩)
       | (have hx:=mk4;have hx:=mk9;have hx:=mk10;have hx:=mk11;have hx:=mk12;refine rdy 13 (fun KK hS13=>?_))
       | (have hx:=mk4;have hx:=mk9;have hx:=mk10;have hx:=mk11;refine rdy 12 (fun KK hS12=>?_))
       | (have hx:=mk4;have hx:=mk10;have hx:=mk11;refine rdy 9 (fun KK hC9=>?_))
       | (have hx:=mk4;have hx:=mk9;have hx:=mk11;refine rdy 10 (fun KK hA10=>?_))
       | (have hx:=mk4;have hx:=mk9;have hx:=mk10;refine rdy 11 (fun KK hA11=>?_))
       | (have hx:=mk10;have hx:=mk11;refine rdy 4 (fun KK hC4=>?_))
       | (have hx:=mk4;have hx:=mk11;refine rd2 9 10 (fun KK hC9=>?_) (fun KK hA10=>?_))
       | (have hx:=mk4;have hx:=mk10;refine rd2 9 11 (fun KK hC9=>?_) (fun KK hA11=>?_))
       | (have hx:=mk4;have hx:=mk9;refine rd2 10 11 (fun KK hA10=>?_) (fun KK hA11=>?_))
       | (have hx:=mk11;refine rd2 4 10 (fun KK hC4=>?_) (fun KK hA10=>?_))
       | (have hx:=mk10;refine rd2 4 11 (fun KK hC4=>?_) (fun KK hA11=>?_))
       | (have hx:=mk4;refine rd3 9 10 11 (fun KK hC9=>?_) (fun KK hA10=>?_) (fun KK hA11=>?_))
       | (refine rd3 4 10 11 (fun KK hC4=>?_) (fun KK hA10=>?_) (fun KK hA11=>?_))
     case rest=>
     obtain⟨j15,j16,rfl,rfl,rfl,hgs,hcl⟩:=hcut;rename World=>wx;clear LL;have LL:=Hd hcl;clear hcl;obtain⟨q3_0,q3_1⟩:=(LL.out.blk 5 rfl).c2;obtain⟨q4_0,q4_1⟩:=(LL.out.blk 7 rfl).c2;have fz0:=(LL.out.blk 5 rfl).frozen 0;have fz1:=(LL.out.blk 5 rfl).frozen 1;have ma:=NA.out i j hlt hlt2;have mb:=NB.out i j hlt hlt2
     go_upto_region 12 with fail
     clear ma mb q3_0 q3_1 q4_0 q4_1 fz0 fz1;replace LL:=Hd (LL.out.part 5 rfl 0 [.float .f64 (Pd (2*i+j+1)),.float .f64 (Pu (2*i+j+1))] (by omega) (by simp<;>omega) (by simp<;>omega))
     simp only [List.eraseIdx,laid,List.cons_append,List.nil_append,List.setIfInBounds_toArray,List.set_cons_zero,List.set_cons_succ,Nat.zero_add,Nat.reduceAdd] at LL
     obtain⟨wn,hwn⟩:∃ X,(sets wx j9 0 [.float .f64 (Pd (2*i+j+1)),.float .f64 (Pu (2*i+j+1))])=X:=⟨_,rfl⟩
     rw [hwn] at LL
     simp only [sets,Nat.reduceAdd] at hwn
     rw [hwn];clear hwn;obtain⟨q5_0,q5_1⟩:=(LL.out.blk 5 rfl).c2;obtain⟨q6_0,q6_1⟩:=(LL.out.blk 7 rfl).c2;have fz0:=(LL.out.blk 5 rfl).frozen 0;have fz1:=(LL.out.blk 5 rfl).frozen 1;have ma:=XA.out i j hlt hlt2;have mb:=XB.out i j hlt hlt2
     go_upto_region 13 with fail
     clear ma mb q5_0 q5_1 q6_0 q6_1 fz0 fz1;replace LL:=Hd (LL.out.part 5 rfl 0 [.float .f64 (Qd (2*i+j+1)),.float .f64 (Qu (2*i+j+1))] (by omega) (by simp<;>omega) (by simp<;>omega))
     simp only [List.eraseIdx,laid,List.cons_append,List.nil_append,List.setIfInBounds_toArray,List.set_cons_zero,List.set_cons_succ,Nat.zero_add,Nat.reduceAdd] at LL
     obtain⟨wn,hwn⟩:∃ X,(sets wn (j9+1) 0 [.float .f64 (Qd (2*i+j+1)),.float .f64 (Qu (2*i+j+1))])=X:=⟨_,rfl⟩
     rw [hwn] at LL
     simp only [sets,Nat.reduceAdd] at hwn
     rw [hwn];clear hwn;go_wp2
     go_roundw
     case rel=>exact⟨j+1,by go_num,by omega,LL.out.perm (by simp [Nat.add_assoc]) (by simp)⟩
     case measure=>simp [intOf];omega
    ·skip
     obtain rfl:j=2:=by omega
     go_wp2
     go_roundw
     case rel=>exact⟨i+1,by go_num,by omega,by rw [show 2*(i+1)=2*i+2 from by omega];exact LL.out⟩
     case measure=>simp [intOf];omega
  ·skip
   obtain rfl:i=2:=by omega
   obtain⟨q3_0,q3_1⟩:=(LL.out.blk 3 rfl).c2;obtain⟨q4_0,q4_1⟩:=(LL.out.blk 5 rfl).c2;obtain⟨q5_0,q5_1⟩:=(LL.out.blk 6 rfl).c2;go_wp2_with fail;refine cx (HCUT.out _) fun wk hb=>?_;replace LL:=stL LL hb;clear hb q3_0 q3_1 q4_0 q4_1 q5_0 q5_1;replace LL:=Hd (LL.out.loose 4 rfl rfl)
   simp only [List.eraseIdx,List.size_toArray,List.length_cons,List.length_nil,Nat.zero_add,Nat.reduceAdd] at LL
   obtain⟨ha8_0,hf8_0,ha8_1,hf8_1⟩:=(LL.out.has 0 rfl).sf2;have LF:=Hd (LL.out.wr [.float .f64 r1,.float .f64 r2]);obtain⟨hk8_0,hk8_1⟩:=(LF.out.blk 6 rfl).c2
   simp [sets] at hk8_0 hk8_1
   clear LL;go_wp2;refine bodyPost_ret (v:=Zf r1 r2) (by simp [results,Tryz.results32,go_sem,hk8_0,hk8_1]) rfl ?_
   exact⟨rfl,LF.out.b⟩
end
section
open Go.RowKit
def ul(a b:Int)(i:Nat):Int:=if i=0 then a else b
def mnk(f:Nat->Nat->Int):Nat->Int
 | 0=>M
 | k+1=>min (mnk f k) (f (k / 2) (k % 2))
def mxk(f:Nat->Nat->Int):Nat->Int
 | 0=>-(M:Int)
 | k+1=>max (mxk f k) (f (k / 2) (k % 2))
theorem mnk_rng{f:Nat->Nat->Int}(h:∀ i j,-(M:Int)<=f i j/\f i j<=M)(k:Nat):-(M:Int)<=mnk f k/\mnk f k<=M:=by
 have hM:=M_val
 induction k with
 | zero=>show -(M:Int)<=(M:Int)/\(M:Int)<=M;omega
 | succ k ih=>have:=h (k / 2) (k % 2);show -(M:Int)<=min _ _/\min _ _<=(M:Int);omega
theorem mxk_rng{f:Nat->Nat->Int}(h:∀ i j,-(M:Int)<=f i j/\f i j<=M)(k:Nat):-(M:Int)<=mxk f k/\mxk f k<=M:=by
 have hM:=M_val
 induction k with
 | zero=>show -(M:Int)<=-(M:Int)/\-(M:Int)<=M;omega
 | succ k ih=>have:=h (k / 2) (k % 2);show -(M:Int)<=max _ _/\max _ _<=(M:Int);omega
theorem mnk_step(f:Nat->Nat->Int)(i j:Nat)(hj:j<2):min (mnk f (2*i+j)) (f i j)=mnk f (2*i+j+1):=by
 show _=min (mnk f (2*i+j)) (f ((2*i+j) / 2) ((2*i+j) % 2))
 rw [show (2*i+j) / 2=i by omega,show (2*i+j) % 2=j by omega]
theorem mxk_step(f:Nat->Nat->Int)(i j:Nat)(hj:j<2):max (mxk f (2*i+j)) (f i j)=mxk f (2*i+j+1):=by
 show _=max (mxk f (2*i+j)) (f ((2*i+j) / 2) ((2*i+j) % 2))
 rw [show (2*i+j) / 2=i by omega,show (2*i+j) % 2=j by omega]
theorem ul_rng{i j:Int}(h:Iv i j)(k:Nat):-(M:Int)<=ul i j k/\ul i j k<=M:=by
 unfold ul
 split
 ·exact h.lo
 ·exact h.hi
theorem ctO_fd(i j a b c d:Int):ctO false i j a b c d=ct i j a b c d:=by
 unfold ctO ct
 by_cases h:c<i\/j<b
 ·rw [if_pos h,if_pos h]
 ·rw [if_neg h,if_neg h,if_neg (by rintro⟨h,-⟩;cases h)]
theorem fad_k(i1 j1 i2 j2 c1 c2 i j:Int):fad i1 j1 i2 j2 c1 c2 i j=if j1<i1\/j2<i2\/c2<c1\/j<i then ((M:Int),-(M:Int)) else
  ct i j (mnk (fun k l=>(wt c1 (ul i1 j1 k) (ul i2 j2 l)).1) 4) (mnk (fun k l=>(wt c1 (ul i1 j1 k) (ul i2 j2 l)).2) 4) (mxk (fun k l=>(wt c2 (ul i1 j1 k) (ul i2 j2 l)).1) 4) (mxk (fun k l=>(wt c2 (ul i1 j1 k) (ul i2 j2 l)).2) 4):=rfl
theorem fmaadd_any(a1 a2 b1 b2 c1 c2 x y:Nat)(w:World)(ha1:a1<18446744073709551616)(ha2:a2<18446744073709551616)(hb1:b1<18446744073709551616)(hb2:b2<18446744073709551616)(hc1:c1<18446744073709551616)(hc2:c2<18446744073709551616)(hx:x<18446744073709551616)(hy:y<18446744073709551616):
  Rt 32 #[Zf a1 a2,Zf b1 b2,Zf c1 c2,Zf x y] (Zf (pat (fad (rd a1 a2).1 (rd a1 a2).2 (rd b1 b2).1 (rd b1 b2).2 (rd c1 c2).1 (rd c1 c2).2 (rd x y).1 (rd x y).2).1) (pat (fad (rd a1 a2).1 (rd a1 a2).2 (rd b1 b2).1 (rd b1 b2).2 (rd c1 c2).1 (rd c1 c2).2 (rd x y).1 (rd x y).2).2)) w:=by
 have hM:=M_val;have v1:=rd_iv a1 a2;have v2:=rd_iv b1 b2;have v3:=rd_iv c1 c2;have v4:=rd_iv x y;have t1:=fun W=>readf a1 a2 W ha1 ha2;have t2:=fun W=>readf b1 b2 W hb1 hb2;have t3:=fun W=>readf c1 c2 W hc1 hc2;have t4:=fun W=>readf x y W hx hy
 obtain⟨⟨i1,j1⟩,r1⟩:∃ z,rd a1 a2=z:=⟨_,rfl⟩
 obtain⟨⟨i2,j2⟩,r2⟩:∃ z,rd b1 b2=z:=⟨_,rfl⟩
 obtain⟨⟨i3,j3⟩,r3⟩:∃ z,rd c1 c2=z:=⟨_,rfl⟩
 obtain⟨⟨i4,j4⟩,r4⟩:∃ z,rd x y=z:=⟨_,rfl⟩
 rw [r1] at v1 t1;rw [r2] at v2 t2;rw [r3] at v3 t3;rw [r4] at v4 t4;rw [r1,r2,r3,r4]
 dsimp only at *
 have m1:=em_idx v1;have m2:=em_idx v2;have m3:=em_idx v3;have m4:=em_idx v4;rw [fad_k]
 by_cases hno:j1<i1\/j2<i2\/j3<i3\/j4<i4
 ·rw [if_pos hno,pat_max,pat_min]
  exact fmaadd_none _ _ _ _ _ _ _ _ _ _ _ _ _ _ _ _ _ _ _ _ w t1 m1 t2 m2 t3 m3 t4 m4 (by simp;omega)
 ·rw [if_neg hno];have g1:=fun i j=>wt_rng (c:=i3) (u:=ul i1 j1 i) (v:=ul i2 j2 j) v3.lo;have g2:=fun i j=>wt_rng (c:=j3) (u:=ul i1 j1 i) (v:=ul i2 j2 j) v3.hi;have q1:=mnk_rng (f:=fun k l=>(wt i3 (ul i1 j1 k) (ul i2 j2 l)).1) (fun i j=>(g1 i j).1);have q2:=mnk_rng (f:=fun k l=>(wt i3 (ul i1 j1 k) (ul i2 j2 l)).2) (fun i j=>(g1 i j).2);have q3:=mxk_rng (f:=fun k l=>(wt j3 (ul i1 j1 k) (ul i2 j2 l)).1) (fun i j=>(g2 i j).1);have q4:=mxk_rng (f:=fun k l=>(wt j3 (ul i1 j1 k) (ul i2 j2 l)).2) (fun i j=>(g2 i j).2)
  refine fmaadd_some a1 a2 b1 b2 c1 c2 x y _ _ _ _ _ _ _ _ _ _ (fun i=>pat (ul i1 j1 i)) (fun i=>pat (ul i2 j2 i)) (fun k=>pat (mnk (fun k l=>(wt i3 (ul i1 j1 k) (ul i2 j2 l)).1) k)) (fun k=>pat (mnk (fun k l=>(wt i3 (ul i1 j1 k) (ul i2 j2 l)).2) k)) (fun k=>pat (mxk (fun k l=>(wt j3 (ul i1 j1 k) (ul i2 j2 l)).1) k)) (fun k=>pat (mxk (fun k l=>(wt j3 (ul i1 j1 k) (ul i2 j2 l)).2) k))
   (fun i j=>pat (wt i3 (ul i1 j1 i) (ul i2 j2 j)).1) (fun i j=>pat (wt i3 (ul i1 j1 i) (ul i2 j2 j)).2) (fun i j=>pat (wt j3 (ul i1 j1 i) (ul i2 j2 j)).1) (fun i j=>pat (wt j3 (ul i1 j1 i) (ul i2 j2 j)).2) _ _ _ _ w t1 m1 t2 m2 t3 m3 t4 m4 (by simp;omega) ⟨rfl,rfl⟩ ⟨rfl,rfl⟩ ⟨pat_max,pat_max⟩ ⟨pat_min,pat_min⟩
   (fun i j _ _ W=>without_any i3 _ _ W v3.lo (ul_rng v1 i) (ul_rng v2 j)) (fun i j _ _ W=>without_any j3 _ _ W v3.hi (ul_rng v1 i) (ul_rng v2 j)) (fun i j _ hj W ts t=>?_) (fun i j _ hj W ts t=>?_) (fun i j _ hj W ts t=>?_) (fun i j _ hj W ts t=>?_) (fun W=>?_)
  ·rw [<- mnk_step _ i j hj]
   exact run_minf (q1 _) (g1 i j).1 W ts t
  ·rw [<- mnk_step _ i j hj]
   exact run_minf (q2 _) (g1 i j).2 W ts t
  ·rw [<- mxk_step _ i j hj]
   exact run_maxf (q3 _) (g2 i j).1 W ts t
  ·rw [<- mxk_step _ i j hj]
   exact run_maxf (q4 _) (g2 i j).2 W ts t
  ·rw [<- ctO_fd]
   exact rcut2_any false i4 j4 _ _ _ _ W v4.lo v4.hi (q1 4) (q2 4) (q3 4) (q4 4)
end
section
open Go.RowKit
attribute [local go_sem] run_store_float run_negf run_eqf
theorem ret2{a b r1 r2:Nat}{e:Ending}{P:Prop}(h:e=.returned (Zf a b)/\P)(h1:a=r1)(h2:b=r2):e=.returned (Zf r1 r2)/\P:=by
 subst h1 h2;exact h
theorem rti_exact{d i j:Int}{n:Nat}(hd:d=-1\/d=1)(hj:0<j)(hj2:j<M)(hi:0<i)(hi2:i<M)(hn:0<n)(h:fl j ^ n=fl i):rti d i n=j:=by
 have hM:=M_val
 have p:0<fl j:=by have:=fl_lt_iff.2 hj;rwa [fl_zero] at this
 have ok:RtOk i n (fl j):=by
  refine⟨p,fun k hk=>?_⟩
  have pk:0<=fl k:=by have:=fl_le_iff.2 hk;rwa [fl_zero] at this
  rw [<- h]
  constructor
  ·constructor
   ·exact fun c=>rpow_le pk c n
   ·intro c
    by_cases q:fl k<=fl j
    ·exact q
    ·have:=rpow_lt (Rat.le_of_lt p) (show fl j<fl k by grind) n hn;grind
  ·constructor
   ·exact fun c=>rpow_le (Rat.le_of_lt p) c n
   ·intro c
    by_cases q:fl j<=fl k
    ·exact q
    ·have:=rpow_lt pk (show fl k<fl j by grind) n hn;grind
 unfold rti;rw [if_neg (by omega),rt1_of hd ok (by omega) (by omega)]
 exact rndI_fl hd (by omega) hj2
theorem sqr_known(W:World):Rt 14 #[Zf 4616189618054758400 4621256167635550208,Zf 0 4612811918334230528] (Zf 4611686018427387904 4612811918334230528) W:=by
 have h:=sqrrev_any 4616189618054758400 4621256167635550208 0 4612811918334230528 W (by decide) (by decide) (by decide) (by decide)
 have r1:rd 4616189618054758400 4621256167635550208=(4616189618054758400,4621256167635550208):=by decide +kernel
 have r2:rd 0 4612811918334230528=(0,4612811918334230528):=by decide +kernel
 have q1:=fun d (hd:d=-1\/d=1)=>rti_exact (d:=d) (i:=4616189618054758400) (j:=4611686018427387904) (n:=2) hd (by decide) (by decide +kernel) (by decide) (by decide +kernel) (by decide) (by decide +kernel);have q2:=fun d (hd:d=-1\/d=1)=>rti_exact (d:=d) (i:=4621256167635550208) (j:=4613937818241073152) (n:=2) hd (by decide) (by decide +kernel) (by decide) (by decide +kernel) (by decide) (by decide +kernel)
 have e:pwr 2 4616189618054758400 4621256167635550208 0 4612811918334230528=(4611686018427387904,4612811918334230528):=by
  unfold pwr;rw [if_neg (by decide),if_pos (by decide),show max (4616189618054758400:Int) 0=4616189618054758400 from by decide,q1 _ (.inl rfl),q1 _ (.inr rfl),q2 _ (.inl rfl),q2 _ (.inr rfl)]
  decide +kernel
 rw [r1,r2,e] at h
 have p1:pat 4611686018427387904=4611686018427387904:=by decide +kernel
 have p2:pat 4612811918334230528=4612811918334230528:=by decide +kernel
 rw [p1,p2] at h
 exact h
theorem add_known(W:World):Rt 22 #[Zf 4607182418800017408 4611686018427387904,Zf 4617315517961601024 4617315517961601024,Zf 13844628204490326016 4621256167635550208] (Zf 4613937818241073152 4616189618054758400) W:=
 (revadd_any 4607182418800017408 4611686018427387904 4617315517961601024 4617315517961601024 13844628204490326016 4621256167635550208 W (by decide) (by decide) (by decide) (by decide) (by decide) (by decide)).mono fun e w' h=>ret2 h (by decide +kernel) (by decide +kernel)
set_option maxRecDepth 8000 in
theorem of_law(a b:Nat)(w:World):Calls Tryz.prog 20 (Zv a b) w fun e w'=>e=.returned (Zf a b)/\Below w.heap.size w w':=by
 have LL:=li1 w (Zv 0 0) 28
 go_enter Tryz.func20,Tryz.ntmps20
 replace LL:=Hd (LL.out.loose0 rfl);obtain⟨ha4_0,hf4_0,ha4_1,hf4_1⟩:=(LL.out.has 0 rfl).sf2;have LF:=Hd (LL.out.wr [.float .f64 a,.float .f64 b]);obtain⟨hk4_0,hk4_1⟩:=(LF.out.blk 0 rfl).c2
 simp [sets] at hk4_0 hk4_1
 clear LL;go_wp2;refine bodyPost_ret (v:=Zf a b) (by simp [results,Tryz.results20,go_sem,hk4_0,hk4_1]) rfl ?_
 exact⟨rfl,below_alloc w _⟩
set_option maxRecDepth 8000 in
theorem awake_any(w:World):Rt 21 #[] (.bool true) w:=by
 have HO:=Hd of_law;have HS:=Hd sqr_known;have HD:=Hd add_known
 have o4613937818241073152:FloatKind.f64.format.order 4613937818241073152 4613937818241073152=some .eq:=by kernel_rfl
 have o4616189618054758400:FloatKind.f64.format.order 4616189618054758400 4616189618054758400=some .eq:=by kernel_rfl
 have o4611686018427387904:FloatKind.f64.format.order 4611686018427387904 4611686018427387904=some .eq:=by kernel_rfl
 have o4612811918334230528:FloatKind.f64.format.order 4612811918334230528 4612811918334230528=some .eq:=by kernel_rfl
 have LL:=Hd (show Lies w w [] [] from⟨Below.refl _ _,by simp,by simp⟩)
 go_enter Tryz.func21,Tryz.ntmps21
 go_wp2_with fail;refine cx (HO.out _ _ _) fun wk hb=>?_;replace LL:=stL LL hb;clear hb;go_wp2_with fail;refine cx (HO.out _ _ _) fun wk hb=>?_;replace LL:=stL LL hb;clear hb;go_wp2_with fail;refine cx (HO.out _ _ _) fun wk hb=>?_;replace LL:=stL LL hb;clear hb;go_wp2_with fail;refine cx (HD.out _) fun wk hb=>?_;replace LL:=stL LL hb;clear hb;go_wp2_with fail;refine cx (HO.out _ _ _) fun wk hb=>?_;replace LL:=stL LL hb;clear hb;go_wp2_with fail;refine cx (HO.out _ _ _) fun wk hb=>?_;replace LL:=stL LL hb;clear hb;go_wp2_with fail;refine cx (HO.out _ _ _) fun wk hb=>?_;replace LL:=stL LL hb;clear hb;go_wp2_with fail;refine cx (HS.out _) fun wk hb=>?_;replace LL:=stL LL hb;clear hb;go_wp2_with fail;refine cx (HO.out _ _ _) fun wk hb=>?_;replace LL:=stL LL hb;clear hb;go_wp2
 go_ret
 exact⟨rfl,LL.out.b⟩
end
section
open Go.RowKit
theorem order_same{i:Int}(h0:-(M:Int)<=i)(h1:i<=M):FloatKind.f64.format.order (pat i) (pat i)=some .eq:=by
 rw [order_pat h0 h1 h0 h1,Int.compare_eq_eq.2 rfl]
end
section
open Go.RowKit
theorem prL_iv{i1 j1 i2 j2:Int}(h1:Iv i1 j1)(h2:Iv i2 j2):Iv (prL i1 j1 i2 j2).1 (prL i1 j1 i2 j2).2/\Iv (prU i1 j1 i2 j2).1 (prU i1 j1 i2 j2).2:=by
 have hM:=M_val
 have hx:Iv (-(M:Int)) M:=by unfold Iv;omega
 unfold prL prU
 by_cases hn:j1<i1\/j2<i2
 ·rw [if_pos hn,if_pos hn];exact⟨Iv.none,Iv.none⟩
 ·rw [if_neg hn,if_neg hn];have n1:=ne_or h1 (by omega);have n2:=ne_or h2 (by omega)
  by_cases hs:(i1<0/\0<j1)/\¬ (i2<=0/\0<=j2)
  ·rw [if_pos hs,if_pos hs];have p:=(Cl.PF (numok_idx n2) n1).iv _ _ hx;have q:Iv (PN i1 j1 (es i2) (ex i2) (es j2) (ex j2) (-(M:Int)) M).1 (PN i1 j1 (es i2) (ex i2) (es j2) (ex j2) (-(M:Int)) M).2:=(Cl.PF (numok_idx n2) n1.neg).ng.iv _ _ hx
   split
   ·exact⟨p,q⟩
   ·exact⟨q,p⟩
  ·rw [if_neg hs,if_neg hs]
   exact⟨(Cl.mlr h1 h2).iv _ _ hx,Iv.none⟩
theorem K1_pat:pat K1=4607182418800017408:=by decide
set_option maxRecDepth 100000 in
theorem agrees_full(b1 b2 c1 c2 x1 x2:Nat)(w:World)(hb1:b1<18446744073709551616)(hb2:b2<18446744073709551616)(hc1:c1<18446744073709551616)(hc2:c2<18446744073709551616)(hx:x1<18446744073709551616)(hy:x2<18446744073709551616)(hT:Tab w):
  Rt 9 #[.agg #[.int .u64 (b1:Int),.int .u64 (b2:Int),.int .u64 (c1:Int),.int .u64 (c2:Int),.int .u64 (x1:Int),.int .u64 (x2:Int)]] (.bool true) w:=by
 have hM:=M_val;have v1:=rd_iv b1 b2;have v2:=rd_iv c1 c2;have v3:=rd_iv x1 x2;have vk:Iv K1 K1:=K1_iv
 have vz:Iv (0:Int) 0:=by unfold Iv;omega
 have ve:Iv (-(M:Int)) M:=by unfold Iv;omega
 have rz:rd 0 0=((0:Int),(0:Int)):=rd_pat vz
 have rk:rd 4607182418800017408 4607182418800017408=(K1,K1):=by have:=rd_pat vk;rwa [K1_pat] at this
 have re:rd 18442240474082181120 9218868437227405312=(-(M:Int),(M:Int)):=by have:=rd_pat ve;rwa [pat_min,pat_max] at this
 have fnb:=fun W=>negf b1 b2 W hb1 hb2;have fnc:=fun W=>negf c1 c2 W hc1 hc2;have fnx:=fun W=>negf x1 x2 W hx hy
 have lt:∀ {i j:Int},Iv i j->pat i<18446744073709551616/\pat j<18446744073709551616:=fun h=>⟨pat_lt h.lo.1 h.lo.2,pat_lt h.hi.1 h.hi.2⟩
 have od:∀ {i j:Int},Iv i j->FloatKind.f64.format.order (pat i) (pat i)=some .eq/\FloatKind.f64.format.order (pat j) (pat j)=some .eq:=fun h=>⟨order_same h.lo.1 h.lo.2,order_same h.hi.1 h.hi.2⟩
 have fa1:=fun W=>revadd_any b1 b2 c1 c2 x1 x2 W hb1 hb2 hc1 hc2 hx hy;have fb1:=fun W=>revsub2_any b1 b2 c1 c2 x1 x2 W hb1 hb2 hc1 hc2 hx hy;have fc1:=fun W=>fmarev_any b1 b2 0 0 c1 c2 x1 x2 W hb1 hb2 (by decide) (by decide) hc1 hc2 hx hy;have fc2:=fun W=>mulrev_any b1 b2 c1 c2 x1 x2 W hb1 hb2 hc1 hc2 hx hy;have fd1:=fun W=>fmaadd_any 4607182418800017408 4607182418800017408 b1 b2 c1 c2 x1 x2 W (by decide) (by decide) hb1 hb2 hc1 hc2 hx hy;have fe1:=fun W=>fmarev_any 4607182418800017408 4607182418800017408 b1 b2 c1 c2 x1 x2 W (by decide) (by decide) hb1 hb2 hc1 hc2 hx hy;have ff1:=fun W t=>pownz_any 1 c1 c2 x1 x2 W hc1 hc2 hx hy t;have ff2:=fun W=>inter_gen _ _ _ _ c1 c2 x1 x2 W v2 v3 (fun W=>readf c1 c2 W hc1 hc2) (fun W=>readf x1 x2 W hx hy);have fg1:=fun W t=>pownz_any 2 c1 c2 x1 x2 W hc1 hc2 hx hy t;have fg2:=fun W=>sqrrev_any c1 c2 x1 x2 W hc1 hc2 hx hy;have fh1:=fun W t=>pownz_any (-1) c1 c2 x1 x2 W hc1 hc2 hx hy t;have fh2:=fun W=>reciprev_any c1 c2 x1 x2 W hc1 hc2 hx hy;have fh3:=fun W=>divrev2_any 4607182418800017408 4607182418800017408 c1 c2 x1 x2 W (by decide) (by decide) hc1 hc2 hx hy;have fi1:=fun W=>revmax_any b1 b2 c1 c2 x1 x2 W hb1 hb2 hc1 hc2 hx hy;have fj1:=fun W=>ceilrev_any c1 c2 x1 x2 W hc1 hc2 hx hy;have fk:=fun W=>mulpair_any b1 b2 c1 c2 W hb1 hb2 hc1 hc2;have fl3:=fun W=>mulrev_any b1 b2 c1 c2 18442240474082181120 9218868437227405312 W hb1 hb2 hc1 hc2 (by decide) (by decide);have fn1:=fun W=>cancel_any x1 x2 b1 b2 W hx hy hb1 hb2;have e0:=fun W=>isempty_any b1 b2 W hb1 hb2
 have sn:=fun (p q:Nat) (hp:p<18446744073709551616) (hq:q<18446744073709551616) W=>subset_not x1 x2 p q W hx hy hp hq;have si:=fun (p q:Nat) (hp:p<18446744073709551616) (hq:q<18446744073709551616) W=>subset_in x1 x2 p q W hx hy hp hq;have fad:=fun (p q:Nat) (hp:p<18446744073709551616) (hq:q<18446744073709551616) W=>iadd_any b1 b2 p q W hb1 hb2 hp hq;have fa2:=fun (p q:Nat) (hp:p<18446744073709551616) (hq:q<18446744073709551616) W=>revsub1_any p q c1 c2 x1 x2 W hp hq hc1 hc2 hx hy;have fb2:=fun (p q p' q':Nat) (hp:p<18446744073709551616) (hq:q<18446744073709551616) (hp':p'<18446744073709551616) (hq':q'<18446744073709551616) W=>revadd_any p q p' q' x1 x2 W hp hq hp' hq' hx hy;rw [rz] at fc1;rw [rk] at fd1 fe1 fh3;rw [re] at fl3
 obtain⟨⟨i1,j1⟩,r1⟩:∃ z,rd b1 b2=z:=⟨_,rfl⟩
 obtain⟨⟨i2,j2⟩,r2⟩:∃ z,rd c1 c2=z:=⟨_,rfl⟩
 obtain⟨⟨i,j⟩,r3⟩:∃ z,rd x1 x2=z:=⟨_,rfl⟩
 rw [r1] at v1 fnb fa1 fb1 fc1 fc2 fd1 fe1 fi1 fk fl3 fn1 e0 fad;rw [r2] at v2 fnc fa1 fa2 fb1 fc1 fc2 fd1 fe1 ff1 ff2 fg1 fg2 fh1 fh2 fh3 fi1 fj1 fk fl3;rw [r3] at v3 fnx fa1 fa2 fb1 fb2 fc1 fc2 fd1 fe1 ff1 ff2 fg1 fg2 fh1 fh2 fh3 fi1 fj1 fn1 sn si
 dsimp only at *
 have w1:=v1.ng;have w2:=v2.ng;have w3:=v3.ng;have fa2:=fa2 (pat (-j1)) (pat (-i1)) (lt w1).1 (lt w1).2;have fb2:=fb2 (pat (-j1)) (pat (-i1)) (pat (-j2)) (pat (-i2)) (lt w1).1 (lt w1).2 (lt w2).1 (lt w2).2;have fi2:=fun W=>revmin_any (pat (-j1)) (pat (-i1)) (pat (-j2)) (pat (-i2)) (pat (-j)) (pat (-i)) W (lt w1).1 (lt w1).2 (lt w2).1 (lt w2).2 (lt w3).1 (lt w3).2;have fj2:=fun W=>floorrev_any (pat (-j2)) (pat (-i2)) (pat (-j)) (pat (-i)) W (lt w2).1 (lt w2).2 (lt w3).1 (lt w3).2;rw [rd_pat w1] at fa2 fb2 fi2;rw [rd_pat w2] at fb2 fi2 fj2;rw [rd_pat w3] at fi2 fj2
 dsimp only at fa2 fb2 fi2 fj2
 rw [Int.neg_neg,Int.neg_neg] at fa2;rw [fmr_mlr v2] at fc1;rw [fad_one v1 v2 v3] at fd1;rw [fmr_one v1 v2 v3] at fe1;rw [pwz_one v2 v3] at ff1;rw [pwz_two] at fg1;rw [pwz_recip v2 v3] at fh1;rw [ceil_floor v2 v3] at fj1
 dsimp only at fj1
 have i7:=(Cl.rmr w1 w2).iv _ _ w3;have i9:=(Cl.stq (w:=1) (by omega) w2).iv _ _ w3;have fi3:=fun W=>negf _ _ W (lt i7).1 (lt i7).2;have fj3:=fun W=>negf _ _ W (lt i9).1 (lt i9).2;rw [rd_pat i7] at fi3;rw [rd_pat i9] at fj3
 dsimp only at fi3 fj3
 have pv:=prL_iv v1 v2;have po:=pair_ok v1 v2;have ph:=(Cl.mlr v1 v2).iv _ _ ve;have fl1:=fun W=>hullf _ _ _ _ W pv.1 pv.2;rw [po.1,po.2.1] at fl1;have fm1:=fun W=>isempty_any _ _ W (lt pv.1).1 (lt pv.1).2;have fm2:=fun W=>isempty_any _ _ W (lt pv.2).1 (lt pv.2).2;rw [rd_pat pv.1] at fm1;rw [rd_pat pv.2] at fm2
 dsimp only at fm1 fm2
 have hem:decide ((prL i1 j1 i2 j2).2<(prL i1 j1 i2 j2).1)=true->decide ((prU i1 j1 i2 j2).2<(prU i1 j1 i2 j2).1)=true:=fun h=>decide_eq_true (po.2.2.2 (of_decide_eq_true h))
 have hlu:decide ((prL i1 j1 i2 j2).2<(prL i1 j1 i2 j2).1)=false->decide ((prU i1 j1 i2 j2).2<(prU i1 j1 i2 j2).1)=false->∃ o1 o2:Ordering,FloatKind.f64.format.order (pat (prL i1 j1 i2 j2).2) 0=some o1/\FloatKind.f64.format.order (pat (prU i1 j1 i2 j2).1) 0=some o2/\(o1=.lt\/o1=.eq)/\(o2=.eq\/o2=.gt):=fun h h'=>by
  have k:=po.2.2.1 (by have:=of_decide_eq_false h;omega) (by have:=of_decide_eq_false h';omega);have a:=order_pat pv.1.hi.1 pv.1.hi.2 vz.lo.1 vz.lo.2;have b:=order_pat pv.2.lo.1 pv.2.lo.2 vz.lo.1 vz.lo.2;rw [pat_zero] at a b;refine⟨_,_,a,b,?_,?_⟩
  ·rcases Int.lt_or_eq_of_le k.1 with z | z
   ·exact .inl (Int.compare_eq_lt.2 z)
   ·exact .inr (Int.compare_eq_eq.2 z)
  ·rcases Int.lt_or_eq_of_le k.2 with z | z
   ·exact .inr (Int.compare_eq_gt.2 z)
   ·exact .inl (Int.compare_eq_eq.2 z.symm)
 have cv:Iv (cmf i j i1 j1).1 (cmf i j i1 j1).2:=by
  by_cases h:j1<i1\/j<i
  ·have c:com i j=false\/com i1 j1=false:=by
    rcases h with h | h
    ·right;unfold com;exact decide_eq_false (by omega)
    ·left;unfold com;exact decide_eq_false (by omega)
   unfold cmf
   split
   ·exact Iv.none
   ·first
    | exact ve
    | (rw [if_pos c];exact ve)
  ·exact (cancel_ok v3 v1 (by omega) (by omega)).2.1
 have fn2:=fad _ _ (lt cv).1 (lt cv).2;rw [rd_pat cv] at fn2
 dsimp only at fn2
 have fin:∃ r:Bool,(∀ W,Rt 66 #[Zf x1 x2,Zf (pat (av i1 j1 (cmf i j i1 j1).1 (cmf i j i1 j1).2).1) (pat (av i1 j1 (cmf i j i1 j1).1 (cmf i j i1 j1).2).2)] (.bool r) W)/\(r=false->∀ W,Rt 65 #[Zf b1 b2] (.bool true) W):=by
  by_cases nb:j1<i1
  ·rw [decide_eq_true nb] at e0
   have ea:av i1 j1 (cmf i j i1 j1).1 (cmf i j i1 j1).2=((M:Int),-(M:Int)):=by unfold av;rw [if_pos (.inl nb)]
   rw [ea];have q:=lt Iv.none;have qr:=rd_pat Iv.none
   by_cases nx:j<i
   ·refine⟨true,fun W=>si _ _ q.1 q.2 W ?_ ?_,fun h=>by cases h⟩
    ·rw [qr];unfold Iv at v3;dsimp only;omega
    ·rw [qr];unfold Iv at v3;dsimp only;omega
   ·exact⟨false,fun W=>sn _ _ q.1 q.2 W nx (by rw [qr];dsimp only;omega),fun _=>e0⟩
  ·by_cases nx:j<i
   ·have g1:=ad_bounds (d:=-1) (i:=i1) (j:=(cmf i j i1 j1).1) (.inl rfl) v1.lo cv.lo;have g2:=ad_bounds (d:=1) (i:=j1) (j:=(cmf i j i1 j1).2) (.inr rfl) v1.hi cv.hi
    have gb:(-(M:Int)<=(av i1 j1 (cmf i j i1 j1).1 (cmf i j i1 j1).2).1/\(av i1 j1 (cmf i j i1 j1).1 (cmf i j i1 j1).2).1<=M)/\(-(M:Int)<=(av i1 j1 (cmf i j i1 j1).1 (cmf i j i1 j1).2).2/\(av i1 j1 (cmf i j i1 j1).1 (cmf i j i1 j1).2).2<=M):=by
     unfold av
     split
     ·dsimp only;omega
     ·exact⟨g1,g2⟩
    have rv:=rd_iv (pat (av i1 j1 (cmf i j i1 j1).1 (cmf i j i1 j1).2).1) (pat (av i1 j1 (cmf i j i1 j1).1 (cmf i j i1 j1).2).2);refine⟨true,fun W=>si _ _ (pat_lt gb.1.1 gb.1.2) (pat_lt gb.2.1 gb.2.2) W ?_ ?_,fun h=>by cases h⟩
    ·have:=rv.lo;unfold Iv at v3;omega
    ·have:=rv.hi;unfold Iv at v3;omega
   ·have k:=cancel_ok v3 v1 nx nb;have n1:=ne_or v1 nb;have n3:=ne_or v3 nx;have g1:=ad_bounds (d:=-1) (i:=i1) (j:=(cmf i j i1 j1).1) (.inl rfl) v1.lo cv.lo;have g2:=ad_bounds (d:=1) (i:=j1) (j:=(cmf i j i1 j1).2) (.inr rfl) v1.hi cv.hi
    have ea:av i1 j1 (cmf i j i1 j1).1 (cmf i j i1 j1).2=(ad (-1) i1 (cmf i j i1 j1).1,ad 1 j1 (cmf i j i1 j1).2):=by unfold av;rw [if_neg (by have:=k.1;omega)]
    rw [ea];unfold Ne at n1 n3
    have q:Iv (ad (-1) i1 (cmf i j i1 j1).1) (ad 1 j1 (cmf i j i1 j1).2):=by unfold Iv;omega
    have qr:=rd_pat q
    exact⟨true,fun W=>si _ _ (lt q).1 (lt q).2 W (by rw [qr];exact k.2.2.1) (by rw [qr];exact k.2.2.2),fun h=>by cases h⟩
 obtain⟨r,fn3,hr⟩:=fin;have ig:=(Cl.it v2).iv _ _ v3;have ic1:=(Cl.rar v1 v2).iv _ _ v3;have ic2:=(Cl.rar w1 w2).iv _ _ v3;have ic3:=(Cl.mlr v1 v2).iv _ _ v3;have ic5:=(Cl.pwr (n:=2) (by omega) (by omega) v2).iv _ _ v3;have ic6:=(Cl.dr2 K1_iv v2).iv _ _ v3;have ic7:=i7.ng;have ic9:=i9.ng
 exact agrees_law b1 b2 c1 c2 x1 x2 _ _ _ _ _ _ _ _ _ _ _ _ _ _ _ _ _ _ _ _ _ _ _ _ _ _ _ _ _ _ _ _ _ _ _ _ _ _ _ _ _ (w:=w) (hT:=hT) (hA:=awake_any) (hO:=of_law) (fnb:=fnb) (fnc:=fnc) (fnx:=fnx) (fa1:=fa1) (fa2:=fa2) (fb1:=fb1) (fb2:=fb2) (fc1:=fc1) (fc2:=fc2) (fd1:=fd1) (fe1:=fe1) (ff1:=ff1) (ff2:=ff2) (fg1:=fg1) (fg2:=fg2) (fh1:=fh1) (fh2:=fh2) (fh3:=fh3) (fi1:=fi1) (fi2:=fi2) (fi3:=fi3) (fj1:=fj1) (fj2:=fj2) (fj3:=fj3) (fk:=fk) (fl1:=fl1) (fl2:=entiref) (fl3:=fl3) (fm1:=fm1) (fm2:=fm2) (fn1:=fn1) (fn2:=fn2) (hem:=hem) (hlu:=hlu) (fn3:=fn3) (hr:=hr) ((od ic1).1) ((od ic1).2) ((od ic2).1) ((od ic2).2) ((od ic3).1) ((od ic3).2) ((od ig).1) ((od ig).2) ((od ic5).1) ((od ic5).2) ((od ic6).1) ((od ic6).2) ((od ic7).1) ((od ic7).2) ((od ic9).1) ((od ic9).2) ((od ph).1) ((od ph).2)
end
section
open Go.ChangeShapes Go.WideShapes Go.RowKit
theorem int_of_trod{H:Type}{enc:TypeId × Value->H}{P:Program}{w:World}{base:Nat}{sp:Nat->Bool}{held:Bool}{fuel:Nat}{t:TypeId}{k:IntKind}{c:Value}{y:DataW H × List MemPlace}
  (ht:P.underlying t=some (.int k))(h:DataW.trod enc P w base sp held fuel t [c]=some y):∃ n,c=.int k n/\y=(.lit (.int k n),[]):=by
 cases fuel with
 | zero=>simp [DataW.trod] at h
 | succ fuel=>
  cases c<;>simp [DataW.trod,ht] at h
  rename_i k' n;obtain⟨⟨rfl,_⟩,rfl⟩:=h
  exact⟨n,rfl,rfl⟩
theorem gdb: Tryz.prog.globalNamed "math/bits.deBruijn32tab" = some 1 := by kernel_rfl
theorem gdbType:(Tryz.prog.globals[1]?).map (·.type)=some 226:=by kernel_rfl
theorem cellsTab:Tryz.prog.cellsOf 226=32:=by kernel_rfl
theorem cellsU8:Tryz.prog.cellsOf 5=1:=by kernel_rfl
def tabCells:Array Value:=#[.int .u8 0,.int .u8 1,.int .u8 28,.int .u8 2,.int .u8 29,.int .u8 14,.int .u8 24,.int .u8 3,.int .u8 30,.int .u8 22,.int .u8 20,.int .u8 15,.int .u8 25,.int .u8 17,.int .u8 4,.int .u8 8,.int .u8 31,.int .u8 27,.int .u8 13,.int .u8 23,.int .u8 21,.int .u8 19,.int .u8 16,.int .u8 7,.int .u8 26,.int .u8 12,.int .u8 18,.int .u8 6,.int .u8 11,.int .u8 5,.int .u8 10,.int .u8 9]
theorem split32{l:List Value}(h:l.length=32):∃ c0 c1 c2 c3 c4 c5 c6 c7 c8 c9 c10 c11 c12 c13 c14 c15 c16 c17 c18 c19 c20 c21 c22 c23 c24 c25 c26 c27 c28 c29 c30 c31,l=[c0,c1,c2,c3,c4,c5,c6,c7,c8,c9,c10,c11,c12,c13,c14,c15,c16,c17,c18,c19,c20,c21,c22,c23,c24,c25,c26,c27,c28,c29,c30,c31]:=by
 match l,h with
 | [c0,c1,c2,c3,c4,c5,c6,c7,c8,c9,c10,c11,c12,c13,c14,c15,c16,c17,c18,c19,c20,c21,c22,c23,c24,c25,c26,c27,c28,c29,c30,c31],_=>exact⟨c0,c1,c2,c3,c4,c5,c6,c7,c8,c9,c10,c11,c12,c13,c14,c15,c16,c17,c18,c19,c20,c21,c22,c23,c24,c25,c26,c27,c28,c29,c30,c31,rfl⟩
set_option maxRecDepth 100000 in
theorem tab_trod{enc:TypeId × Value->Unit}{W:World}{fuel:Nat}{l:List Value}{p:List MemPlace}{b:Nat}{sp:Nat->Bool}{hd:Bool}(h:DataW.trod enc Tryz.prog W b sp hd fuel 226 l=some (Rows.laid_math_bits_deBruijn32tab,p)):l=tabCells.toList:=by
 cases fuel with
 | zero=>simp [DataW.trod] at h
 | succ fuel=>
 simp only [DataW.trod,Tryz.underlying226,cellsTab,cellsU8] at h
 split at h
 case isFalse=>cases h
 rename_i hl;obtain⟨c0,c1,c2,c3,c4,c5,c6,c7,c8,c9,c10,c11,c12,c13,c14,c15,c16,c17,c18,c19,c20,c21,c22,c23,c24,c25,c26,c27,c28,c29,c30,c31,rfl⟩:=split32 (by simpa using hl);have e:List.range 32=[0,1,2,3,4,5,6,7,8,9,10,11,12,13,14,15,16,17,18,19,20,21,22,23,24,25,26,27,28,29,30,31]:=rfl;rw [e] at h
 simp only [Option.map_eq_some_iff,List.mapM_cons,List.mapM_nil,Option.bind_eq_bind,Option.bind_eq_some_iff,Option.pure_def,Option.some.injEq] at h
 obtain⟨xs,⟨y0,h0,_,⟨y1,h1,_,⟨y2,h2,_,⟨y3,h3,_,⟨y4,h4,_,⟨y5,h5,_,⟨y6,h6,_,⟨y7,h7,_,⟨y8,h8,_,⟨y9,h9,_,⟨y10,h10,_,⟨y11,h11,_,⟨y12,h12,_,⟨y13,h13,_,⟨y14,h14,_,⟨y15,h15,_,⟨y16,h16,_,⟨y17,h17,_,⟨y18,h18,_,⟨y19,h19,_,⟨y20,h20,_,⟨y21,h21,_,⟨y22,h22,_,⟨y23,h23,_,⟨y24,h24,_,⟨y25,h25,_,⟨y26,h26,_,⟨y27,h27,_,⟨y28,h28,_,⟨y29,h29,_,⟨y30,h30,_,⟨y31,h31,_,rfl,rfl⟩,rfl⟩,rfl⟩,rfl⟩,rfl⟩,rfl⟩,rfl⟩,rfl⟩,rfl⟩,rfl⟩,rfl⟩,rfl⟩,rfl⟩,rfl⟩,rfl⟩,rfl⟩,rfl⟩,rfl⟩,rfl⟩,rfl⟩,rfl⟩,rfl⟩,rfl⟩,rfl⟩,rfl⟩,rfl⟩,rfl⟩,rfl⟩,rfl⟩,rfl⟩,rfl⟩,rfl⟩,hx⟩:=h;obtain⟨n0,rfl,rfl⟩:=int_of_trod Tryz.underlying5 h0;obtain⟨n1,rfl,rfl⟩:=int_of_trod Tryz.underlying5 h1;obtain⟨n2,rfl,rfl⟩:=int_of_trod Tryz.underlying5 h2;obtain⟨n3,rfl,rfl⟩:=int_of_trod Tryz.underlying5 h3;obtain⟨n4,rfl,rfl⟩:=int_of_trod Tryz.underlying5 h4;obtain⟨n5,rfl,rfl⟩:=int_of_trod Tryz.underlying5 h5;obtain⟨n6,rfl,rfl⟩:=int_of_trod Tryz.underlying5 h6;obtain⟨n7,rfl,rfl⟩:=int_of_trod Tryz.underlying5 h7;obtain⟨n8,rfl,rfl⟩:=int_of_trod Tryz.underlying5 h8;obtain⟨n9,rfl,rfl⟩:=int_of_trod Tryz.underlying5 h9;obtain⟨n10,rfl,rfl⟩:=int_of_trod Tryz.underlying5 h10;obtain⟨n11,rfl,rfl⟩:=int_of_trod Tryz.underlying5 h11;obtain⟨n12,rfl,rfl⟩:=int_of_trod Tryz.underlying5 h12;obtain⟨n13,rfl,rfl⟩:=int_of_trod Tryz.underlying5 h13;obtain⟨n14,rfl,rfl⟩:=int_of_trod Tryz.underlying5 h14;obtain⟨n15,rfl,rfl⟩:=int_of_trod Tryz.underlying5 h15;obtain⟨n16,rfl,rfl⟩:=int_of_trod Tryz.underlying5 h16;obtain⟨n17,rfl,rfl⟩:=int_of_trod Tryz.underlying5 h17;obtain⟨n18,rfl,rfl⟩:=int_of_trod Tryz.underlying5 h18
 obtain⟨n19,rfl,rfl⟩:=int_of_trod Tryz.underlying5 h19;obtain⟨n20,rfl,rfl⟩:=int_of_trod Tryz.underlying5 h20;obtain⟨n21,rfl,rfl⟩:=int_of_trod Tryz.underlying5 h21;obtain⟨n22,rfl,rfl⟩:=int_of_trod Tryz.underlying5 h22;obtain⟨n23,rfl,rfl⟩:=int_of_trod Tryz.underlying5 h23;obtain⟨n24,rfl,rfl⟩:=int_of_trod Tryz.underlying5 h24;obtain⟨n25,rfl,rfl⟩:=int_of_trod Tryz.underlying5 h25;obtain⟨n26,rfl,rfl⟩:=int_of_trod Tryz.underlying5 h26;obtain⟨n27,rfl,rfl⟩:=int_of_trod Tryz.underlying5 h27;obtain⟨n28,rfl,rfl⟩:=int_of_trod Tryz.underlying5 h28;obtain⟨n29,rfl,rfl⟩:=int_of_trod Tryz.underlying5 h29;obtain⟨n30,rfl,rfl⟩:=int_of_trod Tryz.underlying5 h30;obtain⟨n31,rfl,rfl⟩:=int_of_trod Tryz.underlying5 h31
 simp [Rows.laid_math_bits_deBruijn32tab] at hx
 obtain⟨⟨rfl,rfl,rfl,rfl,rfl,rfl,rfl,rfl,rfl,rfl,rfl,rfl,rfl,rfl,rfl,rfl,rfl,rfl,rfl,rfl,rfl,rfl,rfl,rfl,rfl,rfl,rfl,rfl,rfl,rfl,rfl,rfl⟩,_⟩:=hx
 rfl
theorem tab_of_laid{W : World}(h : laidMet Tryz.prog [("math/bits.deBruijn32tab", Rows.laid_math_bits_deBruijn32tab)] W): Tab W := by
 obtain⟨ps,⟨g,t,cs,fuel,p,q,hg,ht,hvar,hd,_,_⟩,_⟩:=h
 obtain rfl:=Option.some.inj (gdb.symm.trans hg)
 obtain rfl:=Option.some.inj (gdbType.symm.trans ht)
 have e:cs=tabCells:=by
  have:=tab_trod hd
  exact Array.ext' this
 subst e;intro j hj;rw [World.var?_cell hg hvar j]
 match j,hj with
 | 0,_=>rfl
 | 1,_=>rfl
 | 2,_=>rfl
 | 3,_=>rfl
 | 4,_=>rfl
 | 5,_=>rfl
 | 6,_=>rfl
 | 7,_=>rfl
 | 8,_=>rfl
 | 9,_=>rfl
 | 10,_=>rfl
 | 11,_=>rfl
 | 12,_=>rfl
 | 13,_=>rfl
 | 14,_=>rfl
 | 15,_=>rfl
 | 16,_=>rfl
 | 17,_=>rfl
 | 18,_=>rfl
 | 19,_=>rfl
 | 20,_=>rfl
 | 21,_=>rfl
 | 22,_=>rfl
 | 23,_=>rfl
 | 24,_=>rfl
 | 25,_=>rfl
 | 26,_=>rfl
 | 27,_=>rfl
 | 28,_=>rfl
 | 29,_=>rfl
 | 30,_=>rfl
 | 31,_=>rfl
 | k+32,hk=>omega
end
end Go.Proofs.YthlmlmfebpjgdaaGreatDoor
