/-
What each reverse operation answers grows, or stays, where its operands grow: RevGrows returns true. For every input: no condition.
-/
import Derived.Test.YthlmlmfebpjgdaaGreatDoorM20
import Derived.Test.YthlmlmfebpjgdaaGreatDoorCards
import Derived.Test.YthlmlmfebpjgdaaGreatDoorTie
import Derived.SevenTiedAt
import Derived.Test.YthlmlmfebpjgdaaGreatDoorRows
import Derived.OpenShut
set_option linter.unusedVariables false
namespace Go.Proofs.YthlmlmfebpjgdaaGreatDoor.revGrows
section
open Go.ChangeShapes Go.WideShapes Go.ChangeAt Go.RowKit Go.Proofs.YthlmlmfebpjgdaaGreatDoor
theorem own:ownKnob Tryz.prog.godebug=none:=by kernel_rfl
section
variable {H:Type} {enc:TypeId × Value->H} {P:Program}
theorem post_of_below{f:Func}{s:ChangeSpec}{apart fresh handsOn again:Bool}{W W':World}{args:Array Value}{v:Value}{ds gs:List (DataW H)}{before pa pv:List MemPlace}
  (hW:DataW.Whole enc P f.params.toList s.vars apart W args.toList ds gs before)
  (hres:∀ (b:Nat) (sp:Nat->Bool) (hd:Bool),DataW.TrodAll enc P W' b sp hd f.resultTypes.toList (v.resultList f.resultTypes.size) (s.fn H (ds ++ gs)).results [])
  (hargs:∀ sp:Nat->Bool,(∀ p ∈ before,sp p.block=true)->DataW.TrodAll enc P W' 0 sp true f.params.toList args.toList (s.fn H (ds ++ gs)).args pa)
  (hvars:∀ sp:Nat->Bool,(∀ p ∈ before,sp p.block=true)->DataW.TrodVars enc P W' sp s.vars (s.fn H (ds ++ gs)).vars pv)
  (hps:before=pa ++ pv)(hb:Below W.heap.size W W')
  (hok:∀ (j:Nat) (t:TypeId) (r:Value),f.resultTypes[j]?=some t->(v.resultList f.resultTypes.size)[j]?=some r->Value.okWide P W' .any 0 t r):
  s.post enc P f apart fresh handsOn again W args v W':=by
 have hlt:∀ p ∈ before,p.block<W.heap.size:=fun p hp=>hW.lt p hp
 have hold:∀ p ∈ before,(fun b=>decide (b<W.heap.size)) p.block=true:=fun p hp=>by simpa using hlt p hp
 refine⟨ds,gs,before,[],pa,pv,hW,hres _ _ _,hargs _ hold,hvars _ hold,World.keptBut_mono (fun p hp=>⟨hp,?_⟩) (hb.frame (· ∈ before)),fun _=>?_⟩
 ·rw [hps,List.mem_append] at hp
  exact Or.inr hp
 ·obtain⟨_,_,_,_,_,hz,hn⟩:=hW;refine⟨hok,_,_,([] ++ pa) ++ pv,⟨[] ++ pa,pv,trodAll_append (hargs _ (fun _ _=>rfl)) (hres _ _ _),hvars _ (fun _ _=>rfl),rfl,?_,?_⟩,?_⟩
  ·intro b off hp
   have hin:MemPlace.cell b off ∈ before:=by rw [hps];simpa using hp
   rw [hb.frozen (hlt _ hin)]
   exact hz b off hin
  ·intro ha;have:=hn ha;rw [hps] at this
   simpa using this
  ·intro p hp _;rw [hps]
   simpa using hp
end
section
variable {H:Type} {enc:TypeId × Value->H} {w:World} {base:Nat} {spare:Nat->Bool} {held:Bool}
theorem open_two{fuel:Nat}{c0 c1:Value}{x:DataW H × List MemPlace}(h:DataW.trod enc Tryz.prog w base spare held fuel 24 [c0,c1]=some x):
  ∃ a b:Int,c0=.int .u64 a/\c1=.int .u64 b/\x=(.agg [.lit (.int .u64 a),.lit (.int .u64 b)],[])/\(Lit.int .u64 a).wf=true/\(Lit.int .u64 b).wf=true:=by
 obtain⟨xs,n,_,hx,_,hlen,hg⟩:=DataW.trod_struct Tryz.underlying24 h
 have hc:Tryz.prog.cellsOf 22=1:=by kernel_rfl
 match xs,hlen with
 | [y0,y1],_=>
  have g0:=hg 0 _ rfl;have g1:=hg 1 _ rfl
  simp [hc] at g0 g1
  obtain⟨a,e0,rfl,wa⟩:=DataW.trod_int Tryz.underlying22 g0;obtain⟨b,e1,rfl,wb⟩:=DataW.trod_int Tryz.underlying22 g1
  simp at e0 e1
  exact⟨a,b,e0,e1,by simpa using hx,wa,wb⟩
set_option maxRecDepth 100000 in
theorem open_three{r:Reach}{b0:Nat}{v:Value}{d:DataW H}{p:List MemPlace}(hv:Value.okWide Tryz.prog w r b0 56 v)(h:DataW.Trod enc Tryz.prog w base spare held 56 v d p):
  ∃ a0 a1 a2 a3 a4 a5:Int,v=.agg #[.int .u64 a0,.int .u64 a1,.int .u64 a2,.int .u64 a3,.int .u64 a4,.int .u64 a5] /\
   d=.agg [.agg [.lit (.int .u64 a0),.lit (.int .u64 a1)],.agg [.lit (.int .u64 a2),.lit (.int .u64 a3)],.agg [.lit (.int .u64 a4),.lit (.int .u64 a5)]]/\p=[] /\
   (Lit.int .u64 a0).wf=true/\(Lit.int .u64 a1).wf=true/\(Lit.int .u64 a2).wf=true/\(Lit.int .u64 a3).wf=true/\(Lit.int .u64 a4).wf=true/\(Lit.int .u64 a5).wf=true:=by
 obtain⟨cs,rfl,hsz⟩:=okWide_struct Tryz.underlying56 hv
 have hC:Tryz.prog.cellsOf 56=6:=by kernel_rfl
 have hI:Tryz.prog.cellsOf 24=2:=by kernel_rfl
 obtain⟨l⟩:=cs
 match l,hsz.trans hC with
 | [c0,c1,c2,c3,c4,c5],_=>
  obtain⟨fuel,hf⟩:=h;obtain⟨xs,n,_,hx,_,hlen,hg⟩:=DataW.trod_struct Tryz.underlying56 hf
  match xs,hlen with
  | [y0,y1,y2],_=>
   have g0:=hg 0 _ rfl;have g1:=hg 1 _ rfl;have g2:=hg 2 _ rfl
   simp [hI,Value.cells] at g0 g1 g2
   obtain⟨a0,a1,rfl,rfl,rfl,w0,w1⟩:=open_two g0;obtain⟨a2,a3,rfl,rfl,rfl,w2,w3⟩:=open_two g1;obtain⟨a4,a5,rfl,rfl,rfl,w4,w5⟩:=open_two g2
   simp at hx
   exact⟨a0,a1,a2,a3,a4,a5,rfl,hx.1,hx.2,w0,w1,w2,w3,w4,w5⟩
theorem shut_two{a b:Int}(wa:(Lit.int .u64 a).wf=true)(wb:(Lit.int .u64 b).wf=true):DataW.trod enc Tryz.prog w base spare held 2 24 [.int .u64 a,.int .u64 b]=some (.agg [.lit (.int .u64 a),.lit (.int .u64 b)],[]):=by
 have hc:Tryz.prog.cellsOf 22=1:=by kernel_rfl
 have hI:Tryz.prog.cellsOf 24=2:=by kernel_rfl
 have h:=trod_struct_mk (enc:=enc) (w:=w) (base:=base) (spare:=spare) (held:=held) (n:=1) (cs:=[.int .u64 a,.int .u64 b]) (xs:=[(.lit (.int .u64 a),[]),(.lit (.int .u64 b),[])]) Tryz.underlying24 (by rw [hI];rfl) (by
  simp [hc,trod_int_mk 0 Tryz.underlying22 wa,trod_int_mk 0 Tryz.underlying22 wb])
 simpa using h
theorem shut_three{a0 a1 a2 a3 a4 a5:Int}(w0:(Lit.int .u64 a0).wf=true)(w1:(Lit.int .u64 a1).wf=true)(w2:(Lit.int .u64 a2).wf=true)(w3:(Lit.int .u64 a3).wf=true)(w4:(Lit.int .u64 a4).wf=true)(w5:(Lit.int .u64 a5).wf=true):
  DataW.Trod enc Tryz.prog w base spare held 56 (.agg #[.int .u64 a0,.int .u64 a1,.int .u64 a2,.int .u64 a3,.int .u64 a4,.int .u64 a5]) (.agg [.agg [.lit (.int .u64 a0),.lit (.int .u64 a1)],.agg [.lit (.int .u64 a2),.lit (.int .u64 a3)],.agg [.lit (.int .u64 a4),.lit (.int .u64 a5)]]) []:=by
 have hC:Tryz.prog.cellsOf 56=6:=by kernel_rfl
 have hI:Tryz.prog.cellsOf 24=2:=by kernel_rfl
 have h:=trod_struct_mk (enc:=enc) (w:=w) (base:=base) (spare:=spare) (held:=held) (n:=2) (cs:=[.int .u64 a0,.int .u64 a1,.int .u64 a2,.int .u64 a3,.int .u64 a4,.int .u64 a5]) (xs:=[(.agg [.lit (.int .u64 a0),.lit (.int .u64 a1)],[]),(.agg [.lit (.int .u64 a2),.lit (.int .u64 a3)],[]),(.agg [.lit (.int .u64 a4),.lit (.int .u64 a5)],[])]) Tryz.underlying56 (by rw [hC];rfl) (by
  simp [hI,shut_two w0 w1,shut_two w2 w3,shut_two w4 w5])
 exact⟨3,by simpa [Value.cells] using h⟩
end
theorem u64_nat{a:Int}(h:(Lit.int .u64 a).wf=true):∃ n:Nat,a=n/\n<18446744073709551616:=by
 simp only [Lit.wf,Bool.and_eq_true,decide_eq_true_eq] at h
 have h1:(0:Int)<=a:=h.1;have h2:a<=18446744073709551615:=h.2
 exact⟨a.toNat,by omega,by omega⟩
def cells32:Array Value:=tabCells
noncomputable def laidWorld(os:Os):World:=
 { World.holding Tryz.prog os ⟨#[],#[],[]⟩ with heap:=(World.holding Tryz.prog os ⟨#[],#[],[]⟩).heap.modify 1 fun
     | .cells _ t frozen=>.cells cells32 t frozen
     | o=>o }
theorem laidWorld_row(os:Os):((laidWorld os).forCall (fun _ _=>0) ⟨#[],#[.agg #[.int .u64 0,.int .u64 0,.int .u64 0,.int .u64 0,.int .u64 0,.int .u64 0],.agg #[.int .u64 0,.int .u64 0,.int .u64 0,.int .u64 0,.int .u64 0,.int .u64 0]],[]⟩).memory.heap[1]?=some (.cells cells32 226 (0,0)):=by kernel_rfl
set_option maxRecDepth 100000 in
theorem lifted (os : Os) (started : os.Started) (H : Type) (enc : TypeId × Value → H) :
    ReturnsInHanded {} Tryz.checked os 12 .any (fun w args => (Rows.revGrowsSpec.pre enc Tryz.prog Tryz.f12 Rows.revGrowsRow.domain false w args ∧ laidMet Tryz.prog [("math/bits.deBruijn32tab", Rows.laid_math_bits_deBruijn32tab)] w) ∧ sizedMet enc Tryz.prog Tryz.f12 (OpenSpec.ofChange Rows.revGrowsSpec) false w args)
      (Rows.revGrowsSpec.post enc Tryz.prog Tryz.f12 false true false false) := by
  refine returnsInHanded_of_change_and (C := Tryz.checked) (X := fun w _ => laidMet Tryz.prog [("math/bits.deBruijn32tab", Rows.laid_math_bits_deBruijn32tab)] w) (fun _ _ _ hh h => h.of_heap hh) own started (by kernel_rfl) Tryz.func12
    (ChangeSpec.witness_at (enc := enc) (C := Tryz.checked) (os := os) (X := fun w _ => laidMet Tryz.prog [("math/bits.deBruijn32tab", Rows.laid_math_bits_deBruijn32tab)] w) false (laidWorld os) #[.agg #[.int .u64 0, .int .u64 0, .int .u64 0, .int .u64 0, .int .u64 0, .int .u64 0], .agg #[.int .u64 0, .int .u64 0, .int .u64 0, .int .u64 0, .int .u64 0, .int .u64 0]] 8 rfl (by kernel_rfl) (by kernel_rfl) (by kernel_rfl) (by kernel_rfl) (by kernel_rfl)
      ⟨_, ⟨1, 226, cells32, 8, [], [], by kernel_rfl, by kernel_rfl, by kernel_rfl, by kernel_rfl, rfl, rfl⟩, by decide, fun b off h => by
        have h' : MemPlace.cell b off ∈ [MemPlace.cell 1 0, MemPlace.cell 1 1, MemPlace.cell 1 2, MemPlace.cell 1 3, MemPlace.cell 1 4, MemPlace.cell 1 5, MemPlace.cell 1 6, MemPlace.cell 1 7, MemPlace.cell 1 8, MemPlace.cell 1 9, MemPlace.cell 1 10, MemPlace.cell 1 11, MemPlace.cell 1 12, MemPlace.cell 1 13, MemPlace.cell 1 14, MemPlace.cell 1 15, MemPlace.cell 1 16, MemPlace.cell 1 17, MemPlace.cell 1 18, MemPlace.cell 1 19, MemPlace.cell 1 20, MemPlace.cell 1 21, MemPlace.cell 1 22, MemPlace.cell 1 23, MemPlace.cell 1 24, MemPlace.cell 1 25, MemPlace.cell 1 26, MemPlace.cell 1 27, MemPlace.cell 1 28, MemPlace.cell 1 29, MemPlace.cell 1 30, MemPlace.cell 1 31] := h
        have hb : b = 1 := by
          simp at h'
          omega
        subst hb
        refine ⟨⟨_, _, laidWorld_row os⟩, fun u v hc => ?_⟩
        simp only [World.cell?, laidWorld_row os] at hc
        simp at h'
        rcases h' with rfl | rfl | rfl | rfl | rfl | rfl | rfl | rfl | rfl | rfl | rfl | rfl | rfl | rfl | rfl | rfl | rfl | rfl | rfl | rfl | rfl | rfl | rfl | rfl | rfl | rfl | rfl | rfl | rfl | rfl | rfl | rfl <;> simp [cells32, tabCells] at hc⟩) ?_
  intro W base args ds gs before hval0 hW _ _ hL _
  have hval : ∀ (j : Nat) t v, Tryz.f12.params[j]? = some t → args[j]? = some v → Value.okWide Tryz.prog W .any base t v := hval0
  have hW' := hW
  obtain ⟨p, q, hA0, hV, rfl, hfz, hnd⟩ := hW
  have hA : DataW.TrodAll enc Tryz.prog W 0 (fun _ => true) true Tryz.f12.params.toList args.toList ds p := hA0
  rw [Tryz.params12] at hA hval
  obtain ⟨v0, v1, d0, d1, p0, p1, rfl, rfl, rfl, h0, h1⟩ := trodAll_two hA
  obtain ⟨rfl, rfl⟩ := trodVars_none hV
  obtain ⟨a0, a1, a2, a3, a4, a5, rfl, rfl, rfl, w0, w1, w2, w3, w4, w5⟩ := open_three (hval 0 56 v0 rfl rfl) h0
  obtain ⟨a6, a7, a8, a9, a10, a11, rfl, rfl, rfl, w6, w7, w8, w9, w10, w11⟩ := open_three (hval 1 56 v1 rfl rfl) h1
  clear hA0 hval0
  simp only [List.append_nil] at hW'
  obtain ⟨n0, rfl, l0⟩ := u64_nat w0
  obtain ⟨n1, rfl, l1⟩ := u64_nat w1
  obtain ⟨n2, rfl, l2⟩ := u64_nat w2
  obtain ⟨n3, rfl, l3⟩ := u64_nat w3
  obtain ⟨n4, rfl, l4⟩ := u64_nat w4
  obtain ⟨n5, rfl, l5⟩ := u64_nat w5
  obtain ⟨n6, rfl, l6⟩ := u64_nat w6
  obtain ⟨n7, rfl, l7⟩ := u64_nat w7
  obtain ⟨n8, rfl, l8⟩ := u64_nat w8
  obtain ⟨n9, rfl, l9⟩ := u64_nat w9
  obtain ⟨n10, rfl, l10⟩ := u64_nat w10
  obtain ⟨n11, rfl, l11⟩ := u64_nat w11
  refine (grows_full n0 n1 n2 n3 n4 n5 n6 n7 n8 n9 n10 n11 W l0 l1 l2 l3 l4 l5 l6 l7 l8 l9 l10 l11 (tab_of_laid hL)).mono fun e W' ⟨he, hb⟩ => ?_
  subst he
  exact ⟨_, rfl, post_of_below (pa := []) (pv := []) hW' (fun _ _ _ => (trodAll_cons_mk (shut_bool Tryz.underlying4 _) trodAll_mk0)) (fun sp _ => trodAll_mk2 (shut_three w0 w1 w2 w3 w4 w5) (shut_three w6 w7 w8 w9 w10 w11)) (fun _ _ => rfl) rfl
    hb (ok_one (by kernel_rfl) rfl (okWide_bool_mk Tryz.underlying4 _))⟩
theorem overk : Rows.revGrowsRow.holds Tryz.pinned (OpenSpec.ofChange Rows.revGrowsSpec) :=
  OpenClaim.holds_of_wide 12 Tryz.f12 rfl rfl rfl rfl rfl rfl rfl ⟨rfl, rfl, rfl, rfl, rfl⟩ rfl rfl rfl rfl rfl (by kernel_rfl) Tryz.func12 (by kernel_rfl)
    (of_decide_eq_true (by kernel_rfl)) (by unfold Func.isWrapper; first | (rw [if_pos (by decide +kernel)]; kernel_rfl) | (rw [if_neg (by decide +kernel)]; exact ⟨rfl, rfl⟩))
    (fun os started H enc _ => lifted os started H enc)
theorem rowed : Rows.RevGrowsSaid :=
  overk
theorem wsi : Tryz.pinned.checked.prog.wantsStandIn 56 = false := by kernel_rfl
theorem proved : Rows.RevGrowsCardSaid :=
  Claim7.holds_tied_plain_at .later [] [.data] true (true, "61ef237ff37b31c34a8bdfa5e2f37c57f5a342fb520db1bf31263ed6e9a53d21") false
    rowed (fun _ h => by cases h) (by kernel_rfl) (fun _ h => by cases h) revGrows_row_tie rfl ⟨rfl, rfl⟩ (by kernel_rfl) rfl
    (fun f fn hf hfn => by
      obtain rfl : f = 12 := Option.some.inj ((show Tryz.prog.funcNamed "verge/vergelaw10.RevGrows" = some 12 by kernel_rfl).symm.trans hf) |>.symm
      obtain rfl : fn = Tryz.f12 := (Option.some.inj (Tryz.func12.symm.trans hfn)).symm
      exact ⟨by kernel_rfl, fun j t ht => by
        rw [Tryz.params12] at ht
        match j, ht with
        | 0, h => exact (show t = 56 from (Option.some.inj h).symm) ▸ wsi
        | 1, h => exact (show t = 56 from (Option.some.inj h).symm) ▸ wsi⟩)
    (by kernel_rfl)
#print axioms proved
end
end Go.Proofs.YthlmlmfebpjgdaaGreatDoor.revGrows
