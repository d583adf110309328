/-
A block of a call's own, laid cell after cell.
Short forms of the walks' steps.
Walks: package vergeref2, Plus.
-/
import Derived.Test.YthlmlmfebpjgdaaGreatDoorM02
import Derived.Test.YthlmlmfebpjgdaaGreatDoorM01
set_option linter.unusedSimpArgs false
set_option linter.unusedVariables false
set_option maxHeartbeats 12800000
namespace Go.Proofs.YthlmlmfebpjgdaaGreatDoor
open Go.RowKit
def sets(W:World)(r:Nat):Nat→List Value→World
 | _,[]=>W
 | i,v :: vs=>sets (W.setCell ⟨r,i,none⟩ v) r (i+1) vs
theorem below_sets{w0:World}{B r:Nat}(hr:B≤r):∀ (vs:List Value) (i:Nat) (W:World),Below B w0 W→Below B w0 (sets W r i vs)
 | [],_,_,h=>h
 | v :: vs,i,_,h=>below_sets hr vs (i+1) _ (h.setCell (p:=⟨r,i,none⟩) hr v)
theorem heap_sets{r k:Nat}(h:k≠r):∀ (vs:List Value) (i:Nat) (W:World),(sets W r i vs).heap[k]?=W.heap[k]?
 | [],_,_=>rfl
 | v :: vs,i,W=>by
  show (sets (W.setCell ⟨r,i,none⟩ v) r (i+1) vs).heap[k]?=_
  rw [heap_sets h vs (i+1)]
  exact Below.heap_setCell W ⟨r,i,none⟩ v k h
theorem size_sets{r:Nat}:∀ (vs:List Value) (i:Nat) (W:World),(sets W r i vs).heap.size=W.heap.size
 | [],_,_=>rfl
 | v :: vs,i,W=>by
  show (sets (W.setCell ⟨r,i,none⟩ v) r (i+1) vs).heap.size=_
  rw [size_sets vs (i+1)]
  simp [World.setCell]
theorem Blk.set{W:World}{g:Nat}{t:TypeId}{cs:Array Value}(h:Blk W g t cs)(i:Nat)(v:Value):Blk (W.setCell ⟨g,i,none⟩ v) g t (cs.setIfInBounds i v):=by
 unfold Blk World.setCell at *
 simp only [Array.getElem?_modify,if_true,h]
 rfl
def laid(cs:Array Value):Nat→List Value→Array Value
 | _,[]=>cs
 | i,v :: vs=>laid (cs.setIfInBounds i v) (i+1) vs
theorem Blk.sets{g:Nat}{t:TypeId}:∀ (vs:List Value) (i:Nat) (W:World) (cs:Array Value),Blk W g t cs→Blk (sets W g i vs) g t (laid cs i vs)
 | [],_,_,_,h=>h
 | v :: vs,i,_,_,h=>Blk.sets vs (i+1) _ _ (h.set i v)
theorem laid_size:∀ (vs:List Value) (i:Nat) (cs:Array Value),(laid cs i vs).size=cs.size
 | [],_,_=>rfl
 | v :: vs,i,cs=>by
  show (laid (cs.setIfInBounds i v) (i+1) vs).size=_
  rw [laid_size vs (i+1)];simp
theorem laid_lt:∀ (vs:List Value) (i j:Nat) (cs:Array Value),j<i→(laid cs i vs)[j]?=cs[j]?
 | [],_,_,_,_=>rfl
 | v :: vs,i,j,cs,h=>by
  show (laid (cs.setIfInBounds i v) (i+1) vs)[j]?=_
  rw [laid_lt vs (i+1) j _ (by omega),Array.getElem?_setIfInBounds];rw [if_neg (by omega)]
theorem laid_get:∀ (vs:List Value) (i j:Nat) (cs:Array Value),j<vs.length→i+vs.length≤cs.size→(laid cs i vs)[i+j]?=vs[j]?
 | [],_,_,_,h,_=>by simp at h
 | v :: vs,i,0,cs,_,h=>by
  show (laid (cs.setIfInBounds i v) (i+1) vs)[i+0]?=_
  simp only [List.length_cons] at h
  rw [laid_lt vs (i+1) (i+0) _ (by omega),Array.getElem?_setIfInBounds,Nat.add_zero,if_pos rfl,if_pos (by omega)]
  rfl
 | v :: vs,i,j+1,cs,h,h'=>by
  show (laid (cs.setIfInBounds i v) (i+1) vs)[i+(j+1)]?=_
  simp only [List.length_cons] at h h'
  rw [show i+(j+1)=(i+1)+j from by omega,laid_get vs (i+1) j _ (by omega) (by simp;omega)]
  rfl
theorem sets_cell{W:World}{g:Nat}{t:TypeId}{cs:Array Value}(h:Blk W g t cs)(vs:List Value)(j:Nat)(hj:j<vs.length)(hs:vs.length≤cs.size):
  (sets W g 0 vs).cell? ⟨g,j,none⟩=vs[j]?:=by
 rw [(h.sets vs 0 W cs).cell j];have:=laid_get vs 0 j cs hj (by omega);rw [Nat.zero_add] at this
 exact this
def notWd:Value→Bool
 | .int .u32 _=>false
 | _=>true
theorem NoWd.of{cs:Array Value}(h:cs.all notWd=true):NoWd cs:=by
 intro i x hi;obtain⟨hlt,he⟩:=Array.getElem?_eq_some_iff.1 hi;have:=Array.all_eq_true.1 h i hlt;rw [he] at this
 cases this
theorem U32s.sets{W:World}{A:Option Addr}{n c g:Nat}{t:TypeId}{cs:Array Value}{xs:List Nat}(h:U32s W A n c xs)(hb:Blk W g t cs)(hc:NoWd cs)(i:Nat)(vs:List Value):U32s (sets W g i vs) A n c xs:=
 h.keep (by rw [size_sets];exact Nat.le_refl _) fun ad e hn=>heap_sets (hb.apart hc h ad e hn) vs i W
theorem RatV.sets{W:World}{K:Nat}{neg:Bool}{vn vd:Value}{x:Rat}{g:Nat}{t:TypeId}{cs:Array Value}(h:RatV W K neg vn vd x)(hb:Blk W g t cs)(hc:NoWd cs)(i:Nat)(vs:List Value):RatV (sets W g i vs) K neg vn vd x:=by
 obtain⟨p,q,A,n,c,B,m,d,rfl,rfl,h3,h4,h5⟩:=h
 exact⟨p,q,A,n,c,B,m,d,rfl,rfl,h3.sets hb hc i vs,h4.sets hb hc i vs,h5⟩
theorem Blk.at{W:World}{g:Nat}(h:W.heap.size=g)(t:TypeId)(cs:Array Value):Blk (W.alloc (.cells cs t)) g t cs:=by
 subst h;exact Blk.new W t cs
def HasBlk(W:World)(r:Nat)(t:TypeId)(n:Nat):Prop:=∃ cs,Blk W r t cs∧cs.size=n∧NoWd cs
theorem HasBlk.keep{W W':World}{r:Nat}{t:TypeId}{n:Nat}(h:HasBlk W r t n)(hb:Below W.heap.size W W'):HasBlk W' r t n:=by
 obtain⟨cs,h1,h2,h3⟩:=h
 exact⟨cs,h1.keep hb,h2,h3⟩
theorem HasBlk.of{W:World}{r:Nat}{t:TypeId}{cs:Array Value}{n:Nat}(h:Blk W r t cs)(hs:cs.size=n)(hc:cs.toList.all notWd=true):HasBlk W r t n:=⟨cs,h,hs,NoWd.of (by rw [← Array.all_toList];exact hc)⟩
theorem Blk.someCell{W:World}{g:Nat}{t:TypeId}{cs:Array Value}(h:Blk W g t cs){j:Nat}(hj:j<cs.size):W.cell? ⟨g,j,none⟩=some (cellOf W ⟨g,j,none⟩):=by
 have h1:=h.cell j;rw [Array.getElem?_eq_getElem hj] at h1
 exact cellOf_some h1
theorem laid_all(vs:List Value)(cs:Array Value)(h:vs.length=cs.size):laid cs 0 vs=vs.toArray:=by
 apply Array.ext_getElem?
 intro j
 rcases Nat.lt_or_ge j vs.length with hj | hj
 ·have:=laid_get vs 0 j cs hj (by omega);rw [Nat.zero_add] at this;rw [this];simp
 ·rw [Array.getElem?_eq_none (by rw [laid_size];omega)]
  simp [hj]
theorem HasBlk.sets{W:World}{r:Nat}{t:TypeId}{n:Nat}(h:HasBlk W r t n)(vs:List Value)(hl:vs.length=n)(hv:vs.all notWd=true):HasBlk (sets W r 0 vs) r t n:=by
 obtain⟨cs,h1,h2,-⟩:=h;have:=h1.sets vs 0 W cs;rw [laid_all vs cs (by omega)] at this
 exact .of this (by simp [hl]) (by simpa using hv)
theorem Blk.other{W:World}{g r:Nat}{t:TypeId}{cs:Array Value}(h:Blk W g t cs)(hg:g≠r)(i:Nat)(vs:List Value):Blk (Proofs.YthlmlmfebpjgdaaGreatDoor.sets W r i vs) g t cs:=(heap_sets hg vs i W).trans h
theorem HasBlk.laid{W:World}{r:Nat}{t:TypeId}{n:Nat}(h:HasBlk W r t n)(vs:List Value)(hl:vs.length=n):Blk (Proofs.YthlmlmfebpjgdaaGreatDoor.sets W r 0 vs) r t vs.toArray:=by
 obtain⟨cs,h1,h2,-⟩:=h;have:=h1.sets vs 0 W cs
 rwa [laid_all vs cs (by omega)] at this
theorem HasBlk.lt{W:World}{r:Nat}{t:TypeId}{n:Nat}(h:HasBlk W r t n):r<W.heap.size:=by
 obtain⟨cs,h1,-⟩:=h
 exact h1.lt
theorem HasBlk.rat{W:World}{K:Nat}{neg:Bool}{vn vd:Value}{x:Rat}{r:Nat}{t:TypeId}{n:Nat}(h:HasBlk W r t n)(hr:RatV W K neg vn vd x)(vs:List Value):RatV (Proofs.YthlmlmfebpjgdaaGreatDoor.sets W r 0 vs) K neg vn vd x:=by
 obtain⟨cs,h1,-,h2⟩:=h
 exact hr.sets h1 h2 0 vs
theorem HasBlk.someCell{W:World}{r:Nat}{t:TypeId}{n:Nat}(h:HasBlk W r t n)(j:Nat)(hj:j<n):W.cell? ⟨r,j,none⟩=some (cellOf W ⟨r,j,none⟩):=by
 obtain⟨cs,h1,h2,-⟩:=h
 exact h1.someCell (by omega)
theorem HasBlk.frozen{W:World}{r:Nat}{t:TypeId}{n:Nat}(h:HasBlk W r t n)(j:Nat):W.frozen? ⟨r,j,none⟩=false:=by
 obtain⟨cs,h1,h2,-⟩:=h
 exact h1.frozen j
theorem HasBlk.setCell{W:World}{r:Nat}{t:TypeId}{n:Nat}(h:HasBlk W r t n)(vs:List Value)(hl:vs.length=n)(j:Nat)(hj:j<n):(Proofs.YthlmlmfebpjgdaaGreatDoor.sets W r 0 vs).cell? ⟨r,j,none⟩=vs[j]?:=by
 obtain⟨cs,h1,h2,-⟩:=h
 exact sets_cell h1 vs j (by omega) (by omega)
theorem HasBlk.drew{W:World}{r:Nat}{t:TypeId}{n:Nat}(h:HasBlk W r t n):HasBlk W.drew r t n:=h
theorem Blk.drew{W:World}{g:Nat}{t:TypeId}{cs:Array Value}(h:Blk W g t cs):Blk W.drew g t cs:=h
theorem HasBlk.alloc{W:World}{r:Nat}{t:TypeId}{n:Nat}(h:HasBlk W r t n)(o:Obj):HasBlk (W.alloc o) r t n:=by
 obtain⟨cs,h1,h2⟩:=h
 exact⟨cs,h1.alloc o,h2⟩
theorem HasBlk.other{W:World}{g r:Nat}{t:TypeId}{n:Nat}(h:HasBlk W g t n)(hg:g≠r)(i:Nat)(vs:List Value):HasBlk (Proofs.YthlmlmfebpjgdaaGreatDoor.sets W r i vs) g t n:=by
 obtain⟨cs,h1,h2⟩:=h
 exact⟨cs,h1.other hg i vs,h2⟩
theorem RatV.far{W:World}{K:Nat}{neg:Bool}{vn vd:Value}{x:Rat}{g:Nat}{t:TypeId}{cs:Array Value}(h:RatV W K neg vn vd x)(hb:Blk W g t cs)(hc:cs.toList.all notWd=true)(i:Nat)(v:Value):RatV (W.setCell ⟨g,i,none⟩ v) K neg vn vd x:=
 h.sets hb (NoWd.of (by rw [← Array.all_toList];exact hc)) i [v]
section
variable {P:Program} {ops:Array Oper} {Q:Exit→Act→World→Prop} {md:Region.Mode} {S:World→Prop} {fuel:Nat} {listed:Array Bool} {a:Act} {w:World}
theorem tk(i:Nat){oi:Oper}{v:Value}(h:wpAnyH P md ops Q S fuel (listed.setIfInBounds i true) (a.put oi.dst v) w)(hi:ops[i]?=some oi:=by rfl)(hs:Region.noSelect ops=true:=by kernel_rfl)(hf:Region.free md ops listed i=true:=by kernel_rfl)(hr:(Region.ready md ops listed).contains i=true:=by kernel_rfl)
  (hQ:∀ c a w,Q (.panic c) (a.put oi.dst v) w→Q (.panic c) a w:=by exact fun _ _ _ h=>h)(hw:Region.wanted oi (yielded ops a.tmps)=true:=by rfl)(hv:∀ w,S w→(execOp a.eval oi).run P w=.ok (.value v) w:=by intro W2 hSw;go_simp;(try with_reducible rfl))(hS:S w:=by assumption):wpAnyH P md ops Q S (fuel+1) listed a w:=
 wpAnyH_take hi hs hf hr hQ (Or.inl ⟨hw,hv⟩) hS h
theorem tkn(i:Nat){oi:Oper}(h:wpAnyH P md ops Q S fuel (listed.setIfInBounds i true) (a.put oi.dst undef) w)(hi:ops[i]?=some oi:=by rfl)(hs:Region.noSelect ops=true:=by kernel_rfl)(hf:Region.free md ops listed i=true:=by kernel_rfl)(hr:(Region.ready md ops listed).contains i=true:=by kernel_rfl)
  (hQ:∀ c a w,Q (.panic c) (a.put oi.dst undef) w→Q (.panic c) a w:=by exact fun _ _ _ h=>h)(hw:Region.wanted oi (yielded ops a.tmps)=false:=by rfl)(hS:S w:=by assumption):wpAnyH P md ops Q S (fuel+1) listed a w:=
 wpAnyH_take hi hs hf hr hQ (Or.inr ⟨hw,rfl⟩) hS h
theorem rdy(i:Nat){o:Oper}(h:∀ K':Act→World→Prop,Shut (∀ a w,S w→(S w→wpAnyH P md ops Q S fuel (listed.setIfInBounds i true) a w)→K' a w)→if Region.wanted o (yielded ops a.tmps)=true then Oper.wp P o a w K' Q else K' (a.put o.dst undef) w)
  (hr:Region.ready md ops listed=[i]:=by kernel_rfl)(ho:ops[i]?=some o:=by rfl):wpAnyH P md ops Q S (fuel+1) listed a w:=
 wpAnyH_ready hr (by simp) (AllReadyH.cons ho h AllReadyH.nil)
end
theorem lay:(∀ (α:Type) (l:List α) (i:Nat) (h:i<l.toArray.size),l.toArray[i]=l[i]'(by simpa using h))∧(∀ (α:Type) (a:α) (l:List α) (i:Nat) (h:i+1<(a :: l).length),(a :: l)[i+1]=l[i]'(by simpa using h)) ∧
  (∀ (α:Type) (a:α) (l:List α) (h:0<(a :: l).length),(a :: l)[0]=a)∧(∀ (α:Type) (l:List α) (i:Nat) (a:α),l.toArray.setIfInBounds i a=(l.set i a).toArray)∧(∀ (α:Type) (a b:α) (l:List α),(a :: l).set 0 b=b :: l)∧(∀ (α:Type) (a b:α) (l:List α) (n:Nat),(a :: l).set (n+1) b=a :: l.set n b):=
 ⟨fun _ _ _ _=>by simp,fun _ _ _ _ _=>rfl,fun _ _ _ _=>rfl,fun _ _ _ _=>by simp,fun _ _ _ _=>rfl,fun _ _ _ _ _=>rfl⟩
section
variable {w0 W W':World} {g:Nat} {t:TypeId} {cs:Array Value} {B n:Nat}
theorem stB(h:Hid (Below B w0 W))(hb:Below W.heap.size W W')(hs:B≤W.heap.size:=by exact Below.size (Hid.out (by assumption))):Hid (Below B w0 W'):=Hd (h.out.trans (hb.mono hs))
theorem stG(h:Hid (Blk W g t cs))(hb:Below W.heap.size W W'):Hid (Blk W' g t cs):=Hd (h.out.keep hb)
theorem stR(h:Hid (HasBlk W g t n))(hb:Below W.heap.size W W'):Hid (HasBlk W' g t n):=Hd (h.out.keep hb)
theorem Blk.ce(h:Blk W g t cs)(i:Nat){v:Value}(hv:cs[i]?=some v):W.cell? ⟨g,i,none⟩=some v:=(h.cell i).trans hv
theorem Blk.c2{v0 v1:Value}(h:Blk W g t #[v0,v1]):W.cell? ⟨g,0,none⟩=some v0∧W.cell? ⟨g,1,none⟩=some v1:=⟨h.cell 0,h.cell 1⟩
theorem Blk.c3{v0 v1 v2:Value}(h:Blk W g t #[v0,v1,v2]):W.cell? ⟨g,0,none⟩=some v0∧W.cell? ⟨g,1,none⟩=some v1∧W.cell? ⟨g,2,none⟩=some v2:=⟨h.cell 0,h.cell 1,h.cell 2⟩
theorem Blk.c4{v0 v1 v2 v3:Value}(h:Blk W g t #[v0,v1,v2,v3]):W.cell? ⟨g,0,none⟩=some v0∧W.cell? ⟨g,1,none⟩=some v1∧W.cell? ⟨g,2,none⟩=some v2∧W.cell? ⟨g,3,none⟩=some v3:=⟨h.cell 0,h.cell 1,h.cell 2,h.cell 3⟩
theorem Blk.c5{v0 v1 v2 v3 v4:Value}(h:Blk W g t #[v0,v1,v2,v3,v4]):W.cell? ⟨g,0,none⟩=some v0∧W.cell? ⟨g,1,none⟩=some v1∧W.cell? ⟨g,2,none⟩=some v2∧W.cell? ⟨g,3,none⟩=some v3∧W.cell? ⟨g,4,none⟩=some v4:=⟨h.cell 0,h.cell 1,h.cell 2,h.cell 3,h.cell 4⟩
theorem Blk.c6{v0 v1 v2 v3 v4 v5:Value}(h:Blk W g t #[v0,v1,v2,v3,v4,v5]):W.cell? ⟨g,0,none⟩=some v0∧W.cell? ⟨g,1,none⟩=some v1∧W.cell? ⟨g,2,none⟩=some v2∧W.cell? ⟨g,3,none⟩=some v3∧W.cell? ⟨g,4,none⟩=some v4∧W.cell? ⟨g,5,none⟩=some v5:=⟨h.cell 0,h.cell 1,h.cell 2,h.cell 3,h.cell 4,h.cell 5⟩
theorem Blk.c7{v0 v1 v2 v3 v4 v5 v6:Value}(h:Blk W g t #[v0,v1,v2,v3,v4,v5,v6]):W.cell? ⟨g,0,none⟩=some v0∧W.cell? ⟨g,1,none⟩=some v1∧W.cell? ⟨g,2,none⟩=some v2∧W.cell? ⟨g,3,none⟩=some v3∧W.cell? ⟨g,4,none⟩=some v4∧W.cell? ⟨g,5,none⟩=some v5∧W.cell? ⟨g,6,none⟩=some v6:=⟨h.cell 0,h.cell 1,h.cell 2,h.cell 3,h.cell 4,h.cell 5,h.cell 6⟩
theorem Blk.c8{v0 v1 v2 v3 v4 v5 v6 v7:Value}(h:Blk W g t #[v0,v1,v2,v3,v4,v5,v6,v7]):W.cell? ⟨g,0,none⟩=some v0∧W.cell? ⟨g,1,none⟩=some v1∧W.cell? ⟨g,2,none⟩=some v2∧W.cell? ⟨g,3,none⟩=some v3∧W.cell? ⟨g,4,none⟩=some v4∧W.cell? ⟨g,5,none⟩=some v5∧W.cell? ⟨g,6,none⟩=some v6∧W.cell? ⟨g,7,none⟩=some v7:=⟨h.cell 0,h.cell 1,h.cell 2,h.cell 3,h.cell 4,h.cell 5,h.cell 6,h.cell 7⟩
theorem Blk.c9{v0 v1 v2 v3 v4 v5 v6 v7 v8:Value}(h:Blk W g t #[v0,v1,v2,v3,v4,v5,v6,v7,v8]):W.cell? ⟨g,0,none⟩=some v0∧W.cell? ⟨g,1,none⟩=some v1∧W.cell? ⟨g,2,none⟩=some v2∧W.cell? ⟨g,3,none⟩=some v3∧W.cell? ⟨g,4,none⟩=some v4∧W.cell? ⟨g,5,none⟩=some v5∧W.cell? ⟨g,6,none⟩=some v6∧W.cell? ⟨g,7,none⟩=some v7∧W.cell? ⟨g,8,none⟩=some v8:=⟨h.cell 0,h.cell 1,h.cell 2,h.cell 3,h.cell 4,h.cell 5,h.cell 6,h.cell 7,h.cell 8⟩
theorem Blk.c10{v0 v1 v2 v3 v4 v5 v6 v7 v8 v9:Value}(h:Blk W g t #[v0,v1,v2,v3,v4,v5,v6,v7,v8,v9]):W.cell? ⟨g,0,none⟩=some v0∧W.cell? ⟨g,1,none⟩=some v1∧W.cell? ⟨g,2,none⟩=some v2∧W.cell? ⟨g,3,none⟩=some v3∧W.cell? ⟨g,4,none⟩=some v4∧W.cell? ⟨g,5,none⟩=some v5∧W.cell? ⟨g,6,none⟩=some v6∧W.cell? ⟨g,7,none⟩=some v7∧W.cell? ⟨g,8,none⟩=some v8∧W.cell? ⟨g,9,none⟩=some v9:=⟨h.cell 0,h.cell 1,h.cell 2,h.cell 3,h.cell 4,h.cell 5,h.cell 6,h.cell 7,h.cell 8,h.cell 9⟩
theorem Blk.c11{v0 v1 v2 v3 v4 v5 v6 v7 v8 v9 v10:Value}(h:Blk W g t #[v0,v1,v2,v3,v4,v5,v6,v7,v8,v9,v10]):W.cell? ⟨g,0,none⟩=some v0∧W.cell? ⟨g,1,none⟩=some v1∧W.cell? ⟨g,2,none⟩=some v2∧W.cell? ⟨g,3,none⟩=some v3∧W.cell? ⟨g,4,none⟩=some v4∧W.cell? ⟨g,5,none⟩=some v5∧W.cell? ⟨g,6,none⟩=some v6∧W.cell? ⟨g,7,none⟩=some v7∧W.cell? ⟨g,8,none⟩=some v8∧W.cell? ⟨g,9,none⟩=some v9∧W.cell? ⟨g,10,none⟩=some v10:=⟨h.cell 0,h.cell 1,h.cell 2,h.cell 3,h.cell 4,h.cell 5,h.cell 6,h.cell 7,h.cell 8,h.cell 9,h.cell 10⟩
theorem Blk.c12{v0 v1 v2 v3 v4 v5 v6 v7 v8 v9 v10 v11:Value}(h:Blk W g t #[v0,v1,v2,v3,v4,v5,v6,v7,v8,v9,v10,v11]):W.cell? ⟨g,0,none⟩=some v0∧W.cell? ⟨g,1,none⟩=some v1∧W.cell? ⟨g,2,none⟩=some v2∧W.cell? ⟨g,3,none⟩=some v3∧W.cell? ⟨g,4,none⟩=some v4∧W.cell? ⟨g,5,none⟩=some v5∧W.cell? ⟨g,6,none⟩=some v6∧W.cell? ⟨g,7,none⟩=some v7∧W.cell? ⟨g,8,none⟩=some v8∧W.cell? ⟨g,9,none⟩=some v9∧W.cell? ⟨g,10,none⟩=some v10∧W.cell? ⟨g,11,none⟩=some v11:=⟨h.cell 0,h.cell 1,h.cell 2,h.cell 3,h.cell 4,h.cell 5,h.cell 6,h.cell 7,h.cell 8,h.cell 9,h.cell 10,h.cell 11⟩
theorem HasBlk.sf2(h:HasBlk W g t 2):W.cell? ⟨g,0,none⟩=some (cellOf W ⟨g,0,none⟩)∧W.frozen? ⟨g,0,none⟩=false∧W.cell? ⟨g,1,none⟩=some (cellOf W ⟨g,1,none⟩)∧W.frozen? ⟨g,1,none⟩=false:=⟨h.someCell 0 (by decide),h.frozen 0,h.someCell 1 (by decide),h.frozen 1⟩
theorem HasBlk.sf3(h:HasBlk W g t 3):W.cell? ⟨g,0,none⟩=some (cellOf W ⟨g,0,none⟩)∧W.frozen? ⟨g,0,none⟩=false∧W.cell? ⟨g,1,none⟩=some (cellOf W ⟨g,1,none⟩)∧W.frozen? ⟨g,1,none⟩=false∧W.cell? ⟨g,2,none⟩=some (cellOf W ⟨g,2,none⟩)∧W.frozen? ⟨g,2,none⟩=false:=⟨h.someCell 0 (by decide),h.frozen 0,h.someCell 1 (by decide),h.frozen 1,h.someCell 2 (by decide),h.frozen 2⟩
theorem HasBlk.sf4(h:HasBlk W g t 4):W.cell? ⟨g,0,none⟩=some (cellOf W ⟨g,0,none⟩)∧W.frozen? ⟨g,0,none⟩=false∧W.cell? ⟨g,1,none⟩=some (cellOf W ⟨g,1,none⟩)∧W.frozen? ⟨g,1,none⟩=false∧W.cell? ⟨g,2,none⟩=some (cellOf W ⟨g,2,none⟩)∧W.frozen? ⟨g,2,none⟩=false∧W.cell? ⟨g,3,none⟩=some (cellOf W ⟨g,3,none⟩)∧W.frozen? ⟨g,3,none⟩=false:=⟨h.someCell 0 (by decide),h.frozen 0,h.someCell 1 (by decide),h.frozen 1,h.someCell 2 (by decide),h.frozen 2,h.someCell 3 (by decide),h.frozen 3⟩
theorem HasBlk.sf9(h:HasBlk W g t 9):W.cell? ⟨g,0,none⟩=some (cellOf W ⟨g,0,none⟩)∧W.frozen? ⟨g,0,none⟩=false∧W.cell? ⟨g,1,none⟩=some (cellOf W ⟨g,1,none⟩)∧W.frozen? ⟨g,1,none⟩=false∧W.cell? ⟨g,2,none⟩=some (cellOf W ⟨g,2,none⟩)∧W.frozen? ⟨g,2,none⟩=false∧W.cell? ⟨g,3,none⟩=some (cellOf W ⟨g,3,none⟩)∧W.frozen? ⟨g,3,none⟩=false∧W.cell? ⟨g,4,none⟩=some (cellOf W ⟨g,4,none⟩)∧W.frozen? ⟨g,4,none⟩=false∧W.cell? ⟨g,5,none⟩=some (cellOf W ⟨g,5,none⟩)∧W.frozen? ⟨g,5,none⟩=false∧W.cell? ⟨g,6,none⟩=some (cellOf W ⟨g,6,none⟩)∧W.frozen? ⟨g,6,none⟩=false∧W.cell? ⟨g,7,none⟩=some (cellOf W ⟨g,7,none⟩)∧W.frozen? ⟨g,7,none⟩=false∧W.cell? ⟨g,8,none⟩=some (cellOf W ⟨g,8,none⟩)∧W.frozen? ⟨g,8,none⟩=false:=⟨h.someCell 0 (by decide),h.frozen 0,h.someCell 1 (by decide),h.frozen 1,h.someCell 2 (by decide),h.frozen 2,h.someCell 3 (by decide),h.frozen 3,h.someCell 4 (by decide),h.frozen 4,h.someCell 5 (by decide),h.frozen 5,h.someCell 6 (by decide),h.frozen 6,h.someCell 7 (by decide),h.frozen 7,h.someCell 8 (by decide),h.frozen 8⟩
theorem HasBlk.sc2(h:HasBlk W g t 2)(v0 v1:Value):(Proofs.YthlmlmfebpjgdaaGreatDoor.sets W g 0 [v0,v1]).cell? ⟨g,0,none⟩=some v0∧(Proofs.YthlmlmfebpjgdaaGreatDoor.sets W g 0 [v0,v1]).cell? ⟨g,1,none⟩=some v1:=⟨h.setCell _ rfl 0 (by decide),h.setCell _ rfl 1 (by decide)⟩
theorem HasBlk.sc3(h:HasBlk W g t 3)(v0 v1 v2:Value):(Proofs.YthlmlmfebpjgdaaGreatDoor.sets W g 0 [v0,v1,v2]).cell? ⟨g,0,none⟩=some v0∧(Proofs.YthlmlmfebpjgdaaGreatDoor.sets W g 0 [v0,v1,v2]).cell? ⟨g,1,none⟩=some v1∧(Proofs.YthlmlmfebpjgdaaGreatDoor.sets W g 0 [v0,v1,v2]).cell? ⟨g,2,none⟩=some v2:=⟨h.setCell _ rfl 0 (by decide),h.setCell _ rfl 1 (by decide),h.setCell _ rfl 2 (by decide)⟩
theorem HasBlk.sc4(h:HasBlk W g t 4)(v0 v1 v2 v3:Value):(Proofs.YthlmlmfebpjgdaaGreatDoor.sets W g 0 [v0,v1,v2,v3]).cell? ⟨g,0,none⟩=some v0∧(Proofs.YthlmlmfebpjgdaaGreatDoor.sets W g 0 [v0,v1,v2,v3]).cell? ⟨g,1,none⟩=some v1∧(Proofs.YthlmlmfebpjgdaaGreatDoor.sets W g 0 [v0,v1,v2,v3]).cell? ⟨g,2,none⟩=some v2∧(Proofs.YthlmlmfebpjgdaaGreatDoor.sets W g 0 [v0,v1,v2,v3]).cell? ⟨g,3,none⟩=some v3:=⟨h.setCell _ rfl 0 (by decide),h.setCell _ rfl 1 (by decide),h.setCell _ rfl 2 (by decide),h.setCell _ rfl 3 (by decide)⟩
theorem HasBlk.sc9(h:HasBlk W g t 9)(v0 v1 v2 v3 v4 v5 v6 v7 v8:Value):(Proofs.YthlmlmfebpjgdaaGreatDoor.sets W g 0 [v0,v1,v2,v3,v4,v5,v6,v7,v8]).cell? ⟨g,0,none⟩=some v0∧(Proofs.YthlmlmfebpjgdaaGreatDoor.sets W g 0 [v0,v1,v2,v3,v4,v5,v6,v7,v8]).cell? ⟨g,1,none⟩=some v1∧(Proofs.YthlmlmfebpjgdaaGreatDoor.sets W g 0 [v0,v1,v2,v3,v4,v5,v6,v7,v8]).cell? ⟨g,2,none⟩=some v2∧(Proofs.YthlmlmfebpjgdaaGreatDoor.sets W g 0 [v0,v1,v2,v3,v4,v5,v6,v7,v8]).cell? ⟨g,3,none⟩=some v3∧(Proofs.YthlmlmfebpjgdaaGreatDoor.sets W g 0 [v0,v1,v2,v3,v4,v5,v6,v7,v8]).cell? ⟨g,4,none⟩=some v4∧(Proofs.YthlmlmfebpjgdaaGreatDoor.sets W g 0 [v0,v1,v2,v3,v4,v5,v6,v7,v8]).cell? ⟨g,5,none⟩=some v5∧(Proofs.YthlmlmfebpjgdaaGreatDoor.sets W g 0 [v0,v1,v2,v3,v4,v5,v6,v7,v8]).cell? ⟨g,6,none⟩=some v6∧(Proofs.YthlmlmfebpjgdaaGreatDoor.sets W g 0 [v0,v1,v2,v3,v4,v5,v6,v7,v8]).cell? ⟨g,7,none⟩=some v7∧(Proofs.YthlmlmfebpjgdaaGreatDoor.sets W g 0 [v0,v1,v2,v3,v4,v5,v6,v7,v8]).cell? ⟨g,8,none⟩=some v8:=⟨h.setCell _ rfl 0 (by decide),h.setCell _ rfl 1 (by decide),h.setCell _ rfl 2 (by decide),h.setCell _ rfl 3 (by decide),h.setCell _ rfl 4 (by decide),h.setCell _ rfl 5 (by decide),h.setCell _ rfl 6 (by decide),h.setCell _ rfl 7 (by decide),h.setCell _ rfl 8 (by decide)⟩
end
theorem bx1(w:World)(c0:Array Value)(t0:TypeId):Hid (Below w.heap.size w (w.alloc (.cells c0 t0)))∧Hid (Blk (w.alloc (.cells c0 t0)) w.heap.size t0 c0):=⟨Hd (below_alloc w _),Hd (Blk.at (W:=w) (g:=w.heap.size) (by simp<;>omega) t0 c0)⟩
theorem bx2(w:World)(c0:Array Value)(t0:TypeId)(c1:Array Value)(t1:TypeId):Hid (Below w.heap.size w ((w.alloc (.cells c0 t0)).alloc (.cells c1 t1)))∧Hid (Blk ((w.alloc (.cells c0 t0)).alloc (.cells c1 t1)) w.heap.size t0 c0)∧Hid (Blk ((w.alloc (.cells c0 t0)).alloc (.cells c1 t1)) (w.heap.size+1) t1 c1):=⟨Hd ((below_alloc w _).alloc (by simp<;>omega) _),Hd ((Blk.at (W:=w) (g:=w.heap.size) (by simp<;>omega) t0 c0).alloc _),Hd (Blk.at (W:=(w.alloc (.cells c0 t0))) (g:=(w.heap.size+1)) (by simp<;>omega) t1 c1)⟩
theorem bx3(w:World)(c0:Array Value)(t0:TypeId)(c1:Array Value)(t1:TypeId)(c2:Array Value)(t2:TypeId):Hid (Below w.heap.size w (((w.alloc (.cells c0 t0)).alloc (.cells c1 t1)).alloc (.cells c2 t2)))∧Hid (Blk (((w.alloc (.cells c0 t0)).alloc (.cells c1 t1)).alloc (.cells c2 t2)) w.heap.size t0 c0)∧Hid (Blk (((w.alloc (.cells c0 t0)).alloc (.cells c1 t1)).alloc (.cells c2 t2)) (w.heap.size+1) t1 c1)∧Hid (Blk (((w.alloc (.cells c0 t0)).alloc (.cells c1 t1)).alloc (.cells c2 t2)) (w.heap.size+2) t2 c2):=⟨Hd (((below_alloc w _).alloc (by simp<;>omega) _).alloc (by simp<;>omega) _),Hd (((Blk.at (W:=w) (g:=w.heap.size) (by simp<;>omega) t0 c0).alloc _).alloc _),Hd ((Blk.at (W:=(w.alloc (.cells c0 t0))) (g:=(w.heap.size+1)) (by simp<;>omega) t1 c1).alloc _),Hd (Blk.at (W:=((w.alloc (.cells c0 t0)).alloc (.cells c1 t1))) (g:=(w.heap.size+2)) (by simp<;>omega) t2 c2)⟩
theorem bx4(w:World)(c0:Array Value)(t0:TypeId)(c1:Array Value)(t1:TypeId)(c2:Array Value)(t2:TypeId)(c3:Array Value)(t3:TypeId):Hid (Below w.heap.size w ((((w.alloc (.cells c0 t0)).alloc (.cells c1 t1)).alloc (.cells c2 t2)).alloc (.cells c3 t3)))∧Hid (Blk ((((w.alloc (.cells c0 t0)).alloc (.cells c1 t1)).alloc (.cells c2 t2)).alloc (.cells c3 t3)) w.heap.size t0 c0)∧Hid (Blk ((((w.alloc (.cells c0 t0)).alloc (.cells c1 t1)).alloc (.cells c2 t2)).alloc (.cells c3 t3)) (w.heap.size+1) t1 c1)∧Hid (Blk ((((w.alloc (.cells c0 t0)).alloc (.cells c1 t1)).alloc (.cells c2 t2)).alloc (.cells c3 t3)) (w.heap.size+2) t2 c2)∧Hid (Blk ((((w.alloc (.cells c0 t0)).alloc (.cells c1 t1)).alloc (.cells c2 t2)).alloc (.cells c3 t3)) (w.heap.size+3) t3 c3):=⟨Hd ((((below_alloc w _).alloc (by simp<;>omega) _).alloc (by simp<;>omega) _).alloc (by simp<;>omega) _),Hd ((((Blk.at (W:=w) (g:=w.heap.size) (by simp<;>omega) t0 c0).alloc _).alloc _).alloc _),Hd (((Blk.at (W:=(w.alloc (.cells c0 t0))) (g:=(w.heap.size+1)) (by simp<;>omega) t1 c1).alloc _).alloc _),Hd ((Blk.at (W:=((w.alloc (.cells c0 t0)).alloc (.cells c1 t1))) (g:=(w.heap.size+2)) (by simp<;>omega) t2 c2).alloc _),Hd (Blk.at (W:=(((w.alloc (.cells c0 t0)).alloc (.cells c1 t1)).alloc (.cells c2 t2))) (g:=(w.heap.size+3)) (by simp<;>omega) t3 c3)⟩
theorem bx5(w:World)(c0:Array Value)(t0:TypeId)(c1:Array Value)(t1:TypeId)(c2:Array Value)(t2:TypeId)(c3:Array Value)(t3:TypeId)(c4:Array Value)(t4:TypeId):Hid (Below w.heap.size w (((((w.alloc (.cells c0 t0)).alloc (.cells c1 t1)).alloc (.cells c2 t2)).alloc (.cells c3 t3)).alloc (.cells c4 t4)))∧Hid (Blk (((((w.alloc (.cells c0 t0)).alloc (.cells c1 t1)).alloc (.cells c2 t2)).alloc (.cells c3 t3)).alloc (.cells c4 t4)) w.heap.size t0 c0)∧Hid (Blk (((((w.alloc (.cells c0 t0)).alloc (.cells c1 t1)).alloc (.cells c2 t2)).alloc (.cells c3 t3)).alloc (.cells c4 t4)) (w.heap.size+1) t1 c1)∧Hid (Blk (((((w.alloc (.cells c0 t0)).alloc (.cells c1 t1)).alloc (.cells c2 t2)).alloc (.cells c3 t3)).alloc (.cells c4 t4)) (w.heap.size+2) t2 c2)∧Hid (Blk (((((w.alloc (.cells c0 t0)).alloc (.cells c1 t1)).alloc (.cells c2 t2)).alloc (.cells c3 t3)).alloc (.cells c4 t4)) (w.heap.size+3) t3 c3)∧Hid (Blk (((((w.alloc (.cells c0 t0)).alloc (.cells c1 t1)).alloc (.cells c2 t2)).alloc (.cells c3 t3)).alloc (.cells c4 t4)) (w.heap.size+4) t4 c4):=⟨Hd (((((below_alloc w _).alloc (by simp<;>omega) _).alloc (by simp<;>omega) _).alloc (by simp<;>omega) _).alloc (by simp<;>omega) _),Hd (((((Blk.at (W:=w) (g:=w.heap.size) (by simp<;>omega) t0 c0).alloc _).alloc _).alloc _).alloc _),Hd ((((Blk.at (W:=(w.alloc (.cells c0 t0))) (g:=(w.heap.size+1)) (by simp<;>omega) t1 c1).alloc _).alloc _).alloc _),Hd (((Blk.at (W:=((w.alloc (.cells c0 t0)).alloc (.cells c1 t1))) (g:=(w.heap.size+2)) (by simp<;>omega) t2 c2).alloc _).alloc _),Hd ((Blk.at (W:=(((w.alloc (.cells c0 t0)).alloc (.cells c1 t1)).alloc (.cells c2 t2))) (g:=(w.heap.size+3)) (by simp<;>omega) t3 c3).alloc _),Hd (Blk.at (W:=((((w.alloc (.cells c0 t0)).alloc (.cells c1 t1)).alloc (.cells c2 t2)).alloc (.cells c3 t3))) (g:=(w.heap.size+4)) (by simp<;>omega) t4 c4)⟩
theorem plus_any(A B:Option Addr)(n c m d:Nat)(xs ys:List Nat)(w:World)(hx:U32s w A n c xs)(hy:U32s w B m d ys)(hs1:n≤34359738360)(hs2:m≤34359738360):
  Calls Tryz.prog 97 #[.slice A n c,.slice B m d] w (NewU32 w (digs (num xs+num ys))):=by
 have HX:=Hd hx;have HY:=Hd hy;clear hx hy
 go_enter Tryz.func97,Tryz.ntmps97
 go_wp2
 go_loopw [5,6,7] (fun v cv iv wr=>∃ (i k:Nat) (ls:List Nat),iv=.int .i64 i∧cv=.int .u64 k∧i≤max n m∧PlusInv xs ys ls i k∧Own wr w.heap.size v ls∧Below w.heap.size w wr) (fun _ _ iv _=>max n m - (intOf iv).toNat)
 case atStart=>exact⟨0,0,[],rfl,rfl,Nat.zero_le _,PlusInv.start _ _,Own.nil _ _,Below.refl _ _⟩
 case round=>
  obtain⟨i,k,ls,rfl,rfl,hi,hinv,hown,hb⟩:=hrel;have hk1:=hinv.carry;have hlen:=hinv.len;have HI:=Hd hinv;have HO:=Hd hown;clear hinv hown;have hbs:=hb.size;have HL:=Hd hlen;clear hlen
  by_cases ha:i<n
  ·obtain⟨ad,e,hc⟩:=(HX.out.below hb).cell (j:=i) ha
   cases e
   have hx1:=HX.out.lt i
   by_cases hbb:i<m
   ·obtain⟨ad',e,hc'⟩:=(HY.out.below hb).cell (j:=i) hbb
    cases e
    have hy1:=HY.out.lt i;have hm:=mask32_i (a:=(k:Int)+((xs[i]?.getD 0:Nat):Int)+((ys[i]?.getD 0:Nat):Int)) (by omega) (by omega)
    go_wp2_with (at_builtin;refine wpList_append_u32 _ rfl _ _ rfl w.heap.size _ ls rfl (HO.out.alloc _) ⟨_,0,none⟩ 1 ((k+xs[i]?.getD 0+ys[i]?.getD 0) % 4294967296) rfl ?c1 ?c2 ?c3 ?_)
    case c1=>simp
    case c2=>rw [HL.out];omega
    case c3=>simp;omega
    intro v' w' hown' hgrow;have HO':=Hd hown';have hb':Below w.heap.size w w':=(hb.alloc hbs _).grown hgrow (by simp;omega) (fun g hg=>(HO.out.lt g hg).1);clear hown' hb hgrow hc hc' hbs hm;go_wp2
    go_roundw
    case rel=>exact⟨i+1,(k+xs[i]?.getD 0+ys[i]?.getD 0) / 4294967296,_,by go_num,by go_num,by omega,HI.out.step HX.out.w32 HY.out.w32 (by rfl),HO'.out,hb'⟩
    case measure=>simp [intOf];omega
   ·have HZ:=Hd (show ys[i]?.getD 0=0 by rw [List.getElem?_eq_none (by rw [HY.out.len];omega)];rfl);have hm:=mask32_i (a:=(k:Int)+((xs[i]?.getD 0:Nat):Int)) (by omega) (by omega)
    go_wp2_with (at_builtin;refine wpList_append_u32 _ rfl _ _ rfl w.heap.size _ ls rfl (HO.out.alloc _) ⟨_,0,none⟩ 1 ((k+xs[i]?.getD 0) % 4294967296) rfl ?c1 ?c2 ?c3 ?_)
    case c1=>simp
    case c2=>rw [HL.out];omega
    case c3=>simp;omega
    intro v' w' hown' hgrow;have HO':=Hd hown';have hb':Below w.heap.size w w':=(hb.alloc hbs _).grown hgrow (by simp;omega) (fun g hg=>(HO.out.lt g hg).1);clear hown' hb hgrow hc hbs hm;go_wp2
    go_roundw
    case rel=>exact⟨i+1,(k+xs[i]?.getD 0) / 4294967296,_,by go_num,by go_num,by omega,HI.out.step HX.out.w32 HY.out.w32 (by rw [HZ.out];rfl),HO'.out,hb'⟩
    case measure=>simp [intOf];omega
  ·have HZ:=Hd (show xs[i]?.getD 0=0 by rw [List.getElem?_eq_none (by rw [HX.out.len];omega)];rfl)
   by_cases hbb:i<m
   ·obtain⟨ad',e,hc'⟩:=(HY.out.below hb).cell (j:=i) hbb
    cases e
    have hy1:=HY.out.lt i;have hm:=mask32_i (a:=(k:Int)+((ys[i]?.getD 0:Nat):Int)) (by omega) (by omega)
    go_wp2_with (at_builtin;refine wpList_append_u32 _ rfl _ _ rfl w.heap.size _ ls rfl (HO.out.alloc _) ⟨_,0,none⟩ 1 ((k+ys[i]?.getD 0) % 4294967296) rfl ?c1 ?c2 ?c3 ?_)
    case c1=>simp
    case c2=>rw [HL.out];omega
    case c3=>simp;omega
    intro v' w' hown' hgrow;have HO':=Hd hown';have hb':Below w.heap.size w w':=(hb.alloc hbs _).grown hgrow (by simp;omega) (fun g hg=>(HO.out.lt g hg).1);clear hown' hb hgrow hc' hbs hm;go_wp2
    go_roundw
    case rel=>exact⟨i+1,(k+ys[i]?.getD 0) / 4294967296,_,by go_num,by go_num,by omega,HI.out.step HX.out.w32 HY.out.w32 (by rw [HZ.out];rfl),HO'.out,hb'⟩
    case measure=>simp [intOf];omega
   ·have hd:=HI.out.done (by rw [HX.out.len];omega) (by rw [HY.out.len];omega);have HD:=Hd hd;clear hd
    go_wp2_with (at_builtin;refine wpList_append_u32 _ rfl _ _ rfl w.heap.size _ ls rfl (HO.out.alloc _) ⟨_,0,none⟩ 1 k rfl ?c1 ?c2 ?c3 ?_)
    case c1=>simp
    case c2=>rw [HL.out];omega
    case c3=>simp;omega
    intro v' w' hown' hgrow;have HO':=Hd hown';have hb':Below w.heap.size w w':=(hb.alloc hbs _).grown hgrow (by simp;omega) (fun g hg=>(HO.out.lt g hg).1);clear hown' hb hgrow hbs;obtain⟨A',c',rfl⟩:=HO'.out.form_snoc;have hu:=HO'.out.u32s (by simp) HD.out.2 (by simp;rw [HL.out];omega);have hnorm:=norm_any _ _ _ _ w' hu (by rw [HL.out];omega);rw [HD.out.1] at hnorm;have HN:=Hd hnorm;clear hnorm hu;go_wp2_with fail;refine HN.out.mono ?_;rintro e w'' ⟨A2,n2,c2,rfl,hu2,hb2⟩;have H2:=Hd (show NewU32 w (digs (num xs+num ys)) (.returned (.slice A2 n2 c2)) w'' from NewU32.trans ⟨A2,n2,c2,rfl,hu2,hb2⟩ hb');clear hu2 hb2 hb';go_wp2
    go_ret
    exact H2.out
end Go.Proofs.YthlmlmfebpjgdaaGreatDoor
