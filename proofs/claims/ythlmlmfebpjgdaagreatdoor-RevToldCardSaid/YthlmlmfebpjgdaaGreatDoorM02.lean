/-
Lemmas for the statement: Sets Co Fl Ie Val Pat SmallT FromT IntT PatT IvT Read6.
-/
import Derived.Test.YthlmlmfebpjgdaaGreatDoorM01
import Derived.Laws.FloatBits
set_option linter.unusedSimpArgs false
set_option linter.unusedVariables false
set_option maxHeartbeats 12800000
namespace Go.Proofs.YthlmlmfebpjgdaaGreatDoor
section
open Go.RowKit
def sets(W:World)(r:Nat):Nat->List Value->World
 | _,[]=>W
 | i,v :: vs=>sets (W.setCell ⟨r,i,none⟩ v) r (i+1) vs
theorem below_sets{w0:World}{B r:Nat}(hr:B<=r):∀ (vs:List Value) (i:Nat) (W:World),Below B w0 W->Below B w0 (sets W r i vs)
 | [],_,_,h=>h
 | v :: vs,i,_,h=>below_sets hr vs (i+1) _ (h.setCell (p:=⟨r,i,none⟩) hr v)
theorem heap_sets{r k:Nat}(h:k≠r):∀ (vs:List Value) (i:Nat) (W:World),(sets W r i vs).heap[k]?=W.heap[k]?
 | [],_,_=>rfl
 | v :: vs,i,W=>by
  show (sets (W.setCell ⟨r,i,none⟩ v) r (i+1) vs).heap[k]?=_
  rw [heap_sets h vs (i+1)]
  exact Below.heap_setCell W ⟨r,i,none⟩ v k h
theorem size_sets{r:Nat}:∀ (vs:List Value) (i:Nat) (W:World),(sets W r i vs).heap.size=W.heap.size
 | [],_,_=>rfl
 | v :: vs,i,W=>by
  show (sets (W.setCell ⟨r,i,none⟩ v) r (i+1) vs).heap.size=_
  rw [size_sets vs (i+1)]
  simp [World.setCell]
theorem Blk.set{W:World}{g:Nat}{t:TypeId}{cs:Array Value}(h:Blk W g t cs)(i:Nat)(v:Value):Blk (W.setCell ⟨g,i,none⟩ v) g t (cs.setIfInBounds i v):=by
 unfold Blk World.setCell at *
 simp only [Array.getElem?_modify,if_true,h]
 rfl
def laid(cs:Array Value):Nat->List Value->Array Value
 | _,[]=>cs
 | i,v :: vs=>laid (cs.setIfInBounds i v) (i+1) vs
theorem Blk.sets{g:Nat}{t:TypeId}:∀ (vs:List Value) (i:Nat) (W:World) (cs:Array Value),Blk W g t cs->Blk (sets W g i vs) g t (laid cs i vs)
 | [],_,_,_,h=>h
 | v :: vs,i,_,_,h=>Blk.sets vs (i+1) _ _ (h.set i v)
theorem laid_size:∀ (vs:List Value) (i:Nat) (cs:Array Value),(laid cs i vs).size=cs.size
 | [],_,_=>rfl
 | v :: vs,i,cs=>by
  show (laid (cs.setIfInBounds i v) (i+1) vs).size=_
  rw [laid_size vs (i+1)];simp
theorem laid_lt:∀ (vs:List Value) (i j:Nat) (cs:Array Value),j<i->(laid cs i vs)[j]?=cs[j]?
 | [],_,_,_,_=>rfl
 | v :: vs,i,j,cs,h=>by
  show (laid (cs.setIfInBounds i v) (i+1) vs)[j]?=_
  rw [laid_lt vs (i+1) j _ (by omega),Array.getElem?_setIfInBounds];rw [if_neg (by omega)]
theorem laid_get:∀ (vs:List Value) (i j:Nat) (cs:Array Value),j<vs.length->i+vs.length<=cs.size->(laid cs i vs)[i+j]?=vs[j]?
 | [],_,_,_,h,_=>by simp at h
 | v :: vs,i,0,cs,_,h=>by
  show (laid (cs.setIfInBounds i v) (i+1) vs)[i+0]?=_
  simp only [List.length_cons] at h
  rw [laid_lt vs (i+1) (i+0) _ (by omega),Array.getElem?_setIfInBounds,Nat.add_zero,if_pos rfl,if_pos (by omega)]
  rfl
 | v :: vs,i,j+1,cs,h,h'=>by
  show (laid (cs.setIfInBounds i v) (i+1) vs)[i+(j+1)]?=_
  simp only [List.length_cons] at h h'
  rw [show i+(j+1)=(i+1)+j from by omega,laid_get vs (i+1) j _ (by omega) (by simp;omega)]
  rfl
theorem sets_cell{W:World}{g:Nat}{t:TypeId}{cs:Array Value}(h:Blk W g t cs)(vs:List Value)(j:Nat)(hj:j<vs.length)(hs:vs.length<=cs.size):
  (sets W g 0 vs).cell? ⟨g,j,none⟩=vs[j]?:=by
 rw [(h.sets vs 0 W cs).cell j];have:=laid_get vs 0 j cs hj (by omega);rw [Nat.zero_add] at this
 exact this
def notWd:Value->Bool
 | .int .u32 _=>false
 | _=>true
theorem NoWd.of{cs:Array Value}(h:cs.all notWd=true):NoWd cs:=by
 intro i x hi;obtain⟨hlt,he⟩:=Array.getElem?_eq_some_iff.1 hi;have:=Array.all_eq_true.1 h i hlt;rw [he] at this
 cases this
theorem U32s.sets{W:World}{A:Option Addr}{n c g:Nat}{t:TypeId}{cs:Array Value}{xs:List Nat}(h:U32s W A n c xs)(hb:Blk W g t cs)(hc:NoWd cs)(i:Nat)(vs:List Value):U32s (sets W g i vs) A n c xs:=
 h.keep (by rw [size_sets];exact Nat.le_refl _) fun ad e hn=>heap_sets (hb.apart hc h ad e hn) vs i W
theorem RatV.sets{W:World}{K:Nat}{neg:Bool}{vn vd:Value}{x:Rat}{g:Nat}{t:TypeId}{cs:Array Value}(h:RatV W K neg vn vd x)(hb:Blk W g t cs)(hc:NoWd cs)(i:Nat)(vs:List Value):RatV (sets W g i vs) K neg vn vd x:=by
 obtain⟨p,q,A,n,c,B,m,d,rfl,rfl,h3,h4,h5⟩:=h
 exact⟨p,q,A,n,c,B,m,d,rfl,rfl,h3.sets hb hc i vs,h4.sets hb hc i vs,h5⟩
theorem Blk.at{W:World}{g:Nat}(h:W.heap.size=g)(t:TypeId)(cs:Array Value):Blk (W.alloc (.cells cs t)) g t cs:=by
 subst h;exact Blk.new W t cs
def HasBlk(W:World)(r:Nat)(t:TypeId)(n:Nat):Prop:=∃ cs,Blk W r t cs/\cs.size=n/\NoWd cs
theorem HasBlk.keep{W W':World}{r:Nat}{t:TypeId}{n:Nat}(h:HasBlk W r t n)(hb:Below W.heap.size W W'):HasBlk W' r t n:=by
 obtain⟨cs,h1,h2,h3⟩:=h
 exact⟨cs,h1.keep hb,h2,h3⟩
theorem HasBlk.of{W:World}{r:Nat}{t:TypeId}{cs:Array Value}{n:Nat}(h:Blk W r t cs)(hs:cs.size=n)(hc:cs.toList.all notWd=true):HasBlk W r t n:=⟨cs,h,hs,NoWd.of (by rw [<- Array.all_toList];exact hc)⟩
theorem Blk.someCell{W:World}{g:Nat}{t:TypeId}{cs:Array Value}(h:Blk W g t cs){j:Nat}(hj:j<cs.size):W.cell? ⟨g,j,none⟩=some (cellOf W ⟨g,j,none⟩):=by
 have h1:=h.cell j;rw [Array.getElem?_eq_getElem hj] at h1
 exact cellOf_some h1
theorem laid_all(vs:List Value)(cs:Array Value)(h:vs.length=cs.size):laid cs 0 vs=vs.toArray:=by
 apply Array.ext_getElem?
 intro j
 rcases Nat.lt_or_ge j vs.length with hj | hj
 ·have:=laid_get vs 0 j cs hj (by omega);rw [Nat.zero_add] at this;rw [this];simp
 ·rw [Array.getElem?_eq_none (by rw [laid_size];omega)]
  simp [hj]
theorem HasBlk.sets{W:World}{r:Nat}{t:TypeId}{n:Nat}(h:HasBlk W r t n)(vs:List Value)(hl:vs.length=n)(hv:vs.all notWd=true):HasBlk (sets W r 0 vs) r t n:=by
 obtain⟨cs,h1,h2,-⟩:=h;have:=h1.sets vs 0 W cs;rw [laid_all vs cs (by omega)] at this
 exact .of this (by simp [hl]) (by simpa using hv)
theorem Blk.other{W:World}{g r:Nat}{t:TypeId}{cs:Array Value}(h:Blk W g t cs)(hg:g≠r)(i:Nat)(vs:List Value):Blk (Proofs.YthlmlmfebpjgdaaGreatDoor.sets W r i vs) g t cs:=(heap_sets hg vs i W).trans h
theorem HasBlk.laid{W:World}{r:Nat}{t:TypeId}{n:Nat}(h:HasBlk W r t n)(vs:List Value)(hl:vs.length=n):Blk (Proofs.YthlmlmfebpjgdaaGreatDoor.sets W r 0 vs) r t vs.toArray:=by
 obtain⟨cs,h1,h2,-⟩:=h;have:=h1.sets vs 0 W cs
 rwa [laid_all vs cs (by omega)] at this
theorem HasBlk.lt{W:World}{r:Nat}{t:TypeId}{n:Nat}(h:HasBlk W r t n):r<W.heap.size:=by
 obtain⟨cs,h1,-⟩:=h
 exact h1.lt
theorem HasBlk.someCell{W:World}{r:Nat}{t:TypeId}{n:Nat}(h:HasBlk W r t n)(j:Nat)(hj:j<n):W.cell? ⟨r,j,none⟩=some (cellOf W ⟨r,j,none⟩):=by
 obtain⟨cs,h1,h2,-⟩:=h
 exact h1.someCell (by omega)
theorem HasBlk.frozen{W:World}{r:Nat}{t:TypeId}{n:Nat}(h:HasBlk W r t n)(j:Nat):W.frozen? ⟨r,j,none⟩=false:=by
 obtain⟨cs,h1,h2,-⟩:=h
 exact h1.frozen j
theorem HasBlk.setCell{W:World}{r:Nat}{t:TypeId}{n:Nat}(h:HasBlk W r t n)(vs:List Value)(hl:vs.length=n)(j:Nat)(hj:j<n):(Proofs.YthlmlmfebpjgdaaGreatDoor.sets W r 0 vs).cell? ⟨r,j,none⟩=vs[j]?:=by
 obtain⟨cs,h1,h2,-⟩:=h
 exact sets_cell h1 vs j (by omega) (by omega)
theorem HasBlk.drew{W:World}{r:Nat}{t:TypeId}{n:Nat}(h:HasBlk W r t n):HasBlk W.drew r t n:=h
theorem Blk.drew{W:World}{g:Nat}{t:TypeId}{cs:Array Value}(h:Blk W g t cs):Blk W.drew g t cs:=h
theorem HasBlk.alloc{W:World}{r:Nat}{t:TypeId}{n:Nat}(h:HasBlk W r t n)(o:Obj):HasBlk (W.alloc o) r t n:=by
 obtain⟨cs,h1,h2⟩:=h
 exact⟨cs,h1.alloc o,h2⟩
theorem HasBlk.other{W:World}{g r:Nat}{t:TypeId}{n:Nat}(h:HasBlk W g t n)(hg:g≠r)(i:Nat)(vs:List Value):HasBlk (Proofs.YthlmlmfebpjgdaaGreatDoor.sets W r i vs) g t n:=by
 obtain⟨cs,h1,h2⟩:=h
 exact⟨cs,h1.other hg i vs,h2⟩
theorem RatV.far{W:World}{K:Nat}{neg:Bool}{vn vd:Value}{x:Rat}{g:Nat}{t:TypeId}{cs:Array Value}(h:RatV W K neg vn vd x)(hb:Blk W g t cs)(hc:cs.toList.all notWd=true)(i:Nat)(v:Value):RatV (W.setCell ⟨g,i,none⟩ v) K neg vn vd x:=
 h.sets hb (NoWd.of (by rw [<- Array.all_toList];exact hc)) i [v]
end
section
open Go.RowKit
section
variable {P:Program} {ops:Array Oper} {Q:Exit->Act->World->Prop} {md:Region.Mode} {S:World->Prop} {fuel:Nat} {listed:Array Bool} {a:Act} {w:World}
theorem tk(i:Nat){oi:Oper}{v:Value}(h:wpAnyH P md ops Q S fuel (listed.setIfInBounds i true) (a.put oi.dst v) w)(hi:ops[i]?=some oi:=by rfl)(hs:Region.noSelect ops=true:=by kernel_rfl)(hf:Region.free md ops listed i=true:=by kernel_rfl)(hr:(Region.ready md ops listed).contains i=true:=by kernel_rfl)
  (hQ:∀ c a w,Q (.panic c) (a.put oi.dst v) w->Q (.panic c) a w:=by exact fun _ _ _ h=>h)(hw:Region.wanted oi (yielded ops a.tmps)=true:=by rfl)(hv:∀ w,S w->(execOp a.eval oi).run P w=.ok (.value v) w:=by intro W2 hSw;go_simp;(try with_reducible rfl))(hS:S w:=by assumption):wpAnyH P md ops Q S (fuel+1) listed a w:=
 wpAnyH_take hi hs hf hr hQ (Or.inl ⟨hw,hv⟩) hS h
theorem tkn(i:Nat){oi:Oper}(h:wpAnyH P md ops Q S fuel (listed.setIfInBounds i true) (a.put oi.dst undef) w)(hi:ops[i]?=some oi:=by rfl)(hs:Region.noSelect ops=true:=by kernel_rfl)(hf:Region.free md ops listed i=true:=by kernel_rfl)(hr:(Region.ready md ops listed).contains i=true:=by kernel_rfl)
  (hQ:∀ c a w,Q (.panic c) (a.put oi.dst undef) w->Q (.panic c) a w:=by exact fun _ _ _ h=>h)(hw:Region.wanted oi (yielded ops a.tmps)=false:=by rfl)(hS:S w:=by assumption):wpAnyH P md ops Q S (fuel+1) listed a w:=
 wpAnyH_take hi hs hf hr hQ (Or.inr ⟨hw,rfl⟩) hS h
theorem rdy(i:Nat){o:Oper}(h:∀ K':Act->World->Prop,Shut (∀ a w,S w->(S w->wpAnyH P md ops Q S fuel (listed.setIfInBounds i true) a w)->K' a w)->if Region.wanted o (yielded ops a.tmps)=true then Oper.wp P o a w K' Q else K' (a.put o.dst undef) w)
  (hr:Region.ready md ops listed=[i]:=by kernel_rfl)(ho:ops[i]?=some o:=by rfl):wpAnyH P md ops Q S (fuel+1) listed a w:=
 wpAnyH_ready hr (by simp) (AllReadyH.cons ho h AllReadyH.nil)
end
theorem lay:(∀ (α:Type) (l:List α) (i:Nat) (h:i<l.toArray.size),l.toArray[i]=l[i]'(by simpa using h))/\(∀ (α:Type) (a:α) (l:List α) (i:Nat) (h:i+1<(a :: l).length),(a :: l)[i+1]=l[i]'(by simpa using h)) /\
  (∀ (α:Type) (a:α) (l:List α) (h:0<(a :: l).length),(a :: l)[0]=a)/\(∀ (α:Type) (l:List α) (i:Nat) (a:α),l.toArray.setIfInBounds i a=(l.set i a).toArray)/\(∀ (α:Type) (a b:α) (l:List α),(a :: l).set 0 b=b :: l)/\(∀ (α:Type) (a b:α) (l:List α) (n:Nat),(a :: l).set (n+1) b=a :: l.set n b):=
 ⟨fun _ _ _ _=>by simp,fun _ _ _ _ _=>rfl,fun _ _ _ _=>rfl,fun _ _ _ _=>by simp,fun _ _ _ _=>rfl,fun _ _ _ _ _=>rfl⟩
section
variable {w0 W W':World} {g:Nat} {t:TypeId} {cs:Array Value} {B n:Nat}
theorem stB(h:Hid (Below B w0 W))(hb:Below W.heap.size W W')(hs:B<=W.heap.size:=by exact Below.size (Hid.out (by assumption))):Hid (Below B w0 W'):=Hd (h.out.trans (hb.mono hs))
theorem stG(h:Hid (Blk W g t cs))(hb:Below W.heap.size W W'):Hid (Blk W' g t cs):=Hd (h.out.keep hb)
theorem stR(h:Hid (HasBlk W g t n))(hb:Below W.heap.size W W'):Hid (HasBlk W' g t n):=Hd (h.out.keep hb)
theorem Blk.ce(h:Blk W g t cs)(i:Nat){v:Value}(hv:cs[i]?=some v):W.cell? ⟨g,i,none⟩=some v:=(h.cell i).trans hv
theorem Blk.c2{v0 v1:Value}(h:Blk W g t #[v0,v1]):W.cell? ⟨g,0,none⟩=some v0/\W.cell? ⟨g,1,none⟩=some v1:=⟨h.cell 0,h.cell 1⟩
theorem Blk.c3{v0 v1 v2:Value}(h:Blk W g t #[v0,v1,v2]):W.cell? ⟨g,0,none⟩=some v0/\W.cell? ⟨g,1,none⟩=some v1/\W.cell? ⟨g,2,none⟩=some v2:=⟨h.cell 0,h.cell 1,h.cell 2⟩
theorem Blk.c4{v0 v1 v2 v3:Value}(h:Blk W g t #[v0,v1,v2,v3]):W.cell? ⟨g,0,none⟩=some v0/\W.cell? ⟨g,1,none⟩=some v1/\W.cell? ⟨g,2,none⟩=some v2/\W.cell? ⟨g,3,none⟩=some v3:=⟨h.cell 0,h.cell 1,h.cell 2,h.cell 3⟩
theorem HasBlk.sf2(h:HasBlk W g t 2):W.cell? ⟨g,0,none⟩=some (cellOf W ⟨g,0,none⟩)/\W.frozen? ⟨g,0,none⟩=false/\W.cell? ⟨g,1,none⟩=some (cellOf W ⟨g,1,none⟩)/\W.frozen? ⟨g,1,none⟩=false:=⟨h.someCell 0 (by decide),h.frozen 0,h.someCell 1 (by decide),h.frozen 1⟩
theorem HasBlk.sf3(h:HasBlk W g t 3):W.cell? ⟨g,0,none⟩=some (cellOf W ⟨g,0,none⟩)/\W.frozen? ⟨g,0,none⟩=false/\W.cell? ⟨g,1,none⟩=some (cellOf W ⟨g,1,none⟩)/\W.frozen? ⟨g,1,none⟩=false/\W.cell? ⟨g,2,none⟩=some (cellOf W ⟨g,2,none⟩)/\W.frozen? ⟨g,2,none⟩=false:=⟨h.someCell 0 (by decide),h.frozen 0,h.someCell 1 (by decide),h.frozen 1,h.someCell 2 (by decide),h.frozen 2⟩
theorem HasBlk.sf4(h:HasBlk W g t 4):W.cell? ⟨g,0,none⟩=some (cellOf W ⟨g,0,none⟩)/\W.frozen? ⟨g,0,none⟩=false/\W.cell? ⟨g,1,none⟩=some (cellOf W ⟨g,1,none⟩)/\W.frozen? ⟨g,1,none⟩=false/\W.cell? ⟨g,2,none⟩=some (cellOf W ⟨g,2,none⟩)/\W.frozen? ⟨g,2,none⟩=false/\W.cell? ⟨g,3,none⟩=some (cellOf W ⟨g,3,none⟩)/\W.frozen? ⟨g,3,none⟩=false:=⟨h.someCell 0 (by decide),h.frozen 0,h.someCell 1 (by decide),h.frozen 1,h.someCell 2 (by decide),h.frozen 2,h.someCell 3 (by decide),h.frozen 3⟩
theorem HasBlk.sc2(h:HasBlk W g t 2)(v0 v1:Value):(Proofs.YthlmlmfebpjgdaaGreatDoor.sets W g 0 [v0,v1]).cell? ⟨g,0,none⟩=some v0/\(Proofs.YthlmlmfebpjgdaaGreatDoor.sets W g 0 [v0,v1]).cell? ⟨g,1,none⟩=some v1:=⟨h.setCell _ rfl 0 (by decide),h.setCell _ rfl 1 (by decide)⟩
theorem HasBlk.sc3(h:HasBlk W g t 3)(v0 v1 v2:Value):(Proofs.YthlmlmfebpjgdaaGreatDoor.sets W g 0 [v0,v1,v2]).cell? ⟨g,0,none⟩=some v0/\(Proofs.YthlmlmfebpjgdaaGreatDoor.sets W g 0 [v0,v1,v2]).cell? ⟨g,1,none⟩=some v1/\(Proofs.YthlmlmfebpjgdaaGreatDoor.sets W g 0 [v0,v1,v2]).cell? ⟨g,2,none⟩=some v2:=⟨h.setCell _ rfl 0 (by decide),h.setCell _ rfl 1 (by decide),h.setCell _ rfl 2 (by decide)⟩
theorem HasBlk.sc4(h:HasBlk W g t 4)(v0 v1 v2 v3:Value):(Proofs.YthlmlmfebpjgdaaGreatDoor.sets W g 0 [v0,v1,v2,v3]).cell? ⟨g,0,none⟩=some v0/\(Proofs.YthlmlmfebpjgdaaGreatDoor.sets W g 0 [v0,v1,v2,v3]).cell? ⟨g,1,none⟩=some v1/\(Proofs.YthlmlmfebpjgdaaGreatDoor.sets W g 0 [v0,v1,v2,v3]).cell? ⟨g,2,none⟩=some v2/\(Proofs.YthlmlmfebpjgdaaGreatDoor.sets W g 0 [v0,v1,v2,v3]).cell? ⟨g,3,none⟩=some v3:=⟨h.setCell _ rfl 0 (by decide),h.setCell _ rfl 1 (by decide),h.setCell _ rfl 2 (by decide),h.setCell _ rfl 3 (by decide)⟩
end
theorem bx1(w:World)(c0:Array Value)(t0:TypeId):Hid (Below w.heap.size w (w.alloc (.cells c0 t0)))/\Hid (Blk (w.alloc (.cells c0 t0)) w.heap.size t0 c0):=⟨Hd (below_alloc w _),Hd (Blk.at (W:=w) (g:=w.heap.size) (by simp<;>omega) t0 c0)⟩
theorem bx2(w:World)(c0:Array Value)(t0:TypeId)(c1:Array Value)(t1:TypeId):Hid (Below w.heap.size w ((w.alloc (.cells c0 t0)).alloc (.cells c1 t1)))/\Hid (Blk ((w.alloc (.cells c0 t0)).alloc (.cells c1 t1)) w.heap.size t0 c0)/\Hid (Blk ((w.alloc (.cells c0 t0)).alloc (.cells c1 t1)) (w.heap.size+1) t1 c1):=⟨Hd ((below_alloc w _).alloc (by simp<;>omega) _),Hd ((Blk.at (W:=w) (g:=w.heap.size) (by simp<;>omega) t0 c0).alloc _),Hd (Blk.at (W:=(w.alloc (.cells c0 t0))) (g:=(w.heap.size+1)) (by simp<;>omega) t1 c1)⟩
theorem bx3(w:World)(c0:Array Value)(t0:TypeId)(c1:Array Value)(t1:TypeId)(c2:Array Value)(t2:TypeId):Hid (Below w.heap.size w (((w.alloc (.cells c0 t0)).alloc (.cells c1 t1)).alloc (.cells c2 t2)))/\Hid (Blk (((w.alloc (.cells c0 t0)).alloc (.cells c1 t1)).alloc (.cells c2 t2)) w.heap.size t0 c0)/\Hid (Blk (((w.alloc (.cells c0 t0)).alloc (.cells c1 t1)).alloc (.cells c2 t2)) (w.heap.size+1) t1 c1)/\Hid (Blk (((w.alloc (.cells c0 t0)).alloc (.cells c1 t1)).alloc (.cells c2 t2)) (w.heap.size+2) t2 c2):=⟨Hd (((below_alloc w _).alloc (by simp<;>omega) _).alloc (by simp<;>omega) _),Hd (((Blk.at (W:=w) (g:=w.heap.size) (by simp<;>omega) t0 c0).alloc _).alloc _),Hd ((Blk.at (W:=(w.alloc (.cells c0 t0))) (g:=(w.heap.size+1)) (by simp<;>omega) t1 c1).alloc _),Hd (Blk.at (W:=((w.alloc (.cells c0 t0)).alloc (.cells c1 t1))) (g:=(w.heap.size+2)) (by simp<;>omega) t2 c2)⟩
theorem bx4(w:World)(c0:Array Value)(t0:TypeId)(c1:Array Value)(t1:TypeId)(c2:Array Value)(t2:TypeId)(c3:Array Value)(t3:TypeId):Hid (Below w.heap.size w ((((w.alloc (.cells c0 t0)).alloc (.cells c1 t1)).alloc (.cells c2 t2)).alloc (.cells c3 t3)))/\Hid (Blk ((((w.alloc (.cells c0 t0)).alloc (.cells c1 t1)).alloc (.cells c2 t2)).alloc (.cells c3 t3)) w.heap.size t0 c0)/\Hid (Blk ((((w.alloc (.cells c0 t0)).alloc (.cells c1 t1)).alloc (.cells c2 t2)).alloc (.cells c3 t3)) (w.heap.size+1) t1 c1)/\Hid (Blk ((((w.alloc (.cells c0 t0)).alloc (.cells c1 t1)).alloc (.cells c2 t2)).alloc (.cells c3 t3)) (w.heap.size+2) t2 c2)/\Hid (Blk ((((w.alloc (.cells c0 t0)).alloc (.cells c1 t1)).alloc (.cells c2 t2)).alloc (.cells c3 t3)) (w.heap.size+3) t3 c3):=⟨Hd ((((below_alloc w _).alloc (by simp<;>omega) _).alloc (by simp<;>omega) _).alloc (by simp<;>omega) _),Hd ((((Blk.at (W:=w) (g:=w.heap.size) (by simp<;>omega) t0 c0).alloc _).alloc _).alloc _),Hd (((Blk.at (W:=(w.alloc (.cells c0 t0))) (g:=(w.heap.size+1)) (by simp<;>omega) t1 c1).alloc _).alloc _),Hd ((Blk.at (W:=((w.alloc (.cells c0 t0)).alloc (.cells c1 t1))) (g:=(w.heap.size+2)) (by simp<;>omega) t2 c2).alloc _),Hd (Blk.at (W:=(((w.alloc (.cells c0 t0)).alloc (.cells c1 t1)).alloc (.cells c2 t2))) (g:=(w.heap.size+3)) (by simp<;>omega) t3 c3)⟩
theorem bx5(w:World)(c0:Array Value)(t0:TypeId)(c1:Array Value)(t1:TypeId)(c2:Array Value)(t2:TypeId)(c3:Array Value)(t3:TypeId)(c4:Array Value)(t4:TypeId):Hid (Below w.heap.size w (((((w.alloc (.cells c0 t0)).alloc (.cells c1 t1)).alloc (.cells c2 t2)).alloc (.cells c3 t3)).alloc (.cells c4 t4)))/\Hid (Blk (((((w.alloc (.cells c0 t0)).alloc (.cells c1 t1)).alloc (.cells c2 t2)).alloc (.cells c3 t3)).alloc (.cells c4 t4)) w.heap.size t0 c0)/\Hid (Blk (((((w.alloc (.cells c0 t0)).alloc (.cells c1 t1)).alloc (.cells c2 t2)).alloc (.cells c3 t3)).alloc (.cells c4 t4)) (w.heap.size+1) t1 c1)/\Hid (Blk (((((w.alloc (.cells c0 t0)).alloc (.cells c1 t1)).alloc (.cells c2 t2)).alloc (.cells c3 t3)).alloc (.cells c4 t4)) (w.heap.size+2) t2 c2)/\Hid (Blk (((((w.alloc (.cells c0 t0)).alloc (.cells c1 t1)).alloc (.cells c2 t2)).alloc (.cells c3 t3)).alloc (.cells c4 t4)) (w.heap.size+3) t3 c3)/\Hid (Blk (((((w.alloc (.cells c0 t0)).alloc (.cells c1 t1)).alloc (.cells c2 t2)).alloc (.cells c3 t3)).alloc (.cells c4 t4)) (w.heap.size+4) t4 c4):=⟨Hd (((((below_alloc w _).alloc (by simp<;>omega) _).alloc (by simp<;>omega) _).alloc (by simp<;>omega) _).alloc (by simp<;>omega) _),Hd (((((Blk.at (W:=w) (g:=w.heap.size) (by simp<;>omega) t0 c0).alloc _).alloc _).alloc _).alloc _),Hd ((((Blk.at (W:=(w.alloc (.cells c0 t0))) (g:=(w.heap.size+1)) (by simp<;>omega) t1 c1).alloc _).alloc _).alloc _),Hd (((Blk.at (W:=((w.alloc (.cells c0 t0)).alloc (.cells c1 t1))) (g:=(w.heap.size+2)) (by simp<;>omega) t2 c2).alloc _).alloc _),Hd ((Blk.at (W:=(((w.alloc (.cells c0 t0)).alloc (.cells c1 t1)).alloc (.cells c2 t2))) (g:=(w.heap.size+3)) (by simp<;>omega) t3 c3).alloc _),Hd (Blk.at (W:=((((w.alloc (.cells c0 t0)).alloc (.cells c1 t1)).alloc (.cells c2 t2)).alloc (.cells c3 t3))) (g:=(w.heap.size+4)) (by simp<;>omega) t4 c4)⟩
section
variable {P:Program} {ops:Array Oper} {Q:Exit->Act->World->Prop} {md:Region.Mode} {S:World->Prop} {fuel:Nat} {listed:Array Bool} {a:Act} {w:World}
theorem tks(i:Nat){oi:Oper}{v:Value}{R:Prop}(h:R)(hi:ops[i]?=some oi:=by rfl)(hs:Region.noSelect ops=true:=by kernel_rfl)(hf:Region.free md ops listed i=true:=by kernel_rfl)(hr:(Region.ready md ops listed).contains i=true:=by kernel_rfl)
  (hQ:∀ c a w,Q (.panic c) (a.put oi.dst v) w->Q (.panic c) a w:=by exact fun _ _ _ h=>h)(hw:Region.wanted oi (yielded ops a.tmps)=true:=by rfl)(hv:∀ w,S w->(execOp a.eval oi).run P w=.ok (.value v) w:=by intro W2 hSw;go_simp;(try with_reducible rfl))(hS:S w:=by assumption)
  (e:R->wpAnyH P md ops Q S fuel (listed.setIfInBounds i true) (a.put oi.dst v) w:=by intro hR;(try simp only [Act.put,lay]);exact hR):wpAnyH P md ops Q S (fuel+1) listed a w:=
 wpAnyH_take hi hs hf hr hQ (Or.inl ⟨hw,hv⟩) hS (e h)
theorem tkb(i:Nat){oi:Oper}{v:Value}{R:Prop}{B:World->Prop}(b:∀ W,S W->B W)(h:R)(hi:ops[i]?=some oi:=by rfl)(hs:Region.noSelect ops=true:=by kernel_rfl)(hf:Region.free md ops listed i=true:=by kernel_rfl)(hr:(Region.ready md ops listed).contains i=true:=by kernel_rfl)
  (hQ:∀ c a w,Q (.panic c) (a.put oi.dst v) w->Q (.panic c) a w:=by exact fun _ _ _ h=>h)(hw:Region.wanted oi (yielded ops a.tmps)=true:=by rfl)(hv:(∀ W,S W->B W)->∀ w,S w->(execOp a.eval oi).run P w=.ok (.value v) w:=by intro hb W2 hSw;have hq:=hb W2 hSw;clear hb;go_simp;(try with_reducible rfl))(hS:S w:=by assumption)
  (e:R->wpAnyH P md ops Q S fuel (listed.setIfInBounds i true) (a.put oi.dst v) w:=by intro hR;(try simp only [Act.put,lay]);exact hR):wpAnyH P md ops Q S (fuel+1) listed a w:=
 wpAnyH_take hi hs hf hr hQ (Or.inl ⟨hw,hv b⟩) hS (e h)
theorem tkns(i:Nat){oi:Oper}{R:Prop}(h:R)(hi:ops[i]?=some oi:=by rfl)(hs:Region.noSelect ops=true:=by kernel_rfl)(hf:Region.free md ops listed i=true:=by kernel_rfl)(hr:(Region.ready md ops listed).contains i=true:=by kernel_rfl)
  (hQ:∀ c a w,Q (.panic c) (a.put oi.dst undef) w->Q (.panic c) a w:=by exact fun _ _ _ h=>h)(hw:Region.wanted oi (yielded ops a.tmps)=false:=by rfl)(hS:S w:=by assumption)
  (e:R->wpAnyH P md ops Q S fuel (listed.setIfInBounds i true) (a.put oi.dst undef) w:=by intro hR;(try simp only [Act.put,lay]);exact hR):wpAnyH P md ops Q S (fuel+1) listed a w:=
 wpAnyH_take hi hs hf hr hQ (Or.inr ⟨hw,rfl⟩) hS (e h)
end
theorem cx{P:Program}{f:FuncId}{a:Array Value}{v:Value}{W:World}{T:Ending->World->Prop}(h:Calls P f a W fun e w'=>e=.returned v/\Below W.heap.size W w')(k:∀ w',Below W.heap.size W w'->T (.returned v) w'):Calls P f a W T:=
 h.mono fun _ w' ⟨he,hb⟩=>he ▸ k w' hb
end
section
open Ieee
def mag(r:Nat):Nat:=if r<2^52 then r else (2^52+r % 2^52)*2^(r / 2^52 - 1)
theorem mag_small{r:Nat}(h:r<2^52):mag r=r:=by unfold mag;rw [if_pos h]
theorem mag_form(k q:Nat)(h:k=0\/2^52<=q)(hq:q<=2^53):mag (k*2^52+q)=q*2^k:=by
 unfold mag
 rcases Nat.lt_or_ge q (2^52) with h1 | h1
 ·rcases h with rfl | h
  ·rw [if_pos (by omega),Nat.zero_mul,Nat.zero_add,Nat.pow_zero,Nat.mul_one]
  ·omega
 ·rw [if_neg (by omega)]
  rcases Nat.lt_or_ge q (2^53) with h2 | h2
  ·have e1:(k*2^52+q) % 2^52=q - 2^52:=by omega
   have e2:(k*2^52+q) / 2^52 - 1=k:=by omega
   rw [e1,e2,Nat.add_sub_of_le h1]
  ·obtain rfl:q=2^53:=by omega
   have e1:(k*2^52+2^53) % 2^52=0:=by omega
   have e2:(k*2^52+2^53) / 2^52 - 1=k+1:=by omega
   rw [e1,e2,Nat.add_zero,<- Nat.pow_add,<- Nat.pow_add,Nat.add_comm 52,Nat.add_comm 53,Nat.add_assoc k 1 52]
theorem rung_form(r:Nat):∃ k q,r=k*2^52+q/\(k=0\/2^52<=q)/\q<2^53:=by
 rcases Nat.lt_or_ge r (2^52) with h | h
 ·exact⟨0,r,by omega,.inl rfl,by omega⟩
 ·refine⟨r / 2^52 - 1,2^52+r % 2^52,by omega,.inr (by omega),by omega⟩
theorem mag_succ(r:Nat):mag r<mag (r+1):=by
 obtain⟨k,q,rfl,h,hq⟩:=rung_form r;rw [mag_form k q h (by omega),Nat.add_assoc,mag_form k (q+1) (by omega) (by omega)]
 exact Nat.mul_lt_mul_of_pos_right (by omega) (Nat.two_pow_pos _)
theorem mag_lt{r s:Nat}(h:r<s):mag r<mag s:=by
 induction s with
 | zero=>omega
 | succ s ih=>
  rcases Nat.lt_or_ge r s with h1 | h1
  ·exact Nat.lt_trans (ih h1) (mag_succ s)
  ·obtain rfl:r=s:=by omega
   exact mag_succ r
theorem mag_lt_iff{r s:Nat}:mag r<mag s↔r<s:=by
 constructor
 ·intro h
  rcases Nat.lt_or_ge r s with h1 | h1
  ·exact h1
  ·rcases Nat.lt_or_ge s r with h2 | h2
   ·have:=mag_lt h2;omega
   ·obtain rfl:r=s:=by omega
    omega
 ·exact mag_lt
theorem mag_le_iff{r s:Nat}:mag r<=mag s↔r<=s:=by
 have:=@mag_lt_iff s r
 omega
theorem mag_inj{r s:Nat}(h:mag r=mag s):r=s:=by
 have h1:=@mag_le_iff r s;have h2:=@mag_le_iff s r
 omega
theorem mag_zero:mag 0=0:=rfl
theorem mag_pos{r:Nat}(h:0<r):0<mag r:=by have:=mag_lt h;rw [mag_zero] at this;exact this
theorem mag_eq_zero{r:Nat}:mag r=0↔r=0:=by
 constructor
 ·intro h;exact mag_inj (h.trans mag_zero.symm)
 ·rintro rfl;rfl
def over(n:Nat):Nat:=n.log2 - 52
def floorRung(n:Nat):Nat:=over n*2^52+n / 2^over n
theorem over_spec(n:Nat):(over n=0\/2^52<=n / 2^over n)/\n / 2^over n<2^53:=by
 unfold over
 by_cases h0:n=0
 ·subst h0;simp
 have h1:=Nat.log2_self_le h0;have h2:n<2^(n.log2+1):=Nat.lt_log2_self
 constructor
 ·by_cases h:n.log2<=52
  ·left;omega
  ·right
   rw [Nat.le_div_iff_mul_le (Nat.two_pow_pos _),<- Nat.pow_add]
   exact Nat.le_trans (Nat.pow_le_pow_right (by omega) (by omega)) h1
 ·rw [Nat.div_lt_iff_lt_mul (Nat.two_pow_pos _),<- Nat.pow_add]
  exact Nat.lt_of_lt_of_le h2 (Nat.pow_le_pow_right (by omega) (by omega))
theorem mag_floorRung(n:Nat):mag (floorRung n)=n / 2^over n*2^over n:=by
 unfold floorRung;have h:=over_spec n
 exact mag_form _ _ h.1 (by omega)
theorem mag_floorRung_le(n:Nat):mag (floorRung n)<=n:=by
 rw [mag_floorRung];exact Nat.div_mul_le_self _ _
theorem lt_mag_floorRung_succ(n:Nat):n<mag (floorRung n+1):=by
 unfold floorRung;have h:=over_spec n;rw [Nat.add_assoc,mag_form _ _ (by omega) (by omega)];have h1:=Nat.lt_div_mul_add (a:=n) (Nat.two_pow_pos (over n));rw [Nat.add_mul]
 omega
theorem le_floorRung{r n:Nat}:r<=floorRung n↔mag r<=n:=by
 constructor
 ·intro h;exact Nat.le_trans (mag_le_iff.2 h) (mag_floorRung_le n)
 ·intro h;have:=Nat.lt_of_le_of_lt h (lt_mag_floorRung_succ n);have:=mag_lt_iff.1 this
  omega
def bump(n k:Nat):Bool:=decide (2^k<2*(n % 2^k)) || (2^k == 2*(n % 2^k) && n / 2^k % 2 == 1)
def nearRung(n d:Nat):Nat:=floorRung (n / 2^d)+(bump n (d+over (n / 2^d))).toNat
theorem bump_rest{n k:Nat}(h:bump n k=true):n / 2^k*2^k<n:=by
 have h0:0<n % 2^k:=by
  unfold bump at h;have:=Nat.two_pow_pos k
  simp at h
  omega
 have h1:=Nat.div_add_mod n (2^k);rw [Nat.mul_comm] at h1
 omega
theorem div_div_pow(n d k:Nat):n / 2^d / 2^k=n / 2^(d+k):=by
 rw [Nat.div_div_eq_div_mul,Nat.pow_add]
theorem le_nearRung{r n d:Nat}(h:mag r*2^d<=n):r<=nearRung n d:=by
 have:mag r<=n / 2^d:=(Nat.le_div_iff_mul_le (Nat.two_pow_pos _)).2 h;have:=le_floorRung.2 this;unfold nearRung;omega
theorem nearRung_le{r n d:Nat}(h:n<=mag r*2^d):nearRung n d<=r:=by
 unfold nearRung
 cases hb:bump n (d+over (n / 2^d))
 ·simp
  refine mag_le_iff.1 (Nat.le_trans (mag_floorRung_le _) ?_)
  exact Nat.le_trans (Nat.div_le_div_right h) (by rw [Nat.mul_div_cancel _ (Nat.two_pow_pos _)];exact Nat.le_refl _)
 ·have h1:=bump_rest hb;rw [<- div_div_pow,Nat.add_comm d,Nat.pow_add,<- Nat.mul_assoc,<- mag_floorRung] at h1;have h2:=Nat.lt_of_mul_lt_mul_right (Nat.lt_of_lt_of_le h1 h);have:=mag_lt_iff.1 h2
  simp;omega
theorem nearRung_mag(r d:Nat):nearRung (mag r*2^d) d=r:=
 Nat.le_antisymm (nearRung_le (Nat.le_refl _)) (le_nearRung (Nat.le_refl _))
end
section
open Ieee
def M:Nat:=2047*2^52
theorem infRung_eq:double.infRung=M:=by decide
theorem leastPlace_eq:double.leastPlace=-1074:=by decide
theorem binade_eq:double.binade=2^52:=by decide
theorem signWeight_eq:double.signWeight=2^63:=by decide
theorem log2_div_pow(n d:Nat):(n / 2^d).log2=n.log2 - d:=by
 by_cases h:n / 2^d=0
 ·rw [h]
  have h1:n<2^d:=by
   rcases Nat.div_eq_zero_iff.1 h with h | h
   ·have:=Nat.two_pow_pos d;omega
   ·exact h
  by_cases h0:n=0
  ·subst h0;simp
  ·have:=(Nat.log2_lt h0).2 h1
   simp;omega
 ·have hn:n≠0:=by rintro rfl;simp at h
  have h1:=Nat.log2_self_le hn;have h2:n<2^(n.log2+1):=Nat.lt_log2_self
  have hd:d<=n.log2:=by
   rcases Nat.lt_or_ge n.log2 d with h3 | h3
   ·exact absurd (Nat.div_eq_of_lt (Nat.lt_of_lt_of_le h2 (Nat.pow_le_pow_right (by omega) (by omega)))) h
   ·exact h3
  rw [Nat.log2_eq_iff h]
  constructor
  ·rw [Nat.le_div_iff_mul_le (Nat.two_pow_pos _),<- Nat.pow_add,Nat.sub_add_cancel hd];exact h1
  ·rw [Nat.div_lt_iff_lt_mul (Nat.two_pow_pos _),<- Nat.pow_add]
   exact Nat.lt_of_lt_of_le h2 (Nat.pow_le_pow_right (by omega) (by omega))
theorem cut_even(neg:Bool)(n k:Nat):Toward.even.cut neg n k=n / 2^k+(bump n k).toNat:=by
 unfold Toward.cut bump
 simp only [Nat.shiftLeft_eq,Nat.one_mul]
 rcases Nat.lt_or_ge (n.log2+2) k with h | h
 ·rw [Nat.min_eq_right (by omega)];have h2:n<2^(n.log2+1):=Nat.lt_log2_self;have h3:2^(n.log2+2)<=2^k:=Nat.pow_le_pow_right (by omega) (by omega)
  have h4:2^(n.log2+2)=2*2^(n.log2+1):=by rw [Nat.pow_succ];omega
  rw [Nat.div_eq_of_lt (by omega),Nat.div_eq_of_lt (show n<2^k by omega),Nat.mod_eq_of_lt (by omega),Nat.mod_eq_of_lt (show n<2^k by omega)];have a1:decide (2^(n.log2+2)<2*n)=false:=decide_eq_false (by omega);have a2:decide (2^k<2*n)=false:=decide_eq_false (by omega);rw [a1,a2];simp
 ·rw [Nat.min_eq_left h]
theorem bump_zero(k:Nat):bump 0 k=false:=by
 unfold bump;have:=Nat.two_pow_pos k
 simp
theorem nearest_low(neg:Bool)(n d:Nat):double.nearest neg n (-1074 - (d:Int))=double.word neg (min (nearRung n d) M):=by
 unfold Format.nearest
 by_cases h0:n=0
 ·subst h0;rw [if_pos rfl];unfold nearRung;rw [bump_zero,Nat.zero_div]
  rfl
 rw [if_neg h0]
 have ho:over (n / 2^d)=n.log2 - d - 52:=by unfold over;rw [log2_div_pow]
 have hl:max (-1074 - (d:Int)+(n.log2:Int) - (double.fractionBits:Int)) double.leastPlace=-1074+(over (n / 2^d):Int):=by
  rw [ho,leastPlace_eq]
  show max (-1074 - (d:Int)+(n.log2:Int) - 52) (-1074)=_
  omega
 dsimp only
 rw [hl,leastPlace_eq,binade_eq,infRung_eq]
 have e1:(-1074 - (d:Int) - (-1074+(over (n / 2^d):Int))).toNat=0:=by omega
 have e2:(-1074+(over (n / 2^d):Int) - (-1074 - (d:Int))).toNat=d+over (n / 2^d):=by omega
 have e3:(-1074+(over (n / 2^d):Int) - -1074).toNat=over (n / 2^d):=by omega
 rw [e1,e2,e3,Nat.shiftLeft_zero,cut_even];unfold nearRung floorRung;rw [div_div_pow,Nat.add_assoc]
theorem nearest_units(neg:Bool)(n:Nat):double.nearest neg n (-1074)=double.word neg (min (nearRung n 0) M):=by
 have:=nearest_low neg n 0
 simpa using this
theorem nearest_shift(neg:Bool)(n k:Nat)(place:Int):double.nearest neg n (place+(k:Int))=double.nearest neg (n*2^k) place:=by
 by_cases h0:n=0
 ·subst h0;simp [Format.nearest]
 have hk:n*2^k≠0:=Nat.mul_ne_zero h0 (by have:=Nat.two_pow_pos k;omega)
 have hlog:(n*2^k).log2=n.log2+k:=by
  rw [Nat.log2_eq_iff hk];have h1:=Nat.log2_self_le h0;have h2:n<2^(n.log2+1):=Nat.lt_log2_self
  constructor
  ·rw [Nat.pow_add];exact Nat.mul_le_mul_right _ h1
  ·rw [show n.log2+k+1=n.log2+1+k from by omega,Nat.pow_add 2 (n.log2+1)];exact Nat.mul_lt_mul_of_pos_right h2 (Nat.two_pow_pos k)
 unfold Format.nearest;rw [if_neg h0,if_neg hk,hlog]
 dsimp only
 rw [show (place+((n.log2+k:Nat):Int) - (double.fractionBits:Int))=place+(k:Int)+(n.log2:Int) - (double.fractionBits:Int) from by omega];generalize max (place+(k:Int)+(n.log2:Int) - (double.fractionBits:Int)) double.leastPlace=last
 congr 3
 rw [cut_even,cut_even,Nat.shiftLeft_eq,Nat.shiftLeft_eq]
 rcases Int.le_total last place with h | h
 ·-- both are whole
  rw [show (place+(k:Int) - last).toNat=k+(place - last).toNat from by omega,show (last - (place+(k:Int))).toNat=0 from by omega,show (last - place).toNat=0 from by omega,Nat.pow_add,Nat.mul_assoc]
 ·obtain⟨d,hd⟩:∃ d:Nat,last=place+d:=⟨(last - place).toNat,by omega⟩
  subst hd
  rcases Nat.le_total d k with hdk | hdk
  ·obtain⟨a,rfl⟩:∃ a,k=a+d:=⟨k - d,by omega⟩
   rw [show (place+((a+d:Nat):Int) - (place+(d:Int))).toNat=a from by omega,show (place+(d:Int) - (place+((a+d:Nat):Int))).toNat=0 from by omega,show (place - (place+(d:Int))).toNat=0 from by omega,show (place+(d:Int) - place).toNat=d from by omega];rw [Nat.pow_add 2 a d,<- Nat.mul_assoc];generalize n*2^a=m;have:=Nat.two_pow_pos d
   have b1:bump m 0=false:=by unfold bump;simp [Nat.mod_one]
   have b2:bump (m*2^d*2^0) d=false:=by
    unfold bump;rw [Nat.pow_zero,Nat.mul_one,Nat.mul_mod_left]
    simp
   rw [b1,b2]
   simp only [Nat.pow_zero,Nat.div_one,Nat.mul_one]
   rw [Nat.mul_div_cancel _ this]
  ·obtain⟨a,rfl⟩:∃ a,d=k+a:=⟨d - k,by omega⟩
   rw [show (place+(k:Int) - (place+((k+a:Nat):Int))).toNat=0 from by omega,show (place+((k+a:Nat):Int) - (place+(k:Int))).toNat=a from by omega,show (place - (place+((k+a:Nat):Int))).toNat=0 from by omega,show (place+((k+a:Nat):Int) - place).toNat=k+a from by omega];rw [Nat.pow_zero,Nat.mul_one,Nat.mul_one];have hp:=Nat.two_pow_pos k
   have e1:n*2^k / 2^(k+a)=n / 2^a:=by rw [Nat.pow_add,Nat.mul_comm n,Nat.mul_div_mul_left _ _ hp]
   have e2:n*2^k % 2^(k+a)=2^k*(n % 2^a):=by rw [Nat.pow_add,Nat.mul_comm n,Nat.mul_mod_mul_left]
   rw [e1]
   congr 2
   unfold bump;rw [e1,e2,Nat.pow_add];generalize 2^a=x;generalize n % x=y;generalize 2^k=p at hp
   have c1:decide (p*x<2*(p*y))=decide (x<2*y):=by
    rw [show 2*(p*y)=p*(2*y) from by rw [Nat.mul_left_comm]]
    simp [Nat.mul_lt_mul_left hp]
   have c2:(p*x == 2*(p*y))=(x == 2*y):=by
    rw [show 2*(p*y)=p*(2*y) from by rw [Nat.mul_left_comm]];rw [Bool.eq_iff_iff];simp [Nat.mul_right_inj (by omega:p≠0)]
   rw [c1,c2]
theorem nearest_high(neg:Bool)(n k:Nat):double.nearest neg n (-1074+(k:Int))=double.word neg (min (nearRung (n*2^k) 0) M):=by
 rw [nearest_shift,nearest_units]
end
section
open Ieee
def rungOf(b:Nat):Nat:=b % 2^63
def sgn(b:Nat):Bool:=b / 2^63 % 2 == 1
def idx(b:Nat):Int:=if sgn b then -(rungOf b:Int) else rungOf b
def val(i:Int):Int:=if i<0 then -(mag i.natAbs:Int) else mag i.natAbs
def real(b:Nat):Prop:=rungOf b<=M
def fin(b:Nat):Prop:=rungOf b<M
theorem fin.real{b:Nat}(h:fin b):real b:=Nat.le_of_lt h
theorem val_nat(r:Nat):val (r:Int)=mag r:=by
 unfold val;rw [if_neg (by omega),Int.natAbs_natCast]
theorem val_neg(i:Int):val (-i)=-val i:=by
 unfold val;rw [Int.natAbs_neg]
 rcases Int.lt_trichotomy i 0 with h | h | h
 ·rw [if_neg (by omega),if_pos h];omega
 ·subst h;rfl
 ·rw [if_pos (by omega),if_neg (by omega)]
theorem val_zero:val 0=0:=rfl
theorem val_lt_iff{i j:Int}:val i<val j↔i<j:=by
 unfold val;have h1:=@mag_lt_iff i.natAbs j.natAbs;have h2:=@mag_lt_iff j.natAbs i.natAbs;have h3:=@mag_eq_zero i.natAbs;have h4:=@mag_eq_zero j.natAbs
 split<;>split<;>omega
theorem val_le_iff{i j:Int}:val i<=val j↔i<=j:=by have:=@val_lt_iff j i;omega
theorem val_neg_iff{i:Int}:val i<0↔i<0:=by have:=@val_lt_iff i 0;rwa [val_zero] at this
theorem val_natAbs(i:Int):(val i).natAbs=mag i.natAbs:=by
 unfold val;split<;>omega
theorem idx_natAbs(b:Nat):(idx b).natAbs=rungOf b:=by unfold idx;split<;>omega
theorem val_idx(b:Nat):val (idx b)=if sgn b then -(mag (rungOf b):Int) else mag (rungOf b):=by
 unfold idx
 split
 ·rw [val_neg,val_nat]
 ·rw [val_nat]
theorem signed_eq(s:Bool)(m k:Nat):signed s m k=if s then -((m*2^k:Nat):Int) else ((m*2^k:Nat):Int):=by
 unfold signed;rw [Nat.shiftLeft_eq]
theorem read_fin{b:Nat}(h:fin b):∃ m k:Nat,double.read b=.number (sgn b) m (-1074+(k:Int))/\m*2^k=mag (rungOf b)/\(k=0\/2^52<=m)/\m<2^53:=by
 unfold fin rungOf M at h;unfold Format.read;rw [signWeight_eq,binade_eq,infRung_eq,leastPlace_eq]
 dsimp only
 unfold rungOf sgn
 by_cases h1:b % 2^63<2^52
 ·rw [if_pos h1]
  exact⟨_,0,rfl,by rw [mag_small h1,Nat.pow_zero,Nat.mul_one],.inl rfl,by omega⟩
 ·rw [if_neg h1,if_pos (show b % 2^63<M from h)];refine⟨_,b % 2^63 / 2^52 - 1,rfl,?_,.inr (by omega),by omega⟩;unfold mag;rw [if_neg h1]
theorem read_inf{b:Nat}(h:rungOf b=M):double.read b=.infinity (sgn b):=by
 unfold rungOf M at h;unfold Format.read;rw [signWeight_eq,binade_eq,infRung_eq,leastPlace_eq]
 dsimp only
 rw [if_neg (by omega),if_neg (by unfold M;omega),if_pos (show b % 2^63=M from h)]
 rfl
theorem read_nan{b:Nat}(h:M<rungOf b):double.read b=.nan (sgn b) (rungOf b - M):=by
 unfold rungOf M at h;unfold Format.read;rw [signWeight_eq,binade_eq,infRung_eq,leastPlace_eq]
 dsimp only
 rw [if_neg (by omega),if_neg (by unfold M;omega),if_neg (by unfold M;omega)]
 rfl
theorem read_val{b:Nat}{m k:Nat}(h:m*2^k=mag (rungOf b)):signed (sgn b) m k=val (idx b):=by
 rw [signed_eq,val_idx,h]
theorem signed_split(s:Bool)(m a c:Nat):signed s m (a+c)=signed s m a*2^c:=by
 rw [signed_eq,signed_eq,Nat.pow_add,<- Nat.mul_assoc]
 split
 ·rw [Int.natCast_mul,Int.neg_mul];simp
 ·rw [Int.natCast_mul];simp
theorem compare_scale(a b:Int)(k:Nat):compare (a*2^k) (b*2^k)=compare a b:=by
 have hp:(0:Int)<2^k:=by exact_mod_cast Nat.two_pow_pos k
 rcases Int.lt_trichotomy a b with h | h | h
 ·rw [Int.compare_eq_lt.2 h,Int.compare_eq_lt.2 (Int.mul_lt_mul_of_pos_right h hp)]
 ·subst h;rw [Int.compare_eq_eq.2 rfl,Int.compare_eq_eq.2 rfl]
 ·rw [Int.compare_eq_gt.2 h,Int.compare_eq_gt.2 (Int.mul_lt_mul_of_pos_right h hp)]
theorem compare_val(i j:Int):compare (val i) (val j)=compare i j:=by
 rcases Int.lt_trichotomy i j with h | h | h
 ·rw [Int.compare_eq_lt.2 h,Int.compare_eq_lt.2 (val_lt_iff.2 h)]
 ·subst h;rw [Int.compare_eq_eq.2 rfl,Int.compare_eq_eq.2 rfl]
 ·rw [Int.compare_eq_gt.2 h,Int.compare_eq_gt.2 (val_lt_iff.2 h)]
theorem order_real{x y:Nat}(hx:real x)(hy:real y):double.order x y=some (compare (idx x) (idx y)):=by
 unfold Format.order;have ax:=idx_natAbs x;have ay:=idx_natAbs y
 have sx:idx x=if sgn x then -(rungOf x:Int) else rungOf x:=rfl
 have sy:idx y=if sgn y then -(rungOf y:Int) else rungOf y:=rfl
 have hM:0<M:=by decide
 unfold real at hx hy
 rcases Nat.lt_or_ge (rungOf x) M with fx | fx<;>rcases Nat.lt_or_ge (rungOf y) M with fy | fy
 ·obtain⟨m,k,e,hm,_⟩:=read_fin fx;obtain⟨n,l,e',hn,_⟩:=read_fin fy;rw [e,e']
  simp only [Datum.order]
  congr 1
  rw [<- compare_val (idx x),<- read_val hm,<- read_val hn]
  rcases Nat.le_total k l with h | h
  ·rw [show min (-1074+(k:Int)) (-1074+(l:Int))=-1074+(k:Int) from by omega,show (-1074+(k:Int) - (-1074+(k:Int))).toNat=0 from by omega,show (-1074+(l:Int) - (-1074+(k:Int))).toNat=l - k from by omega];rw [<- compare_scale _ _ k,<- signed_split,<- signed_split,Nat.zero_add,Nat.sub_add_cancel h]
  ·rw [show min (-1074+(k:Int)) (-1074+(l:Int))=-1074+(l:Int) from by omega,show (-1074+(l:Int) - (-1074+(l:Int))).toNat=0 from by omega,show (-1074+(k:Int) - (-1074+(l:Int))).toNat=k - l from by omega];rw [<- compare_scale _ _ l,<- signed_split,<- signed_split,Nat.zero_add,Nat.sub_add_cancel h]
 ·obtain⟨m,k,e,hm,_⟩:=read_fin fx;rw [e,read_inf (by omega)]
  simp only [Datum.order]
  congr 1;symm
  cases h:sgn y
  ·simp [h] at sy ⊢;rw [Int.compare_eq_lt];omega
  ·simp [h] at sy ⊢;rw [Int.compare_eq_gt];omega
 ·obtain⟨m,k,e,hm,_⟩:=read_fin fy;rw [e,read_inf (by omega)]
  simp only [Datum.order]
  congr 1;symm
  cases h:sgn x
  ·simp [h] at sx ⊢;rw [Int.compare_eq_gt];omega
  ·simp [h] at sx ⊢;rw [Int.compare_eq_lt];omega
 ·rw [read_inf (by omega),read_inf (by omega)]
  simp only [Datum.order]
  congr 1;symm
  cases h:sgn x<;>cases h':sgn y<;>simp [h,h'] at sx sy ⊢
  ·omega
  ·rw [show compare 1 0=Ordering.gt from rfl,Int.compare_eq_gt];omega
  ·rw [show compare 0 1=Ordering.lt from rfl,Int.compare_eq_lt];omega
  ·omega
theorem order_nan_left{x:Nat}(y:Nat)(hx:M<rungOf x):double.order x y=none:=by
 unfold Format.order;rw [read_nan hx];rfl
theorem order_nan_right(x:Nat){y:Nat}(hy:M<rungOf y):double.order x y=none:=by
 unfold Format.order;rw [read_nan hy];cases double.read x<;>rfl
end
section
open Go.RowKit
def pat(i:Int):Nat:=if i<0 then 9223372036854775808+i.natAbs else i.natAbs
theorem M_val:M=9218868437227405312:=rfl
theorem pat_cases{b:Nat}(hb:b<18446744073709551616):(b<9223372036854775808/\rungOf b=b/\sgn b=false/\idx b=(b:Int))\/(9223372036854775808<=b/\rungOf b=b - 9223372036854775808/\sgn b=true/\idx b=9223372036854775808 - (b:Int)):=by
 have e:(2:Nat)^63=9223372036854775808:=rfl
 rcases Nat.lt_or_ge b 9223372036854775808 with h | h
 ·left
  have h1:rungOf b=b:=by unfold rungOf;rw [e];omega
  have h2:sgn b=false:=by unfold sgn;rw [e,show b / 9223372036854775808 % 2=0 from by omega];rfl
  refine⟨h,h1,h2,?_⟩;unfold idx;rw [h2,h1];rfl
 ·right
  have h1:rungOf b=b - 9223372036854775808:=by unfold rungOf;rw [e];omega
  have h2:sgn b=true:=by unfold sgn;rw [e,show b / 9223372036854775808 % 2=1 from by omega];rfl
  refine⟨h,h1,h2,?_⟩;unfold idx;rw [h2,h1,if_pos rfl];omega
theorem pat_lt{i:Int}(h0:-(M:Int)<=i)(h1:i<=M):pat i<18446744073709551616:=by
 rw [M_val] at *;unfold pat;split<;>omega
theorem pat_neg{i:Int}(h:i<0):pat i=9223372036854775808+i.natAbs:=if_pos h
theorem pat_nn{i:Int}(h:¬ i<0):pat i=i.natAbs:=if_neg h
theorem idx_pat{i:Int}(h0:-(M:Int)<=i)(h1:i<=M):idx (pat i)=i:=by
 have h:=pat_lt h0 h1;rw [M_val] at *;have:=pat_cases h
 by_cases hi:i<0
 ·rw [pat_neg hi] at *;omega
 ·rw [pat_nn hi] at *;omega
theorem rung_pat{i:Int}(h0:-(M:Int)<=i)(h1:i<=M):rungOf (pat i)=i.natAbs:=by
 rw [<- idx_natAbs,idx_pat h0 h1]
theorem pat_max:pat M=9218868437227405312:=by decide
theorem pat_min:pat (-(M:Int))=18442240474082181120:=by decide
theorem pat_zero:pat 0=0:=rfl
theorem idx_bounds{b:Nat}(h:rungOf b<=M):-(M:Int)<=idx b/\idx b<=M:=by
 have:=idx_natAbs b;omega
def pl(b:Nat):Nat:=if b=9223372036854775808 then 0 else if M<rungOf b then 9221120237041090561 else b
theorem pl_real{b:Nat}(hb:b<18446744073709551616)(h:rungOf b<=M):pl b=pat (idx b):=by
 have:=pat_cases hb;rw [M_val] at *;unfold pl;rw [M_val]
 split
 ·rename_i e
  have h0:idx b=0:=by omega
  rw [h0];rfl
 ·rw [if_neg (by omega)]
  by_cases hi:idx b<0
  ·rw [pat_neg hi];omega
  ·rw [pat_nn hi];omega
def snd(lo hi:Nat):Bool:=decide (rungOf lo<=M/\rungOf hi<=M/\idx lo<=idx hi/\idx lo<M/\-(M:Int)<idx hi)
def rd(lo hi:Nat):Int × Int:=if snd lo hi then (idx lo,idx hi) else ((M:Int),-(M:Int))
def Iv(i j:Int):Prop:=(-(M:Int)<=i/\i<=j/\j<=M/\i<M/\-(M:Int)<j)\/(i=M/\j=-(M:Int))
theorem Iv.lo{i j:Int}(h:Iv i j):-(M:Int)<=i/\i<=M:=by unfold Iv at h;rw [M_val] at *;omega
theorem Iv.hi{i j:Int}(h:Iv i j):-(M:Int)<=j/\j<=M:=by unfold Iv at h;rw [M_val] at *;omega
theorem Iv.none:Iv M (-(M:Int)):=.inr ⟨rfl,rfl⟩
theorem rd_iv(lo hi:Nat):Iv (rd lo hi).1 (rd lo hi).2:=by
 unfold rd
 split
 ·rename_i h;have h:=of_decide_eq_true h;obtain⟨h1,h2,h3,h4,h5⟩:=h;have:=idx_bounds h1;have:=idx_bounds h2
  exact .inl ⟨by omega,h3,by omega,h4,h5⟩
 ·exact Iv.none
theorem rd_pat{i j:Int}(h:Iv i j):rd (pat i) (pat j)=(i,j):=by
 have h1:=h.lo;have h2:=h.hi;unfold rd snd;rw [rung_pat h1.1 h1.2,rung_pat h2.1 h2.2,idx_pat h1.1 h1.2,idx_pat h2.1 h2.2];unfold Iv at h
 split
 ·rfl
 ·rename_i hh
  simp only [decide_eq_true_eq] at hh
  rcases h with h | h
  ·omega
  ·rw [h.1,h.2]
end
section
open Go.RowKit
end
section
open Go.RowKit
def fl(i:Int):Rat:=(val i:Rat)*2^(-1074:Int)
theorem rv_one(neg:Bool)(s k:Nat):rv neg s 1*2^((k:Int) - 1074)=((if neg then -((s*2^k:Nat):Int) else ((s*2^k:Nat):Int):Int):Rat)*2^(-1074:Int):=by
 rw [show ((k:Int) - 1074)=(k:Int)+(-1074) from by omega,zpow_add,zpow_nat];unfold rv;have h1:((1:Nat):Rat)=1:=rfl;have h2:∀ x:Rat,x / ((1:Nat):Rat)=x:=fun x=>div_eq (by rw [h1];decide) (by rw [h1,Rat.mul_one]);rw [h2]
 cases neg
 ·simp only [Bool.false_eq_true,if_false]
  rw [Rat.intCast_natCast,Rat.natCast_mul];grind
 ·simp only [if_true]
  rw [Rat.intCast_neg,Rat.intCast_natCast,Rat.natCast_mul];grind
theorem fl_parts{b e f:Nat}{neg:Bool}(hf:fin b)(he:b / 4503599627370496 % 2048=e)(hff:b % 4503599627370496=f)(hn:sgn b=neg):
  e<2047/\f<4503599627370496/\(0<e->fl (idx b)=rv neg (f+4503599627370496) 1*2^((e:Int) - 1 - 1074))/\(e=0->fl (idx b)=rv neg f 1*2^((e:Int) - 1074)):=by
 unfold fin rungOf M at hf
 have e1:b % 2^63 / 2^52=e:=by omega
 have e2:b % 2^63 % 2^52=f:=by omega
 refine⟨by omega,by omega,fun h=>?_,fun h=>?_⟩
 ·rw [show (e:Int) - 1 - 1074=((e - 1:Nat):Int) - 1074 from by omega,rv_one];unfold fl;have e0:(2:Nat)^52=4503599627370496:=rfl
  have e3:mag (b % 2^63)=(f+4503599627370496)*2^(e - 1):=by
   unfold mag;rw [if_neg (show ¬ b % 2^63<2^52 from by omega),e1,e2,e0,Nat.add_comm 4503599627370496 f]
  rw [val_idx,hn];unfold rungOf;rw [e3]
 ·subst h;rw [show ((0:Nat):Int) - 1074=((0:Nat):Int) - 1074 from rfl,rv_one];unfold fl;rw [val_idx,hn];unfold rungOf;rw [mag_small (by omega),show b % 2^63=f from by omega,Nat.pow_zero,Nat.mul_one]
end
section
open Go.RowKit
end
section
open Go.RowKit
theorem size_i{b:Nat}(hb:b<18446744073709551616):bits .andNot .u64 (b:Int) 9223372036854775808=((rungOf b:Nat):Int):=by
 have:=u64_andNot_nat b 9223372036854775808 hb (by omega);rw [show (18446744073709551615 - 9223372036854775808:Nat)=2^63 - 1 from rfl,Nat.and_two_pow_sub_one_eq_mod] at this
 exact this
end
section
open Go.RowKit
end
section
open Go.RowKit
end
end Go.Proofs.YthlmlmfebpjgdaaGreatDoor
