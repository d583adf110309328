/-
The blocks that a walk holds, in one fact; a region's steps in whatever order.
Walks: package vergeref10, power (of exponent one).
Walks: package vergeref10, against.
Walks: package vergeref10, Within of pieces whose bounds are numbers or infinities.
Sets of read intervals: the calls of vergeref6 on them.
Walks: package vergeref10, Within, whatever the bounds are: by how the ends lie to them.
Walks: package vergeref10, all.
Walks: package vergeref10, all, whatever the pieces are.
Pieces whose bounds are numbers or infinities, open or not: what Within makes of them.
Sets by their indexes: Minus; pieces that a call answers.
Walks: package vergeref10, minus (of a piece).
-/
import Derived.Test.YthlmlmfebpjgdaaGreatDoorM03
import Derived.Deep.CutRange
import Derived.Test.YthlmlmfebpjgdaaGreatDoorPGoA
import Derived.Test.YthlmlmfebpjgdaaGreatDoorM02
import Derived.Deep.DeepCutAuto
import Derived.Test.YthlmlmfebpjgdaaGreatDoorM05
import Derived.Test.YthlmlmfebpjgdaaGreatDoorM07
set_option linter.unusedSimpArgs false
set_option linter.unusedVariables false
set_option maxHeartbeats 12800000
namespace Go.Proofs.YthlmlmfebpjgdaaGreatDoor
open Go.RowKit
def Lies(w W:World)(l:List (Nat × TypeId × Array Value))(r:List (Nat × TypeId × Nat)):Prop:=
 Below w.heap.size w W∧(∀ x ∈ l,Blk W x.1 x.2.1 x.2.2)∧∀ x ∈ r,HasBlk W x.1 x.2.1 x.2.2
section
variable {w W W':World} {l l':List (Nat × TypeId × Array Value)} {r:List (Nat × TypeId × Nat)} {g n:Nat} {t:TypeId} {cs:Array Value}
theorem Lies.b(h:Lies w W l r):Below w.heap.size w W:=h.1
theorem Lies.blk(h:Lies w W l r)(i:Nat)(hi:l[i]?=some (g,t,cs)):Blk W g t cs:=h.2.1 _ (List.mem_of_getElem? hi)
theorem Lies.has(h:Lies w W l r)(i:Nat)(hi:r[i]?=some (g,t,n)):HasBlk W g t n:=h.2.2 _ (List.mem_of_getElem? hi)
theorem Lies.keep(h:Lies w W l r)(hb:Below W.heap.size W W'):Lies w W' l r:=
 ⟨h.1.trans (hb.mono h.1.size),fun x hx=>(h.2.1 x hx).keep hb,fun x hx=>(h.2.2 x hx).keep hb⟩
theorem Lies.alloc(h:Lies w W l r)(o:Obj):Lies w (W.alloc o) l r:=
 ⟨h.1.alloc h.1.size o,fun x hx=>(h.2.1 x hx).alloc o,fun x hx=>(h.2.2 x hx).alloc o⟩
theorem Lies.drew(h:Lies w W l r):Lies w W.drew l r:=⟨h.1.drew,fun x hx=>(h.2.1 x hx).drew,fun x hx=>(h.2.2 x hx).drew⟩
theorem Lies.put(h:Lies w W l r)(hb:Blk W g t cs):Lies w W (l ++ [(g,t,cs)]) r:=
 ⟨h.1,fun x hx=>by
   rcases List.mem_append.1 hx with hx | hx
   ·exact h.2.1 x hx
   ·rw [List.mem_singleton.1 hx];exact hb,h.2.2⟩
theorem Lies.new(h:Lies w W l r)(t:TypeId)(cs:Array Value):Lies w (W.alloc (.cells cs t)) (l ++ [(W.heap.size,t,cs)]) r:=(h.alloc _).put (Blk.new W t cs)
theorem Lies.loose(h:Lies w W l r)(i:Nat)(hi:l[i]?=some (g,t,cs))(hc:cs.toList.all notWd=true):Lies w W (l.eraseIdx i) ((g,t,cs.size) :: r):=
 ⟨h.1,fun x hx=>h.2.1 x (List.mem_of_mem_eraseIdx hx),fun x hx=>by
   rcases List.mem_cons.1 hx with rfl | hx
   ·exact HasBlk.of (h.blk i hi) rfl hc
   ·exact h.2.2 x hx⟩
theorem Lies.write(h:Lies w W l ((g,t,n) :: r))(vs:List Value)(hl:vs.length=n)(hg:w.heap.size≤g)(h1:∀ x ∈ l,x.1≠g)(h2:∀ x ∈ r,x.1≠g):Lies w (sets W g 0 vs) (l ++ [(g,t,vs.toArray)]) r:=
 ⟨below_sets hg vs 0 _ h.1,fun x hx=>by
   rcases List.mem_append.1 hx with hx | hx
   ·exact (h.2.1 x hx).other (h1 x hx) 0 vs
   ·rw [List.mem_singleton.1 hx];exact (h.2.2 _ (List.mem_cons_self ..)).laid vs hl,fun x hx=>(h.2.2 x (List.mem_cons_of_mem _ hx)).other (h2 x hx) 0 vs⟩
theorem Lies.part(h:Lies w W l r)(k:Nat)(hk:l[k]?=some (g,t,cs))(i:Nat)(vs:List Value)(hg:w.heap.size≤g)(h1:∀ x ∈ l.eraseIdx k,x.1≠g)(h2:∀ x ∈ r,x.1≠g):Lies w (sets W g i vs) (l.eraseIdx k ++ [(g,t,laid cs i vs)]) r:=
 ⟨below_sets hg vs i _ h.1,fun x hx=>by
   rcases List.mem_append.1 hx with hx | hx
   ·exact (h.2.1 x (List.mem_of_mem_eraseIdx hx)).other (h1 x hx) i vs
   ·rw [List.mem_singleton.1 hx];exact (h.blk k hk).sets vs i _ _,fun x hx=>(h.2.2 x hx).other (h2 x hx) i vs⟩
theorem Lies.over(h:Lies w W l r)(k:Nat)(hk:r[k]?=some (g,t,n))(vs:List Value)(hl:vs.length=n)(hv:vs.all notWd=true)(hg:w.heap.size≤g)(h1:∀ x ∈ l,x.1≠g)(h2:∀ x ∈ r.eraseIdx k,x.1≠g):Lies w (sets W g 0 vs) l r:=
 ⟨below_sets hg vs 0 _ h.1,fun x hx=>(h.2.1 x hx).other (h1 x hx) 0 vs,fun x hx=>by
   obtain⟨i,hi⟩:=List.mem_iff_getElem?.1 hx
   by_cases e:i=k
   ·subst e;rw [hk] at hi;cases hi;exact (h.has i hk).sets vs hl hv
   ·exact (h.2.2 x hx).other (h2 x (by rw [List.mem_iff_getElem?];rcases Nat.lt_or_ge i k with hlt | hge
                                       ·exact⟨i,by rw [List.getElem?_eraseIdx_of_lt hlt];exact hi⟩
                                       ·exact⟨i - 1,by rw [List.getElem?_eraseIdx_of_ge (by omega),show i - 1+1=i from by omega];exact hi⟩)) 0 vs⟩
theorem Lies.far(h:Lies w W l r)(vs:List Value)(i:Nat)(hg:w.heap.size≤g)(h1:∀ x ∈ l,x.1≠g)(h2:∀ x ∈ r,x.1≠g):Lies w (sets W g i vs) l r:=
 ⟨below_sets hg vs i _ h.1,fun x hx=>(h.2.1 x hx).other (h1 x hx) i vs,fun x hx=>(h.2.2 x hx).other (h2 x hx) i vs⟩
theorem Lies.fresh(h:Lies w W l r)(t:TypeId)(cs:Array Value):∃ g,W.heap.size=g∧w.heap.size≤g∧(∀ x ∈ l,x.1<g)∧(∀ x ∈ r,x.1<g)∧Blk (W.alloc (.cells cs t)) g t cs:=
 ⟨_,rfl,h.1.size,fun x hx=>(h.2.1 x hx).lt,fun x hx=>(h.2.2 x hx).lt,Blk.new W t cs⟩
theorem Lies.tight(h:Lies w W l ((g,t,n) :: r))(hb:Blk W g t cs):Lies w W (l ++ [(g,t,cs)]) r:=
 ⟨h.1,fun x hx=>by
   rcases List.mem_append.1 hx with hx | hx
   ·exact h.2.1 x hx
   ·rw [List.mem_singleton.1 hx];exact hb,fun x hx=>h.2.2 x (List.mem_cons_of_mem _ hx)⟩
theorem Lies.same(h:Lies w W l r)(k:Nat)(hk:l[k]?=some (g,t,cs))(vs:List Value)(hv:laid cs 0 vs=cs)(hg:w.heap.size≤g)(h1:∀ x ∈ l.eraseIdx k,x.1≠g)(h2:∀ x ∈ r,x.1≠g):Lies w (sets W g 0 vs) l r:=
 ⟨below_sets hg vs 0 _ h.1,fun x hx=>by
   obtain⟨i,hi⟩:=List.mem_iff_getElem?.1 hx
   by_cases e:i=k
   ·subst e;rw [hk] at hi;cases hi;have hs:=(h.blk i hk).sets vs 0 _ _;rw [hv] at hs;exact hs
   ·exact (h.2.1 x hx).other (h1 x (by rw [List.mem_iff_getElem?];rcases Nat.lt_or_ge i k with hlt | hge
                                       ·exact⟨i,by rw [List.getElem?_eraseIdx_of_lt hlt];exact hi⟩
                                       ·exact⟨i - 1,by rw [List.getElem?_eraseIdx_of_ge (by omega),show i - 1+1=i from by omega];exact hi⟩)) 0 vs,fun x hx=>(h.2.2 x hx).other (h2 x hx) 0 vs⟩
theorem Lies.perm{r':List (Nat × TypeId × Nat)}(h:Lies w W l r)(hl:∀ x ∈ l',x ∈ l)(hr:∀ x ∈ r',x ∈ r):Lies w W l' r':=⟨h.1,fun x hx=>h.2.1 x (hl x hx),fun x hx=>h.2.2 x (hr x hx)⟩
theorem Lies.lts(h:Lies w W l r):w.heap.size≤W.heap.size∧(∀ x ∈ l,x.1<W.heap.size)∧∀ x ∈ r,x.1<W.heap.size:=⟨h.1.size,fun x hx=>(h.2.1 x hx).lt,fun x hx=>(h.2.2 x hx).lt⟩
theorem Lies.newE(h:Lies w W l r)(e:W.alloc (.cells cs t)=W'):Lies w W' (l ++ [(W.heap.size,t,cs)]) r:=e ▸ h.new t cs
theorem below_allocE{o:Obj}(e:W.alloc o=W'):Below W.heap.size W W':=e ▸ below_alloc W o
theorem Blk.newE(e:W.alloc (.cells cs t)=W'):Blk W' W.heap.size t cs:=e ▸ Blk.new W t cs
theorem Blk.setsE{i:Nat}{vs:List Value}(h:Blk W g t cs)(e:Proofs.YthlmlmfebpjgdaaGreatDoor.sets W g i vs=W'):Blk W' g t (laid cs i vs):=e ▸ h.sets vs i W cs
theorem RatV.setsE{K:Nat}{neg:Bool}{vn vd:Value}{x:Rat}{i:Nat}{vs:List Value}(h:RatV W K neg vn vd x)(hb:Blk W g t cs)(hc:NoWd cs)(e:Proofs.YthlmlmfebpjgdaaGreatDoor.sets W g i vs=W'):RatV W' K neg vn vd x:=e ▸ h.sets hb hc i vs
theorem U32s.setsE{A:Option Addr}{k c:Nat}{xs:List Nat}{i:Nat}{vs:List Value}(h:U32s W A k c xs)(hb:Blk W g t cs)(hc:NoWd cs)(e:Proofs.YthlmlmfebpjgdaaGreatDoor.sets W g i vs=W'):U32s W' A k c xs:=e ▸ h.sets hb hc i vs
theorem stL(h:Hid (Lies w W l r))(hb:Below W.heap.size W W'):Hid (Lies w W' l r):=Hd (h.out.keep hb)
end
section
variable {P:Program} {ops:Array Oper} {Q:Exit→Act→World→Prop} {md:Region.Mode} {S:World→Prop} {fuel:Nat} {listed:Array Bool} {a:Act} {w:World}
theorem rd2(i j:Nat){o o':Oper}(h:∀ K':Act→World→Prop,Shut (∀ a w,S w→(S w→wpAnyH P md ops Q S fuel (listed.setIfInBounds i true) a w)→K' a w)→if Region.wanted o (yielded ops a.tmps)=true then Oper.wp P o a w K' Q else K' (a.put o.dst undef) w)
  (h':∀ K':Act→World→Prop,Shut (∀ a w,S w→(S w→wpAnyH P md ops Q S fuel (listed.setIfInBounds j true) a w)→K' a w)→if Region.wanted o' (yielded ops a.tmps)=true then Oper.wp P o' a w K' Q else K' (a.put o'.dst undef) w)
  (hr:Region.ready md ops listed=[i,j]:=by kernel_rfl)(ho:ops[i]?=some o:=by rfl)(ho':ops[j]?=some o':=by rfl):wpAnyH P md ops Q S (fuel+1) listed a w:=
 wpAnyH_ready hr (by simp) (AllReadyH.cons ho h (AllReadyH.cons ho' h' AllReadyH.nil))
end
theorem regL{P:Program}{ops:Array Oper}{Q:Exit→Act→World→Prop}{id:Nat}{a:Act}{w W:World}{l:List (Nat × TypeId × Array Value)}{r:List (Nat × TypeId × Nat)}(h:Hid (Lies w W l r))
  (k:Lies w W.drew l r→wpAnyH P .any ops Q (fun W'=>Lies w W' l r) ops.size (Array.replicate ops.size false) a W.drew)(hm:P.follows .mixedOrders=true:=by kernel_rfl):(Code.region id ops true).wp P Q a W:=
 wp_region_held_drew (S:=fun W'=>Lies w W' l r) hm h.out.drew k
theorem li1(w:World)(c0:Array Value)(t0:TypeId):Hid (Lies w (w.alloc (.cells c0 t0)) [(w.heap.size,t0,c0)] []):=by
 obtain⟨hb,h0⟩:=bx1 w c0 t0
 exact Hd ⟨hb.out,by simp only [List.mem_cons,List.not_mem_nil,or_false,forall_eq_or_imp,forall_eq];exact h0.out,by simp⟩
theorem li2(w:World)(c0:Array Value)(t0:TypeId)(c1:Array Value)(t1:TypeId):Hid (Lies w ((w.alloc (.cells c0 t0)).alloc (.cells c1 t1)) [(w.heap.size,t0,c0),(w.heap.size+1,t1,c1)] []):=by
 obtain⟨hb,h0,h1⟩:=bx2 w c0 t0 c1 t1
 exact Hd ⟨hb.out,by simp only [List.mem_cons,List.not_mem_nil,or_false,forall_eq_or_imp,forall_eq];exact⟨h0.out,h1.out⟩,by simp⟩
theorem li3(w:World)(c0:Array Value)(t0:TypeId)(c1:Array Value)(t1:TypeId)(c2:Array Value)(t2:TypeId):Hid (Lies w (((w.alloc (.cells c0 t0)).alloc (.cells c1 t1)).alloc (.cells c2 t2)) [(w.heap.size,t0,c0),(w.heap.size+1,t1,c1),(w.heap.size+2,t2,c2)] []):=by
 obtain⟨hb,h0,h1,h2⟩:=bx3 w c0 t0 c1 t1 c2 t2
 exact Hd ⟨hb.out,by simp only [List.mem_cons,List.not_mem_nil,or_false,forall_eq_or_imp,forall_eq];exact⟨h0.out,h1.out,h2.out⟩,by simp⟩
theorem li4(w:World)(c0:Array Value)(t0:TypeId)(c1:Array Value)(t1:TypeId)(c2:Array Value)(t2:TypeId)(c3:Array Value)(t3:TypeId):Hid (Lies w ((((w.alloc (.cells c0 t0)).alloc (.cells c1 t1)).alloc (.cells c2 t2)).alloc (.cells c3 t3)) [(w.heap.size,t0,c0),(w.heap.size+1,t1,c1),(w.heap.size+2,t2,c2),(w.heap.size+3,t3,c3)] []):=by
 obtain⟨hb,h0,h1,h2,h3⟩:=bx4 w c0 t0 c1 t1 c2 t2 c3 t3
 exact Hd ⟨hb.out,by simp only [List.mem_cons,List.not_mem_nil,or_false,forall_eq_or_imp,forall_eq];exact⟨h0.out,h1.out,h2.out,h3.out⟩,by simp⟩
theorem rsg_zero_iff{x:Rat}:rsg x=0↔x=0:=by
 unfold rsg
 constructor
 ·intro h
  split at h
  ·assumption
  ·split at h<;>cases h
 ·rintro rfl;rfl
def SameSign(r c:Int):Prop:=(r<0↔c<0)∧(0<r↔0<c)
theorem SameSign.refl(c:Int):SameSign c c:=⟨Iff.rfl,Iff.rfl⟩
def Ag(w:World)(c:Int)(e:Ending)(w':World):Prop:=∃ r:Int,e=.returned (.int .i64 r)∧SameSign r c∧Below w.heap.size w w'
theorem ec_idx{i b:Int}(h1:-(M:Int)≤i)(h2:i≤M)(h3:-(M:Int)≤b)(h4:b≤M):SameSign (ec (es i) (ex i) (es b) (ex b)) (i - b):=by
 have hM:M=9218868437227405312:=rfl
 have ei:es i=if i=M then 1 else if i=-(M:Int) then -1 else 0:=rfl
 have eb:es b=if b=M then 1 else if b=-(M:Int) then -1 else 0:=rfl
 rcases Int.lt_trichotomy (es i) (es b) with h | h | h
 ·rw [ec_lt _ _ h];rw [ei,eb] at h;unfold SameSign
  split at h<;>split at h<;>(try split at h)<;>(try split at h)<;>omega
 ·by_cases h0:es i=0
  ·have h0':es b=0:=by omega
   rw [h0,h0',ec_zero,ex_zero h0,ex_zero h0'];unfold rc SameSign
   by_cases hc:i<b
   ·rw [if_pos (fl_lt_iff.2 hc)];omega
   ·rw [if_neg (fun h=>hc (fl_lt_iff.1 h))]
    by_cases hd:b<i
    ·rw [if_pos (fl_lt_iff.2 hd)];omega
    ·rw [if_neg (fun h=>hd (fl_lt_iff.1 h))];omega
  ·rw [ec_inf _ _ h h0];rw [ei,eb] at h;rw [ei] at h0;unfold SameSign
   split at h0<;>(try split at h0)<;>split at h<;>(try split at h)<;>(try split at h)<;>(try split at h)<;>omega
 ·rw [ec_gt _ _ h];rw [ei,eb] at h;unfold SameSign
  split at h<;>split at h<;>(try split at h)<;>(try split at h)<;>omega
theorem SameSign.trans{a b c:Int}(h:SameSign a b)(h':SameSign b c):SameSign a c:=⟨h.1.trans h'.1,h.2.trans h'.2⟩
theorem Ag.trans{w w':World}{a b:Int}{e:Ending}(h:Ag w a e w')(h':SameSign a b):Ag w b e w':=by
 obtain⟨r,h1,h2,h3⟩:=h
 exact⟨r,h1,h2.trans h',h3⟩
def SetOf(w:World)(v:Value)(i j:Int):Prop:=
 (i=M∧j=-(M:Int)∧∃ s x t y g A n c B m d g' A' n' c' B' m' d',v=.agg #[.bool true,.int .i64 s,.bool g,.slice A n c,.slice B m d,.int .i64 t,.bool g',.slice A' n' c',.slice B' m' d'] ∧
   RatV w 34 g (.slice A n c) (.slice B m d) x∧RatV w 34 g' (.slice A' n' c') (.slice B' m' d') y) ∨
 ((-(M:Int)≤i∧i≤j∧j≤M∧i<M∧-(M:Int)<j)∧∃ g A n c B m d g' A' n' c' B' m' d',v=.agg #[.bool false,.int .i64 (es i),.bool g,.slice A n c,.slice B m d,.int .i64 (es j),.bool g',.slice A' n' c',.slice B' m' d'] ∧
   RatV w 34 g (.slice A n c) (.slice B m d) (ex i)∧RatV w 34 g' (.slice A' n' c') (.slice B' m' d') (ex j))
theorem SetOf.below{w w':World}{v:Value}{i j:Int}(h:SetOf w v i j)(hb:Below w.heap.size w w'):SetOf w' v i j:=by
 rcases h with ⟨h1,h2,s,x,t,y,g,A,n,c,B,m,d,g',A',n',c',B',m',d',h3,h4,h5⟩ | ⟨h1,g,A,n,c,B,m,d,g',A',n',c',B',m',d',h3,h4,h5⟩
 ·exact .inl ⟨h1,h2,s,x,t,y,g,A,n,c,B,m,d,g',A',n',c',B',m',d',h3,h4.below hb,h5.below hb⟩
 ·exact .inr ⟨h1,g,A,n,c,B,m,d,g',A',n',c',B',m',d',h3,h4.below hb,h5.below hb⟩
theorem SetOf.iv{w:World}{v:Value}{i j:Int}(h:SetOf w v i j):Iv i j:=by
 rcases h with ⟨h1,h2,-⟩ | ⟨h1,-⟩
 ·exact .inr ⟨h1,h2⟩
 ·exact .inl h1
theorem of_idx(x y:Nat)(w:World)(hx:x<18446744073709551616)(hy:y<18446744073709551616):
  Calls Tryz.prog 83 #[.agg #[.int .u64 (x:Int),.int .u64 (y:Int)]] w fun e w'=>∃ v,e=.returned v∧SetOf w' v (rd x y).1 (rd x y).2∧Below w.heap.size w w':=by
 cases h:snd x y
 ·refine (of_none x y w hx hy h).mono ?_;rintro e w' ⟨g,A,n,c,B,m,d,g',A',n',c',B',m',d',rfl,h1,h2,hb⟩;refine⟨_,rfl,.inl ?_,hb⟩;unfold rd;rw [h]
  exact⟨rfl,rfl,_,_,_,_,g,A,n,c,B,m,d,g',A',n',c',B',m',d',rfl,h1.k34,h2.k34⟩
 ·refine (of_full x y w hx hy h).mono ?_;rintro e w' ⟨g,A,n,c,B,m,d,g',A',n',c',B',m',d',rfl,h1,h2,hb⟩;refine⟨_,rfl,.inr ?_,hb⟩;have hd:=of_decide_eq_true h;have hi:=idx_bounds hd.1;have hj:=idx_bounds hd.2.1;unfold rd;rw [h]
  exact⟨⟨hi.1,hd.2.2.1,hj.2,hd.2.2.2.1,hd.2.2.2.2⟩,g,A,n,c,B,m,d,g',A',n',c',B',m',d',rfl,h1,h2⟩
def hl(i j i' j':Int):Int × Int:=if j<i then (i',j') else if j'<i' then (i,j) else (min i i',max j j')
def wg(i j c1 c2 c3 c4 a b:Int)(o1 o2:Bool):Int × Int:=if 0<c1∨(c1=0∧o2=true)∨c2<0∨(c2=0∧o1=true) then ((M:Int),-(M:Int)) else (if c3<0 then a else i,if 0<c4 then b else j)
def PcW(w:World)(o:Bool)(s1:Int)(g1:Bool)(A1:Option Addr)(n1 c1:Nat)(B1:Option Addr)(m1 d1:Nat)(N1:Int)(o1:Bool)(s2:Int)(g2:Bool)(A2:Option Addr)(n2 c2:Nat)(B2:Option Addr)(m2 d2:Nat)(N2:Int)(o2:Bool)(F:Int→Int→Int × Int):Prop:=
 (∀ i j,Iv i j→Iv (F i j).1 (F i j).2)∧∀ W i j,Below w.heap.size w W→Iv i j →
  Calls Tryz.prog 147 #[.agg #[.int .u64 (pat i:Int),.int .u64 (pat j:Int)],.agg #[.bool o,.int .i64 s1,.bool g1,.slice A1 n1 c1,.slice B1 m1 d1,.int .i64 N1,.bool o1,.int .i64 s2,.bool g2,.slice A2 n2 c2,.slice B2 m2 d2,.int .i64 N2,.bool o2]] W
   fun e w'=>e=.returned (.agg #[.int .u64 (pat (F i j).1:Int),.int .u64 (pat (F i j).2:Int)])∧Below W.heap.size W w'
def PcG(W:World)(ad:Addr)(k:Nat)(F:Int→Int→Int × Int):Prop:=
 ∃ o s1 g1 A1 n1 c1 B1 m1 d1 N1 o1 s2 g2 A2 n2 c2 B2 m2 d2 N2 o2,
  W.cell? (ad.add (k*13))=some (.bool o)∧W.cell? ⟨(ad.add (k*13)).block,(ad.add (k*13)).off+1,none⟩=some (.int .i64 s1)∧W.cell? ⟨(ad.add (k*13)).block,(ad.add (k*13)).off+2,none⟩=some (.bool g1) ∧
  W.cell? ⟨(ad.add (k*13)).block,(ad.add (k*13)).off+3,none⟩=some (.slice A1 n1 c1)∧W.cell? ⟨(ad.add (k*13)).block,(ad.add (k*13)).off+4,none⟩=some (.slice B1 m1 d1)∧W.cell? ⟨(ad.add (k*13)).block,(ad.add (k*13)).off+5,none⟩=some (.int .i64 N1) ∧
  W.cell? ⟨(ad.add (k*13)).block,(ad.add (k*13)).off+6,none⟩=some (.bool o1)∧W.cell? ⟨(ad.add (k*13)).block,(ad.add (k*13)).off+7,none⟩=some (.int .i64 s2)∧W.cell? ⟨(ad.add (k*13)).block,(ad.add (k*13)).off+8,none⟩=some (.bool g2) ∧
  W.cell? ⟨(ad.add (k*13)).block,(ad.add (k*13)).off+9,none⟩=some (.slice A2 n2 c2)∧W.cell? ⟨(ad.add (k*13)).block,(ad.add (k*13)).off+10,none⟩=some (.slice B2 m2 d2)∧W.cell? ⟨(ad.add (k*13)).block,(ad.add (k*13)).off+11,none⟩=some (.int .i64 N2) ∧
  W.cell? ⟨(ad.add (k*13)).block,(ad.add (k*13)).off+12,none⟩=some (.bool o2)∧PcW W o s1 g1 A1 n1 c1 B1 m1 d1 N1 o1 s2 g2 A2 n2 c2 B2 m2 d2 N2 o2 F
def pf(s1:Int)(x1:Rat)(o1:Bool)(s2:Int)(x2:Rat)(o2:Bool)(i j:Int):Int × Int:=
 if j<i then ((M:Int),-(M:Int)) else wg i j (ec (es i) (ex i) s2 x2) (ec (es j) (ex j) s1 x1) (ec (es i) (ex i) s1 x1) (ec (es j) (ex j) s2 x2) (rndI (-1) x1) (rndI 1 x2) o1 o2
theorem dn_le_up(s:Int)(x:Rat):dn s x≤up s x:=by
 unfold dn up
 split
 ·exact rndI_le x
 ·omega
theorem dn_lt{s:Int}{x:Rat}(h:s=0∨s=-1):-(M:Int)≤dn s x∧dn s x<M:=by
 have hM:M=9218868437227405312:=rfl
 rcases h with rfl | rfl
 ·have:=rndI_down x;rw [dn_zero];omega
 ·unfold dn;rw [if_neg (by omega)];omega
theorem up_gt{s:Int}{x:Rat}(h:s=0∨s=1):-(M:Int)<up s x∧up s x≤M:=by
 have hM:M=9218868437227405312:=rfl
 rcases h with rfl | rfl
 ·have:=rndI_up x;rw [up_zero];omega
 ·unfold up;rw [if_neg (by omega)];omega
theorem pf_iv{s1:Int}{x1:Rat}{o1:Bool}{s2:Int}{x2:Rat}{o2:Bool}(hs1:s1=0∨s1=-1)(hs2:s2=0∨s2=1)(hle:dn s1 x1≤up s2 x2)(i j:Int)(h:Iv i j):Iv (pf s1 x1 o1 s2 x2 o2 i j).1 (pf s1 x1 o1 s2 x2 o2 i j).2:=by
 rcases h with h | ⟨rfl,rfl⟩
 ·unfold pf;rw [if_neg (by omega)];unfold wg
  split
  ·exact Iv.none
  ·rename_i hn;rw [ec_lo_at (by omega) hs1,ec_hi_at (by omega) hs2];have e1:¬ dn s2 x2<i:=fun h'=>hn (.inl ((ec_hi (by omega) hs2).2 h'));have e2:¬ j<up s1 x1:=fun h'=>hn (.inr (.inr (.inl ((ec_lo (by omega) hs1).2 h'))));have e3:=dn_le_up s1 x1;have e4:=dn_le_up s2 x2;have e5:=dn_lt (x:=x1) hs1;have e6:=up_gt (x:=x2) hs2;unfold Iv
   dsimp only
   omega
 ·unfold pf;have hM:M=9218868437227405312:=rfl;rw [if_pos (by omega)];exact Iv.none
theorem PcW.below{w w0:World}{o:Bool}{s1:Int}{g1:Bool}{A1:Option Addr}{n1 c1:Nat}{B1:Option Addr}{m1 d1:Nat}{N1:Int}{o1:Bool}{s2:Int}{g2:Bool}{A2:Option Addr}{n2 c2:Nat}{B2:Option Addr}{m2 d2:Nat}{N2:Int}{o2:Bool}{F:Int→Int→Int × Int}
  (h:PcW w0 o s1 g1 A1 n1 c1 B1 m1 d1 N1 o1 s2 g2 A2 n2 c2 B2 m2 d2 N2 o2 F)(hb:Below w0.heap.size w0 w):PcW w o s1 g1 A1 n1 c1 B1 m1 d1 N1 o1 s2 g2 A2 n2 c2 B2 m2 d2 N2 o2 F:=
 ⟨h.1,fun W i j hW hij=>h.2 W i j (hb.trans (hW.mono hb.size)) hij⟩
end Go.Proofs.YthlmlmfebpjgdaaGreatDoor
