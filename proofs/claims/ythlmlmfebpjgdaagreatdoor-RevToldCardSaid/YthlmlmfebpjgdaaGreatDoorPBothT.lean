/-
Lemmas for the statement: BothT Lies TzT.
-/
import Derived.Test.YthlmlmfebpjgdaaGreatDoorM02
import Derived.Test.YthlmlmfebpjgdaaGreatDoorPGoA
import Derived.Deep.DeepCutAuto
import Derived.Deep.CutRange
import Derived.Test.YthlmlmfebpjgdaaGreatDoorM01
import Derived.Lib.TrailingZeros
set_option linter.unusedSimpArgs false
set_option linter.unusedVariables false
set_option maxHeartbeats 12800000
namespace Go.Proofs.YthlmlmfebpjgdaaGreatDoor
section
open Go.RowKit
attribute [local go_sem] run_store_float
theorem run_eqf(p q:Nat)(W:World):(Op.equalIn 9999 26 (.float .f64 p) (.float .f64 q)).run Tryz.prog W=.ok (FloatKind.f64.format.order p q == some .eq) W:=by
 rw [show (9999:Nat)=9998+1 from rfl,Op.equalIn]
 simp only [Sem.run_bind,run_underlying Tryz.underlying26,Result.andThen_ok,if_true,Sem.run_pure]
 rfl
attribute [local go_sem] run_eqf
theorem readf_idx(i j:Int)(w:World)(h:Iv i j):Rt 102 #[.agg #[.float .f64 (pat i),.float .f64 (pat j)]] (.agg #[.float .f64 (pat i),.float .f64 (pat j)]) w:=by
 have h2:=readf (pat i) (pat j) w (pat_lt h.lo.1 h.lo.2) (pat_lt h.hi.1 h.hi.2);rw [rd_pat h] at h2
 exact h2
def Em(a:Bool)(p1 p2:Nat):Prop:=(a=true->FloatKind.f64.format.order p1 9218868437227405312=some .eq/\FloatKind.f64.format.order p2 18442240474082181120=some .eq)/\(a=false->FloatKind.f64.format.order p1 9218868437227405312=some .lt)
end
section
open Go.RowKit
def Lies(w W:World)(l:List (Nat × TypeId × Array Value))(r:List (Nat × TypeId × Nat)):Prop:=
 Below w.heap.size w W/\(∀ x ∈ l,Blk W x.1 x.2.1 x.2.2)/\∀ x ∈ r,HasBlk W x.1 x.2.1 x.2.2
section
variable {w W W':World} {l l':List (Nat × TypeId × Array Value)} {r:List (Nat × TypeId × Nat)} {g n:Nat} {t:TypeId} {cs:Array Value}
theorem Lies.b(h:Lies w W l r):Below w.heap.size w W:=h.1
theorem Lies.blk(h:Lies w W l r)(i:Nat)(hi:l[i]?=some (g,t,cs)):Blk W g t cs:=h.2.1 _ (List.mem_of_getElem? hi)
theorem Lies.has(h:Lies w W l r)(i:Nat)(hi:r[i]?=some (g,t,n)):HasBlk W g t n:=h.2.2 _ (List.mem_of_getElem? hi)
theorem Lies.keep(h:Lies w W l r)(hb:Below W.heap.size W W'):Lies w W' l r:=
 ⟨h.1.trans (hb.mono h.1.size),fun x hx=>(h.2.1 x hx).keep hb,fun x hx=>(h.2.2 x hx).keep hb⟩
theorem Lies.alloc(h:Lies w W l r)(o:Obj):Lies w (W.alloc o) l r:=
 ⟨h.1.alloc h.1.size o,fun x hx=>(h.2.1 x hx).alloc o,fun x hx=>(h.2.2 x hx).alloc o⟩
theorem Lies.drew(h:Lies w W l r):Lies w W.drew l r:=⟨h.1.drew,fun x hx=>(h.2.1 x hx).drew,fun x hx=>(h.2.2 x hx).drew⟩
theorem Lies.put(h:Lies w W l r)(hb:Blk W g t cs):Lies w W (l ++ [(g,t,cs)]) r:=
 ⟨h.1,fun x hx=>by
   rcases List.mem_append.1 hx with hx | hx
   ·exact h.2.1 x hx
   ·rw [List.mem_singleton.1 hx];exact hb,h.2.2⟩
theorem Lies.new(h:Lies w W l r)(t:TypeId)(cs:Array Value):Lies w (W.alloc (.cells cs t)) (l ++ [(W.heap.size,t,cs)]) r:=(h.alloc _).put (Blk.new W t cs)
theorem Lies.loose(h:Lies w W l r)(i:Nat)(hi:l[i]?=some (g,t,cs))(hc:cs.toList.all notWd=true):Lies w W (l.eraseIdx i) ((g,t,cs.size) :: r):=
 ⟨h.1,fun x hx=>h.2.1 x (List.mem_of_mem_eraseIdx hx),fun x hx=>by
   rcases List.mem_cons.1 hx with rfl | hx
   ·exact HasBlk.of (h.blk i hi) rfl hc
   ·exact h.2.2 x hx⟩
theorem Lies.write(h:Lies w W l ((g,t,n) :: r))(vs:List Value)(hl:vs.length=n)(hg:w.heap.size<=g)(h1:∀ x ∈ l,x.1≠g)(h2:∀ x ∈ r,x.1≠g):Lies w (sets W g 0 vs) (l ++ [(g,t,vs.toArray)]) r:=
 ⟨below_sets hg vs 0 _ h.1,fun x hx=>by
   rcases List.mem_append.1 hx with hx | hx
   ·exact (h.2.1 x hx).other (h1 x hx) 0 vs
   ·rw [List.mem_singleton.1 hx];exact (h.2.2 _ (List.mem_cons_self ..)).laid vs hl,fun x hx=>(h.2.2 x (List.mem_cons_of_mem _ hx)).other (h2 x hx) 0 vs⟩
theorem Lies.part(h:Lies w W l r)(k:Nat)(hk:l[k]?=some (g,t,cs))(i:Nat)(vs:List Value)(hg:w.heap.size<=g)(h1:∀ x ∈ l.eraseIdx k,x.1≠g)(h2:∀ x ∈ r,x.1≠g):Lies w (sets W g i vs) (l.eraseIdx k ++ [(g,t,laid cs i vs)]) r:=
 ⟨below_sets hg vs i _ h.1,fun x hx=>by
   rcases List.mem_append.1 hx with hx | hx
   ·exact (h.2.1 x (List.mem_of_mem_eraseIdx hx)).other (h1 x hx) i vs
   ·rw [List.mem_singleton.1 hx];exact (h.blk k hk).sets vs i _ _,fun x hx=>(h.2.2 x hx).other (h2 x hx) i vs⟩
theorem Lies.swap{x y:Nat × TypeId × Nat}(h:Lies w W l (x :: y :: r)):Lies w W l (y :: x :: r):=⟨h.1,h.2.1,fun z hz=>h.2.2 z (by simp only [List.mem_cons] at hz ⊢;rcases hz with e | e | e;exact .inr (.inl e);exact .inl e;exact .inr (.inr e))⟩
theorem Lies.over(h:Lies w W l r)(k:Nat)(hk:r[k]?=some (g,t,n))(vs:List Value)(hl:vs.length=n)(hv:vs.all notWd=true)(hg:w.heap.size<=g)(h1:∀ x ∈ l,x.1≠g)(h2:∀ x ∈ r.eraseIdx k,x.1≠g):Lies w (sets W g 0 vs) l r:=
 ⟨below_sets hg vs 0 _ h.1,fun x hx=>(h.2.1 x hx).other (h1 x hx) 0 vs,fun x hx=>by
   obtain⟨i,hi⟩:=List.mem_iff_getElem?.1 hx
   by_cases e:i=k
   ·subst e;rw [hk] at hi;cases hi;exact (h.has i hk).sets vs hl hv
   ·exact (h.2.2 x hx).other (h2 x (by rw [List.mem_iff_getElem?];rcases Nat.lt_or_ge i k with hlt | hge
                                       ·exact⟨i,by rw [List.getElem?_eraseIdx_of_lt hlt];exact hi⟩
                                       ·exact⟨i - 1,by rw [List.getElem?_eraseIdx_of_ge (by omega),show i - 1+1=i from by omega];exact hi⟩)) 0 vs⟩
theorem Lies.far(h:Lies w W l r)(vs:List Value)(i:Nat)(hg:w.heap.size<=g)(h1:∀ x ∈ l,x.1≠g)(h2:∀ x ∈ r,x.1≠g):Lies w (sets W g i vs) l r:=
 ⟨below_sets hg vs i _ h.1,fun x hx=>(h.2.1 x hx).other (h1 x hx) i vs,fun x hx=>(h.2.2 x hx).other (h2 x hx) i vs⟩
theorem Lies.fresh(h:Lies w W l r)(t:TypeId)(cs:Array Value):∃ g,W.heap.size=g/\w.heap.size<=g/\(∀ x ∈ l,x.1<g)/\(∀ x ∈ r,x.1<g)/\Blk (W.alloc (.cells cs t)) g t cs:=
 ⟨_,rfl,h.1.size,fun x hx=>(h.2.1 x hx).lt,fun x hx=>(h.2.2 x hx).lt,Blk.new W t cs⟩
theorem Lies.tight(h:Lies w W l ((g,t,n) :: r))(hb:Blk W g t cs):Lies w W (l ++ [(g,t,cs)]) r:=
 ⟨h.1,fun x hx=>by
   rcases List.mem_append.1 hx with hx | hx
   ·exact h.2.1 x hx
   ·rw [List.mem_singleton.1 hx];exact hb,fun x hx=>h.2.2 x (List.mem_cons_of_mem _ hx)⟩
theorem Lies.same(h:Lies w W l r)(k:Nat)(hk:l[k]?=some (g,t,cs))(vs:List Value)(hv:laid cs 0 vs=cs)(hg:w.heap.size<=g)(h1:∀ x ∈ l.eraseIdx k,x.1≠g)(h2:∀ x ∈ r,x.1≠g):Lies w (sets W g 0 vs) l r:=
 ⟨below_sets hg vs 0 _ h.1,fun x hx=>by
   obtain⟨i,hi⟩:=List.mem_iff_getElem?.1 hx
   by_cases e:i=k
   ·subst e;rw [hk] at hi;cases hi;have hs:=(h.blk i hk).sets vs 0 _ _;rw [hv] at hs;exact hs
   ·exact (h.2.1 x hx).other (h1 x (by rw [List.mem_iff_getElem?];rcases Nat.lt_or_ge i k with hlt | hge
                                       ·exact⟨i,by rw [List.getElem?_eraseIdx_of_lt hlt];exact hi⟩
                                       ·exact⟨i - 1,by rw [List.getElem?_eraseIdx_of_ge (by omega),show i - 1+1=i from by omega];exact hi⟩)) 0 vs,fun x hx=>(h.2.2 x hx).other (h2 x hx) 0 vs⟩
theorem Lies.lts(h:Lies w W l r):w.heap.size<=W.heap.size/\(∀ x ∈ l,x.1<W.heap.size)/\∀ x ∈ r,x.1<W.heap.size:=⟨h.1.size,fun x hx=>(h.2.1 x hx).lt,fun x hx=>(h.2.2 x hx).lt⟩
theorem Lies.newE(h:Lies w W l r)(e:W.alloc (.cells cs t)=W'):Lies w W' (l ++ [(W.heap.size,t,cs)]) r:=e ▸ h.new t cs
theorem below_allocE{o:Obj}(e:W.alloc o=W'):Below W.heap.size W W':=e ▸ below_alloc W o
theorem Blk.newE(e:W.alloc (.cells cs t)=W'):Blk W' W.heap.size t cs:=e ▸ Blk.new W t cs
theorem Blk.setsE{i:Nat}{vs:List Value}(h:Blk W g t cs)(e:Proofs.YthlmlmfebpjgdaaGreatDoor.sets W g i vs=W'):Blk W' g t (laid cs i vs):=e ▸ h.sets vs i W cs
theorem Blk.otherE{k i:Nat}{vs:List Value}(h:Blk W g t cs)(e:Proofs.YthlmlmfebpjgdaaGreatDoor.sets W k i vs=W')(hk:g≠k):Blk W' g t cs:=e ▸ h.other hk i vs
theorem RatV.setsE{K:Nat}{neg:Bool}{vn vd:Value}{x:Rat}{i:Nat}{vs:List Value}(h:RatV W K neg vn vd x)(hb:Blk W g t cs)(hc:NoWd cs)(e:Proofs.YthlmlmfebpjgdaaGreatDoor.sets W g i vs=W'):RatV W' K neg vn vd x:=e ▸ h.sets hb hc i vs
theorem U32s.setsE{A:Option Addr}{k c:Nat}{xs:List Nat}{i:Nat}{vs:List Value}(h:U32s W A k c xs)(hb:Blk W g t cs)(hc:NoWd cs)(e:Proofs.YthlmlmfebpjgdaaGreatDoor.sets W g i vs=W'):U32s W' A k c xs:=e ▸ h.sets hb hc i vs
theorem stL(h:Hid (Lies w W l r))(hb:Below W.heap.size W W'):Hid (Lies w W' l r):=Hd (h.out.keep hb)
end
theorem nowd{cs:Array Value}(h:cs.toList.all notWd=true):NoWd cs:=NoWd.of (by rw [<- Array.all_toList];exact h)
section
variable {P:Program} {ops:Array Oper} {Q:Exit->Act->World->Prop} {md:Region.Mode} {S:World->Prop} {fuel:Nat} {listed:Array Bool} {a:Act} {w:World}
theorem rd2(i j:Nat){o o':Oper}(h:∀ K':Act->World->Prop,Shut (∀ a w,S w->(S w->wpAnyH P md ops Q S fuel (listed.setIfInBounds i true) a w)->K' a w)->if Region.wanted o (yielded ops a.tmps)=true then Oper.wp P o a w K' Q else K' (a.put o.dst undef) w)
  (h':∀ K':Act->World->Prop,Shut (∀ a w,S w->(S w->wpAnyH P md ops Q S fuel (listed.setIfInBounds j true) a w)->K' a w)->if Region.wanted o' (yielded ops a.tmps)=true then Oper.wp P o' a w K' Q else K' (a.put o'.dst undef) w)
  (hr:Region.ready md ops listed=[i,j]:=by kernel_rfl)(ho:ops[i]?=some o:=by rfl)(ho':ops[j]?=some o':=by rfl):wpAnyH P md ops Q S (fuel+1) listed a w:=
 wpAnyH_ready hr (by simp) (AllReadyH.cons ho h (AllReadyH.cons ho' h' AllReadyH.nil))
theorem rd3(i j k:Nat){o o' o2:Oper}(h:∀ K':Act->World->Prop,Shut (∀ a w,S w->(S w->wpAnyH P md ops Q S fuel (listed.setIfInBounds i true) a w)->K' a w)->if Region.wanted o (yielded ops a.tmps)=true then Oper.wp P o a w K' Q else K' (a.put o.dst undef) w)
  (h':∀ K':Act->World->Prop,Shut (∀ a w,S w->(S w->wpAnyH P md ops Q S fuel (listed.setIfInBounds j true) a w)->K' a w)->if Region.wanted o' (yielded ops a.tmps)=true then Oper.wp P o' a w K' Q else K' (a.put o'.dst undef) w)
  (h2:∀ K':Act->World->Prop,Shut (∀ a w,S w->(S w->wpAnyH P md ops Q S fuel (listed.setIfInBounds k true) a w)->K' a w)->if Region.wanted o2 (yielded ops a.tmps)=true then Oper.wp P o2 a w K' Q else K' (a.put o2.dst undef) w)
  (hr:Region.ready md ops listed=[i,j,k]:=by kernel_rfl)(ho:ops[i]?=some o:=by rfl)(ho':ops[j]?=some o':=by rfl)(ho2:ops[k]?=some o2:=by rfl):wpAnyH P md ops Q S (fuel+1) listed a w:=
 wpAnyH_ready hr (by simp) (AllReadyH.cons ho h (AllReadyH.cons ho' h' (AllReadyH.cons ho2 h2 AllReadyH.nil)))
end
theorem regL{P:Program}{ops:Array Oper}{Q:Exit->Act->World->Prop}{id:Nat}{a:Act}{w W:World}{l:List (Nat × TypeId × Array Value)}{r:List (Nat × TypeId × Nat)}(h:Hid (Lies w W l r))
  (k:Lies w W.drew l r->wpAnyH P .any ops Q (fun W'=>Lies w W' l r) ops.size (Array.replicate ops.size false) a W.drew)(hm:P.follows .mixedOrders=true:=by kernel_rfl):(Code.region id ops true).wp P Q a W:=
 wp_region_held_drew (S:=fun W'=>Lies w W' l r) hm h.out.drew k
theorem li1(w:World)(c0:Array Value)(t0:TypeId):Hid (Lies w (w.alloc (.cells c0 t0)) [(w.heap.size,t0,c0)] []):=by
 obtain⟨hb,h0⟩:=bx1 w c0 t0
 exact Hd ⟨hb.out,by simp only [List.mem_cons,List.not_mem_nil,or_false,forall_eq_or_imp,forall_eq];exact h0.out,by simp⟩
theorem li2(w:World)(c0:Array Value)(t0:TypeId)(c1:Array Value)(t1:TypeId):Hid (Lies w ((w.alloc (.cells c0 t0)).alloc (.cells c1 t1)) [(w.heap.size,t0,c0),(w.heap.size+1,t1,c1)] []):=by
 obtain⟨hb,h0,h1⟩:=bx2 w c0 t0 c1 t1
 exact Hd ⟨hb.out,by simp only [List.mem_cons,List.not_mem_nil,or_false,forall_eq_or_imp,forall_eq];exact⟨h0.out,h1.out⟩,by simp⟩
theorem li3(w:World)(c0:Array Value)(t0:TypeId)(c1:Array Value)(t1:TypeId)(c2:Array Value)(t2:TypeId):Hid (Lies w (((w.alloc (.cells c0 t0)).alloc (.cells c1 t1)).alloc (.cells c2 t2)) [(w.heap.size,t0,c0),(w.heap.size+1,t1,c1),(w.heap.size+2,t2,c2)] []):=by
 obtain⟨hb,h0,h1,h2⟩:=bx3 w c0 t0 c1 t1 c2 t2
 exact Hd ⟨hb.out,by simp only [List.mem_cons,List.not_mem_nil,or_false,forall_eq_or_imp,forall_eq];exact⟨h0.out,h1.out,h2.out⟩,by simp⟩
theorem li4(w:World)(c0:Array Value)(t0:TypeId)(c1:Array Value)(t1:TypeId)(c2:Array Value)(t2:TypeId)(c3:Array Value)(t3:TypeId):Hid (Lies w ((((w.alloc (.cells c0 t0)).alloc (.cells c1 t1)).alloc (.cells c2 t2)).alloc (.cells c3 t3)) [(w.heap.size,t0,c0),(w.heap.size+1,t1,c1),(w.heap.size+2,t2,c2),(w.heap.size+3,t3,c3)] []):=by
 obtain⟨hb,h0,h1,h2,h3⟩:=bx4 w c0 t0 c1 t1 c2 t2 c3 t3
 exact Hd ⟨hb.out,by simp only [List.mem_cons,List.not_mem_nil,or_false,forall_eq_or_imp,forall_eq];exact⟨h0.out,h1.out,h2.out,h3.out⟩,by simp⟩
theorem cs{C P Q:Prop}(c:C)(q:Q)(h:C->Q->P:=by intro hc hq;refine hc.mono ?_;rintro e wk ⟨rfl,hb⟩;go_wp2_with fail;refine hKK.out _ _ (hHeld.keep hb) (fun hH=>?_);(try simp only [Act.put,lay]);revert hH;revert hb;revert wk;exact hq):P:=h c q
section
variable {w W:World} {x y z:Nat × TypeId × Array Value} {g:Nat} {t:TypeId} {c:Array Value} {l:List (Nat × TypeId × Array Value)} {r:List (Nat × TypeId × Nat)}
theorem Lies.loose0(h:Lies w W ((g,t,c) :: l) r)(hc:c.toList.all notWd=true):Lies w W l ((g,t,c.size) :: r):=h.loose 0 rfl hc
theorem Lies.loose1(h:Lies w W (x :: (g,t,c) :: l) r)(hc:c.toList.all notWd=true):Lies w W (x :: l) ((g,t,c.size) :: r):=h.loose 1 rfl hc
theorem Lies.loose2(h:Lies w W (x :: y :: (g,t,c) :: l) r)(hc:c.toList.all notWd=true):Lies w W (x :: y :: l) ((g,t,c.size) :: r):=h.loose 2 rfl hc
theorem Lies.loose3(h:Lies w W (x :: y :: z :: (g,t,c) :: l) r)(hc:c.toList.all notWd=true):Lies w W (x :: y :: z :: l) ((g,t,c.size) :: r):=h.loose 3 rfl hc
end
end
section
open Go.RowKit
def Tab(w:World):Prop:=∀ j,j<32->w.cell? ⟨1,j,none⟩=some (.int .u8 (Lib.deBruijn32tab.getD j 0))
theorem Tab.below{w w':World}(h:Tab w)(hb:Below w.heap.size w w'):Tab w':=fun j hj=>by
 have h1:=h j hj;have h2:=h 0 (by omega)
 have hlt:1<w.heap.size:=by
  rcases Nat.lt_or_ge 1 w.heap.size with c | c
  ·exact c
  ·have e:w.heap[1]?=none:=Array.getElem?_eq_none c;unfold World.cell? at h1;rw [e] at h1
   simp at h1
 exact (hb.cell (p:=⟨1,j,none⟩) hlt).trans h1
theorem Tab.drew{w:World}(h:Tab w):Tab w.drew:=h.below (Below.refl _ _).drew
theorem and_u32_nat(a b:Nat)(ha:a<4294967296)(hb:b<4294967296):bits .and .u32 (a:Int) (b:Int)=((a &&& b:Nat):Int):=u32_and_nat a b ha hb
theorem tz_any(x:Nat)(w:World)(hx:x<4294967296)(h0:x≠0)(hT:Tab w):
  Calls Tryz.prog 277 #[.int .u32 (x:Int)] w fun e w'=>e=.returned (.int .i64 (Lib.ctz 32 x:Int))/\w=w':=by
 obtain⟨hlow,hk⟩:=Lib.lowest_bit 32 x h0 hx;obtain⟨hi,htab⟩:=Lib.deBruijn32_at _ hk;have hcell:=hT _ hi;rw [htab] at hcell
 obtain⟨k,hk2⟩:∃ k,Lib.ctz 32 x=k:=⟨_,rfl⟩
 obtain⟨idx,hidx⟩:∃ i,2 ^ Lib.ctz 32 x*125613361 % 4294967296 / 134217728=i:=⟨_,rfl⟩
 have key:bits BinOp.and IntKind.u32 (x:Int) (-(x:Int) % 4294967296)*125613361 % 4294967296 / 134217728=(idx:Int):=by
  have e1:-(x:Int) % 4294967296=((4294967296 - x:Nat):Int):=by omega
  rw [e1,and_u32_nat x _ hx (by omega),show (4294967296:Nat) - x=2^32 - x from rfl,hlow,<- hidx];generalize 2 ^ Lib.ctz 32 x=P
  omega
 rw [hidx] at hcell hi;rw [hk2] at hcell hk ⊢
 have hx0:((x:Int) == 0)=false:=by simp;omega
 clear hlow htab hT hk2 hidx h0
 go_enter Tryz.func277,Tryz.ntmps277
 go_wp2_with (simp only [key])
 go_ret
 exact⟨rfl,rfl⟩
theorem ctz_dvd(x:Nat)(h0:x≠0)(hx:x<4294967296):2 ^ Lib.ctz 32 x ∣ x/\Lib.ctz 32 x<32:=by
 refine⟨?_,(Lib.lowest_bit 32 x h0 hx).2⟩;unfold Lib.ctz;rw [if_neg h0];obtain⟨m,hm,-⟩:=Lib.ctzFrom_spec 32 x (by omega) hx
 exact⟨2*m+1,hm⟩
theorem nzeros_one(A:Option Addr)(n c x:Nat)(xs:List Nat)(w:World)(hu:U32s w A n c (x :: xs))(h0:x≠0)(hT:Tab w):
  Calls Tryz.prog 274 #[.slice A n c] w fun e w'=>e=.returned (.int .i64 (Lib.ctz 32 x:Int))/\w=w':=by
 have hx:x<4294967296:=hu.w32 x (by simp)
 have hn:n=xs.length+1:=by have:=hu.len;simp at this;omega
 obtain⟨ad,rfl,hlt,hc⟩:=hu.at_ (by omega);have c0:=hc 0 (by omega)
 simp only [List.getElem?_cons_zero,Option.getD_some] at c0
 rw [show ad.add 0=ad from by simp [Addr.add]] at c0
 have hnn:0<(n:Int):=by omega
 have hx0:((x:Int) == 0)=false:=by simp;omega
 have H:=Hd (tz_any x w hx h0 hT);have hk:=(Lib.lowest_bit 32 x h0 hx).2
 obtain⟨k,hk2⟩:∃ k,Lib.ctz 32 x=k:=⟨_,rfl⟩
 rw [hk2] at H hk ⊢;clear hc hu hT hk2 h0 hn hlt
 go_enter Tryz.func274,Tryz.ntmps274
 go_wp2_with fail;refine wp_loop_rounds 1 ?_;rw [rounds_succ];go_wp2_with fail;refine H.out.mono ?_;rintro e w' ⟨rfl,rfl⟩;go_wp2
 go_ret
 exact⟨rfl,rfl⟩
theorem nzeros_two(A:Option Addr)(n c y:Nat)(xs:List Nat)(w:World)(hu:U32s w A n c (0 :: y :: xs))(h0:y≠0)(hT:Tab w):
  Calls Tryz.prog 274 #[.slice A n c] w fun e w'=>e=.returned (.int .i64 ((32+Lib.ctz 32 y:Nat):Int))/\w=w':=by
 have hx:y<4294967296:=hu.w32 y (by simp)
 have hn:n=xs.length+2:=by have:=hu.len;simp at this;omega
 have hcap:=hu.cap;obtain⟨ad,rfl,hlt,hc⟩:=hu.at_ (by omega);have c0:=hc 0 (by omega);have c1:=hc 1 (by omega)
 simp only [List.getElem?_cons_zero,Option.getD_some] at c0
 simp only [List.getElem?_cons_succ,List.getElem?_cons_zero,Option.getD_some] at c1
 rw [show ad.add 0=ad from by simp [Addr.add]] at c0
 simp [Addr.add] at c1
 have hnn:0<(n:Int):=by omega
 have hn1:1<(n:Int):=by omega
 have hx0:((y:Int) == 0)=false:=by simp;omega
 have H:=Hd (tz_any y w hx h0 hT);have hk:=(Lib.lowest_bit 32 y h0 hx).2
 obtain⟨k,hk2⟩:∃ k,Lib.ctz 32 y=k:=⟨_,rfl⟩
 rw [hk2] at H hk ⊢;clear hc hu hT hk2 h0 hn hlt
 go_enter Tryz.func274,Tryz.ntmps274
 go_wp2_with fail;refine wp_loop_rounds 2 ?_;rw [rounds_succ];go_wp2_with fail;rw [rounds_succ];go_wp2_with fail;refine H.out.mono ?_;rintro e w' ⟨rfl,rfl⟩;go_wp2
 go_ret
 exact⟨rfl,rfl⟩
theorem nzeros_any(A:Option Addr)(n c S:Nat)(w:World)(hu:U32s w A n c (digs S))(hS:0<S)(h:S<18446744073709551616)(hT:Tab w):
  Calls Tryz.prog 274 #[.slice A n c] w fun e w'=>(∃ z:Nat,e=.returned (.int .i64 (z:Int))/\z<64/\2^z ∣ S)/\w=w':=by
 have hd:digs S=S % 4294967296 :: digs (S / 4294967296):=digs_pos (by omega)
 by_cases c0:S % 4294967296=0
 ·have hd2:digs (S / 4294967296)=S / 4294967296 % 4294967296 :: digs (S / 4294967296 / 4294967296):=digs_pos (by omega);rw [hd,hd2,c0] at hu
  have e:S / 4294967296 % 4294967296=S / 4294967296:=by omega
  rw [e] at hu;obtain⟨a,b⟩:=ctz_dvd (S / 4294967296) (by omega) (by omega)
  refine (nzeros_two A n c _ _ w hu (by omega) hT).mono fun e w' ⟨h1,h2⟩=>⟨⟨_,h1,by omega,?_⟩,h2⟩
  rw [Nat.pow_add];obtain⟨q,hq⟩:=a;refine⟨q,?_⟩;rw [Nat.mul_assoc,<- hq,show (2:Nat)^32=4294967296 by decide];omega
 ·rw [hd] at hu;obtain⟨a,b⟩:=ctz_dvd (S % 4294967296) c0 (by omega)
  refine (nzeros_one A n c _ _ w hu c0 hT).mono fun e w' ⟨h1,h2⟩=>⟨⟨_,h1,by omega,?_⟩,h2⟩
  have h3:2 ^ Lib.ctz 32 (S % 4294967296) ∣ 4294967296:=by
   rw [show (4294967296:Nat)=2^32 by decide];exact Nat.pow_dvd_pow 2 (by rw [show (2:Nat)^32=4294967296 by decide];omega)
  have h4:=Nat.dvd_add (Nat.dvd_trans h3 (Nat.dvd_mul_right 4294967296 (S / 4294967296))) a
  rwa [Nat.div_add_mod] at h4
end
end Go.Proofs.YthlmlmfebpjgdaaGreatDoor
