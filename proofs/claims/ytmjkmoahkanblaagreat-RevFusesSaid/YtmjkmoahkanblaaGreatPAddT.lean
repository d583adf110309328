/-
Walks: package round: odd of two; Add, Sub.
The blocks that a walk holds, in one fact; a region's steps in whatever order.
Walks: package nat, mul, Mul.
Walks: package vergeref10, bounds and pieces.
Walks: package fbit, Split of a finite float; what stands below it.
-/
import Derived.Test.YtmjkmoahkanblaaGreatM04
import Derived.Test.YtmjkmoahkanblaaGreatPMathT
import Derived.Test.YtmjkmoahkanblaaGreatPPartT
import Derived.Test.YtmjkmoahkanblaaGreatPGoA
import Derived.ScopeJumps
import Derived.Deep.CutRange
import Derived.Test.YtmjkmoahkanblaaGreatPNwT
import Derived.Test.YtmjkmoahkanblaaGreatM01
import Derived.Test.YtmjkmoahkanblaaGreatM09
import Derived.Test.YtmjkmoahkanblaaGreatM05
import Derived.Test.YtmjkmoahkanblaaGreatM03
import Derived.Laws.FloatArith
set_option linter.unusedSimpArgs false
set_option linter.unusedVariables false
set_option maxHeartbeats 12800000
namespace Go.Proofs.YtmjkmoahkanblaaGreat
open Go.RowKit
attribute [local go_sem] run_store_float run_frombits run_bitsof run_negf
theorem odd_two(g x y:Nat)(w:World)(hx:x<18446744073709551616)(hy:y<18446744073709551616)(rx:rungOf x≤M)(ry:rungOf y≤M)(c0:w.cell? ⟨g,0,none⟩=some (.float .f64 x))(c1:w.cell? ⟨g,1,none⟩=some (.float .f64 y)):
  Calls Tryz.prog 180 #[.slice (some ⟨g,0,none⟩) 2 2] w fun e w'=>e=.returned (.bool (decide (rungOf x=M) || decide (rungOf y=M)))∧w=w':=by
 have N0:=Hd (isnanf x w rx);have N1:=Hd (isnanf y w ry);have I0:=Hd (isinff x w hx rx);have I1:=Hd (isinff y w hy ry)
 obtain⟨b0,e0⟩:∃ p,decide (rungOf x=M)=p:=⟨_,rfl⟩
 obtain⟨b1,e1⟩:∃ p,decide (rungOf y=M)=p:=⟨_,rfl⟩
 rw [e0] at I0 ⊢;rw [e1] at I1 ⊢;clear e0 e1 rx ry hx hy
 go_enter Tryz.func180,Tryz.ntmps180
 go_wp2
 go_loop [4,7] (fun _ v=>∃ k:Nat,k≤2∧v=.int .i64 k∧(0<k→b0=false)∧(1<k→b1=false)) (fun _ v=>2 - (intOf v).toNat)
 case atStart=>exact⟨0,by omega,rfl,by omega,by omega⟩
 case round=>
  obtain⟨k,hk,rfl,hk0,hk1⟩:=hrel
  match k,hk with
  | 0,_=>
   clear hk0 hk1
   cases b0
   ·go_wp2_with fail;refine N0.out.mono ?_;rintro e w' ⟨rfl,rfl⟩;go_wp2_with fail;refine I0.out.mono ?_;rintro e w' ⟨rfl,rfl⟩;go_wp2
    go_round
    case rel=>exact⟨1,by omega,rfl,by simp,by omega⟩
    case measure=>simp [intOf]
   ·go_wp2_with fail;refine N0.out.mono ?_;rintro e w' ⟨rfl,rfl⟩;go_wp2_with fail;refine I0.out.mono ?_;rintro e w' ⟨rfl,rfl⟩;go_wp2
    go_ret
    exact⟨rfl,rfl⟩
  | 1,_=>
   have h0:=hk0 (by omega);subst h0;clear hk0 hk1
   cases b1
   ·go_wp2_with fail;refine N1.out.mono ?_;rintro e w' ⟨rfl,rfl⟩;go_wp2_with fail;refine I1.out.mono ?_;rintro e w' ⟨rfl,rfl⟩;go_wp2
    go_round
    case rel=>exact⟨2,by omega,rfl,by simp,by simp⟩
    case measure=>simp [intOf]
   ·go_wp2_with fail;refine N1.out.mono ?_;rintro e w' ⟨rfl,rfl⟩;go_wp2_with fail;refine I1.out.mono ?_;rintro e w' ⟨rfl,rfl⟩;go_wp2
    go_ret
    exact⟨rfl,rfl⟩
  | 2,_=>
   have h0:=hk0 (by omega);have h1:=hk1 (by omega);subst h0 h1;clear hk0 hk1;go_wp2
   go_ret
   exact⟨rfl,rfl⟩
theorem scope_once{P:Program}{a:Act}{w:World}{Q:Exit→Act→World→Prop}{c rest:Code}(l:Nat)(A:Act)(W:World)(hf:findLabel c l=some rest)
  (first:c.wp P (Exit.jump l (fun a' w'=>a'=A∧w'=W) Q) a w)
  (pass:rest.wp P (Exit.jump l (fun a' w'=>(a'=A∧w'=W)∧0<0) Q) A W):(Code.scope c).wp P Q a w:=
 wp_scope_jumps l (fun a' w'=>a'=A∧w'=W) (fun _ _=>0) hf first (by rintro a w ⟨rfl,rfl⟩;exact pass)
end Go.Proofs.YtmjkmoahkanblaaGreat
namespace Go.Proofs.YtmjkmoahkanblaaGreat
open Go.RowKit
def Lies(w W:World)(l:List (Nat × TypeId × Array Value))(r:List (Nat × TypeId × Nat)):Prop:=
 Below w.heap.size w W∧(∀ x ∈ l,Blk W x.1 x.2.1 x.2.2)∧∀ x ∈ r,HasBlk W x.1 x.2.1 x.2.2
section
variable {w W W':World} {l l':List (Nat × TypeId × Array Value)} {r:List (Nat × TypeId × Nat)} {g n:Nat} {t:TypeId} {cs:Array Value}
theorem Lies.b(h:Lies w W l r):Below w.heap.size w W:=h.1
theorem Lies.blk(h:Lies w W l r)(i:Nat)(hi:l[i]?=some (g,t,cs)):Blk W g t cs:=h.2.1 _ (List.mem_of_getElem? hi)
theorem Lies.has(h:Lies w W l r)(i:Nat)(hi:r[i]?=some (g,t,n)):HasBlk W g t n:=h.2.2 _ (List.mem_of_getElem? hi)
theorem Lies.keep(h:Lies w W l r)(hb:Below W.heap.size W W'):Lies w W' l r:=
 ⟨h.1.trans (hb.mono h.1.size),fun x hx=>(h.2.1 x hx).keep hb,fun x hx=>(h.2.2 x hx).keep hb⟩
theorem Lies.alloc(h:Lies w W l r)(o:Obj):Lies w (W.alloc o) l r:=
 ⟨h.1.alloc h.1.size o,fun x hx=>(h.2.1 x hx).alloc o,fun x hx=>(h.2.2 x hx).alloc o⟩
theorem Lies.drew(h:Lies w W l r):Lies w W.drew l r:=⟨h.1.drew,fun x hx=>(h.2.1 x hx).drew,fun x hx=>(h.2.2 x hx).drew⟩
theorem Lies.put(h:Lies w W l r)(hb:Blk W g t cs):Lies w W (l ++ [(g,t,cs)]) r:=
 ⟨h.1,fun x hx=>by
   rcases List.mem_append.1 hx with hx | hx
   ·exact h.2.1 x hx
   ·rw [List.mem_singleton.1 hx];exact hb,h.2.2⟩
theorem Lies.new(h:Lies w W l r)(t:TypeId)(cs:Array Value):Lies w (W.alloc (.cells cs t)) (l ++ [(W.heap.size,t,cs)]) r:=(h.alloc _).put (Blk.new W t cs)
theorem Lies.loose(h:Lies w W l r)(i:Nat)(hi:l[i]?=some (g,t,cs))(hc:cs.toList.all notWd=true):Lies w W (l.eraseIdx i) ((g,t,cs.size) :: r):=
 ⟨h.1,fun x hx=>h.2.1 x (List.mem_of_mem_eraseIdx hx),fun x hx=>by
   rcases List.mem_cons.1 hx with rfl | hx
   ·exact HasBlk.of (h.blk i hi) rfl hc
   ·exact h.2.2 x hx⟩
theorem Lies.write(h:Lies w W l ((g,t,n) :: r))(vs:List Value)(hl:vs.length=n)(hg:w.heap.size≤g)(h1:∀ x ∈ l,x.1≠g)(h2:∀ x ∈ r,x.1≠g):Lies w (sets W g 0 vs) (l ++ [(g,t,vs.toArray)]) r:=
 ⟨below_sets hg vs 0 _ h.1,fun x hx=>by
   rcases List.mem_append.1 hx with hx | hx
   ·exact (h.2.1 x hx).other (h1 x hx) 0 vs
   ·rw [List.mem_singleton.1 hx];exact (h.2.2 _ (List.mem_cons_self ..)).laid vs hl,fun x hx=>(h.2.2 x (List.mem_cons_of_mem _ hx)).other (h2 x hx) 0 vs⟩
theorem Lies.part(h:Lies w W l r)(k:Nat)(hk:l[k]?=some (g,t,cs))(i:Nat)(vs:List Value)(hg:w.heap.size≤g)(h1:∀ x ∈ l.eraseIdx k,x.1≠g)(h2:∀ x ∈ r,x.1≠g):Lies w (sets W g i vs) (l.eraseIdx k ++ [(g,t,laid cs i vs)]) r:=
 ⟨below_sets hg vs i _ h.1,fun x hx=>by
   rcases List.mem_append.1 hx with hx | hx
   ·exact (h.2.1 x (List.mem_of_mem_eraseIdx hx)).other (h1 x hx) i vs
   ·rw [List.mem_singleton.1 hx];exact (h.blk k hk).sets vs i _ _,fun x hx=>(h.2.2 x hx).other (h2 x hx) i vs⟩
theorem Lies.over(h:Lies w W l r)(k:Nat)(hk:r[k]?=some (g,t,n))(vs:List Value)(hl:vs.length=n)(hv:vs.all notWd=true)(hg:w.heap.size≤g)(h1:∀ x ∈ l,x.1≠g)(h2:∀ x ∈ r.eraseIdx k,x.1≠g):Lies w (sets W g 0 vs) l r:=
 ⟨below_sets hg vs 0 _ h.1,fun x hx=>(h.2.1 x hx).other (h1 x hx) 0 vs,fun x hx=>by
   obtain⟨i,hi⟩:=List.mem_iff_getElem?.1 hx
   by_cases e:i=k
   ·subst e;rw [hk] at hi;cases hi;exact (h.has i hk).sets vs hl hv
   ·exact (h.2.2 x hx).other (h2 x (by rw [List.mem_iff_getElem?];rcases Nat.lt_or_ge i k with hlt | hge
                                       ·exact⟨i,by rw [List.getElem?_eraseIdx_of_lt hlt];exact hi⟩
                                       ·exact⟨i - 1,by rw [List.getElem?_eraseIdx_of_ge (by omega),show i - 1+1=i from by omega];exact hi⟩)) 0 vs⟩
theorem Lies.far(h:Lies w W l r)(vs:List Value)(i:Nat)(hg:w.heap.size≤g)(h1:∀ x ∈ l,x.1≠g)(h2:∀ x ∈ r,x.1≠g):Lies w (sets W g i vs) l r:=
 ⟨below_sets hg vs i _ h.1,fun x hx=>(h.2.1 x hx).other (h1 x hx) i vs,fun x hx=>(h.2.2 x hx).other (h2 x hx) i vs⟩
theorem Lies.fresh(h:Lies w W l r)(t:TypeId)(cs:Array Value):∃ g,W.heap.size=g∧w.heap.size≤g∧(∀ x ∈ l,x.1<g)∧(∀ x ∈ r,x.1<g)∧Blk (W.alloc (.cells cs t)) g t cs:=
 ⟨_,rfl,h.1.size,fun x hx=>(h.2.1 x hx).lt,fun x hx=>(h.2.2 x hx).lt,Blk.new W t cs⟩
theorem Lies.perm{r':List (Nat × TypeId × Nat)}(h:Lies w W l r)(hl:∀ x ∈ l',x ∈ l)(hr:∀ x ∈ r',x ∈ r):Lies w W l' r':=⟨h.1,fun x hx=>h.2.1 x (hl x hx),fun x hx=>h.2.2 x (hr x hx)⟩
theorem Lies.lts(h:Lies w W l r):w.heap.size≤W.heap.size∧(∀ x ∈ l,x.1<W.heap.size)∧∀ x ∈ r,x.1<W.heap.size:=⟨h.1.size,fun x hx=>(h.2.1 x hx).lt,fun x hx=>(h.2.2 x hx).lt⟩
theorem Lies.newE(h:Lies w W l r)(e:W.alloc (.cells cs t)=W'):Lies w W' (l ++ [(W.heap.size,t,cs)]) r:=e ▸ h.new t cs
theorem below_allocE{o:Obj}(e:W.alloc o=W'):Below W.heap.size W W':=e ▸ below_alloc W o
theorem Blk.newE(e:W.alloc (.cells cs t)=W'):Blk W' W.heap.size t cs:=e ▸ Blk.new W t cs
theorem Blk.setsE{i:Nat}{vs:List Value}(h:Blk W g t cs)(e:Proofs.YtmjkmoahkanblaaGreat.sets W g i vs=W'):Blk W' g t (laid cs i vs):=e ▸ h.sets vs i W cs
theorem Blk.otherE{k i:Nat}{vs:List Value}(h:Blk W g t cs)(e:Proofs.YtmjkmoahkanblaaGreat.sets W k i vs=W')(hk:g≠k):Blk W' g t cs:=e ▸ h.other hk i vs
theorem RatV.setsE{K:Nat}{neg:Bool}{vn vd:Value}{x:Rat}{i:Nat}{vs:List Value}(h:RatV W K neg vn vd x)(hb:Blk W g t cs)(hc:NoWd cs)(e:Proofs.YtmjkmoahkanblaaGreat.sets W g i vs=W'):RatV W' K neg vn vd x:=e ▸ h.sets hb hc i vs
theorem U32s.setsE{A:Option Addr}{k c:Nat}{xs:List Nat}{i:Nat}{vs:List Value}(h:U32s W A k c xs)(hb:Blk W g t cs)(hc:NoWd cs)(e:Proofs.YtmjkmoahkanblaaGreat.sets W g i vs=W'):U32s W' A k c xs:=e ▸ h.sets hb hc i vs
theorem stL(h:Hid (Lies w W l r))(hb:Below W.heap.size W W'):Hid (Lies w W' l r):=Hd (h.out.keep hb)
end
theorem nowd{cs:Array Value}(h:cs.toList.all notWd=true):NoWd cs:=NoWd.of (by rw [← Array.all_toList];exact h)
section
variable {P:Program} {ops:Array Oper} {Q:Exit→Act→World→Prop} {md:Region.Mode} {S:World→Prop} {fuel:Nat} {listed:Array Bool} {a:Act} {w:World}
theorem rd2(i j:Nat){o o':Oper}(h:∀ K':Act→World→Prop,Shut (∀ a w,S w→(S w→wpAnyH P md ops Q S fuel (listed.setIfInBounds i true) a w)→K' a w)→if Region.wanted o (yielded ops a.tmps)=true then Oper.wp P o a w K' Q else K' (a.put o.dst undef) w)
  (h':∀ K':Act→World→Prop,Shut (∀ a w,S w→(S w→wpAnyH P md ops Q S fuel (listed.setIfInBounds j true) a w)→K' a w)→if Region.wanted o' (yielded ops a.tmps)=true then Oper.wp P o' a w K' Q else K' (a.put o'.dst undef) w)
  (hr:Region.ready md ops listed=[i,j]:=by kernel_rfl)(ho:ops[i]?=some o:=by rfl)(ho':ops[j]?=some o':=by rfl):wpAnyH P md ops Q S (fuel+1) listed a w:=
 wpAnyH_ready hr (by simp) (AllReadyH.cons ho h (AllReadyH.cons ho' h' AllReadyH.nil))
theorem rd3(i j k:Nat){o o' o2:Oper}(h:∀ K':Act→World→Prop,Shut (∀ a w,S w→(S w→wpAnyH P md ops Q S fuel (listed.setIfInBounds i true) a w)→K' a w)→if Region.wanted o (yielded ops a.tmps)=true then Oper.wp P o a w K' Q else K' (a.put o.dst undef) w)
  (h':∀ K':Act→World→Prop,Shut (∀ a w,S w→(S w→wpAnyH P md ops Q S fuel (listed.setIfInBounds j true) a w)→K' a w)→if Region.wanted o' (yielded ops a.tmps)=true then Oper.wp P o' a w K' Q else K' (a.put o'.dst undef) w)
  (h2:∀ K':Act→World→Prop,Shut (∀ a w,S w→(S w→wpAnyH P md ops Q S fuel (listed.setIfInBounds k true) a w)→K' a w)→if Region.wanted o2 (yielded ops a.tmps)=true then Oper.wp P o2 a w K' Q else K' (a.put o2.dst undef) w)
  (hr:Region.ready md ops listed=[i,j,k]:=by kernel_rfl)(ho:ops[i]?=some o:=by rfl)(ho':ops[j]?=some o':=by rfl)(ho2:ops[k]?=some o2:=by rfl):wpAnyH P md ops Q S (fuel+1) listed a w:=
 wpAnyH_ready hr (by simp) (AllReadyH.cons ho h (AllReadyH.cons ho' h' (AllReadyH.cons ho2 h2 AllReadyH.nil)))
end
theorem regL{P:Program}{ops:Array Oper}{Q:Exit→Act→World→Prop}{id:Nat}{a:Act}{w W:World}{l:List (Nat × TypeId × Array Value)}{r:List (Nat × TypeId × Nat)}(h:Hid (Lies w W l r))
  (k:Lies w W.drew l r→wpAnyH P .any ops Q (fun W'=>Lies w W' l r) ops.size (Array.replicate ops.size false) a W.drew)(hm:P.follows .mixedOrders=true:=by kernel_rfl):(Code.region id ops true).wp P Q a W:=
 wp_region_held_drew (S:=fun W'=>Lies w W' l r) hm h.out.drew k
theorem li1(w:World)(c0:Array Value)(t0:TypeId):Hid (Lies w (w.alloc (.cells c0 t0)) [(w.heap.size,t0,c0)] []):=by
 obtain⟨hb,h0⟩:=bx1 w c0 t0
 exact Hd ⟨hb.out,by simp only [List.mem_cons,List.not_mem_nil,or_false,forall_eq_or_imp,forall_eq];exact h0.out,by simp⟩
theorem li3(w:World)(c0:Array Value)(t0:TypeId)(c1:Array Value)(t1:TypeId)(c2:Array Value)(t2:TypeId):Hid (Lies w (((w.alloc (.cells c0 t0)).alloc (.cells c1 t1)).alloc (.cells c2 t2)) [(w.heap.size,t0,c0),(w.heap.size+1,t1,c1),(w.heap.size+2,t2,c2)] []):=by
 obtain⟨hb,h0,h1,h2⟩:=bx3 w c0 t0 c1 t1 c2 t2
 exact Hd ⟨hb.out,by simp only [List.mem_cons,List.not_mem_nil,or_false,forall_eq_or_imp,forall_eq];exact⟨h0.out,h1.out,h2.out⟩,by simp⟩
theorem li5(w:World)(c0:Array Value)(t0:TypeId)(c1:Array Value)(t1:TypeId)(c2:Array Value)(t2:TypeId)(c3:Array Value)(t3:TypeId)(c4:Array Value)(t4:TypeId):Hid (Lies w (((((w.alloc (.cells c0 t0)).alloc (.cells c1 t1)).alloc (.cells c2 t2)).alloc (.cells c3 t3)).alloc (.cells c4 t4)) [(w.heap.size,t0,c0),(w.heap.size+1,t1,c1),(w.heap.size+2,t2,c2),(w.heap.size+3,t3,c3),(w.heap.size+4,t4,c4)] []):=by
 obtain⟨hb,h0,h1,h2,h3,h4⟩:=bx5 w c0 t0 c1 t1 c2 t2 c3 t3 c4 t4
 exact Hd ⟨hb.out,by simp only [List.mem_cons,List.not_mem_nil,or_false,forall_eq_or_imp,forall_eq];exact⟨h0.out,h1.out,h2.out,h3.out,h4.out⟩,by simp⟩
theorem nmul_in(A B:Option Addr)(p c q d:Nat)(xs ys:List Nat)(w:World)(hx:U32s w A p c xs)(hy:U32s w B q d ys)(hs1:p≤8589934592)(hs2:q≤8589934592):
  Calls Tryz.prog 251 #[.slice A p c,.slice B q d] w fun e w'=>∃ (D:Option Addr) (n' c':Nat) (ls:List Nat),e=.returned (.slice D n' c')∧U32s w' D n' c' ls∧num ls=num xs*num ys∧n'=p+q∧Below w.heap.size w w':=by
 have HX:=Hd hx;have HY:=Hd hy;have l1:=wlen_le xs;have l2:=wlen_le ys;rw [hx.len] at l1;rw [hy.len] at l2;have HP:=Hd l1;have HQ:=Hd l2;clear hx hy l1 l2;have hmk:=fun W=>make_u32 (N:=(p:Int)+(q:Int)) (n:=p+q) (by omega) (by omega) W
 go_enter Tryz.func251,Tryz.ntmps251
 go_wp2
 go_loopw [6,7,20] (fun _ _ jv wr=>∃ (j:Nat) (ls:List Nat),jv=.int .i64 j∧j≤q∧TimesOut xs ys ls p q j∧Arr wr w.heap.size ls∧Below w.heap.size w wr) (fun _ _ jv _=>q - (intOf jv).toNat)
 case atStart=>exact⟨0,_,rfl,Nat.zero_le _,TimesOut.start _ _ _ _,Arr.zeros _ _,below_alloc _ _⟩
 case round=>
  obtain⟨j,ls,rfl,hj,hinv,harr,hb⟩:=hrel;have HI:=Hd hinv;have HA:=Hd harr;clear hinv harr hmk;have hbs:=hb.size
  by_cases hlt:j<q
  ·obtain⟨ad',e,hc'⟩:=(HY.out.below hb).cell (j:=j) (by omega)
   cases e
   have hy1:=HY.out.lt j
   by_cases hy0:ys[j]?.getD 0=0
   ·rw [hy0] at hc';have HZ:=Hd hy0;clear hy0;go_wp2
    go_roundw
    case rel=>exact⟨j+1,ls,by go_num,hlt,HI.out.skip HZ.out,HA.out,hb⟩
    case measure=>simp [intOf];omega
   ·obtain⟨y,hy⟩:∃ y,ys[j]?.getD 0=y:=⟨_,rfl⟩
    rw [hy] at hc' hy1 hy0;have HYY:=Hd hy
    have hy2:((y:Int) == 0)=false:=by simp;omega
    clear hy hy0
    obtain⟨wo,rfl⟩:∃ wo:World,wo=wr:=⟨_,rfl⟩
    have b0:(0:Int)≤(j:Int):=by omega
    have b1:(j:Int)≤(j:Int)+(p:Int)+1:=by omega
    have b2:(j:Int)+(p:Int)+1≤((p+q:Nat):Int):=by omega
    go_wp2
    go_loopw [8,10,11,37] (fun cv _ _ iv wr=>∃ (i k:Nat) (ls':List Nat),iv=.int .i64 i∧cv=.int .u64 k∧i≤p∧TimesIn xs ls' ls p q j i y k∧Arr wr w.heap.size ls'∧Below w.heap.size w wr) (fun _ _ _ iv _=>p - (intOf iv).toNat)
    case atStart=>exact⟨0,0,ls,rfl,rfl,Nat.zero_le _,TimesIn.start y HI.out,HA.out,hb⟩
    case round=>
     clear hb hbs HA hc';obtain⟨i,k,ls',rfl,rfl,hi,hin,harr,hb⟩:=hrel;have hk:=hin.2.2.2.1;have HIN:=Hd hin;have HA:=Hd harr;clear hin harr
     by_cases hlt2:i<p
     ·obtain⟨ad,e,hc⟩:=(HX.out.below hb).cell (j:=i) (by omega)
      cases e
      have hx1:=HX.out.lt i;have hc2:=HA.out.cell (j:=i+j) (by rw [HIN.out.2.1];omega);have hf2:=HA.out.frozen (i+j);have hl1:ls'[i+j]?.getD 0<4294967296:=HIN.out.1.get (i+j)
      obtain⟨x,hx⟩:∃ x,xs[i]?.getD 0=x:=⟨_,rfl⟩
      obtain⟨l,hl⟩:∃ l,ls'[i+j]?.getD 0=l:=⟨_,rfl⟩
      rw [hx] at hc hx1;rw [hl] at hc2 hl1;rw [Nat.add_comm i j] at hc2 hf2;have HXX:=Hd hx;have HLL:=Hd hl;clear hx hl;have hz1:x*y≤4294967295*4294967295:=Nat.mul_le_mul (by omega) (by omega)
      obtain⟨z,hz⟩:∃ z,x*y=z:=⟨_,rfl⟩
      rw [hz] at hz1
      have e1:(x:Int)*(y:Int)=(z:Int):=by rw [← hz];simp
      have HZ:=Hd hz;clear hz
      have b3:(i:Int)<((p+1:Nat):Int):=by omega
      go_wp2
      go_roundw
      case rel=>
       refine⟨i+1,(k+l+z) / 4294967296,ls'.set (i+j) ((k+l+z) % 4294967296),by go_num,?_,by omega,?_,?_,hb.setCell (Nat.le_refl _) _⟩
       ·rw [show (k:Int)+((z:Int)+(l:Int))=((k+l+z:Nat):Int) from by omega];go_num
       ·exact HIN.out.step hlt2 hlt HX.out.w32 hy1 (by rw [HXX.out,HLL.out,HZ.out])
       ·have:=HA.out.set (i+j) ((k+l+z) % 4294967296);rw [show ((k:Int)+((z:Int)+(l:Int))) % 4294967296=(((k+l+z) % 4294967296:Nat):Int) from by omega,Nat.add_comm j i]
        exact this
      case measure=>simp [intOf];omega
     ·obtain rfl:i=p:=by omega
      have hc2:=HA.out.cell (j:=j+i) (by rw [HIN.out.2.1];omega);have hf2:=HA.out.frozen (j+i)
      have hk2:(k:Int) % 4294967296=(k:Int):=by omega
      have b3:(i:Int)<((i+1:Nat):Int):=by omega
      obtain⟨l,hl⟩:∃ l,ls'[j+i]?.getD 0=l:=⟨_,rfl⟩
      rw [hl] at hc2;clear hl;go_wp2
      go_roundw
      case rel=>
       exact⟨j+1,ls'.set (j+i) k,by go_num,hlt,HIN.out.done HI.out hlt HP.out HYY.out,HA.out.set _ _,hb.setCell (Nat.le_refl _) _⟩
      case measure=>simp [intOf];omega
  ·obtain rfl:j=q:=by omega
   have hnum:=HI.out.done HQ.out;have hu:=HA.out.u32s' HI.out.1 HI.out.2.1 (by omega);have HU:=Hd hu;clear hu;go_wp2
   go_ret
   exact⟨_,_,_,_,rfl,HU.out,hnum,rfl,hb⟩
theorem nmul_any(A B:Option Addr)(n c m d:Nat)(xs ys:List Nat)(w:World)(hx:U32s w A n c xs)(hy:U32s w B m d ys)(hl:wlen xs+wlen ys≤16384)(hbl:blen (num xs)+blen (num ys)≤524289):
  Calls Tryz.prog 242 #[.slice A n c,.slice B m d] w (NewU32E w (digs (num xs*num ys))):=by
 obtain⟨w1,hw1⟩:∃ w1,w.alloc (.cells #[.slice A n c,.slice B m d] 58)=w1:=⟨_,rfl⟩
 have hb1:Below w.heap.size w w1:=by rw [← hw1];exact below_alloc w _
 have hx1:=hx.below hb1;have hy1:=hy.below hb1;have hlong:=long_two w.heap.size A n c xs B m d ys w1 hx1 (by rw [← hw1];simp [World.cell?_alloc_new]) (by omega) hy1 (by rw [← hw1];simp [World.cell?_alloc_new]) (by omega);have HLG:=Hd hlong;have HL1:=Hd (nlen_any A n c xs w1 hx1);have HL2:=Hd (nlen_any B m d ys w1 hy1);have HQ1:=Hd fun W (h:U32s W A n c xs)=>nwords_any A n c xs W h;have HQ2:=Hd fun W (h:U32s W B m d ys)=>nwords_any B m d ys W h;have cc1:=hx.cap;have cc2:=hy.cap;have n1:=hx.small;have n2:=hy.small;have l1:=wlen_le xs;have l2:=wlen_le ys;rw [hx.len] at l1;rw [hy.len] at l2;have e1:=num_trim xs;have e2:=num_trim ys;rw [trim_eq_take] at e1 e2;have HX0:=hx1.take l1;have HY0:=hy1.take l2
 obtain⟨p,hp⟩:∃ p,wlen xs=p:=⟨_,rfl⟩
 obtain⟨q,hq⟩:∃ p,wlen ys=p:=⟨_,rfl⟩
 obtain⟨b1,hB1⟩:∃ p,blen (num xs)=p:=⟨_,rfl⟩
 obtain⟨b2,hB2⟩:∃ p,blen (num ys)=p:=⟨_,rfl⟩
 rw [hp] at HQ1 l1 hl e1 HX0;rw [hq] at HQ2 l2 hl e2 HY0;rw [hB1] at HL1 hbl;rw [hB2] at HL2 hbl
 obtain⟨us,hus⟩:∃ l,xs.take p=l:=⟨_,rfl⟩
 obtain⟨vs,hvs⟩:∃ l,ys.take q=l:=⟨_,rfl⟩
 rw [hus] at e1 HX0;rw [hvs] at e2 HY0;rw [← e1,← e2];have hlt1:=num_lt HX0.w32;have hlt2:=num_lt HY0.w32;rw [HX0.len] at hlt1;rw [HY0.len] at hlt2
 have HM:=Hd (show ∀ W,U32s W A p c us→U32s W B q d vs→Calls Tryz.prog 251 #[.slice A p c,.slice B q d] W fun e w'=>∃ (D:Option Addr) (n' c':Nat) (ls:List Nat),e=.returned (.slice D n' c')∧U32s w' D n' c' ls∧num ls=num us*num vs∧wlen ls≤16384∧Below W.heap.size W w' from
  fun W h1 h2=>(nmul_in A B p c q d us vs W h1 h2 (by omega) (by omega)).mono fun e w' ⟨D,n',c',ls,he,hu,hv,hn,hb⟩=>
   ⟨D,n',c',ls,he,hu,hv,Nat.le_trans (wlen_lt hu.w32 (K:=p+q) (by
    rw [hv,Nat.mul_add,Nat.pow_add]
    exact Nat.lt_of_le_of_lt (Nat.mul_le_mul_left _ (Nat.le_of_lt hlt2)) ((Nat.mul_lt_mul_right (Nat.two_pow_pos _)).2 hlt1))) hl,hb⟩)
 have HF:=Hd fun W (D:Option Addr) (n' c':Nat) (ls:List Nat) (h:U32s W D n' c' ls) (hl:wlen ls≤16384)=>fit_any D n' c' ls W h hl;have HX1:=Hd hx1;have HY1:=Hd hy1;have HU1:=Hd HX0;have HU2:=Hd HY0;have HB1:=Hd hb1;have HW1:=Hd hw1
 have pc:p≤c:=by omega
 have qd:q≤d:=by omega
 have hbi:¬ ((524289:Int)<(b1:Int)+(b2:Int)):=by omega
 clear hx hy hx1 hy1 hlong hb1 hp hq e1 e2 HX0 HY0 hus hvs hw1 hlt1 hlt2 hB1 hB2
 go_enter Tryz.func242,Tryz.ntmps242
 go_wp2_with fail;rw [HW1.out];refine HLG.out.mono ?_;rintro e w' ⟨rfl,rfl⟩;go_wp2_with fail;refine HL1.out.mono ?_;rintro e w' ⟨rfl,rfl⟩;go_wp2_with fail;refine HL2.out.mono ?_;rintro e w' ⟨rfl,rfl⟩;have LL:=Hd (show Lies w1 w1 [] [] from⟨Below.refl _ _,by simp,by simp⟩)
 go_upto_region 3 with fail
 refine regL LL (fun hHeld=>?_);clear LL;replace HX1:=Hd (HX1.out.below (Below.refl _ _).drew);replace HY1:=Hd (HY1.out.below (Below.refl _ _).drew);replace HU1:=Hd (HU1.out.below (Below.refl _ _).drew);replace HU2:=Hd (HU2.out.below (Below.refl _ _).drew);generalize World.drew _=wk at hHeld HX1 HY1 HU1 HU2 ⊢;refine tk 0 ?_;(try simp only [Act.put,lay]);refine tk 1 ?_;(try simp only [Act.put,lay]);refine tk 4 ?_;(try simp only [Act.put,lay]);refine tk 5 ?_;(try simp only [Act.put,lay]);refine rdy 2 (fun KK hKK=>?_);go_simp;refine (HQ1.out _ HX1.out).mono ?_;rintro e wk ⟨rfl,rfl⟩;go_wp2_with fail;refine hKK.out _ _ (hHeld.keep (Below.refl _ _)) (fun _=>?_);clear hKK KK hHeld;rename_i hHeld;(try simp only [Act.put,lay]);replace HX1:=Hd (HX1.out.below (Below.refl _ _));replace HY1:=Hd (HY1.out.below (Below.refl _ _));replace HU1:=Hd (HU1.out.below (Below.refl _ _));replace HU2:=Hd (HU2.out.below (Below.refl _ _));(try replace HU:=Hd (HU.out.below (Below.refl _ _)));refine tk 3 ?_;(try simp only [Act.put,lay]);refine rdy 6 (fun KK hKK=>?_);go_simp;refine (HQ2.out _ HY1.out).mono ?_;rintro e wk ⟨rfl,rfl⟩;go_wp2_with fail;refine hKK.out _ _ (hHeld.keep (Below.refl _ _)) (fun _=>?_);clear hKK KK hHeld;rename_i hHeld;(try simp only [Act.put,lay]);replace HX1:=Hd (HX1.out.below (Below.refl _ _));replace HY1:=Hd (HY1.out.below (Below.refl _ _));replace HU1:=Hd (HU1.out.below (Below.refl _ _));replace HU2:=Hd (HU2.out.below (Below.refl _ _))
 (try replace HU:=Hd (HU.out.below (Below.refl _ _)));refine tk 7 ?_;(try simp only [Act.put,lay]);refine rdy 8 (fun KK hKK=>?_);go_simp;refine (HM.out _ HU1.out HU2.out).mono ?_;rintro e wk ⟨D,n2,c2,ls,rfl,hu,hnum,hwl,hb⟩;go_wp2_with fail;refine hKK.out _ _ (hHeld.keep hb) (fun _=>?_);clear hKK KK hHeld;rename_i hHeld;(try simp only [Act.put,lay]);replace HX1:=Hd (HX1.out.below hb);replace HY1:=Hd (HY1.out.below hb);replace HU1:=Hd (HU1.out.below hb);replace HU2:=Hd (HU2.out.below hb);have HU:=Hd hu;clear hu;clear hb;refine rdy 9 (fun KK hKK=>?_);go_simp;refine (HF.out _ _ _ _ _ HU.out hwl).mono ?_;rintro e wk ⟨rfl,rfl⟩;go_wp2_with fail;refine hKK.out _ _ (hHeld.keep (Below.refl _ _)) (fun _=>?_);clear hKK KK hHeld;rename_i hHeld;(try simp only [Act.put,lay]);replace HX1:=Hd (HX1.out.below (Below.refl _ _));replace HY1:=Hd (HY1.out.below (Below.refl _ _));replace HU1:=Hd (HU1.out.below (Below.refl _ _));replace HU2:=Hd (HU2.out.below (Below.refl _ _));(try replace HU:=Hd (HU.out.below (Below.refl _ _)));refine tk 10 ?_;(try simp only [Act.put,lay]);refine tk 11 ?_;(try simp only [Act.put,lay]);refine tk 12 ?_;(try simp only [Act.put,lay]);refine tk 13 ?_;(try simp only [Act.put,lay]);refine wpAnyH_done (by kernel_rfl) ?_ _;have LL:=Hd hHeld;clear hHeld;go_wp2
 go_ret2
 have hd:=HU.out.cutd;rw [hnum] at hd
 exact⟨_,_,_,rfl,hd,HB1.out.trans (LL.out.b.mono HB1.out.size)⟩
def NewBd(w:World)(K:Nat)(s:Int)(x:Rat)(N:Int)(op:Bool)(e:Ending)(w':World):Prop:=
 ∃ neg A n c B m d,e=.returned (.agg #[.int .i64 s,.bool neg,.slice A n c,.slice B m d,.int .i64 N,.bool op])∧RatV w' K neg (.slice A n c) (.slice B m d) x∧Below w.heap.size w w'
def NewPiece(w:World)(K:Nat)(none:Bool)(s:Int)(x:Rat)(N:Int)(o:Bool)(s':Int)(x':Rat)(N':Int)(o':Bool)(e:Ending)(w':World):Prop:=
 ∃ neg A n c B m d neg' A' n' c' B' m' d',e=.returned (.agg #[.bool none,.int .i64 s,.bool neg,.slice A n c,.slice B m d,.int .i64 N,.bool o,.int .i64 s',.bool neg',.slice A' n' c',.slice B' m' d',.int .i64 N',.bool o']) ∧
  RatV w' K neg (.slice A n c) (.slice B m d) x∧RatV w' K neg' (.slice A' n' c') (.slice B' m' d') x'∧Below w.heap.size w w'
theorem whole_nat(v:Nat)(op:Bool)(w:World)(hv:v<4294967296):
  Calls Tryz.prog 115 #[.int .i64 (v:Int),.bool op] w (NewBd w 1 0 (v:Rat) 1 op):=by
 have HS:=Hd fun W=>(int_nat v W (by omega)).mono fun _ _ h=>h.s;obtain⟨LB0,LR⟩:=bx1 w #[.int .i64 0,.bool false,.slice none 0 0,.slice none 0 0,.int .i64 0,.bool false] 62;have LR0:=Hd (HasBlk.of (n:=6) LR.out rfl rfl);clear LR
 go_enter Tryz.func115,Tryz.ntmps115
 go_wp2_with fail;refine (HS.out _).mono ?_;rintro e w1 ⟨g1,A1,n1,c1,B1,m1,d1,rfl,h1,hb1⟩;have LB1:=stB LB0 hb1 LB0.out.size;have LR1:=stR LR0 hb1;clear LB0 LR0;obtain⟨ha0,hf0,ha1,hf1,ha2,hf2,ha3,hf3,ha4,hf4,ha5,hf5⟩:=LR1.out.sf6;obtain⟨hk0,hk1,hk2,hk3,hk4,hk5⟩:=LR1.out.sc6 (.int .i64 0) (.bool g1) (.slice A1 n1 c1) (.slice B1 m1 d1) (.int .i64 1) (.bool op);have F:=Hd (below_sets (w0:=w) (r:=w.heap.size) (by omega) [.int .i64 0,.bool g1,.slice A1 n1 c1,.slice B1 m1 d1,.int .i64 1,.bool op] 0 _ LB1.out)
 simp [sets] at hk0 hk1 hk2 hk3 hk4 hk5
 have FR1:=Hd (LR1.out.rat (h1) [.int .i64 0,.bool g1,.slice A1 n1 c1,.slice B1 m1 d1,.int .i64 1,.bool op]);clear hb1 h1;go_wp2;refine bodyPost_ret (v:=.agg #[.int .i64 0,.bool g1,.slice A1 n1 c1,.slice B1 m1 d1,.int .i64 1,.bool op]) (by simp [results,Tryz.results115,go_sem,hk0,hk1,hk2,hk3,hk4,hk5]) rfl ?_
 exact⟨_,_,_,_,_,_,_,rfl,FR1.out,F.out⟩
theorem far_any(s:Int)(w:World):
  Calls Tryz.prog 96 #[.int .i64 s] w (NewBd w 1 s 0 1 true):=by
 have HS:=Hd (show ∀ W,Calls Tryz.prog 149 #[.int .i64 0] W (NewRatS W 1 0) from fun W=>(int_nat 0 W (by omega)).mono fun _ _ h=>h.s);obtain⟨LB0,LR⟩:=bx1 w #[.int .i64 0,.bool false,.slice none 0 0,.slice none 0 0,.int .i64 0,.bool false] 62;have LR0:=Hd (HasBlk.of (n:=6) LR.out rfl rfl);clear LR
 go_enter Tryz.func96,Tryz.ntmps96
 go_wp2_with fail;refine (HS.out _).mono ?_;rintro e w1 ⟨g1,A1,n1,c1,B1,m1,d1,rfl,h1,hb1⟩;have LB1:=stB LB0 hb1 LB0.out.size;have LR1:=stR LR0 hb1;clear LB0 LR0;obtain⟨ha0,hf0,ha1,hf1,ha2,hf2,ha3,hf3,ha4,hf4,ha5,hf5⟩:=LR1.out.sf6;obtain⟨hk0,hk1,hk2,hk3,hk4,hk5⟩:=LR1.out.sc6 (.int .i64 s) (.bool g1) (.slice A1 n1 c1) (.slice B1 m1 d1) (.int .i64 1) (.bool true);have F:=Hd (below_sets (w0:=w) (r:=w.heap.size) (by omega) [.int .i64 s,.bool g1,.slice A1 n1 c1,.slice B1 m1 d1,.int .i64 1,.bool true] 0 _ LB1.out)
 simp [sets] at hk0 hk1 hk2 hk3 hk4 hk5
 have FR1:=Hd (LR1.out.rat (h1) [.int .i64 s,.bool g1,.slice A1 n1 c1,.slice B1 m1 d1,.int .i64 1,.bool true]);clear hb1 h1;go_wp2;refine bodyPost_ret (v:=.agg #[.int .i64 s,.bool g1,.slice A1 n1 c1,.slice B1 m1 d1,.int .i64 1,.bool true]) (by simp [results,Tryz.results96,go_sem,hk0,hk1,hk2,hk3,hk4,hk5]) rfl ?_
 exact⟨_,_,_,_,_,_,_,rfl,FR1.out,F.out⟩
theorem nothing_any(w:World):
  Calls Tryz.prog 123 #[] w (NewPiece w 1 true 0 0 1 false 0 0 1 false):=by
 have HS:=Hd (show ∀ W,Calls Tryz.prog 115 #[.int .i64 0,.bool false] W (NewBd W 1 0 0 1 false) from fun W=>whole_nat 0 false W (by omega));obtain⟨LB0,LR⟩:=bx1 w #[.bool false,.int .i64 0,.bool false,.slice none 0 0,.slice none 0 0,.int .i64 0,.bool false,.int .i64 0,.bool false,.slice none 0 0,.slice none 0 0,.int .i64 0,.bool false] 64;have LR0:=Hd (HasBlk.of (n:=13) LR.out rfl rfl);clear LR
 go_enter Tryz.func123,Tryz.ntmps123
 go_wp2_with fail;refine (HS.out _).mono ?_;rintro e w1 ⟨g1,A1,n1,c1,B1,m1,d1,rfl,h1,hb1⟩;have LB1:=stB LB0 hb1 LB0.out.size;have LR1:=stR LR0 hb1;clear LB0 LR0;go_wp2_with fail;refine (HS.out _).mono ?_;rintro e w2 ⟨g2,A2,n2,c2,B2,m2,d2,rfl,h2,hb2⟩;have LB2:=stB LB1 hb2 LB1.out.size;have LR2:=stR LR1 hb2;clear LB1 LR1;obtain⟨ha0,hf0,ha1,hf1,ha2,hf2,ha3,hf3,ha4,hf4,ha5,hf5,ha6,hf6,ha7,hf7,ha8,hf8,ha9,hf9,ha10,hf10,ha11,hf11,ha12,hf12⟩:=LR2.out.sf13;obtain⟨hk0,hk1,hk2,hk3,hk4,hk5,hk6,hk7,hk8,hk9,hk10,hk11,hk12⟩:=LR2.out.sc13 (.bool true) (.int .i64 0) (.bool g1) (.slice A1 n1 c1) (.slice B1 m1 d1) (.int .i64 1) (.bool false) (.int .i64 0) (.bool g2) (.slice A2 n2 c2) (.slice B2 m2 d2) (.int .i64 1) (.bool false);have F:=Hd (below_sets (w0:=w) (r:=w.heap.size) (by omega) [.bool true,.int .i64 0,.bool g1,.slice A1 n1 c1,.slice B1 m1 d1,.int .i64 1,.bool false,.int .i64 0,.bool g2,.slice A2 n2 c2,.slice B2 m2 d2,.int .i64 1,.bool false] 0 _ LB2.out)
 simp [sets] at hk0 hk1 hk2 hk3 hk4 hk5 hk6 hk7 hk8 hk9 hk10 hk11 hk12
 have FR1:=Hd (LR2.out.rat (h1.below hb2) [.bool true,.int .i64 0,.bool g1,.slice A1 n1 c1,.slice B1 m1 d1,.int .i64 1,.bool false,.int .i64 0,.bool g2,.slice A2 n2 c2,.slice B2 m2 d2,.int .i64 1,.bool false]);have FR2:=Hd (LR2.out.rat (h2) [.bool true,.int .i64 0,.bool g1,.slice A1 n1 c1,.slice B1 m1 d1,.int .i64 1,.bool false,.int .i64 0,.bool g2,.slice A2 n2 c2,.slice B2 m2 d2,.int .i64 1,.bool false]);clear hb1 h1 hb2 h2;go_wp2;refine bodyPost_ret (v:=.agg #[.bool true,.int .i64 0,.bool g1,.slice A1 n1 c1,.slice B1 m1 d1,.int .i64 1,.bool false,.int .i64 0,.bool g2,.slice A2 n2 c2,.slice B2 m2 d2,.int .i64 1,.bool false]) (by simp [results,Tryz.results123,go_sem,hk0,hk1,hk2,hk3,hk4,hk5,hk6,hk7,hk8,hk9,hk10,hk11,hk12]) rfl ?_
 exact⟨_,_,_,_,_,_,_,_,_,_,_,_,_,_,rfl,FR1.out,FR2.out,F.out⟩
theorem bound_end(K:Nat)(s1:Int)(g1:Bool)(A1:Option Addr)(n1 c1:Nat)(B1:Option Addr)(m1 d1:Nat)(x1:Rat)(w:World)(h1:RatV w K g1 (.slice A1 n1 c1) (.slice B1 m1 d1) x1)(hK:1≤K)(hx:s1≠0→x1=0):
  Calls Tryz.prog 124 #[.agg #[.int .i64 s1,.bool g1,.slice A1 n1 c1,.slice B1 m1 d1]] w (NewBd w K s1 x1 1 (decide (s1≠0))):=by
 by_cases h:s1=0
 ·subst h;rw [decide_eq_false (show ¬ ((0:Int)≠0) from fun h=>h rfl)];have H1:=Hd h1;clear h1 hx;obtain⟨LB0,LG0_0,LR⟩:=bx2 w #[.int .i64 0,.bool g1,.slice A1 n1 c1,.slice B1 m1 d1] 67 #[.int .i64 0,.bool false,.slice none 0 0,.slice none 0 0,.int .i64 0,.bool false] 62;have LR0:=Hd (HasBlk.of (n:=6) LR.out rfl rfl);clear LR;clear LB0 LG0_0 LR0
  go_enter Tryz.func124,Tryz.ntmps124
  go_wp2;refine bodyPost_ret (v:=.agg #[.int .i64 0,.bool g1,.slice A1 n1 c1,.slice B1 m1 d1,.int .i64 1,.bool false]) (by simp [results,Tryz.results124,go_sem]) rfl ?_
  exact have b:=((below_alloc w _).alloc (by simp<;>omega) _);⟨_,_,_,_,_,_,_,rfl,H1.out.below b,b⟩
 ·rw [decide_eq_true h,hx h]
  have hq:(s1 == 0)=false:=by simp;omega
  have HS:=Hd fun W=>far_any s1 W;have HK:=Hd hK;clear h1 hx h hK;obtain⟨LB0,LG0_0,LR⟩:=bx2 w #[.int .i64 s1,.bool g1,.slice A1 n1 c1,.slice B1 m1 d1] 67 #[.int .i64 0,.bool false,.slice none 0 0,.slice none 0 0,.int .i64 0,.bool false] 62;have LR0:=Hd (HasBlk.of (n:=6) LR.out rfl rfl);clear LR
  go_enter Tryz.func124,Tryz.ntmps124
  go_wp2_with fail;refine (HS.out _).mono ?_;rintro e w1 ⟨g2,A2,n2,c2,B2,m2,d2,rfl,h2,hb1⟩;have LB1:=stB LB0 hb1 LB0.out.size;have LR1:=stR LR0 hb1;have LG0_1:=stG LG0_0 hb1;clear LB0 LR0 LG0_0;obtain⟨ha0,hf0,ha1,hf1,ha2,hf2,ha3,hf3,ha4,hf4,ha5,hf5⟩:=LR1.out.sf6;obtain⟨hk0,hk1,hk2,hk3,hk4,hk5⟩:=LR1.out.sc6 (.int .i64 s1) (.bool g2) (.slice A2 n2 c2) (.slice B2 m2 d2) (.int .i64 1) (.bool true);have F:=Hd (below_sets (w0:=w) (r:=(w.heap.size+1)) (by omega) [.int .i64 s1,.bool g2,.slice A2 n2 c2,.slice B2 m2 d2,.int .i64 1,.bool true] 0 _ LB1.out)
  simp [sets] at hk0 hk1 hk2 hk3 hk4 hk5
  have FR1:=Hd (LR1.out.rat (h2.mono HK.out) [.int .i64 s1,.bool g2,.slice A2 n2 c2,.slice B2 m2 d2,.int .i64 1,.bool true]);clear hb1 h2;go_wp2;refine bodyPost_ret (v:=.agg #[.int .i64 s1,.bool g2,.slice A2 n2 c2,.slice B2 m2 d2,.int .i64 1,.bool true]) (by simp [results,Tryz.results124,go_sem,hk0,hk1,hk2,hk3,hk4,hk5]) rfl ?_
  exact⟨_,_,_,_,_,_,_,rfl,FR1.out,F.out⟩
theorem piece_none(K:Nat)(s1:Int)(g1:Bool)(A1:Option Addr)(n1 c1:Nat)(B1:Option Addr)(m1 d1:Nat)(x1:Rat)(s2:Int)(g2:Bool)(A2:Option Addr)(n2 c2:Nat)(B2:Option Addr)(m2 d2:Nat)(x2:Rat)(w:World):
  Calls Tryz.prog 55 #[.agg #[.bool true,.int .i64 s1,.bool g1,.slice A1 n1 c1,.slice B1 m1 d1,.int .i64 s2,.bool g2,.slice A2 n2 c2,.slice B2 m2 d2]] w (NewPiece w 1 true 0 0 1 false 0 0 1 false):=by
 have HS:=Hd fun W=>nothing_any W;obtain⟨LB0,LG0_0,LR⟩:=bx2 w #[.bool true,.int .i64 s1,.bool g1,.slice A1 n1 c1,.slice B1 m1 d1,.int .i64 s2,.bool g2,.slice A2 n2 c2,.slice B2 m2 d2] 69 #[.bool false,.int .i64 0,.bool false,.slice none 0 0,.slice none 0 0,.int .i64 0,.bool false,.int .i64 0,.bool false,.slice none 0 0,.slice none 0 0,.int .i64 0,.bool false] 64;have LR0:=Hd (HasBlk.of (n:=13) LR.out rfl rfl);clear LR
 go_enter Tryz.func55,Tryz.ntmps55
 go_wp2_with fail;refine (HS.out _).mono ?_;rintro e w1 ⟨g3,A3,n3,c3,B3,m3,d3,g4,A4,n4,c4,B4,m4,d4,rfl,h3,h4,hb1⟩;have LB1:=stB LB0 hb1 LB0.out.size;have LR1:=stR LR0 hb1;have LG0_1:=stG LG0_0 hb1;clear LB0 LR0 LG0_0;obtain⟨ha0,hf0,ha1,hf1,ha2,hf2,ha3,hf3,ha4,hf4,ha5,hf5,ha6,hf6,ha7,hf7,ha8,hf8,ha9,hf9,ha10,hf10,ha11,hf11,ha12,hf12⟩:=LR1.out.sf13;obtain⟨hk0,hk1,hk2,hk3,hk4,hk5,hk6,hk7,hk8,hk9,hk10,hk11,hk12⟩:=LR1.out.sc13 (.bool true) (.int .i64 0) (.bool g3) (.slice A3 n3 c3) (.slice B3 m3 d3) (.int .i64 1) (.bool false) (.int .i64 0) (.bool g4) (.slice A4 n4 c4) (.slice B4 m4 d4) (.int .i64 1) (.bool false);have F:=Hd (below_sets (w0:=w) (r:=(w.heap.size+1)) (by omega) [.bool true,.int .i64 0,.bool g3,.slice A3 n3 c3,.slice B3 m3 d3,.int .i64 1,.bool false,.int .i64 0,.bool g4,.slice A4 n4 c4,.slice B4 m4 d4,.int .i64 1,.bool false] 0 _ LB1.out)
 simp [sets] at hk0 hk1 hk2 hk3 hk4 hk5 hk6 hk7 hk8 hk9 hk10 hk11 hk12
 have FR1:=Hd (LR1.out.rat (h3) [.bool true,.int .i64 0,.bool g3,.slice A3 n3 c3,.slice B3 m3 d3,.int .i64 1,.bool false,.int .i64 0,.bool g4,.slice A4 n4 c4,.slice B4 m4 d4,.int .i64 1,.bool false]);have FR2:=Hd (LR1.out.rat (h4) [.bool true,.int .i64 0,.bool g3,.slice A3 n3 c3,.slice B3 m3 d3,.int .i64 1,.bool false,.int .i64 0,.bool g4,.slice A4 n4 c4,.slice B4 m4 d4,.int .i64 1,.bool false]);clear hb1 h3 h4;go_wp2;refine bodyPost_ret (v:=.agg #[.bool true,.int .i64 0,.bool g3,.slice A3 n3 c3,.slice B3 m3 d3,.int .i64 1,.bool false,.int .i64 0,.bool g4,.slice A4 n4 c4,.slice B4 m4 d4,.int .i64 1,.bool false]) (by simp [results,Tryz.results55,go_sem,hk0,hk1,hk2,hk3,hk4,hk5,hk6,hk7,hk8,hk9,hk10,hk11,hk12]) rfl ?_
 exact⟨_,_,_,_,_,_,_,_,_,_,_,_,_,_,rfl,FR1.out,FR2.out,F.out⟩
theorem piece_some(K:Nat)(s1:Int)(g1:Bool)(A1:Option Addr)(n1 c1:Nat)(B1:Option Addr)(m1 d1:Nat)(x1:Rat)(s2:Int)(g2:Bool)(A2:Option Addr)(n2 c2:Nat)(B2:Option Addr)(m2 d2:Nat)(x2:Rat)(w:World)(h1:RatV w K g1 (.slice A1 n1 c1) (.slice B1 m1 d1) x1)(h2:RatV w K g2 (.slice A2 n2 c2) (.slice B2 m2 d2) x2)(hK:1≤K)(hx:s1≠0→x1=0)(hy:s2≠0→x2=0):
  Calls Tryz.prog 55 #[.agg #[.bool false,.int .i64 s1,.bool g1,.slice A1 n1 c1,.slice B1 m1 d1,.int .i64 s2,.bool g2,.slice A2 n2 c2,.slice B2 m2 d2]] w (NewPiece w K false s1 x1 1 (decide (s1≠0)) s2 x2 1 (decide (s2≠0))):=by
 have T1:=Hd fun W (hW:Below w.heap.size w W)=>bound_end K s1 g1 A1 n1 c1 B1 m1 d1 x1 W (h1.below hW) hK hx;have T2:=Hd fun W (hW:Below w.heap.size w W)=>bound_end K s2 g2 A2 n2 c2 B2 m2 d2 x2 W (h2.below hW) hK hy
 obtain⟨o3,e1⟩:∃ s,decide (s1≠0)=s:=⟨_,rfl⟩
 obtain⟨o4,e2⟩:∃ s,decide (s2≠0)=s:=⟨_,rfl⟩
 rw [e1] at T1 ⊢;rw [e2] at T2 ⊢;clear h1 h2 e1 e2 hx hy;obtain⟨LB0,LG0_0,LR⟩:=bx2 w #[.bool false,.int .i64 s1,.bool g1,.slice A1 n1 c1,.slice B1 m1 d1,.int .i64 s2,.bool g2,.slice A2 n2 c2,.slice B2 m2 d2] 69 #[.bool false,.int .i64 0,.bool false,.slice none 0 0,.slice none 0 0,.int .i64 0,.bool false,.int .i64 0,.bool false,.slice none 0 0,.slice none 0 0,.int .i64 0,.bool false] 64;have LR0:=Hd (HasBlk.of (n:=13) LR.out rfl rfl);clear LR
 go_enter Tryz.func55,Tryz.ntmps55
 go_wp2_with fail;refine wp_region_held_drew (S:=fun W'=>Blk W' w.heap.size 69 #[.bool false,.int .i64 s1,.bool g1,.slice A1 n1 c1,.slice B1 m1 d1,.int .i64 s2,.bool g2,.slice A2 n2 c2,.slice B2 m2 d2]∧HasBlk W' (w.heap.size+1) 64 13∧Below w.heap.size w W') (by kernel_rfl) (by exact⟨LG0_0.out.drew,LR0.out.drew,LB0.out.drew⟩) (fun hHeld=>?_);refine tk 0 ?_;(try simp only [Act.put,lay]);refine tk 1 ?_ (hv:=by intro W2 hSw;obtain⟨q0,q1,q2,q3,q4,q5,q6,q7,q8⟩:=hSw.1.c9;go_simp;(try with_reducible rfl));(try simp only [Act.put,lay]);refine tk 3 ?_;(try simp only [Act.put,lay]);refine tk 4 ?_ (hv:=by intro W2 hSw;obtain⟨q0,q1,q2,q3,q4,q5,q6,q7,q8⟩:=hSw.1.c9;go_simp;(try with_reducible rfl));(try simp only [Act.put,lay]);refine rdy 2 (fun KK hKK=>?_);go_simp;refine (T1.out _ ?_).mono ?_;exact hHeld.2.2;rintro e w3 ⟨g3,A3,n3,c3,B3,m3,d3,rfl,h3,hb3⟩;go_wp2_with fail;refine hKK.out _ _ (⟨hHeld.1.keep hb3,hHeld.2.1.keep hb3,hHeld.2.2.trans (hb3.mono hHeld.2.2.size)⟩) (fun _=>?_);clear hKK KK hHeld;rename_i hHeld;(try simp only [Act.put,lay]);refine rdy 5 (fun KK hKK=>?_);go_simp;refine (T2.out _ ?_).mono ?_;exact hHeld.2.2;rintro e w4 ⟨g4,A4,n4,c4,B4,m4,d4,rfl,h4,hb4⟩;go_wp2_with fail;refine hKK.out _ _ (⟨hHeld.1.keep hb4,hHeld.2.1.keep hb4,hHeld.2.2.trans (hb4.mono hHeld.2.2.size)⟩) (fun _=>?_);clear hKK KK hHeld;rename_i hHeld;(try simp only [Act.put,lay]);refine tk 6 ?_;(try simp only [Act.put,lay]);refine rdy 7 (fun KK hKK=>?_);have ha0:=hHeld.2.1.someCell 0 (by decide);have hf0:=hHeld.2.1.frozen 0;have ha1:=hHeld.2.1.someCell 1 (by decide);have hf1:=hHeld.2.1.frozen 1;have ha2:=hHeld.2.1.someCell 2 (by decide);have hf2:=hHeld.2.1.frozen 2;have ha3:=hHeld.2.1.someCell 3 (by decide);have hf3:=hHeld.2.1.frozen 3;have ha4:=hHeld.2.1.someCell 4 (by decide);have hf4:=hHeld.2.1.frozen 4;have ha5:=hHeld.2.1.someCell 5 (by decide);have hf5:=hHeld.2.1.frozen 5;have ha6:=hHeld.2.1.someCell 6 (by decide);have hf6:=hHeld.2.1.frozen 6;have ha7:=hHeld.2.1.someCell 7 (by decide);have hf7:=hHeld.2.1.frozen 7;have ha8:=hHeld.2.1.someCell 8 (by decide);have hf8:=hHeld.2.1.frozen 8;have ha9:=hHeld.2.1.someCell 9 (by decide);have hf9:=hHeld.2.1.frozen 9;have ha10:=hHeld.2.1.someCell 10 (by decide);have hf10:=hHeld.2.1.frozen 10;have ha11:=hHeld.2.1.someCell 11 (by decide);have hf11:=hHeld.2.1.frozen 11;have ha12:=hHeld.2.1.someCell 12 (by decide);have hf12:=hHeld.2.1.frozen 12;have HK:=Hd (hHeld.2.1.setCell [.bool false,.int .i64 s1,.bool g3,.slice A3 n3 c3,.slice B3 m3 d3,.int .i64 1,.bool o3,.int .i64 s2,.bool g4,.slice A4 n4 c4,.slice B4 m4 d4,.int .i64 1,.bool o4] rfl);have F:=Hd (below_sets (w0:=w) (r:=(w.heap.size+1)) (by omega) [.bool false,.int .i64 s1,.bool g3,.slice A3 n3 c3,.slice B3 m3 d3,.int .i64 1,.bool o3,.int .i64 s2,.bool g4,.slice A4 n4 c4,.slice B4 m4 d4,.int .i64 1,.bool o4] 0 _ hHeld.2.2);have FR1:=Hd (hHeld.2.1.rat (h3.below hb4) [.bool false,.int .i64 s1,.bool g3,.slice A3 n3 c3,.slice B3 m3 d3,.int .i64 1,.bool o3,.int .i64 s2,.bool g4,.slice A4 n4 c4,.slice B4 m4 d4,.int .i64 1,.bool o4]);have FR2:=Hd (hHeld.2.1.rat h4 [.bool false,.int .i64 s1,.bool g3,.slice A3 n3 c3,.slice B3 m3 d3,.int .i64 1,.bool o3,.int .i64 s2,.bool g4,.slice A4 n4 c4,.slice B4 m4 d4,.int .i64 1,.bool o4])
 go_simp;refine hKK.out _ _ (⟨hHeld.1.other (by omega) 0 [.bool false,.int .i64 s1,.bool g3,.slice A3 n3 c3,.slice B3 m3 d3,.int .i64 1,.bool o3,.int .i64 s2,.bool g4,.slice A4 n4 c4,.slice B4 m4 d4,.int .i64 1,.bool o4],hHeld.2.1.sets [.bool false,.int .i64 s1,.bool g3,.slice A3 n3 c3,.slice B3 m3 d3,.int .i64 1,.bool o3,.int .i64 s2,.bool g4,.slice A4 n4 c4,.slice B4 m4 d4,.int .i64 1,.bool o4] rfl rfl,below_sets (by omega) [.bool false,.int .i64 s1,.bool g3,.slice A3 n3 c3,.slice B3 m3 d3,.int .i64 1,.bool o3,.int .i64 s2,.bool g4,.slice A4 n4 c4,.slice B4 m4 d4,.int .i64 1,.bool o4] 0 _ hHeld.2.2⟩) (fun _=>?_);clear hKK KK hHeld;rename_i hHeld;(try simp only [Act.put,lay]);refine wpAnyH_done (by kernel_rfl) ?_ _;have hk0:=HK.out 0 (by decide);have hk1:=HK.out 1 (by decide);have hk2:=HK.out 2 (by decide);have hk3:=HK.out 3 (by decide);have hk4:=HK.out 4 (by decide);have hk5:=HK.out 5 (by decide);have hk6:=HK.out 6 (by decide);have hk7:=HK.out 7 (by decide);have hk8:=HK.out 8 (by decide);have hk9:=HK.out 9 (by decide);have hk10:=HK.out 10 (by decide);have hk11:=HK.out 11 (by decide);have hk12:=HK.out 12 (by decide)
 simp [sets] at hk0 hk1 hk2 hk3 hk4 hk5 hk6 hk7 hk8 hk9 hk10 hk11 hk12
 clear hHeld HK h3 hb3 h4 hb4;clear LB0 LR0 LG0_0;go_wp2;refine bodyPost_ret (v:=.agg #[.bool false,.int .i64 s1,.bool g3,.slice A3 n3 c3,.slice B3 m3 d3,.int .i64 1,.bool o3,.int .i64 s2,.bool g4,.slice A4 n4 c4,.slice B4 m4 d4,.int .i64 1,.bool o4]) (by simp [results,Tryz.results55,go_sem,hk0,hk1,hk2,hk3,hk4,hk5,hk6,hk7,hk8,hk9,hk10,hk11,hk12]) rfl ?_
 exact⟨_,_,_,_,_,_,_,_,_,_,_,_,_,_,rfl,FR1.out,FR2.out,F.out⟩
end Go.Proofs.YtmjkmoahkanblaaGreat
namespace Go.Proofs.YtmjkmoahkanblaaGreat
open Go.RowKit Ieee
attribute [local go_sem] run_store_float run_frombits run_bitsof run_negf
theorem fsmall(w:World):Calls Tryz.prog 234 #[] w fun e w'=>e=.returned (.bool false)∧w=w':=by
 have h1:floatOfInt .f64 16777216=4715268809856909312:=by kernel_rfl
 have h2:=fun W=>run_float_arith (P:=Tryz.prog) W .add 27 .f64 4715268809856909312 4607182418800017408 4715268810125344768 (by kernel_rfl)
 have h3:FloatKind.f64.format.order 4715268810125344768 4715268809856909312=some .gt:=by kernel_rfl
 go_enter Tryz.func234,Tryz.ntmps234
 go_wp2
 go_ret
 exact⟨rfl,rfl⟩
theorem pattern_any(b:Nat)(w:World):Calls Tryz.prog 211 #[.float .f64 b] w fun e w'=>e=.returned (.int .u64 (b:Int))∧w=w':=by
 have HS:=Hd fsmall;have ff:=fun W=>run_bitsof b W
 go_enter Tryz.func211,Tryz.ntmps211
 go_wp2_with fail;refine (HS.out _).mono ?_;rintro e w' ⟨rfl,rfl⟩;go_wp2
 go_ret
 exact⟨rfl,rfl⟩
theorem format_any(w:World):Calls Tryz.prog 210 #[] w fun e w'=>e=.returned (.agg #[.int .i64 52,.int .i64 (-1074),.int .i64 971,.int .u64 9218868437227405312,.int .u64 9223372036854775808])∧Below w.heap.size w w':=by
 have HS:=Hd fsmall;have HB:=Hd (below_alloc w (.cells #[.int .i64 52,.int .i64 (-1074),.int .i64 971,.int .u64 9218868437227405312,.int .u64 9223372036854775808] 176))
 go_enter Tryz.func210,Tryz.ntmps210
 go_wp2_with fail;refine (HS.out _).mono ?_;rintro e w' ⟨rfl,rfl⟩;go_wp2;refine bodyPost_ret (v:=.agg #[.int .i64 52,.int .i64 (-1074),.int .i64 971,.int .u64 9218868437227405312,.int .u64 9223372036854775808]) (by simp [results,Tryz.results210,go_sem]) rfl ?_
 exact⟨rfl,HB.out⟩
def SplitTo(w:World)(neg:Bool)(S:Nat)(x:Int)(e:Ending)(w':World):Prop:=
 e=.returned (.tuple #[.bool neg,.int .u64 (S:Int),.int .i64 x,.bool true])∧Below w.heap.size w w'
set_option maxRecDepth 100000 in
theorem split_walk(b m e f S:Nat)(neg:Bool)(w:World)(hb:b<18446744073709551616)(hm:rungOf b=m)(hm2:m<9218868437227405312)(he:m / 4503599627370496=e)(hff:m % 4503599627370496=f)(hn:(FloatKind.f64.format.order b 0 == some Ordering.lt)=neg)(hS:S=if e=0 then f else f+4503599627370496):
  Calls Tryz.prog 153 #[.float .f64 b] w (SplitTo w neg S (if e=0 then -1074 else -1074+((e:Int) - 1))):=by
 have hsz:=size_i hb;rw [hm] at hsz;have m1:=mask52_u64 (x:=m) (by omega);rw [hff] at m1
 have m2:(m:Int) / 4503599627370496=(e:Int):=by omega
 have hf2:f<4503599627370496:=by omega
 have he2:e<2047:=by omega
 have hge:¬ (9218868437227405312:Int)≤(m:Int):=by omega
 have hor:=or_join' (i:=52) (x:=1) (y:=f) (by omega) (by omega) (by omega);rw [show ((1*2^52:Nat):Int)=4503599627370496 from rfl,show (f+1*2^52:Nat)=f+4503599627370496 from rfl] at hor;have HF0:=format_any
 obtain⟨I,hI⟩:∃ I:Int,I=9218868437227405312:=⟨_,rfl⟩
 rw [← hI] at HF0 hge;have HF:=Hd HF0;clear hI HF0
 have HP:=Hd fun W=>(pattern_any b W).mono (R':=fun e w'=>e=.returned (.int .u64 (b:Int))∧w'=W) fun _ _ h=>⟨h.1,h.2.symm⟩
 obtain⟨bi,hbi⟩:∃ z:Int,z=(b:Int):=⟨_,rfl⟩
 rw [← hbi] at hsz HP;clear hff he hb hm hbi hm2
 by_cases h0:e=0
 ·subst h0;rw [if_pos rfl] at hS ⊢;subst hS;rw [show ((0:Nat):Int)=0 from rfl] at m2;clear hor he2
  go_enter Tryz.func153,Tryz.ntmps153
  go_wp2_with fail;refine (HF.out _).mono ?_;rintro e' w1 ⟨rfl,hb1⟩;have LB1:=Hd (hb1.alloc hb1.size (.cells #[.int .i64 52,.int .i64 (-1074),.int .i64 971,.int .u64 I,.int .u64 9223372036854775808] 176));clear hb1 HF;go_wp2_with fail
  go_quiet ((first | (go_at_call 211;exact Calls.quiet_of_same (HP.out _))))
  have LB2:=Hd (below_drewN LB1.out nq);have BK2:=Hd ((Blk.new w1 176 #[.int .i64 52,.int .i64 (-1074),.int .i64 971,.int .u64 I,.int .u64 9223372036854775808]).drewN nq)
  obtain⟨g,hg⟩:∃ g,w1.heap.size=g:=⟨_,rfl⟩
  rw [hg] at BK2
  obtain⟨W2,hW2⟩:∃ W,(w1.alloc (.cells #[.int .i64 52,.int .i64 (-1074),.int .i64 971,.int .u64 I,.int .u64 9223372036854775808] 176)).drewN nq=W:=⟨_,rfl⟩
  rw [hW2] at LB2 BK2;rw [hg,hW2];clear hg hW2 LB1 HP hsz;have q0:=BK2.out.cell 0;have q1:=BK2.out.cell 1;have q3:=BK2.out.cell 3
  simp at q0 q1 q3
  go_wp2_with fail
  go_quiet (fail)
  obtain⟨nr,hnr⟩:∃ n,nq=n:=⟨_,rfl⟩
  clear q0 q1 q3 m1;have LB3:=Hd (below_drewN LB2.out nq);have BK3:=Hd (BK2.out.drewN nq)
  obtain⟨W3,hW3⟩:∃ W,W2.drewN nq=W:=⟨_,rfl⟩
  rw [hW3] at LB3 BK3;rw [hW3];clear hW3 LB2 BK2 hnr;have q0:=BK3.out.cell 0
  simp at q0
  go_wp2;refine bodyPost_ret (v:=.tuple #[.bool neg,.int .u64 (S:Int),.int .i64 (-1074),.bool true]) (by simp [results,Tryz.results153,go_sem]) rfl ?_
  exact⟨rfl,LB3.out⟩
 ·rw [if_neg h0] at hS ⊢
  obtain⟨S',hS'⟩:∃ z,f+4503599627370496=z:=⟨_,rfl⟩
  rw [hS'] at hS hor;subst hS
  have hei:(0:Int)<(e:Int):=by omega
  clear h0 hS'
  go_enter Tryz.func153,Tryz.ntmps153
  go_wp2_with fail;refine (HF.out _).mono ?_;rintro e' w1 ⟨rfl,hb1⟩;have LB1:=Hd (hb1.alloc hb1.size (.cells #[.int .i64 52,.int .i64 (-1074),.int .i64 971,.int .u64 I,.int .u64 9223372036854775808] 176));clear hb1 HF;go_wp2_with fail
  go_quiet ((first | (go_at_call 211;exact Calls.quiet_of_same (HP.out _))))
  have LB2:=Hd (below_drewN LB1.out nq);have BK2:=Hd ((Blk.new w1 176 #[.int .i64 52,.int .i64 (-1074),.int .i64 971,.int .u64 I,.int .u64 9223372036854775808]).drewN nq)
  obtain⟨g,hg⟩:∃ g,w1.heap.size=g:=⟨_,rfl⟩
  rw [hg] at BK2
  obtain⟨W2,hW2⟩:∃ W,(w1.alloc (.cells #[.int .i64 52,.int .i64 (-1074),.int .i64 971,.int .u64 I,.int .u64 9223372036854775808] 176)).drewN nq=W:=⟨_,rfl⟩
  rw [hW2] at LB2 BK2;rw [hg,hW2];clear hg hW2 LB1 HP hsz;have q0:=BK2.out.cell 0;have q1:=BK2.out.cell 1;have q3:=BK2.out.cell 3
  simp at q0 q1 q3
  go_wp2_with fail
  go_quiet (fail)
  obtain⟨nr,hnr⟩:∃ n,nq=n:=⟨_,rfl⟩
  clear q0 q1 q3 m1;have LB3:=Hd (below_drewN LB2.out nq);have BK3:=Hd (BK2.out.drewN nq)
  obtain⟨W3,hW3⟩:∃ W,W2.drewN nq=W:=⟨_,rfl⟩
  rw [hW3] at LB3 BK3;rw [hW3];clear hW3 LB2 BK2 hnr;have q0:=BK3.out.cell 0
  simp at q0
  go_wp2;refine bodyPost_ret (v:=.tuple #[.bool neg,.int .u64 (S:Int),.int .i64 (-1074+((e:Int) - 1)),.bool true]) (by simp [results,Tryz.results153,go_sem]) rfl ?_
  exact⟨rfl,LB3.out⟩
theorem split_any(b:Nat)(hb:b<18446744073709551616)(hf:fin b):∃ (S:Nat) (x:Int),S<9007199254740992∧-1074≤x∧x≤971∧fl (idx b)=rv (decide (idx b<0)) S 1*2^x∧∀ w,Calls Tryz.prog 153 #[.float .f64 b] w (SplitTo w (decide (idx b<0)) S x):=by
 have hr:rungOf b≤M:=Nat.le_of_lt hf;have hM:M=9218868437227405312:=rfl;have hm2:rungOf b<9218868437227405312:=hf;have hp:=fl_parts (b:=b) hf rfl rfl rfl;have hc:=pat_cases hb
 have e1:rungOf b / 4503599627370496=b / 4503599627370496 % 2048:=by omega
 have e2:rungOf b % 4503599627370496=b % 4503599627370496:=by omega
 have hn:(FloatKind.f64.format.order b 0 == some Ordering.lt)=decide (idx b<0):=by
  rcases Int.lt_trichotomy (idx b) 0 with h | h | h
  ·rw [ord_lt hr real_zero (by rw [idx_zero];exact h),decide_eq_true h];rfl
  ·rw [ord_eq hr real_zero (by rw [idx_zero];exact h),decide_eq_false (by omega)];rfl
  ·rw [ord_gt hr real_zero (by rw [idx_zero];exact h),decide_eq_false (by omega)];rfl
 refine⟨_,_,?_,?_,?_,?_,fun w=>split_walk b _ _ _ _ _ w hb rfl hm2 e1 e2 hn rfl⟩
 ·split<;>omega
 ·split<;>omega
 ·split<;>omega
 ·have hs:∀ (S:Nat) (x:Int),(S=0∨sgn b=decide (idx b<0))→rv (sgn b) S 1*2^x=rv (decide (idx b<0)) S 1*2^x:=by
   rintro S x (rfl | h)
   ·rw [rv_zero,rv_zero]
   ·rw [h]
  have hsd:rungOf b=0∨sgn b=decide (idx b<0):=by
   rcases hc with ⟨a,h1,h2,h3⟩ | ⟨a,h1,h2,h3⟩
   ·right;rw [h2,decide_eq_false (by omega)]
   ·by_cases h0:rungOf b=0
    ·exact .inl h0
    ·right;rw [h2,decide_eq_true (by omega)]
  by_cases h0:b / 4503599627370496 % 2048=0
  ·rw [if_pos h0,if_pos h0,← hs _ _ (hsd.imp (fun h=>by omega) id)];have:=hp.2.2.2 h0;rw [this,h0];rfl
  ·rw [if_neg h0,if_neg h0,← hs _ _ (hsd.imp (fun h=>by omega) id)];rw [hp.2.2.1 (by omega)]
   congr 2;omega
end Go.Proofs.YtmjkmoahkanblaaGreat
