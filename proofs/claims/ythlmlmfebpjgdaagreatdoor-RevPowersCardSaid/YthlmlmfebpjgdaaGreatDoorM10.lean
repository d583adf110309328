/-
Lemmas for the statement: Lies PlusT RooT.
-/
import Derived.Test.YthlmlmfebpjgdaaGreatDoorM03
import Derived.Deep.CutRange
import Derived.Test.YthlmlmfebpjgdaaGreatDoorM02
import Derived.Test.YthlmlmfebpjgdaaGreatDoorM01
import Derived.Test.YthlmlmfebpjgdaaGreatDoorM09
import Derived.Test.YthlmlmfebpjgdaaGreatDoorM07
import Derived.Deep.DeepCutAuto
set_option linter.unusedSimpArgs false
set_option linter.unusedVariables false
set_option maxHeartbeats 12800000
namespace Go.Proofs.YthlmlmfebpjgdaaGreatDoor
section
open Go.RowKit
def Lies(w W:World)(l:List (Nat × TypeId × Array Value))(r:List (Nat × TypeId × Nat)):Prop:=
 Below w.heap.size w W∧(∀ x ∈ l,Blk W x.1 x.2.1 x.2.2)∧∀ x ∈ r,HasBlk W x.1 x.2.1 x.2.2
section
variable {w W W':World} {l l':List (Nat × TypeId × Array Value)} {r:List (Nat × TypeId × Nat)} {g n:Nat} {t:TypeId} {cs:Array Value}
theorem Lies.b(h:Lies w W l r):Below w.heap.size w W:=h.1
theorem Lies.blk(h:Lies w W l r)(i:Nat)(hi:l[i]?=some (g,t,cs)):Blk W g t cs:=h.2.1 _ (List.mem_of_getElem? hi)
theorem Lies.has(h:Lies w W l r)(i:Nat)(hi:r[i]?=some (g,t,n)):HasBlk W g t n:=h.2.2 _ (List.mem_of_getElem? hi)
theorem Lies.keep(h:Lies w W l r)(hb:Below W.heap.size W W'):Lies w W' l r:=
 ⟨h.1.trans (hb.mono h.1.size),fun x hx=>(h.2.1 x hx).keep hb,fun x hx=>(h.2.2 x hx).keep hb⟩
theorem Lies.alloc(h:Lies w W l r)(o:Obj):Lies w (W.alloc o) l r:=
 ⟨h.1.alloc h.1.size o,fun x hx=>(h.2.1 x hx).alloc o,fun x hx=>(h.2.2 x hx).alloc o⟩
theorem Lies.drew(h:Lies w W l r):Lies w W.drew l r:=⟨h.1.drew,fun x hx=>(h.2.1 x hx).drew,fun x hx=>(h.2.2 x hx).drew⟩
theorem Lies.put(h:Lies w W l r)(hb:Blk W g t cs):Lies w W (l ++ [(g,t,cs)]) r:=
 ⟨h.1,fun x hx=>by
   rcases List.mem_append.1 hx with hx | hx
   ·exact h.2.1 x hx
   ·rw [List.mem_singleton.1 hx];exact hb,h.2.2⟩
theorem Lies.new(h:Lies w W l r)(t:TypeId)(cs:Array Value):Lies w (W.alloc (.cells cs t)) (l ++ [(W.heap.size,t,cs)]) r:=(h.alloc _).put (Blk.new W t cs)
theorem Lies.loose(h:Lies w W l r)(i:Nat)(hi:l[i]?=some (g,t,cs))(hc:cs.toList.all notWd=true):Lies w W (l.eraseIdx i) ((g,t,cs.size) :: r):=
 ⟨h.1,fun x hx=>h.2.1 x (List.mem_of_mem_eraseIdx hx),fun x hx=>by
   rcases List.mem_cons.1 hx with rfl | hx
   ·exact HasBlk.of (h.blk i hi) rfl hc
   ·exact h.2.2 x hx⟩
theorem Lies.write(h:Lies w W l ((g,t,n) :: r))(vs:List Value)(hl:vs.length=n)(hg:w.heap.size≤g)(h1:∀ x ∈ l,x.1≠g)(h2:∀ x ∈ r,x.1≠g):Lies w (sets W g 0 vs) (l ++ [(g,t,vs.toArray)]) r:=
 ⟨below_sets hg vs 0 _ h.1,fun x hx=>by
   rcases List.mem_append.1 hx with hx | hx
   ·exact (h.2.1 x hx).other (h1 x hx) 0 vs
   ·rw [List.mem_singleton.1 hx];exact (h.2.2 _ (List.mem_cons_self ..)).laid vs hl,fun x hx=>(h.2.2 x (List.mem_cons_of_mem _ hx)).other (h2 x hx) 0 vs⟩
theorem Lies.part(h:Lies w W l r)(k:Nat)(hk:l[k]?=some (g,t,cs))(i:Nat)(vs:List Value)(hg:w.heap.size≤g)(h1:∀ x ∈ l.eraseIdx k,x.1≠g)(h2:∀ x ∈ r,x.1≠g):Lies w (sets W g i vs) (l.eraseIdx k ++ [(g,t,laid cs i vs)]) r:=
 ⟨below_sets hg vs i _ h.1,fun x hx=>by
   rcases List.mem_append.1 hx with hx | hx
   ·exact (h.2.1 x (List.mem_of_mem_eraseIdx hx)).other (h1 x hx) i vs
   ·rw [List.mem_singleton.1 hx];exact (h.blk k hk).sets vs i _ _,fun x hx=>(h.2.2 x hx).other (h2 x hx) i vs⟩
theorem Lies.over(h:Lies w W l r)(k:Nat)(hk:r[k]?=some (g,t,n))(vs:List Value)(hl:vs.length=n)(hv:vs.all notWd=true)(hg:w.heap.size≤g)(h1:∀ x ∈ l,x.1≠g)(h2:∀ x ∈ r.eraseIdx k,x.1≠g):Lies w (sets W g 0 vs) l r:=
 ⟨below_sets hg vs 0 _ h.1,fun x hx=>(h.2.1 x hx).other (h1 x hx) 0 vs,fun x hx=>by
   obtain⟨i,hi⟩:=List.mem_iff_getElem?.1 hx
   by_cases e:i=k
   ·subst e;rw [hk] at hi;cases hi;exact (h.has i hk).sets vs hl hv
   ·exact (h.2.2 x hx).other (h2 x (by rw [List.mem_iff_getElem?];rcases Nat.lt_or_ge i k with hlt | hge
                                       ·exact⟨i,by rw [List.getElem?_eraseIdx_of_lt hlt];exact hi⟩
                                       ·exact⟨i - 1,by rw [List.getElem?_eraseIdx_of_ge (by omega),show i - 1+1=i from by omega];exact hi⟩)) 0 vs⟩
theorem Lies.far(h:Lies w W l r)(vs:List Value)(i:Nat)(hg:w.heap.size≤g)(h1:∀ x ∈ l,x.1≠g)(h2:∀ x ∈ r,x.1≠g):Lies w (sets W g i vs) l r:=
 ⟨below_sets hg vs i _ h.1,fun x hx=>(h.2.1 x hx).other (h1 x hx) i vs,fun x hx=>(h.2.2 x hx).other (h2 x hx) i vs⟩
theorem Lies.perm{r':List (Nat × TypeId × Nat)}(h:Lies w W l r)(hl:∀ x ∈ l',x ∈ l)(hr:∀ x ∈ r',x ∈ r):Lies w W l' r':=⟨h.1,fun x hx=>h.2.1 x (hl x hx),fun x hx=>h.2.2 x (hr x hx)⟩
theorem Lies.lts(h:Lies w W l r):w.heap.size≤W.heap.size∧(∀ x ∈ l,x.1<W.heap.size)∧∀ x ∈ r,x.1<W.heap.size:=⟨h.1.size,fun x hx=>(h.2.1 x hx).lt,fun x hx=>(h.2.2 x hx).lt⟩
theorem Lies.newE(h:Lies w W l r)(e:W.alloc (.cells cs t)=W'):Lies w W' (l ++ [(W.heap.size,t,cs)]) r:=e ▸ h.new t cs
theorem below_allocE{o:Obj}(e:W.alloc o=W'):Below W.heap.size W W':=e ▸ below_alloc W o
theorem Blk.newE(e:W.alloc (.cells cs t)=W'):Blk W' W.heap.size t cs:=e ▸ Blk.new W t cs
theorem Blk.setsE{i:Nat}{vs:List Value}(h:Blk W g t cs)(e:Proofs.YthlmlmfebpjgdaaGreatDoor.sets W g i vs=W'):Blk W' g t (laid cs i vs):=e ▸ h.sets vs i W cs
theorem RatV.setsE{K:Nat}{neg:Bool}{vn vd:Value}{x:Rat}{i:Nat}{vs:List Value}(h:RatV W K neg vn vd x)(hb:Blk W g t cs)(hc:NoWd cs)(e:Proofs.YthlmlmfebpjgdaaGreatDoor.sets W g i vs=W'):RatV W' K neg vn vd x:=e ▸ h.sets hb hc i vs
theorem U32s.setsE{A:Option Addr}{k c:Nat}{xs:List Nat}{i:Nat}{vs:List Value}(h:U32s W A k c xs)(hb:Blk W g t cs)(hc:NoWd cs)(e:Proofs.YthlmlmfebpjgdaaGreatDoor.sets W g i vs=W'):U32s W' A k c xs:=e ▸ h.sets hb hc i vs
theorem stL(h:Hid (Lies w W l r))(hb:Below W.heap.size W W'):Hid (Lies w W' l r):=Hd (h.out.keep hb)
end
theorem nowd{cs:Array Value}(h:cs.toList.all notWd=true):NoWd cs:=NoWd.of (by rw [← Array.all_toList];exact h)
section
variable {P:Program} {ops:Array Oper} {Q:Exit→Act→World→Prop} {md:Region.Mode} {S:World→Prop} {fuel:Nat} {listed:Array Bool} {a:Act} {w:World}
theorem rd2(i j:Nat){o o':Oper}(h:∀ K':Act→World→Prop,Shut (∀ a w,S w→(S w→wpAnyH P md ops Q S fuel (listed.setIfInBounds i true) a w)→K' a w)→if Region.wanted o (yielded ops a.tmps)=true then Oper.wp P o a w K' Q else K' (a.put o.dst undef) w)
  (h':∀ K':Act→World→Prop,Shut (∀ a w,S w→(S w→wpAnyH P md ops Q S fuel (listed.setIfInBounds j true) a w)→K' a w)→if Region.wanted o' (yielded ops a.tmps)=true then Oper.wp P o' a w K' Q else K' (a.put o'.dst undef) w)
  (hr:Region.ready md ops listed=[i,j]:=by kernel_rfl)(ho:ops[i]?=some o:=by rfl)(ho':ops[j]?=some o':=by rfl):wpAnyH P md ops Q S (fuel+1) listed a w:=
 wpAnyH_ready hr (by simp) (AllReadyH.cons ho h (AllReadyH.cons ho' h' AllReadyH.nil))
end
theorem regL{P:Program}{ops:Array Oper}{Q:Exit→Act→World→Prop}{id:Nat}{a:Act}{w W:World}{l:List (Nat × TypeId × Array Value)}{r:List (Nat × TypeId × Nat)}(h:Hid (Lies w W l r))
  (k:Lies w W.drew l r→wpAnyH P .any ops Q (fun W'=>Lies w W' l r) ops.size (Array.replicate ops.size false) a W.drew)(hm:P.follows .mixedOrders=true:=by kernel_rfl):(Code.region id ops true).wp P Q a W:=
 wp_region_held_drew (S:=fun W'=>Lies w W' l r) hm h.out.drew k
theorem li1(w:World)(c0:Array Value)(t0:TypeId):Hid (Lies w (w.alloc (.cells c0 t0)) [(w.heap.size,t0,c0)] []):=by
 obtain⟨hb,h0⟩:=bx1 w c0 t0
 exact Hd ⟨hb.out,by simp only [List.mem_cons,List.not_mem_nil,or_false,forall_eq_or_imp,forall_eq];exact h0.out,by simp⟩
theorem li2(w:World)(c0:Array Value)(t0:TypeId)(c1:Array Value)(t1:TypeId):Hid (Lies w ((w.alloc (.cells c0 t0)).alloc (.cells c1 t1)) [(w.heap.size,t0,c0),(w.heap.size+1,t1,c1)] []):=by
 obtain⟨hb,h0,h1⟩:=bx2 w c0 t0 c1 t1
 exact Hd ⟨hb.out,by simp only [List.mem_cons,List.not_mem_nil,or_false,forall_eq_or_imp,forall_eq];exact⟨h0.out,h1.out⟩,by simp⟩
theorem li3(w:World)(c0:Array Value)(t0:TypeId)(c1:Array Value)(t1:TypeId)(c2:Array Value)(t2:TypeId):Hid (Lies w (((w.alloc (.cells c0 t0)).alloc (.cells c1 t1)).alloc (.cells c2 t2)) [(w.heap.size,t0,c0),(w.heap.size+1,t1,c1),(w.heap.size+2,t2,c2)] []):=by
 obtain⟨hb,h0,h1,h2⟩:=bx3 w c0 t0 c1 t1 c2 t2
 exact Hd ⟨hb.out,by simp only [List.mem_cons,List.not_mem_nil,or_false,forall_eq_or_imp,forall_eq];exact⟨h0.out,h1.out,h2.out⟩,by simp⟩
theorem li4(w:World)(c0:Array Value)(t0:TypeId)(c1:Array Value)(t1:TypeId)(c2:Array Value)(t2:TypeId)(c3:Array Value)(t3:TypeId):Hid (Lies w ((((w.alloc (.cells c0 t0)).alloc (.cells c1 t1)).alloc (.cells c2 t2)).alloc (.cells c3 t3)) [(w.heap.size,t0,c0),(w.heap.size+1,t1,c1),(w.heap.size+2,t2,c2),(w.heap.size+3,t3,c3)] []):=by
 obtain⟨hb,h0,h1,h2,h3⟩:=bx4 w c0 t0 c1 t1 c2 t2 c3 t3
 exact Hd ⟨hb.out,by simp only [List.mem_cons,List.not_mem_nil,or_false,forall_eq_or_imp,forall_eq];exact⟨h0.out,h1.out,h2.out,h3.out⟩,by simp⟩
end
section
open Go.RowKit
theorem plus_any(A B:Option Addr)(n c m d:Nat)(xs ys:List Nat)(w:World)(hx:U32s w A n c xs)(hy:U32s w B m d ys)(hs1:n≤34359738360)(hs2:m≤34359738360):
  Calls Tryz.prog 97 #[.slice A n c,.slice B m d] w (NewU32 w (digs (num xs+num ys))):=by
 have HX:=Hd hx;have HY:=Hd hy;clear hx hy
 go_enter Tryz.func97,Tryz.ntmps97
 go_wp2
 go_loopw [5,6,7] (fun v cv iv wr=>∃ (i k:Nat) (ls:List Nat),iv=.int .i64 i∧cv=.int .u64 k∧i≤max n m∧PlusInv xs ys ls i k∧Own wr w.heap.size v ls∧Below w.heap.size w wr) (fun _ _ iv _=>max n m - (intOf iv).toNat)
 case atStart=>exact⟨0,0,[],rfl,rfl,Nat.zero_le _,PlusInv.start _ _,Own.nil _ _,Below.refl _ _⟩
 case round=>
  obtain⟨i,k,ls,rfl,rfl,hi,hinv,hown,hb⟩:=hrel;have hk1:=hinv.carry;have hlen:=hinv.len;have HI:=Hd hinv;have HO:=Hd hown;clear hinv hown;have hbs:=hb.size;have HL:=Hd hlen;clear hlen
  by_cases ha:i<n
  ·obtain⟨ad,e,hc⟩:=(HX.out.below hb).cell (j:=i) ha
   cases e
   have hx1:=HX.out.lt i
   by_cases hbb:i<m
   ·obtain⟨ad',e,hc'⟩:=(HY.out.below hb).cell (j:=i) hbb
    cases e
    have hy1:=HY.out.lt i;have hm:=mask32_i (a:=(k:Int)+((xs[i]?.getD 0:Nat):Int)+((ys[i]?.getD 0:Nat):Int)) (by omega) (by omega)
    go_wp2_with (at_builtin;refine wpList_append_u32 _ rfl _ _ rfl w.heap.size _ ls rfl (HO.out.alloc _) ⟨_,0,none⟩ 1 ((k+xs[i]?.getD 0+ys[i]?.getD 0) % 4294967296) rfl ?c1 ?c2 ?c3 ?_)
    case c1=>simp
    case c2=>rw [HL.out];omega
    case c3=>simp;omega
    intro v' w' hown' hgrow;have HO':=Hd hown';have hb':Below w.heap.size w w':=(hb.alloc hbs _).grown hgrow (by simp;omega) (fun g hg=>(HO.out.lt g hg).1);clear hown' hb hgrow hc hc' hbs hm;go_wp2
    go_roundw
    case rel=>exact⟨i+1,(k+xs[i]?.getD 0+ys[i]?.getD 0) / 4294967296,_,by go_num,by go_num,by omega,HI.out.step HX.out.w32 HY.out.w32 (by rfl),HO'.out,hb'⟩
    case measure=>simp [intOf];omega
   ·have HZ:=Hd (show ys[i]?.getD 0=0 by rw [List.getElem?_eq_none (by rw [HY.out.len];omega)];rfl);have hm:=mask32_i (a:=(k:Int)+((xs[i]?.getD 0:Nat):Int)) (by omega) (by omega)
    go_wp2_with (at_builtin;refine wpList_append_u32 _ rfl _ _ rfl w.heap.size _ ls rfl (HO.out.alloc _) ⟨_,0,none⟩ 1 ((k+xs[i]?.getD 0) % 4294967296) rfl ?c1 ?c2 ?c3 ?_)
    case c1=>simp
    case c2=>rw [HL.out];omega
    case c3=>simp;omega
    intro v' w' hown' hgrow;have HO':=Hd hown';have hb':Below w.heap.size w w':=(hb.alloc hbs _).grown hgrow (by simp;omega) (fun g hg=>(HO.out.lt g hg).1);clear hown' hb hgrow hc hbs hm;go_wp2
    go_roundw
    case rel=>exact⟨i+1,(k+xs[i]?.getD 0) / 4294967296,_,by go_num,by go_num,by omega,HI.out.step HX.out.w32 HY.out.w32 (by rw [HZ.out];rfl),HO'.out,hb'⟩
    case measure=>simp [intOf];omega
  ·have HZ:=Hd (show xs[i]?.getD 0=0 by rw [List.getElem?_eq_none (by rw [HX.out.len];omega)];rfl)
   by_cases hbb:i<m
   ·obtain⟨ad',e,hc'⟩:=(HY.out.below hb).cell (j:=i) hbb
    cases e
    have hy1:=HY.out.lt i;have hm:=mask32_i (a:=(k:Int)+((ys[i]?.getD 0:Nat):Int)) (by omega) (by omega)
    go_wp2_with (at_builtin;refine wpList_append_u32 _ rfl _ _ rfl w.heap.size _ ls rfl (HO.out.alloc _) ⟨_,0,none⟩ 1 ((k+ys[i]?.getD 0) % 4294967296) rfl ?c1 ?c2 ?c3 ?_)
    case c1=>simp
    case c2=>rw [HL.out];omega
    case c3=>simp;omega
    intro v' w' hown' hgrow;have HO':=Hd hown';have hb':Below w.heap.size w w':=(hb.alloc hbs _).grown hgrow (by simp;omega) (fun g hg=>(HO.out.lt g hg).1);clear hown' hb hgrow hc' hbs hm;go_wp2
    go_roundw
    case rel=>exact⟨i+1,(k+ys[i]?.getD 0) / 4294967296,_,by go_num,by go_num,by omega,HI.out.step HX.out.w32 HY.out.w32 (by rw [HZ.out];rfl),HO'.out,hb'⟩
    case measure=>simp [intOf];omega
   ·have hd:=HI.out.done (by rw [HX.out.len];omega) (by rw [HY.out.len];omega);have HD:=Hd hd;clear hd
    go_wp2_with (at_builtin;refine wpList_append_u32 _ rfl _ _ rfl w.heap.size _ ls rfl (HO.out.alloc _) ⟨_,0,none⟩ 1 k rfl ?c1 ?c2 ?c3 ?_)
    case c1=>simp
    case c2=>rw [HL.out];omega
    case c3=>simp;omega
    intro v' w' hown' hgrow;have HO':=Hd hown';have hb':Below w.heap.size w w':=(hb.alloc hbs _).grown hgrow (by simp;omega) (fun g hg=>(HO.out.lt g hg).1);clear hown' hb hgrow hbs;obtain⟨A',c',rfl⟩:=HO'.out.form_snoc;have hu:=HO'.out.u32s (by simp) HD.out.2 (by simp;rw [HL.out];omega);have hnorm:=norm_any _ _ _ _ w' hu (by rw [HL.out];omega);rw [HD.out.1] at hnorm;have HN:=Hd hnorm;clear hnorm hu;go_wp2_with fail;refine HN.out.mono ?_;rintro e w'' ⟨A2,n2,c2,rfl,hu2,hb2⟩;have H2:=Hd (show NewU32 w (digs (num xs+num ys)) (.returned (.slice A2 n2 c2)) w'' from NewU32.trans ⟨A2,n2,c2,rfl,hu2,hb2⟩ hb');clear hu2 hb2 hb';go_wp2
    go_ret
    exact H2.out
end
section
open Go.RowKit
theorem below_dr6{w w':World}{k:Nat}(h:w'=w.drewN k):Below w.heap.size w w':=by rw [h];exact below_drewN (Below.refl _ _) k
theorem len_b{a L:Nat}{A:Option Addr}{n c:Nat}{w:World}(hx:U32s w A n c (digs a))(h:blen a=L):
  Calls Tryz.prog 224 #[.slice A n c] w fun e w'=>e=.returned (.int .i64 (L:Int))∧Below w.heap.size w w':=by
 rw [← h];refine (len_v A n c w hx).mono ?_;rintro e w' ⟨he,rfl⟩
 exact⟨he,Below.refl _ _⟩
theorem cmp_b6{a b:Nat}{cc:Int}{A B:Option Addr}{n c m d:Nat}{w:World}(hx:U32s w A n c (digs a))(hy:U32s w B m d (digs b))(h:cmp3 a b=cc):
  Calls Tryz.prog 98 #[.slice A n c,.slice B m d] w fun e w'=>e=.returned (.int .i64 cc)∧Below w.heap.size w w':=by
 rw [← h];refine (cmp_v A B n c m d w hx hy).mono ?_;rintro e w' ⟨he,k,hk⟩
 exact⟨he,below_dr6 hk⟩
theorem power_v{a n S:Nat}{A:Option Addr}{m c:Nat}{w:World}(hx:U32s w A m c (digs a))(h0:0<a)(h1:a<2 ^ (32*S))(hn:0<n)(h2:a ^ n<2 ^ (32*S))(hS:S≤1073741824)(hk:n≤1048576):
  Calls Tryz.prog 120 #[.slice A m c,.int .i64 (n:Int)] w (NewU32 w (digs (a ^ n))):=by
 have h:=power_any A m c n S _ w hx (by have:=hx.len_le h1;omega) (by rw [num_digs];exact h0) (by rw [num_digs];exact h1) (by rw [num_digs];exact h2) hS hk;rw [num_digs] at h
 exact h
theorem times_r{a b:Nat}{A B:Option Addr}{n c m d:Nat}{w:World}(hx:U32s w A n c (digs a))(hy:U32s w B m d (digs b))(h1:n≤1073741824)(h2:m≤1073741824):
  Calls Tryz.prog 95 #[.slice A n c,.slice B m d] w (NewU32 w (digs (a*b))):=by
 have h:=times_any A B n c m d _ _ w hx hy (by omega) (by omega);rw [num_digs,num_digs] at h
 exact h
theorem plus_v6{a b:Nat}{A B:Option Addr}{n c m d:Nat}{w:World}(hx:U32s w A n c (digs a))(hy:U32s w B m d (digs b))(h1:n≤1073741824)(h2:m≤1073741824):
  Calls Tryz.prog 97 #[.slice A n c,.slice B m d] w (NewU32 w (digs (a+b))):=by
 have h:=plus_any A B n c m d _ _ w hx hy (by omega) (by omega);rw [num_digs,num_digs] at h
 exact h
theorem lt_64{t S:Nat}(hS:2≤S)(h:t<18446744073709551616):t<2 ^ (32*S):=
 Nat.lt_of_lt_of_le (show t<2 ^ 64 from h) (Nat.pow_le_pow_right (by omega) (by omega))
theorem pow_lt_64{t n S:Nat}(hS:2048≤S)(h:t<18446744073709551616)(hn:0<n)(hn2:n≤1024):t ^ n<2 ^ (32*S):=by
 have h1:t ^ n<(2 ^ 64) ^ n:=Nat.pow_lt_pow_left (show t<2 ^ 64 from h) (by omega);rw [← Nat.pow_mul] at h1
 exact Nat.lt_of_lt_of_le h1 (Nat.pow_le_pow_right (by omega) (by omega))
theorem left_d1{a:Nat}{A:Option Addr}{n c:Nat}{w:World}(hx:U32s w A n c (digs a))(hs:n≤1073741824):
  Calls Tryz.prog 166 #[.slice A n c,.int .i64 1] w (NewU32 w (digs (2*a))):=by
 have h:=left_v A n c 1 w hx hs (by omega);rw [show a*2 ^ 1=2*a from by omega] at h
 exact h
theorem sh_one{i P:Nat}(hi:i<63)(hP:2 ^ i=P):IntKind.u64.wrap ((2:Int) ^ i)=(P:Int):=by
 have h1:P≤4611686018427387904:=by rw [← hP];exact (show 2 ^ i≤2 ^ 62 from Nat.pow_le_pow_right (by omega) (by omega))
 have h2:(2:Int) ^ i=(P:Int):=by rw [← hP];simp
 rw [h2,IntKind.wrap_u64]
 omega
set_option maxRecDepth 8000 in
theorem rootof_pos(d:Int)(n p q a b g R lp lq lg:Nat)(f k1 k2 P1 P2 t0 t1 t2 cc:Int)(ov z K K2:Nat)(y:Rat)(A:Option Addr)(n1 c1:Nat)(B:Option Addr)(m1 d1:Nat)(w:World)
  (hu:U32s w A n1 c1 (digs p))(hv:U32s w B m1 d1 (digs q))(hpK:p<2 ^ (32*K))(hqK:q<2 ^ (32*K))(haK:a<2 ^ (32*K2))(hbK:b<2 ^ (32*K2))(hK:K≤1048576)(hK2:K2≤2097152)
  (hRS:∀ W,Below w.heap.size w W→Calls Tryz.prog 42 #[.agg #[.bool false,.slice A n1 c1,.slice B m1 d1]] W fun e w'=>e=.returned (.int .i64 1)∧Below W.heap.size W w')
  (hlp:blen p=lp)(hlq:blen q=lq)(hlpb:lp≤67108864)(hlqb:lq≤67108864)(hf:(lp:Int) - (lq:Int)=f)(hn:0<n)(hn2:n≤1024)
  (ht0:(f+(n:Int)*60).tdiv n=t0)(hk1:61<t0→60 - (t0 - 60)=k1∧60≠k1)(hk1':¬ 61<t0→k1=60)(hP1:(n:Int)*k1=P1)(ht1:(f+P1).tdiv n=t1)(h61:¬ 61<t1)
  (hk2:t1<59→k1+(60 - t1)=k2∧k1≠k2)(hk2':¬ t1<59→k2=k1)(hP2:(n:Int)*k2=P2)(ht2:(f+P2).tdiv n=t2)(h59:¬ t2<59)
  (bk:-4300000≤k1∧k1≤4300000∧-4300000≤k2∧k2≤4300000∧-4300000≤P1∧P1≤4300000∧-4300000≤P2∧P2≤4300000∧-4300000≤t0∧t0≤4300000∧-4300000≤t1∧t1≤4300000)(hfb:-4194304≤f∧f≤4194304)
  (hg:P2=(g:Int))(hk0:0≤k2)(hab:p*2 ^ g=a∧q=b)(hb0:0<b)(hR:IsR (a / b) n R)(hlg:blen (a / b)=lg)(hlgb:lg≤67108864)(hR1:144115188075855872≤R)(hR2:R<4611686018427387904)(hcc:cmp3 (R ^ n*b) a=cc)(hov:(if cc=0 then 0 else 1)=ov)
  (hfin:∀ W C m' d' D,U32s W C m' d' (digs (2*R+ov))→U32s W D 1 1 (digs 1)→Calls Tryz.prog 96 #[.bool false,.slice C m' d',.slice D 1 1,.int .i64 (-k2 - 1)] W (NewRatS W 70000 y))
  (hbit:∀ W g' C m' d' D n' e',RatV W 70000 g' (.slice C m' d') (.slice D n' e') y→Calls Tryz.prog 207 #[.int .i64 d,.agg #[.bool g',.slice C m' d',.slice D n' e']] W fun e w'=>e=.returned (.int .u64 (z:Int))∧Below W.heap.size W w'):
  Calls Tryz.prog 237 #[.int .i64 d,.agg #[.bool false,.slice A n1 c1,.slice B m1 d1],.int .i64 (n:Int)] w fun e w'=>e=.returned (.int .u64 (z:Int))∧Below w.heap.size w w':=by
 have HU:=Hd hu;have HV:=Hd hv;have hn1:=hu.len_le hpK;have hm1:=hv.len_le hqK;have HRS:=Hd hRS;have HL1:=Hd fun W (h:U32s W A n1 c1 (digs p))=>len_b h hlp;have HL2:=Hd fun W (h:U32s W B m1 d1 (digs q))=>len_b h hlq;have HK1:=Hd hk1;have HK1':=Hd hk1';have HK2:=Hd hk2;have HK2':=Hd hk2';have HAB:=Hd hab;have HRR:=Hd hR;have HLGE:=Hd hlg;have HLG:=Hd fun W C m' d' (h:U32s W C m' d' (digs (a / b)))=>len_b h hlg;have HCC:=Hd hcc;have HOV:=Hd hov;have HFIN:=Hd hfin;have HBIT:=Hd hbit
 have hn0:¬ (n:Int)=0:=by omega
 have HP1:=Hd hP1;have HP2:=Hd hP2;have HT0:=Hd ht0;have HT1:=Hd ht1;have HT2:=Hd ht2;have HPK:=Hd hpK;have HQK:=Hd hqK;have HAK:=Hd haK;have HBK:=Hd hbK;have HG:=Hd hg;have HB0:=Hd hb0
 obtain⟨S,hS1,hS2,hS3⟩:∃ S:Nat,2≤S∧2048≤S∧S≤1073741824:=⟨2048,by omega,by omega,by omega⟩
 have HLF:=Hd (show ∀ W,U32s W A n1 c1 (digs p)→Calls Tryz.prog 166 #[.slice A n1 c1,.int .i64 P2] W (NewU32 W (digs a)) from fun W h=>by rw [hg,← hab.1];exact left_v A n1 c1 g W h (by omega) (by omega));have HBY:=Hd fun W An nn cn Ad nd cd (h:U32s W An nn cn (digs a)) (h2:U32s W Ad nd cd (digs b))=>by_v An Ad nn cn nd cd W h h2 (by have:=h.len_le haK;omega) (by have:=h2.len_le hbK;omega) hb0;have HSM:=Hd fun W (v:Nat) (hv:v<18446744073709551616)=>small_any v W hv;have HPW:=Hd fun W A' m' c' (t:Nat) (h:U32s W A' m' c' (digs t)) (h0:0<t) (h1:t<18446744073709551616)=>power_v (n:=n) (S:=S) h h0 (lt_64 hS1 h1) hn (pow_lt_64 hS2 h1 hn hn2) hS3 (by omega);have HCP:=Hd fun W A' m' c' (t:Nat) (B':Option Addr) (m'' c'':Nat) (cv:Int) (hc:cmp3 (t ^ n) (a / b)=cv) (h:U32s W A' m' c' (digs (t ^ n))) (h2:U32s W B' m'' c'' (digs (a / b)))=>cmp_b6 h h2 hc;have HTM:=Hd fun W A' m' c' Ad nd cd (h:U32s W A' m' c' (digs (R ^ n))) (h2:U32s W Ad nd cd (digs b))=>times_r h h2 (by have:=h.len_le (pow_lt_64 (t:=R) hS2 (by omega) hn hn2);omega) (by have:=h2.len_le hbK;omega);have HCQ:=Hd fun W A' m' c' An nn cn (h:U32s W A' m' c' (digs (R ^ n*b))) (h2:U32s W An nn cn (digs a))=>cmp_b6 h h2 hcc;have HL1':=Hd fun W A' m' c' (h:U32s W A' m' c' (digs R))=>left_d1 h (by have:=h.len_le (show R<2 ^ (32*2) by omega);omega);have HPL:=Hd fun W A' m' c' B' m'' c'' (h:U32s W A' m' c' (digs (2*R))) (h2:U32s W B' m'' c'' (digs ov))=>plus_v6 h h2 (by have:=h.len_le (show 2*R<2 ^ (32*2) by omega);omega) (by have:=h2.len_le (show ov<2 ^ (32*1) by rw [← hov];split<;>omega);omega)
 have hov1:ov≤1:=by rw [← hov];split<;>omega
 obtain⟨bk1,bk2,bk3,bk4,bk5,bk6,bk7,bk8,bk9,bk10,bk11,bk12⟩:=bk;clear hu hv hpK hqK haK hbK hRS hlp hlq hk1 hk1' hk2 hk2' hab hR hlg hcc hov hfin hbit hP1 hP2 ht0 ht1 ht2 hg hb0 hS1 hS2 hS3;have LL:=li1 w #[.bool false,.slice A n1 c1,.slice B m1 d1] 42;have HUU:=Hd (HU.out.below LL.out.b);have HVV:=Hd (HV.out.below LL.out.b);clear HU HV
 go_enter Tryz.func237,Tryz.ntmps237
 obtain⟨q1_0,q1_1,q1_2⟩:=(LL.out.blk 0 rfl).c3;go_wp2_with fail;refine (HRS.out _ LL.out.b).mono ?_;rintro e wk ⟨rfl,hb⟩;replace LL:=stL LL hb;replace HUU:=Hd (HUU.out.below hb);replace HVV:=Hd (HVV.out.below hb);clear hb q1_0 q1_1 q1_2;clear HRS
 go_upto_region 4 with fail
 refine regL LL (fun hHeld=>?_);clear LL;replace HUU:=Hd (HUU.out.below (Below.refl _ _).drew);replace HVV:=Hd (HVV.out.below (Below.refl _ _).drew);generalize World.drew _=wk at hHeld HUU HVV ⊢;refine tk 0 ?_;(try simp only [Act.put,lay]);refine tk 1 ?_ (hv:=by intro W2 hSw;obtain⟨q0,q1,q2⟩:=(hSw.blk 0 rfl).c3;go_simp;(try with_reducible rfl));(try simp only [Act.put,lay]);refine tk 3 ?_;(try simp only [Act.put,lay]);refine tk 4 ?_ (hv:=by intro W2 hSw;obtain⟨q0,q1,q2⟩:=(hSw.blk 0 rfl).c3;go_simp;(try with_reducible rfl));(try simp only [Act.put,lay]);refine rdy 2 (fun KK hKK=>?_);go_simp;refine (HL1.out _ HUU.out).mono ?_;rintro e wk ⟨rfl,hb1⟩;go_wp2_with fail;refine hKK.out _ _ (hHeld.keep hb1) (fun _=>?_);clear hKK KK hHeld;rename_i hHeld;(try simp only [Act.put,lay]);replace HUU:=Hd (HUU.out.below hb1);replace HVV:=Hd (HVV.out.below hb1);clear hb1;refine rdy 5 (fun KK hKK=>?_);go_simp;refine (HL2.out _ HVV.out).mono ?_;rintro e wk ⟨rfl,hb2⟩;go_wp2_with fail;refine hKK.out _ _ (hHeld.keep hb2) (fun _=>?_);clear hKK KK hHeld;rename_i hHeld;(try simp only [Act.put,lay]);replace HUU:=Hd (HUU.out.below hb2);replace HVV:=Hd (HVV.out.below hb2);clear hb2;refine tk 6 ?_;(try simp only [Act.put,lay]);refine tk 7 ?_;(try simp only [Act.put,lay]);refine wpAnyH_done (by kernel_rfl) ?_ _;have LL:=Hd hHeld;clear hHeld;clear HL1 HL2
 obtain⟨wa,rfl⟩:∃ X,X=wk:=⟨_,rfl⟩
 go_wp2
 go_loopw [9] (fun kv wr=>∃ kk:Int,kv=.int .i64 kk∧(kk=k1∨(kk=60∧61<t0))∧wr=wa) (fun kv _=>if intOf kv=k1 then 0 else 1)
 case atStart=>
  by_cases h:61<t0
  ·exact⟨60,rfl,.inr ⟨rfl,h⟩,rfl⟩
  ·exact⟨60,rfl,.inl (HK1'.out (by omega)).symm,rfl⟩
 case round=>
  obtain⟨kk,rfl,hkk,hwr⟩:=hrel;subst hwr
  by_cases hke:kk=k1
  case neg=>
   obtain⟨rfl,h60⟩:kk=60∧61<t0:=by rcases hkk with h | h;exact absurd h hke;exact h
   obtain⟨e1,e2⟩:=HK1.out h60;have ht0:=HT0.out
   have f1:IntKind.i64.wrap t0=t0:=by rw [IntKind.wrap_i64];omega
   clear hkk;go_wp2
   exact⟨⟨k1,rfl,.inl rfl,trivial⟩,by show (if k1=k1 then 0 else 1)<(if (60:Int)=k1 then 0 else 1);rw [if_pos rfl,if_neg e2];omega⟩
  subst hke;clear hkk HK1 HK1';have hP1:=HP1.out;have ht1:=HT1.out
  have f1:IntKind.i64.wrap t1=t1:=by rw [IntKind.wrap_i64];omega
  clear HP1 HT1;go_wp2
  go_loopw [9] (fun kv wr'=>∃ kj:Int,kv=.int .i64 kj∧(kj=k2∨(kj=kk∧t1<59))∧wr'=wr) (fun kv _=>if intOf kv=k2 then 0 else 1)
  case atStart=>
   by_cases h:t1<59
   ·exact⟨kk,rfl,.inr ⟨rfl,h⟩,rfl⟩
   ·exact⟨kk,rfl,.inl (HK2'.out (by omega)).symm,rfl⟩
  case round=>
   obtain⟨kj,rfl,hkj,hwr⟩:=hrel;subst hwr
   by_cases hje:kj=k2
   case neg=>
    obtain⟨ek,h59'⟩:kj=kk∧t1<59:=by rcases hkj with h | h;exact absurd h hje;exact h
    subst ek;obtain⟨e1,e2⟩:=HK2.out h59';clear hkj;go_wp2
    exact⟨⟨k2,rfl,.inl rfl,trivial⟩,by show (if k2=k2 then 0 else 1)<(if kj=k2 then 0 else 1);rw [if_pos rfl,if_neg hje];omega⟩
   subst hje;clear hkj HK2 HK2' hP1 ht1 f1;have hP2:=HP2.out;have ht2:=HT2.out
   have ht2b:t2≤8600000:=by
    have h1:t2.natAbs=(f+P2).natAbs / (n:Int).natAbs:=by rw [← ht2,Int.natAbs_tdiv];rfl
    have h2:=Nat.div_le_self (f+P2).natAbs (n:Int).natAbs
    omega
   have f1:IntKind.i64.wrap t2=t2:=by rw [IntKind.wrap_i64];omega
   clear HP2 HT2;obtain⟨q2_0,q2_1,q2_2⟩:=(LL.out.blk 0 rfl).c3;go_wp2_with fail;skip;refine (HLF.out _ HUU.out).mono ?_;rintro e wk ⟨An,nn,cn,rfl,hu2,hb2⟩;replace LL:=stL LL hb2;replace HUU:=Hd (HUU.out.below hb2);replace HVV:=Hd (HVV.out.below hb2);clear hb2;have HNN:=Hd hu2;have HDD:=HVV;rw [HAB.out.2] at HDD;clear hu2 HLF HUU HVV q2_0 q2_1 q2_2;go_wp2_with fail;refine (HBY.out _ _ _ _ _ _ _ HNN.out HDD.out).mono ?_;rintro e wk ⟨Ab,nb,cb,Ar,nr,cr,rfl,hub,-,hb3⟩;replace LL:=stL LL hb3;replace HNN:=Hd (HNN.out.below hb3);replace HDD:=Hd (HDD.out.below hb3);clear hb3 HBY;have HUB:=Hd hub;clear hub;have HWB:=Hd LL.out.b;clear LL;go_wp2
   go_loopw [14,15] (fun rv iv wr=>∃ k:Nat,iv=.int .i64 ((k:Int) - 1)∧rv=.int .u64 ((hi R k:Nat):Int)∧k≤63∧U32s wr Ab nb cb (digs (a / b))∧U32s wr An nn cn (digs a)∧U32s wr B m1 d1 (digs b)∧Below w.heap.size w wr) (fun _ iv _=>(intOf iv+1).toNat)
   case atStart=>exact⟨63,rfl,by rw [hi_top hR2];rfl,by omega,HUB.out,HNN.out,HDD.out,HWB.out⟩
   case round=>
    obtain⟨k,rfl,rfl,hk,hub,hun,hud,hbw⟩:=hrel;clear HUB HNN HDD HWB;have HUB:=Hd hub;have HNN:=Hd hun;have HDD:=Hd hud;have HWB:=Hd hbw;clear hub hun hud hbw;have hlr:=hi_le R k
    obtain⟨r0,hr0⟩:∃ r,hi R k=r:=⟨_,rfl⟩
    rw [hr0] at hlr ⊢;have HR0:=Hd hr0;clear hr0
    rcases Nat.eq_zero_or_pos k with h0 | h0
    case inr=>
     obtain⟨i,rfl⟩:∃ i,k=i+1:=⟨k - 1,by omega⟩
     rw [show (((i+1:Nat):Int) - 1)=(i:Int) from by omega];obtain⟨s1,s2⟩:=hi_step R i;have so:=hi_or R i;rw [HR0.out] at s1 s2 so
     obtain⟨P,hP⟩:∃ P,2 ^ i=P:=⟨_,rfl⟩
     have hP1:0<P:=by rw [← hP];exact Nat.two_pow_pos i
     have hP2':P≤4611686018427387904:=by rw [← hP];exact (show 2 ^ i≤2 ^ 62 from Nat.pow_le_pow_right (by omega) (by omega))
     have hsh:=sh_one (show i<63 by omega) hP;have HTL:=Hd fun (h:lg≤n*i)=>try_long (t:=r0+P) HRR.out (i:=i) (by rw [hP];omega) (by rw [HLGE.out];exact h);rw [hP] at s1 s2 so
     obtain⟨t,ht⟩:∃ t,r0+P=t:=⟨_,rfl⟩
     have hor:bits .or .u64 (r0:Int) (P:Int)=(t:Int):=by rw [u64_or_nat _ _ (by omega) (by omega),so,ht]
     rw [ht] at s1 s2 HTL
     have ht64:t<18446744073709551616:=by omega
     have ht0':0<t:=by omega
     have HS1:=Hd s1;have HS2:=Hd s2;have HTI:=Hd (try_iff (t:=t) HRR.out)
     obtain⟨ni,hni⟩:∃ x,n*i=x:=⟨_,rfl⟩
     have hni1:(n:Int)*(i:Int)=(ni:Int):=by rw [← hni];simp
     have hni2:ni≤1024*62:=by rw [← hni];exact Nat.mul_le_mul hn2 (by omega)
     rw [hni] at HTL;clear s1 s2 so ht hP hni HR0 h0;have HLG':=Hd (HLG.out _ _ _ _ HUB.out);go_wp2_with fail;refine HLG'.out.mono ?_;rintro e w1 ⟨rfl,hb1⟩;replace HUB:=Hd (HUB.out.below hb1);replace HNN:=Hd (HNN.out.below hb1);replace HDD:=Hd (HDD.out.below hb1);replace HWB:=stB HWB hb1;clear hb1 HLG' hsh hor
     by_cases hl:ni<lg
     case neg=>
      have hl1:¬ (ni:Int)<(lg:Int):=by omega
      have e1:=HS2.out (HTL.out (by omega));have hd:decide (ni<lg)=false:=decide_eq_false hl;clear HS1 HS2 HTI HTL;go_wp2
      exact⟨⟨i,rfl,by rw [e1],by omega,HUB.out,HNN.out,HDD.out,HWB.out⟩,by simp [intOf]⟩
     have hl1:(ni:Int)<(lg:Int):=by omega
     clear HTL;have HSM':=Hd (HSM.out w1 t ht64);go_wp2_with fail;refine HSM'.out.mono ?_;rintro e w2 ⟨A2,m2,c2,rfl,hu2,hb2⟩;have HP':=Hd (HPW.out _ _ _ _ t hu2 ht0' ht64);replace HUB:=Hd (HUB.out.below hb2);replace HNN:=Hd (HNN.out.below hb2);replace HDD:=Hd (HDD.out.below hb2);replace HWB:=stB HWB hb2;clear hb2 hu2 HSM';go_wp2_with fail;refine HP'.out.mono ?_;rintro e w3 ⟨A3,m3,c3,rfl,hu3,hb3⟩;replace HUB:=Hd (HUB.out.below hb3);replace HNN:=Hd (HNN.out.below hb3);replace HDD:=Hd (HDD.out.below hb3);replace HWB:=stB HWB hb3
     obtain⟨cv,hcv⟩:∃ cv,cmp3 (t ^ n) (a / b)=cv:=⟨_,rfl⟩
     have HC':=Hd (HCP.out _ _ _ _ t _ _ _ cv hcv hu3 HUB.out);have HCV:=Hd (show ¬ 0<cv↔t ^ n≤a / b from by rw [← hcv,cmp3_pos];omega);clear hb3 hu3 HP' hcv;go_wp2_with fail;refine HC'.out.mono ?_;rintro e w4 ⟨rfl,hb4⟩;replace HUB:=Hd (HUB.out.below hb4);replace HNN:=Hd (HNN.out.below hb4);replace HDD:=Hd (HDD.out.below hb4);replace HWB:=stB HWB hb4;clear hb4 HC';have hcv:=HCV.out;have hti:=HTI.out;have s1:=HS1.out;have s2:=HS2.out;clear HCV HTI HS1 HS2
     by_cases hc0:cv≤0
     ·have e1:=s1 (hti.1 (hcv.1 (by omega)));clear s1 s2 hti hcv;go_wp2
      exact⟨⟨i,rfl,by rw [e1],by omega,HUB.out,HNN.out,HDD.out,HWB.out⟩,by simp [intOf]⟩
     ·have e1:=s2 (fun h=>hc0 (by have:=hcv.2 (hti.2 h);omega));clear s1 s2 hti hcv;go_wp2
      exact⟨⟨i,rfl,by rw [e1],by omega,HUB.out,HNN.out,HDD.out,HWB.out⟩,by simp [intOf]⟩
    case inl=>
     subst h0
     obtain rfl:R=r0:=by rw [← HR0.out,hi_zero]
     clear HR0;have HSM':=Hd (HSM.out wr R (by omega));go_wp2_with fail;refine HSM'.out.mono ?_;rintro e w2 ⟨A2,m2,c2,rfl,hu2,hb2⟩;have HP':=Hd (HPW.out _ _ _ _ R hu2 (by omega) (by omega));replace HNN:=Hd (HNN.out.below hb2);replace HDD:=Hd (HDD.out.below hb2);replace HWB:=stB HWB hb2;clear hb2 hu2 HSM' HUB HPW;go_wp2_with fail;refine HP'.out.mono ?_;rintro e w3 ⟨A3,m3,c3,rfl,hu3,hb3⟩;replace HNN:=Hd (HNN.out.below hb3);replace HDD:=Hd (HDD.out.below hb3);replace HWB:=stB HWB hb3;have HC':=Hd (HTM.out _ _ _ _ _ _ _ hu3 HDD.out);clear hb3 hu3 HP' HTM;go_wp2_with fail;refine HC'.out.mono ?_;rintro e w4 ⟨A4,m4,c4,rfl,hu4,hb4⟩;replace HNN:=Hd (HNN.out.below hb4);replace HWB:=stB HWB hb4;have HQ':=Hd (HCQ.out _ _ _ _ _ _ _ hu4 HNN.out);clear hb4 hu4 HC' HCQ HDD HNN;go_wp2_with fail;refine HQ'.out.mono ?_;rintro e w5 ⟨rfl,hb5⟩;replace HWB:=stB HWB hb5;clear hb5 HQ';have hov:=HOV.out;clear HOV HRR HLGE HLG HCP HPK HQK HAK HBK
     by_cases hc0:cc=0
     case' pos=>
      obtain rfl:ov=0:=by rw [if_pos hc0] at hov;exact hov.symm
      have HSM2:=Hd fun W=>HSM.out W 0 (by omega)
     case' neg=>
      obtain rfl:ov=1:=by rw [if_neg hc0] at hov;exact hov.symm
      have HSM2:=Hd fun W=>HSM.out W 1 (by omega)
     all_goals
      clear hov;go_wp2_with fail;refine (HSM.out _ R (by omega)).mono ?_;rintro e w6 ⟨A6,m6,c6,rfl,hu6,hb6⟩;replace HWB:=stB HWB hb6;have HC':=Hd (HL1'.out _ _ _ _ hu6);clear hu6 hb6 HL1';go_wp2_with fail;refine HC'.out.mono ?_;rintro e w7 ⟨A7,m7,c7,rfl,hu7,hb7⟩;replace HWB:=stB HWB hb7;have HU7:=Hd hu7;clear hu7 hb7 HC';go_wp2_with fail;refine (HSM2.out _).mono ?_;rintro e w8 ⟨A8,m8,c8,rfl,hu8,hb8⟩;replace HWB:=stB HWB hb8;have HC':=Hd (HPL.out _ _ _ _ _ _ _ (HU7.out.below hb8) hu8);clear hu8 hb8 HU7 HSM HSM2 HPL;go_wp2_with fail;refine HC'.out.mono ?_;rintro e w9 ⟨A9,m9,c9,rfl,hu9,hb9⟩;replace HWB:=stB HWB hb9
      have hl1:U32s (w9.alloc (.cells #[.int .u32 1] 117)) (some ⟨w9.heap.size,0,none⟩) 1 1 (digs 1):=by rw [digs_one];exact U32s.lit1 w9 117 (a:=1) (by omega)
      have HF':=Hd (HFIN.out _ _ _ _ _ (hu9.alloc (.cells #[.int .u32 1] 117)) hl1);replace HWB:=stB HWB (below_alloc w9 (.cells #[.int .u32 1] 117));clear hu9 hb9 hl1 HC' HFIN;go_wp2_with fail;refine HF'.out.mono ?_;rintro e w10 ⟨g10,A10,m10,c10,B10,n10,d10,rfl,hr10,hb10⟩;replace HWB:=stB HWB hb10;have HB':=Hd (HBIT.out _ _ _ _ _ _ _ _ hr10);clear hr10 hb10 HF' HBIT;go_wp2_with fail;refine HB'.out.mono ?_;rintro e w11 ⟨rfl,hb11⟩;replace HWB:=stB HWB hb11;clear hb11 HB';go_wp2
      go_ret
      exact⟨rfl,HWB.out⟩
set_option maxRecDepth 8000 in
theorem rootof_neg(d:Int)(n p q a b g R lp lq lg:Nat)(f k1 k2 P1 P2 t0 t1 t2 cc:Int)(ov z K K2:Nat)(y:Rat)(A:Option Addr)(n1 c1:Nat)(B:Option Addr)(m1 d1:Nat)(w:World)
  (hu:U32s w A n1 c1 (digs p))(hv:U32s w B m1 d1 (digs q))(hpK:p<2 ^ (32*K))(hqK:q<2 ^ (32*K))(haK:a<2 ^ (32*K2))(hbK:b<2 ^ (32*K2))(hK:K≤1048576)(hK2:K2≤2097152)
  (hRS:∀ W,Below w.heap.size w W→Calls Tryz.prog 42 #[.agg #[.bool false,.slice A n1 c1,.slice B m1 d1]] W fun e w'=>e=.returned (.int .i64 1)∧Below W.heap.size W w')
  (hlp:blen p=lp)(hlq:blen q=lq)(hlpb:lp≤67108864)(hlqb:lq≤67108864)(hf:(lp:Int) - (lq:Int)=f)(hn:0<n)(hn2:n≤1024)
  (ht0:(f+(n:Int)*60).tdiv n=t0)(hk1:61<t0→60 - (t0 - 60)=k1∧60≠k1)(hk1':¬ 61<t0→k1=60)(hP1:(n:Int)*k1=P1)(ht1:(f+P1).tdiv n=t1)(h61:¬ 61<t1)
  (hk2:t1<59→k1+(60 - t1)=k2∧k1≠k2)(hk2':¬ t1<59→k2=k1)(hP2:(n:Int)*k2=P2)(ht2:(f+P2).tdiv n=t2)(h59:¬ t2<59)
  (bk:-4300000≤k1∧k1≤4300000∧-4300000≤k2∧k2≤4300000∧-4300000≤P1∧P1≤4300000∧-4300000≤P2∧P2≤4300000∧-4300000≤t0∧t0≤4300000∧-4300000≤t1∧t1≤4300000)(hfb:-4194304≤f∧f≤4194304)
  (hg:-P2=(g:Int))(hk0:k2<0)(hab:p=a∧q*2 ^ g=b)(hb0:0<b)(hR:IsR (a / b) n R)(hlg:blen (a / b)=lg)(hlgb:lg≤67108864)(hR1:144115188075855872≤R)(hR2:R<4611686018427387904)(hcc:cmp3 (R ^ n*b) a=cc)(hov:(if cc=0 then 0 else 1)=ov)
  (hfin:∀ W C m' d' D,U32s W C m' d' (digs (2*R+ov))→U32s W D 1 1 (digs 1)→Calls Tryz.prog 96 #[.bool false,.slice C m' d',.slice D 1 1,.int .i64 (-k2 - 1)] W (NewRatS W 70000 y))
  (hbit:∀ W g' C m' d' D n' e',RatV W 70000 g' (.slice C m' d') (.slice D n' e') y→Calls Tryz.prog 207 #[.int .i64 d,.agg #[.bool g',.slice C m' d',.slice D n' e']] W fun e w'=>e=.returned (.int .u64 (z:Int))∧Below W.heap.size W w'):
  Calls Tryz.prog 237 #[.int .i64 d,.agg #[.bool false,.slice A n1 c1,.slice B m1 d1],.int .i64 (n:Int)] w fun e w'=>e=.returned (.int .u64 (z:Int))∧Below w.heap.size w w':=by
 have HU:=Hd hu;have HV:=Hd hv;have hn1:=hu.len_le hpK;have hm1:=hv.len_le hqK;have HRS:=Hd hRS;have HL1:=Hd fun W (h:U32s W A n1 c1 (digs p))=>len_b h hlp;have HL2:=Hd fun W (h:U32s W B m1 d1 (digs q))=>len_b h hlq;have HK1:=Hd hk1;have HK1':=Hd hk1';have HK2:=Hd hk2;have HK2':=Hd hk2';have HAB:=Hd hab;have HRR:=Hd hR;have HLGE:=Hd hlg;have HLG:=Hd fun W C m' d' (h:U32s W C m' d' (digs (a / b)))=>len_b h hlg;have HCC:=Hd hcc;have HOV:=Hd hov;have HFIN:=Hd hfin;have HBIT:=Hd hbit
 have hn0:¬ (n:Int)=0:=by omega
 have HP1:=Hd hP1;have HP2:=Hd hP2;have HT0:=Hd ht0;have HT1:=Hd ht1;have HT2:=Hd ht2;have HPK:=Hd hpK;have HQK:=Hd hqK;have HAK:=Hd haK;have HBK:=Hd hbK;have HG:=Hd hg;have HB0:=Hd hb0
 obtain⟨S,hS1,hS2,hS3⟩:∃ S:Nat,2≤S∧2048≤S∧S≤1073741824:=⟨2048,by omega,by omega,by omega⟩
 have HLF:=Hd (show ∀ W,U32s W B m1 d1 (digs q)→Calls Tryz.prog 166 #[.slice B m1 d1,.int .i64 (-P2)] W (NewU32 W (digs b)) from fun W h=>by rw [hg,← hab.2];exact left_v B m1 d1 g W h (by omega) (by omega));have HBY:=Hd fun W An nn cn Ad nd cd (h:U32s W An nn cn (digs a)) (h2:U32s W Ad nd cd (digs b))=>by_v An Ad nn cn nd cd W h h2 (by have:=h.len_le haK;omega) (by have:=h2.len_le hbK;omega) hb0;have HSM:=Hd fun W (v:Nat) (hv:v<18446744073709551616)=>small_any v W hv;have HPW:=Hd fun W A' m' c' (t:Nat) (h:U32s W A' m' c' (digs t)) (h0:0<t) (h1:t<18446744073709551616)=>power_v (n:=n) (S:=S) h h0 (lt_64 hS1 h1) hn (pow_lt_64 hS2 h1 hn hn2) hS3 (by omega);have HCP:=Hd fun W A' m' c' (t:Nat) (B':Option Addr) (m'' c'':Nat) (cv:Int) (hc:cmp3 (t ^ n) (a / b)=cv) (h:U32s W A' m' c' (digs (t ^ n))) (h2:U32s W B' m'' c'' (digs (a / b)))=>cmp_b6 h h2 hc;have HTM:=Hd fun W A' m' c' Ad nd cd (h:U32s W A' m' c' (digs (R ^ n))) (h2:U32s W Ad nd cd (digs b))=>times_r h h2 (by have:=h.len_le (pow_lt_64 (t:=R) hS2 (by omega) hn hn2);omega) (by have:=h2.len_le hbK;omega);have HCQ:=Hd fun W A' m' c' An nn cn (h:U32s W A' m' c' (digs (R ^ n*b))) (h2:U32s W An nn cn (digs a))=>cmp_b6 h h2 hcc;have HL1':=Hd fun W A' m' c' (h:U32s W A' m' c' (digs R))=>left_d1 h (by have:=h.len_le (show R<2 ^ (32*2) by omega);omega);have HPL:=Hd fun W A' m' c' B' m'' c'' (h:U32s W A' m' c' (digs (2*R))) (h2:U32s W B' m'' c'' (digs ov))=>plus_v6 h h2 (by have:=h.len_le (show 2*R<2 ^ (32*2) by omega);omega) (by have:=h2.len_le (show ov<2 ^ (32*1) by rw [← hov];split<;>omega);omega)
 have hov1:ov≤1:=by rw [← hov];split<;>omega
 obtain⟨bk1,bk2,bk3,bk4,bk5,bk6,bk7,bk8,bk9,bk10,bk11,bk12⟩:=bk;clear hu hv hpK hqK haK hbK hRS hlp hlq hk1 hk1' hk2 hk2' hab hR hlg hcc hov hfin hbit hP1 hP2 ht0 ht1 ht2 hg hb0 hS1 hS2 hS3;have LL:=li1 w #[.bool false,.slice A n1 c1,.slice B m1 d1] 42;have HUU:=Hd (HU.out.below LL.out.b);have HVV:=Hd (HV.out.below LL.out.b);clear HU HV
 go_enter Tryz.func237,Tryz.ntmps237
 obtain⟨q1_0,q1_1,q1_2⟩:=(LL.out.blk 0 rfl).c3;go_wp2_with fail;refine (HRS.out _ LL.out.b).mono ?_;rintro e wk ⟨rfl,hb⟩;replace LL:=stL LL hb;replace HUU:=Hd (HUU.out.below hb);replace HVV:=Hd (HVV.out.below hb);clear hb q1_0 q1_1 q1_2;clear HRS
 go_upto_region 4 with fail
 refine regL LL (fun hHeld=>?_);clear LL;replace HUU:=Hd (HUU.out.below (Below.refl _ _).drew);replace HVV:=Hd (HVV.out.below (Below.refl _ _).drew);generalize World.drew _=wk at hHeld HUU HVV ⊢;refine tk 0 ?_;(try simp only [Act.put,lay]);refine tk 1 ?_ (hv:=by intro W2 hSw;obtain⟨q0,q1,q2⟩:=(hSw.blk 0 rfl).c3;go_simp;(try with_reducible rfl));(try simp only [Act.put,lay]);refine tk 3 ?_;(try simp only [Act.put,lay]);refine tk 4 ?_ (hv:=by intro W2 hSw;obtain⟨q0,q1,q2⟩:=(hSw.blk 0 rfl).c3;go_simp;(try with_reducible rfl));(try simp only [Act.put,lay]);refine rdy 2 (fun KK hKK=>?_);go_simp;refine (HL1.out _ HUU.out).mono ?_;rintro e wk ⟨rfl,hb1⟩;go_wp2_with fail;refine hKK.out _ _ (hHeld.keep hb1) (fun _=>?_);clear hKK KK hHeld;rename_i hHeld;(try simp only [Act.put,lay]);replace HUU:=Hd (HUU.out.below hb1);replace HVV:=Hd (HVV.out.below hb1);clear hb1;refine rdy 5 (fun KK hKK=>?_);go_simp;refine (HL2.out _ HVV.out).mono ?_;rintro e wk ⟨rfl,hb2⟩;go_wp2_with fail;refine hKK.out _ _ (hHeld.keep hb2) (fun _=>?_);clear hKK KK hHeld;rename_i hHeld;(try simp only [Act.put,lay]);replace HUU:=Hd (HUU.out.below hb2);replace HVV:=Hd (HVV.out.below hb2);clear hb2;refine tk 6 ?_;(try simp only [Act.put,lay]);refine tk 7 ?_;(try simp only [Act.put,lay]);refine wpAnyH_done (by kernel_rfl) ?_ _;have LL:=Hd hHeld;clear hHeld;clear HL1 HL2
 obtain⟨wa,rfl⟩:∃ X,X=wk:=⟨_,rfl⟩
 go_wp2
 go_loopw [9] (fun kv wr=>∃ kk:Int,kv=.int .i64 kk∧(kk=k1∨(kk=60∧61<t0))∧wr=wa) (fun kv _=>if intOf kv=k1 then 0 else 1)
 case atStart=>
  by_cases h:61<t0
  ·exact⟨60,rfl,.inr ⟨rfl,h⟩,rfl⟩
  ·exact⟨60,rfl,.inl (HK1'.out (by omega)).symm,rfl⟩
 case round=>
  obtain⟨kk,rfl,hkk,hwr⟩:=hrel;subst hwr
  by_cases hke:kk=k1
  case neg=>
   obtain⟨rfl,h60⟩:kk=60∧61<t0:=by rcases hkk with h | h;exact absurd h hke;exact h
   obtain⟨e1,e2⟩:=HK1.out h60;have ht0:=HT0.out
   have f1:IntKind.i64.wrap t0=t0:=by rw [IntKind.wrap_i64];omega
   clear hkk;go_wp2
   exact⟨⟨k1,rfl,.inl rfl,trivial⟩,by show (if k1=k1 then 0 else 1)<(if (60:Int)=k1 then 0 else 1);rw [if_pos rfl,if_neg e2];omega⟩
  subst hke;clear hkk HK1 HK1';have hP1:=HP1.out;have ht1:=HT1.out
  have f1:IntKind.i64.wrap t1=t1:=by rw [IntKind.wrap_i64];omega
  clear HP1 HT1;go_wp2
  go_loopw [9] (fun kv wr'=>∃ kj:Int,kv=.int .i64 kj∧(kj=k2∨(kj=kk∧t1<59))∧wr'=wr) (fun kv _=>if intOf kv=k2 then 0 else 1)
  case atStart=>
   by_cases h:t1<59
   ·exact⟨kk,rfl,.inr ⟨rfl,h⟩,rfl⟩
   ·exact⟨kk,rfl,.inl (HK2'.out (by omega)).symm,rfl⟩
  case round=>
   obtain⟨kj,rfl,hkj,hwr⟩:=hrel;subst hwr
   by_cases hje:kj=k2
   case neg=>
    obtain⟨ek,h59'⟩:kj=kk∧t1<59:=by rcases hkj with h | h;exact absurd h hje;exact h
    subst ek;obtain⟨e1,e2⟩:=HK2.out h59';clear hkj;go_wp2
    exact⟨⟨k2,rfl,.inl rfl,trivial⟩,by show (if k2=k2 then 0 else 1)<(if kj=k2 then 0 else 1);rw [if_pos rfl,if_neg hje];omega⟩
   subst hje;clear hkj HK2 HK2' hP1 ht1 f1;have hP2:=HP2.out;have ht2:=HT2.out
   have ht2b:t2≤8600000:=by
    have h1:t2.natAbs=(f+P2).natAbs / (n:Int).natAbs:=by rw [← ht2,Int.natAbs_tdiv];rfl
    have h2:=Nat.div_le_self (f+P2).natAbs (n:Int).natAbs
    omega
   have f1:IntKind.i64.wrap t2=t2:=by rw [IntKind.wrap_i64];omega
   clear HP2 HT2
   have hw2:wrap64 (-(n:Int)*kj)=-P2:=by rw [Int.neg_mul,hP2];unfold wrap64;omega
   obtain⟨q2_0,q2_1,q2_2⟩:=(LL.out.blk 0 rfl).c3;go_wp2_with fail;skip;refine (HLF.out _ HVV.out).mono ?_;rintro e wk ⟨Ad,nd,cd,rfl,hu2,hb2⟩;replace LL:=stL LL hb2;replace HUU:=Hd (HUU.out.below hb2);replace HVV:=Hd (HVV.out.below hb2);clear hb2;have HDD:=Hd hu2;have HNN:=HUU;rw [HAB.out.1] at HNN;clear hu2 HLF HUU HVV q2_0 q2_1 q2_2;go_wp2_with fail;refine (HBY.out _ _ _ _ _ _ _ HNN.out HDD.out).mono ?_;rintro e wk ⟨Ab,nb,cb,Ar,nr,cr,rfl,hub,-,hb3⟩;replace LL:=stL LL hb3;replace HNN:=Hd (HNN.out.below hb3);replace HDD:=Hd (HDD.out.below hb3);clear hb3 HBY;have HUB:=Hd hub;clear hub;have HWB:=Hd LL.out.b;clear LL;go_wp2
   go_loopw [14,15] (fun rv iv wr=>∃ k:Nat,iv=.int .i64 ((k:Int) - 1)∧rv=.int .u64 ((hi R k:Nat):Int)∧k≤63∧U32s wr Ab nb cb (digs (a / b))∧U32s wr A n1 c1 (digs a)∧U32s wr Ad nd cd (digs b)∧Below w.heap.size w wr) (fun _ iv _=>(intOf iv+1).toNat)
   case atStart=>exact⟨63,rfl,by rw [hi_top hR2];rfl,by omega,HUB.out,HNN.out,HDD.out,HWB.out⟩
   case round=>
    obtain⟨k,rfl,rfl,hk,hub,hun,hud,hbw⟩:=hrel;clear HUB HNN HDD HWB;have HUB:=Hd hub;have HNN:=Hd hun;have HDD:=Hd hud;have HWB:=Hd hbw;clear hub hun hud hbw;have hlr:=hi_le R k
    obtain⟨r0,hr0⟩:∃ r,hi R k=r:=⟨_,rfl⟩
    rw [hr0] at hlr ⊢;have HR0:=Hd hr0;clear hr0
    rcases Nat.eq_zero_or_pos k with h0 | h0
    case inr=>
     obtain⟨i,rfl⟩:∃ i,k=i+1:=⟨k - 1,by omega⟩
     rw [show (((i+1:Nat):Int) - 1)=(i:Int) from by omega];obtain⟨s1,s2⟩:=hi_step R i;have so:=hi_or R i;rw [HR0.out] at s1 s2 so
     obtain⟨P,hP⟩:∃ P,2 ^ i=P:=⟨_,rfl⟩
     have hP1:0<P:=by rw [← hP];exact Nat.two_pow_pos i
     have hP2':P≤4611686018427387904:=by rw [← hP];exact (show 2 ^ i≤2 ^ 62 from Nat.pow_le_pow_right (by omega) (by omega))
     have hsh:=sh_one (show i<63 by omega) hP;have HTL:=Hd fun (h:lg≤n*i)=>try_long (t:=r0+P) HRR.out (i:=i) (by rw [hP];omega) (by rw [HLGE.out];exact h);rw [hP] at s1 s2 so
     obtain⟨t,ht⟩:∃ t,r0+P=t:=⟨_,rfl⟩
     have hor:bits .or .u64 (r0:Int) (P:Int)=(t:Int):=by rw [u64_or_nat _ _ (by omega) (by omega),so,ht]
     rw [ht] at s1 s2 HTL
     have ht64:t<18446744073709551616:=by omega
     have ht0':0<t:=by omega
     have HS1:=Hd s1;have HS2:=Hd s2;have HTI:=Hd (try_iff (t:=t) HRR.out)
     obtain⟨ni,hni⟩:∃ x,n*i=x:=⟨_,rfl⟩
     have hni1:(n:Int)*(i:Int)=(ni:Int):=by rw [← hni];simp
     have hni2:ni≤1024*62:=by rw [← hni];exact Nat.mul_le_mul hn2 (by omega)
     rw [hni] at HTL;clear s1 s2 so ht hP hni HR0 h0;have HLG':=Hd (HLG.out _ _ _ _ HUB.out);go_wp2_with fail;refine HLG'.out.mono ?_;rintro e w1 ⟨rfl,hb1⟩;replace HUB:=Hd (HUB.out.below hb1);replace HNN:=Hd (HNN.out.below hb1);replace HDD:=Hd (HDD.out.below hb1);replace HWB:=stB HWB hb1;clear hb1 HLG' hsh hor
     by_cases hl:ni<lg
     case neg=>
      have hl1:¬ (ni:Int)<(lg:Int):=by omega
      have e1:=HS2.out (HTL.out (by omega));have hd:decide (ni<lg)=false:=decide_eq_false hl;clear HS1 HS2 HTI HTL;go_wp2
      exact⟨⟨i,rfl,by rw [e1],by omega,HUB.out,HNN.out,HDD.out,HWB.out⟩,by simp [intOf]⟩
     have hl1:(ni:Int)<(lg:Int):=by omega
     clear HTL;have HSM':=Hd (HSM.out w1 t ht64);go_wp2_with fail;refine HSM'.out.mono ?_;rintro e w2 ⟨A2,m2,c2,rfl,hu2,hb2⟩;have HP':=Hd (HPW.out _ _ _ _ t hu2 ht0' ht64);replace HUB:=Hd (HUB.out.below hb2);replace HNN:=Hd (HNN.out.below hb2);replace HDD:=Hd (HDD.out.below hb2);replace HWB:=stB HWB hb2;clear hb2 hu2 HSM';go_wp2_with fail;refine HP'.out.mono ?_;rintro e w3 ⟨A3,m3,c3,rfl,hu3,hb3⟩;replace HUB:=Hd (HUB.out.below hb3);replace HNN:=Hd (HNN.out.below hb3);replace HDD:=Hd (HDD.out.below hb3);replace HWB:=stB HWB hb3
     obtain⟨cv,hcv⟩:∃ cv,cmp3 (t ^ n) (a / b)=cv:=⟨_,rfl⟩
     have HC':=Hd (HCP.out _ _ _ _ t _ _ _ cv hcv hu3 HUB.out);have HCV:=Hd (show ¬ 0<cv↔t ^ n≤a / b from by rw [← hcv,cmp3_pos];omega);clear hb3 hu3 HP' hcv;go_wp2_with fail;refine HC'.out.mono ?_;rintro e w4 ⟨rfl,hb4⟩;replace HUB:=Hd (HUB.out.below hb4);replace HNN:=Hd (HNN.out.below hb4);replace HDD:=Hd (HDD.out.below hb4);replace HWB:=stB HWB hb4;clear hb4 HC';have hcv:=HCV.out;have hti:=HTI.out;have s1:=HS1.out;have s2:=HS2.out;clear HCV HTI HS1 HS2
     by_cases hc0:cv≤0
     ·have e1:=s1 (hti.1 (hcv.1 (by omega)));clear s1 s2 hti hcv;go_wp2
      exact⟨⟨i,rfl,by rw [e1],by omega,HUB.out,HNN.out,HDD.out,HWB.out⟩,by simp [intOf]⟩
     ·have e1:=s2 (fun h=>hc0 (by have:=hcv.2 (hti.2 h);omega));clear s1 s2 hti hcv;go_wp2
      exact⟨⟨i,rfl,by rw [e1],by omega,HUB.out,HNN.out,HDD.out,HWB.out⟩,by simp [intOf]⟩
    case inl=>
     subst h0
     obtain rfl:R=r0:=by rw [← HR0.out,hi_zero]
     clear HR0;have HSM':=Hd (HSM.out wr R (by omega));go_wp2_with fail;refine HSM'.out.mono ?_;rintro e w2 ⟨A2,m2,c2,rfl,hu2,hb2⟩;have HP':=Hd (HPW.out _ _ _ _ R hu2 (by omega) (by omega));replace HNN:=Hd (HNN.out.below hb2);replace HDD:=Hd (HDD.out.below hb2);replace HWB:=stB HWB hb2;clear hb2 hu2 HSM' HUB HPW;go_wp2_with fail;refine HP'.out.mono ?_;rintro e w3 ⟨A3,m3,c3,rfl,hu3,hb3⟩;replace HNN:=Hd (HNN.out.below hb3);replace HDD:=Hd (HDD.out.below hb3);replace HWB:=stB HWB hb3;have HC':=Hd (HTM.out _ _ _ _ _ _ _ hu3 HDD.out);clear hb3 hu3 HP' HTM;go_wp2_with fail;refine HC'.out.mono ?_;rintro e w4 ⟨A4,m4,c4,rfl,hu4,hb4⟩;replace HNN:=Hd (HNN.out.below hb4);replace HWB:=stB HWB hb4;have HQ':=Hd (HCQ.out _ _ _ _ _ _ _ hu4 HNN.out);clear hb4 hu4 HC' HCQ HDD HNN;go_wp2_with fail;refine HQ'.out.mono ?_;rintro e w5 ⟨rfl,hb5⟩;replace HWB:=stB HWB hb5;clear hb5 HQ';have hov:=HOV.out;clear HOV HRR HLGE HLG HCP HPK HQK HAK HBK
     by_cases hc0:cc=0
     case' pos=>
      obtain rfl:ov=0:=by rw [if_pos hc0] at hov;exact hov.symm
      have HSM2:=Hd fun W=>HSM.out W 0 (by omega)
     case' neg=>
      obtain rfl:ov=1:=by rw [if_neg hc0] at hov;exact hov.symm
      have HSM2:=Hd fun W=>HSM.out W 1 (by omega)
     all_goals
      clear hov;go_wp2_with fail;refine (HSM.out _ R (by omega)).mono ?_;rintro e w6 ⟨A6,m6,c6,rfl,hu6,hb6⟩;replace HWB:=stB HWB hb6;have HC':=Hd (HL1'.out _ _ _ _ hu6);clear hu6 hb6 HL1';go_wp2_with fail;refine HC'.out.mono ?_;rintro e w7 ⟨A7,m7,c7,rfl,hu7,hb7⟩;replace HWB:=stB HWB hb7;have HU7:=Hd hu7;clear hu7 hb7 HC';go_wp2_with fail;refine (HSM2.out _).mono ?_;rintro e w8 ⟨A8,m8,c8,rfl,hu8,hb8⟩;replace HWB:=stB HWB hb8;have HC':=Hd (HPL.out _ _ _ _ _ _ _ (HU7.out.below hb8) hu8);clear hu8 hb8 HU7 HSM HSM2 HPL;go_wp2_with fail;refine HC'.out.mono ?_;rintro e w9 ⟨A9,m9,c9,rfl,hu9,hb9⟩;replace HWB:=stB HWB hb9
      have hl1:U32s (w9.alloc (.cells #[.int .u32 1] 117)) (some ⟨w9.heap.size,0,none⟩) 1 1 (digs 1):=by rw [digs_one];exact U32s.lit1 w9 117 (a:=1) (by omega)
      have HF':=Hd (HFIN.out _ _ _ _ _ (hu9.alloc (.cells #[.int .u32 1] 117)) hl1);replace HWB:=stB HWB (below_alloc w9 (.cells #[.int .u32 1] 117));clear hu9 hb9 hl1 HC' HFIN;go_wp2_with fail;refine HF'.out.mono ?_;rintro e w10 ⟨g10,A10,m10,c10,B10,n10,d10,rfl,hr10,hb10⟩;replace HWB:=stB HWB hb10;have HB':=Hd (HBIT.out _ _ _ _ _ _ _ _ hr10);clear hr10 hb10 HF' HBIT;go_wp2_with fail;refine HB'.out.mono ?_;rintro e w11 ⟨rfl,hb11⟩;replace HWB:=stB HWB hb11;clear hb11 HB';go_wp2
      go_ret
      exact⟨rfl,HWB.out⟩
end
end Go.Proofs.YthlmlmfebpjgdaaGreatDoor
