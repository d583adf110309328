/-
Lemmas for the statement: GrwI TabL.
-/
import Derived.Test.YthlmlmfebpjgdaaGreatDoorM02
import Derived.Test.YthlmlmfebpjgdaaGreatDoorM19
import Derived.Test.YthlmlmfebpjgdaaGreatDoorM18
import Derived.Test.YthlmlmfebpjgdaaGreatDoorM12
import Derived.Test.YthlmlmfebpjgdaaGreatDoorM13
import Derived.Test.YthlmlmfebpjgdaaGreatDoorRows
import Derived.WalkKit
import Derived.ProofKit
import Derived.JoinedOf
import Derived.RowKit
set_option linter.unusedSimpArgs false
set_option linter.unusedVariables false
set_option maxHeartbeats 12800000
namespace Go.Proofs.YthlmlmfebpjgdaaGreatDoor
section
open Go.RowKit
theorem twow_any(k:Nat)(hk:k<=22)(b1 b2 c1 c2 x y:Nat)(w:World)(hb1:b1<18446744073709551616)(hb2:b2<18446744073709551616)(hc1:c1<18446744073709551616)(hc2:c2<18446744073709551616)(hx:x<18446744073709551616)(hy:y<18446744073709551616)(hT:Tab w):
  Rt 70 #[.int .i64 (k:Int),Zf b1 b2,Zf c1 c2,Zf x y] (Zf (pat (opw k (rd b1 b2) (rd c1 c2) (rd x y).1 (rd x y).2).1) (pat (opw k (rd b1 b2) (rd c1 c2) (rd x y).1 (rd x y).2).2)) w:=by
 refine two_all k hk b1 b2 c1 c2 x y _ _ w (fun W t=>?_) hT
 match k,hk with
 | 0,_=>exact revadd_any b1 b2 c1 c2 x y W hb1 hb2 hc1 hc2 hx hy
 | 1,_=>exact revsub1_any b1 b2 c1 c2 x y W hb1 hb2 hc1 hc2 hx hy
 | 2,_=>exact revsub2_any b1 b2 c1 c2 x y W hb1 hb2 hc1 hc2 hx hy
 | 3,_=>exact mulrev_any b1 b2 c1 c2 x y W hb1 hb2 hc1 hc2 hx hy
 | 4,_=>exact divrev1_any b1 b2 c1 c2 x y W hb1 hb2 hc1 hc2 hx hy
 | 5,_=>exact divrev2_any b1 b2 c1 c2 x y W hb1 hb2 hc1 hc2 hx hy
 | 6,_=>exact revmin_any b1 b2 c1 c2 x y W hb1 hb2 hc1 hc2 hx hy
 | 7,_=>exact revmax_any b1 b2 c1 c2 x y W hb1 hb2 hc1 hc2 hx hy
 | 8,_=>exact negrev_any c1 c2 x y W hc1 hc2 hx hy
 | 9,_=>exact reciprev_any c1 c2 x y W hc1 hc2 hx hy
 | 10,_=>exact sqrrev_any c1 c2 x y W hc1 hc2 hx hy
 | 11,_=>exact sqrtrev_any c1 c2 x y W hc1 hc2 hx hy
 | 12,_=>exact absrev_any c1 c2 x y W hc1 hc2 hx hy
 | 13,_=>exact signrev_any c1 c2 x y W hc1 hc2 hx hy
 | 14,_=>exact floorrev_any c1 c2 x y W hc1 hc2 hx hy
 | 15,_=>exact ceilrev_any c1 c2 x y W hc1 hc2 hx hy
 | 16,_=>exact truncrev_any c1 c2 x y W hc1 hc2 hx hy
 | 17,_=>exact evenrev_any c1 c2 x y W hc1 hc2 hx hy
 | 18,_=>exact awayrev_any c1 c2 x y W hc1 hc2 hx hy
 | 19,_=>exact pownz_any 3 c1 c2 x y W hc1 hc2 hx hy t
 | 20,_=>exact pownz_any (-2) c1 c2 x y W hc1 hc2 hx hy t
 | 21,_=>exact fmarev_any b1 b2 c1 c2 x y x y W hb1 hb2 hc1 hc2 hx hy hx hy
 | 22,_=>exact fmaadd_any b1 b2 c1 c2 x y x y W hb1 hb2 hc1 hc2 hx hy hx hy
 | k+23,h=>omega
theorem grows_full(b1 b2 c1 c2 x1 x2 s1 s2 t1 t2 u1 u2:Nat)(w:World)(hb1:b1<18446744073709551616)(hb2:b2<18446744073709551616)(hc1:c1<18446744073709551616)(hc2:c2<18446744073709551616)(hx:x1<18446744073709551616)(hy:x2<18446744073709551616)(hs1:s1<18446744073709551616)(hs2:s2<18446744073709551616)(ht1:t1<18446744073709551616)(ht2:t2<18446744073709551616)(hu1:u1<18446744073709551616)(hu2:u2<18446744073709551616)(hT:Tab w):
  Rt 12 #[.agg #[.int .u64 (b1:Int),.int .u64 (b2:Int),.int .u64 (c1:Int),.int .u64 (c2:Int),.int .u64 (x1:Int),.int .u64 (x2:Int)],.agg #[.int .u64 (s1:Int),.int .u64 (s2:Int),.int .u64 (t1:Int),.int .u64 (t2:Int),.int .u64 (u1:Int),.int .u64 (u2:Int)]] (.bool true) w:=by
 have vb:=rd_iv b1 b2;have vc:=rd_iv c1 c2;have vx:=rd_iv x1 x2;have hb:=vb.hull (rd_iv s1 s2);have hc:=vc.hull (rd_iv t1 t2);have hz:=vx.hull (rd_iv u1 u2)
 have lt:∀ {i j:Int},Iv i j->pat i<18446744073709551616/\pat j<18446744073709551616:=fun h=>⟨pat_lt h.lo.1 h.lo.2,pat_lt h.hi.1 h.hi.2⟩
 refine grows_law b1 b2 c1 c2 x1 x2 s1 s2 t1 t2 u1 u2 _ _ _ _ _ _ w hT awake_any (fun W=>hull_any b1 b2 s1 s2 W hb1 hb2 hs1 hs2) (fun W=>hull_any c1 c2 t1 t2 W hc1 hc2 ht1 ht2) (fun W=>hull_any x1 x2 u1 u2 W hx hy hu1 hu2) (fun k hk=>?_);have A:=fun W t=>twow_any k hk b1 b2 c1 c2 x1 x2 W hb1 hb2 hc1 hc2 hx hy t;have B:=fun W t=>twow_any k hk _ _ _ _ _ _ W (lt hb).1 (lt hb).2 (lt hc).1 (lt hc).2 (lt hz).1 (lt hz).2 t;rw [rd_pat hb,rd_pat hc,rd_pat hz] at B;have ia:=opw_iv k vb vc vx;have ib:=opw_iv k (b:=(min (rd b1 b2).1 (rd s1 s2).1,max (rd b1 b2).2 (rd s1 s2).2)) (c:=(min (rd c1 c2).1 (rd t1 t2).1,max (rd c1 c2).2 (rd t1 t2).2)) hb hc hz;have g:=opw_gr k (b':=(min (rd b1 b2).1 (rd s1 s2).1,max (rd b1 b2).2 (rd s1 s2).2)) (c':=(min (rd c1 c2).1 (rd t1 t2).1,max (rd c1 c2).2 (rd t1 t2).2)) vb vc vx hb hc hz ⟨Int.min_le_left _ _,Int.le_max_left _ _⟩ ⟨Int.min_le_left _ _,Int.le_max_left _ _⟩ ⟨Int.min_le_left _ _,Int.le_max_left _ _⟩
 exact⟨_,_,_,_,A,B,fun W=>subset_in _ _ _ _ W (lt ia).1 (lt ia).2 (lt ib).1 (lt ib).2 (by rw [rd_pat ia,rd_pat ib];exact g.1) (by rw [rd_pat ia,rd_pat ib];exact g.2)⟩
end
section
open Go.ChangeShapes Go.WideShapes Go.RowKit
theorem int_of_trod{H:Type}{enc:TypeId × Value->H}{P:Program}{w:World}{base:Nat}{sp:Nat->Bool}{held:Bool}{fuel:Nat}{t:TypeId}{k:IntKind}{c:Value}{y:DataW H × List MemPlace}
  (ht:P.underlying t=some (.int k))(h:DataW.trod enc P w base sp held fuel t [c]=some y):∃ n,c=.int k n/\y=(.lit (.int k n),[]):=by
 cases fuel with
 | zero=>simp [DataW.trod] at h
 | succ fuel=>
  cases c<;>simp [DataW.trod,ht] at h
  rename_i k' n;obtain⟨⟨rfl,_⟩,rfl⟩:=h
  exact⟨n,rfl,rfl⟩
theorem gdb: Tryz.prog.globalNamed "math/bits.deBruijn32tab" = some 1 := by kernel_rfl
theorem gdbType:(Tryz.prog.globals[1]?).map (·.type)=some 226:=by kernel_rfl
theorem cellsTab:Tryz.prog.cellsOf 226=32:=by kernel_rfl
theorem cellsU8:Tryz.prog.cellsOf 5=1:=by kernel_rfl
def tabCells:Array Value:=#[.int .u8 0,.int .u8 1,.int .u8 28,.int .u8 2,.int .u8 29,.int .u8 14,.int .u8 24,.int .u8 3,.int .u8 30,.int .u8 22,.int .u8 20,.int .u8 15,.int .u8 25,.int .u8 17,.int .u8 4,.int .u8 8,.int .u8 31,.int .u8 27,.int .u8 13,.int .u8 23,.int .u8 21,.int .u8 19,.int .u8 16,.int .u8 7,.int .u8 26,.int .u8 12,.int .u8 18,.int .u8 6,.int .u8 11,.int .u8 5,.int .u8 10,.int .u8 9]
theorem split32{l:List Value}(h:l.length=32):∃ c0 c1 c2 c3 c4 c5 c6 c7 c8 c9 c10 c11 c12 c13 c14 c15 c16 c17 c18 c19 c20 c21 c22 c23 c24 c25 c26 c27 c28 c29 c30 c31,l=[c0,c1,c2,c3,c4,c5,c6,c7,c8,c9,c10,c11,c12,c13,c14,c15,c16,c17,c18,c19,c20,c21,c22,c23,c24,c25,c26,c27,c28,c29,c30,c31]:=by
 match l,h with
 | [c0,c1,c2,c3,c4,c5,c6,c7,c8,c9,c10,c11,c12,c13,c14,c15,c16,c17,c18,c19,c20,c21,c22,c23,c24,c25,c26,c27,c28,c29,c30,c31],_=>exact⟨c0,c1,c2,c3,c4,c5,c6,c7,c8,c9,c10,c11,c12,c13,c14,c15,c16,c17,c18,c19,c20,c21,c22,c23,c24,c25,c26,c27,c28,c29,c30,c31,rfl⟩
set_option maxRecDepth 100000 in
theorem tab_trod{enc:TypeId × Value->Unit}{W:World}{fuel:Nat}{l:List Value}{p:List MemPlace}{b:Nat}{sp:Nat->Bool}{hd:Bool}(h:DataW.trod enc Tryz.prog W b sp hd fuel 226 l=some (Rows.laid_math_bits_deBruijn32tab,p)):l=tabCells.toList:=by
 cases fuel with
 | zero=>simp [DataW.trod] at h
 | succ fuel=>
 simp only [DataW.trod,Tryz.underlying226,cellsTab,cellsU8] at h
 split at h
 case isFalse=>cases h
 rename_i hl;obtain⟨c0,c1,c2,c3,c4,c5,c6,c7,c8,c9,c10,c11,c12,c13,c14,c15,c16,c17,c18,c19,c20,c21,c22,c23,c24,c25,c26,c27,c28,c29,c30,c31,rfl⟩:=split32 (by simpa using hl);have e:List.range 32=[0,1,2,3,4,5,6,7,8,9,10,11,12,13,14,15,16,17,18,19,20,21,22,23,24,25,26,27,28,29,30,31]:=rfl;rw [e] at h
 simp only [Option.map_eq_some_iff,List.mapM_cons,List.mapM_nil,Option.bind_eq_bind,Option.bind_eq_some_iff,Option.pure_def,Option.some.injEq] at h
 obtain⟨xs,⟨y0,h0,_,⟨y1,h1,_,⟨y2,h2,_,⟨y3,h3,_,⟨y4,h4,_,⟨y5,h5,_,⟨y6,h6,_,⟨y7,h7,_,⟨y8,h8,_,⟨y9,h9,_,⟨y10,h10,_,⟨y11,h11,_,⟨y12,h12,_,⟨y13,h13,_,⟨y14,h14,_,⟨y15,h15,_,⟨y16,h16,_,⟨y17,h17,_,⟨y18,h18,_,⟨y19,h19,_,⟨y20,h20,_,⟨y21,h21,_,⟨y22,h22,_,⟨y23,h23,_,⟨y24,h24,_,⟨y25,h25,_,⟨y26,h26,_,⟨y27,h27,_,⟨y28,h28,_,⟨y29,h29,_,⟨y30,h30,_,⟨y31,h31,_,rfl,rfl⟩,rfl⟩,rfl⟩,rfl⟩,rfl⟩,rfl⟩,rfl⟩,rfl⟩,rfl⟩,rfl⟩,rfl⟩,rfl⟩,rfl⟩,rfl⟩,rfl⟩,rfl⟩,rfl⟩,rfl⟩,rfl⟩,rfl⟩,rfl⟩,rfl⟩,rfl⟩,rfl⟩,rfl⟩,rfl⟩,rfl⟩,rfl⟩,rfl⟩,rfl⟩,rfl⟩,rfl⟩,hx⟩:=h;obtain⟨n0,rfl,rfl⟩:=int_of_trod Tryz.underlying5 h0;obtain⟨n1,rfl,rfl⟩:=int_of_trod Tryz.underlying5 h1;obtain⟨n2,rfl,rfl⟩:=int_of_trod Tryz.underlying5 h2;obtain⟨n3,rfl,rfl⟩:=int_of_trod Tryz.underlying5 h3;obtain⟨n4,rfl,rfl⟩:=int_of_trod Tryz.underlying5 h4;obtain⟨n5,rfl,rfl⟩:=int_of_trod Tryz.underlying5 h5;obtain⟨n6,rfl,rfl⟩:=int_of_trod Tryz.underlying5 h6;obtain⟨n7,rfl,rfl⟩:=int_of_trod Tryz.underlying5 h7;obtain⟨n8,rfl,rfl⟩:=int_of_trod Tryz.underlying5 h8;obtain⟨n9,rfl,rfl⟩:=int_of_trod Tryz.underlying5 h9;obtain⟨n10,rfl,rfl⟩:=int_of_trod Tryz.underlying5 h10;obtain⟨n11,rfl,rfl⟩:=int_of_trod Tryz.underlying5 h11;obtain⟨n12,rfl,rfl⟩:=int_of_trod Tryz.underlying5 h12;obtain⟨n13,rfl,rfl⟩:=int_of_trod Tryz.underlying5 h13;obtain⟨n14,rfl,rfl⟩:=int_of_trod Tryz.underlying5 h14;obtain⟨n15,rfl,rfl⟩:=int_of_trod Tryz.underlying5 h15;obtain⟨n16,rfl,rfl⟩:=int_of_trod Tryz.underlying5 h16;obtain⟨n17,rfl,rfl⟩:=int_of_trod Tryz.underlying5 h17;obtain⟨n18,rfl,rfl⟩:=int_of_trod Tryz.underlying5 h18
 obtain⟨n19,rfl,rfl⟩:=int_of_trod Tryz.underlying5 h19;obtain⟨n20,rfl,rfl⟩:=int_of_trod Tryz.underlying5 h20;obtain⟨n21,rfl,rfl⟩:=int_of_trod Tryz.underlying5 h21;obtain⟨n22,rfl,rfl⟩:=int_of_trod Tryz.underlying5 h22;obtain⟨n23,rfl,rfl⟩:=int_of_trod Tryz.underlying5 h23;obtain⟨n24,rfl,rfl⟩:=int_of_trod Tryz.underlying5 h24;obtain⟨n25,rfl,rfl⟩:=int_of_trod Tryz.underlying5 h25;obtain⟨n26,rfl,rfl⟩:=int_of_trod Tryz.underlying5 h26;obtain⟨n27,rfl,rfl⟩:=int_of_trod Tryz.underlying5 h27;obtain⟨n28,rfl,rfl⟩:=int_of_trod Tryz.underlying5 h28;obtain⟨n29,rfl,rfl⟩:=int_of_trod Tryz.underlying5 h29;obtain⟨n30,rfl,rfl⟩:=int_of_trod Tryz.underlying5 h30;obtain⟨n31,rfl,rfl⟩:=int_of_trod Tryz.underlying5 h31
 simp [Rows.laid_math_bits_deBruijn32tab] at hx
 obtain⟨⟨rfl,rfl,rfl,rfl,rfl,rfl,rfl,rfl,rfl,rfl,rfl,rfl,rfl,rfl,rfl,rfl,rfl,rfl,rfl,rfl,rfl,rfl,rfl,rfl,rfl,rfl,rfl,rfl,rfl,rfl,rfl,rfl⟩,_⟩:=hx
 rfl
theorem tab_of_laid{W : World}(h : laidMet Tryz.prog [("math/bits.deBruijn32tab", Rows.laid_math_bits_deBruijn32tab)] W): Tab W := by
 obtain⟨ps,⟨g,t,cs,fuel,p,q,hg,ht,hvar,hd,_,_⟩,_⟩:=h
 obtain rfl:=Option.some.inj (gdb.symm.trans hg)
 obtain rfl:=Option.some.inj (gdbType.symm.trans ht)
 have e:cs=tabCells:=by
  have:=tab_trod hd
  exact Array.ext' this
 subst e;intro j hj;rw [World.var?_cell hg hvar j]
 match j,hj with
 | 0,_=>rfl
 | 1,_=>rfl
 | 2,_=>rfl
 | 3,_=>rfl
 | 4,_=>rfl
 | 5,_=>rfl
 | 6,_=>rfl
 | 7,_=>rfl
 | 8,_=>rfl
 | 9,_=>rfl
 | 10,_=>rfl
 | 11,_=>rfl
 | 12,_=>rfl
 | 13,_=>rfl
 | 14,_=>rfl
 | 15,_=>rfl
 | 16,_=>rfl
 | 17,_=>rfl
 | 18,_=>rfl
 | 19,_=>rfl
 | 20,_=>rfl
 | 21,_=>rfl
 | 22,_=>rfl
 | 23,_=>rfl
 | 24,_=>rfl
 | 25,_=>rfl
 | 26,_=>rfl
 | 27,_=>rfl
 | 28,_=>rfl
 | 29,_=>rfl
 | 30,_=>rfl
 | 31,_=>rfl
 | k+32,hk=>omega
end
end Go.Proofs.YthlmlmfebpjgdaaGreatDoor
