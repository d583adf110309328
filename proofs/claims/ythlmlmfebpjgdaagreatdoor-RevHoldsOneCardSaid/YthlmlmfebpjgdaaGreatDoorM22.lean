/-
Lemmas for the statement: TabL OpenR.
-/
import Derived.Test.YthlmlmfebpjgdaaGreatDoorM15
import Derived.Test.YthlmlmfebpjgdaaGreatDoorRows
import Derived.WalkKit
import Derived.ProofKit
import Derived.JoinedOf
import Derived.RowKit
import Derived.Test.YthlmlmfebpjgdaaGreatDoorM19
import Derived.OpenShut
import Derived.Below
import Derived.Carry
import Derived.ChangeSame
import Derived.ChangeSlices
set_option linter.unusedSimpArgs false
set_option linter.unusedVariables false
set_option maxHeartbeats 12800000
namespace Go.Proofs.YthlmlmfebpjgdaaGreatDoor
open Go.Proofs.Tryz
section
open Go.ChangeShapes Go.WideShapes Go.RowKit
theorem int_of_trod{H:Type}{enc:TypeId × Value->H}{P:Program}{w:World}{base:Nat}{sp:Nat->Bool}{held:Bool}{fuel:Nat}{t:TypeId}{k:IntKind}{c:Value}{y:DataW H × List MemPlace}
  (ht:P.underlying t=some (.int k))(h:DataW.trod enc P w base sp held fuel t [c]=some y):∃ n,c=.int k n/\y=(.lit (.int k n),[]):=by
 cases fuel with
 | zero=>simp [DataW.trod] at h
 | succ fuel=>
  cases c<;>simp [DataW.trod,ht] at h
  rename_i k' n;obtain⟨⟨rfl,_⟩,rfl⟩:=h
  exact⟨n,rfl,rfl⟩
theorem gdb: prog.globalNamed "math/bits.deBruijn32tab" = some 1 := by kernel_rfl
theorem gdbType:(prog.globals[1]?).map (·.type)=some 226:=by kernel_rfl
theorem cellsTab:prog.cellsOf 226=32:=by kernel_rfl
theorem cellsU8:prog.cellsOf 5=1:=by kernel_rfl
def tabCells:Array Value:=#[.int .u8 0,.int .u8 1,.int .u8 28,.int .u8 2,.int .u8 29,.int .u8 14,.int .u8 24,.int .u8 3,.int .u8 30,.int .u8 22,.int .u8 20,.int .u8 15,.int .u8 25,.int .u8 17,.int .u8 4,.int .u8 8,.int .u8 31,.int .u8 27,.int .u8 13,.int .u8 23,.int .u8 21,.int .u8 19,.int .u8 16,.int .u8 7,.int .u8 26,.int .u8 12,.int .u8 18,.int .u8 6,.int .u8 11,.int .u8 5,.int .u8 10,.int .u8 9]
theorem split32{l:List Value}(h:l.length=32):∃ c0 c1 c2 c3 c4 c5 c6 c7 c8 c9 c10 c11 c12 c13 c14 c15 c16 c17 c18 c19 c20 c21 c22 c23 c24 c25 c26 c27 c28 c29 c30 c31,l=[c0,c1,c2,c3,c4,c5,c6,c7,c8,c9,c10,c11,c12,c13,c14,c15,c16,c17,c18,c19,c20,c21,c22,c23,c24,c25,c26,c27,c28,c29,c30,c31]:=by
 match l,h with
 | [c0,c1,c2,c3,c4,c5,c6,c7,c8,c9,c10,c11,c12,c13,c14,c15,c16,c17,c18,c19,c20,c21,c22,c23,c24,c25,c26,c27,c28,c29,c30,c31],_=>exact⟨c0,c1,c2,c3,c4,c5,c6,c7,c8,c9,c10,c11,c12,c13,c14,c15,c16,c17,c18,c19,c20,c21,c22,c23,c24,c25,c26,c27,c28,c29,c30,c31,rfl⟩
set_option maxRecDepth 100000 in
theorem tab_trod{enc:TypeId × Value->Unit}{W:World}{fuel:Nat}{l:List Value}{p:List MemPlace}{b:Nat}{sp:Nat->Bool}{hd:Bool}(h:DataW.trod enc prog W b sp hd fuel 226 l=some (Rows.laid_math_bits_deBruijn32tab,p)):l=tabCells.toList:=by
 cases fuel with
 | zero=>simp [DataW.trod] at h
 | succ fuel=>
 simp only [DataW.trod,Tryz.underlying226,cellsTab,cellsU8] at h
 split at h
 case isFalse=>cases h
 rename_i hl;obtain⟨c0,c1,c2,c3,c4,c5,c6,c7,c8,c9,c10,c11,c12,c13,c14,c15,c16,c17,c18,c19,c20,c21,c22,c23,c24,c25,c26,c27,c28,c29,c30,c31,rfl⟩:=split32 (by simpa using hl);have e:List.range 32=[0,1,2,3,4,5,6,7,8,9,10,11,12,13,14,15,16,17,18,19,20,21,22,23,24,25,26,27,28,29,30,31]:=rfl;rw [e] at h
 simp only [Option.map_eq_some_iff,List.mapM_cons,List.mapM_nil,Option.bind_eq_bind,Option.bind_eq_some_iff,Option.pure_def,Option.some.injEq] at h
 obtain⟨xs,⟨y0,h0,_,⟨y1,h1,_,⟨y2,h2,_,⟨y3,h3,_,⟨y4,h4,_,⟨y5,h5,_,⟨y6,h6,_,⟨y7,h7,_,⟨y8,h8,_,⟨y9,h9,_,⟨y10,h10,_,⟨y11,h11,_,⟨y12,h12,_,⟨y13,h13,_,⟨y14,h14,_,⟨y15,h15,_,⟨y16,h16,_,⟨y17,h17,_,⟨y18,h18,_,⟨y19,h19,_,⟨y20,h20,_,⟨y21,h21,_,⟨y22,h22,_,⟨y23,h23,_,⟨y24,h24,_,⟨y25,h25,_,⟨y26,h26,_,⟨y27,h27,_,⟨y28,h28,_,⟨y29,h29,_,⟨y30,h30,_,⟨y31,h31,_,rfl,rfl⟩,rfl⟩,rfl⟩,rfl⟩,rfl⟩,rfl⟩,rfl⟩,rfl⟩,rfl⟩,rfl⟩,rfl⟩,rfl⟩,rfl⟩,rfl⟩,rfl⟩,rfl⟩,rfl⟩,rfl⟩,rfl⟩,rfl⟩,rfl⟩,rfl⟩,rfl⟩,rfl⟩,rfl⟩,rfl⟩,rfl⟩,rfl⟩,rfl⟩,rfl⟩,rfl⟩,rfl⟩,hx⟩:=h;obtain⟨n0,rfl,rfl⟩:=int_of_trod Tryz.underlying5 h0;obtain⟨n1,rfl,rfl⟩:=int_of_trod Tryz.underlying5 h1;obtain⟨n2,rfl,rfl⟩:=int_of_trod Tryz.underlying5 h2;obtain⟨n3,rfl,rfl⟩:=int_of_trod Tryz.underlying5 h3;obtain⟨n4,rfl,rfl⟩:=int_of_trod Tryz.underlying5 h4;obtain⟨n5,rfl,rfl⟩:=int_of_trod Tryz.underlying5 h5;obtain⟨n6,rfl,rfl⟩:=int_of_trod Tryz.underlying5 h6;obtain⟨n7,rfl,rfl⟩:=int_of_trod Tryz.underlying5 h7;obtain⟨n8,rfl,rfl⟩:=int_of_trod Tryz.underlying5 h8;obtain⟨n9,rfl,rfl⟩:=int_of_trod Tryz.underlying5 h9;obtain⟨n10,rfl,rfl⟩:=int_of_trod Tryz.underlying5 h10;obtain⟨n11,rfl,rfl⟩:=int_of_trod Tryz.underlying5 h11;obtain⟨n12,rfl,rfl⟩:=int_of_trod Tryz.underlying5 h12;obtain⟨n13,rfl,rfl⟩:=int_of_trod Tryz.underlying5 h13;obtain⟨n14,rfl,rfl⟩:=int_of_trod Tryz.underlying5 h14;obtain⟨n15,rfl,rfl⟩:=int_of_trod Tryz.underlying5 h15;obtain⟨n16,rfl,rfl⟩:=int_of_trod Tryz.underlying5 h16;obtain⟨n17,rfl,rfl⟩:=int_of_trod Tryz.underlying5 h17;obtain⟨n18,rfl,rfl⟩:=int_of_trod Tryz.underlying5 h18
 obtain⟨n19,rfl,rfl⟩:=int_of_trod Tryz.underlying5 h19;obtain⟨n20,rfl,rfl⟩:=int_of_trod Tryz.underlying5 h20;obtain⟨n21,rfl,rfl⟩:=int_of_trod Tryz.underlying5 h21;obtain⟨n22,rfl,rfl⟩:=int_of_trod Tryz.underlying5 h22;obtain⟨n23,rfl,rfl⟩:=int_of_trod Tryz.underlying5 h23;obtain⟨n24,rfl,rfl⟩:=int_of_trod Tryz.underlying5 h24;obtain⟨n25,rfl,rfl⟩:=int_of_trod Tryz.underlying5 h25;obtain⟨n26,rfl,rfl⟩:=int_of_trod Tryz.underlying5 h26;obtain⟨n27,rfl,rfl⟩:=int_of_trod Tryz.underlying5 h27;obtain⟨n28,rfl,rfl⟩:=int_of_trod Tryz.underlying5 h28;obtain⟨n29,rfl,rfl⟩:=int_of_trod Tryz.underlying5 h29;obtain⟨n30,rfl,rfl⟩:=int_of_trod Tryz.underlying5 h30;obtain⟨n31,rfl,rfl⟩:=int_of_trod Tryz.underlying5 h31
 simp [Rows.laid_math_bits_deBruijn32tab] at hx
 obtain⟨⟨rfl,rfl,rfl,rfl,rfl,rfl,rfl,rfl,rfl,rfl,rfl,rfl,rfl,rfl,rfl,rfl,rfl,rfl,rfl,rfl,rfl,rfl,rfl,rfl,rfl,rfl,rfl,rfl,rfl,rfl,rfl,rfl⟩,_⟩:=hx
 rfl
theorem tab_of_laid{W : World}(h : laidMet prog [("math/bits.deBruijn32tab", Rows.laid_math_bits_deBruijn32tab)] W): Tab W := by
 obtain⟨ps,⟨g,t,cs,fuel,p,q,hg,ht,hvar,hd,_,_⟩,_⟩:=h
 obtain rfl:=Option.some.inj (gdb.symm.trans hg)
 obtain rfl:=Option.some.inj (gdbType.symm.trans ht)
 have e:cs=tabCells:=by
  have:=tab_trod hd
  exact Array.ext' this
 subst e;intro j hj;rw [World.var?_cell hg hvar j]
 match j,hj with
 | 0,_=>rfl
 | 1,_=>rfl
 | 2,_=>rfl
 | 3,_=>rfl
 | 4,_=>rfl
 | 5,_=>rfl
 | 6,_=>rfl
 | 7,_=>rfl
 | 8,_=>rfl
 | 9,_=>rfl
 | 10,_=>rfl
 | 11,_=>rfl
 | 12,_=>rfl
 | 13,_=>rfl
 | 14,_=>rfl
 | 15,_=>rfl
 | 16,_=>rfl
 | 17,_=>rfl
 | 18,_=>rfl
 | 19,_=>rfl
 | 20,_=>rfl
 | 21,_=>rfl
 | 22,_=>rfl
 | 23,_=>rfl
 | 24,_=>rfl
 | 25,_=>rfl
 | 26,_=>rfl
 | 27,_=>rfl
 | 28,_=>rfl
 | 29,_=>rfl
 | 30,_=>rfl
 | 31,_=>rfl
 | k+32,hk=>omega
end
section
open Go.ChangeShapes Go.WideShapes Go.ChangeAt Go.RowKit
section
variable {H:Type} {enc:TypeId × Value->H} {w:World} {base:Nat} {spare:Nat->Bool} {held:Bool}
theorem u32_nat{z:Int}(h:(Lit.int .u32 z).wf=true):∃ n:Nat,z=n/\n<4294967296:=by
 simp only [Lit.wf,Bool.and_eq_true,decide_eq_true_eq] at h
 have h1:(0:Int)<=z:=h.1;have h2:z<=4294967295:=h.2
 exact⟨z.toNat,by omega,by omega⟩
theorem open_words{fuel:Nat}{c0:Value}{x:DataW H × List MemPlace}(h:DataW.trod enc prog w base spare held fuel 40 [c0]=some x):
  ∃ A n c,c0=.slice A n c/\((∀ b ∈ x.1.weights prog 40,b<=reachBytes)->∃ xs,U32b w A n c xs):=by
 have hc:prog.cellsOf 117=1:=by kernel_rfl
 have hby:prog.bytesOf 117=4:=by kernel_rfl
 rcases open_ints Tryz.underlying40 Tryz.underlying117 hc h with ⟨e,rfl⟩ | ⟨a,len,cap,zs,e,hb,hl,hm,hz,rfl,hcell,hw⟩
 ·obtain rfl:c0=.slice none 0 0:=by simpa using e
  exact⟨none,0,0,rfl,fun _=>⟨[],rfl,Nat.le_refl _,by omega,fun x hx=>(by cases hx),fun h=>absurd h (by omega)⟩⟩
 ·obtain rfl:c0=.slice (some a) len cap:=by simpa using e
  refine⟨some a,len,cap,rfl,fun hwt=>?_⟩
  have hlz:len<=zs.length:=by rw [hz];split<;>omega
  have hb4:zs.length*4<=reachBytes:=by
   have k:=hwt ((zs.take len).length*4+(zs.drop len).length*4) (by
    simp only [DataW.weights,Tryz.underlying40,hby,lits,List.length_map]
    rw [<- Nat.add_mul]
    exact List.mem_cons_self ..)
   rw [List.length_take,List.length_drop] at k
   omega
  have hr:reachBytes=140737488351232:=rfl
  have nat:∀ i,i<zs.length->∃ n:Nat,zs.getD i 0=n/\n<4294967296:=fun i hi=>by
   refine u32_nat (hw _ ?_);rw [show zs.getD i 0=zs[i] from by simp [List.getD,hi]]
   exact List.getElem_mem hi
  refine⟨(zs.take len).map Int.toNat,by simp;omega,hl,by omega,fun x hx=>?_,fun h0=>⟨a,rfl,?_,fun j hj=>?_⟩⟩
  ·obtain⟨z,hz1,rfl⟩:=List.mem_map.1 hx;obtain⟨n,rfl,hn⟩:=u32_nat (hw z (List.mem_of_mem_take hz1))
   simpa using hn
  ·have k:=hcell 0 (by omega)
   have e0:a.add 0=a:=by unfold Addr.add;rfl
   rw [e0] at k;unfold World.cell? at k
   cases hh:w.heap[a.block]? with
   | none=>rw [hh] at k;cases k
   | some o=>exact (Array.getElem?_eq_some_iff.1 hh).1
  ·rw [hcell j (by omega)];obtain⟨n,en,hn⟩:=nat j (by omega)
   have e1:((zs.take len).map Int.toNat)[j]?.getD 0=n:=by
    rw [List.getElem?_map,List.getElem?_take_of_lt hj]
    have:zs[j]?=some (n:Int):=by
     rw [List.getElem?_eq_getElem (show j<zs.length by omega)];rw [show zs.getD j 0=zs[j]'(show j<zs.length by omega) from by simp [List.getD,show j<zs.length by omega]] at en;rw [en]
    rw [this];simp
   rw [e1,en]
theorem open_ratio{fuel:Nat}{c0 c1 c2:Value}{x:DataW H × List MemPlace}(h:DataW.trod enc prog w base spare held fuel 42 [c0,c1,c2]=some x):
  ∃ g A n c B m d,c0=.bool g/\c1=.slice A n c/\c2=.slice B m d/\((∀ b ∈ x.1.weights prog 42,b<=reachBytes)->∃ xs ys,U32b w A n c xs/\U32b w B m d ys):=by
 obtain⟨xs,n,_,hx,_,hlen,hg⟩:=DataW.trod_struct Tryz.underlying42 h
 have hb:prog.cellsOf 4=1:=by kernel_rfl
 have hs:prog.cellsOf 40=1:=by kernel_rfl
 match xs,hlen with
 | [y0,y1,y2],_=>
  have g0:=hg 0 _ rfl;have g1:=hg 1 _ rfl;have g2:=hg 2 _ rfl
  simp [hb,hs] at g0 g1 g2
  obtain⟨g,e0,rfl⟩:=DataW.trod_bool Tryz.underlying4 g0;obtain⟨A,n1,c,rfl,u1⟩:=open_words g1;obtain⟨B,m,d,rfl,u2⟩:=open_words g2
  simp at e0
  subst e0;refine⟨g,A,n1,c,B,m,d,rfl,rfl,rfl,fun hw=>?_⟩;subst hx
  simp only [DataW.weights,Tryz.underlying42,DataW.weightsEach,List.map_cons,List.map_nil,Array.toList,List.nil_append,List.append_nil,List.mem_append] at hw
  obtain⟨p,hp⟩:=u1 fun b hb=>hw b (.inl hb);obtain⟨q,hq⟩:=u2 fun b hb=>hw b (.inr hb)
  exact⟨p,q,hp,hq⟩
end
end
end Go.Proofs.YthlmlmfebpjgdaaGreatDoor
