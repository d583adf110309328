/-
Sets by indexes, rows of pieces.
-/
import Derived.Test.YtfcpabgampebaaaGreatPMinusT
import Derived.Test.YtfcpabgampebaaaGreatM14
set_option linter.unusedSimpArgs false
set_option linter.unusedVariables false
set_option maxHeartbeats 12800000
namespace Go.Proofs.YtfcpabgampebaaaGreat
open Go.RowKit
theorem PcG.of{W:World}{g:Nat}{t:TypeId}{cs:Array Value}{k:Nat}{F:Int→Int→Int × Int}(hb:Blk W g t cs){o:Bool}{s1:Int}{g1:Bool}{A1:Option Addr}{n1 c1:Nat}{B1:Option Addr}{m1 d1:Nat}{N1:Int}{o1:Bool}{s2:Int}{g2:Bool}{A2:Option Addr}{n2 c2:Nat}{B2:Option Addr}{m2 d2:Nat}{N2:Int}{o2:Bool}
  (h:PcW W o s1 g1 A1 n1 c1 B1 m1 d1 N1 o1 s2 g2 A2 n2 c2 B2 m2 d2 N2 o2 F)
  (hc:∀ i:Nat,i<13→cs[k*13+i]?=(#[.bool o,.int .i64 s1,.bool g1,.slice A1 n1 c1,.slice B1 m1 d1,.int .i64 N1,.bool o1,.int .i64 s2,.bool g2,.slice A2 n2 c2,.slice B2 m2 d2,.int .i64 N2,.bool o2]:Array Value)[i]?):PcG W ⟨g,0,none⟩ k F:=by
 have e:(⟨g,0,none⟩:Addr).add (k*13)=⟨g,k*13,none⟩:=by unfold Addr.add;split<;>simp_all
 have c:∀ i:Nat,i<13→W.cell? ⟨g,k*13+i,none⟩=(#[.bool o,.int .i64 s1,.bool g1,.slice A1 n1 c1,.slice B1 m1 d1,.int .i64 N1,.bool o1,.int .i64 s2,.bool g2,.slice A2 n2 c2,.slice B2 m2 d2,.int .i64 N2,.bool o2]:Array Value)[i]?:=fun i hi=>(hb.cell _).trans (hc i hi);refine⟨o,s1,g1,A1,n1,c1,B1,m1,d1,N1,o1,s2,g2,A2,n2,c2,B2,m2,d2,N2,o2,?_,?_,?_,?_,?_,?_,?_,?_,?_,?_,?_,?_,?_,h⟩
 ·rw [e];exact c 0 (by omega)
 ·rw [e];exact c 1 (by omega)
 ·rw [e];exact c 2 (by omega)
 ·rw [e];exact c 3 (by omega)
 ·rw [e];exact c 4 (by omega)
 ·rw [e];exact c 5 (by omega)
 ·rw [e];exact c 6 (by omega)
 ·rw [e];exact c 7 (by omega)
 ·rw [e];exact c 8 (by omega)
 ·rw [e];exact c 9 (by omega)
 ·rw [e];exact c 10 (by omega)
 ·rw [e];exact c 11 (by omega)
 ·rw [e];exact c 12 (by omega)
theorem SetOf.cells{w:World}{v:Value}{i j:Int}(h:SetOf w v i j):∃ o s g A n c B m d t g' A' n' c' B' m' d',v=.agg #[.bool o,.int .i64 s,.bool g,.slice A n c,.slice B m d,.int .i64 t,.bool g',.slice A' n' c',.slice B' m' d']:=by
 rcases h with ⟨-,-,s,x,t,y,g,A,n,c,B,m,d,g',A',n',c',B',m',d',rfl,-,-⟩ | ⟨-,g,A,n,c,B,m,d,g',A',n',c',B',m',d',rfl,-,-⟩
 ·exact⟨_,_,_,_,_,_,_,_,_,_,_,_,_,_,_,_,_,rfl⟩
 ·exact⟨_,_,_,_,_,_,_,_,_,_,_,_,_,_,_,_,_,rfl⟩
theorem PcG.at{W:World}{g:Nat}{t:TypeId}{cs:Array Value}(hb:Blk W g t cs)(k:Nat){o:Bool}{s1:Int}{g1:Bool}{A1:Option Addr}{n1 c1:Nat}{B1:Option Addr}{m1 d1:Nat}{N1:Int}{o1:Bool}{s2:Int}{g2:Bool}{A2:Option Addr}{n2 c2:Nat}{B2:Option Addr}{m2 d2:Nat}{N2:Int}{o2:Bool}{F:Int→Int→Int × Int}
  (h:PcW W o s1 g1 A1 n1 c1 B1 m1 d1 N1 o1 s2 g2 A2 n2 c2 B2 m2 d2 N2 o2 F)
  (hc:cs[k*13]?=some (.bool o)∧cs[k*13+1]?=some (.int .i64 s1)∧cs[k*13+2]?=some (.bool g1)∧cs[k*13+3]?=some (.slice A1 n1 c1)∧cs[k*13+4]?=some (.slice B1 m1 d1)∧cs[k*13+5]?=some (.int .i64 N1)∧cs[k*13+6]?=some (.bool o1)∧cs[k*13+7]?=some (.int .i64 s2)∧cs[k*13+8]?=some (.bool g2)∧cs[k*13+9]?=some (.slice A2 n2 c2)∧cs[k*13+10]?=some (.slice B2 m2 d2)∧cs[k*13+11]?=some (.int .i64 N2)∧cs[k*13+12]?=some (.bool o2)):PcG W ⟨g,0,none⟩ k F:=
 PcG.of hb h fun i hi=>by
  obtain⟨c0,c1,c2,c3,c4,c5,c6,c7,c8,c9,c10,c11,c12⟩:=hc
  match i,hi with
  | 0,_=>exact c0 | 1,_=>exact c1 | 2,_=>exact c2 | 3,_=>exact c3 | 4,_=>exact c4 | 5,_=>exact c5 | 6,_=>exact c6 | 7,_=>exact c7 | 8,_=>exact c8 | 9,_=>exact c9 | 10,_=>exact c10 | 11,_=>exact c11 | 12,_=>exact c12
end Go.Proofs.YtfcpabgampebaaaGreat
