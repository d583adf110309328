/-
Lemmas for the statement: Dig Mem Own Arr DigB DigC Rat WordsT NormT CmpT Bits LenT ZerosT LeftT RightT.
-/
import Derived.Laws.FloatBits
import Derived.Test.YthlmlmfebpjgdaaGreatDoorRows
import Derived.WalkKit
import Derived.WalkSpells
import Derived.WalkLawsBesides
import Derived.Laws.OwnMore
import Derived.Lib.Hide
import Derived.Maps.AppendAt
import Derived.Deep.AppendLies
import Derived.Deep.Draws
import Derived.BigQuiet
import Derived.Deep.QuietTactic
import Derived.Outline
import Derived.Laws.BitsAllLaws
set_option linter.unusedSimpArgs false
set_option linter.unusedVariables false
set_option maxHeartbeats 12800000
namespace Go.Proofs.YthlmlmfebpjgdaaGreatDoor
open Go.Proofs.Tryz
open Go.RowKit
theorem Hd {p:Prop}(h:p):Go.RowKit.Hid p:=Go.Lib.hid h
def num:List Nat->Nat
 | []=>0
 | x :: l=>x+2^32*num l
def W32(l:List Nat):Prop:=∀ x ∈ l,x<2^32
theorem num_nil:num []=0:=rfl
theorem num_cons(x:Nat)(l:List Nat):num (x :: l)=x+2^32*num l:=rfl
theorem W32.nil:W32 []:=fun _ h=>by cases h
theorem W32.cons{x:Nat}{l:List Nat}(hx:x<2^32)(h:W32 l):W32 (x :: l):=by
 intro y hy
 rcases List.mem_cons.1 hy with rfl | hy
 ·exact hx
 ·exact h y hy
theorem W32.tail{x:Nat}{l:List Nat}(h:W32 (x :: l)):W32 l:=fun y hy=>h y (List.mem_cons_of_mem _ hy)
theorem W32.head{x:Nat}{l:List Nat}(h:W32 (x :: l)):x<2^32:=h x (List.mem_cons_self ..)
theorem W32.get{l:List Nat}(h:W32 l)(i:Nat):l[i]?.getD 0<2^32:=by
 cases e:l[i]? with
 | none=>simp
 | some x=>exact h x (List.mem_of_getElem? e)
theorem W32.append{l m:List Nat}(h:W32 l)(h':W32 m):W32 (l ++ m):=by
 intro x hx
 rcases List.mem_append.1 hx with hx | hx
 ·exact h x hx
 ·exact h' x hx
theorem W32.take{l:List Nat}(h:W32 l)(n:Nat):W32 (l.take n):=fun x hx=>h x (List.mem_of_mem_take hx)
theorem W32.drop{l:List Nat}(h:W32 l)(n:Nat):W32 (l.drop n):=fun x hx=>h x (List.mem_of_mem_drop hx)
theorem W32.set{l:List Nat}(h:W32 l)(n:Nat){x:Nat}(hx:x<2^32):W32 (l.set n x):=by
 intro y hy
 rcases List.mem_or_eq_of_mem_set hy with hy | rfl
 ·exact h y hy
 ·exact hx
theorem W32.replicate(n:Nat):W32 (List.replicate n 0):=by
 intro x hx;rw [List.eq_of_mem_replicate hx];omega
theorem pow32(n:Nat):2^(32*(n+1))=2^32*2^(32*n):=by rw [Nat.mul_add,Nat.mul_one,Nat.pow_add,Nat.mul_comm]
theorem num_append(l m:List Nat):num (l ++ m)=num l+2^(32*l.length)*num m:=by
 induction l with
 | nil=>simp [num]
 | cons x l ih=>
  rw [List.cons_append,num_cons,num_cons,ih,List.length_cons,pow32,Nat.mul_add,Nat.mul_assoc,Nat.add_assoc]
theorem num_lt{l:List Nat}(h:W32 l):num l<2^(32*l.length):=by
 induction l with
 | nil=>simp [num]
 | cons x l ih=>
  have h1:=ih h.tail;have h2:=h.head;rw [num_cons,List.length_cons,pow32];generalize 2^(32*l.length)=p at *
  omega
theorem num_replicate(n:Nat):num (List.replicate n 0)=0:=by
 induction n with
 | zero=>rfl
 | succ n ih=>rw [List.replicate_succ,num_cons,ih]
theorem num_take_drop(l:List Nat)(k:Nat):num l=num (l.take k)+2^(32*min k l.length)*num (l.drop k):=by
 have:=num_append (l.take k) (l.drop k);rw [List.take_append_drop,List.length_take] at this
 exact this
theorem num_take_succ(l:List Nat)(k:Nat)(h:k<l.length):num (l.take (k+1))=num (l.take k)+2^(32*k)*l[k]?.getD 0:=by
 rw [List.take_succ_eq_append_getElem h,num_append,List.length_take,Nat.min_eq_left (by omega)]
 simp [num,h]
theorem num_set(l:List Nat)(k x:Nat)(h:k<l.length):num (l.set k x)+2^(32*k)*l[k]?.getD 0=num l+2^(32*k)*x:=by
 induction l generalizing k with
 | nil=>simp at h
 | cons y l ih=>
  cases k with
  | zero=>simp [num];omega
  | succ k=>
   have:=ih k (by simpa using h);rw [List.set_cons_succ,num_cons,num_cons,pow32];rw [show (y :: l)[k+1]?.getD 0=l[k]?.getD 0 from rfl];rw [Nat.mul_assoc,Nat.mul_assoc];generalize 2^(32*k)*l[k]?.getD 0=a at *;generalize 2^(32*k)*x=b at *
   omega
def trim:List Nat->List Nat
 | []=>[]
 | x :: l=>if trim l=[]/\x=0 then [] else x :: trim l
def wlen(l:List Nat):Nat:=(trim l).length
theorem trim_eq_nil{l:List Nat}:trim l=[]↔num l=0:=by
 induction l with
 | nil=>simp [trim,num]
 | cons x l ih=>
  unfold trim;rw [num_cons]
  split
  ·rename_i h;have:=ih.1 h.1
   simp [this,h.2]
  ·rename_i h
   simp
   intro hx h0
   exact h ⟨ih.2 (by omega),hx⟩
theorem num_trim(l:List Nat):num (trim l)=num l:=by
 induction l with
 | nil=>rfl
 | cons x l ih=>
  unfold trim
  split
  ·rename_i h;rw [num_cons,h.2,trim_eq_nil.1 h.1];rfl
  ·rw [num_cons,num_cons,ih]
theorem trim_eq_take(l:List Nat):trim l=l.take (wlen l):=by
 induction l with
 | nil=>rfl
 | cons x l ih=>
  unfold wlen;unfold trim
  split
  ·simp
  ·rw [List.length_cons,List.take_succ_cons]
   congr 1
theorem wlen_le(l:List Nat):wlen l<=l.length:=by
 have:=congrArg List.length (trim_eq_take l);rw [List.length_take] at this;unfold wlen at *
 omega
theorem W32.trim{l:List Nat}(h:W32 l):W32 (trim l):=by rw [trim_eq_take];exact h.take _
theorem wlen_eq_zero{l:List Nat}:wlen l=0↔num l=0:=by
 unfold wlen;rw [List.length_eq_zero_iff,trim_eq_nil]
theorem wlen_of{l:List Nat}{n:Nat}(hn:n<=l.length)(h:∀ j:Nat,n<=j->l[j]?.getD 0=0)(h':n=0\/l[n - 1]?.getD 0≠0):wlen l=n:=by
 induction l generalizing n with
 | nil=>simp at hn;subst hn;rfl
 | cons x l ih=>
  cases n with
  | zero=>
   rw [wlen_eq_zero]
   have hz:∀ m:List Nat,(∀ j:Nat,m[j]?.getD 0=0)->num m=0:=by
    intro m
    induction m with
    | nil=>intro _;rfl
    | cons y m ihm=>
     intro hm;have h0:=hm 0;have h1:=ihm (fun j=>by have:=hm (j+1);simpa using this)
     simp at h0
     rw [num_cons,h0,h1]
   exact hz _ fun j=>h j (Nat.zero_le _)
  | succ n=>
   have h1:wlen l=n:=by
    refine ih (by simpa using hn) (fun j hj=>?_) ?_
    ·have:=h (j+1) (by omega);simpa using this
    ·rcases n with _ | n
     ·exact .inl rfl
     ·right
      rcases h' with h' | h'
      ·omega
      ·simpa using h'
   have h2:¬ (Proofs.YthlmlmfebpjgdaaGreatDoor.trim l=[]/\x=0):=by
    rintro⟨ht,rfl⟩
    have:wlen l=0:=by unfold wlen;rw [ht];rfl
    rcases h' with h' | h'
    ·omega
    ·rw [<- h1,this] at h';simp at h'
   unfold wlen Proofs.YthlmlmfebpjgdaaGreatDoor.trim;rw [if_neg h2,List.length_cons];unfold wlen at h1
   omega
theorem wlen_spec(l:List Nat):(∀ j:Nat,wlen l<=j->l[j]?.getD 0=0)/\(wlen l=0\/l[wlen l - 1]?.getD 0≠0):=by
 induction l with
 | nil=>exact⟨fun j _=>by simp,.inl rfl⟩
 | cons x l ih=>
  by_cases h:Proofs.YthlmlmfebpjgdaaGreatDoor.trim l=[]/\x=0
  ·have e:wlen (x :: l)=0:=by unfold wlen Proofs.YthlmlmfebpjgdaaGreatDoor.trim;rw [if_pos h];rfl
   have hl:wlen l=0:=by unfold wlen;rw [h.1];rfl
   refine⟨fun j _=>?_,.inl e⟩
   cases j with
   | zero=>simp [h.2]
   | succ j=>have:=ih.1 j (by omega);simpa using this
  ·have e:wlen (x :: l)=wlen l+1:=by
    unfold wlen;rw [Proofs.YthlmlmfebpjgdaaGreatDoor.trim,if_neg h];rfl
   refine⟨fun j hj=>?_,.inr ?_⟩
   ·cases j with
    | zero=>omega
    | succ j=>have:=ih.1 j (by omega);simpa using this
   ·rw [e]
    rcases ih.2 with h0 | h0
    ·rw [h0];have ht:Proofs.YthlmlmfebpjgdaaGreatDoor.trim l=[]:=List.eq_nil_of_length_eq_zero h0
     simp;intro hx;exact h ⟨ht,hx⟩
    ·rcases Nat.eq_zero_or_pos (wlen l) with h1 | h1
     ·rw [h1] at h0 ⊢;have ht:Proofs.YthlmlmfebpjgdaaGreatDoor.trim l=[]:=List.eq_nil_of_length_eq_zero h1
      simp;intro hx;exact h ⟨ht,hx⟩
     ·obtain⟨k,hk⟩:∃ k,wlen l=k+1:=⟨wlen l - 1,by omega⟩
      rw [hk] at h0 ⊢
      simpa using h0
theorem num_lt_wlen{l:List Nat}(h:W32 l):num l<2^(32*wlen l):=by
 rw [<- num_trim l];exact num_lt h.trim
theorem le_num_wlen{l:List Nat}(h:0<wlen l):2^(32*(wlen l - 1))<=num l:=by
 have hs:=wlen_spec l;have hl:=wlen_le l;have h1:=num_take_succ l (wlen l - 1) (by omega);rw [Nat.sub_add_cancel h,<- trim_eq_take,num_trim] at h1
 have h2:0<l[wlen l - 1]?.getD 0:=by omega
 rw [h1];refine Nat.le_trans ?_ (Nat.le_add_left _ _)
 exact Nat.le_mul_of_pos_right _ h2
def digs(n:Nat):List Nat:=if h:n=0 then [] else (n % 2^32) :: digs (n / 2^32)
termination_by n
decreasing_by omega
theorem digs_zero:digs 0=[]:=by unfold digs;simp
theorem digs_pos{n:Nat}(h:n≠0):digs n=(n % 2^32) :: digs (n / 2^32):=by
 rw [digs,dif_neg h]
theorem W32.digs(n:Nat):W32 (digs n):=by
 induction n using Nat.strongRecOn with
 | ind n ih=>
  by_cases h:n=0
  ·rw [h,digs_zero];exact W32.nil
  ·rw [digs_pos h];exact W32.cons (by omega) (ih _ (by omega))
theorem num_digs(n:Nat):num (digs n)=n:=by
 induction n using Nat.strongRecOn with
 | ind n ih=>
  by_cases h:n=0
  ·rw [h,digs_zero];rfl
  ·rw [digs_pos h,num_cons,ih _ (by omega)];omega
theorem trim_eq_digs{l:List Nat}(h:W32 l):trim l=digs (num l):=by
 induction l with
 | nil=>simp [trim,num,digs_zero]
 | cons x l ih=>
  have hx:=h.head;have h1:=ih h.tail;unfold Proofs.YthlmlmfebpjgdaaGreatDoor.trim
  split
  ·rename_i h2;rw [num_cons,h2.2,trim_eq_nil.1 h2.1,digs_zero]
  ·rename_i h2
   have hn:num (x :: l)≠0:=by
    rw [num_cons];intro h0
    exact h2 ⟨trim_eq_nil.2 (by omega),by omega⟩
   rw [digs_pos hn,num_cons,show (x+2^32*num l) % 2^32=x from by omega,show (x+2^32*num l) / 2^32=num l from by omega,h1]
theorem trim_digs(n:Nat):trim (digs n)=digs n:=by rw [trim_eq_digs (W32.digs n),num_digs]
theorem wlen_digs(n:Nat):wlen (digs n)=(digs n).length:=by unfold wlen;rw [trim_digs]
theorem digs_length_le{n k:Nat}(h:n<2^(32*k)):(digs n).length<=k:=by
 rcases Nat.lt_or_ge k (digs n).length with h1 | h1
 ·have h2:=le_num_wlen (l:=digs n) (by rw [wlen_digs];omega);rw [wlen_digs,num_digs] at h2;have:=Nat.pow_le_pow_right (n:=2) (by omega) (show 32*k<=32*((digs n).length - 1) by omega)
  omega
 ·exact h1
theorem digs_eq_nil{n:Nat}:digs n=[]↔n=0:=by
 constructor
 ·intro h;rw [<- num_digs n,h];rfl
 ·rintro rfl;exact digs_zero
theorem digs_length_eq_zero{n:Nat}:(digs n).length=0↔n=0:=by rw [List.length_eq_zero_iff,digs_eq_nil]
abbrev wd(x:Nat):Value:=.int .u32 (x:Int)
theorem block_of_add(a:Addr)(n:Nat):(a.add n).block=a.block:=by unfold Addr.add;split<;>rfl
theorem add_of_add(a:Addr)(i j:Nat):(a.add i).add j=a.add (i+j):=by
 unfold Addr.add
 by_cases hi:i=0<;>by_cases hj:j=0<;>simp [hi,hj,Nat.add_assoc]
structure U32s (w:World) (A:Option Addr) (n c:Nat) (xs:List Nat):Prop where
 len:xs.length=n
 cap:n<=c
 small:n<=34359738368
 w32:W32 xs
 at_:0<n->∃ ad,A=some ad/\ad.block<w.heap.size/\∀ j:Nat,j<n->w.cell? (ad.add j)=some (wd (xs[j]?.getD 0))
theorem U32s.keep{w w':World}{A:Option Addr}{n c:Nat}{xs:List Nat}(h:U32s w A n c xs)(hs:w.heap.size<=w'.heap.size)
  (hk:∀ ad,A=some ad->0<n->w'.heap[ad.block]?=w.heap[ad.block]?):U32s w' A n c xs:=
 ⟨h.len,h.cap,h.small,h.w32,fun hn=>by
   obtain⟨ad,e,hb,hc⟩:=h.at_ hn;refine⟨ad,e,by omega,fun j hj=>?_⟩;rw [World.cell?_of_block (w:=w)]
   ·exact hc j hj
   ·rw [block_of_add];exact hk ad e hn⟩
theorem U32s.below{w w':World}{A:Option Addr}{n c:Nat}{xs:List Nat}(h:U32s w A n c xs)(hb:Below w.heap.size w w'):U32s w' A n c xs:=
 h.keep hb.size fun ad e hn=>by
  obtain⟨ad',e',hlt,_⟩:=h.at_ hn;rw [e] at e';cases e'
  exact hb.block _ hlt
theorem U32s.drew{w:World}{A:Option Addr}{n c:Nat}{xs:List Nat}(h:U32s w A n c xs):U32s w.drew A n c xs:=h.keep (Nat.le_refl _) fun _ _ _=>rfl
theorem U32s.alloc{w:World}{A:Option Addr}{n c:Nat}{xs:List Nat}(h:U32s w A n c xs)(o:Obj):U32s (w.alloc o) A n c xs:=
 h.below ((Below.refl _ _).alloc (Nat.le_refl _) o)
theorem U32s.far{w:World}{A:Option Addr}{n c:Nat}{xs:List Nat}(h:U32s w A n c xs){p:Addr}(hp:∀ ad,A=some ad->ad.block≠p.block)(u:Value):U32s (w.setCell p u) A n c xs:=
 h.keep (by simp [World.setCell]) fun ad e _=>Below.heap_setCell w p u _ (hp ad e)
theorem U32s.nil(w:World)(A:Option Addr)(c:Nat):U32s w A 0 c []:=⟨rfl,Nat.zero_le _,by omega,W32.nil,fun h=>absurd h (by omega)⟩
theorem U32s.take{w:World}{A:Option Addr}{n c:Nat}{xs:List Nat}(h:U32s w A n c xs){k:Nat}(hk:k<=n):U32s w A k c (xs.take k):=
 ⟨by rw [List.length_take,h.len];omega,by have:=h.cap;omega,by have:=h.small;omega,h.w32.take k,fun hn=>by
   obtain⟨ad,e,hb,hc⟩:=h.at_ (by omega);refine⟨ad,e,hb,fun j hj=>?_⟩;rw [hc j (by omega)]
   congr 2
   rw [List.getElem?_take_of_lt hj]⟩
theorem U32s.recap{w:World}{A:Option Addr}{n c c':Nat}{xs:List Nat}(h:U32s w A n c xs)(hc:n<=c'):U32s w A n c' xs:=⟨h.len,hc,h.small,h.w32,h.at_⟩
theorem U32s.cell{w:World}{A:Option Addr}{n c:Nat}{xs:List Nat}(h:U32s w A n c xs){j:Nat}(hj:j<n):
  ∃ ad,A=some ad/\w.cell? (ad.add j)=some (wd (xs[j]?.getD 0)):=by
 obtain⟨ad,e,_,hc⟩:=h.at_ (by omega)
 exact⟨ad,e,hc j hj⟩
theorem U32s.cellAt{w:World}{ad:Addr}{n c:Nat}{xs:List Nat}(h:U32s w (some ad) n c xs){j:Nat}(hj:j<n):w.cell? (ad.add j)=some (wd (xs[j]?.getD 0)):=by
 obtain⟨ad',e,hc⟩:=h.cell hj
 injection e with e
 subst e;exact hc
theorem U32s.lt{w:World}{A:Option Addr}{n c:Nat}{xs:List Nat}(h:U32s w A n c xs)(j:Nat):xs[j]?.getD 0<4294967296:=h.w32.get j
theorem U32s.own{w:World}{base e:Nat}{A:Option Addr}{n c:Nat}{xs:List Nat}(h:w.ownsRow base e 1 (.slice A n c) n (xs.map wd))(hw:W32 xs)(hs:n<=34359738368):U32s w A n c xs:=by
 have hl:=h.1;rw [List.length_map,Nat.mul_one] at hl
 rcases h.2 with ⟨hv,rfl⟩ | ⟨g,cap,cur,hv,hb,hh,hn,hm,hs',hx⟩
 ·cases hv;exact⟨hl,Nat.le_refl _,hs,hw,fun h=>absurd h (by omega)⟩
 ·injection hv with h1 h2 h3
  subst h1 h3;refine⟨hl,hn,hs,hw,fun h0=>⟨_,rfl,?_,fun j hj=>?_⟩⟩
  ·exact (Array.getElem?_eq_some_iff.1 hh).1
  ·refine h.cells (g:=g) rfl j _ ?_;rw [List.getElem?_map,List.getElem?_eq_getElem (by omega)]
   rfl
section
theorem info_u32:(prog.info? 117).map (fun i=>(i.zero,i.size,i.bytes))=some (some (.int .u32 0),1,4):=by kernel_rfl
def Own(w:World)(B:Nat)(v:Value)(xs:List Nat):Prop:=w.ownsRow B 117 1 v xs.length (xs.map wd)
theorem Own.nil(w:World)(B:Nat):Own w B (.slice none 0 0) []:=World.ownsRow_nil w B _ _
theorem Own.alloc{w:World}{B:Nat}{v:Value}{xs:List Nat}(h:Own w B v xs)(o:Obj):Own (w.alloc o) B v xs:=World.ownsRow.alloc h o
theorem Own.drew{w:World}{B:Nat}{v:Value}{xs:List Nat}(h:Own w B v xs):Own w.drew B v xs:=h
theorem Own.form{w:World}{B:Nat}{v:Value}{xs:List Nat}(h:Own w B v xs):∃ A c,v=.slice A xs.length c:=by
 rcases h.2 with ⟨rfl,h0⟩ | ⟨g,cap,_,rfl,_⟩
 ·exact⟨none,0,by rw [h0]⟩
 ·exact⟨_,_,rfl⟩
theorem Own.form_snoc{w:World}{B:Nat}{v:Value}{xs:List Nat}{y:Nat}(h:Own w B v (xs ++ [y])):∃ A c,v=.slice A (xs.length+1) c:=by
 obtain⟨A,c,e⟩:=h.form
 exact⟨A,c,by rw [e];simp⟩
theorem Own.u32s{w:World}{B:Nat}{A:Option Addr}{n c:Nat}{xs:List Nat}(h:Own w B (.slice A n c) xs)(hn:xs.length=n)(hw:W32 xs)(hs:xs.length<=34359738368):U32s w A n c xs:=by
 subst hn
 exact U32s.own h hw hs
theorem U32s.lit1(w:World)(t:TypeId){a:Nat}(ha:a<4294967296):U32s (w.alloc (.cells #[wd a] t)) (some ⟨w.heap.size,0,none⟩) 1 1 [a]:=
 ⟨rfl,by omega,by omega,W32.cons ha W32.nil,fun _=>⟨_,rfl,by simp,fun j hj=>by
  match j,hj with
  | 0,_=>simp [World.cell?_alloc_new,Addr.add]⟩⟩
theorem U32s.lit2(w:World)(t:TypeId){a b:Nat}(ha:a<4294967296)(hb:b<4294967296):U32s (w.alloc (.cells #[wd a,wd b] t)) (some ⟨w.heap.size,0,none⟩) 2 2 [a,b]:=
 ⟨rfl,by omega,by omega,W32.cons ha (W32.cons hb W32.nil),fun _=>⟨_,rfl,by simp,fun j hj=>by
  match j,hj with
  | 0,_=>simp [World.cell?_alloc_new,Addr.add]
  | 1,_=>simp [World.cell?_alloc_new,Addr.add]⟩⟩
section
variable {ops:Array Oper} {rest:List Oper} {o:Oper} {a:Act} {Q:Exit->Act->World->Prop} (w:World)
theorem wpList_append_u32(hgd:o.guard=none)(s x:Operand)
  (ho:o.op=.call { callee:=.builtin .append,args:=#[s,x],argTypes:=#[40,40] })
  (B:Nat)(v:Value)(xs:List Nat)(hs:a.eval s=v)(hown:Own w B v xs)
  (ad:Addr)(c:Nat)(y:Nat)(hx:a.eval x=.slice (some ad) 1 c)(hc:w.cell? ad=some (wd y))(hlen:xs.length<=34359738367)(hB:B<=w.heap.size)
  (h:∀ v' w',Own w' B v' (xs ++ [y])->w.grownBy w' v.ownBlock->wpList prog ops Q rest (a.put o.dst v') w'):wpList prog ops Q (o :: rest) a w:=by
 obtain⟨i0,hi,hz0,hz1,hz2⟩:=info_parts info_u32;refine wpList_append_own w hgd s x 40 ho B 117 i0 (.int .u32 0) 1 4 Tryz.underlying40 hi hz0 hz1 hz2 rfl (by decide) v xs.length (xs.map wd) hs hown ad 1 c [wd y] hx rfl ?_ ?_ ?_ ?_ hB ?_
 ·intro j u hu
  match j,hu with
  | 0,hu=>
   simp at hu
   subst hu;rw [show ad.add 0=ad from by simp [Addr.add]]
   exact hc
 ·intro u hu
  simp at hu
  subst hu;rfl
 ·unfold maxLen;omega
 ·omega
 ·intro v' w' h1 h2 _;refine h v' w' ?_ h2;unfold Own
  simpa using h1
end
theorem U32s.lit1_at{w:World}{g:Nat}(hg:w.heap.size=g)(t:TypeId){a:Nat}(ha:a<4294967296):U32s (w.alloc (.cells #[wd a] t)) (some ⟨g,0,none⟩) 1 1 [a]:=by
 subst hg
 exact U32s.lit1 w t ha
abbrev Zf(a b:Nat):Value:=.agg #[.float .f64 a,.float .f64 b]
abbrev Zv(a b:Nat):Array Value:=#[.float .f64 a,.float .f64 b]
theorem cy{P:Program}{f:FuncId}{a:Array Value}{v:Value}{W X:World}{T:Ending->World->Prop}(h:Calls P f a W fun e w'=>e=.returned v/\X=w')(k:T (.returned v) X):Calls P f a W T:=
 h.mono fun _ _ ⟨he,hw⟩=>he ▸ hw ▸ k
abbrev Rt(f:FuncId)(args:Array Value)(v:Value)(W:World):Prop:=Calls prog f args W fun e w'=>e=.returned v/\Below W.heap.size W w'
abbrev Zr(g:Bool)(A:Option Addr)(n c:Nat)(B:Option Addr)(m d:Nat):Array Value:=#[.bool g,.slice A n c,.slice B m d]
abbrev Zg(g:Bool)(A:Option Addr)(n c:Nat)(B:Option Addr)(m d:Nat):Value:=.agg #[.bool g,.slice A n c,.slice B m d]
abbrev L64(x:Nat):Prop:=x<18446744073709551616
abbrev Zq(x:Nat):Value:=.float .f64 x
abbrev Zi(x:Int):Value:=.int .i64 x
abbrev Zu(x:Int):Value:=.int .u64 x
end
def Arr(w:World)(g:Nat)(xs:List Nat):Prop:=w.heap[g]?=some (.cells (xs.map wd).toArray 117 (0,0))
theorem Arr.lt{w:World}{g:Nat}{xs:List Nat}(h:Arr w g xs):g<w.heap.size:=(Array.getElem?_eq_some_iff.1 h).1
theorem Arr.cell{w:World}{g:Nat}{xs:List Nat}(h:Arr w g xs){j:Nat}(hj:j<xs.length):w.cell? ⟨g,j,none⟩=some (wd (xs[j]?.getD 0)):=by
 rw [cell_of_row w g j _ _ (0,0) h]
 simp [hj]
theorem Arr.frozen{w:World}{g:Nat}{xs:List Nat}(h:Arr w g xs)(j:Nat):w.frozen? ⟨g,j,none⟩=false:=frozen_of_row w g j _ _ h
theorem Arr.set{w:World}{g:Nat}{xs:List Nat}(h:Arr w g xs)(j x:Nat):Arr (w.setCell ⟨g,j,none⟩ (wd x)) g (xs.set j x):=by
 unfold Arr at *;rw [heap_setCell_same w g j _ _ _ h]
 simp [List.map_set]
theorem Arr.drewN{w:World}{g:Nat}{xs:List Nat}(h:Arr w g xs)(n:Nat):Arr (w.drewN n) g xs:=h
theorem Arr.drew{w:World}{g:Nat}{xs:List Nat}(h:Arr w g xs):Arr w.drew g xs:=h
theorem Arr.of_block{w w':World}{g:Nat}{xs:List Nat}(h:Arr w g xs)(hb:w'.heap[g]?=w.heap[g]?):Arr w' g xs:=hb.trans h
theorem Arr.below{w w':World}{g B:Nat}{xs:List Nat}(h:Arr w g xs)(hb:Below B w w')(hg:g<B):Arr w' g xs:=h.of_block (hb.block g hg)
theorem Arr.alloc{w:World}{g:Nat}{xs:List Nat}(h:Arr w g xs)(o:Obj):Arr (w.alloc o) g xs:=h.of_block (Below.heap_alloc w o g h.lt)
theorem Arr.far{w:World}{g:Nat}{xs:List Nat}(h:Arr w g xs){p:Addr}(hp:g≠p.block)(u:Value):Arr (w.setCell p u) g xs:=h.of_block (Below.heap_setCell w p u g hp)
theorem Arr.new(w:World)(xs:List Nat):Arr (w.alloc (.cells (xs.map wd).toArray 117)) w.heap.size xs:=heap_alloc_new w _
theorem Arr.zeros(w:World)(n:Nat):Arr (w.alloc (.cells (Array.replicate n (wd 0)) 117)) w.heap.size (List.replicate n 0):=by
 have h:=Arr.new w (List.replicate n 0)
 simpa using h
theorem Arr.u32s{w:World}{g:Nat}{xs:List Nat}(h:Arr w g xs)(hw:W32 xs)(hs:xs.length<=34359738368)(c:Nat)(hc:xs.length<=c):U32s w (some ⟨g,0,none⟩) xs.length c xs:=
 ⟨rfl,hc,hs,hw,fun _=>⟨_,rfl,h.lt,fun j hj=>by
  rw [show (⟨g,0,none⟩:Addr).add j=⟨g,j,none⟩ from by unfold Addr.add;split<;>simp_all]
  exact h.cell hj⟩⟩
theorem Arr.u32s'{w:World}{g n:Nat}{xs:List Nat}(h:Arr w g xs)(hw:W32 xs)(hl:xs.length=n)(hs:n<=34359738368):U32s w (some ⟨g,0,none⟩) n n xs:=by
 subst hl;exact h.u32s hw hs _ (Nat.le_refl _)
theorem below_drewN{B:Nat}{a w:World}(h:Below B a w)(n:Nat):Below B a (w.drewN n):=⟨h.os,h.tape,h.output,h.size,h.block⟩
theorem make_u32{N:Int}{n:Nat}(hN:N=n)(h:n<=34359738368)(w:World):
  (Instr.makeSlice 40 (.int .i64 N) (.int .i64 N)).run prog w=.ok (.slice (some ⟨w.heap.size,0,none⟩) n n) (w.alloc (.cells (Array.replicate n (wd 0)) 117)):=by
 obtain⟨i0,hi,hz0,hz1,hz2⟩:=info_parts info_u32;subst hN;have hr:=run_make (P:=prog) w 40 117 i0 (.int .u32 0) Tryz.underlying40 hi hz0 .i64 .i64 (n:Int) (n:Int) (by omega) (by omega) (by rw [hz2];omega) (by omega)
 simp only [Int.toNat_natCast] at hr
 have e:madeCells (Value.int .u32 0).cells n=Array.replicate n (wd 0):=by
  have:=toList_madeCells_one (.int .u32 0) n;rw [show (Value.int .u32 0).cells=#[.int .u32 0] from rfl];rw [<- Array.toArray_toList (xs:=madeCells #[Value.int .u32 0] n),this]
  simp
 rw [hr,hz1,Nat.mul_one,e]
def cmp3(a b:Nat):Int:=if a<b then -1 else if b<a then 1 else 0
theorem cmp3_lt{a b:Nat}(h:a<b):cmp3 a b=-1:=if_pos h
theorem cmp3_gt{a b:Nat}(h:b<a):cmp3 a b=1:=by unfold cmp3;rw [if_neg (by omega),if_pos h]
theorem cmp3_eq{a b:Nat}(h:a=b):cmp3 a b=0:=by unfold cmp3;rw [if_neg (by omega),if_neg (by omega)]
theorem cmp3_range(a b:Nat):-1<=cmp3 a b/\cmp3 a b<=1:=by unfold cmp3;split<;>(try split)<;>omega
theorem cmp3_nonneg{a b:Nat}:0<=cmp3 a b↔b<=a:=by unfold cmp3;split<;>(try split)<;>omega
theorem cmp3_neg{a b:Nat}:cmp3 a b<0↔a<b:=by unfold cmp3;split<;>(try split)<;>omega
theorem cmp3_zero{a b:Nat}:cmp3 a b=0↔a=b:=by unfold cmp3;split<;>(try split)<;>omega
theorem num_tail(l:List Nat):num l=l[0]?.getD 0+2^32*num l.tail:=by
 cases l with
 | nil=>rfl
 | cons x l=>rfl
theorem tail_get(l:List Nat)(i:Nat):l.tail[i]?=l[i+1]?:=by cases l<;>rfl
theorem W32.tail'{l:List Nat}(h:W32 l):W32 l.tail:=by cases l;exact h;exact h.tail
theorem num_ext{l m:List Nat}(h:∀ j:Nat,l[j]?.getD 0=m[j]?.getD 0):num l=num m:=by
 induction l generalizing m with
 | nil=>
  induction m with
  | nil=>rfl
  | cons y m ih=>
   have h0:=h 0
   simp at h0
   rw [num_cons,<- h0,<- ih (fun j=>by simpa using h (j+1))];rfl
 | cons x l ih=>
  rw [num_cons,num_tail m,<- h 0,ih (m:=m.tail) (fun j=>by rw [tail_get];simpa using h (j+1))];rfl
theorem num_lt_of{l m:List Nat}(hl:W32 l)(i:Nat)(h:∀ j:Nat,i<j->l[j]?.getD 0=m[j]?.getD 0)(hi:l[i]?.getD 0<m[i]?.getD 0):num l<num m:=by
 induction i generalizing l m with
 | zero=>
  have e:num l.tail=num m.tail:=num_ext fun j=>by rw [tail_get,tail_get];exact h (j+1) (by omega)
  rw [num_tail l,num_tail m,e];omega
 | succ i ih=>
  have:=ih hl.tail' (m:=m.tail) (fun j hj=>by rw [tail_get,tail_get];exact h (j+1) (by omega)) (by rw [tail_get,tail_get];exact hi);rw [num_tail l,num_tail m];have:=hl.get 0
  omega
theorem num_lt_of_wlen{l m:List Nat}(hl:W32 l)(h:wlen l<wlen m):num l<num m:=by
 have h1:=num_lt_wlen hl;have h2:=le_num_wlen (l:=m) (by omega);have:=Nat.pow_le_pow_right (n:=2) (by omega) (show 32*wlen l<=32*(wlen m - 1) by omega)
 omega
theorem num_word{l:List Nat}(h:W32 l)(q:Nat):num l / 2^(32*q) % 2^32=l[q]?.getD 0:=by
 induction q generalizing l with
 | zero=>
  have:=h.get 0;rw [num_tail l];simp;omega
 | succ q ih=>
  have h0:=h.get 0;rw [<- tail_get,<- ih h.tail',pow32,<- Nat.div_div_eq_div_mul]
  congr 2
  rw [num_tail l];omega
theorem num_drop{l:List Nat}(h:W32 l)(q:Nat):num (l.drop q)=num l / 2^(32*q):=by
 induction q generalizing l with
 | zero=>simp
 | succ q ih=>
  have h0:=h.get 0;rw [show l.drop (q+1)=l.tail.drop q from by cases l<;>simp,ih h.tail',pow32,<- Nat.div_div_eq_div_mul]
  congr 1
  rw [num_tail l];omega
theorem num_take_next(l:List Nat)(k:Nat):num (l.take (k+1))=num (l.take k)+2^(32*k)*l[k]?.getD 0:=by
 rcases Nat.lt_or_ge k l.length with h | h
 ·exact num_take_succ l k h
 ·rw [List.take_of_length_le (by omega),List.take_of_length_le h,List.getElem?_eq_none h];rfl
theorem num_take_all{l:List Nat}{n:Nat}(h:wlen l<=n):num (l.take n)=num l:=by
 have hs:=wlen_spec l;refine num_ext fun j=>?_
 rcases Nat.lt_or_ge j n with h1 | h1
 ·rw [List.getElem?_take_of_lt h1]
 ·rw [hs.1 j (by omega),List.getElem?_eq_none (by rw [List.length_take];omega)];rfl
theorem num_snoc(l:List Nat)(x:Nat):num (l ++ [x])=num l+2^(32*l.length)*x:=by
 rw [num_append];simp [num]
theorem num_take_mod{l:List Nat}(h:W32 l)(k:Nat):num (l.take k)=num l % 2^(32*k):=by
 induction k generalizing l with
 | zero=>simp [num,Nat.mod_one]
 | succ k ih=>
  cases l with
  | nil=>simp [num]
  | cons x l=>
   rw [List.take_succ_cons,num_cons,num_cons,ih h.tail,pow32];have:=h.head
   have e:(x+2^32*num l) % (2^32*2^(32*k))=x+2^32*(num l % 2^(32*k)):=by
    rw [Nat.mod_mul];rw [show (x+2^32*num l) % 2^32=x from by omega,show (x+2^32*num l) / 2^32=num l from by omega]
   rw [e]
def blen(n:Nat):Nat:=if n=0 then 0 else n.log2+1
theorem blen_zero:blen 0=0:=rfl
theorem blen_pos{n:Nat}(h:n≠0):blen n=n.log2+1:=if_neg h
theorem blen_half{n:Nat}(h:0<n):blen n=blen (n / 2)+1:=by
 rw [blen_pos (by omega)]
 by_cases h1:n / 2=0
 ·have:n=1:=by omega
  subst this;rfl
 ·rw [blen_pos h1];have h2:1<=n.log2:=(Nat.le_log2 (by omega)).2 (by omega);have h3:=Nat.log2_self_le (n:=n) (by omega);have h4:n<2^(n.log2+1):=Nat.lt_log2_self
  have:(n / 2).log2=n.log2 - 1:=by
   obtain⟨k,hk⟩:∃ k,n.log2=k+1:=⟨n.log2 - 1,by omega⟩
   rw [hk] at h3 h4 ⊢;rw [Nat.pow_succ] at h3 h4
   exact (Nat.log2_eq_iff h1).2 ⟨by rw [Nat.add_sub_cancel];omega,by rw [Nat.add_sub_cancel];omega⟩
  omega
theorem lt_pow_blen(n:Nat):n<2^blen n:=by
 unfold blen;split
 ·omega
 ·exact Nat.lt_log2_self
theorem pow_blen_le{n:Nat}(h:0<n):2^(blen n - 1)<=n:=by
 rw [blen_pos (by omega)];exact Nat.log2_self_le (by omega)
theorem blen_le_iff{n k:Nat}:blen n<=k↔n<2^k:=by
 constructor
 ·intro h;exact Nat.lt_of_lt_of_le (lt_pow_blen n) (Nat.pow_le_pow_right (by omega) h)
 ·intro h
  by_cases h0:n=0
  ·subst h0;simp [blen]
  ·rw [blen_pos h0];exact (Nat.log2_lt h0).2 h
theorem blen_eq_zero{n:Nat}:blen n=0↔n=0:=by
 constructor
 ·intro h;have:=lt_pow_blen n;rw [h] at this;omega
 ·rintro rfl;rfl
theorem blen_high{hi lo k:Nat}(h:0<hi)(hlo:lo<2^k):blen (lo+2^k*hi)=k+blen hi:=by
 have h1:=pow_blen_le h;have h2:=lt_pow_blen hi
 have hb:0<blen hi:=by have:=@blen_eq_zero hi;omega
 have hp:=Nat.two_pow_pos k;refine Nat.le_antisymm (blen_le_iff.2 ?_) ?_
 ·rw [Nat.pow_add];have:2^k*(hi+1)<=2^k*2^blen hi:=Nat.mul_le_mul_left _ (by omega);rw [Nat.mul_add] at this;omega
 ·rcases Nat.lt_or_ge (blen (lo+2^k*hi)) (k+blen hi) with h3 | h3
  ·exfalso
   have h4:lo+2^k*hi<2^(k+(blen hi - 1)):=blen_le_iff.1 (by omega);rw [Nat.pow_add] at h4;have:2^k*2^(blen hi - 1)<=2^k*hi:=Nat.mul_le_mul_left _ h1
   omega
  ·exact h3
theorem blen_num{l:List Nat}(h:W32 l)(h0:0<wlen l):blen (num l)=32*(wlen l - 1)+blen (l[wlen l - 1]?.getD 0):=by
 have hs:=(wlen_spec l).2;have h1:=num_take_succ l (wlen l - 1) (by have:=wlen_le l;omega);rw [Nat.sub_add_cancel h0,<- trim_eq_take,num_trim] at h1;rw [h1,blen_high (by omega)];have:=num_lt (h.take (wlen l - 1));rw [List.length_take,Nat.min_eq_left (by have:=wlen_le l;omega)] at this
 exact this
theorem num_bit{l:List Nat}(h:W32 l)(i:Nat):num l / 2^i % 2=l[i / 32]?.getD 0 / 2^(i % 32) % 2:=by
 rw [<- num_word h]
 have e:2^i=2^(32*(i / 32))*2^(i % 32):=by rw [<- Nat.pow_add];congr 1;omega
 rw [e,<- Nat.div_div_eq_div_mul];generalize num l / 2^(32*(i / 32))=x;have hr:i % 32<32:=Nat.mod_lt _ (by omega);generalize i % 32=r at *
 have e2:2^32=2^r*(2*2^(31 - r)):=by
  rw [<- Nat.mul_assoc,Nat.mul_comm (2^r) 2,Nat.mul_assoc,<- Nat.pow_add,show r+(31 - r)=31 from by omega]
 rw [e2,Nat.mod_mul_right_div_self,Nat.mod_mul_right_mod]
theorem plus_step{p S a b x c c' A B:Nat}(h:S+p*c=A+B)(hx:x+4294967296*c'=c+a+b):
  S+p*x+4294967296*p*c'=A+p*a+(B+p*b):=by
 have:p*(x+4294967296*c')=p*(c+a+b):=by rw [hx]
 rw [Nat.mul_add,Nat.mul_add,Nat.mul_add] at this;rw [Nat.mul_comm 4294967296 p,Nat.mul_assoc]
 omega
theorem minus_step{p S a b x c c' A B:Nat}(h:S+B=A+p*c)(hx:x+b+c=a+4294967296*c'):
  S+p*x+(B+p*b)=A+p*a+4294967296*p*c':=by
 have:p*(x+b+c)=p*(a+4294967296*c'):=by rw [hx]
 rw [Nat.mul_add,Nat.mul_add,Nat.mul_add] at this;rw [Nat.mul_comm 4294967296 p,Nat.mul_assoc]
 omega
def PlusInv(xs ys ls:List Nat)(i c:Nat):Prop:=W32 ls/\ls.length=i/\c<=1/\num ls+2^(32*i)*c=num (xs.take i)+num (ys.take i)
theorem PlusInv.start(xs ys:List Nat):PlusInv xs ys [] 0 0:=⟨W32.nil,rfl,by omega,by simp [num]⟩
theorem PlusInv.carry{xs ys ls:List Nat}{i c:Nat}(h:PlusInv xs ys ls i c):c<=1:=h.2.2.1
theorem PlusInv.len{xs ys ls:List Nat}{i c:Nat}(h:PlusInv xs ys ls i c):ls.length=i:=h.2.1
theorem PlusInv.step{xs ys ls:List Nat}{i c t:Nat}(h:PlusInv xs ys ls i c)(hx:W32 xs)(hy:W32 ys)(ht:t=c+xs[i]?.getD 0+ys[i]?.getD 0):
  PlusInv xs ys (ls ++ [t % 4294967296]) (i+1) (t / 4294967296):=by
 obtain⟨hw,hl,hc,hs⟩:=h;have h1:=hx.get i;have h2:=hy.get i;refine⟨hw.append (W32.cons (by omega) W32.nil),by simp [hl],by omega,?_⟩;rw [num_snoc,hl,num_take_next,num_take_next,pow32]
 exact plus_step hs (by omega)
theorem PlusInv.done{xs ys ls:List Nat}{i c:Nat}(h:PlusInv xs ys ls i c)(hx:xs.length<=i)(hy:ys.length<=i):
  trim (ls ++ [c])=digs (num xs+num ys)/\W32 (ls ++ [c]):=by
 obtain⟨hw,hl,hc,hs⟩:=h;have hw':W32 (ls ++ [c]):=hw.append (W32.cons (by omega) W32.nil);refine⟨?_,hw'⟩;rw [trim_eq_digs hw',num_snoc,hl,hs,List.take_of_length_le hx,List.take_of_length_le hy]
def MinusInv(xs ys ls:List Nat)(i c:Nat):Prop:=W32 ls/\ls.length=i/\c<=1/\num ls+num (ys.take i)=num (xs.take i)+2^(32*i)*c
theorem MinusInv.start(xs ys:List Nat):MinusInv xs ys [] 0 0:=⟨W32.nil,rfl,by omega,by simp [num]⟩
theorem MinusInv.carry{xs ys ls:List Nat}{i c:Nat}(h:MinusInv xs ys ls i c):c<=1:=h.2.2.1
theorem MinusInv.len{xs ys ls:List Nat}{i c:Nat}(h:MinusInv xs ys ls i c):ls.length=i:=h.2.1
theorem MinusInv.step{xs ys ls:List Nat}{i c d c':Nat}(h:MinusInv xs ys ls i c)(hd:d<4294967296)(hc':c'<=1)
  (ht:d+ys[i]?.getD 0+c=xs[i]?.getD 0+4294967296*c'):MinusInv xs ys (ls ++ [d]) (i+1) c':=by
 obtain⟨hw,hl,hc,hs⟩:=h;refine⟨hw.append (W32.cons hd W32.nil),by simp [hl],hc',?_⟩;rw [num_snoc,hl,num_take_next,num_take_next,pow32]
 exact minus_step hs ht
theorem MinusInv.done{xs ys ls:List Nat}{i c:Nat}(h:MinusInv xs ys ls i c)(hx:xs.length=i)(hxw:W32 xs)(hyw:W32 ys)(hle:num ys<=num xs):
  num ls=num xs - num ys:=by
 obtain⟨hw,hl,hc,hs⟩:=h;have h1:=num_lt hw;have h2:=num_lt hxw;rw [hl] at h1;rw [hx] at h2
 have h3:num (ys.take i)=num ys:=by
  rw [num_take_mod hyw];exact Nat.mod_eq_of_lt (Nat.lt_of_le_of_lt hle h2)
 rw [h3,List.take_of_length_le (by omega)] at hs
 rcases Nat.eq_zero_or_pos c with h0 | h0
 ·subst h0;omega
 ·obtain rfl:c=1:=by omega
  omega
def TimesOut(xs ys ls:List Nat)(n m j:Nat):Prop:=W32 ls/\ls.length=n+m/\(∀ k:Nat,n+j<=k->ls[k]?.getD 0=0)/\num ls=num xs*num (ys.take j)
theorem TimesOut.start(xs ys:List Nat)(n m:Nat):TimesOut xs ys (List.replicate (n+m) 0) n m 0:=
 ⟨W32.replicate _,by simp,fun k _=>by rw [List.getElem?_replicate];split<;>rfl,by simp [num_replicate,num]⟩
theorem TimesOut.skip{xs ys ls:List Nat}{n m j:Nat}(h:TimesOut xs ys ls n m j)(h0:ys[j]?.getD 0=0):TimesOut xs ys ls n m (j+1):=by
 obtain⟨a,b,c,d⟩:=h;refine⟨a,b,fun k hk=>c k (by omega),?_⟩;rw [num_take_next,h0,d];simp
def TimesIn(xs ls l0:List Nat)(n m j i y c:Nat):Prop:=
 W32 ls/\ls.length=n+m/\(∀ k:Nat,n+j<=k->ls[k]?.getD 0=0)/\c<4294967296/\num ls+2^(32*(i+j))*c=num l0+2^(32*j)*(num (xs.take i)*y)
theorem TimesIn.start{xs ys ls:List Nat}{n m j:Nat}(y:Nat)(h:TimesOut xs ys ls n m j):TimesIn xs ls ls n m j 0 y 0:=by
 obtain⟨a,b,c,_⟩:=h
 exact⟨a,b,c,by omega,by simp [num]⟩
theorem TimesIn.step{xs ls l0:List Nat}{n m j i y c t:Nat}(h:TimesIn xs ls l0 n m j i y c)(hi:i<n)(hj:j<m)(hx:W32 xs)(hy:y<4294967296)
  (ht:t=c+ls[i+j]?.getD 0+xs[i]?.getD 0*y):TimesIn xs (ls.set (i+j) (t % 4294967296)) l0 n m j (i+1) y (t / 4294967296):=by
 obtain⟨hw,hl,hz,hc,hs⟩:=h;have h1:=hw.get (i+j);have h2:=hx.get i;have h3:xs[i]?.getD 0*y<=4294967295*4294967295:=Nat.mul_le_mul (by omega) (by omega);refine⟨hw.set _ (by omega),by simp [hl],fun k hk=>?_,by omega,?_⟩
 ·rw [List.getElem?_set_ne (by omega)];exact hz k hk
 ·have e1:=num_set ls (i+j) (t % 4294967296) (by omega);rw [num_take_next,show 32*(i+1+j)=32*(i+j+1) from by omega,pow32];rw [Nat.add_mul,Nat.mul_add (2^(32*j)),<- Nat.add_assoc,<- hs]
  have e2:2^(32*j)*(2^(32*i)*xs[i]?.getD 0*y)=2^(32*(i+j))*(xs[i]?.getD 0*y):=by
   rw [Nat.mul_assoc,<- Nat.mul_assoc (2^(32*j)),<- Nat.pow_add];congr 2;omega
  rw [e2];generalize xs[i]?.getD 0*y=z at *
  have e3:t % 4294967296+4294967296*(t / 4294967296)=t:=by omega
  generalize 2^(32*(i+j))=p at *;generalize ls[i+j]?.getD 0=u at *
  have e4:p*(t % 4294967296)+2^32*p*(t / 4294967296)=p*t:=by
   rw [Nat.mul_comm (2^32) p,Nat.mul_assoc,<- Nat.mul_add];rw [e3]
  have e5:p*t=p*c+p*u+p*z:=by rw [ht,Nat.mul_add,Nat.mul_add]
  omega
theorem TimesIn.done{xs ys ls l0:List Nat}{n m j y c:Nat}(h:TimesIn xs ls l0 n m j n y c)(h0:TimesOut xs ys l0 n m j)(hj:j<m)(hn:wlen xs<=n)(hy:ys[j]?.getD 0=y):
  TimesOut xs ys (ls.set (j+n) c) n m (j+1):=by
 obtain⟨hw,hl,hz,hc,hs⟩:=h;obtain⟨_,_,_,hs0⟩:=h0;refine⟨hw.set _ hc,by simp [hl],fun k hk=>?_,?_⟩
 ·rw [List.getElem?_set_ne (by omega)];exact hz k (by omega)
 ·have e1:=num_set ls (j+n) c (by omega);rw [hz (j+n) (by omega)] at e1;rw [num_take_next,hy,Nat.mul_add,<- hs0];rw [num_take_all hn,Nat.add_comm n j] at hs;rw [Nat.mul_zero,Nat.add_zero] at e1;rw [e1,hs,Nat.mul_left_comm]
theorem TimesOut.done{xs ys ls:List Nat}{n m:Nat}(h:TimesOut xs ys ls n m m)(hm:wlen ys<=m):num ls=num xs*num ys:=by
 rw [h.2.2.2,num_take_all hm]
def LeftInv(xs ls:List Nat)(n q s i:Nat):Prop:=
 W32 ls/\ls.length=q+n+1/\(∀ k:Nat,q+i<k->ls[k]?.getD 0=0)/\ls[q+i]?.getD 0<2^s/\num ls=num (xs.take i)*2^(32*q+s)
theorem LeftInv.start(xs:List Nat)(n q s:Nat):LeftInv xs (List.replicate (q+n+1) 0) n q s 0:=
 ⟨W32.replicate _,by simp,fun k _=>by rw [List.getElem?_replicate];split<;>rfl,by
   rw [List.getElem?_replicate];have:=Nat.two_pow_pos s;split<;>simpa using this,by simp [num_replicate,num]⟩
theorem LeftInv.step{xs ls:List Nat}{n q s i v:Nat}(h:LeftInv xs ls n q s i)(hi:i<n)(hs:s<32)(hx:W32 xs)(hv:v=xs[i]?.getD 0*2^s):
  LeftInv xs ((ls.set (q+i) (ls[q+i]?.getD 0+v % 4294967296)).set (q+i+1) (v / 4294967296)) n q s (i+1)/\ls[q+i]?.getD 0+v % 4294967296<4294967296/\v / 4294967296<4294967296:=by
 obtain⟨hw,hl,hz,hc,hn⟩:=h;have h1:=hx.get i;have hp:=Nat.two_pow_pos s;have h2s:2^s<=2^31:=Nat.pow_le_pow_right (by omega) (by omega)
 have hv1:v<4294967296*2^s:=by rw [hv];exact Nat.mul_lt_mul_of_pos_right (by omega) hp
 have hv2:v / 4294967296<2^s:=Nat.div_lt_of_lt_mul hv1
 -- the low part of v is a multiple of 2^s
 have hlow:ls[q+i]?.getD 0+v % 4294967296<4294967296:=by
  have e:(4294967296:Nat)=2^s*2^(32 - s):=by rw [<- Nat.pow_add,show s+(32 - s)=32 from by omega]
  have:v % 4294967296=2^s*(xs[i]?.getD 0 % 2^(32 - s)):=by
   rw [hv,e,Nat.mul_comm,Nat.mul_mod_mul_left]
  rw [this];have h3:xs[i]?.getD 0 % 2^(32 - s)<2^(32 - s):=Nat.mod_lt _ (Nat.two_pow_pos _);have h4:2^s*(xs[i]?.getD 0 % 2^(32 - s)+1)<=2^s*2^(32 - s):=Nat.mul_le_mul_left _ h3;rw [<- e,Nat.mul_add] at h4
  omega
 refine⟨⟨(hw.set _ hlow).set _ (by omega),by simp [hl],fun k hk=>?_,?_,?_⟩,hlow,by omega⟩
 ·rw [List.getElem?_set_ne (by omega),List.getElem?_set_ne (by omega)];exact hz k (by omega)
 ·rw [show q+(i+1)=q+i+1 from by omega,List.getElem?_set_self (by rw [List.length_set];omega)];exact hv2
 ·have e1:=num_set ls (q+i) (ls[q+i]?.getD 0+v % 4294967296) (by omega);have e2:=num_set (ls.set (q+i) (ls[q+i]?.getD 0+v % 4294967296)) (q+i+1) (v / 4294967296) (by simp;omega);rw [List.getElem?_set_ne (by omega),hz (q+i+1) (by omega),Nat.mul_zero,Nat.add_zero,pow32,Nat.mul_comm (2^32),Nat.mul_assoc] at e2;rw [num_take_next,Nat.add_mul,<- hn]
  have e3:2^(32*i)*xs[i]?.getD 0*2^(32*q+s)=2^(32*(q+i))*v:=by
   rw [hv,Nat.mul_assoc,Nat.pow_add,Nat.mul_left_comm (xs[i]?.getD 0),<- Nat.mul_assoc,<- Nat.pow_add]
   congr 2;omega
  rw [e3];rw [Nat.mul_add (2^(32*(q+i)))] at e1
  have e4:2^(32*(q+i))*(v % 4294967296)+2^(32*(q+i))*(2^32*(v / 4294967296))=2^(32*(q+i))*v:=by
   rw [<- Nat.mul_add];congr 1;omega
  generalize 2^(32*(q+i))*(2^32*(v / 4294967296))=z1 at *;generalize 2^(32*(q+i))*(v % 4294967296)=z2 at *;generalize 2^(32*(q+i))*v=z3 at *;generalize 2^(32*(q+i))*ls[q+i]?.getD 0=z4 at *
  omega
theorem LeftInv.done{xs ls:List Nat}{n q s:Nat}(h:LeftInv xs ls n q s n)(hn:wlen xs<=n):num ls=num xs*2^(32*q+s):=by
 rw [h.2.2.2.2,num_take_all hn]
def RightInv(xs ls:List Nat)(q s t:Nat):Prop:=W32 ls/\ls.length=t/\num ls=num xs / 2^(32*q+s) % 2^(32*t)
theorem RightInv.start(xs:List Nat)(q s:Nat):RightInv xs [] q s 0:=⟨W32.nil,rfl,by simp [num,Nat.mod_one]⟩
theorem RightInv.step{xs ls:List Nat}{q s t v:Nat}(h:RightInv xs ls q s t)(hx:W32 xs)(hs:s<32)(hv:v=xs[q+t]?.getD 0+4294967296*xs[q+t+1]?.getD 0):
  RightInv xs (ls ++ [v / 2^s % 4294967296]) q s (t+1):=by
 obtain⟨hw,hl,hn⟩:=h;refine⟨hw.append (W32.cons (by omega) W32.nil),by simp [hl],?_⟩;rw [num_snoc,hl,hn,show 32*(t+1)=32*t+32 from by omega,Nat.pow_add 2 (32*t),Nat.mod_mul]
 congr 2
 rw [Nat.div_div_eq_div_mul,<- Nat.pow_add,show 32*q+s+32*t=32*(q+t)+s from by omega,Nat.pow_add 2 (32*(q+t)),<- Nat.div_div_eq_div_mul,<- num_drop hx]
 have e:v=num (xs.drop (q+t)) % 18446744073709551616:=by
  have h0:=hx.get (q+t);have h1:=hx.get (q+t+1)
  have g0:(xs.drop (q+t))[0]?.getD 0=xs[q+t]?.getD 0:=by rw [List.getElem?_drop];rfl
  have g1:(xs.drop (q+t)).tail[0]?.getD 0=xs[q+t+1]?.getD 0:=by rw [tail_get,List.getElem?_drop,Nat.add_assoc]
  rw [num_tail (xs.drop (q+t)),num_tail (xs.drop (q+t)).tail,g0,g1]
  omega
 rw [e];generalize num (xs.drop (q+t))=D
 -- the low 64 bits are enough
 have e2:(18446744073709551616:Nat)=2^s*(2^32*2^(32 - s)):=by rw [<- Nat.pow_add,<- Nat.pow_add,show s+(32+(32 - s))=64 from by omega]
 rw [e2,Nat.mod_mul_right_div_self,show (4294967296:Nat)=2^32 from rfl,Nat.mod_mul_right_mod]
theorem RightInv.done{xs ls:List Nat}{q s t:Nat}(h:RightInv xs ls q s t)(hx:W32 xs)(hq:wlen xs<=q+t):num ls=num xs / 2^(32*q+s):=by
 rw [h.2.2];refine Nat.mod_eq_of_lt ?_;rw [Nat.div_lt_iff_lt_mul (Nat.two_pow_pos _),<- Nat.pow_add]
 exact Nat.lt_of_lt_of_le (num_lt_wlen hx) (Nat.pow_le_pow_right (by omega) (by omega))
def rv(neg:Bool)(p q:Nat):Rat:=(if neg then -(p:Rat) else (p:Rat)) / (q:Rat)
theorem cast_pos{q:Nat}(h:0<q):(0:Rat)<(q:Rat):=Rat.natCast_pos.2 h
theorem cast_ne{q:Nat}(h:0<q):(q:Rat)≠0:=by have:=cast_pos h;grind
theorem two_ne:(2:Rat)≠0:=by decide
theorem zpow_pos(e:Int):(0:Rat)<(2:Rat)^e:=Rat.zpow_pos (by decide)
theorem zpow_ne(e:Int):(2:Rat)^e≠0:=by have:=zpow_pos e;grind
theorem zpow_add(a b:Int):(2:Rat)^(a+b)=2^a*2^b:=Rat.zpow_add two_ne a b
theorem zpow_nat(k:Nat):(2:Rat)^(k:Int)=((2^k:Nat):Rat):=by rw [Rat.zpow_natCast,Rat.natCast_pow];rfl
theorem zpow_split(e:Int):(2:Rat)^e*((2^(-e).toNat:Nat):Rat)=((2^e.toNat:Nat):Rat):=by
 rw [<- zpow_nat,<- zpow_nat,<- zpow_add]
 congr 1;omega
theorem eq_div{a b c:Rat}(hc:c≠0)(h:a*c=b):a=b / c:=by rw [<- h,Rat.mul_div_cancel hc]
theorem div_eq{a b c:Rat}(hc:c≠0)(h:a=b*c):a / c=b:=by rw [h,Rat.mul_div_cancel hc]
theorem rv_eq{neg:Bool}{p q p' q':Nat}(hq:0<q)(hq':0<q')(h:p*q'=p'*q):rv neg p q=rv neg p' q':=by
 have h1:(p:Rat)*(q':Rat)=(p':Rat)*(q:Rat):=by rw [<- Rat.natCast_mul,h,Rat.natCast_mul]
 unfold rv;refine eq_div (cast_ne hq') ?_;rw [Rat.div_def];have:=Rat.mul_inv_cancel _ (cast_ne hq)
 cases neg<;>simp<;>grind
theorem rv_zero(neg:Bool)(q:Nat):rv neg 0 q=0:=by unfold rv;cases neg<;>simp [Rat.div_def]
theorem rv_scale(neg:Bool){p q:Nat}(hq:0<q)(e:Int):rv neg (p*2^e.toNat) (q*2^(-e).toNat)=rv neg p q*2^e:=by
 have h0:=cast_ne hq;have h1:=cast_ne (Nat.two_pow_pos (-e).toNat);have h2:=zpow_split e;have h3:=cast_ne (Nat.mul_pos hq (Nat.two_pow_pos (-e).toNat));unfold rv;refine div_eq h3 ?_;rw [Rat.natCast_mul,Rat.natCast_mul,Rat.div_def,<- h2];have:=Rat.mul_inv_cancel _ h0
 cases neg<;>simp<;>grind
theorem odd_part{a k:Nat}(h:a % 2^k=0):a / 2^k*2^k=a:=by
 have:=Nat.div_add_mod a (2^k);rw [Nat.mul_comm];omega
def RatV(w:World)(K:Nat)(neg:Bool)(vn vd:Value)(x:Rat):Prop:=
 ∃ (p q:Nat) (A:Option Addr) (n c:Nat) (B:Option Addr) (m d:Nat),vn=.slice A n c/\vd=.slice B m d/\U32s w A n c (digs p)/\U32s w B m d (digs q) /\
  0<q/\(p=0->neg=false)/\p<2^(32*K)/\q<2^(32*K)/\x=rv neg p q
theorem RatV.below{w w':World}{K:Nat}{neg:Bool}{vn vd:Value}{x:Rat}(h:RatV w K neg vn vd x)(hb:Below w.heap.size w w'):RatV w' K neg vn vd x:=by
 obtain⟨p,q,A,n,c,B,m,d,h1,h2,h3,h4,h5⟩:=h
 exact⟨p,q,A,n,c,B,m,d,h1,h2,h3.below hb,h4.below hb,h5⟩
theorem RatV.shape{w:World}{K:Nat}{neg:Bool}{vn vd:Value}{x:Rat}(h:RatV w K neg vn vd x):∃ (A:Option Addr) (n c:Nat) (B:Option Addr) (m d:Nat),vn=.slice A n c/\vd=.slice B m d:=by
 obtain⟨p,q,A,n,c,B,m,d,h1,h2,-⟩:=h
 exact⟨A,n,c,B,m,d,h1,h2⟩
theorem RatV.mono{w:World}{K K':Nat}{neg:Bool}{vn vd:Value}{x:Rat}(h:RatV w K neg vn vd x)(hk:K<=K'):RatV w K' neg vn vd x:=by
 obtain⟨p,q,A,n,c,B,m,d,h1,h2,h3,h4,h5,h6,h7,h8,h9⟩:=h;have:=Nat.pow_le_pow_right (n:=2) (by omega) (show 32*K<=32*K' by omega)
 exact⟨p,q,A,n,c,B,m,d,h1,h2,h3,h4,h5,h6,by omega,by omega,h9⟩
def NewRat(w:World)(K:Nat)(x:Rat)(e:Ending)(w':World):Prop:=
 ∃ neg vn vd,e=.returned (.agg #[.bool neg,vn,vd])/\RatV w' K neg vn vd x/\Below w.heap.size w w'
theorem NewRat.trans{w w1 w':World}{K:Nat}{x:Rat}{e:Ending}(h:NewRat w1 K x e w')(hb:Below w.heap.size w w1):NewRat w K x e w':=by
 obtain⟨neg,vn,vd,rfl,h1,h2⟩:=h
 exact⟨neg,vn,vd,rfl,h1,hb.trans (h2.mono hb.size)⟩
def Blk(w:World)(g:Nat)(t:TypeId)(cs:Array Value):Prop:=w.heap[g]?=some (.cells cs t (0,0))
theorem Blk.lt{w:World}{g:Nat}{t:TypeId}{cs:Array Value}(h:Blk w g t cs):g<w.heap.size:=(Array.getElem?_eq_some_iff.1 h).1
theorem Blk.cell{w:World}{g:Nat}{t:TypeId}{cs:Array Value}(h:Blk w g t cs)(i:Nat):w.cell? ⟨g,i,none⟩=cs[i]?:=cell_of_row w g i cs t (0,0) h
theorem Blk.frozen{w:World}{g:Nat}{t:TypeId}{cs:Array Value}(h:Blk w g t cs)(i:Nat):w.frozen? ⟨g,i,none⟩=false:=frozen_of_row w g i cs t h
theorem Blk.new(w:World)(t:TypeId)(cs:Array Value):Blk (w.alloc (.cells cs t)) w.heap.size t cs:=heap_alloc_new w _
theorem Blk.below{w w':World}{g B:Nat}{t:TypeId}{cs:Array Value}(h:Blk w g t cs)(hb:Below B w w')(hg:g<B):Blk w' g t cs:=(hb.block g hg).trans h
theorem Blk.drewN{w:World}{g:Nat}{t:TypeId}{cs:Array Value}(h:Blk w g t cs)(n:Nat):Blk (w.drewN n) g t cs:=h
theorem Blk.alloc{w:World}{g:Nat}{t:TypeId}{cs:Array Value}(h:Blk w g t cs)(o:Obj):Blk (w.alloc o) g t cs:=(Below.heap_alloc w o g h.lt).trans h
theorem Blk.keep{w w':World}{g:Nat}{t:TypeId}{cs:Array Value}(h:Blk w g t cs)(hb:Below w.heap.size w w'):Blk w' g t cs:=h.below hb h.lt
theorem below_set3{w w0:World}{B g:Nat}(h:Below B w0 w)(hg:B<=g)(a b d:Value):
  Below B w0 (((w.setCell ⟨g,0,none⟩ a).setCell ⟨g,1,none⟩ b).setCell ⟨g,2,none⟩ d):=
 ((h.setCell (p:=⟨g,0,none⟩) hg a).setCell (p:=⟨g,1,none⟩) hg b).setCell (p:=⟨g,2,none⟩) hg d
def NoWd(cs:Array Value):Prop:=∀ i x:Nat,cs[i]?≠some (wd x)
theorem NoWd.zero:NoWd (Zr false none 0 0 none 0 0):=by
 intro i x
 match i with
 | 0=>simp
 | 1=>simp
 | 2=>simp
 | i+3=>simp
theorem Blk.apart{w:World}{g:Nat}{t:TypeId}{cs:Array Value}{A:Option Addr}{n c:Nat}{xs:List Nat}(hb:Blk w g t cs)(hc:NoWd cs)(h:U32s w A n c xs):∀ ad,A=some ad->0<n->ad.block≠g:=by
 intro ad e hn hg;obtain⟨ad',e',_,hj⟩:=h.at_ hn;rw [e] at e';cases e';have h0:=hj 0 hn
 have:(ad.add 0)=ad:=by unfold Addr.add;rfl
 rw [this] at h0;unfold World.cell? at h0;rw [hg,hb] at h0
 simp only at h0
 split at h0
 ·exact absurd h0 (by simp)
 ·exact hc _ _ h0
theorem U32s.set3'{w:World}{A:Option Addr}{n c g:Nat}{xs:List Nat}(h:U32s w A n c xs)(hg:∀ ad,A=some ad->0<n->ad.block≠g)(a b d:Value):
  U32s (((w.setCell ⟨g,0,none⟩ a).setCell ⟨g,1,none⟩ b).setCell ⟨g,2,none⟩ d) A n c xs:=
 h.keep (by simp [World.setCell]) fun ad e hn=>by
  have h1:=hg ad e hn;rw [Below.heap_setCell _ ⟨g,2,none⟩ d _ h1,Below.heap_setCell _ ⟨g,1,none⟩ b _ h1,Below.heap_setCell _ ⟨g,0,none⟩ a _ h1]
theorem RatV.ret{w w5:World}{K g:Nat}{t:TypeId}{cs:Array Value}{neg:Bool}{vn vd:Value}{x:Rat}(h:RatV w5 K neg vn vd x)(hb:Below w.heap.size w w5)(hk:Blk w5 g t cs)(hc:NoWd cs)(hg:w.heap.size<=g):
  NewRat w K x (.returned (.agg #[.bool neg,vn,vd])) (((w5.setCell ⟨g,0,none⟩ (.bool neg)).setCell ⟨g,1,none⟩ vn).setCell ⟨g,2,none⟩ vd):=by
 obtain⟨p,q,A,n,c,B,m,d,rfl,rfl,h3,h4,h5⟩:=h
 exact⟨neg,_,_,rfl,⟨p,q,A,n,c,B,m,d,rfl,rfl,h3.set3' (hk.apart hc h3) _ _ _,h4.set3' (hk.apart hc h4) _ _ _,h5⟩,below_set3 hb hg _ _ _⟩
theorem words_any(A:Option Addr)(n c:Nat)(xs:List Nat)(w:World)(h:U32s w A n c xs):
  Calls prog 163 #[.slice A n c] w fun e w'=>e=.returned (.int .i64 (wlen xs))/\w=w':=by
 have hn:=h.small;have H:=Hd h;clear h
 go_enter func163,ntmps163
 go_wp2
 go_loop [3] (fun v=>∃ k:Nat,k<=n/\v=.int .i64 k/\∀ j:Nat,k<=j->xs[j]?.getD 0=0) (fun v=>(intOf v).toNat)
 case atStart=>exact⟨n,by omega,rfl,fun j hj=>by
  have:=H.out.len
  rw [List.getElem?_eq_none (by omega)];rfl⟩
 case round=>
  obtain⟨k,hk,rfl,hz⟩:=hrel;have Hz:=Hd hz;clear hz
  rcases Nat.eq_zero_or_pos k with h0 | h0
  ·subst h0;go_wp2
   go_ret
   exact⟨by have:=wlen_of (l:=xs) (Nat.zero_le _) Hz.out (.inl rfl);rw [this];rfl,rfl⟩
  ·obtain⟨ad,rfl,hc⟩:=H.out.cell (j:=k - 1) (by omega);go_wp2
   ·have ht:((xs[k - 1]?.getD 0:Nat):Int)=0:=by simpa using ‹(((xs[k - 1]?.getD 0:Nat):Int) == 0)=true›
    go_round
    case rel=>
     refine⟨k - 1,by omega,by go_num,fun j hj=>?_⟩
     rcases Nat.lt_or_ge j k with h1 | h1
     ·obtain rfl:j=k - 1:=by omega
      omega
     ·exact Hz.out j h1
    case measure=>simp [intOf];omega
   ·have ht:¬ ((xs[k - 1]?.getD 0:Nat):Int)=0:=by simpa using ‹(((xs[k - 1]?.getD 0:Nat):Int) == 0)=false›
    go_ret
    exact⟨by have:=wlen_of (l:=xs) (n:=k) (by rw [H.out.len];omega) Hz.out (.inr (by omega));rw [this];rfl,rfl⟩
def NewU32(w:World)(xs:List Nat)(e:Ending)(w':World):Prop:=
 ∃ A n c,e=.returned (.slice A n c)/\U32s w' A n c xs/\Below w.heap.size w w'
theorem Own.newU32{w w':World}{v:Value}{xs:List Nat}(h:Own w' w.heap.size v xs)(hb:Below w.heap.size w w')(hw:W32 xs)(hs:xs.length<=34359738368):NewU32 w xs (.returned v) w':=by
 obtain⟨A,c,rfl⟩:=h.form
 exact⟨A,_,c,rfl,h.u32s rfl hw hs,hb⟩
theorem NewU32.trans{w w1 w':World}{xs:List Nat}{e:Ending}(h:NewU32 w1 xs e w')(hb:Below w.heap.size w w1):NewU32 w xs e w':=by
 obtain⟨A,n,c,rfl,hu,hb'⟩:=h
 exact⟨A,n,c,rfl,hu,hb.trans (hb'.mono hb.size)⟩
theorem below_alloc(w:World)(o:Obj):Below w.heap.size w (w.alloc o):=(Below.refl _ _).alloc (Nat.le_refl _) o
theorem getD_snoc{xs:List Nat}{m:Nat}(h:m<xs.length):xs.take m ++ [xs[m]?.getD 0]=xs.take (m+1):=by
 rw [List.take_succ_eq_append_getElem h,List.getElem?_eq_getElem h];rfl
theorem norm_any(A:Option Addr)(n c:Nat)(xs:List Nat)(w:World)(h:U32s w A n c xs)(hs:n<=34359738367):
  Calls prog 93 #[.slice A n c] w (NewU32 w (trim xs)):=by
 have hn:=h.small;have H:=Hd h;clear h
 go_enter func93,ntmps93
 go_wp2
 go_loop [3] (fun v=>∃ k:Nat,k<=n/\v=.int .i64 k/\∀ j:Nat,k<=j->xs[j]?.getD 0=0) (fun v=>(intOf v).toNat)
 case atStart=>exact⟨n,by omega,rfl,fun j hj=>by
  have:=H.out.len
  rw [List.getElem?_eq_none (by omega)];rfl⟩
 case round=>
  obtain⟨k,hk,rfl,hz⟩:=hrel;have Hz:=Hd hz;clear hz
  by_cases hg:0<k/\xs[k - 1]?.getD 0=0
  ·obtain⟨h0,hx⟩:=hg;obtain⟨ad,rfl,hc⟩:=H.out.cell (j:=k - 1) (by omega);rw [hx] at hc;have Hx:=Hd hx;clear hx;go_wp2
   go_round
   case rel=>
    refine⟨k - 1,by omega,by go_num,fun j hj=>?_⟩
    rcases Nat.lt_or_ge j k with h1 | h1
    ·obtain rfl:j=k - 1:=by omega
     exact Hx.out
    ·exact Hz.out j h1
   case measure=>simp [intOf];omega
  ·have hwl:wlen xs=k:=wlen_of (by rw [H.out.len];omega) Hz.out (by omega)
   have Hl:Hid (trim xs=xs.take k):=by
    have:=trim_eq_take xs;rw [hwl] at this;exact this
   clear hwl
   by_cases h0:0<k
   case' pos=>
    obtain⟨ad,rfl,hc⟩:=H.out.cell (j:=k - 1) (by omega)
    have hx:((xs[k - 1]?.getD 0:Nat):Int)≠0:=by omega
    have hx':(((xs[k - 1]?.getD 0:Nat):Int) == 0)=false:=by
     simpa using hx
    clear hg hx;go_wp2;clear hx' hc
   case' neg=>
    go_wp2;clear hg
   all_goals
    clear h0
    go_loopw [4,5] (fun v i wr=>∃ m:Nat,m<=k/\i=.int .i64 m/\Own wr w.heap.size v (xs.take m)/\Below w.heap.size w wr) (fun _ i _=>k - (intOf i).toNat)
    case atStart=>exact⟨0,by omega,rfl,Own.nil _ _,Below.refl _ _⟩
    case round=>
     obtain⟨m,hm,rfl,hown,hb⟩:=hrel
     by_cases hlt:m<k
     ·obtain⟨ad',e,hc⟩:=(H.out.below hb).cell (j:=m) (by omega)
      cases e
      have hbs:=hb.size
      go_wp2_with (at_builtin;refine wpList_append_u32 _ rfl _ _ rfl w.heap.size _ _ rfl (hown.alloc _) ⟨_,0,none⟩ 1 (xs[m]?.getD 0) rfl ?c1 ?c2 ?c3 ?_)
      case c1=>simp
      case c2=>rw [List.length_take];omega
      case c3=>simp;omega
      intro v' w' hown' hgrow
      have hown2:Own w' w.heap.size v' (xs.take (m+1)):=by
       rw [<- getD_snoc (by rw [H.out.len];omega)];exact hown'
      have hb':Below w.heap.size w w':=(hb.alloc hbs _).grown hgrow (by simp;omega) (fun g hg=>(hown.lt g hg).1);clear hown hown' hb hgrow hc hbs;go_wp2
      go_roundw
      case rel=>exact⟨m+1,by omega,by go_num,hown2,hb'⟩
      case measure=>simp [intOf];omega
     ·obtain rfl:m=k:=by omega
      go_wp2
      go_ret
      rw [Hl.out]
      exact hown.newU32 hb (H.out.w32.take _) (by rw [List.length_take];omega)
def QuietRet(w:World)(v:Value)(e:Ending)(w':World):Prop:=e=.returned v/\∃ k,w'=w.drewN k
theorem drew2(w:World)(a b:Nat):∃ k,(w.drewN a).drewN b=w.drewN k:=⟨_,World.drewN_drewN _ _ _⟩
theorem drew3(w:World)(a b c:Nat):∃ k,((w.drewN a).drewN b).drewN c=w.drewN k:=⟨_,by rw [World.drewN_drewN,World.drewN_drewN]⟩
theorem cmp_any(A B:Option Addr)(n c m d:Nat)(xs ys:List Nat)(w:World)(hx:U32s w A n c xs)(hy:U32s w B m d ys):
  Calls prog 98 #[.slice A n c,.slice B m d] w (QuietRet w (.int .i64 (cmp3 (num xs) (num ys)))):=by
 have HX:=Hd hx;have HY:=Hd hy;have n1:=hx.small;have n2:=hy.small;have l1:=wlen_le xs;have l2:=wlen_le ys;rw [hx.len] at l1;rw [hy.len] at l2;clear hx hy
 go_enter func98,ntmps98
 go_wp2_with fail;refine cy (words_any A n c xs w HX.out) ?_;go_wp2_with fail;refine cy (words_any B m d ys w HY.out) ?_
 rcases Nat.lt_trichotomy (wlen xs) (wlen ys) with hl | hl | hl
 ·go_wp2
  go_ret
  exact⟨by rw [cmp3_lt (num_lt_of_wlen HX.out.w32 hl)];rfl,0,rfl⟩
 ·have Hl:=Hd hl
  have g1:¬ wlen xs<wlen ys:=by omega
  have g2:¬ wlen ys<wlen xs:=by omega
  have g3:wlen xs<=m:=by omega
  clear hl;go_wp2
  go_loopw [7] (fun v wr=>∃ k:Nat,k<=wlen xs/\v=.int .i64 ((k:Int) - 1)/\(∀ j:Nat,k<=j->xs[j]?.getD 0=ys[j]?.getD 0)/\∃ z,wr=w.drewN z) (fun v _=>(intOf v+1).toNat)
  case atStart=>exact⟨wlen xs,by omega,rfl,fun j hj=>by rw [(wlen_spec xs).1 j hj,(wlen_spec ys).1 j (by rw [<- Hl.out];exact hj)],0,rfl⟩
  case round=>
   obtain⟨k,hk,rfl,hz,z,rfl⟩:=hrel;have Hz:=Hd hz;clear hz
   rcases Nat.eq_zero_or_pos k with h0 | h0
   ·subst h0;go_wp2
    go_ret
    exact⟨by rw [cmp3_eq (num_ext fun j=>Hz.out j (Nat.zero_le _))];rfl,z,rfl⟩
   ·obtain⟨i,rfl⟩:∃ i,k=i+1:=⟨k - 1,by omega⟩
    obtain⟨ad,rfl,hc⟩:=HX.out.cell (j:=i) (by omega);obtain⟨ad',rfl,hc'⟩:=HY.out.cell (j:=i) (by omega);rw [show (((i+1:Nat):Int) - 1)=(i:Int) from by omega]
    have hi1:(i:Int)<(n:Int):=by omega
    have hi2:(i:Int)<(m:Int):=by omega
    go_wp2_with fail
    go_quiet (fail)
    go_wp2
    ·go_ret
     exact⟨by rw [cmp3_lt (num_lt_of HX.out.w32 i (fun j hj=>Hz.out j hj) (by assumption))];rfl,drew2 _ _ _⟩
    ·go_quiet (fail)
     go_wp2
     ·go_ret
      exact⟨by rw [cmp3_gt (num_lt_of HY.out.w32 i (fun j hj=>(Hz.out j hj).symm) (by assumption))];rfl,drew3 _ _ _ _⟩
     ·go_roundw
      case rel=>
       refine⟨i,by omega,by go_num,fun j hj=>?_,_,rfl⟩
       rcases Nat.lt_or_ge i j with h1 | h1
       ·exact Hz.out j h1
       ·obtain rfl:j=i:=by omega
        omega
      case measure=>simp [intOf]
 ·go_wp2
  go_ret
  exact⟨by rw [cmp3_gt (num_lt_of_wlen HY.out.w32 hl)];rfl,0,rfl⟩
theorem ret_int{k:IntKind}{a b:Int}(h:a=b):Ending.returned (.int k a)=.returned (.int k b):=by rw [h]
theorem ret_bool{a b:Bool}(h:a=b):Ending.returned (.bool a)=.returned (.bool b):=by rw [h]
theorem and1_u32{x:Nat}(h:x<4294967296):bits .and .u32 (x:Int) 1=((x % 2:Nat):Int):=by
 have:=u32_and_nat x 1 h (by omega);rw [nat_mask1] at this;exact this
theorem mask32_u64{x:Nat}(h:x<18446744073709551616):bits .and .u64 (x:Int) 4294967295=((x % 4294967296:Nat):Int):=by
 have:=u64_and_nat x 4294967295 h (by omega);rw [nat_mask32] at this;exact this
theorem mask52_u64{x:Nat}(h:x<18446744073709551616):bits .and .u64 (x:Int) 4503599627370495=((x % 4503599627370496:Nat):Int):=by
 have:=u64_and_nat x 4503599627370495 h (by omega);rw [nat_mask52] at this;exact this
theorem mask11_u64{x:Nat}(h:x<18446744073709551616):bits .and .u64 (x:Int) 2047=((x % 2048:Nat):Int):=by
 have:=u64_and_nat x 2047 h (by omega);rw [nat_mask11] at this;exact this
theorem mask32_i{a:Int}(h0:0<=a)(h:a<18446744073709551616):bits .and .u64 a 4294967295=a % 4294967296:=by
 obtain⟨x,rfl⟩:∃ x:Nat,a=x:=⟨a.toNat,by omega⟩
 rw [mask32_u64 (by omega)];omega
theorem or_join{i x y:Nat}(hx:x*2^i<18446744073709551616)(hy:y<2^i)(hy':y<18446744073709551616):bits .or .u64 ((x*2^i:Nat):Int) (y:Int)=((x*2^i+y:Nat):Int):=by
 rw [u64_or_nat _ _ hx hy',nat_join i _ _ (Nat.mul_mod_left _ _) hy]
theorem or_join'{i x y:Nat}(hx:x*2^i<18446744073709551616)(hy:y<2^i)(hy':y<18446744073709551616):bits .or .u64 (y:Int) ((x*2^i:Nat):Int)=((y+x*2^i:Nat):Int):=by
 rw [u64_or_nat _ _ hy' hx,Nat.or_comm,nat_join i _ _ (Nat.mul_mod_left _ _) hy,Nat.add_comm]
theorem or_low_u32{l v s:Nat}(hl:l<2^s)(hv:v % 2^s=0)(h1:l<4294967296)(h2:v<4294967296):bits .or .u32 (l:Int) (v:Int)=((l+v:Nat):Int):=by
 rw [u32_or_nat _ _ h1 h2,Nat.or_comm,nat_join s _ _ hv hl,Nat.add_comm]
theorem len_zero(A:Option Addr)(n c:Nat)(xs:List Nat)(w:World)(hx:U32s w A n c xs)(h0:wlen xs=0):
  Calls prog 224 #[.slice A n c] w fun e w'=>e=.returned (.int .i64 0)/\w=w':=by
 have HX:=Hd hx;clear hx;have hw:=words_any A n c xs w HX.out;rw [h0] at hw;have HW:=Hd hw;clear hw
 go_enter func224,ntmps224
 go_wp2_with fail;refine HW.out.mono ?_;rintro e w' ⟨rfl,rfl⟩;go_wp2
 go_ret
 exact⟨rfl,rfl⟩
theorem len_pos(A:Option Addr)(n c l t:Nat)(xs:List Nat)(w:World)(hx:U32s w A n c xs)(hl:wlen xs=l+1)(ht:xs[l]?.getD 0=t):
  Calls prog 224 #[.slice A n c] w fun e w'=>e=.returned (.int .i64 ((32*l+blen t:Nat):Int))/\w=w':=by
 have HX:=Hd hx;have n1:=hx.small;have l1:=wlen_le xs;rw [hx.len,hl] at l1;have hlt:=hx.lt l;clear hx;have hw:=words_any A n c xs w HX.out;rw [hl] at hw;obtain⟨ad,rfl,hc⟩:=HX.out.cell (j:=l) (by omega);rw [ht] at hlt hc;clear ht hl;have HW:=Hd hw;clear hw;have b0:blen t<=32:=blen_le_iff.2 (by omega)
 go_enter func224,ntmps224
 go_wp2_with fail;refine HW.out.mono ?_;rintro e w' ⟨rfl,rfl⟩;rw [show ((l+1:Nat):Int)=(l:Int)+1 from by omega]
 have hb0:((l:Int)+1 == 0)=false:=by simp;omega
 go_wp2
 go_loop [4,5] (fun v y=>∃ k x:Nat,v=.int .i64 k/\y=wd x/\x<4294967296/\k+blen x=32*l+blen t) (fun _ y=>(intOf y).toNat)
 case atStart=>exact⟨32*l,t,by go_num,rfl,hlt,rfl⟩
 case round=>
  obtain⟨k,x,rfl,rfl,hx,hk⟩:=hrel;have Hk:=Hd hk
  have hk2:k<=32*l+32:=by omega
  clear hk
  rcases Nat.eq_zero_or_pos x with h0 | h0
  ·subst h0;go_wp2
   go_ret
   have:=Hk.out;rw [blen_zero,Nat.add_zero] at this
   exact⟨ret_int (by omega),rfl⟩
  ·go_wp2
   go_round
   case rel=>exact⟨k+1,x / 2,by go_num,by go_num,by omega,by have:=Hk.out;rw [blen_half h0] at this;omega⟩
   case measure=>simp [intOf];omega
theorem len_any(A:Option Addr)(n c:Nat)(xs:List Nat)(w:World)(hx:U32s w A n c xs):
  Calls prog 224 #[.slice A n c] w fun e w'=>e=.returned (.int .i64 (blen (num xs)))/\w=w':=by
 rcases Nat.eq_zero_or_pos (wlen xs) with h0 | h0
 ·have:=len_zero A n c xs w hx h0;rw [show blen (num xs)=0 from by rw [wlen_eq_zero.1 h0];rfl]
  exact this
 ·have:=len_pos A n c (wlen xs - 1) (xs[wlen xs - 1]?.getD 0) xs w hx (by omega) rfl;rw [blen_num hx.w32 h0]
  exact this
theorem bit_any(A:Option Addr)(n c i:Nat)(xs:List Nat)(w:World)(hx:U32s w A n c xs)(hi:i<=4611686018427387904):
  Calls prog 200 #[.slice A n c,.int .i64 (i:Int)] w fun e w'=>e=.returned (.int .u32 ((num xs / 2^i % 2:Nat):Int))/\w=w':=by
 have HX:=Hd hx;have n1:=hx.small;have E:=Hd (num_bit hx.w32 i);clear hx
 by_cases hi2:i / 32<n
 ·obtain⟨ad,rfl,hc⟩:=HX.out.cell (j:=i / 32) hi2;have hlt:=HX.out.lt (i / 32);rw [E.out];generalize hx:xs[i / 32]?.getD 0=x at *;clear hx
  go_enter func200,ntmps200
  go_wp2
  go_ret
  exact⟨ret_int (by have:=and1_u32 (x:=x / 2^(i % 32)) (Nat.lt_of_le_of_lt (Nat.div_le_self _ _) hlt);rw [<- this];simp),rfl⟩
 ·have h0:num xs / 2^i % 2=0:=by
   rw [E.out,List.getElem?_eq_none (by rw [HX.out.len];omega)]
   simp
  rw [h0]
  go_enter func200,ntmps200
  go_wp2
  go_ret
  exact⟨rfl,rfl⟩
theorem zeros_any(A:Option Addr)(n c:Nat)(xs:List Nat)(w:World)(hx:U32s w A n c xs)(h0:num xs≠0):
  Calls prog 164 #[.slice A n c] w fun e w'=>(∃ k:Nat,e=.returned (.int .i64 (k:Int))/\k<=32*n/\num xs % 2^k=0/\num xs / 2^k % 2=1)/\w=w':=by
 have HX:=Hd hx;have n1:=hx.small;have l1:=wlen_le xs;rw [hx.len] at l1;clear hx
 have hl:0<wlen xs:=by have:=@wlen_eq_zero xs;omega
 go_enter func164,ntmps164
 go_wp2_with fail;refine cy (words_any A n c xs w HX.out) ?_
 have hl':((wlen xs:Int) == 0)=false:=by simp;omega
 go_wp2
 go_loop [3] (fun v=>∃ q:Nat,v=.int .i64 ((32*q:Nat):Int)/\q<wlen xs/\num xs % 2^(32*q)=0) (fun v=>32*n - (intOf v).toNat)
 case atStart=>exact⟨0,rfl,hl,Nat.mod_one _⟩
 case round=>
  obtain⟨q,rfl,hq,hz⟩:=hrel;have HZ:=Hd hz;clear hz;obtain⟨ad,e,hc⟩:=HX.out.cell (j:=q) (by omega)
  cases e
  have e0:num xs % 2^(32*(q+1))=num xs % 2^(32*q)+2^(32*q)*(xs[q]?.getD 0):=by
   rw [<- num_word HX.out.w32,Nat.mul_add,Nat.pow_add,Nat.mod_mul]
  have E0:=Hd e0;clear e0;rw [show ((32*q:Nat):Int)=32*(q:Int) from by omega]
  have d0:32*(q:Int) / 32=(q:Int):=by omega
  by_cases hx0:xs[q]?.getD 0=0
  ·rw [hx0] at hc
   have hq':q+1<wlen xs:=by
    have h2:=(wlen_spec xs).2
    rcases Nat.lt_or_ge (q+1) (wlen xs) with h3 | h3
    ·exact h3
    ·obtain h4:wlen xs - 1=q:=by omega
     rw [h4] at h2;omega
   have HX0:=Hd hx0;clear hx0;go_wp2
   go_round
   case rel=>exact⟨q+1,by go_num,hq',by rw [E0.out,HZ.out,HX0.out];omega⟩
   case measure=>simp [intOf];omega
  ·have hx1:(((xs[q]?.getD 0:Nat):Int) == 0)=false:=by simp;omega
   have HX0:=Hd hx0;clear hx0
   have e1:num xs % 2^(32*(q+1))≠0:=by
    rw [E0.out,HZ.out,Nat.zero_add]
    exact Nat.mul_ne_zero (by have:=Nat.two_pow_pos (32*q);omega) HX0.out
   obtain⟨Z,hZ⟩:∃ Z:Nat,32*(q+1)=Z:=⟨_,rfl⟩
   rw [hZ] at e1;have E1:=Hd e1;have HZZ:=Hd hZ;clear e1 hZ E0;go_wp2
   go_loop [3] (fun v=>∃ k:Nat,v=.int .i64 (k:Int)/\32*q<=k/\k<32*(q+1)/\num xs % 2^k=0) (fun v=>32*(q+1) - (intOf v).toNat)
   case atStart=>exact⟨32*q,by go_num,by omega,by omega,HZ.out⟩
   case round=>
    obtain⟨k,rfl,hk1,hk2,hkz⟩:=hrel;clear hx1 hc d0;have HK:=Hd hkz;clear hkz;have hbit:=bit_any _ n c k xs w HX.out (by omega)
    obtain⟨b,hb⟩:∃ b,num xs / 2^k % 2=b:=⟨_,rfl⟩
    rw [hb] at hbit;have HBIT:=Hd hbit;have HB:=Hd hb;clear hbit hb;go_wp2_with fail;refine HBIT.out.mono ?_;rintro e w' ⟨rfl,rfl⟩;go_wp2
    ·have hb1:(b:Int)=0:=by simpa using ‹((b:Int) == 0)=true›
     have hb:b=0:=by omega
     have hz1:num xs % 2^(k+1)=0:=by
      rw [Nat.pow_succ,Nat.mod_mul,HK.out];rw [HB.out,hb];omega
     have hk3:k+1<32*(q+1):=by
      rcases Nat.lt_or_ge (k+1) (32*(q+1)) with h3 | h3
      ·exact h3
      ·obtain h4:k+1=32*(q+1):=by omega
       rw [h4] at hz1;rw [HZZ.out] at hz1
       exact absurd hz1 E1.out
     go_round
     case rel=>exact⟨k+1,by go_num,by omega,hk3,hz1⟩
     case measure=>simp [intOf];omega
    ·have hb1:(b:Int)≠0:=by simpa using ‹((b:Int) == 0)=false›
     have hb:=HB.out
     go_ret
     exact⟨⟨k,rfl,by omega,HK.out,by omega⟩,rfl⟩
theorem NewU32.nil(w:World):NewU32 w [] (.returned (.slice none 0 0)) w:=⟨none,0,0,rfl,U32s.nil _ _ _,Below.refl _ _⟩
theorem left_any(A:Option Addr)(n c k:Nat)(xs:List Nat)(w:World)(hx:U32s w A n c xs)(hs1:n<=8589934592)(hk:k<=137438953472):
  Calls prog 166 #[.slice A n c,.int .i64 (k:Int)] w (NewU32 w (digs (num xs*2^k))):=by
 have HX:=Hd hx;have l1:=wlen_le xs;rw [hx.len] at l1;have w1:=words_any A n c xs w hx;clear hx
 obtain⟨m,hm⟩:∃ m,wlen xs=m:=⟨_,rfl⟩
 rw [hm] at w1 l1;have W1:=Hd w1;clear w1
 obtain⟨s,hs⟩:∃ s,k % 32=s:=⟨_,rfl⟩
 obtain⟨q,hq⟩:∃ q,k / 32=q:=⟨_,rfl⟩
 have hs2:s<32:=by omega
 have hkq:32*q+s=k:=by omega
 have hq2:q<=4294967296:=by omega
 have d1:(k:Int) / 32=(q:Int):=by omega
 have d2:(k:Int) % 32=(s:Int):=by omega
 clear hs hq;have HM:=Hd hm;have HK:=Hd hkq;clear hm hkq
 by_cases h0:m=0
 ·subst h0;rw [wlen_eq_zero.1 HM.out,Nat.zero_mul,digs_zero]
  go_enter func166,ntmps166
  go_wp2_with fail;refine W1.out.mono ?_;rintro e w' ⟨rfl,rfl⟩;clear W1;go_wp2
  go_ret
  exact NewU32.nil w
 have h0':((m:Int) == 0)=false:=by simp;omega
 have hmk:=fun W=>make_u32 (N:=(q:Int)+(m:Int)+1) (n:=q+m+1) (by omega) (by omega) W
 go_enter func166,ntmps166
 go_wp2_with fail;refine W1.out.mono ?_;rintro e w' ⟨rfl,rfl⟩;clear W1;go_wp2
 go_loopw [8] (fun iv wr=>∃ (i:Nat) (ls:List Nat),iv=.int .i64 i/\i<=m/\LeftInv xs ls m q s i/\Arr wr w.heap.size ls/\Below w.heap.size w wr) (fun iv _=>m - (intOf iv).toNat)
 case atStart=>exact⟨0,_,rfl,Nat.zero_le _,LeftInv.start _ _ _ _,Arr.zeros _ _,below_alloc _ _⟩
 case round=>
  obtain⟨i,ls,rfl,hi,hinv,harr,hb⟩:=hrel;have HI:=Hd hinv;have HA:=Hd harr;clear hinv harr hmk
  by_cases hlt:i<m
  ·obtain⟨ad,e,hc⟩:=(HX.out.below hb).cell (j:=i) (by omega)
   cases e
   have hx1:=HX.out.lt i;have hst:=HI.out.step (v:=xs[i]?.getD 0*2^s) hlt hs2 HX.out.w32 rfl;have hl1:ls[q+i]?.getD 0<4294967296:=HI.out.1.get _;have hl2:ls[q+i]?.getD 0<2^s:=HI.out.2.2.2.1;have hc2:=HA.out.cell (j:=q+i) (by rw [HI.out.2.1];omega);have hf2:=HA.out.frozen (q+i);have hf3:=HA.out.frozen (q+i+1)
   obtain⟨x,hx⟩:∃ x,xs[i]?.getD 0=x:=⟨_,rfl⟩
   obtain⟨l,hl⟩:∃ l,ls[q+i]?.getD 0=l:=⟨_,rfl⟩
   rw [hx] at hc hx1 hst;rw [hl] at hc2 hl1 hst hl2
   have hv1:x*2^s<18446744073709551616:=by
    have:2^s<=2^31:=Nat.pow_le_pow_right (by omega) (by omega);have:x*2^s<=4294967295*2^31:=Nat.mul_le_mul (by omega) this
    omega
   have hz1:ls[q+i+1]?.getD 0=0:=HI.out.2.2.1 _ (by omega);have hc3:=HA.out.cell (j:=q+i+1) (by rw [HI.out.2.1];omega);rw [hz1] at hc3
   obtain⟨v,hv⟩:∃ v,x*2^s=v:=⟨_,rfl⟩
   have hvm:v % 4294967296 % 2^s=0:=by
    have:2^s ∣ 4294967296:=⟨2^(32 - s),by rw [<- Nat.pow_add,show s+(32 - s)=32 from by omega]⟩
    rw [Nat.mod_mod_of_dvd _ this,<- hv,Nat.mul_mod_left]
   have ho:=or_low_u32 hl2 hvm hl1 (by omega)
   have e1:IntKind.u64.wrap ((x:Int)*2^s)=(v:Int):=by
    rw [<- hv];have:=IntWalk.u64_in ((x*2^s:Nat):Int) (by omega)
    simpa using this
   rw [hv] at hst hv1;have HST:=Hd hst;rw [show ((v % 4294967296:Nat):Int)=(v:Int) % 4294967296 from by omega] at ho;have hm:=mask32_i (a:=(v:Int)) (by omega) (by omega)
   have hj:((l+v % 4294967296:Nat):Int)=(l:Int)+(v:Int) % 4294967296:=by omega
   rw [hj] at ho
   have hb1:(l:Int)+(v:Int) % 4294967296<4294967296:=by have:=hst.2.1;omega
   have hd1:(v:Int) / 4294967296<4294967296:=by have:=hst.2.2;omega
   clear hst hv hvm hx hl hl2 hz1 hj;go_wp2
   go_roundw
   case rel=>
    refine⟨i+1,_,by go_num,by omega,HST.out.1,?_,(hb.setCell (Nat.le_refl _) _).setCell (Nat.le_refl _) _⟩;rw [show (l:Int)+(v:Int) % 4294967296=((l+v % 4294967296:Nat):Int) from by omega,show (v:Int) / 4294967296=((v / 4294967296:Nat):Int) from by omega]
    exact (HA.out.set _ _).set _ _
   case measure=>simp [intOf];omega
  ·obtain rfl:i=m:=by omega
   have hnum:=HI.out.done (by rw [HM.out];omega);have hu:=HA.out.u32s' HI.out.1 HI.out.2.1 (by omega);have hnorm:=norm_any _ _ _ _ wr hu (by omega);rw [trim_eq_digs HI.out.1,hnum,HK.out] at hnorm;have HN:=Hd hnorm;clear hnorm hu hnum;go_wp2_with fail;refine HN.out.mono ?_;rintro e w'' ⟨A2,n2,c2,rfl,hu2,hb2⟩;have H2:=Hd (show NewU32 w (digs (num xs*2^k)) (.returned (.slice A2 n2 c2)) w'' from NewU32.trans ⟨A2,n2,c2,rfl,hu2,hb2⟩ hb);clear hu2 hb2 hb;go_wp2
   go_ret
   exact H2.out
def NewU32B(w:World)(xs:List Nat)(b:Bool)(e:Ending)(w':World):Prop:=
 ∃ A n c,e=.returned (.tuple #[.slice A n c,.bool b])/\U32s w' A n c xs/\Below w.heap.size w w'
theorem right_lost{xs:List Nat}(hx:W32 xs)(q s:Nat)(hs:s<32):num xs % 2^(32*q+s)=num (xs.take q)+2^(32*q)*(xs[q]?.getD 0 % 2^s):=by
 rw [Nat.pow_add,Nat.mod_mul,<- num_take_mod hx,<- num_word hx]
 congr 2
 rw [show (2:Nat)^32=2^s*2^(32 - s) from by rw [<- Nat.pow_add,show s+(32 - s)=32 from by omega],Nat.mod_mul_right_mod]
set_option maxRecDepth 100000 in
theorem right_any(A:Option Addr)(n c k:Nat)(xs:List Nat)(w:World)(hx:U32s w A n c xs)(hs1:n<=8589934592)(hk:k<=137438953472):
  Calls prog 165 #[.slice A n c,.int .i64 (k:Int)] w (NewU32B w (digs (num xs / 2^k)) (decide (num xs % 2^k≠0))):=by
 have HX:=Hd hx;have l1:=wlen_le xs;rw [hx.len] at l1;have w1:=words_any A n c xs w hx;clear hx
 obtain⟨m,hm⟩:∃ m,wlen xs=m:=⟨_,rfl⟩
 rw [hm] at w1 l1;have W1:=Hd w1;clear w1
 obtain⟨s,hs⟩:∃ s,k % 32=s:=⟨_,rfl⟩
 obtain⟨q,hq⟩:∃ q,k / 32=q:=⟨_,rfl⟩
 have hs2:s<32:=by omega
 have hkq:32*q+s=k:=by omega
 have hq2:q<=4294967296:=by omega
 have d1:(k:Int) / 32=(q:Int):=by omega
 have d2:(k:Int) % 32=(s:Int):=by omega
 clear hs hq;have HM:=Hd hm;have HK:=Hd hkq;clear hm hkq
 by_cases h0:m=0
 ·subst h0;rw [wlen_eq_zero.1 HM.out,Nat.zero_div,Nat.zero_mod,digs_zero]
  go_enter func165,ntmps165
  go_wp2_with fail;refine W1.out.mono ?_;rintro e w' ⟨rfl,rfl⟩;clear W1;go_wp2
  go_ret2
  exact⟨none,0,0,rfl,U32s.nil _ _ _,Below.refl _ _⟩
 have h0':((m:Int) == 0)=false:=by simp;omega
 by_cases hqm:m<=q
 ·have hlt:num xs<2^k:=by
   refine Nat.lt_of_lt_of_le (num_lt_wlen HX.out.w32) (Nat.pow_le_pow_right (by omega) ?_);rw [HM.out,<- HK.out];omega
  have hne:num xs≠0:=by
   have:=@wlen_eq_zero xs;rw [HM.out] at this;omega
  rw [Nat.div_eq_of_lt hlt,Nat.mod_eq_of_lt hlt,digs_zero,decide_eq_true hne];clear hlt hne
  go_enter func165,ntmps165
  go_wp2_with fail;refine W1.out.mono ?_;rintro e w' ⟨rfl,rfl⟩;clear W1;go_wp2
  go_ret2
  exact⟨none,0,0,rfl,U32s.nil _ _ _,Below.refl _ _⟩
 obtain⟨ad,rfl,hc⟩:=HX.out.cell (j:=q) (by omega);have hx1:=HX.out.lt q
 obtain⟨x,hx⟩:∃ x,xs[q]?.getD 0=x:=⟨_,rfl⟩
 rw [hx] at hc hx1;have HXX:=Hd hx;clear hx
 obtain⟨s',hs'⟩:∃ s',s+s'=31:=⟨31 - s,by omega⟩
 have d3:(31:Int) - (s:Int)=(s':Int):=by omega
 obtain⟨z,hz⟩:∃ z,x*2^s' % 4294967296*2 % 4294967296=z:=⟨_,rfl⟩
 have hz0:z=0↔x % 2^s=0:=by
  have e1:z=2^(s'+1)*(x % 2^s):=by
   rw [<- hz,Nat.pow_succ,show x*2^s' % 4294967296*2 % 4294967296=x*(2^s'*2) % 4294967296 from by rw [<- Nat.mul_assoc];omega];rw [<- Nat.pow_succ,Nat.mul_comm x,show (4294967296:Nat)=2^(s'+1)*2^s from by rw [<- Nat.pow_add,show s'+1+s=32 from by omega],Nat.mul_mod_mul_left]
  rw [e1];have:=Nat.two_pow_pos (s'+1)
  constructor
  ·intro h
   rcases Nat.mul_eq_zero.1 h with h | h
   ·omega
   ·exact h
  ·intro h;rw [h];rfl
 have d4:(x:Int)*2^s' % 4294967296*2 % 4294967296=(z:Int):=by
  rw [<- hz,show (x:Int)*2^s'=((x*2^s':Nat):Int) from by simp];omega
 have HZ:=Hd hz0;clear hz0 hz hs'
 have hinit:∀ lost:Bool,lost=decide (x % 2^s≠0)->lost=decide (xs[q]?.getD 0 % 2^s≠0\/num (xs.take 0)≠0):=by
  intro lost h;rw [h,HXX.out];simp [num]
 have HIN:=Hd hinit;clear hinit
 by_cases hzz:z=0
 case' pos=>
  have hl:=HIN.out false (by rw [decide_eq_false (by rw [HZ.out.1 hzz];omega)]);have HL:=Hd hl;clear hl HZ HIN
  have g1:((z:Int) == 0)=true:=by simp;exact hzz
  have g2:((z:Int) != 0)=false:=by simp;exact hzz
  go_enter func165,ntmps165
  go_wp2_with fail;refine W1.out.mono ?_;rintro e w' ⟨rfl,rfl⟩;clear W1;go_wp2;clear g1 g2 hzz d4 hc
 case' neg=>
  have hx0:x % 2^s≠0:=fun h=>hzz (HZ.out.2 h);have hl:=HIN.out true (by rw [decide_eq_true hx0]);have HL:=Hd hl
  have hs0:0<s:=by
   rcases Nat.eq_zero_or_pos s with h | h
   ·subst h;simp [Nat.mod_one] at hx0
   ·exact h
  clear hl HZ HIN hx0
  have g1:((z:Int) == 0)=false:=by simp;exact hzz
  have g2:((z:Int) != 0)=true:=by simp;exact hzz
  have g3:(0:Int)<(s:Int):=by omega
  go_enter func165,ntmps165
  go_wp2_with fail;refine W1.out.mono ?_;rintro e w' ⟨rfl,rfl⟩;clear W1;go_wp2;clear g1 g2 hzz d4 hc g3 hs0
 all_goals
  go_loop [8,9] (fun bv iv=>∃ (i:Nat) (b:Bool),iv=.int .i64 i/\bv=.bool b/\i<=q/\b=decide (xs[q]?.getD 0 % 2^s≠0\/num (xs.take i)≠0)) (fun _ iv=>q - (intOf iv).toNat)
  case atStart=>exact⟨0,_,rfl,rfl,Nat.zero_le _,HL.out⟩
  case round=>
   clear HL;obtain⟨i,b,rfl,rfl,hi,hbv⟩:=hrel;have HB:=Hd hbv;clear hbv
   by_cases hlt:i<q
   ·obtain⟨ad',e,hc'⟩:=HX.out.cell (j:=i) (by omega)
    cases e
    have hy1:=HX.out.lt i
    have hstep:∀ b':Bool,b'=(b || decide (xs[i]?.getD 0≠0))->b'=decide (xs[q]?.getD 0 % 2^s≠0\/num (xs.take (i+1))≠0):=by
     intro b' h;rw [h,HB.out,num_take_next];have hp:=Nat.two_pow_pos (32*i);rw [Bool.eq_iff_iff]
     simp only [Bool.or_eq_true,decide_eq_true_eq]
     have:(num (xs.take i)+2^(32*i)*xs[i]?.getD 0≠0)↔(num (xs.take i)≠0\/xs[i]?.getD 0≠0):=by
      constructor
      ·intro h1
       by_cases h2:xs[i]?.getD 0=0
       ·left;rw [h2] at h1;simpa using h1
       ·exact .inr h2
      ·intro h1
       rcases h1 with h1 | h1
       ·omega
       ·have:=Nat.mul_pos hp (Nat.pos_of_ne_zero h1);omega
     rw [this,or_assoc]
    have HS:=Hd hstep;clear hstep
    obtain⟨y,hy⟩:∃ y,xs[i]?.getD 0=y:=⟨_,rfl⟩
    rw [hy] at hc' hy1;have HYY:=Hd hy;clear hy
    cases b
    ·go_wp2
     go_round
     case rel=>exact⟨i+1,_,by go_num,rfl,by omega,HS.out _ (by rw [HYY.out];simp [bne];rw [Bool.eq_iff_iff];simp)⟩
     case measure=>simp [intOf];omega
    ·go_wp2
     go_round
     case rel=>exact⟨i+1,_,by go_num,rfl,by omega,HS.out _ (by simp)⟩
     case measure=>simp [intOf];omega
   ·obtain rfl:i=q:=by omega
    go_wp2
    go_loopw [10,11] (fun v iv wr=>∃ (t:Nat) (ls:List Nat),iv=.int .i64 ((i+t:Nat):Int)/\i+t<=m/\RightInv xs ls i s t/\Own wr w.heap.size v ls/\Below w.heap.size w wr) (fun _ iv _=>m - (intOf iv).toNat)
    case atStart=>exact⟨0,[],by go_num,by omega,RightInv.start _ _ _,Own.nil _ _,Below.refl _ _⟩
    case round=>
     obtain⟨t,ls,rfl,ht,hinv,hown,hb⟩:=hrel;have HI:=Hd hinv;have HO:=Hd hown;clear hinv hown;have hbs:=hb.size
     by_cases hlt3:i+t<m
     ·obtain⟨ad',e,hc⟩:=(HX.out.below hb).cell (j:=i+t) (by omega)
      cases e
      have hy1:=HX.out.lt (i+t);have hy2:=HX.out.lt (i+t+1)
      obtain⟨x1,hx1'⟩:∃ x1,xs[i+t+1]?.getD 0=x1:=⟨_,rfl⟩
      obtain⟨x0,hx0'⟩:∃ x0,xs[i+t]?.getD 0=x0:=⟨_,rfl⟩
      rw [hx0'] at hc hy1;rw [hx1'] at hy2
      obtain⟨v,hv⟩:∃ v,x0+4294967296*x1=v:=⟨_,rfl⟩
      have hv1:v<18446744073709551616:=by omega
      obtain⟨u,hu⟩:∃ u,v / 2^s=u:=⟨_,rfl⟩
      have hu1:u<18446744073709551616:=by rw [<- hu];exact Nat.lt_of_le_of_lt (Nat.div_le_self _ _) hv1
      have hd:(v:Int) / 2^s=(u:Int):=by rw [<- hu];simp
      have hm:=mask32_i (a:=(u:Int)) (by omega) (by omega);have hst:=HI.out.step (v:=v) HX.out.w32 hs2 (by rw [hx0',hx1'];exact hv.symm);rw [hu] at hst;have HST:=Hd hst;clear hst hu;have hor:=or_join' (i:=32) (x:=x1) (y:=x0) (by omega) (by omega) (by omega);rw [show x0+x1*2^32=v from by rw [<- hv];omega,show ((x1*2^32:Nat):Int)=(x1:Int)*4294967296 from by omega] at hor
      have hcell:i+t+1<m->wr.cell? (ad.add (i+t+1))=some (wd x1):=by
       intro h;have hc2:=(HX.out.below hb).cellAt (j:=i+t+1) (by omega);rw [hx1'] at hc2;exact hc2
      have hnot:¬ i+t+1<m->x0=v:=by
       intro h;have h1:=(wlen_spec xs).1 (i+t+1) (by rw [HM.out];omega);rw [hx1'] at h1;omega
      have HC:=Hd hcell;have HN:=Hd hnot;clear hcell hnot hx1' hx0' hv;rw [show ((i+t:Nat):Int)=(i:Int)+(t:Int) from by omega]
      have j1:((i:Int)+(t:Int)).toNat=i+t:=by omega
      have j2:((i:Int)+(t:Int)+1).toNat=i+t+1:=by omega
      by_cases h4:i+t+1<m
      ·have hc2:=HC.out h4;rw [show ad.add (i+t+1)=⟨ad.block,ad.off+(i+t+1),none⟩ from by simp [Addr.add]] at hc2;clear HC HN
       go_wp2_with (at_builtin;refine wpList_append_u32 _ rfl _ _ rfl w.heap.size _ ls rfl (HO.out.alloc _) ⟨_,0,none⟩ 1 (u % 4294967296) rfl ?c1 ?c2 ?c3 ?_)
       case c1=>simp
       case c2=>rw [HI.out.2.1];omega
       case c3=>simp;omega
       intro v' w' hown' hgrow;have HO':=Hd hown';have hb':Below w.heap.size w w':=(hb.alloc hbs _).grown hgrow (by simp;omega) (fun g hg=>(HO.out.lt g hg).1);clear hown' hb hgrow hc hbs hm;go_wp2
       go_roundw
       case rel=>exact⟨t+1,_,by go_num,by omega,HST.out,HO'.out,hb'⟩
       case measure=>simp [intOf];omega
      ·obtain rfl:=HN.out h4
       clear HC HN hor
       go_wp2_with (at_builtin;refine wpList_append_u32 _ rfl _ _ rfl w.heap.size _ ls rfl (HO.out.alloc _) ⟨_,0,none⟩ 1 (u % 4294967296) rfl ?c1 ?c2 ?c3 ?_)
       case c1=>simp
       case c2=>rw [HI.out.2.1];omega
       case c3=>simp;omega
       intro v' w' hown' hgrow;have HO':=Hd hown';have hb':Below w.heap.size w w':=(hb.alloc hbs _).grown hgrow (by simp;omega) (fun g hg=>(HO.out.lt g hg).1);clear hown' hb hgrow hc hbs hm;go_wp2
       go_roundw
       case rel=>exact⟨t+1,_,by go_num,by omega,HST.out,HO'.out,hb'⟩
       case measure=>simp [intOf];omega
     ·have hnum:=HI.out.done HX.out.w32 (by rw [HM.out];omega);rw [HK.out] at hnum;have hlost:=right_lost HX.out.w32 i s hs2;rw [HK.out] at hlost
      have hbb:b=decide (num xs % 2^k≠0):=by
       rw [HB.out,hlost,Bool.eq_iff_iff]
       simp only [decide_eq_true_eq]
       have hp:=Nat.two_pow_pos (32*i)
       constructor
       ·intro h
        rcases h with h | h
        ·have:=Nat.mul_pos hp (Nat.pos_of_ne_zero h);omega
        ·omega
       ·intro h
        by_cases h2:xs[i]?.getD 0 % 2^s=0
        ·right;rw [h2] at h;simpa using h
        ·exact .inl h2
      obtain⟨A',c',rfl⟩:=HO.out.form;have hu:=HO.out.u32s rfl HI.out.1 (by rw [HI.out.2.1];omega);have hnorm:=norm_any _ _ _ _ wr hu (by rw [HI.out.2.1];omega);rw [trim_eq_digs HI.out.1,hnum] at hnorm;have HN:=Hd hnorm;have HBB:=Hd hbb;clear hnorm hu hnum hlost hbb;go_wp2_with fail;refine HN.out.mono ?_;rintro e w'' ⟨A2,n2,c2,rfl,hu2,hb2⟩;have H2:=Hd (show NewU32B w (digs (num xs / 2^k)) (decide (num xs % 2^k≠0)) (.returned (.tuple #[.slice A2 n2 c2,.bool b])) w'' from⟨A2,n2,c2,by rw [HBB.out],hu2,hb.trans (hb2.mono hbs)⟩);clear hu2 hb2 hb;go_wp2
      go_ret2
      exact H2.out
end Go.Proofs.YthlmlmfebpjgdaaGreatDoor
