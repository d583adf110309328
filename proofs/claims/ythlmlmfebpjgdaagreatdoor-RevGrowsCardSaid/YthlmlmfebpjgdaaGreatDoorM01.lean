/-
Lemmas for the statement: Dig Mem Own Arr DigB DigC Rat WordsT NormT CmpT Bits LenT ZerosT LeftT RightT TimesT PowerT FracT SignT NegT Sets Co Fl Ie.
-/
import Derived.Laws.FloatBits
import Derived.Test.YthlmlmfebpjgdaaGreatDoorRows
import Derived.WalkKit
import Derived.WalkSpells
import Derived.WalkLawsBesides
import Derived.Laws.OwnMore
import Derived.Lib.Hide
import Derived.Maps.AppendAt
import Derived.Deep.AppendLies
import Derived.Deep.Draws
import Derived.BigQuiet
import Derived.Deep.QuietTactic
import Derived.Outline
import Derived.Laws.BitsAllLaws
import Derived.Deep.RegionHeld3
set_option linter.unusedSimpArgs false
set_option linter.unusedVariables false
set_option maxHeartbeats 12800000
namespace Go.Proofs.YthlmlmfebpjgdaaGreatDoor
theorem Hd {p:Prop}(h:p):Go.RowKit.Hid p:=Go.Lib.hid h
def num:List Nat->Nat
 | []=>0
 | x :: l=>x+2^32*num l
def W32(l:List Nat):Prop:=∀ x ∈ l,x<2^32
theorem num_nil:num []=0:=rfl
theorem num_cons(x:Nat)(l:List Nat):num (x :: l)=x+2^32*num l:=rfl
theorem W32.nil:W32 []:=fun _ h=>by cases h
theorem W32.cons{x:Nat}{l:List Nat}(hx:x<2^32)(h:W32 l):W32 (x :: l):=by
 intro y hy
 rcases List.mem_cons.1 hy with rfl | hy
 ·exact hx
 ·exact h y hy
theorem W32.tail{x:Nat}{l:List Nat}(h:W32 (x :: l)):W32 l:=fun y hy=>h y (List.mem_cons_of_mem _ hy)
theorem W32.head{x:Nat}{l:List Nat}(h:W32 (x :: l)):x<2^32:=h x (List.mem_cons_self ..)
theorem W32.get{l:List Nat}(h:W32 l)(i:Nat):l[i]?.getD 0<2^32:=by
 cases e:l[i]? with
 | none=>simp
 | some x=>exact h x (List.mem_of_getElem? e)
theorem W32.append{l m:List Nat}(h:W32 l)(h':W32 m):W32 (l ++ m):=by
 intro x hx
 rcases List.mem_append.1 hx with hx | hx
 ·exact h x hx
 ·exact h' x hx
theorem W32.take{l:List Nat}(h:W32 l)(n:Nat):W32 (l.take n):=fun x hx=>h x (List.mem_of_mem_take hx)
theorem W32.drop{l:List Nat}(h:W32 l)(n:Nat):W32 (l.drop n):=fun x hx=>h x (List.mem_of_mem_drop hx)
theorem W32.set{l:List Nat}(h:W32 l)(n:Nat){x:Nat}(hx:x<2^32):W32 (l.set n x):=by
 intro y hy
 rcases List.mem_or_eq_of_mem_set hy with hy | rfl
 ·exact h y hy
 ·exact hx
theorem W32.replicate(n:Nat):W32 (List.replicate n 0):=by
 intro x hx;rw [List.eq_of_mem_replicate hx];omega
theorem pow32(n:Nat):2^(32*(n+1))=2^32*2^(32*n):=by rw [Nat.mul_add,Nat.mul_one,Nat.pow_add,Nat.mul_comm]
theorem num_append(l m:List Nat):num (l ++ m)=num l+2^(32*l.length)*num m:=by
 induction l with
 | nil=>simp [num]
 | cons x l ih=>
  rw [List.cons_append,num_cons,num_cons,ih,List.length_cons,pow32,Nat.mul_add,Nat.mul_assoc,Nat.add_assoc]
theorem num_lt{l:List Nat}(h:W32 l):num l<2^(32*l.length):=by
 induction l with
 | nil=>simp [num]
 | cons x l ih=>
  have h1:=ih h.tail;have h2:=h.head;rw [num_cons,List.length_cons,pow32];generalize 2^(32*l.length)=p at *
  omega
theorem num_replicate(n:Nat):num (List.replicate n 0)=0:=by
 induction n with
 | zero=>rfl
 | succ n ih=>rw [List.replicate_succ,num_cons,ih]
theorem num_take_drop(l:List Nat)(k:Nat):num l=num (l.take k)+2^(32*min k l.length)*num (l.drop k):=by
 have:=num_append (l.take k) (l.drop k);rw [List.take_append_drop,List.length_take] at this
 exact this
theorem num_take_succ(l:List Nat)(k:Nat)(h:k<l.length):num (l.take (k+1))=num (l.take k)+2^(32*k)*l[k]?.getD 0:=by
 rw [List.take_succ_eq_append_getElem h,num_append,List.length_take,Nat.min_eq_left (by omega)]
 simp [num,h]
theorem num_set(l:List Nat)(k x:Nat)(h:k<l.length):num (l.set k x)+2^(32*k)*l[k]?.getD 0=num l+2^(32*k)*x:=by
 induction l generalizing k with
 | nil=>simp at h
 | cons y l ih=>
  cases k with
  | zero=>simp [num];omega
  | succ k=>
   have:=ih k (by simpa using h);rw [List.set_cons_succ,num_cons,num_cons,pow32];rw [show (y :: l)[k+1]?.getD 0=l[k]?.getD 0 from rfl];rw [Nat.mul_assoc,Nat.mul_assoc];generalize 2^(32*k)*l[k]?.getD 0=a at *;generalize 2^(32*k)*x=b at *
   omega
def trim:List Nat->List Nat
 | []=>[]
 | x :: l=>if trim l=[]/\x=0 then [] else x :: trim l
def wlen(l:List Nat):Nat:=(trim l).length
theorem trim_eq_nil{l:List Nat}:trim l=[]↔num l=0:=by
 induction l with
 | nil=>simp [trim,num]
 | cons x l ih=>
  unfold trim;rw [num_cons]
  split
  ·rename_i h;have:=ih.1 h.1
   simp [this,h.2]
  ·rename_i h
   simp
   intro hx h0
   exact h ⟨ih.2 (by omega),hx⟩
theorem num_trim(l:List Nat):num (trim l)=num l:=by
 induction l with
 | nil=>rfl
 | cons x l ih=>
  unfold trim
  split
  ·rename_i h;rw [num_cons,h.2,trim_eq_nil.1 h.1];rfl
  ·rw [num_cons,num_cons,ih]
theorem trim_eq_take(l:List Nat):trim l=l.take (wlen l):=by
 induction l with
 | nil=>rfl
 | cons x l ih=>
  unfold wlen;unfold trim
  split
  ·simp
  ·rw [List.length_cons,List.take_succ_cons]
   congr 1
theorem wlen_le(l:List Nat):wlen l<=l.length:=by
 have:=congrArg List.length (trim_eq_take l);rw [List.length_take] at this;unfold wlen at *
 omega
theorem W32.trim{l:List Nat}(h:W32 l):W32 (trim l):=by rw [trim_eq_take];exact h.take _
theorem wlen_eq_zero{l:List Nat}:wlen l=0↔num l=0:=by
 unfold wlen;rw [List.length_eq_zero_iff,trim_eq_nil]
theorem wlen_of{l:List Nat}{n:Nat}(hn:n<=l.length)(h:∀ j:Nat,n<=j->l[j]?.getD 0=0)(h':n=0\/l[n - 1]?.getD 0≠0):wlen l=n:=by
 induction l generalizing n with
 | nil=>simp at hn;subst hn;rfl
 | cons x l ih=>
  cases n with
  | zero=>
   rw [wlen_eq_zero]
   have hz:∀ m:List Nat,(∀ j:Nat,m[j]?.getD 0=0)->num m=0:=by
    intro m
    induction m with
    | nil=>intro _;rfl
    | cons y m ihm=>
     intro hm;have h0:=hm 0;have h1:=ihm (fun j=>by have:=hm (j+1);simpa using this)
     simp at h0
     rw [num_cons,h0,h1]
   exact hz _ fun j=>h j (Nat.zero_le _)
  | succ n=>
   have h1:wlen l=n:=by
    refine ih (by simpa using hn) (fun j hj=>?_) ?_
    ·have:=h (j+1) (by omega);simpa using this
    ·rcases n with _ | n
     ·exact .inl rfl
     ·right
      rcases h' with h' | h'
      ·omega
      ·simpa using h'
   have h2:¬ (Proofs.YthlmlmfebpjgdaaGreatDoor.trim l=[]/\x=0):=by
    rintro⟨ht,rfl⟩
    have:wlen l=0:=by unfold wlen;rw [ht];rfl
    rcases h' with h' | h'
    ·omega
    ·rw [<- h1,this] at h';simp at h'
   unfold wlen Proofs.YthlmlmfebpjgdaaGreatDoor.trim;rw [if_neg h2,List.length_cons];unfold wlen at h1
   omega
theorem wlen_spec(l:List Nat):(∀ j:Nat,wlen l<=j->l[j]?.getD 0=0)/\(wlen l=0\/l[wlen l - 1]?.getD 0≠0):=by
 induction l with
 | nil=>exact⟨fun j _=>by simp,.inl rfl⟩
 | cons x l ih=>
  by_cases h:Proofs.YthlmlmfebpjgdaaGreatDoor.trim l=[]/\x=0
  ·have e:wlen (x :: l)=0:=by unfold wlen Proofs.YthlmlmfebpjgdaaGreatDoor.trim;rw [if_pos h];rfl
   have hl:wlen l=0:=by unfold wlen;rw [h.1];rfl
   refine⟨fun j _=>?_,.inl e⟩
   cases j with
   | zero=>simp [h.2]
   | succ j=>have:=ih.1 j (by omega);simpa using this
  ·have e:wlen (x :: l)=wlen l+1:=by
    unfold wlen;rw [Proofs.YthlmlmfebpjgdaaGreatDoor.trim,if_neg h];rfl
   refine⟨fun j hj=>?_,.inr ?_⟩
   ·cases j with
    | zero=>omega
    | succ j=>have:=ih.1 j (by omega);simpa using this
   ·rw [e]
    rcases ih.2 with h0 | h0
    ·rw [h0];have ht:Proofs.YthlmlmfebpjgdaaGreatDoor.trim l=[]:=List.eq_nil_of_length_eq_zero h0
     simp;intro hx;exact h ⟨ht,hx⟩
    ·rcases Nat.eq_zero_or_pos (wlen l) with h1 | h1
     ·rw [h1] at h0 ⊢;have ht:Proofs.YthlmlmfebpjgdaaGreatDoor.trim l=[]:=List.eq_nil_of_length_eq_zero h1
      simp;intro hx;exact h ⟨ht,hx⟩
     ·obtain⟨k,hk⟩:∃ k,wlen l=k+1:=⟨wlen l - 1,by omega⟩
      rw [hk] at h0 ⊢
      simpa using h0
theorem num_lt_wlen{l:List Nat}(h:W32 l):num l<2^(32*wlen l):=by
 rw [<- num_trim l];exact num_lt h.trim
theorem le_num_wlen{l:List Nat}(h:0<wlen l):2^(32*(wlen l - 1))<=num l:=by
 have hs:=wlen_spec l;have hl:=wlen_le l;have h1:=num_take_succ l (wlen l - 1) (by omega);rw [Nat.sub_add_cancel h,<- trim_eq_take,num_trim] at h1
 have h2:0<l[wlen l - 1]?.getD 0:=by omega
 rw [h1];refine Nat.le_trans ?_ (Nat.le_add_left _ _)
 exact Nat.le_mul_of_pos_right _ h2
def digs(n:Nat):List Nat:=if h:n=0 then [] else (n % 2^32) :: digs (n / 2^32)
termination_by n
decreasing_by omega
theorem digs_zero:digs 0=[]:=by unfold digs;simp
theorem digs_pos{n:Nat}(h:n≠0):digs n=(n % 2^32) :: digs (n / 2^32):=by
 rw [digs,dif_neg h]
theorem W32.digs(n:Nat):W32 (digs n):=by
 induction n using Nat.strongRecOn with
 | ind n ih=>
  by_cases h:n=0
  ·rw [h,digs_zero];exact W32.nil
  ·rw [digs_pos h];exact W32.cons (by omega) (ih _ (by omega))
theorem num_digs(n:Nat):num (digs n)=n:=by
 induction n using Nat.strongRecOn with
 | ind n ih=>
  by_cases h:n=0
  ·rw [h,digs_zero];rfl
  ·rw [digs_pos h,num_cons,ih _ (by omega)];omega
theorem trim_eq_digs{l:List Nat}(h:W32 l):trim l=digs (num l):=by
 induction l with
 | nil=>simp [trim,num,digs_zero]
 | cons x l ih=>
  have hx:=h.head;have h1:=ih h.tail;unfold Proofs.YthlmlmfebpjgdaaGreatDoor.trim
  split
  ·rename_i h2;rw [num_cons,h2.2,trim_eq_nil.1 h2.1,digs_zero]
  ·rename_i h2
   have hn:num (x :: l)≠0:=by
    rw [num_cons];intro h0
    exact h2 ⟨trim_eq_nil.2 (by omega),by omega⟩
   rw [digs_pos hn,num_cons,show (x+2^32*num l) % 2^32=x from by omega,show (x+2^32*num l) / 2^32=num l from by omega,h1]
theorem trim_digs(n:Nat):trim (digs n)=digs n:=by rw [trim_eq_digs (W32.digs n),num_digs]
theorem wlen_digs(n:Nat):wlen (digs n)=(digs n).length:=by unfold wlen;rw [trim_digs]
theorem digs_length_le{n k:Nat}(h:n<2^(32*k)):(digs n).length<=k:=by
 rcases Nat.lt_or_ge k (digs n).length with h1 | h1
 ·have h2:=le_num_wlen (l:=digs n) (by rw [wlen_digs];omega);rw [wlen_digs,num_digs] at h2;have:=Nat.pow_le_pow_right (n:=2) (by omega) (show 32*k<=32*((digs n).length - 1) by omega)
  omega
 ·exact h1
theorem digs_eq_nil{n:Nat}:digs n=[]↔n=0:=by
 constructor
 ·intro h;rw [<- num_digs n,h];rfl
 ·rintro rfl;exact digs_zero
theorem digs_length_eq_zero{n:Nat}:(digs n).length=0↔n=0:=by rw [List.length_eq_zero_iff,digs_eq_nil]
section
open Go.RowKit
abbrev wd(x:Nat):Value:=.int .u32 (x:Int)
theorem block_of_add(a:Addr)(n:Nat):(a.add n).block=a.block:=by unfold Addr.add;split<;>rfl
theorem add_of_add(a:Addr)(i j:Nat):(a.add i).add j=a.add (i+j):=by
 unfold Addr.add
 by_cases hi:i=0<;>by_cases hj:j=0<;>simp [hi,hj,Nat.add_assoc]
structure U32s (w:World) (A:Option Addr) (n c:Nat) (xs:List Nat):Prop where
 len:xs.length=n
 cap:n<=c
 small:n<=34359738368
 w32:W32 xs
 at_:0<n->∃ ad,A=some ad/\ad.block<w.heap.size/\∀ j:Nat,j<n->w.cell? (ad.add j)=some (wd (xs[j]?.getD 0))
theorem U32s.keep{w w':World}{A:Option Addr}{n c:Nat}{xs:List Nat}(h:U32s w A n c xs)(hs:w.heap.size<=w'.heap.size)
  (hk:∀ ad,A=some ad->0<n->w'.heap[ad.block]?=w.heap[ad.block]?):U32s w' A n c xs:=
 ⟨h.len,h.cap,h.small,h.w32,fun hn=>by
   obtain⟨ad,e,hb,hc⟩:=h.at_ hn;refine⟨ad,e,by omega,fun j hj=>?_⟩;rw [World.cell?_of_block (w:=w)]
   ·exact hc j hj
   ·rw [block_of_add];exact hk ad e hn⟩
theorem U32s.below{w w':World}{A:Option Addr}{n c:Nat}{xs:List Nat}(h:U32s w A n c xs)(hb:Below w.heap.size w w'):U32s w' A n c xs:=
 h.keep hb.size fun ad e hn=>by
  obtain⟨ad',e',hlt,_⟩:=h.at_ hn;rw [e] at e';cases e'
  exact hb.block _ hlt
theorem U32s.drew{w:World}{A:Option Addr}{n c:Nat}{xs:List Nat}(h:U32s w A n c xs):U32s w.drew A n c xs:=h.keep (Nat.le_refl _) fun _ _ _=>rfl
theorem U32s.alloc{w:World}{A:Option Addr}{n c:Nat}{xs:List Nat}(h:U32s w A n c xs)(o:Obj):U32s (w.alloc o) A n c xs:=
 h.below ((Below.refl _ _).alloc (Nat.le_refl _) o)
theorem U32s.far{w:World}{A:Option Addr}{n c:Nat}{xs:List Nat}(h:U32s w A n c xs){p:Addr}(hp:∀ ad,A=some ad->ad.block≠p.block)(u:Value):U32s (w.setCell p u) A n c xs:=
 h.keep (by simp [World.setCell]) fun ad e _=>Below.heap_setCell w p u _ (hp ad e)
theorem U32s.nil(w:World)(A:Option Addr)(c:Nat):U32s w A 0 c []:=⟨rfl,Nat.zero_le _,by omega,W32.nil,fun h=>absurd h (by omega)⟩
theorem U32s.take{w:World}{A:Option Addr}{n c:Nat}{xs:List Nat}(h:U32s w A n c xs){k:Nat}(hk:k<=n):U32s w A k c (xs.take k):=
 ⟨by rw [List.length_take,h.len];omega,by have:=h.cap;omega,by have:=h.small;omega,h.w32.take k,fun hn=>by
   obtain⟨ad,e,hb,hc⟩:=h.at_ (by omega);refine⟨ad,e,hb,fun j hj=>?_⟩;rw [hc j (by omega)]
   congr 2
   rw [List.getElem?_take_of_lt hj]⟩
theorem U32s.recap{w:World}{A:Option Addr}{n c c':Nat}{xs:List Nat}(h:U32s w A n c xs)(hc:n<=c'):U32s w A n c' xs:=⟨h.len,hc,h.small,h.w32,h.at_⟩
theorem U32s.cell{w:World}{A:Option Addr}{n c:Nat}{xs:List Nat}(h:U32s w A n c xs){j:Nat}(hj:j<n):
  ∃ ad,A=some ad/\w.cell? (ad.add j)=some (wd (xs[j]?.getD 0)):=by
 obtain⟨ad,e,_,hc⟩:=h.at_ (by omega)
 exact⟨ad,e,hc j hj⟩
theorem U32s.cellAt{w:World}{ad:Addr}{n c:Nat}{xs:List Nat}(h:U32s w (some ad) n c xs){j:Nat}(hj:j<n):w.cell? (ad.add j)=some (wd (xs[j]?.getD 0)):=by
 obtain⟨ad',e,hc⟩:=h.cell hj
 injection e with e
 subst e;exact hc
theorem U32s.lt{w:World}{A:Option Addr}{n c:Nat}{xs:List Nat}(h:U32s w A n c xs)(j:Nat):xs[j]?.getD 0<4294967296:=h.w32.get j
theorem U32s.own{w:World}{base e:Nat}{A:Option Addr}{n c:Nat}{xs:List Nat}(h:w.ownsRow base e 1 (.slice A n c) n (xs.map wd))(hw:W32 xs)(hs:n<=34359738368):U32s w A n c xs:=by
 have hl:=h.1;rw [List.length_map,Nat.mul_one] at hl
 rcases h.2 with ⟨hv,rfl⟩ | ⟨g,cap,cur,hv,hb,hh,hn,hm,hs',hx⟩
 ·cases hv;exact⟨hl,Nat.le_refl _,hs,hw,fun h=>absurd h (by omega)⟩
 ·injection hv with h1 h2 h3
  subst h1 h3;refine⟨hl,hn,hs,hw,fun h0=>⟨_,rfl,?_,fun j hj=>?_⟩⟩
  ·exact (Array.getElem?_eq_some_iff.1 hh).1
  ·refine h.cells (g:=g) rfl j _ ?_;rw [List.getElem?_map,List.getElem?_eq_getElem (by omega)]
   rfl
end
section
open Go.RowKit
theorem info_u32:(Tryz.prog.info? 117).map (fun i=>(i.zero,i.size,i.bytes))=some (some (.int .u32 0),1,4):=by kernel_rfl
def Own(w:World)(B:Nat)(v:Value)(xs:List Nat):Prop:=w.ownsRow B 117 1 v xs.length (xs.map wd)
theorem Own.nil(w:World)(B:Nat):Own w B (.slice none 0 0) []:=World.ownsRow_nil w B _ _
theorem Own.alloc{w:World}{B:Nat}{v:Value}{xs:List Nat}(h:Own w B v xs)(o:Obj):Own (w.alloc o) B v xs:=World.ownsRow.alloc h o
theorem Own.drew{w:World}{B:Nat}{v:Value}{xs:List Nat}(h:Own w B v xs):Own w.drew B v xs:=h
theorem Own.u32s{w:World}{B:Nat}{A:Option Addr}{n c:Nat}{xs:List Nat}(h:Own w B (.slice A n c) xs)(hn:xs.length=n)(hw:W32 xs)(hs:xs.length<=34359738368):U32s w A n c xs:=by
 subst hn
 exact U32s.own h hw hs
theorem U32s.lit1(w:World)(t:TypeId){a:Nat}(ha:a<4294967296):U32s (w.alloc (.cells #[wd a] t)) (some ⟨w.heap.size,0,none⟩) 1 1 [a]:=
 ⟨rfl,by omega,by omega,W32.cons ha W32.nil,fun _=>⟨_,rfl,by simp,fun j hj=>by
  match j,hj with
  | 0,_=>simp [World.cell?_alloc_new,Addr.add]⟩⟩
theorem U32s.lit2(w:World)(t:TypeId){a b:Nat}(ha:a<4294967296)(hb:b<4294967296):U32s (w.alloc (.cells #[wd a,wd b] t)) (some ⟨w.heap.size,0,none⟩) 2 2 [a,b]:=
 ⟨rfl,by omega,by omega,W32.cons ha (W32.cons hb W32.nil),fun _=>⟨_,rfl,by simp,fun j hj=>by
  match j,hj with
  | 0,_=>simp [World.cell?_alloc_new,Addr.add]
  | 1,_=>simp [World.cell?_alloc_new,Addr.add]⟩⟩
section
variable {ops:Array Oper} {rest:List Oper} {o:Oper} {a:Act} {Q:Exit->Act->World->Prop} (w:World)
end
abbrev Zf(a b:Nat):Value:=.agg #[.float .f64 a,.float .f64 b]
abbrev Zv(a b:Nat):Array Value:=#[.float .f64 a,.float .f64 b]
theorem cy{P:Program}{f:FuncId}{a:Array Value}{v:Value}{W X:World}{T:Ending->World->Prop}(h:Calls P f a W fun e w'=>e=.returned v/\X=w')(k:T (.returned v) X):Calls P f a W T:=
 h.mono fun _ _ ⟨he,hw⟩=>he ▸ hw ▸ k
abbrev Rt(f:FuncId)(args:Array Value)(v:Value)(W:World):Prop:=Calls Tryz.prog f args W fun e w'=>e=.returned v/\Below W.heap.size W w'
end
section
open Go.RowKit
def Arr(w:World)(g:Nat)(xs:List Nat):Prop:=w.heap[g]?=some (.cells (xs.map wd).toArray 117 (0,0))
theorem Arr.lt{w:World}{g:Nat}{xs:List Nat}(h:Arr w g xs):g<w.heap.size:=(Array.getElem?_eq_some_iff.1 h).1
theorem Arr.cell{w:World}{g:Nat}{xs:List Nat}(h:Arr w g xs){j:Nat}(hj:j<xs.length):w.cell? ⟨g,j,none⟩=some (wd (xs[j]?.getD 0)):=by
 rw [cell_of_row w g j _ _ (0,0) h]
 simp [hj]
theorem Arr.frozen{w:World}{g:Nat}{xs:List Nat}(h:Arr w g xs)(j:Nat):w.frozen? ⟨g,j,none⟩=false:=frozen_of_row w g j _ _ h
theorem Arr.set{w:World}{g:Nat}{xs:List Nat}(h:Arr w g xs)(j x:Nat):Arr (w.setCell ⟨g,j,none⟩ (wd x)) g (xs.set j x):=by
 unfold Arr at *;rw [heap_setCell_same w g j _ _ _ h]
 simp [List.map_set]
theorem Arr.drewN{w:World}{g:Nat}{xs:List Nat}(h:Arr w g xs)(n:Nat):Arr (w.drewN n) g xs:=h
theorem Arr.drew{w:World}{g:Nat}{xs:List Nat}(h:Arr w g xs):Arr w.drew g xs:=h
theorem Arr.of_block{w w':World}{g:Nat}{xs:List Nat}(h:Arr w g xs)(hb:w'.heap[g]?=w.heap[g]?):Arr w' g xs:=hb.trans h
theorem Arr.below{w w':World}{g B:Nat}{xs:List Nat}(h:Arr w g xs)(hb:Below B w w')(hg:g<B):Arr w' g xs:=h.of_block (hb.block g hg)
theorem Arr.alloc{w:World}{g:Nat}{xs:List Nat}(h:Arr w g xs)(o:Obj):Arr (w.alloc o) g xs:=h.of_block (Below.heap_alloc w o g h.lt)
theorem Arr.far{w:World}{g:Nat}{xs:List Nat}(h:Arr w g xs){p:Addr}(hp:g≠p.block)(u:Value):Arr (w.setCell p u) g xs:=h.of_block (Below.heap_setCell w p u g hp)
theorem Arr.new(w:World)(xs:List Nat):Arr (w.alloc (.cells (xs.map wd).toArray 117)) w.heap.size xs:=heap_alloc_new w _
theorem Arr.zeros(w:World)(n:Nat):Arr (w.alloc (.cells (Array.replicate n (wd 0)) 117)) w.heap.size (List.replicate n 0):=by
 have h:=Arr.new w (List.replicate n 0)
 simpa using h
theorem Arr.u32s{w:World}{g:Nat}{xs:List Nat}(h:Arr w g xs)(hw:W32 xs)(hs:xs.length<=34359738368)(c:Nat)(hc:xs.length<=c):U32s w (some ⟨g,0,none⟩) xs.length c xs:=
 ⟨rfl,hc,hs,hw,fun _=>⟨_,rfl,h.lt,fun j hj=>by
  rw [show (⟨g,0,none⟩:Addr).add j=⟨g,j,none⟩ from by unfold Addr.add;split<;>simp_all]
  exact h.cell hj⟩⟩
theorem Arr.u32s'{w:World}{g n:Nat}{xs:List Nat}(h:Arr w g xs)(hw:W32 xs)(hl:xs.length=n)(hs:n<=34359738368):U32s w (some ⟨g,0,none⟩) n n xs:=by
 subst hl;exact h.u32s hw hs _ (Nat.le_refl _)
theorem below_drewN{B:Nat}{a w:World}(h:Below B a w)(n:Nat):Below B a (w.drewN n):=⟨h.os,h.tape,h.output,h.size,h.block⟩
theorem make_u32{N:Int}{n:Nat}(hN:N=n)(h:n<=34359738368)(w:World):
  (Instr.makeSlice 40 (.int .i64 N) (.int .i64 N)).run Tryz.prog w=.ok (.slice (some ⟨w.heap.size,0,none⟩) n n) (w.alloc (.cells (Array.replicate n (wd 0)) 117)):=by
 obtain⟨i0,hi,hz0,hz1,hz2⟩:=info_parts info_u32;subst hN;have hr:=run_make (P:=Tryz.prog) w 40 117 i0 (.int .u32 0) Tryz.underlying40 hi hz0 .i64 .i64 (n:Int) (n:Int) (by omega) (by omega) (by rw [hz2];omega) (by omega)
 simp only [Int.toNat_natCast] at hr
 have e:madeCells (Value.int .u32 0).cells n=Array.replicate n (wd 0):=by
  have:=toList_madeCells_one (.int .u32 0) n;rw [show (Value.int .u32 0).cells=#[.int .u32 0] from rfl];rw [<- Array.toArray_toList (xs:=madeCells #[Value.int .u32 0] n),this]
  simp
 rw [hr,hz1,Nat.mul_one,e]
end
def cmp3(a b:Nat):Int:=if a<b then -1 else if b<a then 1 else 0
theorem cmp3_lt{a b:Nat}(h:a<b):cmp3 a b=-1:=if_pos h
theorem cmp3_gt{a b:Nat}(h:b<a):cmp3 a b=1:=by unfold cmp3;rw [if_neg (by omega),if_pos h]
theorem cmp3_eq{a b:Nat}(h:a=b):cmp3 a b=0:=by unfold cmp3;rw [if_neg (by omega),if_neg (by omega)]
theorem cmp3_nonneg{a b:Nat}:0<=cmp3 a b↔b<=a:=by unfold cmp3;split<;>(try split)<;>omega
theorem cmp3_neg{a b:Nat}:cmp3 a b<0↔a<b:=by unfold cmp3;split<;>(try split)<;>omega
theorem cmp3_zero{a b:Nat}:cmp3 a b=0↔a=b:=by unfold cmp3;split<;>(try split)<;>omega
theorem num_tail(l:List Nat):num l=l[0]?.getD 0+2^32*num l.tail:=by
 cases l with
 | nil=>rfl
 | cons x l=>rfl
theorem tail_get(l:List Nat)(i:Nat):l.tail[i]?=l[i+1]?:=by cases l<;>rfl
theorem W32.tail'{l:List Nat}(h:W32 l):W32 l.tail:=by cases l;exact h;exact h.tail
theorem num_ext{l m:List Nat}(h:∀ j:Nat,l[j]?.getD 0=m[j]?.getD 0):num l=num m:=by
 induction l generalizing m with
 | nil=>
  induction m with
  | nil=>rfl
  | cons y m ih=>
   have h0:=h 0
   simp at h0
   rw [num_cons,<- h0,<- ih (fun j=>by simpa using h (j+1))];rfl
 | cons x l ih=>
  rw [num_cons,num_tail m,<- h 0,ih (m:=m.tail) (fun j=>by rw [tail_get];simpa using h (j+1))];rfl
theorem num_lt_of{l m:List Nat}(hl:W32 l)(i:Nat)(h:∀ j:Nat,i<j->l[j]?.getD 0=m[j]?.getD 0)(hi:l[i]?.getD 0<m[i]?.getD 0):num l<num m:=by
 induction i generalizing l m with
 | zero=>
  have e:num l.tail=num m.tail:=num_ext fun j=>by rw [tail_get,tail_get];exact h (j+1) (by omega)
  rw [num_tail l,num_tail m,e];omega
 | succ i ih=>
  have:=ih hl.tail' (m:=m.tail) (fun j hj=>by rw [tail_get,tail_get];exact h (j+1) (by omega)) (by rw [tail_get,tail_get];exact hi);rw [num_tail l,num_tail m];have:=hl.get 0
  omega
theorem num_lt_of_wlen{l m:List Nat}(hl:W32 l)(h:wlen l<wlen m):num l<num m:=by
 have h1:=num_lt_wlen hl;have h2:=le_num_wlen (l:=m) (by omega);have:=Nat.pow_le_pow_right (n:=2) (by omega) (show 32*wlen l<=32*(wlen m - 1) by omega)
 omega
theorem num_word{l:List Nat}(h:W32 l)(q:Nat):num l / 2^(32*q) % 2^32=l[q]?.getD 0:=by
 induction q generalizing l with
 | zero=>
  have:=h.get 0;rw [num_tail l];simp;omega
 | succ q ih=>
  have h0:=h.get 0;rw [<- tail_get,<- ih h.tail',pow32,<- Nat.div_div_eq_div_mul]
  congr 2
  rw [num_tail l];omega
theorem num_drop{l:List Nat}(h:W32 l)(q:Nat):num (l.drop q)=num l / 2^(32*q):=by
 induction q generalizing l with
 | zero=>simp
 | succ q ih=>
  have h0:=h.get 0;rw [show l.drop (q+1)=l.tail.drop q from by cases l<;>simp,ih h.tail',pow32,<- Nat.div_div_eq_div_mul]
  congr 1
  rw [num_tail l];omega
theorem num_take_next(l:List Nat)(k:Nat):num (l.take (k+1))=num (l.take k)+2^(32*k)*l[k]?.getD 0:=by
 rcases Nat.lt_or_ge k l.length with h | h
 ·exact num_take_succ l k h
 ·rw [List.take_of_length_le (by omega),List.take_of_length_le h,List.getElem?_eq_none h];rfl
theorem num_take_all{l:List Nat}{n:Nat}(h:wlen l<=n):num (l.take n)=num l:=by
 have hs:=wlen_spec l;refine num_ext fun j=>?_
 rcases Nat.lt_or_ge j n with h1 | h1
 ·rw [List.getElem?_take_of_lt h1]
 ·rw [hs.1 j (by omega),List.getElem?_eq_none (by rw [List.length_take];omega)];rfl
theorem num_snoc(l:List Nat)(x:Nat):num (l ++ [x])=num l+2^(32*l.length)*x:=by
 rw [num_append];simp [num]
theorem num_take_mod{l:List Nat}(h:W32 l)(k:Nat):num (l.take k)=num l % 2^(32*k):=by
 induction k generalizing l with
 | zero=>simp [num,Nat.mod_one]
 | succ k ih=>
  cases l with
  | nil=>simp [num]
  | cons x l=>
   rw [List.take_succ_cons,num_cons,num_cons,ih h.tail,pow32];have:=h.head
   have e:(x+2^32*num l) % (2^32*2^(32*k))=x+2^32*(num l % 2^(32*k)):=by
    rw [Nat.mod_mul];rw [show (x+2^32*num l) % 2^32=x from by omega,show (x+2^32*num l) / 2^32=num l from by omega]
   rw [e]
def blen(n:Nat):Nat:=if n=0 then 0 else n.log2+1
theorem blen_zero:blen 0=0:=rfl
theorem blen_pos{n:Nat}(h:n≠0):blen n=n.log2+1:=if_neg h
theorem blen_half{n:Nat}(h:0<n):blen n=blen (n / 2)+1:=by
 rw [blen_pos (by omega)]
 by_cases h1:n / 2=0
 ·have:n=1:=by omega
  subst this;rfl
 ·rw [blen_pos h1];have h2:1<=n.log2:=(Nat.le_log2 (by omega)).2 (by omega);have h3:=Nat.log2_self_le (n:=n) (by omega);have h4:n<2^(n.log2+1):=Nat.lt_log2_self
  have:(n / 2).log2=n.log2 - 1:=by
   obtain⟨k,hk⟩:∃ k,n.log2=k+1:=⟨n.log2 - 1,by omega⟩
   rw [hk] at h3 h4 ⊢;rw [Nat.pow_succ] at h3 h4
   exact (Nat.log2_eq_iff h1).2 ⟨by rw [Nat.add_sub_cancel];omega,by rw [Nat.add_sub_cancel];omega⟩
  omega
theorem lt_pow_blen(n:Nat):n<2^blen n:=by
 unfold blen;split
 ·omega
 ·exact Nat.lt_log2_self
theorem pow_blen_le{n:Nat}(h:0<n):2^(blen n - 1)<=n:=by
 rw [blen_pos (by omega)];exact Nat.log2_self_le (by omega)
theorem blen_le_iff{n k:Nat}:blen n<=k↔n<2^k:=by
 constructor
 ·intro h;exact Nat.lt_of_lt_of_le (lt_pow_blen n) (Nat.pow_le_pow_right (by omega) h)
 ·intro h
  by_cases h0:n=0
  ·subst h0;simp [blen]
  ·rw [blen_pos h0];exact (Nat.log2_lt h0).2 h
theorem blen_eq_zero{n:Nat}:blen n=0↔n=0:=by
 constructor
 ·intro h;have:=lt_pow_blen n;rw [h] at this;omega
 ·rintro rfl;rfl
theorem blen_high{hi lo k:Nat}(h:0<hi)(hlo:lo<2^k):blen (lo+2^k*hi)=k+blen hi:=by
 have h1:=pow_blen_le h;have h2:=lt_pow_blen hi
 have hb:0<blen hi:=by have:=@blen_eq_zero hi;omega
 have hp:=Nat.two_pow_pos k;refine Nat.le_antisymm (blen_le_iff.2 ?_) ?_
 ·rw [Nat.pow_add];have:2^k*(hi+1)<=2^k*2^blen hi:=Nat.mul_le_mul_left _ (by omega);rw [Nat.mul_add] at this;omega
 ·rcases Nat.lt_or_ge (blen (lo+2^k*hi)) (k+blen hi) with h3 | h3
  ·exfalso
   have h4:lo+2^k*hi<2^(k+(blen hi - 1)):=blen_le_iff.1 (by omega);rw [Nat.pow_add] at h4;have:2^k*2^(blen hi - 1)<=2^k*hi:=Nat.mul_le_mul_left _ h1
   omega
  ·exact h3
theorem blen_num{l:List Nat}(h:W32 l)(h0:0<wlen l):blen (num l)=32*(wlen l - 1)+blen (l[wlen l - 1]?.getD 0):=by
 have hs:=(wlen_spec l).2;have h1:=num_take_succ l (wlen l - 1) (by have:=wlen_le l;omega);rw [Nat.sub_add_cancel h0,<- trim_eq_take,num_trim] at h1;rw [h1,blen_high (by omega)];have:=num_lt (h.take (wlen l - 1));rw [List.length_take,Nat.min_eq_left (by have:=wlen_le l;omega)] at this
 exact this
theorem plus_step{p S a b x c c' A B:Nat}(h:S+p*c=A+B)(hx:x+4294967296*c'=c+a+b):
  S+p*x+4294967296*p*c'=A+p*a+(B+p*b):=by
 have:p*(x+4294967296*c')=p*(c+a+b):=by rw [hx]
 rw [Nat.mul_add,Nat.mul_add,Nat.mul_add] at this;rw [Nat.mul_comm 4294967296 p,Nat.mul_assoc]
 omega
theorem minus_step{p S a b x c c' A B:Nat}(h:S+B=A+p*c)(hx:x+b+c=a+4294967296*c'):
  S+p*x+(B+p*b)=A+p*a+4294967296*p*c':=by
 have:p*(x+b+c)=p*(a+4294967296*c'):=by rw [hx]
 rw [Nat.mul_add,Nat.mul_add,Nat.mul_add] at this;rw [Nat.mul_comm 4294967296 p,Nat.mul_assoc]
 omega
def PlusInv(xs ys ls:List Nat)(i c:Nat):Prop:=W32 ls/\ls.length=i/\c<=1/\num ls+2^(32*i)*c=num (xs.take i)+num (ys.take i)
theorem PlusInv.start(xs ys:List Nat):PlusInv xs ys [] 0 0:=⟨W32.nil,rfl,by omega,by simp [num]⟩
theorem PlusInv.carry{xs ys ls:List Nat}{i c:Nat}(h:PlusInv xs ys ls i c):c<=1:=h.2.2.1
theorem PlusInv.len{xs ys ls:List Nat}{i c:Nat}(h:PlusInv xs ys ls i c):ls.length=i:=h.2.1
theorem PlusInv.step{xs ys ls:List Nat}{i c t:Nat}(h:PlusInv xs ys ls i c)(hx:W32 xs)(hy:W32 ys)(ht:t=c+xs[i]?.getD 0+ys[i]?.getD 0):
  PlusInv xs ys (ls ++ [t % 4294967296]) (i+1) (t / 4294967296):=by
 obtain⟨hw,hl,hc,hs⟩:=h;have h1:=hx.get i;have h2:=hy.get i;refine⟨hw.append (W32.cons (by omega) W32.nil),by simp [hl],by omega,?_⟩;rw [num_snoc,hl,num_take_next,num_take_next,pow32]
 exact plus_step hs (by omega)
theorem PlusInv.done{xs ys ls:List Nat}{i c:Nat}(h:PlusInv xs ys ls i c)(hx:xs.length<=i)(hy:ys.length<=i):
  trim (ls ++ [c])=digs (num xs+num ys)/\W32 (ls ++ [c]):=by
 obtain⟨hw,hl,hc,hs⟩:=h;have hw':W32 (ls ++ [c]):=hw.append (W32.cons (by omega) W32.nil);refine⟨?_,hw'⟩;rw [trim_eq_digs hw',num_snoc,hl,hs,List.take_of_length_le hx,List.take_of_length_le hy]
def MinusInv(xs ys ls:List Nat)(i c:Nat):Prop:=W32 ls/\ls.length=i/\c<=1/\num ls+num (ys.take i)=num (xs.take i)+2^(32*i)*c
theorem MinusInv.start(xs ys:List Nat):MinusInv xs ys [] 0 0:=⟨W32.nil,rfl,by omega,by simp [num]⟩
theorem MinusInv.carry{xs ys ls:List Nat}{i c:Nat}(h:MinusInv xs ys ls i c):c<=1:=h.2.2.1
theorem MinusInv.len{xs ys ls:List Nat}{i c:Nat}(h:MinusInv xs ys ls i c):ls.length=i:=h.2.1
theorem MinusInv.step{xs ys ls:List Nat}{i c d c':Nat}(h:MinusInv xs ys ls i c)(hd:d<4294967296)(hc':c'<=1)
  (ht:d+ys[i]?.getD 0+c=xs[i]?.getD 0+4294967296*c'):MinusInv xs ys (ls ++ [d]) (i+1) c':=by
 obtain⟨hw,hl,hc,hs⟩:=h;refine⟨hw.append (W32.cons hd W32.nil),by simp [hl],hc',?_⟩;rw [num_snoc,hl,num_take_next,num_take_next,pow32]
 exact minus_step hs ht
theorem MinusInv.done{xs ys ls:List Nat}{i c:Nat}(h:MinusInv xs ys ls i c)(hx:xs.length=i)(hxw:W32 xs)(hyw:W32 ys)(hle:num ys<=num xs):
  num ls=num xs - num ys:=by
 obtain⟨hw,hl,hc,hs⟩:=h;have h1:=num_lt hw;have h2:=num_lt hxw;rw [hl] at h1;rw [hx] at h2
 have h3:num (ys.take i)=num ys:=by
  rw [num_take_mod hyw];exact Nat.mod_eq_of_lt (Nat.lt_of_le_of_lt hle h2)
 rw [h3,List.take_of_length_le (by omega)] at hs
 rcases Nat.eq_zero_or_pos c with h0 | h0
 ·subst h0;omega
 ·obtain rfl:c=1:=by omega
  omega
def TimesOut(xs ys ls:List Nat)(n m j:Nat):Prop:=W32 ls/\ls.length=n+m/\(∀ k:Nat,n+j<=k->ls[k]?.getD 0=0)/\num ls=num xs*num (ys.take j)
theorem TimesOut.start(xs ys:List Nat)(n m:Nat):TimesOut xs ys (List.replicate (n+m) 0) n m 0:=
 ⟨W32.replicate _,by simp,fun k _=>by rw [List.getElem?_replicate];split<;>rfl,by simp [num_replicate,num]⟩
theorem TimesOut.skip{xs ys ls:List Nat}{n m j:Nat}(h:TimesOut xs ys ls n m j)(h0:ys[j]?.getD 0=0):TimesOut xs ys ls n m (j+1):=by
 obtain⟨a,b,c,d⟩:=h;refine⟨a,b,fun k hk=>c k (by omega),?_⟩;rw [num_take_next,h0,d];simp
def TimesIn(xs ls l0:List Nat)(n m j i y c:Nat):Prop:=
 W32 ls/\ls.length=n+m/\(∀ k:Nat,n+j<=k->ls[k]?.getD 0=0)/\c<4294967296/\num ls+2^(32*(i+j))*c=num l0+2^(32*j)*(num (xs.take i)*y)
theorem TimesIn.start{xs ys ls:List Nat}{n m j:Nat}(y:Nat)(h:TimesOut xs ys ls n m j):TimesIn xs ls ls n m j 0 y 0:=by
 obtain⟨a,b,c,_⟩:=h
 exact⟨a,b,c,by omega,by simp [num]⟩
theorem TimesIn.step{xs ls l0:List Nat}{n m j i y c t:Nat}(h:TimesIn xs ls l0 n m j i y c)(hi:i<n)(hj:j<m)(hx:W32 xs)(hy:y<4294967296)
  (ht:t=c+ls[i+j]?.getD 0+xs[i]?.getD 0*y):TimesIn xs (ls.set (i+j) (t % 4294967296)) l0 n m j (i+1) y (t / 4294967296):=by
 obtain⟨hw,hl,hz,hc,hs⟩:=h;have h1:=hw.get (i+j);have h2:=hx.get i;have h3:xs[i]?.getD 0*y<=4294967295*4294967295:=Nat.mul_le_mul (by omega) (by omega);refine⟨hw.set _ (by omega),by simp [hl],fun k hk=>?_,by omega,?_⟩
 ·rw [List.getElem?_set_ne (by omega)];exact hz k hk
 ·have e1:=num_set ls (i+j) (t % 4294967296) (by omega);rw [num_take_next,show 32*(i+1+j)=32*(i+j+1) from by omega,pow32];rw [Nat.add_mul,Nat.mul_add (2^(32*j)),<- Nat.add_assoc,<- hs]
  have e2:2^(32*j)*(2^(32*i)*xs[i]?.getD 0*y)=2^(32*(i+j))*(xs[i]?.getD 0*y):=by
   rw [Nat.mul_assoc,<- Nat.mul_assoc (2^(32*j)),<- Nat.pow_add];congr 2;omega
  rw [e2];generalize xs[i]?.getD 0*y=z at *
  have e3:t % 4294967296+4294967296*(t / 4294967296)=t:=by omega
  generalize 2^(32*(i+j))=p at *;generalize ls[i+j]?.getD 0=u at *
  have e4:p*(t % 4294967296)+2^32*p*(t / 4294967296)=p*t:=by
   rw [Nat.mul_comm (2^32) p,Nat.mul_assoc,<- Nat.mul_add];rw [e3]
  have e5:p*t=p*c+p*u+p*z:=by rw [ht,Nat.mul_add,Nat.mul_add]
  omega
theorem TimesIn.done{xs ys ls l0:List Nat}{n m j y c:Nat}(h:TimesIn xs ls l0 n m j n y c)(h0:TimesOut xs ys l0 n m j)(hj:j<m)(hn:wlen xs<=n)(hy:ys[j]?.getD 0=y):
  TimesOut xs ys (ls.set (j+n) c) n m (j+1):=by
 obtain⟨hw,hl,hz,hc,hs⟩:=h;obtain⟨_,_,_,hs0⟩:=h0;refine⟨hw.set _ hc,by simp [hl],fun k hk=>?_,?_⟩
 ·rw [List.getElem?_set_ne (by omega)];exact hz k (by omega)
 ·have e1:=num_set ls (j+n) c (by omega);rw [hz (j+n) (by omega)] at e1;rw [num_take_next,hy,Nat.mul_add,<- hs0];rw [num_take_all hn,Nat.add_comm n j] at hs;rw [Nat.mul_zero,Nat.add_zero] at e1;rw [e1,hs,Nat.mul_left_comm]
theorem TimesOut.done{xs ys ls:List Nat}{n m:Nat}(h:TimesOut xs ys ls n m m)(hm:wlen ys<=m):num ls=num xs*num ys:=by
 rw [h.2.2.2,num_take_all hm]
def LeftInv(xs ls:List Nat)(n q s i:Nat):Prop:=
 W32 ls/\ls.length=q+n+1/\(∀ k:Nat,q+i<k->ls[k]?.getD 0=0)/\ls[q+i]?.getD 0<2^s/\num ls=num (xs.take i)*2^(32*q+s)
theorem LeftInv.start(xs:List Nat)(n q s:Nat):LeftInv xs (List.replicate (q+n+1) 0) n q s 0:=
 ⟨W32.replicate _,by simp,fun k _=>by rw [List.getElem?_replicate];split<;>rfl,by
   rw [List.getElem?_replicate];have:=Nat.two_pow_pos s;split<;>simpa using this,by simp [num_replicate,num]⟩
theorem LeftInv.step{xs ls:List Nat}{n q s i v:Nat}(h:LeftInv xs ls n q s i)(hi:i<n)(hs:s<32)(hx:W32 xs)(hv:v=xs[i]?.getD 0*2^s):
  LeftInv xs ((ls.set (q+i) (ls[q+i]?.getD 0+v % 4294967296)).set (q+i+1) (v / 4294967296)) n q s (i+1)/\ls[q+i]?.getD 0+v % 4294967296<4294967296/\v / 4294967296<4294967296:=by
 obtain⟨hw,hl,hz,hc,hn⟩:=h;have h1:=hx.get i;have hp:=Nat.two_pow_pos s;have h2s:2^s<=2^31:=Nat.pow_le_pow_right (by omega) (by omega)
 have hv1:v<4294967296*2^s:=by rw [hv];exact Nat.mul_lt_mul_of_pos_right (by omega) hp
 have hv2:v / 4294967296<2^s:=Nat.div_lt_of_lt_mul hv1
 -- the low part of v is a multiple of 2^s
 have hlow:ls[q+i]?.getD 0+v % 4294967296<4294967296:=by
  have e:(4294967296:Nat)=2^s*2^(32 - s):=by rw [<- Nat.pow_add,show s+(32 - s)=32 from by omega]
  have:v % 4294967296=2^s*(xs[i]?.getD 0 % 2^(32 - s)):=by
   rw [hv,e,Nat.mul_comm,Nat.mul_mod_mul_left]
  rw [this];have h3:xs[i]?.getD 0 % 2^(32 - s)<2^(32 - s):=Nat.mod_lt _ (Nat.two_pow_pos _);have h4:2^s*(xs[i]?.getD 0 % 2^(32 - s)+1)<=2^s*2^(32 - s):=Nat.mul_le_mul_left _ h3;rw [<- e,Nat.mul_add] at h4
  omega
 refine⟨⟨(hw.set _ hlow).set _ (by omega),by simp [hl],fun k hk=>?_,?_,?_⟩,hlow,by omega⟩
 ·rw [List.getElem?_set_ne (by omega),List.getElem?_set_ne (by omega)];exact hz k (by omega)
 ·rw [show q+(i+1)=q+i+1 from by omega,List.getElem?_set_self (by rw [List.length_set];omega)];exact hv2
 ·have e1:=num_set ls (q+i) (ls[q+i]?.getD 0+v % 4294967296) (by omega);have e2:=num_set (ls.set (q+i) (ls[q+i]?.getD 0+v % 4294967296)) (q+i+1) (v / 4294967296) (by simp;omega);rw [List.getElem?_set_ne (by omega),hz (q+i+1) (by omega),Nat.mul_zero,Nat.add_zero,pow32,Nat.mul_comm (2^32),Nat.mul_assoc] at e2;rw [num_take_next,Nat.add_mul,<- hn]
  have e3:2^(32*i)*xs[i]?.getD 0*2^(32*q+s)=2^(32*(q+i))*v:=by
   rw [hv,Nat.mul_assoc,Nat.pow_add,Nat.mul_left_comm (xs[i]?.getD 0),<- Nat.mul_assoc,<- Nat.pow_add]
   congr 2;omega
  rw [e3];rw [Nat.mul_add (2^(32*(q+i)))] at e1
  have e4:2^(32*(q+i))*(v % 4294967296)+2^(32*(q+i))*(2^32*(v / 4294967296))=2^(32*(q+i))*v:=by
   rw [<- Nat.mul_add];congr 1;omega
  generalize 2^(32*(q+i))*(2^32*(v / 4294967296))=z1 at *;generalize 2^(32*(q+i))*(v % 4294967296)=z2 at *;generalize 2^(32*(q+i))*v=z3 at *;generalize 2^(32*(q+i))*ls[q+i]?.getD 0=z4 at *
  omega
theorem LeftInv.done{xs ls:List Nat}{n q s:Nat}(h:LeftInv xs ls n q s n)(hn:wlen xs<=n):num ls=num xs*2^(32*q+s):=by
 rw [h.2.2.2.2,num_take_all hn]
def RightInv(xs ls:List Nat)(q s t:Nat):Prop:=W32 ls/\ls.length=t/\num ls=num xs / 2^(32*q+s) % 2^(32*t)
theorem RightInv.start(xs:List Nat)(q s:Nat):RightInv xs [] q s 0:=⟨W32.nil,rfl,by simp [num,Nat.mod_one]⟩
theorem RightInv.step{xs ls:List Nat}{q s t v:Nat}(h:RightInv xs ls q s t)(hx:W32 xs)(hs:s<32)(hv:v=xs[q+t]?.getD 0+4294967296*xs[q+t+1]?.getD 0):
  RightInv xs (ls ++ [v / 2^s % 4294967296]) q s (t+1):=by
 obtain⟨hw,hl,hn⟩:=h;refine⟨hw.append (W32.cons (by omega) W32.nil),by simp [hl],?_⟩;rw [num_snoc,hl,hn,show 32*(t+1)=32*t+32 from by omega,Nat.pow_add 2 (32*t),Nat.mod_mul]
 congr 2
 rw [Nat.div_div_eq_div_mul,<- Nat.pow_add,show 32*q+s+32*t=32*(q+t)+s from by omega,Nat.pow_add 2 (32*(q+t)),<- Nat.div_div_eq_div_mul,<- num_drop hx]
 have e:v=num (xs.drop (q+t)) % 18446744073709551616:=by
  have h0:=hx.get (q+t);have h1:=hx.get (q+t+1)
  have g0:(xs.drop (q+t))[0]?.getD 0=xs[q+t]?.getD 0:=by rw [List.getElem?_drop];rfl
  have g1:(xs.drop (q+t)).tail[0]?.getD 0=xs[q+t+1]?.getD 0:=by rw [tail_get,List.getElem?_drop,Nat.add_assoc]
  rw [num_tail (xs.drop (q+t)),num_tail (xs.drop (q+t)).tail,g0,g1]
  omega
 rw [e];generalize num (xs.drop (q+t))=D
 -- the low 64 bits are enough
 have e2:(18446744073709551616:Nat)=2^s*(2^32*2^(32 - s)):=by rw [<- Nat.pow_add,<- Nat.pow_add,show s+(32+(32 - s))=64 from by omega]
 rw [e2,Nat.mod_mul_right_div_self,show (4294967296:Nat)=2^32 from rfl,Nat.mod_mul_right_mod]
theorem RightInv.done{xs ls:List Nat}{q s t:Nat}(h:RightInv xs ls q s t)(hx:W32 xs)(hq:wlen xs<=q+t):num ls=num xs / 2^(32*q+s):=by
 rw [h.2.2];refine Nat.mod_eq_of_lt ?_;rw [Nat.div_lt_iff_lt_mul (Nat.two_pow_pos _),<- Nat.pow_add]
 exact Nat.lt_of_lt_of_le (num_lt_wlen hx) (Nat.pow_le_pow_right (by omega) (by omega))
section
open Go.RowKit
def rv(neg:Bool)(p q:Nat):Rat:=(if neg then -(p:Rat) else (p:Rat)) / (q:Rat)
theorem cast_pos{q:Nat}(h:0<q):(0:Rat)<(q:Rat):=Rat.natCast_pos.2 h
theorem cast_ne{q:Nat}(h:0<q):(q:Rat)≠0:=by have:=cast_pos h;grind
theorem two_ne:(2:Rat)≠0:=by decide
theorem zpow_pos(e:Int):(0:Rat)<(2:Rat)^e:=Rat.zpow_pos (by decide)
theorem zpow_ne(e:Int):(2:Rat)^e≠0:=by have:=zpow_pos e;grind
theorem zpow_add(a b:Int):(2:Rat)^(a+b)=2^a*2^b:=Rat.zpow_add two_ne a b
theorem zpow_nat(k:Nat):(2:Rat)^(k:Int)=((2^k:Nat):Rat):=by rw [Rat.zpow_natCast,Rat.natCast_pow];rfl
theorem zpow_split(e:Int):(2:Rat)^e*((2^(-e).toNat:Nat):Rat)=((2^e.toNat:Nat):Rat):=by
 rw [<- zpow_nat,<- zpow_nat,<- zpow_add]
 congr 1;omega
theorem eq_div{a b c:Rat}(hc:c≠0)(h:a*c=b):a=b / c:=by rw [<- h,Rat.mul_div_cancel hc]
theorem div_eq{a b c:Rat}(hc:c≠0)(h:a=b*c):a / c=b:=by rw [h,Rat.mul_div_cancel hc]
theorem rv_zero(neg:Bool)(q:Nat):rv neg 0 q=0:=by unfold rv;cases neg<;>simp [Rat.div_def]
theorem rv_scale(neg:Bool){p q:Nat}(hq:0<q)(e:Int):rv neg (p*2^e.toNat) (q*2^(-e).toNat)=rv neg p q*2^e:=by
 have h0:=cast_ne hq;have h1:=cast_ne (Nat.two_pow_pos (-e).toNat);have h2:=zpow_split e;have h3:=cast_ne (Nat.mul_pos hq (Nat.two_pow_pos (-e).toNat));unfold rv;refine div_eq h3 ?_;rw [Rat.natCast_mul,Rat.natCast_mul,Rat.div_def,<- h2];have:=Rat.mul_inv_cancel _ h0
 cases neg<;>simp<;>grind
def RatV(w:World)(K:Nat)(neg:Bool)(vn vd:Value)(x:Rat):Prop:=
 ∃ (p q:Nat) (A:Option Addr) (n c:Nat) (B:Option Addr) (m d:Nat),vn=.slice A n c/\vd=.slice B m d/\U32s w A n c (digs p)/\U32s w B m d (digs q) /\
  0<q/\(p=0->neg=false)/\p<2^(32*K)/\q<2^(32*K)/\x=rv neg p q
theorem RatV.below{w w':World}{K:Nat}{neg:Bool}{vn vd:Value}{x:Rat}(h:RatV w K neg vn vd x)(hb:Below w.heap.size w w'):RatV w' K neg vn vd x:=by
 obtain⟨p,q,A,n,c,B,m,d,h1,h2,h3,h4,h5⟩:=h
 exact⟨p,q,A,n,c,B,m,d,h1,h2,h3.below hb,h4.below hb,h5⟩
theorem RatV.mono{w:World}{K K':Nat}{neg:Bool}{vn vd:Value}{x:Rat}(h:RatV w K neg vn vd x)(hk:K<=K'):RatV w K' neg vn vd x:=by
 obtain⟨p,q,A,n,c,B,m,d,h1,h2,h3,h4,h5,h6,h7,h8,h9⟩:=h;have:=Nat.pow_le_pow_right (n:=2) (by omega) (show 32*K<=32*K' by omega)
 exact⟨p,q,A,n,c,B,m,d,h1,h2,h3,h4,h5,h6,by omega,by omega,h9⟩
def NewRat(w:World)(K:Nat)(x:Rat)(e:Ending)(w':World):Prop:=
 ∃ neg vn vd,e=.returned (.agg #[.bool neg,vn,vd])/\RatV w' K neg vn vd x/\Below w.heap.size w w'
theorem NewRat.trans{w w1 w':World}{K:Nat}{x:Rat}{e:Ending}(h:NewRat w1 K x e w')(hb:Below w.heap.size w w1):NewRat w K x e w':=by
 obtain⟨neg,vn,vd,rfl,h1,h2⟩:=h
 exact⟨neg,vn,vd,rfl,h1,hb.trans (h2.mono hb.size)⟩
def Blk(w:World)(g:Nat)(t:TypeId)(cs:Array Value):Prop:=w.heap[g]?=some (.cells cs t (0,0))
theorem Blk.lt{w:World}{g:Nat}{t:TypeId}{cs:Array Value}(h:Blk w g t cs):g<w.heap.size:=(Array.getElem?_eq_some_iff.1 h).1
theorem Blk.cell{w:World}{g:Nat}{t:TypeId}{cs:Array Value}(h:Blk w g t cs)(i:Nat):w.cell? ⟨g,i,none⟩=cs[i]?:=cell_of_row w g i cs t (0,0) h
theorem Blk.frozen{w:World}{g:Nat}{t:TypeId}{cs:Array Value}(h:Blk w g t cs)(i:Nat):w.frozen? ⟨g,i,none⟩=false:=frozen_of_row w g i cs t h
theorem Blk.new(w:World)(t:TypeId)(cs:Array Value):Blk (w.alloc (.cells cs t)) w.heap.size t cs:=heap_alloc_new w _
theorem Blk.below{w w':World}{g B:Nat}{t:TypeId}{cs:Array Value}(h:Blk w g t cs)(hb:Below B w w')(hg:g<B):Blk w' g t cs:=(hb.block g hg).trans h
theorem Blk.drewN{w:World}{g:Nat}{t:TypeId}{cs:Array Value}(h:Blk w g t cs)(n:Nat):Blk (w.drewN n) g t cs:=h
theorem Blk.alloc{w:World}{g:Nat}{t:TypeId}{cs:Array Value}(h:Blk w g t cs)(o:Obj):Blk (w.alloc o) g t cs:=(Below.heap_alloc w o g h.lt).trans h
theorem Blk.keep{w w':World}{g:Nat}{t:TypeId}{cs:Array Value}(h:Blk w g t cs)(hb:Below w.heap.size w w'):Blk w' g t cs:=h.below hb h.lt
def NoWd(cs:Array Value):Prop:=∀ i x:Nat,cs[i]?≠some (wd x)
theorem NoWd.zero:NoWd #[.bool false,.slice none 0 0,.slice none 0 0]:=by
 intro i x
 match i with
 | 0=>simp
 | 1=>simp
 | 2=>simp
 | i+3=>simp
theorem Blk.apart{w:World}{g:Nat}{t:TypeId}{cs:Array Value}{A:Option Addr}{n c:Nat}{xs:List Nat}(hb:Blk w g t cs)(hc:NoWd cs)(h:U32s w A n c xs):∀ ad,A=some ad->0<n->ad.block≠g:=by
 intro ad e hn hg;obtain⟨ad',e',_,hj⟩:=h.at_ hn;rw [e] at e';cases e';have h0:=hj 0 hn
 have:(ad.add 0)=ad:=by unfold Addr.add;rfl
 rw [this] at h0;unfold World.cell? at h0;rw [hg,hb] at h0
 simp only at h0
 split at h0
 ·exact absurd h0 (by simp)
 ·exact hc _ _ h0
end
section
open Go.RowKit
end
section
open Go.RowKit
def NewU32(w:World)(xs:List Nat)(e:Ending)(w':World):Prop:=
 ∃ A n c,e=.returned (.slice A n c)/\U32s w' A n c xs/\Below w.heap.size w w'
theorem NewU32.trans{w w1 w':World}{xs:List Nat}{e:Ending}(h:NewU32 w1 xs e w')(hb:Below w.heap.size w w1):NewU32 w xs e w':=by
 obtain⟨A,n,c,rfl,hu,hb'⟩:=h
 exact⟨A,n,c,rfl,hu,hb.trans (hb'.mono hb.size)⟩
theorem below_alloc(w:World)(o:Obj):Below w.heap.size w (w.alloc o):=(Below.refl _ _).alloc (Nat.le_refl _) o
end
section
open Go.RowKit
def QuietRet(w:World)(v:Value)(e:Ending)(w':World):Prop:=e=.returned v/\∃ k,w'=w.drewN k
end
section
open Go.RowKit
theorem ret_int{k:IntKind}{a b:Int}(h:a=b):Ending.returned (.int k a)=.returned (.int k b):=by rw [h]
theorem mask52_u64{x:Nat}(h:x<18446744073709551616):bits .and .u64 (x:Int) 4503599627370495=((x % 4503599627370496:Nat):Int):=by
 have:=u64_and_nat x 4503599627370495 h (by omega);rw [nat_mask52] at this;exact this
theorem mask11_u64{x:Nat}(h:x<18446744073709551616):bits .and .u64 (x:Int) 2047=((x % 2048:Nat):Int):=by
 have:=u64_and_nat x 2047 h (by omega);rw [nat_mask11] at this;exact this
theorem or_join{i x y:Nat}(hx:x*2^i<18446744073709551616)(hy:y<2^i)(hy':y<18446744073709551616):bits .or .u64 ((x*2^i:Nat):Int) (y:Int)=((x*2^i+y:Nat):Int):=by
 rw [u64_or_nat _ _ hx hy',nat_join i _ _ (Nat.mul_mod_left _ _) hy]
theorem or_join'{i x y:Nat}(hx:x*2^i<18446744073709551616)(hy:y<2^i)(hy':y<18446744073709551616):bits .or .u64 (y:Int) ((x*2^i:Nat):Int)=((y+x*2^i:Nat):Int):=by
 rw [u64_or_nat _ _ hy' hx,Nat.or_comm,nat_join i _ _ (Nat.mul_mod_left _ _) hy,Nat.add_comm]
end
section
open Go.RowKit
end
section
open Go.RowKit
end
section
open Go.RowKit
theorem NewU32.nil(w:World):NewU32 w [] (.returned (.slice none 0 0)) w:=⟨none,0,0,rfl,U32s.nil _ _ _,Below.refl _ _⟩
end
section
open Go.RowKit
def NewU32B(w:World)(xs:List Nat)(b:Bool)(e:Ending)(w':World):Prop:=
 ∃ A n c,e=.returned (.tuple #[.slice A n c,.bool b])/\U32s w' A n c xs/\Below w.heap.size w w'
theorem right_lost{xs:List Nat}(hx:W32 xs)(q s:Nat)(hs:s<32):num xs % 2^(32*q+s)=num (xs.take q)+2^(32*q)*(xs[q]?.getD 0 % 2^s):=by
 rw [Nat.pow_add,Nat.mod_mul,<- num_take_mod hx,<- num_word hx]
 congr 2
 rw [show (2:Nat)^32=2^s*2^(32 - s) from by rw [<- Nat.pow_add,show s+(32 - s)=32 from by omega],Nat.mod_mul_right_mod]
end
section
open Go.RowKit
end
section
open Go.RowKit
theorem digs_one:digs 1=[1]:=by rw [digs_pos (by omega)];simp [digs_zero]
def PowInv(N k P X j:Nat):Prop:=P*X^j=N^k
theorem PowInv.odd{N k P X j:Nat}(h:PowInv N k P X j)(hj:j % 2=1):PowInv N k (P*X) (X*X) (j / 2):=by
 unfold PowInv at *;rw [<- h,<- Nat.pow_two,<- Nat.pow_mul,Nat.mul_assoc,<- Nat.pow_succ']
 congr 2;omega
theorem PowInv.even{N k P X j:Nat}(h:PowInv N k P X j)(hj:j % 2=0):PowInv N k P (X*X) (j / 2):=by
 unfold PowInv at *;rw [<- h,<- Nat.pow_two,<- Nat.pow_mul]
 congr 2;omega
theorem PowInv.last{N k P X j X':Nat}(h:PowInv N k P X j)(hj:j=0):PowInv N k P X' j:=by
 unfold PowInv at *;subst hj;simpa using h
theorem PowInv.done{N k P X:Nat}(h:PowInv N k P X 0):P=N^k:=by unfold PowInv at h;simpa using h
theorem PowInv.pos{N k P X j:Nat}(h:PowInv N k P X j)(hN:0<N):0<P:=by
 unfold PowInv at h;have:=Nat.pow_pos (n:=k) hN
 rcases Nat.eq_zero_or_pos P with h0 | h0
 ·rw [h0] at h;omega
 ·exact h0
theorem PowInv.xpos{N k P X j:Nat}(h:PowInv N k P X j)(hN:0<N)(hj:0<j):0<X:=by
 unfold PowInv at h;have:=Nat.pow_pos (n:=k) hN
 rcases Nat.eq_zero_or_pos X with h0 | h0
 ·rw [h0,Nat.zero_pow hj] at h;omega
 ·exact h0
theorem PowInv.le_px{N k P X j:Nat}(h:PowInv N k P X j)(hN:0<N)(hj:0<j):P*X<=N^k:=by
 have hx:=h.xpos hN hj;unfold PowInv at h;rw [<- h]
 exact Nat.mul_le_mul_left _ (by
  calc X=X^1:=(Nat.pow_one X).symm
   _<=X^j:=Nat.pow_le_pow_right hx hj)
theorem PowInv.le_xx{N k P X j:Nat}(h:PowInv N k P X j)(hN:0<N)(hj:2<=j):X*X<=N^k:=by
 have hx:=h.xpos hN (by omega);have hp:=h.pos hN;unfold PowInv at h;rw [<- h]
 calc X*X=1*X^2:=by rw [Nat.pow_two,Nat.one_mul]
  _<=P*X^j:=Nat.mul_le_mul hp (Nat.pow_le_pow_right hx hj)
end
section
open Go.RowKit
end
section
open Go.RowKit
def rsg(x:Rat):Int:=if x=0 then 0 else if x<0 then -1 else 1
theorem rv_pos{p q:Nat}(hp:0<p)(hq:0<q):0<rv false p q:=by
 unfold rv;have h1:=cast_pos hp;have h2:=cast_pos hq;have h3:(0:Rat)<(q:Rat)⁻¹:=Rat.inv_pos.2 h2;rw [Rat.div_def]
 exact Rat.mul_pos h1 h3
theorem rv_true(p q:Nat):rv true p q=- rv false p q:=by
 unfold rv
 simp only [Rat.div_def,if_true,Bool.false_eq_true,if_false]
 grind
end
section
open Go.RowKit
def cellOf(W:World)(a:Addr):Value:=(W.cell? a).getD (.bool false)
theorem cellOf_some{W:World}{a:Addr}{v:Value}(h:W.cell? a=some v):W.cell? a=some (cellOf W a):=by
 unfold cellOf;rw [h];rfl
theorem Blk.new2(w:World)(o:Obj)(t:TypeId)(cs:Array Value):Blk ((w.alloc o).alloc (.cells cs t)) (w.heap.size+1) t cs:=by
 have h:=Blk.new (w.alloc o) t cs;rw [show (w.alloc o).heap.size=w.heap.size+1 from by simp] at h
 exact h
end
section
open Go.RowKit
def sets(W:World)(r:Nat):Nat->List Value->World
 | _,[]=>W
 | i,v :: vs=>sets (W.setCell ⟨r,i,none⟩ v) r (i+1) vs
theorem below_sets{w0:World}{B r:Nat}(hr:B<=r):∀ (vs:List Value) (i:Nat) (W:World),Below B w0 W->Below B w0 (sets W r i vs)
 | [],_,_,h=>h
 | v :: vs,i,_,h=>below_sets hr vs (i+1) _ (h.setCell (p:=⟨r,i,none⟩) hr v)
theorem heap_sets{r k:Nat}(h:k≠r):∀ (vs:List Value) (i:Nat) (W:World),(sets W r i vs).heap[k]?=W.heap[k]?
 | [],_,_=>rfl
 | v :: vs,i,W=>by
  show (sets (W.setCell ⟨r,i,none⟩ v) r (i+1) vs).heap[k]?=_
  rw [heap_sets h vs (i+1)]
  exact Below.heap_setCell W ⟨r,i,none⟩ v k h
theorem size_sets{r:Nat}:∀ (vs:List Value) (i:Nat) (W:World),(sets W r i vs).heap.size=W.heap.size
 | [],_,_=>rfl
 | v :: vs,i,W=>by
  show (sets (W.setCell ⟨r,i,none⟩ v) r (i+1) vs).heap.size=_
  rw [size_sets vs (i+1)]
  simp [World.setCell]
theorem Blk.set{W:World}{g:Nat}{t:TypeId}{cs:Array Value}(h:Blk W g t cs)(i:Nat)(v:Value):Blk (W.setCell ⟨g,i,none⟩ v) g t (cs.setIfInBounds i v):=by
 unfold Blk World.setCell at *
 simp only [Array.getElem?_modify,if_true,h]
 rfl
def laid(cs:Array Value):Nat->List Value->Array Value
 | _,[]=>cs
 | i,v :: vs=>laid (cs.setIfInBounds i v) (i+1) vs
theorem Blk.sets{g:Nat}{t:TypeId}:∀ (vs:List Value) (i:Nat) (W:World) (cs:Array Value),Blk W g t cs->Blk (sets W g i vs) g t (laid cs i vs)
 | [],_,_,_,h=>h
 | v :: vs,i,_,_,h=>Blk.sets vs (i+1) _ _ (h.set i v)
theorem laid_size:∀ (vs:List Value) (i:Nat) (cs:Array Value),(laid cs i vs).size=cs.size
 | [],_,_=>rfl
 | v :: vs,i,cs=>by
  show (laid (cs.setIfInBounds i v) (i+1) vs).size=_
  rw [laid_size vs (i+1)];simp
theorem laid_lt:∀ (vs:List Value) (i j:Nat) (cs:Array Value),j<i->(laid cs i vs)[j]?=cs[j]?
 | [],_,_,_,_=>rfl
 | v :: vs,i,j,cs,h=>by
  show (laid (cs.setIfInBounds i v) (i+1) vs)[j]?=_
  rw [laid_lt vs (i+1) j _ (by omega),Array.getElem?_setIfInBounds];rw [if_neg (by omega)]
theorem laid_get:∀ (vs:List Value) (i j:Nat) (cs:Array Value),j<vs.length->i+vs.length<=cs.size->(laid cs i vs)[i+j]?=vs[j]?
 | [],_,_,_,h,_=>by simp at h
 | v :: vs,i,0,cs,_,h=>by
  show (laid (cs.setIfInBounds i v) (i+1) vs)[i+0]?=_
  simp only [List.length_cons] at h
  rw [laid_lt vs (i+1) (i+0) _ (by omega),Array.getElem?_setIfInBounds,Nat.add_zero,if_pos rfl,if_pos (by omega)]
  rfl
 | v :: vs,i,j+1,cs,h,h'=>by
  show (laid (cs.setIfInBounds i v) (i+1) vs)[i+(j+1)]?=_
  simp only [List.length_cons] at h h'
  rw [show i+(j+1)=(i+1)+j from by omega,laid_get vs (i+1) j _ (by omega) (by simp;omega)]
  rfl
theorem sets_cell{W:World}{g:Nat}{t:TypeId}{cs:Array Value}(h:Blk W g t cs)(vs:List Value)(j:Nat)(hj:j<vs.length)(hs:vs.length<=cs.size):
  (sets W g 0 vs).cell? ⟨g,j,none⟩=vs[j]?:=by
 rw [(h.sets vs 0 W cs).cell j];have:=laid_get vs 0 j cs hj (by omega);rw [Nat.zero_add] at this
 exact this
def notWd:Value->Bool
 | .int .u32 _=>false
 | _=>true
theorem NoWd.of{cs:Array Value}(h:cs.all notWd=true):NoWd cs:=by
 intro i x hi;obtain⟨hlt,he⟩:=Array.getElem?_eq_some_iff.1 hi;have:=Array.all_eq_true.1 h i hlt;rw [he] at this
 cases this
theorem U32s.sets{W:World}{A:Option Addr}{n c g:Nat}{t:TypeId}{cs:Array Value}{xs:List Nat}(h:U32s W A n c xs)(hb:Blk W g t cs)(hc:NoWd cs)(i:Nat)(vs:List Value):U32s (sets W g i vs) A n c xs:=
 h.keep (by rw [size_sets];exact Nat.le_refl _) fun ad e hn=>heap_sets (hb.apart hc h ad e hn) vs i W
theorem RatV.sets{W:World}{K:Nat}{neg:Bool}{vn vd:Value}{x:Rat}{g:Nat}{t:TypeId}{cs:Array Value}(h:RatV W K neg vn vd x)(hb:Blk W g t cs)(hc:NoWd cs)(i:Nat)(vs:List Value):RatV (sets W g i vs) K neg vn vd x:=by
 obtain⟨p,q,A,n,c,B,m,d,rfl,rfl,h3,h4,h5⟩:=h
 exact⟨p,q,A,n,c,B,m,d,rfl,rfl,h3.sets hb hc i vs,h4.sets hb hc i vs,h5⟩
theorem Blk.at{W:World}{g:Nat}(h:W.heap.size=g)(t:TypeId)(cs:Array Value):Blk (W.alloc (.cells cs t)) g t cs:=by
 subst h;exact Blk.new W t cs
def HasBlk(W:World)(r:Nat)(t:TypeId)(n:Nat):Prop:=∃ cs,Blk W r t cs/\cs.size=n/\NoWd cs
theorem HasBlk.keep{W W':World}{r:Nat}{t:TypeId}{n:Nat}(h:HasBlk W r t n)(hb:Below W.heap.size W W'):HasBlk W' r t n:=by
 obtain⟨cs,h1,h2,h3⟩:=h
 exact⟨cs,h1.keep hb,h2,h3⟩
theorem HasBlk.of{W:World}{r:Nat}{t:TypeId}{cs:Array Value}{n:Nat}(h:Blk W r t cs)(hs:cs.size=n)(hc:cs.toList.all notWd=true):HasBlk W r t n:=⟨cs,h,hs,NoWd.of (by rw [<- Array.all_toList];exact hc)⟩
theorem Blk.someCell{W:World}{g:Nat}{t:TypeId}{cs:Array Value}(h:Blk W g t cs){j:Nat}(hj:j<cs.size):W.cell? ⟨g,j,none⟩=some (cellOf W ⟨g,j,none⟩):=by
 have h1:=h.cell j;rw [Array.getElem?_eq_getElem hj] at h1
 exact cellOf_some h1
theorem laid_all(vs:List Value)(cs:Array Value)(h:vs.length=cs.size):laid cs 0 vs=vs.toArray:=by
 apply Array.ext_getElem?
 intro j
 rcases Nat.lt_or_ge j vs.length with hj | hj
 ·have:=laid_get vs 0 j cs hj (by omega);rw [Nat.zero_add] at this;rw [this];simp
 ·rw [Array.getElem?_eq_none (by rw [laid_size];omega)]
  simp [hj]
theorem HasBlk.sets{W:World}{r:Nat}{t:TypeId}{n:Nat}(h:HasBlk W r t n)(vs:List Value)(hl:vs.length=n)(hv:vs.all notWd=true):HasBlk (sets W r 0 vs) r t n:=by
 obtain⟨cs,h1,h2,-⟩:=h;have:=h1.sets vs 0 W cs;rw [laid_all vs cs (by omega)] at this
 exact .of this (by simp [hl]) (by simpa using hv)
theorem Blk.other{W:World}{g r:Nat}{t:TypeId}{cs:Array Value}(h:Blk W g t cs)(hg:g≠r)(i:Nat)(vs:List Value):Blk (Proofs.YthlmlmfebpjgdaaGreatDoor.sets W r i vs) g t cs:=(heap_sets hg vs i W).trans h
theorem HasBlk.laid{W:World}{r:Nat}{t:TypeId}{n:Nat}(h:HasBlk W r t n)(vs:List Value)(hl:vs.length=n):Blk (Proofs.YthlmlmfebpjgdaaGreatDoor.sets W r 0 vs) r t vs.toArray:=by
 obtain⟨cs,h1,h2,-⟩:=h;have:=h1.sets vs 0 W cs
 rwa [laid_all vs cs (by omega)] at this
theorem HasBlk.lt{W:World}{r:Nat}{t:TypeId}{n:Nat}(h:HasBlk W r t n):r<W.heap.size:=by
 obtain⟨cs,h1,-⟩:=h
 exact h1.lt
theorem HasBlk.someCell{W:World}{r:Nat}{t:TypeId}{n:Nat}(h:HasBlk W r t n)(j:Nat)(hj:j<n):W.cell? ⟨r,j,none⟩=some (cellOf W ⟨r,j,none⟩):=by
 obtain⟨cs,h1,h2,-⟩:=h
 exact h1.someCell (by omega)
theorem HasBlk.frozen{W:World}{r:Nat}{t:TypeId}{n:Nat}(h:HasBlk W r t n)(j:Nat):W.frozen? ⟨r,j,none⟩=false:=by
 obtain⟨cs,h1,h2,-⟩:=h
 exact h1.frozen j
theorem HasBlk.setCell{W:World}{r:Nat}{t:TypeId}{n:Nat}(h:HasBlk W r t n)(vs:List Value)(hl:vs.length=n)(j:Nat)(hj:j<n):(Proofs.YthlmlmfebpjgdaaGreatDoor.sets W r 0 vs).cell? ⟨r,j,none⟩=vs[j]?:=by
 obtain⟨cs,h1,h2,-⟩:=h
 exact sets_cell h1 vs j (by omega) (by omega)
theorem HasBlk.drew{W:World}{r:Nat}{t:TypeId}{n:Nat}(h:HasBlk W r t n):HasBlk W.drew r t n:=h
theorem Blk.drew{W:World}{g:Nat}{t:TypeId}{cs:Array Value}(h:Blk W g t cs):Blk W.drew g t cs:=h
theorem HasBlk.alloc{W:World}{r:Nat}{t:TypeId}{n:Nat}(h:HasBlk W r t n)(o:Obj):HasBlk (W.alloc o) r t n:=by
 obtain⟨cs,h1,h2⟩:=h
 exact⟨cs,h1.alloc o,h2⟩
theorem HasBlk.other{W:World}{g r:Nat}{t:TypeId}{n:Nat}(h:HasBlk W g t n)(hg:g≠r)(i:Nat)(vs:List Value):HasBlk (Proofs.YthlmlmfebpjgdaaGreatDoor.sets W r i vs) g t n:=by
 obtain⟨cs,h1,h2⟩:=h
 exact⟨cs,h1.other hg i vs,h2⟩
theorem RatV.far{W:World}{K:Nat}{neg:Bool}{vn vd:Value}{x:Rat}{g:Nat}{t:TypeId}{cs:Array Value}(h:RatV W K neg vn vd x)(hb:Blk W g t cs)(hc:cs.toList.all notWd=true)(i:Nat)(v:Value):RatV (W.setCell ⟨g,i,none⟩ v) K neg vn vd x:=
 h.sets hb (NoWd.of (by rw [<- Array.all_toList];exact hc)) i [v]
end
section
open Go.RowKit
section
variable {P:Program} {ops:Array Oper} {Q:Exit->Act->World->Prop} {md:Region.Mode} {S:World->Prop} {fuel:Nat} {listed:Array Bool} {a:Act} {w:World}
theorem tk(i:Nat){oi:Oper}{v:Value}(h:wpAnyH P md ops Q S fuel (listed.setIfInBounds i true) (a.put oi.dst v) w)(hi:ops[i]?=some oi:=by rfl)(hs:Region.noSelect ops=true:=by kernel_rfl)(hf:Region.free md ops listed i=true:=by kernel_rfl)(hr:(Region.ready md ops listed).contains i=true:=by kernel_rfl)
  (hQ:∀ c a w,Q (.panic c) (a.put oi.dst v) w->Q (.panic c) a w:=by exact fun _ _ _ h=>h)(hw:Region.wanted oi (yielded ops a.tmps)=true:=by rfl)(hv:∀ w,S w->(execOp a.eval oi).run P w=.ok (.value v) w:=by intro W2 hSw;go_simp;(try with_reducible rfl))(hS:S w:=by assumption):wpAnyH P md ops Q S (fuel+1) listed a w:=
 wpAnyH_take hi hs hf hr hQ (Or.inl ⟨hw,hv⟩) hS h
theorem tkn(i:Nat){oi:Oper}(h:wpAnyH P md ops Q S fuel (listed.setIfInBounds i true) (a.put oi.dst undef) w)(hi:ops[i]?=some oi:=by rfl)(hs:Region.noSelect ops=true:=by kernel_rfl)(hf:Region.free md ops listed i=true:=by kernel_rfl)(hr:(Region.ready md ops listed).contains i=true:=by kernel_rfl)
  (hQ:∀ c a w,Q (.panic c) (a.put oi.dst undef) w->Q (.panic c) a w:=by exact fun _ _ _ h=>h)(hw:Region.wanted oi (yielded ops a.tmps)=false:=by rfl)(hS:S w:=by assumption):wpAnyH P md ops Q S (fuel+1) listed a w:=
 wpAnyH_take hi hs hf hr hQ (Or.inr ⟨hw,rfl⟩) hS h
theorem rdy(i:Nat){o:Oper}(h:∀ K':Act->World->Prop,Shut (∀ a w,S w->(S w->wpAnyH P md ops Q S fuel (listed.setIfInBounds i true) a w)->K' a w)->if Region.wanted o (yielded ops a.tmps)=true then Oper.wp P o a w K' Q else K' (a.put o.dst undef) w)
  (hr:Region.ready md ops listed=[i]:=by kernel_rfl)(ho:ops[i]?=some o:=by rfl):wpAnyH P md ops Q S (fuel+1) listed a w:=
 wpAnyH_ready hr (by simp) (AllReadyH.cons ho h AllReadyH.nil)
end
theorem lay:(∀ (α:Type) (l:List α) (i:Nat) (h:i<l.toArray.size),l.toArray[i]=l[i]'(by simpa using h))/\(∀ (α:Type) (a:α) (l:List α) (i:Nat) (h:i+1<(a :: l).length),(a :: l)[i+1]=l[i]'(by simpa using h)) /\
  (∀ (α:Type) (a:α) (l:List α) (h:0<(a :: l).length),(a :: l)[0]=a)/\(∀ (α:Type) (l:List α) (i:Nat) (a:α),l.toArray.setIfInBounds i a=(l.set i a).toArray)/\(∀ (α:Type) (a b:α) (l:List α),(a :: l).set 0 b=b :: l)/\(∀ (α:Type) (a b:α) (l:List α) (n:Nat),(a :: l).set (n+1) b=a :: l.set n b):=
 ⟨fun _ _ _ _=>by simp,fun _ _ _ _ _=>rfl,fun _ _ _ _=>rfl,fun _ _ _ _=>by simp,fun _ _ _ _=>rfl,fun _ _ _ _ _=>rfl⟩
section
variable {w0 W W':World} {g:Nat} {t:TypeId} {cs:Array Value} {B n:Nat}
theorem stB(h:Hid (Below B w0 W))(hb:Below W.heap.size W W')(hs:B<=W.heap.size:=by exact Below.size (Hid.out (by assumption))):Hid (Below B w0 W'):=Hd (h.out.trans (hb.mono hs))
theorem stG(h:Hid (Blk W g t cs))(hb:Below W.heap.size W W'):Hid (Blk W' g t cs):=Hd (h.out.keep hb)
theorem stR(h:Hid (HasBlk W g t n))(hb:Below W.heap.size W W'):Hid (HasBlk W' g t n):=Hd (h.out.keep hb)
theorem Blk.ce(h:Blk W g t cs)(i:Nat){v:Value}(hv:cs[i]?=some v):W.cell? ⟨g,i,none⟩=some v:=(h.cell i).trans hv
theorem Blk.c2{v0 v1:Value}(h:Blk W g t #[v0,v1]):W.cell? ⟨g,0,none⟩=some v0/\W.cell? ⟨g,1,none⟩=some v1:=⟨h.cell 0,h.cell 1⟩
theorem Blk.c3{v0 v1 v2:Value}(h:Blk W g t #[v0,v1,v2]):W.cell? ⟨g,0,none⟩=some v0/\W.cell? ⟨g,1,none⟩=some v1/\W.cell? ⟨g,2,none⟩=some v2:=⟨h.cell 0,h.cell 1,h.cell 2⟩
theorem Blk.c4{v0 v1 v2 v3:Value}(h:Blk W g t #[v0,v1,v2,v3]):W.cell? ⟨g,0,none⟩=some v0/\W.cell? ⟨g,1,none⟩=some v1/\W.cell? ⟨g,2,none⟩=some v2/\W.cell? ⟨g,3,none⟩=some v3:=⟨h.cell 0,h.cell 1,h.cell 2,h.cell 3⟩
theorem Blk.c6{v0 v1 v2 v3 v4 v5:Value}(h:Blk W g t #[v0,v1,v2,v3,v4,v5]):W.cell? ⟨g,0,none⟩=some v0/\W.cell? ⟨g,1,none⟩=some v1/\W.cell? ⟨g,2,none⟩=some v2/\W.cell? ⟨g,3,none⟩=some v3/\W.cell? ⟨g,4,none⟩=some v4/\W.cell? ⟨g,5,none⟩=some v5:=⟨h.cell 0,h.cell 1,h.cell 2,h.cell 3,h.cell 4,h.cell 5⟩
theorem HasBlk.sf2(h:HasBlk W g t 2):W.cell? ⟨g,0,none⟩=some (cellOf W ⟨g,0,none⟩)/\W.frozen? ⟨g,0,none⟩=false/\W.cell? ⟨g,1,none⟩=some (cellOf W ⟨g,1,none⟩)/\W.frozen? ⟨g,1,none⟩=false:=⟨h.someCell 0 (by decide),h.frozen 0,h.someCell 1 (by decide),h.frozen 1⟩
theorem HasBlk.sf3(h:HasBlk W g t 3):W.cell? ⟨g,0,none⟩=some (cellOf W ⟨g,0,none⟩)/\W.frozen? ⟨g,0,none⟩=false/\W.cell? ⟨g,1,none⟩=some (cellOf W ⟨g,1,none⟩)/\W.frozen? ⟨g,1,none⟩=false/\W.cell? ⟨g,2,none⟩=some (cellOf W ⟨g,2,none⟩)/\W.frozen? ⟨g,2,none⟩=false:=⟨h.someCell 0 (by decide),h.frozen 0,h.someCell 1 (by decide),h.frozen 1,h.someCell 2 (by decide),h.frozen 2⟩
theorem HasBlk.sf4(h:HasBlk W g t 4):W.cell? ⟨g,0,none⟩=some (cellOf W ⟨g,0,none⟩)/\W.frozen? ⟨g,0,none⟩=false/\W.cell? ⟨g,1,none⟩=some (cellOf W ⟨g,1,none⟩)/\W.frozen? ⟨g,1,none⟩=false/\W.cell? ⟨g,2,none⟩=some (cellOf W ⟨g,2,none⟩)/\W.frozen? ⟨g,2,none⟩=false/\W.cell? ⟨g,3,none⟩=some (cellOf W ⟨g,3,none⟩)/\W.frozen? ⟨g,3,none⟩=false:=⟨h.someCell 0 (by decide),h.frozen 0,h.someCell 1 (by decide),h.frozen 1,h.someCell 2 (by decide),h.frozen 2,h.someCell 3 (by decide),h.frozen 3⟩
theorem HasBlk.sc2(h:HasBlk W g t 2)(v0 v1:Value):(Proofs.YthlmlmfebpjgdaaGreatDoor.sets W g 0 [v0,v1]).cell? ⟨g,0,none⟩=some v0/\(Proofs.YthlmlmfebpjgdaaGreatDoor.sets W g 0 [v0,v1]).cell? ⟨g,1,none⟩=some v1:=⟨h.setCell _ rfl 0 (by decide),h.setCell _ rfl 1 (by decide)⟩
theorem HasBlk.sc3(h:HasBlk W g t 3)(v0 v1 v2:Value):(Proofs.YthlmlmfebpjgdaaGreatDoor.sets W g 0 [v0,v1,v2]).cell? ⟨g,0,none⟩=some v0/\(Proofs.YthlmlmfebpjgdaaGreatDoor.sets W g 0 [v0,v1,v2]).cell? ⟨g,1,none⟩=some v1/\(Proofs.YthlmlmfebpjgdaaGreatDoor.sets W g 0 [v0,v1,v2]).cell? ⟨g,2,none⟩=some v2:=⟨h.setCell _ rfl 0 (by decide),h.setCell _ rfl 1 (by decide),h.setCell _ rfl 2 (by decide)⟩
theorem HasBlk.sc4(h:HasBlk W g t 4)(v0 v1 v2 v3:Value):(Proofs.YthlmlmfebpjgdaaGreatDoor.sets W g 0 [v0,v1,v2,v3]).cell? ⟨g,0,none⟩=some v0/\(Proofs.YthlmlmfebpjgdaaGreatDoor.sets W g 0 [v0,v1,v2,v3]).cell? ⟨g,1,none⟩=some v1/\(Proofs.YthlmlmfebpjgdaaGreatDoor.sets W g 0 [v0,v1,v2,v3]).cell? ⟨g,2,none⟩=some v2/\(Proofs.YthlmlmfebpjgdaaGreatDoor.sets W g 0 [v0,v1,v2,v3]).cell? ⟨g,3,none⟩=some v3:=⟨h.setCell _ rfl 0 (by decide),h.setCell _ rfl 1 (by decide),h.setCell _ rfl 2 (by decide),h.setCell _ rfl 3 (by decide)⟩
end
theorem bx1(w:World)(c0:Array Value)(t0:TypeId):Hid (Below w.heap.size w (w.alloc (.cells c0 t0)))/\Hid (Blk (w.alloc (.cells c0 t0)) w.heap.size t0 c0):=⟨Hd (below_alloc w _),Hd (Blk.at (W:=w) (g:=w.heap.size) (by simp<;>omega) t0 c0)⟩
theorem bx2(w:World)(c0:Array Value)(t0:TypeId)(c1:Array Value)(t1:TypeId):Hid (Below w.heap.size w ((w.alloc (.cells c0 t0)).alloc (.cells c1 t1)))/\Hid (Blk ((w.alloc (.cells c0 t0)).alloc (.cells c1 t1)) w.heap.size t0 c0)/\Hid (Blk ((w.alloc (.cells c0 t0)).alloc (.cells c1 t1)) (w.heap.size+1) t1 c1):=⟨Hd ((below_alloc w _).alloc (by simp<;>omega) _),Hd ((Blk.at (W:=w) (g:=w.heap.size) (by simp<;>omega) t0 c0).alloc _),Hd (Blk.at (W:=(w.alloc (.cells c0 t0))) (g:=(w.heap.size+1)) (by simp<;>omega) t1 c1)⟩
theorem bx3(w:World)(c0:Array Value)(t0:TypeId)(c1:Array Value)(t1:TypeId)(c2:Array Value)(t2:TypeId):Hid (Below w.heap.size w (((w.alloc (.cells c0 t0)).alloc (.cells c1 t1)).alloc (.cells c2 t2)))/\Hid (Blk (((w.alloc (.cells c0 t0)).alloc (.cells c1 t1)).alloc (.cells c2 t2)) w.heap.size t0 c0)/\Hid (Blk (((w.alloc (.cells c0 t0)).alloc (.cells c1 t1)).alloc (.cells c2 t2)) (w.heap.size+1) t1 c1)/\Hid (Blk (((w.alloc (.cells c0 t0)).alloc (.cells c1 t1)).alloc (.cells c2 t2)) (w.heap.size+2) t2 c2):=⟨Hd (((below_alloc w _).alloc (by simp<;>omega) _).alloc (by simp<;>omega) _),Hd (((Blk.at (W:=w) (g:=w.heap.size) (by simp<;>omega) t0 c0).alloc _).alloc _),Hd ((Blk.at (W:=(w.alloc (.cells c0 t0))) (g:=(w.heap.size+1)) (by simp<;>omega) t1 c1).alloc _),Hd (Blk.at (W:=((w.alloc (.cells c0 t0)).alloc (.cells c1 t1))) (g:=(w.heap.size+2)) (by simp<;>omega) t2 c2)⟩
theorem bx4(w:World)(c0:Array Value)(t0:TypeId)(c1:Array Value)(t1:TypeId)(c2:Array Value)(t2:TypeId)(c3:Array Value)(t3:TypeId):Hid (Below w.heap.size w ((((w.alloc (.cells c0 t0)).alloc (.cells c1 t1)).alloc (.cells c2 t2)).alloc (.cells c3 t3)))/\Hid (Blk ((((w.alloc (.cells c0 t0)).alloc (.cells c1 t1)).alloc (.cells c2 t2)).alloc (.cells c3 t3)) w.heap.size t0 c0)/\Hid (Blk ((((w.alloc (.cells c0 t0)).alloc (.cells c1 t1)).alloc (.cells c2 t2)).alloc (.cells c3 t3)) (w.heap.size+1) t1 c1)/\Hid (Blk ((((w.alloc (.cells c0 t0)).alloc (.cells c1 t1)).alloc (.cells c2 t2)).alloc (.cells c3 t3)) (w.heap.size+2) t2 c2)/\Hid (Blk ((((w.alloc (.cells c0 t0)).alloc (.cells c1 t1)).alloc (.cells c2 t2)).alloc (.cells c3 t3)) (w.heap.size+3) t3 c3):=⟨Hd ((((below_alloc w _).alloc (by simp<;>omega) _).alloc (by simp<;>omega) _).alloc (by simp<;>omega) _),Hd ((((Blk.at (W:=w) (g:=w.heap.size) (by simp<;>omega) t0 c0).alloc _).alloc _).alloc _),Hd (((Blk.at (W:=(w.alloc (.cells c0 t0))) (g:=(w.heap.size+1)) (by simp<;>omega) t1 c1).alloc _).alloc _),Hd ((Blk.at (W:=((w.alloc (.cells c0 t0)).alloc (.cells c1 t1))) (g:=(w.heap.size+2)) (by simp<;>omega) t2 c2).alloc _),Hd (Blk.at (W:=(((w.alloc (.cells c0 t0)).alloc (.cells c1 t1)).alloc (.cells c2 t2))) (g:=(w.heap.size+3)) (by simp<;>omega) t3 c3)⟩
theorem bx5(w:World)(c0:Array Value)(t0:TypeId)(c1:Array Value)(t1:TypeId)(c2:Array Value)(t2:TypeId)(c3:Array Value)(t3:TypeId)(c4:Array Value)(t4:TypeId):Hid (Below w.heap.size w (((((w.alloc (.cells c0 t0)).alloc (.cells c1 t1)).alloc (.cells c2 t2)).alloc (.cells c3 t3)).alloc (.cells c4 t4)))/\Hid (Blk (((((w.alloc (.cells c0 t0)).alloc (.cells c1 t1)).alloc (.cells c2 t2)).alloc (.cells c3 t3)).alloc (.cells c4 t4)) w.heap.size t0 c0)/\Hid (Blk (((((w.alloc (.cells c0 t0)).alloc (.cells c1 t1)).alloc (.cells c2 t2)).alloc (.cells c3 t3)).alloc (.cells c4 t4)) (w.heap.size+1) t1 c1)/\Hid (Blk (((((w.alloc (.cells c0 t0)).alloc (.cells c1 t1)).alloc (.cells c2 t2)).alloc (.cells c3 t3)).alloc (.cells c4 t4)) (w.heap.size+2) t2 c2)/\Hid (Blk (((((w.alloc (.cells c0 t0)).alloc (.cells c1 t1)).alloc (.cells c2 t2)).alloc (.cells c3 t3)).alloc (.cells c4 t4)) (w.heap.size+3) t3 c3)/\Hid (Blk (((((w.alloc (.cells c0 t0)).alloc (.cells c1 t1)).alloc (.cells c2 t2)).alloc (.cells c3 t3)).alloc (.cells c4 t4)) (w.heap.size+4) t4 c4):=⟨Hd (((((below_alloc w _).alloc (by simp<;>omega) _).alloc (by simp<;>omega) _).alloc (by simp<;>omega) _).alloc (by simp<;>omega) _),Hd (((((Blk.at (W:=w) (g:=w.heap.size) (by simp<;>omega) t0 c0).alloc _).alloc _).alloc _).alloc _),Hd ((((Blk.at (W:=(w.alloc (.cells c0 t0))) (g:=(w.heap.size+1)) (by simp<;>omega) t1 c1).alloc _).alloc _).alloc _),Hd (((Blk.at (W:=((w.alloc (.cells c0 t0)).alloc (.cells c1 t1))) (g:=(w.heap.size+2)) (by simp<;>omega) t2 c2).alloc _).alloc _),Hd ((Blk.at (W:=(((w.alloc (.cells c0 t0)).alloc (.cells c1 t1)).alloc (.cells c2 t2))) (g:=(w.heap.size+3)) (by simp<;>omega) t3 c3).alloc _),Hd (Blk.at (W:=((((w.alloc (.cells c0 t0)).alloc (.cells c1 t1)).alloc (.cells c2 t2)).alloc (.cells c3 t3))) (g:=(w.heap.size+4)) (by simp<;>omega) t4 c4)⟩
section
variable {P:Program} {ops:Array Oper} {Q:Exit->Act->World->Prop} {md:Region.Mode} {S:World->Prop} {fuel:Nat} {listed:Array Bool} {a:Act} {w:World}
theorem tks(i:Nat){oi:Oper}{v:Value}{R:Prop}(h:R)(hi:ops[i]?=some oi:=by rfl)(hs:Region.noSelect ops=true:=by kernel_rfl)(hf:Region.free md ops listed i=true:=by kernel_rfl)(hr:(Region.ready md ops listed).contains i=true:=by kernel_rfl)
  (hQ:∀ c a w,Q (.panic c) (a.put oi.dst v) w->Q (.panic c) a w:=by exact fun _ _ _ h=>h)(hw:Region.wanted oi (yielded ops a.tmps)=true:=by rfl)(hv:∀ w,S w->(execOp a.eval oi).run P w=.ok (.value v) w:=by intro W2 hSw;go_simp;(try with_reducible rfl))(hS:S w:=by assumption)
  (e:R->wpAnyH P md ops Q S fuel (listed.setIfInBounds i true) (a.put oi.dst v) w:=by intro hR;(try simp only [Act.put,lay]);exact hR):wpAnyH P md ops Q S (fuel+1) listed a w:=
 wpAnyH_take hi hs hf hr hQ (Or.inl ⟨hw,hv⟩) hS (e h)
theorem tkb(i:Nat){oi:Oper}{v:Value}{R:Prop}{B:World->Prop}(b:∀ W,S W->B W)(h:R)(hi:ops[i]?=some oi:=by rfl)(hs:Region.noSelect ops=true:=by kernel_rfl)(hf:Region.free md ops listed i=true:=by kernel_rfl)(hr:(Region.ready md ops listed).contains i=true:=by kernel_rfl)
  (hQ:∀ c a w,Q (.panic c) (a.put oi.dst v) w->Q (.panic c) a w:=by exact fun _ _ _ h=>h)(hw:Region.wanted oi (yielded ops a.tmps)=true:=by rfl)(hv:(∀ W,S W->B W)->∀ w,S w->(execOp a.eval oi).run P w=.ok (.value v) w:=by intro hb W2 hSw;have hq:=hb W2 hSw;clear hb;go_simp;(try with_reducible rfl))(hS:S w:=by assumption)
  (e:R->wpAnyH P md ops Q S fuel (listed.setIfInBounds i true) (a.put oi.dst v) w:=by intro hR;(try simp only [Act.put,lay]);exact hR):wpAnyH P md ops Q S (fuel+1) listed a w:=
 wpAnyH_take hi hs hf hr hQ (Or.inl ⟨hw,hv b⟩) hS (e h)
theorem tkns(i:Nat){oi:Oper}{R:Prop}(h:R)(hi:ops[i]?=some oi:=by rfl)(hs:Region.noSelect ops=true:=by kernel_rfl)(hf:Region.free md ops listed i=true:=by kernel_rfl)(hr:(Region.ready md ops listed).contains i=true:=by kernel_rfl)
  (hQ:∀ c a w,Q (.panic c) (a.put oi.dst undef) w->Q (.panic c) a w:=by exact fun _ _ _ h=>h)(hw:Region.wanted oi (yielded ops a.tmps)=false:=by rfl)(hS:S w:=by assumption)
  (e:R->wpAnyH P md ops Q S fuel (listed.setIfInBounds i true) (a.put oi.dst undef) w:=by intro hR;(try simp only [Act.put,lay]);exact hR):wpAnyH P md ops Q S (fuel+1) listed a w:=
 wpAnyH_take hi hs hf hr hQ (Or.inr ⟨hw,rfl⟩) hS (e h)
end
theorem cx{P:Program}{f:FuncId}{a:Array Value}{v:Value}{W:World}{T:Ending->World->Prop}(h:Calls P f a W fun e w'=>e=.returned v/\Below W.heap.size W w')(k:∀ w',Below W.heap.size W w'->T (.returned v) w'):Calls P f a W T:=
 h.mono fun _ w' ⟨he,hb⟩=>he ▸ k w' hb
end
section
open Ieee
def mag(r:Nat):Nat:=if r<2^52 then r else (2^52+r % 2^52)*2^(r / 2^52 - 1)
theorem mag_small{r:Nat}(h:r<2^52):mag r=r:=by unfold mag;rw [if_pos h]
theorem mag_form(k q:Nat)(h:k=0\/2^52<=q)(hq:q<=2^53):mag (k*2^52+q)=q*2^k:=by
 unfold mag
 rcases Nat.lt_or_ge q (2^52) with h1 | h1
 ·rcases h with rfl | h
  ·rw [if_pos (by omega),Nat.zero_mul,Nat.zero_add,Nat.pow_zero,Nat.mul_one]
  ·omega
 ·rw [if_neg (by omega)]
  rcases Nat.lt_or_ge q (2^53) with h2 | h2
  ·have e1:(k*2^52+q) % 2^52=q - 2^52:=by omega
   have e2:(k*2^52+q) / 2^52 - 1=k:=by omega
   rw [e1,e2,Nat.add_sub_of_le h1]
  ·obtain rfl:q=2^53:=by omega
   have e1:(k*2^52+2^53) % 2^52=0:=by omega
   have e2:(k*2^52+2^53) / 2^52 - 1=k+1:=by omega
   rw [e1,e2,Nat.add_zero,<- Nat.pow_add,<- Nat.pow_add,Nat.add_comm 52,Nat.add_comm 53,Nat.add_assoc k 1 52]
theorem rung_form(r:Nat):∃ k q,r=k*2^52+q/\(k=0\/2^52<=q)/\q<2^53:=by
 rcases Nat.lt_or_ge r (2^52) with h | h
 ·exact⟨0,r,by omega,.inl rfl,by omega⟩
 ·refine⟨r / 2^52 - 1,2^52+r % 2^52,by omega,.inr (by omega),by omega⟩
theorem mag_succ(r:Nat):mag r<mag (r+1):=by
 obtain⟨k,q,rfl,h,hq⟩:=rung_form r;rw [mag_form k q h (by omega),Nat.add_assoc,mag_form k (q+1) (by omega) (by omega)]
 exact Nat.mul_lt_mul_of_pos_right (by omega) (Nat.two_pow_pos _)
theorem mag_lt{r s:Nat}(h:r<s):mag r<mag s:=by
 induction s with
 | zero=>omega
 | succ s ih=>
  rcases Nat.lt_or_ge r s with h1 | h1
  ·exact Nat.lt_trans (ih h1) (mag_succ s)
  ·obtain rfl:r=s:=by omega
   exact mag_succ r
theorem mag_lt_iff{r s:Nat}:mag r<mag s↔r<s:=by
 constructor
 ·intro h
  rcases Nat.lt_or_ge r s with h1 | h1
  ·exact h1
  ·rcases Nat.lt_or_ge s r with h2 | h2
   ·have:=mag_lt h2;omega
   ·obtain rfl:r=s:=by omega
    omega
 ·exact mag_lt
theorem mag_le_iff{r s:Nat}:mag r<=mag s↔r<=s:=by
 have:=@mag_lt_iff s r
 omega
theorem mag_inj{r s:Nat}(h:mag r=mag s):r=s:=by
 have h1:=@mag_le_iff r s;have h2:=@mag_le_iff s r
 omega
theorem mag_zero:mag 0=0:=rfl
theorem mag_pos{r:Nat}(h:0<r):0<mag r:=by have:=mag_lt h;rw [mag_zero] at this;exact this
theorem mag_eq_zero{r:Nat}:mag r=0↔r=0:=by
 constructor
 ·intro h;exact mag_inj (h.trans mag_zero.symm)
 ·rintro rfl;rfl
def over(n:Nat):Nat:=n.log2 - 52
def floorRung(n:Nat):Nat:=over n*2^52+n / 2^over n
theorem over_spec(n:Nat):(over n=0\/2^52<=n / 2^over n)/\n / 2^over n<2^53:=by
 unfold over
 by_cases h0:n=0
 ·subst h0;simp
 have h1:=Nat.log2_self_le h0;have h2:n<2^(n.log2+1):=Nat.lt_log2_self
 constructor
 ·by_cases h:n.log2<=52
  ·left;omega
  ·right
   rw [Nat.le_div_iff_mul_le (Nat.two_pow_pos _),<- Nat.pow_add]
   exact Nat.le_trans (Nat.pow_le_pow_right (by omega) (by omega)) h1
 ·rw [Nat.div_lt_iff_lt_mul (Nat.two_pow_pos _),<- Nat.pow_add]
  exact Nat.lt_of_lt_of_le h2 (Nat.pow_le_pow_right (by omega) (by omega))
theorem mag_floorRung(n:Nat):mag (floorRung n)=n / 2^over n*2^over n:=by
 unfold floorRung;have h:=over_spec n
 exact mag_form _ _ h.1 (by omega)
theorem mag_floorRung_le(n:Nat):mag (floorRung n)<=n:=by
 rw [mag_floorRung];exact Nat.div_mul_le_self _ _
theorem lt_mag_floorRung_succ(n:Nat):n<mag (floorRung n+1):=by
 unfold floorRung;have h:=over_spec n;rw [Nat.add_assoc,mag_form _ _ (by omega) (by omega)];have h1:=Nat.lt_div_mul_add (a:=n) (Nat.two_pow_pos (over n));rw [Nat.add_mul]
 omega
theorem le_floorRung{r n:Nat}:r<=floorRung n↔mag r<=n:=by
 constructor
 ·intro h;exact Nat.le_trans (mag_le_iff.2 h) (mag_floorRung_le n)
 ·intro h;have:=Nat.lt_of_le_of_lt h (lt_mag_floorRung_succ n);have:=mag_lt_iff.1 this
  omega
def bump(n k:Nat):Bool:=decide (2^k<2*(n % 2^k)) || (2^k == 2*(n % 2^k) && n / 2^k % 2 == 1)
def nearRung(n d:Nat):Nat:=floorRung (n / 2^d)+(bump n (d+over (n / 2^d))).toNat
theorem bump_rest{n k:Nat}(h:bump n k=true):n / 2^k*2^k<n:=by
 have h0:0<n % 2^k:=by
  unfold bump at h;have:=Nat.two_pow_pos k
  simp at h
  omega
 have h1:=Nat.div_add_mod n (2^k);rw [Nat.mul_comm] at h1
 omega
theorem div_div_pow(n d k:Nat):n / 2^d / 2^k=n / 2^(d+k):=by
 rw [Nat.div_div_eq_div_mul,Nat.pow_add]
theorem le_nearRung{r n d:Nat}(h:mag r*2^d<=n):r<=nearRung n d:=by
 have:mag r<=n / 2^d:=(Nat.le_div_iff_mul_le (Nat.two_pow_pos _)).2 h;have:=le_floorRung.2 this;unfold nearRung;omega
theorem nearRung_le{r n d:Nat}(h:n<=mag r*2^d):nearRung n d<=r:=by
 unfold nearRung
 cases hb:bump n (d+over (n / 2^d))
 ·simp
  refine mag_le_iff.1 (Nat.le_trans (mag_floorRung_le _) ?_)
  exact Nat.le_trans (Nat.div_le_div_right h) (by rw [Nat.mul_div_cancel _ (Nat.two_pow_pos _)];exact Nat.le_refl _)
 ·have h1:=bump_rest hb;rw [<- div_div_pow,Nat.add_comm d,Nat.pow_add,<- Nat.mul_assoc,<- mag_floorRung] at h1;have h2:=Nat.lt_of_mul_lt_mul_right (Nat.lt_of_lt_of_le h1 h);have:=mag_lt_iff.1 h2
  simp;omega
theorem nearRung_mag(r d:Nat):nearRung (mag r*2^d) d=r:=
 Nat.le_antisymm (nearRung_le (Nat.le_refl _)) (le_nearRung (Nat.le_refl _))
end
section
open Ieee
def M:Nat:=2047*2^52
theorem infRung_eq:double.infRung=M:=by decide
theorem leastPlace_eq:double.leastPlace=-1074:=by decide
theorem binade_eq:double.binade=2^52:=by decide
theorem signWeight_eq:double.signWeight=2^63:=by decide
theorem log2_div_pow(n d:Nat):(n / 2^d).log2=n.log2 - d:=by
 by_cases h:n / 2^d=0
 ·rw [h]
  have h1:n<2^d:=by
   rcases Nat.div_eq_zero_iff.1 h with h | h
   ·have:=Nat.two_pow_pos d;omega
   ·exact h
  by_cases h0:n=0
  ·subst h0;simp
  ·have:=(Nat.log2_lt h0).2 h1
   simp;omega
 ·have hn:n≠0:=by rintro rfl;simp at h
  have h1:=Nat.log2_self_le hn;have h2:n<2^(n.log2+1):=Nat.lt_log2_self
  have hd:d<=n.log2:=by
   rcases Nat.lt_or_ge n.log2 d with h3 | h3
   ·exact absurd (Nat.div_eq_of_lt (Nat.lt_of_lt_of_le h2 (Nat.pow_le_pow_right (by omega) (by omega)))) h
   ·exact h3
  rw [Nat.log2_eq_iff h]
  constructor
  ·rw [Nat.le_div_iff_mul_le (Nat.two_pow_pos _),<- Nat.pow_add,Nat.sub_add_cancel hd];exact h1
  ·rw [Nat.div_lt_iff_lt_mul (Nat.two_pow_pos _),<- Nat.pow_add]
   exact Nat.lt_of_lt_of_le h2 (Nat.pow_le_pow_right (by omega) (by omega))
theorem cut_even(neg:Bool)(n k:Nat):Toward.even.cut neg n k=n / 2^k+(bump n k).toNat:=by
 unfold Toward.cut bump
 simp only [Nat.shiftLeft_eq,Nat.one_mul]
 rcases Nat.lt_or_ge (n.log2+2) k with h | h
 ·rw [Nat.min_eq_right (by omega)];have h2:n<2^(n.log2+1):=Nat.lt_log2_self;have h3:2^(n.log2+2)<=2^k:=Nat.pow_le_pow_right (by omega) (by omega)
  have h4:2^(n.log2+2)=2*2^(n.log2+1):=by rw [Nat.pow_succ];omega
  rw [Nat.div_eq_of_lt (by omega),Nat.div_eq_of_lt (show n<2^k by omega),Nat.mod_eq_of_lt (by omega),Nat.mod_eq_of_lt (show n<2^k by omega)];have a1:decide (2^(n.log2+2)<2*n)=false:=decide_eq_false (by omega);have a2:decide (2^k<2*n)=false:=decide_eq_false (by omega);rw [a1,a2];simp
 ·rw [Nat.min_eq_left h]
theorem bump_zero(k:Nat):bump 0 k=false:=by
 unfold bump;have:=Nat.two_pow_pos k
 simp
theorem nearest_low(neg:Bool)(n d:Nat):double.nearest neg n (-1074 - (d:Int))=double.word neg (min (nearRung n d) M):=by
 unfold Format.nearest
 by_cases h0:n=0
 ·subst h0;rw [if_pos rfl];unfold nearRung;rw [bump_zero,Nat.zero_div]
  rfl
 rw [if_neg h0]
 have ho:over (n / 2^d)=n.log2 - d - 52:=by unfold over;rw [log2_div_pow]
 have hl:max (-1074 - (d:Int)+(n.log2:Int) - (double.fractionBits:Int)) double.leastPlace=-1074+(over (n / 2^d):Int):=by
  rw [ho,leastPlace_eq]
  show max (-1074 - (d:Int)+(n.log2:Int) - 52) (-1074)=_
  omega
 dsimp only
 rw [hl,leastPlace_eq,binade_eq,infRung_eq]
 have e1:(-1074 - (d:Int) - (-1074+(over (n / 2^d):Int))).toNat=0:=by omega
 have e2:(-1074+(over (n / 2^d):Int) - (-1074 - (d:Int))).toNat=d+over (n / 2^d):=by omega
 have e3:(-1074+(over (n / 2^d):Int) - -1074).toNat=over (n / 2^d):=by omega
 rw [e1,e2,e3,Nat.shiftLeft_zero,cut_even];unfold nearRung floorRung;rw [div_div_pow,Nat.add_assoc]
theorem nearest_units(neg:Bool)(n:Nat):double.nearest neg n (-1074)=double.word neg (min (nearRung n 0) M):=by
 have:=nearest_low neg n 0
 simpa using this
theorem nearest_shift(neg:Bool)(n k:Nat)(place:Int):double.nearest neg n (place+(k:Int))=double.nearest neg (n*2^k) place:=by
 by_cases h0:n=0
 ·subst h0;simp [Format.nearest]
 have hk:n*2^k≠0:=Nat.mul_ne_zero h0 (by have:=Nat.two_pow_pos k;omega)
 have hlog:(n*2^k).log2=n.log2+k:=by
  rw [Nat.log2_eq_iff hk];have h1:=Nat.log2_self_le h0;have h2:n<2^(n.log2+1):=Nat.lt_log2_self
  constructor
  ·rw [Nat.pow_add];exact Nat.mul_le_mul_right _ h1
  ·rw [show n.log2+k+1=n.log2+1+k from by omega,Nat.pow_add 2 (n.log2+1)];exact Nat.mul_lt_mul_of_pos_right h2 (Nat.two_pow_pos k)
 unfold Format.nearest;rw [if_neg h0,if_neg hk,hlog]
 dsimp only
 rw [show (place+((n.log2+k:Nat):Int) - (double.fractionBits:Int))=place+(k:Int)+(n.log2:Int) - (double.fractionBits:Int) from by omega];generalize max (place+(k:Int)+(n.log2:Int) - (double.fractionBits:Int)) double.leastPlace=last
 congr 3
 rw [cut_even,cut_even,Nat.shiftLeft_eq,Nat.shiftLeft_eq]
 rcases Int.le_total last place with h | h
 ·-- both are whole
  rw [show (place+(k:Int) - last).toNat=k+(place - last).toNat from by omega,show (last - (place+(k:Int))).toNat=0 from by omega,show (last - place).toNat=0 from by omega,Nat.pow_add,Nat.mul_assoc]
 ·obtain⟨d,hd⟩:∃ d:Nat,last=place+d:=⟨(last - place).toNat,by omega⟩
  subst hd
  rcases Nat.le_total d k with hdk | hdk
  ·obtain⟨a,rfl⟩:∃ a,k=a+d:=⟨k - d,by omega⟩
   rw [show (place+((a+d:Nat):Int) - (place+(d:Int))).toNat=a from by omega,show (place+(d:Int) - (place+((a+d:Nat):Int))).toNat=0 from by omega,show (place - (place+(d:Int))).toNat=0 from by omega,show (place+(d:Int) - place).toNat=d from by omega];rw [Nat.pow_add 2 a d,<- Nat.mul_assoc];generalize n*2^a=m;have:=Nat.two_pow_pos d
   have b1:bump m 0=false:=by unfold bump;simp [Nat.mod_one]
   have b2:bump (m*2^d*2^0) d=false:=by
    unfold bump;rw [Nat.pow_zero,Nat.mul_one,Nat.mul_mod_left]
    simp
   rw [b1,b2]
   simp only [Nat.pow_zero,Nat.div_one,Nat.mul_one]
   rw [Nat.mul_div_cancel _ this]
  ·obtain⟨a,rfl⟩:∃ a,d=k+a:=⟨d - k,by omega⟩
   rw [show (place+(k:Int) - (place+((k+a:Nat):Int))).toNat=0 from by omega,show (place+((k+a:Nat):Int) - (place+(k:Int))).toNat=a from by omega,show (place - (place+((k+a:Nat):Int))).toNat=0 from by omega,show (place+((k+a:Nat):Int) - place).toNat=k+a from by omega];rw [Nat.pow_zero,Nat.mul_one,Nat.mul_one];have hp:=Nat.two_pow_pos k
   have e1:n*2^k / 2^(k+a)=n / 2^a:=by rw [Nat.pow_add,Nat.mul_comm n,Nat.mul_div_mul_left _ _ hp]
   have e2:n*2^k % 2^(k+a)=2^k*(n % 2^a):=by rw [Nat.pow_add,Nat.mul_comm n,Nat.mul_mod_mul_left]
   rw [e1]
   congr 2
   unfold bump;rw [e1,e2,Nat.pow_add];generalize 2^a=x;generalize n % x=y;generalize 2^k=p at hp
   have c1:decide (p*x<2*(p*y))=decide (x<2*y):=by
    rw [show 2*(p*y)=p*(2*y) from by rw [Nat.mul_left_comm]]
    simp [Nat.mul_lt_mul_left hp]
   have c2:(p*x == 2*(p*y))=(x == 2*y):=by
    rw [show 2*(p*y)=p*(2*y) from by rw [Nat.mul_left_comm]];rw [Bool.eq_iff_iff];simp [Nat.mul_right_inj (by omega:p≠0)]
   rw [c1,c2]
theorem nearest_high(neg:Bool)(n k:Nat):double.nearest neg n (-1074+(k:Int))=double.word neg (min (nearRung (n*2^k) 0) M):=by
 rw [nearest_shift,nearest_units]
end
end Go.Proofs.YthlmlmfebpjgdaaGreatDoor
