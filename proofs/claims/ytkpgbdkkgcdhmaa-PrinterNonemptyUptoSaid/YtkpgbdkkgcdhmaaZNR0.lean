/-
An evaluator for the part of the model that is used: definitions.
-/
import Derived.Calls
import Derived.Orders
import Derived.Laws.Sem
import Derived.Laws.World
import Derived.Laws.Entries
import Derived.Laws.Cells
noncomputable section
set_option linter.unusedVariables false
set_option linter.unusedSimpArgs false
namespace Go.R
theorem V.{u}{α:Sort u}{a:α}:a=a:=rfl
theorem M{p:Prop}(h:p:=by first|omega|(dsimp only;omega)|(simp only[List.length_append,List.length_cons,List.length_nil];omega)):p:=h
theorem X{p:Prop}(h:p:=by assumption):p:=h
theorem e_{p:Prop}(h:p:=by decide):p:=h
abbrev a00:= @List.length_append
abbrev a01:= @List.length_cons
abbrev a02:= @List.length_nil
abbrev a03:= @Option.some.injEq
abbrev a04:= @Prod.mk.injEq
abbrev a05:= @Bool.and_eq_true
abbrev a06:= @List.sublist_append_left
abbrev a07:= @Nat.eq_of_beq_eq_true
abbrev a08:= @Nat.le_refl
abbrev a09:= @List.getElem?_eq_getElem
abbrev a0a:= @Nat.le_trans
abbrev a0b:= @List.getD_eq_getElem?_getD
abbrev a0c:= @List.append_assoc
abbrev a0d:= @Nat.le_of_ble_eq_true
abbrev a0e:= @List.nil_append
abbrev a0f:= @List.append_nil
abbrev a0g:= @List.length_take
abbrev a0h:= @List.eq_nil_of_length_eq_zero
abbrev a0i:= @List.mem_append
abbrev a0j:= @List.all_cons
abbrev a0k:= @Bool.false_eq_true
abbrev a0l:= @List.not_mem_nil
abbrev a0m:= @List.mem_cons_of_mem
abbrev a0n:= @List.getElem?_eq_some_iff
abbrev a0o:= @Option.bind_some
abbrev a0p:= @Nat.zero_le
abbrev a0q:= @List.mem_of_getElem?
abbrev a0r:= @List.mem_cons
abbrev a0s:= @Nat.lt_or_ge
abbrev a0t:= @List.take_of_length_le
abbrev a0u:= @List.length_drop
abbrev a0v:= @Nat.ble_eq_true_of_le
abbrev a0w:= @List.mem_map
abbrev a0x:= @List.cons_append
abbrev a0y:= @List.all_eq_true
abbrev a0z:= @Array.getElem?_eq_some_iff
abbrev a0A:= @Nat.mul_le_mul_right
abbrev a0B:= @Bool.and_true
abbrev a0C:= @List.getElem?_take
abbrev a0D:= @Array.getElem?_eq_getElem
abbrev a0E:= @List.getElem?_drop
abbrev a0F:= @List.length_set
abbrev a0G:= @Nat.zero_add
abbrev a0H:= @List.getElem?_eq_none
abbrev a0I:= @List.mem_cons_self
abbrev a0J:= @List.map_append
abbrev a0K:= @List.mem_flatten
abbrev a0L:= @List.ext_getElem?
abbrev a0M:= @Array.getD_eq_getD_getElem?
abbrev a0N:= @List.mem_singleton
abbrev a0O:= @List.getElem?_append_right
abbrev a0P:= @Nat.add_assoc
abbrev a0Q:= @Int.eq_ofNat_of_zero_le
abbrev a0R:= @List.flatten_append
abbrev a0S:= @List.length_pos_iff
abbrev a0T:= @List.take_length
abbrev a0U:= @List.length_map
abbrev a0V:= @List.getElem?_append_left
abbrev a0W:= @List.drop_eq_getElem_cons
abbrev a0X:= @Bool.not_eq_true'
abbrev a0Y:= @List.flatten_cons
abbrev a0Z:= @Nat.beq_refl
abbrev a10:= @Nat.lt_of_lt_of_le
abbrev a11:= @Bool.or_eq_true
abbrev a12:= @Array.toList_inj
abbrev a17:= @List.drop_zero
abbrev a18:= @Bool.eq_iff_iff
abbrev a19:= @Nat.add_mul
abbrev a1a:= @List.take_append_drop
abbrev a1b:= @Array.getElem?_setIfInBounds
abbrev a1c:= @List.perm_append_comm_assoc
abbrev a1d:= @Nat.lt_succ_self
abbrev a1e:= @Array.size_eq_zero_iff
abbrev a1f:= @List.drop_eq_nil_of_le
abbrev a1g:= @List.take_add_one
abbrev a1h:= @Bool.false_or
abbrev a1i:= @List.length_singleton
abbrev a1j:= @Nat.eq_zero_or_pos
abbrev a1k:= @Nat.le_max_right
abbrev a1l:= @Bool.or_eq_false_iff
abbrev a1m:= @List.getElem?_cons_succ
abbrev a1n:= @Nat.sub_zero
abbrev a1o:= @List.all_nil
abbrev a1p:= @Option.getD_some
abbrev a1q:= @Nat.succ_le_succ
abbrev a1r:= @Bool.and_self
abbrev a1s:= @Nat.succ_mul
abbrev a1t:= @Bool.not_not
abbrev a1u:= @Array.getElem?_setIfInBounds_ne
abbrev a1v:= @List.getElem?_map
abbrev a1w:= @List.nodup_append
abbrev a1x:= @List.map_cons
abbrev a1y:= @Bool.not_true
abbrev a1z:= @Array.ext_getElem?
abbrev a1A:= @Option.map_some
abbrev a1B:= @List.flatMap_cons
abbrev a1C:= @List.getElem?_append
abbrev a1D:= @Bool.not_false
abbrev a1E:= @List.getElem_mem
abbrev a1F:= @Array.length_toList
abbrev a1G:= @List.foldl_cons
abbrev a1H:= @List.all_append
abbrev a1I:= @Bool.true_and
abbrev a1J:= @Nat.le_max_left
abbrev a1K:= @List.set_cons_succ
abbrev a1L:= @Option.map_none
abbrev a1M:= @Option.map_eq_some_iff
abbrev a1N:= @List.drop_of_length_le
abbrev a1O:= @Array.getElem?_toList
abbrev a1P:= @Bool.true_or
abbrev a1Q:= @Array.toList_map
abbrev a1R:= @Nat.min_eq_right
abbrev a1S:= @List.mem_append_left
abbrev a1T:= @Array.map_congr_left
abbrev a1U:= @List.takeWhile_cons
abbrev a1V:= @Bool.not_or
abbrev a1W:= @Nat.sub_self
abbrev a1X:= @Nat.add_zero
abbrev a1Y:= @Nat.le_of_lt
abbrev a1Z:= @List.drop_take
abbrev a20:= @List.mem_range
abbrev a21:= @List.drop_drop
inductive Tr(α:Type) where
 |nil
 |node (l:Tr α) (v:Option α) (r:Tr α)
def Tr.get{α:Type}(t:Tr α):Nat->Option α:=
 Tr.rec (motive:=fun _=>Nat->Option α) (fun _=>none)
  (fun _ v _ A E n=>Nat.rec (motive:=fun _=>Option α) v
   (fun m _=>Bool.rec (motive:=fun _=>Option α) (E (Nat.div m 2)) (A (Nat.div m 2)) (Nat.beq (Nat.mod m 2) 0)) n) t
def Tr.setF{α:Type}(f:Nat):Tr α->Nat->α->Tr α:=
 Nat.rec (motive:=fun _=>Tr α->Nat->α->Tr α) (fun t _ _=>t)
  (fun _ ih t n v=>Nat.rec (motive:=fun _=>Tr α)
   (Tr.rec (motive:=fun _=>Tr α) (.node .nil (some v) .nil) (fun l _ r _ _=> .node l (some v) r) t)
   (fun m _=>Tr.rec (motive:=fun _=>Tr α)
    (Bool.rec (motive:=fun _=>Tr α) (.node .nil none (ih .nil (Nat.div m 2) v)) (.node (ih .nil (Nat.div m 2) v) none .nil) (Nat.beq (Nat.mod m 2) 0))
    (fun l o r _ _=>Bool.rec (motive:=fun _=>Tr α) (.node l o (ih r (Nat.div m 2) v)) (.node (ih l (Nat.div m 2) v) o r) (Nat.beq (Nat.mod m 2) 0)) t) n) f
def Tr.set{α:Type}(t:Tr α)(n:Nat)(v:α):Tr α:=Tr.setF (Nat.succ n) t n v
theorem Tr.get_even{α:Type}(l r:Tr α)(v:Option α)(m:Nat)(h:Nat.beq (m%2) 0=true):(Tr.node l v r).get (m+1)=l.get (m/2):=by show Bool.rec (motive:=fun _=>Option α) (r.get (m/2)) (l.get (m/2)) (Nat.beq (m%2) 0)=_;rw[h]
theorem Tr.get_odd{α:Type}(l r:Tr α)(v:Option α)(m:Nat)(h:Nat.beq (m%2) 0=false):(Tr.node l v r).get (m+1)=r.get (m/2):=by show Bool.rec (motive:=fun _=>Option α) (r.get (m/2)) (l.get (m/2)) (Nat.beq (m%2) 0)=_;rw[h]
theorem Tr.set_nil_zero{α:Type}(f:Nat)(x:α):Tr.setF (f+1) .nil 0 x= .node .nil (some x) .nil:=rfl
theorem Tr.set_node_zero{α:Type}(f:Nat)(l r:Tr α)(v:Option α)(x:α):Tr.setF (f+1) (.node l v r) 0 x= .node l (some x) r:=rfl
theorem Tr.set_nil_even{α:Type}(f m:Nat)(x:α)(h:Nat.beq (m%2) 0=true):Tr.setF (f+1) .nil (m+1) x= .node (Tr.setF f .nil (m/2) x) none .nil:=by show Bool.rec (motive:=fun _=>Tr α) (.node .nil none (Tr.setF f .nil (m/2) x)) (.node (Tr.setF f .nil (m/2) x) none .nil) (Nat.beq (m%2) 0)=_;rw[h]
theorem Tr.set_nil_odd{α:Type}(f m:Nat)(x:α)(h:Nat.beq (m%2) 0=false):Tr.setF (f+1) .nil (m+1) x= .node .nil none (Tr.setF f .nil (m/2) x):=by show Bool.rec (motive:=fun _=>Tr α) (.node .nil none (Tr.setF f .nil (m/2) x)) (.node (Tr.setF f .nil (m/2) x) none .nil) (Nat.beq (m%2) 0)=_;rw[h]
theorem Tr.set_node_even{α:Type}(f m:Nat)(l r:Tr α)(v:Option α)(x:α)(h:Nat.beq (m%2) 0=true):Tr.setF (f+1) (.node l v r) (m+1) x= .node (Tr.setF f l (m/2) x) v r:=by show Bool.rec (motive:=fun _=>Tr α) (.node l v (Tr.setF f r (m/2) x)) (.node (Tr.setF f l (m/2) x) v r) (Nat.beq (m%2) 0)=_;rw[h]
theorem Tr.set_node_odd{α:Type}(f m:Nat)(l r:Tr α)(v:Option α)(x:α)(h:Nat.beq (m%2) 0=false):Tr.setF (f+1) (.node l v r) (m+1) x= .node l v (Tr.setF f r (m/2) x):=by show Bool.rec (motive:=fun _=>Tr α) (.node l v (Tr.setF f r (m/2) x)) (.node (Tr.setF f l (m/2) x) v r) (Nat.beq (m%2) 0)=_;rw[h]
theorem Tr.get_setF_same{α:Type}(v:α): ∀(f:Nat) (t:Tr α) (n:Nat),n<f->(Tr.setF f t n v).get n=some v:=by
 intro f;induction f with
 |zero=>intro t n h;omega
 |succ f ih=>
  intro t n h
  cases n with
  |zero=>cases t<;>rfl
  |succ m=>
   have E:m/2<f:=M
   cases A:Nat.beq (m%2) 0<;>cases t
   ·rw[Tr.set_nil_odd f m v A,Tr.get_odd _ _ _ m A,ih _ _ E]
   ·rw[Tr.set_node_odd f m _ _ _ v A,Tr.get_odd _ _ _ m A,ih _ _ E]
   ·rw[Tr.set_nil_even f m v A,Tr.get_even _ _ _ m A,ih _ _ E]
   rw[Tr.set_node_even f m _ _ _ v A,Tr.get_even _ _ _ m A,ih _ _ E]
theorem Tr.get_setF_ne{α:Type}(v:α): ∀(f:Nat) (t:Tr α) (n k:Nat),n≠k->(Tr.setF f t n v).get k=t.get k:=by
 intro f;induction f with
 |zero=>intro t n k _;rfl
 |succ f ih=>
  intro t n k h
  have O: ∀m:Nat,(Nat.beq (m%2) 0=true/\m%2=0)\/(Nat.beq (m%2) 0=false/\m%2=1):=by
   intro m;rcases Nat.mod_two_eq_zero_or_one m with e|e
   ·exact .inl ⟨by rw[e];rfl,e⟩
   exact .inr ⟨by rw[e];rfl,e⟩
  cases n with
  |zero=>
   cases k with
   |zero=>exact absurd V h
   |succ j=>
    rcases O j with⟨A,_⟩|⟨A,_⟩<;>cases t
    ·rw[Tr.set_nil_zero,Tr.get_even _ _ _ j A];rfl
    ·rw[Tr.set_node_zero,Tr.get_even _ _ _ j A,Tr.get_even _ _ _ j A]
    ·rw[Tr.set_nil_zero,Tr.get_odd _ _ _ j A];rfl
    rw[Tr.set_node_zero,Tr.get_odd _ _ _ j A,Tr.get_odd _ _ _ j A]
  |succ m=>
   cases k with
   |zero=>
    rcases O m with⟨A,_⟩|⟨A,_⟩<;>cases t
    ·rw[Tr.set_nil_even f m v A];rfl
    ·rw[Tr.set_node_even f m _ _ _ v A];rfl
    ·rw[Tr.set_nil_odd f m v A];rfl
    rw[Tr.set_node_odd f m _ _ _ v A];rfl
   |succ j=>
    rcases O m with⟨A,U⟩|⟨A,U⟩<;>rcases O j with⟨hc,Z⟩|⟨hc,Z⟩
    ·have E:m/2≠j/2:=M
     cases t
     ·rw[Tr.set_nil_even f m v A,Tr.get_even _ _ _ j hc,ih _ _ _ E];rfl
     rw[Tr.set_node_even f m _ _ _ v A,Tr.get_even _ _ _ j hc,Tr.get_even _ _ _ j hc,ih _ _ _ E]
    ·cases t
     ·rw[Tr.set_nil_even f m v A,Tr.get_odd _ _ _ j hc];rfl
     rw[Tr.set_node_even f m _ _ _ v A,Tr.get_odd _ _ _ j hc,Tr.get_odd _ _ _ j hc]
    ·cases t
     ·rw[Tr.set_nil_odd f m v A,Tr.get_even _ _ _ j hc];rfl
     rw[Tr.set_node_odd f m _ _ _ v A,Tr.get_even _ _ _ j hc,Tr.get_even _ _ _ j hc]
    have E:m/2≠j/2:=M
    cases t
    ·rw[Tr.set_nil_odd f m v A,Tr.get_odd _ _ _ j hc,ih _ _ _ E];rfl
    rw[Tr.set_node_odd f m _ _ _ v A,Tr.get_odd _ _ _ j hc,Tr.get_odd _ _ _ j hc,ih _ _ _ E]
@[simp] theorem Tr.get_set_same{α:Type}(t:Tr α)(n:Nat)(v:α):(t.set n v).get n=some v:=Tr.get_setF_same v _ _ _ M
theorem Tr.get_set_ne{α:Type}(t:Tr α){n k:Nat}(v:α)(h:n≠k):(t.set n v).get k=t.get k:=Tr.get_setF_ne v _ _ _ _ h
def nth{α:Type}(l:List α):Nat->Option α:=
 List.rec (motive:=fun _=>Nat->Option α) (fun _=>none) (fun v _ ih n=>Nat.rec (motive:=fun _=>Option α) (some v) (fun m _=>ih m) n) l
def dT{α:Type}(l:List α):Nat->List α:=
 List.rec (motive:=fun _=>Nat->List α) (fun _=> []) (fun v t ih n=>Nat.rec (motive:=fun _=>List α) (v::t) (fun m _=>ih m) n) l
def dH{α:Type}(l:List α):Nat->List α:=
 List.rec (motive:=fun _=>Nat->List α) (fun _=> []) (fun v _ ih n=>Nat.rec (motive:=fun _=>List α) [] (fun m _=>v::ih m) n) l
def eC{α:Type}(l:List α):Nat:=List.rec (motive:=fun _=>Nat) 0 (fun _ _ ih=>Nat.succ ih) l
def jJ{α:Type}(l m:List α):List α:=List.rec (motive:=fun _=>List α) m (fun v _ ih=>v::ih) l
def kP{α:Type}(p:α->Bool)(l:List α):Bool:=List.rec (motive:=fun _=>Bool) true (fun v _ ih=>Bool.rec (motive:=fun _=>Bool) false ih (p v)) l
def dJ{α β:Type}(f:α->β)(l:List α):List β:=List.rec (motive:=fun _=>List β) [] (fun v _ ih=>f v::ih) l
theorem fN{α:Type}: ∀(l:List α) (n:Nat),nth l n=l[n]?
 | [],_=>rfl
 |_::_,0=>rfl
 |_::l,n+1=>by rw[a1m,←fN l n];rfl
theorem bJ{α:Type}: ∀(l:List α) (n:Nat),dT l n=l.drop n
 | [],n=>by simp;rfl
 |_::_,0=>rfl
 |_::l,n+1=>by rw[List.drop_succ_cons,←bJ l n];rfl
theorem bB{α:Type}: ∀(l:List α) (n:Nat),dH l n=l.take n
 | [],n=>by simp;rfl
 |_::_,0=>rfl
 |_::l,n+1=>by rw[List.take_succ_cons,←bB l n];rfl
theorem bc{α:Type}: ∀(l:List α),eC l=l.length
 | []=>rfl
 |_::l=>by rw[a01,←bc l];rfl
theorem dX{α:Type}(m:List α): ∀(l:List α),jJ l m=l++m
 | []=>rfl
 |_::l=>by rw[a0x,←dX m l];rfl
theorem mO{α:Type}(p:α->Bool): ∀(l:List α),kP p l=l.all p
 | []=>rfl
 |v::l=>by rw[a0j,←mO p l];show Bool.rec (motive:=fun _=>Bool) false (kP p l) (p v)=_;cases p v<;>rfl
theorem gV{α β:Type}(f:α->β): ∀(l:List α),dJ f l=l.map f
 | []=>rfl
 |v::l=>by rw[a1x,←gV f l];rfl
inductive AObj where
 |cells (cs:List Value) (opn:Option Nat) (ro:Bool)
 |iter (s:ByteArray) (pos:Nat)
 |tab (es:List (Value×Value))
 |dead
def AObj.rw:AObj->Bool
 | .cells _ _ ro=> !ro
 | .dead=>false
 |_=>true
def AObj.live:AObj->Bool
 | .dead=>false
 |_=>true
structure Heap where
 tr:Tr AObj
 next:Nat
 log:List Nat
def Heap.get(h:Heap)(b:Nat):Option AObj:=h.tr.get b
def Heap.put(h:Heap)(b:Nat)(o:AObj):Heap:={tr:=h.tr.set b o,next:=h.next,log:=b::h.log}
def Heap.push(h:Heap)(o:AObj):Heap:={tr:=h.tr.set h.next o,next:=h.next+1,log:=h.log}
def Heap.empty:Heap:={tr:= .nil,next:=0,log:=[]}
@[simp] theorem Heap.get_put_same(h:Heap)(b:Nat)(o:AObj):(h.put b o).get b=some o:=by simp[Heap.get,Heap.put]
theorem Heap.get_put_ne(h:Heap){b k:Nat}(o:AObj)(A:b≠k):(h.put b o).get k=h.get k:=by simp[Heap.get,Heap.put,Tr.get_set_ne _ _ A]
@[simp] theorem Heap.get_push_same(h:Heap)(o:AObj):(h.push o).get h.next=some o:=by simp[Heap.get,Heap.push]
theorem Heap.get_push_ne(h:Heap){k:Nat}(o:AObj)(A:h.next≠k):(h.push o).get k=h.get k:=by simp[Heap.get,Heap.push,Tr.get_set_ne _ _ A]
@[simp] theorem Heap.next_put(h:Heap)(b:Nat)(o:AObj):(h.put b o).next=h.next:=rfl
@[simp] theorem Heap.next_push(h:Heap)(o:AObj):(h.push o).next=h.next+1:=rfl
@[simp] theorem Heap.log_push(h:Heap)(o:AObj):(h.push o).log=h.log:=rfl
@[simp] theorem Heap.log_put(h:Heap)(b:Nat)(o:AObj):(h.put b o).log=b::h.log:=rfl
def dr:Value->Bool
 | .bool _| .int _ _| .float _ _| .complex _ _ _| .string _=>true
 | .pointer none| .map none| .chan none| .nilFunc| .nilIface=>true
 | .slice none n k=>Nat.beq n 0&&Nat.beq k 0
 | .func _ f c=>Nat.beq f.size 0&&Nat.beq c.size 0
 |_=>false
def iP:Value->Bool
 | .agg cs=>cs.toList.all dr
 |v=>dr v
def noA2:Value->Bool
 | .tuple vs=>vs.toList.all iP
 |v=>iP v
def aC{α:Type}(P:Program):Sem α->Option α
 | .pure a=>some a
 | .program k=>aC P (k P)
 | .mark _ k=>aC P k
 |_=>none
def cH(t:Tr Value)(n:Nat):Value:=
 match t.get n with
 |some v=>v
 |none=>undef
def lset(t:Tr Value)(n:Nat)(v:Value):Tr Value:=t.set n v
def fc:Nat->List Value->Tr Value->Tr Value
 |_,[],t=>t
 |i,v::l,t=>fc (i+1) l (lset t i v)
def over:List Value->List Value->List Value
 |_::cs,v::vs=>v::over cs vs
 |cs,_=>cs
def aX:List Value->Nat->List Value->List Value
 |cs,0,vs=>over cs vs
 | [],_+1,_=> []
 |c::cs,n+1,vs=>c::aX cs n vs
def cy:Nat->List Value->List Value
 |0,_=> []
 |n+1,l=>l++cy n l
def cQ(P:Program)(t:TypeId):Option Nat:=
 match P.info? t with
 |some i=>some i.size
 |none=>none
def fa(P:Program)(t:TypeId):Option Nat:=
 match P.info? t with
 |some i=>some i.bytes
 |none=>none
def cu(P:Program)(t:TypeId):Option (List Value):=
 match P.info? t with
 |some i=>
  match i.zero with
  |some z=>bif z.cells.toList.all dr then some z.cells.toList else none
  |none=>none
 |none=>none
def aggOf(P:Program)(t:TypeId):Option Bool:=
 match P.underlying t with
 |some (.struct _)|some (.array _ _)=>some true
 |some _=>some false
 |none=>none
def Heap.cellAt(h:Heap)(a:Addr):Option Value:=
 match a with
 |⟨b,o,none⟩=>
  match h.get b with
  |some (.cells cs _ _)=>nth cs o
  |_=>none
 |_=>none
def Heap.loadN(h:Heap)(a:Addr)(n:Nat):Option (List Value):=
 match a with
 |⟨b,o,none⟩=>
  match h.get b with
  |some (.cells cs _ _)=>
   let l:=dH (dT cs o) n
   bif Nat.beq (eC l) n then some l else none
  |_=>none
 |_=>none
def Heap.loadV(P:Program)(h:Heap)(t:TypeId)(a:Addr):Option Value:=
 match aggOf P t with
 |some true=>
  match cQ P t with
  |some n=>
   match h.loadN a n with
   |some l=>some (.agg ⟨l⟩)
   |none=>none
  |none=>none
 |some false=>h.cellAt a
 |none=>none
def Heap.storeL(h:Heap)(a:Addr)(vs:List Value):Option Heap:=
 match a with
 |⟨b,o,none⟩=>
  match h.get b with
  |some (.cells cs opn false)=>
   bif Nat.ble (Nat.add o (eC vs)) (eC cs)&&kP Value.oneCell' vs then some (h.put b (.cells (aX cs o vs) opn false)) else none
  |_=>none
 |_=>none
inductive AN where
 |val (v:Value)
 |skip
 |enter (f:FuncId) (args:List Value)
def aL(h:Heap)(cs:List Value)(A:Option Nat):Heap:=h.push (.cells cs A false)
def ptrTo(b:Nat):Value:= .pointer (some ⟨b,0,none⟩)
def lift(P:Program)(s:Sem Value)(h:Heap):Option (AN×Heap):=
 match aC P s with
 |some v=>some (.val v,h)
 |none=>none
def liftS(P:Program)(s:Sem Value)(h:Heap):Option (AN×Heap):=
 match aC P s with
 |some v=>bif noA2 v then some (.val v,h) else none
 |none=>none
def bG(P:Program)(ρ:Operand->Value)(o:Oper)(h:Heap):Option (AN×Heap):=
 bif o.op.operands.toList.all fun x=>iP (ρ x) then
  match aC P (execOp ρ o) with
  |some (.value v)=>bif noA2 v then some (.val v,h) else none
  |_=>none
 else none
def ovl(r:Option Value)(h:Heap):Option (AN×Heap):=
 match r with
 |some v=>some (.val v,h)
 |none=>none
def ovh(r:Option (Value×Heap)):Option (AN×Heap):=
 match r with
 |some (v,h)=>some (.val v,h)
 |none=>none
def osk(r:Option Heap):Option (AN×Heap):=
 match r with
 |some h=>some (.skip,h)
 |none=>none
def dE(a b:ByteArray):Bool:=a.data.toList==b.data.toList
def strOp(op:BinOp)(a b:ByteArray):Option Value:=
 match op with
 | .eql=>some (.bool (dE a b))
 | .neq=>some (.bool (!dE a b))
 | .lss=>some (.bool (Op.bytesLess a.data.toList b.data.toList))
 | .leq=>some (.bool (Op.bytesLess a.data.toList b.data.toList||dE a b))
 | .gtr=>some (.bool (!(Op.bytesLess a.data.toList b.data.toList||dE a b)))
 | .geq=>some (.bool (!Op.bytesLess a.data.toList b.data.toList))
 | .add=>
  let l:=jJ a.data.toList b.data.toList
  bif Nat.ble (eC l) 1099511627776 then some (.string ⟨⟨l⟩⟩) else none
 |_=>none
def isNilV:Value->Option Bool
 | .pointer none=>some true
 | .pointer (some _)=>some false
 | .slice none _ _=>some true
 | .slice (some _) _ _=>some false
 | .map none=>some true
 | .map (some _)=>some false
 | .nilFunc=>some true
 | .func _ _ _=>some false
 |_=>none
def nilEq(P:Program)(t:TypeId)(x y:Value):Option Bool:=
 match P.underlying t,x,y with
 |some (.pointer _),.pointer none,.pointer b=>some b.isNone
 |some (.pointer _),.pointer a,.pointer none=>some a.isNone
 |some (.slice _),.slice none _ _,.slice b _ _=>some b.isNone
 |some (.slice _),.slice a _ _,.slice none _ _=>some a.isNone
 |some (.map _ _),.map none,.map b=>some b.isNone
 |some (.map _ _),.map a,.map none=>some a.isNone
 |some (.func _ _ _),.nilFunc,.nilFunc=>some true
 |some (.func _ _ _),.nilFunc,.func _ _ _=>some false
 |some (.func _ _ _),.func _ _ _,.nilFunc=>some false
 |_,_,_=>none
def dq(op:BinOp)(k:IntKind)(x y:Int):Int:=bits op k x y
def lp(op:BinOp)(k:IntKind)(a b:Int):Option Value:=
 match op with
 | .add=>some (.int k (k.wrap (a+b)))
 | .sub=>some (.int k (k.wrap (a-b)))
 | .mul=>some (.int k (k.wrap (a *b)))
 | .quo=>bif b==0 then none else some (.int k (k.wrap (a.tdiv b)))
 | .rem=>bif b==0 then none else some (.int k (a.tmod b))
 | .and=>some (.int k (dq .and k a b))
 | .or=>some (.int k (dq .or k a b))
 | .xor=>some (.int k (dq .xor k a b))
 | .andNot=>some (.int k (dq .andNot k a b))
 | .eql=>some (.bool (a==b))
 | .neq=>some (.bool (a !=b))
 | .lss=>some (.bool (decide (a<b)))
 | .leq=>some (.bool (decide (a<=b)))
 | .gtr=>some (.bool (decide (b<a)))
 | .geq=>some (.bool (decide (b<=a)))
 | .shl=>none
 | .shr=>none
def shiftN(k:IntKind)(y:Int):Option Nat:=
 match y with
 | .ofNat n=>some (Nat.min n k.bits)
 |_=>none
def shBin(op:BinOp)(k:IntKind)(a b:Int):Option Value:=
 match op with
 | .shl=>
  match shiftN k b with
  |some n=>some (.int k (k.wrap (a *2^n)))
  |none=>none
 | .shr=>
  match shiftN k b with
  |some n=>some (.int k (a.fdiv (2^n)))
  |none=>none
 |_=>none
def gc(k A:IntKind):Bool:=decide (k=A)
def kh:BinOp->Bool
 | .shl| .shr=>true
 |_=>false
def binInt(op:BinOp)(k:IntKind)(a:Int)(y:Value)(h:Heap):Option (AN×Heap):=
 match y with
 | .int k' b=>ovl (bif kh op then shBin op k a b else bif gc k k' then lp op k a b else none) h
 |_=>none
def binStr(op:BinOp)(a:ByteArray)(y:Value)(h:Heap):Option (AN×Heap):=
 match y with
 | .string b=>ovl (strOp op a b) h
 |_=>none
def nilBin(op:BinOp)(r:Option Bool)(h:Heap):Option (AN×Heap):=
 match r with
 |some b=>
  match op with
  | .eql=>some (.val (.bool b),h)
  | .neq=>some (.val (.bool (!b)),h)
  |_=>none
 |none=>none
def mK(P:Program)(ρ:Operand->Value)(o:Oper)(op:BinOp)(t:TypeId)(x y:Value)(h:Heap):Option (AN×Heap):=
 match x with
 | .agg _=>bG P ρ o h
 | .bool _=>bG P ρ o h
 |x=>nilBin op (nilEq P t x y) h
def aBin(P:Program)(ρ:Operand->Value)(o:Oper)(op:BinOp)(t:TypeId)(x:Value)(y:Operand)(h:Heap):Option (AN×Heap):=
 match x with
 | .int k a=>binInt op k a (ρ y) h
 | .string a=>binStr op a (ρ y) h
 |x=>mK P ρ o op t x (ρ y) h
def aUn(P:Program)(ρ:Operand->Value)(o:Oper)(op:UnOp)(x:Value)(h:Heap):Option (AN×Heap):=
 match x with
 | .bool b=>
  match op with
  | .not=>some (.val (.bool (!b)),h)
  |_=>none
 |_=>bG P ρ o h
def asNat:Value->Option Nat
 | .int _ (.ofNat n)=>some n
 |_=>none
def bX(d:Nat)(o:Option Value):Option Nat:=
 match o with
 |some v=>asNat v
 |none=>some d
def bnds(n k:Nat)(lo hi:Option Value):Option (Nat×Nat):=
 match bX n hi with
 |some h=>
  match bX 0 lo with
  |some l=>bif Nat.ble l h&&Nat.ble h k then some (l,h) else none
  |none=>none
 |none=>none
def bo(P:Program)(t:TypeId)(x:Value)(lo hi A:Option Value)(h:Heap):Option Value:=
 match A with
 |some _=>none
 |none=>
  match P.underlying t,x with
  |some .string,.string s=>
   match bnds (eC s.data.toList) (eC s.data.toList) lo hi with
   |some (l,r)=>some (.string ⟨⟨dH (dT s.data.toList l) (r-l)⟩⟩)
   |none=>none
  |some (.slice e),.slice none 0 0=>
   match bnds 0 0 lo hi with
   |some _=>bif (cQ P e).isSome then some (.slice none 0 0) else none
   |none=>none
  |some (.slice e),.slice (some ⟨b,o,none⟩) n k=>
   match bnds n k lo hi,cQ P e,h.get b with
   |some (l,r),some sz,some (.cells _ opn _)=>
    match opn with
    |none=>some (.slice (some (bif Nat.beq k l then⟨b,o,none⟩ else⟨b,o+l *sz,none⟩)) (r-l) (k-l))
    |some ez=>bif Nat.beq ez sz then some (.slice (some ⟨b,o+l *sz,none⟩) (r-l) (k-l)) else none
   |_,_,_=>none
  |some (.array n e),.pointer (some ⟨b,o,none⟩)=>
   match bnds n n lo hi,cQ P e,h.get b with
   |some (l,r),some sz,some (.cells _ none _)=>some (.slice (some (bif Nat.beq n l then⟨b,o,none⟩ else⟨b,o+l *sz,none⟩)) (r-l) (n-l))
   |_,_,_=>none
  |_,_=>none
def gf(h:Heap)(sz n:Nat):Value->Option (List Value)
 | .slice (some a) _ _=>bif Nat.beq n 0 then some [] else h.loadN a (n *sz)
 | .slice none _ _=>bif Nat.beq n 0 then some [] else none
 | .string s=>bif Nat.beq sz 1 then some (dJ (fun b=> .int .u8 b.toNat) (dH s.data.toList n)) else none
 |_=>none
def lenA:Value->Option Nat
 | .slice _ n _=>some n
 | .string s=>some (eC s.data.toList)
 |_=>none
def fK(P:Program)(types:Array TypeId)(s x:Value)(h:Heap):Option (Value×Heap):=
 match types[0]?,types[1]? with
 |some st,some xt=>
  match P.underlying st,P.underlying xt with
  |some (.slice e),some xd=>
   match xd with
   | .int _=>none
   |_=>
    match cQ P e,fa P e,cu P e,lenA x with
    |some sz,some by_,some z,some m=>
     match gf h sz m x with
     |none=>none
     |some new=>
      match s with
      | .slice none 0 0=>
       bif Nat.beq m 0 then some (s,h)
       else bif Nat.beq (eC z) sz&&Nat.ble m 2147483648&&Nat.ble by_ 4096&& !Nat.beq sz 0 then
        some (.slice (some ⟨h.next,0,none⟩) m m,aL h new (some sz))
       else none
      | .slice (some ⟨b,o,none⟩) n k=>
       match h.get b with
       |some (.cells cs opn ro)=>
        bif Nat.ble (n+m) k then
         bif Nat.beq m 0 then some (.slice (some ⟨b,o,none⟩) n k,h)
         else
          match h.storeL ⟨b,o+n *sz,none⟩ new with
          |some h'=>some (.slice (some ⟨b,o,none⟩) (n+m) k,h')
          |none=>none
        else bif Nat.beq (eC z) sz&&Nat.ble (n+m) 2147483648&&Nat.ble by_ 4096&& !Nat.beq sz 0&&Nat.ble n k then
         match gf h sz n (.slice (some ⟨b,o,none⟩) n k) with
         |none=>none
         |some old=>
          match opn with
          |none=>some (.slice (some ⟨h.next,0,none⟩) (n+m) (n+m),aL h (jJ old new) (some sz))
          |some ez=>
           bif Nat.beq ez sz&& !ro&&kP Value.oneCell' new then some (.slice (some ⟨h.next,0,none⟩) (n+m) (n+m),aL (h.put b .dead) (jJ old new) (some sz)) else none
        else none
       |_=>none
      |_=>none
    |_,_,_,_=>none
  |_,_=>none
 |_,_=>none
def aCopy(P:Program)(types:Array TypeId)(d s:Value)(h:Heap):Option (Value×Heap):=
 match types[0]? with
 |some dt=>
  match P.underlying dt,d,lenA s with
  |some (.slice e),.slice base dn _,some m=>
   match cQ P e with
   |some sz=>
    let n:=Nat.min m dn
    bif Nat.beq n 0 then some (goInt 0,h)
    else
     match gf h sz n s,base with
     |some l,some a=>
      match h.storeL a l with
      |some h'=>some (goInt n,h')
      |none=>none
     |_,_=>none
   |none=>none
  |_,_,_=>none
 |none=>none
def aMake(P:Program)(t:TypeId)(l c:Value)(h:Heap):Option (Value×Heap):=
 match P.underlying t with
 |some (.slice e)=>
  match cQ P e,fa P e,cu P e,asNat l,asNat c with
  |some sz,some by_,some z,some n,some k=>
   bif Nat.ble n k&&Nat.ble k 2147483648&&Nat.ble by_ 4096&&Nat.beq (eC z) sz&& !Nat.beq sz 0 then
    some (.slice (some ⟨h.next,0,none⟩) n k,aL h (cy k z) none)
   else none
  |_,_,_,_,_=>none
 |_=>none
def bH:TypeDesc->Value->Bool
 | .int k,.int k' _=>k==k'
 | .string,.string _=>true
 | .bool,.bool _=>true
 |_,_=>false
def cU:Value->Value->Bool
 | .int _ a,.int _ b=>a==b
 | .string a,.string b=>dE a b
 | .bool a,.bool b=>a==b
 |_,_=>false
def dR(d:TypeDesc)(k:Value):List (Value×Value)->Option Value
 | []=>none
 |(k',v)::es=>bif cU k k' then some v else dR d k es
def cO(k v:Value):List (Value×Value)->List (Value×Value)
 | []=> [(k,v)]
 |(k',v')::es=>bif cU k k' then(k,v)::es else(k',v')::cO k v es
def cY(P:Program)(t:TypeId)(m k:Value)(ok:Bool)(h:Heap):Option Value:=
 match P.underlying t with
 |some (.map kt et)=>
  match P.underlying kt,P.info? et with
  |some d,some i=>
   match i.zero with
   |some z=>
    bif bH d k&&iP z then
     match m with
     | .map none=>some (bif ok then .tuple #[z,.bool false] else z)
     | .map (some r)=>
      match h.get r with
      |some (.tab es)=>
       bif es.all fun e=>bH d e.1 then
        match dR d k es with
        |some v=>some (bif ok then .tuple #[v,.bool true] else v)
        |none=>some (bif ok then .tuple #[z,.bool false] else z)
       else none
      |_=>none
     |_=>none
    else none
   |none=>none
  |_,_=>none
 |_=>none
def eo(P:Program)(t:TypeId)(m k v:Value)(h:Heap):Option Heap:=
 match P.underlying t with
 |some (.map kt _)=>
  match P.underlying kt,m with
  |some d,.map (some r)=>
   match h.get r with
   |some (.tab es)=>
    bif bH d k&&es.all fun e=>bH d e.1 then some (h.put r (.tab (cO k v es))) else none
   |_=>none
  |_,_=>none
 |_=>none
def isSome1{α:Type}:Option α->Bool
 |some _=>true
 |none=>false
def fJ(P:Program)(f:Value)(args:List Value):Option AN:=
 match f with
 | .func (.func i) first captured=>
  match P.funcs[i]? with
  |some fn=>bif fn.body.isSome&& !(fn.name== "runtime.NumGoroutine") then some (.enter i (jJ first.toList (jJ args captured.toList))) else none
  |none=>none
 |_=>none
def bQ:List Value->Option (List UInt8)
 | []=>some []
 | .int .u8 n::l=>
  match bQ l with
  |some r=>some (UInt8.ofNat n.toNat::r)
  |none=>none
 |_=>none
def cz(P:Program)(s d:TypeId)(a:Option Addr)(n:Nat)(h:Heap):Option Value:=
 match P.underlying s,P.underlying d with
 |some (.slice e),some .string=>
  match P.underlying e with
  |some (.int .u8)=>
   match a with
   |none=>some (.string .empty)
   |some a=>
    bif Nat.beq n 0 then some (.string .empty)
    else
     match h.loadN a n with
     |some l=>
      match bQ l with
      |some r=>some (.string ⟨⟨r⟩⟩)
      |none=>none
     |none=>none
  |_=>none
 |_,_=>none
def mE(P:Program)(s d:TypeId)(n:Int):Option Value:=
 match P.underlying s,P.underlying d with
 |some _,some (.int k)=>some (.int k (k.wrap n))
 |_,_=>none
def eX(P:Program)(ρ:Operand->Value)(o:Oper)(s d:TypeId)(x:Value)(h:Heap):Option (AN×Heap):=
 match x with
 | .int _ n=>ovl (mE P s d n) h
 | .slice a n _=>ovl (cz P s d a n h) h
 |_=>bG P ρ o h
def aNext(h:Heap)(A:Value):Option (Value×Heap):=
 match A with
 | .pointer (some ⟨r,0,none⟩)=>
  match h.get r with
  |some (.iter s pos)=>
   bif Nat.ble (pos+1) s.size then
    let(c,width):=Utf8.decode s pos
    some (.tuple #[.bool true,goInt pos,.int .i32 c],h.put r (.iter s (pos+width)))
   else some (.tuple #[.bool false],h)
  |_=>none
 |_=>none
def jj(P:Program)(s:TypeId)(x:Value)(f:Nat):Option Value:=
 match P.underlying s,x with
 |some (.struct fs),.pointer (some ⟨b,o,none⟩)=>
  match fs[f]? with
  |some f=>
   match cQ P f.type with
   |some n=>bif Nat.beq n 0 then none else some (.pointer (some ⟨b,o+f.offset,none⟩))
   |none=>none
  |none=>none
 |_,_=>none
def cr(P:Program)(t:TypeId)(x i:Value):Option Value:=
 match P.underlying t,x,asNat i with
 |some (.slice e),.slice (some ⟨b,o,none⟩) n k,some j=>
  match cQ P e with
  |some sz=>bif Nat.ble (j+1) n&&Nat.ble n k then some (.pointer (some ⟨b,o+j *sz,none⟩)) else none
  |none=>none
 |some (.array n e),.pointer (some ⟨b,o,none⟩),some j=>
  match cQ P e with
  |some sz=>bif Nat.ble (j+1) n then some (.pointer (some ⟨b,o+j *sz,none⟩)) else none
  |none=>none
 |_,_,_=>none
def strAt(P:Program)(t:TypeId)(s:ByteArray)(i:Value):Option Value:=
 match P.underlying t,asNat i with
 |some .string,some j=>
  match nth s.data.toList j with
  |some b=>some (.int .u8 b.toNat)
  |none=>none
 |_,_=>none
def kD(P:Program)(t:TypeId)(x i:Value)(h:Heap):Option (AN×Heap):=
 match x with
 | .string s=>ovl (strAt P t s i) h
 |x=>lift P (Instr.index t x i) h
def partL(g:Bool)(n off:Nat)(cs:List Value):Option Value:=
 bif g then some (.agg ⟨dH (dT cs off) n⟩) else nth cs off
def fieldAt?(P:Program)(t:TypeId)(f:Nat):Option (Bool×Nat×Nat):=
 match P.underlying t with
 |some (.struct fs)=>
  match fs[f]? with
  |some fd=>
   match aggOf P fd.type,cQ P fd.type with
   |some g,some n=>some (g,n,fd.offset)
   |_,_=>none
  |none=>none
 |_=>none
def hR(P:Program)(t:TypeId)(x:Value)(f:Nat):Option Value:=
 match x with
 | .agg cs=>
  match fieldAt? P t f with
  |some (g,n,off)=>partL g n off cs.toList
  |none=>none
 |_=>none
def gE(x:Value)(i:Nat):Option Value:=
 match x with
 | .tuple vs=>nth vs.toList i
 |_=>none
def aRange(P:Program)(t:TypeId)(x:Value)(h:Heap):Option (Value×Heap):=
 match P.underlying t,x with
 |some .string,.string s=>some (ptrTo h.next,h.push (.iter s 0))
 |_,_=>none
def aLen(P:Program)(t:TypeId)(x:Value)(h:Heap):Option Value:=
 match P.underlying t,x with
 |some (.slice _),.slice _ n _=>some (goInt n)
 |some .string,.string s=>some (goInt (eC s.data.toList))
 |some (.map _ _),.map none=>some (goInt 0)
 |some (.map _ _),.map (some r)=>
  match h.get r with
  |some (.tab es)=>some (goInt es.length)
  |_=>none
 |_,_=>none
def bLen(P:Program)(types:Array TypeId)(args:List Value)(h:Heap):Option (AN×Heap):=
 match types.toList,args with
 | [t],[x]=>ovl (aLen P t x h) h
 |_,_=>none
def bAppend(P:Program)(types:Array TypeId)(args:List Value)(h:Heap):Option (AN×Heap):=
 match types.toList,args with
 | [_,_],[s,x]=>ovh (fK P types s x h)
 |_,_=>none
def bCopy(P:Program)(types:Array TypeId)(args:List Value)(h:Heap):Option (AN×Heap):=
 match args with
 | [d,s]=>ovh (aCopy P types d s h)
 |_=>none
def mR(P:Program)(ρ:Operand->Value)(o:Oper)(b:Builtin)(types:Array TypeId)(args:List Value)(h:Heap):Option (AN×Heap):=
 match b with
 | .len=>bLen P types args h
 | .append=>bAppend P types args h
 | .copy=>bCopy P types args h
 | .min=>bG P ρ o h
 | .max=>bG P ρ o h
 |_=>none
def fY(ρ:Operand->Value)(c a b:Operand)(h:Heap):Option (AN×Heap):=
 match ρ c with
 | .bool t=>some (.val (bif t then ρ a else ρ b),h)
 |_=>none
def eG(P:Program)(e:TypeId)(h:Heap):Option (AN×Heap):=
 match cu P e with
 |some z=>some (.val (ptrTo h.next),aL h z none)
 |none=>none
def gU(P:Program)(t:TypeId)(A:Array (Nat×Value))(h:Heap):Option (AN×Heap):=
 match cu P t with
 |some _=>lift P (Instr.build t A) h
 |none=>none
def dw(P:Program)(t:TypeId):Option (Nat×List Value):=
 match P.underlying t with
 |some (.slice e)=>
  match cQ P e,cu P e with
  |some sz,some z=>bif Nat.beq (eC z) sz then some (sz,z) else none
  |_,_=>none
 |_=>none
def bD(P:Program)(t:TypeId)(n:Nat)(A:List (Nat×Value))(h:Heap):Option (AN×Heap):=
 match dw P t with
 |some (sz,z)=>
  bif Nat.ble (n *sz) 16777216 then
   match Instr.fill (fun i=>some (i *sz,sz)) ⟨cy n z⟩ A with
   |some cells=>some (.val (.slice (some ⟨h.next,0,none⟩) n n),aL h cells.toList none)
   |none=>none
  else none
 |none=>none
def ep(P:Program)(t:TypeId)(a:Value)(h:Heap):Option (AN×Heap):=
 match a with
 | .pointer (some p)=>ovl (h.loadV P t p) h
 |_=>none
def e9(P:Program)(t:TypeId)(a x:Value)(h:Heap):Option (AN×Heap):=
 match a with
 | .pointer (some p)=>
  match cQ P t with
  |some n=>bif Nat.beq x.cells.size n then osk (h.storeL p x.cells.toList) else none
  |none=>none
 |_=>none
def opNil(x:Value)(h:Heap):Option (AN×Heap):=
 match x with
 | .pointer (some a)=>some (.val (.pointer (some a)),h)
 | .func (.func f) a c=>some (.val (.func (.func f) a c),h)
 |_=>none
def fD(r:Option AN)(h:Heap):Option (AN×Heap):=
 match r with
 |some n=>some (n,h)
 |none=>none
def opCall(P:Program)(ρ:Operand->Value)(o:Oper)(c:Call)(h:Heap):Option (AN×Heap):=
 match c.callee with
 | .builtin b=>mR P ρ o b c.argTypes (dJ ρ c.args.toList) h
 | .value f=>fD (fJ P (ρ f) (dJ ρ c.args.toList)) h
 | .invoke _ _=>none
def aop(P:Program)(ρ:Operand->Value)(o:Oper)(h:Heap):Option (AN×Heap):=
 match o.op with
 | .move x=>some (.val (ρ x),h)
 | .assign x=>some (.val (ρ x),h)
 | .pick c a b=>fY ρ c a b h
 | .alloc e=>eG P e h
 | .box _ x=>some (.val (ptrTo h.next),aL h (ρ x).cells.toList none)
 | .build t parts=>gU P t (parts.map fun p=>(p.1,ρ p.2)) h
 | .buildSlice t n parts=>bD P t n (dJ (fun p=>(p.1,ρ p.2)) parts.toList) h
 | .load t a=>ep P t (ρ a) h
 | .store t a x=>e9 P t (ρ a) (ρ x) h
 | .nilCheck x=>opNil (ρ x) h
 | .binOp op t x y _=>aBin P ρ o op t (ρ x) y h
 | .convert s d x=>eX P ρ o s d (ρ x) h
 | .makeFunc fn first captured=>some (.val (.func fn (first.map ρ) (captured.map ρ)),h)
 | .makeMap _ none=>some (.val (.map (some h.next)),h.push (.tab []))
 | .makeSlice t l c=>ovh (aMake P t (ρ l) (ρ c) h)
 | .slice t x lo hi mx=>ovl (bo P t (ρ x) (lo.map ρ) (hi.map ρ) (mx.map ρ) h) h
 | .fieldAddr s x f=>ovl (jj P s (ρ x) f) h
 | .field t x f=>ovl (hR P t (ρ x) f) h
 | .indexAddr t x i=>ovl (cr P t (ρ x) (ρ i)) h
 | .index t x i=>kD P t (ρ x) (ρ i) h
 | .lookup t m k ok=>ovl (cY P t (ρ m) (ρ k) ok h) h
 | .mapUpdate t m k v=>osk (eo P t (ρ m) (ρ k) (ρ v) h)
 | .insert t m k v=>osk (eo P t (ρ m) (ρ k) (ρ v) h)
 | .range t x=>ovh (aRange P t (ρ x) h)
 | .next it true=>ovh (aNext h (ρ it))
 | .extract x i=>ovl (gE (ρ x) i) h
 | .call c=>opCall P ρ o c h
 | .unOp op _ x=>aUn P ρ o op (ρ x) h
 |_=>none
structure St where
 tmps:Tr Value
 size:Nat
 heap:Heap
def cI(l:Tr Value):Operand->Value
 | .tmp t=>cH l t
 | .const v=>v
 | .global g=> .pointer (some ⟨g,0,none⟩)
 | .func f=> .func (.func f) #[] #[]
def bu(G:Nat):Operand->Bool
 | .tmp _=>true
 | .const v=>noA2 v
 | .global g=>Nat.ble (g+1) G
 | .func _=>true
def St.put(s:St)(A:Option Tmp)(v:Value):Option St:=
 match A with
 |some d=>bif Nat.ble (d+1) s.size then some {s with tmps:=lset s.tmps d v} else none
 |none=>some s
abbrev cm:=FuncId->List Value->Heap->Option (Value×Heap)
def kQ(ops:Array Oper)(l:Tr Value)(j:Nat):Option Bool:=
 match (ops[j]?).bind (·.dst) with
 |some d=>
  match cH l d with
  | .bool b=>some b
  |_=>none
 |none=>none
def aU(ops:Array Oper)(o:Oper)(l:Tr Value):Bool:=
 match o.guard with
 |none=>true
 |some (j,want)=>kQ ops l j==some want
def step(P:Program)(G:Nat)(cf:cm)(ops:Array Oper)(o:Oper)(s:St):Option St:=
 bif aU ops o s.tmps then
  bif o.op.operands.toList.all (bu G) then
   match aop P (cI s.tmps) o s.heap with
   |some (.val v,h)=>{s with heap:=h}.put o.dst v
   |some (.skip,h)=>{s with heap:=h}.put o.dst undef
   |some (.enter f args,h)=>
    match cf f args h with
    |some (v,h')=>{s with heap:=h'}.put o.dst v
    |none=>none
   |none=>none
  else none
 else s.put o.dst undef
def fM(P:Program)(G:Nat)(cf:cm)(ops:Array Oper)(l:List Oper):St->Option St:=
 List.rec (motive:=fun _=>St->Option St) (fun s=>some s) (fun o _ ih s=>Option.rec (motive:=fun _=>Option St) none (fun A=>ih A) (step P G cf ops o s)) l
theorem iM(P:Program)(G:Nat)(cf:cm)(ops:Array Oper)(s:St):fM P G cf ops [] s=some s:=rfl
theorem bS(P:Program)(G:Nat)(cf:cm)(ops:Array Oper)(o:Oper)(os:List Oper)(s:St):
  fM P G cf ops (o::os) s=match step P G cf ops o s with|some A=>fM P G cf ops os A|none=>none:=by
 show Option.rec (motive:=fun _=>Option St) none (fun A=>fM P G cf ops os A) (step P G cf ops o s)=_
 cases step P G cf ops o s<;>rfl
def aO:Op->Bool
 | .move _| .assign _| .pick _ _ _| .build _ _| .nilCheck _| .binOp _ _ _ _ _| .unOp _ _ _| .extract _ _| .field _ _ _| .index _ _ _| .fieldAddr _ _ _| .indexAddr _ _ _| .makeFunc _ _ _=>true
 |_=>false
def ancs:List Oper->List Nat->List Nat
 | [],acc=>acc
 |o::os,acc=>ancs os (acc++[o.after.toList.foldl (fun s e=>bif Region.binds .any e then s|||2^e.on|||acc.getD e.on 0 else s) 0])
def bY(ops:Array Oper):List Nat:=ancs ops.toList []
def aV(l:List Nat)(i j:Nat):Bool:=(l.getD j 0).testBit i
def jp(ops:Array Oper):Bool:=
 let l:=bY ops
 (List.range ops.size).all fun j=>
  match ops[j]? with
  |none=>false
  |some o=>
   (o.after.toList.all fun e=> !Region.binds .any e||Nat.ble (e.on+1) j)&&
   (match o.op with| .select _ _=>false|_=>true)&&
   (List.range j).all fun i=>
    match ops[i]? with
    |none=>false
    |some x=>aV l i j||x.apart ops o
inductive Inf where
 |v
 |a (b:Nat)
 |l (b:Nat)
 |x (w:List Nat)
def dM:Op->Bool
 | .alloc _| .box _ _| .buildSlice _ _ _| .makeMap _ none=>true
 |_=>false
def memB(b:Nat):List Nat->Bool
 | []=>false
 |c::l=>Nat.beq b c||memB b l
def dI(n:Nat):List Nat->List Nat
 | []=> []
 |c::l=>bif Nat.ble n c then dI n l else c::dI n l
def isNilL{α:Type}:List α->Bool
 | []=>true
 |_=>false
def dj:Inf->Inf->Bool
 | .v,_=>true
 |_,.v=>true
 | .a b,.x w=> !memB b w
 | .a _,_=>true
 |_,.a _=>true
 | .l _,.l _=>true
 | .l b,.x w=> !memB b w
 | .x w,.l b=> !memB b w
 | .x w,.x u=>isNilL w&&isNilL u
def en(ops:Array Oper)(o:Oper)(s:St)(n:Nat)(log:List Nat):Inf:=
 bif !aU ops o s.tmps||aO o.op then .v
 else bif dM o.op then .a n
 else
  match o.op with
  | .load _ a=>
   match cI s.tmps a with
   | .pointer (some p)=> .l p.block
   |_=> .x (dI n log)
  | .slice _ x _ _ _=>
   match cI s.tmps x with
   | .slice (some p) _ _=> .l p.block
   | .slice none _ _=> .v
   |_=> .x (dI n log)
  | .call ⟨.builtin .len,xs,_⟩=>
   match dJ (cI s.tmps) xs.toList with
   | [.slice _ _ _]=> .v
   | [.string _]=> .v
   |_=> .x (dI n log)
  |_=> .x (dI n log)
def gM(P:Program)(G:Nat)(cf:cm)(ops:Array Oper)(o:Oper)(s:St):Option (St×Inf):=
 match step P G cf ops o {s with heap:={s.heap with log:=[]}} with
 |some t=>some ({t with heap:={t.heap with log:=dI s.heap.next t.heap.log++s.heap.log}},en ops o s s.heap.next t.heap.log)
 |none=>none
def gY:Op->Bool
 | .store _ _ _=>true
 |_=>false
def stAt(ops:Array Oper)(j:Nat):Bool:=match ops[j]? with
 |some o=>gY o.op
 |none=>false
def disjL:List Nat->List Nat->Bool
 | [],_=>true
 |b::l,u=> !memB b u&&disjL l u
def disjI:Inf->Inf->Bool
 | .x w,.x u=>disjL w u
 |_,_=>false
def stst(ops:Array Oper)(j i:Nat)(g f:Inf):Bool:=stAt ops j&&(stAt ops i&&disjI g f)
def bZ(ops:Array Oper)(l:List Nat)(i:Nat)(f:Inf):List (Nat×Inf)->Bool
 | []=>true
 |(j,g)::fs=>(aV l j i||(dj g f||stst ops j i g f))&&bZ ops l i f fs
def bh(P:Program)(G:Nat)(cf:cm)(ops:Array Oper):Nat->List (Nat×Inf)->List Oper->St->Option St
 |_,_,[],s=>some s
 |i,fs,o::os,s=>
  match gM P G cf ops o s with
  |some (s',f)=>bif bZ ops (bY ops) i f fs then bh P G cf ops (i+1) ((i,f)::fs) os s' else none
  |none=>none
def bL(P:Program)(G:Nat)(cf:cm)(ops:Array Oper)(A:Bool)(s:St):Option St:=
 bif A then
  bif jp ops&&P.follows .mixedOrders then bh P G cf ops 0 [] ops.toList s else none
 else fM P G cf ops ops.toList s
inductive Ex where
 |normal
 |exit (id:Nat)
 |ret
def ec(r:Option St):Option (Ex×St):=
 match r with
 |some s'=>some (.normal,s')
 |none=>none
def gi(r:Option (Ex×St))(k:St->Option (Ex×St)):Option (Ex×St):=
 match r with
 |some (.normal,s')=>k s'
 |some (.exit i,s')=>some (.exit i,s')
 |some (.ret,s')=>some (.ret,s')
 |none=>none
def lD(v:Value)(t e:Option (Ex×St)):Option (Ex×St):=
 match v with
 | .bool b=>bif b then t else e
 |_=>none
def cW(id:Nat)(r:Option (Ex×St)):Option (Ex×St):=
 match r with
 |some (.exit i,s')=>bif Nat.beq i id then some (.normal,s') else some (.exit i,s')
 |some (.normal,s')=>some (.normal,s')
 |some (.ret,s')=>some (.ret,s')
 |none=>none
def eJ(P:Program)(G:Nat)(rec_:Code->St->Option (Ex×St))(cf:cm)(c:Code):St->Option (Ex×St):=
 Code.rec (motive:=fun _=>St->Option (Ex×St))
  (fun s=>some (.normal,s))
  (fun _ ops A s=>ec (bL P G cf ops A s))
  (fun _ _ E O s=>gi (E s) O)
  (fun c _ _ Z U s=>bif bu G c then lD (cI s.tmps c) (Z s) (U s) else none)
  (fun id _ ih s=>cW id (ih s))
  (fun b ih s=>gi (ih s) (rec_ (.loop b)))
  (fun _ _ _ _ _ _ _=>none)
  (fun id s=>some (.exit id,s))
  (fun _ _ _=>none)
  (fun _ _=>none)
  (fun _ _=>none)
  (fun s=>some (.ret,s))
  (fun _ _=>none) c
section
variable (P:Program) (G:Nat) (rec_:Code->St->Option (Ex×St)) (cf:cm) (s:St)
theorem lA:eJ P G rec_ cf .skip s=some (.normal,s):=rfl
theorem gh(id:Nat)(ops:Array Oper)(A:Bool):eJ P G rec_ cf (.region id ops A) s=ec (bL P G cf ops A s):=rfl
theorem kr(a b:Code):eJ P G rec_ cf (.seq a b) s=gi (eJ P G rec_ cf a s) (eJ P G rec_ cf b):=rfl
theorem iS(c:Operand)(t e:Code):eJ P G rec_ cf (.cond c t e) s=
  bif bu G c then lD (cI s.tmps c) (eJ P G rec_ cf t s) (eJ P G rec_ cf e s) else none:=rfl
theorem hE(id:Nat)(b:Code):eJ P G rec_ cf (.block id b) s=cW id (eJ P G rec_ cf b s):=rfl
theorem iR(b:Code):eJ P G rec_ cf (.loop b) s=gi (eJ P G rec_ cf b s) (rec_ (.loop b)):=rfl
theorem lB(id:Nat):eJ P G rec_ cf (.exit id) s=some (.exit id,s):=rfl
theorem execC_ret:eJ P G rec_ cf .ret s=some (.ret,s):=rfl
end
def cF(P:Program)(s:St):List ResultVar->Option (List Value)
 | []=>some []
 | .tmp t::rs=>
  match cF P s rs with
  |some l=>some (cH s.tmps t::l)
  |none=>none
 | .cell a t::rs=>
  match cH s.tmps a with
  | .pointer (some p)=>
   match s.heap.loadV P t p,cF P s rs with
   |some v,some l=>some (v::l)
   |_,_=>none
  |_=>none
def ew:List Value->Value
 | [v]=>v
 |l=> .tuple ⟨l⟩
def mH(P:Program)(ex:Code->St->Option (Ex×St)):cm:=fun f args h=>
 match P.funcs[f]? with
 |some fn=>
  match fn.body with
  |some c=>
   match ex c {tmps:=fc 0 args .nil,size:=Nat.max args.length fn.ntmps,heap:=h} with
   |some (.normal,s)=>
    match cF P s fn.results.toList with
    |some l=>some (ew l,s.heap)
    |none=>none
   |some (.ret,s)=>
    match cF P s fn.results.toList with
    |some l=>some (ew l,s.heap)
    |none=>none
   |_=>none
  |none=>none
 |none=>none
abbrev bz:=FuncId->List Value->Heap->Option Value
def kz(K:bz)(cf:cm):cm:=fun f args h=>
 match K f args h with
 |some v=>some (v,h)
 |none=>cf f args h
def lC(P:Program)(G:Nat)(K:bz):Nat->Code->St->Option (Ex×St)
 |0=>fun _ _=>none
 |n+1=>eJ P G (lC P G K n) (kz K (mH P (lC P G K n)))
def call(P:Program)(G:Nat)(K:bz)(n:Nat):cm:=kz K (mH P (lC P G K n))
def noneKnown:bz:=fun _ _ _=>none
def saysTrue(r:Option (Value×Heap)):Bool:=match r with|some (.bool true,_)=>true|_=>false
def tabHeap(n:Nat)(cells:List Value):Heap:={tr:=((Tr.nil.set 0 (.cells [.slice (some ⟨1,0,none⟩) n n] none true)).set 1 (.cells cells none true)),next:=2,log:=[]}
end Go.R
end
