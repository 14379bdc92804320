/-
An evaluator for the part of the model that is used: definitions.
-/
import Derived.Calls
import Derived.Orders
import Derived.Laws.Sem
import Derived.Laws.World
import Derived.Laws.Entries
import Derived.Laws.Cells
noncomputable section
set_option linter.unusedVariables false
set_option linter.unusedSimpArgs false
namespace Go.R
open List renaming getD→N,length→J
theorem V.{u}{α:Sort u}{a:α}:a=a:=rfl
theorem M{p:Prop}(h:p:=by first|omega|(dsimp only;omega)|(simp only[List.length_append,List.length_cons,List.length_nil];omega)):p:=h
theorem X{p:Prop}(h:p:=by assumption):p:=h
theorem e_{p:Prop}(h:p:=by decide):p:=h
abbrev a00:= @List.length_append
abbrev a01:= @Option.some.injEq
abbrev a02:= @List.length_cons
abbrev a03:= @List.length_nil
abbrev a04:= @Bool.and_eq_true
abbrev a05:= @Prod.mk.injEq
abbrev a06:= @List.sublist_append_left
abbrev a07:= @Nat.le_refl
abbrev a08:= @List.getElem?_eq_getElem
abbrev a09:= @List.getD_eq_getElem?_getD
abbrev a0a:= @Nat.eq_of_beq_eq_true
abbrev a0b:= @List.append_assoc
abbrev a0c:= @List.mem_cons_of_mem
abbrev a0d:= @Nat.le_of_ble_eq_true
abbrev a0e:= @List.eq_nil_of_length_eq_zero
abbrev a0f:= @List.mem_append
abbrev a0g:= @List.not_mem_nil
abbrev a0h:= @Nat.zero_le
abbrev a0i:= @Nat.le_trans
abbrev a0j:= @Bool.false_eq_true
abbrev a0k:= @List.append_nil
abbrev a0l:= @List.all_cons
abbrev a0m:= @List.mem_cons_self
abbrev a0n:= @List.mem_cons
abbrev a0o:= @List.nil_append
abbrev a0p:= @Nat.lt_or_ge
abbrev a0q:= @Option.bind_some
abbrev a0r:= @List.all_eq_true
abbrev a0s:= @List.take_of_length_le
abbrev a0t:= @List.cons_append
abbrev a0u:= @List.length_set
abbrev a0v:= @List.length_singleton
abbrev a0w:= @List.mem_of_getElem?
abbrev a0x:= @Nat.zero_add
abbrev a0y:= @Nat.lt_succ_self
abbrev a0z:= @Nat.ble_eq_true_of_le
abbrev a0A:= @List.getElem?_eq_some_iff
abbrev a0B:= @List.mem_map
abbrev a0C:= @Nat.add_assoc
abbrev a0D:= @Bool.and_true
abbrev a0E:= @Bool.or_eq_true
abbrev a0F:= @List.getElem?_take
abbrev a0G:= @Nat.mul_le_mul_right
abbrev a0H:= @Bool.or_eq_false_iff
abbrev a0I:= @List.mem_singleton
abbrev a0J:= @Array.getElem?_eq_getElem
abbrev a0K:= @Bool.not_eq_true'
abbrev a0L:= @List.getElem?_drop
abbrev a0M:= @Bool.eq_iff_iff
abbrev a0N:= @List.map_append
abbrev a0O:= @List.drop_eq_getElem_cons
abbrev a0P:= @List.mem_flatten
abbrev a0Q:= @Array.getD_eq_getD_getElem?
abbrev a0R:= @List.drop_zero
abbrev a0S:= @Array.getElem?_eq_some_iff
abbrev a0T:= @Int.eq_ofNat_of_zero_le
abbrev a0U:= @List.flatten_append
abbrev a0V:= @List.length_take
abbrev a0W:= @List.take_length
abbrev a0X:= @List.flatten_cons
abbrev a0Y:= @Nat.beq_refl
abbrev a0Z:= @List.drop_eq_nil_of_le
abbrev a10:= @Nat.add_mul
abbrev a11:= @Nat.lt_of_lt_of_le
abbrev a12:= @Array.toList_inj
abbrev a17:= @List.length_drop
abbrev a18:= @List.getElem_mem
abbrev a19:= @List.take_add_one
abbrev a1a:= @Bool.and_false
abbrev a1b:= @Bool.true_and
abbrev a1c:= @Bool.false_or
abbrev a1d:= @Nat.le_max_right
abbrev a1e:= @Array.getElem?_setIfInBounds
abbrev a1f:= @List.map_cons
abbrev a1g:= @Nat.eq_zero_or_pos
abbrev a1h:= @List.perm_append_comm_assoc
abbrev a1i:= @Array.size_eq_zero_iff
abbrev a1j:= @List.takeWhile_cons
abbrev a1k:= @List.getElem?_append_left
abbrev a1l:= @List.getElem?_eq_none
abbrev a1m:= @List.length_map
abbrev a1n:= @List.take_append_drop
abbrev a1o:= @List.all_nil
abbrev a1p:= @List.append_cancel_right
abbrev a1q:= @List.getElem?_cons_succ
abbrev a1r:= @List.flatMap_cons
abbrev a1s:= @Nat.mod_two_eq_zero_or_one
abbrev a1t:= @List.getElem?_append_right
abbrev a1u:= @Option.getD_some
abbrev a1v:= @Nat.succ_le_succ
abbrev a1w:= @Bool.and_self
abbrev a1x:= @Bool.not_true
abbrev a1y:= @Bool.not_not
abbrev a1z:= @Array.getElem?_setIfInBounds_ne
abbrev a1A:= @List.ext_getElem?
abbrev a1B:= @Nat.le_max_left
abbrev a1C:= @List.nodup_append
abbrev a1D:= @Nat.succ_mul
abbrev a1E:= @List.getElem_of_mem
abbrev a1F:= @List.drop_drop
abbrev a1G:= @Array.ext_getElem?
abbrev a1H:= @List.all_append
abbrev a1I:= @Bool.or_true
abbrev a1J:= @List.getElem?_map
abbrev a1K:= @Bool.not_false
abbrev a1L:= @Array.length_toList
abbrev a1M:= @List.foldl_cons
abbrev a1N:= @Option.map_some
abbrev a1O:= @List.set_cons_succ
abbrev a1P:= @Option.map_none
abbrev a1Q:= @Option.map_eq_some_iff
abbrev a1R:= @Nat.mod_lt
abbrev a1S:= @List.foldl_append
abbrev a1T:= @Bool.true_or
abbrev a1U:= @Nat.pow_succ
abbrev a1V:= @Nat.lt_trans
abbrev a1W:= @List.sizeOf_lt_of_mem
abbrev a1X:= @Array.toList_map
abbrev a1Y:= @Nat.min_eq_right
abbrev a1Z:= @List.suffix_refl
abbrev a20:= @List.mem_append_left
abbrev a21:= @Array.map_congr_left
abbrev a22:= @List.any_cons
abbrev a23:= @Bool.not_or
abbrev a24:= @Nat.sub_self
abbrev a25:= @Nat.add_zero
abbrev a26:= @Nat.le_of_lt
abbrev a27:= @List.drop_take
inductive Tr(α:Type) where
 |nil
 |node (l:Tr α) (v:Option α) (r:Tr α)
def Tr.get{α:Type}(t:Tr α):Nat->Option α:=
 Tr.rec (motive:=λ_=>Nat->Option α) (λ_=>none)
  (λ_ v _ E O n=>Nat.rec (motive:=λ_=>Option α) v
   (λm _=>Bool.rec (motive:=λ_=>Option α) (O (Nat.div m 2)) (E (Nat.div m 2)) (Nat.beq (Nat.mod m 2) 0)) n) t
def Tr.setF{α:Type}(f:Nat):Tr α->Nat->α->Tr α:=
 Nat.rec (motive:=λ_=>Tr α->Nat->α->Tr α) (λt _ _=>t)
  (λ_ ih t n v=>Nat.rec (motive:=λ_=>Tr α)
   (Tr.rec (motive:=λ_=>Tr α) (.node .nil (some v) .nil) (λl _ r _ _=> .node l (some v) r) t)
   (λm _=>Tr.rec (motive:=λ_=>Tr α)
    (Bool.rec (motive:=λ_=>Tr α) (.node .nil none (ih .nil (Nat.div m 2) v)) (.node (ih .nil (Nat.div m 2) v) none .nil) (Nat.beq (Nat.mod m 2) 0))
    (λl o r _ _=>Bool.rec (motive:=λ_=>Tr α) (.node l o (ih r (Nat.div m 2) v)) (.node (ih l (Nat.div m 2) v) o r) (Nat.beq (Nat.mod m 2) 0)) t) n) f
def Tr.set{α:Type}(t:Tr α)(n:Nat)(v:α):Tr α:=Tr.setF (Nat.succ n) t n v
theorem Tr.get_even{α:Type}(l r:Tr α)(v:Option α)(m:Nat)(h:Nat.beq (m%2) 0=true):(Tr.node l v r).get (m+1)=l.get (m/2):=by show Bool.rec (motive:=λ_=>Option α) (r.get (m/2)) (l.get (m/2)) (Nat.beq (m%2) 0)=_;rw[h]
theorem Tr.get_odd{α:Type}(l r:Tr α)(v:Option α)(m:Nat)(h:Nat.beq (m%2) 0=false):(Tr.node l v r).get (m+1)=r.get (m/2):=by show Bool.rec (motive:=λ_=>Option α) (r.get (m/2)) (l.get (m/2)) (Nat.beq (m%2) 0)=_;rw[h]
theorem Tr.set_nil_zero{α:Type}(f:Nat)(x:α):Tr.setF (f+1) .nil 0 x= .node .nil (some x) .nil:=rfl
theorem Tr.set_node_zero{α:Type}(f:Nat)(l r:Tr α)(v:Option α)(x:α):Tr.setF (f+1) (.node l v r) 0 x= .node l (some x) r:=rfl
theorem Tr.set_nil_even{α:Type}(f m:Nat)(x:α)(h:Nat.beq (m%2) 0=true):Tr.setF (f+1) .nil (m+1) x= .node (Tr.setF f .nil (m/2) x) none .nil:=by show Bool.rec (motive:=λ_=>Tr α) (.node .nil none (Tr.setF f .nil (m/2) x)) (.node (Tr.setF f .nil (m/2) x) none .nil) (Nat.beq (m%2) 0)=_;rw[h]
theorem Tr.set_nil_odd{α:Type}(f m:Nat)(x:α)(h:Nat.beq (m%2) 0=false):Tr.setF (f+1) .nil (m+1) x= .node .nil none (Tr.setF f .nil (m/2) x):=by show Bool.rec (motive:=λ_=>Tr α) (.node .nil none (Tr.setF f .nil (m/2) x)) (.node (Tr.setF f .nil (m/2) x) none .nil) (Nat.beq (m%2) 0)=_;rw[h]
theorem Tr.set_node_even{α:Type}(f m:Nat)(l r:Tr α)(v:Option α)(x:α)(h:Nat.beq (m%2) 0=true):Tr.setF (f+1) (.node l v r) (m+1) x= .node (Tr.setF f l (m/2) x) v r:=by show Bool.rec (motive:=λ_=>Tr α) (.node l v (Tr.setF f r (m/2) x)) (.node (Tr.setF f l (m/2) x) v r) (Nat.beq (m%2) 0)=_;rw[h]
theorem Tr.set_node_odd{α:Type}(f m:Nat)(l r:Tr α)(v:Option α)(x:α)(h:Nat.beq (m%2) 0=false):Tr.setF (f+1) (.node l v r) (m+1) x= .node l v (Tr.setF f r (m/2) x):=by show Bool.rec (motive:=λ_=>Tr α) (.node l v (Tr.setF f r (m/2) x)) (.node (Tr.setF f l (m/2) x) v r) (Nat.beq (m%2) 0)=_;rw[h]
theorem Tr.get_setF_same{α:Type}(v:α): ∀(f:Nat) (t:Tr α) (n:Nat),n<f->(Tr.setF f t n v).get n=some v:=by
 intro f;induction f with
 |zero=>intro t n h;omega
 |succ f ih=>
  intro t n h
  cases n with
  |zero=>cases t<;>rfl
  |succ m=>
   have E:m/2<f:=M
   cases hb:Nat.beq (m%2) 0<;>cases t
   ·rw[Tr.set_nil_odd f m v hb,Tr.get_odd _ _ _ m hb,ih _ _ E]
   ·rw[Tr.set_node_odd f m _ _ _ v hb,Tr.get_odd _ _ _ m hb,ih _ _ E]
   ·rw[Tr.set_nil_even f m v hb,Tr.get_even _ _ _ m hb,ih _ _ E]
   rw[Tr.set_node_even f m _ _ _ v hb,Tr.get_even _ _ _ m hb,ih _ _ E]
theorem Tr.get_setF_ne{α:Type}(v:α): ∀(f:Nat) (t:Tr α) (n k:Nat),n≠k->(Tr.setF f t n v).get k=t.get k:=by
 intro f;induction f with
 |zero=>intro t n k _;rfl
 |succ f ih=>
  intro t n k h
  have O: ∀m:Nat,(Nat.beq (m%2) 0=true/\m%2=0)\/(Nat.beq (m%2) 0=false/\m%2=1):=by
   intro m;rcases a1s m with e|e
   ·exact .inl ⟨by rw[e];rfl,e⟩
   exact .inr ⟨by rw[e];rfl,e⟩
  cases n with
  |zero=>
   cases k with
   |zero=>exact absurd V h
   |succ j=>
    rcases O j with⟨hb,_⟩|⟨hb,_⟩<;>cases t
    ·rw[Tr.set_nil_zero,Tr.get_even _ _ _ j hb];rfl
    ·rw[Tr.set_node_zero,Tr.get_even _ _ _ j hb,Tr.get_even _ _ _ j hb]
    ·rw[Tr.set_nil_zero,Tr.get_odd _ _ _ j hb];rfl
    rw[Tr.set_node_zero,Tr.get_odd _ _ _ j hb,Tr.get_odd _ _ _ j hb]
  |succ m=>
   cases k with
   |zero=>
    rcases O m with⟨hb,_⟩|⟨hb,_⟩<;>cases t
    ·rw[Tr.set_nil_even f m v hb];rfl
    ·rw[Tr.set_node_even f m _ _ _ v hb];rfl
    ·rw[Tr.set_nil_odd f m v hb];rfl
    rw[Tr.set_node_odd f m _ _ _ v hb];rfl
   |succ j=>
    rcases O m with⟨hb,T⟩|⟨hb,T⟩<;>rcases O j with⟨hc,U⟩|⟨hc,U⟩
    ·have E:m/2≠j/2:=M
     cases t
     ·rw[Tr.set_nil_even f m v hb,Tr.get_even _ _ _ j hc,ih _ _ _ E];rfl
     rw[Tr.set_node_even f m _ _ _ v hb,Tr.get_even _ _ _ j hc,Tr.get_even _ _ _ j hc,ih _ _ _ E]
    ·cases t
     ·rw[Tr.set_nil_even f m v hb,Tr.get_odd _ _ _ j hc];rfl
     rw[Tr.set_node_even f m _ _ _ v hb,Tr.get_odd _ _ _ j hc,Tr.get_odd _ _ _ j hc]
    ·cases t
     ·rw[Tr.set_nil_odd f m v hb,Tr.get_even _ _ _ j hc];rfl
     rw[Tr.set_node_odd f m _ _ _ v hb,Tr.get_even _ _ _ j hc,Tr.get_even _ _ _ j hc]
    have E:m/2≠j/2:=M
    cases t
    ·rw[Tr.set_nil_odd f m v hb,Tr.get_odd _ _ _ j hc,ih _ _ _ E];rfl
    rw[Tr.set_node_odd f m _ _ _ v hb,Tr.get_odd _ _ _ j hc,Tr.get_odd _ _ _ j hc,ih _ _ _ E]
@[simp] theorem Tr.get_set_same{α:Type}(t:Tr α)(n:Nat)(v:α):(t.set n v).get n=some v:=Tr.get_setF_same v _ _ _ M
theorem Tr.get_set_ne{α:Type}(t:Tr α){n k}(v:α)(h:n≠k):(t.set n v).get k=t.get k:=Tr.get_setF_ne v _ _ _ _ h
def nth{α:Type}(l:List α):Nat->Option α:=
 List.rec (motive:=λ_=>Nat->Option α) (λ_=>none) (λv _ ih n=>Nat.rec (motive:=λ_=>Option α) (some v) (λm _=>ih m) n) l
def eK{α:Type}(l:List α):Nat->List α:=
 List.rec (motive:=λ_=>Nat->List α) (λ_=> []) (λv t ih n=>Nat.rec (motive:=λ_=>List α) (v::t) (λm _=>ih m) n) l
def eB{α:Type}(l:List α):Nat->List α:=
 List.rec (motive:=λ_=>Nat->List α) (λ_=> []) (λv _ ih n=>Nat.rec (motive:=λ_=>List α) [] (λm _=>v::ih m) n) l
def fU{α:Type}(l:List α):Nat:=List.rec (motive:=λ_=>Nat) 0 (λ_ _ ih=>Nat.succ ih) l
def lU{α:Type}(l m:List α):List α:=List.rec (motive:=λ_=>List α) m (λv _ ih=>v::ih) l
def nw{α:Type}(p:α->Bool)(l:List α):Bool:=List.rec (motive:=λ_=>Bool) true (λv _ ih=>Bool.rec (motive:=λ_=>Bool) false ih (p v)) l
def eu{α β:Type}(f:α->β)(l:List α):List β:=List.rec (motive:=λ_=>List β) [] (λv _ ih=>f v::ih) l
theorem hM{α:Type}: ∀(l:List α) (n:Nat),nth l n=l[n]?
 | [],_=>rfl
 |_::_,0=>rfl
 |_::l,n+1=>by rw[a1q,←hM l n];rfl
theorem bX{α:Type}: ∀(l:List α) (n:Nat),eK l n=l.drop n
 | [],n=>by simp;rfl
 |_::_,0=>rfl
 |_::l,n+1=>by rw[List.drop_succ_cons,←bX l n];rfl
theorem bL{α:Type}: ∀(l:List α) (n:Nat),eB l n=l.take n
 | [],n=>by simp;rfl
 |_::_,0=>rfl
 |_::l,n+1=>by rw[List.take_succ_cons,←bL l n];rfl
theorem bp{α:Type}: ∀(l:List α),fU l=J l
 | []=>rfl
 |_::l=>by rw[a02,←bp l];rfl
theorem eO{α:Type}(m:List α): ∀(l:List α),lU l m=l++m
 | []=>rfl
 |_::l=>by rw[a0t,←eO m l];rfl
theorem pO{α:Type}(p:α->Bool): ∀(l:List α),nw p l=l.all p
 | []=>rfl
 |v::l=>by rw[a0l,←pO p l];show Bool.rec (motive:=λ_=>Bool) false (nw p l) (p v)=_;cases p v<;>rfl
theorem ju{α β:Type}(f:α->β): ∀(l:List α),eu f l=l.map f
 | []=>rfl
 |v::l=>by rw[a1f,←ju f l];rfl
inductive AObj where
 |cells (cs:List Value) (opn:Option Nat) (ro:Bool)
 |iter (s:ByteArray) (pos:Nat)
 |tab (es:List (Value×Value))
 |dead
def AObj.rw:AObj->Bool
 | .cells _ _ ro=> !ro
 | .dead=>false
 |_=>true
def AObj.live:AObj->Bool
 | .dead=>false
 |_=>true
structure Heap where
 tr:Tr AObj
 next:Nat
 log:List Nat
def Heap.get(h:Heap)(b:Nat):Option AObj:=h.tr.get b
def Heap.put(h:Heap)(b:Nat)(o:AObj):Heap:={tr:=h.tr.set b o,next:=h.next,log:=b::h.log}
def Heap.push(h:Heap)(o:AObj):Heap:={tr:=h.tr.set h.next o,next:=h.next+1,log:=h.log}
def Heap.empty:Heap:={tr:= .nil,next:=0,log:=[]}
@[simp] theorem Heap.get_put_same(h:Heap)(b:Nat)(o:AObj):(h.put b o).get b=some o:=by simp[Heap.get,Heap.put]
theorem Heap.get_put_ne(h:Heap){b k}(o:AObj)(E:b≠k):(h.put b o).get k=h.get k:=by simp[Heap.get,Heap.put,Tr.get_set_ne _ _ E]
@[simp] theorem Heap.get_push_same(h:Heap)(o:AObj):(h.push o).get h.next=some o:=by simp[Heap.get,Heap.push]
theorem Heap.get_push_ne(h:Heap){k}(o:AObj)(E:h.next≠k):(h.push o).get k=h.get k:=by simp[Heap.get,Heap.push,Tr.get_set_ne _ _ E]
@[simp] theorem Heap.next_put(h:Heap)(b:Nat)(o:AObj):(h.put b o).next=h.next:=rfl
@[simp] theorem Heap.next_push(h:Heap)(o:AObj):(h.push o).next=h.next+1:=rfl
@[simp] theorem Heap.log_push(h:Heap)(o:AObj):(h.push o).log=h.log:=rfl
@[simp] theorem Heap.log_put(h:Heap)(b:Nat)(o:AObj):(h.put b o).log=b::h.log:=rfl
def dG:Value->Bool
 | .bool _| .int _ _| .float _ _| .complex _ _ _| .string _=>true
 | .pointer none| .map none| .chan none| .nilFunc| .nilIface=>true
 | .slice none n k=>Nat.beq n 0&&Nat.beq k 0
 | .func _ f c=>Nat.beq f.size 0&&Nat.beq c.size 0
 |_=>false
def jN:Value->Bool
 | .agg cs=>cs.toList.all dG
 |v=>dG v
def noA2:Value->Bool
 | .tuple vs=>vs.toList.all jN
 |v=>jN v
def aD{α:Type}(P:Program):Sem α->Option α
 | .pure a=>some a
 | .program k=>aD P (k P)
 | .mark _ k=>aD P k
 |_=>none
def dC(t:Tr Value)(n:Nat):Value:=
 match t.get n with
 |some v=>v
 |none=>undef
def lset(t:Tr Value)(n:Nat)(v:Value):Tr Value:=t.set n v
def gX:Nat->List Value->Tr Value->Tr Value
 |_,[],t=>t
 |i,v::l,t=>gX (i+1) l (lset t i v)
def over:List Value->List Value->List Value
 |_::cs,v::vs=>v::over cs vs
 |cs,_=>cs
def be:List Value->Nat->List Value->List Value
 |cs,0,vs=>over cs vs
 | [],_+1,_=> []
 |c::cs,n+1,vs=>c::be cs n vs
def dY:Nat->List Value->List Value
 |0,_=> []
 |n+1,l=>l++dY n l
def dL(P:Program)(t:TypeId):Option Nat:=
 match P.info? t with
 |some i=>some i.size
 |none=>none
def gW(P:Program)(t:TypeId):Option Nat:=
 match P.info? t with
 |some i=>some i.bytes
 |none=>none
def dm(P:Program)(t:TypeId):Option (List Value):=
 match P.info? t with
 |some i=>
  match i.zero with
  |some z=>bif z.cells.toList.all dG then some z.cells.toList else none
  |none=>none
 |none=>none
def ff(P:Program)(t:TypeId):Option Bool:=
 match P.underlying t with
 |some (.struct _)|some (.array _ _)=>some true
 |some _=>some false
 |none=>none
def Heap.cellAt(h:Heap)(a:Addr):Option Value:=
 match a with
 |⟨b,o,none⟩=>
  match h.get b with
  |some (.cells cs _ _)=>nth cs o
  |_=>none
 |_=>none
def Heap.loadN(h:Heap)(a:Addr)(n:Nat):Option (List Value):=
 match a with
 |⟨b,o,none⟩=>
  match h.get b with
  |some (.cells cs _ _)=>
   let l:=eB (eK cs o) n
   bif Nat.beq (fU l) n then some l else none
  |_=>none
 |_=>none
def Heap.loadV(P:Program)(h:Heap)(t:TypeId)(a:Addr):Option Value:=
 match ff P t with
 |some true=>
  match dL P t with
  |some n=>
   match h.loadN a n with
   |some l=>some (.agg ⟨l⟩)
   |none=>none
  |none=>none
 |some false=>h.cellAt a
 |none=>none
def Heap.storeL(h:Heap)(a:Addr)(vs:List Value):Option Heap:=
 match a with
 |⟨b,o,none⟩=>
  match h.get b with
  |some (.cells cs opn false)=>
   bif Nat.ble (Nat.add o (fU vs)) (fU cs)&&nw Value.oneCell' vs then some (h.put b (.cells (be cs o vs) opn false)) else none
  |_=>none
 |_=>none
inductive AN where
 |val (v:Value)
 |skip
 |enter (f:FuncId) (args:List Value)
def aP(h:Heap)(cs:List Value)(E:Option Nat):Heap:=h.push (.cells cs E false)
def ptrTo(b:Nat):Value:= .pointer (some ⟨b,0,none⟩)
def lift(P:Program)(s:Sem Value)(h:Heap):Option (AN×Heap):=
 match aD P s with
 |some v=>some (.val v,h)
 |none=>none
def bB(P:Program)(ρ:Operand->Value)(o:Oper)(h:Heap):Option (AN×Heap):=
 bif o.op.operands.toList.all λx=>jN (ρ x) then
  match aD P (execOp ρ o) with
  |some (.value v)=>bif noA2 v then some (.val v,h) else none
  |_=>none
 else none
def ovl(r:Option Value)(h:Heap):Option (AN×Heap):=
 match r with
 |some v=>some (.val v,h)
 |none=>none
def ovh(r:Option (Value×Heap)):Option (AN×Heap):=
 match r with
 |some (v,h)=>some (.val v,h)
 |none=>none
def osk(r:Option Heap):Option (AN×Heap):=
 match r with
 |some h=>some (.skip,h)
 |none=>none
def ey(a b:ByteArray):Bool:=a.data.toList==b.data.toList
def strOp(op:BinOp)(a b:ByteArray):Option Value:=
 match op with
 | .eql=>some (.bool (ey a b))
 | .neq=>some (.bool (!ey a b))
 | .lss=>some (.bool (Op.bytesLess a.data.toList b.data.toList))
 | .leq=>some (.bool (Op.bytesLess a.data.toList b.data.toList||ey a b))
 | .gtr=>some (.bool (!(Op.bytesLess a.data.toList b.data.toList||ey a b)))
 | .geq=>some (.bool (!Op.bytesLess a.data.toList b.data.toList))
 | .add=>
  let l:=lU a.data.toList b.data.toList
  bif Nat.ble (fU l) 1099511627776 then some (.string ⟨⟨l⟩⟩) else none
 |_=>none
def nilEq(P:Program)(t:TypeId)(x y:Value):Option Bool:=
 match P.underlying t,x,y with
 |some (.pointer _),.pointer none,.pointer b=>some b.isNone
 |some (.pointer _),.pointer a,.pointer none=>some a.isNone
 |some (.slice _),.slice none _ _,.slice b _ _=>some b.isNone
 |some (.slice _),.slice a _ _,.slice none _ _=>some a.isNone
 |some (.map _ _),.map none,.map b=>some b.isNone
 |some (.map _ _),.map a,.map none=>some a.isNone
 |some (.func _ _ _),.nilFunc,.nilFunc=>some true
 |some (.func _ _ _),.nilFunc,.func _ _ _=>some false
 |some (.func _ _ _),.func _ _ _,.nilFunc=>some false
 |_,_,_=>none
def fj(op:BinOp)(k:IntKind)(x y:Int):Int:=bits op k x y
def nP(op:BinOp)(k:IntKind)(a b:Int):Option Value:=
 match op with
 | .add=>some (.int k (k.wrap (a+b)))
 | .sub=>some (.int k (k.wrap (a-b)))
 | .mul=>some (.int k (k.wrap (a *b)))
 | .quo=>bif b==0 then none else some (.int k (k.wrap (a.tdiv b)))
 | .rem=>bif b==0 then none else some (.int k (a.tmod b))
 | .and=>some (.int k (fj .and k a b))
 | .or=>some (.int k (fj .or k a b))
 | .xor=>some (.int k (fj .xor k a b))
 | .andNot=>some (.int k (fj .andNot k a b))
 | .eql=>some (.bool (a==b))
 | .neq=>some (.bool (a !=b))
 | .lss=>some (.bool (decide (a<b)))
 | .leq=>some (.bool (decide (a<=b)))
 | .gtr=>some (.bool (decide (b<a)))
 | .geq=>some (.bool (decide (b<=a)))
 | .shl=>none
 | .shr=>none
def shiftN(k:IntKind)(y:Int):Option Nat:=
 match y with
 | .ofNat n=>some (Nat.min n k.bits)
 |_=>none
def shBin(op:BinOp)(k:IntKind)(a b:Int):Option Value:=
 match op with
 | .shl=>
  match shiftN k b with
  |some n=>some (.int k (k.wrap (a *2^n)))
  |none=>none
 | .shr=>
  match shiftN k b with
  |some n=>some (.int k (a.fdiv (2^n)))
  |none=>none
 |_=>none
def hN(k E:IntKind):Bool:=decide (k=E)
def mL:BinOp->Bool
 | .shl| .shr=>true
 |_=>false
def binInt(op:BinOp)(k:IntKind)(a:Int)(y:Value)(h:Heap):Option (AN×Heap):=
 match y with
 | .int k' b=>ovl (bif mL op then shBin op k a b else bif hN k k' then nP op k a b else none) h
 |_=>none
def binStr(op:BinOp)(a:ByteArray)(y:Value)(h:Heap):Option (AN×Heap):=
 match y with
 | .string b=>ovl (strOp op a b) h
 |_=>none
def nilBin(op:BinOp)(r:Option Bool)(h:Heap):Option (AN×Heap):=
 match r with
 |some b=>
  match op with
  | .eql=>some (.val (.bool b),h)
  | .neq=>some (.val (.bool (!b)),h)
  |_=>none
 |none=>none
def pJ(P:Program)(ρ:Operand->Value)(o:Oper)(op:BinOp)(t:TypeId)(x y:Value)(h:Heap):Option (AN×Heap):=
 match x with
 | .agg _=>bB P ρ o h
 | .bool _=>bB P ρ o h
 |x=>nilBin op (nilEq P t x y) h
def aBin(P:Program)(ρ:Operand->Value)(o:Oper)(op:BinOp)(t:TypeId)(x:Value)(y:Operand)(h:Heap):Option (AN×Heap):=
 match x with
 | .int k a=>binInt op k a (ρ y) h
 | .string a=>binStr op a (ρ y) h
 |x=>pJ P ρ o op t x (ρ y) h
def aUn(P:Program)(ρ:Operand->Value)(o:Oper)(op:UnOp)(x:Value)(h:Heap):Option (AN×Heap):=
 match x with
 | .bool b=>
  match op with
  | .not=>some (.val (.bool (!b)),h)
  |_=>none
 |_=>bB P ρ o h
def asNat:Value->Option Nat
 | .int _ (.ofNat n)=>some n
 |_=>none
def cy(d:Nat)(o:Option Value):Option Nat:=
 match o with
 |some v=>asNat v
 |none=>some d
def bnds(n k:Nat)(lo hi:Option Value):Option (Nat×Nat):=
 match cy n hi with
 |some h=>
  match cy 0 lo with
  |some l=>bif Nat.ble l h&&Nat.ble h k then some (l,h) else none
  |none=>none
 |none=>none
def bC(P:Program)(t:TypeId)(x:Value)(lo hi E:Option Value)(h:Heap):Option Value:=
 match E with
 |some _=>none
 |none=>
  match P.underlying t,x with
  |some .string,.string s=>
   match bnds (fU s.data.toList) (fU s.data.toList) lo hi with
   |some (l,r)=>some (.string ⟨⟨eB (eK s.data.toList l) (r-l)⟩⟩)
   |none=>none
  |some (.slice e),.slice none 0 0=>
   match bnds 0 0 lo hi with
   |some _=>bif (dL P e).isSome then some (.slice none 0 0) else none
   |none=>none
  |some (.slice e),.slice (some ⟨b,o,none⟩) n k=>
   match bnds n k lo hi,dL P e,h.get b with
   |some (l,r),some sz,some (.cells _ opn _)=>
    match opn with
    |none=>some (.slice (some (bif Nat.beq k l then⟨b,o,none⟩ else⟨b,o+l *sz,none⟩)) (r-l) (k-l))
    |some ez=>bif Nat.beq ez sz then some (.slice (some ⟨b,o+l *sz,none⟩) (r-l) (k-l)) else none
   |_,_,_=>none
  |some (.array n e),.pointer (some ⟨b,o,none⟩)=>
   match bnds n n lo hi,dL P e,h.get b with
   |some (l,r),some sz,some (.cells _ none _)=>some (.slice (some (bif Nat.beq n l then⟨b,o,none⟩ else⟨b,o+l *sz,none⟩)) (r-l) (n-l))
   |_,_,_=>none
  |_,_=>none
def iq(h:Heap)(sz n:Nat):Value->Option (List Value)
 | .slice (some a) _ _=>bif Nat.beq n 0 then some [] else h.loadN a (n *sz)
 | .slice none _ _=>bif Nat.beq n 0 then some [] else none
 | .string s=>bif Nat.beq sz 1 then some (eu (λb=> .int .u8 b.toNat) (eB s.data.toList n)) else none
 |_=>none
def lenA:Value->Option Nat
 | .slice _ n _=>some n
 | .string s=>some (fU s.data.toList)
 |_=>none
def hE(P:Program)(types:Array TypeId)(s x:Value)(h:Heap):Option (Value×Heap):=
 match types[0]?,types[1]? with
 |some st,some xt=>
  match P.underlying st,P.underlying xt with
  |some (.slice e),some xd=>
   match xd with
   | .int _=>none
   |_=>
    match dL P e,gW P e,dm P e,lenA x with
    |some sz,some by_,some z,some m=>
     match iq h sz m x with
     |none=>none
     |some new=>
      match s with
      | .slice none 0 0=>
       bif Nat.beq m 0 then some (s,h)
       else bif Nat.beq (fU z) sz&&Nat.ble m 2147483648&&Nat.ble by_ 4096&& !Nat.beq sz 0 then
        some (.slice (some ⟨h.next,0,none⟩) m m,aP h new (some sz))
       else none
      | .slice (some ⟨b,o,none⟩) n k=>
       match h.get b with
       |some (.cells cs opn ro)=>
        bif Nat.ble (n+m) k then
         bif Nat.beq m 0 then some (.slice (some ⟨b,o,none⟩) n k,h)
         else
          match h.storeL ⟨b,o+n *sz,none⟩ new with
          |some h'=>some (.slice (some ⟨b,o,none⟩) (n+m) k,h')
          |none=>none
        else bif Nat.beq (fU z) sz&&Nat.ble (n+m) 2147483648&&Nat.ble by_ 4096&& !Nat.beq sz 0&&Nat.ble n k then
         match iq h sz n (.slice (some ⟨b,o,none⟩) n k) with
         |none=>none
         |some old=>
          match opn with
          |none=>some (.slice (some ⟨h.next,0,none⟩) (n+m) (n+m),aP h (lU old new) (some sz))
          |some ez=>
           bif Nat.beq ez sz&& !ro&&nw Value.oneCell' new then some (.slice (some ⟨h.next,0,none⟩) (n+m) (n+m),aP (h.put b .dead) (lU old new) (some sz)) else none
        else none
       |_=>none
      |_=>none
    |_,_,_,_=>none
  |_,_=>none
 |_,_=>none
def aCopy(P:Program)(types:Array TypeId)(d s:Value)(h:Heap):Option (Value×Heap):=
 match types[0]? with
 |some dt=>
  match P.underlying dt,d,lenA s with
  |some (.slice e),.slice base dn _,some m=>
   match dL P e with
   |some sz=>
    let n:=Nat.min m dn
    bif Nat.beq n 0 then some (goInt 0,h)
    else
     match iq h sz n s,base with
     |some l,some a=>
      match h.storeL a l with
      |some h'=>some (goInt n,h')
      |none=>none
     |_,_=>none
   |none=>none
  |_,_,_=>none
 |none=>none
def bR:TypeDesc->Value->Bool
 | .int k,.int k' _=>k==k'
 | .string,.string _=>true
 | .bool,.bool _=>true
 |_,_=>false
def dP:Value->Value->Bool
 | .int _ a,.int _ b=>a==b
 | .string a,.string b=>ey a b
 | .bool a,.bool b=>a==b
 |_,_=>false
def eJ(d:TypeDesc)(k:Value):List (Value×Value)->Option Value
 | []=>none
 |(k',v)::es=>bif dP k k' then some v else eJ d k es
def el(k v:Value):List (Value×Value)->List (Value×Value)
 | []=> [(k,v)]
 |(k',v')::es=>bif dP k k' then(k,v)::es else(k',v')::el k v es
def dU(P:Program)(t:TypeId)(m k:Value)(ok:Bool)(h:Heap):Option Value:=
 match P.underlying t with
 |some (.map kt et)=>
  match P.underlying kt,P.info? et with
  |some d,some i=>
   match i.zero with
   |some z=>
    bif bR d k&&jN z then
     match m with
     | .map none=>some (bif ok then .tuple #[z,.bool false] else z)
     | .map (some r)=>
      match h.get r with
      |some (.tab es)=>
       bif es.all λe=>bR d e.1 then
        match eJ d k es with
        |some v=>some (bif ok then .tuple #[v,.bool true] else v)
        |none=>some (bif ok then .tuple #[z,.bool false] else z)
       else none
      |_=>none
     |_=>none
    else none
   |none=>none
  |_,_=>none
 |_=>none
def gx(P:Program)(t:TypeId)(m k v:Value)(h:Heap):Option Heap:=
 match P.underlying t with
 |some (.map kt _)=>
  match P.underlying kt,m with
  |some d,.map (some r)=>
   match h.get r with
   |some (.tab es)=>
    bif bR d k&&es.all λe=>bR d e.1 then some (h.put r (.tab (el k v es))) else none
   |_=>none
  |_,_=>none
 |_=>none
def gZ(P:Program)(f:Value)(args:List Value):Option AN:=
 match f with
 | .func (.func i) first captured=>
  match P.funcs[i]? with
  |some fn=>bif fn.body.isSome&& !(fn.name== "runtime.NumGoroutine") then some (.enter i (lU first.toList (lU args captured.toList))) else none
  |none=>none
 |_=>none
def ct:List Value->Option (List UInt8)
 | []=>some []
 | .int .u8 n::l=>
  match ct l with
  |some r=>some (UInt8.ofNat n.toNat::r)
  |none=>none
 |_=>none
def du(P:Program)(s d:TypeId)(a:Option Addr)(n:Nat)(h:Heap):Option Value:=
 match P.underlying s,P.underlying d with
 |some (.slice e),some .string=>
  match P.underlying e with
  |some (.int .u8)=>
   match a with
   |none=>some (.string .empty)
   |some a=>
    bif Nat.beq n 0 then some (.string .empty)
    else
     match h.loadN a n with
     |some l=>
      match ct l with
      |some r=>some (.string ⟨⟨r⟩⟩)
      |none=>none
     |none=>none
  |_=>none
 |_,_=>none
def pE(P:Program)(s d:TypeId)(n:Int):Option Value:=
 match P.underlying s,P.underlying d with
 |some _,some (.int k)=>some (.int k (k.wrap n))
 |_,_=>none
def gj(P:Program)(ρ:Operand->Value)(o:Oper)(s d:TypeId)(x:Value)(h:Heap):Option (AN×Heap):=
 match x with
 | .int _ n=>ovl (pE P s d n) h
 | .slice a n _=>ovl (du P s d a n h) h
 |_=>bB P ρ o h
def kh(P:Program)(s:TypeId)(x:Value)(f:Nat):Option Value:=
 match P.underlying s,x with
 |some (.struct fs),.pointer (some ⟨b,o,none⟩)=>
  match fs[f]? with
  |some f=>
   match dL P f.type with
   |some n=>bif Nat.beq n 0 then none else some (.pointer (some ⟨b,o+f.offset,none⟩))
   |none=>none
  |none=>none
 |_,_=>none
def cV(P:Program)(t:TypeId)(x i:Value):Option Value:=
 match P.underlying t,x,asNat i with
 |some (.slice e),.slice (some ⟨b,o,none⟩) n k,some j=>
  match dL P e with
  |some sz=>bif Nat.ble (j+1) n&&Nat.ble n k then some (.pointer (some ⟨b,o+j *sz,none⟩)) else none
  |none=>none
 |some (.array n e),.pointer (some ⟨b,o,none⟩),some j=>
  match dL P e with
  |some sz=>bif Nat.ble (j+1) n then some (.pointer (some ⟨b,o+j *sz,none⟩)) else none
  |none=>none
 |_,_,_=>none
def strAt(P:Program)(t:TypeId)(s:ByteArray)(i:Value):Option Value:=
 match P.underlying t,asNat i with
 |some .string,some j=>
  match nth s.data.toList j with
  |some b=>some (.int .u8 b.toNat)
  |none=>none
 |_,_=>none
def ne(P:Program)(t:TypeId)(x i:Value)(h:Heap):Option (AN×Heap):=
 match x with
 | .string s=>ovl (strAt P t s i) h
 |x=>lift P (Instr.index t x i) h
def partL(g:Bool)(n off:Nat)(cs:List Value):Option Value:=
 bif g then some (.agg ⟨eB (eK cs off) n⟩) else nth cs off
def fieldAt?(P:Program)(t:TypeId)(f:Nat):Option (Bool×Nat×Nat):=
 match P.underlying t with
 |some (.struct fs)=>
  match fs[f]? with
  |some fd=>
   match ff P fd.type,dL P fd.type with
   |some g,some n=>some (g,n,fd.offset)
   |_,_=>none
  |none=>none
 |_=>none
def jJ(P:Program)(t:TypeId)(x:Value)(f:Nat):Option Value:=
 match x with
 | .agg cs=>
  match fieldAt? P t f with
  |some (g,n,off)=>partL g n off cs.toList
  |none=>none
 |_=>none
def iU(x:Value)(i:Nat):Option Value:=
 match x with
 | .tuple vs=>nth vs.toList i
 |_=>none
def aLen(P:Program)(t:TypeId)(x:Value)(h:Heap):Option Value:=
 match P.underlying t,x with
 |some (.slice _),.slice _ n _=>some (goInt n)
 |some .string,.string s=>some (goInt (fU s.data.toList))
 |some (.map _ _),.map none=>some (goInt 0)
 |some (.map _ _),.map (some r)=>
  match h.get r with
  |some (.tab es)=>some (goInt (J es))
  |_=>none
 |_,_=>none
def bLen(P:Program)(types:Array TypeId)(args:List Value)(h:Heap):Option (AN×Heap):=
 match types.toList,args with
 | [t],[x]=>ovl (aLen P t x h) h
 |_,_=>none
def bAppend(P:Program)(types:Array TypeId)(args:List Value)(h:Heap):Option (AN×Heap):=
 match types.toList,args with
 | [_,_],[s,x]=>ovh (hE P types s x h)
 |_,_=>none
def bCopy(P:Program)(types:Array TypeId)(args:List Value)(h:Heap):Option (AN×Heap):=
 match args with
 | [d,s]=>ovh (aCopy P types d s h)
 |_=>none
def pR(P:Program)(ρ:Operand->Value)(o:Oper)(b:Builtin)(types:Array TypeId)(args:List Value)(h:Heap):Option (AN×Heap):=
 match b with
 | .len=>bLen P types args h
 | .append=>bAppend P types args h
 | .copy=>bCopy P types args h
 | .min=>bB P ρ o h
 | .max=>bB P ρ o h
 |_=>none
def il(ρ:Operand->Value)(c a b:Operand)(h:Heap):Option (AN×Heap):=
 match ρ c with
 | .bool t=>some (.val (bif t then ρ a else ρ b),h)
 |_=>none
def fG(P:Program)(e:TypeId)(h:Heap):Option (AN×Heap):=
 match dm P e with
 |some z=>some (.val (ptrTo h.next),aP h z none)
 |none=>none
def jt(P:Program)(t:TypeId)(E:Array (Nat×Value))(h:Heap):Option (AN×Heap):=
 match dm P t with
 |some _=>lift P (Instr.build t E) h
 |none=>none
def ej(P:Program)(t:TypeId):Option (Nat×List Value):=
 match P.underlying t with
 |some (.slice e)=>
  match dL P e,dm P e with
  |some sz,some z=>bif Nat.beq (fU z) sz then some (sz,z) else none
  |_,_=>none
 |_=>none
def bN(P:Program)(t:TypeId)(n:Nat)(E:List (Nat×Value))(h:Heap):Option (AN×Heap):=
 match ej P t with
 |some (sz,z)=>
  bif Nat.ble (n *sz) 16777216 then
   match Instr.fill (λi=>some (i *sz,sz)) ⟨dY n z⟩ E with
   |some cells=>some (.val (.slice (some ⟨h.next,0,none⟩) n n),aP h cells.toList none)
   |none=>none
  else none
 |none=>none
def fh(P:Program)(t:TypeId)(a:Value)(h:Heap):Option (AN×Heap):=
 match a with
 | .pointer (some p)=>ovl (h.loadV P t p) h
 |_=>none
def gk(P:Program)(t:TypeId)(a x:Value)(h:Heap):Option (AN×Heap):=
 match a with
 | .pointer (some p)=>
  match dL P t with
  |some n=>bif Nat.beq x.cells.size n then osk (h.storeL p x.cells.toList) else none
  |none=>none
 |_=>none
def opNil(x:Value)(h:Heap):Option (AN×Heap):=
 match x with
 | .pointer (some a)=>some (.val (.pointer (some a)),h)
 | .func (.func f) a c=>some (.val (.func (.func f) a c),h)
 |_=>none
def gS(r:Option AN)(h:Heap):Option (AN×Heap):=
 match r with
 |some n=>some (n,h)
 |none=>none
def opCall(P:Program)(ρ:Operand->Value)(o:Oper)(c:Call)(h:Heap):Option (AN×Heap):=
 match c.callee with
 | .builtin b=>pR P ρ o b c.argTypes (eu ρ c.args.toList) h
 | .value f=>gS (gZ P (ρ f) (eu ρ c.args.toList)) h
 | .invoke _ _=>none
def aop(P:Program)(ρ:Operand->Value)(o:Oper)(h:Heap):Option (AN×Heap):=
 match o.op with
 | .move x=>some (.val (ρ x),h)
 | .assign x=>some (.val (ρ x),h)
 | .pick c a b=>il ρ c a b h
 | .alloc e=>fG P e h
 | .box _ x=>some (.val (ptrTo h.next),aP h (ρ x).cells.toList none)
 | .build t parts=>jt P t (parts.map λp=>(p.1,ρ p.2)) h
 | .buildSlice t n parts=>bN P t n (eu (λp=>(p.1,ρ p.2)) parts.toList) h
 | .load t a=>fh P t (ρ a) h
 | .store t a x=>gk P t (ρ a) (ρ x) h
 | .nilCheck x=>opNil (ρ x) h
 | .binOp op t x y _=>aBin P ρ o op t (ρ x) y h
 | .convert s d x=>gj P ρ o s d (ρ x) h
 | .makeFunc fn first captured=>some (.val (.func fn (first.map ρ) (captured.map ρ)),h)
 | .makeMap _ none=>some (.val (.map (some h.next)),h.push (.tab []))
 | .slice t x lo hi mx=>ovl (bC P t (ρ x) (lo.map ρ) (hi.map ρ) (mx.map ρ) h) h
 | .fieldAddr s x f=>ovl (kh P s (ρ x) f) h
 | .field t x f=>ovl (jJ P t (ρ x) f) h
 | .indexAddr t x i=>ovl (cV P t (ρ x) (ρ i)) h
 | .index t x i=>ne P t (ρ x) (ρ i) h
 | .lookup t m k ok=>ovl (dU P t (ρ m) (ρ k) ok h) h
 | .mapUpdate t m k v=>osk (gx P t (ρ m) (ρ k) (ρ v) h)
 | .extract x i=>ovl (iU (ρ x) i) h
 | .call c=>opCall P ρ o c h
 | .unOp op _ x=>aUn P ρ o op (ρ x) h
 |_=>none
structure St where
 tmps:Tr Value
 size:Nat
 heap:Heap
def dA(l:Tr Value):Operand->Value
 | .tmp t=>dC l t
 | .const v=>v
 | .global g=> .pointer (some ⟨g,0,none⟩)
 | .func f=> .func (.func f) #[] #[]
def bc(G:Nat):Operand->Bool
 | .tmp _=>true
 | .const v=>noA2 v
 | .global g=>Nat.ble (g+1) G
 | .func _=>true
def St.put(s:St)(E:Option Tmp)(v:Value):Option St:=
 match E with
 |some d=>bif Nat.ble (d+1) s.size then some {s with tmps:=lset s.tmps d v} else none
 |none=>some s
abbrev cT:=FuncId->List Value->Heap->Option (Value×Heap)
def ny(ops:Array Oper)(l:Tr Value)(j:Nat):Option Bool:=
 match (ops[j]?).bind (·.dst) with
 |some d=>
  match dC l d with
  | .bool b=>some b
  |_=>none
 |none=>none
def aX(ops:Array Oper)(o:Oper)(l:Tr Value):Bool:=
 match o.guard with
 |none=>true
 |some (j,want)=>ny ops l j==some want
def step(P:Program)(G:Nat)(cf:cT)(ops:Array Oper)(o:Oper)(s:St):Option St:=
 bif aX ops o s.tmps then
  bif o.op.operands.toList.all (bc G) then
   match aop P (dA s.tmps) o s.heap with
   |some (.val v,h)=>{s with heap:=h}.put o.dst v
   |some (.skip,h)=>{s with heap:=h}.put o.dst undef
   |some (.enter f args,h)=>
    match cf f args h with
    |some (v,h')=>{s with heap:=h'}.put o.dst v
    |none=>none
   |none=>none
  else none
 else s.put o.dst undef
def hL(P:Program)(G:Nat)(cf:cT)(ops:Array Oper)(l:List Oper):St->Option St:=
 List.rec (motive:=λ_=>St->Option St) (λs=>some s) (λo _ ih s=>Option.rec (motive:=λ_=>Option St) none (λE=>ih E) (step P G cf ops o s)) l
theorem kD(P:Program)(G:Nat)(cf:cT)(ops:Array Oper)(s:St):hL P G cf ops [] s=some s:=rfl
theorem cw(P:Program)(G:Nat)(cf:cT)(ops:Array Oper)(o:Oper)(os:List Oper)(s:St):
  hL P G cf ops (o::os) s=match step P G cf ops o s with|some E=>hL P G cf ops os E|none=>none:=by
 show Option.rec (motive:=λ_=>Option St) none (λE=>hL P G cf ops os E) (step P G cf ops o s)=_
 cases step P G cf ops o s<;>rfl
def aR:Op->Bool
 | .move _| .assign _| .pick _ _ _| .build _ _| .nilCheck _| .binOp _ _ _ _ _| .unOp _ _ _| .extract _ _| .field _ _ _| .index _ _ _| .fieldAddr _ _ _| .indexAddr _ _ _| .makeFunc _ _ _=>true
 |_=>false
def ancs:List Oper->List Nat->List Nat
 | [],acc=>acc
 |o::os,acc=>ancs os (acc++[o.after.toList.foldl (λs e=>bif Region.binds .any e then s|||2^e.on|||N acc e.on 0 else s) 0])
def cJ(ops:Array Oper):List Nat:=ancs ops.toList []
def aY(l:List Nat)(i j:Nat):Bool:=(N l j 0).testBit i
def jU(ops:Array Oper):Bool:=
 let l:=cJ ops
 (List.range ops.size).all λj=>
  match ops[j]? with
  |none=>false
  |some o=>
   (o.after.toList.all λe=> !Region.binds .any e||Nat.ble (e.on+1) j)&&
   (match o.op with| .select _ _=>false|_=>true)&&
   (List.range j).all λi=>
    match ops[i]? with
    |none=>false
    |some x=>aY l i j||x.apart ops o
inductive Inf where
 |v
 |a (b:Nat)
 |l (b:Nat)
 |x (w:List Nat)
def eG:Op->Bool
 | .alloc _| .box _ _| .buildSlice _ _ _| .makeMap _ none=>true
 |_=>false
def memB(b:Nat):List Nat->Bool
 | []=>false
 |c::l=>Nat.beq b c||memB b l
def eN(n:Nat):List Nat->List Nat
 | []=> []
 |c::l=>bif Nat.ble n c then eN n l else c::eN n l
def isNilL{α:Type}:List α->Bool
 | []=>true
 |_=>false
def dZ:Inf->Inf->Bool
 | .v,_=>true
 |_,.v=>true
 | .a b,.x w=> !memB b w
 | .a _,_=>true
 |_,.a _=>true
 | .l _,.l _=>true
 | .l b,.x w=> !memB b w
 | .x w,.l b=> !memB b w
 | .x w,.x u=>isNilL w&&isNilL u
def fc(ops:Array Oper)(o:Oper)(s:St)(n:Nat)(log:List Nat):Inf:=
 bif !aX ops o s.tmps||aR o.op then .v
 else bif eG o.op then .a n
 else
  match o.op with
  | .load _ a=>
   match dA s.tmps a with
   | .pointer (some p)=> .l p.block
   |_=> .x (eN n log)
  | .slice _ x _ _ _=>
   match dA s.tmps x with
   | .slice (some p) _ _=> .l p.block
   | .slice none _ _=> .v
   |_=> .x (eN n log)
  | .call ⟨.builtin .len,xs,_⟩=>
   match eu (dA s.tmps) xs.toList with
   | [.slice _ _ _]=> .v
   | [.string _]=> .v
   |_=> .x (eN n log)
  |_=> .x (eN n log)
def ji(P:Program)(G:Nat)(cf:cT)(ops:Array Oper)(o:Oper)(s:St):Option (St×Inf):=
 match step P G cf ops o {s with heap:={s.heap with log:=[]}} with
 |some t=>some ({t with heap:={t.heap with log:=eN s.heap.next t.heap.log++s.heap.log}},fc ops o s s.heap.next t.heap.log)
 |none=>none
def jy:Op->Bool
 | .store _ _ _=>true
 |_=>false
def stAt(ops:Array Oper)(j:Nat):Bool:=match ops[j]? with
 |some o=>jy o.op
 |none=>false
def disjL:List Nat->List Nat->Bool
 | [],_=>true
 |b::l,u=> !memB b u&&disjL l u
def disjI:Inf->Inf->Bool
 | .x w,.x u=>disjL w u
 |_,_=>false
def stst(ops:Array Oper)(j i:Nat)(g f:Inf):Bool:=stAt ops j&&(stAt ops i&&disjI g f)
def cM(ops:Array Oper)(l:List Nat)(i:Nat)(f:Inf):List (Nat×Inf)->Bool
 | []=>true
 |(j,g)::fs=>(aY l j i||(dZ g f||stst ops j i g f))&&cM ops l i f fs
def bz(P:Program)(G:Nat)(cf:cT)(ops:Array Oper):Nat->List (Nat×Inf)->List Oper->St->Option St
 |_,_,[],s=>some s
 |i,fs,o::os,s=>
  match ji P G cf ops o s with
  |some (s',f)=>bif cM ops (cJ ops) i f fs then bz P G cf ops (i+1) ((i,f)::fs) os s' else none
  |none=>none
def cg(P:Program)(G:Nat)(cf:cT)(ops:Array Oper)(E:Bool)(s:St):Option St:=
 bif E then
  bif jU ops&&P.follows .mixedOrders then bz P G cf ops 0 [] ops.toList s else none
 else hL P G cf ops ops.toList s
inductive Ex where
 |normal
 |exit (id:Nat)
 |ret
def eS(r:Option St):Option (Ex×St):=
 match r with
 |some s'=>some (.normal,s')
 |none=>none
def iw(r:Option (Ex×St))(k:St->Option (Ex×St)):Option (Ex×St):=
 match r with
 |some (.normal,s')=>k s'
 |some (.exit i,s')=>some (.exit i,s')
 |some (.ret,s')=>some (.ret,s')
 |none=>none
def nY(v:Value)(t e:Option (Ex×St)):Option (Ex×St):=
 match v with
 | .bool b=>bif b then t else e
 |_=>none
def dT(id:Nat)(r:Option (Ex×St)):Option (Ex×St):=
 match r with
 |some (.exit i,s')=>bif Nat.beq i id then some (.normal,s') else some (.exit i,s')
 |some (.normal,s')=>some (.normal,s')
 |some (.ret,s')=>some (.ret,s')
 |none=>none
def fQ(P:Program)(G:Nat)(rec_:Code->St->Option (Ex×St))(cf:cT)(c:Code):St->Option (Ex×St):=
 Code.rec (motive:=λ_=>St->Option (Ex×St))
  (λs=>some (.normal,s))
  (λ_ ops E s=>eS (cg P G cf ops E s))
  (λ_ _ O T s=>iw (O s) T)
  (λc _ _ Z U s=>bif bc G c then nY (dA s.tmps c) (Z s) (U s) else none)
  (λid _ ih s=>dT id (ih s))
  (λb ih s=>iw (ih s) (rec_ (.loop b)))
  (λ_ _ _ _ _ _ _=>none)
  (λid s=>some (.exit id,s))
  (λ_ _ _=>none)
  (λ_ _=>none)
  (λ_ _=>none)
  (λs=>some (.ret,s))
  (λ_ _=>none) c
section
variable (P:Program) (G:Nat) (rec_:Code->St->Option (Ex×St)) (cf:cT) (s:St)
theorem nV:fQ P G rec_ cf .skip s=some (.normal,s):=rfl
theorem iu(id:Nat)(ops:Array Oper)(E:Bool):fQ P G rec_ cf (.region id ops E) s=eS (cg P G cf ops E s):=rfl
theorem mQ(a b:Code):fQ P G rec_ cf (.seq a b) s=iw (fQ P G rec_ cf a s) (fQ P G rec_ cf b):=rfl
theorem kL(c:Operand)(t e:Code):fQ P G rec_ cf (.cond c t e) s=
  bif bc G c then nY (dA s.tmps c) (fQ P G rec_ cf t s) (fQ P G rec_ cf e s) else none:=rfl
theorem jC(id:Nat)(b:Code):fQ P G rec_ cf (.block id b) s=dT id (fQ P G rec_ cf b s):=rfl
theorem kK(b:Code):fQ P G rec_ cf (.loop b) s=iw (fQ P G rec_ cf b s) (rec_ (.loop b)):=rfl
theorem nW(id:Nat):fQ P G rec_ cf (.exit id) s=some (.exit id,s):=rfl
theorem execC_ret:fQ P G rec_ cf .ret s=some (.ret,s):=rfl
end
def dz(P:Program)(s:St):List ResultVar->Option (List Value)
 | []=>some []
 | .tmp t::rs=>
  match dz P s rs with
  |some l=>some (dC s.tmps t::l)
  |none=>none
 | .cell a t::rs=>
  match dC s.tmps a with
  | .pointer (some p)=>
   match s.heap.loadV P t p,dz P s rs with
   |some v,some l=>some (v::l)
   |_,_=>none
  |_=>none
def fZ:List Value->Value
 | [v]=>v
 |l=> .tuple ⟨l⟩
def pH(P:Program)(ex:Code->St->Option (Ex×St)):cT:=λf args h=>
 match P.funcs[f]? with
 |some fn=>
  match fn.body with
  |some c=>
   match ex c {tmps:=gX 0 args .nil,size:=Nat.max (J args) fn.ntmps,heap:=h} with
   |some (.normal,s)=>
    match dz P s fn.results.toList with
    |some l=>some (fZ l,s.heap)
    |none=>none
   |some (.ret,s)=>
    match dz P s fn.results.toList with
    |some l=>some (fZ l,s.heap)
    |none=>none
   |_=>none
  |none=>none
 |none=>none
abbrev bJ:=FuncId->List Value->Heap->Option Value
def mX(K:bJ)(cf:cT):cT:=λf args h=>
 match K f args h with
 |some v=>some (v,h)
 |none=>cf f args h
def nX(P:Program)(G:Nat)(K:bJ):Nat->Code->St->Option (Ex×St)
 |0=>λ_ _=>none
 |n+1=>fQ P G (nX P G K n) (mX K (pH P (nX P G K n)))
def call(P:Program)(G:Nat)(K:bJ)(n:Nat):cT:=mX K (pH P (nX P G K n))
def noneKnown:bJ:=λ_ _ _=>none
def saysTrue(r:Option (Value×Heap)):Bool:=match r with|some (.bool true,_)=>true|_=>false
end Go.R
end
