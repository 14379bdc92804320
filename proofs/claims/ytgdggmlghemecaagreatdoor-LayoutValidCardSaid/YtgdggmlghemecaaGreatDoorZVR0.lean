/-
An evaluator for the part of the model that is used: definitions.
-/
import Derived.Calls
import Derived.Orders
import Derived.Laws.Sem
import Derived.Laws.World
import Derived.Laws.Entries
import Derived.Laws.Cells
noncomputable section
set_option linter.unusedVariables false
set_option linter.unusedSimpArgs false
namespace Go.R
theorem V.{u}{α:Sort u}{a:α}:a=a:=rfl
theorem M{p:Prop}(h:p:=by first|omega|(dsimp only;omega)|(simp only[List.length_append,List.length_cons,List.length_nil];omega)):p:=h
theorem X{p:Prop}(h:p:=by assumption):p:=h
theorem e_{p:Prop}(h:p:=by decide):p:=h
abbrev a00:= @Option.some.injEq
abbrev a01:= @List.length_append
abbrev a02:= @List.getD_eq_getElem?_getD
abbrev a03:= @List.sublist_append_left
abbrev a04:= @Prod.mk.injEq
abbrev a05:= @List.length_cons
abbrev a06:= @List.getElem?_eq_getElem
abbrev a07:= @List.mem_append
abbrev a08:= @List.mem_singleton
abbrev a09:= @Bool.and_eq_true
abbrev a0a:= @Nat.le_of_ble_eq_true
abbrev a0b:= @List.length_nil
abbrev a0c:= @Nat.eq_of_beq_eq_true
abbrev a0d:= @Nat.le_refl
abbrev a0e:= @Nat.le_trans
abbrev a0f:= @List.mem_cons_of_mem
abbrev a0g:= @Nat.lt_or_ge
abbrev a0h:= @List.length_set
abbrev a0i:= @List.take_of_length_le
abbrev a0j:= @List.length_singleton
abbrev a0k:= @List.not_mem_nil
abbrev a0l:= @List.append_assoc
abbrev a0m:= @List.all_eq_true
abbrev a0n:= @List.mem_cons_self
abbrev a0o:= @List.append_nil
abbrev a0p:= @List.length_take
abbrev a0q:= @Option.bind_some
abbrev a0r:= @List.mem_of_getElem?
abbrev a0s:= @Bool.eq_iff_iff
abbrev a0t:= @List.mem_iff_getElem
abbrev a0u:= @List.mem_map
abbrev a0v:= @List.mem_cons
abbrev a0w:= @List.getElem?_eq_some_iff
abbrev a0x:= @Nat.ble_eq_true_of_le
abbrev a0y:= @List.eq_nil_of_length_eq_zero
abbrev a0z:= @List.getElem?_take
abbrev a0A:= @Bool.or_eq_true
abbrev a0B:= @Nat.not_lt_zero
abbrev a0C:= @Nat.mul_le_mul_right
abbrev a0D:= @Nat.zero_le
abbrev a0E:= @Int.toNat_natCast
abbrev a0F:= @List.all_cons
abbrev a0G:= @Bool.not_eq_true'
abbrev a0H:= @List.length_drop
abbrev a0I:= @Option.getD_some
abbrev a0J:= @List.getElem?_eq_none
abbrev a0K:= @Array.getElem?_eq_some_iff
abbrev a0L:= @List.getElem?_drop
abbrev a0M:= @List.getElem?_append_left
abbrev a0N:= @Array.getElem?_eq_getElem
abbrev a0O:= @List.length_replicate
abbrev a0P:= @Bool.false_eq_true
abbrev a0Q:= @List.flatten_cons
abbrev a0R:= @List.flatten_append
abbrev a0S:= @List.mem_flatten
abbrev a0T:= @List.take_length
abbrev a0U:= @List.getElem?_append_right
abbrev a0V:= @Nat.lt_of_lt_of_le
abbrev a0W:= @List.getElem?_cons_zero
abbrev a0X:= @List.Perm.append_left
abbrev a0Y:= @Int.toNat_of_nonneg
abbrev a0Z:= @List.cons_append
abbrev a10:= @List.getElem_mem
abbrev a11:= @Array.getD_eq_getD_getElem?
abbrev a12:= @List.map_append
abbrev a13:= @List.take_append_drop
abbrev a14:= @List.getElem?_map
abbrev a15:= @Nat.beq_refl
abbrev a16:= @Nat.add_mul
abbrev a17:= @Bool.and_true
abbrev a18:= @List.nil_append
abbrev a19:= @List.perm_append_comm_assoc
abbrev a1a:= @List.length_filter_le
abbrev a1b:= @Nat.lt_succ_self
abbrev a1c:= @Int.eq_ofNat_of_zero_le
abbrev a1d:= @List.getElem?_replicate
abbrev a1e:= @Int.tdiv_eq_ediv_of_nonneg
abbrev a1f:= @List.drop_eq_getElem_cons
abbrev a1g:= @Nat.zero_add
abbrev a1h:= @List.perm_append_comm
abbrev a1i:= @Array.getElem?_setIfInBounds
abbrev a1j:= @List.drop_zero
abbrev a1k:= @List.mem_of_mem_take
abbrev a1l:= @Bool.or_eq_false_iff
abbrev a1m:= @Array.toList_inj
abbrev a1n:= @Array.size_eq_zero_iff
abbrev a1o:= @List.ext_getElem?
abbrev a1p:= @List.nodup_append
abbrev a1q:= @Int.le_refl
abbrev a1r:= @Bool.eq_false_iff
abbrev a1s:= @Bool.and_self
abbrev a1t:= @Nat.succ_mul
abbrev a1u:= @List.length_map
abbrev a1v:= @List.mem_append_right
abbrev a1w:= @Nat.le_max_right
abbrev a1x:= @Nat.add_assoc
abbrev a1y:= @Nat.min_eq_left
abbrev a1z:= @List.perm_append_right_iff
abbrev a1A:= @Int.fdiv_eq_ediv_of_nonneg
abbrev a1B:= @Nat.succ_le_succ
abbrev a1C:= @List.filter_cons
abbrev a1D:= @List.all_nil
abbrev a1E:= @Int.natCast_nonneg
abbrev a1F:= @Int.le_trans
abbrev a1G:= @Nat.add_le_add
abbrev a1H:= @List.mem_append_left
abbrev a1I:= @Array.getElem?_setIfInBounds_ne
abbrev a1J:= @List.getElem?_cons_succ
abbrev a1K:= @List.map_cons
abbrev a1L:= @Bool.true_and
abbrev a1M:= @Bool.not_true
abbrev a1N:= @Bool.not_false
abbrev a1O:= @Bool.and_false
abbrev a1P:= @List.drop_eq_nil_of_le
abbrev a1Q:= @Array.ext_getElem?
abbrev a1R:= @Nat.eq_zero_or_pos
abbrev a1S:= @Nat.sub_self
abbrev a1T:= @List.getElem?_set
abbrev a1U:= @Bool.or_false
abbrev a1V:= @Int.tmod_eq_emod_of_nonneg
abbrev a1W:= @List.getElem?_set_ne
abbrev a1X:= @Nat.pow_lt_pow_right
abbrev a1Y:= @Bool.false_and
abbrev a1Z:= @Nat.shiftRight_eq_div_pow
abbrev a20:= @List.pairwise_iff_getElem
abbrev a21:= @Array.length_toList
abbrev a22:= @Int.natCast_mul
abbrev a23:= @Nat.lt_irrefl
abbrev a24:= @List.mem_filter
abbrev a25:= @Nat.le_max_left
abbrev a26:= @List.set_cons_succ
abbrev a27:= @Option.map_none
abbrev a28:= @Bool.not_eq_false'
abbrev a29:= @List.sum_cons
abbrev a2a:= @Nat.eq_or_lt_of_le
abbrev a2b:= @Nat.add_sub_cancel_left
abbrev a2c:= @Option.map_eq_some_iff
abbrev a2d:= @List.mem_range
abbrev a2e:= @Nat.le_of_lt
abbrev a2f:= @List.getElem?_toArray
abbrev a2g:= @Array.toList_map
abbrev a2h:= @Nat.min_eq_right
abbrev a2i:= @List.take_append
abbrev a2j:= @Nat.shiftLeft_eq
abbrev a2k:= @List.getElem?_append
abbrev a2l:= @Array.map_congr_left
abbrev a2m:= @Nat.pow_le_pow_right
abbrev a2n:= @List.pairwise_append
abbrev a2o:= @List.mem_of_mem_drop
abbrev a2p:= @List.foldl_cons
abbrev a2q:= @List.all_append
abbrev a2r:= @List.cons.injEq
abbrev a2s:= @Option.map_some
abbrev a2t:= @List.getD_cons_succ
abbrev a2u:= @List.flatMap_append
abbrev a2v:= @Int.natCast_pow
abbrev a2w:= @Nat.add_zero
abbrev a2x:= @List.drop_take
abbrev a2y:= @List.mapM_cons
abbrev a2z:= @List.take_take
inductive Tr(α:Type) where
 |nil
 |node (l:Tr α) (v:Option α) (r:Tr α)
def Tr.get{α:Type}(t:Tr α):Nat->Option α:=
 Tr.rec (motive:=fun _=>Nat->Option α) (fun _=>none)
  (fun _ v _ E N n=>Nat.rec (motive:=fun _=>Option α) v
   (fun m _=>Bool.rec (motive:=fun _=>Option α) (N (Nat.div m 2)) (E (Nat.div m 2)) (Nat.beq (Nat.mod m 2) 0)) n) t
def Tr.setF{α:Type}(f:Nat):Tr α->Nat->α->Tr α:=
 Nat.rec (motive:=fun _=>Tr α->Nat->α->Tr α) (fun t _ _=>t)
  (fun _ E t n v=>Nat.rec (motive:=fun _=>Tr α)
   (Tr.rec (motive:=fun _=>Tr α) (.node .nil (some v) .nil) (fun l _ r _ _=> .node l (some v) r) t)
   (fun m _=>Tr.rec (motive:=fun _=>Tr α)
    (Bool.rec (motive:=fun _=>Tr α) (.node .nil none (E .nil (Nat.div m 2) v)) (.node (E .nil (Nat.div m 2) v) none .nil) (Nat.beq (Nat.mod m 2) 0))
    (fun l o r _ _=>Bool.rec (motive:=fun _=>Tr α) (.node l o (E r (Nat.div m 2) v)) (.node (E l (Nat.div m 2) v) o r) (Nat.beq (Nat.mod m 2) 0)) t) n) f
def Tr.set{α:Type}(t:Tr α)(n:Nat)(v:α):Tr α:=Tr.setF (Nat.succ n) t n v
theorem Tr.get_even{α:Type}(l r:Tr α)(v:Option α)(m:Nat)(h:Nat.beq (m%2) 0=true):(Tr.node l v r).get (m+1)=l.get (m/2):=by show Bool.rec (motive:=fun _=>Option α) (r.get (m/2)) (l.get (m/2)) (Nat.beq (m%2) 0)=_;rw[h]
theorem Tr.get_odd{α:Type}(l r:Tr α)(v:Option α)(m:Nat)(h:Nat.beq (m%2) 0=false):(Tr.node l v r).get (m+1)=r.get (m/2):=by show Bool.rec (motive:=fun _=>Option α) (r.get (m/2)) (l.get (m/2)) (Nat.beq (m%2) 0)=_;rw[h]
theorem Tr.set_nil_zero{α:Type}(f:Nat)(x:α):Tr.setF (f+1) .nil 0 x= .node .nil (some x) .nil:=rfl
theorem Tr.set_node_zero{α:Type}(f:Nat)(l r:Tr α)(v:Option α)(x:α):Tr.setF (f+1) (.node l v r) 0 x= .node l (some x) r:=rfl
theorem Tr.set_nil_even{α:Type}(f m:Nat)(x:α)(h:Nat.beq (m%2) 0=true):Tr.setF (f+1) .nil (m+1) x= .node (Tr.setF f .nil (m/2) x) none .nil:=by show Bool.rec (motive:=fun _=>Tr α) (.node .nil none (Tr.setF f .nil (m/2) x)) (.node (Tr.setF f .nil (m/2) x) none .nil) (Nat.beq (m%2) 0)=_;rw[h]
theorem Tr.set_nil_odd{α:Type}(f m:Nat)(x:α)(h:Nat.beq (m%2) 0=false):Tr.setF (f+1) .nil (m+1) x= .node .nil none (Tr.setF f .nil (m/2) x):=by show Bool.rec (motive:=fun _=>Tr α) (.node .nil none (Tr.setF f .nil (m/2) x)) (.node (Tr.setF f .nil (m/2) x) none .nil) (Nat.beq (m%2) 0)=_;rw[h]
theorem Tr.set_node_even{α:Type}(f m:Nat)(l r:Tr α)(v:Option α)(x:α)(h:Nat.beq (m%2) 0=true):Tr.setF (f+1) (.node l v r) (m+1) x= .node (Tr.setF f l (m/2) x) v r:=by show Bool.rec (motive:=fun _=>Tr α) (.node l v (Tr.setF f r (m/2) x)) (.node (Tr.setF f l (m/2) x) v r) (Nat.beq (m%2) 0)=_;rw[h]
theorem Tr.set_node_odd{α:Type}(f m:Nat)(l r:Tr α)(v:Option α)(x:α)(h:Nat.beq (m%2) 0=false):Tr.setF (f+1) (.node l v r) (m+1) x= .node l v (Tr.setF f r (m/2) x):=by show Bool.rec (motive:=fun _=>Tr α) (.node l v (Tr.setF f r (m/2) x)) (.node (Tr.setF f l (m/2) x) v r) (Nat.beq (m%2) 0)=_;rw[h]
theorem Tr.get_setF_same{α:Type}(v:α): ∀(f:Nat) (t:Tr α) (n:Nat),n<f->(Tr.setF f t n v).get n=some v:=by
 intro f;induction f with
 |zero=>intro t n h;omega
 |succ f ih=>
  intro t n h
  cases n with
  |zero=>cases t<;>rfl
  |succ m=>
   have N:m/2<f:=M
   cases E:Nat.beq (m%2) 0<;>cases t
   ·rw[Tr.set_nil_odd f m v E,Tr.get_odd _ _ _ m E,ih _ _ N]
   ·rw[Tr.set_node_odd f m _ _ _ v E,Tr.get_odd _ _ _ m E,ih _ _ N]
   ·rw[Tr.set_nil_even f m v E,Tr.get_even _ _ _ m E,ih _ _ N]
   rw[Tr.set_node_even f m _ _ _ v E,Tr.get_even _ _ _ m E,ih _ _ N]
theorem Tr.get_setF_ne{α:Type}(v:α): ∀(f:Nat) (t:Tr α) (n k:Nat),n≠k->(Tr.setF f t n v).get k=t.get k:=by
 intro f;induction f with
 |zero=>intro t n k _;rfl
 |succ f ih=>
  intro t n k h
  have par: ∀m:Nat,(Nat.beq (m%2) 0=true/\m%2=0)\/(Nat.beq (m%2) 0=false/\m%2=1):=by
   intro m;rcases Nat.mod_two_eq_zero_or_one m with e|e
   ·exact .inl ⟨by rw[e];rfl,e⟩
   exact .inr ⟨by rw[e];rfl,e⟩
  cases n with
  |zero=>
   cases k with
   |zero=>exact absurd V h
   |succ j=>
    rcases par j with⟨E,_⟩|⟨E,_⟩<;>cases t
    ·rw[Tr.set_nil_zero,Tr.get_even _ _ _ j E];rfl
    ·rw[Tr.set_node_zero,Tr.get_even _ _ _ j E,Tr.get_even _ _ _ j E]
    ·rw[Tr.set_nil_zero,Tr.get_odd _ _ _ j E];rfl
    rw[Tr.set_node_zero,Tr.get_odd _ _ _ j E,Tr.get_odd _ _ _ j E]
  |succ m=>
   cases k with
   |zero=>
    rcases par m with⟨E,_⟩|⟨E,_⟩<;>cases t
    ·rw[Tr.set_nil_even f m v E];rfl
    ·rw[Tr.set_node_even f m _ _ _ v E];rfl
    ·rw[Tr.set_nil_odd f m v E];rfl
    rw[Tr.set_node_odd f m _ _ _ v E];rfl
   |succ j=>
    rcases par m with⟨E,T⟩|⟨E,T⟩<;>rcases par j with⟨hc,U⟩|⟨hc,U⟩
    ·have N:m/2≠j/2:=M
     cases t
     ·rw[Tr.set_nil_even f m v E,Tr.get_even _ _ _ j hc,ih _ _ _ N];rfl
     rw[Tr.set_node_even f m _ _ _ v E,Tr.get_even _ _ _ j hc,Tr.get_even _ _ _ j hc,ih _ _ _ N]
    ·cases t
     ·rw[Tr.set_nil_even f m v E,Tr.get_odd _ _ _ j hc];rfl
     rw[Tr.set_node_even f m _ _ _ v E,Tr.get_odd _ _ _ j hc,Tr.get_odd _ _ _ j hc]
    ·cases t
     ·rw[Tr.set_nil_odd f m v E,Tr.get_even _ _ _ j hc];rfl
     rw[Tr.set_node_odd f m _ _ _ v E,Tr.get_even _ _ _ j hc,Tr.get_even _ _ _ j hc]
    have N:m/2≠j/2:=M
    cases t
    ·rw[Tr.set_nil_odd f m v E,Tr.get_odd _ _ _ j hc,ih _ _ _ N];rfl
    rw[Tr.set_node_odd f m _ _ _ v E,Tr.get_odd _ _ _ j hc,Tr.get_odd _ _ _ j hc,ih _ _ _ N]
@[simp] theorem Tr.get_set_same{α:Type}(t:Tr α)(n:Nat)(v:α):(t.set n v).get n=some v:=Tr.get_setF_same v _ _ _ M
theorem Tr.get_set_ne{α:Type}(t:Tr α){n k:Nat}(v:α)(h:n≠k):(t.set n v).get k=t.get k:=Tr.get_setF_ne v _ _ _ _ h
def nth{α:Type}(l:List α):Nat->Option α:=
 List.rec (motive:=fun _=>Nat->Option α) (fun _=>none) (fun v _ E n=>Nat.rec (motive:=fun _=>Option α) (some v) (fun m _=>E m) n) l
def dY{α:Type}(l:List α):Nat->List α:=
 List.rec (motive:=fun _=>Nat->List α) (fun _=> []) (fun v t E n=>Nat.rec (motive:=fun _=>List α) (v::t) (fun m _=>E m) n) l
def dU{α:Type}(l:List α):Nat->List α:=
 List.rec (motive:=fun _=>Nat->List α) (fun _=> []) (fun v _ E n=>Nat.rec (motive:=fun _=>List α) [] (fun m _=>v::E m) n) l
def eB{α:Type}(l:List α):Nat:=List.rec (motive:=fun _=>Nat) 0 (fun _ _ E=>Nat.succ E) l
def appL{α:Type}(l m:List α):List α:=List.rec (motive:=fun _=>List α) m (fun v _ E=>v::E) l
def mU{α:Type}(p:α->Bool)(l:List α):Bool:=List.rec (motive:=fun _=>Bool) true (fun v _ E=>Bool.rec (motive:=fun _=>Bool) false E (p v)) l
def dF{α β:Type}(f:α->β)(l:List α):List β:=List.rec (motive:=fun _=>List β) [] (fun v _ E=>f v::E) l
theorem ga{α:Type}: ∀(l:List α) (n:Nat),nth l n=l[n]?
 | [],_=>rfl
 |_::_,0=>rfl
 |_::l,n+1=>by rw[a1J,←ga l n];rfl
theorem bU{α:Type}: ∀(l:List α) (n:Nat),dY l n=l.drop n
 | [],n=>by simp;rfl
 |_::_,0=>rfl
 |_::l,n+1=>by rw[List.drop_succ_cons,←bU l n];rfl
theorem bS{α:Type}: ∀(l:List α) (n:Nat),dU l n=l.take n
 | [],n=>by simp;rfl
 |_::_,0=>rfl
 |_::l,n+1=>by rw[List.take_succ_cons,←bS l n];rfl
theorem bA{α:Type}: ∀(l:List α),eB l=l.length
 | []=>rfl
 |_::l=>by rw[a05,←bA l];rfl
theorem dO{α:Type}(m:List α): ∀(l:List α),appL l m=l++m
 | []=>rfl
 |_::l=>by rw[a0Z,←dO m l];rfl
theorem od{α:Type}(p:α->Bool): ∀(l:List α),mU p l=l.all p
 | []=>rfl
 |v::l=>by rw[a0F,←od p l];show Bool.rec (motive:=fun _=>Bool) false (mU p l) (p v)=_;cases p v<;>rfl
theorem je{α β:Type}(f:α->β): ∀(l:List α),dF f l=l.map f
 | []=>rfl
 |v::l=>by rw[a1K,←je f l];rfl
inductive AObj where
 |cells (cs:List Value) (opn:Option Nat) (ro:Bool)
 |iter (s:ByteArray) (pos:Nat)
 |tab (es:List (Value×Value))
 |dead
def AObj.rw:AObj->Bool
 | .cells _ _ ro=> !ro
 | .dead=>false
 |_=>true
def AObj.live:AObj->Bool
 | .dead=>false
 |_=>true
structure Heap where
 tr:Tr AObj
 next:Nat
 log:List Nat
def Heap.get(h:Heap)(b:Nat):Option AObj:=h.tr.get b
def Heap.put(h:Heap)(b:Nat)(o:AObj):Heap:={tr:=h.tr.set b o,next:=h.next,log:=b::h.log}
def Heap.push(h:Heap)(o:AObj):Heap:={tr:=h.tr.set h.next o,next:=h.next+1,log:=h.log}
def Heap.empty:Heap:={tr:= .nil,next:=0,log:=[]}
@[simp] theorem Heap.get_put_same(h:Heap)(b:Nat)(o:AObj):(h.put b o).get b=some o:=by simp[Heap.get,Heap.put]
theorem Heap.get_put_ne(h:Heap){b k:Nat}(o:AObj)(E:b≠k):(h.put b o).get k=h.get k:=by simp[Heap.get,Heap.put,Tr.get_set_ne _ _ E]
@[simp] theorem Heap.get_push_same(h:Heap)(o:AObj):(h.push o).get h.next=some o:=by simp[Heap.get,Heap.push]
theorem Heap.get_push_ne(h:Heap){k:Nat}(o:AObj)(E:h.next≠k):(h.push o).get k=h.get k:=by simp[Heap.get,Heap.push,Tr.get_set_ne _ _ E]
@[simp] theorem Heap.next_put(h:Heap)(b:Nat)(o:AObj):(h.put b o).next=h.next:=rfl
@[simp] theorem Heap.next_push(h:Heap)(o:AObj):(h.push o).next=h.next+1:=rfl
@[simp] theorem Heap.log_push(h:Heap)(o:AObj):(h.push o).log=h.log:=rfl
@[simp] theorem Heap.log_put(h:Heap)(b:Nat)(o:AObj):(h.put b o).log=b::h.log:=rfl
def noA0:Value->Bool
 | .bool _| .int _ _| .float _ _| .complex _ _ _| .string _=>true
 | .pointer none| .map none| .chan none| .nilFunc| .nilIface=>true
 | .slice none n k=>Nat.beq n 0&&Nat.beq k 0
 | .func _ f c=>Nat.beq f.size 0&&Nat.beq c.size 0
 |_=>false
def jT:Value->Bool
 | .agg cs=>cs.toList.all noA0
 |v=>noA0 v
def noA2:Value->Bool
 | .tuple vs=>vs.toList.all jT
 |v=>jT v
def aJ{α:Type}(P:Program):Sem α->Option α
 | .pure a=>some a
 | .program k=>aJ P (k P)
 | .mark _ k=>aJ P k
 |_=>none
def cS(t:Tr Value)(n:Nat):Value:=
 match t.get n with
 |some v=>v
 |none=>undef
def lset(t:Tr Value)(n:Nat)(v:Value):Tr Value:=t.set n v
def fO:Nat->List Value->Tr Value->Tr Value
 |_,[],t=>t
 |i,v::l,t=>fO (i+1) l (lset t i v)
def over:List Value->List Value->List Value
 |_::cs,v::vs=>v::over cs vs
 |cs,_=>cs
def bc:List Value->Nat->List Value->List Value
 |cs,0,vs=>over cs vs
 | [],_+1,_=> []
 |c::cs,n+1,vs=>c::bc cs n vs
def cp:Nat->List Value->List Value
 |0,_=> []
 |n+1,l=>l++cp n l
def cZ(P:Program)(t:TypeId):Option Nat:=
 match P.info? t with
 |some i=>some i.size
 |none=>none
def eN(P:Program)(t:TypeId):Option Nat:=
 match P.info? t with
 |some i=>some i.bytes
 |none=>none
def cy(P:Program)(t:TypeId):Option (List Value):=
 match P.info? t with
 |some i=>
  match i.zero with
  |some z=>bif z.cells.toList.all noA0 then some z.cells.toList else none
  |none=>none
 |none=>none
def eX(P:Program)(t:TypeId):Option Bool:=
 match P.underlying t with
 |some (.struct _)|some (.array _ _)=>some true
 |some _=>some false
 |none=>none
def Heap.cellAt(h:Heap)(a:Addr):Option Value:=
 match a with
 |⟨b,o,none⟩=>
  match h.get b with
  |some (.cells cs _ _)=>nth cs o
  |_=>none
 |_=>none
def Heap.loadN(h:Heap)(a:Addr)(n:Nat):Option (List Value):=
 match a with
 |⟨b,o,none⟩=>
  match h.get b with
  |some (.cells cs _ _)=>
   let l:=dU (dY cs o) n
   bif Nat.beq (eB l) n then some l else none
  |_=>none
 |_=>none
def Heap.loadV(P:Program)(h:Heap)(t:TypeId)(a:Addr):Option Value:=
 match eX P t with
 |some true=>
  match cZ P t with
  |some n=>
   match h.loadN a n with
   |some l=>some (.agg ⟨l⟩)
   |none=>none
  |none=>none
 |some false=>h.cellAt a
 |none=>none
def Heap.storeL(h:Heap)(a:Addr)(E:List Value):Option Heap:=
 match a with
 |⟨b,o,none⟩=>
  match h.get b with
  |some (.cells cs opn false)=>
   bif Nat.ble (Nat.add o (eB E)) (eB cs)&&mU Value.oneCell' E then some (h.put b (.cells (bc cs o E) opn false)) else none
  |_=>none
 |_=>none
inductive AN where
 |val (v:Value)
 |skip
 |enter (f:FuncId) (args:List Value)
def aQ(h:Heap)(cs:List Value)(E:Option Nat):Heap:=h.push (.cells cs E false)
def ptrTo(b:Nat):Value:= .pointer (some ⟨b,0,none⟩)
def lift(P:Program)(s:Sem Value)(h:Heap):Option (AN×Heap):=
 match aJ P s with
 |some v=>some (.val v,h)
 |none=>none
def bG(P:Program)(ρ:Operand->Value)(o:Oper)(h:Heap):Option (AN×Heap):=
 bif o.op.operands.toList.all fun x=>jT (ρ x) then
  match aJ P (execOp ρ o) with
  |some (.value v)=>bif noA2 v then some (.val v,h) else none
  |_=>none
 else none
def ovl(r:Option Value)(h:Heap):Option (AN×Heap):=
 match r with
 |some v=>some (.val v,h)
 |none=>none
def ovh(r:Option (Value×Heap)):Option (AN×Heap):=
 match r with
 |some (v,h)=>some (.val v,h)
 |none=>none
def osk(r:Option Heap):Option (AN×Heap):=
 match r with
 |some h=>some (.skip,h)
 |none=>none
def fK(a b:ByteArray):Bool:=a.data.toList==b.data.toList
def strOp(op:BinOp)(a b:ByteArray):Option Value:=
 match op with
 | .eql=>some (.bool (fK a b))
 | .neq=>some (.bool (!fK a b))
 | .lss=>some (.bool (Op.bytesLess a.data.toList b.data.toList))
 | .leq=>some (.bool (Op.bytesLess a.data.toList b.data.toList||fK a b))
 | .gtr=>some (.bool (!(Op.bytesLess a.data.toList b.data.toList||fK a b)))
 | .geq=>some (.bool (!Op.bytesLess a.data.toList b.data.toList))
 | .add=>
  let l:=appL a.data.toList b.data.toList
  bif Nat.ble (eB l) 1099511627776 then some (.string ⟨⟨l⟩⟩) else none
 |_=>none
def nilEq(P:Program)(t:TypeId)(x y:Value):Option Bool:=
 match P.underlying t,x,y with
 |some (.pointer _),.pointer none,.pointer b=>some b.isNone
 |some (.pointer _),.pointer a,.pointer none=>some a.isNone
 |some (.slice _),.slice none _ _,.slice b _ _=>some b.isNone
 |some (.slice _),.slice a _ _,.slice none _ _=>some a.isNone
 |some (.map _ _),.map none,.map b=>some b.isNone
 |some (.map _ _),.map a,.map none=>some a.isNone
 |some (.func _ _ _),.nilFunc,.nilFunc=>some true
 |some (.func _ _ _),.nilFunc,.func _ _ _=>some false
 |some (.func _ _ _),.func _ _ _,.nilFunc=>some false
 |_,_,_=>none
def aD(op:BinOp)(k:IntKind)(x y:Int):Int:=bits op k x y
def mA(op:BinOp)(k:IntKind)(a b:Int):Option Value:=
 match op with
 | .add=>some (.int k (k.wrap (a+b)))
 | .sub=>some (.int k (k.wrap (a-b)))
 | .mul=>some (.int k (k.wrap (a *b)))
 | .quo=>bif b==0 then none else some (.int k (k.wrap (a.tdiv b)))
 | .rem=>bif b==0 then none else some (.int k (a.tmod b))
 | .and=>some (.int k (aD .and k a b))
 | .or=>some (.int k (aD .or k a b))
 | .xor=>some (.int k (aD .xor k a b))
 | .andNot=>some (.int k (aD .andNot k a b))
 | .eql=>some (.bool (a==b))
 | .neq=>some (.bool (a !=b))
 | .lss=>some (.bool (decide (a<b)))
 | .leq=>some (.bool (decide (a<=b)))
 | .gtr=>some (.bool (decide (b<a)))
 | .geq=>some (.bool (decide (b<=a)))
 | .shl=>none
 | .shr=>none
def shiftN(k:IntKind)(y:Int):Option Nat:=
 match y with
 | .ofNat n=>some (Nat.min n k.bits)
 |_=>none
def shBin(op:BinOp)(k:IntKind)(a b:Int):Option Value:=
 match op with
 | .shl=>
  match shiftN k b with
  |some n=>some (.int k (k.wrap (a *2^n)))
  |none=>none
 | .shr=>
  match shiftN k b with
  |some n=>some (.int k (a.fdiv (2^n)))
  |none=>none
 |_=>none
def mw(k E:IntKind):Bool:=decide (k=E)
def lm:BinOp->Bool
 | .shl| .shr=>true
 |_=>false
def binInt(op:BinOp)(k:IntKind)(a:Int)(y:Value)(h:Heap):Option (AN×Heap):=
 match y with
 | .int k' b=>ovl (bif lm op then shBin op k a b else bif mw k k' then mA op k a b else none) h
 |_=>none
def binStr(op:BinOp)(a:ByteArray)(y:Value)(h:Heap):Option (AN×Heap):=
 match y with
 | .string b=>ovl (strOp op a b) h
 |_=>none
def nilBin(op:BinOp)(r:Option Bool)(h:Heap):Option (AN×Heap):=
 match r with
 |some b=>
  match op with
  | .eql=>some (.val (.bool b),h)
  | .neq=>some (.val (.bool (!b)),h)
  |_=>none
 |none=>none
def nT(P:Program)(ρ:Operand->Value)(o:Oper)(op:BinOp)(t:TypeId)(x y:Value)(h:Heap):Option (AN×Heap):=
 match x with
 | .agg _=>bG P ρ o h
 | .bool _=>bG P ρ o h
 |x=>nilBin op (nilEq P t x y) h
def aBin(P:Program)(ρ:Operand->Value)(o:Oper)(op:BinOp)(t:TypeId)(x:Value)(y:Operand)(h:Heap):Option (AN×Heap):=
 match x with
 | .int k a=>binInt op k a (ρ y) h
 | .string a=>binStr op a (ρ y) h
 |x=>nT P ρ o op t x (ρ y) h
def aUn(P:Program)(ρ:Operand->Value)(o:Oper)(op:UnOp)(x:Value)(h:Heap):Option (AN×Heap):=
 match x with
 | .bool b=>
  match op with
  | .not=>some (.val (.bool (!b)),h)
  |_=>none
 |_=>bG P ρ o h
def jX:Value->Option Nat
 | .int _ (.ofNat n)=>some n
 |_=>none
def cd(d:Nat)(o:Option Value):Option Nat:=
 match o with
 |some v=>jX v
 |none=>some d
def bnds(n k:Nat)(lo hi:Option Value):Option (Nat×Nat):=
 match cd n hi with
 |some h=>
  match cd 0 lo with
  |some l=>bif Nat.ble l h&&Nat.ble h k then some (l,h) else none
  |none=>none
 |none=>none
def bt(P:Program)(t:TypeId)(x:Value)(lo hi E:Option Value)(h:Heap):Option Value:=
 match E with
 |some _=>none
 |none=>
  match P.underlying t,x with
  |some .string,.string s=>
   match bnds (eB s.data.toList) (eB s.data.toList) lo hi with
   |some (l,r)=>some (.string ⟨⟨dU (dY s.data.toList l) (r-l)⟩⟩)
   |none=>none
  |some (.slice e),.slice none 0 0=>
   match bnds 0 0 lo hi with
   |some _=>bif (cZ P e).isSome then some (.slice none 0 0) else none
   |none=>none
  |some (.slice e),.slice (some ⟨b,o,none⟩) n k=>
   match bnds n k lo hi,cZ P e,h.get b with
   |some (l,r),some sz,some (.cells _ opn _)=>
    match opn with
    |none=>some (.slice (some (bif Nat.beq k l then⟨b,o,none⟩ else⟨b,o+l *sz,none⟩)) (r-l) (k-l))
    |some ez=>bif Nat.beq ez sz then some (.slice (some ⟨b,o+l *sz,none⟩) (r-l) (k-l)) else none
   |_,_,_=>none
  |some (.array n e),.pointer (some ⟨b,o,none⟩)=>
   match bnds n n lo hi,cZ P e,h.get b with
   |some (l,r),some sz,some (.cells _ none _)=>some (.slice (some (bif Nat.beq n l then⟨b,o,none⟩ else⟨b,o+l *sz,none⟩)) (r-l) (n-l))
   |_,_,_=>none
  |_,_=>none
def fl(h:Heap)(sz n:Nat):Value->Option (List Value)
 | .slice (some a) _ _=>bif Nat.beq n 0 then some [] else h.loadN a (n *sz)
 | .slice none _ _=>bif Nat.beq n 0 then some [] else none
 | .string s=>bif Nat.beq sz 1 then some (dF (fun b=> .int .u8 b.toNat) (dU s.data.toList n)) else none
 |_=>none
def lenA:Value->Option Nat
 | .slice _ n _=>some n
 | .string s=>some (eB s.data.toList)
 |_=>none
def fV(P:Program)(types:Array TypeId)(s x:Value)(h:Heap):Option (Value×Heap):=
 match types[0]?,types[1]? with
 |some st,some xt=>
  match P.underlying st,P.underlying xt with
  |some (.slice e),some xd=>
   match xd with
   | .int _=>none
   |_=>
    match cZ P e,eN P e,cy P e,lenA x with
    |some sz,some by_,some z,some m=>
     match fl h sz m x with
     |none=>none
     |some new=>
      match s with
      | .slice none 0 0=>
       bif Nat.beq m 0 then some (s,h)
       else bif Nat.beq (eB z) sz&&Nat.ble m 2147483648&&Nat.ble by_ 4096&& !Nat.beq sz 0 then
        some (.slice (some ⟨h.next,0,none⟩) m m,aQ h new (some sz))
       else none
      | .slice (some ⟨b,o,none⟩) n k=>
       match h.get b with
       |some (.cells cs opn ro)=>
        bif Nat.ble (n+m) k then
         bif Nat.beq m 0 then some (.slice (some ⟨b,o,none⟩) n k,h)
         else
          match h.storeL ⟨b,o+n *sz,none⟩ new with
          |some h'=>some (.slice (some ⟨b,o,none⟩) (n+m) k,h')
          |none=>none
        else bif Nat.beq (eB z) sz&&Nat.ble (n+m) 2147483648&&Nat.ble by_ 4096&& !Nat.beq sz 0&&Nat.ble n k then
         match fl h sz n (.slice (some ⟨b,o,none⟩) n k) with
         |none=>none
         |some old=>
          match opn with
          |none=>some (.slice (some ⟨h.next,0,none⟩) (n+m) (n+m),aQ h (appL old new) (some sz))
          |some ez=>
           bif Nat.beq ez sz&& !ro&&mU Value.oneCell' new then some (.slice (some ⟨h.next,0,none⟩) (n+m) (n+m),aQ (h.put b .dead) (appL old new) (some sz)) else none
        else none
       |_=>none
      |_=>none
    |_,_,_,_=>none
  |_,_=>none
 |_,_=>none
def oj(P:Program)(types:Array TypeId)(d s:Value)(h:Heap):Option (Value×Heap):=
 match types[0]? with
 |some dt=>
  match P.underlying dt,d,lenA s with
  |some (.slice e),.slice base dn _,some m=>
   match cZ P e with
   |some sz=>
    let n:=Nat.min m dn
    bif Nat.beq n 0 then some (goInt 0,h)
    else
     match fl h sz n s,base with
     |some l,some a=>
      match h.storeL a l with
      |some h'=>some (goInt n,h')
      |none=>none
     |_,_=>none
   |none=>none
  |_,_,_=>none
 |none=>none
def aMake(P:Program)(t:TypeId)(l c:Value)(h:Heap):Option (Value×Heap):=
 match P.underlying t with
 |some (.slice e)=>
  match cZ P e,eN P e,cy P e,jX l,jX c with
  |some sz,some by_,some z,some n,some k=>
   bif Nat.ble n k&&Nat.ble k 2147483648&&Nat.ble by_ 4096&&Nat.beq (eB z) sz&& !Nat.beq sz 0 then
    some (.slice (some ⟨h.next,0,none⟩) n k,aQ h (cp k z) none)
   else none
  |_,_,_,_,_=>none
 |_=>none
def sameKey:Value->Value->Bool
 | .int _ a,.int _ b=>a==b
 | .string a,.string b=>fK a b
 | .bool a,.bool b=>a==b
 |_,_=>false
def findTab(d:TypeDesc)(k:Value):List (Value×Value)->Option Value
 | []=>none
 |(k',v)::es=>bif sameKey k k' then some v else findTab d k es
def fS(P:Program)(f:Value)(args:List Value):Option AN:=
 match f with
 | .func (.func i) first captured=>
  match P.funcs[i]? with
  |some fn=>bif fn.body.isSome&& !(fn.name== "runtime.NumGoroutine") then some (.enter i (appL first.toList (appL args captured.toList))) else none
  |none=>none
 |_=>none
def cG:List Value->Option (List UInt8)
 | []=>some []
 | .int .u8 n::l=>
  match cG l with
  |some r=>some (UInt8.ofNat n.toNat::r)
  |none=>none
 |_=>none
def eM(P:Program)(s d:TypeId)(a:Option Addr)(n:Nat)(h:Heap):Option Value:=
 match P.underlying s,P.underlying d with
 |some (.slice e),some .string=>
  match P.underlying e with
  |some (.int .u8)=>
   match a with
   |none=>some (.string .empty)
   |some a=>
    bif Nat.beq n 0 then some (.string .empty)
    else
     match h.loadN a n with
     |some l=>
      match cG l with
      |some r=>some (.string ⟨⟨r⟩⟩)
      |none=>none
     |none=>none
  |_=>none
 |_,_=>none
def nM(P:Program)(s d:TypeId)(n:Int):Option Value:=
 match P.underlying s,P.underlying d with
 |some _,some (.int k)=>some (.int k (k.wrap n))
 |_,_=>none
def fQ(P:Program)(ρ:Operand->Value)(o:Oper)(s d:TypeId)(x:Value)(h:Heap):Option (AN×Heap):=
 match x with
 | .int _ n=>ovl (nM P s d n) h
 | .slice a n _=>ovl (eM P s d a n h) h
 |_=>bG P ρ o h
def iW(P:Program)(s:TypeId)(x:Value)(f:Nat):Option Value:=
 match P.underlying s,x with
 |some (.struct fs),.pointer (some ⟨b,o,none⟩)=>
  match fs[f]? with
  |some f=>
   match cZ P f.type with
   |some n=>bif Nat.beq n 0 then none else some (.pointer (some ⟨b,o+f.offset,none⟩))
   |none=>none
  |none=>none
 |_,_=>none
def di(P:Program)(t:TypeId)(x i:Value):Option Value:=
 match P.underlying t,x,jX i with
 |some (.slice e),.slice (some ⟨b,o,none⟩) n k,some j=>
  match cZ P e with
  |some sz=>bif Nat.ble (j+1) n&&Nat.ble n k then some (.pointer (some ⟨b,o+j *sz,none⟩)) else none
  |none=>none
 |some (.array n e),.pointer (some ⟨b,o,none⟩),some j=>
  match cZ P e with
  |some sz=>bif Nat.ble (j+1) n then some (.pointer (some ⟨b,o+j *sz,none⟩)) else none
  |none=>none
 |_,_,_=>none
def strAt(P:Program)(t:TypeId)(s:ByteArray)(i:Value):Option Value:=
 match P.underlying t,jX i with
 |some .string,some j=>
  match nth s.data.toList j with
  |some b=>some (.int .u8 b.toNat)
  |none=>none
 |_,_=>none
def lI(P:Program)(t:TypeId)(x i:Value)(h:Heap):Option (AN×Heap):=
 match x with
 | .string s=>ovl (strAt P t s i) h
 |x=>lift P (Instr.index t x i) h
def partL(g:Bool)(n off:Nat)(cs:List Value):Option Value:=
 bif g then some (.agg ⟨dU (dY cs off) n⟩) else nth cs off
def fieldAt?(P:Program)(t:TypeId)(f:Nat):Option (Bool×Nat×Nat):=
 match P.underlying t with
 |some (.struct fs)=>
  match fs[f]? with
  |some fd=>
   match eX P fd.type,cZ P fd.type with
   |some g,some n=>some (g,n,fd.offset)
   |_,_=>none
  |none=>none
 |_=>none
def iw(P:Program)(t:TypeId)(x:Value)(f:Nat):Option Value:=
 match x with
 | .agg cs=>
  match fieldAt? P t f with
  |some (g,n,off)=>partL g n off cs.toList
  |none=>none
 |_=>none
def gO(x:Value)(i:Nat):Option Value:=
 match x with
 | .tuple vs=>nth vs.toList i
 |_=>none
def aLen(P:Program)(t:TypeId)(x:Value)(h:Heap):Option Value:=
 match P.underlying t,x with
 |some (.slice _),.slice _ n _=>some (goInt n)
 |some .string,.string s=>some (goInt (eB s.data.toList))
 |some (.map _ _),.map none=>some (goInt 0)
 |some (.map _ _),.map (some r)=>
  match h.get r with
  |some (.tab es)=>some (goInt es.length)
  |_=>none
 |_,_=>none
def bLen(P:Program)(types:Array TypeId)(args:List Value)(h:Heap):Option (AN×Heap):=
 match types.toList,args with
 | [t],[x]=>ovl (aLen P t x h) h
 |_,_=>none
def bAppend(P:Program)(types:Array TypeId)(args:List Value)(h:Heap):Option (AN×Heap):=
 match types.toList,args with
 | [_,_],[s,x]=>ovh (fV P types s x h)
 |_,_=>none
def bCopy(P:Program)(types:Array TypeId)(args:List Value)(h:Heap):Option (AN×Heap):=
 match args with
 | [d,s]=>ovh (oj P types d s h)
 |_=>none
def om(P:Program)(ρ:Operand->Value)(o:Oper)(b:Builtin)(types:Array TypeId)(args:List Value)(h:Heap):Option (AN×Heap):=
 match b with
 | .len=>bLen P types args h
 | .append=>bAppend P types args h
 | .copy=>bCopy P types args h
 | .min=>bG P ρ o h
 | .max=>bG P ρ o h
 |_=>none
def gq(ρ:Operand->Value)(c a b:Operand)(h:Heap):Option (AN×Heap):=
 match ρ c with
 | .bool t=>some (.val (bif t then ρ a else ρ b),h)
 |_=>none
def eI(P:Program)(e:TypeId)(h:Heap):Option (AN×Heap):=
 match cy P e with
 |some z=>some (.val (ptrTo h.next),aQ h z none)
 |none=>none
def ia(P:Program)(t:TypeId)(E:Array (Nat×Value))(h:Heap):Option (AN×Heap):=
 match cy P t with
 |some _=>lift P (Instr.build t E) h
 |none=>none
def dV(P:Program)(t:TypeId):Option (Nat×List Value):=
 match P.underlying t with
 |some (.slice e)=>
  match cZ P e,cy P e with
  |some sz,some z=>bif Nat.beq (eB z) sz then some (sz,z) else none
  |_,_=>none
 |_=>none
def bK(P:Program)(t:TypeId)(n:Nat)(E:List (Nat×Value))(h:Heap):Option (AN×Heap):=
 match dV P t with
 |some (sz,z)=>
  bif Nat.ble (n *sz) 16777216 then
   match Instr.fill (fun i=>some (i *sz,sz)) ⟨cp n z⟩ E with
   |some cells=>some (.val (.slice (some ⟨h.next,0,none⟩) n n),aQ h cells.toList none)
   |none=>none
  else none
 |none=>none
def d9(P:Program)(t:TypeId)(a:Value)(h:Heap):Option (AN×Heap):=
 match a with
 | .pointer (some p)=>ovl (h.loadV P t p) h
 |_=>none
def eW(P:Program)(t:TypeId)(a x:Value)(h:Heap):Option (AN×Heap):=
 match a with
 | .pointer (some p)=>
  match cZ P t with
  |some n=>bif Nat.beq x.cells.size n then osk (h.storeL p x.cells.toList) else none
  |none=>none
 |_=>none
def opNil(x:Value)(h:Heap):Option (AN×Heap):=
 match x with
 | .pointer (some a)=>some (.val (.pointer (some a)),h)
 | .func (.func f) a c=>some (.val (.func (.func f) a c),h)
 |_=>none
def fF(r:Option AN)(h:Heap):Option (AN×Heap):=
 match r with
 |some n=>some (n,h)
 |none=>none
def opCall(P:Program)(ρ:Operand->Value)(o:Oper)(c:Call)(h:Heap):Option (AN×Heap):=
 match c.callee with
 | .builtin b=>om P ρ o b c.argTypes (dF ρ c.args.toList) h
 | .value f=>fF (fS P (ρ f) (dF ρ c.args.toList)) h
 | .invoke _ _=>none
def aop(P:Program)(ρ:Operand->Value)(o:Oper)(h:Heap):Option (AN×Heap):=
 match o.op with
 | .move x=>some (.val (ρ x),h)
 | .assign x=>some (.val (ρ x),h)
 | .pick c a b=>gq ρ c a b h
 | .alloc e=>eI P e h
 | .box _ x=>some (.val (ptrTo h.next),aQ h (ρ x).cells.toList none)
 | .build t parts=>ia P t (parts.map fun p=>(p.1,ρ p.2)) h
 | .buildSlice t n parts=>bK P t n (dF (fun p=>(p.1,ρ p.2)) parts.toList) h
 | .load t a=>d9 P t (ρ a) h
 | .store t a x=>eW P t (ρ a) (ρ x) h
 | .nilCheck x=>opNil (ρ x) h
 | .binOp op t x y _=>aBin P ρ o op t (ρ x) y h
 | .convert s d x=>fQ P ρ o s d (ρ x) h
 | .makeFunc fn first captured=>some (.val (.func fn (first.map ρ) (captured.map ρ)),h)
 | .makeSlice t l c=>ovh (aMake P t (ρ l) (ρ c) h)
 | .slice t x lo hi mx=>ovl (bt P t (ρ x) (lo.map ρ) (hi.map ρ) (mx.map ρ) h) h
 | .fieldAddr s x f=>ovl (iW P s (ρ x) f) h
 | .field t x f=>ovl (iw P t (ρ x) f) h
 | .indexAddr t x i=>ovl (di P t (ρ x) (ρ i)) h
 | .index t x i=>lI P t (ρ x) (ρ i) h
 | .extract x i=>ovl (gO (ρ x) i) h
 | .call c=>opCall P ρ o c h
 | .unOp op _ x=>aUn P ρ o op (ρ x) h
 |_=>none
structure St where
 tmps:Tr Value
 size:Nat
 heap:Heap
def cI(l:Tr Value):Operand->Value
 | .tmp t=>cS l t
 | .const v=>v
 | .global g=> .pointer (some ⟨g,0,none⟩)
 | .func f=> .func (.func f) #[] #[]
def bo(G:Nat):Operand->Bool
 | .tmp _=>true
 | .const v=>noA2 v
 | .global g=>Nat.ble (g+1) G
 | .func _=>true
def St.put(s:St)(E:Option Tmp)(v:Value):Option St:=
 match E with
 |some d=>bif Nat.ble (d+1) s.size then some {s with tmps:=lset s.tmps d v} else none
 |none=>some s
abbrev cr:=FuncId->List Value->Heap->Option (Value×Heap)
def lU(ops:Array Oper)(l:Tr Value)(j:Nat):Option Bool:=
 match (ops[j]?).bind (·.dst) with
 |some d=>
  match cS l d with
  | .bool b=>some b
  |_=>none
 |none=>none
def bf(ops:Array Oper)(o:Oper)(l:Tr Value):Bool:=
 match o.guard with
 |none=>true
 |some (j,want)=>lU ops l j==some want
def step(P:Program)(G:Nat)(cf:cr)(ops:Array Oper)(o:Oper)(s:St):Option St:=
 bif bf ops o s.tmps then
  bif o.op.operands.toList.all (bo G) then
   match aop P (cI s.tmps) o s.heap with
   |some (.val v,h)=>{s with heap:=h}.put o.dst v
   |some (.skip,h)=>{s with heap:=h}.put o.dst undef
   |some (.enter f args,h)=>
    match cf f args h with
    |some (v,h')=>{s with heap:=h'}.put o.dst v
    |none=>none
   |none=>none
  else none
 else s.put o.dst undef
def fZ(P:Program)(G:Nat)(cf:cr)(ops:Array Oper)(l:List Oper):St->Option St:=
 List.rec (motive:=fun _=>St->Option St) (fun s=>some s) (fun o _ E s=>Option.rec (motive:=fun _=>Option St) none (fun N=>E N) (step P G cf ops o s)) l
theorem i5(P:Program)(G:Nat)(cf:cr)(ops:Array Oper)(s:St):fZ P G cf ops [] s=some s:=rfl
theorem bY(P:Program)(G:Nat)(cf:cr)(ops:Array Oper)(o:Oper)(os:List Oper)(s:St):
  fZ P G cf ops (o::os) s=match step P G cf ops o s with|some E=>fZ P G cf ops os E|none=>none:=by
 show Option.rec (motive:=fun _=>Option St) none (fun E=>fZ P G cf ops os E) (step P G cf ops o s)=_
 cases step P G cf ops o s<;>rfl
def aT:Op->Bool
 | .move _| .assign _| .pick _ _ _| .build _ _| .nilCheck _| .binOp _ _ _ _ _| .unOp _ _ _| .extract _ _| .field _ _ _| .index _ _ _| .fieldAddr _ _ _| .indexAddr _ _ _| .makeFunc _ _ _=>true
 |_=>false
def ancs:List Oper->List Nat->List Nat
 | [],acc=>acc
 |o::os,acc=>ancs os (acc++[o.after.toList.foldl (fun s e=>bif Region.binds .any e then s|||2^e.on|||acc.getD e.on 0 else s) 0])
def ce(ops:Array Oper):List Nat:=ancs ops.toList []
def bn(l:List Nat)(i j:Nat):Bool:=(l.getD j 0).testBit i
def bh(ops:Array Oper):Bool:=
 let l:=ce ops
 (List.range ops.size).all fun j=>
  match ops[j]? with
  |none=>false
  |some o=>
   (o.after.toList.all fun e=> !Region.binds .any e||Nat.ble (e.on+1) j)&&
   (match o.op with| .select _ _=>false|_=>true)&&
   (List.range j).all fun i=>
    match ops[i]? with
    |none=>false
    |some x=>bn l i j||x.apart ops o
inductive Inf where
 |v
 |a (b:Nat)
 |l (b:Nat)
 |x (w:List Nat)
def dJ:Op->Bool
 | .alloc _| .box _ _| .buildSlice _ _ _=>true
 |_=>false
def memB(b:Nat):List Nat->Bool
 | []=>false
 |c::l=>Nat.beq b c||memB b l
def dD(n:Nat):List Nat->List Nat
 | []=> []
 |c::l=>bif Nat.ble n c then dD n l else c::dD n l
def isNilL{α:Type}:List α->Bool
 | []=>true
 |_=>false
def dg:Inf->Inf->Bool
 | .v,_=>true
 |_,.v=>true
 | .a b,.x w=> !memB b w
 | .a _,_=>true
 |_,.a _=>true
 | .l _,.l _=>true
 | .l b,.x w=> !memB b w
 | .x w,.l b=> !memB b w
 | .x w,.x u=>isNilL w&&isNilL u
def d8(ops:Array Oper)(o:Oper)(s:St)(n:Nat)(log:List Nat):Inf:=
 bif !bf ops o s.tmps||aT o.op then .v
 else bif dJ o.op then .a n
 else
  match o.op with
  | .load _ a=>
   match cI s.tmps a with
   | .pointer (some p)=> .l p.block
   |_=> .x (dD n log)
  | .slice _ x _ _ _=>
   match cI s.tmps x with
   | .slice (some p) _ _=> .l p.block
   | .slice none _ _=> .v
   |_=> .x (dD n log)
  | .call ⟨.builtin .len,xs,_⟩=>
   match dF (cI s.tmps) xs.toList with
   | [.slice _ _ _]=> .v
   | [.string _]=> .v
   |_=> .x (dD n log)
  |_=> .x (dD n log)
def gW(P:Program)(G:Nat)(cf:cr)(ops:Array Oper)(o:Oper)(s:St):Option (St×Inf):=
 match step P G cf ops o {s with heap:={s.heap with log:=[]}} with
 |some t=>some ({t with heap:={t.heap with log:=dD s.heap.next t.heap.log++s.heap.log}},d8 ops o s s.heap.next t.heap.log)
 |none=>none
def ij:Op->Bool
 | .store _ _ _=>true
 |_=>false
def stAt(ops:Array Oper)(j:Nat):Bool:=match ops[j]? with
 |some o=>ij o.op
 |none=>false
def disjL:List Nat->List Nat->Bool
 | [],_=>true
 |b::l,u=> !memB b u&&disjL l u
def disjI:Inf->Inf->Bool
 | .x w,.x u=>disjL w u
 |_,_=>false
def stst(ops:Array Oper)(j i:Nat)(g f:Inf):Bool:=stAt ops j&&(stAt ops i&&disjI g f)
def cj(ops:Array Oper)(l:List Nat)(i:Nat)(f:Inf):List (Nat×Inf)->Bool
 | []=>true
 |(j,g)::fs=>(bn l j i||(dg g f||stst ops j i g f))&&cj ops l i f fs
def bw(P:Program)(G:Nat)(cf:cr)(ops:Array Oper):Nat->List (Nat×Inf)->List Oper->St->Option St
 |_,_,[],s=>some s
 |i,fs,o::os,s=>
  match gW P G cf ops o s with
  |some (s',f)=>bif cj ops (ce ops) i f fs then bw P G cf ops (i+1) ((i,f)::fs) os s' else none
  |none=>none
def bT(P:Program)(G:Nat)(cf:cr)(ops:Array Oper)(E:Bool)(s:St):Option St:=
 bif E then
  bif bh ops&&P.follows .mixedOrders then bw P G cf ops 0 [] ops.toList s else none
 else fZ P G cf ops ops.toList s
inductive Ex where
 |normal
 |exit (id:Nat)
 |ret
def dT(r:Option St):Option (Ex×St):=
 match r with
 |some s'=>some (.normal,s')
 |none=>none
def gx(r:Option (Ex×St))(k:St->Option (Ex×St)):Option (Ex×St):=
 match r with
 |some (.normal,s')=>k s'
 |some (.exit i,s')=>some (.exit i,s')
 |some (.ret,s')=>some (.ret,s')
 |none=>none
def mJ(v:Value)(t e:Option (Ex×St)):Option (Ex×St):=
 match v with
 | .bool b=>bif b then t else e
 |_=>none
def db(id:Nat)(r:Option (Ex×St)):Option (Ex×St):=
 match r with
 |some (.exit i,s')=>bif Nat.beq i id then some (.normal,s') else some (.exit i,s')
 |some (.normal,s')=>some (.normal,s')
 |some (.ret,s')=>some (.ret,s')
 |none=>none
def eL(P:Program)(G:Nat)(rec_:Code->St->Option (Ex×St))(cf:cr)(c:Code):St->Option (Ex×St):=
 Code.rec (motive:=fun _=>St->Option (Ex×St))
  (fun s=>some (.normal,s))
  (fun _ ops E s=>dT (bT P G cf ops E s))
  (fun _ _ T U s=>gx (T s) U)
  (fun c _ _ aa Z s=>bif bo G c then mJ (cI s.tmps c) (aa s) (Z s) else none)
  (fun id _ N s=>db id (N s))
  (fun b N s=>gx (N s) (rec_ (.loop b)))
  (fun _ _ _ _ _ _ _=>none)
  (fun id s=>some (.exit id,s))
  (fun _ _ _=>none)
  (fun _ _=>none)
  (fun _ _=>none)
  (fun s=>some (.ret,s))
  (fun _ _=>none) c
section
variable (P:Program) (G:Nat) (rec_:Code->St->Option (Ex×St)) (cf:cr) (s:St)
theorem mF:eL P G rec_ cf .skip s=some (.normal,s):=rfl
theorem gw(id:Nat)(ops:Array Oper)(E:Bool):eL P G rec_ cf (.region id ops E) s=dT (bT P G cf ops E s):=rfl
theorem lu(a b:Code):eL P G rec_ cf (.seq a b) s=gx (eL P G rec_ cf a s) (eL P G rec_ cf b):=rfl
theorem jh(c:Operand)(t e:Code):eL P G rec_ cf (.cond c t e) s=
  bif bo G c then mJ (cI s.tmps c) (eL P G rec_ cf t s) (eL P G rec_ cf e s) else none:=rfl
theorem io(id:Nat)(b:Code):eL P G rec_ cf (.block id b) s=db id (eL P G rec_ cf b s):=rfl
theorem jg(b:Code):eL P G rec_ cf (.loop b) s=gx (eL P G rec_ cf b s) (rec_ (.loop b)):=rfl
theorem mG(id:Nat):eL P G rec_ cf (.exit id) s=some (.exit id,s):=rfl
theorem execC_ret:eL P G rec_ cf .ret s=some (.ret,s):=rfl
end
def cM(P:Program)(s:St):List ResultVar->Option (List Value)
 | []=>some []
 | .tmp t::rs=>
  match cM P s rs with
  |some l=>some (cS s.tmps t::l)
  |none=>none
 | .cell a t::rs=>
  match cS s.tmps a with
  | .pointer (some p)=>
   match s.heap.loadV P t p,cM P s rs with
   |some v,some l=>some (v::l)
   |_,_=>none
  |_=>none
def er:List Value->Value
 | [v]=>v
 |l=> .tuple ⟨l⟩
def nQ(P:Program)(ex:Code->St->Option (Ex×St)):cr:=fun f args h=>
 match P.funcs[f]? with
 |some fn=>
  match fn.body with
  |some c=>
   match ex c {tmps:=fO 0 args .nil,size:=Nat.max args.length fn.ntmps,heap:=h} with
   |some (.normal,s)=>
    match cM P s fn.results.toList with
    |some l=>some (er l,s.heap)
    |none=>none
   |some (.ret,s)=>
    match cM P s fn.results.toList with
    |some l=>some (er l,s.heap)
    |none=>none
   |_=>none
  |none=>none
 |none=>none
abbrev bJ:=FuncId->List Value->Heap->Option Value
def lR(K:bJ)(cf:cr):cr:=fun f args h=>
 match K f args h with
 |some v=>some (v,h)
 |none=>cf f args h
def mH(P:Program)(G:Nat)(K:bJ):Nat->Code->St->Option (Ex×St)
 |0=>fun _ _=>none
 |n+1=>eL P G (mH P G K n) (lR K (nQ P (mH P G K n)))
def call(P:Program)(G:Nat)(K:bJ)(n:Nat):cr:=lR K (nQ P (mH P G K n))
def noneKnown:bJ:=fun _ _ _=>none
def saysTrue(r:Option (Value×Heap)):Bool:=match r with|some (.bool true,_)=>true|_=>false
def tabHeap(n:Nat)(cells:List Value):Heap:={tr:=((Tr.nil.set 0 (.cells [.slice (some ⟨1,0,none⟩) n n] none true)).set 1 (.cells cells none true)),next:=2,log:=[]}
end Go.R
end
