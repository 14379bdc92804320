/-
The evaluator is sound: values, operations, memory.
-/
import Derived.Test.YtkpgbdkkgcdhmaaGreatZPR0
import Derived.IntWalk
set_option linter.unusedVariables false
set_option linter.unusedSimpArgs false
namespace Go.R
structure Loc where
 c:Nat
 sh:Nat
 opn:Option Nat
 csz:Nat
abbrev Emb:=Nat->Option Loc
inductive VRel(μ:Emb):Value->Value->Prop
 |atom (v:Value):cJ v=true->VRel μ v v
 |ptr (b o:Nat) (l:Loc):μ b=some l->VRel μ (.pointer (some ⟨b,o,none⟩)) (.pointer (some ⟨l.c,l.sh+o,none⟩))
 |sliceC (b o n k:Nat) (l:Loc):μ b=some l->l.opn=none->VRel μ (.slice (some ⟨b,o,none⟩) n k) (.slice (some ⟨l.c,l.sh+o,none⟩) n k)
 |sliceO (b o o' n k k' e:Nat) (l:Loc):μ b=some l->l.opn=some e->n<=k->k<=k'->(0<k->o'=l.sh+o)->o'+k' *e<=l.csz->
   VRel μ (.slice (some ⟨b,o,none⟩) n k) (.slice (some ⟨l.c,o',none⟩) n k')
 |sliceZ (b o:Nat) (a:Addr) (l:Loc):μ b=some l->VRel μ (.slice (some ⟨b,o,none⟩) 0 0) (.slice (some a) 0 0)
 |map (b:Nat) (l:Loc):μ b=some l->VRel μ (.map (some b)) (.map (some l.c))
 |func (fn:Fn) (xs ys xs' ys':Array Value):xs.toList.length=xs'.toList.length->ys.toList.length=ys'.toList.length->
   (∀(i:Nat) v v',xs.toList[i]?=some v->xs'.toList[i]?=some v'->VRel μ v v')->
   (∀(i:Nat) v v',ys.toList[i]?=some v->ys'.toList[i]?=some v'->VRel μ v v')->VRel μ (.func fn xs ys) (.func fn xs' ys')
 |agg (xs xs':Array Value):xs.toList.length=xs'.toList.length->
   (∀(i:Nat) v v',xs.toList[i]?=some v->xs'.toList[i]?=some v'->VRel μ v v')->VRel μ (.agg xs) (.agg xs')
 |tuple (xs xs':Array Value):xs.toList.length=xs'.toList.length->
   (∀(i:Nat) v v',xs.toList[i]?=some v->xs'.toList[i]?=some v'->VRel μ v v')->VRel μ (.tuple xs) (.tuple xs')
def LRel(μ:Emb)(l l':List Value):Prop:=l.length=l'.length/\∀(i:Nat) v v',l[i]?=some v->l'[i]?=some v'->VRel μ v v'
section
variable {μ μ':Emb}
theorem VRel.mono(h: ∀b l,μ b=some l->μ' b=some l){v v':Value}(A:VRel μ v v'):VRel μ' v v':=by
 induction A with
 |atom v h0=>exact .atom v h0
 |ptr b o l hb=>exact .ptr b o l (h _ _ hb)
 |sliceC b o n k l hb ho=>exact .sliceC b o n k l (h _ _ hb) ho
 |sliceO b o o' n k k' e l hb ho h1 h2 h3 h4=>exact .sliceO b o o' n k k' e l (h _ _ hb) ho h1 h2 h3 h4
 |sliceZ b o a l hb=>exact .sliceZ b o a l (h _ _ hb)
 |map b l hb=>exact .map b l (h _ _ hb)
 |func fn xs ys xs' ys' h1 h2 _ _ i1 i2=>exact .func fn xs ys xs' ys' h1 h2 i1 i2
 |agg xs xs' h1 _ i1=>exact .agg xs xs' h1 i1
 |tuple xs xs' h1 _ i1=>exact .tuple xs xs' h1 i1
theorem LRel.nil:LRel μ [] []:=⟨rfl,fun i v v' h=>by simp at h⟩
theorem LRel.cons{v v':Value}{l l':List Value}(h:VRel μ v v')(O:LRel μ l l'):LRel μ (v::l) (v'::l'):=by
 refine⟨by simp[O.1],fun i x T A E=>?_⟩;cases i with
 |zero=>simp at A E;subst A E;exact h
 |succ i=>exact O.2 i x T (by simpa using A) (by simpa using E)
theorem LRel.head{v v':Value}{l l':List Value}(h:LRel μ (v::l) (v'::l')):VRel μ v v':=h.2 0 v v' rfl rfl
theorem LRel.tail{v v':Value}{l l':List Value}(h:LRel μ (v::l) (v'::l')):LRel μ l l':=
 ⟨by simpa using h.1,fun i x O A E=>h.2 (i+1) x O (by simpa using A) (by simpa using E)⟩
theorem LRel.get{l l':List Value}(h:LRel μ l l'){i:Nat}{v:Value}(A:l[i]?=some v): ∃v',l'[i]?=some v'/\VRel μ v v':=by
 have hi:i<l'.length:=by rw[←h.1];exact(a0v.1 A).1
 exact⟨l'[i],a08 hi,h.2 i v _ A (a08 hi)⟩
theorem LRel.append{a b O T:List Value}(h:LRel μ a O)(k:LRel μ b T):LRel μ (a++b) (O++T):=by
 refine⟨by simp[h.1,k.1],fun i v v' A E=>?_⟩;by_cases hi:i<a.length
 ·rw[a1e hi]at A;rw[a1e (h.1▸hi)]at E;exact h.2 i v v' A E
 rw[a1l (by omega)]at A;rw[a1l (by have:=h.1;omega),←h.1]at E;exact k.2 _ v v' A E
theorem LRel.take{a O:List Value}(h:LRel μ a O)(n:Nat):LRel μ (a.take n) (O.take n):=by
 refine⟨by simp[h.1],fun i v v' A E=>?_⟩;rw[a0x]at A E;split at A
 ·rename_i hi;rw[if_pos hi]at E;exact h.2 i v v' A E
 cases A
theorem LRel.drop{a A:List Value}(h:LRel μ a A)(n:Nat):LRel μ (a.drop n) (A.drop n):=by refine⟨by simp[h.1],fun i v v' E O=>?_⟩;rw[a0D]at E O;exact h.2 _ v v' E O
theorem LRel.nil_left{l':List Value}(h:LRel μ [] l'):l'=[]:=a0f h.1.symm
theorem LRel.cons_left{v:Value}{l l':List Value}(h:LRel μ (v::l) l'): ∃v' A,l'=v'::A/\VRel μ v v'/\LRel μ l A:=by
 cases l' with
 |nil=>have:=h.1;simp at this
 |cons v' A=>exact⟨v',A,rfl,h.head,h.tail⟩
theorem VRel.oneCell{v v':Value}(h:VRel μ v v'):v'.oneCell'=v.oneCell':=by cases h<;>rfl
theorem VRel.eq0{v v':Value}(h:VRel μ v v')(A:cJ v=true):v'=v:=by
 cases h with
 |atom=>rfl
 |func fn xs ys xs' ys' h1 h2 _ _=>
  simp only[cJ,a02]at A
  have E:xs.size=0:=a07 A.1
  have O:ys.size=0:=a07 A.2
  have T:xs= #[]:=a1c.1 E
  have U:ys= #[]:=a1c.1 O
  subst T U
  have V:xs'= #[]:=a1c.1 (by simpa using h1.symm)
  have Y:ys'= #[]:=a1c.1 (by simpa using h2.symm)
  subst V Y
  rfl
 |_=>simp[cJ]at A
theorem LRel.eq0{l l':List Value}(h:LRel μ l l')(A:l.all cJ=true):l'=l:=by
 induction l generalizing l' with
 |nil=>exact h.nil_left
 |cons v l ih=>
  obtain⟨v',T,rfl,O,E⟩:=h.cons_left
  simp only[a0s,a02]at A
  rw[O.eq0 A.1,ih E A.2]
theorem VRel.eq1{v v':Value}(h:VRel μ v v')(A:hZ v=true):v'=v:=by
 cases h with
 |agg xs xs' hl hi=>
  have:=LRel.eq0 (μ:=μ) (l:=xs.toList) (l':=xs'.toList) ⟨hl,hi⟩ A
  rw[a19.1 this]
 |atom v h0=>rfl
 |_=>exact VRel.eq0 (μ:=μ) (by constructor<;>assumption) A
theorem LRel.eq1{l l':List Value}(h:LRel μ l l')(A:l.all hZ=true):l'=l:=by
 induction l generalizing l' with
 |nil=>exact h.nil_left
 |cons v l ih=>
  obtain⟨v',T,rfl,O,E⟩:=h.cons_left
  simp only[a0s,a02]at A
  rw[O.eq1 A.1,ih E A.2]
theorem LRel.refl0{l:List Value}(h:l.all cJ=true):LRel μ l l:=by refine⟨rfl,fun i v v' E A=>?_⟩;rw[E]at A;injection A with A;subst A;exact .atom v (a0j.1 h v (a0q E))
theorem VRel.refl1{v:Value}(h:hZ v=true):VRel μ v v:=by
 cases v with
 |agg cs=>have:=LRel.refl0 (μ:=μ) (l:=cs.toList) h;exact .agg cs cs this.1 this.2
 |_=>exact .atom _ h
theorem LRel.refl1{l:List Value}(h:l.all hZ=true):LRel μ l l:=by refine⟨rfl,fun i v v' E A=>?_⟩;rw[E]at A;injection A with A;subst A;exact VRel.refl1 (a0j.1 h v (a0q E))
theorem VRel.refl2{v:Value}(h:noA2 v=true):VRel μ v v:=by
 cases v with
 |tuple vs=>have:=LRel.refl1 (μ:=μ) (l:=vs.toList) h;exact .tuple vs vs this.1 this.2
 |_=>exact VRel.refl1 h
theorem VRel.undef:VRel μ undef undef:=VRel.refl2 rfl
theorem VRel.eq2{v v':Value}(h:VRel μ v v')(A:noA2 v=true):v'=v:=by
 cases h with
 |tuple xs xs' hl hi=>
  have:=LRel.eq1 (μ:=μ) (l:=xs.toList) (l':=xs'.toList) ⟨hl,hi⟩ A
  rw[a19.1 this]
 |atom v h0=>rfl
 |_=>exact VRel.eq1 (μ:=μ) (by constructor<;>assumption) A
theorem VRel.cells{v v':Value}(h:VRel μ v v'):LRel μ v.cells.toList v'.cells.toList:=by
 have one: ∀{u A:Value},VRel μ u A->LRel μ [u] [A]:=fun E=> .cons E .nil
 cases h with
 |agg xs xs' hl hi=>exact⟨hl,hi⟩
 |atom v h0=>cases v<;>first|(simp[cJ]at h0;done)|exact one (.atom _ h0)
 |ptr b o l hb=>exact one (.ptr b o l hb)
 |sliceC b o n k l hb ho=>exact one (.sliceC b o n k l hb ho)
 |sliceO b o o' n k k' e l hb ho h1 h2 h3 h4=>exact one (.sliceO b o o' n k k' e l hb ho h1 h2 h3 h4)
 |sliceZ b o a l hb=>exact one (.sliceZ b o a l hb)
 |map b l hb=>exact one (.map b l hb)
 |func fn xs ys xs' ys' h1 h2 i1 i2=>exact one (.func fn xs ys xs' ys' h1 h2 i1 i2)
 |tuple xs xs' h1 i1=>exact one (.tuple xs xs' h1 i1)
theorem VRel.int_inv{k:IntKind}{n:Int}{v':Value}(h:VRel μ (.int k n) v'):v'= .int k n:=h.eq0 rfl
theorem VRel.bool_inv{b:Bool}{v':Value}(h:VRel μ (.bool b) v'):v'= .bool b:=h.eq0 rfl
theorem VRel.string_inv{s:ByteArray}{v':Value}(h:VRel μ (.string s) v'):v'= .string s:=h.eq0 rfl
theorem VRel.ptr_inv{b o:Nat}{v':Value}(h:VRel μ (.pointer (some ⟨b,o,none⟩)) v'): ∃l,μ b=some l/\v'= .pointer (some ⟨l.c,l.sh+o,none⟩):=by
 cases h with
 |atom _ h0=>simp[cJ]at h0
 |ptr _ _ l hb=>exact⟨l,hb,rfl⟩
theorem VRel.ptr_some{a:Addr}{v':Value}(h:VRel μ (.pointer (some a)) v'):a.spot=none/\∃A,v'= .pointer (some A):=by
 cases h with
 |atom _ h0=>simp[cJ]at h0
 |ptr _ _ l hb=>exact⟨rfl,_,rfl⟩
theorem VRel.agg_inv{xs:Array Value}{v':Value}(h:VRel μ (.agg xs) v'): ∃A,v'= .agg A/\LRel μ xs.toList A.toList:=by
 cases h with
 |atom _ h0=>simp[cJ]at h0
 |agg _ A hl hi=>exact⟨A,rfl,hl,hi⟩
theorem VRel.tuple_inv{xs:Array Value}{v':Value}(h:VRel μ (.tuple xs) v'): ∃A,v'= .tuple A/\LRel μ xs.toList A.toList:=by
 cases h with
 |atom _ h0=>simp[cJ]at h0
 |tuple _ A hl hi=>exact⟨A,rfl,hl,hi⟩
theorem VRel.func_inv{fn:Fn}{xs ys:Array Value}{v':Value}(h:VRel μ (.func fn xs ys) v'):
  ∃A E,v'= .func fn A E/\LRel μ xs.toList A.toList/\LRel μ ys.toList E.toList:=by
 cases h with
 |atom _ h0=>
  simp only[cJ,a02]at h0
  have O:xs= #[]:=a1c.1 (a07 h0.1)
  have T:ys= #[]:=a1c.1 (a07 h0.2)
  subst O T
  exact⟨#[], #[],rfl,.nil,.nil⟩
 |func _ _ _ A E h1 h2 i1 i2=>exact⟨A,E,rfl,⟨h1,i1⟩,⟨h2,i2⟩⟩
theorem VRel.map_inv{b:Nat}{v':Value}(h:VRel μ (.map (some b)) v'): ∃l,μ b=some l/\v'= .map (some l.c):=by
 cases h with
 |atom _ h0=>simp[cJ]at h0
 |map _ l hb=>exact⟨l,hb,rfl⟩
theorem VRel.mapNil_inv{v':Value}(h:VRel μ (.map none) v'):v'= .map none:=h.eq0 rfl
theorem VRel.slice_inv{b o n k:Nat}{v':Value}(h:VRel μ (.slice (some ⟨b,o,none⟩) n k) v'):
  ∃l,μ b=some l/\((l.opn=none/\v'= .slice (some ⟨l.c,l.sh+o,none⟩) n k)\/
   (∃e o' A,l.opn=some e/\v'= .slice (some ⟨l.c,o',none⟩) n A/\n<=k/\k<=A/\(0<k->o'=l.sh+o)/\o'+A *e<=l.csz)\/(n=0/\k=0/\∃E,v'= .slice (some E) 0 0)):=by
 cases h with
 |atom _ h0=>simp[cJ]at h0
 |sliceC _ _ _ _ l hb ho=>exact⟨l,hb,.inl ⟨ho,rfl⟩⟩
 |sliceO _ _ o' _ _ A e l hb ho h1 h2 h3 h4=>exact⟨l,hb,.inr (.inl ⟨e,o',A,ho,rfl,h1,h2,h3,h4⟩)⟩
 |sliceZ _ _ a l hb=>exact⟨l,hb,.inr (.inr ⟨rfl,rfl,a,rfl⟩)⟩
theorem VRel.sliceNil_inv{n k:Nat}{v':Value}(h:VRel μ (.slice none n k) v'):n=0/\k=0/\v'= .slice none n k:=by
 cases h with
 |atom _ h0=>
  simp only[cJ,a02]at h0
  exact⟨a07 h0.1,a07 h0.2,rfl⟩
theorem VRel.slice_some{a:Addr}{n k:Nat}{v':Value}(h:VRel μ (.slice (some a) n k) v'):a.spot=none/\∃E A,v'= .slice (some E) n A:=by
 cases h with
 |atom _ h0=>simp[cJ]at h0
 |sliceC _ _ _ _ l hb ho=>exact⟨rfl,_,_,rfl⟩
 |sliceO _ _ o' _ _ A e l hb ho h1 h2 h3 h4=>exact⟨rfl,_,_,rfl⟩
 |sliceZ _ _ a l hb=>exact⟨rfl,_,_,rfl⟩
end
def ObjRel(μ:Emb)(w:World)(l:Loc):AObj->Prop
 | .cells cs opn true=>l.opn=opn/\opn=none/\l.c<w.heap.size/\∀(i:Nat) v,cs[i]?=some v->∃v',w.cell? ⟨l.c,l.sh+i,none⟩=some v'/\VRel μ v v'
 | .cells cs opn false=>l.opn=opn/\∃(A:Array Value) (e:TypeId),w.heap[l.c]?=some (.cells A e (0,0))/\A.size=l.csz/\l.sh+cs.length<=l.csz/\
   ∀(i:Nat) v,cs[i]?=some v->∃v',A[l.sh+i]?=some v'/\VRel μ v v'
 | .iter s pos=>l.sh=0/\w.heap[l.c]?=some (.stringIter s pos)
 | .tab es=> ∃(E:Array MapEntry) (O:Nat),w.heap[l.c]?=some (.map E O)/\es.length=E.toList.length/\
   ∀(i:Nat) x y,es[i]?=some x->E.toList[i]?=some y->VRel μ x.1 y.key/\VRel μ x.2 y.val
 | .dead=>True
structure WRel(μ:Emb)(H:Heap)(w:World):Prop where
 obj: ∀b l o,μ b=some l->H.get b=some o->ObjRel μ w l o
 inj: ∀b1 b2 l1 l2 o1 o2,b1≠b2->μ b1=some l1->μ b2=some l2->H.get b1=some o1->H.get b2=some o2->o1.rw=true->o2.live=true->l1.c≠l2.c
theorem bK{w:World}{c:Nat}{o:Obj}(h:w.heap[c]?=some o):c<w.heap.size:=(a0L.1 h).1
theorem ObjRel.lt{μ:Emb}{w:World}{l:Loc}{o:AObj}(h:ObjRel μ w l o)(O:o.live=true):l.c<w.heap.size:=by
 cases o with
 |cells cs opn ro=>
  cases ro with
  |true=>exact h.2.2.1
  |false=>obtain⟨_,T,e,A,_⟩:=h;exact bK A
 |iter s pos=>exact bK h.2
 |tab es=>obtain⟨U,E,A,_⟩:=h;exact bK A
 |dead=>simp[AObj.live]at O
theorem ObjRel.keep{μ μ':Emb}{w w':World}{l:Loc}{o:AObj}(U: ∀b l,μ b=some l->μ' b=some l)(hs:w.heap.size<=w'.heap.size)
  (hc:o.live=true->w'.heap[l.c]?=w.heap[l.c]?) (h:ObjRel μ w l o):ObjRel μ' w' l o:=by
 cases o with
 |cells cs opn ro=>
  have V:=hc rfl
  cases ro with
  |true=>
   obtain⟨Y,A,T,Z⟩:=h
   refine⟨Y,A,by omega,fun i v hv=>?_⟩
   obtain⟨v',E,hr⟩:=Z i v hv
   refine⟨v',?_,hr.mono U⟩
   rw[←E]
   simp only[World.cell?,V]
  |false=>
   obtain⟨Y,ax,e,hh,A,T,Z⟩:=h
   refine⟨Y,ax,e,V.trans hh,A,T,fun i v hv=>?_⟩
   obtain⟨v',E,hr⟩:=Z i v hv
   exact⟨v',E,hr.mono U⟩
 |iter s pos=>exact⟨h.1,(hc rfl).trans h.2⟩
 |tab es=>
  obtain⟨a1,O,hh,A,T⟩:=h
  refine⟨a1,O,(hc rfl).trans hh,A,fun i x y hx hy=>?_⟩
  obtain⟨r1,r2⟩:=T i x y hx hy
  exact⟨r1.mono U,r2.mono U⟩
 |dead=>trivial
theorem gI{o:AObj}(h:o.rw=true):o.live=true:=by cases o<;>simp_all[AObj.rw,AObj.live]
structure Post(μ:Emb)(H:Heap)(w:World)(μ':Emb)(H':Heap)(w':World):Prop where
 ext: ∀b l,μ b=some l->μ' b=some l
 dom: ∀b l,μ' b=some l->μ b=some l\/(H.next<=b/\b<H'.next)
 grow:w.heap.size<=w'.heap.size
 os:w'.os=w.os
 tape:w'.tape=w.tape
 out:w'.output=w.output
 keep: ∀c,c<w.heap.size->(∀b l o,μ b=some l->H.get b=some o->o.rw=true->l.c≠c)->w'.heap[c]?=w.heap[c]?
 img: ∀b l o,μ' b=some l->H'.get b=some o->o.live=true->w.heap.size<=l.c\/∃b0 l0 o0,μ b0=some l0/\H.get b0=some o0/\o0.live=true/\(o.rw=true->o0.rw=true)/\l0.c=l.c
 wrel:WRel μ' H' w'
theorem Post.refl{μ:Emb}{H:Heap}{w:World}(h:WRel μ H w):Post μ H w μ H w:=
 ⟨fun _ _ h=>h,fun _ _ h=> .inl h,a06 _,rfl,rfl,rfl,fun _ _ _=>rfl,fun b l o A E O=> .inr ⟨b,l,o,A,E,O,id,rfl⟩,h⟩
theorem Post.trans{μ V Y:Emb}{H H1 E:Heap}{w w1 U:World}(h:Post μ H w V H1 w1)(k:Post V H1 w1 Y E U)(h1:H.next<=H1.next)(h2:H1.next<=E.next):
  Post μ H w Y E U:=by
 refine⟨fun b l hb=>k.ext b l (h.ext b l hb),fun b l hb=>?_,a0m h.grow k.grow,k.os.trans h.os,k.tape.trans h.tape,k.out.trans h.out,fun c hc T=>?_,fun b l o hb O A=>?_,k.wrel⟩
 ·rcases k.dom b l hb with hb1|⟨hb1,hb2⟩
  ·rcases h.dom b l hb1 with hb0|⟨hb3,hb4⟩
   ·exact .inl hb0
   exact .inr ⟨hb3,by omega⟩
  exact .inr ⟨by omega,hb2⟩
 ·rw[k.keep c (a0X hc h.grow) ?_,h.keep c hc T];intro b l o hb O A Z;rcases h.img b l o hb O (gI A) with hh|⟨b0,l0,o0,g1,g2,g3,g5,g4⟩
  ·omega
  exact T b0 l0 o0 g1 g2 (g5 A) (g4.trans Z)
 rcases k.img b l o hb O A with hh|⟨b0,l0,o0,g1,g2,g3,g5,g4⟩
 ·exact .inl (a0m h.grow hh)
 rcases h.img b0 l0 o0 g1 g2 g3 with hh|⟨b1,l1,o1,e1,e2,e3,e5,e4⟩
 ·exact .inl (g4▸hh)
 exact .inr ⟨b1,l1,o1,e1,e2,e3,fun hx=>e5 (g5 hx),e4.trans g4⟩
theorem WRel.drew{μ:Emb}{H:Heap}{w:World}(h:WRel μ H w):WRel μ H w.drew:=
 ⟨fun b l o hb A=>(h.obj b l o hb A).keep (fun _ _ h=>h) (a06 _) (fun _=>rfl),h.inj⟩
theorem Post.drew{μ:Emb}{H:Heap}{w:World}(h:WRel μ H w):Post μ H w μ H w.drew:=
 ⟨fun _ _ h=>h,fun _ _ h=> .inl h,a06 _,rfl,rfl,rfl,fun _ _ _=>rfl,fun b l o A E O=> .inr ⟨b,l,o,A,E,O,id,rfl⟩,h.drew⟩
def Emb.set(μ:Emb)(b:Nat)(l:Loc):Emb:=fun k=>if k=b then some l else μ k
theorem Emb.set_same(μ:Emb)(b:Nat)(l:Loc):μ.set b l b=some l:=by simp[Emb.set]
theorem Emb.set_ext{μ:Emb}{b:Nat}(l:Loc)(h:μ b=none): ∀k x,μ k=some x->μ.set b l k=some x:=by
 intro k x A;have:k≠b:=fun e=>by subst e;rw[h]at A;cases A
 simp[Emb.set,this,A]
theorem Emb.set_inv{μ:Emb}{b:Nat}{l:Loc}{k:Nat}{x:Loc}(h:μ.set b l k=some x):(k=b/\x=l)\/(k≠b/\μ k=some x):=by
 unfold Emb.set at h;split at h
 ·rename_i e;injection h with h;exact .inl ⟨e,h.symm⟩
 rename_i e;exact .inr ⟨e,h⟩
theorem iZ(w:World)(o:Obj){c:Nat}(h:c<w.heap.size):(w.alloc o).heap[c]?=w.heap[c]?:=by simp only[World.alloc,Array.getElem?_push];rw[if_neg (by omega)]
theorem fw(w:World)(o:Obj):(w.alloc o).heap[w.heap.size]?=some o:=by show(w.heap.push o)[w.heap.size]?=some o;simp
theorem Post.push{μ:Emb}{H:Heap}{w:World}(h:WRel μ H w)(hf:μ H.next=none)(l:Loc)(hl:l.c=w.heap.size)(o:AObj)(co:Obj)
  (ho:ObjRel (μ.set H.next l) (w.alloc co) l o):Post μ H w (μ.set H.next l) (H.push o) (w.alloc co):=by
 have hm:=Emb.set_ext l hf
 refine⟨hm,fun b x hb=>?_,by simp,rfl,rfl,rfl,fun c hc _=>iZ w co hc,fun b x o' hb A hr=>?_,⟨fun b x o' hb A=>?_,fun b1 b2 l1 l2 o1 o2 E a3 a4 O T a7 ar=>?_⟩⟩
 ·rcases Emb.set_inv hb with⟨rfl,rfl⟩|⟨_,hb⟩
  ·exact .inr ⟨a06 _,by simp⟩
  exact .inl hb
 ·rcases Emb.set_inv hb with⟨rfl,rfl⟩|⟨E,hb⟩
  ·exact .inl (by omega)
  rw[Heap.get_push_ne H o (Ne.symm E)]at A;exact .inr ⟨b,x,o',hb,A,hr,id,rfl⟩
 ·rcases Emb.set_inv hb with⟨rfl,rfl⟩|⟨E,hb⟩
  ·rw[Heap.get_push_same]at A;injection A with A;subst A;exact ho
  rw[Heap.get_push_ne H o (Ne.symm E)]at A;have hr:=h.obj b x o' hb A;exact hr.keep hm (by simp) (fun a5=>iZ w co (hr.lt a5))
 rcases Emb.set_inv a3 with⟨e1,f1⟩|⟨Y,U⟩<;>rcases Emb.set_inv a4 with⟨e2,f2⟩|⟨Z,V⟩
 ·exact absurd (e1.trans e2.symm) E
 ·rw[Heap.get_push_ne H o (Ne.symm Z)]at T;have:=(h.obj b2 l2 o2 V T).lt ar;subst f1;omega
 ·rw[Heap.get_push_ne H o (Ne.symm Y)]at O;have:=(h.obj b1 l1 o1 U O).lt (by cases o1<;>simp_all[AObj.rw,AObj.live]);subst f2;omega
 rw[Heap.get_push_ne H o (Ne.symm Y)]at O
 rw[Heap.get_push_ne H o (Ne.symm Z)]at T
 exact h.inj b1 b2 l1 l2 o1 o2 E U V O T a7 ar
def aU(w:World)(c:Nat)(o:Obj):World:={w with heap:=w.heap.setIfInBounds c o}
theorem dl(w:World){c k:Nat}(o:Obj)(h:c≠k):(aU w c o).heap[k]?=w.heap[k]?:=by simp[aU,a1s h]
theorem bh(w:World){c:Nat}(o:Obj)(h:c<w.heap.size):(aU w c o).heap[c]?=some o:=by simp[aU,h]
@[simp] theorem setObjAt_size(w:World)(c:Nat)(o:Obj):(aU w c o).heap.size=w.heap.size:=by simp[aU]
theorem Post.put{μ:Emb}{H:Heap}{w:World}(h:WRel μ H w){b:Nat}{l:Loc}{o:AObj}(hb:μ b=some l)(U:H.get b=some o)(O:o.rw=true)
  (o':AObj) (b3:o'.rw=true) (T:Obj) (hn:ObjRel μ (aU w l.c T) l o'):Post μ H w μ (H.put b o') (aU w l.c T):=by
 refine⟨fun _ _ h=>h,fun _ _ h=> .inl h,by simp,rfl,rfl,rfl,fun c hc an=>dl w T (an b l o hb U O),fun k x V E A a8=>?_,⟨fun k x V E A=>?_,fun b1 b2 l1 l2 o1 o2 a3 Y Z a4 a5 a6 a7=>?_⟩⟩
 ·by_cases e:b=k
  ·subst e;rw[hb]at E;injection E with E;subst E;exact .inr ⟨b,l,o,hb,U,gI O,fun _=>O,rfl⟩
  rw[Heap.get_put_ne H o' e]at A;exact .inr ⟨k,x,V,E,A,a8,id,rfl⟩
 ·by_cases e:b=k
  ·subst e;rw[hb]at E;injection E with E;subst E;rw[Heap.get_put_same]at A;injection A with A;subst A;exact hn
  rw[Heap.get_put_ne H o' e]at A;have hx:=h.obj k x V E A;exact hx.keep (fun _ _ h=>h) (by simp) (fun a2=>dl w T (h.inj b k l x o V e hb E U A O a2))
 have old: ∀k ok lk,μ k=some lk->(H.put b o').get k=some ok->∃oo,H.get k=some oo/\(ok.rw=true->oo.rw=true)/\(ok.live=true->oo.live=true):=by
  intro k ok lk E al;by_cases e:b=k
  ·subst e;exact⟨o,U,fun _=>O,fun _=>by cases o<;>simp_all[AObj.rw,AObj.live]⟩
  rw[Heap.get_put_ne H o' e]at al;exact⟨ok,al,id,id⟩
 obtain⟨p1,q1,r1,_⟩:=old b1 o1 l1 Y a4
 obtain⟨p2,q2,_,r2⟩:=old b2 o2 l2 Z a5
 exact h.inj b1 b2 l1 l2 p1 p2 a3 Y Z q1 q2 (r1 a6) (r2 a7)
theorem Post.take{μ:Emb}{H:Heap}{w:World}(h:WRel μ H w){b:Nat}{l:Loc}{o:AObj}(hb:μ b=some l)(ho:H.get b=some o)(Z:o.rw=true)
  (hf:μ H.next=none) (l':Loc) (hl:l'.c=l.c) (o':AObj) (co:Obj) (hn:ObjRel (μ.set H.next l') (aU w l.c co) l' o'):
  Post μ H w (μ.set H.next l') ((H.put b .dead).push o') (aU w l.c co):=by
 have hm:=Emb.set_ext l' hf
 have cp:b≠H.next:=fun e=>by subst e;rw[hf]at hb;cases hb
 have get: ∀k,k≠H.next->((H.put b .dead).push o').get k=(H.put b .dead).get k:=fun k E=>Heap.get_push_ne (H.put b .dead) o' (Ne.symm E)
 have bl:((H.put b .dead).push o').get H.next=some o':=Heap.get_push_same (H.put b .dead) o'
 refine⟨hm,fun k x E=>?_,by simp,rfl,rfl,rfl,fun c hc bt=>dl w co (bt b l o hb ho Z),fun k x ox E A bb=>?_,⟨fun k x ox E A=>?_,fun b1 b2 l1 l2 o1 o2 U bw b0 a9 ba V Y=>?_⟩⟩
 ·rcases Emb.set_inv E with⟨rfl,rfl⟩|⟨_,E⟩
  ·exact .inr ⟨a06 _,by simp⟩
  exact .inl E
 ·rcases Emb.set_inv E with⟨rfl,rfl⟩|⟨U,E⟩
  ·exact .inr ⟨b,l,o,hb,ho,gI Z,fun _=>Z,hl.symm⟩
  rw[get k U]at A;by_cases e:b=k
  ·subst e;rw[Heap.get_put_same]at A;injection A with A;subst A;simp[AObj.live]at bb
  rw[Heap.get_put_ne H _ e]at A;exact .inr ⟨k,x,ox,E,A,bb,id,rfl⟩
 ·rcases Emb.set_inv E with⟨rfl,rfl⟩|⟨U,E⟩
  ·rw[bl]at A;injection A with A;subst A;exact hn
  rw[get k U]at A;by_cases e:b=k
  ·subst e;rw[Heap.get_put_same]at A;injection A with A;subst A;trivial
  rw[Heap.get_put_ne H _ e]at A;have hx:=h.obj k x ox E A;exact hx.keep hm (by simp) (fun ar=>dl w co (h.inj b k l x o ox e hb E ho A Z ar))
 have old: ∀k ok,k≠H.next->ok.live=true->((H.put b .dead).push o').get k=some ok->k≠b/\H.get k=some ok:=by
  intro k ok E ar T;rw[get k E]at T;by_cases e:b=k
  ·subst e;rw[Heap.get_put_same]at T;injection T with T;subst T;simp[AObj.live]at ar
  rw[Heap.get_put_ne H _ e]at T;exact⟨Ne.symm e,T⟩
 have O: ∀{x:AObj},x.rw=true->x.live=true:=by intro x hx;cases x<;>simp_all[AObj.rw,AObj.live]
 rcases Emb.set_inv bw with⟨e1,f1⟩|⟨ax,al⟩<;>rcases Emb.set_inv b0 with⟨e2,f2⟩|⟨a1,an⟩
 ·exact absurd (e1.trans e2.symm) U
 ·obtain⟨n2,g2⟩:=old b2 o2 a1 Y ba;rw[f1,hl];exact h.inj b b2 l l2 o o2 (Ne.symm n2) hb an ho g2 Z Y
 ·obtain⟨n1,g1⟩:=old b1 o1 ax (O V) a9;rw[f2,hl];exact fun e=>h.inj b b1 l l1 o o1 (Ne.symm n1) hb al ho g1 Z (O V) e.symm
 obtain⟨_,g1⟩:=old b1 o1 ax (O V) a9
 obtain⟨_,g2⟩:=old b2 o2 a1 Y ba
 exact h.inj b1 b2 l1 l2 o1 o2 U al an g1 g2 V Y
end Go.R
set_option linter.unusedVariables false
namespace Go.R
section pure_
variable {α β:Type} (P:Program)
theorem ct{s:Sem α}{a:α}(h:au P s=some a)(w:World):s.run P w= .ok a w:=by
 induction s with
 |pure x=>simp only[au,a00]at h;subst h;rfl
 |program k ih=>simp only[au]at h;simp only[Sem.run];exact ih _ h
 |mark m k ih=>simp only[au]at h;simp only[Sem.run];exact ih h
 |_=>simp[au]at h
@[simp] theorem aD(x:Sem α)(f:α->Sem β):au P (x>>=f)=(au P x).bind fun a=>au P (f a):=by
 show au P (x.bind f)=_;induction x with
 |program k ih=>simp only[Sem.bind,au];exact ih _
 |mark m k ih=>simp only[Sem.bind,au];exact ih
 |pure a=>rfl
 |_=>rfl
@[simp] theorem bD(a:α):au P (Pure.pure a:Sem α)=some a:=rfl
@[simp] theorem ev:au P program=some P:=rfl
@[simp] theorem pureRun_stuck(A:String):au P (stuck A:Sem α)=none:=rfl
@[simp] theorem pureRun_unsupported(u:Unsupported):au P (unsupported u:Sem α)=none:=rfl
@[simp] theorem pureRun_goPanic(v:Value):au P (goPanic v:Sem α)=none:=rfl
@[simp] theorem pureRun_choose(q:Question):au P (choose q)=none:=rfl
@[simp] theorem pureRun_mark(m:Mark):au P (mark m)=some ():=rfl
theorem pureRun_ite(c:Prop) [Decidable c](x y:Sem α):au P (if c then x else y)=if c then au P x else au P y:=by split<;>rfl
@[simp] theorem bx(t:TypeId):au P (underlying t)=P.underlying t:=by unfold underlying;simp only[aD,ev,a0l];cases P.underlying t<;>rfl
@[simp] theorem dT(t:TypeId):au P (typeInfo t)=P.info? t:=by unfold typeInfo;simp only[aD,ev,a0l];cases P.info? t<;>rfl
@[simp] theorem cF(t:TypeId):au P (sizeOf t)=di P t:=by unfold sizeOf di;simp only[aD,dT];cases P.info? t<;>rfl
@[simp] theorem fo(t:TypeId):au P (isAgg t)=eJ P t:=by
 unfold isAgg eJ;simp only[aD,bx];cases P.underlying t with
 |none=>rfl
 |some d=>cases d<;>rfl
theorem gx(e:RuntimeError):au P (runtimePanic e:Sem α)=none:=by unfold runtimePanic;cases e<;>simp[newVar,newRow,newObj,au,elemOf]<;>(intros;split<;>simp[au])
theorem gN(k:IntKind)(x y:Int)(c:BoundsCode):au P (boundsPanic k x y c:Sem α)=none:=by unfold boundsPanic;simp[gx,pureRun_ite]
end pure_
section runs
variable {P:Program} (w:World)
theorem aQ{t:TypeId}{n:Nat}(h:di P t=some n):(sizeOf t).run P w= .ok n w:=ct P (by rw[cF];exact h) w
theorem kT{t:TypeId}{b:Bool}(h:eJ P t=some b):(isAgg t).run P w= .ok b w:=ct P (by rw[fo];exact h) w
theorem ef{t:TypeId}{i:TypeInfo}(h:P.info? t=some i):(typeInfo t).run P w= .ok i w:=ct P (by rw[dT];exact h) w
theorem ah{t:TypeId}{d:TypeDesc}(h:P.underlying t=some d):(underlying t).run P w= .ok d w:=ct P (by rw[bx];exact h) w
theorem ep{t:TypeId}{z:List Value}(h:dz P t=some z): ∃i v,P.info? t=some i/\i.zero=some v/\v.cells.toList=z/\z.all cJ=true:=by
 unfold dz at h;split at h
 ·rename_i i hi;split at h
  ·rename_i v A;cases hc:v.cells.toList.all cJ with
   |false=>rw[hc]at h;cases h
   |true=>rw[hc]at h;simp at h;subst h;exact⟨i,v,hi,A,rfl,hc⟩
  cases h
 cases h
theorem dm{t:TypeId}{i:TypeInfo}{v:Value}(hi:P.info? t=some i)(A:i.zero=some v):(zeroValue t).run P w= .ok v w:=by unfold zeroValue;simp[ef w hi,A]
end runs
section mem
variable {P:Program} {μ:Emb} {H:Heap} {w:World}
theorem ja(h:WRel μ H w){b o:Nat}{l:Loc}{v:Value}(hb:μ b=some l)(A:H.cellAt ⟨b,o,none⟩=some v):
  ∃v',w.cell? ⟨l.c,l.sh+o,none⟩=some v'/\VRel μ v v':=by
 simp only[Heap.cellAt,hY]at A
 split at A
 ·rename_i cs an Z V;have O:=h.obj b l _ hb V;cases Z with
  |true=>exact O.2.2.2 o v A
  |false=>
   obtain⟨_,al,e,Y,_,_,U⟩:=O
   obtain⟨v',T,E⟩:=U o v A
   exact⟨v',by simp only[World.cell?,Y];simpa using T,E⟩
 cases A
theorem cG(c o j:Nat):Addr.add ⟨c,o,none⟩ j=⟨c,o+j,none⟩:=by
 unfold Addr.add;split
 ·subst_vars;rfl
 rfl
theorem gS(h:WRel μ H w){b o n:Nat}{l:Loc}{vs:List Value}(hb:μ b=some l)(A:H.loadN ⟨b,o,none⟩ n=some vs):
  ∃al,(loadCells ⟨l.c,l.sh+o,none⟩ n).run P w= .ok ⟨al⟩ w/\LRel μ vs al/\vs.length=n:=by
 simp only[Heap.loadN,bL,cg,bA]at A
 split at A
 ·rename_i cs a3 ro hg;cases hq:Nat.beq ((cs.drop o).take n).length n with
  |false=>rw[hq]at A;cases A
  |true=>
   rw[hq]at A;simp only[cond_true,a00]at A
   have O:((cs.drop o).take n).length=n:=a07 hq
   have key: ∀j,j<n->∃v v',cs[o+j]?=some v/\w.cell? ⟨l.c,l.sh+o+j,none⟩=some v'/\VRel μ v v':=by
    intro j V;have Z:o+j<cs.length:=by rw[a0O,a0V]at O;omega
    have an:H.cellAt ⟨b,o+j,none⟩=some cs[o+j]:=by simp only[Heap.cellAt,hg,hY];exact a08 Z
    obtain⟨v',hc,hr⟩:=ja h hb an;exact⟨_,v',a08 Z,by rw[←hc,a0A],hr⟩
   have U: ∃f:Nat->Value,∀j,j<n->w.cell? (Addr.add ⟨l.c,l.sh+o,none⟩ j)=some (f j)/\∀v,cs[o+j]?=some v->VRel μ v (f j):=by refine⟨fun j=>(w.cell? ⟨l.c,l.sh+o+j,none⟩).getD undef,fun j V=>?_⟩;obtain⟨v,v',E,T,h3⟩:=key j V;simp only[cG,T,a1m];refine⟨trivial,fun u Y=>?_⟩;rw[E]at Y;injection Y with Y;subst Y;exact h3
   obtain⟨f,U⟩:=U
   refine⟨(List.range n).map f,run_loadCells w _ n f (fun j V=>(U j V).1),?_,by rw[←A];exact O⟩
   subst A
   refine⟨by rw[O];simp,fun i v v' E T=>?_⟩
   rw[a0x]at E
   split at E
   ·rename_i hi;rw[a0D]at E;simp[hi]at T;subst T;exact(U i hi).2 v E
   cases E
 cases A
theorem gR(h:WRel μ H w){b o:Nat}{l:Loc}{t:TypeId}{v:Value}(hb:μ b=some l)(A:H.loadV P t ⟨b,o,none⟩=some v):
  ∃v',(loadVar t ⟨l.c,l.sh+o,none⟩).run P w= .ok v' w/\VRel μ v v':=by
 unfold Heap.loadV at A
 split at A
 ·rename_i O;split at A
  ·rename_i n Y;split at A
   ·rename_i vs V;injection A with A;subst A;obtain⟨U,T,E,_⟩:=gS (P:=P) h hb V;refine⟨.agg ⟨U⟩,?_,.agg _ _ E.1 E.2⟩;simp[loadVar,kT w O,aQ w Y,T]
   cases A
  cases A
 ·rename_i O;obtain⟨v',hc,Z⟩:=ja h hb A;refine⟨v',?_,Z⟩;simp[loadVar,kT w O,hc]
 cases A
theorem j8{α:Type}(l:List α)(k:Nat):(Array.mk l)[k]?=l[k]?:=by simp
theorem j0: ∀(cs vs:List Value),vs.length<=cs.length->(over cs vs).length=cs.length
 | [],[],_=>rfl
 | [],_::_,h=>by simp at h
 |_::_,[],_=>rfl
 |c::cs,v::vs,h=>by simp only[over,a03];rw[j0 cs vs (by simpa using h)]
theorem over_get: ∀(cs vs:List Value) (i:Nat),vs.length<=cs.length->(over cs vs)[i]?=if i<vs.length then vs[i]? else cs[i]?
 | [],[],i,_=>by simp[over]
 | [],_::_,_,h=>by simp at h
 |_::_,[],i,_=>by simp[over]
 |c::cs,v::vs,0,_=>by simp[over]
 |c::cs,v::vs,i+1,h=>by simp[over,over_get cs vs i (by simpa using h)]
theorem bY: ∀(cs:List Value) (o:Nat) (vs:List Value),o+vs.length<=cs.length->(bu cs o vs).length=cs.length
 |cs,0,vs,h=>by cases cs<;>exact j0 _ _ (by omega)
 | [],o+1,vs,h=>by simp[bu]
 |c::cs,o+1,vs,h=>by simp only[bu,a03];rw[bY cs o vs (by simp at h;omega)]
theorem br: ∀(cs:List Value) (o:Nat) (vs:List Value) (i:Nat),o+vs.length<=cs.length->
  (bu cs o vs)[i]?=if o<=i/\i<o+vs.length then vs[i-o]? else cs[i]?
 |cs,0,vs,i,h=>by
  have:bu cs 0 vs=over cs vs:=by cases cs<;>rfl
  rw[this,over_get cs vs i (by omega)];simp
 | [],o+1,vs,i,h=>by simp at h
 |c::cs,o+1,vs,0,h=>by simp[bu]
 |c::cs,o+1,vs,i+1,h=>by
  simp only[bu,a1x];rw[br cs o vs i (by simp at h;omega)];by_cases hc:o<=i/\i<o+vs.length
  ·rw[if_pos hc,if_pos (by omega)];congr 1;omega
  rw[if_neg hc,if_neg (by omega)]
theorem dq(c:Nat)(e:TypeId): ∀(vs:List Value) (w:World) (A:Array Value) (o i:Nat),w.heap[c]?=some (.cells A e (0,0))->
  o+i+vs.length<=A.size->vs.all Value.oneCell'=true->vs≠ []->
  (storeCells ⟨c,o,none⟩ vs i).run P w= .ok () (aU w c (.cells ⟨bu A.toList (o+i) vs⟩ e (0,0)))
 | [],_,_,_,_,_,_,_,hne=>absurd rfl hne
 |v::vs,w,A,o,i,hh,hl,hall,_=>by
  simp only[a0s,a02]at hall;simp only[a03]at hl;have O:w.cell? ⟨c,o+i,none⟩=some (A[o+i]'(by omega)):=by simp[World.cell?,hh,show o+i<A.size by omega]
  have V:w.frozen? ⟨c,o+i,none⟩=false:=by simp[World.frozen?,hh]
  have U:w.setCell ⟨c,o+i,none⟩ v=aU w c (.cells (A.setIfInBounds (o+i) v) e (0,0)):=by
   unfold World.setCell aU;congr 1;apply a1z;intro k;by_cases E:c=k
   ·subst E;rw[Array.getElem?_modify,if_pos rfl,hh,a12,if_pos rfl,if_pos (bK hh)];simp
   simp[Array.getElem?_modify,E,a1s E]
  have h1:(storeCells ⟨c,o,none⟩ (v::vs) i).run P w=(storeCells ⟨c,o,none⟩ vs (i+1)).run P (aU w c (.cells (A.setIfInBounds (o+i) v) e (0,0))):=by simp only[storeCells,Sem.run_bind,cG];rw[run_store P w _ v _ hall.1,O];simp[V,U]
  rw[h1];by_cases Z:vs=[]
  ·subst Z;simp only[storeCells,Sem.run_pure];congr 3;apply a1z;intro k;simp only[a05]at hl;rw[a12];refine Eq.trans ?_ (j8 _ _).symm;rw[br _ _ _ _ (by simp;omega)];by_cases E:o+i=k
   ·subst E;rw[if_pos rfl,if_pos (by omega),if_pos (by simp)];simp
   rw[if_neg E,if_neg (by simp;omega)];simp
  have Y:(aU w c (.cells (A.setIfInBounds (o+i) v) e (0,0))).heap[c]?=some (.cells (A.setIfInBounds (o+i) v) e (0,0)):=bh w _ (bK hh);rw[dq c e vs _ _ o (i+1) Y (by simp;omega) hall.2 Z];congr 1;have: ∀(x y:Obj),aU (aU w c x) c y=aU w c y:=by intro x y;simp[aU]
  rw[this];congr 2;apply a1z;intro k;refine(j8 _ _).trans (Eq.trans ?_ (j8 _ _).symm);rw[br _ _ _ _ (by simp;omega),br _ _ _ _ (by simp;omega)];by_cases E:o+i=k
  ·subst E;rw[if_neg (by omega),if_pos (by simp)];simp[show o+i<A.size by omega]
  by_cases T:o+(i+1)<=k/\k<o+(i+1)+vs.length
  ·rw[if_pos T,if_pos (by simp;omega)];rw[show k-(o+i)=(k-(o+(i+1)))+1 by omega,a1x]
  rw[if_neg T,if_neg (by simp;omega)];simp[E]
theorem fO(h:WRel μ H w){b o:Nat}{l:Loc}{vs A:List Value}{H':Heap}(hb:μ b=some l)(hs:H.storeL ⟨b,o,none⟩ vs=some H')(O:LRel μ vs A):
  ∃w',(storeCells ⟨l.c,l.sh+o,none⟩ A).run P w= .ok () w'/\Post μ H w μ H' w':=by
 simp only[Heap.storeL,bA,mz,Nat.add_eq]at hs
 split at hs
 ·rename_i cs bb hg;cases Y:(Nat.ble (o+vs.length) cs.length&&vs.all Value.oneCell') with
  |false=>rw[Y]at hs;cases hs
  |true=>
   rw[Y]at hs;simp only[cond_true,a00]at hs
   simp only[a02]at Y
   have U:o+vs.length<=cs.length:=a0d Y.1
   obtain⟨r1,E,e,T,r2,r3,r4⟩:=h.obj b l _ hb hg
   have V:=O.1
   have a2:A.all Value.oneCell'=true:=by
    rw[a0j];intro x hx;obtain⟨i,hi⟩:=List.getElem?_of_mem hx;have ar:i<vs.length:=by rw[V];exact(a0v.1 hi).1
    have Z:=O.2 i vs[i] x (a08 ar) hi;rw[Z.oneCell];exact a0j.1 Y.2 _ (a1a ar)
   by_cases ax:A=[]
   ·subst ax;have hv:vs=[]:=by simpa using V
    subst hv;have a1:bu cs o []=cs:=by apply a1B;intro k;rw[br _ _ _ _ (by simpa using U),if_neg (by simp)]
    subst hs;refine⟨aU w l.c (.cells E e (0,0)),?_,?_⟩
    ·have:aU w l.c (.cells E e (0,0))=w:=by
      unfold aU;congr 1;apply a1z;intro k;by_cases hk:l.c=k
      ·subst hk;rw[a12,if_pos rfl,if_pos (bK T),T]
      rw[a1s hk]
     rw[this];rfl
    refine Post.put h hb hg rfl _ rfl _ ⟨r1,E,e,bh w _ (bK T),r2,by rw[a1];exact r3,fun i v hi=>r4 i v (by rw[a1]at hi;exact hi)⟩
   subst hs
   refine⟨_,by simpa using dq (P:=P) l.c e A w E (l.sh+o) 0 T (by omega) a2 ax,?_⟩
   refine Post.put h hb hg rfl _ rfl _ ⟨r1,_,e,bh w _ (bK T),?_,?_,?_⟩
   ·rw[←r2];show(bu E.toList (l.sh+o) A).length=_;rw[bY _ _ _ (by simp;omega)];simp
   ·rw[bY _ _ _ U];exact r3
   intro i v hi
   rw[br _ _ _ _ U]at hi
   have mg: ∀v':Value,(bu E.toList (l.sh+o) A)[l.sh+i]?=some v'->(Array.mk (bu E.toList (l.sh+o+0) A))[l.sh+i]?=some v':=fun v' hv=>(j8 _ _).trans hv
   rw[br _ _ _ _ (by simp;omega)]at mg
   by_cases hc:o<=i/\i<o+vs.length
   ·rw[if_pos hc]at hi;rw[if_pos (by omega)]at mg;obtain⟨v',al,Z⟩:=O.get hi;exact⟨v',mg v' (by rw[←al];congr 1;omega),Z⟩
   rw[if_neg hc]at hi
   rw[if_neg (by omega)]at mg
   obtain⟨v',al,Z⟩:=r4 i v hi
   exact⟨v',mg v' (by simpa using al),Z⟩
 cases hs
theorem cQ(h:WRel μ H w)(V:μ H.next=none)(e:TypeId){cs E:List Value}(T:LRel μ cs E)(A:List Value)(O:Option Nat)(Z:O=none->A=[]):
  ∃l,l.c=w.heap.size/\l.sh=0/\l.opn=O/\l.csz=cs.length+A.length/\
  (newRow e ⟨E++A⟩).run P w= .ok ⟨w.heap.size,0,none⟩ (w.alloc (.cells ⟨E++A⟩ e))/\
   Post μ H w (μ.set H.next l) (aJ H cs O) (w.alloc (.cells ⟨E++A⟩ e)):=by
 refine⟨⟨w.heap.size,0,O,cs.length+A.length⟩,rfl,rfl,rfl,rfl,by simp[newRow],?_⟩
 refine Post.push h V _ rfl _ _ ⟨rfl,_,e,fw w _,by simp[T.1],by simp,fun i v hi=>?_⟩
 obtain⟨v',U,Y⟩:=T.get hi
 refine⟨v',?_,Y.mono (Emb.set_ext _ V)⟩
 have:i<E.length:=(a0v.1 U).1
 simp only[a0R,j8]
 rw[a1e this];exact U
end mem
end Go.R
namespace Go.R
def ANRel(μ:Emb):AN->Next->Prop
 | .val v,.value v'=>VRel μ v v'
 | .skip,.skip=>True
 | .enter f args,.enter f' args'=>f=f'/\LRel μ args args'.toList
 |_,_=>False
theorem iQ(bs:ByteArray): ∀(n i:Nat) (r:List UInt8),bs.size-i=n->ByteArray.toList.loop bs i r=r.reverse++bs.data.toList.drop i:=by
 intro n;induction n with
 |zero=>
  intro i r h
  rw[ByteArray.toList.loop,if_neg (by omega),a0T (by simp only[a1P,ByteArray.size_data];omega),a0p]
 |succ n ih=>
  intro i r h
  have hi:i<bs.size:=by omega
  rw[ByteArray.toList.loop,if_pos hi,ih (i+1) _ (by omega)]
  have A:i<bs.data.toList.length:=by simpa using hi
  rw[a0G A]
  simp[ByteArray.get!,hi]
theorem cT(bs:ByteArray):bs.toList=bs.data.toList:=by unfold ByteArray.toList;rw[iQ bs _ 0 [] rfl];simp
section
variable {P:Program} {μ:Emb}
theorem dr{ρ ρ':Operand->Value}{o:Oper}{H H':Heap}{r:AN}(h:bj P ρ o H=some (r,H'))(hs: ∀cs b,o.op≠ .select cs b)
  (V: ∀x∈o.op.operands,VRel μ (ρ x) (ρ' x)):H'=H/\∃v v',r= .val v/\(∀w,(execOp ρ' o).run P w= .ok (.value v') w)/\VRel μ v v':=by
 unfold bj at h
 cases E:o.op.operands.toList.all fun x=>hZ (ρ x) with
 |false=>rw[E]at h;cases h
 |true=>
  rw[E]at h
  have T:execOp ρ' o=execOp ρ o:=execOp_congr o hs fun x O=>(V x O).eq1 (a0j.1 E x (by simpa using O))
  simp only[cond_true]at h
  split at h
  ·rename_i v U;cases A:noA2 v with
   |false=>rw[A]at h;cases h
   |true=>
    rw[A]at h;simp only[cond_true,a00,a04]at h
    obtain⟨rfl,rfl⟩:=h
    exact⟨rfl,v,v,rfl,fun w=>by rw[T];exact ct P U w,VRel.refl2 A⟩
  cases h
theorem j9{s:Sem Value}{H H':Heap}{r:AN}(h:lift P s H=some (r,H')):H'=H/\∃v,r= .val v/\au P s=some v:=by
 unfold lift at h;split at h
 ·rename_i v A;simp only[a00,a04]at h;exact⟨h.2.symm,v,h.1.symm,A⟩
 cases h
theorem intBin_sound{op:BinOp}{k:IntKind}{a b:Int}{v:Value}(h:lb op k a b=some v)(t:TypeId)(w:World):
  (binOp op t (.int k a) (.int k b)).run P w= .ok v w/\cJ v=true:=by
 cases op<;>simp only[lb,a00,reduceCtorEq]at h
 case quo=>
  cases hb:(b==0) with
  |true=>rw[hb]at h;cases h
  |false=>
   rw[hb]at h;simp only[cond_false,a00]at h;subst h
   have A: ¬b=0:=by simpa using hb
   simp[binOp_quo,Op.intDiv,A,cJ]
 case rem=>
  cases hb:(b==0) with
  |true=>rw[hb]at h;cases h
  |false=>
   rw[hb]at h;simp only[cond_false,a00]at h;subst h
   have A: ¬b=0:=by simpa using hb
   simp[binOp_rem,Op.intDiv,A,cJ]
 all_goals subst h
 case add=>simp[binOp_add,Op.intArith,cJ]
 case sub=>simp[binOp_sub,Op.intArith,cJ]
 case mul=>simp[binOp_mul,Op.intArith,cJ]
 case and=>simp[binOp_and,intBits_and,cJ,cU]
 case or=>simp[binOp_or,intBits_or,cJ,cU]
 case xor=>simp[binOp_xor,intBits_xor,cJ,cU]
 case andNot=>simp[binOp_andNot,intBits_andNot,cJ,cU]
 case eql=>simp[binOp_eql,cJ]
 case neq=>simp[binOp_neq,cJ]
 case lss=>simp[binOp_lss,cJ]
 case leq=>simp[binOp_leq,cJ]
 case gtr=>simp[binOp_gtr,cJ]
 case geq=>simp[binOp_geq,cJ]
theorem shBin_sound{op:BinOp}{k E:IntKind}{a b:Int}{v:Value}(h:shBin op k a b=some v)(t:TypeId)(w:World):
  (binOp op t (.int k a) (.int E b)).run P w= .ok v w/\cJ v=true:=by
 cases op<;>simp only[shBin,reduceCtorEq]at h
 all_goals
  cases b with
  |negSucc n=>simp[shiftN]at h
  |ofNat n=>
   simp only[shiftN,a00]at h;subst h
   have A: ¬((n:Int)<0):=by omega
   simp[binOp_shl,binOp_shr,Op.shift,A,cJ,Nat.min_def]
theorem jQ{op:BinOp}{t:TypeId}{a b:ByteArray}{v:Value}(h:strOp op a b=some v)(w:World):
  (binOp op t (.string a) (.string b)).run P w= .ok v w/\cJ v=true:=by
 have hb:binOp op t (.string a) (.string b)=Op.stringOp op a b:=by cases op<;>rfl
 rw[hb]
 unfold strOp at h
 split at h
 ·injection h with h;subst h;simp[Op.stringOp,cT,dv,cJ]
 ·injection h with h;subst h;simp[Op.stringOp,cT,dv,cJ]
 ·injection h with h;subst h;simp[Op.stringOp,cT,cJ]
 ·injection h with h;subst h;simp[Op.stringOp,cT,dv,cJ]
 ·injection h with h;subst h;simp[Op.stringOp,cT,dv,cJ]
 ·injection h with h;subst h;simp[Op.stringOp,cT,cJ]
 ·simp only[dF,bA]at h;cases A:Nat.ble (a.data.toList++b.data.toList).length 1099511627776 with
  |false=>rw[A]at h;cases h
  |true=>
   rw[A]at h;simp only[cond_true,a00]at h;subst h
   have E:=a0d A
   simp only[a01,a1P,ByteArray.size_data]at E
   refine⟨?_,rfl⟩
   have O: ¬(((a.size+b.size:Nat):Int)>IntKind.i64.max):=by rw[IntKind.max_i64];omega
   simp only[Op.stringOp,if_neg O,Sem.run_pure]
   congr 2
 cases h
theorem kY{a:Option Addr}{v':Value}(h:VRel μ (.pointer a) v'): ∃A,v'= .pointer A/\A.isNone=a.isNone:=by
 cases h with
 |atom _ h0=>exact⟨a,rfl,rfl⟩
 |ptr b o l hb=>exact⟨_,rfl,rfl⟩
theorem cR{a:Option Addr}{n k:Nat}{v':Value}(h:VRel μ (.slice a n k) v'): ∃A E,v'= .slice A n E/\A.isNone=a.isNone:=by
 cases h with
 |atom _ h0=>exact⟨a,k,rfl,rfl⟩
 |sliceC b o n k l hb ho=>exact⟨_,_,rfl,rfl⟩
 |sliceO b o o' n k E e l hb ho h1 h2 h3 h4=>exact⟨_,_,rfl,rfl⟩
 |sliceZ b o a l hb=>exact⟨_,_,rfl,rfl⟩
theorem kZ{a:Option Nat}{v':Value}(h:VRel μ (.map a) v'): ∃A,v'= .map A/\A.isNone=a.isNone:=by
 cases h with
 |atom _ h0=>exact⟨a,rfl,rfl⟩
 |map b l hb=>exact⟨_,rfl,rfl⟩
theorem ei{t:TypeId}{x y:Value}{w:World}{b:Bool}(h: ∀d,(Op.equalIn (d+1) t x y).run P w= .ok b w):(Op.equal t x y).run P w= .ok b w:=h 9999
theorem j5{t:TypeId}{x y U V:Value}{b:Bool}(h:nilEq P t x y=some b)(O:VRel μ x U)(T:VRel μ y V)(w:World):
  (Op.equal t U V).run P w= .ok b w/\(∀op u v,eqGuard op t u v U V=pure ())/\(∀op,op= .eql\/op= .neq->binOp op t U V=(match op with
   | .eql=>do pure (.bool (←Op.equal t U V))
   |_=>do pure (.bool (!(←Op.equal t U V))))):=by
 unfold nilEq at h
 split at h
 ·rename_i e b0 E;obtain rfl:=O.eq0 rfl;obtain⟨Z,rfl,hb⟩:=kY T;injection h with h;subst h;refine⟨?_,fun op u v=>by cases op<;>rfl,fun op A=>by rcases A with rfl|rfl<;>rfl⟩;exact ei fun d=>by simp[Op.equalIn,ah w E,hb]
 ·rename_i e a0 E;obtain rfl:=T.eq0 rfl;obtain⟨Y,rfl,ha⟩:=kY O;injection h with h;subst h;refine⟨?_,fun op u v=>by cases op<;>rfl,fun op A=>by rcases A with rfl|rfl<;>rfl⟩;exact ei fun d=>by cases Y<;>simp[Op.equalIn,ah w E,←ha]
 ·rename_i e n k b0 n2 k2 E;obtain⟨rfl,rfl,rfl⟩:=O.sliceNil_inv;obtain⟨Z,k',rfl,hb⟩:=cR T;injection h with h;subst h;refine⟨?_,fun op u v=>by cases op<;>rfl,fun op A=>by rcases A with rfl|rfl<;>rfl⟩;exact ei fun d=>by simp[Op.equalIn,ah w E,hb]
 ·rename_i e a0 n k n2 k2 E;obtain⟨rfl,rfl,rfl⟩:=T.sliceNil_inv;obtain⟨Y,k',rfl,ha⟩:=cR O;injection h with h;subst h;refine⟨?_,fun op u v=>by cases op<;>rfl,fun op A=>by rcases A with rfl|rfl<;>rfl⟩;exact ei fun d=>by cases Y<;>simp[Op.equalIn,ah w E,←ha]
 ·rename_i e1 e2 b0 E;obtain rfl:=O.eq0 rfl;obtain⟨Z,rfl,hb⟩:=kZ T;injection h with h;subst h;refine⟨?_,fun op u v=>by cases op<;>rfl,fun op A=>by rcases A with rfl|rfl<;>rfl⟩;exact ei fun d=>by simp[Op.equalIn,ah w E,hb]
 ·rename_i e1 e2 a0 E;obtain rfl:=T.eq0 rfl;obtain⟨Y,rfl,ha⟩:=kZ O;injection h with h;subst h;refine⟨?_,fun op u v=>by cases op<;>rfl,fun op A=>by rcases A with rfl|rfl<;>rfl⟩;exact ei fun d=>by cases Y<;>simp[Op.equalIn,ah w E,←ha]
 ·rename_i ps rs va E;obtain rfl:=O.eq0 rfl;obtain rfl:=T.eq0 rfl;injection h with h;subst h;refine⟨?_,fun op u v=>by cases op<;>rfl,fun op A=>by rcases A with rfl|rfl<;>rfl⟩;exact ei fun d=>by simp[Op.equalIn,ah w E]
 ·rename_i ps rs va fn xs ys E;obtain rfl:=O.eq0 rfl;obtain⟨ar,ax,rfl,_,_⟩:=T.func_inv;injection h with h;subst h;refine⟨?_,fun op u v=>by cases op<;>rfl,fun op A=>by rcases A with rfl|rfl<;>rfl⟩;exact ei fun d=>by simp[Op.equalIn,ah w E]
 ·rename_i ps rs va fn xs ys E;obtain rfl:=T.eq0 rfl;obtain⟨ar,ax,rfl,_,_⟩:=O.func_inv;injection h with h;subst h;refine⟨?_,fun op u v=>by cases op<;>rfl,fun op A=>by rcases A with rfl|rfl<;>rfl⟩;exact ei fun d=>by simp[Op.equalIn,ah w E]
 cases h
theorem part_rel{t:TypeId}{cs A:Array Value}{off:Nat}{v:Value}(T:LRel μ cs.toList A.toList)(h:au P (part t cs off)=some v):
  ∃v',au P (part t A off)=some v'/\VRel μ v v':=by
 unfold part at h⊢
 simp only[aD,fo]at h⊢
 cases O:eJ P t with
 |none=>rw[O]at h;simp at h
 |some g=>
  rw[O]at h
  cases g with
  |true=>
   simp only[a0l,if_true,aD,cF]at h⊢
   cases hs:di P t with
   |none=>rw[hs]at h;simp at h
   |some n=>
    rw[hs]at h
    simp only[a0l,bD,a00]at h⊢
    subst h
    refine⟨_,rfl,?_⟩
    have:=(T.take (off+n)).drop off
    have ex: ∀c:Array Value,(c.extract off (off+n)).toList=(c.toList.take (off+n)).drop off:=fun c=>by simp[a1T]
    exact .agg _ _ (by rw[ex,ex];exact this.1) (by rw[ex,ex];exact this.2)
  |false=>
   simp only[a0l,a0g,if_false]at h⊢
   cases hc:cs[off]? with
   |none=>rw[hc]at h;simp at h
   |some u=>
    rw[hc]at h
    simp only[bD,a00]at h;subst h
    obtain⟨v',U,E⟩:=T.get (i:=off) (v:=u) (by simpa using hc)
    refine⟨v',?_,E⟩
    have:A[off]?=some v':=by simpa using U
    rw[this];rfl
theorem field_rel{t:TypeId}{x O:Value}{f:Nat}{v:Value}(U:VRel μ x O)(h:au P (Instr.field t x f)=some v):
  ∃v',au P (Instr.field t O f)=some v'/\VRel μ v v':=by
 unfold Instr.field at h⊢
 simp only[aD,bx]at h⊢
 cases E:P.underlying t with
 |none=>rw[E]at h;simp at h
 |some d=>
  rw[E]at h
  simp only[a0l]at h⊢
  cases d with
  |struct fields=>
   simp only at h⊢
   cases A:fields[f]? with
   |none=>rw[A]at h;simp at h
   |some fd=>
    rw[A]at h
    simp only[aD]at h⊢
    cases x with
    |agg cs=>
     obtain⟨V,rfl,T⟩:=U.agg_inv
     simp only[asAgg,bD,a0l]at h⊢
     exact part_rel T h
    |_=>simp[asAgg]at h
  |_=>simp at h
theorem index_rel{t:TypeId}{x T i O:Value}{v:Value}(V:VRel μ x T)(hi:VRel μ i O)(A: ∀s,x≠ .string s)(h:au P (Instr.index t x i)=some v):
  ∃v',au P (Instr.index t T O)=some v'/\VRel μ v v':=by
 cases i with
 |int k n=>
  obtain rfl:=hi.int_inv
  unfold Instr.index at h⊢
  simp only[asIntOf,aD,bD,a0l,bx]at h⊢
  cases E:P.underlying t with
  |none=>rw[E]at h;simp at h
  |some d=>
   rw[E]at h
   simp only[a0l]at h⊢
   cases d with
   |array len e=>
    cases x with
    |agg cs=>
     obtain⟨Y,rfl,U⟩:=V.agg_inv
     simp only at h⊢
     by_cases hb:0<=n/\n<(len:Int)
     ·rw[if_pos hb]at h⊢;simp only[aD,cF]at h⊢;cases hs:di P e with
      |none=>rw[hs]at h;simp at h
      |some sz=>rw[hs]at h;simp only[a0l]at h⊢;exact part_rel U h
     rw[if_neg hb,gN]at h;cases h
    |_=>simp at h
   |string=>
    cases x with
    |string s=>exact absurd rfl (A s)
    |_=>simp at h
   |_=>simp at h
 |pointer a=>cases a<;>simp[Instr.index,asIntOf]at h
 |_=>simp[Instr.index,asIntOf]at h
theorem ij: ∀(l l':List Value) (s off:Nat) (A T:Array Value),LRel μ l l'->LRel μ A.toList T.toList->
  LRel μ ((l.zipIdx s).foldl (fun cs p=>cs.setIfInBounds (off+p.2) p.1) A).toList ((l'.zipIdx s).foldl (fun cs p=>cs.setIfInBounds (off+p.2) p.1) T).toList
 | [],l',s,off,A,T,h,hA=>by rw[h.nil_left];exact hA
 |v::l,l',s,off,A,T,h,hA=>by
  obtain⟨v',Z,rfl,Y,V⟩:=h.cons_left;simp only[List.zipIdx_cons,a1Q];refine ij l Z (s+1) off _ _ V ⟨by simpa using hA.1,fun i x x' E O=>?_⟩;simp only[Array.toList_setIfInBounds,List.getElem?_set]at E O;have U:=hA.1;by_cases hi:off+s=i
  ·rw[if_pos hi]at E O;split at E
   ·rename_i an;rw[if_pos (by omega)]at O;injection E with E;injection O with O;subst E O;exact Y
   cases E
  rw[if_neg hi]at E O;exact hA.2 i x x' E O
theorem jz{E:Nat->Option (Nat×Nat)}: ∀(ps ps':List (Nat×Value)) (A A':Array Value) (r:Array Value),ps.length=ps'.length->
  (∀(i:Nat) x O,ps[i]?=some x->ps'[i]?=some O->x.1=O.1/\VRel μ x.2 O.2)->LRel μ A.toList A'.toList->Instr.fill E A ps=some r->
  ∃r',Instr.fill E A' ps'=some r'/\LRel μ r.toList r'.toList
 | [],ps',A,A',r,hl,_,hA,h=>by have:ps'=[]:=a0f hl.symm;subst this;simp only[Instr.fill,a00]at h;subst h;exact⟨A',rfl,hA⟩
 |(i,v)::ps,ps',A,A',r,hl,hp,hA,h=>by
  cases ps' with
  |nil=>simp at hl
  |cons O ps'=>
   obtain⟨i',v'⟩:=O
   obtain⟨hi,Z⟩:=hp 0 (i,v) (i',v') rfl rfl
   simp only at hi Z;subst hi
   simp only[Instr.fill]at h⊢
   cases U:E i with
   |none=>rw[U]at h;cases h
   |some os=>
    obtain⟨off,size⟩:=os
    rw[U]at h
    simp only at h⊢
    have hc:=Z.cells
    have Y:v'.cells.size=v.cells.size:=by have:=hc.1;simpa using this.symm
    have V:A'.size=A.size:=by have:=hA.1;simpa using this.symm
    rw[Y,V]
    split at h
    ·cases h
    rename_i T
    rw[if_neg T]
    refine jz ps ps' _ _ r (by simpa using hl) (fun j x O h1 h2=>hp (j+1) x O (by simpa using h1) (by simpa using h2)) ?_ h
    have:=ij v.cells.toList v'.cells.toList 0 off A A' hc hA
    have e: ∀(u:Value) (B:Array Value),Array.foldl (fun cs x=>cs.setIfInBounds (off+x.snd) x.fst) B u.cells.zipIdx=List.foldl (fun cs p=>cs.setIfInBounds (off+p.snd) p.fst) B u.cells.toList.zipIdx:=fun u B=>by rw[←Array.foldl_toList,Array.toList_zipIdx]
    exact(e v A▸e v' A'▸this:LRel μ (Array.foldl (fun cs x=>cs.setIfInBounds (off+x.snd) x.fst) A v.cells.zipIdx).toList (Array.foldl (fun cs x=>cs.setIfInBounds (off+x.snd) x.fst) A' v'.cells.zipIdx).toList)
end
end Go.R
namespace Go.R
section
variable {P:Program} {μ:Emb}
theorem build_rel{t:TypeId}{ps ps':Array (Nat×Value)}{v:Value}(V:ps.toList.length=ps'.toList.length)
  (Z: ∀(i:Nat) x x',ps.toList[i]?=some x->ps'.toList[i]?=some x'->x.1=x'.1/\VRel μ x.2 x'.2)
  (hz:(dz P t).isSome=true) (h:au P (Instr.build t ps)=some v):
  ∃v',au P (Instr.build t ps')=some v'/\VRel μ v v':=by
 unfold Instr.build at h⊢
 have ar:au P (zeroValue t)=(P.info? t).bind (·.zero):=by
  unfold zeroValue;simp only[aD,dT];cases hi:P.info? t with
  |none=>rfl
  |some i=>simp only[a0l];cases i.zero<;>rfl
 simp only[aD,ar,bx]at h⊢
 cases hi:(P.info? t).bind (·.zero) with
 |none=>rw[hi]at h;simp at h
 |some z=>
  rw[hi]at h
  have T:LRel μ z.cells.toList z.cells.toList:=by obtain⟨zl,an⟩:=Option.isSome_iff_exists.1 hz;obtain⟨i,v0,h1,h2,h3,h4⟩:=ep (P:=P) an;rw[h1]at hi;simp only[a0l,h2,a00]at hi;subst hi;exact LRel.refl0 (by rw[h3];exact h4)
  simp only[a0l]at h⊢
  cases hu:P.underlying t with
  |none=>rw[hu]at h;simp at h
  |some d=>
   rw[hu]at h
   simp only[a0l]at h⊢
   cases d with
   |struct fields=>
    simp only[aD]at h⊢
    cases Y:au P (fields.mapM fun f=>do let y ←sizeOf f.type;Pure.pure (f.offset,y)) with
    |none=>rw[Y]at h;simp at h
    |some places=>
     rw[Y]at h
     simp only[a0l]at h⊢
     cases E:Instr.fill (fun x=>places[x]?) z.cells ps.toList with
     |none=>rw[E]at h;simp at h
     |some r=>
      rw[E]at h
      simp only[bD,a00]at h
      subst h
      obtain⟨U,O,A⟩:=jz _ _ _ _ _ V Z T E
      exact⟨.agg U,by rw[O];rfl,.agg _ _ A.1 A.2⟩
   |array n e=>
    simp only[aD,cF]at h⊢
    cases hs:di P e with
    |none=>rw[hs]at h;simp at h
    |some sz=>
     rw[hs]at h
     simp only[a0l]at h⊢
     cases E:Instr.fill (fun i=>some (i *sz,sz)) z.cells ps.toList with
     |none=>rw[E]at h;simp at h
     |some r=>
      rw[E]at h
      simp only[bD,a00]at h
      subst h
      obtain⟨U,O,A⟩:=jz _ _ _ _ _ V Z T E
      exact⟨.agg U,by rw[O];rfl,.agg _ _ A.1 A.2⟩
   |_=>simp at h
theorem fc{v v':Value}{n:Nat}(h:asNat v=some n)(A:VRel μ v v'): ∃k,v'= .int k (n:Int):=by
 unfold asNat at h;split at h
 ·rename_i k m;injection h with h;subst h;exact⟨k,A.int_inv⟩
 cases h
theorem aField_sound{s:TypeId}{x T:Value}{f:Nat}{v:Value}(h:iy P s x f=some v)(Z:VRel μ x T):
  ∃v',(∀w,(Instr.fieldAt s T f).run P w= .ok v' w)/\VRel μ v v':=by
 unfold iy at h
 split at h
 ·rename_i fs b o Y;split at h
  ·rename_i E U;split at h
   ·rename_i n V;cases A:Nat.beq n 0 with
    |true=>rw[A]at h;cases h
    |false=>
     rw[A]at h;simp only[cond_false,a00]at h;subst h
     obtain⟨l,hb,rfl⟩:=Z.ptr_inv
     have O: ¬n=0:=fun e=>by subst e;cases A
     refine⟨_,fun w=>?_,a0A l.sh o E.offset▸VRel.ptr b (o+E.offset) l hb⟩
     simp[Instr.fieldAt,ah w Y,U,Instr.sureAddr,fieldPlace,aQ w V,O,cG,a0A]
   cases h
  cases h
 cases h
theorem js{t:TypeId}{x x' i Z:Value}{v:Value}(h:cm P t x i=some v)(Y:VRel μ x x')(hi:VRel μ i Z):
  ∃v',(∀w,(Instr.indexAt t x' Z).run P w= .ok v' w)/\VRel μ v v':=by
 unfold cm at h
 split at h
 ·rename_i e b o n k j O U;obtain⟨ik,rfl⟩:=fc U hi;split at h
  ·rename_i sz hs;cases A:(Nat.ble (j+1) n&&Nat.ble n k) with
   |false=>rw[A]at h;cases h
   |true=>
    rw[A]at h;simp only[cond_true,a00]at h;subst h
    simp only[a02]at A
    have h1:j+1<=n:=a0d A.1
    have h2:n<=k:=a0d A.2
    obtain⟨l,hb,hc⟩:=Y.slice_inv
    have E:VRel μ (.pointer (some ⟨b,o+j *sz,none⟩)) (.pointer (some ⟨l.c,l.sh+o+j *sz,none⟩)):=
     a0A l.sh o (j *sz)▸VRel.ptr b (o+j *sz) l hb
    have T:(j:Int)<(n:Int):=by omega
    rcases hc with⟨_,rfl⟩|⟨e',o',k',_,rfl,_,_,V,_⟩|⟨hz,_,_⟩
    rotate_right
    ·omega
    ·refine⟨_,fun w=>?_,E⟩;simp[Instr.indexAt,asIntOf,ah w O,aQ w hs,cG];omega
    have ho:o'=l.sh+o:=V (by omega)
    subst ho
    refine⟨_,fun w=>?_,E⟩
    simp[Instr.indexAt,asIntOf,ah w O,aQ w hs,cG]
    omega
  cases h
 ·rename_i n e b o j O U;obtain⟨ik,rfl⟩:=fc U hi;split at h
  ·rename_i sz hs;cases A:Nat.ble (j+1) n with
   |false=>rw[A]at h;cases h
   |true=>
    rw[A]at h;simp only[cond_true,a00]at h;subst h
    have h1:j+1<=n:=a0d A
    obtain⟨l,hb,rfl⟩:=Y.ptr_inv
    refine⟨_,fun w=>?_,a0A l.sh o (j *sz)▸VRel.ptr b (o+j *sz) l hb⟩
    have T:(j:Int)<(n:Int):=by omega
    have h0:(0:Int)<=(j:Int)/\(j:Int)<(n:Int):=⟨by omega,T⟩
    simp only[Instr.indexAt,asIntOf,ah w O,aQ w hs,cG,Instr.sureAddr,Sem.run_bind,Sem.run_pure,Result.andThen_ok,if_pos h0,Int.toNat_natCast]
  cases h
 cases h
theorem strIndex_run{t:TypeId}{s:ByteArray}{k:IntKind}{j:Nat}{b:UInt8}(O:P.underlying t=some .string)(hb:s.data.toList[j]?=some b)(w:World):
  (Instr.index t (.string s) (.int k (j:Int))).run P w= .ok (.int .u8 b.toNat) w:=by
 have A:j<s.size:=by have:=(a0v.1 hb).1;simpa using this
 have E:s[j]?=some b:=by rw[getElem?_pos s j A];have:=(a0v.1 hb).2;rw[←this];rfl
 simp[Instr.index,asIntOf,ah w O,E]
theorem jE{ops:Array Operand}{ρ ρ':Operand->Value}(h: ∀x∈ops,VRel μ (ρ x) (ρ' x)):LRel μ (ops.map ρ).toList (ops.map ρ').toList:=by refine⟨by simp,fun i v v' E O=>?_⟩;simp only[Array.toList_map,a1C,a1G]at E O;obtain⟨x,T,rfl⟩:=E;obtain⟨y,A,rfl⟩:=O;rw[T]at A;injection A with A;subst A;exact h x (by simpa using a0q T)
theorem mB{t:TypeId}{x T:Value}{f:Nat}{v:Value}(h:gZ P t x f=some v)(hx:VRel μ x T):
  ∃v',(∀w,(Instr.field t T f).run P w= .ok v' w)/\VRel μ v v':=by
 unfold gZ at h
 split at h
 ·rename_i cs;split at h
  ·rename_i g n off A;have hp:au P (Instr.field t (.agg cs) f)=some v:=by
    unfold fieldAt? at A;split at A
    ·rename_i fs hu;split at A
     ·rename_i U E;split at A
      ·rename_i V n' Y Z;simp only[a00,a04]at A;obtain⟨rfl,rfl,rfl⟩:=A;unfold Instr.field part;simp only[aD,bx,hu,a0l,E,asAgg,bD,fo,Y];unfold partL at h;cases V with
       |true=>
        simp only[cond_true,a00,bL,cg]at h
        simp only[if_true,aD,cF,Z,a0l,bD,a00]
        subst h
        congr 1
        apply Array.ext'
        simp
       |false=>
        simp only[cond_false,hY]at h
        simp only[a0g,if_false]
        have hc:cs[U.offset]?=some v:=by simpa using h
        rw[hc];rfl
      cases A
     cases A
    cases A
   obtain⟨v',O,hr⟩:=field_rel hx hp;exact⟨v',fun w=>ct P O w,hr⟩
  cases h
 cases h
theorem ce{r:Option Value}{H H':Heap}{n:AN}(h:ovl r H=some (n,H')):H'=H/\∃v,r=some v/\n= .val v:=by
 unfold ovl at h;split at h
 ·rename_i v;simp only[a00,a04]at h;exact⟨h.2.symm,v,rfl,h.1.symm⟩
 cases h
theorem iK{op:BinOp}{r:Option Bool}{H H':Heap}{n:AN}(h:nilBin op r H=some (n,H')):
  H'=H/\∃b,r=some b/\((op= .eql/\n= .val (.bool b))\/(op= .neq/\n= .val (.bool (!b)))):=by
 unfold nilBin at h
 split at h
 ·rename_i b;split at h
  ·simp only[a00,a04]at h;exact⟨h.2.symm,b,rfl,.inl ⟨rfl,h.1.symm⟩⟩
  ·simp only[a00,a04]at h;exact⟨h.2.symm,b,rfl,.inr ⟨rfl,h.1.symm⟩⟩
  cases h
 cases h
theorem jM{ρ ρ':Operand->Value}{o:Oper}{H H':Heap}{r:AN}(hk:aT o.op=true)
  (O: ∀x∈o.op.operands,VRel μ (ρ x) (ρ' x)) (h:aop P ρ o H=some (r,H')):
  H'=H/\∃v v',r= .val v/\(∀w,(execOp ρ' o).run P w= .ok (.value v') w)/\VRel μ v v':=by
 obtain⟨bt,op,type,pos,after,ba⟩:=o
 cases op<;>simp only[aT,a0g]at hk
 case move x=>
  simp only[aop,a00,a04]at h
  obtain⟨rfl,rfl⟩:=h
  exact⟨rfl,_,ρ' x,rfl,fun w=>rfl,O x (by simp[Op.operands])⟩
 case assign x=>
  simp only[aop,a00,a04]at h
  obtain⟨rfl,rfl⟩:=h
  exact⟨rfl,_,ρ' x,rfl,fun w=>rfl,O x (by simp[Op.operands])⟩
 case pick c a b=>
  simp only[aop,fW]at h
  split at h
  ·rename_i t ht;simp only[a00,a04]at h;obtain⟨rfl,rfl⟩:=h;have hc:ρ' c= .bool t:=by have:=O c (by simp[Op.operands]);rw[ht]at this;exact this.bool_inv
   refine⟨rfl,_,(if t then ρ' a else ρ' b),rfl,fun w=>?_,?_⟩
   ·simp[execOp,hc,asBool]
   cases t
   ·exact O b (by simp[Op.operands])
   exact O a (by simp[Op.operands])
  cases h
 case build t parts=>
  simp only[aop,gP]at h
  split at h
  case h_2=>cases h
  rename_i z hz
  obtain⟨rfl,v,rfl,A⟩:=j9 h
  obtain⟨v',T,U⟩:=build_rel (μ:=μ) (ps:=parts.map fun p=>(p.1,ρ p.2)) (ps':=parts.map fun(i,x)=>(i,ρ' x)) (by simp) (fun i x x' V Y=>by
   simp only[Array.toList_map,a1C,a1G]at V Y;obtain⟨y,Z,rfl⟩:=V;obtain⟨z,hz,rfl⟩:=Y;rw[Z]at hz;injection hz with hz;subst hz;refine⟨rfl,O _ ?_⟩;have:=a0q Z;simp only[Op.operands,List.mem_toArray,a0w];exact⟨y,this,rfl⟩) (by rw[hz];rfl) A
  exact⟨rfl,v,v',rfl,fun w=>by simp only[execOp,Sem.run_bind,ct P T w,Result.andThen_ok,Sem.run_pure],U⟩
 case nilCheck x=>
  simp only[aop,opNil]at h
  split at h
  ·rename_i a ha;simp only[a00,a04]at h;obtain⟨rfl,rfl⟩:=h;have E:=O x (by simp[Op.operands]);rw[ha]at E;obtain⟨_,a',a5⟩:=E.ptr_some;exact⟨rfl,_,ρ' x,rfl,fun w=>by simp[execOp,a5],E⟩
  ·rename_i f a c ha;simp only[a00,a04]at h;obtain⟨rfl,rfl⟩:=h;have E:=O x (by simp[Op.operands]);rw[ha]at E;obtain⟨a',c',a6,_,_⟩:=E.func_inv;exact⟨rfl,_,ρ' x,rfl,fun w=>by simp[execOp,a6],E⟩
  cases h
 case binOp op t x y yt=>
  have E:=O x (by simp[Op.operands])
  have Z:=O y (by simp[Op.operands])
  simp only[aop,aBin]at h
  split at h
  ·rename_i k a ha;rw[ha]at E;unfold binInt at h;split at h
   ·rename_i k' b hb;rw[hb]at Z;obtain⟨rfl,v,A,rfl⟩:=ce h;have key: ∀w,(binOp op t (.int k a) (.int k' b)).run P w= .ok v w/\cJ v=true:=by
     intro w;cases hs:ka op with
     |true=>rw[hs]at A;exact shBin_sound A t w
     |false=>
      rw[hs]at A
      simp only[cond_false]at A
      cases he:fD k k' with
      |false=>rw[he]at A;cases A
      |true=>
       rw[he]at A
       have:k=k':=by simpa[fD] using he
       subst this
       exact intBin_sound A t w
    refine⟨rfl,v,v,rfl,fun w=>?_,.atom v (key default).2⟩;simp only[execOp,E.int_inv,Z.int_inv,eqGuard_at_int,pure_bind,Sem.run_bind,(key w).1,Result.andThen_ok,Sem.run_pure]
   cases h
  ·rename_i a ha;rw[ha]at E;unfold binStr at h;split at h
   ·rename_i b hb;rw[hb]at Z;obtain⟨rfl,v,A,rfl⟩:=ce h;refine⟨rfl,v,v,rfl,fun w=>?_,.atom v (jQ (P:=P) (t:=t) A default).2⟩;simp only[execOp,E.string_inv,Z.string_inv,eqGuard_at_string,pure_bind,Sem.run_bind,(jQ (P:=P) (t:=t) A w).1,Result.andThen_ok,Sem.run_pure]
   cases h
  unfold mq at h
  split at h
  ·exact dr h (fun _ _=>by simp) O
  ·exact dr h (fun _ _=>by simp) O
  obtain⟨rfl,b,hb,an⟩:=iK h
  rcases an with⟨rfl,rfl⟩|⟨rfl,rfl⟩
  ·refine⟨rfl,_,_,rfl,fun w=>?_,.atom (.bool b) rfl⟩;obtain⟨V,Y,h3⟩:=j5 (P:=P) hb E Z w;simp only[execOp,Y,pure_bind,h3 .eql (.inl rfl),Sem.run_bind,V,Result.andThen_ok,Sem.run_pure]
  refine⟨rfl,_,_,rfl,fun w=>?_,.atom (.bool (!b)) rfl⟩
  obtain⟨V,Y,h3⟩:=j5 (P:=P) hb E Z w
  simp only[execOp,Y,pure_bind,h3 .neq (.inr rfl),Sem.run_bind,V,Result.andThen_ok,Sem.run_pure]
 case unOp op t x=>
  have E:=O x (by simp[Op.operands])
  simp only[aop,aUn]at h
  split at h
  ·rename_i b hb;rw[hb]at E;split at h
   ·simp only[a00,a04]at h;obtain⟨rfl,rfl⟩:=h;exact⟨rfl,_,_,rfl,fun w=>by simp[execOp,E.bool_inv,Op.unary],.atom (.bool (!b)) rfl⟩
   cases h
  exact dr h (fun _ _=>by simp) O
 case makeFunc fn first captured=>
  simp only[aop,a00,a04]at h
  obtain⟨rfl,rfl⟩:=h
  have V:=jE (μ:=μ) (ops:=first) (ρ:=ρ) (ρ':=ρ') fun x E=>O x (by simp[Op.operands,E])
  have Y:=jE (μ:=μ) (ops:=captured) (ρ:=ρ) (ρ':=ρ') fun x E=>O x (by simp[Op.operands,E])
  exact⟨rfl,_,_,rfl,fun w=>rfl,.func _ _ _ _ _ V.1 Y.1 V.2 Y.2⟩
 case fieldAddr s x f=>
  simp only[aop]at h
  obtain⟨rfl,v,A,rfl⟩:=ce h
  obtain⟨v',T,U⟩:=aField_sound A (O x (by simp[Op.operands]))
  exact⟨rfl,v,v',rfl,fun w=>by simp only[execOp,Sem.run_bind,T w,Result.andThen_ok,Sem.run_pure],U⟩
 case field t x f=>
  simp only[aop]at h
  obtain⟨rfl,v,A,rfl⟩:=ce h
  obtain⟨v',T,U⟩:=mB A (O x (by simp[Op.operands]))
  exact⟨rfl,v,v',rfl,fun w=>by simp only[execOp,Sem.run_bind,T w,Result.andThen_ok,Sem.run_pure],U⟩
 case indexAddr t x i=>
  simp only[aop]at h
  obtain⟨rfl,v,A,rfl⟩:=ce h
  obtain⟨v',T,U⟩:=js A (O x (by simp[Op.operands])) (O i (by simp[Op.operands]))
  exact⟨rfl,v,v',rfl,fun w=>by simp only[execOp,Sem.run_bind,T w,Result.andThen_ok,Sem.run_pure],U⟩
 case index t x i=>
  have E:=O x (by simp[Op.operands])
  have hi:=O i (by simp[Op.operands])
  simp only[aop,ku]at h
  split at h
  ·rename_i s hs;rw[hs]at E;obtain⟨rfl,v,A,rfl⟩:=ce h;unfold strAt at A;split at A
   ·rename_i j hu hj;obtain⟨k,hk⟩:=fc hj hi;rw[hY]at A;split at A
    ·rename_i b hb;injection A with A;subst A;exact⟨rfl,_,_,rfl,fun w=>by simp only[execOp,E.string_inv,hk,Sem.run_bind,strIndex_run hu hb w,Result.andThen_ok,Sem.run_pure],.atom _ rfl⟩
    cases A
   cases A
  rename_i a7
  obtain⟨rfl,v,rfl,A⟩:=j9 h
  obtain⟨v',T,U⟩:=index_rel E hi (fun s hs=>a7 s hs) A
  exact⟨rfl,v,v',rfl,fun w=>by simp only[execOp,Sem.run_bind,ct P T w,Result.andThen_ok,Sem.run_pure],U⟩
 case extract x i=>
  simp only[aop]at h
  have E:=O x (by simp[Op.operands])
  obtain⟨rfl,v,A,rfl⟩:=ce h
  unfold gw at A
  split at A
  ·rename_i vs a8;rw[a8]at E;obtain⟨a9,a3,U⟩:=E.tuple_inv;rw[hY]at A;obtain⟨v',T,a2⟩:=U.get A;have hg:a9[i]?=some v':=by simpa using T
   exact⟨rfl,v,v',rfl,fun w=>by simp[execOp,a3,Instr.extract,hg],a2⟩
  cases A
end
end Go.R
namespace Go.R
theorem ek(l:List Value): ∀n,(cS n l).length=n *l.length
 |0=>by simp[cS]
 |n+1=>by simp only[cS,a01,ek l n];rw[a0U];omega
theorem lw(l:List Value): ∀(n i:Nat),i<n *l.length->(cS n l)[i]?=l[i%l.length]?
 |0,i,h=>by simp at h
 |n+1,i,h=>by
  simp only[cS];by_cases hi:i<l.length
  ·rw[a1e hi,Nat.mod_eq_of_lt hi]
  rw[a0U,Nat.one_mul]at h;rw[a1l (by omega),lw l n (i-l.length) (by omega)];congr 1;exact(Nat.mod_eq_sub_mod (by omega)).symm
theorem zeros_eq(z:Array Value)(n:Nat):(Array.range (n *z.size)).map (fun i=>z[i%z.size]!)=⟨cS n z.toList⟩:=by
 apply a1z;intro i;refine Eq.trans ?_ (j8 _ _).symm;by_cases hi:i<n *z.size
 ·rw[lw _ _ _ (by simpa using hi)];have E:0<z.size:=by
   rcases a1o z.size with h|h
   ·rw[h]at hi;simp at hi
   exact h
  have A:i%z.size<z.size:=Nat.mod_lt _ E;simp[hi,A]
 rw[a1g (by rw[ek];simpa using hi)];simp[hi]
theorem gW{l:List Value}(h:l.all cJ=true): ∀n,(cS n l).all cJ=true
 |0=>rfl
 |n+1=>by simp only[cS,a1A,h,gW h n,a1p]
section
variable {P:Program} {μ:Emb} {H H':Heap} {w:World}
def OpOK(P:Program)(μ:Emb)(H:Heap)(w:World)(s:Sem Next)(r:AN)(H':Heap):Prop:=
 ∃n w' μ',s.run P w= .ok n w'/\Post μ H w μ' H' w'/\ANRel μ' r n
theorem OpOK.value{s:Sem Value}{v v':Value}{w':World}{μ':Emb}(h:s.run P w= .ok v' w')(A:Post μ H w μ' H' w')(E:VRel μ' v v'):
  OpOK P μ H w (do Pure.pure (.value (←s))) (.val v) H':=
 ⟨.value v',w',μ',by simp only[Sem.run_bind,h,Result.andThen_ok,Sem.run_pure],A,E⟩
theorem OpOK.skip{s:Sem Unit}{w':World}{μ':Emb}(h:s.run P w= .ok () w')(A:Post μ H w μ' H' w'):
  OpOK P μ H w (do s;Pure.pure .skip) .skip H':=
 ⟨.skip,w',μ',by simp only[Sem.run_bind,h,Result.andThen_ok,Sem.run_pure],A,trivial⟩
theorem jZ{r:Option (Value×Heap)}{n:AN}(h:ovh r=some (n,H')): ∃v,r=some (v,H')/\n= .val v:=by
 unfold ovh at h;split at h
 ·simp only[a00,a04]at h;obtain⟨rfl,rfl⟩:=h;exact⟨_,rfl,rfl⟩
 cases h
theorem osk_inv{r:Option Heap}{n:AN}(h:osk r=some (n,H')):r=some H'/\n= .skip:=by
 unfold osk at h;split at h
 ·simp only[a00,a04]at h;obtain⟨rfl,rfl⟩:=h;exact⟨rfl,rfl⟩
 cases h
theorem ii(h:WRel μ H w)(Z:μ H.next=none)(e:TypeId){cs A:List Value}(E:LRel μ cs A):
  ∃l,l.c=w.heap.size/\l.sh=0/\l.opn=none/\(newRow e ⟨A⟩).run P w= .ok ⟨w.heap.size,0,none⟩ (w.alloc (.cells ⟨A⟩ e))/\
   Post μ H w (μ.set H.next l) (aJ H cs none) (w.alloc (.cells ⟨A⟩ e)):=by
 obtain⟨l,U,V,Y,_,O,T⟩:=cQ (P:=P) h Z e E [] none (fun _=>rfl)
 simp only[a0p]at O T
 exact⟨l,U,V,Y,O,T⟩
theorem alloc_sound{e:TypeId}{r:AN}(h:WRel μ H w)(Y: ∀b,H.next<=b->b<H'.next->μ b=none)(A:ew P e H=some (r,H')):
  OpOK P μ H w (do Pure.pure (.value (←Instr.alloc e true (.tuple #[])))) r H':=by
 unfold ew at A
 split at A
 ·rename_i z hz;simp only[a00,a04]at A;obtain⟨rfl,rfl⟩:=A;obtain⟨i,v,hi,hv,hc,E⟩:=ep (P:=P) hz;obtain⟨l,U,V,h3,O,Z⟩:=ii (P:=P) h (Y H.next (a06 _) (by simp[aJ])) e (LRel.refl0 (μ:=μ) E);have T:v.cells=⟨z⟩:=by rw[←hc]
  refine OpOK.value (v':= .pointer (some ⟨w.heap.size,0,none⟩)) ?_ Z ?_
  ·simp only[Instr.alloc,Sem.run_bind,dm w hi hv,Result.andThen_ok,newVar,T,O,Sem.run_pure]
  have:=VRel.ptr (μ:=μ.set H.next l) H.next 0 l (Emb.set_same _ _ _);rw[U,V]at this;exact this
 cases A
theorem box_sound{e:TypeId}{x E:Value}(h:WRel μ H w)(U:μ H.next=none)(Y:VRel μ x E):
  OpOK P μ H w (do Pure.pure (.value (←Instr.box e E))) (.val (ptrTo H.next)) (aJ H x.cells.toList none):=by
 obtain⟨l,O,T,Z,A,V⟩:=ii (P:=P) h U e Y.cells
 refine OpOK.value (v':= .pointer (some ⟨w.heap.size,0,none⟩)) ?_ V ?_
 ·simp only[Instr.box,newVar,Sem.run_bind,A,Result.andThen_ok,Sem.run_pure]
 have:=VRel.ptr (μ:=μ.set H.next l) H.next 0 l (Emb.set_same _ _ _)
 rw[O,T]at this;exact this
theorem kD{t:TypeId}{sz:Nat}{z:List Value}(h:eX P t=some (sz,z)): ∃e,P.underlying t=some (.slice e)/\di P e=some sz/\dz P e=some z/\z.length=sz:=by
 unfold eX at h;split at h
 ·rename_i e E;split at h
  ·rename_i T U hs O;cases A:Nat.beq (iA U) T with
   |false=>rw[A]at h;cases h
   |true=>
    rw[A]at h;simp only[cond_true,a00,a04]at h
    obtain⟨rfl,rfl⟩:=h
    exact⟨e,E,hs,O,by rw[←bA];exact a07 A⟩
  cases h
 cases h
theorem jq{t:TypeId}{n:Nat}{ps:List (Nat×Value)}{ps':Array (Nat×Value)}{r:AN}(h:WRel μ H w)(hf: ∀b,H.next<=b->b<H'.next->μ b=none)
  (hl:ps.length=ps'.toList.length) (hp: ∀(i:Nat) x x',ps[i]?=some x->ps'.toList[i]?=some x'->x.1=x'.1/\VRel μ x.2 x'.2)
  (E:bm P t n ps H=some (r,H')):OpOK P μ H w (do Pure.pure (.value (←Instr.buildSlice t n ps'))) r H':=by
 unfold bm at E
 split at E
 ·rename_i sz z a1;obtain⟨e,hu,hs,hz,T⟩:=kD a1;cases hq:Nat.ble (n *sz) 16777216 with
  |false=>rw[hq]at E;cases E
  |true=>
   rw[hq]at E
   simp only[cond_true]at E
   have bk:n *sz<=16777216:=a0d hq
   split at E
   ·rename_i cells hc;simp only[a00,a04]at E;obtain⟨rfl,rfl⟩:=E;obtain⟨i,v,hi,hv,a2,Z⟩:=ep (P:=P) hz;obtain⟨ar,Y,an⟩:=jz (μ:=μ) ps ps'.toList _ _ cells hl hp (LRel.refl0 (gW Z n)) hc;obtain⟨l,h1,h2,h3,O,V⟩:=ii (P:=P) h (hf H.next (a06 _) (by simp[aJ])) e an;refine OpOK.value (v':= .slice (some ⟨w.heap.size,0,none⟩) n n) ?_ V ?_
    ·have a3:v.cells=⟨z⟩:=by rw[←a2]
     simp only[Instr.buildSlice,Sem.run_bind,ah w hu,Result.andThen_ok,aQ w hs,show ¬(n *sz>2^24) by omega,if_false];by_cases U:n *sz=0
     ·have ax:cS n z=[]:=a0f (by rw[ek,T];exact U);have A: ∀g:Nat->Value,(Array.range (n *sz)).map g=⟨cS n z⟩:=fun g=>by rw[U,ax];simp
      rw[if_pos U];simp only[Sem.run_bind,Sem.run_pure,Result.andThen_ok,A,Y,O]
     have A:=zeros_eq ⟨z⟩ n;simp only[show(Array.mk z).size=sz from T]at A;rw[if_neg U];simp only[Sem.run_bind,dm w hi hv,Sem.run_pure,Result.andThen_ok,a3,show(Array.mk z).size=sz from T,A,Y,O]
    have:=VRel.sliceC (μ:=μ.set H.next l) H.next 0 n n l (Emb.set_same _ _ _) h3;rw[h1,h2]at this;exact this
   cases E
 cases E
theorem load_sound{t:TypeId}{a O:Value}{r:AN}(h:WRel μ H w)(ha:VRel μ a O)(A:dY P t a H=some (r,H')):
  OpOK P μ H w (do Pure.pure (.value (←Instr.loadAt t O))) r H':=by
 unfold dY at A
 split at A
 ·rename_i p;obtain⟨rfl,v,V,rfl⟩:=ce A;obtain⟨b,o,sp⟩:=p;have T:sp=none:=ha.ptr_some.1;subst T;obtain⟨l,hb,rfl⟩:=ha.ptr_inv;obtain⟨v',E,U⟩:=gR (P:=P) h hb V;refine OpOK.value (v':=v') ?_ (Post.refl h) U;simp only[Instr.loadAt,Instr.sureAddr,Sem.run_bind,Sem.run_pure,Result.andThen_ok,E]
 cases A
theorem store_sound{t:TypeId}{a V x U:Value}{r:AN}(h:WRel μ H w)(ha:VRel μ a V)(Z:VRel μ x U)(A:gO P t a x H=some (r,H')):
  OpOK P μ H w (do Instr.storeAt t V U;Pure.pure .skip) r H':=by
 unfold gO at A
 split at A
 ·rename_i p;split at A
  ·rename_i n hn;cases E:Nat.beq x.cells.size n with
   |false=>rw[E]at A;cases A
   |true=>
    rw[E]at A
    obtain⟨hs,rfl⟩:=osk_inv A
    have ar:x.cells.size=n:=a07 E
    obtain⟨b,o,sp⟩:=p
    have Y:sp=none:=ha.ptr_some.1
    subst Y
    obtain⟨l,hb,rfl⟩:=ha.ptr_inv
    obtain⟨w',O,hp⟩:=fO (P:=P) h hb hs Z.cells
    refine OpOK.skip ?_ hp
    have T:U.cells.size=n:=by have:=Z.cells.1;simp only[a1P]at this;omega
    simp only[Instr.storeAt,Instr.sureAddr,storeVar,Sem.run_bind,Sem.run_pure,Result.andThen_ok,aQ w hn,T,ne_eq,not_true,if_false,O]
  cases A
 cases A
theorem lY(t:TypeId)(h:WRel μ H w)(A:μ H.next=none):
  OpOK P μ H w (do Pure.pure (.value (←Instr.makeMap t none))) (.val (.map (some H.next))) (H.push (.tab [])):=by
 refine OpOK.value (v':= .map (some w.heap.size)) (w':=w.alloc (.map #[] 0)) (μ':=μ.set H.next ⟨w.heap.size,0,none,0⟩) ?_ (Post.push h A _ rfl _ _ ?_) ?_
 ·simp[Instr.makeMap]
 ·exact⟨#[],0,fw w _,rfl,fun i x y E=>by simp at E⟩
 exact VRel.map (μ:=μ.set H.next ⟨w.heap.size,0,none,0⟩) H.next _ (Emb.set_same _ _ _)
theorem range_sound{t:TypeId}{x E:Value}{r:AN}(h:WRel μ H w)(O: ∀b,H.next<=b->b<H'.next->μ b=none)(V:VRel μ x E)(T:ovh (aRange P t x H)=some (r,H')):
  OpOK P μ H w (do Pure.pure (.value (←Instr.range t E))) r H':=by
 obtain⟨v,A,rfl⟩:=jZ T
 unfold aRange at A
 split at A
 ·rename_i s U;simp only[a00,a04]at A;obtain⟨rfl,rfl⟩:=A;obtain rfl:=V.string_inv;refine OpOK.value (v':= .pointer (some ⟨w.heap.size,0,none⟩)) (w':=w.alloc (.stringIter s 0)) (μ':=μ.set H.next ⟨w.heap.size,0,none,0⟩) ?_
   (Post.push h (O H.next (a06 _) (by simp)) _ rfl _ _ ⟨rfl,fw w _⟩) ?_
  ·simp[Instr.range,ah w U]
  exact VRel.ptr (μ:=μ.set H.next ⟨w.heap.size,0,none,0⟩) H.next 0 _ (Emb.set_same _ _ _)
 cases A
theorem gq{r:Nat}{o:Obj}(A:w.heap[r]?=some o)(hc: ∀c e f,o≠ .cells c e f):(getObj r).run P w= .ok o w:=by cases o<;>first|exact absurd rfl (hc _ _ _)|(simp only[getObj,Sem.run,A])
theorem kS{r:Nat}{o o':Obj}(A:w.heap[r]?=some o)(hc: ∀c e f,o≠ .cells c e f):(setObj r o').run P w= .ok () (aU w r o'):=by cases o<;>first|exact absurd rfl (hc _ _ _)|(simp only[setObj,Sem.run,A];rfl)
theorem next_sound{it V:Value}{type:TypeId}{r:AN}(h:WRel μ H w)(hx:VRel μ it V)(ho:ovh (aNext H it)=some (r,H')):
  OpOK P μ H w (do Pure.pure (.value (←Instr.next V true type))) r H':=by
 obtain⟨v,A,rfl⟩:=jZ ho
 unfold aNext at A
 split at A
 ·rename_i b;split at A
  ·rename_i s pos Z;obtain⟨l,hb,rfl⟩:=hx.ptr_inv;obtain⟨U,Y⟩:=h.obj b l _ hb Z;have E:(getObj l.c).run P w= .ok (.stringIter s pos) w:=gq Y (by intros;simp);cases T:Nat.ble (pos+1) s.size with
   |false=>
    rw[T]at A
    simp only[cond_false,a00,a04]at A
    obtain⟨rfl,rfl⟩:=A
    have al: ¬pos<s.size:=fun O=>by rw[a0r O]at T;cases T
    refine OpOK.value (v':= .tuple #[.bool false]) ?_ (Post.refl h) (VRel.refl2 rfl)
    simp[Instr.next,U,E,al]
   |true=>
    rw[T]at A
    simp only[cond_true,a00,a04]at A
    obtain⟨rfl,rfl⟩:=A
    have O:pos<s.size:=a0d T
    refine OpOK.value (v':= .tuple #[.bool true,goInt pos,.int .i32 (Utf8.decode s pos).1]) (w':=aU w l.c (.stringIter s (pos+(Utf8.decode s pos).2))) ?_
     (Post.put h hb Z rfl _ rfl _ ⟨U,bh w _ (bK Y)⟩) (VRel.refl2 rfl)
    simp[Instr.next,U,E,O,kS Y (by intros;simp)]
  cases A
 cases A
theorem kL{n:Nat}(h:n<=2147483648):IntKind.i64.wrap (n:Int)=n:=IntWalk.i64_in _ (by omega)
theorem jb{e:TypeId}{b:Nat}(h:gg P e=some b): ∃i,P.info? e=some i/\i.bytes=b:=by
 unfold gg at h;split at h
 ·rename_i i hi;injection h with h;exact⟨i,hi,h⟩
 cases h
theorem make_sound{t:TypeId}{x x' y y':Value}{r:AN}(h:WRel μ H w)(hf: ∀b,H.next<=b->b<H'.next->μ b=none)(hx:VRel μ x x')(hy:VRel μ y y')
  (ho:ovh (aMake P t x y H)=some (r,H')):OpOK P μ H w (do Pure.pure (.value (←Instr.makeSlice t x' y'))) r H':=by
 obtain⟨v,E,rfl⟩:=jZ ho
 unfold aMake at E
 split at E
 ·rename_i e hu;split at E
  ·rename_i sz T z n k hs hb hz hn hk;cases hq:(Nat.ble n k&&Nat.ble k 2147483648&&Nat.ble T 4096&&Nat.beq (iA z) sz&& !Nat.beq sz 0) with
   |false=>rw[hq]at E;cases E
   |true=>
    rw[hq]at E
    simp only[cond_true,a00,a04]at E
    obtain⟨rfl,rfl⟩:=E
    simp only[a02,a0I]at hq
    obtain⟨⟨⟨⟨q1,q2⟩,q3⟩,V⟩,q5⟩:=hq
    have q1:n<=k:=a0d q1
    have q2:k<=2147483648:=a0d q2
    have q3:T<=4096:=a0d q3
    have V:z.length=sz:=by rw[←bA];exact a07 V
    have q5:sz≠0:=fun e=>by rw[e]at q5;cases q5
    obtain⟨i,vz,hi,bb,a9,a2⟩:=ep (P:=P) hz
    obtain⟨ib,O,a7⟩:=jb hb
    rw[hi]at O;injection O with O;subst O
    obtain⟨l,h1,h2,h3,U,Z⟩:=ii (P:=P) h (hf H.next (a06 _) (by simp[aJ])) e (LRel.refl0 (μ:=μ) (gW a2 k))
    refine OpOK.value (v':= .slice (some ⟨w.heap.size,0,none⟩) n k) ?_ Z ?_
    ·obtain⟨kn,rfl⟩:=fc hn hx;obtain⟨kk,rfl⟩:=fc hk hy;have bk:=kL (n:=n) (by omega);have bf:=kL (n:=k) q2;have ba:vz.cells=⟨z⟩:=by rw[←a9]
     have a3:T *k<=4096 *2147483648:=Nat.mul_le_mul q3 q2;have a4:(decide ((k:Int)<0)||decide ((i.bytes:Int) *(k:Int)>2^48)||decide ((n:Int)<0)||decide ((n:Int)>(k:Int)))=false:=by
      have hm:((i.bytes:Int) *(k:Int))<=8796093022208:=by rw[a7,←Int.natCast_mul];exact Int.ofNat_le.2 a3
      have h1: ¬((k:Int)<0):=by omega
      have h2: ¬((i.bytes:Int) *(k:Int)>2^48):=by
       have:(2:Int)^48=281474976710656:=by decide
       omega
      have h3: ¬((n:Int)<0):=by omega
      have h4: ¬((n:Int)>(k:Int)):=by omega
      simp only[decide_eq_false h1,decide_eq_false h2,decide_eq_false h3,decide_eq_false h4,Bool.or_self]
     simp only[Instr.makeSlice,Sem.run_bind,ah w hu,Result.andThen_ok,asInt,asIntOf,Sem.run_pure,ef w hi,bk,bf];rw[if_neg (by rw[a4];exact Bool.false_ne_true)];simp only[Sem.run_bind,run_askRoom,Result.andThen_ok,aQ w hs,Int.toNat_natCast];by_cases Y:k *sz=0
     ·have a8:cS k z=[]:=a0f (by rw[ek,V];exact Y);have A: ∀g:Nat->Value,(Array.range (k *sz)).map g=⟨cS k z⟩:=fun g=>by rw[Y,a8];simp
      rw[if_pos Y];simp only[Sem.run_bind,Sem.run_pure,Result.andThen_ok,A,U]
     have A:=zeros_eq ⟨z⟩ k;simp only[show(Array.mk z).size=sz from V]at A;rw[if_neg Y];simp only[Sem.run_bind,dm w hi bb,Sem.run_pure,Result.andThen_ok,ba,show(Array.mk z).size=sz from V,A,U]
    have:=VRel.sliceC (μ:=μ.set H.next l) H.next 0 n k l (Emb.set_same _ _ _) h3
    rw[h1,h2]at this;exact this
  cases E
 cases E
end
end Go.R
namespace Go.R
section
variable {P:Program} {μ:Emb} {H H':Heap} {w:World}
theorem ko{n k l r:Nat}{lo hi:Option Value}(h:bnds n k lo hi=some (l,r)):
  bQ n hi=some r/\bQ 0 lo=some l/\l<=r/\r<=k:=by
 unfold bnds at h
 split at h
 ·rename_i E T;split at h
  ·rename_i l' O;cases A:(Nat.ble l' E&&Nat.ble E k) with
   |false=>rw[A]at h;cases h
   |true=>
    rw[A]at h;simp only[cond_true,a00,a04]at h
    obtain⟨rfl,rfl⟩:=h
    simp only[a02]at A
    exact⟨T,O,a0d A.1,a0d A.2⟩
  cases h
 cases h
theorem dJ{v v':Value}{n y:Nat}(h:asNat v=some n)(E:VRel μ v v')(O:n<=y)(A:BoundsCode):(Instr.sliceBound v' y A).run P w= .ok n w:=by
 obtain⟨k,rfl⟩:=fc h E;have:(0:Int)<=(n:Int)/\(n:Int)<=(y:Int):=by omega
 simp[Instr.sliceBound,asIntOf,this.2]
theorem dE{isSlice:Bool}{n k V l r:Nat}{lo hi Y E:Option Value}(hb:bnds n k lo hi=some (l,r))(hk:k<=V)
  (al: ∀v,lo=some v->∃v',Y=some v'/\VRel μ v v') (O:lo=none->Y=none)
  (ax: ∀v,hi=some v->∃v',E=some v'/\VRel μ v v') (an:hi=none->E=none):
  (Instr.sliceBounds isSlice n V Y E none).run P w= .ok (l,r,V) w:=by
 obtain⟨Z,A,h3,h4⟩:=ko hb
 unfold Instr.sliceBounds
 cases hi with
 |none=>
  rw[an rfl]
  simp only[bQ,a00]at Z;subst Z
  cases lo with
  |none=>
   rw[O rfl]
   simp only[bQ,a00]at A;subst A
   simp
  |some u=>
   obtain⟨u',T,U⟩:=al u rfl
   rw[T]
   simp only[Sem.run_bind,Sem.run_pure,Result.andThen_ok,dJ (P:=P) (w:=w) A U h3]
 |some v=>
  obtain⟨v',a2,hr⟩:=ax v rfl
  rw[a2]
  cases lo with
  |none=>
   rw[O rfl]
   simp only[bQ,a00]at A;subst A
   simp only[Sem.run_bind,Sem.run_pure,Result.andThen_ok,dJ (P:=P) (w:=w) Z hr (by omega:r<=V)]
  |some u=>
   obtain⟨u',T,U⟩:=al u rfl
   rw[T]
   simp only[Sem.run_bind,Sem.run_pure,Result.andThen_ok,dJ (P:=P) (w:=w) Z hr (by omega:r<=V),dJ (P:=P) (w:=w) A U h3]
theorem dD(s:ByteArray)(l r:Nat):s.extract l r=⟨⟨(s.data.toList.drop l).take (r-l)⟩⟩:=by apply ByteArray.ext;apply Array.ext';simp
theorem jS{t:TypeId}{x x':Value}{lo hi mx a4 a3 a6:Option Value}{r:AN}(h:WRel μ H w)(hx:VRel μ x x')
  (al: ∀v,lo=some v->∃v',a4=some v'/\VRel μ v v') (V:lo=none->a4=none)
  (Z: ∀v,hi=some v->∃v',a3=some v'/\VRel μ v v') (U:hi=none->a3=none) (bf:mx=none->a6=none)
  (ho:ovl (be P t x lo hi mx H) H=some (r,H')): ∃v v',r= .val v/\H'=H/\(Instr.sliceAt t x' a4 a3 a6).run P w= .ok v' w/\VRel μ v v':=by
 obtain⟨rfl,v,A,rfl⟩:=ce ho
 unfold be at A
 split at A
 ·cases A
 rw[bf rfl]
 simp only at A
 split at A
 ·rename_i s hu;obtain rfl:=hx.string_inv;split at A
  ·rename_i l r hb;injection A with A;subst A;rw[bA]at hb;have bk:s.data.toList.length=s.size:=by simp
   rw[bk]at hb;refine⟨_,.string (s.extract l r),rfl,rfl,?_,?_⟩
   ·simp[Instr.sliceAt,Instr.slice,ah w hu,dE (P:=P) (w:=w) (isSlice:=false) hb (a06 _) al V Z U]
   rw[dD,bL,cg];exact .atom _ rfl
  cases A
 ·rename_i e hu;obtain rfl:=hx.eq0 rfl;split at A
  ·rename_i lr hb;obtain⟨l,r⟩:=lr;cases hs:di P e with
   |none=>rw[hs]at A;cases A
   |some sz=>
    rw[hs]at A
    simp only[Option.isSome_some,cond_true,a00]at A;subst A
    obtain⟨_,_,h3,h4⟩:=ko hb
    obtain rfl:r=0:=by omega
    obtain rfl:l=0:=by omega
    refine⟨_,.slice none 0 0,rfl,rfl,?_,.atom _ rfl⟩
    simp[Instr.sliceAt,Instr.slice,ah w hu,dE (P:=P) (w:=w) (isSlice:=true) hb (a06 _) al V Z U,aQ w hs]
  cases A
 ·rename_i e b o n k hu;split at A
  ·rename_i l r sz cs bn ro hb hs hg;obtain⟨l0,hμ,hc⟩:=hx.slice_inv;have T:l0.opn=bn:=by
    have:=h.obj b l0 _ hμ hg;cases ro
    ·exact this.1
    exact this.1
   obtain⟨_,_,h3,h4⟩:=ko hb;split at A
   ·injection A with A;subst A;rcases hc with⟨O,rfl⟩|⟨e',o',k',O,rfl,_⟩|⟨rfl,rfl,a',rfl⟩
    rotate_right
    ·obtain rfl:r=0:=by omega
     obtain rfl:l=0:=by omega
     refine⟨_,.slice (some (if 0=0 then a' else a'.add (0 *sz))) (0-0) (0-0),rfl,rfl,?_,?_⟩
     ·simp only[Instr.sliceAt,Instr.slice,Sem.run_bind,ah w hu,Result.andThen_ok,dE (P:=P) (w:=w) (isSlice:=true) hb (a06 _) al V Z U,aQ w hs,Sem.run_pure];split<;>rfl
     exact .sliceZ b o a' l0 hμ
    ·refine⟨_,.slice (some (if k=l then⟨l0.c,l0.sh+o,none⟩ else Addr.add ⟨l0.c,l0.sh+o,none⟩ (l *sz))) (r-l) (k-l),rfl,rfl,?_,?_⟩
     ·simp only[Instr.sliceAt,Instr.slice,Sem.run_bind,ah w hu,Result.andThen_ok,dE (P:=P) (w:=w) (isSlice:=true) hb (a06 _) al V Z U,aQ w hs,Sem.run_pure];split<;>rfl
     by_cases E:k=l
     ·rw[if_pos E];have:Nat.beq k l=true:=by rw[E];exact a0S l
      rw[this];exact .sliceC b o _ _ l0 hμ O
     rw[if_neg E];have:Nat.beq k l=false:=by
      cases hq:Nat.beq k l with
      |false=>rfl
      |true=>exact absurd (a07 hq) E
     rw[this,cG,a0A];exact .sliceC b (o+l *sz) _ _ l0 hμ O
    rw[T]at O;cases O
   rename_i Y;cases hq:Nat.beq Y sz with
   |false=>rw[hq]at A;cases A
   |true=>
    rw[hq]at A
    simp only[cond_true,a00]at A;subst A
    have ba:Y=sz:=a07 hq
    rcases hc with⟨O,rfl⟩|⟨e',o',k',O,rfl,b6,bb,a8,b5⟩|⟨rfl,rfl,a',rfl⟩
    rotate_right
    ·obtain rfl:r=0:=by omega
     obtain rfl:l=0:=by omega
     refine⟨_,.slice (some (if 0=0 then a' else a'.add (0 *sz))) (0-0) (0-0),rfl,rfl,?_,?_⟩
     ·simp only[Instr.sliceAt,Instr.slice,Sem.run_bind,ah w hu,Result.andThen_ok,dE (P:=P) (w:=w) (isSlice:=true) hb (a06 _) al V Z U,aQ w hs,Sem.run_pure];split<;>rfl
     exact .sliceZ b _ a' l0 hμ
    ·rw[T]at O;cases O
    rw[T]at O;injection O with O
    subst O ba
    refine⟨_,.slice (some (if k'=l then⟨l0.c,o',none⟩ else Addr.add ⟨l0.c,o',none⟩ (l *Y))) (r-l) (k'-l),rfl,rfl,?_,?_⟩
    ·simp only[Instr.sliceAt,Instr.slice,Sem.run_bind,ah w hu,Result.andThen_ok,dE (P:=P) (w:=w) (isSlice:=true) hb bb al V Z U,aQ w hs,Sem.run_pure];split<;>rfl
    by_cases E:k'=l
    ·rw[if_pos E];refine .sliceO b (o+l *Y) o' _ _ _ Y l0 hμ T (by omega) (by omega) (by omega) ?_;rw[E,Nat.sub_self,Nat.zero_mul];omega
    rw[if_neg E,cG]
    refine .sliceO b (o+l *Y) (o'+l *Y) _ _ _ Y l0 hμ T (by omega) (by omega) (fun b3=>?_) ?_
    ·rw[a8 (by omega)];omega
    have:l *Y+(k'-l) *Y=k' *Y:=by rw[←a0U];congr 1;omega
    omega
  cases A
 ·rename_i n e b o hu;split at A
  ·rename_i l r sz cs ro hb hs hg;obtain⟨l0,hμ,rfl⟩:=hx.ptr_inv;have T:l0.opn=none:=by
    have:=h.obj b l0 _ hμ hg;cases ro
    ·exact this.1
    exact this.1
   injection A with A;subst A;refine⟨_,.slice (some (if n=l then⟨l0.c,l0.sh+o,none⟩ else Addr.add ⟨l0.c,l0.sh+o,none⟩ (l *sz))) (r-l) (n-l),rfl,rfl,?_,?_⟩
   ·simp only[Instr.sliceAt,Sem.run_bind,ah w hu,Result.andThen_ok,Instr.sureAddr,Sem.run_pure,dE (P:=P) (w:=w) (isSlice:=false) hb (a06 _) al V Z U,aQ w hs]
   by_cases E:n=l
   ·rw[if_pos E];have:Nat.beq n l=true:=by rw[E];exact a0S l
    rw[this];exact .sliceC b o _ _ l0 hμ T
   rw[if_neg E];have:Nat.beq n l=false:=by
    cases hq:Nat.beq n l with
    |false=>rfl
    |true=>exact absurd (a07 hq) E
   rw[this,cG,a0A];exact .sliceC b (o+l *sz) _ _ l0 hμ T
  cases A
 cases A
theorem slice_sound{t:TypeId}{x x':Value}{lo hi mx E A O:Option Value}{r:AN}(h:WRel μ H w)(hx:VRel μ x x')
  (Z: ∀v,lo=some v->∃v',E=some v'/\VRel μ v v') (U:lo=none->E=none)
  (Y: ∀v,hi=some v->∃v',A=some v'/\VRel μ v v') (T:hi=none->A=none) (al:mx=none->O=none)
  (ho:ovl (be P t x lo hi mx H) H=some (r,H')):OpOK P μ H w (do Pure.pure (.value (←Instr.sliceAt t x' E A O))) r H':=by
 obtain⟨v,v',rfl,rfl,V,hr⟩:=jS (P:=P) h hx Z U Y T al ho
 exact OpOK.value V (Post.refl h) hr
theorem lenA_run{x E:Value}{m:Nat}(h:lenA x=some m)(A:VRel μ x E):(Builtin.lenOf E).run P w= .ok m w:=by
 unfold lenA at h;split at h
 ·injection h with h;subst h;rename_i a n k;obtain⟨O,T,rfl,_⟩:=cR A;rfl
 ·rename_i s;injection h with h;subst h;obtain rfl:=A.string_inv;rw[bA];simp[Builtin.lenOf]
 cases h
theorem dO{x x':Value}{sz m:Nat}{vs:List Value}(h:WRel μ H w)(Y:VRel μ x x')(hl: ∃m0,lenA x=some m0/\m<=m0)(A:gb H sz m x=some vs):
  ∃T,(Builtin.firstCells sz m x').run P w= .ok ⟨T⟩ w/\LRel μ vs T/\vs.length=m *sz:=by
 unfold gb at A
 split at A
 ·rename_i a n k;obtain⟨b,o,sp⟩:=a;have a2:sp=none:=Y.slice_some.1;subst a2;cases E:Nat.beq m 0 with
  |true=>
   rw[E]at A
   simp only[cond_true,a00]at A;subst A
   have Z:m=0:=a07 E
   subst Z
   obtain⟨_,a',k',rfl⟩:=Y.slice_some
   exact⟨[],by simp[Builtin.firstCells,loadCells,loadCellsFrom],.nil,by simp⟩
  |false=>
   rw[E]at A
   simp only[cond_false]at A
   have Z:m≠0:=fun e=>by subst e;cases E
   obtain⟨m0,O,an⟩:=hl
   simp only[lenA,a00]at O;subst O
   obtain⟨l,hμ,hc⟩:=Y.slice_inv
   obtain⟨T,V,hr,U⟩:=gS (P:=P) h hμ A
   rcases hc with⟨_,rfl⟩|⟨e',o',k',_,rfl,a7,_,ar,_⟩|⟨hz,_,_⟩
   rotate_right
   ·omega
   ·exact⟨T,by simp only[Builtin.firstCells,V],hr,U⟩
   rw[ar (by omega)]
   exact⟨T,by simp only[Builtin.firstCells,V],hr,U⟩
 ·rename_i n k;cases E:Nat.beq m 0 with
  |false=>rw[E]at A;cases A
  |true=>
   rw[E]at A
   simp only[cond_true,a00]at A;subst A
   have Z:m=0:=a07 E
   subst Z
   obtain⟨_,_,rfl⟩:=Y.sliceNil_inv
   exact⟨[],by simp[Builtin.firstCells],.nil,by simp⟩
 ·rename_i s;cases E:Nat.beq sz 1 with
  |false=>rw[E]at A;cases A
  |true=>
   rw[E]at A
   simp only[cond_true,a00,iL,bL]at A;subst A
   have hs:sz=1:=a07 E
   subst hs
   obtain rfl:=Y.string_inv
   obtain⟨m0,O,an⟩:=hl
   simp only[lenA,bA,a00]at O;subst O
   refine⟨(s.data.toList.take m).map fun b=> .int .u8 b.toNat,?_,LRel.refl0 ?_,?_⟩
   ·simp only[Builtin.firstCells,Sem.run_pure,dD];congr 1;apply Array.ext';simp
   ·rw[a0j];intro u hu;obtain⟨c,_,rfl⟩:=a0w.1 hu;rfl
   simp at an⊢;omega
 cases A
theorem growBy_le(A:Nat): ∀(r c:Nat),c<=A+(A+768)/4->Builtin.growBy A r c<=A+(A+768)/4
 |0,c,h=>h
 |r+1,c,h=>by
  simp only[Builtin.growBy];split
  ·exact h
  exact growBy_le A r _ (by omega)
theorem nextcap_le{n k:Nat}(h:k<n):Builtin.nextslicecap n k<=2 *n+768:=by
 unfold Builtin.nextslicecap;split
 ·omega
 split
 ·omega
 have:=growBy_le n 4 k (by omega);omega
theorem cX{z:Array Value}{sz:Nat}(h:z.size=sz)(n:Nat):(Builtin.zeroCells z n).toList.length=n *sz:=by simp[Builtin.zeroCells,h]
theorem ig{st E ty e:TypeId}{O:TypeDesc}{A:Value}{base:Option Addr}{n m k sz:Nat}{i:TypeInfo}{z:Value}{old new:List Value}
  (hu:P.underlying st=some (.slice e)) (a2:P.underlying E=some O) (ax: ∀kk,O≠ .int kk) (hi:P.info? e=some i) (hs:i.size=sz) (hz:i.zero=some z)
  (T:(Builtin.lenOf A).run P w= .ok m w) (ar:k<n+m) (a7:n+m<=2147483648) (an:i.bytes<=4096)
  (Y:(Builtin.firstCells sz n (.slice base n k)).run P w.drew= .ok ⟨old⟩ w.drew) (U:(Builtin.firstCells sz m A).run P w.drew= .ok ⟨new⟩ w.drew):
  ∃Z,n+m<=Z/\(Builtin.append_ #[st,E] ty #[.slice base n k,A]).run P w=
   .ok (.slice (some ⟨w.heap.size,0,none⟩) (n+m) Z) (w.drew.alloc (.cells (⟨old⟩++⟨new⟩++Builtin.zeroCells z.cells (Z-(n+m))) e)):=by
 have a1:di P e=some sz:=by unfold di;rw[hi,←hs]
 have a3:=nextcap_le ar
 have V: ¬(Builtin.nextslicecap (n+m) k *i.bytes>2^48):=by
  have:Builtin.nextslicecap (n+m) k *i.bytes<=(2 *2147483648+768) *4096:=Nat.mul_le_mul (by omega) an;have a8:(2:Nat)^48=281474976710656:=by decide
  omega
 have al: ¬(((n+m:Nat):Int)>IntKind.i64.max/\(False\/i.bytes=0)):=by rw[IntKind.max_i64];omega
 refine⟨(Question.appendCap (n+m) k e).cut (w.tape w.drawn (.appendCap (n+m) k e)),by simp[Question.cut],?_⟩
 have a9:(match O with| .int _=>true|_=>false)=false:=by cases O<;>first|rfl|exact absurd rfl (ax _)
 have e1: ∀a b:Value,(#[a,b]:Array Value)[0]?=some a/\(#[a,b]:Array Value)[1]?=some b:=fun a b=>⟨rfl,rfl⟩
 unfold Builtin.append_
 simp only[show(#[st,E]:Array TypeId)[0]?=some st from rfl,show(#[st,E]:Array TypeId)[1]?=some E from rfl,
  show(#[Value.slice base n k,A]:Array Value)[0]?=some (Value.slice base n k) from rfl,show(#[Value.slice base n k,A]:Array Value)[1]?=some A from rfl,
  Sem.run_bind,ah w hu,ah w a2,Result.andThen_ok,aQ w a1,Sem.run_pure,a0g,if_false,T,
  show ¬(n+m<=k) by omega,ef w hi,V,al]
 simp only[Sem.run_bind,run_choose,Question.forced,a0g,if_false,Result.andThen_ok,World.drew_eq,ef w.drew hi,run_askRoom,Y,U,a1D,if_true,
  dm w.drew hi hz,newRow,run_newObj,Sem.run_pure]
 rfl
theorem fy{st E ty e:TypeId}{O:TypeDesc}{A:Value}{base:Option Addr}{n m k sz:Nat}{new:List Value}{w':World}
  (hu:P.underlying st=some (.slice e)) (an:P.underlying E=some O) (Y: ∀kk,O≠ .int kk) (hs:di P e=some sz)
  (T:(Builtin.lenOf A).run P w= .ok m w) (V:n+m<=k) (U:(Builtin.firstCells sz m A).run P w= .ok ⟨new⟩ w)
  (al: ∀a,base=some a->(storeCells (a.add (n *sz)) new).run P w= .ok () w') (Z:base=none->w'=w):
  (Builtin.append_ #[st,E] ty #[.slice base n k,A]).run P w= .ok (.slice base (n+m) k) w':=by
 have a1:(match O with| .int _=>true|_=>false)=false:=by cases O<;>first|rfl|exact absurd rfl (Y _)
 unfold Builtin.append_
 simp only[show(#[st,E]:Array TypeId)[0]?=some st from rfl,show(#[st,E]:Array TypeId)[1]?=some E from rfl,
  show(#[Value.slice base n k,A]:Array Value)[0]?=some (Value.slice base n k) from rfl,show(#[Value.slice base n k,A]:Array Value)[1]?=some A from rfl,
  Sem.run_bind,ah w hu,ah w an,Result.andThen_ok,aQ w hs,Sem.run_pure,a0g,if_false,T,V,if_true,a1D,U]
 cases base with
 |none=>rw[Z rfl];rfl
 |some a=>simp only[Sem.run_bind,al a rfl,Result.andThen_ok,Sem.run_pure]
theorem Post.kill(h:WRel μ H w){b:Nat}{l:Loc}{o:AObj}(hb:μ b=some l)(ho:H.get b=some o)(hr:o.rw=true):Post μ H w μ (H.put b .dead) w:=by
 refine⟨fun _ _ h=>h,fun _ _ h=> .inl h,a06 _,rfl,rfl,rfl,fun _ _ _=>rfl,fun k x V O A a5=>?_,⟨fun k x V O A=>?_,fun Y Z l1 l2 U o2 ax al an a1 a2 a4 T=>?_⟩⟩
 ·by_cases e:b=k
  ·subst e;exact .inr ⟨b,l,o,hb,ho,gI hr,fun _=>hr,by rw[hb]at O;injection O with O;rw[O]⟩
  rw[Heap.get_put_ne H _ e]at A;exact .inr ⟨k,x,V,O,A,a5,id,rfl⟩
 ·by_cases e:b=k
  ·subst e;rw[Heap.get_put_same]at A;injection A with A;subst A;trivial
  rw[Heap.get_put_ne H _ e]at A;exact h.obj k x V O A
 have old: ∀k ok,ok.live=true->(H.put b .dead).get k=some ok->H.get k=some ok:=by
  intro k ok ar E;by_cases e:b=k
  ·subst e;rw[Heap.get_put_same]at E;injection E with E;subst E;simp[AObj.live]at ar
  rw[Heap.get_put_ne H _ e]at E;exact E
 exact h.inj Y Z l1 l2 U o2 ax al an (old Y U (by cases U<;>simp_all[AObj.rw,AObj.live]) a1) (old Z o2 T a2) a4 T
theorem szOf_info{e:TypeId}{s:Nat}(h:di P e=some s): ∃i,P.info? e=some i/\i.size=s:=by
 unfold di at h;split at h
 ·rename_i i hi;injection h with h;exact⟨i,hi,h⟩
 cases h
theorem dP(a b:List Value)(c:Array Value):(⟨a⟩++⟨b⟩++c:Array Value)=⟨(a++b)++c.toList⟩:=by apply Array.ext';simp
theorem append_sound{types:Array TypeId}{ty:TypeId}{s x s' x' v:Value}(h:WRel μ H w)(hf: ∀b,H.next<=b->b<H'.next->μ b=none)
  (hs:VRel μ s s') (hx:VRel μ x x') (d3:types.size=2) (A:fB P types s x H=some (v,H')):
  ∃v' w' μ',(Builtin.append_ types ty #[s',x']).run P w= .ok v' w'/\Post μ H w μ' H' w'/\VRel μ' v v':=by
 obtain⟨tl⟩:=types
 match tl,d3 with
 | [st,xt],_=>
 unfold fB at A
 simp only[show(#[st,xt]:Array TypeId)[0]?=some st from rfl,show(#[st,xt]:Array TypeId)[1]?=some xt from rfl]at A
 split at A
 ·rename_i e xd hu ax;split at A
  ·cases A
  rename_i ar;split at A
  ·rename_i sz e0 z m bb f5 hz hm;obtain⟨i,vz,hi,b9,e6,g6⟩:=ep (P:=P) hz;obtain⟨i2,c4,hw⟩:=jb f5;rw[hi]at c4;injection c4 with c4;subst c4;obtain⟨i3,c5,b7⟩:=szOf_info bb;rw[hi]at c5;injection c5 with c5;subst c5;have V:(Builtin.lenOf x').run P w= .ok m w:=lenA_run hm hx;split at A
   ·cases A
   rename_i new d1;obtain⟨O,an,a3,Z⟩:=dO (P:=P) h hx ⟨m,hm,a06 _⟩ d1;obtain⟨g9,a2,a1,_⟩:=dO (P:=P) h.drew hx ⟨m,hm,a06 _⟩ d1;split at A
   ·--nil
    obtain rfl:=hs.eq0 rfl;cases hq:Nat.beq m 0 with
    |true=>
     rw[hq]at A
     simp only[cond_true,a00,a04]at A
     obtain⟨rfl,rfl⟩:=A
     have b6:m=0:=a07 hq
     subst b6
     exact⟨_,w,μ,fy (w':=w) hu ax (fun Y=>ar Y) bb V (a06 _) an (fun a ha=>by cases ha) (fun _=>rfl),Post.refl h,.atom _ rfl⟩
    |false=>
     rw[hq]at A
     simp only[cond_false]at A
     have b6:m≠0:=fun e=>by subst e;cases hq
     cases a9:(Nat.beq (iA z) sz&&Nat.ble m 2147483648&&Nat.ble e0 4096&& !Nat.beq sz 0) with
     |false=>rw[a9]at A;cases A
     |true=>
      rw[a9]at A
      simp only[cond_true,a00,a04]at A
      obtain⟨rfl,rfl⟩:=A
      simp only[a02,a0I]at a9
      obtain⟨⟨⟨q1,q2⟩,q3⟩,q4⟩:=a9
      have q1:z.length=sz:=by rw[←bA];exact a07 q1
      have q2:=a0d q2
      have q3:=a0d q3
      obtain⟨nc,a5,E⟩:=ig (P:=P) (w:=w) (ty:=ty) (base:=none) (n:=0) (k:=0) (old:=[]) hu ax (fun Y=>ar Y) hi b7 b9 V (by omega) (by omega) (by omega) (by simp[Builtin.firstCells]) a2
      simp only[a0R]at E a5
      rw[dP,a0z]at E
      obtain⟨l,h1,h2,h3,h4,_,hp⟩:=cQ (P:=P) h.drew (hf H.next (a06 _) (by simp[aJ])) e a1 (Builtin.zeroCells vz.cells (nc-m)).toList (some sz) (fun e=>by cases e)
      refine⟨_,_,_,E,(Post.drew h).trans hp (a06 _) (by simp[aJ]),?_⟩
      have:=VRel.sliceO (μ:=μ.set H.next l) H.next 0 0 m m nc sz l (Emb.set_same _ _ _) h3 (a06 _) a5 (fun _=>by omega) (by
       rw[h4,cX (show vz.cells.size=sz by rw[←q1,←e6];simp),Z,a0R,←a0U];exact a0y _ (by omega))
      rw[h1]at this;exact this
   ·--a slice
    rename_i b o n k;obtain⟨l,hμ,hc⟩:=hs.slice_inv;split at A
    ·rename_i cs gs ro hg;have co:l.opn=gs:=by
      have:=h.obj b l _ hμ hg;cases ro
      ·exact this.1
      exact this.1
     cases hq:Nat.ble (n+m) k with
     |true=>
      rw[hq]at A
      simp only[cond_true]at A
      have c6:n+m<=k:=a0d hq
      cases c8:Nat.beq m 0 with
      |true=>
       rw[c8]at A
       simp only[cond_true,a00,a04]at A
       obtain⟨rfl,rfl⟩:=A
       have b6:m=0:=a07 c8
       subst b6
       have f7:O=[]:=a0f (by rw[←a3.1,Z];simp)
       subst f7
       rcases hc with⟨U,rfl⟩|⟨e',o',k',U,rfl,e5,dt,bl,c3⟩|⟨rfl,rfl,a',rfl⟩
       rotate_right
       ·exact⟨_,w,μ,fy (w':=w) hu ax (fun Y=>ar Y) bb V c6 an (fun a ha=>rfl) (fun e=>by cases e),Post.refl h,hs⟩
       ·exact⟨_,w,μ,fy (w':=w) hu ax (fun Y=>ar Y) bb V c6 an (fun a ha=>rfl) (fun e=>by cases e),Post.refl h,hs⟩
       exact⟨_,w,μ,fy (w':=w) hu ax (fun Y=>ar Y) bb V (by omega) an (fun a ha=>rfl) (fun e=>by cases e),Post.refl h,hs⟩
      |false=>
       rw[c8]at A
       simp only[cond_false]at A
       have b6:m≠0:=fun e=>by subst e;cases c8
       split at A
       ·rename_i h1 go;simp only[a00,a04]at A;obtain⟨rfl,rfl⟩:=A;obtain⟨w',E,hp⟩:=fO (P:=P) h hμ go a3;rcases hc with⟨U,rfl⟩|⟨e',o',k',U,rfl,e5,dt,bl,c3⟩|⟨rfl,rfl,a',rfl⟩
        rotate_right
        ·omega
        ·refine⟨_,w',μ,fy (w':=w') hu ax (fun Y=>ar Y) bb V c6 an (fun a ha=>?_) (fun e=>by cases e),hp,.sliceC b o _ _ l hμ U⟩;injection ha with ha;subst ha;rw[cG,a0A];exact E
        refine⟨_,w',μ,fy (w':=w') hu ax (fun Y=>ar Y) bb V (by omega) an (fun a ha=>?_) (fun e=>by cases e),hp,.sliceO b o o' _ _ _ e' l hμ U c6 dt bl c3⟩;injection ha with ha;subst ha;rw[cG,bl (by omega),a0A];exact E
       cases A
     |false=>
      rw[hq]at A
      simp only[cond_false]at A
      have e4:k<n+m:=by
       rcases a0k k (n+m) with h'|h'
       ·exact h'
       rw[a0r h']at hq;cases hq
      cases a9:(Nat.beq (iA z) sz&&Nat.ble (n+m) 2147483648&&Nat.ble e0 4096&& !Nat.beq sz 0&&Nat.ble n k) with
      |false=>rw[a9]at A;cases A
      |true=>
       rw[a9]at A
       simp only[cond_true]at A
       simp only[a02,a0I]at a9
       obtain⟨⟨⟨⟨q1,q2⟩,q3⟩,q4⟩,q5⟩:=a9
       have q1:z.length=sz:=by rw[←bA];exact a07 q1
       have q2:=a0d q2
       have q3:=a0d q3
       have q5:=a0d q5
       have hB:sz≠0:=fun e=>by rw[e]at q4;cases q4
       have b4:vz.cells.size=sz:=by rw[←q1,←e6];simp
       split at A
       ·cases A
       rename_i old al
       obtain⟨he,g5,g4,a4⟩:=dO (P:=P) h hs ⟨n,rfl,a06 _⟩ al
       obtain⟨hl,a8,a7,_⟩:=dO (P:=P) h.drew hs ⟨n,rfl,a06 _⟩ al
       split at A
       ·--exact
        simp only[a00,a04]at A;obtain⟨rfl,rfl⟩:=A;rcases hc with⟨U,rfl⟩|⟨e',o',k',U,rfl,_⟩|⟨rfl,rfl,a',rfl⟩
        rotate_right
        ·obtain⟨nc,a5,E⟩:=ig (P:=P) (w:=w) (ty:=ty) hu ax (fun Y=>ar Y) hi b7 b9 V e4 q2 (by omega) a8 a2;rw[dP]at E;obtain⟨l',h1,h2,h3,h4,_,hp⟩:=cQ (P:=P) h.drew (hf H.next (a06 _) (by simp[aJ])) e (a7.append a1) (Builtin.zeroCells vz.cells (nc-(0+m))).toList (some sz) (fun e=>by cases e);rw[dF];refine⟨_,_,_,E,(Post.drew h).trans hp (a06 _) (by simp[aJ]),?_⟩;have:=VRel.sliceO (μ:=μ.set H.next l') H.next 0 0 (0+m) (0+m) nc sz l' (Emb.set_same _ _ _) h3 (a06 _) a5 (fun _=>by omega) (by
          rw[h4,cX b4,a01,a4,Z,a0R,←a0U,←a0U];exact a0y _ (by omega))
         rw[h1]at this;exact this
        ·obtain⟨nc,a5,E⟩:=ig (P:=P) (w:=w) (ty:=ty) hu ax (fun Y=>ar Y) hi b7 b9 V e4 q2 (by omega) a8 a2;rw[dP]at E;obtain⟨l',h1,h2,h3,h4,_,hp⟩:=cQ (P:=P) h.drew (hf H.next (a06 _) (by simp[aJ])) e (a7.append a1) (Builtin.zeroCells vz.cells (nc-(n+m))).toList (some sz) (fun e=>by cases e);rw[dF];refine⟨_,_,_,E,(Post.drew h).trans hp (a06 _) (by simp[aJ]),?_⟩;have:=VRel.sliceO (μ:=μ.set H.next l') H.next 0 0 (n+m) (n+m) nc sz l' (Emb.set_same _ _ _) h3 (a06 _) a5 (fun _=>by omega) (by
          rw[h4,cX b4,a01,a4,Z,a0R,←a0U,←a0U];exact a0y _ (by omega))
         rw[h1]at this;exact this
        rw[co]at U;cases U
       ·--open
        rename_i T;cases c9:(Nat.beq T sz&& !ro&&allL Value.oneCell' new) with
        |false=>rw[c9]at A;cases A
        |true=>
         rw[c9]at A
         simp only[cond_true,a00,a04]at A
         obtain⟨rfl,rfl⟩:=A
         simp only[a02,a0I]at c9
         obtain⟨⟨q6,q7⟩,q8⟩:=c9
         have q6:T=sz:=a07 q6
         subst q6 q7
         rcases hc with⟨U,rfl⟩|⟨e',o',k',U,rfl,e5,dt,bl,c3⟩|⟨rfl,rfl,a',rfl⟩
         rotate_right
         ·have bw:μ H.next=none:=hf H.next (a06 _) (by simp[aJ]);obtain⟨nc,a5,E⟩:=ig (P:=P) (w:=w) (ty:=ty) hu ax (fun Y=>ar Y) hi b7 b9 V (by omega) q2 (by omega) a8 a2;rw[dP]at E;have hk:=Post.kill h hμ hg rfl;obtain⟨l',h1,h2,h3,h4,_,hp⟩:=cQ (P:=P) (H:=H.put b .dead) hk.wrel.drew bw e (a7.append a1) (Builtin.zeroCells vz.cells (nc-(0+m))).toList (some T) (fun e=>by cases e);rw[dF];refine⟨_,_,_,E,(hk.trans (Post.drew hk.wrel) (a06 _) (a06 _)).trans hp (a06 _) (by simp[aJ]),?_⟩;have:=VRel.sliceO (μ:=μ.set H.next l') H.next 0 0 (0+m) (0+m) nc T l' (Emb.set_same _ _ _) h3 (a06 _) a5 (fun _=>by omega) (by
           rw[h4,cX b4,a01,a4,Z,a0R,←a0U,←a0U];exact a0y _ (by omega))
          rw[h1]at this;exact this
         ·rw[co]at U;cases U
         rw[co]at U;injection U with U;subst U
         have bw:μ H.next=none:=hf H.next (a06 _) (by simp[aJ])
         by_cases ds:n+m<=k'
         ·--in place
          obtain⟨r1,a6,et,hh,r2,r3,r4⟩:=h.obj b l _ hμ hg;have c7:O.length=m *T:=by rw[←a3.1];exact Z
          have hA:m≠0:=by omega
          have gm:O≠ []:=fun e=>by rw[e]at c7;have:=Nat.mul_eq_zero.1 c7.symm;omega
          have ee:O.all Value.oneCell'=true:=by
           rw[a0j];intro u b0;obtain⟨j,hj⟩:=List.getElem?_of_mem b0;have e2:j<new.length:=by rw[a3.1];exact(a0v.1 hj).1
           have hr:=a3.2 j new[j] u (a08 e2) hj;rw[hr.oneCell];rw[mz]at q8;exact a0j.1 q8 _ (a1a e2)
          have ci:o'+n *T+O.length<=a6.size:=by rw[c7,r2];have:(n+m) *T<=k' *T:=a0y _ ds;rw[a0U]at this;omega
          have b8:=dq (P:=P) l.c et O w a6 (o'+n *T) 0 hh (by omega) ee gm;simp only[Nat.add_zero]at b8;have fd:(bu a6.toList (o'+n *T) O).length=a6.size:=by rw[bY _ _ _ (by simpa using ci)];simp
          have em:=Post.take h hμ hg rfl bw ⟨l.c,o',some T,l.csz⟩ rfl (.cells (jD old new) (some T) false) (.cells ⟨bu a6.toList (o'+n *T) O⟩ et (0,0)) (by
           refine⟨rfl,_,et,bh w _ (bK hh),by show(bu a6.toList (o'+n *T) O).length=_;rw[fd,r2],?_,fun j u hj=>?_⟩
           ·rw[dF,a01,a4,Z];show o'+_<=l.csz;rw[←r2];rw[c7]at ci;omega
           rw[dF]at hj;have mg: ∀v':Value,(bu a6.toList (o'+n *T) O)[o'+j]?=some v'->(Array.mk (bu a6.toList (o'+n *T) O))[o'+j]?=some v':=fun v' hv=>(j8 _ _).trans hv
           rw[br _ _ _ _ (by simpa using ci)]at mg;by_cases e3:j<n *T
           ·rw[a1e (by omega)]at hj;rw[if_neg (by omega)]at mg;have f9:n≠0:=fun e=>by subst e;simp at e3
            unfold gb at al;have f4:Nat.beq n 0=false:=by
             cases f3:Nat.beq n 0 with
             |false=>rfl
             |true=>exact absurd (a07 f3) f9
            rw[f4]at al;simp only[cond_false,Heap.loadN,hg,bL,cg,bA]at al;cases e1:Nat.beq ((cs.drop o).take (n *T)).length (n *T) with
            |false=>rw[e1]at al;cases al
            |true=>
             rw[e1]at al
             simp only[cond_true,a00]at al
             rw[←al,a0x,if_pos e3,a0D]at hj
             obtain⟨u',b0,hr⟩:=r4 (o+j) u hj
             refine⟨u',mg u' ?_,hr.mono (Emb.set_ext _ bw)⟩
             have:o'+j=l.sh+(o+j):=by have:=bl (by omega);omega
             rw[this];simpa using b0
           rw[a1l (by omega),a4]at hj;obtain⟨u',b0,hr⟩:=a3.get hj;have hy:j-n *T<O.length:=(a0v.1 b0).1;rw[if_pos (by omega)]at mg;exact⟨u',mg u' (by rw[←b0];congr 1;omega),hr.mono (Emb.set_ext _ bw)⟩)
          refine⟨.slice (some ⟨l.c,o',none⟩) (n+m) k',_,_,fy (w':=aU w l.c (.cells ⟨bu a6.toList (o'+n *T) O⟩ et (0,0))) hu ax (fun Y=>ar Y) bb V ds an (fun a ha=>?_) (fun e=>by cases e),em,?_⟩
          ·injection ha with ha;subst ha;rw[cG];exact b8
          exact VRel.sliceO (μ:=μ.set H.next ⟨l.c,o',some T,l.csz⟩) H.next 0 o' (n+m) (n+m) k' T ⟨l.c,o',some T,l.csz⟩ (Emb.set_same _ _ _) rfl (a06 _) ds (fun _=>rfl) c3
         ·--a new row
          obtain⟨nc,a5,E⟩:=ig (P:=P) (w:=w) (ty:=ty) hu ax (fun Y=>ar Y) hi b7 b9 V (by omega) q2 (by omega) a8 a2;rw[dP]at E;have hk:=Post.kill h hμ hg rfl;obtain⟨l',h1,h2,h3,h4,_,hp⟩:=cQ (P:=P) (H:=H.put b .dead) hk.wrel.drew bw e (a7.append a1) (Builtin.zeroCells vz.cells (nc-(n+m))).toList (some T) (fun e=>by cases e);rw[dF];refine⟨_,_,_,E,(hk.trans (Post.drew hk.wrel) (a06 _) (a06 _)).trans hp (a06 _) (by simp[aJ]),?_⟩;have:=VRel.sliceO (μ:=μ.set H.next l') H.next 0 0 (n+m) (n+m) nc T l' (Emb.set_same _ _ _) h3 (a06 _) a5 (fun _=>by omega) (by
           rw[h4,cX b4,a01,a4,Z,a0R,←a0U,←a0U];exact a0y _ (by omega))
          rw[h1]at this;exact this
    cases A
   cases A
  cases A
 cases A
end
end Go.R
namespace Go.R
section
variable {P:Program} {μ:Emb} {H H':Heap} {w:World}
theorem copy_sound{types:Array TypeId}{ty:TypeId}{d s d' T v:Value}(h:WRel μ H w)(hd:VRel μ d d')(hs:VRel μ s T)(A:aCopy P types d s H=some (v,H')):
  ∃v' w',(Builtin.copy_ types ty #[d',T]).run P w= .ok v' w'/\Post μ H w μ H' w'/\VRel μ v v':=by
 unfold aCopy at A
 split at A
 ·rename_i dt ar;split at A
  ·rename_i e base O dk m hu Z;split at A
   ·rename_i sz ax;simp only at A;obtain⟨E,U,rfl,bw⟩:=cR hd;have Y:(Builtin.lenOf T).run P w= .ok m w:=lenA_run Z hs;cases hq:Nat.beq (Nat.min m O) 0 with
    |true=>
     rw[hq]at A
     simp only[cond_true,a00,a04]at A
     obtain⟨rfl,rfl⟩:=A
     have h0:Nat.min m O=0:=a07 hq
     refine⟨_,w,?_,Post.refl h,.atom (goInt 0) rfl⟩
     have a6:(Builtin.firstCells sz 0 T).run P w= .ok #[] w:=by
      unfold lenA at Z;split at Z
      ·rename_i a n k;obtain⟨a',k',rfl,_⟩:=cR hs;cases a'<;>simp[Builtin.firstCells,loadCells,loadCellsFrom]
      ·rename_i u;obtain rfl:=hs.string_inv;simp only[Builtin.firstCells,Sem.run_pure,dD];congr 1;simp
      cases Z
     unfold Builtin.copy_
     simp only[ar,show(#[Value.slice E O U,T]:Array Value)[0]?=some (Value.slice E O U) from rfl,show(#[Value.slice E O U,T]:Array Value)[1]?=some T from rfl,
      Sem.run_bind,ah w hu,Result.andThen_ok,Y,aQ w ax,h0,a6]
     cases E<;>simp[storeCells]
    |false=>
     rw[hq]at A
     simp only[cond_false]at A
     split at A
     ·rename_i l a hl;split at A
      ·rename_i H1 a9;simp only[a00,a04]at A;obtain⟨rfl,rfl⟩:=A;obtain⟨b,o,sp⟩:=a;have a8:sp=none:=hd.slice_some.1;subst a8;obtain⟨b2,a7,an,bb⟩:=dO (P:=P) h hs ⟨m,Z,Nat.min_le_left _ _⟩ hl;obtain⟨l0,hμ,hc⟩:=hd.slice_inv;have h0:Nat.min m O≠0:=fun e=>by rw[e]at hq;cases hq
       have b0:0<O:=by
        rcases a1o O with e|e
        ·exfalso;apply h0;rw[e];exact Nat.min_zero _
        exact e
       obtain⟨w',a3,hp⟩:=fO (P:=P) h hμ a9 an;have a5:E=some ⟨l0.c,l0.sh+o,none⟩:=by
        rcases hc with⟨_,V⟩|⟨e',o',k',_,V,b1,_,a2,_⟩|⟨hz,_,_⟩
        rotate_right
        ·omega
        ·injection V with V
        injection V with V _ _;rw[V,a2 (by omega)]
       subst a5;refine⟨goInt (Nat.min m O:Nat),w',?_,hp,.atom _ rfl⟩;unfold Builtin.copy_;simp only[ar,show(#[Value.slice (some ⟨l0.c,l0.sh+o,none⟩) O U,T]:Array Value)[0]?=some (Value.slice (some ⟨l0.c,l0.sh+o,none⟩) O U) from rfl,
        show(#[Value.slice (some ⟨l0.c,l0.sh+o,none⟩) O U,T]:Array Value)[1]?=some T from rfl,
        Sem.run_bind,ah w hu,Result.andThen_ok,Y,aQ w ax,a7,a3,Sem.run_pure]
      cases A
     cases A
   cases A
  cases A
 cases A
theorem len_sound{t ty:TypeId}{x Y v:Value}(h:WRel μ H w)(T:VRel μ x Y)(A:aLen P t x H=some v):
  (Builtin.len_ #[t] ty #[Y]).run P w= .ok v w/\cJ v=true:=by
 unfold aLen at A
 split at A
 ·rename_i e a n k E;injection A with A;subst A;obtain⟨a',k',rfl,_⟩:=cR T;exact⟨by simp[Builtin.len_,ah w E],rfl⟩
 ·rename_i s E;injection A with A;subst A;obtain rfl:=T.string_inv;exact⟨by simp[Builtin.len_,ah w E,bA],rfl⟩
 ·rename_i k e E;injection A with A;subst A;obtain rfl:=T.mapNil_inv;exact⟨by simp[Builtin.len_,ah w E],rfl⟩
 ·rename_i k e r E;split at A
  ·rename_i es Z;injection A with A;subst A;obtain⟨l,hμ,rfl⟩:=T.map_inv;obtain⟨V,O,hh,hl,_⟩:=h.obj r l _ hμ Z;have U:(getObj l.c).run P w= .ok (.map V O) w:=gq hh (by intros;simp);exact⟨by simp[Builtin.len_,ah w E,U,hl],rfl⟩
  cases A
 cases A
theorem fE: ∀(l:List Value) (r:List UInt8) (s:ByteArray),bO l=some r->
  (forIn (m:=Sem) l s (fun c s=>match c with
   | .int .u8 n=>Pure.pure (ForInStep.yield (s.push (UInt8.ofNat n.toNat)))
   |_=>do stuck "bytesToString: byte expected";Pure.pure (ForInStep.yield s))).run P w= .ok ⟨⟨s.data.toList++r⟩⟩ w
 | [],r,s,h=>by simp only[bO,a00]at h;subst h;simp
 |v::l,r,s,h=>by
  unfold bO at h;split at h
  ·rename_i A;cases A
  ·rename_i n l2 A;injection A with h1 h2;subst h1 h2;split at h
   ·rename_i O E;injection h with h;subst h;have ih:=fE l O (s.push (UInt8.ofNat n.toNat)) E;simp only[List.forIn_cons,Sem.run_bind,Sem.run_pure,Result.andThen_ok,ih];congr 3;simp
   cases h
  cases h
theorem eM: ∀(l:List Value) (r:List UInt8),bO l=some r->l.all cJ=true
 | [],_,_=>rfl
 |v::l,r,h=>by
  unfold bO at h;split at h
  ·rename_i A;cases A
  ·rename_i n l2 A;injection A with h1 h2;subst h1 h2;split at h
   ·rename_i O E;simp only[a0s,cJ,a17];exact eM l O E
   cases h
  cases h
theorem me{ρ ρ':Operand->Value}{o:Oper}{s d:TypeId}{x:Operand}{r:AN}(h:WRel μ H w)(an:o.op= .convert s d x)(hρ: ∀x∈o.op.operands,VRel μ (ρ x) (ρ' x))
  (ho:eP P ρ o s d (ρ x) H=some (r,H')):OpOK P μ H w (execOp ρ' o) r H':=by
 have V:VRel μ (ρ x) (ρ' x):=hρ x (by rw[an];simp[Op.operands])
 have Y:execOp ρ' o=(do Pure.pure (.value (←convert s d (ρ' x)))):=by unfold execOp;simp only[an]
 unfold eP at ho
 split at ho
 ·rename_i k n hv;rw[hv]at V;obtain⟨rfl,v,A,rfl⟩:=ce ho;unfold mh at A;split at A
  ·rename_i sd kd T O;injection A with A;subst A;rw[Y];refine OpOK.value (v':= .int kd (kd.wrap n)) ?_ (Post.refl h) (.atom _ rfl);rw[V.int_inv];simp[convert,ah w T,ah w O,Conv.intToInt]
  cases A
 ·rename_i a n k hv;rw[hv]at V;obtain⟨rfl,v,A,rfl⟩:=ce ho;rw[Y];unfold cu at A;split at A
  ·rename_i e T O;split at A
   ·rename_i ar;split at A
    ·injection A with A;subst A;obtain⟨_,_,E⟩:=V.sliceNil_inv;refine OpOK.value (v':= .string .empty) ?_ (Post.refl h) (.atom _ rfl);rw[E];simp[convert,ah w T,ah w O,ah w ar,Conv.bytesToString]
    rename_i a;obtain⟨b,o2,sp⟩:=a;have a9:sp=none:=V.slice_some.1;subst a9;cases hq:Nat.beq n 0 with
    |true=>
     rw[hq]at A
     simp only[cond_true,a00]at A;subst A
     have hn:n=0:=a07 hq
     subst hn
     obtain⟨_,a',k',E⟩:=V.slice_some
     refine OpOK.value (v':= .string .empty) ?_ (Post.refl h) (.atom _ rfl)
     rw[E]
     simp[convert,ah w T,ah w O,ah w ar,Conv.bytesToString,loadCells,loadCellsFrom]
    |false=>
     rw[hq]at A
     simp only[cond_false]at A
     have hn:n≠0:=fun e=>by subst e;cases hq
     split at A
     ·rename_i l hl;split at A
      ·rename_i rb a3;injection A with A;subst A;obtain⟨l0,hμ,hc⟩:=V.slice_inv;obtain⟨a4,U,a7,bl⟩:=gS (P:=P) h hμ hl;have ba:a4=l:=a7.eq0 (eM l rb a3);subst ba;have E: ∃k',ρ' x= .slice (some ⟨l0.c,l0.sh+o2,none⟩) n k':=by
        rcases hc with⟨_,Z⟩|⟨e',o',k',_,Z,b1,_,a6,_⟩|⟨hz,_,_⟩
        rotate_right
        ·exact absurd hz hn
        ·exact⟨k,Z⟩
        rw[a6 (by omega)]at Z;exact⟨k',Z⟩
       obtain⟨k',E⟩:=E;refine OpOK.value (v':= .string ⟨⟨rb⟩⟩) ?_ (Post.refl h) (.atom _ rfl);rw[E];have hb:=fE (P:=P) (w:=w) a4 rb .empty a3;simp only[convert,Sem.run_bind,ah w T,ah w O,ah w ar,Result.andThen_ok,Conv.bytesToString,U];have Z:((ByteArray.empty.data.toList++rb:List UInt8))=rb:=rfl;rw[Z]at hb;simp only[←Array.forIn_toList]at *
       exact congrArg (fun r=>Result.andThen r fun a w'=>Sem.run P (Pure.pure (Value.string a)) w') hb
      cases A
     cases A
   cases A
  cases A
 obtain⟨rfl,v,v',rfl,U,hr⟩:=dr ho (fun _ _=>by rw[an];simp) hρ
 exact⟨.value v',w,μ,U w,Post.refl h,hr⟩
theorem dN{d:TypeDesc}{k:Value}(h:bB d k=true):cJ k=true:=by unfold bB at h;split at h<;>first|rfl|cases h
theorem iq(a b:ByteArray):(a==b)=dv a b:=by
 have e:(a==b)=(a.data==b.data):=by cases a;cases b;rfl
 rw[e,a0J];simp only[beq_iff_eq,dv];constructor
 ·intro h;rw[h]
 intro h;exact a19.1 h
theorem bytesEq_iff{a b:ByteArray}(h:dv a b=true):a=b:=by simp only[dv,beq_iff_eq]at h;exact ByteArray.ext (a19.1 h)
theorem ip(a:ByteArray):(a==a)=true:=by rw[iq];simp[dv]
theorem sameNow_key{d:TypeDesc}{a b:Value}(ha:bB d a=true)(hb:bB d b=true):Instr.sameNow d a b=some (cI a b):=by
 unfold bB at ha hb;split at ha
 ·split at hb
  ·rename_i k k1 n _ _ k2 E A;injection A with e1;subst e1;simp only[beq_iff_eq]at ha hb;subst ha hb;simp[Instr.sameNow,cI]
  ·cases ‹TypeDesc.int _=_›
  ·cases ‹TypeDesc.int _=_›
  cases hb
 ·split at hb
  ·cases ‹TypeDesc.string=_›
  ·simp[Instr.sameNow,cI,iq]
  ·cases ‹TypeDesc.string=_›
  cases hb
 ·split at hb
  ·cases ‹TypeDesc.bool=_›
  ·cases ‹TypeDesc.bool=_›
  ·simp[Instr.sameNow,cI]
  cases hb
 cases ha
def EntRel(μ:Emb)(es:List (Value×Value))(A:List MapEntry):Prop:=
 es.length=A.length/\∀(i:Nat) x y,es[i]?=some x->A[i]?=some y->VRel μ x.1 y.key/\VRel μ x.2 y.val
theorem EntRel.cons_left{x:Value×Value}{es:List (Value×Value)}{A:List MapEntry}(h:EntRel μ (x::es) A):
  ∃y t,A=y::t/\VRel μ x.1 y.key/\VRel μ x.2 y.val/\EntRel μ es t:=by
 cases A with
 |nil=>have:=h.1;simp at this
 |cons y t=>
  obtain⟨E,O⟩:=h.2 0 x y rfl rfl
  exact⟨y,t,rfl,E,O,by have:=h.1;simpa using this,fun i a b ha hb=>h.2 (i+1) a b (by simpa using ha) (by simpa using hb)⟩
theorem EntRel.cons{x:Value×Value}{es:List (Value×Value)}{y:MapEntry}{A:List MapEntry}(E:VRel μ x.1 y.key)(O:VRel μ x.2 y.val)(h:EntRel μ es A):
  EntRel μ (x::es) (y::A):=by
 refine⟨by simp[h.1],fun i a b ha hb=>?_⟩
 cases i with
 |zero=>simp at ha hb;subst ha hb;exact⟨E,O⟩
 |succ i=>exact h.2 i a b (by simpa using ha) (by simpa using hb)
theorem gU{d:TypeDesc}{k:Value}(Y:bB d k=true): ∀(es:List (Value×Value)) (ces:List MapEntry) (i:Nat),EntRel μ es ces->es.all (fun e=>bB d e.1)=true->
  (∃v v' j,dC d k es=some v/\Instr.findNow d k ces i=some (some (i+j,v'))/\VRel μ v v'/\j<ces.length/\
    (∃y,ces[j]?=some y/\cI k y.key=true/\bB d y.key=true)/\(∀u A,VRel μ u A->EntRel μ (cC k u es) (ces.modify j fun e=>{e with key:=k,val:=A})))\/
  (dC d k es=none/\Instr.findNow d k ces i=some none/\∀u A b,VRel μ u A->EntRel μ (cC k u es) (ces++[{key:=k,val:=A,born:=b}]))
 | [],ces,i,h,_=>by have:ces=[]:=a0f h.1.symm;subst this;refine .inr ⟨rfl,rfl,fun u A b E=>?_⟩;exact EntRel.cons (x:=(k,u)) (.atom k (dN Y)) E ⟨rfl,fun i a b ha=>by simp at ha⟩
 |x::es,ces,i,h,hall=>by
  obtain⟨y,t,rfl,T,U,ht⟩:=h.cons_left;simp only[a0s,a02]at hall;have V:y.key=x.1:=T.eq0 (dN hall.1);have O:Instr.sameNow d k y.key=some (cI k x.1):=by rw[V];exact sameNow_key Y hall.1
  cases hs:cI k x.1 with
  |true=>
   refine .inl ⟨x.2,y.val,0,?_,?_,U,by simp,⟨y,rfl,by rw[V];exact hs,by rw[V];exact hall.1⟩,fun u A E=>?_⟩
   ·simp only[dC,hs,cond_true]
   ·simp only[Instr.findNow,O,hs];rfl
   simp only[cC,hs,cond_true,List.modify_zero_cons]
   exact EntRel.cons (x:=(k,u)) (.atom k (dN Y)) E ht
  |false=>
   rcases gU Y es t (i+1) ht hall.2 with⟨v,v',j,Z,h2,h3,h4,h5,h6⟩|⟨Z,h2,h3⟩
   ·refine .inl ⟨v,v',j+1,?_,?_,h3,by simpa using h4,?_,fun u A E=>?_⟩
    ·simp only[dC,hs,cond_false];exact Z
    ·simp only[Instr.findNow,O,hs];rw[h2];congr 3;omega
    ·obtain⟨y2,ax,h7⟩:=h5;exact⟨y2,by simpa using ax,h7⟩
    simp only[cC,hs,cond_false,List.modify_succ_cons];exact EntRel.cons (x:=(x.1,x.2)) T U (h6 u A E)
   refine .inr ⟨?_,?_,fun u A b E=>?_⟩
   ·simp only[dC,hs,cond_false];exact Z
   ·simp only[Instr.findNow,O,hs];exact h2
   simp only[cC,hs,cond_false,a0t]
   exact EntRel.cons (x:=(x.1,x.2)) T U (h3 u A b E)
theorem eL{d:TypeDesc}{O:TypeId}{k:Value}(E:P.underlying O=some d)(A:bB d k=true)(b:Bool):(Instr.checkKey b 10000 O k).run P w= .ok () w:=by
 have key: ∀n,(Instr.checkKey b (n+1) O k).run P w= .ok () w:=by
  intro n;unfold bB at A;split at A
  ·simp[Instr.checkKey,ah w E]
  ·simp[Instr.checkKey,ah w E]
  ·simp[Instr.checkKey,ah w E]
  cases A
 exact key 9999
theorem lookup_sound{t:TypeId}{m k m' Z v:Value}{ok:Bool}(h:WRel μ H w)(hm:VRel μ m m')(hk:VRel μ k Z)(A:cP P t m k ok H=some v):
  ∃v',(Instr.lookup t m' Z ok).run P w= .ok v' w/\VRel μ v v':=by
 unfold cP at A
 split at A
 ·rename_i kt et Y;split at A
  ·rename_i d i hd hi;split at A
   ·rename_i z hz;cases E:(bB d k&&hZ z) with
    |false=>rw[E]at A;cases A
    |true=>
     rw[E]at A
     simp only[cond_true]at A
     simp only[a02]at E
     have a5:Z=k:=hk.eq0 (dN E.1)
     subst a5
     have ar:VRel μ z z:=VRel.refl1 E.2
     have ax:(zeroValue et).run P w= .ok z w:=dm w hi hz
     have al: ∀(u O:Value) (b:Bool),VRel μ u O->VRel μ (bif ok then .tuple #[u,.bool b] else u) (if ok then .tuple #[O,.bool b] else O):=by
      intro u O b Y;cases ok
      ·exact Y
      have:=LRel.cons Y (LRel.cons (VRel.atom (μ:=μ) (.bool b) rfl) LRel.nil);exact .tuple _ _ this.1 this.2
     split at A
     ·injection A with A;subst A;obtain rfl:=hm.mapNil_inv;refine⟨_,?_,al z z false ar⟩;simp only[Instr.lookup,Sem.run_bind,ah w Y,Result.andThen_ok,Sem.run_pure,eL hd E.1,Instr.findKey,ah w hd];simp[Instr.findNow,ax]
     ·rename_i r;split at A
      ·rename_i es hg;cases V:es.all fun e=>bB d e.1 with
       |false=>rw[V]at A;cases A
       |true=>
        rw[V]at A
        simp only[cond_true]at A
        obtain⟨l,hμ,rfl⟩:=hm.map_inv
        obtain⟨T,an,hh,hl,a3⟩:=h.obj r l _ hμ hg
        have a4:(getObj l.c).run P w= .ok (.map T an) w:=gq hh (by intros;simp)
        have U: ∀X,Instr.findNow d Z T.toList 0=some X->(Instr.lookup t (.map (some l.c)) Z ok).run P w=
          (match X with
           |some (_,v)=>(.ok (if ok then .tuple #[v,.bool true] else v) w:Result Value)
           |none=> .ok (if ok then .tuple #[z,.bool false] else z) w):=by
         intro X hX
         simp only[Instr.lookup,Sem.run_bind,ah w Y,Result.andThen_ok,Sem.run_pure,a4,eL hd E.1,Instr.findKey,ah w hd,hX]
         cases X with
         |none=>simp[ax]
         |some p=>obtain⟨j,u⟩:=p;simp
        rcases gU E.1 es T.toList 0 ⟨hl,a3⟩ V with⟨u,O,j,h1,h2,h3,_⟩|⟨h1,h2,_⟩
        ·rw[h1]at A;simp only[a00]at A;subst A;exact⟨_,U _ h2,al u O true h3⟩
        rw[h1]at A
        simp only[a00]at A;subst A
        exact⟨_,U _ h2,al z z false ar⟩
      cases A
     cases A
   cases A
  cases A
 cases A
theorem sameBits_key{d:TypeDesc}{a b:Value}(ha:bB d a=true)(hb:bB d b=true)(h:cI a b=true):Instr.sameBits 10000 b a=true:=by
 have key: ∀n,Instr.sameBits n b a=true:=by
  intro n;unfold bB at ha hb;split at ha
  ·split at hb
   ·rename_i k k1 x _ _ k2 y A;injection A with e1;subst e1;simp only[beq_iff_eq]at ha hb;subst ha hb;simp only[cI,beq_iff_eq]at h;subst h;cases n<;>simp[Instr.sameBits]
   ·cases ‹TypeDesc.int _=_›
   ·cases ‹TypeDesc.int _=_›
   cases hb
  ·split at hb
   ·cases ‹TypeDesc.string=_›
   ·rename_i x _ _ y _;have h:=bytesEq_iff h;subst h;cases n<;>simp[Instr.sameBits,ip]
   ·cases ‹TypeDesc.string=_›
   cases hb
  ·split at hb
   ·cases ‹TypeDesc.bool=_›
   ·cases ‹TypeDesc.bool=_›
   ·simp only[cI,beq_iff_eq]at h;subst h;cases n<;>simp[Instr.sameBits]
   cases hb
  cases ha
 exact key 10000
theorem iT{t:TypeId}{m k v m' Z v':Value}(h:WRel μ H w)(hm:VRel μ m m')(hk:VRel μ k Z)(hv:VRel μ v v')(E:dW P t m k v H=some H'):
  ∃w',(Instr.mapUpdate t m' Z v').run P w= .ok () w'/\Post μ H w μ H' w':=by
 unfold dW at E
 split at E
 ·rename_i kt et hu;split at E
  ·rename_i d r hd;split at E
   ·rename_i es hg;cases O:(bB d k&&es.all fun e=>bB d e.1) with
    |false=>rw[O]at E;cases E
    |true=>
     rw[O]at E
     simp only[cond_true,a00]at E;subst E
     simp only[a02]at O
     have a4:Z=k:=hk.eq0 (dN O.1)
     subst a4
     obtain⟨l,hμ,rfl⟩:=hm.map_inv
     obtain⟨T,A,hh,hl,ax⟩:=h.obj r l _ hμ hg
     have U:(getObj l.c).run P w= .ok (.map T A) w:=gq hh (by intros;simp)
     have Y: ∀o',(setObj l.c o').run P w= .ok () (aU w l.c o'):=fun o'=>kS hh (by intros;simp)
     rcases gU O.1 es T.toList 0 ⟨hl,ax⟩ O.2 with⟨u,u',j,h1,h2,h3,h4,⟨y,hy,a8,a7⟩,h6⟩|⟨h1,h2,h3⟩
     ·refine⟨aU w l.c (.map (T.modify j fun e=>{e with key:=Z,val:=v'}) A),?_,?_⟩
      ·have an:T[j]?=some y:=by simpa using hy
       simp only[Instr.mapUpdate,Sem.run_bind,ah w hu,Result.andThen_ok,U,eL hd O.1,Instr.findKey,ah w hd,h2,Sem.run_pure,a0R,an,a1E,a1m,
        Instr.keyThatStays,sameBits_key O.1 a7 a8,if_true,Y]
      have V:=h6 v v' hv;refine Post.put h hμ hg rfl _ rfl _ ⟨_,A,bh w _ (bK hh),?_,?_⟩
      ·rw[Array.toList_modify];exact V.1
      rw[Array.toList_modify];exact V.2
     refine⟨aU w l.c (.map (T.push {key:=Z,val:=v',born:=A}) (A+1)),?_,?_⟩
     ·simp only[Instr.mapUpdate,Sem.run_bind,ah w hu,Result.andThen_ok,U,eL hd O.1,Instr.findKey,ah w hd,h2,Sem.run_pure,Y]
     have V:=h3 v v' A hv
     refine Post.put h hμ hg rfl _ rfl _ ⟨_,A+1,bh w _ (bK hh),?_,?_⟩
     ·rw[Array.toList_push];exact V.1
     rw[Array.toList_push];exact V.2
   cases E
  cases E
 cases E
theorem callee_sound{f f':Value}{args:List Value}{E:Array Value}{r:AN}(hf:VRel μ f f')(ha:LRel μ args E.toList)(A:fA P f args=some r):
  ∃i U,r= .enter i U/\∃T,(∀w,(do let d ←Deferred.ofValue f' E;invoke d.target d.args:Sem Next).run P w= .ok (.enter i T) w)/\LRel μ U T.toList:=by
 unfold fA at A
 split at A
 ·rename_i i first Z;obtain⟨Y,O,rfl,h1,h2⟩:=hf.func_inv;split at A
  ·rename_i fn ar;cases V:(fn.body.isSome&& !(fn.name== "runtime.NumGoroutine")) with
   |false=>rw[V]at A;cases A
   |true=>
    rw[V]at A
    simp only[cond_true,a00]at A;subst A
    simp only[a02,a0I]at V
    refine⟨i,_,rfl,(Y++E)++O,fun w=>?_,?_⟩
    ·have hb: ¬fn.body=none:=by intro an;rw[an]at V;cases V.1
     have ax: ¬fn.name= "runtime.NumGoroutine" :=by have:=V.2;simpa using this
     simp[Deferred.ofValue,invoke,callFunc,ar,ax,hb]
    rw[dF,dF]
    have:=(h1.append (ha.append h2))
    simpa using this
  cases A
 cases A
end
end Go.R
