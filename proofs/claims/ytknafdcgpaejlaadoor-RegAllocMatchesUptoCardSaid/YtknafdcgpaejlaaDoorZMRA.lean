/-
The evaluator is sound: values, operations, memory.
-/
import Derived.Test.YtknafdcgpaejlaaDoorZMR0
import Derived.IntWalk
set_option linter.unusedVariables false
set_option linter.unusedSimpArgs false
namespace Go.R
structure Loc where
 c:Nat
 sh:Nat
 opn:Option Nat
 csz:Nat
abbrev Emb:=Nat->Option Loc
inductive VRel(μ:Emb):Value->Value->Prop
 |atom (v:Value):noA0 v=true->VRel μ v v
 |ptr (b o:Nat) (l:Loc):μ b=some l->VRel μ (.pointer (some ⟨b,o,none⟩)) (.pointer (some ⟨l.c,l.sh+o,none⟩))
 |sliceC (b o n k:Nat) (l:Loc):μ b=some l->l.opn=none->VRel μ (.slice (some ⟨b,o,none⟩) n k) (.slice (some ⟨l.c,l.sh+o,none⟩) n k)
 |sliceO (b o o' n k k' e:Nat) (l:Loc):μ b=some l->l.opn=some e->n<=k->k<=k'->(0<k->o'=l.sh+o)->o'+k'*e<=l.csz->
   VRel μ (.slice (some ⟨b,o,none⟩) n k) (.slice (some ⟨l.c,o',none⟩) n k')
 |sliceZ (b o:Nat) (a:Addr) (l:Loc):μ b=some l->VRel μ (.slice (some ⟨b,o,none⟩) 0 0) (.slice (some a) 0 0)
 |map (b:Nat) (l:Loc):μ b=some l->VRel μ (.map (some b)) (.map (some l.c))
 |func (fn:Fn) (xs ys xs' ys':Array Value):xs.toList.length=xs'.toList.length->ys.toList.length=ys'.toList.length->
   (∀(i:Nat) v v',xs.toList[i]?=some v->xs'.toList[i]?=some v'->VRel μ v v')->
   (∀(i:Nat) v v',ys.toList[i]?=some v->ys'.toList[i]?=some v'->VRel μ v v')->VRel μ (.func fn xs ys) (.func fn xs' ys')
 |agg (xs xs':Array Value):xs.toList.length=xs'.toList.length->
   (∀(i:Nat) v v',xs.toList[i]?=some v->xs'.toList[i]?=some v'->VRel μ v v')->VRel μ (.agg xs) (.agg xs')
 |tuple (xs xs':Array Value):xs.toList.length=xs'.toList.length->
   (∀(i:Nat) v v',xs.toList[i]?=some v->xs'.toList[i]?=some v'->VRel μ v v')->VRel μ (.tuple xs) (.tuple xs')
def LRel(μ:Emb)(l l':List Value):Prop:=l.length=l'.length/\∀(i:Nat) v v',l[i]?=some v->l'[i]?=some v'->VRel μ v v'
section
variable {μ μ':Emb}
theorem VRel.mono(h: ∀b l,μ b=some l->μ' b=some l){v v':Value}(A:VRel μ v v'):VRel μ' v v':=by
 induction A with
 |atom v h0=>exact .atom v h0
 |ptr b o l hb=>exact .ptr b o l (h _ _ hb)
 |sliceC b o n k l hb ho=>exact .sliceC b o n k l (h _ _ hb) ho
 |sliceO b o o' n k k' e l hb ho h1 h2 h3 h4=>exact .sliceO b o o' n k k' e l (h _ _ hb) ho h1 h2 h3 h4
 |sliceZ b o a l hb=>exact .sliceZ b o a l (h _ _ hb)
 |map b l hb=>exact .map b l (h _ _ hb)
 |func fn xs ys xs' ys' h1 h2 _ _ i1 i2=>exact .func fn xs ys xs' ys' h1 h2 i1 i2
 |agg xs xs' h1 _ i1=>exact .agg xs xs' h1 i1
 |tuple xs xs' h1 _ i1=>exact .tuple xs xs' h1 i1
theorem LRel.mono(h: ∀b l,μ b=some l->μ' b=some l){l l':List Value}(A:LRel μ l l'):LRel μ' l l':=
 ⟨A.1,fun i v v' E N=>(A.2 i v v' E N).mono h⟩
theorem LRel.nil:LRel μ [] []:=⟨rfl,fun i v v' h=>by simp at h⟩
theorem LRel.cons{v v':Value}{l l':List Value}(h:VRel μ v v')(N:LRel μ l l'):LRel μ (v::l) (v'::l'):=by
 refine⟨by simp[N.1],fun i x T A E=>?_⟩;cases i with
 |zero=>simp at A E;subst A E;exact h
 |succ i=>exact N.2 i x T (by simpa using A) (by simpa using E)
theorem LRel.head{v v':Value}{l l':List Value}(h:LRel μ (v::l) (v'::l')):VRel μ v v':=h.2 0 v v' rfl rfl
theorem LRel.tail{v v':Value}{l l':List Value}(h:LRel μ (v::l) (v'::l')):LRel μ l l':=
 ⟨by simpa using h.1,fun i x N A E=>h.2 (i+1) x N (by simpa using A) (by simpa using E)⟩
theorem LRel.get{l l':List Value}(h:LRel μ l l'){i:Nat}{v:Value}(A:l[i]?=some v): ∃v',l'[i]?=some v'/\VRel μ v v':=by
 have hi:i<l'.length:=by rw[←h.1];exact(a0n.1 A).1
 exact⟨l'[i],a06 hi,h.2 i v _ A (a06 hi)⟩
theorem LRel.append{a b N T:List Value}(h:LRel μ a N)(k:LRel μ b T):LRel μ (a++b) (N++T):=by
 refine⟨by simp[h.1,k.1],fun i v v' A E=>?_⟩;by_cases hi:i<a.length
 ·rw[a0N hi]at A;rw[a0N (h.1▸hi)]at E;exact h.2 i v v' A E
 rw[a0X (by omega)]at A;rw[a0X (by have:=h.1;omega),←h.1]at E;exact k.2 _ v v' A E
theorem LRel.take{a N:List Value}(h:LRel μ a N)(n:Nat):LRel μ (a.take n) (N.take n):=by
 refine⟨by simp[h.1],fun i v v' A E=>?_⟩;rw[a0x]at A E;split at A
 ·rename_i hi;rw[if_pos hi]at E;exact h.2 i v v' A E
 cases A
theorem LRel.drop{a A:List Value}(h:LRel μ a A)(n:Nat):LRel μ (a.drop n) (A.drop n):=by refine⟨by simp[h.1],fun i v v' E N=>?_⟩;rw[a0I]at E N;exact h.2 _ v v' E N
theorem LRel.nil_left{l':List Value}(h:LRel μ [] l'):l'=[]:=a0t h.1.symm
theorem LRel.cons_left{v:Value}{l l':List Value}(h:LRel μ (v::l) l'): ∃v' A,l'=v'::A/\VRel μ v v'/\LRel μ l A:=by
 cases l' with
 |nil=>have:=h.1;simp at this
 |cons v' A=>exact⟨v',A,rfl,h.head,h.tail⟩
theorem VRel.oneCell{v v':Value}(h:VRel μ v v'):v'.oneCell'=v.oneCell':=by cases h<;>rfl
theorem VRel.eq0{v v':Value}(h:VRel μ v v')(h0:noA0 v=true):v'=v:=by
 cases h with
 |atom=>rfl
 |func fn xs ys xs' ys' h1 h2 _ _=>
  simp only[noA0,a0f]at h0
  have A:xs.size=0:=a08 h0.1
  have E:ys.size=0:=a08 h0.2
  have N:xs= #[]:=a1e.1 A
  have T:ys= #[]:=a1e.1 E
  subst N T
  have U:xs'= #[]:=a1e.1 (by simpa using h1.symm)
  have V:ys'= #[]:=a1e.1 (by simpa using h2.symm)
  subst U V
  rfl
 |_=>simp[noA0]at h0
theorem LRel.eq0{l l':List Value}(h:LRel μ l l')(h0:l.all noA0=true):l'=l:=by
 induction l generalizing l' with
 |nil=>exact h.nil_left
 |cons v l ih=>
  obtain⟨v',N,rfl,E,A⟩:=h.cons_left
  simp only[a1u,a0f]at h0
  rw[E.eq0 h0.1,ih A h0.2]
theorem VRel.eq1{v v':Value}(h:VRel μ v v')(A:iB v=true):v'=v:=by
 cases h with
 |agg xs xs' hl hi=>
  have:=LRel.eq0 (μ:=μ) (l:=xs.toList) (l':=xs'.toList) ⟨hl,hi⟩ A
  rw[a1d.1 this]
 |atom v h0=>rfl
 |_=>exact VRel.eq0 (μ:=μ) (by constructor<;>assumption) A
theorem LRel.eq1{l l':List Value}(h:LRel μ l l')(h0:l.all iB=true):l'=l:=by
 induction l generalizing l' with
 |nil=>exact h.nil_left
 |cons v l ih=>
  obtain⟨v',N,rfl,E,A⟩:=h.cons_left
  simp only[a1u,a0f]at h0
  rw[E.eq1 h0.1,ih A h0.2]
theorem LRel.refl0{l:List Value}(h:l.all noA0=true):LRel μ l l:=by refine⟨rfl,fun i v v' E A=>?_⟩;rw[E]at A;injection A with A;subst A;exact .atom v (a0v.1 h v (a0l E))
theorem VRel.refl1{v:Value}(h:iB v=true):VRel μ v v:=by
 cases v with
 |agg cs=>have:=LRel.refl0 (μ:=μ) (l:=cs.toList) h;exact .agg cs cs this.1 this.2
 |_=>exact .atom _ h
theorem LRel.refl1{l:List Value}(h:l.all iB=true):LRel μ l l:=by refine⟨rfl,fun i v v' E A=>?_⟩;rw[E]at A;injection A with A;subst A;exact VRel.refl1 (a0v.1 h v (a0l E))
theorem VRel.refl2{v:Value}(h:noA2 v=true):VRel μ v v:=by
 cases v with
 |tuple vs=>have:=LRel.refl1 (μ:=μ) (l:=vs.toList) h;exact .tuple vs vs this.1 this.2
 |_=>exact VRel.refl1 h
theorem VRel.undef:VRel μ undef undef:=VRel.refl2 rfl
theorem VRel.eq2{v v':Value}(h:VRel μ v v')(A:noA2 v=true):v'=v:=by
 cases h with
 |tuple xs xs' hl hi=>
  have:=LRel.eq1 (μ:=μ) (l:=xs.toList) (l':=xs'.toList) ⟨hl,hi⟩ A
  rw[a1d.1 this]
 |atom v h0=>rfl
 |_=>exact VRel.eq1 (μ:=μ) (by constructor<;>assumption) A
theorem VRel.cells{v v':Value}(h:VRel μ v v'):LRel μ v.cells.toList v'.cells.toList:=by
 have one: ∀{u A:Value},VRel μ u A->LRel μ [u] [A]:=fun E=> .cons E .nil
 cases h with
 |agg xs xs' hl hi=>exact⟨hl,hi⟩
 |atom v h0=>cases v<;>first|(simp[noA0]at h0;done)|exact one (.atom _ h0)
 |ptr b o l hb=>exact one (.ptr b o l hb)
 |sliceC b o n k l hb ho=>exact one (.sliceC b o n k l hb ho)
 |sliceO b o o' n k k' e l hb ho h1 h2 h3 h4=>exact one (.sliceO b o o' n k k' e l hb ho h1 h2 h3 h4)
 |sliceZ b o a l hb=>exact one (.sliceZ b o a l hb)
 |map b l hb=>exact one (.map b l hb)
 |func fn xs ys xs' ys' h1 h2 i1 i2=>exact one (.func fn xs ys xs' ys' h1 h2 i1 i2)
 |tuple xs xs' h1 i1=>exact one (.tuple xs xs' h1 i1)
theorem VRel.int_inv{k:IntKind}{n:Int}{v':Value}(h:VRel μ (.int k n) v'):v'= .int k n:=h.eq0 rfl
theorem VRel.bool_inv{b:Bool}{v':Value}(h:VRel μ (.bool b) v'):v'= .bool b:=h.eq0 rfl
theorem VRel.string_inv{s:ByteArray}{v':Value}(h:VRel μ (.string s) v'):v'= .string s:=h.eq0 rfl
theorem VRel.ptr_inv{b o:Nat}{v':Value}(h:VRel μ (.pointer (some ⟨b,o,none⟩)) v'): ∃l,μ b=some l/\v'= .pointer (some ⟨l.c,l.sh+o,none⟩):=by
 cases h with
 |atom _ h0=>simp[noA0]at h0
 |ptr _ _ l hb=>exact⟨l,hb,rfl⟩
theorem VRel.ptr_some{a:Addr}{v':Value}(h:VRel μ (.pointer (some a)) v'):a.spot=none/\∃A,v'= .pointer (some A):=by
 cases h with
 |atom _ h0=>simp[noA0]at h0
 |ptr _ _ l hb=>exact⟨rfl,_,rfl⟩
theorem VRel.agg_inv{xs:Array Value}{v':Value}(h:VRel μ (.agg xs) v'): ∃A,v'= .agg A/\LRel μ xs.toList A.toList:=by
 cases h with
 |atom _ h0=>simp[noA0]at h0
 |agg _ A hl hi=>exact⟨A,rfl,hl,hi⟩
theorem VRel.tuple_inv{xs:Array Value}{v':Value}(h:VRel μ (.tuple xs) v'): ∃A,v'= .tuple A/\LRel μ xs.toList A.toList:=by
 cases h with
 |atom _ h0=>simp[noA0]at h0
 |tuple _ A hl hi=>exact⟨A,rfl,hl,hi⟩
theorem VRel.func_inv{fn:Fn}{xs ys:Array Value}{v':Value}(h:VRel μ (.func fn xs ys) v'):
  ∃A E,v'= .func fn A E/\LRel μ xs.toList A.toList/\LRel μ ys.toList E.toList:=by
 cases h with
 |atom _ h0=>
  simp only[noA0,a0f]at h0
  have N:xs= #[]:=a1e.1 (a08 h0.1)
  have T:ys= #[]:=a1e.1 (a08 h0.2)
  subst N T
  exact⟨#[], #[],rfl,.nil,.nil⟩
 |func _ _ _ A E h1 h2 i1 i2=>exact⟨A,E,rfl,⟨h1,i1⟩,⟨h2,i2⟩⟩
theorem VRel.map_inv{b:Nat}{v':Value}(h:VRel μ (.map (some b)) v'): ∃l,μ b=some l/\v'= .map (some l.c):=by
 cases h with
 |atom _ h0=>simp[noA0]at h0
 |map _ l hb=>exact⟨l,hb,rfl⟩
theorem VRel.mapNil_inv{v':Value}(h:VRel μ (.map none) v'):v'= .map none:=h.eq0 rfl
theorem VRel.slice_inv{b o n k:Nat}{v':Value}(h:VRel μ (.slice (some ⟨b,o,none⟩) n k) v'):
  ∃l,μ b=some l/\((l.opn=none/\v'= .slice (some ⟨l.c,l.sh+o,none⟩) n k)\/
   (∃e E A,l.opn=some e/\v'= .slice (some ⟨l.c,E,none⟩) n A/\n<=k/\k<=A/\(0<k->E=l.sh+o)/\E+A*e<=l.csz)\/(n=0/\k=0/\∃N,v'= .slice (some N) 0 0)):=by
 cases h with
 |atom _ h0=>simp[noA0]at h0
 |sliceC _ _ _ _ l hb ho=>exact⟨l,hb,.inl ⟨ho,rfl⟩⟩
 |sliceO _ _ E _ _ A e l hb ho h1 h2 h3 h4=>exact⟨l,hb,.inr (.inl ⟨e,E,A,ho,rfl,h1,h2,h3,h4⟩)⟩
 |sliceZ _ _ a l hb=>exact⟨l,hb,.inr (.inr ⟨rfl,rfl,a,rfl⟩)⟩
theorem VRel.sliceNil_inv{n k:Nat}{v':Value}(h:VRel μ (.slice none n k) v'):n=0/\k=0/\v'= .slice none n k:=by
 cases h with
 |atom _ h0=>
  simp only[noA0,a0f]at h0
  exact⟨a08 h0.1,a08 h0.2,rfl⟩
theorem VRel.slice_some{a:Addr}{n k:Nat}{v':Value}(h:VRel μ (.slice (some a) n k) v'):a.spot=none/\∃E A,v'= .slice (some E) n A:=by
 cases h with
 |atom _ h0=>simp[noA0]at h0
 |sliceC _ _ _ _ l hb ho=>exact⟨rfl,_,_,rfl⟩
 |sliceO _ _ o' _ _ A e l hb ho h1 h2 h3 h4=>exact⟨rfl,_,_,rfl⟩
 |sliceZ _ _ a l hb=>exact⟨rfl,_,_,rfl⟩
end
def ObjRel(μ:Emb)(w:World)(l:Loc):AObj->Prop
 | .cells cs opn true=>l.opn=opn/\opn=none/\l.c<w.heap.size/\∀(i:Nat) v,cs[i]?=some v->∃v',w.cell? ⟨l.c,l.sh+i,none⟩=some v'/\VRel μ v v'
 | .cells cs opn false=>l.opn=opn/\∃(A:Array Value) (e:TypeId),w.heap[l.c]?=some (.cells A e (0,0))/\A.size=l.csz/\l.sh+cs.length<=l.csz/\
   ∀(i:Nat) v,cs[i]?=some v->∃v',A[l.sh+i]?=some v'/\VRel μ v v'
 | .iter s pos=>l.sh=0/\w.heap[l.c]?=some (.stringIter s pos)
 | .tab es=> ∃(E:Array MapEntry) (N:Nat),w.heap[l.c]?=some (.map E N)/\es.length=E.toList.length/\
   ∀(i:Nat) x y,es[i]?=some x->E.toList[i]?=some y->VRel μ x.1 y.key/\VRel μ x.2 y.val
 | .dead=>True
structure WRel(μ:Emb)(H:Heap)(w:World):Prop where
 obj: ∀b l o,μ b=some l->H.get b=some o->ObjRel μ w l o
 inj: ∀b1 b2 l1 l2 o1 o2,b1≠b2->μ b1=some l1->μ b2=some l2->H.get b1=some o1->H.get b2=some o2->o1.rw=true->o2.live=true->l1.c≠l2.c
theorem cC{w:World}{c:Nat}{o:Obj}(h:w.heap[c]?=some o):c<w.heap.size:=(a0z.1 h).1
theorem ObjRel.lt{μ:Emb}{w:World}{l:Loc}{o:AObj}(h:ObjRel μ w l o)(N:o.live=true):l.c<w.heap.size:=by
 cases o with
 |cells cs opn ro=>
  cases ro with
  |true=>exact h.2.2.1
  |false=>obtain⟨_,T,e,A,_⟩:=h;exact cC A
 |iter s pos=>exact cC h.2
 |tab es=>obtain⟨U,E,A,_⟩:=h;exact cC A
 |dead=>simp[AObj.live]at N
theorem ObjRel.keep{μ μ':Emb}{w w':World}{l:Loc}{o:AObj}(U: ∀b l,μ b=some l->μ' b=some l)(hs:w.heap.size<=w'.heap.size)
  (hc:o.live=true->w'.heap[l.c]?=w.heap[l.c]?) (h:ObjRel μ w l o):ObjRel μ' w' l o:=by
 cases o with
 |cells cs opn ro=>
  have V:=hc rfl
  cases ro with
  |true=>
   obtain⟨Z,A,T,h4⟩:=h
   refine⟨Z,A,by omega,fun i v hv=>?_⟩
   obtain⟨v',E,hr⟩:=h4 i v hv
   refine⟨v',?_,hr.mono U⟩
   rw[←E]
   simp only[World.cell?,V]
  |false=>
   obtain⟨Z,an,e,hh,A,T,h4⟩:=h
   refine⟨Z,an,e,V.trans hh,A,T,fun i v hv=>?_⟩
   obtain⟨v',E,hr⟩:=h4 i v hv
   exact⟨v',E,hr.mono U⟩
 |iter s pos=>exact⟨h.1,(hc rfl).trans h.2⟩
 |tab es=>
  obtain⟨ao,N,hh,A,T⟩:=h
  refine⟨ao,N,(hc rfl).trans hh,A,fun i x y hx hy=>?_⟩
  obtain⟨r1,r2⟩:=T i x y hx hy
  exact⟨r1.mono U,r2.mono U⟩
 |dead=>trivial
theorem fD{o:AObj}(h:o.rw=true):o.live=true:=by cases o<;>simp_all[AObj.rw,AObj.live]
structure Post(μ:Emb)(H:Heap)(w:World)(μ':Emb)(H':Heap)(w':World):Prop where
 ext: ∀b l,μ b=some l->μ' b=some l
 dom: ∀b l,μ' b=some l->μ b=some l\/(H.next<=b/\b<H'.next)
 grow:w.heap.size<=w'.heap.size
 os:w'.os=w.os
 tape:w'.tape=w.tape
 out:w'.output=w.output
 keep: ∀c,c<w.heap.size->(∀b l o,μ b=some l->H.get b=some o->o.rw=true->l.c≠c)->w'.heap[c]?=w.heap[c]?
 img: ∀b l o,μ' b=some l->H'.get b=some o->o.live=true->w.heap.size<=l.c\/∃b0 l0 o0,μ b0=some l0/\H.get b0=some o0/\o0.live=true/\(o.rw=true->o0.rw=true)/\l0.c=l.c
 wrel:WRel μ' H' w'
theorem Post.refl{μ:Emb}{H:Heap}{w:World}(h:WRel μ H w):Post μ H w μ H w:=
 ⟨fun _ _ h=>h,fun _ _ h=> .inl h,a0a _,rfl,rfl,rfl,fun _ _ _=>rfl,fun b l o A E N=> .inr ⟨b,l,o,A,E,N,id,rfl⟩,h⟩
theorem Post.trans{μ μ1 μ2:Emb}{H H1 N:Heap}{w V Z:World}(h:Post μ H w μ1 H1 V)(k:Post μ1 H1 V μ2 N Z)(h1:H.next<=H1.next)(h2:H1.next<=N.next):
  Post μ H w μ2 N Z:=by
 refine⟨fun b l A=>k.ext b l (h.ext b l A),fun b l A=>?_,a0d h.grow k.grow,k.os.trans h.os,k.tape.trans h.tape,k.out.trans h.out,fun c hc U=>?_,fun b l o A T E=>?_,k.wrel⟩
 ·rcases k.dom b l A with hb1|⟨hb1,hb2⟩
  ·rcases h.dom b l hb1 with hb0|⟨hb3,hb4⟩
   ·exact .inl hb0
   exact .inr ⟨hb3,by omega⟩
  exact .inr ⟨by omega,hb2⟩
 ·rw[k.keep c (a0V hc h.grow) ?_,h.keep c hc U];intro b l o A T E he;rcases h.img b l o A T (fD E) with hh|⟨b0,l0,o0,g1,g2,g3,g5,g4⟩
  ·omega
  exact U b0 l0 o0 g1 g2 (g5 E) (g4.trans he)
 rcases k.img b l o A T E with hh|⟨b0,l0,o0,g1,g2,g3,g5,g4⟩
 ·exact .inl (a0d h.grow hh)
 rcases h.img b0 l0 o0 g1 g2 g3 with hh|⟨b1,l1,o1,e1,e2,e3,e5,e4⟩
 ·exact .inl (g4▸hh)
 exact .inr ⟨b1,l1,o1,e1,e2,e3,fun hx=>e5 (g5 hx),e4.trans g4⟩
theorem WRel.drew{μ:Emb}{H:Heap}{w:World}(h:WRel μ H w):WRel μ H w.drew:=
 ⟨fun b l o A E=>(h.obj b l o A E).keep (fun _ _ h=>h) (a0a _) (fun _=>rfl),h.inj⟩
theorem Post.drew{μ:Emb}{H:Heap}{w:World}(h:WRel μ H w):Post μ H w μ H w.drew:=
 ⟨fun _ _ h=>h,fun _ _ h=> .inl h,a0a _,rfl,rfl,rfl,fun _ _ _=>rfl,fun b l o A E N=> .inr ⟨b,l,o,A,E,N,id,rfl⟩,h.drew⟩
def Emb.set(μ:Emb)(b:Nat)(l:Loc):Emb:=fun k=>if k=b then some l else μ k
theorem Emb.set_same(μ:Emb)(b:Nat)(l:Loc):μ.set b l b=some l:=by simp[Emb.set]
theorem Emb.set_ext{μ:Emb}{b:Nat}(l:Loc)(h:μ b=none): ∀k x,μ k=some x->μ.set b l k=some x:=by
 intro k x A;have:k≠b:=fun e=>by subst e;rw[h]at A;cases A
 simp[Emb.set,this,A]
theorem Emb.set_inv{μ:Emb}{b:Nat}{l:Loc}{k:Nat}{x:Loc}(h:μ.set b l k=some x):(k=b/\x=l)\/(k≠b/\μ k=some x):=by
 unfold Emb.set at h;split at h
 ·rename_i e;injection h with h;exact .inl ⟨e,h.symm⟩
 rename_i e;exact .inr ⟨e,h⟩
theorem ie(w:World)(o:Obj){c:Nat}(h:c<w.heap.size):(w.alloc o).heap[c]?=w.heap[c]?:=by simp only[World.alloc,Array.getElem?_push];rw[if_neg (by omega)]
theorem kV(w:World)(o:Obj):(w.alloc o).heap[w.heap.size]?=some o:=by show(w.heap.push o)[w.heap.size]?=some o;simp
theorem Post.push{μ:Emb}{H:Heap}{w:World}(h:WRel μ H w)(hf:μ H.next=none)(l:Loc)(hl:l.c=w.heap.size)(o:AObj)(co:Obj)
  (ho:ObjRel (μ.set H.next l) (w.alloc co) l o):Post μ H w (μ.set H.next l) (H.push o) (w.alloc co):=by
 have hm:=Emb.set_ext l hf
 refine⟨hm,fun b x E=>?_,by simp,rfl,rfl,rfl,fun c hc _=>ie w co hc,fun b x o' E A hr=>?_,⟨fun b x o' E A=>?_,fun b1 b2 l1 l2 o1 o2 N ax ay T U a2 an=>?_⟩⟩
 ·rcases Emb.set_inv E with⟨rfl,rfl⟩|⟨_,E⟩
  ·exact .inr ⟨a0a _,by simp⟩
  exact .inl E
 ·rcases Emb.set_inv E with⟨rfl,rfl⟩|⟨N,E⟩
  ·exact .inl (by omega)
  rw[Heap.get_push_ne H o (Ne.symm N)]at A;exact .inr ⟨b,x,o',E,A,hr,id,rfl⟩
 ·rcases Emb.set_inv E with⟨rfl,rfl⟩|⟨N,E⟩
  ·rw[Heap.get_push_same]at A;injection A with A;subst A;exact ho
  rw[Heap.get_push_ne H o (Ne.symm N)]at A;have hr:=h.obj b x o' E A;exact hr.keep hm (by simp) (fun a0=>ie w co (hr.lt a0))
 rcases Emb.set_inv ax with⟨e1,f1⟩|⟨ad,V⟩<;>rcases Emb.set_inv ay with⟨e2,f2⟩|⟨ag,Z⟩
 ·exact absurd (e1.trans e2.symm) N
 ·rw[Heap.get_push_ne H o (Ne.symm ag)]at U;have:=(h.obj b2 l2 o2 Z U).lt an;subst f1;omega
 ·rw[Heap.get_push_ne H o (Ne.symm ad)]at T;have:=(h.obj b1 l1 o1 V T).lt (by cases o1<;>simp_all[AObj.rw,AObj.live]);subst f2;omega
 rw[Heap.get_push_ne H o (Ne.symm ad)]at T
 rw[Heap.get_push_ne H o (Ne.symm ag)]at U
 exact h.inj b1 b2 l1 l2 o1 o2 N V Z T U a2 an
def bp(w:World)(c:Nat)(o:Obj):World:={w with heap:=w.heap.setIfInBounds c o}
theorem da(w:World){c k:Nat}(o:Obj)(h:c≠k):(bp w c o).heap[k]?=w.heap[k]?:=by simp[bp,a1w h]
theorem cy(w:World){c:Nat}(o:Obj)(h:c<w.heap.size):(bp w c o).heap[c]?=some o:=by simp[bp,h]
@[simp] theorem setObjAt_size(w:World)(c:Nat)(o:Obj):(bp w c o).heap.size=w.heap.size:=by simp[bp]
theorem Post.put{μ:Emb}{H:Heap}{w:World}(h:WRel μ H w){b:Nat}{l:Loc}{o:AObj}(T:μ b=some l)(Z:H.get b=some o)(U:o.rw=true)
  (N:AObj) (b4:N.rw=true) (V:Obj) (hn:ObjRel μ (bp w l.c V) l N):Post μ H w μ (H.put b N) (bp w l.c V):=by
 refine⟨fun _ _ h=>h,fun _ _ h=> .inl h,by simp,rfl,rfl,rfl,fun c hc an=>da w V (an b l o T Z U),fun k x ox E A a3=>?_,⟨fun k x ox E A=>?_,fun b1 b2 l1 l2 o1 o2 ax ag ai ay a0 a1 a2=>?_⟩⟩
 ·by_cases e:b=k
  ·subst e;rw[T]at E;injection E with E;subst E;exact .inr ⟨b,l,o,T,Z,fD U,fun _=>U,rfl⟩
  rw[Heap.get_put_ne H N e]at A;exact .inr ⟨k,x,ox,E,A,a3,id,rfl⟩
 ·by_cases e:b=k
  ·subst e;rw[T]at E;injection E with E;subst E;rw[Heap.get_put_same]at A;injection A with A;subst A;exact hn
  rw[Heap.get_put_ne H N e]at A;have hx:=h.obj k x ox E A;exact hx.keep (fun _ _ h=>h) (by simp) (fun aw=>da w V (h.inj b k l x o ox e T E Z A U aw))
 have old: ∀k ok lk,μ k=some lk->(H.put b N).get k=some ok->∃oo,H.get k=some oo/\(ok.rw=true->oo.rw=true)/\(ok.live=true->oo.live=true):=by
  intro k ok lk E al;by_cases e:b=k
  ·subst e;exact⟨o,Z,fun _=>U,fun _=>by cases o<;>simp_all[AObj.rw,AObj.live]⟩
  rw[Heap.get_put_ne H N e]at al;exact⟨ok,al,id,id⟩
 obtain⟨p1,q1,r1,_⟩:=old b1 o1 l1 ag ay
 obtain⟨p2,q2,_,r2⟩:=old b2 o2 l2 ai a0
 exact h.inj b1 b2 l1 l2 p1 p2 ax ag ai q1 q2 (r1 a1) (r2 a2)
theorem Post.take{μ:Emb}{H:Heap}{w:World}(h:WRel μ H w){b:Nat}{l:Loc}{o:AObj}(Z:μ b=some l)(ho:H.get b=some o)(hr:o.rw=true)
  (hf:μ H.next=none) (l':Loc) (hl:l'.c=l.c) (V:AObj) (co:Obj) (hn:ObjRel (μ.set H.next l') (bp w l.c co) l' V):
  Post μ H w (μ.set H.next l') ((H.put b .dead).push V) (bp w l.c co):=by
 have hm:=Emb.set_ext l' hf
 have c3:b≠H.next:=fun e=>by subst e;rw[hf]at Z;cases Z
 have get: ∀k,k≠H.next->((H.put b .dead).push V).get k=(H.put b .dead).get k:=fun k E=>Heap.get_push_ne (H.put b .dead) V (Ne.symm E)
 have a9:((H.put b .dead).push V).get H.next=some V:=Heap.get_push_same (H.put b .dead) V
 refine⟨hm,fun k x E=>?_,by simp,rfl,rfl,rfl,fun c hc bk=>da w co (bk b l o Z ho hr),fun k x ox E A a6=>?_,⟨fun k x ox E A=>?_,fun b1 b2 l1 l2 o1 o2 U bl bz a4 a5 ad ag=>?_⟩⟩
 ·rcases Emb.set_inv E with⟨rfl,rfl⟩|⟨_,E⟩
  ·exact .inr ⟨a0a _,by simp⟩
  exact .inl E
 ·rcases Emb.set_inv E with⟨rfl,rfl⟩|⟨U,E⟩
  ·exact .inr ⟨b,l,o,Z,ho,fD hr,fun _=>hr,hl.symm⟩
  rw[get k U]at A;by_cases e:b=k
  ·subst e;rw[Heap.get_put_same]at A;injection A with A;subst A;simp[AObj.live]at a6
  rw[Heap.get_put_ne H _ e]at A;exact .inr ⟨k,x,ox,E,A,a6,id,rfl⟩
 ·rcases Emb.set_inv E with⟨rfl,rfl⟩|⟨U,E⟩
  ·rw[a9]at A;injection A with A;subst A;exact hn
  rw[get k U]at A;by_cases e:b=k
  ·subst e;rw[Heap.get_put_same]at A;injection A with A;subst A;trivial
  rw[Heap.get_put_ne H _ e]at A;have hx:=h.obj k x ox E A;exact hx.keep hm (by simp) (fun ao=>da w co (h.inj b k l x o ox e Z E ho A hr ao))
 have old: ∀k ok,k≠H.next->ok.live=true->((H.put b .dead).push V).get k=some ok->k≠b/\H.get k=some ok:=by
  intro k ok E ao T;rw[get k E]at T;by_cases e:b=k
  ·subst e;rw[Heap.get_put_same]at T;injection T with T;subst T;simp[AObj.live]at ao
  rw[Heap.get_put_ne H _ e]at T;exact⟨Ne.symm e,T⟩
 have N: ∀{x:AObj},x.rw=true->x.live=true:=by intro x hx;cases x<;>simp_all[AObj.rw,AObj.live]
 rcases Emb.set_inv bl with⟨e1,f1⟩|⟨ar,al⟩<;>rcases Emb.set_inv bz with⟨e2,f2⟩|⟨av,an⟩
 ·exact absurd (e1.trans e2.symm) U
 ·obtain⟨n2,g2⟩:=old b2 o2 av ag a5;rw[f1,hl];exact h.inj b b2 l l2 o o2 (Ne.symm n2) Z an ho g2 hr ag
 ·obtain⟨n1,g1⟩:=old b1 o1 ar (N ad) a4;rw[f2,hl];exact fun e=>h.inj b b1 l l1 o o1 (Ne.symm n1) Z al ho g1 hr (N ad) e.symm
 obtain⟨_,g1⟩:=old b1 o1 ar (N ad) a4
 obtain⟨_,g2⟩:=old b2 o2 av ag a5
 exact h.inj b1 b2 l1 l2 o1 o2 U al an g1 g2 ad ag
end Go.R
set_option linter.unusedVariables false
namespace Go.R
section pure_
variable {α β:Type} (P:Program)
theorem cv{s:Sem α}{a:α}(h:aE P s=some a)(w:World):s.run P w= .ok a w:=by
 induction s with
 |pure x=>simp only[aE,a00]at h;subst h;rfl
 |program k ih=>simp only[aE]at h;simp only[Sem.run];exact ih _ h
 |mark m k ih=>simp only[aE]at h;simp only[Sem.run];exact ih h
 |_=>simp[aE]at h
@[simp] theorem aM(x:Sem α)(f:α->Sem β):aE P (x>>=f)=(aE P x).bind fun a=>aE P (f a):=by
 show aE P (x.bind f)=_;induction x with
 |program k ih=>simp only[Sem.bind,aE];exact ih _
 |mark m k ih=>simp only[Sem.bind,aE];exact ih
 |pure a=>rfl
 |_=>rfl
@[simp] theorem bM(a:α):aE P (Pure.pure a:Sem α)=some a:=rfl
@[simp] theorem d7:aE P program=some P:=rfl
@[simp] theorem pureRun_stuck(A:String):aE P (stuck A:Sem α)=none:=rfl
@[simp] theorem pureRun_unsupported(u:Unsupported):aE P (unsupported u:Sem α)=none:=rfl
@[simp] theorem pureRun_goPanic(v:Value):aE P (goPanic v:Sem α)=none:=rfl
@[simp] theorem pureRun_choose(q:Question):aE P (choose q)=none:=rfl
@[simp] theorem pureRun_mark(m:Mark):aE P (mark m)=some ():=rfl
theorem pureRun_ite(c:Prop) [Decidable c](x y:Sem α):aE P (if c then x else y)=if c then aE P x else aE P y:=by split<;>rfl
@[simp] theorem bG(t:TypeId):aE P (underlying t)=P.underlying t:=by unfold underlying;simp only[aM,d7,a0q];cases P.underlying t<;>rfl
@[simp] theorem dJ(t:TypeId):aE P (typeInfo t)=P.info? t:=by unfold typeInfo;simp only[aM,d7,a0q];cases P.info? t<;>rfl
@[simp] theorem cI(t:TypeId):aE P (sizeOf t)=cM P t:=by unfold sizeOf cM;simp only[aM,dJ];cases P.info? t<;>rfl
@[simp] theorem eJ(t:TypeId):aE P (isAgg t)=aggOf P t:=by
 unfold isAgg aggOf;simp only[aM,bG];cases P.underlying t with
 |none=>rfl
 |some d=>cases d<;>rfl
theorem fA(e:RuntimeError):aE P (runtimePanic e:Sem α)=none:=by unfold runtimePanic;cases e<;>simp[newVar,newRow,newObj,aE,elemOf]<;>(intros;split<;>simp[aE])
theorem fK(k:IntKind)(x y:Int)(c:BoundsCode):aE P (boundsPanic k x y c:Sem α)=none:=by unfold boundsPanic;simp[fA,pureRun_ite]
end pure_
section runs
variable {P:Program} (w:World)
theorem aV{t:TypeId}{n:Nat}(h:cM P t=some n):(sizeOf t).run P w= .ok n w:=cv P (by rw[cI];exact h) w
theorem jT{t:TypeId}{b:Bool}(h:aggOf P t=some b):(isAgg t).run P w= .ok b w:=cv P (by rw[eJ];exact h) w
theorem dV{t:TypeId}{i:TypeInfo}(h:P.info? t=some i):(typeInfo t).run P w= .ok i w:=cv P (by rw[dJ];exact h) w
theorem am{t:TypeId}{d:TypeDesc}(h:P.underlying t=some d):(underlying t).run P w= .ok d w:=cv P (by rw[bG];exact h) w
theorem d6{t:TypeId}{z:List Value}(h:cX P t=some z): ∃i v,P.info? t=some i/\i.zero=some v/\v.cells.toList=z/\z.all noA0=true:=by
 unfold cX at h;split at h
 ·rename_i i hi;split at h
  ·rename_i v A;cases hc:v.cells.toList.all noA0 with
   |false=>rw[hc]at h;cases h
   |true=>rw[hc]at h;simp at h;subst h;exact⟨i,v,hi,A,rfl,hc⟩
  cases h
 cases h
theorem dU{t:TypeId}{i:TypeInfo}{v:Value}(hi:P.info? t=some i)(A:i.zero=some v):(zeroValue t).run P w= .ok v w:=by unfold zeroValue;simp[dV w hi,A]
end runs
section mem
variable {P:Program} {μ:Emb} {H:Heap} {w:World}
theorem io(h:WRel μ H w){b o:Nat}{l:Loc}{v:Value}(V:μ b=some l)(A:H.cellAt ⟨b,o,none⟩=some v):
  ∃v',w.cell? ⟨l.c,l.sh+o,none⟩=some v'/\VRel μ v v':=by
 simp only[Heap.cellAt,gr]at A
 split at A
 ·rename_i cs al ro Z;have N:=h.obj b l _ V Z;cases ro with
  |true=>exact N.2.2.2 o v A
  |false=>
   obtain⟨_,ai,e,hh,_,_,U⟩:=N
   obtain⟨v',T,E⟩:=U o v A
   exact⟨v',by simp only[World.cell?,hh];simpa using T,E⟩
 cases A
theorem cL(c o j:Nat):Addr.add ⟨c,o,none⟩ j=⟨c,o+j,none⟩:=by
 unfold Addr.add;split
 ·subst_vars;rfl
 rfl
theorem jo(h:WRel μ H w){b o n:Nat}{l:Loc}{vs:List Value}(hb:μ b=some l)(A:H.loadN ⟨b,o,none⟩ n=some vs):
  ∃ag,(loadCells ⟨l.c,l.sh+o,none⟩ n).run P w= .ok ⟨ag⟩ w/\LRel μ vs ag/\vs.length=n:=by
 simp only[Heap.loadN,cb,cr,bO]at A
 split at A
 ·rename_i cs ay ro hg;cases hq:Nat.beq ((cs.drop o).take n).length n with
  |false=>rw[hq]at A;cases A
  |true=>
   rw[hq]at A;simp only[cond_true,a00]at A
   have N:((cs.drop o).take n).length=n:=a08 hq
   have ao: ∀j,j<n->∃v v',cs[o+j]?=some v/\w.cell? ⟨l.c,l.sh+o+j,none⟩=some v'/\VRel μ v v':=by
    intro j V;have ad:o+j<cs.length:=by rw[a0k,a0w]at N;omega
    have ai:H.cellAt ⟨b,o+j,none⟩=some cs[o+j]:=by simp only[Heap.cellAt,hg,gr];exact a06 ad
    obtain⟨v',hc,hr⟩:=io h hb ai;exact⟨_,v',a06 ad,by rw[←hc,a1l],hr⟩
   have U: ∃f:Nat->Value,∀j,j<n->w.cell? (Addr.add ⟨l.c,l.sh+o,none⟩ j)=some (f j)/\∀v,cs[o+j]?=some v->VRel μ v (f j):=by refine⟨fun j=>(w.cell? ⟨l.c,l.sh+o+j,none⟩).getD undef,fun j V=>?_⟩;obtain⟨v,v',E,T,h3⟩:=ao j V;simp only[cL,T,a0P];refine⟨trivial,fun u Z=>?_⟩;rw[E]at Z;injection Z with Z;subst Z;exact h3
   obtain⟨f,U⟩:=U
   refine⟨(List.range n).map f,run_loadCells w _ n f (fun j V=>(U j V).1),?_,by rw[←A];exact N⟩
   subst A
   refine⟨by rw[N];simp,fun i v v' E T=>?_⟩
   rw[a0x]at E
   split at E
   ·rename_i hi;rw[a0I]at E;simp[hi]at T;subst T;exact(U i hi).2 v E
   cases E
 cases A
theorem fQ(h:WRel μ H w){b o:Nat}{l:Loc}{t:TypeId}{v:Value}(U:μ b=some l)(A:H.loadV P t ⟨b,o,none⟩=some v):
  ∃v',(loadVar t ⟨l.c,l.sh+o,none⟩).run P w= .ok v' w/\VRel μ v v':=by
 unfold Heap.loadV at A
 split at A
 ·rename_i N;split at A
  ·rename_i n hn;split at A
   ·rename_i vs Z;injection A with A;subst A;obtain⟨V,T,E,_⟩:=jo (P:=P) h U Z;refine⟨.agg ⟨V⟩,?_,.agg _ _ E.1 E.2⟩;simp[loadVar,jT w N,aV w hn,T]
   cases A
  cases A
 ·rename_i N;obtain⟨v',hc,hr⟩:=io h U A;refine⟨v',?_,hr⟩;simp[loadVar,jT w N,hc]
 cases A
theorem jl{α:Type}(l:List α)(k:Nat):(Array.mk l)[k]?=l[k]?:=by simp
theorem jg: ∀(cs A:List Value),A.length<=cs.length->(over cs A).length=cs.length
 | [],[],_=>rfl
 | [],_::_,h=>by simp at h
 |_::_,[],_=>rfl
 |c::cs,v::A,h=>by simp only[over,a09];rw[jg cs A (by simpa using h)]
theorem over_get: ∀(cs A:List Value) (i:Nat),A.length<=cs.length->(over cs A)[i]?=if i<A.length then A[i]? else cs[i]?
 | [],[],i,_=>by simp[over]
 | [],_::_,_,h=>by simp at h
 |_::_,[],i,_=>by simp[over]
 |c::cs,v::A,0,_=>by simp[over]
 |c::cs,v::A,i+1,h=>by simp[over,over_get cs A i (by simpa using h)]
theorem bS: ∀(cs:List Value) (o:Nat) (A:List Value),o+A.length<=cs.length->(bm cs o A).length=cs.length
 |cs,0,A,h=>by cases cs<;>exact jg _ _ (by omega)
 | [],o+1,A,h=>by simp[bm]
 |c::cs,o+1,A,h=>by simp only[bm,a09];rw[bS cs o A (by simp at h;omega)]
theorem bx: ∀(cs:List Value) (o:Nat) (A:List Value) (i:Nat),o+A.length<=cs.length->
  (bm cs o A)[i]?=if o<=i/\i<o+A.length then A[i-o]? else cs[i]?
 |cs,0,A,i,h=>by
  have:bm cs 0 A=over cs A:=by cases cs<;>rfl
  rw[this,over_get cs A i (by omega)];simp
 | [],o+1,A,i,h=>by simp at h
 |c::cs,o+1,A,0,h=>by simp[bm]
 |c::cs,o+1,A,i+1,h=>by
  simp only[bm,a1Q];rw[bx cs o A i (by simp at h;omega)];by_cases hc:o<=i/\i<o+A.length
  ·rw[if_pos hc,if_pos (by omega)];congr 1;omega
  rw[if_neg hc,if_neg (by omega)]
theorem db(c:Nat)(e:TypeId): ∀(E:List Value) (w:World) (A:Array Value) (o i:Nat),w.heap[c]?=some (.cells A e (0,0))->
  o+i+E.length<=A.size->E.all Value.oneCell'=true->E≠ []->
  (storeCells ⟨c,o,none⟩ E i).run P w= .ok () (bp w c (.cells ⟨bm A.toList (o+i) E⟩ e (0,0)))
 | [],_,_,_,_,_,_,_,hne=>absurd rfl hne
 |v::E,w,A,o,i,hh,hl,hall,_=>by
  simp only[a1u,a0f]at hall;simp only[a09]at hl;have T:w.cell? ⟨c,o+i,none⟩=some (A[o+i]'(by omega)):=by simp[World.cell?,hh,show o+i<A.size by omega]
  have Z:w.frozen? ⟨c,o+i,none⟩=false:=by simp[World.frozen?,hh]
  have V:w.setCell ⟨c,o+i,none⟩ v=bp w c (.cells (A.setIfInBounds (o+i) v) e (0,0)):=by
   unfold World.setCell bp;congr 1;apply a1B;intro k;by_cases N:c=k
   ·subst N;rw[Array.getElem?_modify,if_pos rfl,hh,a1c,if_pos rfl,if_pos (cC hh)];simp
   simp[Array.getElem?_modify,N,a1w N]
  have h1:(storeCells ⟨c,o,none⟩ (v::E) i).run P w=(storeCells ⟨c,o,none⟩ E (i+1)).run P (bp w c (.cells (A.setIfInBounds (o+i) v) e (0,0))):=by simp only[storeCells,Sem.run_bind,cL];rw[run_store P w _ v _ hall.1,T];simp[Z,V]
  rw[h1];by_cases hv:E=[]
  ·subst hv;simp only[storeCells,Sem.run_pure];congr 3;apply a1B;intro k;simp only[a0e]at hl;rw[a1c];refine Eq.trans ?_ (jl _ _).symm;rw[bx _ _ _ _ (by simp;omega)];by_cases N:o+i=k
   ·subst N;rw[if_pos rfl,if_pos (by omega),if_pos (by simp)];simp
   rw[if_neg N,if_neg (by simp;omega)];simp
  have ad:(bp w c (.cells (A.setIfInBounds (o+i) v) e (0,0))).heap[c]?=some (.cells (A.setIfInBounds (o+i) v) e (0,0)):=cy w _ (cC hh);rw[db c e E _ _ o (i+1) ad (by simp;omega) hall.2 hv];congr 1;have: ∀(x y:Obj),bp (bp w c x) c y=bp w c y:=by intro x y;simp[bp]
  rw[this];congr 2;apply a1B;intro k;refine(jl _ _).trans (Eq.trans ?_ (jl _ _).symm);rw[bx _ _ _ _ (by simp;omega),bx _ _ _ _ (by simp;omega)];by_cases N:o+i=k
  ·subst N;rw[if_neg (by omega),if_pos (by simp)];simp[show o+i<A.size by omega]
  by_cases U:o+(i+1)<=k/\k<o+(i+1)+E.length
  ·rw[if_pos U,if_pos (by simp;omega)];rw[show k-(o+i)=(k-(o+(i+1)))+1 by omega,a1Q]
  rw[if_neg U,if_neg (by simp;omega)];simp[N]
theorem e7(h:WRel μ H w){b o:Nat}{l:Loc}{N A:List Value}{H':Heap}(hb:μ b=some l)(hs:H.storeL ⟨b,o,none⟩ N=some H')(T:LRel μ N A):
  ∃w',(storeCells ⟨l.c,l.sh+o,none⟩ A).run P w= .ok () w'/\Post μ H w μ H' w':=by
 simp only[Heap.storeL,bO,lB,Nat.add_eq]at hs
 split at hs
 ·rename_i cs a5 hg;cases hq:(Nat.ble (o+N.length) cs.length&&N.all Value.oneCell') with
  |false=>rw[hq]at hs;cases hs
  |true=>
   rw[hq]at hs;simp only[cond_true,a00]at hs
   simp only[a0f]at hq
   have V:o+N.length<=cs.length:=a03 hq.1
   obtain⟨r1,E,e,U,r2,r3,r4⟩:=h.obj b l _ hb hg
   have Z:=T.1
   have ar:A.all Value.oneCell'=true:=by
    rw[a0v];intro x hx;obtain⟨i,hi⟩:=List.getElem?_of_mem hx;have al:i<N.length:=by rw[Z];exact(a0n.1 hi).1
    have hr:=T.2 i N[i] x (a06 al) hi;rw[hr.oneCell];exact a0v.1 hq.2 _ (a1r al)
   by_cases an:A=[]
   ·subst an;have hv:N=[]:=by simpa using Z
    subst hv;have ao:bm cs o []=cs:=by apply a19;intro k;rw[bx _ _ _ _ (by simpa using V),if_neg (by simp)]
    subst hs;refine⟨bp w l.c (.cells E e (0,0)),?_,?_⟩
    ·have:bp w l.c (.cells E e (0,0))=w:=by
      unfold bp;congr 1;apply a1B;intro k;by_cases hk:l.c=k
      ·subst hk;rw[a1c,if_pos rfl,if_pos (cC U),U]
      rw[a1w hk]
     rw[this];rfl
    refine Post.put h hb hg rfl _ rfl _ ⟨r1,E,e,cy w _ (cC U),r2,by rw[ao];exact r3,fun i v hi=>r4 i v (by rw[ao]at hi;exact hi)⟩
   subst hs
   refine⟨_,by simpa using db (P:=P) l.c e A w E (l.sh+o) 0 U (by omega) ar an,?_⟩
   refine Post.put h hb hg rfl _ rfl _ ⟨r1,_,e,cy w _ (cC U),?_,?_,?_⟩
   ·rw[←r2];show(bm E.toList (l.sh+o) A).length=_;rw[bS _ _ _ (by simp;omega)];simp
   ·rw[bS _ _ _ V];exact r3
   intro i v hi
   rw[bx _ _ _ _ V]at hi
   have mg: ∀v':Value,(bm E.toList (l.sh+o) A)[l.sh+i]?=some v'->(Array.mk (bm E.toList (l.sh+o+0) A))[l.sh+i]?=some v':=fun v' hv=>(jl _ _).trans hv
   rw[bx _ _ _ _ (by simp;omega)]at mg
   by_cases hc:o<=i/\i<o+N.length
   ·rw[if_pos hc]at hi;rw[if_pos (by omega)]at mg;obtain⟨v',ai,hr⟩:=T.get hi;exact⟨v',mg v' (by rw[←ai];congr 1;omega),hr⟩
   rw[if_neg hc]at hi
   rw[if_neg (by omega)]at mg
   obtain⟨v',ai,hr⟩:=r4 i v hi
   exact⟨v',mg v' (by simpa using ai),hr⟩
 cases hs
theorem cR(h:WRel μ H w)(V:μ H.next=none)(e:TypeId){cs E:List Value}(T:LRel μ cs E)(A:List Value)(N:Option Nat)(ad:N=none->A=[]):
  ∃l,l.c=w.heap.size/\l.sh=0/\l.opn=N/\l.csz=cs.length+A.length/\
  (newRow e ⟨E++A⟩).run P w= .ok ⟨w.heap.size,0,none⟩ (w.alloc (.cells ⟨E++A⟩ e))/\
   Post μ H w (μ.set H.next l) (aQ H cs N) (w.alloc (.cells ⟨E++A⟩ e)):=by
 refine⟨⟨w.heap.size,0,N,cs.length+A.length⟩,rfl,rfl,rfl,rfl,by simp[newRow],?_⟩
 refine Post.push h V _ rfl _ _ ⟨rfl,_,e,kV w _,by simp[T.1],by simp,fun i v hi=>?_⟩
 obtain⟨v',U,Z⟩:=T.get hi
 refine⟨v',?_,Z.mono (Emb.set_ext _ V)⟩
 have:i<E.length:=(a0n.1 U).1
 simp only[a1x,jl]
 rw[a0N this];exact U
end mem
end Go.R
namespace Go.R
def ANRel(μ:Emb):AN->Next->Prop
 | .val v,.value v'=>VRel μ v v'
 | .skip,.skip=>True
 | .enter f args,.enter f' args'=>f=f'/\LRel μ args args'.toList
 |_,_=>False
theorem hL(bs:ByteArray): ∀(n i:Nat) (r:List UInt8),bs.size-i=n->ByteArray.toList.loop bs i r=r.reverse++bs.data.toList.drop i:=by
 intro n;induction n with
 |zero=>
  intro i r h
  rw[ByteArray.toList.loop,if_neg (by omega),a1U (by simp only[a29,ByteArray.size_data];omega),a0B]
 |succ n ih=>
  intro i r h
  have hi:i<bs.size:=by omega
  rw[ByteArray.toList.loop,if_pos hi,ih (i+1) _ (by omega)]
  have A:i<bs.data.toList.length:=by simpa using hi
  rw[a0R A]
  simp[ByteArray.get!,hi]
theorem cT(bs:ByteArray):bs.toList=bs.data.toList:=by unfold ByteArray.toList;rw[hL bs _ 0 [] rfl];simp
section
variable {P:Program} {μ:Emb}
theorem dh{ρ ρ':Operand->Value}{o:Oper}{H H':Heap}{r:AN}(h:bD P ρ o H=some (r,H'))(hs: ∀cs b,o.op≠ .select cs b)
  (V: ∀x∈o.op.operands,VRel μ (ρ x) (ρ' x)):H'=H/\∃v v',r= .val v/\(∀w,(execOp ρ' o).run P w= .ok (.value v') w)/\VRel μ v v':=by
 unfold bD at h
 cases E:o.op.operands.toList.all fun x=>iB (ρ x) with
 |false=>rw[E]at h;cases h
 |true=>
  rw[E]at h
  have T:execOp ρ' o=execOp ρ o:=execOp_congr o hs fun x N=>(V x N).eq1 (a0v.1 E x (by simpa using N))
  simp only[cond_true]at h
  split at h
  ·rename_i v U;cases A:noA2 v with
   |false=>rw[A]at h;cases h
   |true=>
    rw[A]at h;simp only[cond_true,a00,a04]at h
    obtain⟨rfl,rfl⟩:=h
    exact⟨rfl,v,v,rfl,fun w=>by rw[T];exact cv P U w,VRel.refl2 A⟩
  cases h
theorem jp{s:Sem Value}{H H':Heap}{r:AN}(h:lift P s H=some (r,H')):H'=H/\∃v,r= .val v/\aE P s=some v:=by
 unfold lift at h;split at h
 ·rename_i v A;simp only[a00,a04]at h;exact⟨h.2.symm,v,h.1.symm,A⟩
 cases h
theorem intBin_sound{op:BinOp}{k:IntKind}{a b:Int}{v:Value}(h:j3 op k a b=some v)(t:TypeId)(w:World):
  (binOp op t (.int k a) (.int k b)).run P w= .ok v w/\noA0 v=true:=by
 cases op<;>simp only[j3,a00,reduceCtorEq]at h
 case quo=>
  cases A:(b==0) with
  |true=>rw[A]at h;cases h
  |false=>
   rw[A]at h;simp only[cond_false,a00]at h;subst h
   have E: ¬b=0:=by simpa using A
   simp[binOp_quo,Op.intDiv,E,noA0]
 case rem=>
  cases A:(b==0) with
  |true=>rw[A]at h;cases h
  |false=>
   rw[A]at h;simp only[cond_false,a00]at h;subst h
   have E: ¬b=0:=by simpa using A
   simp[binOp_rem,Op.intDiv,E,noA0]
 all_goals subst h
 case add=>simp[binOp_add,Op.intArith,noA0]
 case sub=>simp[binOp_sub,Op.intArith,noA0]
 case mul=>simp[binOp_mul,Op.intArith,noA0]
 case and=>simp[binOp_and,intBits_and,noA0,aR]
 case or=>simp[binOp_or,intBits_or,noA0,aR]
 case xor=>simp[binOp_xor,intBits_xor,noA0,aR]
 case andNot=>simp[binOp_andNot,intBits_andNot,noA0,aR]
 case eql=>simp[binOp_eql,noA0]
 case neq=>simp[binOp_neq,noA0]
 case lss=>simp[binOp_lss,noA0]
 case leq=>simp[binOp_leq,noA0]
 case gtr=>simp[binOp_gtr,noA0]
 case geq=>simp[binOp_geq,noA0]
theorem shBin_sound{op:BinOp}{k E:IntKind}{a b:Int}{v:Value}(h:shBin op k a b=some v)(t:TypeId)(w:World):
  (binOp op t (.int k a) (.int E b)).run P w= .ok v w/\noA0 v=true:=by
 cases op<;>simp only[shBin,reduceCtorEq]at h
 all_goals
  cases b with
  |negSucc n=>simp[shiftN]at h
  |ofNat n=>
   simp only[shiftN,a00]at h;subst h
   have A: ¬((n:Int)<0):=by omega
   simp[binOp_shl,binOp_shr,Op.shift,A,noA0,Nat.min_def]
theorem i6{op:BinOp}{t:TypeId}{a b:ByteArray}{v:Value}(h:strOp op a b=some v)(w:World):
  (binOp op t (.string a) (.string b)).run P w= .ok v w/\noA0 v=true:=by
 have N:binOp op t (.string a) (.string b)=Op.stringOp op a b:=by cases op<;>rfl
 rw[N]
 unfold strOp at h
 split at h
 ·injection h with h;subst h;simp[Op.stringOp,cT,dm,noA0]
 ·injection h with h;subst h;simp[Op.stringOp,cT,dm,noA0]
 ·injection h with h;subst h;simp[Op.stringOp,cT,noA0]
 ·injection h with h;subst h;simp[Op.stringOp,cT,dm,noA0]
 ·injection h with h;subst h;simp[Op.stringOp,cT,dm,noA0]
 ·injection h with h;subst h;simp[Op.stringOp,cT,noA0]
 ·simp only[dz,bO]at h;cases A:Nat.ble (a.data.toList++b.data.toList).length 1099511627776 with
  |false=>rw[A]at h;cases h
  |true=>
   rw[A]at h;simp only[cond_true,a00]at h;subst h
   have E:=a03 A
   simp only[a05,a29,ByteArray.size_data]at E
   refine⟨?_,rfl⟩
   have T: ¬(((a.size+b.size:Nat):Int)>IntKind.i64.max):=by rw[IntKind.max_i64];omega
   simp only[Op.stringOp,if_neg T,Sem.run_pure]
   congr 2
 cases h
theorem jY{a:Option Addr}{v':Value}(h:VRel μ (.pointer a) v'): ∃A,v'= .pointer A/\A.isNone=a.isNone:=by
 cases h with
 |atom _ h0=>exact⟨a,rfl,rfl⟩
 |ptr b o l hb=>exact⟨_,rfl,rfl⟩
theorem cS{a:Option Addr}{n k:Nat}{v':Value}(h:VRel μ (.slice a n k) v'): ∃A E,v'= .slice A n E/\A.isNone=a.isNone:=by
 cases h with
 |atom _ h0=>exact⟨a,k,rfl,rfl⟩
 |sliceC b o n k l hb ho=>exact⟨_,_,rfl,rfl⟩
 |sliceO b o o' n k E e l hb ho h1 h2 h3 h4=>exact⟨_,_,rfl,rfl⟩
 |sliceZ b o a l hb=>exact⟨_,_,rfl,rfl⟩
theorem jZ{a:Option Nat}{v':Value}(h:VRel μ (.map a) v'): ∃A,v'= .map A/\A.isNone=a.isNone:=by
 cases h with
 |atom _ h0=>exact⟨a,rfl,rfl⟩
 |map b l hb=>exact⟨_,rfl,rfl⟩
theorem dX{t:TypeId}{x y:Value}{w:World}{b:Bool}(h: ∀d,(Op.equalIn (d+1) t x y).run P w= .ok b w):(Op.equal t x y).run P w= .ok b w:=h 9999
theorem jk{t:TypeId}{x y U V:Value}{b:Bool}(h:nilEq P t x y=some b)(N:VRel μ x U)(T:VRel μ y V)(w:World):
  (Op.equal t U V).run P w= .ok b w/\(∀op u v,eqGuard op t u v U V=pure ())/\(∀op,op= .eql\/op= .neq->binOp op t U V=(match op with
   | .eql=>do pure (.bool (←Op.equal t U V))
   |_=>do pure (.bool (!(←Op.equal t U V))))):=by
 unfold nilEq at h
 split at h
 ·rename_i e b0 E;obtain rfl:=N.eq0 rfl;obtain⟨b',rfl,hb⟩:=jY T;injection h with h;subst h;refine⟨?_,fun op u v=>by cases op<;>rfl,fun op A=>by rcases A with rfl|rfl<;>rfl⟩;exact dX fun d=>by simp[Op.equalIn,am w E,hb]
 ·rename_i e a0 E;obtain rfl:=T.eq0 rfl;obtain⟨Z,rfl,ha⟩:=jY N;injection h with h;subst h;refine⟨?_,fun op u v=>by cases op<;>rfl,fun op A=>by rcases A with rfl|rfl<;>rfl⟩;exact dX fun d=>by cases Z<;>simp[Op.equalIn,am w E,←ha]
 ·rename_i e n k b0 n2 k2 E;obtain⟨rfl,rfl,rfl⟩:=N.sliceNil_inv;obtain⟨b',k',rfl,hb⟩:=cS T;injection h with h;subst h;refine⟨?_,fun op u v=>by cases op<;>rfl,fun op A=>by rcases A with rfl|rfl<;>rfl⟩;exact dX fun d=>by simp[Op.equalIn,am w E,hb]
 ·rename_i e a0 n k n2 k2 E;obtain⟨rfl,rfl,rfl⟩:=T.sliceNil_inv;obtain⟨Z,k',rfl,ha⟩:=cS N;injection h with h;subst h;refine⟨?_,fun op u v=>by cases op<;>rfl,fun op A=>by rcases A with rfl|rfl<;>rfl⟩;exact dX fun d=>by cases Z<;>simp[Op.equalIn,am w E,←ha]
 ·rename_i e1 e2 b0 E;obtain rfl:=N.eq0 rfl;obtain⟨b',rfl,hb⟩:=jZ T;injection h with h;subst h;refine⟨?_,fun op u v=>by cases op<;>rfl,fun op A=>by rcases A with rfl|rfl<;>rfl⟩;exact dX fun d=>by simp[Op.equalIn,am w E,hb]
 ·rename_i e1 e2 a0 E;obtain rfl:=T.eq0 rfl;obtain⟨Z,rfl,ha⟩:=jZ N;injection h with h;subst h;refine⟨?_,fun op u v=>by cases op<;>rfl,fun op A=>by rcases A with rfl|rfl<;>rfl⟩;exact dX fun d=>by cases Z<;>simp[Op.equalIn,am w E,←ha]
 ·rename_i ps rs va E;obtain rfl:=N.eq0 rfl;obtain rfl:=T.eq0 rfl;injection h with h;subst h;refine⟨?_,fun op u v=>by cases op<;>rfl,fun op A=>by rcases A with rfl|rfl<;>rfl⟩;exact dX fun d=>by simp[Op.equalIn,am w E]
 ·rename_i ps rs va fn xs ys E;obtain rfl:=N.eq0 rfl;obtain⟨ar,av,rfl,_,_⟩:=T.func_inv;injection h with h;subst h;refine⟨?_,fun op u v=>by cases op<;>rfl,fun op A=>by rcases A with rfl|rfl<;>rfl⟩;exact dX fun d=>by simp[Op.equalIn,am w E]
 ·rename_i ps rs va fn xs ys E;obtain rfl:=T.eq0 rfl;obtain⟨ar,av,rfl,_,_⟩:=N.func_inv;injection h with h;subst h;refine⟨?_,fun op u v=>by cases op<;>rfl,fun op A=>by rcases A with rfl|rfl<;>rfl⟩;exact dX fun d=>by simp[Op.equalIn,am w E]
 cases h
theorem part_rel{t:TypeId}{cs A:Array Value}{off:Nat}{v:Value}(T:LRel μ cs.toList A.toList)(h:aE P (part t cs off)=some v):
  ∃v',aE P (part t A off)=some v'/\VRel μ v v':=by
 unfold part at h⊢
 simp only[aM,eJ]at h⊢
 cases N:aggOf P t with
 |none=>rw[N]at h;simp at h
 |some g=>
  rw[N]at h
  cases g with
  |true=>
   simp only[a0q,if_true,aM,cI]at h⊢
   cases hs:cM P t with
   |none=>rw[hs]at h;simp at h
   |some n=>
    rw[hs]at h
    simp only[a0q,bM,a00]at h⊢
    subst h
    refine⟨_,rfl,?_⟩
    have:=(T.take (off+n)).drop off
    have ex: ∀c:Array Value,(c.extract off (off+n)).toList=(c.toList.take (off+n)).drop off:=fun c=>by simp[a2e]
    exact .agg _ _ (by rw[ex,ex];exact this.1) (by rw[ex,ex];exact this.2)
  |false=>
   simp only[a0q,a0J,if_false]at h⊢
   cases hc:cs[off]? with
   |none=>rw[hc]at h;simp at h
   |some u=>
    rw[hc]at h
    simp only[bM,a00]at h;subst h
    obtain⟨v',U,E⟩:=T.get (i:=off) (v:=u) (by simpa using hc)
    refine⟨v',?_,E⟩
    have:A[off]?=some v':=by simpa using U
    rw[this];rfl
theorem field_rel{t:TypeId}{x N:Value}{f:Nat}{v:Value}(U:VRel μ x N)(h:aE P (Instr.field t x f)=some v):
  ∃v',aE P (Instr.field t N f)=some v'/\VRel μ v v':=by
 unfold Instr.field at h⊢
 simp only[aM,bG]at h⊢
 cases E:P.underlying t with
 |none=>rw[E]at h;simp at h
 |some d=>
  rw[E]at h
  simp only[a0q]at h⊢
  cases d with
  |struct fields=>
   simp only at h⊢
   cases A:fields[f]? with
   |none=>rw[A]at h;simp at h
   |some fd=>
    rw[A]at h
    simp only[aM]at h⊢
    cases x with
    |agg cs=>
     obtain⟨V,rfl,T⟩:=U.agg_inv
     simp only[asAgg,bM,a0q]at h⊢
     exact part_rel T h
    |_=>simp[asAgg]at h
  |_=>simp at h
theorem index_rel{t:TypeId}{x T i i':Value}{v:Value}(V:VRel μ x T)(hi:VRel μ i i')(E: ∀s,x≠ .string s)(h:aE P (Instr.index t x i)=some v):
  ∃v',aE P (Instr.index t T i')=some v'/\VRel μ v v':=by
 cases i with
 |int k n=>
  obtain rfl:=hi.int_inv
  unfold Instr.index at h⊢
  simp only[asIntOf,aM,bM,a0q,bG]at h⊢
  cases N:P.underlying t with
  |none=>rw[N]at h;simp at h
  |some d=>
   rw[N]at h
   simp only[a0q]at h⊢
   cases d with
   |array len e=>
    cases x with
    |agg cs=>
     obtain⟨Z,rfl,U⟩:=V.agg_inv
     simp only at h⊢
     by_cases A:0<=n/\n<(len:Int)
     ·rw[if_pos A]at h⊢;simp only[aM,cI]at h⊢;cases hs:cM P e with
      |none=>rw[hs]at h;simp at h
      |some sz=>rw[hs]at h;simp only[a0q]at h⊢;exact part_rel U h
     rw[if_neg A,fK]at h;cases h
    |_=>simp at h
   |string=>
    cases x with
    |string s=>exact absurd rfl (E s)
    |_=>simp at h
   |_=>simp at h
 |pointer a=>cases a<;>simp[Instr.index,asIntOf]at h
 |_=>simp[Instr.index,asIntOf]at h
theorem gx: ∀(l l':List Value) (s off:Nat) (A T:Array Value),LRel μ l l'->LRel μ A.toList T.toList->
  LRel μ ((l.zipIdx s).foldl (fun cs p=>cs.setIfInBounds (off+p.2) p.1) A).toList ((l'.zipIdx s).foldl (fun cs p=>cs.setIfInBounds (off+p.2) p.1) T).toList
 | [],l',s,off,A,T,h,hA=>by rw[h.nil_left];exact hA
 |v::l,l',s,off,A,T,h,hA=>by
  obtain⟨v',t',rfl,Z,V⟩:=h.cons_left;simp only[List.zipIdx_cons,List.foldl_cons];refine gx l t' (s+1) off _ _ V ⟨by simpa using hA.1,fun i x x' E N=>?_⟩;simp only[Array.toList_setIfInBounds,List.getElem?_set]at E N;have U:=hA.1;by_cases hi:off+s=i
  ·rw[if_pos hi]at E N;split at E
   ·rename_i ai;rw[if_pos (by omega)]at N;injection E with E;injection N with N;subst E N;exact Z
   cases E
  rw[if_neg hi]at E N;exact hA.2 i x x' E N
theorem iQ{E:Nat->Option (Nat×Nat)}: ∀(ps ps':List (Nat×Value)) (A A':Array Value) (r:Array Value),ps.length=ps'.length->
  (∀(i:Nat) x N,ps[i]?=some x->ps'[i]?=some N->x.1=N.1/\VRel μ x.2 N.2)->LRel μ A.toList A'.toList->Instr.fill E A ps=some r->
  ∃r',Instr.fill E A' ps'=some r'/\LRel μ r.toList r'.toList
 | [],ps',A,A',r,hl,_,hA,h=>by have:ps'=[]:=a0t hl.symm;subst this;simp only[Instr.fill,a00]at h;subst h;exact⟨A',rfl,hA⟩
 |(i,v)::ps,ps',A,A',r,hl,hp,hA,h=>by
  cases ps' with
  |nil=>simp at hl
  |cons N ps'=>
   obtain⟨i',v'⟩:=N
   obtain⟨hi,hv⟩:=hp 0 (i,v) (i',v') rfl rfl
   simp only at hi hv;subst hi
   simp only[Instr.fill]at h⊢
   cases U:E i with
   |none=>rw[U]at h;cases h
   |some os=>
    obtain⟨off,size⟩:=os
    rw[U]at h
    simp only at h⊢
    have hc:=hv.cells
    have Z:v'.cells.size=v.cells.size:=by have:=hc.1;simpa using this.symm
    have V:A'.size=A.size:=by have:=hA.1;simpa using this.symm
    rw[Z,V]
    split at h
    ·cases h
    rename_i T
    rw[if_neg T]
    refine iQ ps ps' _ _ r (by simpa using hl) (fun j x N h1 h2=>hp (j+1) x N (by simpa using h1) (by simpa using h2)) ?_ h
    have:=gx v.cells.toList v'.cells.toList 0 off A A' hc hA
    have e: ∀(u:Value) (B:Array Value),Array.foldl (fun cs x=>cs.setIfInBounds (off+x.snd) x.fst) B u.cells.zipIdx=List.foldl (fun cs p=>cs.setIfInBounds (off+p.snd) p.fst) B u.cells.toList.zipIdx:=fun u B=>by rw[←Array.foldl_toList,Array.toList_zipIdx]
    exact(e v A▸e v' A'▸this:LRel μ (Array.foldl (fun cs x=>cs.setIfInBounds (off+x.snd) x.fst) A v.cells.zipIdx).toList (Array.foldl (fun cs x=>cs.setIfInBounds (off+x.snd) x.fst) A' v'.cells.zipIdx).toList)
end
end Go.R
namespace Go.R
section
variable {P:Program} {μ:Emb}
theorem build_rel{t:TypeId}{ps ps':Array (Nat×Value)}{v:Value}(V:ps.toList.length=ps'.toList.length)
  (hp: ∀(i:Nat) x x',ps.toList[i]?=some x->ps'.toList[i]?=some x'->x.1=x'.1/\VRel μ x.2 x'.2)
  (hz:(cX P t).isSome=true) (h:aE P (Instr.build t ps)=some v):
  ∃v',aE P (Instr.build t ps')=some v'/\VRel μ v v':=by
 unfold Instr.build at h⊢
 have al:aE P (zeroValue t)=(P.info? t).bind (·.zero):=by
  unfold zeroValue;simp only[aM,dJ];cases hi:P.info? t with
  |none=>rfl
  |some i=>simp only[a0q];cases i.zero<;>rfl
 simp only[aM,al,bG]at h⊢
 cases hi:(P.info? t).bind (·.zero) with
 |none=>rw[hi]at h;simp at h
 |some z=>
  rw[hi]at h
  have T:LRel μ z.cells.toList z.cells.toList:=by obtain⟨zl,ai⟩:=Option.isSome_iff_exists.1 hz;obtain⟨i,v0,h1,h2,h3,h4⟩:=d6 (P:=P) ai;rw[h1]at hi;simp only[a0q,h2,a00]at hi;subst hi;exact LRel.refl0 (by rw[h3];exact h4)
  simp only[a0q]at h⊢
  cases hu:P.underlying t with
  |none=>rw[hu]at h;simp at h
  |some d=>
   rw[hu]at h
   simp only[a0q]at h⊢
   cases d with
   |struct fields=>
    simp only[aM]at h⊢
    cases Z:aE P (fields.mapM fun f=>do let y ←sizeOf f.type;Pure.pure (f.offset,y)) with
    |none=>rw[Z]at h;simp at h
    |some places=>
     rw[Z]at h
     simp only[a0q]at h⊢
     cases E:Instr.fill (fun x=>places[x]?) z.cells ps.toList with
     |none=>rw[E]at h;simp at h
     |some r=>
      rw[E]at h
      simp only[bM,a00]at h
      subst h
      obtain⟨U,N,A⟩:=iQ _ _ _ _ _ V hp T E
      exact⟨.agg U,by rw[N];rfl,.agg _ _ A.1 A.2⟩
   |array n e=>
    simp only[aM,cI]at h⊢
    cases hs:cM P e with
    |none=>rw[hs]at h;simp at h
    |some sz=>
     rw[hs]at h
     simp only[a0q]at h⊢
     cases E:Instr.fill (fun i=>some (i*sz,sz)) z.cells ps.toList with
     |none=>rw[E]at h;simp at h
     |some r=>
      rw[E]at h
      simp only[bM,a00]at h
      subst h
      obtain⟨U,N,A⟩:=iQ _ _ _ _ _ V hp T E
      exact⟨.agg U,by rw[N];rfl,.agg _ _ A.1 A.2⟩
   |_=>simp at h
theorem eF{v v':Value}{n:Nat}(h:iE v=some n)(A:VRel μ v v'): ∃k,v'= .int k (n:Int):=by
 unfold iE at h;split at h
 ·rename_i k m;injection h with h;subst h;exact⟨k,A.int_inv⟩
 cases h
theorem aField_sound{s:TypeId}{x T:Value}{f:Nat}{v:Value}(h:gH P s x f=some v)(hx:VRel μ x T):
  ∃v',(∀w,(Instr.fieldAt s T f).run P w= .ok v' w)/\VRel μ v v':=by
 unfold gH at h
 split at h
 ·rename_i fs b o hu;split at h
  ·rename_i E V;split at h
   ·rename_i n Z;cases A:Nat.beq n 0 with
    |true=>rw[A]at h;cases h
    |false=>
     rw[A]at h;simp only[cond_false,a00]at h;subst h
     obtain⟨l,U,rfl⟩:=hx.ptr_inv
     have N: ¬n=0:=fun e=>by subst e;cases A
     refine⟨_,fun w=>?_,a1l l.sh o E.offset▸VRel.ptr b (o+E.offset) l U⟩
     simp[Instr.fieldAt,am w hu,V,Instr.sureAddr,fieldPlace,aV w Z,N,cL,a1l]
   cases h
  cases h
 cases h
theorem iF{t:TypeId}{x x' i i':Value}{v:Value}(h:cm P t x i=some v)(hx:VRel μ x x')(hi:VRel μ i i'):
  ∃v',(∀w,(Instr.indexAt t x' i').run P w= .ok v' w)/\VRel μ v v':=by
 unfold cm at h
 split at h
 ·rename_i e b o n k j N V;obtain⟨ik,rfl⟩:=eF V hi;split at h
  ·rename_i sz hs;cases A:(Nat.ble (j+1) n&&Nat.ble n k) with
   |false=>rw[A]at h;cases h
   |true=>
    rw[A]at h;simp only[cond_true,a00]at h;subst h
    simp only[a0f]at A
    have h1:j+1<=n:=a03 A.1
    have h2:n<=k:=a03 A.2
    obtain⟨l,U,hc⟩:=hx.slice_inv
    have E:VRel μ (.pointer (some ⟨b,o+j*sz,none⟩)) (.pointer (some ⟨l.c,l.sh+o+j*sz,none⟩)):=
     a1l l.sh o (j*sz)▸VRel.ptr b (o+j*sz) l U
    have T:(j:Int)<(n:Int):=by omega
    rcases hc with⟨_,rfl⟩|⟨e',o',k',_,rfl,_,_,Z,_⟩|⟨hz,_,_⟩
    rotate_right
    ·omega
    ·refine⟨_,fun w=>?_,E⟩;simp[Instr.indexAt,asIntOf,am w N,aV w hs,cL];omega
    have ho:o'=l.sh+o:=Z (by omega)
    subst ho
    refine⟨_,fun w=>?_,E⟩
    simp[Instr.indexAt,asIntOf,am w N,aV w hs,cL]
    omega
  cases h
 ·rename_i n e b o j N V;obtain⟨ik,rfl⟩:=eF V hi;split at h
  ·rename_i sz hs;cases A:Nat.ble (j+1) n with
   |false=>rw[A]at h;cases h
   |true=>
    rw[A]at h;simp only[cond_true,a00]at h;subst h
    have h1:j+1<=n:=a03 A
    obtain⟨l,U,rfl⟩:=hx.ptr_inv
    refine⟨_,fun w=>?_,a1l l.sh o (j*sz)▸VRel.ptr b (o+j*sz) l U⟩
    have T:(j:Int)<(n:Int):=by omega
    have h0:(0:Int)<=(j:Int)/\(j:Int)<(n:Int):=⟨by omega,T⟩
    simp only[Instr.indexAt,asIntOf,am w N,aV w hs,cL,Instr.sureAddr,Sem.run_bind,Sem.run_pure,Result.andThen_ok,if_pos h0,a1I]
  cases h
 cases h
theorem strIndex_run{t:TypeId}{s:ByteArray}{k:IntKind}{j:Nat}{b:UInt8}(T:P.underlying t=some .string)(A:s.data.toList[j]?=some b)(w:World):
  (Instr.index t (.string s) (.int k (j:Int))).run P w= .ok (.int .u8 b.toNat) w:=by
 have E:j<s.size:=by have:=(a0n.1 A).1;simpa using this
 have N:s[j]?=some b:=by rw[getElem?_pos s j E];have:=(a0n.1 A).2;rw[←this];rfl
 simp[Instr.index,asIntOf,am w T,N]
theorem iT{ops:Array Operand}{ρ ρ':Operand->Value}(h: ∀x∈ops,VRel μ (ρ x) (ρ' x)):LRel μ (ops.map ρ).toList (ops.map ρ').toList:=by refine⟨by simp,fun i v v' E N=>?_⟩;simp only[Array.toList_map,a1f,a1V]at E N;obtain⟨x,T,rfl⟩:=E;obtain⟨y,A,rfl⟩:=N;rw[T]at A;injection A with A;subst A;exact h x (by simpa using a0l T)
theorem lF{t:TypeId}{x T:Value}{f:Nat}{v:Value}(h:gc P t x f=some v)(hx:VRel μ x T):
  ∃v',(∀w,(Instr.field t T f).run P w= .ok v' w)/\VRel μ v v':=by
 unfold gc at h
 split at h
 ·rename_i cs;split at h
  ·rename_i g n off A;have hp:aE P (Instr.field t (.agg cs) f)=some v:=by
    unfold fieldAt? at A;split at A
    ·rename_i fs hu;split at A
     ·rename_i U E;split at A
      ·rename_i V n' Z hn;simp only[a00,a04]at A;obtain⟨rfl,rfl,rfl⟩:=A;unfold Instr.field part;simp only[aM,bG,hu,a0q,E,asAgg,bM,eJ,Z];unfold partL at h;cases V with
       |true=>
        simp only[cond_true,a00,cb,cr]at h
        simp only[if_true,aM,cI,hn,a0q,bM,a00]
        subst h
        congr 1
        apply Array.ext'
        simp
       |false=>
        simp only[cond_false,gr]at h
        simp only[a0J,if_false]
        have hc:cs[U.offset]?=some v:=by simpa using h
        rw[hc];rfl
      cases A
     cases A
    cases A
   obtain⟨v',N,hr⟩:=field_rel hx hp;exact⟨v',fun w=>cv P N w,hr⟩
  cases h
 cases h
theorem cw{r:Option Value}{H H':Heap}{n:AN}(h:ovl r H=some (n,H')):H'=H/\∃v,r=some v/\n= .val v:=by
 unfold ovl at h;split at h
 ·rename_i v;simp only[a00,a04]at h;exact⟨h.2.symm,v,rfl,h.1.symm⟩
 cases h
theorem gR{op:BinOp}{r:Option Bool}{H H':Heap}{n:AN}(h:nilBin op r H=some (n,H')):
  H'=H/\∃b,r=some b/\((op= .eql/\n= .val (.bool b))\/(op= .neq/\n= .val (.bool (!b)))):=by
 unfold nilBin at h
 split at h
 ·rename_i b;split at h
  ·simp only[a00,a04]at h;exact⟨h.2.symm,b,rfl,.inl ⟨rfl,h.1.symm⟩⟩
  ·simp only[a00,a04]at h;exact⟨h.2.symm,b,rfl,.inr ⟨rfl,h.1.symm⟩⟩
  cases h
 cases h
theorem iY{ρ ρ':Operand->Value}{o:Oper}{H H':Heap}{r:AN}(hk:aX o.op=true)
  (N: ∀x∈o.op.operands,VRel μ (ρ x) (ρ' x)) (h:aop P ρ o H=some (r,H')):
  H'=H/\∃v v',r= .val v/\(∀w,(execOp ρ' o).run P w= .ok (.value v') w)/\VRel μ v v':=by
 obtain⟨bz,op,bl,pos,after,a6⟩:=o
 cases op<;>simp only[aX,a0J]at hk
 case move x=>
  simp only[aop,a00,a04]at h
  obtain⟨rfl,rfl⟩:=h
  exact⟨rfl,_,ρ' x,rfl,fun w=>rfl,N x (by simp[Op.operands])⟩
 case assign x=>
  simp only[aop,a00,a04]at h
  obtain⟨rfl,rfl⟩:=h
  exact⟨rfl,_,ρ' x,rfl,fun w=>rfl,N x (by simp[Op.operands])⟩
 case pick c a b=>
  simp only[aop,fb]at h
  split at h
  ·rename_i t ht;simp only[a00,a04]at h;obtain⟨rfl,rfl⟩:=h;have hc:ρ' c= .bool t:=by have:=N c (by simp[Op.operands]);rw[ht]at this;exact this.bool_inv
   refine⟨rfl,_,(if t then ρ' a else ρ' b),rfl,fun w=>?_,?_⟩
   ·simp[execOp,hc,asBool]
   cases t
   ·exact N b (by simp[Op.operands])
   exact N a (by simp[Op.operands])
  cases h
 case build t parts=>
  simp only[aop,fN]at h
  split at h
  case h_2=>cases h
  rename_i z hz
  obtain⟨rfl,v,rfl,A⟩:=jp h
  obtain⟨v',T,U⟩:=build_rel (μ:=μ) (ps:=parts.map fun p=>(p.1,ρ p.2)) (ps':=parts.map fun(i,x)=>(i,ρ' x)) (by simp) (fun i x x' Z h2=>by
   simp only[Array.toList_map,a1f,a1V]at Z h2;obtain⟨y,hy,rfl⟩:=Z;obtain⟨z,hz,rfl⟩:=h2;rw[hy]at hz;injection hz with hz;subst hz;refine⟨rfl,N _ ?_⟩;have:=a0l hy;simp only[Op.operands,List.mem_toArray,a0r];exact⟨y,this,rfl⟩) (by rw[hz];rfl) A
  exact⟨rfl,v,v',rfl,fun w=>by simp only[execOp,Sem.run_bind,cv P T w,Result.andThen_ok,Sem.run_pure],U⟩
 case nilCheck x=>
  simp only[aop,opNil]at h
  split at h
  ·rename_i a ha;simp only[a00,a04]at h;obtain⟨rfl,rfl⟩:=h;have E:=N x (by simp[Op.operands]);rw[ha]at E;obtain⟨_,a',a1⟩:=E.ptr_some;exact⟨rfl,_,ρ' x,rfl,fun w=>by simp[execOp,a1],E⟩
  ·rename_i f a c ha;simp only[a00,a04]at h;obtain⟨rfl,rfl⟩:=h;have E:=N x (by simp[Op.operands]);rw[ha]at E;obtain⟨a',c',a2,_,_⟩:=E.func_inv;exact⟨rfl,_,ρ' x,rfl,fun w=>by simp[execOp,a2],E⟩
  cases h
 case binOp op t x y yt=>
  have E:=N x (by simp[Op.operands])
  have hy:=N y (by simp[Op.operands])
  simp only[aop,aBin]at h
  split at h
  ·rename_i k a ha;rw[ha]at E;unfold binInt at h;split at h
   ·rename_i k' b V;rw[V]at hy;obtain⟨rfl,v,A,rfl⟩:=cw h;have ao: ∀w,(binOp op t (.int k a) (.int k' b)).run P w= .ok v w/\noA0 v=true:=by
     intro w;cases hs:jr op with
     |true=>rw[hs]at A;exact shBin_sound A t w
     |false=>
      rw[hs]at A
      simp only[cond_false]at A
      cases he:gt k k' with
      |false=>rw[he]at A;cases A
      |true=>
       rw[he]at A
       have:k=k':=by simpa[gt] using he
       subst this
       exact intBin_sound A t w
    refine⟨rfl,v,v,rfl,fun w=>?_,.atom v (ao default).2⟩;simp only[execOp,E.int_inv,hy.int_inv,eqGuard_at_int,pure_bind,Sem.run_bind,(ao w).1,Result.andThen_ok,Sem.run_pure]
   cases h
  ·rename_i a ha;rw[ha]at E;unfold binStr at h;split at h
   ·rename_i b V;rw[V]at hy;obtain⟨rfl,v,A,rfl⟩:=cw h;refine⟨rfl,v,v,rfl,fun w=>?_,.atom v (i6 (P:=P) (t:=t) A default).2⟩;simp only[execOp,E.string_inv,hy.string_inv,eqGuard_at_string,pure_bind,Sem.run_bind,(i6 (P:=P) (t:=t) A w).1,Result.andThen_ok,Sem.run_pure]
   cases h
  unfold lp at h
  split at h
  ·exact dh h (fun _ _=>by simp) N
  ·exact dh h (fun _ _=>by simp) N
  obtain⟨rfl,b,V,an⟩:=gR h
  rcases an with⟨rfl,rfl⟩|⟨rfl,rfl⟩
  ·refine⟨rfl,_,_,rfl,fun w=>?_,.atom (.bool b) rfl⟩;obtain⟨Z,h2,h3⟩:=jk (P:=P) V E hy w;simp only[execOp,h2,pure_bind,h3 .eql (.inl rfl),Sem.run_bind,Z,Result.andThen_ok,Sem.run_pure]
  refine⟨rfl,_,_,rfl,fun w=>?_,.atom (.bool (!b)) rfl⟩
  obtain⟨Z,h2,h3⟩:=jk (P:=P) V E hy w
  simp only[execOp,h2,pure_bind,h3 .neq (.inr rfl),Sem.run_bind,Z,Result.andThen_ok,Sem.run_pure]
 case unOp op t x=>
  have E:=N x (by simp[Op.operands])
  simp only[aop,aUn]at h
  split at h
  ·rename_i b V;rw[V]at E;split at h
   ·simp only[a00,a04]at h;obtain⟨rfl,rfl⟩:=h;exact⟨rfl,_,_,rfl,fun w=>by simp[execOp,E.bool_inv,Op.unary],.atom (.bool (!b)) rfl⟩
   cases h
  exact dh h (fun _ _=>by simp) N
 case makeFunc fn first captured=>
  simp only[aop,a00,a04]at h
  obtain⟨rfl,rfl⟩:=h
  have Z:=iT (μ:=μ) (ops:=first) (ρ:=ρ) (ρ':=ρ') fun x E=>N x (by simp[Op.operands,E])
  have h2:=iT (μ:=μ) (ops:=captured) (ρ:=ρ) (ρ':=ρ') fun x E=>N x (by simp[Op.operands,E])
  exact⟨rfl,_,_,rfl,fun w=>rfl,.func _ _ _ _ _ Z.1 h2.1 Z.2 h2.2⟩
 case fieldAddr s x f=>
  simp only[aop]at h
  obtain⟨rfl,v,A,rfl⟩:=cw h
  obtain⟨v',T,U⟩:=aField_sound A (N x (by simp[Op.operands]))
  exact⟨rfl,v,v',rfl,fun w=>by simp only[execOp,Sem.run_bind,T w,Result.andThen_ok,Sem.run_pure],U⟩
 case field t x f=>
  simp only[aop]at h
  obtain⟨rfl,v,A,rfl⟩:=cw h
  obtain⟨v',T,U⟩:=lF A (N x (by simp[Op.operands]))
  exact⟨rfl,v,v',rfl,fun w=>by simp only[execOp,Sem.run_bind,T w,Result.andThen_ok,Sem.run_pure],U⟩
 case indexAddr t x i=>
  simp only[aop]at h
  obtain⟨rfl,v,A,rfl⟩:=cw h
  obtain⟨v',T,U⟩:=iF A (N x (by simp[Op.operands])) (N i (by simp[Op.operands]))
  exact⟨rfl,v,v',rfl,fun w=>by simp only[execOp,Sem.run_bind,T w,Result.andThen_ok,Sem.run_pure],U⟩
 case index t x i=>
  have E:=N x (by simp[Op.operands])
  have hi:=N i (by simp[Op.operands])
  simp only[aop,jH]at h
  split at h
  ·rename_i s hs;rw[hs]at E;obtain⟨rfl,v,A,rfl⟩:=cw h;unfold strAt at A;split at A
   ·rename_i j hu hj;obtain⟨k,hk⟩:=eF hj hi;rw[gr]at A;split at A
    ·rename_i b V;injection A with A;subst A;exact⟨rfl,_,_,rfl,fun w=>by simp only[execOp,E.string_inv,hk,Sem.run_bind,strIndex_run hu V w,Result.andThen_ok,Sem.run_pure],.atom _ rfl⟩
    cases A
   cases A
  rename_i a3
  obtain⟨rfl,v,rfl,A⟩:=jp h
  obtain⟨v',T,U⟩:=index_rel E hi (fun s hs=>a3 s hs) A
  exact⟨rfl,v,v',rfl,fun w=>by simp only[execOp,Sem.run_bind,cv P T w,Result.andThen_ok,Sem.run_pure],U⟩
 case extract x i=>
  simp only[aop]at h
  have E:=N x (by simp[Op.operands])
  obtain⟨rfl,v,A,rfl⟩:=cw h
  unfold fv at A
  split at A
  ·rename_i vs a4;rw[a4]at E;obtain⟨a5,ay,U⟩:=E.tuple_inv;rw[gr]at A;obtain⟨v',T,ax⟩:=U.get A;have hg:a5[i]?=some v':=by simpa using T
   exact⟨rfl,v,v',rfl,fun w=>by simp[execOp,ay,Instr.extract,hg],ax⟩
  cases A
end
end Go.R
namespace Go.R
theorem dY(l:List Value): ∀n,(cx n l).length=n*l.length
 |0=>by simp[cx]
 |n+1=>by simp only[cx,a05,dY l n];rw[a14];omega
theorem kh(l:List Value): ∀(n i:Nat),i<n*l.length->(cx n l)[i]?=l[i%l.length]?
 |0,i,h=>by simp at h
 |n+1,i,h=>by
  simp only[cx];by_cases hi:i<l.length
  ·rw[a0N hi,Nat.mod_eq_of_lt hi]
  rw[a14,Nat.one_mul]at h;rw[a0X (by omega),kh l n (i-l.length) (by omega)];congr 1;exact(Nat.mod_eq_sub_mod (by omega)).symm
theorem zeros_eq(z:Array Value)(n:Nat):(Array.range (n*z.size)).map (fun i=>z[i%z.size]!)=⟨cx n z.toList⟩:=by
 apply a1B;intro i;refine Eq.trans ?_ (jl _ _).symm;by_cases hi:i<n*z.size
 ·rw[kh _ _ _ (by simpa using hi)];have E:0<z.size:=by
   rcases a1v z.size with h|h
   ·rw[h]at hi;simp at hi
   exact h
  have A:i%z.size<z.size:=Nat.mod_lt _ E;simp[hi,A]
 rw[a0C (by rw[dY];simpa using hi)];simp[hi]
theorem fV{l:List Value}(h:l.all noA0=true): ∀n,(cx n l).all noA0=true
 |0=>rfl
 |n+1=>by simp only[cx,a2a,h,fV h n,a1h]
section
variable {P:Program} {μ:Emb} {H H':Heap} {w:World}
def OpOK(P:Program)(μ:Emb)(H:Heap)(w:World)(s:Sem Next)(r:AN)(H':Heap):Prop:=
 ∃n w' μ',s.run P w= .ok n w'/\Post μ H w μ' H' w'/\ANRel μ' r n
theorem OpOK.value{s:Sem Value}{v v':Value}{w':World}{μ':Emb}(h:s.run P w= .ok v' w')(A:Post μ H w μ' H' w')(E:VRel μ' v v'):
  OpOK P μ H w (do Pure.pure (.value (←s))) (.val v) H':=
 ⟨.value v',w',μ',by simp only[Sem.run_bind,h,Result.andThen_ok,Sem.run_pure],A,E⟩
theorem OpOK.skip{s:Sem Unit}{w':World}{μ':Emb}(h:s.run P w= .ok () w')(A:Post μ H w μ' H' w'):
  OpOK P μ H w (do s;Pure.pure .skip) .skip H':=
 ⟨.skip,w',μ',by simp only[Sem.run_bind,h,Result.andThen_ok,Sem.run_pure],A,trivial⟩
theorem ovh_inv{r:Option (Value×Heap)}{n:AN}(h:ovh r=some (n,H')): ∃v,r=some (v,H')/\n= .val v:=by
 unfold ovh at h;split at h
 ·simp only[a00,a04]at h;obtain⟨rfl,rfl⟩:=h;exact⟨_,rfl,rfl⟩
 cases h
theorem osk_inv{r:Option Heap}{n:AN}(h:osk r=some (n,H')):r=some H'/\n= .skip:=by
 unfold osk at h;split at h
 ·simp only[a00,a04]at h;obtain⟨rfl,rfl⟩:=h;exact⟨rfl,rfl⟩
 cases h
theorem gw(h:WRel μ H w)(hf:μ H.next=none)(e:TypeId){cs A:List Value}(E:LRel μ cs A):
  ∃l,l.c=w.heap.size/\l.sh=0/\l.opn=none/\(newRow e ⟨A⟩).run P w= .ok ⟨w.heap.size,0,none⟩ (w.alloc (.cells ⟨A⟩ e))/\
   Post μ H w (μ.set H.next l) (aQ H cs none) (w.alloc (.cells ⟨A⟩ e)):=by
 obtain⟨l,U,V,Z,_,N,T⟩:=cR (P:=P) h hf e E [] none (fun _=>rfl)
 simp only[a0B]at N T
 exact⟨l,U,V,Z,N,T⟩
theorem alloc_sound{e:TypeId}{r:AN}(h:WRel μ H w)(Z: ∀b,H.next<=b->b<H'.next->μ b=none)(A:d8 P e H=some (r,H')):
  OpOK P μ H w (do Pure.pure (.value (←Instr.alloc e true (.tuple #[])))) r H':=by
 unfold d8 at A
 split at A
 ·rename_i z hz;simp only[a00,a04]at A;obtain⟨rfl,rfl⟩:=A;obtain⟨i,v,hi,hv,hc,E⟩:=d6 (P:=P) hz;obtain⟨l,U,V,h3,N,hp⟩:=gw (P:=P) h (Z H.next (a0a _) (by simp[aQ])) e (LRel.refl0 (μ:=μ) E);have T:v.cells=⟨z⟩:=by rw[←hc]
  refine OpOK.value (v':= .pointer (some ⟨w.heap.size,0,none⟩)) ?_ hp ?_
  ·simp only[Instr.alloc,Sem.run_bind,dU w hi hv,Result.andThen_ok,newVar,T,N,Sem.run_pure]
  have:=VRel.ptr (μ:=μ.set H.next l) H.next 0 l (Emb.set_same _ _ _);rw[U,V]at this;exact this
 cases A
theorem box_sound{e:TypeId}{x E:Value}(h:WRel μ H w)(U:μ H.next=none)(Z:VRel μ x E):
  OpOK P μ H w (do Pure.pure (.value (←Instr.box e E))) (.val (ptrTo H.next)) (aQ H x.cells.toList none):=by
 obtain⟨l,N,T,h3,A,V⟩:=gw (P:=P) h U e Z.cells
 refine OpOK.value (v':= .pointer (some ⟨w.heap.size,0,none⟩)) ?_ V ?_
 ·simp only[Instr.box,newVar,Sem.run_bind,A,Result.andThen_ok,Sem.run_pure]
 have:=VRel.ptr (μ:=μ.set H.next l) H.next 0 l (Emb.set_same _ _ _)
 rw[N,T]at this;exact this
theorem jJ{t:TypeId}{sz:Nat}{z:List Value}(h:ew P t=some (sz,z)): ∃e,P.underlying t=some (.slice e)/\cM P e=some sz/\cX P e=some z/\z.length=sz:=by
 unfold ew at h;split at h
 ·rename_i e E;split at h
  ·rename_i T U hs N;cases A:Nat.beq (gJ U) T with
   |false=>rw[A]at h;cases h
   |true=>
    rw[A]at h;simp only[cond_true,a00,a04]at h
    obtain⟨rfl,rfl⟩:=h
    exact⟨e,E,hs,N,by rw[←bO];exact a08 A⟩
  cases h
 cases h
theorem iD{t:TypeId}{n:Nat}{ps:List (Nat×Value)}{ps':Array (Nat×Value)}{r:AN}(h:WRel μ H w)(hf: ∀b,H.next<=b->b<H'.next->μ b=none)
  (hl:ps.length=ps'.toList.length) (hp: ∀(i:Nat) x x',ps[i]?=some x->ps'.toList[i]?=some x'->x.1=x'.1/\VRel μ x.2 x'.2)
  (E:bE P t n ps H=some (r,H')):OpOK P μ H w (do Pure.pure (.value (←Instr.buildSlice t n ps'))) r H':=by
 unfold bE at E
 split at E
 ·rename_i sz z an;obtain⟨e,hu,hs,hz,T⟩:=jJ an;cases hq:Nat.ble (n*sz) 16777216 with
  |false=>rw[hq]at E;cases E
  |true=>
   rw[hq]at E
   simp only[cond_true]at E
   have a5:n*sz<=16777216:=a03 hq
   split at E
   ·rename_i cells hc;simp only[a00,a04]at E;obtain⟨rfl,rfl⟩:=E;obtain⟨i,v,hi,hv,ao,Z⟩:=d6 (P:=P) hz;obtain⟨ai,V,ag⟩:=iQ (μ:=μ) ps ps'.toList _ _ cells hl hp (LRel.refl0 (fV Z n)) hc;obtain⟨l,h1,h2,h3,N,U⟩:=gw (P:=P) h (hf H.next (a0a _) (by simp[aQ])) e ag;refine OpOK.value (v':= .slice (some ⟨w.heap.size,0,none⟩) n n) ?_ U ?_
    ·have ar:v.cells=⟨z⟩:=by rw[←ao]
     simp only[Instr.buildSlice,Sem.run_bind,am w hu,Result.andThen_ok,aV w hs,show ¬(n*sz>2^24) by omega,if_false];by_cases h0:n*sz=0
     ·have al:cx n z=[]:=a0t (by rw[dY,T];exact h0);have A: ∀g:Nat->Value,(Array.range (n*sz)).map g=⟨cx n z⟩:=fun g=>by rw[h0,al];simp
      rw[if_pos h0];simp only[Sem.run_bind,Sem.run_pure,Result.andThen_ok,A,V,N]
     have A:=zeros_eq ⟨z⟩ n;simp only[show(Array.mk z).size=sz from T]at A;rw[if_neg h0];simp only[Sem.run_bind,dU w hi hv,Sem.run_pure,Result.andThen_ok,ar,show(Array.mk z).size=sz from T,A,V,N]
    have:=VRel.sliceC (μ:=μ.set H.next l) H.next 0 n n l (Emb.set_same _ _ _) h3;rw[h1,h2]at this;exact this
   cases E
 cases E
theorem load_sound{t:TypeId}{a N:Value}{r:AN}(h:WRel μ H w)(T:VRel μ a N)(A:dR P t a H=some (r,H')):
  OpOK P μ H w (do Pure.pure (.value (←Instr.loadAt t N))) r H':=by
 unfold dR at A
 split at A
 ·rename_i p;obtain⟨rfl,v,hv,rfl⟩:=cw A;obtain⟨b,o,sp⟩:=p;have U:sp=none:=T.ptr_some.1;subst U;obtain⟨l,V,rfl⟩:=T.ptr_inv;obtain⟨v',E,Z⟩:=fQ (P:=P) h V hv;refine OpOK.value (v':=v') ?_ (Post.refl h) Z;simp only[Instr.loadAt,Instr.sureAddr,Sem.run_bind,Sem.run_pure,Result.andThen_ok,E]
 cases A
theorem store_sound{t:TypeId}{a V x U:Value}{r:AN}(h:WRel μ H w)(Z:VRel μ a V)(hx:VRel μ x U)(A:fM P t a x H=some (r,H')):
  OpOK P μ H w (do Instr.storeAt t V U;Pure.pure .skip) r H':=by
 unfold fM at A
 split at A
 ·rename_i p;split at A
  ·rename_i n hn;cases E:Nat.beq x.cells.size n with
   |false=>rw[E]at A;cases A
   |true=>
    rw[E]at A
    obtain⟨hs,rfl⟩:=osk_inv A
    have ar:x.cells.size=n:=a08 E
    obtain⟨b,o,sp⟩:=p
    have ad:sp=none:=Z.ptr_some.1
    subst ad
    obtain⟨l,hb,rfl⟩:=Z.ptr_inv
    obtain⟨w',N,hp⟩:=e7 (P:=P) h hb hs hx.cells
    refine OpOK.skip ?_ hp
    have T:U.cells.size=n:=by have:=hx.cells.1;simp only[a29]at this;omega
    simp only[Instr.storeAt,Instr.sureAddr,storeVar,Sem.run_bind,Sem.run_pure,Result.andThen_ok,aV w hn,T,ne_eq,not_true,if_false,N]
  cases A
 cases A
theorem run_getObj{r:Nat}{o:Obj}(A:w.heap[r]?=some o)(hc: ∀c e f,o≠ .cells c e f):(getObj r).run P w= .ok o w:=by cases o<;>first|exact absurd rfl (hc _ _ _)|(simp only[getObj,Sem.run,A])
theorem run_setObj{r:Nat}{o A:Obj}(E:w.heap[r]?=some o)(hc: ∀c e f,o≠ .cells c e f):(setObj r A).run P w= .ok () (bp w r A):=by cases o<;>first|exact absurd rfl (hc _ _ _)|(simp only[setObj,Sem.run,E];rfl)
theorem jP{n:Nat}(h:n<=2147483648):IntKind.i64.wrap (n:Int)=n:=IntWalk.i64_in _ (by omega)
theorem ip{e:TypeId}{b:Nat}(h:eP P e=some b): ∃i,P.info? e=some i/\i.bytes=b:=by
 unfold eP at h;split at h
 ·rename_i i hi;injection h with h;exact⟨i,hi,h⟩
 cases h
theorem make_sound{t:TypeId}{x x' y y':Value}{r:AN}(h:WRel μ H w)(hf: ∀b,H.next<=b->b<H'.next->μ b=none)(hx:VRel μ x x')(hy:VRel μ y y')
  (ho:ovh (aMake P t x y H)=some (r,H')):OpOK P μ H w (do Pure.pure (.value (←Instr.makeSlice t x' y'))) r H':=by
 obtain⟨v,E,rfl⟩:=ovh_inv ho
 unfold aMake at E
 split at E
 ·rename_i e hu;split at E
  ·rename_i sz T z n k hs hb hz hn hk;cases hq:(Nat.ble n k&&Nat.ble k 2147483648&&Nat.ble T 4096&&Nat.beq (gJ z) sz&& !Nat.beq sz 0) with
   |false=>rw[hq]at E;cases E
   |true=>
    rw[hq]at E
    simp only[cond_true,a00,a04]at E
    obtain⟨rfl,rfl⟩:=E
    simp only[a0f,a0F]at hq
    obtain⟨⟨⟨⟨q1,q2⟩,q3⟩,V⟩,q5⟩:=hq
    have q1:n<=k:=a03 q1
    have q2:k<=2147483648:=a03 q2
    have q3:T<=4096:=a03 q3
    have V:z.length=sz:=by rw[←bO];exact a08 V
    have q5:sz≠0:=fun e=>by rw[e]at q5;cases q5
    obtain⟨i,vz,hi,a3,a1,ao⟩:=d6 (P:=P) hz
    obtain⟨ib,N,ay⟩:=ip hb
    rw[hi]at N;injection N with N;subst N
    obtain⟨l,h1,h2,h3,U,Z⟩:=gw (P:=P) h (hf H.next (a0a _) (by simp[aQ])) e (LRel.refl0 (μ:=μ) (fV ao k))
    refine OpOK.value (v':= .slice (some ⟨w.heap.size,0,none⟩) n k) ?_ Z ?_
    ·obtain⟨kn,rfl⟩:=eF hn hx;obtain⟨kk,rfl⟩:=eF hk hy;have a5:=jP (n:=n) (by omega);have a4:=jP (n:=k) q2;have a2:vz.cells=⟨z⟩:=by rw[←a1]
     have ar:T*k<=4096*2147483648:=Nat.mul_le_mul q3 q2;have av:(decide ((k:Int)<0)||decide ((i.bytes:Int)*(k:Int)>2^48)||decide ((n:Int)<0)||decide ((n:Int)>(k:Int)))=false:=by
      have hm:((i.bytes:Int)*(k:Int))<=8796093022208:=by rw[ay,←Int.natCast_mul];exact Int.ofNat_le.2 ar
      have h1: ¬((k:Int)<0):=by omega
      have h2: ¬((i.bytes:Int)*(k:Int)>2^48):=by
       have:(2:Int)^48=281474976710656:=by decide
       omega
      have h3: ¬((n:Int)<0):=by omega
      have h4: ¬((n:Int)>(k:Int)):=by omega
      simp only[decide_eq_false h1,decide_eq_false h2,decide_eq_false h3,decide_eq_false h4,Bool.or_self]
     simp only[Instr.makeSlice,Sem.run_bind,am w hu,Result.andThen_ok,asInt,asIntOf,Sem.run_pure,dV w hi,a5,a4];rw[if_neg (by rw[av];exact Bool.false_ne_true)];simp only[Sem.run_bind,run_askRoom,Result.andThen_ok,aV w hs,a1I];by_cases h0:k*sz=0
     ·have a0:cx k z=[]:=a0t (by rw[dY,V];exact h0);have A: ∀g:Nat->Value,(Array.range (k*sz)).map g=⟨cx k z⟩:=fun g=>by rw[h0,a0];simp
      rw[if_pos h0];simp only[Sem.run_bind,Sem.run_pure,Result.andThen_ok,A,U]
     have A:=zeros_eq ⟨z⟩ k;simp only[show(Array.mk z).size=sz from V]at A;rw[if_neg h0];simp only[Sem.run_bind,dU w hi a3,Sem.run_pure,Result.andThen_ok,a2,show(Array.mk z).size=sz from V,A,U]
    have:=VRel.sliceC (μ:=μ.set H.next l) H.next 0 n k l (Emb.set_same _ _ _) h3
    rw[h1,h2]at this;exact this
  cases E
 cases E
end
end Go.R
namespace Go.R
section
variable {P:Program} {μ:Emb} {H H':Heap} {w:World}
theorem jB{n k l r:Nat}{lo hi:Option Value}(h:bnds n k lo hi=some (l,r)):
  bH n hi=some r/\bH 0 lo=some l/\l<=r/\r<=k:=by
 unfold bnds at h
 split at h
 ·rename_i E T;split at h
  ·rename_i l' N;cases A:(Nat.ble l' E&&Nat.ble E k) with
   |false=>rw[A]at h;cases h
   |true=>
    rw[A]at h;simp only[cond_true,a00,a04]at h
    obtain⟨rfl,rfl⟩:=h
    simp only[a0f]at A
    exact⟨T,N,a03 A.1,a03 A.2⟩
  cases h
 cases h
theorem dA{v v':Value}{n y:Nat}(h:iE v=some n)(E:VRel μ v v')(N:n<=y)(A:BoundsCode):(Instr.sliceBound v' y A).run P w= .ok n w:=by
 obtain⟨k,rfl⟩:=eF h E;have:(0:Int)<=(n:Int)/\(n:Int)<=(y:Int):=by omega
 simp[Instr.sliceBound,asIntOf,this.2]
theorem dy{isSlice:Bool}{n k V l r:Nat}{lo hi Z E:Option Value}(hb:bnds n k lo hi=some (l,r))(hk:k<=V)
  (ag: ∀v,lo=some v->∃v',Z=some v'/\VRel μ v v') (N:lo=none->Z=none)
  (an: ∀v,hi=some v->∃v',E=some v'/\VRel μ v v') (ai:hi=none->E=none):
  (Instr.sliceBounds isSlice n V Z E none).run P w= .ok (l,r,V) w:=by
 obtain⟨h1,A,h3,h4⟩:=jB hb
 unfold Instr.sliceBounds
 cases hi with
 |none=>
  rw[ai rfl]
  simp only[bH,a00]at h1;subst h1
  cases lo with
  |none=>
   rw[N rfl]
   simp only[bH,a00]at A;subst A
   simp
  |some u=>
   obtain⟨u',T,U⟩:=ag u rfl
   rw[T]
   simp only[Sem.run_bind,Sem.run_pure,Result.andThen_ok,dA (P:=P) (w:=w) A U h3]
 |some v=>
  obtain⟨v',ar,hr⟩:=an v rfl
  rw[ar]
  cases lo with
  |none=>
   rw[N rfl]
   simp only[bH,a00]at A;subst A
   simp only[Sem.run_bind,Sem.run_pure,Result.andThen_ok,dA (P:=P) (w:=w) h1 hr (by omega:r<=V)]
  |some u=>
   obtain⟨u',T,U⟩:=ag u rfl
   rw[T]
   simp only[Sem.run_bind,Sem.run_pure,Result.andThen_ok,dA (P:=P) (w:=w) h1 hr (by omega:r<=V),dA (P:=P) (w:=w) A U h3]
theorem dx(s:ByteArray)(l r:Nat):s.extract l r=⟨⟨(s.data.toList.drop l).take (r-l)⟩⟩:=by apply ByteArray.ext;apply Array.ext';simp
theorem i7{t:TypeId}{x x':Value}{lo hi mx ay ax a2:Option Value}{r:AN}(h:WRel μ H w)(hx:VRel μ x x')
  (al: ∀v,lo=some v->∃v',ay=some v'/\VRel μ v v') (Z:lo=none->ay=none)
  (ai: ∀v,hi=some v->∃v',ax=some v'/\VRel μ v v') (V:hi=none->ax=none) (a8:mx=none->a2=none)
  (ho:ovl (bj P t x lo hi mx H) H=some (r,H')): ∃v v',r= .val v/\H'=H/\(Instr.sliceAt t x' ay ax a2).run P w= .ok v' w/\VRel μ v v':=by
 obtain⟨rfl,v,A,rfl⟩:=cw ho
 unfold bj at A
 split at A
 ·cases A
 rw[a8 rfl]
 simp only at A
 split at A
 ·rename_i s hu;obtain rfl:=hx.string_inv;split at A
  ·rename_i l r hb;injection A with A;subst A;rw[bO]at hb;have a9:s.data.toList.length=s.size:=by simp
   rw[a9]at hb;refine⟨_,.string (s.extract l r),rfl,rfl,?_,?_⟩
   ·simp[Instr.sliceAt,Instr.slice,am w hu,dy (P:=P) (w:=w) (isSlice:=false) hb (a0a _) al Z ai V]
   rw[dx,cb,cr];exact .atom _ rfl
  cases A
 ·rename_i e hu;obtain rfl:=hx.eq0 rfl;split at A
  ·rename_i lr hb;obtain⟨l,r⟩:=lr;cases hs:cM P e with
   |none=>rw[hs]at A;cases A
   |some sz=>
    rw[hs]at A
    simp only[Option.isSome_some,cond_true,a00]at A;subst A
    obtain⟨_,_,h3,h4⟩:=jB hb
    obtain rfl:r=0:=by omega
    obtain rfl:l=0:=by omega
    refine⟨_,.slice none 0 0,rfl,rfl,?_,.atom _ rfl⟩
    simp[Instr.sliceAt,Instr.slice,am w hu,dy (P:=P) (w:=w) (isSlice:=true) hb (a0a _) al Z ai V,aV w hs]
  cases A
 ·rename_i e b o n k hu;split at A
  ·rename_i l r sz cs bk ro hb hs hg;obtain⟨E,hμ,hc⟩:=hx.slice_inv;have U:E.opn=bk:=by
    have:=h.obj b E _ hμ hg;cases ro
    ·exact this.1
    exact this.1
   obtain⟨_,_,h3,h4⟩:=jB hb;split at A
   ·injection A with A;subst A;rcases hc with⟨T,rfl⟩|⟨e',o',k',T,rfl,_⟩|⟨rfl,rfl,a',rfl⟩
    rotate_right
    ·obtain rfl:r=0:=by omega
     obtain rfl:l=0:=by omega
     refine⟨_,.slice (some (if 0=0 then a' else a'.add (0*sz))) (0-0) (0-0),rfl,rfl,?_,?_⟩
     ·simp only[Instr.sliceAt,Instr.slice,Sem.run_bind,am w hu,Result.andThen_ok,dy (P:=P) (w:=w) (isSlice:=true) hb (a0a _) al Z ai V,aV w hs,Sem.run_pure];split<;>rfl
     exact .sliceZ b o a' E hμ
    ·refine⟨_,.slice (some (if k=l then⟨E.c,E.sh+o,none⟩ else Addr.add ⟨E.c,E.sh+o,none⟩ (l*sz))) (r-l) (k-l),rfl,rfl,?_,?_⟩
     ·simp only[Instr.sliceAt,Instr.slice,Sem.run_bind,am w hu,Result.andThen_ok,dy (P:=P) (w:=w) (isSlice:=true) hb (a0a _) al Z ai V,aV w hs,Sem.run_pure];split<;>rfl
     by_cases N:k=l
     ·rw[if_pos N];have:Nat.beq k l=true:=by rw[N];exact a13 l
      rw[this];exact .sliceC b o _ _ E hμ T
     rw[if_neg N];have:Nat.beq k l=false:=by
      cases hq:Nat.beq k l with
      |false=>rfl
      |true=>exact absurd (a08 hq) N
     rw[this,cL,a1l];exact .sliceC b (o+l*sz) _ _ E hμ T
    rw[U]at T;cases T
   rename_i ez;cases hq:Nat.beq ez sz with
   |false=>rw[hq]at A;cases A
   |true=>
    rw[hq]at A
    simp only[cond_true,a00]at A;subst A
    have a6:ez=sz:=a08 hq
    rcases hc with⟨T,rfl⟩|⟨e',o',k',T,rfl,b6,a7,a4,b5⟩|⟨rfl,rfl,a',rfl⟩
    rotate_right
    ·obtain rfl:r=0:=by omega
     obtain rfl:l=0:=by omega
     refine⟨_,.slice (some (if 0=0 then a' else a'.add (0*sz))) (0-0) (0-0),rfl,rfl,?_,?_⟩
     ·simp only[Instr.sliceAt,Instr.slice,Sem.run_bind,am w hu,Result.andThen_ok,dy (P:=P) (w:=w) (isSlice:=true) hb (a0a _) al Z ai V,aV w hs,Sem.run_pure];split<;>rfl
     exact .sliceZ b _ a' E hμ
    ·rw[U]at T;cases T
    rw[U]at T;injection T with T
    subst T a6
    refine⟨_,.slice (some (if k'=l then⟨E.c,o',none⟩ else Addr.add ⟨E.c,o',none⟩ (l*ez))) (r-l) (k'-l),rfl,rfl,?_,?_⟩
    ·simp only[Instr.sliceAt,Instr.slice,Sem.run_bind,am w hu,Result.andThen_ok,dy (P:=P) (w:=w) (isSlice:=true) hb a7 al Z ai V,aV w hs,Sem.run_pure];split<;>rfl
    by_cases N:k'=l
    ·rw[if_pos N];refine .sliceO b (o+l*ez) o' _ _ _ ez E hμ U (by omega) (by omega) (by omega) ?_;rw[N,a1D,Nat.zero_mul];omega
    rw[if_neg N,cL]
    refine .sliceO b (o+l*ez) (o'+l*ez) _ _ _ ez E hμ U (by omega) (by omega) (fun b3=>?_) ?_
    ·rw[a4 (by omega)];omega
    have:l*ez+(k'-l)*ez=k'*ez:=by rw[←a14];congr 1;omega
    omega
  cases A
 ·rename_i n e b o hu;split at A
  ·rename_i l r sz cs ro hb hs hg;obtain⟨E,hμ,rfl⟩:=hx.ptr_inv;have U:E.opn=none:=by
    have:=h.obj b E _ hμ hg;cases ro
    ·exact this.1
    exact this.1
   injection A with A;subst A;refine⟨_,.slice (some (if n=l then⟨E.c,E.sh+o,none⟩ else Addr.add ⟨E.c,E.sh+o,none⟩ (l*sz))) (r-l) (n-l),rfl,rfl,?_,?_⟩
   ·simp only[Instr.sliceAt,Sem.run_bind,am w hu,Result.andThen_ok,Instr.sureAddr,Sem.run_pure,dy (P:=P) (w:=w) (isSlice:=false) hb (a0a _) al Z ai V,aV w hs]
   by_cases N:n=l
   ·rw[if_pos N];have:Nat.beq n l=true:=by rw[N];exact a13 l
    rw[this];exact .sliceC b o _ _ E hμ U
   rw[if_neg N];have:Nat.beq n l=false:=by
    cases hq:Nat.beq n l with
    |false=>rfl
    |true=>exact absurd (a08 hq) N
   rw[this,cL,a1l];exact .sliceC b (o+l*sz) _ _ E hμ U
  cases A
 cases A
theorem slice_sound{t:TypeId}{x x':Value}{lo hi mx E A N:Option Value}{r:AN}(h:WRel μ H w)(hx:VRel μ x x')
  (ad: ∀v,lo=some v->∃v',E=some v'/\VRel μ v v') (U:lo=none->E=none)
  (Z: ∀v,hi=some v->∃v',A=some v'/\VRel μ v v') (T:hi=none->A=none) (ag:mx=none->N=none)
  (ho:ovl (bj P t x lo hi mx H) H=some (r,H')):OpOK P μ H w (do Pure.pure (.value (←Instr.sliceAt t x' E A N))) r H':=by
 obtain⟨v,v',rfl,rfl,V,hr⟩:=i7 (P:=P) h hx ad U Z T ag ho
 exact OpOK.value V (Post.refl h) hr
theorem lenA_run{x E:Value}{m:Nat}(h:lenA x=some m)(A:VRel μ x E):(Builtin.lenOf E).run P w= .ok m w:=by
 unfold lenA at h;split at h
 ·injection h with h;subst h;rename_i a n k;obtain⟨N,T,rfl,_⟩:=cS A;rfl
 ·rename_i s;injection h with h;subst h;obtain rfl:=A.string_inv;rw[bO];simp[Builtin.lenOf]
 cases h
theorem dE{x x':Value}{sz m:Nat}{vs:List Value}(h:WRel μ H w)(Z:VRel μ x x')(hl: ∃m0,lenA x=some m0/\m<=m0)(A:eE H sz m x=some vs):
  ∃T,(Builtin.firstCells sz m x').run P w= .ok ⟨T⟩ w/\LRel μ vs T/\vs.length=m*sz:=by
 unfold eE at A
 split at A
 ·rename_i a n k;obtain⟨b,o,sp⟩:=a;have av:sp=none:=Z.slice_some.1;subst av;cases E:Nat.beq m 0 with
  |true=>
   rw[E]at A
   simp only[cond_true,a00]at A;subst A
   have hm:m=0:=a08 E
   subst hm
   obtain⟨_,a',k',rfl⟩:=Z.slice_some
   exact⟨[],by simp[Builtin.firstCells,loadCells,loadCellsFrom],.nil,by simp⟩
  |false=>
   rw[E]at A
   simp only[cond_false]at A
   have hm:m≠0:=fun e=>by subst e;cases E
   obtain⟨m0,N,ai⟩:=hl
   simp only[lenA,a00]at N;subst N
   obtain⟨l,hμ,hc⟩:=Z.slice_inv
   obtain⟨T,V,hr,U⟩:=jo (P:=P) h hμ A
   rcases hc with⟨_,rfl⟩|⟨e',o',k',_,rfl,a2,_,al,_⟩|⟨hz,_,_⟩
   rotate_right
   ·omega
   ·exact⟨T,by simp only[Builtin.firstCells,V],hr,U⟩
   rw[al (by omega)]
   exact⟨T,by simp only[Builtin.firstCells,V],hr,U⟩
 ·rename_i n k;cases E:Nat.beq m 0 with
  |false=>rw[E]at A;cases A
  |true=>
   rw[E]at A
   simp only[cond_true,a00]at A;subst A
   have hm:m=0:=a08 E
   subst hm
   obtain⟨_,_,rfl⟩:=Z.sliceNil_inv
   exact⟨[],by simp[Builtin.firstCells],.nil,by simp⟩
 ·rename_i s;cases E:Nat.beq sz 1 with
  |false=>rw[E]at A;cases A
  |true=>
   rw[E]at A
   simp only[cond_true,a00,jm,cb]at A;subst A
   have hs:sz=1:=a08 E
   subst hs
   obtain rfl:=Z.string_inv
   obtain⟨m0,N,ai⟩:=hl
   simp only[lenA,bO,a00]at N;subst N
   refine⟨(s.data.toList.take m).map fun b=> .int .u8 b.toNat,?_,LRel.refl0 ?_,?_⟩
   ·simp only[Builtin.firstCells,Sem.run_pure,dx];congr 1;apply Array.ext';simp
   ·rw[a0v];intro u hu;obtain⟨c,_,rfl⟩:=a0r.1 hu;rfl
   simp at ai⊢;omega
 cases A
theorem growBy_le(A:Nat): ∀(r c:Nat),c<=A+(A+768)/4->Builtin.growBy A r c<=A+(A+768)/4
 |0,c,h=>h
 |r+1,c,h=>by
  simp only[Builtin.growBy];split
  ·exact h
  exact growBy_le A r _ (by omega)
theorem nextcap_le{n k:Nat}(h:k<n):Builtin.nextslicecap n k<=2*n+768:=by
 unfold Builtin.nextslicecap;split
 ·omega
 split
 ·omega
 have:=growBy_le n 4 k (by omega);omega
theorem cY{z:Array Value}{sz:Nat}(h:z.size=sz)(n:Nat):(Builtin.zeroCells z n).toList.length=n*sz:=by simp[Builtin.zeroCells,h]
theorem gv{st E ty e:TypeId}{N:TypeDesc}{A:Value}{base:Option Addr}{n m k sz:Nat}{i:TypeInfo}{z:Value}{old T:List Value}
  (hu:P.underlying st=some (.slice e)) (ar:P.underlying E=some N) (an: ∀kk,N≠ .int kk) (hi:P.info? e=some i) (hs:i.size=sz) (hz:i.zero=some z)
  (U:(Builtin.lenOf A).run P w= .ok m w) (al:k<n+m) (a0:n+m<=2147483648) (ai:i.bytes<=4096)
  (ad:(Builtin.firstCells sz n (.slice base n k)).run P w.drew= .ok ⟨old⟩ w.drew) (V:(Builtin.firstCells sz m A).run P w.drew= .ok ⟨T⟩ w.drew):
  ∃nc,n+m<=nc/\(Builtin.append_ #[st,E] ty #[.slice base n k,A]).run P w=
   .ok (.slice (some ⟨w.heap.size,0,none⟩) (n+m) nc) (w.drew.alloc (.cells (⟨old⟩++⟨T⟩++Builtin.zeroCells z.cells (nc-(n+m))) e)):=by
 have ao:cM P e=some sz:=by unfold cM;rw[hi,←hs]
 have av:=nextcap_le al
 have Z: ¬(Builtin.nextslicecap (n+m) k*i.bytes>2^48):=by
  have:Builtin.nextslicecap (n+m) k*i.bytes<=(2*2147483648+768)*4096:=Nat.mul_le_mul (by omega) ai;have a1:(2:Nat)^48=281474976710656:=by decide
  omega
 have ag: ¬(((n+m:Nat):Int)>IntKind.i64.max/\(False\/i.bytes=0)):=by rw[IntKind.max_i64];omega
 refine⟨(Question.appendCap (n+m) k e).cut (w.tape w.drawn (.appendCap (n+m) k e)),by simp[Question.cut],?_⟩
 have a2:(match N with| .int _=>true|_=>false)=false:=by cases N<;>first|rfl|exact absurd rfl (an _)
 have e1: ∀a b:Value,(#[a,b]:Array Value)[0]?=some a/\(#[a,b]:Array Value)[1]?=some b:=fun a b=>⟨rfl,rfl⟩
 unfold Builtin.append_
 simp only[show(#[st,E]:Array TypeId)[0]?=some st from rfl,show(#[st,E]:Array TypeId)[1]?=some E from rfl,
  show(#[Value.slice base n k,A]:Array Value)[0]?=some (Value.slice base n k) from rfl,show(#[Value.slice base n k,A]:Array Value)[1]?=some A from rfl,
  Sem.run_bind,am w hu,am w ar,Result.andThen_ok,aV w ao,Sem.run_pure,a0J,if_false,U,
  show ¬(n+m<=k) by omega,dV w hi,Z,ag]
 simp only[Sem.run_bind,run_choose,Question.forced,a0J,if_false,Result.andThen_ok,World.drew_eq,dV w.drew hi,run_askRoom,ad,V,a1z,if_true,
  dU w.drew hi hz,newRow,run_newObj,Sem.run_pure]
 rfl
theorem eO{st E ty e:TypeId}{N:TypeDesc}{A:Value}{base:Option Addr}{n m k sz:Nat}{T:List Value}{w':World}
  (hu:P.underlying st=some (.slice e)) (al:P.underlying E=some N) (ad: ∀kk,N≠ .int kk) (hs:cM P e=some sz)
  (U:(Builtin.lenOf A).run P w= .ok m w) (Z:n+m<=k) (V:(Builtin.firstCells sz m A).run P w= .ok ⟨T⟩ w)
  (ai: ∀a,base=some a->(storeCells (a.add (n*sz)) T).run P w= .ok () w') (ag:base=none->w'=w):
  (Builtin.append_ #[st,E] ty #[.slice base n k,A]).run P w= .ok (.slice base (n+m) k) w':=by
 have ar:(match N with| .int _=>true|_=>false)=false:=by cases N<;>first|rfl|exact absurd rfl (ad _)
 unfold Builtin.append_
 simp only[show(#[st,E]:Array TypeId)[0]?=some st from rfl,show(#[st,E]:Array TypeId)[1]?=some E from rfl,
  show(#[Value.slice base n k,A]:Array Value)[0]?=some (Value.slice base n k) from rfl,show(#[Value.slice base n k,A]:Array Value)[1]?=some A from rfl,
  Sem.run_bind,am w hu,am w al,Result.andThen_ok,aV w hs,Sem.run_pure,a0J,if_false,U,Z,if_true,a1z,V]
 cases base with
 |none=>rw[ag rfl];rfl
 |some a=>simp only[Sem.run_bind,ai a rfl,Result.andThen_ok,Sem.run_pure]
theorem Post.kill(h:WRel μ H w){b:Nat}{l:Loc}{o:AObj}(hb:μ b=some l)(ho:H.get b=some o)(hr:o.rw=true):Post μ H w μ (H.put b .dead) w:=by
 refine⟨fun _ _ h=>h,fun _ _ h=> .inl h,a0a _,rfl,rfl,rfl,fun _ _ _=>rfl,fun k x V N A ay=>?_,⟨fun k x V N A=>?_,fun Z b2 l1 l2 U o2 ao ai al ar av ax T=>?_⟩⟩
 ·by_cases e:b=k
  ·subst e;exact .inr ⟨b,l,o,hb,ho,fD hr,fun _=>hr,by rw[hb]at N;injection N with N;rw[N]⟩
  rw[Heap.get_put_ne H _ e]at A;exact .inr ⟨k,x,V,N,A,ay,id,rfl⟩
 ·by_cases e:b=k
  ·subst e;rw[Heap.get_put_same]at A;injection A with A;subst A;trivial
  rw[Heap.get_put_ne H _ e]at A;exact h.obj k x V N A
 have old: ∀k ok,ok.live=true->(H.put b .dead).get k=some ok->H.get k=some ok:=by
  intro k ok an E;by_cases e:b=k
  ·subst e;rw[Heap.get_put_same]at E;injection E with E;subst E;simp[AObj.live]at an
  rw[Heap.get_put_ne H _ e]at E;exact E
 exact h.inj Z b2 l1 l2 U o2 ao ai al (old Z U (by cases U<;>simp_all[AObj.rw,AObj.live]) ar) (old b2 o2 T av) ax T
theorem szOf_info{e:TypeId}{s:Nat}(h:cM P e=some s): ∃i,P.info? e=some i/\i.size=s:=by
 unfold cM at h;split at h
 ·rename_i i hi;injection h with h;exact⟨i,hi,h⟩
 cases h
theorem dF(a b:List Value)(c:Array Value):(⟨a⟩++⟨b⟩++c:Array Value)=⟨(a++b)++c.toList⟩:=by apply Array.ext';simp
theorem append_sound{types:Array TypeId}{ty:TypeId}{s x s' x' v:Value}(h:WRel μ H w)(hf: ∀b,H.next<=b->b<H'.next->μ b=none)
  (hs:VRel μ s s') (hx:VRel μ x x') (d1:types.size=2) (A:eT P types s x H=some (v,H')):
  ∃v' w' μ',(Builtin.append_ types ty #[s',x']).run P w= .ok v' w'/\Post μ H w μ' H' w'/\VRel μ' v v':=by
 obtain⟨tl⟩:=types
 match tl,d1 with
 | [st,xt],_=>
 unfold eT at A
 simp only[show(#[st,xt]:Array TypeId)[0]?=some st from rfl,show(#[st,xt]:Array TypeId)[1]?=some xt from rfl]at A
 split at A
 ·rename_i e xd hu ao;split at A
  ·cases A
  rename_i an;split at A
  ·rename_i sz e2 z m a5 f8 hz hm;obtain⟨i,vz,hi,b7,fd,g8⟩:=d6 (P:=P) hz;obtain⟨i2,c5,hy⟩:=ip f8;rw[hi]at c5;injection c5 with c5;subst c5;obtain⟨i3,c6,b5⟩:=szOf_info a5;rw[hi]at c6;injection c6 with c6;subst c6;have V:(Builtin.lenOf x').run P w= .ok m w:=lenA_run hm hx;split at A
   ·cases A
   rename_i cc dt;obtain⟨N,al,aw,ad⟩:=dE (P:=P) h hx ⟨m,hm,a0a _⟩ dt;obtain⟨hd,av,ar,_⟩:=dE (P:=P) h.drew hx ⟨m,hm,a0a _⟩ dt;split at A
   ·--nil
    obtain rfl:=hs.eq0 rfl;cases hq:Nat.beq m 0 with
    |true=>
     rw[hq]at A
     simp only[cond_true,a00,a04]at A
     obtain⟨rfl,rfl⟩:=A
     have b4:m=0:=a08 hq
     subst b4
     exact⟨_,w,μ,eO (w':=w) hu ao (fun Z=>an Z) a5 V (a0a _) al (fun a ha=>by cases ha) (fun _=>rfl),Post.refl h,.atom _ rfl⟩
    |false=>
     rw[hq]at A
     simp only[cond_false]at A
     have b4:m≠0:=fun e=>by subst e;cases hq
     cases a4:(Nat.beq (gJ z) sz&&Nat.ble m 2147483648&&Nat.ble e2 4096&& !Nat.beq sz 0) with
     |false=>rw[a4]at A;cases A
     |true=>
      rw[a4]at A
      simp only[cond_true,a00,a04]at A
      obtain⟨rfl,rfl⟩:=A
      simp only[a0f,a0F]at a4
      obtain⟨⟨⟨q1,q2⟩,q3⟩,q4⟩:=a4
      have q1:z.length=sz:=by rw[←bO];exact a08 q1
      have q2:=a03 q2
      have q3:=a03 q3
      obtain⟨nc,a0,E⟩:=gv (P:=P) (w:=w) (ty:=ty) (base:=none) (n:=0) (k:=0) (old:=[]) hu ao (fun Z=>an Z) hi b5 b7 V (by omega) (by omega) (by omega) (by simp[Builtin.firstCells]) av
      simp only[a1x]at E a0
      rw[dF,a11]at E
      obtain⟨l,h1,h2,h3,h4,_,hp⟩:=cR (P:=P) h.drew (hf H.next (a0a _) (by simp[aQ])) e ar (Builtin.zeroCells vz.cells (nc-m)).toList (some sz) (fun e=>by cases e)
      refine⟨_,_,_,E,(Post.drew h).trans hp (a0a _) (by simp[aQ]),?_⟩
      have:=VRel.sliceO (μ:=μ.set H.next l) H.next 0 0 m m nc sz l (Emb.set_same _ _ _) h3 (a0a _) a0 (fun _=>by omega) (by
       rw[h4,cY (show vz.cells.size=sz by rw[←q1,←fd];simp),ad,a1x,←a14];exact a0A _ (by omega))
      rw[h1]at this;exact this
   ·--a slice
    rename_i b o n k;obtain⟨l,hμ,hc⟩:=hs.slice_inv;split at A
    ·rename_i cs g1 ro hg;have ck:l.opn=g1:=by
      have:=h.obj b l _ hμ hg;cases ro
      ·exact this.1
      exact this.1
     cases hq:Nat.ble (n+m) k with
     |true=>
      rw[hq]at A
      simp only[cond_true]at A
      have c7:n+m<=k:=a03 hq
      cases c9:Nat.beq m 0 with
      |true=>
       rw[c9]at A
       simp only[cond_true,a00,a04]at A
       obtain⟨rfl,rfl⟩:=A
       have b4:m=0:=a08 c9
       subst b4
       have gb:N=[]:=a0t (by rw[←aw.1,ad];simp)
       subst gb
       rcases hc with⟨U,rfl⟩|⟨e',o',k',U,rfl,e9,ds,a8,c4⟩|⟨rfl,rfl,a',rfl⟩
       rotate_right
       ·exact⟨_,w,μ,eO (w':=w) hu ao (fun Z=>an Z) a5 V c7 al (fun a ha=>rfl) (fun e=>by cases e),Post.refl h,hs⟩
       ·exact⟨_,w,μ,eO (w':=w) hu ao (fun Z=>an Z) a5 V c7 al (fun a ha=>rfl) (fun e=>by cases e),Post.refl h,hs⟩
       exact⟨_,w,μ,eO (w':=w) hu ao (fun Z=>an Z) a5 V (by omega) al (fun a ha=>rfl) (fun e=>by cases e),Post.refl h,hs⟩
      |false=>
       rw[c9]at A
       simp only[cond_false]at A
       have b4:m≠0:=fun e=>by subst e;cases c9
       split at A
       ·rename_i h1 g0;simp only[a00,a04]at A;obtain⟨rfl,rfl⟩:=A;obtain⟨w',E,hp⟩:=e7 (P:=P) h hμ g0 aw;rcases hc with⟨U,rfl⟩|⟨e',o',k',U,rfl,e9,ds,a8,c4⟩|⟨rfl,rfl,a',rfl⟩
        rotate_right
        ·omega
        ·refine⟨_,w',μ,eO (w':=w') hu ao (fun Z=>an Z) a5 V c7 al (fun a ha=>?_) (fun e=>by cases e),hp,.sliceC b o _ _ l hμ U⟩;injection ha with ha;subst ha;rw[cL,a1l];exact E
        refine⟨_,w',μ,eO (w':=w') hu ao (fun Z=>an Z) a5 V (by omega) al (fun a ha=>?_) (fun e=>by cases e),hp,.sliceO b o o' _ _ _ e' l hμ U c7 ds a8 c4⟩;injection ha with ha;subst ha;rw[cL,a8 (by omega),a1l];exact E
       cases A
     |false=>
      rw[hq]at A
      simp only[cond_false]at A
      have e6:k<n+m:=by
       rcases a0i k (n+m) with h'|h'
       ·exact h'
       rw[a0u h']at hq;cases hq
      cases a4:(Nat.beq (gJ z) sz&&Nat.ble (n+m) 2147483648&&Nat.ble e2 4096&& !Nat.beq sz 0&&Nat.ble n k) with
      |false=>rw[a4]at A;cases A
      |true=>
       rw[a4]at A
       simp only[cond_true]at A
       simp only[a0f,a0F]at a4
       obtain⟨⟨⟨⟨q1,q2⟩,q3⟩,q4⟩,q5⟩:=a4
       have q1:z.length=sz:=by rw[←bO];exact a08 q1
       have q2:=a03 q2
       have q3:=a03 q3
       have q5:=a03 q5
       have hC:sz≠0:=fun e=>by rw[e]at q4;cases q4
       have b2:vz.cells.size=sz:=by rw[←q1,←fd];simp
       split at A
       ·cases A
       rename_i old ag
       obtain⟨he,g7,g6,ax⟩:=dE (P:=P) h hs ⟨n,rfl,a0a _⟩ ag
       obtain⟨hl,a3,a2,_⟩:=dE (P:=P) h.drew hs ⟨n,rfl,a0a _⟩ ag
       split at A
       ·--exact
        simp only[a00,a04]at A;obtain⟨rfl,rfl⟩:=A;rcases hc with⟨U,rfl⟩|⟨e',o',k',U,rfl,_⟩|⟨rfl,rfl,a',rfl⟩
        rotate_right
        ·obtain⟨nc,a0,E⟩:=gv (P:=P) (w:=w) (ty:=ty) hu ao (fun Z=>an Z) hi b5 b7 V e6 q2 (by omega) a3 av;rw[dF]at E;obtain⟨l',h1,h2,h3,h4,_,hp⟩:=cR (P:=P) h.drew (hf H.next (a0a _) (by simp[aQ])) e (a2.append ar) (Builtin.zeroCells vz.cells (nc-(0+m))).toList (some sz) (fun e=>by cases e);rw[dz];refine⟨_,_,_,E,(Post.drew h).trans hp (a0a _) (by simp[aQ]),?_⟩;have:=VRel.sliceO (μ:=μ.set H.next l') H.next 0 0 (0+m) (0+m) nc sz l' (Emb.set_same _ _ _) h3 (a0a _) a0 (fun _=>by omega) (by
          rw[h4,cY b2,a05,ax,ad,a1x,←a14,←a14];exact a0A _ (by omega))
         rw[h1]at this;exact this
        ·obtain⟨nc,a0,E⟩:=gv (P:=P) (w:=w) (ty:=ty) hu ao (fun Z=>an Z) hi b5 b7 V e6 q2 (by omega) a3 av;rw[dF]at E;obtain⟨l',h1,h2,h3,h4,_,hp⟩:=cR (P:=P) h.drew (hf H.next (a0a _) (by simp[aQ])) e (a2.append ar) (Builtin.zeroCells vz.cells (nc-(n+m))).toList (some sz) (fun e=>by cases e);rw[dz];refine⟨_,_,_,E,(Post.drew h).trans hp (a0a _) (by simp[aQ]),?_⟩;have:=VRel.sliceO (μ:=μ.set H.next l') H.next 0 0 (n+m) (n+m) nc sz l' (Emb.set_same _ _ _) h3 (a0a _) a0 (fun _=>by omega) (by
          rw[h4,cY b2,a05,ax,ad,a1x,←a14,←a14];exact a0A _ (by omega))
         rw[h1]at this;exact this
        rw[ck]at U;cases U
       ·--open
        rename_i T;cases dd:(Nat.beq T sz&& !ro&&allL Value.oneCell' cc) with
        |false=>rw[dd]at A;cases A
        |true=>
         rw[dd]at A
         simp only[cond_true,a00,a04]at A
         obtain⟨rfl,rfl⟩:=A
         simp only[a0f,a0F]at dd
         obtain⟨⟨q6,q7⟩,q8⟩:=dd
         have q6:T=sz:=a08 q6
         subst q6 q7
         rcases hc with⟨U,rfl⟩|⟨e',o',k',U,rfl,e9,ds,a8,c4⟩|⟨rfl,rfl,a',rfl⟩
         rotate_right
         ·have bk:μ H.next=none:=hf H.next (a0a _) (by simp[aQ]);obtain⟨nc,a0,E⟩:=gv (P:=P) (w:=w) (ty:=ty) hu ao (fun Z=>an Z) hi b5 b7 V (by omega) q2 (by omega) a3 av;rw[dF]at E;have hk:=Post.kill h hμ hg rfl;obtain⟨l',h1,h2,h3,h4,_,hp⟩:=cR (P:=P) (H:=H.put b .dead) hk.wrel.drew bk e (a2.append ar) (Builtin.zeroCells vz.cells (nc-(0+m))).toList (some T) (fun e=>by cases e);rw[dz];refine⟨_,_,_,E,(hk.trans (Post.drew hk.wrel) (a0a _) (a0a _)).trans hp (a0a _) (by simp[aQ]),?_⟩;have:=VRel.sliceO (μ:=μ.set H.next l') H.next 0 0 (0+m) (0+m) nc T l' (Emb.set_same _ _ _) h3 (a0a _) a0 (fun _=>by omega) (by
           rw[h4,cY b2,a05,ax,ad,a1x,←a14,←a14];exact a0A _ (by omega))
          rw[h1]at this;exact this
         ·rw[ck]at U;cases U
         rw[ck]at U;injection U with U;subst U
         have bk:μ H.next=none:=hf H.next (a0a _) (by simp[aQ])
         by_cases dn:n+m<=k'
         ·--in place
          obtain⟨r1,a1,et,hh,r2,r3,r4⟩:=h.obj b l _ hμ hg;have c8:N.length=m*T:=by rw[←aw.1];exact ad
          have hB:m≠0:=by omega
          have gs:N≠ []:=fun e=>by rw[e]at c8;have:=Nat.mul_eq_zero.1 c8.symm;omega
          have e0:N.all Value.oneCell'=true:=by
           rw[a0v];intro u bl;obtain⟨j,hj⟩:=List.getElem?_of_mem bl;have e4:j<cc.length:=by rw[aw.1];exact(a0n.1 hj).1
           have hr:=aw.2 j cc[j] u (a06 e4) hj;rw[hr.oneCell];rw[lB]at q8;exact a0v.1 q8 _ (a1r e4)
          have ch:o'+n*T+N.length<=a1.size:=by rw[c8,r2];have:(n+m)*T<=k'*T:=a0A _ dn;rw[a14]at this;omega
          have b6:=db (P:=P) l.c et N w a1 (o'+n*T) 0 hh (by omega) e0 gs;simp only[a1Y]at b6;have fz:(bm a1.toList (o'+n*T) N).length=a1.size:=by rw[bS _ _ _ (by simpa using ch)];simp
          have e1:=Post.take h hμ hg rfl bk ⟨l.c,o',some T,l.csz⟩ rfl (.cells (appL old cc) (some T) false) (.cells ⟨bm a1.toList (o'+n*T) N⟩ et (0,0)) (by
           refine⟨rfl,_,et,cy w _ (cC hh),by show(bm a1.toList (o'+n*T) N).length=_;rw[fz,r2],?_,fun j u hj=>?_⟩
           ·rw[dz,a05,ax,ad];show o'+_<=l.csz;rw[←r2];rw[c8]at ch;omega
           rw[dz]at hj;have mg: ∀v':Value,(bm a1.toList (o'+n*T) N)[o'+j]?=some v'->(Array.mk (bm a1.toList (o'+n*T) N))[o'+j]?=some v':=fun v' hv=>(jl _ _).trans hv
           rw[bx _ _ _ _ (by simpa using ch)]at mg;by_cases e5:j<n*T
           ·rw[a0N (by omega)]at hj;rw[if_neg (by omega)]at mg;have go:n≠0:=fun e=>by subst e;simp at e5
            unfold eE at ag;have f7:Nat.beq n 0=false:=by
             cases f6:Nat.beq n 0 with
             |false=>rfl
             |true=>exact absurd (a08 f6) go
            rw[f7]at ag;simp only[cond_false,Heap.loadN,hg,cb,cr,bO]at ag;cases e3:Nat.beq ((cs.drop o).take (n*T)).length (n*T) with
            |false=>rw[e3]at ag;cases ag
            |true=>
             rw[e3]at ag
             simp only[cond_true,a00]at ag
             rw[←ag,a0x,if_pos e5,a0I]at hj
             obtain⟨u',bl,hr⟩:=r4 (o+j) u hj
             refine⟨u',mg u' ?_,hr.mono (Emb.set_ext _ bk)⟩
             have:o'+j=l.sh+(o+j):=by have:=a8 (by omega);omega
             rw[this];simpa using bl
           rw[a0X (by omega),ax]at hj;obtain⟨u',bl,hr⟩:=aw.get hj;have hA:j-n*T<N.length:=(a0n.1 bl).1;rw[if_pos (by omega)]at mg;exact⟨u',mg u' (by rw[←bl];congr 1;omega),hr.mono (Emb.set_ext _ bk)⟩)
          refine⟨.slice (some ⟨l.c,o',none⟩) (n+m) k',_,_,eO (w':=bp w l.c (.cells ⟨bm a1.toList (o'+n*T) N⟩ et (0,0))) hu ao (fun Z=>an Z) a5 V dn al (fun a ha=>?_) (fun e=>by cases e),e1,?_⟩
          ·injection ha with ha;subst ha;rw[cL];exact b6
          exact VRel.sliceO (μ:=μ.set H.next ⟨l.c,o',some T,l.csz⟩) H.next 0 o' (n+m) (n+m) k' T ⟨l.c,o',some T,l.csz⟩ (Emb.set_same _ _ _) rfl (a0a _) dn (fun _=>rfl) c4
         ·--a cc row
          obtain⟨nc,a0,E⟩:=gv (P:=P) (w:=w) (ty:=ty) hu ao (fun Z=>an Z) hi b5 b7 V (by omega) q2 (by omega) a3 av;rw[dF]at E;have hk:=Post.kill h hμ hg rfl;obtain⟨l',h1,h2,h3,h4,_,hp⟩:=cR (P:=P) (H:=H.put b .dead) hk.wrel.drew bk e (a2.append ar) (Builtin.zeroCells vz.cells (nc-(n+m))).toList (some T) (fun e=>by cases e);rw[dz];refine⟨_,_,_,E,(hk.trans (Post.drew hk.wrel) (a0a _) (a0a _)).trans hp (a0a _) (by simp[aQ]),?_⟩;have:=VRel.sliceO (μ:=μ.set H.next l') H.next 0 0 (n+m) (n+m) nc T l' (Emb.set_same _ _ _) h3 (a0a _) a0 (fun _=>by omega) (by
           rw[h4,cY b2,a05,ax,ad,a1x,←a14,←a14];exact a0A _ (by omega))
          rw[h1]at this;exact this
    cases A
   cases A
  cases A
 cases A
end
end Go.R
namespace Go.R
section
variable {P:Program} {μ:Emb} {H H':Heap} {w:World}
theorem copy_sound{types:Array TypeId}{ty:TypeId}{d s d' T v:Value}(h:WRel μ H w)(hd:VRel μ d d')(hs:VRel μ s T)(A:lG P types d s H=some (v,H')):
  ∃v' w',(Builtin.copy_ types ty #[d',T]).run P w= .ok v' w'/\Post μ H w μ H' w'/\VRel μ v v':=by
 unfold lG at A
 split at A
 ·rename_i dt an;split at A
  ·rename_i e base N dk m hu hm;split at A
   ·rename_i sz ao;simp only at A;obtain⟨E,U,rfl,bl⟩:=cS hd;have ad:(Builtin.lenOf T).run P w= .ok m w:=lenA_run hm hs;cases hq:Nat.beq (Nat.min m N) 0 with
    |true=>
     rw[hq]at A
     simp only[cond_true,a00,a04]at A
     obtain⟨rfl,rfl⟩:=A
     have h0:Nat.min m N=0:=a08 hq
     refine⟨_,w,?_,Post.refl h,.atom (goInt 0) rfl⟩
     have a0:(Builtin.firstCells sz 0 T).run P w= .ok #[] w:=by
      unfold lenA at hm;split at hm
      ·rename_i a n k;obtain⟨a',k',rfl,_⟩:=cS hs;cases a'<;>simp[Builtin.firstCells,loadCells,loadCellsFrom]
      ·rename_i u;obtain rfl:=hs.string_inv;simp only[Builtin.firstCells,Sem.run_pure,dx];congr 1;simp
      cases hm
     unfold Builtin.copy_
     simp only[an,show(#[Value.slice E N U,T]:Array Value)[0]?=some (Value.slice E N U) from rfl,show(#[Value.slice E N U,T]:Array Value)[1]?=some T from rfl,
      Sem.run_bind,am w hu,Result.andThen_ok,ad,aV w ao,h0,a0]
     cases E<;>simp[storeCells]
    |false=>
     rw[hq]at A
     simp only[cond_false]at A
     split at A
     ·rename_i l a hl;split at A
      ·rename_i H1 a3;simp only[a00,a04]at A;obtain⟨rfl,rfl⟩:=A;obtain⟨b,o,sp⟩:=a;have a2:sp=none:=hd.slice_some.1;subst a2;obtain⟨b1,a1,al,a5⟩:=dE (P:=P) h hs ⟨m,hm,Nat.min_le_left _ _⟩ hl;obtain⟨V,hμ,hc⟩:=hd.slice_inv;have h0:Nat.min m N≠0:=fun e=>by rw[e]at hq;cases hq
       have bz:0<N:=by
        rcases a1v N with e|e
        ·exfalso;apply h0;rw[e];exact Nat.min_zero _
        exact e
       obtain⟨w',aw,hp⟩:=e7 (P:=P) h hμ a3 al;have ay:E=some ⟨V.c,V.sh+o,none⟩:=by
        rcases hc with⟨_,Z⟩|⟨e',o',k',_,Z,b0,_,av,_⟩|⟨hz,_,_⟩
        rotate_right
        ·omega
        ·injection Z with Z
        injection Z with Z _ _;rw[Z,av (by omega)]
       subst ay;refine⟨goInt (Nat.min m N:Nat),w',?_,hp,.atom _ rfl⟩;unfold Builtin.copy_;simp only[an,show(#[Value.slice (some ⟨V.c,V.sh+o,none⟩) N U,T]:Array Value)[0]?=some (Value.slice (some ⟨V.c,V.sh+o,none⟩) N U) from rfl,
        show(#[Value.slice (some ⟨V.c,V.sh+o,none⟩) N U,T]:Array Value)[1]?=some T from rfl,
        Sem.run_bind,am w hu,Result.andThen_ok,ad,aV w ao,a1,aw,Sem.run_pure]
      cases A
     cases A
   cases A
  cases A
 cases A
theorem len_sound{t ty:TypeId}{x Z v:Value}(h:WRel μ H w)(T:VRel μ x Z)(A:aLen P t x H=some v):
  (Builtin.len_ #[t] ty #[Z]).run P w= .ok v w/\noA0 v=true:=by
 unfold aLen at A
 split at A
 ·rename_i e a n k E;injection A with A;subst A;obtain⟨a',k',rfl,_⟩:=cS T;exact⟨by simp[Builtin.len_,am w E],rfl⟩
 ·rename_i s E;injection A with A;subst A;obtain rfl:=T.string_inv;exact⟨by simp[Builtin.len_,am w E,bO],rfl⟩
 ·rename_i k e E;injection A with A;subst A;obtain rfl:=T.mapNil_inv;exact⟨by simp[Builtin.len_,am w E],rfl⟩
 ·rename_i k e r E;split at A
  ·rename_i es hg;injection A with A;subst A;obtain⟨l,hμ,rfl⟩:=T.map_inv;obtain⟨V,N,hh,hl,_⟩:=h.obj r l _ hμ hg;have U:(getObj l.c).run P w= .ok (.map V N) w:=run_getObj hh (by intros;simp);exact⟨by simp[Builtin.len_,am w E,U,hl],rfl⟩
  cases A
 cases A
theorem kW{ρ ρ':Operand->Value}{o:Oper}{s d:TypeId}{x:Operand}{r:AN}(h:WRel μ H w)(E:o.op= .convert s d x)(hρ: ∀x∈o.op.operands,VRel μ (ρ x) (ρ' x))
  (T:fw P ρ o s d (ρ x) H=some (r,H')):OpOK P μ H w (execOp ρ' o) r H':=by
 have hx:VRel μ (ρ x) (ρ' x):=hρ x (by rw[E];simp[Op.operands])
 have N:execOp ρ' o=(do Pure.pure (.value (←convert s d (ρ' x)))):=by unfold execOp;simp only[E]
 unfold fw at T
 split at T
 ·rename_i k n hv;rw[hv]at hx;obtain⟨rfl,v,A,rfl⟩:=cw T;unfold kX at A;split at A
  ·rename_i sd kd Z V;injection A with A;subst A;rw[N];refine OpOK.value (v':= .int kd (kd.wrap n)) ?_ (Post.refl h) (.atom _ rfl);rw[hx.int_inv];simp[convert,am w Z,am w V,Conv.intToInt]
  cases A
 obtain⟨rfl,v,v',rfl,U,hr⟩:=dh T (fun _ _=>by rw[E];simp) hρ
 exact⟨.value v',w,μ,U w,Post.refl h,hr⟩
theorem keyKind_atom{d:TypeDesc}{k:Value}(h:keyKind d k=true):noA0 k=true:=by unfold keyKind at h;split at h<;>first|rfl|cases h
theorem lj(a b:ByteArray):(a==b)=dm a b:=by
 have e:(a==b)=(a.data==b.data):=by cases a;cases b;rfl
 rw[e,a0o];simp only[beq_iff_eq,dm];constructor
 ·intro h;rw[h]
 intro h;exact a1d.1 h
theorem bytesEq_iff{a b:ByteArray}(h:dm a b=true):a=b:=by simp only[dm,beq_iff_eq]at h;exact ByteArray.ext (a1d.1 h)
theorem byteArray_beq_self(a:ByteArray):(a==a)=true:=by rw[lj];simp[dm]
def EntRel(μ:Emb)(es:List (Value×Value))(A:List MapEntry):Prop:=
 es.length=A.length/\∀(i:Nat) x y,es[i]?=some x->A[i]?=some y->VRel μ x.1 y.key/\VRel μ x.2 y.val
theorem callee_sound{f f':Value}{args:List Value}{E:Array Value}{r:AN}(hf:VRel μ f f')(ha:LRel μ args E.toList)(A:eS P f args=some r):
  ∃i U,r= .enter i U/\∃T,(∀w,(do let d ←Deferred.ofValue f' E;invoke d.target d.args:Sem Next).run P w= .ok (.enter i T) w)/\LRel μ U T.toList:=by
 unfold eS at A
 split at A
 ·rename_i i first ad;obtain⟨Z,N,rfl,h1,h2⟩:=hf.func_inv;split at A
  ·rename_i fn al;cases V:(fn.body.isSome&& !(fn.name== "runtime.NumGoroutine")) with
   |false=>rw[V]at A;cases A
   |true=>
    rw[V]at A
    simp only[cond_true,a00]at A;subst A
    simp only[a0f,a0F]at V
    refine⟨i,_,rfl,(Z++E)++N,fun w=>?_,?_⟩
    ·have hb: ¬fn.body=none:=by intro ai;rw[ai]at V;cases V.1
     have an: ¬fn.name= "runtime.NumGoroutine" :=by have:=V.2;simpa using this
     simp[Deferred.ofValue,invoke,callFunc,al,an,hb]
    rw[dz,dz]
    have:=(h1.append (ha.append h2))
    simpa using this
  cases A
 cases A
end
end Go.R
