/-
The evaluator is sound: values, operations, memory.
-/
import Derived.Test.YtgdggmlghemecaaGreatDoorZER0
import Derived.IntWalk
set_option linter.unusedVariables false
set_option linter.unusedSimpArgs false
namespace Go.R
structure Loc where
 c:Nat
 sh:Nat
 opn:Option Nat
 csz:Nat
abbrev Emb:=Nat->Option Loc
inductive VRel(μ:Emb):Value->Value->Prop
 |atom (v:Value):noA0 v=true->VRel μ v v
 |ptr (b o:Nat) (l:Loc):μ b=some l->VRel μ (.pointer (some ⟨b,o,none⟩)) (.pointer (some ⟨l.c,l.sh+o,none⟩))
 |sliceC (b o n k:Nat) (l:Loc):μ b=some l->l.opn=none->VRel μ (.slice (some ⟨b,o,none⟩) n k) (.slice (some ⟨l.c,l.sh+o,none⟩) n k)
 |sliceO (b o o' n k k' e:Nat) (l:Loc):μ b=some l->l.opn=some e->n<=k->k<=k'->(0<k->o'=l.sh+o)->o'+k' *e<=l.csz->
   VRel μ (.slice (some ⟨b,o,none⟩) n k) (.slice (some ⟨l.c,o',none⟩) n k')
 |sliceZ (b o:Nat) (a:Addr) (l:Loc):μ b=some l->VRel μ (.slice (some ⟨b,o,none⟩) 0 0) (.slice (some a) 0 0)
 |map (b:Nat) (l:Loc):μ b=some l->VRel μ (.map (some b)) (.map (some l.c))
 |func (fn:Fn) (xs ys xs' ys':Array Value):xs.toList.length=xs'.toList.length->ys.toList.length=ys'.toList.length->
   (∀(i:Nat) v v',xs.toList[i]?=some v->xs'.toList[i]?=some v'->VRel μ v v')->
   (∀(i:Nat) v v',ys.toList[i]?=some v->ys'.toList[i]?=some v'->VRel μ v v')->VRel μ (.func fn xs ys) (.func fn xs' ys')
 |agg (xs xs':Array Value):xs.toList.length=xs'.toList.length->
   (∀(i:Nat) v v',xs.toList[i]?=some v->xs'.toList[i]?=some v'->VRel μ v v')->VRel μ (.agg xs) (.agg xs')
 |tuple (xs xs':Array Value):xs.toList.length=xs'.toList.length->
   (∀(i:Nat) v v',xs.toList[i]?=some v->xs'.toList[i]?=some v'->VRel μ v v')->VRel μ (.tuple xs) (.tuple xs')
def LRel(μ:Emb)(l l':List Value):Prop:=l.length=l'.length/\∀(i:Nat) v v',l[i]?=some v->l'[i]?=some v'->VRel μ v v'
section
variable {μ μ':Emb}
theorem VRel.mono(h: ∀b l,μ b=some l->μ' b=some l){v v':Value}(A:VRel μ v v'):VRel μ' v v':=by
 induction A with
 |atom v h0=>exact .atom v h0
 |ptr b o l hb=>exact .ptr b o l (h _ _ hb)
 |sliceC b o n k l hb ho=>exact .sliceC b o n k l (h _ _ hb) ho
 |sliceO b o o' n k k' e l hb ho h1 h2 h3 h4=>exact .sliceO b o o' n k k' e l (h _ _ hb) ho h1 h2 h3 h4
 |sliceZ b o a l hb=>exact .sliceZ b o a l (h _ _ hb)
 |map b l hb=>exact .map b l (h _ _ hb)
 |func fn xs ys xs' ys' h1 h2 _ _ i1 i2=>exact .func fn xs ys xs' ys' h1 h2 i1 i2
 |agg xs xs' h1 _ i1=>exact .agg xs xs' h1 i1
 |tuple xs xs' h1 _ i1=>exact .tuple xs xs' h1 i1
theorem LRel.nil:LRel μ [] []:=⟨V,fun i v v' h=>by simp at h⟩
theorem LRel.cons{v v':Value}{l l':List Value}(h:VRel μ v v')(N:LRel μ l l'):LRel μ (v::l) (v'::l'):=by
 refine⟨by simp[N.1],fun i x T A E=>?_⟩;cases i with
 |zero=>simp at A E;subst A E;exact h
 |succ i=>exact N.2 i x T (by simpa using A) (by simpa using E)
theorem LRel.head{v v':Value}{l l':List Value}(h:LRel μ (v::l) (v'::l')):VRel μ v v':=h.2 0 v v' V V
theorem LRel.tail{v v':Value}{l l':List Value}(h:LRel μ (v::l) (v'::l')):LRel μ l l':=
 ⟨by simpa using h.1,fun i x N A E=>h.2 (i+1) x N (by simpa using A) (by simpa using E)⟩
theorem LRel.get{l l':List Value}(h:LRel μ l l'){i:Nat}{v:Value}(A:l[i]?=some v): ∃v',l'[i]?=some v'/\VRel μ v v':=by
 have hi:i<l'.length:=by rw[←h.1];exact(a0u.1 A).1
 exact⟨l'[i],a06 hi,h.2 i v _ A (a06 hi)⟩
theorem LRel.append{a b N T:List Value}(h:LRel μ a N)(k:LRel μ b T):LRel μ (a++b) (N++T):=by
 refine⟨by simp[h.1,k.1],fun i v v' A E=>?_⟩;by_cases hi:i<a.length
 ·rw[a0Q hi]at A;rw[a0Q (h.1▸hi)]at E;exact h.2 i v v' A E
 rw[a0S M]at A;rw[a0S (by have:=h.1;omega),←h.1]at E;exact k.2 _ v v' A E
theorem LRel.take{a N:List Value}(h:LRel μ a N)(n:Nat):LRel μ (a.take n) (N.take n):=by
 refine⟨by simp[h.1],fun i v v' A E=>?_⟩;rw[a0A]at A E;split at A
 ·rename_i hi;rw[if_pos hi]at E;exact h.2 i v v' A E
 cases A
theorem LRel.drop{a A:List Value}(h:LRel μ a A)(n:Nat):LRel μ (a.drop n) (A.drop n):=by refine⟨by simp[h.1],fun i v v' E N=>?_⟩;rw[a0L]at E N;exact h.2 _ v v' E N
theorem LRel.nil_left{l':List Value}(h:LRel μ [] l'):l'=[]:=a0z h.1.symm
theorem LRel.cons_left{v:Value}{l l':List Value}(h:LRel μ (v::l) l'): ∃v' A,l'=v'::A/\VRel μ v v'/\LRel μ l A:=by
 cases l' with
 |nil=>have:=h.1;simp at this
 |cons v' A=>exact⟨v',A,V,h.head,h.tail⟩
theorem VRel.oneCell{v v':Value}(h:VRel μ v v'):v'.oneCell'=v.oneCell':=by cases h<;>rfl
theorem VRel.eq0{v v':Value}(h:VRel μ v v')(h0:noA0 v=true):v'=v:=by
 cases h with
 |atom=>rfl
 |func fn xs ys xs' ys' h1 h2 _ _=>
  simp only[noA0,a0a]at h0
  have A:xs.size=0:=a0c h0.1
  have E:ys.size=0:=a0c h0.2
  have N:xs= #[]:=a1k.1 A
  have T:ys= #[]:=a1k.1 E
  subst N T
  have U:xs'= #[]:=a1k.1 (by simpa using h1.symm)
  have Z:ys'= #[]:=a1k.1 (by simpa using h2.symm)
  subst U Z
  rfl
 |_=>simp[noA0]at h0
theorem LRel.eq0{l l':List Value}(h:LRel μ l l')(h0:l.all noA0=true):l'=l:=by
 induction l generalizing l' with
 |nil=>exact h.nil_left
 |cons v l ih=>
  obtain⟨v',N,rfl,E,A⟩:=h.cons_left
  simp only[a0E,a0a]at h0
  rw[E.eq0 h0.1,ih A h0.2]
theorem VRel.eq1{v v':Value}(h:VRel μ v v')(A:jI v=true):v'=v:=by
 cases h with
 |agg xs xs' hl hi=>
  have:=LRel.eq0 (μ:=μ) (l:=xs.toList) (l':=xs'.toList) ⟨hl,hi⟩ A
  rw[a1j.1 this]
 |atom v h0=>rfl
 |_=>exact VRel.eq0 (μ:=μ) (by constructor<;>assumption) A
theorem LRel.eq1{l l':List Value}(h:LRel μ l l')(h0:l.all jI=true):l'=l:=by
 induction l generalizing l' with
 |nil=>exact h.nil_left
 |cons v l ih=>
  obtain⟨v',N,rfl,E,A⟩:=h.cons_left
  simp only[a0E,a0a]at h0
  rw[E.eq1 h0.1,ih A h0.2]
theorem LRel.refl0{l:List Value}(h:l.all noA0=true):LRel μ l l:=by refine⟨V,fun i v v' E A=>?_⟩;rw[E]at A;injection A with A;subst A;exact .atom v (a0t.1 h v (a0m E))
theorem VRel.refl1{v:Value}(h:jI v=true):VRel μ v v:=by
 cases v with
 |agg cs=>have:=LRel.refl0 (μ:=μ) (l:=cs.toList) h;exact .agg cs cs this.1 this.2
 |_=>exact .atom _ h
theorem LRel.refl1{l:List Value}(h:l.all jI=true):LRel μ l l:=by refine⟨V,fun i v v' E A=>?_⟩;rw[E]at A;injection A with A;subst A;exact VRel.refl1 (a0t.1 h v (a0m E))
theorem VRel.refl2{v:Value}(h:noA2 v=true):VRel μ v v:=by
 cases v with
 |tuple vs=>have:=LRel.refl1 (μ:=μ) (l:=vs.toList) h;exact .tuple vs vs this.1 this.2
 |_=>exact VRel.refl1 h
theorem VRel.undef:VRel μ undef undef:=VRel.refl2 V
theorem VRel.eq2{v v':Value}(h:VRel μ v v')(A:noA2 v=true):v'=v:=by
 cases h with
 |tuple xs xs' hl hi=>
  have:=LRel.eq1 (μ:=μ) (l:=xs.toList) (l':=xs'.toList) ⟨hl,hi⟩ A
  rw[a1j.1 this]
 |atom v h0=>rfl
 |_=>exact VRel.eq1 (μ:=μ) (by constructor<;>assumption) A
theorem VRel.cells{v v':Value}(h:VRel μ v v'):LRel μ v.cells.toList v'.cells.toList:=by
 have one: ∀{u A:Value},VRel μ u A->LRel μ [u] [A]:=fun E=> .cons E .nil
 cases h with
 |agg xs xs' hl hi=>exact⟨hl,hi⟩
 |atom v h0=>cases v<;>first|(simp[noA0]at h0;done)|exact one (.atom _ h0)
 |ptr b o l hb=>exact one (.ptr b o l hb)
 |sliceC b o n k l hb ho=>exact one (.sliceC b o n k l hb ho)
 |sliceO b o o' n k k' e l hb ho h1 h2 h3 h4=>exact one (.sliceO b o o' n k k' e l hb ho h1 h2 h3 h4)
 |sliceZ b o a l hb=>exact one (.sliceZ b o a l hb)
 |map b l hb=>exact one (.map b l hb)
 |func fn xs ys xs' ys' h1 h2 i1 i2=>exact one (.func fn xs ys xs' ys' h1 h2 i1 i2)
 |tuple xs xs' h1 i1=>exact one (.tuple xs xs' h1 i1)
theorem VRel.int_inv{k:IntKind}{n:Int}{v':Value}(h:VRel μ (.int k n) v'):v'= .int k n:=h.eq0 V
theorem VRel.bool_inv{b:Bool}{v':Value}(h:VRel μ (.bool b) v'):v'= .bool b:=h.eq0 V
theorem VRel.string_inv{s:ByteArray}{v':Value}(h:VRel μ (.string s) v'):v'= .string s:=h.eq0 V
theorem VRel.ptr_inv{b o:Nat}{v':Value}(h:VRel μ (.pointer (some ⟨b,o,none⟩)) v'): ∃l,μ b=some l/\v'= .pointer (some ⟨l.c,l.sh+o,none⟩):=by
 cases h with
 |atom _ h0=>simp[noA0]at h0
 |ptr _ _ l hb=>exact⟨l,hb,V⟩
theorem VRel.ptr_some{a:Addr}{v':Value}(h:VRel μ (.pointer (some a)) v'):a.spot=none/\∃A,v'= .pointer (some A):=by
 cases h with
 |atom _ h0=>simp[noA0]at h0
 |ptr _ _ l hb=>exact⟨V,_,V⟩
theorem VRel.agg_inv{xs:Array Value}{v':Value}(h:VRel μ (.agg xs) v'): ∃A,v'= .agg A/\LRel μ xs.toList A.toList:=by
 cases h with
 |atom _ h0=>simp[noA0]at h0
 |agg _ A hl hi=>exact⟨A,V,hl,hi⟩
theorem VRel.tuple_inv{xs:Array Value}{v':Value}(h:VRel μ (.tuple xs) v'): ∃A,v'= .tuple A/\LRel μ xs.toList A.toList:=by
 cases h with
 |atom _ h0=>simp[noA0]at h0
 |tuple _ A hl hi=>exact⟨A,V,hl,hi⟩
theorem VRel.func_inv{fn:Fn}{xs ys:Array Value}{v':Value}(h:VRel μ (.func fn xs ys) v'):
  ∃A E,v'= .func fn A E/\LRel μ xs.toList A.toList/\LRel μ ys.toList E.toList:=by
 cases h with
 |atom _ h0=>
  simp only[noA0,a0a]at h0
  have N:xs= #[]:=a1k.1 (a0c h0.1)
  have T:ys= #[]:=a1k.1 (a0c h0.2)
  subst N T
  exact⟨#[], #[],V,.nil,.nil⟩
 |func _ _ _ A E h1 h2 i1 i2=>exact⟨A,E,V,⟨h1,i1⟩,⟨h2,i2⟩⟩
theorem VRel.map_inv{b:Nat}{v':Value}(h:VRel μ (.map (some b)) v'): ∃l,μ b=some l/\v'= .map (some l.c):=by
 cases h with
 |atom _ h0=>simp[noA0]at h0
 |map _ l hb=>exact⟨l,hb,V⟩
theorem VRel.mapNil_inv{v':Value}(h:VRel μ (.map none) v'):v'= .map none:=h.eq0 V
theorem VRel.slice_inv{b o n k:Nat}{v':Value}(h:VRel μ (.slice (some ⟨b,o,none⟩) n k) v'):
  ∃l,μ b=some l/\((l.opn=none/\v'= .slice (some ⟨l.c,l.sh+o,none⟩) n k)\/
   (∃e E A,l.opn=some e/\v'= .slice (some ⟨l.c,E,none⟩) n A/\n<=k/\k<=A/\(0<k->E=l.sh+o)/\E+A *e<=l.csz)\/(n=0/\k=0/\∃N,v'= .slice (some N) 0 0)):=by
 cases h with
 |atom _ h0=>simp[noA0]at h0
 |sliceC _ _ _ _ l hb ho=>exact⟨l,hb,.inl ⟨ho,V⟩⟩
 |sliceO _ _ E _ _ A e l hb ho h1 h2 h3 h4=>exact⟨l,hb,.inr (.inl ⟨e,E,A,ho,V,h1,h2,h3,h4⟩)⟩
 |sliceZ _ _ a l hb=>exact⟨l,hb,.inr (.inr ⟨V,V,a,V⟩)⟩
theorem VRel.sliceNil_inv{n k:Nat}{v':Value}(h:VRel μ (.slice none n k) v'):n=0/\k=0/\v'= .slice none n k:=by
 cases h with
 |atom _ h0=>
  simp only[noA0,a0a]at h0
  exact⟨a0c h0.1,a0c h0.2,V⟩
theorem VRel.slice_some{a:Addr}{n k:Nat}{v':Value}(h:VRel μ (.slice (some a) n k) v'):a.spot=none/\∃E A,v'= .slice (some E) n A:=by
 cases h with
 |atom _ h0=>simp[noA0]at h0
 |sliceC _ _ _ _ l hb ho=>exact⟨V,_,_,V⟩
 |sliceO _ _ o' _ _ A e l hb ho h1 h2 h3 h4=>exact⟨V,_,_,V⟩
 |sliceZ _ _ a l hb=>exact⟨V,_,_,V⟩
end
def ObjRel(μ:Emb)(w:World)(l:Loc):AObj->Prop
 | .cells cs opn true=>l.opn=opn/\opn=none/\l.c<w.heap.size/\∀(i:Nat) v,cs[i]?=some v->∃v',w.cell? ⟨l.c,l.sh+i,none⟩=some v'/\VRel μ v v'
 | .cells cs opn false=>l.opn=opn/\∃(A:Array Value) (e:TypeId),w.heap[l.c]?=some (.cells A e (0,0))/\A.size=l.csz/\l.sh+cs.length<=l.csz/\
   ∀(i:Nat) v,cs[i]?=some v->∃v',A[l.sh+i]?=some v'/\VRel μ v v'
 | .iter s pos=>l.sh=0/\w.heap[l.c]?=some (.stringIter s pos)
 | .tab es=> ∃(E:Array MapEntry) (N:Nat),w.heap[l.c]?=some (.map E N)/\es.length=E.toList.length/\
   ∀(i:Nat) x y,es[i]?=some x->E.toList[i]?=some y->VRel μ x.1 y.key/\VRel μ x.2 y.val
 | .dead=>True
structure WRel(μ:Emb)(H:Heap)(w:World):Prop where
 obj: ∀b l o,μ b=some l->H.get b=some o->ObjRel μ w l o
 inj: ∀b1 b2 l1 l2 o1 o2,b1≠b2->μ b1=some l1->μ b2=some l2->H.get b1=some o1->H.get b2=some o2->o1.rw=true->o2.live=true->l1.c≠l2.c
theorem cP{w:World}{c:Nat}{o:Obj}(h:w.heap[c]?=some o):c<w.heap.size:=(a0G.1 h).1
theorem ObjRel.lt{μ:Emb}{w:World}{l:Loc}{o:AObj}(h:ObjRel μ w l o)(N:o.live=true):l.c<w.heap.size:=by
 cases o with
 |cells cs opn ro=>
  cases ro with
  |true=>exact h.2.2.1
  |false=>obtain⟨_,T,e,A,_⟩:=h;exact cP A
 |iter s pos=>exact cP h.2
 |tab es=>obtain⟨U,E,A,_⟩:=h;exact cP A
 |dead=>simp[AObj.live]at N
theorem ObjRel.keep{μ μ':Emb}{w w':World}{l:Loc}{o:AObj}(U: ∀b l,μ b=some l->μ' b=some l)(hs:w.heap.size<=w'.heap.size)
  (hc:o.live=true->w'.heap[l.c]?=w.heap[l.c]?) (h:ObjRel μ w l o):ObjRel μ' w' l o:=by
 cases o with
 |cells cs opn ro=>
  have Z:=hc V
  cases ro with
  |true=>
   obtain⟨h1,A,T,h4⟩:=h
   refine⟨h1,A,by omega,fun i v hv=>?_⟩
   obtain⟨v',E,hr⟩:=h4 i v hv
   refine⟨v',?_,hr.mono U⟩
   rw[←E]
   simp only[World.cell?,Z]
  |false=>
   obtain⟨h1,an,e,hh,A,T,h4⟩:=h
   refine⟨h1,an,e,Z.trans hh,A,T,fun i v hv=>?_⟩
   obtain⟨v',E,hr⟩:=h4 i v hv
   exact⟨v',E,hr.mono U⟩
 |iter s pos=>exact⟨h.1,(hc V).trans h.2⟩
 |tab es=>
  obtain⟨ao,N,hh,A,T⟩:=h
  refine⟨ao,N,(hc V).trans hh,A,fun i x y hx hy=>?_⟩
  obtain⟨r1,r2⟩:=T i x y hx hy
  exact⟨r1.mono U,r2.mono U⟩
 |dead=>trivial
theorem gR{o:AObj}(h:o.rw=true):o.live=true:=by cases o<;>simp_all[AObj.rw,AObj.live]
structure Post(μ:Emb)(H:Heap)(w:World)(μ':Emb)(H':Heap)(w':World):Prop where
 ext: ∀b l,μ b=some l->μ' b=some l
 dom: ∀b l,μ' b=some l->μ b=some l\/(H.next<=b/\b<H'.next)
 grow:w.heap.size<=w'.heap.size
 os:w'.os=w.os
 tape:w'.tape=w.tape
 out:w'.output=w.output
 keep: ∀c,c<w.heap.size->(∀b l o,μ b=some l->H.get b=some o->o.rw=true->l.c≠c)->w'.heap[c]?=w.heap[c]?
 img: ∀b l o,μ' b=some l->H'.get b=some o->o.live=true->w.heap.size<=l.c\/∃b0 l0 o0,μ b0=some l0/\H.get b0=some o0/\o0.live=true/\(o.rw=true->o0.rw=true)/\l0.c=l.c
 wrel:WRel μ' H' w'
theorem Post.refl{μ:Emb}{H:Heap}{w:World}(h:WRel μ H w):Post μ H w μ H w:=
 ⟨fun _ _ h=>h,fun _ _ h=> .inl h,a0d _,V,V,V,fun _ _ _=>rfl,fun b l o A E N=> .inr ⟨b,l,o,A,E,N,id,V⟩,h⟩
theorem Post.trans{μ μ1 μ2:Emb}{H H1 N:Heap}{w Z w2:World}(h:Post μ H w μ1 H1 Z)(k:Post μ1 H1 Z μ2 N w2)(h1:H.next<=H1.next)(h2:H1.next<=N.next):
  Post μ H w μ2 N w2:=by
 refine⟨fun b l A=>k.ext b l (h.ext b l A),fun b l A=>?_,a0e h.grow k.grow,k.os.trans h.os,k.tape.trans h.tape,k.out.trans h.out,fun c hc U=>?_,fun b l o A T E=>?_,k.wrel⟩
 ·rcases k.dom b l A with hb1|⟨hb1,hb2⟩
  ·rcases h.dom b l hb1 with hb0|⟨hb3,hb4⟩
   ·exact .inl hb0
   exact .inr ⟨hb3,by omega⟩
  exact .inr ⟨by omega,hb2⟩
 ·rw[k.keep c (a0U hc h.grow) ?_,h.keep c hc U];intro b l o A T E he;rcases h.img b l o A T (gR E) with hh|⟨b0,l0,o0,g1,g2,g3,g5,g4⟩
  ·omega
  exact U b0 l0 o0 g1 g2 (g5 E) (g4.trans he)
 rcases k.img b l o A T E with hh|⟨b0,l0,o0,g1,g2,g3,g5,g4⟩
 ·exact .inl (a0e h.grow hh)
 rcases h.img b0 l0 o0 g1 g2 g3 with hh|⟨b1,l1,o1,e1,e2,e3,e5,e4⟩
 ·exact .inl (g4▸hh)
 exact .inr ⟨b1,l1,o1,e1,e2,e3,fun hx=>e5 (g5 hx),e4.trans g4⟩
theorem WRel.drew{μ:Emb}{H:Heap}{w:World}(h:WRel μ H w):WRel μ H w.drew:=
 ⟨fun b l o A E=>(h.obj b l o A E).keep (fun _ _ h=>h) (a0d _) (fun _=>rfl),h.inj⟩
theorem Post.drew{μ:Emb}{H:Heap}{w:World}(h:WRel μ H w):Post μ H w μ H w.drew:=
 ⟨fun _ _ h=>h,fun _ _ h=> .inl h,a0d _,V,V,V,fun _ _ _=>rfl,fun b l o A E N=> .inr ⟨b,l,o,A,E,N,id,V⟩,h.drew⟩
def Emb.set(μ:Emb)(b:Nat)(l:Loc):Emb:=fun k=>if k=b then some l else μ k
theorem Emb.set_same(μ:Emb)(b:Nat)(l:Loc):μ.set b l b=some l:=by simp[Emb.set]
theorem Emb.set_ext{μ:Emb}{b:Nat}(l:Loc)(h:μ b=none): ∀k x,μ k=some x->μ.set b l k=some x:=by
 intro k x A;have:k≠b:=fun e=>by subst e;rw[h]at A;cases A
 simp[Emb.set,this,A]
theorem Emb.set_inv{μ:Emb}{b:Nat}{l:Loc}{k:Nat}{x:Loc}(h:μ.set b l k=some x):(k=b/\x=l)\/(k≠b/\μ k=some x):=by
 unfold Emb.set at h;split at h
 ·rename_i e;injection h with h;exact .inl ⟨e,h.symm⟩
 rename_i e;exact .inr ⟨e,h⟩
theorem jK(w:World)(o:Obj){c:Nat}(h:c<w.heap.size):(w.alloc o).heap[c]?=w.heap[c]?:=by simp only[World.alloc,Array.getElem?_push];rw[if_neg M]
theorem nI(w:World)(o:Obj):(w.alloc o).heap[w.heap.size]?=some o:=by show(w.heap.push o)[w.heap.size]?=some o;simp
theorem Post.push{μ:Emb}{H:Heap}{w:World}(h:WRel μ H w)(hf:μ H.next=none)(l:Loc)(hl:l.c=w.heap.size)(o:AObj)(co:Obj)
  (ho:ObjRel (μ.set H.next l) (w.alloc co) l o):Post μ H w (μ.set H.next l) (H.push o) (w.alloc co):=by
 have hm:=Emb.set_ext l hf
 refine⟨hm,fun b x E=>?_,by simp,V,V,V,fun c hc _=>jK w co hc,fun b x o' E A hr=>?_,⟨fun b x o' E A=>?_,fun b1 b2 l1 l2 o1 o2 N av aw T U a0 an=>?_⟩⟩
 ·rcases Emb.set_inv E with⟨rfl,rfl⟩|⟨_,E⟩
  ·exact .inr ⟨a0d _,by simp⟩
  exact .inl E
 ·rcases Emb.set_inv E with⟨rfl,rfl⟩|⟨N,E⟩
  ·exact .inl M
  rw[Heap.get_push_ne H o (Ne.symm N)]at A;exact .inr ⟨b,x,o',E,A,hr,id,V⟩
 ·rcases Emb.set_inv E with⟨rfl,rfl⟩|⟨N,E⟩
  ·rw[Heap.get_push_same]at A;injection A with A;subst A;exact ho
  rw[Heap.get_push_ne H o (Ne.symm N)]at A;have hr:=h.obj b x o' E A;exact hr.keep hm (by simp) (fun ax=>jK w co (hr.lt ax))
 rcases Emb.set_inv av with⟨e1,f1⟩|⟨ad,Z⟩<;>rcases Emb.set_inv aw with⟨e2,f2⟩|⟨ag,aa⟩
 ·exact absurd (e1.trans e2.symm) N
 ·rw[Heap.get_push_ne H o (Ne.symm ag)]at U;have:=(h.obj b2 l2 o2 aa U).lt an;subst f1;omega
 ·rw[Heap.get_push_ne H o (Ne.symm ad)]at T;have:=(h.obj b1 l1 o1 Z T).lt (by cases o1<;>simp_all[AObj.rw,AObj.live]);subst f2;omega
 rw[Heap.get_push_ne H o (Ne.symm ad)]at T
 rw[Heap.get_push_ne H o (Ne.symm ag)]at U
 exact h.inj b1 b2 l1 l2 o1 o2 N Z aa T U a0 an
def bB(w:World)(c:Nat)(o:Obj):World:={w with heap:=w.heap.setIfInBounds c o}
theorem dA(w:World){c k:Nat}(o:Obj)(h:c≠k):(bB w c o).heap[k]?=w.heap[k]?:=by simp[bB,a1I h]
theorem cM(w:World){c:Nat}(o:Obj)(h:c<w.heap.size):(bB w c o).heap[c]?=some o:=by simp[bB,h]
@[simp] theorem setObjAt_size(w:World)(c:Nat)(o:Obj):(bB w c o).heap.size=w.heap.size:=by simp[bB]
theorem Post.put{μ:Emb}{H:Heap}{w:World}(h:WRel μ H w){b:Nat}{l:Loc}{o:AObj}(T:μ b=some l)(ho:H.get b=some o)(U:o.rw=true)
  (N:AObj) (bt:N.rw=true) (Z:Obj) (hn:ObjRel μ (bB w l.c Z) l N):Post μ H w μ (H.put b N) (bB w l.c Z):=by
 refine⟨fun _ _ h=>h,fun _ _ h=> .inl h,by simp,V,V,V,fun c hc an=>dA w Z (an b l o T ho U),fun k x ox E A a1=>?_,⟨fun k x ox E A=>?_,fun b1 b2 l1 l2 o1 o2 av ag ai aw ax ay a0=>?_⟩⟩
 ·by_cases e:b=k
  ·subst e;rw[T]at E;injection E with E;subst E;exact .inr ⟨b,l,o,T,ho,gR U,fun _=>U,V⟩
  rw[Heap.get_put_ne H N e]at A;exact .inr ⟨k,x,ox,E,A,a1,id,V⟩
 ·by_cases e:b=k
  ·subst e;rw[T]at E;injection E with E;subst E;rw[Heap.get_put_same]at A;injection A with A;subst A;exact hn
  rw[Heap.get_put_ne H N e]at A;have hx:=h.obj k x ox E A;exact hx.keep (fun _ _ h=>h) (by simp) (fun ar=>dA w Z (h.inj b k l x o ox e T E ho A U ar))
 have old: ∀k ok lk,μ k=some lk->(H.put b N).get k=some ok->∃oo,H.get k=some oo/\(ok.rw=true->oo.rw=true)/\(ok.live=true->oo.live=true):=by
  intro k ok lk E al;by_cases e:b=k
  ·subst e;exact⟨o,ho,fun _=>U,fun _=>by cases o<;>simp_all[AObj.rw,AObj.live]⟩
  rw[Heap.get_put_ne H N e]at al;exact⟨ok,al,id,id⟩
 obtain⟨p1,q1,r1,_⟩:=old b1 o1 l1 ag aw
 obtain⟨p2,q2,_,r2⟩:=old b2 o2 l2 ai ax
 exact h.inj b1 b2 l1 l2 p1 p2 av ag ai q1 q2 (r1 ay) (r2 a0)
theorem Post.take{μ:Emb}{H:Heap}{w:World}(h:WRel μ H w){b:Nat}{l:Loc}{o:AObj}(hb:μ b=some l)(ho:H.get b=some o)(hr:o.rw=true)
  (hf:μ H.next=none) (l':Loc) (hl:l'.c=l.c) (Z:AObj) (co:Obj) (hn:ObjRel (μ.set H.next l') (bB w l.c co) l' Z):
  Post μ H w (μ.set H.next l') ((H.put b .dead).push Z) (bB w l.c co):=by
 have hm:=Emb.set_ext l' hf
 have ch:b≠H.next:=fun e=>by subst e;rw[hf]at hb;cases hb
 have get: ∀k,k≠H.next->((H.put b .dead).push Z).get k=(H.put b .dead).get k:=fun k E=>Heap.get_push_ne (H.put b .dead) Z (Ne.symm E)
 have a7:((H.put b .dead).push Z).get H.next=some Z:=Heap.get_push_same (H.put b .dead) Z
 refine⟨hm,fun k x E=>?_,by simp,V,V,V,fun c hc a9=>dA w co (a9 b l o hb ho hr),fun k x ox E A a4=>?_,⟨fun k x ox E A=>?_,fun b1 b2 l1 l2 o1 o2 U bb bk a2 a3 ad ag=>?_⟩⟩
 ·rcases Emb.set_inv E with⟨rfl,rfl⟩|⟨_,E⟩
  ·exact .inr ⟨a0d _,by simp⟩
  exact .inl E
 ·rcases Emb.set_inv E with⟨rfl,rfl⟩|⟨U,E⟩
  ·exact .inr ⟨b,l,o,hb,ho,gR hr,fun _=>hr,hl.symm⟩
  rw[get k U]at A;by_cases e:b=k
  ·subst e;rw[Heap.get_put_same]at A;injection A with A;subst A;simp[AObj.live]at a4
  rw[Heap.get_put_ne H _ e]at A;exact .inr ⟨k,x,ox,E,A,a4,id,V⟩
 ·rcases Emb.set_inv E with⟨rfl,rfl⟩|⟨U,E⟩
  ·rw[a7]at A;injection A with A;subst A;exact hn
  rw[get k U]at A;by_cases e:b=k
  ·subst e;rw[Heap.get_put_same]at A;injection A with A;subst A;trivial
  rw[Heap.get_put_ne H _ e]at A;have hx:=h.obj k x ox E A;exact hx.keep hm (by simp) (fun ao=>dA w co (h.inj b k l x o ox e hb E ho A hr ao))
 have old: ∀k ok,k≠H.next->ok.live=true->((H.put b .dead).push Z).get k=some ok->k≠b/\H.get k=some ok:=by
  intro k ok E ao T;rw[get k E]at T;by_cases e:b=k
  ·subst e;rw[Heap.get_put_same]at T;injection T with T;subst T;simp[AObj.live]at ao
  rw[Heap.get_put_ne H _ e]at T;exact⟨Ne.symm e,T⟩
 have N: ∀{x:AObj},x.rw=true->x.live=true:=by intro x hx;cases x<;>simp_all[AObj.rw,AObj.live]
 rcases Emb.set_inv bb with⟨e1,f1⟩|⟨ap,al⟩<;>rcases Emb.set_inv bk with⟨e2,f2⟩|⟨aq,an⟩
 ·exact absurd (e1.trans e2.symm) U
 ·obtain⟨n2,g2⟩:=old b2 o2 aq ag a3;rw[f1,hl];exact h.inj b b2 l l2 o o2 (Ne.symm n2) hb an ho g2 hr ag
 ·obtain⟨n1,g1⟩:=old b1 o1 ap (N ad) a2;rw[f2,hl];exact fun e=>h.inj b b1 l l1 o o1 (Ne.symm n1) hb al ho g1 hr (N ad) e.symm
 obtain⟨_,g1⟩:=old b1 o1 ap (N ad) a2
 obtain⟨_,g2⟩:=old b2 o2 aq ag a3
 exact h.inj b1 b2 l1 l2 o1 o2 U al an g1 g2 ad ag
end Go.R
set_option linter.unusedVariables false
namespace Go.R
section pure_
variable {α β:Type} (P:Program)
theorem cF{s:Sem α}{a:α}(h:aF P s=some a)(w:World):s.run P w= .ok a w:=by
 induction s with
 |pure x=>simp only[aF,a00]at h;subst h;rfl
 |program k ih=>simp only[aF]at h;simp only[Sem.run];exact ih _ h
 |mark m k ih=>simp only[aF]at h;simp only[Sem.run];exact ih h
 |_=>simp[aF]at h
@[simp] theorem aL(x:Sem α)(f:α->Sem β):aF P (x>>=f)=(aF P x).bind fun a=>aF P (f a):=by
 show aF P (x.bind f)=_;induction x with
 |program k ih=>simp only[Sem.bind,aF];exact ih _
 |mark m k ih=>simp only[Sem.bind,aF];exact ih
 |pure a=>rfl
 |_=>rfl
@[simp] theorem bJ(a:α):aF P (Pure.pure a:Sem α)=some a:=rfl
@[simp] theorem eF:aF P program=some P:=rfl
@[simp] theorem pureRun_stuck(A:String):aF P (stuck A:Sem α)=none:=rfl
@[simp] theorem pureRun_unsupported(u:Unsupported):aF P (unsupported u:Sem α)=none:=rfl
@[simp] theorem pureRun_goPanic(v:Value):aF P (goPanic v:Sem α)=none:=rfl
@[simp] theorem pureRun_choose(q:Question):aF P (choose q)=none:=rfl
@[simp] theorem pureRun_mark(m:Mark):aF P (mark m)=some ():=rfl
theorem pureRun_ite(c:Prop) [Decidable c](x y:Sem α):aF P (if c then x else y)=if c then aF P x else aF P y:=by split<;>rfl
@[simp] theorem bE(t:TypeId):aF P (underlying t)=P.underlying t:=by unfold underlying;simp only[aL,eF,a0n];cases P.underlying t<;>rfl
@[simp] theorem cZ(t:TypeId):aF P (typeInfo t)=P.info? t:=by unfold typeInfo;simp only[aL,eF,a0n];cases P.info? t<;>rfl
@[simp] theorem cw(t:TypeId):aF P (sizeOf t)=cW P t:=by unfold sizeOf cW;simp only[aL,cZ];cases P.info? t<;>rfl
@[simp] theorem fw(t:TypeId):aF P (isAgg t)=e7 P t:=by
 unfold isAgg e7;simp only[aL,bE];cases P.underlying t with
 |none=>rfl
 |some d=>cases d<;>rfl
theorem gK(e:RuntimeError):aF P (runtimePanic e:Sem α)=none:=by unfold runtimePanic;cases e<;>simp[newVar,newRow,newObj,aF,elemOf]<;>(intros;split<;>simp[aF])
theorem gX(k:IntKind)(x y:Int)(c:BoundsCode):aF P (boundsPanic k x y c:Sem α)=none:=by unfold boundsPanic;simp[gK,pureRun_ite]
end pure_
section runs
variable {P:Program} (w:World)
theorem bc{t:TypeId}{n:Nat}(h:cW P t=some n):(sizeOf t).run P w= .ok n w:=cF P (by rw[cw];exact h) w
theorem mz{t:TypeId}{b:Bool}(h:e7 P t=some b):(isAgg t).run P w= .ok b w:=cF P (by rw[fw];exact h) w
theorem ep{t:TypeId}{i:TypeInfo}(h:P.info? t=some i):(typeInfo t).run P w= .ok i w:=cF P (by rw[cZ];exact h) w
theorem az{t:TypeId}{d:TypeDesc}(h:P.underlying t=some d):(underlying t).run P w= .ok d w:=cF P (by rw[bE];exact h) w
theorem eB{t:TypeId}{z:List Value}(h:cy P t=some z): ∃i v,P.info? t=some i/\i.zero=some v/\v.cells.toList=z/\z.all noA0=true:=by
 unfold cy at h;split at h
 ·rename_i i hi;split at h
  ·rename_i v A;cases hc:v.cells.toList.all noA0 with
   |false=>rw[hc]at h;cases h
   |true=>rw[hc]at h;simp at h;subst h;exact⟨i,v,hi,A,V,hc⟩
  cases h
 cases h
theorem eo{t:TypeId}{i:TypeInfo}{v:Value}(hi:P.info? t=some i)(A:i.zero=some v):(zeroValue t).run P w= .ok v w:=by unfold zeroValue;simp[ep w hi,A]
end runs
section mem
variable {P:Program} {μ:Emb} {H:Heap} {w:World}
theorem jN(h:WRel μ H w){b o:Nat}{l:Loc}{v:Value}(Z:μ b=some l)(A:H.cellAt ⟨b,o,none⟩=some v):
  ∃v',w.cell? ⟨l.c,l.sh+o,none⟩=some v'/\VRel μ v v':=by
 simp only[Heap.cellAt,fZ]at A
 split at A
 ·rename_i cs al ro hg;have N:=h.obj b l _ Z hg;cases ro with
  |true=>exact N.2.2.2 o v A
  |false=>
   obtain⟨_,ai,e,hh,_,_,U⟩:=N
   obtain⟨v',T,E⟩:=U o v A
   exact⟨v',by simp only[World.cell?,hh];simpa using T,E⟩
 cases A
theorem db(c o j:Nat):Addr.add ⟨c,o,none⟩ j=⟨c,o+j,none⟩:=by
 unfold Addr.add;split
 ·subst_vars;rfl
 rfl
theorem hU(h:WRel μ H w){b o n:Nat}{l:Loc}{vs:List Value}(hb:μ b=some l)(A:H.loadN ⟨b,o,none⟩ n=some vs):
  ∃ag,(loadCells ⟨l.c,l.sh+o,none⟩ n).run P w= .ok ⟨ag⟩ w/\LRel μ vs ag/\vs.length=n:=by
 simp only[Heap.loadN,bS,ca,bG]at A
 split at A
 ·rename_i cs aw ro hg;cases hq:Nat.beq ((cs.drop o).take n).length n with
  |false=>rw[hq]at A;cases A
  |true=>
   rw[hq]at A;simp only[cond_true,a00]at A
   have N:((cs.drop o).take n).length=n:=a0c hq
   have ao: ∀j,j<n->∃v v',cs[o+j]?=some v/\w.cell? ⟨l.c,l.sh+o+j,none⟩=some v'/\VRel μ v v':=by
    intro j Z;have ad:o+j<cs.length:=by rw[a0o,a0H]at N;omega
    have ai:H.cellAt ⟨b,o+j,none⟩=some cs[o+j]:=by simp only[Heap.cellAt,hg,fZ];exact a06 ad
    obtain⟨v',hc,hr⟩:=jN h hb ai;exact⟨_,v',a06 ad,by rw[←hc,a1v],hr⟩
   have U: ∃f:Nat->Value,∀j,j<n->w.cell? (Addr.add ⟨l.c,l.sh+o,none⟩ j)=some (f j)/\∀v,cs[o+j]?=some v->VRel μ v (f j):=by refine⟨fun j=>(w.cell? ⟨l.c,l.sh+o+j,none⟩).getD undef,fun j Z=>?_⟩;obtain⟨v,v',E,T,h3⟩:=ao j Z;simp only[db,T,a0O];refine⟨trivial,fun u hu=>?_⟩;rw[E]at hu;injection hu with hu;subst hu;exact h3
   obtain⟨f,U⟩:=U
   refine⟨(List.range n).map f,run_loadCells w _ n f (fun j Z=>(U j Z).1),?_,by rw[←A];exact N⟩
   subst A
   refine⟨by rw[N];simp,fun i v v' E T=>?_⟩
   rw[a0A]at E
   split at E
   ·rename_i hi;rw[a0L]at E;simp[hi]at T;subst T;exact(U i hi).2 v E
   cases E
 cases A
theorem hN(h:WRel μ H w){b o:Nat}{l:Loc}{t:TypeId}{v:Value}(U:μ b=some l)(A:H.loadV P t ⟨b,o,none⟩=some v):
  ∃v',(loadVar t ⟨l.c,l.sh+o,none⟩).run P w= .ok v' w/\VRel μ v v':=by
 unfold Heap.loadV at A
 split at A
 ·rename_i N;split at A
  ·rename_i n hn;split at A
   ·rename_i vs hl;injection A with A;subst A;obtain⟨Z,T,E,_⟩:=hU (P:=P) h U hl;refine⟨.agg ⟨Z⟩,?_,.agg _ _ E.1 E.2⟩;simp[loadVar,mz w N,bc w hn,T]
   cases A
  cases A
 ·rename_i N;obtain⟨v',hc,hr⟩:=jN h U A;refine⟨v',?_,hr⟩;simp[loadVar,mz w N,hc]
 cases A
theorem lu{α:Type}(l:List α)(k:Nat):(Array.mk l)[k]?=l[k]?:=by simp
theorem lh: ∀(cs A:List Value),A.length<=cs.length->(over cs A).length=cs.length
 | [],[],_=>rfl
 | [],_::_,h=>by simp at h
 |_::_,[],_=>rfl
 |c::cs,v::A,h=>by simp only[over,a04];rw[lh cs A (by simpa using h)]
theorem over_get: ∀(cs A:List Value) (i:Nat),A.length<=cs.length->(over cs A)[i]?=if i<A.length then A[i]? else cs[i]?
 | [],[],i,_=>by simp[over]
 | [],_::_,_,h=>by simp at h
 |_::_,[],i,_=>by simp[over]
 |c::cs,v::A,0,_=>by simp[over]
 |c::cs,v::A,i+1,h=>by simp[over,over_get cs A i (by simpa using h)]
theorem cg: ∀(cs:List Value) (o:Nat) (A:List Value),o+A.length<=cs.length->(be cs o A).length=cs.length
 |cs,0,A,h=>by cases cs<;>exact lh _ _ M
 | [],o+1,A,h=>by simp[be]
 |c::cs,o+1,A,h=>by simp only[be,a04];rw[cg cs o A (by simp at h;omega)]
theorem br: ∀(cs:List Value) (o:Nat) (A:List Value) (i:Nat),o+A.length<=cs.length->
  (be cs o A)[i]?=if o<=i/\i<o+A.length then A[i-o]? else cs[i]?
 |cs,0,A,i,h=>by
  have:be cs 0 A=over cs A:=by cases cs<;>rfl
  rw[this,over_get cs A i M];simp
 | [],o+1,A,i,h=>by simp at h
 |c::cs,o+1,A,0,h=>by simp[be]
 |c::cs,o+1,A,i+1,h=>by
  simp only[be,a1K];rw[br cs o A i (by simp at h;omega)];by_cases hc:o<=i/\i<o+A.length
  ·rw[if_pos hc,if_pos M];congr 1;omega
  rw[if_neg hc,if_neg M]
theorem dC(c:Nat)(e:TypeId): ∀(E:List Value) (w:World) (A:Array Value) (o i:Nat),w.heap[c]?=some (.cells A e (0,0))->
  o+i+E.length<=A.size->E.all Value.oneCell'=true->E≠ []->
  (storeCells ⟨c,o,none⟩ E i).run P w= .ok () (bB w c (.cells ⟨be A.toList (o+i) E⟩ e (0,0)))
 | [],_,_,_,_,_,_,_,hne=>absurd V hne
 |v::E,w,A,o,i,hh,hl,hall,_=>by
  simp only[a0E,a0a]at hall;simp only[a04]at hl;have T:w.cell? ⟨c,o+i,none⟩=some (A[o+i]'M):=by simp[World.cell?,hh,show o+i<A.size by omega]
  have aa:w.frozen? ⟨c,o+i,none⟩=false:=by simp[World.frozen?,hh]
  have Z:w.setCell ⟨c,o+i,none⟩ v=bB w c (.cells (A.setIfInBounds (o+i) v) e (0,0)):=by
   unfold World.setCell bB;congr 1;apply a1P;intro k;by_cases N:c=k
   ·subst N;rw[Array.getElem?_modify,if_pos V,hh,a1h,if_pos V,if_pos (cP hh)];simp
   simp[Array.getElem?_modify,N,a1I N]
  have h1:(storeCells ⟨c,o,none⟩ (v::E) i).run P w=(storeCells ⟨c,o,none⟩ E (i+1)).run P (bB w c (.cells (A.setIfInBounds (o+i) v) e (0,0))):=by simp only[storeCells,Sem.run_bind,db];rw[run_store P w _ v _ hall.1,T];simp[aa,Z]
  rw[h1];by_cases hv:E=[]
  ·subst hv;simp only[storeCells,Sem.run_pure];congr 3;apply a1P;intro k;simp only[a07]at hl;rw[a1h];refine Eq.trans ?_ (lu _ _).symm;rw[br _ _ _ _ (by simp;omega)];by_cases N:o+i=k
   ·subst N;rw[if_pos V,if_pos M,if_pos (by simp)];simp
   rw[if_neg N,if_neg (by simp;omega)];simp
  have ad:(bB w c (.cells (A.setIfInBounds (o+i) v) e (0,0))).heap[c]?=some (.cells (A.setIfInBounds (o+i) v) e (0,0)):=cM w _ (cP hh);rw[dC c e E _ _ o (i+1) ad (by simp;omega) hall.2 hv];congr 1;have: ∀(x y:Obj),bB (bB w c x) c y=bB w c y:=by intro x y;simp[bB]
  rw[this];congr 2;apply a1P;intro k;refine(lu _ _).trans (Eq.trans ?_ (lu _ _).symm);rw[br _ _ _ _ (by simp;omega),br _ _ _ _ (by simp;omega)];by_cases N:o+i=k
  ·subst N;rw[if_neg M,if_pos (by simp)];simp[show o+i<A.size by omega]
  by_cases U:o+(i+1)<=k/\k<o+(i+1)+E.length
  ·rw[if_pos U,if_pos (by simp;omega)];rw[show k-(o+i)=(k-(o+(i+1)))+1 by omega,a1K]
  rw[if_neg U,if_neg (by simp;omega)];simp[N]
theorem gh(h:WRel μ H w){b o:Nat}{l:Loc}{N A:List Value}{H':Heap}(hb:μ b=some l)(hs:H.storeL ⟨b,o,none⟩ N=some H')(T:LRel μ N A):
  ∃w',(storeCells ⟨l.c,l.sh+o,none⟩ A).run P w= .ok () w'/\Post μ H w μ H' w':=by
 simp only[Heap.storeL,bG,oi,Nat.add_eq]at hs
 split at hs
 ·rename_i cs a3 hg;cases hq:(Nat.ble (o+N.length) cs.length&&N.all Value.oneCell') with
  |false=>rw[hq]at hs;cases hs
  |true=>
   rw[hq]at hs;simp only[cond_true,a00]at hs
   simp only[a0a]at hq
   have Z:o+N.length<=cs.length:=a08 hq.1
   obtain⟨r1,E,e,U,r2,r3,r4⟩:=h.obj b l _ hb hg
   have aa:=T.1
   have ap:A.all Value.oneCell'=true:=by
    rw[a0t];intro x hx;obtain⟨i,hi⟩:=List.getElem?_of_mem hx;have al:i<N.length:=by rw[aa];exact(a0u.1 hi).1
    have hr:=T.2 i N[i] x (a06 al) hi;rw[hr.oneCell];exact a0t.1 hq.2 _ (a0T al)
   by_cases an:A=[]
   ·subst an;have hv:N=[]:=by simpa using aa
    subst hv;have ao:be cs o []=cs:=by apply a1l;intro k;rw[br _ _ _ _ (by simpa using Z),if_neg (by simp)]
    subst hs;refine⟨bB w l.c (.cells E e (0,0)),?_,?_⟩
    ·have:bB w l.c (.cells E e (0,0))=w:=by
      unfold bB;congr 1;apply a1P;intro k;by_cases hk:l.c=k
      ·subst hk;rw[a1h,if_pos V,if_pos (cP U),U]
      rw[a1I hk]
     rw[this];rfl
    refine Post.put h hb hg V _ V _ ⟨r1,E,e,cM w _ (cP U),r2,by rw[ao];exact r3,fun i v hi=>r4 i v (by rw[ao]at hi;exact hi)⟩
   subst hs
   refine⟨_,by simpa using dC (P:=P) l.c e A w E (l.sh+o) 0 U M ap an,?_⟩
   refine Post.put h hb hg V _ V _ ⟨r1,_,e,cM w _ (cP U),?_,?_,?_⟩
   ·rw[←r2];show(be E.toList (l.sh+o) A).length=_;rw[cg _ _ _ (by simp;omega)];simp
   ·rw[cg _ _ _ Z];exact r3
   intro i v hi
   rw[br _ _ _ _ Z]at hi
   have mg: ∀v':Value,(be E.toList (l.sh+o) A)[l.sh+i]?=some v'->(Array.mk (be E.toList (l.sh+o+0) A))[l.sh+i]?=some v':=fun v' hv=>(lu _ _).trans hv
   rw[br _ _ _ _ (by simp;omega)]at mg
   by_cases hc:o<=i/\i<o+N.length
   ·rw[if_pos hc]at hi;rw[if_pos M]at mg;obtain⟨v',ai,hr⟩:=T.get hi;exact⟨v',mg v' (by rw[←ai];congr 1;omega),hr⟩
   rw[if_neg hc]at hi
   rw[if_neg M]at mg
   obtain⟨v',ai,hr⟩:=r4 i v hi
   exact⟨v',mg v' (by simpa using ai),hr⟩
 cases hs
theorem di(h:WRel μ H w)(Z:μ H.next=none)(e:TypeId){cs E:List Value}(T:LRel μ cs E)(A:List Value)(N:Option Nat)(ad:N=none->A=[]):
  ∃l,l.c=w.heap.size/\l.sh=0/\l.opn=N/\l.csz=cs.length+A.length/\
  (newRow e ⟨E++A⟩).run P w= .ok ⟨w.heap.size,0,none⟩ (w.alloc (.cells ⟨E++A⟩ e))/\
   Post μ H w (μ.set H.next l) (aR H cs N) (w.alloc (.cells ⟨E++A⟩ e)):=by
 refine⟨⟨w.heap.size,0,N,cs.length+A.length⟩,V,V,V,V,by simp[newRow],?_⟩
 refine Post.push h Z _ V _ _ ⟨V,_,e,nI w _,by simp[T.1],by simp,fun i v hi=>?_⟩
 obtain⟨v',U,hr⟩:=T.get hi
 refine⟨v',?_,hr.mono (Emb.set_ext _ Z)⟩
 have:i<E.length:=(a0u.1 U).1
 simp only[a1c,lu]
 rw[a0Q this];exact U
end mem
def ANRel(μ:Emb):AN->Next->Prop
 | .val v,.value v'=>VRel μ v v'
 | .skip,.skip=>True
 | .enter f args,.enter f' args'=>f=f'/\LRel μ args args'.toList
 |_,_=>False
theorem jy(bs:ByteArray): ∀(n i:Nat) (r:List UInt8),bs.size-i=n->ByteArray.toList.loop bs i r=r.reverse++bs.data.toList.drop i:=by
 intro n;induction n with
 |zero=>
  intro i r h
  rw[ByteArray.toList.loop,if_neg M,a1O (by simp only[a20,ByteArray.size_data];omega),a0p]
 |succ n ih=>
  intro i r h
  have hi:i<bs.size:=M
  rw[ByteArray.toList.loop,if_pos hi,ih (i+1) _ M]
  have A:i<bs.data.toList.length:=by simpa using hi
  rw[a1d A]
  simp[ByteArray.get!,hi]
theorem dr(bs:ByteArray):bs.toList=bs.data.toList:=by unfold ByteArray.toList;rw[jy bs _ 0 [] rfl];simp
section
variable {P:Program} {μ:Emb}
theorem dE{ρ ρ':Operand->Value}{o:Oper}{H H':Heap}{r:AN}(h:bF P ρ o H=some (r,H'))(hs: ∀cs b,o.op≠ .select cs b)
  (Z: ∀x∈o.op.operands,VRel μ (ρ x) (ρ' x)):H'=H/\∃v v',r= .val v/\(∀w,(execOp ρ' o).run P w= .ok (.value v') w)/\VRel μ v v':=by
 unfold bF at h
 cases E:o.op.operands.toList.all fun x=>jI (ρ x) with
 |false=>rw[E]at h;cases h
 |true=>
  rw[E]at h
  have T:execOp ρ' o=execOp ρ o:=execOp_congr o hs fun x N=>(Z x N).eq1 (a0t.1 E x (by simpa using N))
  simp only[cond_true]at h
  split at h
  ·rename_i v U;cases A:noA2 v with
   |false=>rw[A]at h;cases h
   |true=>
    rw[A]at h;simp only[cond_true,a00,a05]at h
    obtain⟨rfl,rfl⟩:=h
    exact⟨V,v,v,V,fun w=>by rw[T];exact cF P U w,VRel.refl2 A⟩
  cases h
theorem lB{s:Sem Value}{H H':Heap}{r:AN}(h:lift P s H=some (r,H')):H'=H/\∃v,r= .val v/\aF P s=some v:=by
 unfold lift at h;split at h
 ·rename_i v A;simp only[a00,a05]at h;exact⟨h.2.symm,v,h.1.symm,A⟩
 cases h
theorem intBin_sound{op:BinOp}{k:IntKind}{a b:Int}{v:Value}(h:mJ op k a b=some v)(t:TypeId)(w:World):
  (binOp op t (.int k a) (.int k b)).run P w= .ok v w/\noA0 v=true:=by
 cases op<;>simp only[mJ,a00,reduceCtorEq]at h
 case quo=>
  cases A:(b==0) with
  |true=>rw[A]at h;cases h
  |false=>
   rw[A]at h;simp only[cond_false,a00]at h;subst h
   have E: ¬b=0:=by simpa using A
   simp[binOp_quo,Op.intDiv,E,noA0]
 case rem=>
  cases A:(b==0) with
  |true=>rw[A]at h;cases h
  |false=>
   rw[A]at h;simp only[cond_false,a00]at h;subst h
   have E: ¬b=0:=by simpa using A
   simp[binOp_rem,Op.intDiv,E,noA0]
 all_goals subst h
 case add=>simp[binOp_add,Op.intArith,noA0]
 case sub=>simp[binOp_sub,Op.intArith,noA0]
 case mul=>simp[binOp_mul,Op.intArith,noA0]
 case and=>simp[binOp_and,intBits_and,noA0,aJ]
 case or=>simp[binOp_or,intBits_or,noA0,aJ]
 case xor=>simp[binOp_xor,intBits_xor,noA0,aJ]
 case andNot=>simp[binOp_andNot,intBits_andNot,noA0,aJ]
 case eql=>simp[binOp_eql,noA0]
 case neq=>simp[binOp_neq,noA0]
 case lss=>simp[binOp_lss,noA0]
 case leq=>simp[binOp_leq,noA0]
 case gtr=>simp[binOp_gtr,noA0]
 case geq=>simp[binOp_geq,noA0]
theorem shBin_sound{op:BinOp}{k E:IntKind}{a b:Int}{v:Value}(h:shBin op k a b=some v)(t:TypeId)(w:World):
  (binOp op t (.int k a) (.int E b)).run P w= .ok v w/\noA0 v=true:=by
 cases op<;>simp only[shBin,reduceCtorEq]at h
 all_goals
  cases b with
  |negSucc n=>simp[shiftN]at h
  |ofNat n=>
   simp only[shiftN,a00]at h;subst h
   have A: ¬((n:Int)<0):=M
   simp[binOp_shl,binOp_shr,Op.shift,A,noA0,Nat.min_def]
theorem kP{op:BinOp}{t:TypeId}{a b:ByteArray}{v:Value}(h:strOp op a b=some v)(w:World):
  (binOp op t (.string a) (.string b)).run P w= .ok v w/\noA0 v=true:=by
 have N:binOp op t (.string a) (.string b)=Op.stringOp op a b:=by cases op<;>rfl
 rw[N]
 unfold strOp at h
 split at h
 ·injection h with h;subst h;simp[Op.stringOp,dr,fK,noA0]
 ·injection h with h;subst h;simp[Op.stringOp,dr,fK,noA0]
 ·injection h with h;subst h;simp[Op.stringOp,dr,noA0]
 ·injection h with h;subst h;simp[Op.stringOp,dr,fK,noA0]
 ·injection h with h;subst h;simp[Op.stringOp,dr,fK,noA0]
 ·injection h with h;subst h;simp[Op.stringOp,dr,noA0]
 ·simp only[dS,bG]at h;cases A:Nat.ble (a.data.toList++b.data.toList).length 1099511627776 with
  |false=>rw[A]at h;cases h
  |true=>
   rw[A]at h;simp only[cond_true,a00]at h;subst h
   have E:=a08 A
   simp only[a02,a20,ByteArray.size_data]at E
   refine⟨?_,V⟩
   have T: ¬(((a.size+b.size:Nat):Int)>IntKind.i64.max):=by rw[IntKind.max_i64];omega
   simp only[Op.stringOp,if_neg T,Sem.run_pure]
   congr 2
 cases h
theorem mG{a:Option Addr}{v':Value}(h:VRel μ (.pointer a) v'): ∃A,v'= .pointer A/\A.isNone=a.isNone:=by
 cases h with
 |atom _ h0=>exact⟨a,V,V⟩
 |ptr b o l hb=>exact⟨_,V,V⟩
theorem dp{a:Option Addr}{n k:Nat}{v':Value}(h:VRel μ (.slice a n k) v'): ∃A E,v'= .slice A n E/\A.isNone=a.isNone:=by
 cases h with
 |atom _ h0=>exact⟨a,k,V,V⟩
 |sliceC b o n k l hb ho=>exact⟨_,_,V,V⟩
 |sliceO b o o' n k E e l hb ho h1 h2 h3 h4=>exact⟨_,_,V,V⟩
 |sliceZ b o a l hb=>exact⟨_,_,V,V⟩
theorem mH{a:Option Nat}{v':Value}(h:VRel μ (.map a) v'): ∃A,v'= .map A/\A.isNone=a.isNone:=by
 cases h with
 |atom _ h0=>exact⟨a,V,V⟩
 |map b l hb=>exact⟨_,V,V⟩
theorem eu{t:TypeId}{x y:Value}{w:World}{b:Bool}(h: ∀d,(Op.equalIn (d+1) t x y).run P w= .ok b w):(Op.equal t x y).run P w= .ok b w:=h 9999
theorem lq{t:TypeId}{x y U Z:Value}{b:Bool}(h:nilEq P t x y=some b)(N:VRel μ x U)(T:VRel μ y Z)(w:World):
  (Op.equal t U Z).run P w= .ok b w/\(∀op u v,eqGuard op t u v U Z=pure ())/\(∀op,op= .eql\/op= .neq->binOp op t U Z=(match op with
   | .eql=>do pure (.bool (←Op.equal t U Z))
   |_=>do pure (.bool (!(←Op.equal t U Z))))):=by
 unfold nilEq at h
 split at h
 ·rename_i e b0 E;obtain rfl:=N.eq0 V;obtain⟨b',rfl,hb⟩:=mG T;injection h with h;subst h;refine⟨?_,fun op u v=>by cases op<;>rfl,fun op A=>by rcases A with rfl|rfl<;>rfl⟩;exact eu fun d=>by simp[Op.equalIn,az w E,hb]
 ·rename_i e a0 E;obtain rfl:=T.eq0 V;obtain⟨a',rfl,ha⟩:=mG N;injection h with h;subst h;refine⟨?_,fun op u v=>by cases op<;>rfl,fun op A=>by rcases A with rfl|rfl<;>rfl⟩;exact eu fun d=>by cases a'<;>simp[Op.equalIn,az w E,←ha]
 ·rename_i e n k b0 n2 k2 E;obtain⟨rfl,rfl,rfl⟩:=N.sliceNil_inv;obtain⟨b',k',rfl,hb⟩:=dp T;injection h with h;subst h;refine⟨?_,fun op u v=>by cases op<;>rfl,fun op A=>by rcases A with rfl|rfl<;>rfl⟩;exact eu fun d=>by simp[Op.equalIn,az w E,hb]
 ·rename_i e a0 n k n2 k2 E;obtain⟨rfl,rfl,rfl⟩:=T.sliceNil_inv;obtain⟨a',k',rfl,ha⟩:=dp N;injection h with h;subst h;refine⟨?_,fun op u v=>by cases op<;>rfl,fun op A=>by rcases A with rfl|rfl<;>rfl⟩;exact eu fun d=>by cases a'<;>simp[Op.equalIn,az w E,←ha]
 ·rename_i e1 e2 b0 E;obtain rfl:=N.eq0 V;obtain⟨b',rfl,hb⟩:=mH T;injection h with h;subst h;refine⟨?_,fun op u v=>by cases op<;>rfl,fun op A=>by rcases A with rfl|rfl<;>rfl⟩;exact eu fun d=>by simp[Op.equalIn,az w E,hb]
 ·rename_i e1 e2 a0 E;obtain rfl:=T.eq0 V;obtain⟨a',rfl,ha⟩:=mH N;injection h with h;subst h;refine⟨?_,fun op u v=>by cases op<;>rfl,fun op A=>by rcases A with rfl|rfl<;>rfl⟩;exact eu fun d=>by cases a'<;>simp[Op.equalIn,az w E,←ha]
 ·rename_i ps rs va E;obtain rfl:=N.eq0 V;obtain rfl:=T.eq0 V;injection h with h;subst h;refine⟨?_,fun op u v=>by cases op<;>rfl,fun op A=>by rcases A with rfl|rfl<;>rfl⟩;exact eu fun d=>by simp[Op.equalIn,az w E]
 ·rename_i ps rs va fn xs ys E;obtain rfl:=N.eq0 V;obtain⟨ap,aq,rfl,_,_⟩:=T.func_inv;injection h with h;subst h;refine⟨?_,fun op u v=>by cases op<;>rfl,fun op A=>by rcases A with rfl|rfl<;>rfl⟩;exact eu fun d=>by simp[Op.equalIn,az w E]
 ·rename_i ps rs va fn xs ys E;obtain rfl:=T.eq0 V;obtain⟨ap,aq,rfl,_,_⟩:=N.func_inv;injection h with h;subst h;refine⟨?_,fun op u v=>by cases op<;>rfl,fun op A=>by rcases A with rfl|rfl<;>rfl⟩;exact eu fun d=>by simp[Op.equalIn,az w E]
 cases h
theorem part_rel{t:TypeId}{cs A:Array Value}{off:Nat}{v:Value}(T:LRel μ cs.toList A.toList)(h:aF P (part t cs off)=some v):
  ∃v',aF P (part t A off)=some v'/\VRel μ v v':=by
 unfold part at h⊢
 simp only[aL,fw]at h⊢
 cases N:e7 P t with
 |none=>rw[N]at h;simp at h
 |some g=>
  rw[N]at h
  cases g with
  |true=>
   simp only[a0n,if_true,aL,cw]at h⊢
   cases hs:cW P t with
   |none=>rw[hs]at h;simp at h
   |some n=>
    rw[hs]at h
    simp only[a0n,bJ,a00]at h⊢
    subst h
    refine⟨_,V,?_⟩
    have:=(T.take (off+n)).drop off
    have ex: ∀c:Array Value,(c.extract off (off+n)).toList=(c.toList.take (off+n)).drop off:=fun c=>by simp[a2t]
    exact .agg _ _ (by rw[ex,ex];exact this.1) (by rw[ex,ex];exact this.2)
  |false=>
   simp only[a0n,a0M,if_false]at h⊢
   cases hc:cs[off]? with
   |none=>rw[hc]at h;simp at h
   |some u=>
    rw[hc]at h
    simp only[bJ,a00]at h;subst h
    obtain⟨v',U,E⟩:=T.get (i:=off) (v:=u) (by simpa using hc)
    refine⟨v',?_,E⟩
    have:A[off]?=some v':=by simpa using U
    rw[this];rfl
theorem field_rel{t:TypeId}{x N:Value}{f:Nat}{v:Value}(U:VRel μ x N)(h:aF P (Instr.field t x f)=some v):
  ∃v',aF P (Instr.field t N f)=some v'/\VRel μ v v':=by
 unfold Instr.field at h⊢
 simp only[aL,bE]at h⊢
 cases E:P.underlying t with
 |none=>rw[E]at h;simp at h
 |some d=>
  rw[E]at h
  simp only[a0n]at h⊢
  cases d with
  |struct fields=>
   simp only at h⊢
   cases A:fields[f]? with
   |none=>rw[A]at h;simp at h
   |some fd=>
    rw[A]at h
    simp only[aL]at h⊢
    cases x with
    |agg cs=>
     obtain⟨Z,rfl,T⟩:=U.agg_inv
     simp only[asAgg,bJ,a0n]at h⊢
     exact part_rel T h
    |_=>simp[asAgg]at h
  |_=>simp at h
theorem index_rel{t:TypeId}{x T i i':Value}{v:Value}(Z:VRel μ x T)(hi:VRel μ i i')(E: ∀s,x≠ .string s)(h:aF P (Instr.index t x i)=some v):
  ∃v',aF P (Instr.index t T i')=some v'/\VRel μ v v':=by
 cases i with
 |int k n=>
  obtain rfl:=hi.int_inv
  unfold Instr.index at h⊢
  simp only[asIntOf,aL,bJ,a0n,bE]at h⊢
  cases N:P.underlying t with
  |none=>rw[N]at h;simp at h
  |some d=>
   rw[N]at h
   simp only[a0n]at h⊢
   cases d with
   |array len e=>
    cases x with
    |agg cs=>
     obtain⟨aa,rfl,U⟩:=Z.agg_inv
     simp only at h⊢
     by_cases A:0<=n/\n<(len:Int)
     ·rw[if_pos A]at h⊢;simp only[aL,cw]at h⊢;cases hs:cW P e with
      |none=>rw[hs]at h;simp at h
      |some sz=>rw[hs]at h;simp only[a0n]at h⊢;exact part_rel U h
     rw[if_neg A,gX]at h;cases h
    |_=>simp at h
   |string=>
    cases x with
    |string s=>exact absurd V (E s)
    |_=>simp at h
   |_=>simp at h
 |pointer a=>cases a<;>simp[Instr.index,asIntOf]at h
 |_=>simp[Instr.index,asIntOf]at h
theorem iR: ∀(l l':List Value) (s off:Nat) (A T:Array Value),LRel μ l l'->LRel μ A.toList T.toList->
  LRel μ ((l.zipIdx s).foldl (fun cs p=>cs.setIfInBounds (off+p.2) p.1) A).toList ((l'.zipIdx s).foldl (fun cs p=>cs.setIfInBounds (off+p.2) p.1) T).toList
 | [],l',s,off,A,T,h,hA=>by rw[h.nil_left];exact hA
 |v::l,l',s,off,A,T,h,hA=>by
  obtain⟨v',t',rfl,hv,Z⟩:=h.cons_left;simp only[List.zipIdx_cons,a2m];refine iR l t' (s+1) off _ _ Z ⟨by simpa using hA.1,fun i x x' E N=>?_⟩;simp only[Array.toList_setIfInBounds,a1T]at E N;have U:=hA.1;by_cases hi:off+s=i
  ·rw[if_pos hi]at E N;split at E
   ·rename_i ai;rw[if_pos M]at N;injection E with E;injection N with N;subst E N;exact hv
   cases E
  rw[if_neg hi]at E N;exact hA.2 i x x' E N
theorem ku{E:Nat->Option (Nat×Nat)}: ∀(ps ps':List (Nat×Value)) (A A':Array Value) (r:Array Value),ps.length=ps'.length->
  (∀(i:Nat) x N,ps[i]?=some x->ps'[i]?=some N->x.1=N.1/\VRel μ x.2 N.2)->LRel μ A.toList A'.toList->Instr.fill E A ps=some r->
  ∃r',Instr.fill E A' ps'=some r'/\LRel μ r.toList r'.toList
 | [],ps',A,A',r,hl,_,hA,h=>by have:ps'=[]:=a0z hl.symm;subst this;simp only[Instr.fill,a00]at h;subst h;exact⟨A',V,hA⟩
 |(i,v)::ps,ps',A,A',r,hl,hp,hA,h=>by
  cases ps' with
  |nil=>simp at hl
  |cons N ps'=>
   obtain⟨i',v'⟩:=N
   obtain⟨hi,hv⟩:=hp 0 (i,v) (i',v') V V
   simp only at hi hv;subst hi
   simp only[Instr.fill]at h⊢
   cases U:E i with
   |none=>rw[U]at h;cases h
   |some os=>
    obtain⟨off,size⟩:=os
    rw[U]at h
    simp only at h⊢
    have hc:=hv.cells
    have aa:v'.cells.size=v.cells.size:=by have:=hc.1;simpa using this.symm
    have Z:A'.size=A.size:=by have:=hA.1;simpa using this.symm
    rw[aa,Z]
    split at h
    ·cases h
    rename_i T
    rw[if_neg T]
    refine ku ps ps' _ _ r (by simpa using hl) (fun j x N h1 h2=>hp (j+1) x N (by simpa using h1) (by simpa using h2)) ?_ h
    have:=iR v.cells.toList v'.cells.toList 0 off A A' hc hA
    have e: ∀(u:Value) (B:Array Value),Array.foldl (fun cs x=>cs.setIfInBounds (off+x.snd) x.fst) B u.cells.zipIdx=List.foldl (fun cs p=>cs.setIfInBounds (off+p.snd) p.fst) B u.cells.toList.zipIdx:=fun u B=>by rw[←Array.foldl_toList,Array.toList_zipIdx]
    exact(e v A▸e v' A'▸this:LRel μ (Array.foldl (fun cs x=>cs.setIfInBounds (off+x.snd) x.fst) A v.cells.zipIdx).toList (Array.foldl (fun cs x=>cs.setIfInBounds (off+x.snd) x.fst) A' v'.cells.zipIdx).toList)
end
section
variable {P:Program} {μ:Emb}
theorem build_rel{t:TypeId}{ps ps':Array (Nat×Value)}{v:Value}(Z:ps.toList.length=ps'.toList.length)
  (hp: ∀(i:Nat) x x',ps.toList[i]?=some x->ps'.toList[i]?=some x'->x.1=x'.1/\VRel μ x.2 x'.2)
  (hz:(cy P t).isSome=true) (h:aF P (Instr.build t ps)=some v):
  ∃v',aF P (Instr.build t ps')=some v'/\VRel μ v v':=by
 unfold Instr.build at h⊢
 have al:aF P (zeroValue t)=(P.info? t).bind (·.zero):=by
  unfold zeroValue;simp only[aL,cZ];cases hi:P.info? t with
  |none=>rfl
  |some i=>simp only[a0n];cases i.zero<;>rfl
 simp only[aL,al,bE]at h⊢
 cases hi:(P.info? t).bind (·.zero) with
 |none=>rw[hi]at h;simp at h
 |some z=>
  rw[hi]at h
  have T:LRel μ z.cells.toList z.cells.toList:=by obtain⟨zl,ai⟩:=Option.isSome_iff_exists.1 hz;obtain⟨i,v0,h1,h2,h3,h4⟩:=eB (P:=P) ai;rw[h1]at hi;simp only[a0n,h2,a00]at hi;subst hi;exact LRel.refl0 (by rw[h3];exact h4)
  simp only[a0n]at h⊢
  cases hu:P.underlying t with
  |none=>rw[hu]at h;simp at h
  |some d=>
   rw[hu]at h
   simp only[a0n]at h⊢
   cases d with
   |struct fields=>
    simp only[aL]at h⊢
    cases hm:aF P (fields.mapM fun f=>do let y ←sizeOf f.type;Pure.pure (f.offset,y)) with
    |none=>rw[hm]at h;simp at h
    |some places=>
     rw[hm]at h
     simp only[a0n]at h⊢
     cases E:Instr.fill (fun x=>places[x]?) z.cells ps.toList with
     |none=>rw[E]at h;simp at h
     |some r=>
      rw[E]at h
      simp only[bJ,a00]at h
      subst h
      obtain⟨U,N,A⟩:=ku _ _ _ _ _ Z hp T E
      exact⟨.agg U,by rw[N];rfl,.agg _ _ A.1 A.2⟩
   |array n e=>
    simp only[aL,cw]at h⊢
    cases hs:cW P e with
    |none=>rw[hs]at h;simp at h
    |some sz=>
     rw[hs]at h
     simp only[a0n]at h⊢
     cases E:Instr.fill (fun i=>some (i *sz,sz)) z.cells ps.toList with
     |none=>rw[E]at h;simp at h
     |some r=>
      rw[E]at h
      simp only[bJ,a00]at h
      subst h
      obtain⟨U,N,A⟩:=ku _ _ _ _ _ Z hp T E
      exact⟨.agg U,by rw[N];rfl,.agg _ _ A.1 A.2⟩
   |_=>simp at h
theorem fo{v v':Value}{n:Nat}(h:j4 v=some n)(A:VRel μ v v'): ∃k,v'= .int k (n:Int):=by
 unfold j4 at h;split at h
 ·rename_i k m;injection h with h;subst h;exact⟨k,A.int_inv⟩
 cases h
theorem aField_sound{s:TypeId}{x T:Value}{f:Nat}{v:Value}(h:iY P s x f=some v)(hx:VRel μ x T):
  ∃v',(∀w,(Instr.fieldAt s T f).run P w= .ok v' w)/\VRel μ v v':=by
 unfold iY at h
 split at h
 ·rename_i fs b o hu;split at h
  ·rename_i E Z;split at h
   ·rename_i n hn;cases A:Nat.beq n 0 with
    |true=>rw[A]at h;cases h
    |false=>
     rw[A]at h;simp only[cond_false,a00]at h;subst h
     obtain⟨l,U,rfl⟩:=hx.ptr_inv
     have N: ¬n=0:=fun e=>by subst e;cases A
     refine⟨_,fun w=>?_,a1v l.sh o E.offset▸VRel.ptr b (o+E.offset) l U⟩
     simp[Instr.fieldAt,az w hu,Z,Instr.sureAddr,fieldPlace,bc w hn,N,db,a1v]
   cases h
  cases h
 cases h
theorem j5{t:TypeId}{x x' i i':Value}{v:Value}(h:du P t x i=some v)(hx:VRel μ x x')(hi:VRel μ i i'):
  ∃v',(∀w,(Instr.indexAt t x' i').run P w= .ok v' w)/\VRel μ v v':=by
 unfold du at h
 split at h
 ·rename_i e b o n k j N Z;obtain⟨ik,rfl⟩:=fo Z hi;split at h
  ·rename_i sz hs;cases A:(Nat.ble (j+1) n&&Nat.ble n k) with
   |false=>rw[A]at h;cases h
   |true=>
    rw[A]at h;simp only[cond_true,a00]at h;subst h
    simp only[a0a]at A
    have h1:j+1<=n:=a08 A.1
    have h2:n<=k:=a08 A.2
    obtain⟨l,U,hc⟩:=hx.slice_inv
    have E:VRel μ (.pointer (some ⟨b,o+j *sz,none⟩)) (.pointer (some ⟨l.c,l.sh+o+j *sz,none⟩)):=
     a1v l.sh o (j *sz)▸VRel.ptr b (o+j *sz) l U
    have T:(j:Int)<(n:Int):=M
    rcases hc with⟨_,rfl⟩|⟨e',o',k',_,rfl,_,_,aa,_⟩|⟨hz,_,_⟩
    rotate_right
    ·omega
    ·refine⟨_,fun w=>?_,E⟩;simp[Instr.indexAt,asIntOf,az w N,bc w hs,db];omega
    have ho:o'=l.sh+o:=aa M
    subst ho
    refine⟨_,fun w=>?_,E⟩
    simp[Instr.indexAt,asIntOf,az w N,bc w hs,db]
    omega
  cases h
 ·rename_i n e b o j N Z;obtain⟨ik,rfl⟩:=fo Z hi;split at h
  ·rename_i sz hs;cases A:Nat.ble (j+1) n with
   |false=>rw[A]at h;cases h
   |true=>
    rw[A]at h;simp only[cond_true,a00]at h;subst h
    have h1:j+1<=n:=a08 A
    obtain⟨l,U,rfl⟩:=hx.ptr_inv
    refine⟨_,fun w=>?_,a1v l.sh o (j *sz)▸VRel.ptr b (o+j *sz) l U⟩
    have T:(j:Int)<(n:Int):=M
    have h0:(0:Int)<=(j:Int)/\(j:Int)<(n:Int):=⟨by omega,T⟩
    simp only[Instr.indexAt,asIntOf,az w N,bc w hs,db,Instr.sureAddr,Sem.run_bind,Sem.run_pure,Result.andThen_ok,if_pos h0,a1U]
  cases h
 cases h
theorem strIndex_run{t:TypeId}{s:ByteArray}{k:IntKind}{j:Nat}{b:UInt8}(T:P.underlying t=some .string)(A:s.data.toList[j]?=some b)(w:World):
  (Instr.index t (.string s) (.int k (j:Int))).run P w= .ok (.int .u8 b.toNat) w:=by
 have E:j<s.size:=by have:=(a0u.1 A).1;simpa using this
 have N:s[j]?=some b:=by rw[getElem?_pos s j E];have:=(a0u.1 A).2;rw[←this];rfl
 simp[Instr.index,asIntOf,az w T,N]
theorem kF{ops:Array Operand}{ρ ρ':Operand->Value}(h: ∀x∈ops,VRel μ (ρ x) (ρ' x)):LRel μ (ops.map ρ).toList (ops.map ρ').toList:=by refine⟨by simp,fun i v v' E N=>?_⟩;simp only[a2e,a18,a2a]at E N;obtain⟨x,T,rfl⟩:=E;obtain⟨y,A,rfl⟩:=N;rw[T]at A;injection A with A;subst A;exact h x (by simpa using a0m T)
theorem oq{t:TypeId}{x T:Value}{f:Nat}{v:Value}(h:ir P t x f=some v)(hx:VRel μ x T):
  ∃v',(∀w,(Instr.field t T f).run P w= .ok v' w)/\VRel μ v v':=by
 unfold ir at h
 split at h
 ·rename_i cs;split at h
  ·rename_i g n off A;have hp:aF P (Instr.field t (.agg cs) f)=some v:=by
    unfold fieldAt? at A;split at A
    ·rename_i fs hu;split at A
     ·rename_i U E;split at A
      ·rename_i Z n' hg hn;simp only[a00,a05]at A;obtain⟨rfl,rfl,rfl⟩:=A;unfold Instr.field part;simp only[aL,bE,hu,a0n,E,asAgg,bJ,fw,hg];unfold partL at h;cases Z with
       |true=>
        simp only[cond_true,a00,bS,ca]at h
        simp only[if_true,aL,cw,hn,a0n,bJ,a00]
        subst h
        congr 1
        apply Array.ext'
        simp
       |false=>
        simp only[cond_false,fZ]at h
        simp only[a0M,if_false]
        have hc:cs[U.offset]?=some v:=by simpa using h
        rw[hc];rfl
      cases A
     cases A
    cases A
   obtain⟨v',N,hr⟩:=field_rel hx hp;exact⟨v',fun w=>cF P N w,hr⟩
  cases h
 cases h
theorem cx{r:Option Value}{H H':Heap}{n:AN}(h:ovl r H=some (n,H')):H'=H/\∃v,r=some v/\n= .val v:=by
 unfold ovl at h;split at h
 ·rename_i v;simp only[a00,a05]at h;exact⟨h.2.symm,v,V,h.1.symm⟩
 cases h
theorem jh{op:BinOp}{r:Option Bool}{H H':Heap}{n:AN}(h:nilBin op r H=some (n,H')):
  H'=H/\∃b,r=some b/\((op= .eql/\n= .val (.bool b))\/(op= .neq/\n= .val (.bool (!b)))):=by
 unfold nilBin at h
 split at h
 ·rename_i b;split at h
  ·simp only[a00,a05]at h;exact⟨h.2.symm,b,V,.inl ⟨V,h.1.symm⟩⟩
  ·simp only[a00,a05]at h;exact⟨h.2.symm,b,V,.inr ⟨V,h.1.symm⟩⟩
  cases h
 cases h
theorem kL{ρ ρ':Operand->Value}{o:Oper}{H H':Heap}{r:AN}(hk:aY o.op=true)
  (N: ∀x∈o.op.operands,VRel μ (ρ x) (ρ' x)) (h:aop P ρ o H=some (r,H')):
  H'=H/\∃v v',r= .val v/\(∀w,(execOp ρ' o).run P w= .ok (.value v') w)/\VRel μ v v':=by
 obtain⟨bk,op,bb,pos,after,a4⟩:=o
 cases op<;>simp only[aY,a0M]at hk
 case move x=>
  simp only[aop,a00,a05]at h
  obtain⟨rfl,rfl⟩:=h
  exact⟨V,_,ρ' x,V,fun w=>rfl,N x (by simp[Op.operands])⟩
 case assign x=>
  simp only[aop,a00,a05]at h
  obtain⟨rfl,rfl⟩:=h
  exact⟨V,_,ρ' x,V,fun w=>rfl,N x (by simp[Op.operands])⟩
 case pick c a b=>
  simp only[aop,gm]at h
  split at h
  ·rename_i t ht;simp only[a00,a05]at h;obtain⟨rfl,rfl⟩:=h;have hc:ρ' c= .bool t:=by have:=N c (by simp[Op.operands]);rw[ht]at this;exact this.bool_inv
   refine⟨V,_,(if t then ρ' a else ρ' b),V,fun w=>?_,?_⟩
   ·simp[execOp,hc,asBool]
   cases t
   ·exact N b (by simp[Op.operands])
   exact N a (by simp[Op.operands])
  cases h
 case build t parts=>
  simp only[aop,gY]at h
  split at h
  case h_2=>cases h
  rename_i z hz
  obtain⟨rfl,v,rfl,A⟩:=lB h
  obtain⟨v',T,U⟩:=build_rel (μ:=μ) (ps:=parts.map fun p=>(p.1,ρ p.2)) (ps':=parts.map fun(i,x)=>(i,ρ' x)) (by simp) (fun i x x' h1 h2=>by
   simp only[a2e,a18,a2a]at h1 h2;obtain⟨y,hy,rfl⟩:=h1;obtain⟨z,hz,rfl⟩:=h2;rw[hy]at hz;injection hz with hz;subst hz;refine⟨V,N _ ?_⟩;have:=a0m hy;simp only[Op.operands,List.mem_toArray,a0v];exact⟨y,this,V⟩) (by rw[hz];rfl) A
  exact⟨V,v,v',V,fun w=>by simp only[execOp,Sem.run_bind,cF P T w,Result.andThen_ok,Sem.run_pure],U⟩
 case nilCheck x=>
  simp only[aop,opNil]at h
  split at h
  ·rename_i a ha;simp only[a00,a05]at h;obtain⟨rfl,rfl⟩:=h;have E:=N x (by simp[Op.operands]);rw[ha]at E;obtain⟨_,a',ay⟩:=E.ptr_some;exact⟨V,_,ρ' x,V,fun w=>by simp[execOp,ay],E⟩
  ·rename_i f a c ha;simp only[a00,a05]at h;obtain⟨rfl,rfl⟩:=h;have E:=N x (by simp[Op.operands]);rw[ha]at E;obtain⟨a',c',a0,_,_⟩:=E.func_inv;exact⟨V,_,ρ' x,V,fun w=>by simp[execOp,a0],E⟩
  cases h
 case binOp op t x y yt=>
  have E:=N x (by simp[Op.operands])
  have hy:=N y (by simp[Op.operands])
  simp only[aop,aBin]at h
  split at h
  ·rename_i k a ha;rw[ha]at E;unfold binInt at h;split at h
   ·rename_i k' b Z;rw[Z]at hy;obtain⟨rfl,v,A,rfl⟩:=cx h;have ao: ∀w,(binOp op t (.int k a) (.int k' b)).run P w= .ok v w/\noA0 v=true:=by
     intro w;cases hs:lC op with
     |true=>rw[hs]at A;exact shBin_sound A t w
     |false=>
      rw[hs]at A
      simp only[cond_false]at A
      cases he:mE k k' with
      |false=>rw[he]at A;cases A
      |true=>
       rw[he]at A
       have:k=k':=by simpa[mE] using he
       subst this
       exact intBin_sound A t w
    refine⟨V,v,v,V,fun w=>?_,.atom v (ao default).2⟩;simp only[execOp,E.int_inv,hy.int_inv,eqGuard_at_int,pure_bind,Sem.run_bind,(ao w).1,Result.andThen_ok,Sem.run_pure]
   cases h
  ·rename_i a ha;rw[ha]at E;unfold binStr at h;split at h
   ·rename_i b Z;rw[Z]at hy;obtain⟨rfl,v,A,rfl⟩:=cx h;refine⟨V,v,v,V,fun w=>?_,.atom v (kP (P:=P) (t:=t) A default).2⟩;simp only[execOp,E.string_inv,hy.string_inv,eqGuard_at_string,pure_bind,Sem.run_bind,(kP (P:=P) (t:=t) A w).1,Result.andThen_ok,Sem.run_pure]
   cases h
  unfold nX at h
  split at h
  ·exact dE h (fun _ _=>by simp) N
  ·exact dE h (fun _ _=>by simp) N
  obtain⟨rfl,b,Z,an⟩:=jh h
  rcases an with⟨rfl,rfl⟩|⟨rfl,rfl⟩
  ·refine⟨V,_,_,V,fun w=>?_,.atom (.bool b) V⟩;obtain⟨h1,h2,h3⟩:=lq (P:=P) Z E hy w;simp only[execOp,h2,pure_bind,h3 .eql (.inl V),Sem.run_bind,h1,Result.andThen_ok,Sem.run_pure]
  refine⟨V,_,_,V,fun w=>?_,.atom (.bool (!b)) V⟩
  obtain⟨h1,h2,h3⟩:=lq (P:=P) Z E hy w
  simp only[execOp,h2,pure_bind,h3 .neq (.inr V),Sem.run_bind,h1,Result.andThen_ok,Sem.run_pure]
 case unOp op t x=>
  have E:=N x (by simp[Op.operands])
  simp only[aop,aUn]at h
  split at h
  ·rename_i b Z;rw[Z]at E;split at h
   ·simp only[a00,a05]at h;obtain⟨rfl,rfl⟩:=h;exact⟨V,_,_,V,fun w=>by simp[execOp,E.bool_inv,Op.unary],.atom (.bool (!b)) V⟩
   cases h
  exact dE h (fun _ _=>by simp) N
 case makeFunc fn first captured=>
  simp only[aop,a00,a05]at h
  obtain⟨rfl,rfl⟩:=h
  have h1:=kF (μ:=μ) (ops:=first) (ρ:=ρ) (ρ':=ρ') fun x E=>N x (by simp[Op.operands,E])
  have h2:=kF (μ:=μ) (ops:=captured) (ρ:=ρ) (ρ':=ρ') fun x E=>N x (by simp[Op.operands,E])
  exact⟨V,_,_,V,fun w=>rfl,.func _ _ _ _ _ h1.1 h2.1 h1.2 h2.2⟩
 case fieldAddr s x f=>
  simp only[aop]at h
  obtain⟨rfl,v,A,rfl⟩:=cx h
  obtain⟨v',T,U⟩:=aField_sound A (N x (by simp[Op.operands]))
  exact⟨V,v,v',V,fun w=>by simp only[execOp,Sem.run_bind,T w,Result.andThen_ok,Sem.run_pure],U⟩
 case field t x f=>
  simp only[aop]at h
  obtain⟨rfl,v,A,rfl⟩:=cx h
  obtain⟨v',T,U⟩:=oq A (N x (by simp[Op.operands]))
  exact⟨V,v,v',V,fun w=>by simp only[execOp,Sem.run_bind,T w,Result.andThen_ok,Sem.run_pure],U⟩
 case indexAddr t x i=>
  simp only[aop]at h
  obtain⟨rfl,v,A,rfl⟩:=cx h
  obtain⟨v',T,U⟩:=j5 A (N x (by simp[Op.operands])) (N i (by simp[Op.operands]))
  exact⟨V,v,v',V,fun w=>by simp only[execOp,Sem.run_bind,T w,Result.andThen_ok,Sem.run_pure],U⟩
 case index t x i=>
  have E:=N x (by simp[Op.operands])
  have hi:=N i (by simp[Op.operands])
  simp only[aop,lT]at h
  split at h
  ·rename_i s hs;rw[hs]at E;obtain⟨rfl,v,A,rfl⟩:=cx h;unfold strAt at A;split at A
   ·rename_i j hu hj;obtain⟨k,hk⟩:=fo hj hi;rw[fZ]at A;split at A
    ·rename_i b Z;injection A with A;subst A;exact⟨V,_,_,V,fun w=>by simp only[execOp,E.string_inv,hk,Sem.run_bind,strIndex_run hu Z w,Result.andThen_ok,Sem.run_pure],.atom _ V⟩
    cases A
   cases A
  rename_i a1
  obtain⟨rfl,v,rfl,A⟩:=lB h
  obtain⟨v',T,U⟩:=index_rel E hi (fun s hs=>a1 s hs) A
  exact⟨V,v,v',V,fun w=>by simp only[execOp,Sem.run_bind,cF P T w,Result.andThen_ok,Sem.run_pure],U⟩
 case extract x i=>
  simp only[aop]at h
  have E:=N x (by simp[Op.operands])
  obtain⟨rfl,v,A,rfl⟩:=cx h
  unfold gI at A
  split at A
  ·rename_i vs a2;rw[a2]at E;obtain⟨a3,aw,U⟩:=E.tuple_inv;rw[fZ]at A;obtain⟨v',T,av⟩:=U.get A;have hg:a3[i]?=some v':=by simpa using T
   exact⟨V,v,v',V,fun w=>by simp[execOp,aw,Instr.extract,hg],av⟩
  cases A
end
theorem ev(l:List Value): ∀n,(cp n l).length=n *l.length
 |0=>by simp[cp]
 |n+1=>by simp only[cp,a02,ev l n];rw[a12];omega
theorem mU(l:List Value): ∀(n i:Nat),i<n *l.length->(cp n l)[i]?=l[i%l.length]?
 |0,i,h=>by simp at h
 |n+1,i,h=>by
  simp only[cp];by_cases hi:i<l.length
  ·rw[a0Q hi,Nat.mod_eq_of_lt hi]
  rw[a12,Nat.one_mul]at h;rw[a0S M,mU l n (i-l.length) M];congr 1;exact(Nat.mod_eq_sub_mod M).symm
theorem zeros_eq(z:Array Value)(n:Nat):(Array.range (n *z.size)).map (fun i=>z[i%z.size]!)=⟨cp n z.toList⟩:=by
 apply a1P;intro i;refine Eq.trans ?_ (lu _ _).symm;by_cases hi:i<n *z.size
 ·rw[mU _ _ _ (by simpa using hi)];have E:0<z.size:=by
   rcases a1Q z.size with h|h
   ·rw[h]at hi;simp at hi
   exact h
  have A:i%z.size<z.size:=Nat.mod_lt _ E;simp[hi,A]
 rw[a0J (by rw[ev];simpa using hi)];simp[hi]
theorem ig{l:List Value}(h:l.all noA0=true): ∀n,(cp n l).all noA0=true
 |0=>rfl
 |n+1=>by simp only[cp,a2n,h,ig h n,a1o]
section
variable {P:Program} {μ:Emb} {H H':Heap} {w:World}
def OpOK(P:Program)(μ:Emb)(H:Heap)(w:World)(s:Sem Next)(r:AN)(H':Heap):Prop:=
 ∃n w' μ',s.run P w= .ok n w'/\Post μ H w μ' H' w'/\ANRel μ' r n
theorem OpOK.value{s:Sem Value}{v v':Value}{w':World}{μ':Emb}(h:s.run P w= .ok v' w')(A:Post μ H w μ' H' w')(E:VRel μ' v v'):
  OpOK P μ H w (do Pure.pure (.value (←s))) (.val v) H':=
 ⟨.value v',w',μ',by simp only[Sem.run_bind,h,Result.andThen_ok,Sem.run_pure],A,E⟩
theorem OpOK.skip{s:Sem Unit}{w':World}{μ':Emb}(h:s.run P w= .ok () w')(A:Post μ H w μ' H' w'):
  OpOK P μ H w (do s;Pure.pure .skip) .skip H':=
 ⟨.skip,w',μ',by simp only[Sem.run_bind,h,Result.andThen_ok,Sem.run_pure],A,trivial⟩
theorem ovh_inv{r:Option (Value×Heap)}{n:AN}(h:ovh r=some (n,H')): ∃v,r=some (v,H')/\n= .val v:=by
 unfold ovh at h;split at h
 ·simp only[a00,a05]at h;obtain⟨rfl,rfl⟩:=h;exact⟨_,V,V⟩
 cases h
theorem osk_inv{r:Option Heap}{n:AN}(h:osk r=some (n,H')):r=some H'/\n= .skip:=by
 unfold osk at h;split at h
 ·simp only[a00,a05]at h;obtain⟨rfl,rfl⟩:=h;exact⟨V,V⟩
 cases h
theorem iQ(h:WRel μ H w)(hf:μ H.next=none)(e:TypeId){cs A:List Value}(E:LRel μ cs A):
  ∃l,l.c=w.heap.size/\l.sh=0/\l.opn=none/\(newRow e ⟨A⟩).run P w= .ok ⟨w.heap.size,0,none⟩ (w.alloc (.cells ⟨A⟩ e))/\
   Post μ H w (μ.set H.next l) (aR H cs none) (w.alloc (.cells ⟨A⟩ e)):=by
 obtain⟨l,U,Z,h3,_,N,T⟩:=di (P:=P) h hf e E [] none (fun _=>rfl)
 simp only[a0p]at N T
 exact⟨l,U,Z,h3,N,T⟩
theorem alloc_sound{e:TypeId}{r:AN}(h:WRel μ H w)(hf: ∀b,H.next<=b->b<H'.next->μ b=none)(A:eG P e H=some (r,H')):
  OpOK P μ H w (do Pure.pure (.value (←Instr.alloc e true (.tuple #[])))) r H':=by
 unfold eG at A
 split at A
 ·rename_i z hz;simp only[a00,a05]at A;obtain⟨rfl,rfl⟩:=A;obtain⟨i,v,hi,hv,hc,E⟩:=eB (P:=P) hz;obtain⟨l,U,Z,h3,N,hp⟩:=iQ (P:=P) h (hf H.next (a0d _) (by simp[aR])) e (LRel.refl0 (μ:=μ) E);have T:v.cells=⟨z⟩:=by rw[←hc]
  refine OpOK.value (v':= .pointer (some ⟨w.heap.size,0,none⟩)) ?_ hp ?_
  ·simp only[Instr.alloc,Sem.run_bind,eo w hi hv,Result.andThen_ok,newVar,T,N,Sem.run_pure]
  have:=VRel.ptr (μ:=μ.set H.next l) H.next 0 l (Emb.set_same _ _ _);rw[U,Z]at this;exact this
 cases A
theorem box_sound{e:TypeId}{x E:Value}(h:WRel μ H w)(U:μ H.next=none)(hx:VRel μ x E):
  OpOK P μ H w (do Pure.pure (.value (←Instr.box e E))) (.val (ptrTo H.next)) (aR H x.cells.toList none):=by
 obtain⟨l,N,T,h3,A,Z⟩:=iQ (P:=P) h U e hx.cells
 refine OpOK.value (v':= .pointer (some ⟨w.heap.size,0,none⟩)) ?_ Z ?_
 ·simp only[Instr.box,newVar,Sem.run_bind,A,Result.andThen_ok,Sem.run_pure]
 have:=VRel.ptr (μ:=μ.set H.next l) H.next 0 l (Emb.set_same _ _ _)
 rw[N,T]at this;exact this
theorem l5{t:TypeId}{sz:Nat}{z:List Value}(h:dz P t=some (sz,z)): ∃e,P.underlying t=some (.slice e)/\cW P e=some sz/\cy P e=some z/\z.length=sz:=by
 unfold dz at h;split at h
 ·rename_i e E;split at h
  ·rename_i T U hs N;cases A:Nat.beq (eA U) T with
   |false=>rw[A]at h;cases h
   |true=>
    rw[A]at h;simp only[cond_true,a00,a05]at h
    obtain⟨rfl,rfl⟩:=h
    exact⟨e,E,hs,N,by rw[←bG];exact a0c A⟩
  cases h
 cases h
theorem jY{t:TypeId}{n:Nat}{ps:List (Nat×Value)}{ps':Array (Nat×Value)}{r:AN}(h:WRel μ H w)(hf: ∀b,H.next<=b->b<H'.next->μ b=none)
  (hl:ps.length=ps'.toList.length) (hp: ∀(i:Nat) x x',ps[i]?=some x->ps'.toList[i]?=some x'->x.1=x'.1/\VRel μ x.2 x'.2)
  (E:bN P t n ps H=some (r,H')):OpOK P μ H w (do Pure.pure (.value (←Instr.buildSlice t n ps'))) r H':=by
 unfold bN at E
 split at E
 ·rename_i sz z an;obtain⟨e,hu,hs,hz,T⟩:=l5 an;cases hq:Nat.ble (n *sz) 16777216 with
  |false=>rw[hq]at E;cases E
  |true=>
   rw[hq]at E
   simp only[cond_true]at E
   have a3:n *sz<=16777216:=a08 hq
   split at E
   ·rename_i cells hc;simp only[a00,a05]at E;obtain⟨rfl,rfl⟩:=E;obtain⟨i,v,hi,hv,ao,aa⟩:=eB (P:=P) hz;obtain⟨ai,Z,ag⟩:=ku (μ:=μ) ps ps'.toList _ _ cells hl hp (LRel.refl0 (ig aa n)) hc;obtain⟨l,h1,h2,h3,N,U⟩:=iQ (P:=P) h (hf H.next (a0d _) (by simp[aR])) e ag;refine OpOK.value (v':= .slice (some ⟨w.heap.size,0,none⟩) n n) ?_ U ?_
    ·have ap:v.cells=⟨z⟩:=by rw[←ao]
     simp only[Instr.buildSlice,Sem.run_bind,az w hu,Result.andThen_ok,bc w hs,show ¬(n *sz>2^24) by omega,if_false];by_cases h0:n *sz=0
     ·have al:cp n z=[]:=a0z (by rw[ev,T];exact h0);have A: ∀g:Nat->Value,(Array.range (n *sz)).map g=⟨cp n z⟩:=fun g=>by rw[h0,al];simp
      rw[if_pos h0];simp only[Sem.run_bind,Sem.run_pure,Result.andThen_ok,A,Z,N]
     have A:=zeros_eq ⟨z⟩ n;simp only[show(Array.mk z).size=sz from T]at A;rw[if_neg h0];simp only[Sem.run_bind,eo w hi hv,Sem.run_pure,Result.andThen_ok,ap,show(Array.mk z).size=sz from T,A,Z,N]
    have:=VRel.sliceC (μ:=μ.set H.next l) H.next 0 n n l (Emb.set_same _ _ _) h3;rw[h1,h2]at this;exact this
   cases E
 cases E
theorem load_sound{t:TypeId}{a N:Value}{r:AN}(h:WRel μ H w)(T:VRel μ a N)(A:d9 P t a H=some (r,H')):
  OpOK P μ H w (do Pure.pure (.value (←Instr.loadAt t N))) r H':=by
 unfold d9 at A
 split at A
 ·rename_i p;obtain⟨rfl,v,hv,rfl⟩:=cx A;obtain⟨b,o,sp⟩:=p;have U:sp=none:=T.ptr_some.1;subst U;obtain⟨l,Z,rfl⟩:=T.ptr_inv;obtain⟨v',E,hr⟩:=hN (P:=P) h Z hv;refine OpOK.value (v':=v') ?_ (Post.refl h) hr;simp only[Instr.loadAt,Instr.sureAddr,Sem.run_bind,Sem.run_pure,Result.andThen_ok,E]
 cases A
theorem store_sound{t:TypeId}{a Z x U:Value}{r:AN}(h:WRel μ H w)(ha:VRel μ a Z)(hx:VRel μ x U)(A:eY P t a x H=some (r,H')):
  OpOK P μ H w (do Instr.storeAt t Z U;Pure.pure .skip) r H':=by
 unfold eY at A
 split at A
 ·rename_i p;split at A
  ·rename_i n hn;cases E:Nat.beq x.cells.size n with
   |false=>rw[E]at A;cases A
   |true=>
    rw[E]at A
    obtain⟨hs,rfl⟩:=osk_inv A
    have ap:x.cells.size=n:=a0c E
    obtain⟨b,o,sp⟩:=p
    have ad:sp=none:=ha.ptr_some.1
    subst ad
    obtain⟨l,hb,rfl⟩:=ha.ptr_inv
    obtain⟨w',N,hp⟩:=gh (P:=P) h hb hs hx.cells
    refine OpOK.skip ?_ hp
    have T:U.cells.size=n:=by have:=hx.cells.1;simp only[a20]at this;omega
    simp only[Instr.storeAt,Instr.sureAddr,storeVar,Sem.run_bind,Sem.run_pure,Result.andThen_ok,bc w hn,T,ne_eq,not_true,if_false,N]
  cases A
 cases A
theorem run_getObj{r:Nat}{o:Obj}(A:w.heap[r]?=some o)(hc: ∀c e f,o≠ .cells c e f):(getObj r).run P w= .ok o w:=by cases o<;>first|exact absurd V (hc _ _ _)|(simp only[getObj,Sem.run,A])
theorem mq{n:Nat}(h:n<=2147483648):IntKind.i64.wrap (n:Int)=n:=IntWalk.i64_in _ M
theorem jO{e:TypeId}{b:Nat}(h:eL P e=some b): ∃i,P.info? e=some i/\i.bytes=b:=by
 unfold eL at h;split at h
 ·rename_i i hi;injection h with h;exact⟨i,hi,h⟩
 cases h
theorem make_sound{t:TypeId}{x x' y y':Value}{r:AN}(h:WRel μ H w)(hf: ∀b,H.next<=b->b<H'.next->μ b=none)(hx:VRel μ x x')(hy:VRel μ y y')
  (ho:ovh (aMake P t x y H)=some (r,H')):OpOK P μ H w (do Pure.pure (.value (←Instr.makeSlice t x' y'))) r H':=by
 obtain⟨v,E,rfl⟩:=ovh_inv ho
 unfold aMake at E
 split at E
 ·rename_i e hu;split at E
  ·rename_i sz T z n k hs hb hz hn hk;cases hq:(Nat.ble n k&&Nat.ble k 2147483648&&Nat.ble T 4096&&Nat.beq (eA z) sz&& !Nat.beq sz 0) with
   |false=>rw[hq]at E;cases E
   |true=>
    rw[hq]at E
    simp only[cond_true,a00,a05]at E
    obtain⟨rfl,rfl⟩:=E
    simp only[a0a,a0F]at hq
    obtain⟨⟨⟨⟨q1,q2⟩,q3⟩,Z⟩,q5⟩:=hq
    have q1:n<=k:=a08 q1
    have q2:k<=2147483648:=a08 q2
    have q3:T<=4096:=a08 q3
    have Z:z.length=sz:=by rw[←bG];exact a0c Z
    have q5:sz≠0:=fun e=>by rw[e]at q5;cases q5
    obtain⟨i,vz,hi,a1,ay,ao⟩:=eB (P:=P) hz
    obtain⟨ib,N,aw⟩:=jO hb
    rw[hi]at N;injection N with N;subst N
    obtain⟨l,h1,h2,h3,U,aa⟩:=iQ (P:=P) h (hf H.next (a0d _) (by simp[aR])) e (LRel.refl0 (μ:=μ) (ig ao k))
    refine OpOK.value (v':= .slice (some ⟨w.heap.size,0,none⟩) n k) ?_ aa ?_
    ·obtain⟨kn,rfl⟩:=fo hn hx;obtain⟨kk,rfl⟩:=fo hk hy;have a3:=mq (n:=n) M;have a2:=mq (n:=k) q2;have a0:vz.cells=⟨z⟩:=by rw[←ay]
     have ap:T *k<=4096 *2147483648:=Nat.mul_le_mul q3 q2;have aq:(decide ((k:Int)<0)||decide ((i.bytes:Int) *(k:Int)>2^48)||decide ((n:Int)<0)||decide ((n:Int)>(k:Int)))=false:=by
      have hm:((i.bytes:Int) *(k:Int))<=8796093022208:=by rw[aw,←Int.natCast_mul];exact Int.ofNat_le.2 ap
      have h1: ¬((k:Int)<0):=M
      have h2: ¬((i.bytes:Int) *(k:Int)>2^48):=by
       have:(2:Int)^48=281474976710656:=by decide
       omega
      have h3: ¬((n:Int)<0):=M
      have h4: ¬((n:Int)>(k:Int)):=M
      simp only[decide_eq_false h1,decide_eq_false h2,decide_eq_false h3,decide_eq_false h4,Bool.or_self]
     simp only[Instr.makeSlice,Sem.run_bind,az w hu,Result.andThen_ok,asInt,asIntOf,Sem.run_pure,ep w hi,a3,a2];rw[if_neg (by rw[aq];exact Bool.false_ne_true)];simp only[Sem.run_bind,run_askRoom,Result.andThen_ok,bc w hs,a1U];by_cases h0:k *sz=0
     ·have ax:cp k z=[]:=a0z (by rw[ev,Z];exact h0);have A: ∀g:Nat->Value,(Array.range (k *sz)).map g=⟨cp k z⟩:=fun g=>by rw[h0,ax];simp
      rw[if_pos h0];simp only[Sem.run_bind,Sem.run_pure,Result.andThen_ok,A,U]
     have A:=zeros_eq ⟨z⟩ k;simp only[show(Array.mk z).size=sz from Z]at A;rw[if_neg h0];simp only[Sem.run_bind,eo w hi a1,Sem.run_pure,Result.andThen_ok,a0,show(Array.mk z).size=sz from Z,A,U]
    have:=VRel.sliceC (μ:=μ.set H.next l) H.next 0 n k l (Emb.set_same _ _ _) h3
    rw[h1,h2]at this;exact this
  cases E
 cases E
end
section
variable {P:Program} {μ:Emb} {H H':Heap} {w:World}
theorem lM{n k l r:Nat}{lo hi:Option Value}(h:bnds n k lo hi=some (l,r)):
  bU n hi=some r/\bU 0 lo=some l/\l<=r/\r<=k:=by
 unfold bnds at h
 split at h
 ·rename_i E T;split at h
  ·rename_i l' N;cases A:(Nat.ble l' E&&Nat.ble E k) with
   |false=>rw[A]at h;cases h
   |true=>
    rw[A]at h;simp only[cond_true,a00,a05]at h
    obtain⟨rfl,rfl⟩:=h
    simp only[a0a]at A
    exact⟨T,N,a08 A.1,a08 A.2⟩
  cases h
 cases h
theorem dU{v v':Value}{n y:Nat}(h:j4 v=some n)(E:VRel μ v v')(N:n<=y)(A:BoundsCode):(Instr.sliceBound v' y A).run P w= .ok n w:=by
 obtain⟨k,rfl⟩:=fo h E;have:(0:Int)<=(n:Int)/\(n:Int)<=(y:Int):=M
 simp[Instr.sliceBound,asIntOf,this.2]
theorem dR{isSlice:Bool}{n k Z l r:Nat}{lo hi aa E:Option Value}(hb:bnds n k lo hi=some (l,r))(hk:k<=Z)
  (ag: ∀v,lo=some v->∃v',aa=some v'/\VRel μ v v') (N:lo=none->aa=none)
  (an: ∀v,hi=some v->∃v',E=some v'/\VRel μ v v') (ai:hi=none->E=none):
  (Instr.sliceBounds isSlice n Z aa E none).run P w= .ok (l,r,Z) w:=by
 obtain⟨h1,A,h3,h4⟩:=lM hb
 unfold Instr.sliceBounds
 cases hi with
 |none=>
  rw[ai rfl]
  simp only[bU,a00]at h1;subst h1
  cases lo with
  |none=>
   rw[N rfl]
   simp only[bU,a00]at A;subst A
   simp
  |some u=>
   obtain⟨u',T,U⟩:=ag u V
   rw[T]
   simp only[Sem.run_bind,Sem.run_pure,Result.andThen_ok,dU (P:=P) (w:=w) A U h3]
 |some v=>
  obtain⟨v',ap,hr⟩:=an v V
  rw[ap]
  cases lo with
  |none=>
   rw[N rfl]
   simp only[bU,a00]at A;subst A
   simp only[Sem.run_bind,Sem.run_pure,Result.andThen_ok,dU (P:=P) (w:=w) h1 hr (by omega:r<=Z)]
  |some u=>
   obtain⟨u',T,U⟩:=ag u V
   rw[T]
   simp only[Sem.run_bind,Sem.run_pure,Result.andThen_ok,dU (P:=P) (w:=w) h1 hr (by omega:r<=Z),dU (P:=P) (w:=w) A U h3]
theorem dQ(s:ByteArray)(l r:Nat):s.extract l r=⟨⟨(s.data.toList.drop l).take (r-l)⟩⟩:=by apply ByteArray.ext;apply Array.ext';simp
theorem kS{t:TypeId}{x x':Value}{lo hi mx aw av a0:Option Value}{r:AN}(h:WRel μ H w)(hx:VRel μ x x')
  (al: ∀v,lo=some v->∃v',aw=some v'/\VRel μ v v') (aa:lo=none->aw=none)
  (ai: ∀v,hi=some v->∃v',av=some v'/\VRel μ v v') (Z:hi=none->av=none) (a6:mx=none->a0=none)
  (ho:ovl (bA P t x lo hi mx H) H=some (r,H')): ∃v v',r= .val v/\H'=H/\(Instr.sliceAt t x' aw av a0).run P w= .ok v' w/\VRel μ v v':=by
 obtain⟨rfl,v,A,rfl⟩:=cx ho
 unfold bA at A
 split at A
 ·cases A
 rw[a6 rfl]
 simp only at A
 split at A
 ·rename_i s hu;obtain rfl:=hx.string_inv;split at A
  ·rename_i l r hb;injection A with A;subst A;rw[bG]at hb;have a7:s.data.toList.length=s.size:=by simp
   rw[a7]at hb;refine⟨_,.string (s.extract l r),V,V,?_,?_⟩
   ·simp[Instr.sliceAt,Instr.slice,az w hu,dR (P:=P) (w:=w) (isSlice:=false) hb (a0d _) al aa ai Z]
   rw[dQ,bS,ca];exact .atom _ V
  cases A
 ·rename_i e hu;obtain rfl:=hx.eq0 V;split at A
  ·rename_i lr hb;obtain⟨l,r⟩:=lr;cases hs:cW P e with
   |none=>rw[hs]at A;cases A
   |some sz=>
    rw[hs]at A
    simp only[Option.isSome_some,cond_true,a00]at A;subst A
    obtain⟨_,_,h3,h4⟩:=lM hb
    obtain rfl:r=0:=M
    obtain rfl:l=0:=M
    refine⟨_,.slice none 0 0,V,V,?_,.atom _ V⟩
    simp[Instr.sliceAt,Instr.slice,az w hu,dR (P:=P) (w:=w) (isSlice:=true) hb (a0d _) al aa ai Z,bc w hs]
  cases A
 ·rename_i e b o n k hu;split at A
  ·rename_i l r sz cs a9 ro hb hs hg;obtain⟨E,hμ,hc⟩:=hx.slice_inv;have U:E.opn=a9:=by
    have:=h.obj b E _ hμ hg;cases ro
    ·exact this.1
    exact this.1
   obtain⟨_,_,h3,h4⟩:=lM hb;split at A
   ·injection A with A;subst A;rcases hc with⟨T,rfl⟩|⟨e',o',k',T,rfl,_⟩|⟨rfl,rfl,a',rfl⟩
    rotate_right
    ·obtain rfl:r=0:=M
     obtain rfl:l=0:=M
     refine⟨_,.slice (some (if 0=0 then a' else a'.add (0 *sz))) (0-0) (0-0),V,V,?_,?_⟩
     ·simp only[Instr.sliceAt,Instr.slice,Sem.run_bind,az w hu,Result.andThen_ok,dR (P:=P) (w:=w) (isSlice:=true) hb (a0d _) al aa ai Z,bc w hs,Sem.run_pure];split<;>rfl
     exact .sliceZ b o a' E hμ
    ·refine⟨_,.slice (some (if k=l then⟨E.c,E.sh+o,none⟩ else Addr.add ⟨E.c,E.sh+o,none⟩ (l *sz))) (r-l) (k-l),V,V,?_,?_⟩
     ·simp only[Instr.sliceAt,Instr.slice,Sem.run_bind,az w hu,Result.andThen_ok,dR (P:=P) (w:=w) (isSlice:=true) hb (a0d _) al aa ai Z,bc w hs,Sem.run_pure];split<;>rfl
     by_cases N:k=l
     ·rw[if_pos N];have:Nat.beq k l=true:=by rw[N];exact a11 l
      rw[this];exact .sliceC b o _ _ E hμ T
     rw[if_neg N];have:Nat.beq k l=false:=by
      cases hq:Nat.beq k l with
      |false=>rfl
      |true=>exact absurd (a0c hq) N
     rw[this,db,a1v];exact .sliceC b (o+l *sz) _ _ E hμ T
    rw[U]at T;cases T
   rename_i ez;cases hq:Nat.beq ez sz with
   |false=>rw[hq]at A;cases A
   |true=>
    rw[hq]at A
    simp only[cond_true,a00]at A;subst A
    have a4:ez=sz:=a0c hq
    rcases hc with⟨T,rfl⟩|⟨e',o',k',T,rfl,b3,a5,a2,b2⟩|⟨rfl,rfl,a',rfl⟩
    rotate_right
    ·obtain rfl:r=0:=M
     obtain rfl:l=0:=M
     refine⟨_,.slice (some (if 0=0 then a' else a'.add (0 *sz))) (0-0) (0-0),V,V,?_,?_⟩
     ·simp only[Instr.sliceAt,Instr.slice,Sem.run_bind,az w hu,Result.andThen_ok,dR (P:=P) (w:=w) (isSlice:=true) hb (a0d _) al aa ai Z,bc w hs,Sem.run_pure];split<;>rfl
     exact .sliceZ b _ a' E hμ
    ·rw[U]at T;cases T
    rw[U]at T;injection T with T
    subst T a4
    refine⟨_,.slice (some (if k'=l then⟨E.c,o',none⟩ else Addr.add ⟨E.c,o',none⟩ (l *ez))) (r-l) (k'-l),V,V,?_,?_⟩
    ·simp only[Instr.sliceAt,Instr.slice,Sem.run_bind,az w hu,Result.andThen_ok,dR (P:=P) (w:=w) (isSlice:=true) hb a5 al aa ai Z,bc w hs,Sem.run_pure];split<;>rfl
    by_cases N:k'=l
    ·rw[if_pos N];refine .sliceO b (o+l *ez) o' _ _ _ ez E hμ U M M M ?_;rw[N,a1R,Nat.zero_mul];omega
    rw[if_neg N,db]
    refine .sliceO b (o+l *ez) (o'+l *ez) _ _ _ ez E hμ U M M (fun b0=>?_) ?_
    ·rw[a2 M];omega
    have:l *ez+(k'-l) *ez=k' *ez:=by rw[←a12];congr 1;omega
    omega
  cases A
 ·rename_i n e b o hu;split at A
  ·rename_i l r sz cs ro hb hs hg;obtain⟨E,hμ,rfl⟩:=hx.ptr_inv;have U:E.opn=none:=by
    have:=h.obj b E _ hμ hg;cases ro
    ·exact this.1
    exact this.1
   injection A with A;subst A;refine⟨_,.slice (some (if n=l then⟨E.c,E.sh+o,none⟩ else Addr.add ⟨E.c,E.sh+o,none⟩ (l *sz))) (r-l) (n-l),V,V,?_,?_⟩
   ·simp only[Instr.sliceAt,Sem.run_bind,az w hu,Result.andThen_ok,Instr.sureAddr,Sem.run_pure,dR (P:=P) (w:=w) (isSlice:=false) hb (a0d _) al aa ai Z,bc w hs]
   by_cases N:n=l
   ·rw[if_pos N];have:Nat.beq n l=true:=by rw[N];exact a11 l
    rw[this];exact .sliceC b o _ _ E hμ U
   rw[if_neg N];have:Nat.beq n l=false:=by
    cases hq:Nat.beq n l with
    |false=>rfl
    |true=>exact absurd (a0c hq) N
   rw[this,db,a1v];exact .sliceC b (o+l *sz) _ _ E hμ U
  cases A
 cases A
theorem slice_sound{t:TypeId}{x x':Value}{lo hi mx E A N:Option Value}{r:AN}(h:WRel μ H w)(hx:VRel μ x x')
  (ad: ∀v,lo=some v->∃v',E=some v'/\VRel μ v v') (U:lo=none->E=none)
  (aa: ∀v,hi=some v->∃v',A=some v'/\VRel μ v v') (T:hi=none->A=none) (ag:mx=none->N=none)
  (ho:ovl (bA P t x lo hi mx H) H=some (r,H')):OpOK P μ H w (do Pure.pure (.value (←Instr.sliceAt t x' E A N))) r H':=by
 obtain⟨v,v',rfl,rfl,Z,hr⟩:=kS (P:=P) h hx ad U aa T ag ho
 exact OpOK.value Z (Post.refl h) hr
theorem lenA_run{x E:Value}{m:Nat}(h:lenA x=some m)(A:VRel μ x E):(Builtin.lenOf E).run P w= .ok m w:=by
 unfold lenA at h;split at h
 ·injection h with h;subst h;rename_i a n k;obtain⟨N,T,rfl,_⟩:=dp A;rfl
 ·rename_i s;injection h with h;subst h;obtain rfl:=A.string_inv;rw[bG];simp[Builtin.lenOf]
 cases h
theorem dZ{x x':Value}{sz m:Nat}{vs:List Value}(h:WRel μ H w)(hx:VRel μ x x')(hl: ∃m0,lenA x=some m0/\m<=m0)(A:fk H sz m x=some vs):
  ∃T,(Builtin.firstCells sz m x').run P w= .ok ⟨T⟩ w/\LRel μ vs T/\vs.length=m *sz:=by
 unfold fk at A
 split at A
 ·rename_i a n k;obtain⟨b,o,sp⟩:=a;have aq:sp=none:=hx.slice_some.1;subst aq;cases E:Nat.beq m 0 with
  |true=>
   rw[E]at A
   simp only[cond_true,a00]at A;subst A
   have hm:m=0:=a0c E
   subst hm
   obtain⟨_,a',k',rfl⟩:=hx.slice_some
   exact⟨[],by simp[Builtin.firstCells,loadCells,loadCellsFrom],.nil,by simp⟩
  |false=>
   rw[E]at A
   simp only[cond_false]at A
   have hm:m≠0:=fun e=>by subst e;cases E
   obtain⟨m0,N,ai⟩:=hl
   simp only[lenA,a00]at N;subst N
   obtain⟨l,hμ,hc⟩:=hx.slice_inv
   obtain⟨T,Z,hr,U⟩:=hU (P:=P) h hμ A
   rcases hc with⟨_,rfl⟩|⟨e',o',k',_,rfl,a0,_,al,_⟩|⟨hz,_,_⟩
   rotate_right
   ·omega
   ·exact⟨T,by simp only[Builtin.firstCells,Z],hr,U⟩
   rw[al M]
   exact⟨T,by simp only[Builtin.firstCells,Z],hr,U⟩
 ·rename_i n k;cases E:Nat.beq m 0 with
  |false=>rw[E]at A;cases A
  |true=>
   rw[E]at A
   simp only[cond_true,a00]at A;subst A
   have hm:m=0:=a0c E
   subst hm
   obtain⟨_,_,rfl⟩:=hx.sliceNil_inv
   exact⟨[],by simp[Builtin.firstCells],.nil,by simp⟩
 ·rename_i s;cases E:Nat.beq sz 1 with
  |false=>rw[E]at A;cases A
  |true=>
   rw[E]at A
   simp only[cond_true,a00,ji,bS]at A;subst A
   have hs:sz=1:=a0c E
   subst hs
   obtain rfl:=hx.string_inv
   obtain⟨m0,N,ai⟩:=hl
   simp only[lenA,bG,a00]at N;subst N
   refine⟨(s.data.toList.take m).map fun b=> .int .u8 b.toNat,?_,LRel.refl0 ?_,?_⟩
   ·simp only[Builtin.firstCells,Sem.run_pure,dQ];congr 1;apply Array.ext';simp
   ·rw[a0t];intro u hu;obtain⟨c,_,rfl⟩:=a0v.1 hu;rfl
   simp at ai⊢;omega
 cases A
theorem growBy_le(A:Nat): ∀(r c:Nat),c<=A+(A+768)/4->Builtin.growBy A r c<=A+(A+768)/4
 |0,c,h=>h
 |r+1,c,h=>by
  simp only[Builtin.growBy];split
  ·exact h
  exact growBy_le A r _ M
theorem nextcap_le{n k:Nat}(h:k<n):Builtin.nextslicecap n k<=2 *n+768:=by
 unfold Builtin.nextslicecap;split
 ·omega
 split
 ·omega
 have:=growBy_le n 4 k M;omega
theorem dx{z:Array Value}{sz:Nat}(h:z.size=sz)(n:Nat):(Builtin.zeroCells z n).toList.length=n *sz:=by simp[Builtin.zeroCells,h]
theorem iP{st E ty e:TypeId}{N:TypeDesc}{A:Value}{base:Option Addr}{n m k sz:Nat}{i:TypeInfo}{z:Value}{old T:List Value}
  (hu:P.underlying st=some (.slice e)) (ap:P.underlying E=some N) (an: ∀kk,N≠ .int kk) (hi:P.info? e=some i) (hs:i.size=sz) (hz:i.zero=some z)
  (U:(Builtin.lenOf A).run P w= .ok m w) (al:k<n+m) (ax:n+m<=2147483648) (ai:i.bytes<=4096)
  (ad:(Builtin.firstCells sz n (.slice base n k)).run P w.drew= .ok ⟨old⟩ w.drew) (Z:(Builtin.firstCells sz m A).run P w.drew= .ok ⟨T⟩ w.drew):
  ∃nc,n+m<=nc/\(Builtin.append_ #[st,E] ty #[.slice base n k,A]).run P w=
   .ok (.slice (some ⟨w.heap.size,0,none⟩) (n+m) nc) (w.drew.alloc (.cells (⟨old⟩++⟨T⟩++Builtin.zeroCells z.cells (nc-(n+m))) e)):=by
 have ao:cW P e=some sz:=by unfold cW;rw[hi,←hs]
 have aq:=nextcap_le al
 have aa: ¬(Builtin.nextslicecap (n+m) k *i.bytes>2^48):=by
  have:Builtin.nextslicecap (n+m) k *i.bytes<=(2 *2147483648+768) *4096:=Nat.mul_le_mul M ai;have ay:(2:Nat)^48=281474976710656:=by decide
  omega
 have ag: ¬(((n+m:Nat):Int)>IntKind.i64.max/\(False\/i.bytes=0)):=by rw[IntKind.max_i64];omega
 refine⟨(Question.appendCap (n+m) k e).cut (w.tape w.drawn (.appendCap (n+m) k e)),by simp[Question.cut],?_⟩
 have a0:(match N with| .int _=>true|_=>false)=false:=by cases N<;>first|rfl|exact absurd V (an _)
 have e1: ∀a b:Value,(#[a,b]:Array Value)[0]?=some a/\(#[a,b]:Array Value)[1]?=some b:=fun a b=>⟨V,V⟩
 unfold Builtin.append_
 simp only[show(#[st,E]:Array TypeId)[0]?=some st from V,show(#[st,E]:Array TypeId)[1]?=some E from V,
  show(#[Value.slice base n k,A]:Array Value)[0]?=some (Value.slice base n k) from V,show(#[Value.slice base n k,A]:Array Value)[1]?=some A from V,
  Sem.run_bind,az w hu,az w ap,Result.andThen_ok,bc w ao,Sem.run_pure,a0M,if_false,U,
  show ¬(n+m<=k) by omega,ep w hi,aa,ag]
 simp only[Sem.run_bind,run_choose,Question.forced,a0M,if_false,Result.andThen_ok,World.drew_eq,ep w.drew hi,run_askRoom,ad,Z,a1x,if_true,
  eo w.drew hi hz,newRow,run_newObj,Sem.run_pure]
 rfl
theorem fG{st E ty e:TypeId}{N:TypeDesc}{A:Value}{base:Option Addr}{n m k sz:Nat}{T:List Value}{w':World}
  (hu:P.underlying st=some (.slice e)) (al:P.underlying E=some N) (ad: ∀kk,N≠ .int kk) (hs:cW P e=some sz)
  (U:(Builtin.lenOf A).run P w= .ok m w) (aa:n+m<=k) (Z:(Builtin.firstCells sz m A).run P w= .ok ⟨T⟩ w)
  (ai: ∀a,base=some a->(storeCells (a.add (n *sz)) T).run P w= .ok () w') (ag:base=none->w'=w):
  (Builtin.append_ #[st,E] ty #[.slice base n k,A]).run P w= .ok (.slice base (n+m) k) w':=by
 have ap:(match N with| .int _=>true|_=>false)=false:=by cases N<;>first|rfl|exact absurd V (ad _)
 unfold Builtin.append_
 simp only[show(#[st,E]:Array TypeId)[0]?=some st from V,show(#[st,E]:Array TypeId)[1]?=some E from V,
  show(#[Value.slice base n k,A]:Array Value)[0]?=some (Value.slice base n k) from V,show(#[Value.slice base n k,A]:Array Value)[1]?=some A from V,
  Sem.run_bind,az w hu,az w al,Result.andThen_ok,bc w hs,Sem.run_pure,a0M,if_false,U,aa,if_true,a1x,Z]
 cases base with
 |none=>rw[ag rfl];rfl
 |some a=>simp only[Sem.run_bind,ai a V,Result.andThen_ok,Sem.run_pure]
theorem Post.kill(h:WRel μ H w){b:Nat}{l:Loc}{o:AObj}(hb:μ b=some l)(ho:H.get b=some o)(hr:o.rw=true):Post μ H w μ (H.put b .dead) w:=by
 refine⟨fun _ _ h=>h,fun _ _ h=> .inl h,a0d _,V,V,V,fun _ _ _=>rfl,fun k x Z N A aw=>?_,⟨fun k x Z N A=>?_,fun b1 b2 l1 l2 U o2 ao ai al ap aq av T=>?_⟩⟩
 ·by_cases e:b=k
  ·subst e;exact .inr ⟨b,l,o,hb,ho,gR hr,fun _=>hr,by rw[hb]at N;injection N with N;rw[N]⟩
  rw[Heap.get_put_ne H _ e]at A;exact .inr ⟨k,x,Z,N,A,aw,id,V⟩
 ·by_cases e:b=k
  ·subst e;rw[Heap.get_put_same]at A;injection A with A;subst A;trivial
  rw[Heap.get_put_ne H _ e]at A;exact h.obj k x Z N A
 have old: ∀k ok,ok.live=true->(H.put b .dead).get k=some ok->H.get k=some ok:=by
  intro k ok an E;by_cases e:b=k
  ·subst e;rw[Heap.get_put_same]at E;injection E with E;subst E;simp[AObj.live]at an
  rw[Heap.get_put_ne H _ e]at E;exact E
 exact h.inj b1 b2 l1 l2 U o2 ao ai al (old b1 U (by cases U<;>simp_all[AObj.rw,AObj.live]) ap) (old b2 o2 T aq) av T
theorem szOf_info{e:TypeId}{s:Nat}(h:cW P e=some s): ∃i,P.info? e=some i/\i.size=s:=by
 unfold cW at h;split at h
 ·rename_i i hi;injection h with h;exact⟨i,hi,h⟩
 cases h
theorem d4(a b:List Value)(c:Array Value):(⟨a⟩++⟨b⟩++c:Array Value)=⟨(a++b)++c.toList⟩:=by apply Array.ext';simp
theorem append_sound{types:Array TypeId}{ty:TypeId}{s x s' x' v:Value}(h:WRel μ H w)(hf: ∀b,H.next<=b->b<H'.next->μ b=none)
  (hs:VRel μ s s') (hx:VRel μ x x') (dl:types.size=2) (A:fW P types s x H=some (v,H')):
  ∃v' w' μ',(Builtin.append_ types ty #[s',x']).run P w= .ok v' w'/\Post μ H w μ' H' w'/\VRel μ' v v':=by
 obtain⟨tl⟩:=types
 match tl,dl with
 | [st,xt],_=>
 unfold fW at A
 simp only[show(#[st,xt]:Array TypeId)[0]?=some st from V,show(#[st,xt]:Array TypeId)[1]?=some xt from rfl]at A
 split at A
 ·rename_i e xd hu ao;split at A
  ·cases A
  rename_i an;split at A
  ·rename_i sz e0 z m a3 f6 hz hm;obtain⟨i,vz,hi,b4,e6,g6⟩:=eB (P:=P) hz;obtain⟨i2,ck,ht⟩:=jO f6;rw[hi]at ck;injection ck with ck;subst ck;obtain⟨i3,co,b2⟩:=szOf_info a3;rw[hi]at co;injection co with co;subst co;have Z:(Builtin.lenOf x').run P w= .ok m w:=lenA_run hm hx;split at A
   ·cases A
   rename_i b6 dj;obtain⟨N,al,ar,ad⟩:=dZ (P:=P) h hx ⟨m,hm,a0d _⟩ dj;obtain⟨g9,aq,ap,_⟩:=dZ (P:=P) h.drew hx ⟨m,hm,a0d _⟩ dj;split at A
   ·--nil
    obtain rfl:=hs.eq0 V;cases hq:Nat.beq m 0 with
    |true=>
     rw[hq]at A
     simp only[cond_true,a00,a05]at A
     obtain⟨rfl,rfl⟩:=A
     have b1:m=0:=a0c hq
     subst b1
     exact⟨_,w,μ,fG (w':=w) hu ao (fun kk=>an kk) a3 Z (a0d _) al (fun a ha=>by cases ha) (fun _=>rfl),Post.refl h,.atom _ V⟩
    |false=>
     rw[hq]at A
     simp only[cond_false]at A
     have b1:m≠0:=fun e=>by subst e;cases hq
     cases a2:(Nat.beq (eA z) sz&&Nat.ble m 2147483648&&Nat.ble e0 4096&& !Nat.beq sz 0) with
     |false=>rw[a2]at A;cases A
     |true=>
      rw[a2]at A
      simp only[cond_true,a00,a05]at A
      obtain⟨rfl,rfl⟩:=A
      simp only[a0a,a0F]at a2
      obtain⟨⟨⟨q1,q2⟩,q3⟩,q4⟩:=a2
      have q1:z.length=sz:=by rw[←bG];exact a0c q1
      have q2:=a08 q2
      have q3:=a08 q3
      obtain⟨nc,ax,E⟩:=iP (P:=P) (w:=w) (ty:=ty) (base:=none) (n:=0) (k:=0) (old:=[]) hu ao (fun kk=>an kk) hi b2 b4 Z M M M (by simp[Builtin.firstCells]) aq
      simp only[a1c]at E ax
      rw[d4,a14]at E
      obtain⟨l,h1,h2,h3,h4,_,hp⟩:=di (P:=P) h.drew (hf H.next (a0d _) (by simp[aR])) e ap (Builtin.zeroCells vz.cells (nc-m)).toList (some sz) (fun e=>by cases e)
      refine⟨_,_,_,E,(Post.drew h).trans hp (a0d _) (by simp[aR]),?_⟩
      have:=VRel.sliceO (μ:=μ.set H.next l) H.next 0 0 m m nc sz l (Emb.set_same _ _ _) h3 (a0d _) ax (fun _=>by omega) (by
       rw[h4,dx (show vz.cells.size=sz by rw[←q1,←e6];simp),ad,a1c,←a12];exact a0B _ M)
      rw[h1]at this;exact this
   ·--a slice
    rename_i b o n k;obtain⟨l,hμ,hc⟩:=hs.slice_inv;split at A
    ·rename_i cs gs ro hg;have b9:l.opn=gs:=by
      have:=h.obj b l _ hμ hg;cases ro
      ·exact this.1
      exact this.1
     cases hq:Nat.ble (n+m) k with
     |true=>
      rw[hq]at A
      simp only[cond_true]at A
      have cv:n+m<=k:=a08 hq
      cases c5:Nat.beq m 0 with
      |true=>
       rw[c5]at A
       simp only[cond_true,a00,a05]at A
       obtain⟨rfl,rfl⟩:=A
       have b1:m=0:=a0c c5
       subst b1
       have f8:N=[]:=a0z (by rw[←ar.1,ad];simp)
       subst f8
       rcases hc with⟨U,rfl⟩|⟨e',o',k',U,rfl,e5,dd,a6,ci⟩|⟨rfl,rfl,a',rfl⟩
       rotate_right
       ·exact⟨_,w,μ,fG (w':=w) hu ao (fun kk=>an kk) a3 Z cv al (fun a ha=>rfl) (fun e=>by cases e),Post.refl h,hs⟩
       ·exact⟨_,w,μ,fG (w':=w) hu ao (fun kk=>an kk) a3 Z cv al (fun a ha=>rfl) (fun e=>by cases e),Post.refl h,hs⟩
       exact⟨_,w,μ,fG (w':=w) hu ao (fun kk=>an kk) a3 Z M al (fun a ha=>rfl) (fun e=>by cases e),Post.refl h,hs⟩
      |false=>
       rw[c5]at A
       simp only[cond_false]at A
       have b1:m≠0:=fun e=>by subst e;cases c5
       split at A
       ·rename_i h1 go;simp only[a00,a05]at A;obtain⟨rfl,rfl⟩:=A;obtain⟨w',E,hp⟩:=gh (P:=P) h hμ go ar;rcases hc with⟨U,rfl⟩|⟨e',o',k',U,rfl,e5,dd,a6,ci⟩|⟨rfl,rfl,a',rfl⟩
        rotate_right
        ·omega
        ·refine⟨_,w',μ,fG (w':=w') hu ao (fun kk=>an kk) a3 Z cv al (fun a ha=>?_) (fun e=>by cases e),hp,.sliceC b o _ _ l hμ U⟩;injection ha with ha;subst ha;rw[db,a1v];exact E
        refine⟨_,w',μ,fG (w':=w') hu ao (fun kk=>an kk) a3 Z M al (fun a ha=>?_) (fun e=>by cases e),hp,.sliceO b o o' _ _ _ e' l hμ U cv dd a6 ci⟩;injection ha with ha;subst ha;rw[db,a6 M,a1v];exact E
       cases A
     |false=>
      rw[hq]at A
      simp only[cond_false]at A
      have e4:k<n+m:=by
       rcases a0k k (n+m) with h'|h'
       ·exact h'
       rw[a0y h']at hq;cases hq
      cases a2:(Nat.beq (eA z) sz&&Nat.ble (n+m) 2147483648&&Nat.ble e0 4096&& !Nat.beq sz 0&&Nat.ble n k) with
      |false=>rw[a2]at A;cases A
      |true=>
       rw[a2]at A
       simp only[cond_true]at A
       simp only[a0a,a0F]at a2
       obtain⟨⟨⟨⟨q1,q2⟩,q3⟩,q4⟩,q5⟩:=a2
       have q1:z.length=sz:=by rw[←bG];exact a0c q1
       have q2:=a08 q2
       have q3:=a08 q3
       have q5:=a08 q5
       have hA:sz≠0:=fun e=>by rw[e]at q4;cases q4
       have bz:vz.cells.size=sz:=by rw[←q1,←e6];simp
       split at A
       ·cases A
       rename_i old ag
       obtain⟨hb,g5,g4,av⟩:=dZ (P:=P) h hs ⟨n,V,a0d _⟩ ag
       obtain⟨hd,a1,a0,_⟩:=dZ (P:=P) h.drew hs ⟨n,V,a0d _⟩ ag
       split at A
       ·--exact
        simp only[a00,a05]at A;obtain⟨rfl,rfl⟩:=A;rcases hc with⟨U,rfl⟩|⟨e',o',k',U,rfl,_⟩|⟨rfl,rfl,a',rfl⟩
        rotate_right
        ·obtain⟨nc,ax,E⟩:=iP (P:=P) (w:=w) (ty:=ty) hu ao (fun kk=>an kk) hi b2 b4 Z e4 q2 M a1 aq;rw[d4]at E;obtain⟨l',h1,h2,h3,h4,_,hp⟩:=di (P:=P) h.drew (hf H.next (a0d _) (by simp[aR])) e (a0.append ap) (Builtin.zeroCells vz.cells (nc-(0+m))).toList (some sz) (fun e=>by cases e);rw[dS];refine⟨_,_,_,E,(Post.drew h).trans hp (a0d _) (by simp[aR]),?_⟩;have:=VRel.sliceO (μ:=μ.set H.next l') H.next 0 0 (0+m) (0+m) nc sz l' (Emb.set_same _ _ _) h3 (a0d _) ax (fun _=>by omega) (by
          rw[h4,dx bz,a02,av,ad,a1c,←a12,←a12];exact a0B _ M)
         rw[h1]at this;exact this
        ·obtain⟨nc,ax,E⟩:=iP (P:=P) (w:=w) (ty:=ty) hu ao (fun kk=>an kk) hi b2 b4 Z e4 q2 M a1 aq;rw[d4]at E;obtain⟨l',h1,h2,h3,h4,_,hp⟩:=di (P:=P) h.drew (hf H.next (a0d _) (by simp[aR])) e (a0.append ap) (Builtin.zeroCells vz.cells (nc-(n+m))).toList (some sz) (fun e=>by cases e);rw[dS];refine⟨_,_,_,E,(Post.drew h).trans hp (a0d _) (by simp[aR]),?_⟩;have:=VRel.sliceO (μ:=μ.set H.next l') H.next 0 0 (n+m) (n+m) nc sz l' (Emb.set_same _ _ _) h3 (a0d _) ax (fun _=>by omega) (by
          rw[h4,dx bz,a02,av,ad,a1c,←a12,←a12];exact a0B _ M)
         rw[h1]at this;exact this
        rw[b9]at U;cases U
       ·--open
        rename_i T;cases c6:(Nat.beq T sz&& !ro&&ng Value.oneCell' b6) with
        |false=>rw[c6]at A;cases A
        |true=>
         rw[c6]at A
         simp only[cond_true,a00,a05]at A
         obtain⟨rfl,rfl⟩:=A
         simp only[a0a,a0F]at c6
         obtain⟨⟨q6,q7⟩,q8⟩:=c6
         have q6:T=sz:=a0c q6
         subst q6 q7
         rcases hc with⟨U,rfl⟩|⟨e',o',k',U,rfl,e5,dd,a6,ci⟩|⟨rfl,rfl,a',rfl⟩
         rotate_right
         ·have a9:μ H.next=none:=hf H.next (a0d _) (by simp[aR]);obtain⟨nc,ax,E⟩:=iP (P:=P) (w:=w) (ty:=ty) hu ao (fun kk=>an kk) hi b2 b4 Z M q2 M a1 aq;rw[d4]at E;have hk:=Post.kill h hμ hg V;obtain⟨l',h1,h2,h3,h4,_,hp⟩:=di (P:=P) (H:=H.put b .dead) hk.wrel.drew a9 e (a0.append ap) (Builtin.zeroCells vz.cells (nc-(0+m))).toList (some T) (fun e=>by cases e);rw[dS];refine⟨_,_,_,E,(hk.trans (Post.drew hk.wrel) (a0d _) (a0d _)).trans hp (a0d _) (by simp[aR]),?_⟩;have:=VRel.sliceO (μ:=μ.set H.next l') H.next 0 0 (0+m) (0+m) nc T l' (Emb.set_same _ _ _) h3 (a0d _) ax (fun _=>by omega) (by
           rw[h4,dx bz,a02,av,ad,a1c,←a12,←a12];exact a0B _ M)
          rw[h1]at this;exact this
         ·rw[b9]at U;cases U
         rw[b9]at U;injection U with U;subst U
         have a9:μ H.next=none:=hf H.next (a0d _) (by simp[aR])
         by_cases c9:n+m<=k'
         ·--in place
          obtain⟨r1,ay,et,hh,r2,r3,r4⟩:=h.obj b l _ hμ hg;have c0:N.length=m *T:=by rw[←ar.1];exact ad
          have hy:m≠0:=M
          have gb:N≠ []:=fun e=>by rw[e]at c0;have:=Nat.mul_eq_zero.1 c0.symm;omega
          have d2:N.all Value.oneCell'=true:=by
           rw[a0t];intro u bb;obtain⟨j,hj⟩:=List.getElem?_of_mem bb;have e2:j<b6.length:=by rw[ar.1];exact(a0u.1 hj).1
           have hr:=ar.2 j b6[j] u (a06 e2) hj;rw[hr.oneCell];rw[oi]at q8;exact a0t.1 q8 _ (a0T e2)
          have b7:o'+n *T+N.length<=ay.size:=by rw[c0,r2];have:(n+m) *T<=k' *T:=a0B _ c9;rw[a12]at this;omega
          have b3:=dC (P:=P) l.c et N w ay (o'+n *T) 0 hh M d2 gb;simp only[a2s]at b3;have fi:(be ay.toList (o'+n *T) N).length=ay.size:=by rw[cg _ _ _ (by simpa using b7)];simp
          have em:=Post.take h hμ hg V a9 ⟨l.c,o',some T,l.csz⟩ V (.cells (appL old b6) (some T) false) (.cells ⟨be ay.toList (o'+n *T) N⟩ et (0,0)) (by
           refine⟨V,_,et,cM w _ (cP hh),by show(be ay.toList (o'+n *T) N).length=_;rw[fi,r2],?_,fun j u hj=>?_⟩
           ·rw[dS,a02,av,ad];show o'+_<=l.csz;rw[←r2];rw[c0]at b7;omega
           rw[dS]at hj;have mg: ∀v':Value,(be ay.toList (o'+n *T) N)[o'+j]?=some v'->(Array.mk (be ay.toList (o'+n *T) N))[o'+j]?=some v':=fun v' hv=>(lu _ _).trans hv
           rw[br _ _ _ _ (by simpa using b7)]at mg;by_cases e3:j<n *T
           ·rw[a0Q M]at hj;rw[if_neg M]at mg;have f9:n≠0:=fun e=>by subst e;simp at e3
            unfold fk at ag;have f5:Nat.beq n 0=false:=by
             cases f4:Nat.beq n 0 with
             |false=>rfl
             |true=>exact absurd (a0c f4) f9
            rw[f5]at ag;simp only[cond_false,Heap.loadN,hg,bS,ca,bG]at ag;cases e1:Nat.beq ((cs.drop o).take (n *T)).length (n *T) with
            |false=>rw[e1]at ag;cases ag
            |true=>
             rw[e1]at ag
             simp only[cond_true,a00]at ag
             rw[←ag,a0A,if_pos e3,a0L]at hj
             obtain⟨u',bb,hr⟩:=r4 (o+j) u hj
             refine⟨u',mg u' ?_,hr.mono (Emb.set_ext _ a9)⟩
             have:o'+j=l.sh+(o+j):=by have:=a6 M;omega
             rw[this];simpa using bb
           rw[a0S M,av]at hj;obtain⟨u',bb,hr⟩:=ar.get hj;have hw:j-n *T<N.length:=(a0u.1 bb).1;rw[if_pos M]at mg;exact⟨u',mg u' (by rw[←bb];congr 1;omega),hr.mono (Emb.set_ext _ a9)⟩)
          refine⟨.slice (some ⟨l.c,o',none⟩) (n+m) k',_,_,fG (w':=bB w l.c (.cells ⟨be ay.toList (o'+n *T) N⟩ et (0,0))) hu ao (fun kk=>an kk) a3 Z c9 al (fun a ha=>?_) (fun e=>by cases e),em,?_⟩
          ·injection ha with ha;subst ha;rw[db];exact b3
          exact VRel.sliceO (μ:=μ.set H.next ⟨l.c,o',some T,l.csz⟩) H.next 0 o' (n+m) (n+m) k' T ⟨l.c,o',some T,l.csz⟩ (Emb.set_same _ _ _) V (a0d _) c9 (fun _=>rfl) ci
         ·--a b6 row
          obtain⟨nc,ax,E⟩:=iP (P:=P) (w:=w) (ty:=ty) hu ao (fun kk=>an kk) hi b2 b4 Z M q2 M a1 aq;rw[d4]at E;have hk:=Post.kill h hμ hg V;obtain⟨l',h1,h2,h3,h4,_,hp⟩:=di (P:=P) (H:=H.put b .dead) hk.wrel.drew a9 e (a0.append ap) (Builtin.zeroCells vz.cells (nc-(n+m))).toList (some T) (fun e=>by cases e);rw[dS];refine⟨_,_,_,E,(hk.trans (Post.drew hk.wrel) (a0d _) (a0d _)).trans hp (a0d _) (by simp[aR]),?_⟩;have:=VRel.sliceO (μ:=μ.set H.next l') H.next 0 0 (n+m) (n+m) nc T l' (Emb.set_same _ _ _) h3 (a0d _) ax (fun _=>by omega) (by
           rw[h4,dx bz,a02,av,ad,a1c,←a12,←a12];exact a0B _ M)
          rw[h1]at this;exact this
    cases A
   cases A
  cases A
 cases A
end
section
variable {P:Program} {μ:Emb} {H H':Heap} {w:World}
theorem copy_sound{types:Array TypeId}{ty:TypeId}{d s d' T v:Value}(h:WRel μ H w)(hd:VRel μ d d')(hs:VRel μ s T)(A:ot P types d s H=some (v,H')):
  ∃v' w',(Builtin.copy_ types ty #[d',T]).run P w= .ok v' w'/\Post μ H w μ H' w'/\VRel μ v v':=by
 unfold ot at A
 split at A
 ·rename_i dt an;split at A
  ·rename_i e base N dk m hu hm;split at A
   ·rename_i sz ao;simp only at A;obtain⟨E,U,rfl,bb⟩:=dp hd;have ad:(Builtin.lenOf T).run P w= .ok m w:=lenA_run hm hs;cases hq:Nat.beq (Nat.min m N) 0 with
    |true=>
     rw[hq]at A
     simp only[cond_true,a00,a05]at A
     obtain⟨rfl,rfl⟩:=A
     have h0:Nat.min m N=0:=a0c hq
     refine⟨_,w,?_,Post.refl h,.atom (goInt 0) V⟩
     have ax:(Builtin.firstCells sz 0 T).run P w= .ok #[] w:=by
      unfold lenA at hm;split at hm
      ·rename_i a n k;obtain⟨a',k',rfl,_⟩:=dp hs;cases a'<;>simp[Builtin.firstCells,loadCells,loadCellsFrom]
      ·rename_i u;obtain rfl:=hs.string_inv;simp only[Builtin.firstCells,Sem.run_pure,dQ];congr 1;simp
      cases hm
     unfold Builtin.copy_
     simp only[an,show(#[Value.slice E N U,T]:Array Value)[0]?=some (Value.slice E N U) from V,show(#[Value.slice E N U,T]:Array Value)[1]?=some T from V,
      Sem.run_bind,az w hu,Result.andThen_ok,ad,bc w ao,h0,ax]
     cases E<;>simp[storeCells]
    |false=>
     rw[hq]at A
     simp only[cond_false]at A
     split at A
     ·rename_i l a hl;split at A
      ·rename_i H1 a1;simp only[a00,a05]at A;obtain⟨rfl,rfl⟩:=A;obtain⟨b,o,sp⟩:=a;have a0:sp=none:=hd.slice_some.1;subst a0;obtain⟨bt,ay,al,a3⟩:=dZ (P:=P) h hs ⟨m,hm,Nat.min_le_left _ _⟩ hl;obtain⟨Z,hμ,hc⟩:=hd.slice_inv;have h0:Nat.min m N≠0:=fun e=>by rw[e]at hq;cases hq
       have bk:0<N:=by
        rcases a1Q N with e|e
        ·exfalso;apply h0;rw[e];exact Nat.min_zero _
        exact e
       obtain⟨w',ar,hp⟩:=gh (P:=P) h hμ a1 al;have aw:E=some ⟨Z.c,Z.sh+o,none⟩:=by
        rcases hc with⟨_,he⟩|⟨e',o',k',_,he,bl,_,aq,_⟩|⟨hz,_,_⟩
        rotate_right
        ·omega
        ·injection he with he
        injection he with he _ _;rw[he,aq M]
       subst aw;refine⟨goInt (Nat.min m N:Nat),w',?_,hp,.atom _ V⟩;unfold Builtin.copy_;simp only[an,show(#[Value.slice (some ⟨Z.c,Z.sh+o,none⟩) N U,T]:Array Value)[0]?=some (Value.slice (some ⟨Z.c,Z.sh+o,none⟩) N U) from V,
        show(#[Value.slice (some ⟨Z.c,Z.sh+o,none⟩) N U,T]:Array Value)[1]?=some T from V,
        Sem.run_bind,az w hu,Result.andThen_ok,ad,bc w ao,ay,ar,Sem.run_pure]
      cases A
     cases A
   cases A
  cases A
 cases A
theorem len_sound{t ty:TypeId}{x x' v:Value}(h:WRel μ H w)(T:VRel μ x x')(A:aLen P t x H=some v):
  (Builtin.len_ #[t] ty #[x']).run P w= .ok v w/\noA0 v=true:=by
 unfold aLen at A
 split at A
 ·rename_i e a n k E;injection A with A;subst A;obtain⟨a',k',rfl,_⟩:=dp T;exact⟨by simp[Builtin.len_,az w E],V⟩
 ·rename_i s E;injection A with A;subst A;obtain rfl:=T.string_inv;exact⟨by simp[Builtin.len_,az w E,bG],V⟩
 ·rename_i k e E;injection A with A;subst A;obtain rfl:=T.mapNil_inv;exact⟨by simp[Builtin.len_,az w E],V⟩
 ·rename_i k e r E;split at A
  ·rename_i es hg;injection A with A;subst A;obtain⟨l,hμ,rfl⟩:=T.map_inv;obtain⟨Z,N,hh,hl,_⟩:=h.obj r l _ hμ hg;have U:(getObj l.c).run P w= .ok (.map Z N) w:=run_getObj hh (by intros;simp);exact⟨by simp[Builtin.len_,az w E,U,hl],V⟩
  cases A
 cases A
theorem ga: ∀(l:List Value) (r:List UInt8) (s:ByteArray),cH l=some r->
  (forIn (m:=Sem) l s (fun c s=>match c with
   | .int .u8 n=>Pure.pure (ForInStep.yield (s.push (UInt8.ofNat n.toNat)))
   |_=>do stuck "bytesToString: byte expected";Pure.pure (ForInStep.yield s))).run P w= .ok ⟨⟨s.data.toList++r⟩⟩ w
 | [],r,s,h=>by simp only[cH,a00]at h;subst h;simp
 |v::l,r,s,h=>by
  unfold cH at h;split at h
  ·rename_i A;cases A
  ·rename_i n U A;injection A with h1 h2;subst h1 h2;split at h
   ·rename_i T E;injection h with h;subst h;have N:=ga l T (s.push (UInt8.ofNat n.toNat)) E;simp only[List.forIn_cons,Sem.run_bind,Sem.run_pure,Result.andThen_ok,N];congr 3;simp
   cases h
  cases h
theorem eR: ∀(l:List Value) (r:List UInt8),cH l=some r->l.all noA0=true
 | [],_,_=>rfl
 |v::l,r,h=>by
  unfold cH at h;split at h
  ·rename_i A;cases A
  ·rename_i n T A;injection A with h1 h2;subst h1 h2;split at h
   ·rename_i N E;simp only[a0E,noA0,a1p];exact eR l N E
   cases h
  cases h
theorem nQ{ρ ρ':Operand->Value}{o:Oper}{s d:TypeId}{x:Operand}{r:AN}(h:WRel μ H w)(ai:o.op= .convert s d x)(hρ: ∀x∈o.op.operands,VRel μ (ρ x) (ρ' x))
  (ho:fS P ρ o s d (ρ x) H=some (r,H')):OpOK P μ H w (execOp ρ' o) r H':=by
 have Z:VRel μ (ρ x) (ρ' x):=hρ x (by rw[ai];simp[Op.operands])
 have aa:execOp ρ' o=(do Pure.pure (.value (←convert s d (ρ' x)))):=by unfold execOp;simp only[ai]
 unfold fS at ho
 split at ho
 ·rename_i k n hv;rw[hv]at Z;obtain⟨rfl,v,A,rfl⟩:=cx ho;unfold nR at A;split at A
  ·rename_i sd kd T N;injection A with A;subst A;rw[aa];refine OpOK.value (v':= .int kd (kd.wrap n)) ?_ (Post.refl h) (.atom _ V);rw[Z.int_inv];simp[convert,az w T,az w N,Conv.intToInt]
  cases A
 ·rename_i a n k hv;rw[hv]at Z;obtain⟨rfl,v,A,rfl⟩:=cx ho;rw[aa];unfold eK at A;split at A
  ·rename_i e T N;split at A
   ·rename_i al;split at A
    ·injection A with A;subst A;obtain⟨_,_,E⟩:=Z.sliceNil_inv;refine OpOK.value (v':= .string .empty) ?_ (Post.refl h) (.atom _ V);rw[E];simp[convert,az w T,az w N,az w al,Conv.bytesToString]
    rename_i a;obtain⟨b,o2,sp⟩:=a;have a1:sp=none:=Z.slice_some.1;subst a1;cases hq:Nat.beq n 0 with
    |true=>
     rw[hq]at A
     simp only[cond_true,a00]at A;subst A
     have hn:n=0:=a0c hq
     subst hn
     obtain⟨_,a',k',E⟩:=Z.slice_some
     refine OpOK.value (v':= .string .empty) ?_ (Post.refl h) (.atom _ V)
     rw[E]
     simp[convert,az w T,az w N,az w al,Conv.bytesToString,loadCells,loadCellsFrom]
    |false=>
     rw[hq]at A
     simp only[cond_false]at A
     have hn:n≠0:=fun e=>by subst e;cases hq
     split at A
     ·rename_i l hl;split at A
      ·rename_i rb aq;injection A with A;subst A;obtain⟨l0,hμ,hc⟩:=Z.slice_inv;obtain⟨ar,U,ax,a7⟩:=hU (P:=P) h hμ hl;have a2:ar=l:=ax.eq0 (eR l rb aq);subst a2;have E: ∃k',ρ' x= .slice (some ⟨l0.c,l0.sh+o2,none⟩) n k':=by
        rcases hc with⟨_,he⟩|⟨e',o',k',_,he,bt,_,aw,_⟩|⟨hz,_,_⟩
        rotate_right
        ·exact absurd hz hn
        ·exact⟨k,he⟩
        rw[aw M]at he;exact⟨k',he⟩
       obtain⟨k',E⟩:=E;refine OpOK.value (v':= .string ⟨⟨rb⟩⟩) ?_ (Post.refl h) (.atom _ V);rw[E];have hb:=ga (P:=P) (w:=w) ar rb .empty aq;simp only[convert,Sem.run_bind,az w T,az w N,az w al,Result.andThen_ok,Conv.bytesToString,U];have he:((ByteArray.empty.data.toList++rb:List UInt8))=rb:=rfl;rw[he]at hb;simp only[←Array.forIn_toList]at *
       exact congrArg (fun r=>Result.andThen r fun a w'=>Sem.run P (Pure.pure (Value.string a)) w') hb
      cases A
     cases A
   cases A
  cases A
 obtain⟨rfl,v,v',rfl,U,hr⟩:=dE ho (fun _ _=>by rw[ai];simp) hρ
 exact⟨.value v',w,μ,U w,Post.refl h,hr⟩
theorem callee_sound{f f':Value}{args:List Value}{E:Array Value}{r:AN}(hf:VRel μ f f')(ha:LRel μ args E.toList)(A:fV P f args=some r):
  ∃i U,r= .enter i U/\∃T,(∀w,(do let d ←Deferred.ofValue f' E;invoke d.target d.args:Sem Next).run P w= .ok (.enter i T) w)/\LRel μ U T.toList:=by
 unfold fV at A
 split at A
 ·rename_i i first ad;obtain⟨aa,N,rfl,h1,h2⟩:=hf.func_inv;split at A
  ·rename_i fn al;cases Z:(fn.body.isSome&& !(fn.name== "runtime.NumGoroutine")) with
   |false=>rw[Z]at A;cases A
   |true=>
    rw[Z]at A
    simp only[cond_true,a00]at A;subst A
    simp only[a0a,a0F]at Z
    refine⟨i,_,V,(aa++E)++N,fun w=>?_,?_⟩
    ·have hb: ¬fn.body=none:=by intro ai;rw[ai]at Z;cases Z.1
     have an: ¬fn.name= "runtime.NumGoroutine" :=by have:=Z.2;simpa using this
     simp[Deferred.ofValue,invoke,callFunc,al,an,hb]
    rw[dS,dS]
    have:=(h1.append (ha.append h2))
    simpa using this
  cases A
 cases A
end
end Go.R
