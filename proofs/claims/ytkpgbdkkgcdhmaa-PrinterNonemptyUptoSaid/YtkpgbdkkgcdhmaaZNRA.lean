/-
The evaluator is sound: values, operations, memory.
-/
import Derived.Test.YtkpgbdkkgcdhmaaZNR0
import Derived.IntWalk
set_option linter.unusedVariables false
set_option linter.unusedSimpArgs false
namespace Go.R
structure Loc where
 c:Nat
 sh:Nat
 opn:Option Nat
 csz:Nat
abbrev Emb:=Nat->Option Loc
inductive VRel(μ:Emb):Value->Value->Prop
 |atom (v:Value):dr v=true->VRel μ v v
 |ptr (b o:Nat) (l:Loc):μ b=some l->VRel μ (.pointer (some ⟨b,o,none⟩)) (.pointer (some ⟨l.c,l.sh+o,none⟩))
 |sliceC (b o n k:Nat) (l:Loc):μ b=some l->l.opn=none->VRel μ (.slice (some ⟨b,o,none⟩) n k) (.slice (some ⟨l.c,l.sh+o,none⟩) n k)
 |sliceO (b o o' n k k' e:Nat) (l:Loc):μ b=some l->l.opn=some e->n<=k->k<=k'->(0<k->o'=l.sh+o)->o'+k' *e<=l.csz->
   VRel μ (.slice (some ⟨b,o,none⟩) n k) (.slice (some ⟨l.c,o',none⟩) n k')
 |sliceZ (b o:Nat) (a:Addr) (l:Loc):μ b=some l->VRel μ (.slice (some ⟨b,o,none⟩) 0 0) (.slice (some a) 0 0)
 |map (b:Nat) (l:Loc):μ b=some l->VRel μ (.map (some b)) (.map (some l.c))
 |func (fn:Fn) (xs ys xs' ys':Array Value):xs.toList.length=xs'.toList.length->ys.toList.length=ys'.toList.length->
   (∀(i:Nat) v v',xs.toList[i]?=some v->xs'.toList[i]?=some v'->VRel μ v v')->
   (∀(i:Nat) v v',ys.toList[i]?=some v->ys'.toList[i]?=some v'->VRel μ v v')->VRel μ (.func fn xs ys) (.func fn xs' ys')
 |agg (xs xs':Array Value):xs.toList.length=xs'.toList.length->
   (∀(i:Nat) v v',xs.toList[i]?=some v->xs'.toList[i]?=some v'->VRel μ v v')->VRel μ (.agg xs) (.agg xs')
 |tuple (xs xs':Array Value):xs.toList.length=xs'.toList.length->
   (∀(i:Nat) v v',xs.toList[i]?=some v->xs'.toList[i]?=some v'->VRel μ v v')->VRel μ (.tuple xs) (.tuple xs')
def LRel(μ:Emb)(l l':List Value):Prop:=l.length=l'.length/\∀(i:Nat) v v',l[i]?=some v->l'[i]?=some v'->VRel μ v v'
section
variable {μ μ':Emb}
theorem VRel.mono(h: ∀b l,μ b=some l->μ' b=some l){v v':Value}(A:VRel μ v v'):VRel μ' v v':=by
 induction A with
 |atom v h0=>exact .atom v h0
 |ptr b o l hb=>exact .ptr b o l (h _ _ hb)
 |sliceC b o n k l hb ho=>exact .sliceC b o n k l (h _ _ hb) ho
 |sliceO b o o' n k k' e l hb ho h1 h2 h3 h4=>exact .sliceO b o o' n k k' e l (h _ _ hb) ho h1 h2 h3 h4
 |sliceZ b o a l hb=>exact .sliceZ b o a l (h _ _ hb)
 |map b l hb=>exact .map b l (h _ _ hb)
 |func fn xs ys xs' ys' h1 h2 _ _ i1 i2=>exact .func fn xs ys xs' ys' h1 h2 i1 i2
 |agg xs xs' h1 _ i1=>exact .agg xs xs' h1 i1
 |tuple xs xs' h1 _ i1=>exact .tuple xs xs' h1 i1
theorem LRel.mono(h: ∀b l,μ b=some l->μ' b=some l){l l':List Value}(A:LRel μ l l'):LRel μ' l l':=
 ⟨A.1,fun i v v' E O=>(A.2 i v v' E O).mono h⟩
theorem LRel.nil:LRel μ [] []:=⟨V,fun i v v' h=>by simp at h⟩
theorem LRel.cons{v v':Value}{l l':List Value}(h:VRel μ v v')(O:LRel μ l l'):LRel μ (v::l) (v'::l'):=by
 refine⟨by simp[O.1],fun i x U A E=>?_⟩;cases i with
 |zero=>simp at A E;subst A E;exact h
 |succ i=>exact O.2 i x U (by simpa using A) (by simpa using E)
theorem LRel.head{v v':Value}{l l':List Value}(h:LRel μ (v::l) (v'::l')):VRel μ v v':=h.2 0 v v' V V
theorem LRel.tail{v v':Value}{l l':List Value}(h:LRel μ (v::l) (v'::l')):LRel μ l l':=
 ⟨by simpa using h.1,fun i x O A E=>h.2 (i+1) x O (by simpa using A) (by simpa using E)⟩
theorem LRel.get{l l':List Value}(h:LRel μ l l'){i:Nat}{v:Value}(A:l[i]?=some v): ∃v',l'[i]?=some v'/\VRel μ v v':=by
 have hi:i<l'.length:=by rw[←h.1];exact(a0n.1 A).1
 exact⟨l'[i],a09 hi,h.2 i v _ A (a09 hi)⟩
theorem LRel.append{a b O U:List Value}(h:LRel μ a O)(k:LRel μ b U):LRel μ (a++b) (O++U):=by
 refine⟨by simp[h.1,k.1],fun i v v' A E=>?_⟩;by_cases hi:i<a.length
 ·rw[a0V hi]at A;rw[a0V (h.1▸hi)]at E;exact h.2 i v v' A E
 rw[a0O M]at A;rw[a0O (by have:=h.1;omega),←h.1]at E;exact k.2 _ v v' A E
theorem LRel.take{a O:List Value}(h:LRel μ a O)(n:Nat):LRel μ (a.take n) (O.take n):=by
 refine⟨by simp[h.1],fun i v v' A E=>?_⟩;rw[a0C]at A E;split at A
 ·rename_i hi;rw[if_pos hi]at E;exact h.2 i v v' A E
 cases A
theorem LRel.drop{a A:List Value}(h:LRel μ a A)(n:Nat):LRel μ (a.drop n) (A.drop n):=by refine⟨by simp[h.1],fun i v v' E O=>?_⟩;rw[a0E]at E O;exact h.2 _ v v' E O
theorem LRel.nil_left{l':List Value}(h:LRel μ [] l'):l'=[]:=a0h h.1.symm
theorem LRel.cons_left{v:Value}{l l':List Value}(h:LRel μ (v::l) l'): ∃v' A,l'=v'::A/\VRel μ v v'/\LRel μ l A:=by
 cases l' with
 |nil=>have:=h.1;simp at this
 |cons v' A=>exact⟨v',A,V,h.head,h.tail⟩
theorem VRel.oneCell{v v':Value}(h:VRel μ v v'):v'.oneCell'=v.oneCell':=by cases h<;>rfl
theorem VRel.eq0{v v':Value}(h:VRel μ v v')(A:dr v=true):v'=v:=by
 cases h with
 |atom=>rfl
 |func fn xs ys xs' ys' h1 h2 _ _=>
  simp only[dr,a05]at A
  have E:xs.size=0:=a07 A.1
  have O:ys.size=0:=a07 A.2
  have U:xs= #[]:=a1e.1 E
  have Z:ys= #[]:=a1e.1 O
  subst U Z
  have g1:xs'= #[]:=a1e.1 (by simpa using h1.symm)
  have g2:ys'= #[]:=a1e.1 (by simpa using h2.symm)
  subst g1 g2
  rfl
 |_=>simp[dr]at A
theorem LRel.eq0{l l':List Value}(h:LRel μ l l')(A:l.all dr=true):l'=l:=by
 induction l generalizing l' with
 |nil=>exact h.nil_left
 |cons v l ih=>
  obtain⟨v',U,rfl,O,E⟩:=h.cons_left
  simp only[a0j,a05]at A
  rw[O.eq0 A.1,ih E A.2]
theorem VRel.eq1{v v':Value}(h:VRel μ v v')(A:iP v=true):v'=v:=by
 cases h with
 |agg xs xs' hl hi=>
  have:=LRel.eq0 (μ:=μ) (l:=xs.toList) (l':=xs'.toList) ⟨hl,hi⟩ A
  rw[a12.1 this]
 |atom v h0=>rfl
 |_=>exact VRel.eq0 (μ:=μ) (by constructor<;>assumption) A
theorem LRel.eq1{l l':List Value}(h:LRel μ l l')(A:l.all iP=true):l'=l:=by
 induction l generalizing l' with
 |nil=>exact h.nil_left
 |cons v l ih=>
  obtain⟨v',U,rfl,O,E⟩:=h.cons_left
  simp only[a0j,a05]at A
  rw[O.eq1 A.1,ih E A.2]
theorem LRel.refl0{l:List Value}(h:l.all dr=true):LRel μ l l:=by refine⟨V,fun i v v' E A=>?_⟩;rw[E]at A;injection A with A;subst A;exact .atom v (a0y.1 h v (a0q E))
theorem VRel.refl1{v:Value}(h:iP v=true):VRel μ v v:=by
 cases v with
 |agg cs=>have:=LRel.refl0 (μ:=μ) (l:=cs.toList) h;exact .agg cs cs this.1 this.2
 |_=>exact .atom _ h
theorem LRel.refl1{l:List Value}(h:l.all iP=true):LRel μ l l:=by refine⟨V,fun i v v' E A=>?_⟩;rw[E]at A;injection A with A;subst A;exact VRel.refl1 (a0y.1 h v (a0q E))
theorem VRel.refl2{v:Value}(h:noA2 v=true):VRel μ v v:=by
 cases v with
 |tuple vs=>have:=LRel.refl1 (μ:=μ) (l:=vs.toList) h;exact .tuple vs vs this.1 this.2
 |_=>exact VRel.refl1 h
theorem VRel.undef:VRel μ undef undef:=VRel.refl2 V
theorem VRel.eq2{v v':Value}(h:VRel μ v v')(A:noA2 v=true):v'=v:=by
 cases h with
 |tuple xs xs' hl hi=>
  have:=LRel.eq1 (μ:=μ) (l:=xs.toList) (l':=xs'.toList) ⟨hl,hi⟩ A
  rw[a12.1 this]
 |atom v h0=>rfl
 |_=>exact VRel.eq1 (μ:=μ) (by constructor<;>assumption) A
theorem VRel.cells{v v':Value}(h:VRel μ v v'):LRel μ v.cells.toList v'.cells.toList:=by
 have one: ∀{u A:Value},VRel μ u A->LRel μ [u] [A]:=fun E=> .cons E .nil
 cases h with
 |agg xs xs' hl hi=>exact⟨hl,hi⟩
 |atom v h0=>cases v<;>first|(simp[dr]at h0;done)|exact one (.atom _ h0)
 |ptr b o l hb=>exact one (.ptr b o l hb)
 |sliceC b o n k l hb ho=>exact one (.sliceC b o n k l hb ho)
 |sliceO b o o' n k k' e l hb ho h1 h2 h3 h4=>exact one (.sliceO b o o' n k k' e l hb ho h1 h2 h3 h4)
 |sliceZ b o a l hb=>exact one (.sliceZ b o a l hb)
 |map b l hb=>exact one (.map b l hb)
 |func fn xs ys xs' ys' h1 h2 i1 i2=>exact one (.func fn xs ys xs' ys' h1 h2 i1 i2)
 |tuple xs xs' h1 i1=>exact one (.tuple xs xs' h1 i1)
theorem VRel.int_inv{k:IntKind}{n:Int}{v':Value}(h:VRel μ (.int k n) v'):v'= .int k n:=h.eq0 V
theorem VRel.bool_inv{b:Bool}{v':Value}(h:VRel μ (.bool b) v'):v'= .bool b:=h.eq0 V
theorem VRel.string_inv{s:ByteArray}{v':Value}(h:VRel μ (.string s) v'):v'= .string s:=h.eq0 V
theorem VRel.ptr_inv{b o:Nat}{v':Value}(h:VRel μ (.pointer (some ⟨b,o,none⟩)) v'): ∃l,μ b=some l/\v'= .pointer (some ⟨l.c,l.sh+o,none⟩):=by
 cases h with
 |atom _ h0=>simp[dr]at h0
 |ptr _ _ l hb=>exact⟨l,hb,V⟩
theorem VRel.ptr_some{a:Addr}{v':Value}(h:VRel μ (.pointer (some a)) v'):a.spot=none/\∃A,v'= .pointer (some A):=by
 cases h with
 |atom _ h0=>simp[dr]at h0
 |ptr _ _ l hb=>exact⟨V,_,V⟩
theorem VRel.agg_inv{xs:Array Value}{v':Value}(h:VRel μ (.agg xs) v'): ∃A,v'= .agg A/\LRel μ xs.toList A.toList:=by
 cases h with
 |atom _ h0=>simp[dr]at h0
 |agg _ A hl hi=>exact⟨A,V,hl,hi⟩
theorem VRel.tuple_inv{xs:Array Value}{v':Value}(h:VRel μ (.tuple xs) v'): ∃A,v'= .tuple A/\LRel μ xs.toList A.toList:=by
 cases h with
 |atom _ h0=>simp[dr]at h0
 |tuple _ A hl hi=>exact⟨A,V,hl,hi⟩
theorem VRel.func_inv{fn:Fn}{xs ys:Array Value}{v':Value}(h:VRel μ (.func fn xs ys) v'):
  ∃A E,v'= .func fn A E/\LRel μ xs.toList A.toList/\LRel μ ys.toList E.toList:=by
 cases h with
 |atom _ h0=>
  simp only[dr,a05]at h0
  have O:xs= #[]:=a1e.1 (a07 h0.1)
  have U:ys= #[]:=a1e.1 (a07 h0.2)
  subst O U
  exact⟨#[], #[],V,.nil,.nil⟩
 |func _ _ _ A E h1 h2 i1 i2=>exact⟨A,E,V,⟨h1,i1⟩,⟨h2,i2⟩⟩
theorem VRel.map_inv{b:Nat}{v':Value}(h:VRel μ (.map (some b)) v'): ∃l,μ b=some l/\v'= .map (some l.c):=by
 cases h with
 |atom _ h0=>simp[dr]at h0
 |map _ l hb=>exact⟨l,hb,V⟩
theorem VRel.mapNil_inv{v':Value}(h:VRel μ (.map none) v'):v'= .map none:=h.eq0 V
theorem VRel.slice_inv{b o n k:Nat}{v':Value}(h:VRel μ (.slice (some ⟨b,o,none⟩) n k) v'):
  ∃l,μ b=some l/\((l.opn=none/\v'= .slice (some ⟨l.c,l.sh+o,none⟩) n k)\/
   (∃e o' A,l.opn=some e/\v'= .slice (some ⟨l.c,o',none⟩) n A/\n<=k/\k<=A/\(0<k->o'=l.sh+o)/\o'+A *e<=l.csz)\/(n=0/\k=0/\∃E,v'= .slice (some E) 0 0)):=by
 cases h with
 |atom _ h0=>simp[dr]at h0
 |sliceC _ _ _ _ l hb ho=>exact⟨l,hb,.inl ⟨ho,V⟩⟩
 |sliceO _ _ o' _ _ A e l hb ho h1 h2 h3 h4=>exact⟨l,hb,.inr (.inl ⟨e,o',A,ho,V,h1,h2,h3,h4⟩)⟩
 |sliceZ _ _ a l hb=>exact⟨l,hb,.inr (.inr ⟨V,V,a,V⟩)⟩
theorem VRel.sliceNil_inv{n k:Nat}{v':Value}(h:VRel μ (.slice none n k) v'):n=0/\k=0/\v'= .slice none n k:=by
 cases h with
 |atom _ h0=>
  simp only[dr,a05]at h0
  exact⟨a07 h0.1,a07 h0.2,V⟩
theorem VRel.slice_some{a:Addr}{n k:Nat}{v':Value}(h:VRel μ (.slice (some a) n k) v'):a.spot=none/\∃E A,v'= .slice (some E) n A:=by
 cases h with
 |atom _ h0=>simp[dr]at h0
 |sliceC _ _ _ _ l hb ho=>exact⟨V,_,_,V⟩
 |sliceO _ _ o' _ _ A e l hb ho h1 h2 h3 h4=>exact⟨V,_,_,V⟩
 |sliceZ _ _ a l hb=>exact⟨V,_,_,V⟩
end
def ObjRel(μ:Emb)(w:World)(l:Loc):AObj->Prop
 | .cells cs opn true=>l.opn=opn/\opn=none/\l.c<w.heap.size/\∀(i:Nat) v,cs[i]?=some v->∃v',w.cell? ⟨l.c,l.sh+i,none⟩=some v'/\VRel μ v v'
 | .cells cs opn false=>l.opn=opn/\∃(A:Array Value) (e:TypeId),w.heap[l.c]?=some (.cells A e (0,0))/\A.size=l.csz/\l.sh+cs.length<=l.csz/\
   ∀(i:Nat) v,cs[i]?=some v->∃v',A[l.sh+i]?=some v'/\VRel μ v v'
 | .iter s pos=>l.sh=0/\w.heap[l.c]?=some (.stringIter s pos)
 | .tab es=> ∃(E:Array MapEntry) (O:Nat),w.heap[l.c]?=some (.map E O)/\es.length=E.toList.length/\
   ∀(i:Nat) x y,es[i]?=some x->E.toList[i]?=some y->VRel μ x.1 y.key/\VRel μ x.2 y.val
 | .dead=>True
structure WRel(μ:Emb)(H:Heap)(w:World):Prop where
 obj: ∀b l o,μ b=some l->H.get b=some o->ObjRel μ w l o
 inj: ∀b1 b2 l1 l2 o1 o2,b1≠b2->μ b1=some l1->μ b2=some l2->H.get b1=some o1->H.get b2=some o2->o1.rw=true->o2.live=true->l1.c≠l2.c
theorem bP{w:World}{c:Nat}{o:Obj}(h:w.heap[c]?=some o):c<w.heap.size:=(a0z.1 h).1
theorem ObjRel.lt{μ:Emb}{w:World}{l:Loc}{o:AObj}(h:ObjRel μ w l o)(O:o.live=true):l.c<w.heap.size:=by
 cases o with
 |cells cs opn ro=>
  cases ro with
  |true=>exact h.2.2.1
  |false=>obtain⟨_,U,e,A,_⟩:=h;exact bP A
 |iter s pos=>exact bP h.2
 |tab es=>obtain⟨Z,E,A,_⟩:=h;exact bP A
 |dead=>simp[AObj.live]at O
theorem ObjRel.keep{μ μ':Emb}{w w':World}{l:Loc}{o:AObj}(Z: ∀b l,μ b=some l->μ' b=some l)(hs:w.heap.size<=w'.heap.size)
  (hc:o.live=true->w'.heap[l.c]?=w.heap[l.c]?) (h:ObjRel μ w l o):ObjRel μ' w' l o:=by
 cases o with
 |cells cs opn ro=>
  have al:=hc V
  cases ro with
  |true=>
   obtain⟨h1,A,U,h4⟩:=h
   refine⟨h1,A,by omega,fun i v hv=>?_⟩
   obtain⟨v',E,hr⟩:=h4 i v hv
   refine⟨v',?_,hr.mono Z⟩
   rw[←E]
   simp only[World.cell?,al]
  |false=>
   obtain⟨h1,a1,e,hh,A,U,h4⟩:=h
   refine⟨h1,a1,e,al.trans hh,A,U,fun i v hv=>?_⟩
   obtain⟨v',E,hr⟩:=h4 i v hv
   exact⟨v',E,hr.mono Z⟩
 |iter s pos=>exact⟨h.1,(hc V).trans h.2⟩
 |tab es=>
  obtain⟨a2,O,hh,A,U⟩:=h
  refine⟨a2,O,(hc V).trans hh,A,fun i x y hx hy=>?_⟩
  obtain⟨r1,r2⟩:=U i x y hx hy
  exact⟨r1.mono Z,r2.mono Z⟩
 |dead=>trivial
theorem gO{o:AObj}(h:o.rw=true):o.live=true:=by cases o<;>simp_all[AObj.rw,AObj.live]
structure Post(μ:Emb)(H:Heap)(w:World)(μ':Emb)(H':Heap)(w':World):Prop where
 ext: ∀b l,μ b=some l->μ' b=some l
 dom: ∀b l,μ' b=some l->μ b=some l\/(H.next<=b/\b<H'.next)
 grow:w.heap.size<=w'.heap.size
 os:w'.os=w.os
 tape:w'.tape=w.tape
 out:w'.output=w.output
 keep: ∀c,c<w.heap.size->(∀b l o,μ b=some l->H.get b=some o->o.rw=true->l.c≠c)->w'.heap[c]?=w.heap[c]?
 img: ∀b l o,μ' b=some l->H'.get b=some o->o.live=true->w.heap.size<=l.c\/∃b0 l0 o0,μ b0=some l0/\H.get b0=some o0/\o0.live=true/\(o.rw=true->o0.rw=true)/\l0.c=l.c
 wrel:WRel μ' H' w'
theorem Post.refl{μ:Emb}{H:Heap}{w:World}(h:WRel μ H w):Post μ H w μ H w:=
 ⟨fun _ _ h=>h,fun _ _ h=> .inl h,a08 _,V,V,V,fun _ _ _=>rfl,fun b l o A E O=> .inr ⟨b,l,o,A,E,O,id,V⟩,h⟩
theorem Post.trans{μ μ1 μ2:Emb}{H H1 O:Heap}{w w1 w2:World}(h:Post μ H w μ1 H1 w1)(k:Post μ1 H1 w1 μ2 O w2)(h1:H.next<=H1.next)(h2:H1.next<=O.next):
  Post μ H w μ2 O w2:=by
 refine⟨fun b l A=>k.ext b l (h.ext b l A),fun b l A=>?_,a0a h.grow k.grow,k.os.trans h.os,k.tape.trans h.tape,k.out.trans h.out,fun c hc Z=>?_,fun b l o A U E=>?_,k.wrel⟩
 ·rcases k.dom b l A with hb1|⟨hb1,hb2⟩
  ·rcases h.dom b l hb1 with hb0|⟨hb3,hb4⟩
   ·exact .inl hb0
   exact .inr ⟨hb3,by omega⟩
  exact .inr ⟨by omega,hb2⟩
 ·rw[k.keep c (a10 hc h.grow) ?_,h.keep c hc Z];intro b l o A U E he;rcases h.img b l o A U (gO E) with hh|⟨b0,l0,o0,g1,g2,g3,g5,g4⟩
  ·omega
  exact Z b0 l0 o0 g1 g2 (g5 E) (g4.trans he)
 rcases k.img b l o A U E with hh|⟨b0,l0,o0,g1,g2,g3,g5,g4⟩
 ·exact .inl (a0a h.grow hh)
 rcases h.img b0 l0 o0 g1 g2 g3 with hh|⟨b1,l1,o1,e1,e2,e3,e5,e4⟩
 ·exact .inl (g4▸hh)
 exact .inr ⟨b1,l1,o1,e1,e2,e3,fun hx=>e5 (g5 hx),e4.trans g4⟩
theorem WRel.drew{μ:Emb}{H:Heap}{w:World}(h:WRel μ H w):WRel μ H w.drew:=
 ⟨fun b l o A E=>(h.obj b l o A E).keep (fun _ _ h=>h) (a08 _) (fun _=>rfl),h.inj⟩
theorem Post.drew{μ:Emb}{H:Heap}{w:World}(h:WRel μ H w):Post μ H w μ H w.drew:=
 ⟨fun _ _ h=>h,fun _ _ h=> .inl h,a08 _,V,V,V,fun _ _ _=>rfl,fun b l o A E O=> .inr ⟨b,l,o,A,E,O,id,V⟩,h.drew⟩
def Emb.set(μ:Emb)(b:Nat)(l:Loc):Emb:=fun k=>if k=b then some l else μ k
theorem Emb.set_same(μ:Emb)(b:Nat)(l:Loc):μ.set b l b=some l:=by simp[Emb.set]
theorem Emb.set_ext{μ:Emb}{b:Nat}(l:Loc)(h:μ b=none): ∀k x,μ k=some x->μ.set b l k=some x:=by
 intro k x A;have:k≠b:=fun e=>by subst e;rw[h]at A;cases A
 simp[Emb.set,this,A]
theorem Emb.set_inv{μ:Emb}{b:Nat}{l:Loc}{k:Nat}{x:Loc}(h:μ.set b l k=some x):(k=b/\x=l)\/(k≠b/\μ k=some x):=by
 unfold Emb.set at h;split at h
 ·rename_i e;injection h with h;exact .inl ⟨e,h.symm⟩
 rename_i e;exact .inr ⟨e,h⟩
theorem i7(w:World)(o:Obj){c:Nat}(h:c<w.heap.size):(w.alloc o).heap[c]?=w.heap[c]?:=by simp only[World.alloc,Array.getElem?_push];rw[if_neg M]
theorem fE(w:World)(o:Obj):(w.alloc o).heap[w.heap.size]?=some o:=by show(w.heap.push o)[w.heap.size]?=some o;simp
theorem Post.push{μ:Emb}{H:Heap}{w:World}(h:WRel μ H w)(hf:μ H.next=none)(l:Loc)(hl:l.c=w.heap.size)(o:AObj)(co:Obj)
  (ho:ObjRel (μ.set H.next l) (w.alloc co) l o):Post μ H w (μ.set H.next l) (H.push o) (w.alloc co):=by
 have hm:=Emb.set_ext l hf
 refine⟨hm,fun b x E=>?_,by simp,V,V,V,fun c hc _=>i7 w co hc,fun b x o' E A hr=>?_,⟨fun b x o' E A=>?_,fun b1 b2 l1 l2 o1 o2 O a5 a6 U Z a9 a1=>?_⟩⟩
 ·rcases Emb.set_inv E with⟨rfl,rfl⟩|⟨_,E⟩
  ·exact .inr ⟨a08 _,by simp⟩
  exact .inl E
 ·rcases Emb.set_inv E with⟨rfl,rfl⟩|⟨O,E⟩
  ·exact .inl M
  rw[Heap.get_push_ne H o (Ne.symm O)]at A;exact .inr ⟨b,x,o',E,A,hr,id,V⟩
 ·rcases Emb.set_inv E with⟨rfl,rfl⟩|⟨O,E⟩
  ·rw[Heap.get_push_same]at A;injection A with A;subst A;exact ho
  rw[Heap.get_push_ne H o (Ne.symm O)]at A;have hr:=h.obj b x o' E A;exact hr.keep hm (by simp) (fun a7=>i7 w co (hr.lt a7))
 rcases Emb.set_inv a5 with⟨e1,f1⟩|⟨ar,al⟩<;>rcases Emb.set_inv a6 with⟨e2,f2⟩|⟨ax,an⟩
 ·exact absurd (e1.trans e2.symm) O
 ·rw[Heap.get_push_ne H o (Ne.symm ax)]at Z;have:=(h.obj b2 l2 o2 an Z).lt a1;subst f1;omega
 ·rw[Heap.get_push_ne H o (Ne.symm ar)]at U;have:=(h.obj b1 l1 o1 al U).lt (by cases o1<;>simp_all[AObj.rw,AObj.live]);subst f2;omega
 rw[Heap.get_push_ne H o (Ne.symm ar)]at U
 rw[Heap.get_push_ne H o (Ne.symm ax)]at Z
 exact h.inj b1 b2 l1 l2 o1 o2 O al an U Z a9 a1
def aS(w:World)(c:Nat)(o:Obj):World:={w with heap:=w.heap.setIfInBounds c o}
theorem dx(w:World){c k:Nat}(o:Obj)(h:c≠k):(aS w c o).heap[k]?=w.heap[k]?:=by simp[aS,a1u h]
theorem br(w:World){c:Nat}(o:Obj)(h:c<w.heap.size):(aS w c o).heap[c]?=some o:=by simp[aS,h]
@[simp] theorem setObjAt_size(w:World)(c:Nat)(o:Obj):(aS w c o).heap.size=w.heap.size:=by simp[aS]
theorem Post.put{μ:Emb}{H:Heap}{w:World}(h:WRel μ H w){b:Nat}{l:Loc}{o:AObj}(O:μ b=some l)(ho:H.get b=some o)(U:o.rw=true)
  (o':AObj) (b6:o'.rw=true) (Z:Obj) (hn:ObjRel μ (aS w l.c Z) l o'):Post μ H w μ (H.put b o') (aS w l.c Z):=by
 refine⟨fun _ _ h=>h,fun _ _ h=> .inl h,by simp,V,V,V,fun c hc a0=>dx w Z (a0 b l o O ho U),fun k x ox E A ba=>?_,⟨fun k x ox E A=>?_,fun b1 b2 l1 l2 o1 o2 a5 ar ax a6 a7 a8 a9=>?_⟩⟩
 ·by_cases e:b=k
  ·subst e;rw[O]at E;injection E with E;subst E;exact .inr ⟨b,l,o,O,ho,gO U,fun _=>U,V⟩
  rw[Heap.get_put_ne H o' e]at A;exact .inr ⟨k,x,ox,E,A,ba,id,V⟩
 ·by_cases e:b=k
  ·subst e;rw[O]at E;injection E with E;subst E;rw[Heap.get_put_same]at A;injection A with A;subst A;exact hn
  rw[Heap.get_put_ne H o' e]at A;have hx:=h.obj k x ox E A;exact hx.keep (fun _ _ h=>h) (by simp) (fun a4=>dx w Z (h.inj b k l x o ox e O E ho A U a4))
 have old: ∀k ok lk,μ k=some lk->(H.put b o').get k=some ok->∃oo,H.get k=some oo/\(ok.rw=true->oo.rw=true)/\(ok.live=true->oo.live=true):=by
  intro k ok lk E aA;by_cases e:b=k
  ·subst e;exact⟨o,ho,fun _=>U,fun _=>by cases o<;>simp_all[AObj.rw,AObj.live]⟩
  rw[Heap.get_put_ne H o' e]at aA;exact⟨ok,aA,id,id⟩
 obtain⟨p1,q1,r1,_⟩:=old b1 o1 l1 ar a6
 obtain⟨p2,q2,_,r2⟩:=old b2 o2 l2 ax a7
 exact h.inj b1 b2 l1 l2 p1 p2 a5 ar ax q1 q2 (r1 a8) (r2 a9)
theorem Post.take{μ:Emb}{H:Heap}{w:World}(h:WRel μ H w){b:Nat}{l:Loc}{o:AObj}(hb:μ b=some l)(ho:H.get b=some o)(hr:o.rw=true)
  (hf:μ H.next=none) (l':Loc) (hl:l'.c=l.c) (o':AObj) (co:Obj) (hn:ObjRel (μ.set H.next l') (aS w l.c co) l' o'):
  Post μ H w (μ.set H.next l') ((H.put b .dead).push o') (aS w l.c co):=by
 have hm:=Emb.set_ext l' hf
 have c5:b≠H.next:=fun e=>by subst e;rw[hf]at hb;cases hb
 have get: ∀k,k≠H.next->((H.put b .dead).push o').get k=(H.put b .dead).get k:=fun k E=>Heap.get_push_ne (H.put b .dead) o' (Ne.symm E)
 have bw:((H.put b .dead).push o').get H.next=some o':=Heap.get_push_same (H.put b .dead) o'
 refine⟨hm,fun k x E=>?_,by simp,V,V,V,fun c hc b0=>dx w co (b0 b l o hb ho hr),fun k x ox E A bl=>?_,⟨fun k x ox E A=>?_,fun b1 b2 l1 l2 o1 o2 Z b3 b4 bb bf an ar=>?_⟩⟩
 ·rcases Emb.set_inv E with⟨rfl,rfl⟩|⟨_,E⟩
  ·exact .inr ⟨a08 _,by simp⟩
  exact .inl E
 ·rcases Emb.set_inv E with⟨rfl,rfl⟩|⟨Z,E⟩
  ·exact .inr ⟨b,l,o,hb,ho,gO hr,fun _=>hr,hl.symm⟩
  rw[get k Z]at A;by_cases e:b=k
  ·subst e;rw[Heap.get_put_same]at A;injection A with A;subst A;simp[AObj.live]at bl
  rw[Heap.get_put_ne H _ e]at A;exact .inr ⟨k,x,ox,E,A,bl,id,V⟩
 ·rcases Emb.set_inv E with⟨rfl,rfl⟩|⟨Z,E⟩
  ·rw[bw]at A;injection A with A;subst A;exact hn
  rw[get k Z]at A;by_cases e:b=k
  ·subst e;rw[Heap.get_put_same]at A;injection A with A;subst A;trivial
  rw[Heap.get_put_ne H _ e]at A;have hx:=h.obj k x ox E A;exact hx.keep hm (by simp) (fun a1=>dx w co (h.inj b k l x o ox e hb E ho A hr a1))
 have old: ∀k ok,k≠H.next->ok.live=true->((H.put b .dead).push o').get k=some ok->k≠b/\H.get k=some ok:=by
  intro k ok E a1 U;rw[get k E]at U;by_cases e:b=k
  ·subst e;rw[Heap.get_put_same]at U;injection U with U;subst U;simp[AObj.live]at a1
  rw[Heap.get_put_ne H _ e]at U;exact⟨Ne.symm e,U⟩
 have O: ∀{x:AObj},x.rw=true->x.live=true:=by intro x hx;cases x<;>simp_all[AObj.rw,AObj.live]
 rcases Emb.set_inv b3 with⟨e1,f1⟩|⟨a2,aA⟩<;>rcases Emb.set_inv b4 with⟨e2,f2⟩|⟨a3,a0⟩
 ·exact absurd (e1.trans e2.symm) Z
 ·obtain⟨n2,g2⟩:=old b2 o2 a3 ar bf;rw[f1,hl];exact h.inj b b2 l l2 o o2 (Ne.symm n2) hb a0 ho g2 hr ar
 ·obtain⟨n1,g1⟩:=old b1 o1 a2 (O an) bb;rw[f2,hl];exact fun e=>h.inj b b1 l l1 o o1 (Ne.symm n1) hb aA ho g1 hr (O an) e.symm
 obtain⟨_,g1⟩:=old b1 o1 a2 (O an) bb
 obtain⟨_,g2⟩:=old b2 o2 a3 ar bf
 exact h.inj b1 b2 l1 l2 o1 o2 Z aA a0 g1 g2 an ar
end Go.R
set_option linter.unusedVariables false
namespace Go.R
section pure_
variable {α β:Type} (P:Program)
theorem cw{s:Sem α}{a:α}(h:aC P s=some a)(w:World):s.run P w= .ok a w:=by
 induction s with
 |pure x=>simp only[aC,a03]at h;subst h;rfl
 |program k ih=>simp only[aC]at h;simp only[Sem.run];exact ih _ h
 |mark m k ih=>simp only[aC]at h;simp only[Sem.run];exact ih h
 |_=>simp[aC]at h
@[simp] theorem aJ(x:Sem α)(f:α->Sem β):aC P (x>>=f)=(aC P x).bind fun a=>aC P (f a):=by
 show aC P (x.bind f)=_;induction x with
 |program k ih=>simp only[Sem.bind,aC];exact ih _
 |mark m k ih=>simp only[Sem.bind,aC];exact ih
 |pure a=>rfl
 |_=>rfl
@[simp] theorem bK(a:α):aC P (Pure.pure a:Sem α)=some a:=rfl
@[simp] theorem fW:aC P program=some P:=rfl
@[simp] theorem pureRun_stuck(A:String):aC P (stuck A:Sem α)=none:=rfl
@[simp] theorem pureRun_unsupported(u:Unsupported):aC P (unsupported u:Sem α)=none:=rfl
@[simp] theorem pureRun_goPanic(v:Value):aC P (goPanic v:Sem α)=none:=rfl
@[simp] theorem pureRun_choose(q:Question):aC P (choose q)=none:=rfl
@[simp] theorem pureRun_mark(m:Mark):aC P (mark m)=some ():=rfl
theorem pureRun_ite(c:Prop) [Decidable c](x y:Sem α):aC P (if c then x else y)=if c then aC P x else aC P y:=by split<;>rfl
@[simp] theorem bj(t:TypeId):aC P (underlying t)=P.underlying t:=by unfold underlying;simp only[aJ,fW,a0o];cases P.underlying t<;>rfl
@[simp] theorem cR(t:TypeId):aC P (typeInfo t)=P.info? t:=by unfold typeInfo;simp only[aJ,fW,a0o];cases P.info? t<;>rfl
@[simp] theorem cn(t:TypeId):aC P (sizeOf t)=cQ P t:=by unfold sizeOf cQ;simp only[aJ,cR];cases P.info? t<;>rfl
@[simp] theorem fA(t:TypeId):aC P (isAgg t)=aggOf P t:=by
 unfold isAgg aggOf;simp only[aJ,bj];cases P.underlying t with
 |none=>rfl
 |some d=>cases d<;>rfl
theorem gG(e:RuntimeError):aC P (runtimePanic e:Sem α)=none:=by unfold runtimePanic;cases e<;>simp[newVar,newRow,newObj,aC,elemOf]<;>(intros;split<;>simp[aC])
theorem gT(k:IntKind)(x y:Int)(c:BoundsCode):aC P (boundsPanic k x y c:Sem α)=none:=by unfold boundsPanic;simp[gG,pureRun_ite]
end pure_
section runs
variable {P:Program} (w:World)
theorem aR{t:TypeId}{n:Nat}(h:cQ P t=some n):(sizeOf t).run P w= .ok n w:=cw P (by rw[cn];exact h) w
theorem lc{t:TypeId}{b:Bool}(h:aggOf P t=some b):(isAgg t).run P w= .ok b w:=cw P (by rw[fA];exact h) w
theorem ev{t:TypeId}{i:TypeInfo}(h:P.info? t=some i):(typeInfo t).run P w= .ok i w:=cw P (by rw[cR];exact h) w
theorem ae{t:TypeId}{d:TypeDesc}(h:P.underlying t=some d):(underlying t).run P w= .ok d w:=cw P (by rw[bj];exact h) w
theorem eD{t:TypeId}{z:List Value}(h:cu P t=some z): ∃i v,P.info? t=some i/\i.zero=some v/\v.cells.toList=z/\z.all dr=true:=by
 unfold cu at h;split at h
 ·rename_i i hi;split at h
  ·rename_i v A;cases hc:v.cells.toList.all dr with
   |false=>rw[hc]at h;cases h
   |true=>rw[hc]at h;simp at h;subst h;exact⟨i,v,hi,A,V,hc⟩
  cases h
 cases h
theorem dz{t:TypeId}{i:TypeInfo}{v:Value}(hi:P.info? t=some i)(A:i.zero=some v):(zeroValue t).run P w= .ok v w:=by unfold zeroValue;simp[ev w hi,A]
end runs
section mem
variable {P:Program} {μ:Emb} {H:Heap} {w:World}
theorem ja(h:WRel μ H w){b o:Nat}{l:Loc}{v:Value}(hb:μ b=some l)(A:H.cellAt ⟨b,o,none⟩=some v):
  ∃v',w.cell? ⟨l.c,l.sh+o,none⟩=some v'/\VRel μ v v':=by
 simp only[Heap.cellAt,fN]at A
 split at A
 ·rename_i cs a0 ro hg;have O:=h.obj b l _ hb hg;cases ro with
  |true=>exact O.2.2.2 o v A
  |false=>
   obtain⟨_,aA,e,hh,_,_,Z⟩:=O
   obtain⟨v',U,E⟩:=Z o v A
   exact⟨v',by simp only[World.cell?,hh];simpa using U,E⟩
 cases A
theorem cT(c o j:Nat):Addr.add ⟨c,o,none⟩ j=⟨c,o+j,none⟩:=by
 unfold Addr.add;split
 ·subst_vars;rfl
 rfl
theorem gX(h:WRel μ H w){b o n:Nat}{l:Loc}{vs:List Value}(hb:μ b=some l)(A:H.loadN ⟨b,o,none⟩ n=some vs):
  ∃ax,(loadCells ⟨l.c,l.sh+o,none⟩ n).run P w= .ok ⟨ax⟩ w/\LRel μ vs ax/\vs.length=n:=by
 simp only[Heap.loadN,bB,bJ,bc]at A
 split at A
 ·rename_i cs a5 ro hg;cases hq:Nat.beq ((cs.drop o).take n).length n with
  |false=>rw[hq]at A;cases A
  |true=>
   rw[hq]at A;simp only[cond_true,a03]at A
   have O:((cs.drop o).take n).length=n:=a07 hq
   have key: ∀j,j<n->∃v v',cs[o+j]?=some v/\w.cell? ⟨l.c,l.sh+o+j,none⟩=some v'/\VRel μ v v':=by
    intro j hj;have ar:o+j<cs.length:=by rw[a0g,a0u]at O;omega
    have aA:H.cellAt ⟨b,o+j,none⟩=some cs[o+j]:=by simp only[Heap.cellAt,hg,fN];exact a09 ar
    obtain⟨v',hc,hr⟩:=ja h hb aA;exact⟨_,v',a09 ar,by rw[←hc,a0P],hr⟩
   have Z: ∃f:Nat->Value,∀j,j<n->w.cell? (Addr.add ⟨l.c,l.sh+o,none⟩ j)=some (f j)/\∀v,cs[o+j]?=some v->VRel μ v (f j):=by refine⟨fun j=>(w.cell? ⟨l.c,l.sh+o+j,none⟩).getD undef,fun j hj=>?_⟩;obtain⟨v,v',E,U,h3⟩:=key j hj;simp only[cT,U,a1p];refine⟨trivial,fun u hu=>?_⟩;rw[E]at hu;injection hu with hu;subst hu;exact h3
   obtain⟨f,Z⟩:=Z
   refine⟨(List.range n).map f,run_loadCells w _ n f (fun j hj=>(Z j hj).1),?_,by rw[←A];exact O⟩
   subst A
   refine⟨by rw[O];simp,fun i v v' E U=>?_⟩
   rw[a0C]at E
   split at E
   ·rename_i hi;rw[a0E]at E;simp[hi]at U;subst U;exact(Z i hi).2 v E
   cases E
 cases A
theorem gW(h:WRel μ H w){b o:Nat}{l:Loc}{t:TypeId}{v:Value}(Z:μ b=some l)(A:H.loadV P t ⟨b,o,none⟩=some v):
  ∃v',(loadVar t ⟨l.c,l.sh+o,none⟩).run P w= .ok v' w/\VRel μ v v':=by
 unfold Heap.loadV at A
 split at A
 ·rename_i O;split at A
  ·rename_i n hn;split at A
   ·rename_i vs hl;injection A with A;subst A;obtain⟨al,U,E,_⟩:=gX (P:=P) h Z hl;refine⟨.agg ⟨al⟩,?_,.agg _ _ E.1 E.2⟩;simp[loadVar,lc w O,aR w hn,U]
   cases A
  cases A
 ·rename_i O;obtain⟨v',hc,hr⟩:=ja h Z A;refine⟨v',?_,hr⟩;simp[loadVar,lc w O,hc]
 cases A
theorem kc{α:Type}(l:List α)(k:Nat):(Array.mk l)[k]?=l[k]?:=by simp
theorem j8: ∀(cs vs:List Value),vs.length<=cs.length->(over cs vs).length=cs.length
 | [],[],_=>rfl
 | [],_::_,h=>by simp at h
 |_::_,[],_=>rfl
 |c::cs,v::vs,h=>by simp only[over,a01];rw[j8 cs vs (by simpa using h)]
theorem over_get: ∀(cs vs:List Value) (i:Nat),vs.length<=cs.length->(over cs vs)[i]?=if i<vs.length then vs[i]? else cs[i]?
 | [],[],i,_=>by simp[over]
 | [],_::_,_,h=>by simp at h
 |_::_,[],i,_=>by simp[over]
 |c::cs,v::vs,0,_=>by simp[over]
 |c::cs,v::vs,i+1,h=>by simp[over,over_get cs vs i (by simpa using h)]
theorem cg: ∀(cs:List Value) (o:Nat) (vs:List Value),o+vs.length<=cs.length->(aX cs o vs).length=cs.length
 |cs,0,vs,h=>by cases cs<;>exact j8 _ _ M
 | [],o+1,vs,h=>by simp[aX]
 |c::cs,o+1,vs,h=>by simp only[aX,a01];rw[cg cs o vs (by simp at h;omega)]
theorem bp: ∀(cs:List Value) (o:Nat) (vs:List Value) (i:Nat),o+vs.length<=cs.length->
  (aX cs o vs)[i]?=if o<=i/\i<o+vs.length then vs[i-o]? else cs[i]?
 |cs,0,vs,i,h=>by
  have:aX cs 0 vs=over cs vs:=by cases cs<;>rfl
  rw[this,over_get cs vs i M];simp
 | [],o+1,vs,i,h=>by simp at h
 |c::cs,o+1,vs,0,h=>by simp[aX]
 |c::cs,o+1,vs,i+1,h=>by
  simp only[aX,a1m];rw[bp cs o vs i (by simp at h;omega)];by_cases hc:o<=i/\i<o+vs.length
  ·rw[if_pos hc,if_pos M];congr 1;omega
  rw[if_neg hc,if_neg M]
theorem dA(c:Nat)(e:TypeId): ∀(vs:List Value) (w:World) (A:Array Value) (o i:Nat),w.heap[c]?=some (.cells A e (0,0))->
  o+i+vs.length<=A.size->vs.all Value.oneCell'=true->vs≠ []->
  (storeCells ⟨c,o,none⟩ vs i).run P w= .ok () (aS w c (.cells ⟨aX A.toList (o+i) vs⟩ e (0,0)))
 | [],_,_,_,_,_,_,_,hne=>absurd V hne
 |v::vs,w,A,o,i,hh,hl,hall,_=>by
  simp only[a0j,a05]at hall;simp only[a01]at hl;have O:w.cell? ⟨c,o+i,none⟩=some (A[o+i]'M):=by simp[World.cell?,hh,show o+i<A.size by omega]
  have al:w.frozen? ⟨c,o+i,none⟩=false:=by simp[World.frozen?,hh]
  have Z:w.setCell ⟨c,o+i,none⟩ v=aS w c (.cells (A.setIfInBounds (o+i) v) e (0,0)):=by
   unfold World.setCell aS;congr 1;apply a1z;intro k;by_cases E:c=k
   ·subst E;rw[Array.getElem?_modify,if_pos V,hh,a1b,if_pos V,if_pos (bP hh)];simp
   simp[Array.getElem?_modify,E,a1u E]
  have h1:(storeCells ⟨c,o,none⟩ (v::vs) i).run P w=(storeCells ⟨c,o,none⟩ vs (i+1)).run P (aS w c (.cells (A.setIfInBounds (o+i) v) e (0,0))):=by simp only[storeCells,Sem.run_bind,cT];rw[run_store P w _ v _ hall.1,O];simp[al,Z]
  rw[h1];by_cases hv:vs=[]
  ·subst hv;simp only[storeCells,Sem.run_pure];congr 3;apply a1z;intro k;simp only[a02]at hl;rw[a1b];refine Eq.trans ?_ (kc _ _).symm;rw[bp _ _ _ _ (by simp;omega)];by_cases E:o+i=k
   ·subst E;rw[if_pos V,if_pos M,if_pos (by simp)];simp
   rw[if_neg E,if_neg (by simp;omega)];simp
  have an:(aS w c (.cells (A.setIfInBounds (o+i) v) e (0,0))).heap[c]?=some (.cells (A.setIfInBounds (o+i) v) e (0,0)):=br w _ (bP hh);rw[dA c e vs _ _ o (i+1) an (by simp;omega) hall.2 hv];congr 1;have: ∀(x y:Obj),aS (aS w c x) c y=aS w c y:=by intro x y;simp[aS]
  rw[this];congr 2;apply a1z;intro k;refine(kc _ _).trans (Eq.trans ?_ (kc _ _).symm);rw[bp _ _ _ _ (by simp;omega),bp _ _ _ _ (by simp;omega)];by_cases E:o+i=k
  ·subst E;rw[if_neg M,if_pos (by simp)];simp[show o+i<A.size by omega]
  by_cases U:o+(i+1)<=k/\k<o+(i+1)+vs.length
  ·rw[if_pos U,if_pos (by simp;omega)];rw[show k-(o+i)=(k-(o+(i+1)))+1 by omega,a1m]
  rw[if_neg U,if_neg (by simp;omega)];simp[E]
theorem fS(h:WRel μ H w){b o:Nat}{l:Loc}{vs A:List Value}{H':Heap}(hb:μ b=some l)(hs:H.storeL ⟨b,o,none⟩ vs=some H')(O:LRel μ vs A):
  ∃w',(storeCells ⟨l.c,l.sh+o,none⟩ A).run P w= .ok () w'/\Post μ H w μ H' w':=by
 simp only[Heap.storeL,bc,mO,Nat.add_eq]at hs
 split at hs
 ·rename_i cs bl hg;cases hq:(Nat.ble (o+vs.length) cs.length&&vs.all Value.oneCell') with
  |false=>rw[hq]at hs;cases hs
  |true=>
   rw[hq]at hs;simp only[cond_true,a03]at hs
   simp only[a05]at hq
   have Z:o+vs.length<=cs.length:=a0d hq.1
   obtain⟨r1,E,e,U,r2,r3,r4⟩:=h.obj b l _ hb hg
   have al:=O.1
   have a3:A.all Value.oneCell'=true:=by
    rw[a0y];intro x hx;obtain⟨i,hi⟩:=List.getElem?_of_mem hx;have a0:i<vs.length:=by rw[al];exact(a0n.1 hi).1
    have hr:=O.2 i vs[i] x (a09 a0) hi;rw[hr.oneCell];exact a0y.1 hq.2 _ (a1E a0)
   by_cases a1:A=[]
   ·subst a1;have hv:vs=[]:=by simpa using al
    subst hv;have a2:aX cs o []=cs:=by apply a0L;intro k;rw[bp _ _ _ _ (by simpa using Z),if_neg (by simp)]
    subst hs;refine⟨aS w l.c (.cells E e (0,0)),?_,?_⟩
    ·have:aS w l.c (.cells E e (0,0))=w:=by
      unfold aS;congr 1;apply a1z;intro k;by_cases hk:l.c=k
      ·subst hk;rw[a1b,if_pos V,if_pos (bP U),U]
      rw[a1u hk]
     rw[this];rfl
    refine Post.put h hb hg V _ V _ ⟨r1,E,e,br w _ (bP U),r2,by rw[a2];exact r3,fun i v hi=>r4 i v (by rw[a2]at hi;exact hi)⟩
   subst hs
   refine⟨_,by simpa using dA (P:=P) l.c e A w E (l.sh+o) 0 U M a3 a1,?_⟩
   refine Post.put h hb hg V _ V _ ⟨r1,_,e,br w _ (bP U),?_,?_,?_⟩
   ·rw[←r2];show(aX E.toList (l.sh+o) A).length=_;rw[cg _ _ _ (by simp;omega)];simp
   ·rw[cg _ _ _ Z];exact r3
   intro i v hi
   rw[bp _ _ _ _ Z]at hi
   have mg: ∀v':Value,(aX E.toList (l.sh+o) A)[l.sh+i]?=some v'->(Array.mk (aX E.toList (l.sh+o+0) A))[l.sh+i]?=some v':=fun v' hv=>(kc _ _).trans hv
   rw[bp _ _ _ _ (by simp;omega)]at mg
   by_cases hc:o<=i/\i<o+vs.length
   ·rw[if_pos hc]at hi;rw[if_pos M]at mg;obtain⟨v',ax,hr⟩:=O.get hi;exact⟨v',mg v' (by rw[←ax];congr 1;omega),hr⟩
   rw[if_neg hc]at hi
   rw[if_neg M]at mg
   obtain⟨v',ax,hr⟩:=r4 i v hi
   exact⟨v',mg v' (by simpa using ax),hr⟩
 cases hs
theorem cZ(h:WRel μ H w)(hf:μ H.next=none)(e:TypeId){cs E:List Value}(U:LRel μ cs E)(A:List Value)(O:Option Nat)(ar:O=none->A=[]):
  ∃l,l.c=w.heap.size/\l.sh=0/\l.opn=O/\l.csz=cs.length+A.length/\
  (newRow e ⟨E++A⟩).run P w= .ok ⟨w.heap.size,0,none⟩ (w.alloc (.cells ⟨E++A⟩ e))/\
   Post μ H w (μ.set H.next l) (aL H cs O) (w.alloc (.cells ⟨E++A⟩ e)):=by
 refine⟨⟨w.heap.size,0,O,cs.length+A.length⟩,V,V,V,V,by simp[newRow],?_⟩
 refine Post.push h hf _ V _ _ ⟨V,_,e,fE w _,by simp[U.1],by simp,fun i v hi=>?_⟩
 obtain⟨v',Z,hr⟩:=U.get hi
 refine⟨v',?_,hr.mono (Emb.set_ext _ hf)⟩
 have:i<E.length:=(a0n.1 Z).1
 simp only[a0G,kc]
 rw[a0V this];exact Z
end mem
end Go.R
namespace Go.R
def ANRel(μ:Emb):AN->Next->Prop
 | .val v,.value v'=>VRel μ v v'
 | .skip,.skip=>True
 | .enter f args,.enter f' args'=>f=f'/\LRel μ args args'.toList
 |_,_=>False
theorem iV(bs:ByteArray): ∀(n i:Nat) (r:List UInt8),bs.size-i=n->ByteArray.toList.loop bs i r=r.reverse++bs.data.toList.drop i:=by
 intro n;induction n with
 |zero=>
  intro i r h
  rw[ByteArray.toList.loop,if_neg M,a1f (by simp only[a1F,ByteArray.size_data];omega),a0f]
 |succ n ih=>
  intro i r h
  have hi:i<bs.size:=M
  rw[ByteArray.toList.loop,if_pos hi,ih (i+1) _ M]
  have A:i<bs.data.toList.length:=by simpa using hi
  rw[a0W A]
  simp[ByteArray.get!,hi]
theorem dl(bs:ByteArray):bs.toList=bs.data.toList:=by unfold ByteArray.toList;rw[iV bs _ 0 [] rfl];simp
section
variable {P:Program} {μ:Emb}
theorem dB{ρ ρ':Operand->Value}{o:Oper}{H H':Heap}{r:AN}(h:bG P ρ o H=some (r,H'))(hs: ∀cs b,o.op≠ .select cs b)
  (hρ: ∀x∈o.op.operands,VRel μ (ρ x) (ρ' x)):H'=H/\∃v v',r= .val v/\(∀w,(execOp ρ' o).run P w= .ok (.value v') w)/\VRel μ v v':=by
 unfold bG at h
 cases E:o.op.operands.toList.all fun x=>iP (ρ x) with
 |false=>rw[E]at h;cases h
 |true=>
  rw[E]at h
  have U:execOp ρ' o=execOp ρ o:=execOp_congr o hs fun x O=>(hρ x O).eq1 (a0y.1 E x (by simpa using O))
  simp only[cond_true]at h
  split at h
  ·rename_i v Z;cases A:noA2 v with
   |false=>rw[A]at h;cases h
   |true=>
    rw[A]at h;simp only[cond_true,a03,a04]at h
    obtain⟨rfl,rfl⟩:=h
    exact⟨V,v,v,V,fun w=>by rw[U];exact cw P Z w,VRel.refl2 A⟩
  cases h
theorem ke{s:Sem Value}{H H':Heap}{r:AN}(h:lift P s H=some (r,H')):H'=H/\∃v,r= .val v/\aC P s=some v:=by
 unfold lift at h;split at h
 ·rename_i v A;simp only[a03,a04]at h;exact⟨h.2.symm,v,h.1.symm,A⟩
 cases h
theorem intBin_sound{op:BinOp}{k:IntKind}{a b:Int}{v:Value}(h:lp op k a b=some v)(t:TypeId)(w:World):
  (binOp op t (.int k a) (.int k b)).run P w= .ok v w/\dr v=true:=by
 cases op<;>simp only[lp,a03,reduceCtorEq]at h
 case quo=>
  cases A:(b==0) with
  |true=>rw[A]at h;cases h
  |false=>
   rw[A]at h;simp only[cond_false,a03]at h;subst h
   have E: ¬b=0:=by simpa using A
   simp[binOp_quo,Op.intDiv,E,dr]
 case rem=>
  cases A:(b==0) with
  |true=>rw[A]at h;cases h
  |false=>
   rw[A]at h;simp only[cond_false,a03]at h;subst h
   have E: ¬b=0:=by simpa using A
   simp[binOp_rem,Op.intDiv,E,dr]
 all_goals subst h
 case add=>simp[binOp_add,Op.intArith,dr]
 case sub=>simp[binOp_sub,Op.intArith,dr]
 case mul=>simp[binOp_mul,Op.intArith,dr]
 case and=>simp[binOp_and,intBits_and,dr,dq]
 case or=>simp[binOp_or,intBits_or,dr,dq]
 case xor=>simp[binOp_xor,intBits_xor,dr,dq]
 case andNot=>simp[binOp_andNot,intBits_andNot,dr,dq]
 case eql=>simp[binOp_eql,dr]
 case neq=>simp[binOp_neq,dr]
 case lss=>simp[binOp_lss,dr]
 case leq=>simp[binOp_leq,dr]
 case gtr=>simp[binOp_gtr,dr]
 case geq=>simp[binOp_geq,dr]
theorem shBin_sound{op:BinOp}{k E:IntKind}{a b:Int}{v:Value}(h:shBin op k a b=some v)(t:TypeId)(w:World):
  (binOp op t (.int k a) (.int E b)).run P w= .ok v w/\dr v=true:=by
 cases op<;>simp only[shBin,reduceCtorEq]at h
 all_goals
  cases b with
  |negSucc n=>simp[shiftN]at h
  |ofNat n=>
   simp only[shiftN,a03]at h;subst h
   have A: ¬((n:Int)<0):=M
   simp[binOp_shl,binOp_shr,Op.shift,A,dr,Nat.min_def]
theorem jS{op:BinOp}{t:TypeId}{a b:ByteArray}{v:Value}(h:strOp op a b=some v)(w:World):
  (binOp op t (.string a) (.string b)).run P w= .ok v w/\dr v=true:=by
 have O:binOp op t (.string a) (.string b)=Op.stringOp op a b:=by cases op<;>rfl
 rw[O]
 unfold strOp at h
 split at h
 ·injection h with h;subst h;simp[Op.stringOp,dl,dE,dr]
 ·injection h with h;subst h;simp[Op.stringOp,dl,dE,dr]
 ·injection h with h;subst h;simp[Op.stringOp,dl,dr]
 ·injection h with h;subst h;simp[Op.stringOp,dl,dE,dr]
 ·injection h with h;subst h;simp[Op.stringOp,dl,dE,dr]
 ·injection h with h;subst h;simp[Op.stringOp,dl,dr]
 ·simp only[dX,bc]at h;cases A:Nat.ble (a.data.toList++b.data.toList).length 1099511627776 with
  |false=>rw[A]at h;cases h
  |true=>
   rw[A]at h;simp only[cond_true,a03]at h;subst h
   have E:=a0d A
   simp only[a00,a1F,ByteArray.size_data]at E
   refine⟨?_,V⟩
   have U: ¬(((a.size+b.size:Nat):Int)>IntKind.i64.max):=by rw[IntKind.max_i64];omega
   simp only[Op.stringOp,if_neg U,Sem.run_pure]
   congr 2
 cases h
theorem lj{a:Option Addr}{v':Value}(h:VRel μ (.pointer a) v'): ∃A,v'= .pointer A/\A.isNone=a.isNone:=by
 cases h with
 |atom _ h0=>exact⟨a,V,V⟩
 |ptr b o l hb=>exact⟨_,V,V⟩
theorem di{a:Option Addr}{n k:Nat}{v':Value}(h:VRel μ (.slice a n k) v'): ∃A E,v'= .slice A n E/\A.isNone=a.isNone:=by
 cases h with
 |atom _ h0=>exact⟨a,k,V,V⟩
 |sliceC b o n k l hb ho=>exact⟨_,_,V,V⟩
 |sliceO b o o' n k E e l hb ho h1 h2 h3 h4=>exact⟨_,_,V,V⟩
 |sliceZ b o a l hb=>exact⟨_,_,V,V⟩
theorem lm{a:Option Nat}{v':Value}(h:VRel μ (.map a) v'): ∃A,v'= .map A/\A.isNone=a.isNone:=by
 cases h with
 |atom _ h0=>exact⟨a,V,V⟩
 |map b l hb=>exact⟨_,V,V⟩
theorem ey{t:TypeId}{x y:Value}{w:World}{b:Bool}(h: ∀d,(Op.equalIn (d+1) t x y).run P w= .ok b w):(Op.equal t x y).run P w= .ok b w:=h 9999
theorem j9{t:TypeId}{x y Z y':Value}{b:Bool}(h:nilEq P t x y=some b)(O:VRel μ x Z)(U:VRel μ y y')(w:World):
  (Op.equal t Z y').run P w= .ok b w/\(∀op u v,eqGuard op t u v Z y'=pure ())/\(∀op,op= .eql\/op= .neq->binOp op t Z y'=(match op with
   | .eql=>do pure (.bool (←Op.equal t Z y'))
   |_=>do pure (.bool (!(←Op.equal t Z y'))))):=by
 unfold nilEq at h
 split at h
 ·rename_i e b0 E;obtain rfl:=O.eq0 V;obtain⟨b',rfl,hb⟩:=lj U;injection h with h;subst h;refine⟨?_,fun op u v=>by cases op<;>rfl,fun op A=>by rcases A with rfl|rfl<;>rfl⟩;exact ey fun d=>by simp[Op.equalIn,ae w E,hb]
 ·rename_i e a0 E;obtain rfl:=U.eq0 V;obtain⟨a',rfl,ha⟩:=lj O;injection h with h;subst h;refine⟨?_,fun op u v=>by cases op<;>rfl,fun op A=>by rcases A with rfl|rfl<;>rfl⟩;exact ey fun d=>by cases a'<;>simp[Op.equalIn,ae w E,←ha]
 ·rename_i e n k b0 n2 k2 E;obtain⟨rfl,rfl,rfl⟩:=O.sliceNil_inv;obtain⟨b',k',rfl,hb⟩:=di U;injection h with h;subst h;refine⟨?_,fun op u v=>by cases op<;>rfl,fun op A=>by rcases A with rfl|rfl<;>rfl⟩;exact ey fun d=>by simp[Op.equalIn,ae w E,hb]
 ·rename_i e a0 n k n2 k2 E;obtain⟨rfl,rfl,rfl⟩:=U.sliceNil_inv;obtain⟨a',k',rfl,ha⟩:=di O;injection h with h;subst h;refine⟨?_,fun op u v=>by cases op<;>rfl,fun op A=>by rcases A with rfl|rfl<;>rfl⟩;exact ey fun d=>by cases a'<;>simp[Op.equalIn,ae w E,←ha]
 ·rename_i e1 e2 b0 E;obtain rfl:=O.eq0 V;obtain⟨b',rfl,hb⟩:=lm U;injection h with h;subst h;refine⟨?_,fun op u v=>by cases op<;>rfl,fun op A=>by rcases A with rfl|rfl<;>rfl⟩;exact ey fun d=>by simp[Op.equalIn,ae w E,hb]
 ·rename_i e1 e2 a0 E;obtain rfl:=U.eq0 V;obtain⟨a',rfl,ha⟩:=lm O;injection h with h;subst h;refine⟨?_,fun op u v=>by cases op<;>rfl,fun op A=>by rcases A with rfl|rfl<;>rfl⟩;exact ey fun d=>by cases a'<;>simp[Op.equalIn,ae w E,←ha]
 ·rename_i ps rs va E;obtain rfl:=O.eq0 V;obtain rfl:=U.eq0 V;injection h with h;subst h;refine⟨?_,fun op u v=>by cases op<;>rfl,fun op A=>by rcases A with rfl|rfl<;>rfl⟩;exact ey fun d=>by simp[Op.equalIn,ae w E]
 ·rename_i ps rs va fn xs ys E;obtain rfl:=O.eq0 V;obtain⟨a4,a5,rfl,_,_⟩:=U.func_inv;injection h with h;subst h;refine⟨?_,fun op u v=>by cases op<;>rfl,fun op A=>by rcases A with rfl|rfl<;>rfl⟩;exact ey fun d=>by simp[Op.equalIn,ae w E]
 ·rename_i ps rs va fn xs ys E;obtain rfl:=U.eq0 V;obtain⟨a4,a5,rfl,_,_⟩:=O.func_inv;injection h with h;subst h;refine⟨?_,fun op u v=>by cases op<;>rfl,fun op A=>by rcases A with rfl|rfl<;>rfl⟩;exact ey fun d=>by simp[Op.equalIn,ae w E]
 cases h
theorem part_rel{t:TypeId}{cs A:Array Value}{off:Nat}{v:Value}(U:LRel μ cs.toList A.toList)(h:aC P (part t cs off)=some v):
  ∃v',aC P (part t A off)=some v'/\VRel μ v v':=by
 unfold part at h⊢
 simp only[aJ,fA]at h⊢
 cases O:aggOf P t with
 |none=>rw[O]at h;simp at h
 |some g=>
  rw[O]at h
  cases g with
  |true=>
   simp only[a0o,if_true,aJ,cn]at h⊢
   cases hs:cQ P t with
   |none=>rw[hs]at h;simp at h
   |some n=>
    rw[hs]at h
    simp only[a0o,bK,a03]at h⊢
    subst h
    refine⟨_,V,?_⟩
    have:=(U.take (off+n)).drop off
    have ex: ∀c:Array Value,(c.extract off (off+n)).toList=(c.toList.take (off+n)).drop off:=fun c=>by simp[a1Z]
    exact .agg _ _ (by rw[ex,ex];exact this.1) (by rw[ex,ex];exact this.2)
  |false=>
   simp only[a0o,a0k,if_false]at h⊢
   cases hc:cs[off]? with
   |none=>rw[hc]at h;simp at h
   |some u=>
    rw[hc]at h
    simp only[bK,a03]at h;subst h
    obtain⟨v',Z,E⟩:=U.get (i:=off) (v:=u) (by simpa using hc)
    refine⟨v',?_,E⟩
    have:A[off]?=some v':=by simpa using Z
    rw[this];rfl
theorem field_rel{t:TypeId}{x O:Value}{f:Nat}{v:Value}(Z:VRel μ x O)(h:aC P (Instr.field t x f)=some v):
  ∃v',aC P (Instr.field t O f)=some v'/\VRel μ v v':=by
 unfold Instr.field at h⊢
 simp only[aJ,bj]at h⊢
 cases E:P.underlying t with
 |none=>rw[E]at h;simp at h
 |some d=>
  rw[E]at h
  simp only[a0o]at h⊢
  cases d with
  |struct fields=>
   simp only at h⊢
   cases A:fields[f]? with
   |none=>rw[A]at h;simp at h
   |some fd=>
    rw[A]at h
    simp only[aJ]at h⊢
    cases x with
    |agg cs=>
     obtain⟨al,rfl,U⟩:=Z.agg_inv
     simp only[asAgg,bK,a0o]at h⊢
     exact part_rel U h
    |_=>simp[asAgg]at h
  |_=>simp at h
theorem index_rel{t:TypeId}{x Z i U:Value}{v:Value}(hx:VRel μ x Z)(hi:VRel μ i U)(E: ∀s,x≠ .string s)(h:aC P (Instr.index t x i)=some v):
  ∃v',aC P (Instr.index t Z U)=some v'/\VRel μ v v':=by
 cases i with
 |int k n=>
  obtain rfl:=hi.int_inv
  unfold Instr.index at h⊢
  simp only[asIntOf,aJ,bK,a0o,bj]at h⊢
  cases O:P.underlying t with
  |none=>rw[O]at h;simp at h
  |some d=>
   rw[O]at h
   simp only[a0o]at h⊢
   cases d with
   |array len e=>
    cases x with
    |agg cs=>
     obtain⟨ar,rfl,hr⟩:=hx.agg_inv
     simp only at h⊢
     by_cases A:0<=n/\n<(len:Int)
     ·rw[if_pos A]at h⊢;simp only[aJ,cn]at h⊢;cases hs:cQ P e with
      |none=>rw[hs]at h;simp at h
      |some sz=>rw[hs]at h;simp only[a0o]at h⊢;exact part_rel hr h
     rw[if_neg A,gT]at h;cases h
    |_=>simp at h
   |string=>
    cases x with
    |string s=>exact absurd V (E s)
    |_=>simp at h
   |_=>simp at h
 |pointer a=>cases a<;>simp[Instr.index,asIntOf]at h
 |_=>simp[Instr.index,asIntOf]at h
theorem ir: ∀(l l':List Value) (s off:Nat) (A U:Array Value),LRel μ l l'->LRel μ A.toList U.toList->
  LRel μ ((l.zipIdx s).foldl (fun cs p=>cs.setIfInBounds (off+p.2) p.1) A).toList ((l'.zipIdx s).foldl (fun cs p=>cs.setIfInBounds (off+p.2) p.1) U).toList
 | [],l',s,off,A,U,h,hA=>by rw[h.nil_left];exact hA
 |v::l,l',s,off,A,U,h,hA=>by
  obtain⟨v',t',rfl,hv,ht⟩:=h.cons_left;simp only[List.zipIdx_cons,a1G];refine ir l t' (s+1) off _ _ ht ⟨by simpa using hA.1,fun i x x' E O=>?_⟩;simp only[Array.toList_setIfInBounds,List.getElem?_set]at E O;have Z:=hA.1;by_cases hi:off+s=i
  ·rw[if_pos hi]at E O;split at E
   ·rename_i aA;rw[if_pos M]at O;injection E with E;injection O with O;subst E O;exact hv
   cases E
  rw[if_neg hi]at E O;exact hA.2 i x x' E O
theorem jE{E:Nat->Option (Nat×Nat)}: ∀(ps ps':List (Nat×Value)) (A A':Array Value) (r:Array Value),ps.length=ps'.length->
  (∀(i:Nat) x O,ps[i]?=some x->ps'[i]?=some O->x.1=O.1/\VRel μ x.2 O.2)->LRel μ A.toList A'.toList->Instr.fill E A ps=some r->
  ∃r',Instr.fill E A' ps'=some r'/\LRel μ r.toList r'.toList
 | [],ps',A,A',r,hl,_,hA,h=>by have:ps'=[]:=a0h hl.symm;subst this;simp only[Instr.fill,a03]at h;subst h;exact⟨A',V,hA⟩
 |(i,v)::ps,ps',A,A',r,hl,hp,hA,h=>by
  cases ps' with
  |nil=>simp at hl
  |cons O ps'=>
   obtain⟨i',v'⟩:=O
   obtain⟨hi,hv⟩:=hp 0 (i,v) (i',v') V V
   simp only at hi hv;subst hi
   simp only[Instr.fill]at h⊢
   cases Z:E i with
   |none=>rw[Z]at h;cases h
   |some os=>
    obtain⟨off,size⟩:=os
    rw[Z]at h
    simp only at h⊢
    have hc:=hv.cells
    have an:v'.cells.size=v.cells.size:=by have:=hc.1;simpa using this.symm
    have al:A'.size=A.size:=by have:=hA.1;simpa using this.symm
    rw[an,al]
    split at h
    ·cases h
    rename_i U
    rw[if_neg U]
    refine jE ps ps' _ _ r (by simpa using hl) (fun j x O h1 h2=>hp (j+1) x O (by simpa using h1) (by simpa using h2)) ?_ h
    have:=ir v.cells.toList v'.cells.toList 0 off A A' hc hA
    have e: ∀(u:Value) (B:Array Value),Array.foldl (fun cs x=>cs.setIfInBounds (off+x.snd) x.fst) B u.cells.zipIdx=List.foldl (fun cs p=>cs.setIfInBounds (off+p.snd) p.fst) B u.cells.toList.zipIdx:=fun u B=>by rw[←Array.foldl_toList,Array.toList_zipIdx]
    exact(e v A▸e v' A'▸this:LRel μ (Array.foldl (fun cs x=>cs.setIfInBounds (off+x.snd) x.fst) A v.cells.zipIdx).toList (Array.foldl (fun cs x=>cs.setIfInBounds (off+x.snd) x.fst) A' v'.cells.zipIdx).toList)
end
end Go.R
namespace Go.R
section
variable {P:Program} {μ:Emb}
theorem build_rel{t:TypeId}{ps ps':Array (Nat×Value)}{v:Value}(hl:ps.toList.length=ps'.toList.length)
  (hp: ∀(i:Nat) x x',ps.toList[i]?=some x->ps'.toList[i]?=some x'->x.1=x'.1/\VRel μ x.2 x'.2)
  (hz:(cu P t).isSome=true) (h:aC P (Instr.build t ps)=some v):
  ∃v',aC P (Instr.build t ps')=some v'/\VRel μ v v':=by
 unfold Instr.build at h⊢
 have a0:aC P (zeroValue t)=(P.info? t).bind (·.zero):=by
  unfold zeroValue;simp only[aJ,cR];cases hi:P.info? t with
  |none=>rfl
  |some i=>simp only[a0o];cases i.zero<;>rfl
 simp only[aJ,a0,bj]at h⊢
 cases hi:(P.info? t).bind (·.zero) with
 |none=>rw[hi]at h;simp at h
 |some z=>
  rw[hi]at h
  have U:LRel μ z.cells.toList z.cells.toList:=by obtain⟨zl,aA⟩:=Option.isSome_iff_exists.1 hz;obtain⟨i,v0,h1,h2,h3,h4⟩:=eD (P:=P) aA;rw[h1]at hi;simp only[a0o,h2,a03]at hi;subst hi;exact LRel.refl0 (by rw[h3];exact h4)
  simp only[a0o]at h⊢
  cases hu:P.underlying t with
  |none=>rw[hu]at h;simp at h
  |some d=>
   rw[hu]at h
   simp only[a0o]at h⊢
   cases d with
   |struct fields=>
    simp only[aJ]at h⊢
    cases hm:aC P (fields.mapM fun f=>do let y ←sizeOf f.type;Pure.pure (f.offset,y)) with
    |none=>rw[hm]at h;simp at h
    |some places=>
     rw[hm]at h
     simp only[a0o]at h⊢
     cases E:Instr.fill (fun x=>places[x]?) z.cells ps.toList with
     |none=>rw[E]at h;simp at h
     |some r=>
      rw[E]at h
      simp only[bK,a03]at h
      subst h
      obtain⟨Z,O,A⟩:=jE _ _ _ _ _ hl hp U E
      exact⟨.agg Z,by rw[O];rfl,.agg _ _ A.1 A.2⟩
   |array n e=>
    simp only[aJ,cn]at h⊢
    cases hs:cQ P e with
    |none=>rw[hs]at h;simp at h
    |some sz=>
     rw[hs]at h
     simp only[a0o]at h⊢
     cases E:Instr.fill (fun i=>some (i *sz,sz)) z.cells ps.toList with
     |none=>rw[E]at h;simp at h
     |some r=>
      rw[E]at h
      simp only[bK,a03]at h
      subst h
      obtain⟨Z,O,A⟩:=jE _ _ _ _ _ hl hp U E
      exact⟨.agg Z,by rw[O];rfl,.agg _ _ A.1 A.2⟩
   |_=>simp at h
theorem ft{v v':Value}{n:Nat}(h:asNat v=some n)(A:VRel μ v v'): ∃k,v'= .int k (n:Int):=by
 unfold asNat at h;split at h
 ·rename_i k m;injection h with h;subst h;exact⟨k,A.int_inv⟩
 cases h
theorem aField_sound{s:TypeId}{x U:Value}{f:Nat}{v:Value}(h:jj P s x f=some v)(hx:VRel μ x U):
  ∃v',(∀w,(Instr.fieldAt s U f).run P w= .ok v' w)/\VRel μ v v':=by
 unfold jj at h
 split at h
 ·rename_i fs b o hu;split at h
  ·rename_i E hf;split at h
   ·rename_i n hn;cases A:Nat.beq n 0 with
    |true=>rw[A]at h;cases h
    |false=>
     rw[A]at h;simp only[cond_false,a03]at h;subst h
     obtain⟨l,Z,rfl⟩:=hx.ptr_inv
     have O: ¬n=0:=fun e=>by subst e;cases A
     refine⟨_,fun w=>?_,a0P l.sh o E.offset▸VRel.ptr b (o+E.offset) l Z⟩
     simp[Instr.fieldAt,ae w hu,hf,Instr.sureAddr,fieldPlace,aR w hn,O,cT,a0P]
   cases h
  cases h
 cases h
theorem jx{t:TypeId}{x x' i i':Value}{v:Value}(h:cr P t x i=some v)(hx:VRel μ x x')(hi:VRel μ i i'):
  ∃v',(∀w,(Instr.indexAt t x' i').run P w= .ok v' w)/\VRel μ v v':=by
 unfold cr at h
 split at h
 ·rename_i e b o n k j O hj;obtain⟨ik,rfl⟩:=ft hj hi;split at h
  ·rename_i sz hs;cases A:(Nat.ble (j+1) n&&Nat.ble n k) with
   |false=>rw[A]at h;cases h
   |true=>
    rw[A]at h;simp only[cond_true,a03]at h;subst h
    simp only[a05]at A
    have h1:j+1<=n:=a0d A.1
    have h2:n<=k:=a0d A.2
    obtain⟨l,Z,hc⟩:=hx.slice_inv
    have E:VRel μ (.pointer (some ⟨b,o+j *sz,none⟩)) (.pointer (some ⟨l.c,l.sh+o+j *sz,none⟩)):=
     a0P l.sh o (j *sz)▸VRel.ptr b (o+j *sz) l Z
    have U:(j:Int)<(n:Int):=M
    rcases hc with⟨_,rfl⟩|⟨e',o',k',_,rfl,_,_,an,_⟩|⟨hz,_,_⟩
    rotate_right
    ·omega
    ·refine⟨_,fun w=>?_,E⟩;simp[Instr.indexAt,asIntOf,ae w O,aR w hs,cT];omega
    have ho:o'=l.sh+o:=an M
    subst ho
    refine⟨_,fun w=>?_,E⟩
    simp[Instr.indexAt,asIntOf,ae w O,aR w hs,cT]
    omega
  cases h
 ·rename_i n e b o j O hj;obtain⟨ik,rfl⟩:=ft hj hi;split at h
  ·rename_i sz hs;cases A:Nat.ble (j+1) n with
   |false=>rw[A]at h;cases h
   |true=>
    rw[A]at h;simp only[cond_true,a03]at h;subst h
    have h1:j+1<=n:=a0d A
    obtain⟨l,Z,rfl⟩:=hx.ptr_inv
    refine⟨_,fun w=>?_,a0P l.sh o (j *sz)▸VRel.ptr b (o+j *sz) l Z⟩
    have U:(j:Int)<(n:Int):=M
    have h0:(0:Int)<=(j:Int)/\(j:Int)<(n:Int):=⟨by omega,U⟩
    simp only[Instr.indexAt,asIntOf,ae w O,aR w hs,cT,Instr.sureAddr,Sem.run_bind,Sem.run_pure,Result.andThen_ok,if_pos h0,Int.toNat_natCast]
  cases h
 cases h
theorem strIndex_run{t:TypeId}{s:ByteArray}{k:IntKind}{j:Nat}{b:UInt8}(U:P.underlying t=some .string)(A:s.data.toList[j]?=some b)(w:World):
  (Instr.index t (.string s) (.int k (j:Int))).run P w= .ok (.int .u8 b.toNat) w:=by
 have E:j<s.size:=by have:=(a0n.1 A).1;simpa using this
 have O:s[j]?=some b:=by rw[getElem?_pos s j E];have:=(a0n.1 A).2;rw[←this];rfl
 simp[Instr.index,asIntOf,ae w U,O]
theorem jK{ops:Array Operand}{ρ ρ':Operand->Value}(h: ∀x∈ops,VRel μ (ρ x) (ρ' x)):LRel μ (ops.map ρ).toList (ops.map ρ').toList:=by refine⟨by simp,fun i v v' E O=>?_⟩;simp only[a1Q,a1v,a1M]at E O;obtain⟨x,U,rfl⟩:=E;obtain⟨y,A,rfl⟩:=O;rw[U]at A;injection A with A;subst A;exact h x (by simpa using a0q U)
theorem mQ{t:TypeId}{x U:Value}{f:Nat}{v:Value}(h:hR P t x f=some v)(hx:VRel μ x U):
  ∃v',(∀w,(Instr.field t U f).run P w= .ok v' w)/\VRel μ v v':=by
 unfold hR at h
 split at h
 ·rename_i cs;split at h
  ·rename_i g n off A;have hp:aC P (Instr.field t (.agg cs) f)=some v:=by
    unfold fieldAt? at A;split at A
    ·rename_i fs hu;split at A
     ·rename_i Z E;split at A
      ·rename_i g' n' hg hn;simp only[a03,a04]at A;obtain⟨rfl,rfl,rfl⟩:=A;unfold Instr.field part;simp only[aJ,bj,hu,a0o,E,asAgg,bK,fA,hg];unfold partL at h;cases g' with
       |true=>
        simp only[cond_true,a03,bB,bJ]at h
        simp only[if_true,aJ,cn,hn,a0o,bK,a03]
        subst h
        congr 1
        apply Array.ext'
        simp
       |false=>
        simp only[cond_false,fN]at h
        simp only[a0k,if_false]
        have hc:cs[Z.offset]?=some v:=by simpa using h
        rw[hc];rfl
      cases A
     cases A
    cases A
   obtain⟨v',O,hr⟩:=field_rel hx hp;exact⟨v',fun w=>cw P O w,hr⟩
  cases h
 cases h
theorem ck{r:Option Value}{H H':Heap}{n:AN}(h:ovl r H=some (n,H')):H'=H/\∃v,r=some v/\n= .val v:=by
 unfold ovl at h;split at h
 ·rename_i v;simp only[a03,a04]at h;exact⟨h.2.symm,v,V,h.1.symm⟩
 cases h
theorem iQ{op:BinOp}{r:Option Bool}{H H':Heap}{n:AN}(h:nilBin op r H=some (n,H')):
  H'=H/\∃b,r=some b/\((op= .eql/\n= .val (.bool b))\/(op= .neq/\n= .val (.bool (!b)))):=by
 unfold nilBin at h
 split at h
 ·rename_i b;split at h
  ·simp only[a03,a04]at h;exact⟨h.2.symm,b,V,.inl ⟨V,h.1.symm⟩⟩
  ·simp only[a03,a04]at h;exact⟨h.2.symm,b,V,.inr ⟨V,h.1.symm⟩⟩
  cases h
 cases h
theorem jR{ρ ρ':Operand->Value}{o:Oper}{H H':Heap}{r:AN}(hk:aO o.op=true)
  (O: ∀x∈o.op.operands,VRel μ (ρ x) (ρ' x)) (h:aop P ρ o H=some (r,H')):
  H'=H/\∃v v',r= .val v/\(∀w,(execOp ρ' o).run P w= .ok (.value v') w)/\VRel μ v v':=by
 obtain⟨b1,op,type,pos,after,bl⟩:=o
 cases op<;>simp only[aO,a0k]at hk
 case move x=>
  simp only[aop,a03,a04]at h
  obtain⟨rfl,rfl⟩:=h
  exact⟨V,_,ρ' x,V,fun w=>rfl,O x (by simp[Op.operands])⟩
 case assign x=>
  simp only[aop,a03,a04]at h
  obtain⟨rfl,rfl⟩:=h
  exact⟨V,_,ρ' x,V,fun w=>rfl,O x (by simp[Op.operands])⟩
 case pick c a b=>
  simp only[aop,fY]at h
  split at h
  ·rename_i t ht;simp only[a03,a04]at h;obtain⟨rfl,rfl⟩:=h;have hc:ρ' c= .bool t:=by have:=O c (by simp[Op.operands]);rw[ht]at this;exact this.bool_inv
   refine⟨V,_,(if t then ρ' a else ρ' b),V,fun w=>?_,?_⟩
   ·simp[execOp,hc,asBool]
   cases t
   ·exact O b (by simp[Op.operands])
   exact O a (by simp[Op.operands])
  cases h
 case build t parts=>
  simp only[aop,gU]at h
  split at h
  case h_2=>cases h
  rename_i z hz
  obtain⟨rfl,v,rfl,A⟩:=ke h
  obtain⟨v',U,Z⟩:=build_rel (μ:=μ) (ps:=parts.map fun p=>(p.1,ρ p.2)) (ps':=parts.map fun(i,x)=>(i,ρ' x)) (by simp) (fun i x x' h1 h2=>by
   simp only[a1Q,a1v,a1M]at h1 h2;obtain⟨y,hy,rfl⟩:=h1;obtain⟨z,hz,rfl⟩:=h2;rw[hy]at hz;injection hz with hz;subst hz;refine⟨V,O _ ?_⟩;have:=a0q hy;simp only[Op.operands,List.mem_toArray,a0w];exact⟨y,this,V⟩) (by rw[hz];rfl) A
  exact⟨V,v,v',V,fun w=>by simp only[execOp,Sem.run_bind,cw P U w,Result.andThen_ok,Sem.run_pure],Z⟩
 case nilCheck x=>
  simp only[aop,opNil]at h
  split at h
  ·rename_i a ha;simp only[a03,a04]at h;obtain⟨rfl,rfl⟩:=h;have E:=O x (by simp[Op.operands]);rw[ha]at E;obtain⟨_,a',a8⟩:=E.ptr_some;exact⟨V,_,ρ' x,V,fun w=>by simp[execOp,a8],E⟩
  ·rename_i f a c ha;simp only[a03,a04]at h;obtain⟨rfl,rfl⟩:=h;have E:=O x (by simp[Op.operands]);rw[ha]at E;obtain⟨a',c',a9,_,_⟩:=E.func_inv;exact⟨V,_,ρ' x,V,fun w=>by simp[execOp,a9],E⟩
  cases h
 case binOp op t x y yt=>
  have E:=O x (by simp[Op.operands])
  have hy:=O y (by simp[Op.operands])
  simp only[aop,aBin]at h
  split at h
  ·rename_i k a ha;rw[ha]at E;unfold binInt at h;split at h
   ·rename_i k' b hb;rw[hb]at hy;obtain⟨rfl,v,A,rfl⟩:=ck h;have key: ∀w,(binOp op t (.int k a) (.int k' b)).run P w= .ok v w/\dr v=true:=by
     intro w;cases hs:kh op with
     |true=>rw[hs]at A;exact shBin_sound A t w
     |false=>
      rw[hs]at A
      simp only[cond_false]at A
      cases he:gc k k' with
      |false=>rw[he]at A;cases A
      |true=>
       rw[he]at A
       have:k=k':=by simpa[gc] using he
       subst this
       exact intBin_sound A t w
    refine⟨V,v,v,V,fun w=>?_,.atom v (key default).2⟩;simp only[execOp,E.int_inv,hy.int_inv,eqGuard_at_int,pure_bind,Sem.run_bind,(key w).1,Result.andThen_ok,Sem.run_pure]
   cases h
  ·rename_i a ha;rw[ha]at E;unfold binStr at h;split at h
   ·rename_i b hb;rw[hb]at hy;obtain⟨rfl,v,A,rfl⟩:=ck h;refine⟨V,v,v,V,fun w=>?_,.atom v (jS (P:=P) (t:=t) A default).2⟩;simp only[execOp,E.string_inv,hy.string_inv,eqGuard_at_string,pure_bind,Sem.run_bind,(jS (P:=P) (t:=t) A w).1,Result.andThen_ok,Sem.run_pure]
   cases h
  unfold mK at h
  split at h
  ·exact dB h (fun _ _=>by simp) O
  ·exact dB h (fun _ _=>by simp) O
  obtain⟨rfl,b,hb,a1⟩:=iQ h
  rcases a1 with⟨rfl,rfl⟩|⟨rfl,rfl⟩
  ·refine⟨V,_,_,V,fun w=>?_,.atom (.bool b) V⟩;obtain⟨h1,h2,h3⟩:=j9 (P:=P) hb E hy w;simp only[execOp,h2,pure_bind,h3 .eql (.inl V),Sem.run_bind,h1,Result.andThen_ok,Sem.run_pure]
  refine⟨V,_,_,V,fun w=>?_,.atom (.bool (!b)) V⟩
  obtain⟨h1,h2,h3⟩:=j9 (P:=P) hb E hy w
  simp only[execOp,h2,pure_bind,h3 .neq (.inr V),Sem.run_bind,h1,Result.andThen_ok,Sem.run_pure]
 case unOp op t x=>
  have E:=O x (by simp[Op.operands])
  simp only[aop,aUn]at h
  split at h
  ·rename_i b hb;rw[hb]at E;split at h
   ·simp only[a03,a04]at h;obtain⟨rfl,rfl⟩:=h;exact⟨V,_,_,V,fun w=>by simp[execOp,E.bool_inv,Op.unary],.atom (.bool (!b)) V⟩
   cases h
  exact dB h (fun _ _=>by simp) O
 case makeFunc fn first captured=>
  simp only[aop,a03,a04]at h
  obtain⟨rfl,rfl⟩:=h
  have h1:=jK (μ:=μ) (ops:=first) (ρ:=ρ) (ρ':=ρ') fun x E=>O x (by simp[Op.operands,E])
  have h2:=jK (μ:=μ) (ops:=captured) (ρ:=ρ) (ρ':=ρ') fun x E=>O x (by simp[Op.operands,E])
  exact⟨V,_,_,V,fun w=>rfl,.func _ _ _ _ _ h1.1 h2.1 h1.2 h2.2⟩
 case fieldAddr s x f=>
  simp only[aop]at h
  obtain⟨rfl,v,A,rfl⟩:=ck h
  obtain⟨v',U,Z⟩:=aField_sound A (O x (by simp[Op.operands]))
  exact⟨V,v,v',V,fun w=>by simp only[execOp,Sem.run_bind,U w,Result.andThen_ok,Sem.run_pure],Z⟩
 case field t x f=>
  simp only[aop]at h
  obtain⟨rfl,v,A,rfl⟩:=ck h
  obtain⟨v',U,Z⟩:=mQ A (O x (by simp[Op.operands]))
  exact⟨V,v,v',V,fun w=>by simp only[execOp,Sem.run_bind,U w,Result.andThen_ok,Sem.run_pure],Z⟩
 case indexAddr t x i=>
  simp only[aop]at h
  obtain⟨rfl,v,A,rfl⟩:=ck h
  obtain⟨v',U,Z⟩:=jx A (O x (by simp[Op.operands])) (O i (by simp[Op.operands]))
  exact⟨V,v,v',V,fun w=>by simp only[execOp,Sem.run_bind,U w,Result.andThen_ok,Sem.run_pure],Z⟩
 case index t x i=>
  have E:=O x (by simp[Op.operands])
  have hi:=O i (by simp[Op.operands])
  simp only[aop,kD]at h
  split at h
  ·rename_i s hs;rw[hs]at E;obtain⟨rfl,v,A,rfl⟩:=ck h;unfold strAt at A;split at A
   ·rename_i j hu hj;obtain⟨k,hk⟩:=ft hj hi;rw[fN]at A;split at A
    ·rename_i b hb;injection A with A;subst A;exact⟨V,_,_,V,fun w=>by simp only[execOp,E.string_inv,hk,Sem.run_bind,strIndex_run hu hb w,Result.andThen_ok,Sem.run_pure],.atom _ V⟩
    cases A
   cases A
  rename_i ba
  obtain⟨rfl,v,rfl,A⟩:=ke h
  obtain⟨v',U,Z⟩:=index_rel E hi (fun s hs=>ba s hs) A
  exact⟨V,v,v',V,fun w=>by simp only[execOp,Sem.run_bind,cw P U w,Result.andThen_ok,Sem.run_pure],Z⟩
 case extract x i=>
  simp only[aop]at h
  have E:=O x (by simp[Op.operands])
  obtain⟨rfl,v,A,rfl⟩:=ck h
  unfold gE at A
  split at A
  ·rename_i vs bb;rw[bb]at E;obtain⟨bf,a6,Z⟩:=E.tuple_inv;rw[fN]at A;obtain⟨v',U,a5⟩:=Z.get A;have hg:bf[i]?=some v':=by simpa using U
   exact⟨V,v,v',V,fun w=>by simp[execOp,a6,Instr.extract,hg],a5⟩
  cases A
end
end Go.R
namespace Go.R
theorem eA(l:List Value): ∀n,(cy n l).length=n *l.length
 |0=>by simp[cy]
 |n+1=>by simp only[cy,a00,eA l n];rw[a19];omega
theorem lG(l:List Value): ∀(n i:Nat),i<n *l.length->(cy n l)[i]?=l[i%l.length]?
 |0,i,h=>by simp at h
 |n+1,i,h=>by
  simp only[cy];by_cases hi:i<l.length
  ·rw[a0V hi,Nat.mod_eq_of_lt hi]
  rw[a19,Nat.one_mul]at h;rw[a0O M,lG l n (i-l.length) M];congr 1;exact(Nat.mod_eq_sub_mod M).symm
theorem zeros_eq(z:Array Value)(n:Nat):(Array.range (n *z.size)).map (fun i=>z[i%z.size]!)=⟨cy n z.toList⟩:=by
 apply a1z;intro i;refine Eq.trans ?_ (kc _ _).symm;by_cases hi:i<n *z.size
 ·rw[lG _ _ _ (by simpa using hi)];have E:0<z.size:=by
   rcases a1j z.size with h|h
   ·rw[h]at hi;simp at hi
   exact h
  have A:i%z.size<z.size:=Nat.mod_lt _ E;simp[hi,A]
 rw[a0H (by rw[eA];simpa using hi)];simp[hi]
theorem hM{l:List Value}(h:l.all dr=true): ∀n,(cy n l).all dr=true
 |0=>rfl
 |n+1=>by simp only[cy,a1H,h,hM h n,a1r]
section
variable {P:Program} {μ:Emb} {H H':Heap} {w:World}
def OpOK(P:Program)(μ:Emb)(H:Heap)(w:World)(s:Sem Next)(r:AN)(H':Heap):Prop:=
 ∃n w' μ',s.run P w= .ok n w'/\Post μ H w μ' H' w'/\ANRel μ' r n
theorem OpOK.value{s:Sem Value}{v v':Value}{w':World}{μ':Emb}(h:s.run P w= .ok v' w')(A:Post μ H w μ' H' w')(E:VRel μ' v v'):
  OpOK P μ H w (do Pure.pure (.value (←s))) (.val v) H':=
 ⟨.value v',w',μ',by simp only[Sem.run_bind,h,Result.andThen_ok,Sem.run_pure],A,E⟩
theorem OpOK.skip{s:Sem Unit}{w':World}{μ':Emb}(h:s.run P w= .ok () w')(A:Post μ H w μ' H' w'):
  OpOK P μ H w (do s;Pure.pure .skip) .skip H':=
 ⟨.skip,w',μ',by simp only[Sem.run_bind,h,Result.andThen_ok,Sem.run_pure],A,trivial⟩
theorem j7{r:Option (Value×Heap)}{n:AN}(h:ovh r=some (n,H')): ∃v,r=some (v,H')/\n= .val v:=by
 unfold ovh at h;split at h
 ·simp only[a03,a04]at h;obtain⟨rfl,rfl⟩:=h;exact⟨_,V,V⟩
 cases h
theorem mb{r:Option Heap}{n:AN}(h:osk r=some (n,H')):r=some H'/\n= .skip:=by
 unfold osk at h;split at h
 ·simp only[a03,a04]at h;obtain⟨rfl,rfl⟩:=h;exact⟨V,V⟩
 cases h
theorem iq(h:WRel μ H w)(hf:μ H.next=none)(e:TypeId){cs A:List Value}(E:LRel μ cs A):
  ∃l,l.c=w.heap.size/\l.sh=0/\l.opn=none/\(newRow e ⟨A⟩).run P w= .ok ⟨w.heap.size,0,none⟩ (w.alloc (.cells ⟨A⟩ e))/\
   Post μ H w (μ.set H.next l) (aL H cs none) (w.alloc (.cells ⟨A⟩ e)):=by
 obtain⟨l,Z,h2,h3,_,O,U⟩:=cZ (P:=P) h hf e E [] none (fun _=>rfl)
 simp only[a0f]at O U
 exact⟨l,Z,h2,h3,O,U⟩
theorem alloc_sound{e:TypeId}{r:AN}(h:WRel μ H w)(hf: ∀b,H.next<=b->b<H'.next->μ b=none)(A:eG P e H=some (r,H')):
  OpOK P μ H w (do Pure.pure (.value (←Instr.alloc e true (.tuple #[])))) r H':=by
 unfold eG at A
 split at A
 ·rename_i z hz;simp only[a03,a04]at A;obtain⟨rfl,rfl⟩:=A;obtain⟨i,v,hi,hv,hc,E⟩:=eD (P:=P) hz;obtain⟨l,Z,h2,h3,O,hp⟩:=iq (P:=P) h (hf H.next (a08 _) (by simp[aL])) e (LRel.refl0 (μ:=μ) E);have U:v.cells=⟨z⟩:=by rw[←hc]
  refine OpOK.value (v':= .pointer (some ⟨w.heap.size,0,none⟩)) ?_ hp ?_
  ·simp only[Instr.alloc,Sem.run_bind,dz w hi hv,Result.andThen_ok,newVar,U,O,Sem.run_pure]
  have:=VRel.ptr (μ:=μ.set H.next l) H.next 0 l (Emb.set_same _ _ _);rw[Z,h2]at this;exact this
 cases A
theorem box_sound{e:TypeId}{x E:Value}(h:WRel μ H w)(Z:μ H.next=none)(hx:VRel μ x E):
  OpOK P μ H w (do Pure.pure (.value (←Instr.box e E))) (.val (ptrTo H.next)) (aL H x.cells.toList none):=by
 obtain⟨l,O,U,h3,A,hp⟩:=iq (P:=P) h Z e hx.cells
 refine OpOK.value (v':= .pointer (some ⟨w.heap.size,0,none⟩)) ?_ hp ?_
 ·simp only[Instr.box,newVar,Sem.run_bind,A,Result.andThen_ok,Sem.run_pure]
 have:=VRel.ptr (μ:=μ.set H.next l) H.next 0 l (Emb.set_same _ _ _)
 rw[O,U]at this;exact this
theorem kK{t:TypeId}{sz:Nat}{z:List Value}(h:dw P t=some (sz,z)): ∃e,P.underlying t=some (.slice e)/\cQ P e=some sz/\cu P e=some z/\z.length=sz:=by
 unfold dw at h;split at h
 ·rename_i e E;split at h
  ·rename_i U Z hs O;cases A:Nat.beq (eC Z) U with
   |false=>rw[A]at h;cases h
   |true=>
    rw[A]at h;simp only[cond_true,a03,a04]at h
    obtain⟨rfl,rfl⟩:=h
    exact⟨e,E,hs,O,by rw[←bc];exact a07 A⟩
  cases h
 cases h
theorem ju{t:TypeId}{n:Nat}{ps:List (Nat×Value)}{ps':Array (Nat×Value)}{r:AN}(h:WRel μ H w)(hf: ∀b,H.next<=b->b<H'.next->μ b=none)
  (hl:ps.length=ps'.toList.length) (hp: ∀(i:Nat) x x',ps[i]?=some x->ps'.toList[i]?=some x'->x.1=x'.1/\VRel μ x.2 x'.2)
  (E:bD P t n ps H=some (r,H')):OpOK P μ H w (do Pure.pure (.value (←Instr.buildSlice t n ps'))) r H':=by
 unfold bD at E
 split at E
 ·rename_i sz z a2;obtain⟨e,hu,hs,hz,U⟩:=kK a2;cases hq:Nat.ble (n *sz) 16777216 with
  |false=>rw[hq]at E;cases E
  |true=>
   rw[hq]at E
   simp only[cond_true]at E
   have bn:n *sz<=16777216:=a0d hq
   split at E
   ·rename_i cells hc;simp only[a03,a04]at E;obtain⟨rfl,rfl⟩:=E;obtain⟨i,v,hi,hv,a3,ar⟩:=eD (P:=P) hz;obtain⟨a0,an,aA⟩:=jE (μ:=μ) ps ps'.toList _ _ cells hl hp (LRel.refl0 (hM ar n)) hc;obtain⟨l,h1,h2,h3,O,al⟩:=iq (P:=P) h (hf H.next (a08 _) (by simp[aL])) e aA;refine OpOK.value (v':= .slice (some ⟨w.heap.size,0,none⟩) n n) ?_ al ?_
    ·have a4:v.cells=⟨z⟩:=by rw[←a3]
     simp only[Instr.buildSlice,Sem.run_bind,ae w hu,Result.andThen_ok,aR w hs,show ¬(n *sz>2^24) by omega,if_false];by_cases Z:n *sz=0
     ·have a1:cy n z=[]:=a0h (by rw[eA,U];exact Z);have A: ∀g:Nat->Value,(Array.range (n *sz)).map g=⟨cy n z⟩:=fun g=>by rw[Z,a1];simp
      rw[if_pos Z];simp only[Sem.run_bind,Sem.run_pure,Result.andThen_ok,A,an,O]
     have A:=zeros_eq ⟨z⟩ n;simp only[show(Array.mk z).size=sz from U]at A;rw[if_neg Z];simp only[Sem.run_bind,dz w hi hv,Sem.run_pure,Result.andThen_ok,a4,show(Array.mk z).size=sz from U,A,an,O]
    have:=VRel.sliceC (μ:=μ.set H.next l) H.next 0 n n l (Emb.set_same _ _ _) h3;rw[h1,h2]at this;exact this
   cases E
 cases E
theorem load_sound{t:TypeId}{a O:Value}{r:AN}(h:WRel μ H w)(U:VRel μ a O)(A:ep P t a H=some (r,H')):
  OpOK P μ H w (do Pure.pure (.value (←Instr.loadAt t O))) r H':=by
 unfold ep at A
 split at A
 ·rename_i p;obtain⟨rfl,v,hv,rfl⟩:=ck A;obtain⟨b,o,sp⟩:=p;have Z:sp=none:=U.ptr_some.1;subst Z;obtain⟨l,hb,rfl⟩:=U.ptr_inv;obtain⟨v',E,hr⟩:=gW (P:=P) h hb hv;refine OpOK.value (v':=v') ?_ (Post.refl h) hr;simp only[Instr.loadAt,Instr.sureAddr,Sem.run_bind,Sem.run_pure,Result.andThen_ok,E]
 cases A
theorem store_sound{t:TypeId}{a a' x Z:Value}{r:AN}(h:WRel μ H w)(ha:VRel μ a a')(hx:VRel μ x Z)(A:e9 P t a x H=some (r,H')):
  OpOK P μ H w (do Instr.storeAt t a' Z;Pure.pure .skip) r H':=by
 unfold e9 at A
 split at A
 ·rename_i p;split at A
  ·rename_i n hn;cases E:Nat.beq x.cells.size n with
   |false=>rw[E]at A;cases A
   |true=>
    rw[E]at A
    obtain⟨hs,rfl⟩:=mb A
    have a2:x.cells.size=n:=a07 E
    obtain⟨b,o,sp⟩:=p
    have ar:sp=none:=ha.ptr_some.1
    subst ar
    obtain⟨l,hb,rfl⟩:=ha.ptr_inv
    obtain⟨w',O,hp⟩:=fS (P:=P) h hb hs hx.cells
    refine OpOK.skip ?_ hp
    have U:Z.cells.size=n:=by have:=hx.cells.1;simp only[a1F]at this;omega
    simp only[Instr.storeAt,Instr.sureAddr,storeVar,Sem.run_bind,Sem.run_pure,Result.andThen_ok,aR w hn,U,ne_eq,not_true,if_false,O]
  cases A
 cases A
theorem ml(t:TypeId)(h:WRel μ H w)(A:μ H.next=none):
  OpOK P μ H w (do Pure.pure (.value (←Instr.makeMap t none))) (.val (.map (some H.next))) (H.push (.tab [])):=by
 refine OpOK.value (v':= .map (some w.heap.size)) (w':=w.alloc (.map #[] 0)) (μ':=μ.set H.next ⟨w.heap.size,0,none,0⟩) ?_ (Post.push h A _ V _ _ ?_) ?_
 ·simp[Instr.makeMap]
 ·exact⟨#[],0,fE w _,V,fun i x y E=>by simp at E⟩
 exact VRel.map (μ:=μ.set H.next ⟨w.heap.size,0,none,0⟩) H.next _ (Emb.set_same _ _ _)
theorem range_sound{t:TypeId}{x E:Value}{r:AN}(h:WRel μ H w)(O: ∀b,H.next<=b->b<H'.next->μ b=none)(hx:VRel μ x E)(U:ovh (aRange P t x H)=some (r,H')):
  OpOK P μ H w (do Pure.pure (.value (←Instr.range t E))) r H':=by
 obtain⟨v,A,rfl⟩:=j7 U
 unfold aRange at A
 split at A
 ·rename_i s Z;simp only[a03,a04]at A;obtain⟨rfl,rfl⟩:=A;obtain rfl:=hx.string_inv;refine OpOK.value (v':= .pointer (some ⟨w.heap.size,0,none⟩)) (w':=w.alloc (.stringIter s 0)) (μ':=μ.set H.next ⟨w.heap.size,0,none,0⟩) ?_
   (Post.push h (O H.next (a08 _) (by simp)) _ V _ _ ⟨V,fE w _⟩) ?_
  ·simp[Instr.range,ae w Z]
  exact VRel.ptr (μ:=μ.set H.next ⟨w.heap.size,0,none,0⟩) H.next 0 _ (Emb.set_same _ _ _)
 cases A
theorem gy{r:Nat}{o:Obj}(A:w.heap[r]?=some o)(hc: ∀c e f,o≠ .cells c e f):(getObj r).run P w= .ok o w:=by cases o<;>first|exact absurd V (hc _ _ _)|(simp only[getObj,Sem.run,A])
theorem lb{r:Nat}{o o':Obj}(A:w.heap[r]?=some o)(hc: ∀c e f,o≠ .cells c e f):(setObj r o').run P w= .ok () (aS w r o'):=by cases o<;>first|exact absurd V (hc _ _ _)|(simp only[setObj,Sem.run,A];rfl)
theorem next_sound{it al:Value}{type:TypeId}{r:AN}(h:WRel μ H w)(hx:VRel μ it al)(ho:ovh (aNext H it)=some (r,H')):
  OpOK P μ H w (do Pure.pure (.value (←Instr.next al true type))) r H':=by
 obtain⟨v,A,rfl⟩:=j7 ho
 unfold aNext at A
 split at A
 ·rename_i b;split at A
  ·rename_i s pos hg;obtain⟨l,hb,rfl⟩:=hx.ptr_inv;obtain⟨Z,hh⟩:=h.obj b l _ hb hg;have E:(getObj l.c).run P w= .ok (.stringIter s pos) w:=gy hh (by intros;simp);cases U:Nat.ble (pos+1) s.size with
   |false=>
    rw[U]at A
    simp only[cond_false,a03,a04]at A
    obtain⟨rfl,rfl⟩:=A
    have aA: ¬pos<s.size:=fun O=>by rw[a0v O]at U;cases U
    refine OpOK.value (v':= .tuple #[.bool false]) ?_ (Post.refl h) (VRel.refl2 V)
    simp[Instr.next,Z,E,aA]
   |true=>
    rw[U]at A
    simp only[cond_true,a03,a04]at A
    obtain⟨rfl,rfl⟩:=A
    have O:pos<s.size:=a0d U
    refine OpOK.value (v':= .tuple #[.bool true,goInt pos,.int .i32 (Utf8.decode s pos).1]) (w':=aS w l.c (.stringIter s (pos+(Utf8.decode s pos).2))) ?_
     (Post.put h hb hg V _ V _ ⟨Z,br w _ (bP hh)⟩) (VRel.refl2 V)
    simp[Instr.next,Z,E,O,lb hh (by intros;simp)]
  cases A
 cases A
theorem kR{n:Nat}(h:n<=2147483648):IntKind.i64.wrap (n:Int)=n:=IntWalk.i64_in _ M
theorem jb{e:TypeId}{b:Nat}(h:fa P e=some b): ∃i,P.info? e=some i/\i.bytes=b:=by
 unfold fa at h;split at h
 ·rename_i i hi;injection h with h;exact⟨i,hi,h⟩
 cases h
theorem make_sound{t:TypeId}{x x' y y':Value}{r:AN}(h:WRel μ H w)(hf: ∀b,H.next<=b->b<H'.next->μ b=none)(hx:VRel μ x x')(hy:VRel μ y y')
  (ho:ovh (aMake P t x y H)=some (r,H')):OpOK P μ H w (do Pure.pure (.value (←Instr.makeSlice t x' y'))) r H':=by
 obtain⟨v,E,rfl⟩:=j7 ho
 unfold aMake at E
 split at E
 ·rename_i e hu;split at E
  ·rename_i sz U z n k hs hb hz hn hk;cases hq:(Nat.ble n k&&Nat.ble k 2147483648&&Nat.ble U 4096&&Nat.beq (eC z) sz&& !Nat.beq sz 0) with
   |false=>rw[hq]at E;cases E
   |true=>
    rw[hq]at E
    simp only[cond_true,a03,a04]at E
    obtain⟨rfl,rfl⟩:=E
    simp only[a05,a0X]at hq
    obtain⟨⟨⟨⟨q1,q2⟩,q3⟩,q4⟩,q5⟩:=hq
    have q1:n<=k:=a0d q1
    have q2:k<=2147483648:=a0d q2
    have q3:U<=4096:=a0d q3
    have q4:z.length=sz:=by rw[←bc];exact a07 q4
    have q5:sz≠0:=fun e=>by rw[e]at q5;cases q5
    obtain⟨i,vz,hi,bf,ba,a3⟩:=eD (P:=P) hz
    obtain⟨ib,O,a8⟩:=jb hb
    rw[hi]at O;injection O with O;subst O
    obtain⟨l,h1,h2,h3,Z,ar⟩:=iq (P:=P) h (hf H.next (a08 _) (by simp[aL])) e (LRel.refl0 (μ:=μ) (hM a3 k))
    refine OpOK.value (v':= .slice (some ⟨w.heap.size,0,none⟩) n k) ?_ ar ?_
    ·obtain⟨kn,rfl⟩:=ft hn hx;obtain⟨kk,rfl⟩:=ft hk hy;have bn:=kR (n:=n) M;have bl:=kR (n:=k) q2;have bb:vz.cells=⟨z⟩:=by rw[←ba]
     have a4:U *k<=4096 *2147483648:=Nat.mul_le_mul q3 q2;have a5:(decide ((k:Int)<0)||decide ((i.bytes:Int) *(k:Int)>2^48)||decide ((n:Int)<0)||decide ((n:Int)>(k:Int)))=false:=by
      have hm:((i.bytes:Int) *(k:Int))<=8796093022208:=by rw[a8,←Int.natCast_mul];exact Int.ofNat_le.2 a4
      have h1: ¬((k:Int)<0):=M
      have h2: ¬((i.bytes:Int) *(k:Int)>2^48):=by
       have:(2:Int)^48=281474976710656:=by decide
       omega
      have h3: ¬((n:Int)<0):=M
      have h4: ¬((n:Int)>(k:Int)):=M
      simp only[decide_eq_false h1,decide_eq_false h2,decide_eq_false h3,decide_eq_false h4,Bool.or_self]
     simp only[Instr.makeSlice,Sem.run_bind,ae w hu,Result.andThen_ok,asInt,asIntOf,Sem.run_pure,ev w hi,bn,bl];rw[if_neg (by rw[a5];exact Bool.false_ne_true)];simp only[Sem.run_bind,run_askRoom,Result.andThen_ok,aR w hs,Int.toNat_natCast];by_cases h0:k *sz=0
     ·have a9:cy k z=[]:=a0h (by rw[eA,q4];exact h0);have A: ∀g:Nat->Value,(Array.range (k *sz)).map g=⟨cy k z⟩:=fun g=>by rw[h0,a9];simp
      rw[if_pos h0];simp only[Sem.run_bind,Sem.run_pure,Result.andThen_ok,A,Z]
     have A:=zeros_eq ⟨z⟩ k;simp only[show(Array.mk z).size=sz from q4]at A;rw[if_neg h0];simp only[Sem.run_bind,dz w hi bf,Sem.run_pure,Result.andThen_ok,bb,show(Array.mk z).size=sz from q4,A,Z]
    have:=VRel.sliceC (μ:=μ.set H.next l) H.next 0 n k l (Emb.set_same _ _ _) h3
    rw[h1,h2]at this;exact this
  cases E
 cases E
end
end Go.R
namespace Go.R
section
variable {P:Program} {μ:Emb} {H H':Heap} {w:World}
theorem kB{n k l r:Nat}{lo hi:Option Value}(h:bnds n k lo hi=some (l,r)):
  bX n hi=some r/\bX 0 lo=some l/\l<=r/\r<=k:=by
 unfold bnds at h
 split at h
 ·rename_i E U;split at h
  ·rename_i l' O;cases A:(Nat.ble l' E&&Nat.ble E k) with
   |false=>rw[A]at h;cases h
   |true=>
    rw[A]at h;simp only[cond_true,a03,a04]at h
    obtain⟨rfl,rfl⟩:=h
    simp only[a05]at A
    exact⟨U,O,a0d A.1,a0d A.2⟩
  cases h
 cases h
theorem ea{v v':Value}{n y:Nat}(h:asNat v=some n)(E:VRel μ v v')(O:n<=y)(A:BoundsCode):(Instr.sliceBound v' y A).run P w= .ok n w:=by
 obtain⟨k,rfl⟩:=ft h E;have:(0:Int)<=(n:Int)/\(n:Int)<=(y:Int):=M
 simp[Instr.sliceBound,asIntOf,this.2]
theorem dW{isSlice:Bool}{n k k' l r:Nat}{lo hi an E:Option Value}(hb:bnds n k lo hi=some (l,r))(hk:k<=k')
  (ax: ∀v,lo=some v->∃v',an=some v'/\VRel μ v v') (O:lo=none->an=none)
  (a1: ∀v,hi=some v->∃v',E=some v'/\VRel μ v v') (aA:hi=none->E=none):
  (Instr.sliceBounds isSlice n k' an E none).run P w= .ok (l,r,k') w:=by
 obtain⟨h1,A,h3,h4⟩:=kB hb
 unfold Instr.sliceBounds
 cases hi with
 |none=>
  rw[aA rfl]
  simp only[bX,a03]at h1;subst h1
  cases lo with
  |none=>
   rw[O rfl]
   simp only[bX,a03]at A;subst A
   simp
  |some u=>
   obtain⟨u',U,Z⟩:=ax u V
   rw[U]
   simp only[Sem.run_bind,Sem.run_pure,Result.andThen_ok,ea (P:=P) (w:=w) A Z h3]
 |some v=>
  obtain⟨v',a3,hr⟩:=a1 v V
  rw[a3]
  cases lo with
  |none=>
   rw[O rfl]
   simp only[bX,a03]at A;subst A
   simp only[Sem.run_bind,Sem.run_pure,Result.andThen_ok,ea (P:=P) (w:=w) h1 hr (by omega:r<=k')]
  |some u=>
   obtain⟨u',U,Z⟩:=ax u V
   rw[U]
   simp only[Sem.run_bind,Sem.run_pure,Result.andThen_ok,ea (P:=P) (w:=w) h1 hr (by omega:r<=k'),ea (P:=P) (w:=w) A Z h3]
theorem dV(s:ByteArray)(l r:Nat):s.extract l r=⟨⟨(s.data.toList.drop l).take (r-l)⟩⟩:=by apply ByteArray.ext;apply Array.ext';simp
theorem jV{t:TypeId}{x x':Value}{lo hi mx a7 a6 a9:Option Value}{r:AN}(h:WRel μ H w)(hx:VRel μ x x')
  (a0: ∀v,lo=some v->∃v',a7=some v'/\VRel μ v v') (an:lo=none->a7=none)
  (aA: ∀v,hi=some v->∃v',a6=some v'/\VRel μ v v') (al:hi=none->a6=none) (bt:mx=none->a9=none)
  (ho:ovl (bo P t x lo hi mx H) H=some (r,H')): ∃v v',r= .val v/\H'=H/\(Instr.sliceAt t x' a7 a6 a9).run P w= .ok v' w/\VRel μ v v':=by
 obtain⟨rfl,v,A,rfl⟩:=ck ho
 unfold bo at A
 split at A
 ·cases A
 rw[bt rfl]
 simp only at A
 split at A
 ·rename_i s hu;obtain rfl:=hx.string_inv;split at A
  ·rename_i l r hb;injection A with A;subst A;rw[bc]at hb;have bw:s.data.toList.length=s.size:=by simp
   rw[bw]at hb;refine⟨_,.string (s.extract l r),V,V,?_,?_⟩
   ·simp[Instr.sliceAt,Instr.slice,ae w hu,dW (P:=P) (w:=w) (isSlice:=false) hb (a08 _) a0 an aA al]
   rw[dV,bB,bJ];exact .atom _ V
  cases A
 ·rename_i e hu;obtain rfl:=hx.eq0 V;split at A
  ·rename_i lr hb;obtain⟨l,r⟩:=lr;cases hs:cQ P e with
   |none=>rw[hs]at A;cases A
   |some sz=>
    rw[hs]at A
    simp only[Option.isSome_some,cond_true,a03]at A;subst A
    obtain⟨_,_,h3,h4⟩:=kB hb
    obtain rfl:r=0:=M
    obtain rfl:l=0:=M
    refine⟨_,.slice none 0 0,V,V,?_,.atom _ V⟩
    simp[Instr.sliceAt,Instr.slice,ae w hu,dW (P:=P) (w:=w) (isSlice:=true) hb (a08 _) a0 an aA al,aR w hs]
  cases A
 ·rename_i e b o n k hu;split at A
  ·rename_i l r sz cs b0 ro hb hs hg;obtain⟨E,hμ,hc⟩:=hx.slice_inv;have Z:E.opn=b0:=by
    have:=h.obj b E _ hμ hg;cases ro
    ·exact this.1
    exact this.1
   obtain⟨_,_,h3,h4⟩:=kB hb;split at A
   ·injection A with A;subst A;rcases hc with⟨U,rfl⟩|⟨e',o',k',U,rfl,_⟩|⟨rfl,rfl,a',rfl⟩
    rotate_right
    ·obtain rfl:r=0:=M
     obtain rfl:l=0:=M
     refine⟨_,.slice (some (if 0=0 then a' else a'.add (0 *sz))) (0-0) (0-0),V,V,?_,?_⟩
     ·simp only[Instr.sliceAt,Instr.slice,Sem.run_bind,ae w hu,Result.andThen_ok,dW (P:=P) (w:=w) (isSlice:=true) hb (a08 _) a0 an aA al,aR w hs,Sem.run_pure];split<;>rfl
     exact .sliceZ b o a' E hμ
    ·refine⟨_,.slice (some (if k=l then⟨E.c,E.sh+o,none⟩ else Addr.add ⟨E.c,E.sh+o,none⟩ (l *sz))) (r-l) (k-l),V,V,?_,?_⟩
     ·simp only[Instr.sliceAt,Instr.slice,Sem.run_bind,ae w hu,Result.andThen_ok,dW (P:=P) (w:=w) (isSlice:=true) hb (a08 _) a0 an aA al,aR w hs,Sem.run_pure];split<;>rfl
     by_cases O:k=l
     ·rw[if_pos O];have:Nat.beq k l=true:=by rw[O];exact a0Z l
      rw[this];exact .sliceC b o _ _ E hμ U
     rw[if_neg O];have:Nat.beq k l=false:=by
      cases hq:Nat.beq k l with
      |false=>rfl
      |true=>exact absurd (a07 hq) O
     rw[this,cT,a0P];exact .sliceC b (o+l *sz) _ _ E hμ U
    rw[Z]at U;cases U
   rename_i ez;cases hq:Nat.beq ez sz with
   |false=>rw[hq]at A;cases A
   |true=>
    rw[hq]at A
    simp only[cond_true,a03]at A;subst A
    have bl:ez=sz:=a07 hq
    rcases hc with⟨U,rfl⟩|⟨e',o',k',U,rfl,ci,bn,bb,ch⟩|⟨rfl,rfl,a',rfl⟩
    rotate_right
    ·obtain rfl:r=0:=M
     obtain rfl:l=0:=M
     refine⟨_,.slice (some (if 0=0 then a' else a'.add (0 *sz))) (0-0) (0-0),V,V,?_,?_⟩
     ·simp only[Instr.sliceAt,Instr.slice,Sem.run_bind,ae w hu,Result.andThen_ok,dW (P:=P) (w:=w) (isSlice:=true) hb (a08 _) a0 an aA al,aR w hs,Sem.run_pure];split<;>rfl
     exact .sliceZ b _ a' E hμ
    ·rw[Z]at U;cases U
    rw[Z]at U;injection U with U
    subst U bl
    refine⟨_,.slice (some (if k'=l then⟨E.c,o',none⟩ else Addr.add ⟨E.c,o',none⟩ (l *ez))) (r-l) (k'-l),V,V,?_,?_⟩
    ·simp only[Instr.sliceAt,Instr.slice,Sem.run_bind,ae w hu,Result.andThen_ok,dW (P:=P) (w:=w) (isSlice:=true) hb bn a0 an aA al,aR w hs,Sem.run_pure];split<;>rfl
    by_cases O:k'=l
    ·rw[if_pos O];refine .sliceO b (o+l *ez) o' _ _ _ ez E hμ Z M M M ?_;rw[O,a1W,Nat.zero_mul];omega
    rw[if_neg O,cT]
    refine .sliceO b (o+l *ez) (o'+l *ez) _ _ _ ez E hμ Z M M (fun b8=>?_) ?_
    ·rw[bb M];omega
    have:l *ez+(k'-l) *ez=k' *ez:=by rw[←a19];congr 1;omega
    omega
  cases A
 ·rename_i n e b o hu;split at A
  ·rename_i l r sz cs ro hb hs hg;obtain⟨E,hμ,rfl⟩:=hx.ptr_inv;have Z:E.opn=none:=by
    have:=h.obj b E _ hμ hg;cases ro
    ·exact this.1
    exact this.1
   injection A with A;subst A;refine⟨_,.slice (some (if n=l then⟨E.c,E.sh+o,none⟩ else Addr.add ⟨E.c,E.sh+o,none⟩ (l *sz))) (r-l) (n-l),V,V,?_,?_⟩
   ·simp only[Instr.sliceAt,Sem.run_bind,ae w hu,Result.andThen_ok,Instr.sureAddr,Sem.run_pure,dW (P:=P) (w:=w) (isSlice:=false) hb (a08 _) a0 an aA al,aR w hs]
   by_cases O:n=l
   ·rw[if_pos O];have:Nat.beq n l=true:=by rw[O];exact a0Z l
    rw[this];exact .sliceC b o _ _ E hμ Z
   rw[if_neg O];have:Nat.beq n l=false:=by
    cases hq:Nat.beq n l with
    |false=>rfl
    |true=>exact absurd (a07 hq) O
   rw[this,cT,a0P];exact .sliceC b (o+l *sz) _ _ E hμ Z
  cases A
 cases A
theorem slice_sound{t:TypeId}{x x':Value}{lo hi mx E A O:Option Value}{r:AN}(h:WRel μ H w)(hx:VRel μ x x')
  (ar: ∀v,lo=some v->∃v',E=some v'/\VRel μ v v') (Z:lo=none->E=none)
  (an: ∀v,hi=some v->∃v',A=some v'/\VRel μ v v') (U:hi=none->A=none) (ax:mx=none->O=none)
  (ho:ovl (bo P t x lo hi mx H) H=some (r,H')):OpOK P μ H w (do Pure.pure (.value (←Instr.sliceAt t x' E A O))) r H':=by
 obtain⟨v,v',rfl,rfl,al,hr⟩:=jV (P:=P) h hx ar Z an U ax ho
 exact OpOK.value al (Post.refl h) hr
theorem lenA_run{x E:Value}{m:Nat}(h:lenA x=some m)(A:VRel μ x E):(Builtin.lenOf E).run P w= .ok m w:=by
 unfold lenA at h;split at h
 ·injection h with h;subst h;rename_i a n k;obtain⟨O,U,rfl,_⟩:=di A;rfl
 ·rename_i s;injection h with h;subst h;obtain rfl:=A.string_inv;rw[bc];simp[Builtin.lenOf]
 cases h
theorem ei{x x':Value}{sz m:Nat}{vs:List Value}(h:WRel μ H w)(hx:VRel μ x x')(hl: ∃m0,lenA x=some m0/\m<=m0)(A:gf H sz m x=some vs):
  ∃U,(Builtin.firstCells sz m x').run P w= .ok ⟨U⟩ w/\LRel μ vs U/\vs.length=m *sz:=by
 unfold gf at A
 split at A
 ·rename_i a n k;obtain⟨b,o,sp⟩:=a;have a3:sp=none:=hx.slice_some.1;subst a3;cases E:Nat.beq m 0 with
  |true=>
   rw[E]at A
   simp only[cond_true,a03]at A;subst A
   have hm:m=0:=a07 E
   subst hm
   obtain⟨_,a',k',rfl⟩:=hx.slice_some
   exact⟨[],by simp[Builtin.firstCells,loadCells,loadCellsFrom],.nil,by simp⟩
  |false=>
   rw[E]at A
   simp only[cond_false]at A
   have hm:m≠0:=fun e=>by subst e;cases E
   obtain⟨m0,O,aA⟩:=hl
   simp only[lenA,a03]at O;subst O
   obtain⟨l,hμ,hc⟩:=hx.slice_inv
   obtain⟨U,al,hr,Z⟩:=gX (P:=P) h hμ A
   rcases hc with⟨_,rfl⟩|⟨e',o',k',_,rfl,a8,_,a0,_⟩|⟨hz,_,_⟩
   rotate_right
   ·omega
   ·exact⟨U,by simp only[Builtin.firstCells,al],hr,Z⟩
   rw[a0 M]
   exact⟨U,by simp only[Builtin.firstCells,al],hr,Z⟩
 ·rename_i n k;cases E:Nat.beq m 0 with
  |false=>rw[E]at A;cases A
  |true=>
   rw[E]at A
   simp only[cond_true,a03]at A;subst A
   have hm:m=0:=a07 E
   subst hm
   obtain⟨_,_,rfl⟩:=hx.sliceNil_inv
   exact⟨[],by simp[Builtin.firstCells],.nil,by simp⟩
 ·rename_i s;cases E:Nat.beq sz 1 with
  |false=>rw[E]at A;cases A
  |true=>
   rw[E]at A
   simp only[cond_true,a03,gV,bB]at A;subst A
   have hs:sz=1:=a07 E
   subst hs
   obtain rfl:=hx.string_inv
   obtain⟨m0,O,aA⟩:=hl
   simp only[lenA,bc,a03]at O;subst O
   refine⟨(s.data.toList.take m).map fun b=> .int .u8 b.toNat,?_,LRel.refl0 ?_,?_⟩
   ·simp only[Builtin.firstCells,Sem.run_pure,dV];congr 1;apply Array.ext';simp
   ·rw[a0y];intro u hu;obtain⟨c,_,rfl⟩:=a0w.1 hu;rfl
   simp at aA⊢;omega
 cases A
theorem growBy_le(A:Nat): ∀(r c:Nat),c<=A+(A+768)/4->Builtin.growBy A r c<=A+(A+768)/4
 |0,c,h=>h
 |r+1,c,h=>by
  simp only[Builtin.growBy];split
  ·exact h
  exact growBy_le A r _ M
theorem nextcap_le{n k:Nat}(h:k<n):Builtin.nextslicecap n k<=2 *n+768:=by
 unfold Builtin.nextslicecap;split
 ·omega
 split
 ·omega
 have:=growBy_le n 4 k M;omega
theorem dv{z:Array Value}{sz:Nat}(h:z.size=sz)(n:Nat):(Builtin.zeroCells z n).toList.length=n *sz:=by simp[Builtin.zeroCells,h]
theorem ip{st E ty e:TypeId}{O:TypeDesc}{A:Value}{base:Option Addr}{n m k sz:Nat}{i:TypeInfo}{z:Value}{old new:List Value}
  (hu:P.underlying st=some (.slice e)) (a3:P.underlying E=some O) (a1: ∀kk,O≠ .int kk) (hi:P.info? e=some i) (hs:i.size=sz) (hz:i.zero=some z)
  (U:(Builtin.lenOf A).run P w= .ok m w) (a0:k<n+m) (a8:n+m<=2147483648) (aA:i.bytes<=4096)
  (an:(Builtin.firstCells sz n (.slice base n k)).run P w.drew= .ok ⟨old⟩ w.drew) (Z:(Builtin.firstCells sz m A).run P w.drew= .ok ⟨new⟩ w.drew):
  ∃nc,n+m<=nc/\(Builtin.append_ #[st,E] ty #[.slice base n k,A]).run P w=
   .ok (.slice (some ⟨w.heap.size,0,none⟩) (n+m) nc) (w.drew.alloc (.cells (⟨old⟩++⟨new⟩++Builtin.zeroCells z.cells (nc-(n+m))) e)):=by
 have a2:cQ P e=some sz:=by unfold cQ;rw[hi,←hs]
 have a4:=nextcap_le a0
 have al: ¬(Builtin.nextslicecap (n+m) k *i.bytes>2^48):=by
  have:Builtin.nextslicecap (n+m) k *i.bytes<=(2 *2147483648+768) *4096:=Nat.mul_le_mul M aA;have a9:(2:Nat)^48=281474976710656:=by decide
  omega
 have ax: ¬(((n+m:Nat):Int)>IntKind.i64.max/\(False\/i.bytes=0)):=by rw[IntKind.max_i64];omega
 refine⟨(Question.appendCap (n+m) k e).cut (w.tape w.drawn (.appendCap (n+m) k e)),by simp[Question.cut],?_⟩
 have ba:(match O with| .int _=>true|_=>false)=false:=by cases O<;>first|rfl|exact absurd V (a1 _)
 have e1: ∀a b:Value,(#[a,b]:Array Value)[0]?=some a/\(#[a,b]:Array Value)[1]?=some b:=fun a b=>⟨V,V⟩
 unfold Builtin.append_
 simp only[show(#[st,E]:Array TypeId)[0]?=some st from V,show(#[st,E]:Array TypeId)[1]?=some E from V,
  show(#[Value.slice base n k,A]:Array Value)[0]?=some (Value.slice base n k) from V,show(#[Value.slice base n k,A]:Array Value)[1]?=some A from V,
  Sem.run_bind,ae w hu,ae w a3,Result.andThen_ok,aR w a2,Sem.run_pure,a0k,if_false,U,
  show ¬(n+m<=k) by omega,ev w hi,al,ax]
 simp only[Sem.run_bind,run_choose,Question.forced,a0k,if_false,Result.andThen_ok,World.drew_eq,ev w.drew hi,run_askRoom,an,Z,a1D,if_true,
  dz w.drew hi hz,newRow,run_newObj,Sem.run_pure]
 rfl
theorem fG{st E ty e:TypeId}{O:TypeDesc}{A:Value}{base:Option Addr}{n m k sz:Nat}{new:List Value}{w':World}
  (hu:P.underlying st=some (.slice e)) (aA:P.underlying E=some O) (an: ∀kk,O≠ .int kk) (hs:cQ P e=some sz)
  (U:(Builtin.lenOf A).run P w= .ok m w) (al:n+m<=k) (Z:(Builtin.firstCells sz m A).run P w= .ok ⟨new⟩ w)
  (ax: ∀a,base=some a->(storeCells (a.add (n *sz)) new).run P w= .ok () w') (ar:base=none->w'=w):
  (Builtin.append_ #[st,E] ty #[.slice base n k,A]).run P w= .ok (.slice base (n+m) k) w':=by
 have a2:(match O with| .int _=>true|_=>false)=false:=by cases O<;>first|rfl|exact absurd V (an _)
 unfold Builtin.append_
 simp only[show(#[st,E]:Array TypeId)[0]?=some st from V,show(#[st,E]:Array TypeId)[1]?=some E from V,
  show(#[Value.slice base n k,A]:Array Value)[0]?=some (Value.slice base n k) from V,show(#[Value.slice base n k,A]:Array Value)[1]?=some A from V,
  Sem.run_bind,ae w hu,ae w aA,Result.andThen_ok,aR w hs,Sem.run_pure,a0k,if_false,U,al,if_true,a1D,Z]
 cases base with
 |none=>rw[ar rfl];rfl
 |some a=>simp only[Sem.run_bind,ax a V,Result.andThen_ok,Sem.run_pure]
theorem Post.kill(h:WRel μ H w){b:Nat}{l:Loc}{o:AObj}(hb:μ b=some l)(ho:H.get b=some o)(hr:o.rw=true):Post μ H w μ (H.put b .dead) w:=by
 refine⟨fun _ _ h=>h,fun _ _ h=> .inl h,a08 _,V,V,V,fun _ _ _=>rfl,fun k x ox O A a7=>?_,⟨fun k x ox O A=>?_,fun b1 b2 l1 l2 Z o2 a2 aA a0 a3 a4 a6 U=>?_⟩⟩
 ·by_cases e:b=k
  ·subst e;exact .inr ⟨b,l,o,hb,ho,gO hr,fun _=>hr,by rw[hb]at O;injection O with O;rw[O]⟩
  rw[Heap.get_put_ne H _ e]at A;exact .inr ⟨k,x,ox,O,A,a7,id,V⟩
 ·by_cases e:b=k
  ·subst e;rw[Heap.get_put_same]at A;injection A with A;subst A;trivial
  rw[Heap.get_put_ne H _ e]at A;exact h.obj k x ox O A
 have old: ∀k ok,ok.live=true->(H.put b .dead).get k=some ok->H.get k=some ok:=by
  intro k ok a1 E;by_cases e:b=k
  ·subst e;rw[Heap.get_put_same]at E;injection E with E;subst E;simp[AObj.live]at a1
  rw[Heap.get_put_ne H _ e]at E;exact E
 exact h.inj b1 b2 l1 l2 Z o2 a2 aA a0 (old b1 Z (by cases Z<;>simp_all[AObj.rw,AObj.live]) a3) (old b2 o2 U a4) a6 U
theorem szOf_info{e:TypeId}{s:Nat}(h:cQ P e=some s): ∃i,P.info? e=some i/\i.size=s:=by
 unfold cQ at h;split at h
 ·rename_i i hi;injection h with h;exact⟨i,hi,h⟩
 cases h
theorem ej(a b:List Value)(c:Array Value):(⟨a⟩++⟨b⟩++c:Array Value)=⟨(a++b)++c.toList⟩:=by apply Array.ext';simp
theorem append_sound{types:Array TypeId}{ty:TypeId}{s x s' x' v:Value}(h:WRel μ H w)(hf: ∀b,H.next<=b->b<H'.next->μ b=none)
  (hs:VRel μ s s') (hx:VRel μ x x') (d8:types.size=2) (A:fK P types s x H=some (v,H')):
  ∃v' w' μ',(Builtin.append_ types ty #[s',x']).run P w= .ok v' w'/\Post μ H w μ' H' w'/\VRel μ' v v':=by
 obtain⟨tl⟩:=types
 match tl,d8 with
 | [st,xt],_=>
 unfold fK at A
 simp only[show(#[st,xt]:Array TypeId)[0]?=some st from V,show(#[st,xt]:Array TypeId)[1]?=some xt from rfl]at A
 split at A
 ·rename_i e xd hu a1;split at A
  ·cases A
  rename_i a0;split at A
  ·rename_i sz e6 z m bl f8 hz hm;obtain⟨i,vz,hi,cp,fq,g8⟩:=eD (P:=P) hz;obtain⟨i2,c9,hA⟩:=jb f8;rw[hi]at c9;injection c9 with c9;subst c9;obtain⟨i3,dk,ci⟩:=szOf_info bl;rw[hi]at dk;injection dk with dk;subst dk;have al:(Builtin.lenOf x').run P w= .ok m w:=lenA_run hm hx;split at A
   ·cases A
   rename_i new d6;obtain⟨O,aA,a4,ar⟩:=ei (P:=P) h hx ⟨m,hm,a08 _⟩ d6;obtain⟨he,a3,a2,_⟩:=ei (P:=P) h.drew hx ⟨m,hm,a08 _⟩ d6;split at A
   ·--nil
    obtain rfl:=hs.eq0 V;cases hq:Nat.beq m 0 with
    |true=>
     rw[hq]at A
     simp only[cond_true,a03,a04]at A
     obtain⟨rfl,rfl⟩:=A
     have ch:m=0:=a07 hq
     subst ch
     exact⟨_,w,μ,fG (w':=w) hu a1 (fun kk=>a0 kk) bl al (a08 _) aA (fun a ha=>by cases ha) (fun _=>rfl),Post.refl h,.atom _ V⟩
    |false=>
     rw[hq]at A
     simp only[cond_false]at A
     have ch:m≠0:=fun e=>by subst e;cases hq
     cases bb:(Nat.beq (eC z) sz&&Nat.ble m 2147483648&&Nat.ble e6 4096&& !Nat.beq sz 0) with
     |false=>rw[bb]at A;cases A
     |true=>
      rw[bb]at A
      simp only[cond_true,a03,a04]at A
      obtain⟨rfl,rfl⟩:=A
      simp only[a05,a0X]at bb
      obtain⟨⟨⟨q1,q2⟩,q3⟩,q4⟩:=bb
      have q1:z.length=sz:=by rw[←bc];exact a07 q1
      have q2:=a0d q2
      have q3:=a0d q3
      obtain⟨nc,a7,E⟩:=ip (P:=P) (w:=w) (ty:=ty) (base:=none) (n:=0) (k:=0) (old:=[]) hu a1 (fun kk=>a0 kk) hi ci cp al M M M (by simp[Builtin.firstCells]) a3
      simp only[a0G]at E a7
      rw[ej,a0e]at E
      obtain⟨l,h1,h2,h3,h4,_,hp⟩:=cZ (P:=P) h.drew (hf H.next (a08 _) (by simp[aL])) e a2 (Builtin.zeroCells vz.cells (nc-m)).toList (some sz) (fun e=>by cases e)
      refine⟨_,_,_,E,(Post.drew h).trans hp (a08 _) (by simp[aL]),?_⟩
      have:=VRel.sliceO (μ:=μ.set H.next l) H.next 0 0 m m nc sz l (Emb.set_same _ _ _) h3 (a08 _) a7 (fun _=>by omega) (by
       rw[h4,dv (show vz.cells.size=sz by rw[←q1,←fq];simp),ar,a0G,←a19];exact a0A _ M)
      rw[h1]at this;exact this
   ·--a slice
    rename_i b o n k;obtain⟨l,hμ,hc⟩:=hs.slice_inv;split at A
    ·rename_i cs g1 ro hg;have c4:l.opn=g1:=by
      have:=h.obj b l _ hμ hg;cases ro
      ·exact this.1
      exact this.1
     cases hq:Nat.ble (n+m) k with
     |true=>
      rw[hq]at A
      simp only[cond_true]at A
      have dn:n+m<=k:=a0d hq
      cases dt:Nat.beq m 0 with
      |true=>
       rw[dt]at A
       simp only[cond_true,a03,a04]at A
       obtain⟨rfl,rfl⟩:=A
       have ch:m=0:=a07 dt
       subst ch
       have gm:O=[]:=a0h (by rw[←a4.1,ar];simp)
       subst gm
       rcases hc with⟨Z,rfl⟩|⟨e',o',k',Z,rfl,fi,d5,bw,c8⟩|⟨rfl,rfl,a',rfl⟩
       rotate_right
       ·exact⟨_,w,μ,fG (w':=w) hu a1 (fun kk=>a0 kk) bl al dn aA (fun a ha=>rfl) (fun e=>by cases e),Post.refl h,hs⟩
       ·exact⟨_,w,μ,fG (w':=w) hu a1 (fun kk=>a0 kk) bl al dn aA (fun a ha=>rfl) (fun e=>by cases e),Post.refl h,hs⟩
       exact⟨_,w,μ,fG (w':=w) hu a1 (fun kk=>a0 kk) bl al M aA (fun a ha=>rfl) (fun e=>by cases e),Post.refl h,hs⟩
      |false=>
       rw[dt]at A
       simp only[cond_false]at A
       have ch:m≠0:=fun e=>by subst e;cases dt
       split at A
       ·rename_i h1 g0;simp only[a03,a04]at A;obtain⟨rfl,rfl⟩:=A;obtain⟨w',E,hp⟩:=fS (P:=P) h hμ g0 a4;rcases hc with⟨Z,rfl⟩|⟨e',o',k',Z,rfl,fi,d5,bw,c8⟩|⟨rfl,rfl,a',rfl⟩
        rotate_right
        ·omega
        ·refine⟨_,w',μ,fG (w':=w') hu a1 (fun kk=>a0 kk) bl al dn aA (fun a ha=>?_) (fun e=>by cases e),hp,.sliceC b o _ _ l hμ Z⟩;injection ha with ha;subst ha;rw[cT,a0P];exact E
        refine⟨_,w',μ,fG (w':=w') hu a1 (fun kk=>a0 kk) bl al M aA (fun a ha=>?_) (fun e=>by cases e),hp,.sliceO b o o' _ _ _ e' l hμ Z dn d5 bw c8⟩;injection ha with ha;subst ha;rw[cT,bw M,a0P];exact E
       cases A
     |false=>
      rw[hq]at A
      simp only[cond_false]at A
      have fd:k<n+m:=by
       rcases a0s k (n+m) with h'|h'
       ·exact h'
       rw[a0v h']at hq;cases hq
      cases bb:(Nat.beq (eC z) sz&&Nat.ble (n+m) 2147483648&&Nat.ble e6 4096&& !Nat.beq sz 0&&Nat.ble n k) with
      |false=>rw[bb]at A;cases A
      |true=>
       rw[bb]at A
       simp only[cond_true]at A
       simp only[a05,a0X]at bb
       obtain⟨⟨⟨⟨q1,q2⟩,q3⟩,q4⟩,q5⟩:=bb
       have q1:z.length=sz:=by rw[←bc];exact a07 q1
       have q2:=a0d q2
       have q3:=a0d q3
       have q5:=a0d q5
       have hF:sz≠0:=fun e=>by rw[e]at q4;cases q4
       have b8:vz.cells.size=sz:=by rw[←q1,←fq];simp
       split at A
       ·cases A
       rename_i old ax
       obtain⟨hl,g7,g6,a5⟩:=ei (P:=P) h hs ⟨n,V,a08 _⟩ ax
       obtain⟨hn,ba,a9,_⟩:=ei (P:=P) h.drew hs ⟨n,V,a08 _⟩ ax
       split at A
       ·--exact
        simp only[a03,a04]at A;obtain⟨rfl,rfl⟩:=A;rcases hc with⟨Z,rfl⟩|⟨e',o',k',Z,rfl,_⟩|⟨rfl,rfl,a',rfl⟩
        rotate_right
        ·obtain⟨nc,a7,E⟩:=ip (P:=P) (w:=w) (ty:=ty) hu a1 (fun kk=>a0 kk) hi ci cp al fd q2 M ba a3;rw[ej]at E;obtain⟨l',h1,h2,h3,h4,_,hp⟩:=cZ (P:=P) h.drew (hf H.next (a08 _) (by simp[aL])) e (a9.append a2) (Builtin.zeroCells vz.cells (nc-(0+m))).toList (some sz) (fun e=>by cases e);rw[dX];refine⟨_,_,_,E,(Post.drew h).trans hp (a08 _) (by simp[aL]),?_⟩;have:=VRel.sliceO (μ:=μ.set H.next l') H.next 0 0 (0+m) (0+m) nc sz l' (Emb.set_same _ _ _) h3 (a08 _) a7 (fun _=>by omega) (by
          rw[h4,dv b8,a00,a5,ar,a0G,←a19,←a19];exact a0A _ M)
         rw[h1]at this;exact this
        ·obtain⟨nc,a7,E⟩:=ip (P:=P) (w:=w) (ty:=ty) hu a1 (fun kk=>a0 kk) hi ci cp al fd q2 M ba a3;rw[ej]at E;obtain⟨l',h1,h2,h3,h4,_,hp⟩:=cZ (P:=P) h.drew (hf H.next (a08 _) (by simp[aL])) e (a9.append a2) (Builtin.zeroCells vz.cells (nc-(n+m))).toList (some sz) (fun e=>by cases e);rw[dX];refine⟨_,_,_,E,(Post.drew h).trans hp (a08 _) (by simp[aL]),?_⟩;have:=VRel.sliceO (μ:=μ.set H.next l') H.next 0 0 (n+m) (n+m) nc sz l' (Emb.set_same _ _ _) h3 (a08 _) a7 (fun _=>by omega) (by
          rw[h4,dv b8,a00,a5,ar,a0G,←a19,←a19];exact a0A _ M)
         rw[h1]at this;exact this
        rw[c4]at Z;cases Z
       ·--open
        rename_i U;cases d1:(Nat.beq U sz&& !ro&&kP Value.oneCell' new) with
        |false=>rw[d1]at A;cases A
        |true=>
         rw[d1]at A
         simp only[cond_true,a03,a04]at A
         obtain⟨rfl,rfl⟩:=A
         simp only[a05,a0X]at d1
         obtain⟨⟨q6,q7⟩,q8⟩:=d1
         have q6:U=sz:=a07 q6
         subst q6 q7
         rcases hc with⟨Z,rfl⟩|⟨e',o',k',Z,rfl,fi,d5,bw,c8⟩|⟨rfl,rfl,a',rfl⟩
         rotate_right
         ·have b1:μ H.next=none:=hf H.next (a08 _) (by simp[aL]);obtain⟨nc,a7,E⟩:=ip (P:=P) (w:=w) (ty:=ty) hu a1 (fun kk=>a0 kk) hi ci cp al M q2 M ba a3;rw[ej]at E;have hk:=Post.kill h hμ hg V;obtain⟨l',h1,h2,h3,h4,_,hp⟩:=cZ (P:=P) (H:=H.put b .dead) hk.wrel.drew b1 e (a9.append a2) (Builtin.zeroCells vz.cells (nc-(0+m))).toList (some U) (fun e=>by cases e);rw[dX];refine⟨_,_,_,E,(hk.trans (Post.drew hk.wrel) (a08 _) (a08 _)).trans hp (a08 _) (by simp[aL]),?_⟩;have:=VRel.sliceO (μ:=μ.set H.next l') H.next 0 0 (0+m) (0+m) nc U l' (Emb.set_same _ _ _) h3 (a08 _) a7 (fun _=>by omega) (by
           rw[h4,dv b8,a00,a5,ar,a0G,←a19,←a19];exact a0A _ M)
          rw[h1]at this;exact this
         ·rw[c4]at Z;cases Z
         rw[c4]at Z;injection Z with Z;subst Z
         have b1:μ H.next=none:=hf H.next (a08 _) (by simp[aL])
         by_cases d4:n+m<=k'
         ·--in place
          obtain⟨r1,a8,et,hh,r2,r3,r4⟩:=h.obj b l _ hμ hg;have ds:O.length=m *U:=by rw[←a4.1];exact ar
          have hD:m≠0:=M
          have gs:O≠ []:=fun e=>by rw[e]at ds;have:=Nat.mul_eq_zero.1 ds.symm;omega
          have e4:O.all Value.oneCell'=true:=by
           rw[a0y];intro u b2;obtain⟨j,hj⟩:=List.getElem?_of_mem b2;have e8:j<new.length:=by rw[a4.1];exact(a0n.1 hj).1
           have hr:=a4.2 j new[j] u (a09 e8) hj;rw[hr.oneCell];rw[mO]at q8;exact a0y.1 q8 _ (a1E e8)
          have c0:o'+n *U+O.length<=a8.size:=by rw[ds,r2];have:(n+m) *U<=k' *U:=a0A _ d4;rw[a19]at this;omega
          have co:=dA (P:=P) l.c et O w a8 (o'+n *U) 0 hh M e4 gs;simp only[a1X]at co;have fz:(aX a8.toList (o'+n *U) O).length=a8.size:=by rw[cg _ _ _ (by simpa using c0)];simp
          have e5:=Post.take h hμ hg V b1 ⟨l.c,o',some U,l.csz⟩ V (.cells (jJ old new) (some U) false) (.cells ⟨aX a8.toList (o'+n *U) O⟩ et (0,0)) (by
           refine⟨V,_,et,br w _ (bP hh),by show(aX a8.toList (o'+n *U) O).length=_;rw[fz,r2],?_,fun j u hj=>?_⟩
           ·rw[dX,a00,a5,ar];show o'+_<=l.csz;rw[←r2];rw[ds]at c0;omega
           rw[dX]at hj;have mg: ∀v':Value,(aX a8.toList (o'+n *U) O)[o'+j]?=some v'->(Array.mk (aX a8.toList (o'+n *U) O))[o'+j]?=some v':=fun v' hv=>(kc _ _).trans hv
           rw[bp _ _ _ _ (by simpa using c0)]at mg;by_cases fb:j<n *U
           ·rw[a0V M]at hj;rw[if_neg M]at mg;have go:n≠0:=fun e=>by subst e;simp at fb
            unfold gf at ax;have f7:Nat.beq n 0=false:=by
             cases f6:Nat.beq n 0 with
             |false=>rfl
             |true=>exact absurd (a07 f6) go
            rw[f7]at ax;simp only[cond_false,Heap.loadN,hg,bB,bJ,bc]at ax;cases e7:Nat.beq ((cs.drop o).take (n *U)).length (n *U) with
            |false=>rw[e7]at ax;cases ax
            |true=>
             rw[e7]at ax
             simp only[cond_true,a03]at ax
             rw[←ax,a0C,if_pos fb,a0E]at hj
             obtain⟨u',b2,hr⟩:=r4 (o+j) u hj
             refine⟨u',mg u' ?_,hr.mono (Emb.set_ext _ b1)⟩
             have:o'+j=l.sh+(o+j):=by have:=bw M;omega
             rw[this];simpa using b2
           rw[a0O M,a5]at hj;obtain⟨u',b2,hr⟩:=a4.get hj;have hB:j-n *U<O.length:=(a0n.1 b2).1;rw[if_pos M]at mg;exact⟨u',mg u' (by rw[←b2];congr 1;omega),hr.mono (Emb.set_ext _ b1)⟩)
          refine⟨.slice (some ⟨l.c,o',none⟩) (n+m) k',_,_,fG (w':=aS w l.c (.cells ⟨aX a8.toList (o'+n *U) O⟩ et (0,0))) hu a1 (fun kk=>a0 kk) bl al d4 aA (fun a ha=>?_) (fun e=>by cases e),e5,?_⟩
          ·injection ha with ha;subst ha;rw[cT];exact co
          exact VRel.sliceO (μ:=μ.set H.next ⟨l.c,o',some U,l.csz⟩) H.next 0 o' (n+m) (n+m) k' U ⟨l.c,o',some U,l.csz⟩ (Emb.set_same _ _ _) V (a08 _) d4 (fun _=>rfl) c8
         ·--a new row
          obtain⟨nc,a7,E⟩:=ip (P:=P) (w:=w) (ty:=ty) hu a1 (fun kk=>a0 kk) hi ci cp al M q2 M ba a3;rw[ej]at E;have hk:=Post.kill h hμ hg V;obtain⟨l',h1,h2,h3,h4,_,hp⟩:=cZ (P:=P) (H:=H.put b .dead) hk.wrel.drew b1 e (a9.append a2) (Builtin.zeroCells vz.cells (nc-(n+m))).toList (some U) (fun e=>by cases e);rw[dX];refine⟨_,_,_,E,(hk.trans (Post.drew hk.wrel) (a08 _) (a08 _)).trans hp (a08 _) (by simp[aL]),?_⟩;have:=VRel.sliceO (μ:=μ.set H.next l') H.next 0 0 (n+m) (n+m) nc U l' (Emb.set_same _ _ _) h3 (a08 _) a7 (fun _=>by omega) (by
           rw[h4,dv b8,a00,a5,ar,a0G,←a19,←a19];exact a0A _ M)
          rw[h1]at this;exact this
    cases A
   cases A
  cases A
 cases A
end
end Go.R
namespace Go.R
section
variable {P:Program} {μ:Emb} {H H':Heap} {w:World}
theorem copy_sound{types:Array TypeId}{ty:TypeId}{d s d' U v:Value}(h:WRel μ H w)(hd:VRel μ d d')(hs:VRel μ s U)(A:aCopy P types d s H=some (v,H')):
  ∃v' w',(Builtin.copy_ types ty #[d',U]).run P w= .ok v' w'/\Post μ H w μ H' w'/\VRel μ v v':=by
 unfold aCopy at A
 split at A
 ·rename_i dt a1;split at A
  ·rename_i e base O dk m hu hm;split at A
   ·rename_i sz a2;simp only at A;obtain⟨E,Z,rfl,b1⟩:=di hd;have ar:(Builtin.lenOf U).run P w= .ok m w:=lenA_run hm hs;cases hq:Nat.beq (Nat.min m O) 0 with
    |true=>
     rw[hq]at A
     simp only[cond_true,a03,a04]at A
     obtain⟨rfl,rfl⟩:=A
     have h0:Nat.min m O=0:=a07 hq
     refine⟨_,w,?_,Post.refl h,.atom (goInt 0) V⟩
     have a8:(Builtin.firstCells sz 0 U).run P w= .ok #[] w:=by
      unfold lenA at hm;split at hm
      ·rename_i a n k;obtain⟨a',k',rfl,_⟩:=di hs;cases a'<;>simp[Builtin.firstCells,loadCells,loadCellsFrom]
      ·rename_i u;obtain rfl:=hs.string_inv;simp only[Builtin.firstCells,Sem.run_pure,dV];congr 1;simp
      cases hm
     unfold Builtin.copy_
     simp only[a1,show(#[Value.slice E O Z,U]:Array Value)[0]?=some (Value.slice E O Z) from V,show(#[Value.slice E O Z,U]:Array Value)[1]?=some U from V,
      Sem.run_bind,ae w hu,Result.andThen_ok,ar,aR w a2,h0,a8]
     cases E<;>simp[storeCells]
    |false=>
     rw[hq]at A
     simp only[cond_false]at A
     split at A
     ·rename_i l a hl;split at A
      ·rename_i H1 bb;simp only[a03,a04]at A;obtain⟨rfl,rfl⟩:=A;obtain⟨b,o,sp⟩:=a;have ba:sp=none:=hd.slice_some.1;subst ba;obtain⟨b4,a9,a0,bl⟩:=ei (P:=P) h hs ⟨m,hm,Nat.min_le_left _ _⟩ hl;obtain⟨l0,hμ,hc⟩:=hd.slice_inv;have h0:Nat.min m O≠0:=fun e=>by rw[e]at hq;cases hq
       have b2:0<O:=by
        rcases a1j O with e|e
        ·exfalso;apply h0;rw[e];exact Nat.min_zero _
        exact e
       obtain⟨w',a5,hp⟩:=fS (P:=P) h hμ bb a0;have a7:E=some ⟨l0.c,l0.sh+o,none⟩:=by
        rcases hc with⟨_,he⟩|⟨e',o',k',_,he,b3,_,a4,_⟩|⟨hz,_,_⟩
        rotate_right
        ·omega
        ·injection he with he
        injection he with he _ _;rw[he,a4 M]
       subst a7;refine⟨goInt (Nat.min m O:Nat),w',?_,hp,.atom _ V⟩;unfold Builtin.copy_;simp only[a1,show(#[Value.slice (some ⟨l0.c,l0.sh+o,none⟩) O Z,U]:Array Value)[0]?=some (Value.slice (some ⟨l0.c,l0.sh+o,none⟩) O Z) from V,
        show(#[Value.slice (some ⟨l0.c,l0.sh+o,none⟩) O Z,U]:Array Value)[1]?=some U from V,
        Sem.run_bind,ae w hu,Result.andThen_ok,ar,aR w a2,a9,a5,Sem.run_pure]
      cases A
     cases A
   cases A
  cases A
 cases A
theorem len_sound{t ty:TypeId}{x x' v:Value}(h:WRel μ H w)(U:VRel μ x x')(A:aLen P t x H=some v):
  (Builtin.len_ #[t] ty #[x']).run P w= .ok v w/\dr v=true:=by
 unfold aLen at A
 split at A
 ·rename_i e a n k E;injection A with A;subst A;obtain⟨a',k',rfl,_⟩:=di U;exact⟨by simp[Builtin.len_,ae w E],V⟩
 ·rename_i s E;injection A with A;subst A;obtain rfl:=U.string_inv;exact⟨by simp[Builtin.len_,ae w E,bc],V⟩
 ·rename_i k e E;injection A with A;subst A;obtain rfl:=U.mapNil_inv;exact⟨by simp[Builtin.len_,ae w E],V⟩
 ·rename_i k e r E;split at A
  ·rename_i es hg;injection A with A;subst A;obtain⟨l,hμ,rfl⟩:=U.map_inv;obtain⟨al,O,hh,hl,_⟩:=h.obj r l _ hμ hg;have Z:(getObj l.c).run P w= .ok (.map al O) w:=gy hh (by intros;simp);exact⟨by simp[Builtin.len_,ae w E,Z,hl],V⟩
  cases A
 cases A
theorem fO: ∀(l:List Value) (r:List UInt8) (s:ByteArray),bQ l=some r->
  (forIn (m:=Sem) l s (fun c s=>match c with
   | .int .u8 n=>Pure.pure (ForInStep.yield (s.push (UInt8.ofNat n.toNat)))
   |_=>do stuck "bytesToString: byte expected";Pure.pure (ForInStep.yield s))).run P w= .ok ⟨⟨s.data.toList++r⟩⟩ w
 | [],r,s,h=>by simp only[bQ,a03]at h;subst h;simp
 |v::l,r,s,h=>by
  unfold bQ at h;split at h
  ·rename_i A;cases A
  ·rename_i n l2 A;injection A with h1 h2;subst h1 h2;split at h
   ·rename_i O E;injection h with h;subst h;have ih:=fO l O (s.push (UInt8.ofNat n.toNat)) E;simp only[List.forIn_cons,Sem.run_bind,Sem.run_pure,Result.andThen_ok,ih];congr 3;simp
   cases h
  cases h
theorem eU: ∀(l:List Value) (r:List UInt8),bQ l=some r->l.all dr=true
 | [],_,_=>rfl
 |v::l,r,h=>by
  unfold bQ at h;split at h
  ·rename_i A;cases A
  ·rename_i n l2 A;injection A with h1 h2;subst h1 h2;split at h
   ·rename_i O E;simp only[a0j,dr,a1I];exact eU l O E
   cases h
  cases h
theorem mD{ρ ρ':Operand->Value}{o:Oper}{s d:TypeId}{x:Operand}{r:AN}(h:WRel μ H w)(aA:o.op= .convert s d x)(hρ: ∀x∈o.op.operands,VRel μ (ρ x) (ρ' x))
  (ho:eX P ρ o s d (ρ x) H=some (r,H')):OpOK P μ H w (execOp ρ' o) r H':=by
 have hx:VRel μ (ρ x) (ρ' x):=hρ x (by rw[aA];simp[Op.operands])
 have an:execOp ρ' o=(do Pure.pure (.value (←convert s d (ρ' x)))):=by unfold execOp;simp only[aA]
 unfold eX at ho
 split at ho
 ·rename_i k n hv;rw[hv]at hx;obtain⟨rfl,v,A,rfl⟩:=ck ho;unfold mE at A;split at A
  ·rename_i sd kd U O;injection A with A;subst A;rw[an];refine OpOK.value (v':= .int kd (kd.wrap n)) ?_ (Post.refl h) (.atom _ V);rw[hx.int_inv];simp[convert,ae w U,ae w O,Conv.intToInt]
  cases A
 ·rename_i a n k hv;rw[hv]at hx;obtain⟨rfl,v,A,rfl⟩:=ck ho;rw[an];unfold cz at A;split at A
  ·rename_i e U O;split at A
   ·rename_i a0;split at A
    ·injection A with A;subst A;obtain⟨_,_,E⟩:=hx.sliceNil_inv;refine OpOK.value (v':= .string .empty) ?_ (Post.refl h) (.atom _ V);rw[E];simp[convert,ae w U,ae w O,ae w a0,Conv.bytesToString]
    rename_i a;obtain⟨b,o2,sp⟩:=a;have bb:sp=none:=hx.slice_some.1;subst bb;cases hq:Nat.beq n 0 with
    |true=>
     rw[hq]at A
     simp only[cond_true,a03]at A;subst A
     have hn:n=0:=a07 hq
     subst hn
     obtain⟨_,a',k',E⟩:=hx.slice_some
     refine OpOK.value (v':= .string .empty) ?_ (Post.refl h) (.atom _ V)
     rw[E]
     simp[convert,ae w U,ae w O,ae w a0,Conv.bytesToString,loadCells,loadCellsFrom]
    |false=>
     rw[hq]at A
     simp only[cond_false]at A
     have hn:n≠0:=fun e=>by subst e;cases hq
     split at A
     ·rename_i l hl;split at A
      ·rename_i rb a4;injection A with A;subst A;obtain⟨l0,hμ,hc⟩:=hx.slice_inv;obtain⟨a5,Z,a8,bF⟩:=gX (P:=P) h hμ hl;have bf:a5=l:=a8.eq0 (eU l rb a4);subst bf;have E: ∃k',ρ' x= .slice (some ⟨l0.c,l0.sh+o2,none⟩) n k':=by
        rcases hc with⟨_,he⟩|⟨e',o',k',_,he,b4,_,a7,_⟩|⟨hz,_,_⟩
        rotate_right
        ·exact absurd hz hn
        ·exact⟨k,he⟩
        rw[a7 M]at he;exact⟨k',he⟩
       obtain⟨k',E⟩:=E;refine OpOK.value (v':= .string ⟨⟨rb⟩⟩) ?_ (Post.refl h) (.atom _ V);rw[E];have hb:=fO (P:=P) (w:=w) a5 rb .empty a4;simp only[convert,Sem.run_bind,ae w U,ae w O,ae w a0,Result.andThen_ok,Conv.bytesToString,Z];have he:((ByteArray.empty.data.toList++rb:List UInt8))=rb:=rfl;rw[he]at hb;simp only[←Array.forIn_toList]at *
       exact congrArg (fun r=>Result.andThen r fun a w'=>Sem.run P (Pure.pure (Value.string a)) w') hb
      cases A
     cases A
   cases A
  cases A
 obtain⟨rfl,v,v',rfl,Z,hr⟩:=dB ho (fun _ _=>by rw[aA];simp) hρ
 exact⟨.value v',w,μ,Z w,Post.refl h,hr⟩
theorem eh{d:TypeDesc}{k:Value}(h:bH d k=true):dr k=true:=by unfold bH at h;split at h<;>first|rfl|cases h
theorem iB(a b:ByteArray):(a==b)=dE a b:=by
 have e:(a==b)=(a.data==b.data):=by cases a;cases b;rfl
 rw[e,a18];simp only[beq_iff_eq,dE];constructor
 ·intro h;rw[h]
 intro h;exact a12.1 h
theorem bytesEq_iff{a b:ByteArray}(h:dE a b=true):a=b:=by simp only[dE,beq_iff_eq]at h;exact ByteArray.ext (a12.1 h)
theorem iA(a:ByteArray):(a==a)=true:=by rw[iB];simp[dE]
theorem sameNow_key{d:TypeDesc}{a b:Value}(E:bH d a=true)(A:bH d b=true):Instr.sameNow d a b=some (cU a b):=by
 unfold bH at E A;split at E
 ·split at A
  ·rename_i k k1 n _ _ k2 U O;injection O with e1;subst e1;simp only[beq_iff_eq]at E A;subst E A;simp[Instr.sameNow,cU]
  ·cases ‹TypeDesc.int _=_›
  ·cases ‹TypeDesc.int _=_›
  cases A
 ·split at A
  ·cases ‹TypeDesc.string=_›
  ·simp[Instr.sameNow,cU,iB]
  ·cases ‹TypeDesc.string=_›
  cases A
 ·split at A
  ·cases ‹TypeDesc.bool=_›
  ·cases ‹TypeDesc.bool=_›
  ·simp[Instr.sameNow,cU]
  cases A
 cases E
def EntRel(μ:Emb)(es:List (Value×Value))(A:List MapEntry):Prop:=
 es.length=A.length/\∀(i:Nat) x y,es[i]?=some x->A[i]?=some y->VRel μ x.1 y.key/\VRel μ x.2 y.val
theorem EntRel.cons_left{x:Value×Value}{es:List (Value×Value)}{A:List MapEntry}(h:EntRel μ (x::es) A):
  ∃y t,A=y::t/\VRel μ x.1 y.key/\VRel μ x.2 y.val/\EntRel μ es t:=by
 cases A with
 |nil=>have:=h.1;simp at this
 |cons y t=>
  obtain⟨E,O⟩:=h.2 0 x y V V
  exact⟨y,t,V,E,O,by have:=h.1;simpa using this,fun i a b U Z=>h.2 (i+1) a b (by simpa using U) (by simpa using Z)⟩
theorem EntRel.cons{x:Value×Value}{es:List (Value×Value)}{y:MapEntry}{A:List MapEntry}(U:VRel μ x.1 y.key)(Z:VRel μ x.2 y.val)(h:EntRel μ es A):
  EntRel μ (x::es) (y::A):=by
 refine⟨by simp[h.1],fun i a b E O=>?_⟩
 cases i with
 |zero=>simp at E O;subst E O;exact⟨U,Z⟩
 |succ i=>exact h.2 i a b (by simpa using E) (by simpa using O)
theorem hC{d:TypeDesc}{k:Value}(hk:bH d k=true): ∀(es:List (Value×Value)) (ces:List MapEntry) (i:Nat),EntRel μ es ces->es.all (fun e=>bH d e.1)=true->
  (∃v v' j,dR d k es=some v/\Instr.findNow d k ces i=some (some (i+j,v'))/\VRel μ v v'/\j<ces.length/\
    (∃y,ces[j]?=some y/\cU k y.key=true/\bH d y.key=true)/\(∀u A,VRel μ u A->EntRel μ (cO k u es) (ces.modify j fun e=>{e with key:=k,val:=A})))\/
  (dR d k es=none/\Instr.findNow d k ces i=some none/\∀u A b,VRel μ u A->EntRel μ (cO k u es) (ces++[{key:=k,val:=A,born:=b}]))
 | [],ces,i,h,_=>by have:ces=[]:=a0h h.1.symm;subst this;refine .inr ⟨V,V,fun u A b E=>?_⟩;exact EntRel.cons (x:=(k,u)) (.atom k (eh hk)) E ⟨V,fun i a b ha=>by simp at ha⟩
 |x::es,ces,i,h,hall=>by
  obtain⟨y,t,rfl,U,Z,ht⟩:=h.cons_left;simp only[a0j,a05]at hall;have al:y.key=x.1:=U.eq0 (eh hall.1);have O:Instr.sameNow d k y.key=some (cU k x.1):=by rw[al];exact sameNow_key hk hall.1
  cases hs:cU k x.1 with
  |true=>
   refine .inl ⟨x.2,y.val,0,?_,?_,Z,by simp,⟨y,V,by rw[al];exact hs,by rw[al];exact hall.1⟩,fun u A E=>?_⟩
   ·simp only[dR,hs,cond_true]
   ·simp only[Instr.findNow,O,hs];rfl
   simp only[cO,hs,cond_true,List.modify_zero_cons]
   exact EntRel.cons (x:=(k,u)) (.atom k (eh hk)) E ht
  |false=>
   rcases hC hk es t (i+1) ht hall.2 with⟨v,v',j,h1,h2,h3,h4,h5,h6⟩|⟨h1,h2,h3⟩
   ·refine .inl ⟨v,v',j+1,?_,?_,h3,by simpa using h4,?_,fun u A E=>?_⟩
    ·simp only[dR,hs,cond_false];exact h1
    ·simp only[Instr.findNow,O,hs];rw[h2];congr 3;omega
    ·obtain⟨y2,a1,h7⟩:=h5;exact⟨y2,by simpa using a1,h7⟩
    simp only[cO,hs,cond_false,List.modify_succ_cons];exact EntRel.cons (x:=(x.1,x.2)) U Z (h6 u A E)
   refine .inr ⟨?_,?_,fun u A b E=>?_⟩
   ·simp only[dR,hs,cond_false];exact h1
   ·simp only[Instr.findNow,O,hs];exact h2
   simp only[cO,hs,cond_false,a0x]
   exact EntRel.cons (x:=(x.1,x.2)) U Z (h3 u A b E)
theorem eT{d:TypeDesc}{O:TypeId}{k:Value}(E:P.underlying O=some d)(A:bH d k=true)(b:Bool):(Instr.checkKey b 10000 O k).run P w= .ok () w:=by
 have key: ∀n,(Instr.checkKey b (n+1) O k).run P w= .ok () w:=by
  intro n;unfold bH at A;split at A
  ·simp[Instr.checkKey,ae w E]
  ·simp[Instr.checkKey,ae w E]
  ·simp[Instr.checkKey,ae w E]
  cases A
 exact key 9999
theorem lookup_sound{t:TypeId}{m k m' k' v:Value}{ok:Bool}(h:WRel μ H w)(hm:VRel μ m m')(hk:VRel μ k k')(A:cY P t m k ok H=some v):
  ∃v',(Instr.lookup t m' k' ok).run P w= .ok v' w/\VRel μ v v':=by
 unfold cY at A
 split at A
 ·rename_i kt et hu;split at A
  ·rename_i d i hd hi;split at A
   ·rename_i z hz;cases E:(bH d k&&iP z) with
    |false=>rw[E]at A;cases A
    |true=>
     rw[E]at A
     simp only[cond_true]at A
     simp only[a05]at E
     have a6:k'=k:=hk.eq0 (eh E.1)
     subst a6
     have a0:VRel μ z z:=VRel.refl1 E.2
     have a1:(zeroValue et).run P w= .ok z w:=dz w hi hz
     have ax: ∀(u O:Value) (b:Bool),VRel μ u O->VRel μ (bif ok then .tuple #[u,.bool b] else u) (if ok then .tuple #[O,.bool b] else O):=by
      intro u O b hu;cases ok
      ·exact hu
      have:=LRel.cons hu (LRel.cons (VRel.atom (μ:=μ) (.bool b) V) LRel.nil);exact .tuple _ _ this.1 this.2
     split at A
     ·injection A with A;subst A;obtain rfl:=hm.mapNil_inv;refine⟨_,?_,ax z z false a0⟩;simp only[Instr.lookup,Sem.run_bind,ae w hu,Result.andThen_ok,Sem.run_pure,eT hd E.1,Instr.findKey,ae w hd];simp[Instr.findNow,a1]
     ·rename_i r;split at A
      ·rename_i es hg;cases al:es.all fun e=>bH d e.1 with
       |false=>rw[al]at A;cases A
       |true=>
        rw[al]at A
        simp only[cond_true]at A
        obtain⟨l,hμ,rfl⟩:=hm.map_inv
        obtain⟨U,aA,hh,hl,a4⟩:=h.obj r l _ hμ hg
        have a5:(getObj l.c).run P w= .ok (.map U aA) w:=gy hh (by intros;simp)
        have Z: ∀c_,Instr.findNow d k' U.toList 0=some c_->(Instr.lookup t (.map (some l.c)) k' ok).run P w=
          (match c_ with
           |some (_,v)=>(.ok (if ok then .tuple #[v,.bool true] else v) w:Result Value)
           |none=> .ok (if ok then .tuple #[z,.bool false] else z) w):=by
         intro c_ hX
         simp only[Instr.lookup,Sem.run_bind,ae w hu,Result.andThen_ok,Sem.run_pure,a5,eT hd E.1,Instr.findKey,ae w hd,hX]
         cases c_ with
         |none=>simp[a1]
         |some p=>obtain⟨j,u⟩:=p;simp
        rcases hC E.1 es U.toList 0 ⟨hl,a4⟩ al with⟨u,O,j,h1,h2,h3,_⟩|⟨h1,h2,_⟩
        ·rw[h1]at A;simp only[a03]at A;subst A;exact⟨_,Z _ h2,ax u O true h3⟩
        rw[h1]at A
        simp only[a03]at A;subst A
        exact⟨_,Z _ h2,ax z z false a0⟩
      cases A
     cases A
   cases A
  cases A
 cases A
theorem sameBits_key{d:TypeDesc}{a b:Value}(E:bH d a=true)(A:bH d b=true)(h:cU a b=true):Instr.sameBits 10000 b a=true:=by
 have key: ∀n,Instr.sameBits n b a=true:=by
  intro n;unfold bH at E A;split at E
  ·split at A
   ·rename_i k k1 x _ _ k2 y O;injection O with e1;subst e1;simp only[beq_iff_eq]at E A;subst E A;simp only[cU,beq_iff_eq]at h;subst h;cases n<;>simp[Instr.sameBits]
   ·cases ‹TypeDesc.int _=_›
   ·cases ‹TypeDesc.int _=_›
   cases A
  ·split at A
   ·cases ‹TypeDesc.string=_›
   ·rename_i x _ _ y _;have h:=bytesEq_iff h;subst h;cases n<;>simp[Instr.sameBits,iA]
   ·cases ‹TypeDesc.string=_›
   cases A
  ·split at A
   ·cases ‹TypeDesc.bool=_›
   ·cases ‹TypeDesc.bool=_›
   ·simp only[cU,beq_iff_eq]at h;subst h;cases n<;>simp[Instr.sameBits]
   cases A
  cases E
 exact key 10000
theorem iY{t:TypeId}{m k v m' k' v':Value}(h:WRel μ H w)(hm:VRel μ m m')(hk:VRel μ k k')(hv:VRel μ v v')(E:eo P t m k v H=some H'):
  ∃w',(Instr.mapUpdate t m' k' v').run P w= .ok () w'/\Post μ H w μ H' w':=by
 unfold eo at E
 split at E
 ·rename_i kt et hu;split at E
  ·rename_i d r hd;split at E
   ·rename_i es hg;cases O:(bH d k&&es.all fun e=>bH d e.1) with
    |false=>rw[O]at E;cases E
    |true=>
     rw[O]at E
     simp only[cond_true,a03]at E;subst E
     simp only[a05]at O
     have a5:k'=k:=hk.eq0 (eh O.1)
     subst a5
     obtain⟨l,hμ,rfl⟩:=hm.map_inv
     obtain⟨U,A,hh,hl,a1⟩:=h.obj r l _ hμ hg
     have Z:(getObj l.c).run P w= .ok (.map U A) w:=gy hh (by intros;simp)
     have an: ∀o',(setObj l.c o').run P w= .ok () (aS w l.c o'):=fun o'=>lb hh (by intros;simp)
     rcases hC O.1 es U.toList 0 ⟨hl,a1⟩ O.2 with⟨u,u',j,h1,h2,h3,h4,⟨y,hy,a9,a8⟩,h6⟩|⟨h1,h2,h3⟩
     ·refine⟨aS w l.c (.map (U.modify j fun e=>{e with key:=k',val:=v'}) A),?_,?_⟩
      ·have aA:U[j]?=some y:=by simpa using hy
       simp only[Instr.mapUpdate,Sem.run_bind,ae w hu,Result.andThen_ok,Z,eT hd O.1,Instr.findKey,ae w hd,h2,Sem.run_pure,a0G,aA,a1A,a1p,
        Instr.keyThatStays,sameBits_key O.1 a8 a9,if_true,an]
      have hr:=h6 v v' hv;refine Post.put h hμ hg V _ V _ ⟨_,A,br w _ (bP hh),?_,?_⟩
      ·rw[Array.toList_modify];exact hr.1
      rw[Array.toList_modify];exact hr.2
     refine⟨aS w l.c (.map (U.push {key:=k',val:=v',born:=A}) (A+1)),?_,?_⟩
     ·simp only[Instr.mapUpdate,Sem.run_bind,ae w hu,Result.andThen_ok,Z,eT hd O.1,Instr.findKey,ae w hd,h2,Sem.run_pure,an]
     have hr:=h3 v v' A hv
     refine Post.put h hμ hg V _ V _ ⟨_,A+1,br w _ (bP hh),?_,?_⟩
     ·rw[Array.toList_push];exact hr.1
     rw[Array.toList_push];exact hr.2
   cases E
  cases E
 cases E
theorem callee_sound{f f':Value}{args:List Value}{E:Array Value}{r:AN}(hf:VRel μ f f')(ha:LRel μ args E.toList)(A:fJ P f args=some r):
  ∃i Z,r= .enter i Z/\∃U,(∀w,(do let d ←Deferred.ofValue f' E;invoke d.target d.args:Sem Next).run P w= .ok (.enter i U) w)/\LRel μ Z U.toList:=by
 unfold fJ at A
 split at A
 ·rename_i i first ar;obtain⟨an,O,rfl,h1,h2⟩:=hf.func_inv;split at A
  ·rename_i fn a0;cases hq:(fn.body.isSome&& !(fn.name== "runtime.NumGoroutine")) with
   |false=>rw[hq]at A;cases A
   |true=>
    rw[hq]at A
    simp only[cond_true,a03]at A;subst A
    simp only[a05,a0X]at hq
    refine⟨i,_,V,(an++E)++O,fun w=>?_,?_⟩
    ·have hb: ¬fn.body=none:=by intro aA;rw[aA]at hq;cases hq.1
     have a1: ¬fn.name= "runtime.NumGoroutine" :=by have:=hq.2;simpa using this
     simp[Deferred.ofValue,invoke,callFunc,a0,a1,hb]
    rw[dX,dX]
    have:=(h1.append (ha.append h2))
    simpa using this
  cases A
 cases A
end
end Go.R
