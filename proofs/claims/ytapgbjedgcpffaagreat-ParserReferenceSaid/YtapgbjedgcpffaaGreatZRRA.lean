/-
The evaluator is sound: values, operations, memory.
-/
import Derived.Test.YtapgbjedgcpffaaGreatZRR0
import Derived.IntWalk
set_option linter.unusedVariables false
set_option linter.unusedSimpArgs false
namespace Go.R
structure Loc where
 c:Nat
 sh:Nat
 opn:Option Nat
 csz:Nat
abbrev Emb:=Nat->Option Loc
inductive VRel(μ:Emb):Value->Value->Prop
 |atom (v:Value):dx v=true->VRel μ v v
 |ptr (b o:Nat) (l:Loc):μ b=some l->VRel μ (.pointer (some ⟨b,o,none⟩)) (.pointer (some ⟨l.c,l.sh+o,none⟩))
 |sliceC (b o n k:Nat) (l:Loc):μ b=some l->l.opn=none->VRel μ (.slice (some ⟨b,o,none⟩) n k) (.slice (some ⟨l.c,l.sh+o,none⟩) n k)
 |sliceO (b o o' n k k' e:Nat) (l:Loc):μ b=some l->l.opn=some e->n<=k->k<=k'->(0<k->o'=l.sh+o)->o'+k' *e<=l.csz->
   VRel μ (.slice (some ⟨b,o,none⟩) n k) (.slice (some ⟨l.c,o',none⟩) n k')
 |sliceZ (b o:Nat) (a:Addr) (l:Loc):μ b=some l->VRel μ (.slice (some ⟨b,o,none⟩) 0 0) (.slice (some a) 0 0)
 |map (b:Nat) (l:Loc):μ b=some l->VRel μ (.map (some b)) (.map (some l.c))
 |func (fn:Fn) (xs ys xs' ys':Array Value):xs.toList.length=xs'.toList.length->ys.toList.length=ys'.toList.length->
   (∀(i:Nat) v v',xs.toList[i]?=some v->xs'.toList[i]?=some v'->VRel μ v v')->
   (∀(i:Nat) v v',ys.toList[i]?=some v->ys'.toList[i]?=some v'->VRel μ v v')->VRel μ (.func fn xs ys) (.func fn xs' ys')
 |agg (xs xs':Array Value):xs.toList.length=xs'.toList.length->
   (∀(i:Nat) v v',xs.toList[i]?=some v->xs'.toList[i]?=some v'->VRel μ v v')->VRel μ (.agg xs) (.agg xs')
 |tuple (xs xs':Array Value):xs.toList.length=xs'.toList.length->
   (∀(i:Nat) v v',xs.toList[i]?=some v->xs'.toList[i]?=some v'->VRel μ v v')->VRel μ (.tuple xs) (.tuple xs')
def LRel(μ:Emb)(l l':List Value):Prop:=l.length=l'.length/\∀(i:Nat) v v',l[i]?=some v->l'[i]?=some v'->VRel μ v v'
section
variable {μ μ':Emb}
theorem VRel.mono(h: ∀b l,μ b=some l->μ' b=some l){v v':Value}(E:VRel μ v v'):VRel μ' v v':=by
 induction E with
 |atom v h0=>exact .atom v h0
 |ptr b o l hb=>exact .ptr b o l (h _ _ hb)
 |sliceC b o n k l hb ho=>exact .sliceC b o n k l (h _ _ hb) ho
 |sliceO b o o' n k k' e l hb ho h1 h2 h3 h4=>exact .sliceO b o o' n k k' e l (h _ _ hb) ho h1 h2 h3 h4
 |sliceZ b o a l hb=>exact .sliceZ b o a l (h _ _ hb)
 |map b l hb=>exact .map b l (h _ _ hb)
 |func fn xs ys xs' ys' h1 h2 _ _ i1 i2=>exact .func fn xs ys xs' ys' h1 h2 i1 i2
 |agg xs xs' h1 _ i1=>exact .agg xs xs' h1 i1
 |tuple xs xs' h1 _ i1=>exact .tuple xs xs' h1 i1
theorem LRel.nil:LRel μ [] []:=⟨V,fun i v v' h=>by simp at h⟩
theorem LRel.cons{v v':Value}{l l':List Value}(h:VRel μ v v')(T:LRel μ l l'):LRel μ (v::l) (v'::l'):=by
 refine⟨by simp[T.1],fun i x U E O=>?_⟩;cases i with
 |zero=>simp at E O;subst E O;exact h
 |succ i=>exact T.2 i x U (by simpa using E) (by simpa using O)
theorem LRel.head{v v':Value}{l l':List Value}(h:LRel μ (v::l) (v'::l')):VRel μ v v':=h.2 0 v v' V V
theorem LRel.tail{v v':Value}{l l':List Value}(h:LRel μ (v::l) (v'::l')):LRel μ l l':=
 ⟨by simpa using h.1,fun i x T E O=>h.2 (i+1) x T (by simpa using E) (by simpa using O)⟩
theorem LRel.get{l l':List Value}(h:LRel μ l l'){i:Nat}{v:Value}(E:l[i]?=some v): ∃v',l'[i]?=some v'/\VRel μ v v':=by
 have hi:i<l'.length:=by rw[←h.1];exact(a0r.1 E).1
 exact⟨l'[i],a09 hi,h.2 i v _ E (a09 hi)⟩
theorem LRel.append{a b T U:List Value}(h:LRel μ a T)(k:LRel μ b U):LRel μ (a++b) (T++U):=by
 refine⟨by simp[h.1,k.1],fun i v v' E O=>?_⟩;by_cases hi:i<a.length
 ·rw[a11 hi]at E;rw[a11 (h.1▸hi)]at O;exact h.2 i v v' E O
 rw[a1b M]at E;rw[a1b (by have:=h.1;omega),←h.1]at O;exact k.2 _ v v' E O
theorem LRel.take{a T:List Value}(h:LRel μ a T)(n:Nat):LRel μ (a.take n) (T.take n):=by
 refine⟨by simp[h.1],fun i v v' E O=>?_⟩;rw[a0x]at E O;split at E
 ·rename_i hi;rw[if_pos hi]at O;exact h.2 i v v' E O
 cases E
theorem LRel.drop{a E:List Value}(h:LRel μ a E)(n:Nat):LRel μ (a.drop n) (E.drop n):=by refine⟨by simp[h.1],fun i v v' O T=>?_⟩;rw[a0F]at O T;exact h.2 _ v v' O T
theorem LRel.nil_left{l':List Value}(h:LRel μ [] l'):l'=[]:=a0i h.1.symm
theorem LRel.cons_left{v:Value}{l l':List Value}(h:LRel μ (v::l) l'): ∃v' E,l'=v'::E/\VRel μ v v'/\LRel μ l E:=by
 cases l' with
 |nil=>have:=h.1;simp at this
 |cons v' E=>exact⟨v',E,V,h.head,h.tail⟩
theorem VRel.oneCell{v v':Value}(h:VRel μ v v'):v'.oneCell'=v.oneCell':=by cases h<;>rfl
theorem VRel.eq0{v v':Value}(h:VRel μ v v')(E:dx v=true):v'=v:=by
 cases h with
 |atom=>rfl
 |func fn xs ys xs' ys' h1 h2 _ _=>
  simp only[dx,a03]at E
  have O:xs.size=0:=a06 E.1
  have T:ys.size=0:=a06 E.2
  have U:xs= #[]:=a10.1 O
  have Y:ys= #[]:=a10.1 T
  subst U Y
  have Z:xs'= #[]:=a10.1 (by simpa using h1.symm)
  have g2:ys'= #[]:=a10.1 (by simpa using h2.symm)
  subst Z g2
  rfl
 |_=>simp[dx]at E
theorem LRel.eq0{l l':List Value}(h:LRel μ l l')(E:l.all dx=true):l'=l:=by
 induction l generalizing l' with
 |nil=>exact h.nil_left
 |cons v l ih=>
  obtain⟨v',U,rfl,T,O⟩:=h.cons_left
  simp only[a0o,a03]at E
  rw[T.eq0 E.1,ih O E.2]
theorem VRel.eq1{v v':Value}(h:VRel μ v v')(E:jM v=true):v'=v:=by
 cases h with
 |agg xs xs' hl hi=>
  have:=LRel.eq0 (μ:=μ) (l:=xs.toList) (l':=xs'.toList) ⟨hl,hi⟩ E
  rw[a0P.1 this]
 |atom v h0=>rfl
 |_=>exact VRel.eq0 (μ:=μ) (by constructor<;>assumption) E
theorem LRel.eq1{l l':List Value}(h:LRel μ l l')(E:l.all jM=true):l'=l:=by
 induction l generalizing l' with
 |nil=>exact h.nil_left
 |cons v l ih=>
  obtain⟨v',U,rfl,T,O⟩:=h.cons_left
  simp only[a0o,a03]at E
  rw[T.eq1 E.1,ih O E.2]
theorem LRel.refl0{l:List Value}(h:l.all dx=true):LRel μ l l:=by refine⟨V,fun i v v' O E=>?_⟩;rw[O]at E;injection E with E;subst E;exact .atom v (a0s.1 h v (a0n O))
theorem VRel.refl1{v:Value}(h:jM v=true):VRel μ v v:=by
 cases v with
 |agg cs=>have:=LRel.refl0 (μ:=μ) (l:=cs.toList) h;exact .agg cs cs this.1 this.2
 |_=>exact .atom _ h
theorem LRel.refl1{l:List Value}(h:l.all jM=true):LRel μ l l:=by refine⟨V,fun i v v' O E=>?_⟩;rw[O]at E;injection E with E;subst E;exact VRel.refl1 (a0s.1 h v (a0n O))
theorem VRel.refl2{v:Value}(h:noA2 v=true):VRel μ v v:=by
 cases v with
 |tuple vs=>have:=LRel.refl1 (μ:=μ) (l:=vs.toList) h;exact .tuple vs vs this.1 this.2
 |_=>exact VRel.refl1 h
theorem VRel.undef:VRel μ undef undef:=VRel.refl2 V
theorem VRel.eq2{v v':Value}(h:VRel μ v v')(E:noA2 v=true):v'=v:=by
 cases h with
 |tuple xs xs' hl hi=>
  have:=LRel.eq1 (μ:=μ) (l:=xs.toList) (l':=xs'.toList) ⟨hl,hi⟩ E
  rw[a0P.1 this]
 |atom v h0=>rfl
 |_=>exact VRel.eq1 (μ:=μ) (by constructor<;>assumption) E
theorem VRel.cells{v v':Value}(h:VRel μ v v'):LRel μ v.cells.toList v'.cells.toList:=by
 have one: ∀{u E:Value},VRel μ u E->LRel μ [u] [E]:=fun O=> .cons O .nil
 cases h with
 |agg xs xs' hl hi=>exact⟨hl,hi⟩
 |atom v h0=>cases v<;>first|(simp[dx]at h0;done)|exact one (.atom _ h0)
 |ptr b o l hb=>exact one (.ptr b o l hb)
 |sliceC b o n k l hb ho=>exact one (.sliceC b o n k l hb ho)
 |sliceO b o o' n k k' e l hb ho h1 h2 h3 h4=>exact one (.sliceO b o o' n k k' e l hb ho h1 h2 h3 h4)
 |sliceZ b o a l hb=>exact one (.sliceZ b o a l hb)
 |map b l hb=>exact one (.map b l hb)
 |func fn xs ys xs' ys' h1 h2 i1 i2=>exact one (.func fn xs ys xs' ys' h1 h2 i1 i2)
 |tuple xs xs' h1 i1=>exact one (.tuple xs xs' h1 i1)
theorem VRel.int_inv{k:IntKind}{n:Int}{v':Value}(h:VRel μ (.int k n) v'):v'= .int k n:=h.eq0 V
theorem VRel.bool_inv{b:Bool}{v':Value}(h:VRel μ (.bool b) v'):v'= .bool b:=h.eq0 V
theorem VRel.string_inv{s:ByteArray}{v':Value}(h:VRel μ (.string s) v'):v'= .string s:=h.eq0 V
theorem VRel.ptr_inv{b o:Nat}{v':Value}(h:VRel μ (.pointer (some ⟨b,o,none⟩)) v'): ∃l,μ b=some l/\v'= .pointer (some ⟨l.c,l.sh+o,none⟩):=by
 cases h with
 |atom _ h0=>simp[dx]at h0
 |ptr _ _ l hb=>exact⟨l,hb,V⟩
theorem VRel.ptr_some{a:Addr}{v':Value}(h:VRel μ (.pointer (some a)) v'):a.spot=none/\∃E,v'= .pointer (some E):=by
 cases h with
 |atom _ h0=>simp[dx]at h0
 |ptr _ _ l hb=>exact⟨V,_,V⟩
theorem VRel.agg_inv{xs:Array Value}{v':Value}(h:VRel μ (.agg xs) v'): ∃E,v'= .agg E/\LRel μ xs.toList E.toList:=by
 cases h with
 |atom _ h0=>simp[dx]at h0
 |agg _ E hl hi=>exact⟨E,V,hl,hi⟩
theorem VRel.tuple_inv{xs:Array Value}{v':Value}(h:VRel μ (.tuple xs) v'): ∃E,v'= .tuple E/\LRel μ xs.toList E.toList:=by
 cases h with
 |atom _ h0=>simp[dx]at h0
 |tuple _ E hl hi=>exact⟨E,V,hl,hi⟩
theorem VRel.func_inv{fn:Fn}{xs ys:Array Value}{v':Value}(h:VRel μ (.func fn xs ys) v'):
  ∃E O,v'= .func fn E O/\LRel μ xs.toList E.toList/\LRel μ ys.toList O.toList:=by
 cases h with
 |atom _ h0=>
  simp only[dx,a03]at h0
  have T:xs= #[]:=a10.1 (a06 h0.1)
  have U:ys= #[]:=a10.1 (a06 h0.2)
  subst T U
  exact⟨#[], #[],V,.nil,.nil⟩
 |func _ _ _ E O h1 h2 i1 i2=>exact⟨E,O,V,⟨h1,i1⟩,⟨h2,i2⟩⟩
theorem VRel.map_inv{b:Nat}{v':Value}(h:VRel μ (.map (some b)) v'): ∃l,μ b=some l/\v'= .map (some l.c):=by
 cases h with
 |atom _ h0=>simp[dx]at h0
 |map _ l hb=>exact⟨l,hb,V⟩
theorem VRel.mapNil_inv{v':Value}(h:VRel μ (.map none) v'):v'= .map none:=h.eq0 V
theorem VRel.slice_inv{b o n k:Nat}{v':Value}(h:VRel μ (.slice (some ⟨b,o,none⟩) n k) v'):
  ∃l,μ b=some l/\((l.opn=none/\v'= .slice (some ⟨l.c,l.sh+o,none⟩) n k)\/
   (∃e O E,l.opn=some e/\v'= .slice (some ⟨l.c,O,none⟩) n E/\n<=k/\k<=E/\(0<k->O=l.sh+o)/\O+E *e<=l.csz)\/(n=0/\k=0/\∃T,v'= .slice (some T) 0 0)):=by
 cases h with
 |atom _ h0=>simp[dx]at h0
 |sliceC _ _ _ _ l hb ho=>exact⟨l,hb,.inl ⟨ho,V⟩⟩
 |sliceO _ _ O _ _ E e l hb ho h1 h2 h3 h4=>exact⟨l,hb,.inr (.inl ⟨e,O,E,ho,V,h1,h2,h3,h4⟩)⟩
 |sliceZ _ _ a l hb=>exact⟨l,hb,.inr (.inr ⟨V,V,a,V⟩)⟩
theorem VRel.sliceNil_inv{n k:Nat}{v':Value}(h:VRel μ (.slice none n k) v'):n=0/\k=0/\v'= .slice none n k:=by
 cases h with
 |atom _ h0=>
  simp only[dx,a03]at h0
  exact⟨a06 h0.1,a06 h0.2,V⟩
theorem VRel.slice_some{a:Addr}{n k:Nat}{v':Value}(h:VRel μ (.slice (some a) n k) v'):a.spot=none/\∃O E,v'= .slice (some O) n E:=by
 cases h with
 |atom _ h0=>simp[dx]at h0
 |sliceC _ _ _ _ l hb ho=>exact⟨V,_,_,V⟩
 |sliceO _ _ o' _ _ E e l hb ho h1 h2 h3 h4=>exact⟨V,_,_,V⟩
 |sliceZ _ _ a l hb=>exact⟨V,_,_,V⟩
end
def ObjRel(μ:Emb)(w:World)(l:Loc):AObj->Prop
 | .cells cs opn true=>l.opn=opn/\opn=none/\l.c<w.heap.size/\∀(i:Nat) v,cs[i]?=some v->∃v',w.cell? ⟨l.c,l.sh+i,none⟩=some v'/\VRel μ v v'
 | .cells cs opn false=>l.opn=opn/\∃(E:Array Value) (e:TypeId),w.heap[l.c]?=some (.cells E e (0,0))/\E.size=l.csz/\l.sh+cs.length<=l.csz/\
   ∀(i:Nat) v,cs[i]?=some v->∃v',E[l.sh+i]?=some v'/\VRel μ v v'
 | .iter s pos=>l.sh=0/\w.heap[l.c]?=some (.stringIter s pos)
 | .tab es=> ∃(O:Array MapEntry) (T:Nat),w.heap[l.c]?=some (.map O T)/\es.length=O.toList.length/\
   ∀(i:Nat) x y,es[i]?=some x->O.toList[i]?=some y->VRel μ x.1 y.key/\VRel μ x.2 y.val
 | .dead=>True
structure WRel(μ:Emb)(H:Heap)(w:World):Prop where
 obj: ∀b l o,μ b=some l->H.get b=some o->ObjRel μ w l o
 inj: ∀b1 b2 l1 l2 o1 o2,b1≠b2->μ b1=some l1->μ b2=some l2->H.get b1=some o1->H.get b2=some o2->o1.rw=true->o2.live=true->l1.c≠l2.c
theorem cr{w:World}{c:Nat}{o:Obj}(h:w.heap[c]?=some o):c<w.heap.size:=(a0I.1 h).1
theorem ObjRel.lt{μ:Emb}{w:World}{l:Loc}{o:AObj}(h:ObjRel μ w l o)(T:o.live=true):l.c<w.heap.size:=by
 cases o with
 |cells cs opn ro=>
  cases ro with
  |true=>exact h.2.2.1
  |false=>obtain⟨_,U,e,E,_⟩:=h;exact cr E
 |iter s pos=>exact cr h.2
 |tab es=>obtain⟨Y,O,E,_⟩:=h;exact cr E
 |dead=>simp[AObj.live]at T
theorem ObjRel.keep{μ μ':Emb}{w w':World}{l:Loc}{o:AObj}(Y: ∀b l,μ b=some l->μ' b=some l)(hs:w.heap.size<=w'.heap.size)
  (hc:o.live=true->w'.heap[l.c]?=w.heap[l.c]?) (h:ObjRel μ w l o):ObjRel μ' w' l o:=by
 cases o with
 |cells cs opn ro=>
  have Z:=hc V
  cases ro with
  |true=>
   obtain⟨h1,E,U,h4⟩:=h
   refine⟨h1,E,by omega,fun i v hv=>?_⟩
   obtain⟨v',O,hr⟩:=h4 i v hv
   refine⟨v',?_,hr.mono Y⟩
   rw[←O]
   simp only[World.cell?,Z]
  |false=>
   obtain⟨h1,a1,e,hh,E,U,h4⟩:=h
   refine⟨h1,a1,e,Z.trans hh,E,U,fun i v hv=>?_⟩
   obtain⟨v',O,hr⟩:=h4 i v hv
   exact⟨v',O,hr.mono Y⟩
 |iter s pos=>exact⟨h.1,(hc V).trans h.2⟩
 |tab es=>
  obtain⟨a2,T,hh,E,U⟩:=h
  refine⟨a2,T,(hc V).trans hh,E,fun i x y hx hy=>?_⟩
  obtain⟨r1,r2⟩:=U i x y hx hy
  exact⟨r1.mono Y,r2.mono Y⟩
 |dead=>trivial
theorem iD{o:AObj}(h:o.rw=true):o.live=true:=by cases o<;>simp_all[AObj.rw,AObj.live]
structure Post(μ:Emb)(H:Heap)(w:World)(μ':Emb)(H':Heap)(w':World):Prop where
 ext: ∀b l,μ b=some l->μ' b=some l
 dom: ∀b l,μ' b=some l->μ b=some l\/(H.next<=b/\b<H'.next)
 grow:w.heap.size<=w'.heap.size
 os:w'.os=w.os
 tape:w'.tape=w.tape
 out:w'.output=w.output
 keep: ∀c,c<w.heap.size->(∀b l o,μ b=some l->H.get b=some o->o.rw=true->l.c≠c)->w'.heap[c]?=w.heap[c]?
 img: ∀b l o,μ' b=some l->H'.get b=some o->o.live=true->w.heap.size<=l.c\/∃b0 l0 o0,μ b0=some l0/\H.get b0=some o0/\o0.live=true/\(o.rw=true->o0.rw=true)/\l0.c=l.c
 wrel:WRel μ' H' w'
theorem Post.refl{μ:Emb}{H:Heap}{w:World}(h:WRel μ H w):Post μ H w μ H w:=
 ⟨fun _ _ h=>h,fun _ _ h=> .inl h,a07 _,V,V,V,fun _ _ _=>rfl,fun b l o E O T=> .inr ⟨b,l,o,E,O,T,id,V⟩,h⟩
theorem Post.trans{μ Z μ2:Emb}{H H1 O:Heap}{w w1 Y:World}(h:Post μ H w Z H1 w1)(k:Post Z H1 w1 μ2 O Y)(h1:H.next<=H1.next)(h2:H1.next<=O.next):
  Post μ H w μ2 O Y:=by
 refine⟨fun b l hb=>k.ext b l (h.ext b l hb),fun b l hb=>?_,a0g h.grow k.grow,k.os.trans h.os,k.tape.trans h.tape,k.out.trans h.out,fun c hc U=>?_,fun b l o hb T E=>?_,k.wrel⟩
 ·rcases k.dom b l hb with hb1|⟨hb1,hb2⟩
  ·rcases h.dom b l hb1 with hb0|⟨hb3,hb4⟩
   ·exact .inl hb0
   exact .inr ⟨hb3,by omega⟩
  exact .inr ⟨by omega,hb2⟩
 ·rw[k.keep c (a0S hc h.grow) ?_,h.keep c hc U];intro b l o hb T E he;rcases h.img b l o hb T (iD E) with hh|⟨b0,l0,o0,g1,g2,g3,g5,g4⟩
  ·omega
  exact U b0 l0 o0 g1 g2 (g5 E) (g4.trans he)
 rcases k.img b l o hb T E with hh|⟨b0,l0,o0,g1,g2,g3,g5,g4⟩
 ·exact .inl (a0g h.grow hh)
 rcases h.img b0 l0 o0 g1 g2 g3 with hh|⟨b1,l1,o1,e1,e2,e3,e5,e4⟩
 ·exact .inl (g4▸hh)
 exact .inr ⟨b1,l1,o1,e1,e2,e3,fun hx=>e5 (g5 hx),e4.trans g4⟩
theorem WRel.drew{μ:Emb}{H:Heap}{w:World}(h:WRel μ H w):WRel μ H w.drew:=
 ⟨fun b l o hb E=>(h.obj b l o hb E).keep (fun _ _ h=>h) (a07 _) (fun _=>rfl),h.inj⟩
theorem Post.drew{μ:Emb}{H:Heap}{w:World}(h:WRel μ H w):Post μ H w μ H w.drew:=
 ⟨fun _ _ h=>h,fun _ _ h=> .inl h,a07 _,V,V,V,fun _ _ _=>rfl,fun b l o E O T=> .inr ⟨b,l,o,E,O,T,id,V⟩,h.drew⟩
def Emb.set(μ:Emb)(b:Nat)(l:Loc):Emb:=fun k=>if k=b then some l else μ k
theorem Emb.set_same(μ:Emb)(b:Nat)(l:Loc):μ.set b l b=some l:=by simp[Emb.set]
theorem Emb.set_ext{μ:Emb}{b:Nat}(l:Loc)(h:μ b=none): ∀k x,μ k=some x->μ.set b l k=some x:=by
 intro k x E;have:k≠b:=fun e=>by subst e;rw[h]at E;cases E
 simp[Emb.set,this,E]
theorem Emb.set_inv{μ:Emb}{b:Nat}{l:Loc}{k:Nat}{x:Loc}(h:μ.set b l k=some x):(k=b/\x=l)\/(k≠b/\μ k=some x):=by
 unfold Emb.set at h;split at h
 ·rename_i e;injection h with h;exact .inl ⟨e,h.symm⟩
 rename_i e;exact .inr ⟨e,h⟩
theorem ke(w:World)(o:Obj){c:Nat}(h:c<w.heap.size):(w.alloc o).heap[c]?=w.heap[c]?:=by simp only[World.alloc,Array.getElem?_push];rw[if_neg M]
theorem gu(w:World)(o:Obj):(w.alloc o).heap[w.heap.size]?=some o:=by show(w.heap.push o)[w.heap.size]?=some o;simp
theorem Post.push{μ:Emb}{H:Heap}{w:World}(h:WRel μ H w)(hf:μ H.next=none)(l:Loc)(hl:l.c=w.heap.size)(o:AObj)(co:Obj)
  (ho:ObjRel (μ.set H.next l) (w.alloc co) l o):Post μ H w (μ.set H.next l) (H.push o) (w.alloc co):=by
 have hm:=Emb.set_ext l hf
 refine⟨hm,fun b x hb=>?_,by simp,V,V,V,fun c hc _=>ke w co hc,fun b x o' hb E hr=>?_,⟨fun b x o' hb E=>?_,fun b1 b2 l1 l2 o1 o2 O a5 a6 T U a9 a0=>?_⟩⟩
 ·rcases Emb.set_inv hb with⟨rfl,rfl⟩|⟨_,hb⟩
  ·exact .inr ⟨a07 _,by simp⟩
  exact .inl hb
 ·rcases Emb.set_inv hb with⟨rfl,rfl⟩|⟨O,hb⟩
  ·exact .inl M
  rw[Heap.get_push_ne H o (Ne.symm O)]at E;exact .inr ⟨b,x,o',hb,E,hr,id,V⟩
 ·rcases Emb.set_inv hb with⟨rfl,rfl⟩|⟨O,hb⟩
  ·rw[Heap.get_push_same]at E;injection E with E;subst E;exact ho
  rw[Heap.get_push_ne H o (Ne.symm O)]at E;have hr:=h.obj b x o' hb E;exact hr.keep hm (by simp) (fun a7=>ke w co (hr.lt a7))
 rcases Emb.set_inv a5 with⟨e1,f1⟩|⟨al,Y⟩<;>rcases Emb.set_inv a6 with⟨e2,f2⟩|⟨an,Z⟩
 ·exact absurd (e1.trans e2.symm) O
 ·rw[Heap.get_push_ne H o (Ne.symm an)]at U;have:=(h.obj b2 l2 o2 Z U).lt a0;subst f1;omega
 ·rw[Heap.get_push_ne H o (Ne.symm al)]at T;have:=(h.obj b1 l1 o1 Y T).lt (by cases o1<;>simp_all[AObj.rw,AObj.live]);subst f2;omega
 rw[Heap.get_push_ne H o (Ne.symm al)]at T
 rw[Heap.get_push_ne H o (Ne.symm an)]at U
 exact h.inj b1 b2 l1 l2 o1 o2 O Y Z T U a9 a0
def be(w:World)(c:Nat)(o:Obj):World:={w with heap:=w.heap.setIfInBounds c o}
theorem dW(w:World){c k:Nat}(o:Obj)(h:c≠k):(be w c o).heap[k]?=w.heap[k]?:=by simp[be,a1j h]
theorem bJ(w:World){c:Nat}(o:Obj)(h:c<w.heap.size):(be w c o).heap[c]?=some o:=by simp[be,h]
@[simp] theorem setObjAt_size(w:World)(c:Nat)(o:Obj):(be w c o).heap.size=w.heap.size:=by simp[be]
theorem Post.put{μ:Emb}{H:Heap}{w:World}(h:WRel μ H w){b:Nat}{l:Loc}{o:AObj}(hb:μ b=some l)(Z:H.get b=some o)(U:o.rw=true)
  (T:AObj) (ci:T.rw=true) (Y:Obj) (hn:ObjRel μ (be w l.c Y) l T):Post μ H w μ (H.put b T) (be w l.c Y):=by
 refine⟨fun _ _ h=>h,fun _ _ h=> .inl h,by simp,V,V,V,fun c hc a0=>dW w Y (a0 b l o hb Z U),fun k x ox O E ba=>?_,⟨fun k x ox O E=>?_,fun b1 b2 l1 l2 o1 o2 a5 an ar a6 a7 a8 a9=>?_⟩⟩
 ·by_cases e:b=k
  ·subst e;rw[hb]at O;injection O with O;subst O;exact .inr ⟨b,l,o,hb,Z,iD U,fun _=>U,V⟩
  rw[Heap.get_put_ne H T e]at E;exact .inr ⟨k,x,ox,O,E,ba,id,V⟩
 ·by_cases e:b=k
  ·subst e;rw[hb]at O;injection O with O;subst O;rw[Heap.get_put_same]at E;injection E with E;subst E;exact hn
  rw[Heap.get_put_ne H T e]at E;have hx:=h.obj k x ox O E;exact hx.keep (fun _ _ h=>h) (by simp) (fun a4=>dW w Y (h.inj b k l x o ox e hb O Z E U a4))
 have old: ∀k ok lk,μ k=some lk->(H.put b T).get k=some ok->∃oo,H.get k=some oo/\(ok.rw=true->oo.rw=true)/\(ok.live=true->oo.live=true):=by
  intro k ok lk O ax;by_cases e:b=k
  ·subst e;exact⟨o,Z,fun _=>U,fun _=>by cases o<;>simp_all[AObj.rw,AObj.live]⟩
  rw[Heap.get_put_ne H T e]at ax;exact⟨ok,ax,id,id⟩
 obtain⟨p1,q1,r1,_⟩:=old b1 o1 l1 an a6
 obtain⟨p2,q2,_,r2⟩:=old b2 o2 l2 ar a7
 exact h.inj b1 b2 l1 l2 p1 p2 a5 an ar q1 q2 (r1 a8) (r2 a9)
theorem Post.take{μ:Emb}{H:Heap}{w:World}(h:WRel μ H w){b:Nat}{l:Loc}{o:AObj}(hb:μ b=some l)(ho:H.get b=some o)(hr:o.rw=true)
  (hf:μ H.next=none) (l':Loc) (hl:l'.c=l.c) (Z:AObj) (co:Obj) (hn:ObjRel (μ.set H.next l') (be w l.c co) l' Z):
  Post μ H w (μ.set H.next l') ((H.put b .dead).push Z) (be w l.c co):=by
 have hm:=Emb.set_ext l' hf
 have c5:b≠H.next:=fun e=>by subst e;rw[hf]at hb;cases hb
 have get: ∀k,k≠H.next->((H.put b .dead).push Z).get k=(H.put b .dead).get k:=fun k O=>Heap.get_push_ne (H.put b .dead) Z (Ne.symm O)
 have b5:((H.put b .dead).push Z).get H.next=some Z:=Heap.get_push_same (H.put b .dead) Z
 refine⟨hm,fun k x O=>?_,by simp,V,V,V,fun c hc b7=>dW w co (b7 b l o hb ho hr),fun k x ox O E b0=>?_,⟨fun k x ox O E=>?_,fun b1 b2 l1 l2 o1 o2 Y b8 b9 bb bl al an=>?_⟩⟩
 ·rcases Emb.set_inv O with⟨rfl,rfl⟩|⟨_,O⟩
  ·exact .inr ⟨a07 _,by simp⟩
  exact .inl O
 ·rcases Emb.set_inv O with⟨rfl,rfl⟩|⟨Y,O⟩
  ·exact .inr ⟨b,l,o,hb,ho,iD hr,fun _=>hr,hl.symm⟩
  rw[get k Y]at E;by_cases e:b=k
  ·subst e;rw[Heap.get_put_same]at E;injection E with E;subst E;simp[AObj.live]at b0
  rw[Heap.get_put_ne H _ e]at E;exact .inr ⟨k,x,ox,O,E,b0,id,V⟩
 ·rcases Emb.set_inv O with⟨rfl,rfl⟩|⟨Y,O⟩
  ·rw[b5]at E;injection E with E;subst E;exact hn
  rw[get k Y]at E;by_cases e:b=k
  ·subst e;rw[Heap.get_put_same]at E;injection E with E;subst E;trivial
  rw[Heap.get_put_ne H _ e]at E;have hx:=h.obj k x ox O E;exact hx.keep hm (by simp) (fun a1=>dW w co (h.inj b k l x o ox e hb O ho E hr a1))
 have old: ∀k ok,k≠H.next->ok.live=true->((H.put b .dead).push Z).get k=some ok->k≠b/\H.get k=some ok:=by
  intro k ok O a1 U;rw[get k O]at U;by_cases e:b=k
  ·subst e;rw[Heap.get_put_same]at U;injection U with U;subst U;simp[AObj.live]at a1
  rw[Heap.get_put_ne H _ e]at U;exact⟨Ne.symm e,U⟩
 have T: ∀{x:AObj},x.rw=true->x.live=true:=by intro x hx;cases x<;>simp_all[AObj.rw,AObj.live]
 rcases Emb.set_inv b8 with⟨e1,f1⟩|⟨a2,ax⟩<;>rcases Emb.set_inv b9 with⟨e2,f2⟩|⟨a3,a0⟩
 ·exact absurd (e1.trans e2.symm) Y
 ·obtain⟨n2,g2⟩:=old b2 o2 a3 an bl;rw[f1,hl];exact h.inj b b2 l l2 o o2 (Ne.symm n2) hb a0 ho g2 hr an
 ·obtain⟨n1,g1⟩:=old b1 o1 a2 (T al) bb;rw[f2,hl];exact fun e=>h.inj b b1 l l1 o o1 (Ne.symm n1) hb ax ho g1 hr (T al) e.symm
 obtain⟨_,g1⟩:=old b1 o1 a2 (T al) bb
 obtain⟨_,g2⟩:=old b2 o2 a3 an bl
 exact h.inj b1 b2 l1 l2 o1 o2 Y ax a0 g1 g2 al an
end Go.R
set_option linter.unusedVariables false
namespace Go.R
section pure_
variable {α β:Type} (P:Program)
theorem dg{s:Sem α}{a:α}(h:aB P s=some a)(w:World):s.run P w= .ok a w:=by
 induction s with
 |pure x=>simp only[aB,a01]at h;subst h;rfl
 |program k ih=>simp only[aB]at h;simp only[Sem.run];exact ih _ h
 |mark m k ih=>simp only[aB]at h;simp only[Sem.run];exact ih h
 |_=>simp[aB]at h
@[simp] theorem aH(x:Sem α)(f:α->Sem β):aB P (x>>=f)=(aB P x).bind fun a=>aB P (f a):=by
 show aB P (x.bind f)=_;induction x with
 |program k ih=>simp only[Sem.bind,aB];exact ih _
 |mark m k ih=>simp only[Sem.bind,aB];exact ih
 |pure a=>rfl
 |_=>rfl
@[simp] theorem bG(a:α):aB P (Pure.pure a:Sem α)=some a:=rfl
@[simp] theorem fe:aB P program=some P:=rfl
@[simp] theorem pureRun_stuck(E:String):aB P (stuck E:Sem α)=none:=rfl
@[simp] theorem pureRun_unsupported(u:Unsupported):aB P (unsupported u:Sem α)=none:=rfl
@[simp] theorem pureRun_goPanic(v:Value):aB P (goPanic v:Sem α)=none:=rfl
@[simp] theorem pureRun_choose(q:Question):aB P (choose q)=none:=rfl
@[simp] theorem pureRun_mark(m:Mark):aB P (mark m)=some ():=rfl
theorem pureRun_ite(c:Prop) [Decidable c](x y:Sem α):aB P (if c then x else y)=if c then aB P x else aB P y:=by split<;>rfl
@[simp] theorem bC(t:TypeId):aB P (underlying t)=P.underlying t:=by unfold underlying;simp only[aH,fe,a0j];cases P.underlying t<;>rfl
@[simp] theorem dw(t:TypeId):aB P (typeInfo t)=P.info? t:=by unfold typeInfo;simp only[aH,fe,a0j];cases P.info? t<;>rfl
@[simp] theorem cY(t:TypeId):aB P (sizeOf t)=dV P t:=by unfold sizeOf dV;simp only[aH,dw];cases P.info? t<;>rfl
@[simp] theorem gk(t:TypeId):aB P (isAgg t)=fN P t:=by
 unfold isAgg fN;simp only[aH,bC];cases P.underlying t with
 |none=>rfl
 |some d=>cases d<;>rfl
theorem iw(e:RuntimeError):aB P (runtimePanic e:Sem α)=none:=by unfold runtimePanic;cases e<;>simp[newVar,newRow,newObj,aB,elemOf]<;>(intros;split<;>simp[aB])
theorem iK(k:IntKind)(x y:Int)(c:BoundsCode):aB P (boundsPanic k x y c:Sem α)=none:=by unfold boundsPanic;simp[iw,pureRun_ite]
end pure_
section runs
variable {P:Program} (w:World)
theorem aZ{t:TypeId}{n:Nat}(h:dV P t=some n):(sizeOf t).run P w= .ok n w:=dg P (by rw[cY];exact h) w
theorem mr{t:TypeId}{b:Bool}(h:fN P t=some b):(isAgg t).run P w= .ok b w:=dg P (by rw[gk];exact h) w
theorem eP{t:TypeId}{i:TypeInfo}(h:P.info? t=some i):(typeInfo t).run P w= .ok i w:=dg P (by rw[dw];exact h) w
theorem ak{t:TypeId}{d:TypeDesc}(h:P.underlying t=some d):(underlying t).run P w= .ok d w:=dg P (by rw[bC];exact h) w
theorem eZ{t:TypeId}{z:List Value}(h:dr P t=some z): ∃i v,P.info? t=some i/\i.zero=some v/\v.cells.toList=z/\z.all dx=true:=by
 unfold dr at h;split at h
 ·rename_i i hi;split at h
  ·rename_i v E;cases hc:v.cells.toList.all dx with
   |false=>rw[hc]at h;cases h
   |true=>rw[hc]at h;simp at h;subst h;exact⟨i,v,hi,E,V,hc⟩
  cases h
 cases h
theorem dY{t:TypeId}{i:TypeInfo}{v:Value}(hi:P.info? t=some i)(E:i.zero=some v):(zeroValue t).run P w= .ok v w:=by unfold zeroValue;simp[eP w hi,E]
end runs
section mem
variable {P:Program} {μ:Emb} {H:Heap} {w:World}
theorem ko(h:WRel μ H w){b o:Nat}{l:Loc}{v:Value}(hb:μ b=some l)(E:H.cellAt ⟨b,o,none⟩=some v):
  ∃v',w.cell? ⟨l.c,l.sh+o,none⟩=some v'/\VRel μ v v':=by
 simp only[Heap.cellAt,gE]at E
 split at E
 ·rename_i cs ax ro Z;have T:=h.obj b l _ hb Z;cases ro with
  |true=>exact T.2.2.2 o v E
  |false=>
   obtain⟨_,ar,e,hh,_,_,Y⟩:=T
   obtain⟨v',U,O⟩:=Y o v E
   exact⟨v',by simp only[World.cell?,hh];simpa using U,O⟩
 cases E
theorem dz(c o j:Nat):Addr.add ⟨c,o,none⟩ j=⟨c,o+j,none⟩:=by
 unfold Addr.add;split
 ·subst_vars;rfl
 rfl
theorem iP(h:WRel μ H w){b o n:Nat}{l:Loc}{vs:List Value}(hb:μ b=some l)(E:H.loadN ⟨b,o,none⟩ n=some vs):
  ∃ar,(loadCells ⟨l.c,l.sh+o,none⟩ n).run P w= .ok ⟨ar⟩ w/\LRel μ vs ar/\vs.length=n:=by
 simp only[Heap.loadN,bR,bW,bz]at E
 split at E
 ·rename_i cs a4 ro hg;cases hq:Nat.beq ((cs.drop o).take n).length n with
  |false=>rw[hq]at E;cases E
  |true=>
   rw[hq]at E;simp only[cond_true,a01]at E
   have T:((cs.drop o).take n).length=n:=a06 hq
   have key: ∀j,j<n->∃v v',cs[o+j]?=some v/\w.cell? ⟨l.c,l.sh+o+j,none⟩=some v'/\VRel μ v v':=by
    intro j Z;have an:o+j<cs.length:=by rw[a0d,a0a]at T;omega
    have ax:H.cellAt ⟨b,o+j,none⟩=some cs[o+j]:=by simp only[Heap.cellAt,hg,gE];exact a09 an
    obtain⟨v',hc,hr⟩:=ko h hb ax;exact⟨_,v',a09 an,by rw[←hc,a12],hr⟩
   have Y: ∃f:Nat->Value,∀j,j<n->w.cell? (Addr.add ⟨l.c,l.sh+o,none⟩ j)=some (f j)/\∀v,cs[o+j]?=some v->VRel μ v (f j):=by refine⟨fun j=>(w.cell? ⟨l.c,l.sh+o+j,none⟩).getD undef,fun j Z=>?_⟩;obtain⟨v,v',O,U,h3⟩:=key j Z;simp only[dz,U,a1c];refine⟨trivial,fun u hu=>?_⟩;rw[O]at hu;injection hu with hu;subst hu;exact h3
   obtain⟨f,Y⟩:=Y
   refine⟨(List.range n).map f,run_loadCells w _ n f (fun j Z=>(Y j Z).1),?_,by rw[←E];exact T⟩
   subst E
   refine⟨by rw[T];simp,fun i v v' O U=>?_⟩
   rw[a0x]at O
   split at O
   ·rename_i hi;rw[a0F]at O;simp[hi]at U;subst U;exact(Y i hi).2 v O
   cases O
 cases E
theorem iO(h:WRel μ H w){b o:Nat}{l:Loc}{t:TypeId}{v:Value}(hb:μ b=some l)(E:H.loadV P t ⟨b,o,none⟩=some v):
  ∃v',(loadVar t ⟨l.c,l.sh+o,none⟩).run P w= .ok v' w/\VRel μ v v':=by
 unfold Heap.loadV at E
 split at E
 ·rename_i T;split at E
  ·rename_i n hn;split at E
   ·rename_i vs Z;injection E with E;subst E;obtain⟨Y,U,O,_⟩:=iP (P:=P) h hb Z;refine⟨.agg ⟨Y⟩,?_,.agg _ _ O.1 O.2⟩;simp[loadVar,mr w T,aZ w hn,U]
   cases E
  cases E
 ·rename_i T;obtain⟨v',hc,hr⟩:=ko h hb E;refine⟨v',?_,hr⟩;simp[loadVar,mr w T,hc]
 cases E
theorem lK{α:Type}(l:List α)(k:Nat):(Array.mk l)[k]?=l[k]?:=by simp
theorem lF: ∀(cs vs:List Value),vs.length<=cs.length->(over cs vs).length=cs.length
 | [],[],_=>rfl
 | [],_::_,h=>by simp at h
 |_::_,[],_=>rfl
 |c::cs,v::vs,h=>by simp only[over,a02];rw[lF cs vs (by simpa using h)]
theorem over_get: ∀(cs vs:List Value) (i:Nat),vs.length<=cs.length->(over cs vs)[i]?=if i<vs.length then vs[i]? else cs[i]?
 | [],[],i,_=>by simp[over]
 | [],_::_,_,h=>by simp at h
 |_::_,[],i,_=>by simp[over]
 |c::cs,v::vs,0,_=>by simp[over]
 |c::cs,v::vs,i+1,h=>by simp[over,over_get cs vs i (by simpa using h)]
theorem cO: ∀(cs:List Value) (o:Nat) (vs:List Value),o+vs.length<=cs.length->(bx cs o vs).length=cs.length
 |cs,0,vs,h=>by cases cs<;>exact lF _ _ M
 | [],o+1,vs,h=>by simp[bx]
 |c::cs,o+1,vs,h=>by simp only[bx,a02];rw[cO cs o vs (by simp at h;omega)]
theorem bF: ∀(cs:List Value) (o:Nat) (vs:List Value) (i:Nat),o+vs.length<=cs.length->
  (bx cs o vs)[i]?=if o<=i/\i<o+vs.length then vs[i-o]? else cs[i]?
 |cs,0,vs,i,h=>by
  have:bx cs 0 vs=over cs vs:=by cases cs<;>rfl
  rw[this,over_get cs vs i M];simp
 | [],o+1,vs,i,h=>by simp at h
 |c::cs,o+1,vs,0,h=>by simp[bx]
 |c::cs,o+1,vs,i+1,h=>by
  simp only[bx,a1n];rw[bF cs o vs i (by simp at h;omega)];by_cases hc:o<=i/\i<o+vs.length
  ·rw[if_pos hc,if_pos M];congr 1;omega
  rw[if_neg hc,if_neg M]
theorem dZ(c:Nat)(e:TypeId): ∀(vs:List Value) (w:World) (E:Array Value) (o i:Nat),w.heap[c]?=some (.cells E e (0,0))->
  o+i+vs.length<=E.size->vs.all Value.oneCell'=true->vs≠ []->
  (storeCells ⟨c,o,none⟩ vs i).run P w= .ok () (be w c (.cells ⟨bx E.toList (o+i) vs⟩ e (0,0)))
 | [],_,_,_,_,_,_,_,hne=>absurd V hne
 |v::vs,w,E,o,i,hh,hl,hall,_=>by
  simp only[a0o,a03]at hall;simp only[a02]at hl;have T:w.cell? ⟨c,o+i,none⟩=some (E[o+i]'M):=by simp[World.cell?,hh,show o+i<E.size by omega]
  have Z:w.frozen? ⟨c,o+i,none⟩=false:=by simp[World.frozen?,hh]
  have Y:w.setCell ⟨c,o+i,none⟩ v=be w c (.cells (E.setIfInBounds (o+i) v) e (0,0)):=by
   unfold World.setCell be;congr 1;apply a1s;intro k;by_cases O:c=k
   ·subst O;rw[Array.getElem?_modify,if_pos V,hh,a0X,if_pos V,if_pos (cr hh)];simp
   simp[Array.getElem?_modify,O,a1j O]
  have h1:(storeCells ⟨c,o,none⟩ (v::vs) i).run P w=(storeCells ⟨c,o,none⟩ vs (i+1)).run P (be w c (.cells (E.setIfInBounds (o+i) v) e (0,0))):=by simp only[storeCells,Sem.run_bind,dz];rw[run_store P w _ v _ hall.1,T];simp[Z,Y]
  rw[h1];by_cases hv:vs=[]
  ·subst hv;simp only[storeCells,Sem.run_pure];congr 3;apply a1s;intro k;simp only[List.length_nil]at hl;rw[a0X];refine Eq.trans ?_ (lK _ _).symm;rw[bF _ _ _ _ (by simp;omega)];by_cases O:o+i=k
   ·subst O;rw[if_pos V,if_pos M,if_pos (by simp)];simp
   rw[if_neg O,if_neg (by simp;omega)];simp
  have al:(be w c (.cells (E.setIfInBounds (o+i) v) e (0,0))).heap[c]?=some (.cells (E.setIfInBounds (o+i) v) e (0,0)):=bJ w _ (cr hh);rw[dZ c e vs _ _ o (i+1) al (by simp;omega) hall.2 hv];congr 1;have: ∀(x y:Obj),be (be w c x) c y=be w c y:=by intro x y;simp[be]
  rw[this];congr 2;apply a1s;intro k;refine(lK _ _).trans (Eq.trans ?_ (lK _ _).symm);rw[bF _ _ _ _ (by simp;omega),bF _ _ _ _ (by simp;omega)];by_cases O:o+i=k
  ·subst O;rw[if_neg M,if_pos (by simp)];simp[show o+i<E.size by omega]
  by_cases U:o+(i+1)<=k/\k<o+(i+1)+vs.length
  ·rw[if_pos U,if_pos (by simp;omega)];rw[show k-(o+i)=(k-(o+(i+1)))+1 by omega,a1n]
  rw[if_neg U,if_neg (by simp;omega)];simp[O]
theorem gQ(h:WRel μ H w){b o:Nat}{l:Loc}{vs E:List Value}{H':Heap}(hb:μ b=some l)(hs:H.storeL ⟨b,o,none⟩ vs=some H')(T:LRel μ vs E):
  ∃w',(storeCells ⟨l.c,l.sh+o,none⟩ E).run P w= .ok () w'/\Post μ H w μ H' w':=by
 simp only[Heap.storeL,bz,nV,Nat.add_eq]at hs
 split at hs
 ·rename_i cs bl hg;cases hq:(Nat.ble (o+vs.length) cs.length&&vs.all Value.oneCell') with
  |false=>rw[hq]at hs;cases hs
  |true=>
   rw[hq]at hs;simp only[cond_true,a01]at hs
   simp only[a03]at hq
   have Y:o+vs.length<=cs.length:=a0b hq.1
   obtain⟨r1,O,e,U,r2,r3,r4⟩:=h.obj b l _ hb hg
   have Z:=T.1
   have a3:E.all Value.oneCell'=true:=by
    rw[a0s];intro x hx;obtain⟨i,hi⟩:=List.getElem?_of_mem hx;have a0:i<vs.length:=by rw[Z];exact(a0r.1 hi).1
    have hr:=T.2 i vs[i] x (a09 a0) hi;rw[hr.oneCell];exact a0s.1 hq.2 _ (a0E a0)
   by_cases a1:E=[]
   ·subst a1;have hv:vs=[]:=by simpa using Z
    subst hv;have a2:bx cs o []=cs:=by apply a1w;intro k;rw[bF _ _ _ _ (by simpa using Y),if_neg (by simp)]
    subst hs;refine⟨be w l.c (.cells O e (0,0)),?_,?_⟩
    ·have:be w l.c (.cells O e (0,0))=w:=by
      unfold be;congr 1;apply a1s;intro k;by_cases hk:l.c=k
      ·subst hk;rw[a0X,if_pos V,if_pos (cr U),U]
      rw[a1j hk]
     rw[this];rfl
    refine Post.put h hb hg V _ V _ ⟨r1,O,e,bJ w _ (cr U),r2,by rw[a2];exact r3,fun i v hi=>r4 i v (by rw[a2]at hi;exact hi)⟩
   subst hs
   refine⟨_,by simpa using dZ (P:=P) l.c e E w O (l.sh+o) 0 U M a3 a1,?_⟩
   refine Post.put h hb hg V _ V _ ⟨r1,_,e,bJ w _ (cr U),?_,?_,?_⟩
   ·rw[←r2];show(bx O.toList (l.sh+o) E).length=_;rw[cO _ _ _ (by simp;omega)];simp
   ·rw[cO _ _ _ Y];exact r3
   intro i v hi
   rw[bF _ _ _ _ Y]at hi
   have mg: ∀v':Value,(bx O.toList (l.sh+o) E)[l.sh+i]?=some v'->(Array.mk (bx O.toList (l.sh+o+0) E))[l.sh+i]?=some v':=fun v' hv=>(lK _ _).trans hv
   rw[bF _ _ _ _ (by simp;omega)]at mg
   by_cases hc:o<=i/\i<o+vs.length
   ·rw[if_pos hc]at hi;rw[if_pos M]at mg;obtain⟨v',ar,hr⟩:=T.get hi;exact⟨v',mg v' (by rw[←ar];congr 1;omega),hr⟩
   rw[if_neg hc]at hi
   rw[if_neg M]at mg
   obtain⟨v',ar,hr⟩:=r4 i v hi
   exact⟨v',mg v' (by simpa using ar),hr⟩
 cases hs
theorem dK(h:WRel μ H w)(Z:μ H.next=none)(e:TypeId){cs O:List Value}(U:LRel μ cs O)(E:List Value)(T:Option Nat)(an:T=none->E=[]):
  ∃l,l.c=w.heap.size/\l.sh=0/\l.opn=T/\l.csz=cs.length+E.length/\
  (newRow e ⟨O++E⟩).run P w= .ok ⟨w.heap.size,0,none⟩ (w.alloc (.cells ⟨O++E⟩ e))/\
   Post μ H w (μ.set H.next l) (aO H cs T) (w.alloc (.cells ⟨O++E⟩ e)):=by
 refine⟨⟨w.heap.size,0,T,cs.length+E.length⟩,V,V,V,V,by simp[newRow],?_⟩
 refine Post.push h Z _ V _ _ ⟨V,_,e,gu w _,by simp[U.1],by simp,fun i v hi=>?_⟩
 obtain⟨v',Y,hr⟩:=U.get hi
 refine⟨v',?_,hr.mono (Emb.set_ext _ Z)⟩
 have:i<O.length:=(a0r.1 Y).1
 simp only[a0A,lK]
 rw[a11 this];exact Y
end mem
end Go.R
namespace Go.R
def ANRel(μ:Emb):AN->Next->Prop
 | .val v,.value v'=>VRel μ v v'
 | .skip,.skip=>True
 | .enter f args,.enter f' args'=>f=f'/\LRel μ args args'.toList
 |_,_=>False
theorem jV(bs:ByteArray): ∀(n i:Nat) (r:List UInt8),bs.size-i=n->ByteArray.toList.loop bs i r=r.reverse++bs.data.toList.drop i:=by
 intro n;induction n with
 |zero=>
  intro i r h
  rw[ByteArray.toList.loop,if_neg M,a1r (by simp only[a1z,ByteArray.size_data];omega),a0p]
 |succ n ih=>
  intro i r h
  have hi:i<bs.size:=M
  rw[ByteArray.toList.loop,if_pos hi,ih (i+1) _ M]
  have E:i<bs.data.toList.length:=by simpa using hi
  rw[a0T E]
  simp[ByteArray.get!,hi]
theorem dN(bs:ByteArray):bs.toList=bs.data.toList:=by unfold ByteArray.toList;rw[jV bs _ 0 [] rfl];simp
section
variable {P:Program} {μ:Emb}
theorem d4{ρ ρ':Operand->Value}{o:Oper}{H H':Heap}{r:AN}(h:bL P ρ o H=some (r,H'))(hs: ∀cs b,o.op≠ .select cs b)
  (Z: ∀x∈o.op.operands,VRel μ (ρ x) (ρ' x)):H'=H/\∃v v',r= .val v/\(∀w,(execOp ρ' o).run P w= .ok (.value v') w)/\VRel μ v v':=by
 unfold bL at h
 cases O:o.op.operands.toList.all fun x=>jM (ρ x) with
 |false=>rw[O]at h;cases h
 |true=>
  rw[O]at h
  have U:execOp ρ' o=execOp ρ o:=execOp_congr o hs fun x T=>(Z x T).eq1 (a0s.1 O x (by simpa using T))
  simp only[cond_true]at h
  split at h
  ·rename_i v Y;cases E:noA2 v with
   |false=>rw[E]at h;cases h
   |true=>
    rw[E]at h;simp only[cond_true,a01,a04]at h
    obtain⟨rfl,rfl⟩:=h
    exact⟨V,v,v,V,fun w=>by rw[U];exact dg P Y w,VRel.refl2 E⟩
  cases h
theorem lL{s:Sem Value}{H H':Heap}{r:AN}(h:lift P s H=some (r,H')):H'=H/\∃v,r= .val v/\aB P s=some v:=by
 unfold lift at h;split at h
 ·rename_i v E;simp only[a01,a04]at h;exact⟨h.2.symm,v,h.1.symm,E⟩
 cases h
theorem intBin_sound{op:BinOp}{k:IntKind}{a b:Int}{v:Value}(h:mD op k a b=some v)(t:TypeId)(w:World):
  (binOp op t (.int k a) (.int k b)).run P w= .ok v w/\dx v=true:=by
 cases op<;>simp only[mD,a01,reduceCtorEq]at h
 case quo=>
  cases hb:(b==0) with
  |true=>rw[hb]at h;cases h
  |false=>
   rw[hb]at h;simp only[cond_false,a01]at h;subst h
   have E: ¬b=0:=by simpa using hb
   simp[binOp_quo,Op.intDiv,E,dx]
 case rem=>
  cases hb:(b==0) with
  |true=>rw[hb]at h;cases h
  |false=>
   rw[hb]at h;simp only[cond_false,a01]at h;subst h
   have E: ¬b=0:=by simpa using hb
   simp[binOp_rem,Op.intDiv,E,dx]
 all_goals subst h
 case add=>simp[binOp_add,Op.intArith,dx]
 case sub=>simp[binOp_sub,Op.intArith,dx]
 case mul=>simp[binOp_mul,Op.intArith,dx]
 case and=>simp[binOp_and,intBits_and,dx,dO]
 case or=>simp[binOp_or,intBits_or,dx,dO]
 case xor=>simp[binOp_xor,intBits_xor,dx,dO]
 case andNot=>simp[binOp_andNot,intBits_andNot,dx,dO]
 case eql=>simp[binOp_eql,dx]
 case neq=>simp[binOp_neq,dx]
 case lss=>simp[binOp_lss,dx]
 case leq=>simp[binOp_leq,dx]
 case gtr=>simp[binOp_gtr,dx]
 case geq=>simp[binOp_geq,dx]
theorem shBin_sound{op:BinOp}{k O:IntKind}{a b:Int}{v:Value}(h:shBin op k a b=some v)(t:TypeId)(w:World):
  (binOp op t (.int k a) (.int O b)).run P w= .ok v w/\dx v=true:=by
 cases op<;>simp only[shBin,reduceCtorEq]at h
 all_goals
  cases b with
  |negSucc n=>simp[shiftN]at h
  |ofNat n=>
   simp only[shiftN,a01]at h;subst h
   have E: ¬((n:Int)<0):=M
   simp[binOp_shl,binOp_shr,Op.shift,E,dx,Nat.min_def]
theorem lj{op:BinOp}{t:TypeId}{a b:ByteArray}{v:Value}(h:strOp op a b=some v)(w:World):
  (binOp op t (.string a) (.string b)).run P w= .ok v w/\dx v=true:=by
 have hb:binOp op t (.string a) (.string b)=Op.stringOp op a b:=by cases op<;>rfl
 rw[hb]
 unfold strOp at h
 split at h
 ·injection h with h;subst h;simp[Op.stringOp,dN,d6,dx]
 ·injection h with h;subst h;simp[Op.stringOp,dN,d6,dx]
 ·injection h with h;subst h;simp[Op.stringOp,dN,dx]
 ·injection h with h;subst h;simp[Op.stringOp,dN,d6,dx]
 ·injection h with h;subst h;simp[Op.stringOp,dN,d6,dx]
 ·injection h with h;subst h;simp[Op.stringOp,dN,dx]
 ·simp only[ef,bz]at h;cases E:Nat.ble (a.data.toList++b.data.toList).length 1099511627776 with
  |false=>rw[E]at h;cases h
  |true=>
   rw[E]at h;simp only[cond_true,a01]at h;subst h
   have O:=a0b E
   simp only[a00,a1z,ByteArray.size_data]at O
   refine⟨?_,V⟩
   have T: ¬(((a.size+b.size:Nat):Int)>IntKind.i64.max):=by rw[IntKind.max_i64];omega
   simp only[Op.stringOp,if_neg T,Sem.run_pure]
   congr 2
 cases h
theorem mB{a:Option Addr}{v':Value}(h:VRel μ (.pointer a) v'): ∃E,v'= .pointer E/\E.isNone=a.isNone:=by
 cases h with
 |atom _ h0=>exact⟨a,V,V⟩
 |ptr b o l hb=>exact⟨_,V,V⟩
theorem dL{a:Option Addr}{n k:Nat}{v':Value}(h:VRel μ (.slice a n k) v'): ∃E O,v'= .slice E n O/\E.isNone=a.isNone:=by
 cases h with
 |atom _ h0=>exact⟨a,k,V,V⟩
 |sliceC b o n k l hb ho=>exact⟨_,_,V,V⟩
 |sliceO b o o' n k O e l hb ho h1 h2 h3 h4=>exact⟨_,_,V,V⟩
 |sliceZ b o a l hb=>exact⟨_,_,V,V⟩
theorem mC{a:Option Nat}{v':Value}(h:VRel μ (.map a) v'): ∃E,v'= .map E/\E.isNone=a.isNone:=by
 cases h with
 |atom _ h0=>exact⟨a,V,V⟩
 |map b l hb=>exact⟨_,V,V⟩
theorem eT{t:TypeId}{x y:Value}{w:World}{b:Bool}(h: ∀d,(Op.equalIn (d+1) t x y).run P w= .ok b w):(Op.equal t x y).run P w= .ok b w:=h 9999
theorem lH{t:TypeId}{x y Y Z:Value}{b:Bool}(h:nilEq P t x y=some b)(T:VRel μ x Y)(U:VRel μ y Z)(w:World):
  (Op.equal t Y Z).run P w= .ok b w/\(∀op u v,eqGuard op t u v Y Z=pure ())/\(∀op,op= .eql\/op= .neq->binOp op t Y Z=(match op with
   | .eql=>do pure (.bool (←Op.equal t Y Z))
   |_=>do pure (.bool (!(←Op.equal t Y Z))))):=by
 unfold nilEq at h
 split at h
 ·rename_i e b0 O;obtain rfl:=T.eq0 V;obtain⟨b',rfl,hb⟩:=mB U;injection h with h;subst h;refine⟨?_,fun op u v=>by cases op<;>rfl,fun op E=>by rcases E with rfl|rfl<;>rfl⟩;exact eT fun d=>by simp[Op.equalIn,ak w O,hb]
 ·rename_i e a0 O;obtain rfl:=U.eq0 V;obtain⟨a',rfl,ha⟩:=mB T;injection h with h;subst h;refine⟨?_,fun op u v=>by cases op<;>rfl,fun op E=>by rcases E with rfl|rfl<;>rfl⟩;exact eT fun d=>by cases a'<;>simp[Op.equalIn,ak w O,←ha]
 ·rename_i e n k b0 n2 k2 O;obtain⟨rfl,rfl,rfl⟩:=T.sliceNil_inv;obtain⟨b',k',rfl,hb⟩:=dL U;injection h with h;subst h;refine⟨?_,fun op u v=>by cases op<;>rfl,fun op E=>by rcases E with rfl|rfl<;>rfl⟩;exact eT fun d=>by simp[Op.equalIn,ak w O,hb]
 ·rename_i e a0 n k n2 k2 O;obtain⟨rfl,rfl,rfl⟩:=U.sliceNil_inv;obtain⟨a',k',rfl,ha⟩:=dL T;injection h with h;subst h;refine⟨?_,fun op u v=>by cases op<;>rfl,fun op E=>by rcases E with rfl|rfl<;>rfl⟩;exact eT fun d=>by cases a'<;>simp[Op.equalIn,ak w O,←ha]
 ·rename_i e1 e2 b0 O;obtain rfl:=T.eq0 V;obtain⟨b',rfl,hb⟩:=mC U;injection h with h;subst h;refine⟨?_,fun op u v=>by cases op<;>rfl,fun op E=>by rcases E with rfl|rfl<;>rfl⟩;exact eT fun d=>by simp[Op.equalIn,ak w O,hb]
 ·rename_i e1 e2 a0 O;obtain rfl:=U.eq0 V;obtain⟨a',rfl,ha⟩:=mC T;injection h with h;subst h;refine⟨?_,fun op u v=>by cases op<;>rfl,fun op E=>by rcases E with rfl|rfl<;>rfl⟩;exact eT fun d=>by cases a'<;>simp[Op.equalIn,ak w O,←ha]
 ·rename_i ps rs va O;obtain rfl:=T.eq0 V;obtain rfl:=U.eq0 V;injection h with h;subst h;refine⟨?_,fun op u v=>by cases op<;>rfl,fun op E=>by rcases E with rfl|rfl<;>rfl⟩;exact eT fun d=>by simp[Op.equalIn,ak w O]
 ·rename_i ps rs va fn xs ys O;obtain rfl:=T.eq0 V;obtain⟨a2,a3,rfl,_,_⟩:=U.func_inv;injection h with h;subst h;refine⟨?_,fun op u v=>by cases op<;>rfl,fun op E=>by rcases E with rfl|rfl<;>rfl⟩;exact eT fun d=>by simp[Op.equalIn,ak w O]
 ·rename_i ps rs va fn xs ys O;obtain rfl:=U.eq0 V;obtain⟨a2,a3,rfl,_,_⟩:=T.func_inv;injection h with h;subst h;refine⟨?_,fun op u v=>by cases op<;>rfl,fun op E=>by rcases E with rfl|rfl<;>rfl⟩;exact eT fun d=>by simp[Op.equalIn,ak w O]
 cases h
theorem part_rel{t:TypeId}{cs E:Array Value}{off:Nat}{v:Value}(U:LRel μ cs.toList E.toList)(h:aB P (part t cs off)=some v):
  ∃v',aB P (part t E off)=some v'/\VRel μ v v':=by
 unfold part at h⊢
 simp only[aH,gk]at h⊢
 cases T:fN P t with
 |none=>rw[T]at h;simp at h
 |some g=>
  rw[T]at h
  cases g with
  |true=>
   simp only[a0j,if_true,aH,cY]at h⊢
   cases hs:dV P t with
   |none=>rw[hs]at h;simp at h
   |some n=>
    rw[hs]at h
    simp only[a0j,bG,a01]at h⊢
    subst h
    refine⟨_,V,?_⟩
    have:=(U.take (off+n)).drop off
    have ex: ∀c:Array Value,(c.extract off (off+n)).toList=(c.toList.take (off+n)).drop off:=fun c=>by simp[a1W]
    exact .agg _ _ (by rw[ex,ex];exact this.1) (by rw[ex,ex];exact this.2)
  |false=>
   simp only[a0j,a0k,if_false]at h⊢
   cases hc:cs[off]? with
   |none=>rw[hc]at h;simp at h
   |some u=>
    rw[hc]at h
    simp only[bG,a01]at h;subst h
    obtain⟨v',Y,O⟩:=U.get (i:=off) (v:=u) (by simpa using hc)
    refine⟨v',?_,O⟩
    have:E[off]?=some v':=by simpa using Y
    rw[this];rfl
theorem field_rel{t:TypeId}{x T:Value}{f:Nat}{v:Value}(Y:VRel μ x T)(h:aB P (Instr.field t x f)=some v):
  ∃v',aB P (Instr.field t T f)=some v'/\VRel μ v v':=by
 unfold Instr.field at h⊢
 simp only[aH,bC]at h⊢
 cases O:P.underlying t with
 |none=>rw[O]at h;simp at h
 |some d=>
  rw[O]at h
  simp only[a0j]at h⊢
  cases d with
  |struct fields=>
   simp only at h⊢
   cases E:fields[f]? with
   |none=>rw[E]at h;simp at h
   |some fd=>
    rw[E]at h
    simp only[aH]at h⊢
    cases x with
    |agg cs=>
     obtain⟨Z,rfl,U⟩:=Y.agg_inv
     simp only[asAgg,bG,a0j]at h⊢
     exact part_rel U h
    |_=>simp[asAgg]at h
  |_=>simp at h
theorem index_rel{t:TypeId}{x U i T:Value}{v:Value}(Z:VRel μ x U)(hi:VRel μ i T)(E: ∀s,x≠ .string s)(h:aB P (Instr.index t x i)=some v):
  ∃v',aB P (Instr.index t U T)=some v'/\VRel μ v v':=by
 cases i with
 |int k n=>
  obtain rfl:=hi.int_inv
  unfold Instr.index at h⊢
  simp only[asIntOf,aH,bG,a0j,bC]at h⊢
  cases O:P.underlying t with
  |none=>rw[O]at h;simp at h
  |some d=>
   rw[O]at h
   simp only[a0j]at h⊢
   cases d with
   |array len e=>
    cases x with
    |agg cs=>
     obtain⟨al,rfl,Y⟩:=Z.agg_inv
     simp only at h⊢
     by_cases hb:0<=n/\n<(len:Int)
     ·rw[if_pos hb]at h⊢;simp only[aH,cY]at h⊢;cases hs:dV P e with
      |none=>rw[hs]at h;simp at h
      |some sz=>rw[hs]at h;simp only[a0j]at h⊢;exact part_rel Y h
     rw[if_neg hb,iK]at h;cases h
    |_=>simp at h
   |string=>
    cases x with
    |string s=>exact absurd V (E s)
    |_=>simp at h
   |_=>simp at h
 |pointer a=>cases a<;>simp[Instr.index,asIntOf]at h
 |_=>simp[Instr.index,asIntOf]at h
theorem jk: ∀(l l':List Value) (s off:Nat) (A T:Array Value),LRel μ l l'->LRel μ A.toList T.toList->
  LRel μ ((l.zipIdx s).foldl (fun cs p=>cs.setIfInBounds (off+p.2) p.1) A).toList ((l'.zipIdx s).foldl (fun cs p=>cs.setIfInBounds (off+p.2) p.1) T).toList
 | [],l',s,off,A,T,h,hA=>by rw[h.nil_left];exact hA
 |v::l,l',s,off,A,T,h,hA=>by
  obtain⟨v',t',rfl,Z,Y⟩:=h.cons_left;simp only[List.zipIdx_cons,List.foldl_cons];refine jk l t' (s+1) off _ _ Y ⟨by simpa using hA.1,fun i x x' E O=>?_⟩;simp only[Array.toList_setIfInBounds,List.getElem?_set]at E O;have U:=hA.1;by_cases hi:off+s=i
  ·rw[if_pos hi]at E O;split at E
   ·rename_i ar;rw[if_pos M]at O;injection E with E;injection O with O;subst E O;exact Z
   cases E
  rw[if_neg hi]at E O;exact hA.2 i x x' E O
theorem kT{E:Nat->Option (Nat×Nat)}: ∀(ps ps':List (Nat×Value)) (A A':Array Value) (r:Array Value),ps.length=ps'.length->
  (∀(i:Nat) x O,ps[i]?=some x->ps'[i]?=some O->x.1=O.1/\VRel μ x.2 O.2)->LRel μ A.toList A'.toList->Instr.fill E A ps=some r->
  ∃r',Instr.fill E A' ps'=some r'/\LRel μ r.toList r'.toList
 | [],ps',A,A',r,hl,_,hA,h=>by have:ps'=[]:=a0i hl.symm;subst this;simp only[Instr.fill,a01]at h;subst h;exact⟨A',V,hA⟩
 |(i,v)::ps,ps',A,A',r,hl,hp,hA,h=>by
  cases ps' with
  |nil=>simp at hl
  |cons O ps'=>
   obtain⟨i',v'⟩:=O
   obtain⟨hi,hv⟩:=hp 0 (i,v) (i',v') V V
   simp only at hi hv;subst hi
   simp only[Instr.fill]at h⊢
   cases U:E i with
   |none=>rw[U]at h;cases h
   |some os=>
    obtain⟨off,size⟩:=os
    rw[U]at h
    simp only at h⊢
    have hc:=hv.cells
    have Z:v'.cells.size=v.cells.size:=by have:=hc.1;simpa using this.symm
    have Y:A'.size=A.size:=by have:=hA.1;simpa using this.symm
    rw[Z,Y]
    split at h
    ·cases h
    rename_i T
    rw[if_neg T]
    refine kT ps ps' _ _ r (by simpa using hl) (fun j x O h1 h2=>hp (j+1) x O (by simpa using h1) (by simpa using h2)) ?_ h
    have:=jk v.cells.toList v'.cells.toList 0 off A A' hc hA
    have e: ∀(u:Value) (B:Array Value),Array.foldl (fun cs x=>cs.setIfInBounds (off+x.snd) x.fst) B u.cells.zipIdx=List.foldl (fun cs p=>cs.setIfInBounds (off+p.snd) p.fst) B u.cells.toList.zipIdx:=fun u B=>by rw[←Array.foldl_toList,Array.toList_zipIdx]
    exact(e v A▸e v' A'▸this:LRel μ (Array.foldl (fun cs x=>cs.setIfInBounds (off+x.snd) x.fst) A v.cells.zipIdx).toList (Array.foldl (fun cs x=>cs.setIfInBounds (off+x.snd) x.fst) A' v'.cells.zipIdx).toList)
end
end Go.R
namespace Go.R
section
variable {P:Program} {μ:Emb}
theorem build_rel{t:TypeId}{ps ps':Array (Nat×Value)}{v:Value}(Z:ps.toList.length=ps'.toList.length)
  (hp: ∀(i:Nat) x x',ps.toList[i]?=some x->ps'.toList[i]?=some x'->x.1=x'.1/\VRel μ x.2 x'.2)
  (hz:(dr P t).isSome=true) (h:aB P (Instr.build t ps)=some v):
  ∃v',aB P (Instr.build t ps')=some v'/\VRel μ v v':=by
 unfold Instr.build at h⊢
 have a0:aB P (zeroValue t)=(P.info? t).bind (·.zero):=by
  unfold zeroValue;simp only[aH,dw];cases hi:P.info? t with
  |none=>rfl
  |some i=>simp only[a0j];cases i.zero<;>rfl
 simp only[aH,a0,bC]at h⊢
 cases hi:(P.info? t).bind (·.zero) with
 |none=>rw[hi]at h;simp at h
 |some z=>
  rw[hi]at h
  have U:LRel μ z.cells.toList z.cells.toList:=by obtain⟨zl,ax⟩:=Option.isSome_iff_exists.1 hz;obtain⟨i,v0,h1,h2,h3,h4⟩:=eZ (P:=P) ax;rw[h1]at hi;simp only[a0j,h2,a01]at hi;subst hi;exact LRel.refl0 (by rw[h3];exact h4)
  simp only[a0j]at h⊢
  cases hu:P.underlying t with
  |none=>rw[hu]at h;simp at h
  |some d=>
   rw[hu]at h
   simp only[a0j]at h⊢
   cases d with
   |struct fields=>
    simp only[aH]at h⊢
    cases hm:aB P (fields.mapM fun f=>do let y ←sizeOf f.type;Pure.pure (f.offset,y)) with
    |none=>rw[hm]at h;simp at h
    |some places=>
     rw[hm]at h
     simp only[a0j]at h⊢
     cases O:Instr.fill (fun x=>places[x]?) z.cells ps.toList with
     |none=>rw[O]at h;simp at h
     |some r=>
      rw[O]at h
      simp only[bG,a01]at h
      subst h
      obtain⟨Y,T,E⟩:=kT _ _ _ _ _ Z hp U O
      exact⟨.agg Y,by rw[T];rfl,.agg _ _ E.1 E.2⟩
   |array n e=>
    simp only[aH,cY]at h⊢
    cases hs:dV P e with
    |none=>rw[hs]at h;simp at h
    |some sz=>
     rw[hs]at h
     simp only[a0j]at h⊢
     cases O:Instr.fill (fun i=>some (i *sz,sz)) z.cells ps.toList with
     |none=>rw[O]at h;simp at h
     |some r=>
      rw[O]at h
      simp only[bG,a01]at h
      subst h
      obtain⟨Y,T,E⟩:=kT _ _ _ _ _ Z hp U O
      exact⟨.agg Y,by rw[T];rfl,.agg _ _ E.1 E.2⟩
   |_=>simp at h
theorem ge{v v':Value}{n:Nat}(h:asNat v=some n)(E:VRel μ v v'): ∃k,v'= .int k (n:Int):=by
 unfold asNat at h;split at h
 ·rename_i k m;injection h with h;subst h;exact⟨k,E.int_inv⟩
 cases h
theorem aField_sound{s:TypeId}{x U:Value}{f:Nat}{v:Value}(h:jz P s x f=some v)(hx:VRel μ x U):
  ∃v',(∀w,(Instr.fieldAt s U f).run P w= .ok v' w)/\VRel μ v v':=by
 unfold jz at h
 split at h
 ·rename_i fs b o hu;split at h
  ·rename_i O Y;split at h
   ·rename_i n Z;cases E:Nat.beq n 0 with
    |true=>rw[E]at h;cases h
    |false=>
     rw[E]at h;simp only[cond_false,a01]at h;subst h
     obtain⟨l,hb,rfl⟩:=hx.ptr_inv
     have T: ¬n=0:=fun e=>by subst e;cases E
     refine⟨_,fun w=>?_,a12 l.sh o O.offset▸VRel.ptr b (o+O.offset) l hb⟩
     simp[Instr.fieldAt,ak w hu,Y,Instr.sureAddr,fieldPlace,aZ w Z,T,dz,a12]
   cases h
  cases h
 cases h
theorem kH{t:TypeId}{x x' i i':Value}{v:Value}(h:dP P t x i=some v)(hx:VRel μ x x')(hi:VRel μ i i'):
  ∃v',(∀w,(Instr.indexAt t x' i').run P w= .ok v' w)/\VRel μ v v':=by
 unfold dP at h
 split at h
 ·rename_i e b o n k j T Y;obtain⟨ik,rfl⟩:=ge Y hi;split at h
  ·rename_i sz hs;cases E:(Nat.ble (j+1) n&&Nat.ble n k) with
   |false=>rw[E]at h;cases h
   |true=>
    rw[E]at h;simp only[cond_true,a01]at h;subst h
    simp only[a03]at E
    have h1:j+1<=n:=a0b E.1
    have h2:n<=k:=a0b E.2
    obtain⟨l,hb,hc⟩:=hx.slice_inv
    have O:VRel μ (.pointer (some ⟨b,o+j *sz,none⟩)) (.pointer (some ⟨l.c,l.sh+o+j *sz,none⟩)):=
     a12 l.sh o (j *sz)▸VRel.ptr b (o+j *sz) l hb
    have U:(j:Int)<(n:Int):=M
    rcases hc with⟨_,rfl⟩|⟨e',o',k',_,rfl,_,_,Z,_⟩|⟨hz,_,_⟩
    rotate_right
    ·omega
    ·refine⟨_,fun w=>?_,O⟩;simp[Instr.indexAt,asIntOf,ak w T,aZ w hs,dz];omega
    have ho:o'=l.sh+o:=Z M
    subst ho
    refine⟨_,fun w=>?_,O⟩
    simp[Instr.indexAt,asIntOf,ak w T,aZ w hs,dz]
    omega
  cases h
 ·rename_i n e b o j T Y;obtain⟨ik,rfl⟩:=ge Y hi;split at h
  ·rename_i sz hs;cases E:Nat.ble (j+1) n with
   |false=>rw[E]at h;cases h
   |true=>
    rw[E]at h;simp only[cond_true,a01]at h;subst h
    have h1:j+1<=n:=a0b E
    obtain⟨l,hb,rfl⟩:=hx.ptr_inv
    refine⟨_,fun w=>?_,a12 l.sh o (j *sz)▸VRel.ptr b (o+j *sz) l hb⟩
    have U:(j:Int)<(n:Int):=M
    have h0:(0:Int)<=(j:Int)/\(j:Int)<(n:Int):=⟨by omega,U⟩
    simp only[Instr.indexAt,asIntOf,ak w T,aZ w hs,dz,Instr.sureAddr,Sem.run_bind,Sem.run_pure,Result.andThen_ok,if_pos h0,Int.toNat_natCast]
  cases h
 cases h
theorem strIndex_run{t:TypeId}{s:ByteArray}{k:IntKind}{j:Nat}{b:UInt8}(T:P.underlying t=some .string)(hb:s.data.toList[j]?=some b)(w:World):
  (Instr.index t (.string s) (.int k (j:Int))).run P w= .ok (.int .u8 b.toNat) w:=by
 have E:j<s.size:=by have:=(a0r.1 hb).1;simpa using this
 have O:s[j]?=some b:=by rw[getElem?_pos s j E];have:=(a0r.1 hb).2;rw[←this];rfl
 simp[Instr.index,asIntOf,ak w T,O]
theorem kY{ops:Array Operand}{ρ ρ':Operand->Value}(h: ∀x∈ops,VRel μ (ρ x) (ρ' x)):LRel μ (ops.map ρ).toList (ops.map ρ').toList:=by refine⟨by simp,fun i v v' O T=>?_⟩;simp only[a1K,a1E,a1D]at O T;obtain⟨x,U,rfl⟩:=O;obtain⟨y,E,rfl⟩:=T;rw[U]at E;injection E with E;subst E;exact h x (by simpa using a0n U)
theorem nY{t:TypeId}{x U:Value}{f:Nat}{v:Value}(h:iX P t x f=some v)(hx:VRel μ x U):
  ∃v',(∀w,(Instr.field t U f).run P w= .ok v' w)/\VRel μ v v':=by
 unfold iX at h
 split at h
 ·rename_i cs;split at h
  ·rename_i g n off E;have hp:aB P (Instr.field t (.agg cs) f)=some v:=by
    unfold fieldAt? at E;split at E
    ·rename_i fs hu;split at E
     ·rename_i Y O;split at E
      ·rename_i Z n' hg hn;simp only[a01,a04]at E;obtain⟨rfl,rfl,rfl⟩:=E;unfold Instr.field part;simp only[aH,bC,hu,a0j,O,asAgg,bG,gk,hg];unfold partL at h;cases Z with
       |true=>
        simp only[cond_true,a01,bR,bW]at h
        simp only[if_true,aH,cY,hn,a0j,bG,a01]
        subst h
        congr 1
        apply Array.ext'
        simp
       |false=>
        simp only[cond_false,gE]at h
        simp only[a0k,if_false]
        have hc:cs[Y.offset]?=some v:=by simpa using h
        rw[hc];rfl
      cases E
     cases E
    cases E
   obtain⟨v',T,hr⟩:=field_rel hx hp;exact⟨v',fun w=>dg P T w,hr⟩
  cases h
 cases h
theorem cR{r:Option Value}{H H':Heap}{n:AN}(h:ovl r H=some (n,H')):H'=H/\∃v,r=some v/\n= .val v:=by
 unfold ovl at h;split at h
 ·rename_i v;simp only[a01,a04]at h;exact⟨h.2.symm,v,V,h.1.symm⟩
 cases h
theorem jN{op:BinOp}{r:Option Bool}{H H':Heap}{n:AN}(h:nilBin op r H=some (n,H')):
  H'=H/\∃b,r=some b/\((op= .eql/\n= .val (.bool b))\/(op= .neq/\n= .val (.bool (!b)))):=by
 unfold nilBin at h
 split at h
 ·rename_i b;split at h
  ·simp only[a01,a04]at h;exact⟨h.2.symm,b,V,.inl ⟨V,h.1.symm⟩⟩
  ·simp only[a01,a04]at h;exact⟨h.2.symm,b,V,.inr ⟨V,h.1.symm⟩⟩
  cases h
 cases h
theorem lf{ρ ρ':Operand->Value}{o:Oper}{H H':Heap}{r:AN}(hk:aS o.op=true)
  (T: ∀x∈o.op.operands,VRel μ (ρ x) (ρ' x)) (h:aop P ρ o H=some (r,H')):
  H'=H/\∃v v',r= .val v/\(∀w,(execOp ρ' o).run P w= .ok (.value v') w)/\VRel μ v v':=by
 obtain⟨b4,op,type,pos,after,bb⟩:=o
 cases op<;>simp only[aS,a0k]at hk
 case move x=>
  simp only[aop,a01,a04]at h
  obtain⟨rfl,rfl⟩:=h
  exact⟨V,_,ρ' x,V,fun w=>rfl,T x (by simp[Op.operands])⟩
 case assign x=>
  simp only[aop,a01,a04]at h
  obtain⟨rfl,rfl⟩:=h
  exact⟨V,_,ρ' x,V,fun w=>rfl,T x (by simp[Op.operands])⟩
 case pick c a b=>
  simp only[aop,gW]at h
  split at h
  ·rename_i t ht;simp only[a01,a04]at h;obtain⟨rfl,rfl⟩:=h;have hc:ρ' c= .bool t:=by have:=T c (by simp[Op.operands]);rw[ht]at this;exact this.bool_inv
   refine⟨V,_,(if t then ρ' a else ρ' b),V,fun w=>?_,?_⟩
   ·simp[execOp,hc,asBool]
   cases t
   ·exact T b (by simp[Op.operands])
   exact T a (by simp[Op.operands])
  cases h
 case build t parts=>
  simp only[aop,iM]at h
  split at h
  case h_2=>cases h
  rename_i z hz
  obtain⟨rfl,v,rfl,E⟩:=lL h
  obtain⟨v',U,Y⟩:=build_rel (μ:=μ) (ps:=parts.map fun p=>(p.1,ρ p.2)) (ps':=parts.map fun(i,x)=>(i,ρ' x)) (by simp) (fun i x x' Z h2=>by
   simp only[a1K,a1E,a1D]at Z h2;obtain⟨y,hy,rfl⟩:=Z;obtain⟨z,hz,rfl⟩:=h2;rw[hy]at hz;injection hz with hz;subst hz;refine⟨V,T _ ?_⟩;have:=a0n hy;simp only[Op.operands,List.mem_toArray,a0t];exact⟨y,this,V⟩) (by rw[hz];rfl) E
  exact⟨V,v,v',V,fun w=>by simp only[execOp,Sem.run_bind,dg P U w,Result.andThen_ok,Sem.run_pure],Y⟩
 case nilCheck x=>
  simp only[aop,opNil]at h
  split at h
  ·rename_i a ha;simp only[a01,a04]at h;obtain⟨rfl,rfl⟩:=h;have O:=T x (by simp[Op.operands]);rw[ha]at O;obtain⟨_,a',a6⟩:=O.ptr_some;exact⟨V,_,ρ' x,V,fun w=>by simp[execOp,a6],O⟩
  ·rename_i f a c ha;simp only[a01,a04]at h;obtain⟨rfl,rfl⟩:=h;have O:=T x (by simp[Op.operands]);rw[ha]at O;obtain⟨a',c',a7,_,_⟩:=O.func_inv;exact⟨V,_,ρ' x,V,fun w=>by simp[execOp,a7],O⟩
  cases h
 case binOp op t x y yt=>
  have O:=T x (by simp[Op.operands])
  have hy:=T y (by simp[Op.operands])
  simp only[aop,aBin]at h
  split at h
  ·rename_i k a ha;rw[ha]at O;unfold binInt at h;split at h
   ·rename_i k' b hb;rw[hb]at hy;obtain⟨rfl,v,E,rfl⟩:=cR h;have key: ∀w,(binOp op t (.int k a) (.int k' b)).run P w= .ok v w/\dx v=true:=by
     intro w;cases hs:lM op with
     |true=>rw[hs]at E;exact shBin_sound E t w
     |false=>
      rw[hs]at E
      simp only[cond_false]at E
      cases he:gG k k' with
      |false=>rw[he]at E;cases E
      |true=>
       rw[he]at E
       have:k=k':=by simpa[gG] using he
       subst this
       exact intBin_sound E t w
    refine⟨V,v,v,V,fun w=>?_,.atom v (key default).2⟩;simp only[execOp,O.int_inv,hy.int_inv,eqGuard_at_int,pure_bind,Sem.run_bind,(key w).1,Result.andThen_ok,Sem.run_pure]
   cases h
  ·rename_i a ha;rw[ha]at O;unfold binStr at h;split at h
   ·rename_i b hb;rw[hb]at hy;obtain⟨rfl,v,E,rfl⟩:=cR h;refine⟨V,v,v,V,fun w=>?_,.atom v (lj (P:=P) (t:=t) E default).2⟩;simp only[execOp,O.string_inv,hy.string_inv,eqGuard_at_string,pure_bind,Sem.run_bind,(lj (P:=P) (t:=t) E w).1,Result.andThen_ok,Sem.run_pure]
   cases h
  unfold nN at h
  split at h
  ·exact d4 h (fun _ _=>by simp) T
  ·exact d4 h (fun _ _=>by simp) T
  obtain⟨rfl,b,hb,ax⟩:=jN h
  rcases ax with⟨rfl,rfl⟩|⟨rfl,rfl⟩
  ·refine⟨V,_,_,V,fun w=>?_,.atom (.bool b) V⟩;obtain⟨Z,h2,h3⟩:=lH (P:=P) hb O hy w;simp only[execOp,h2,pure_bind,h3 .eql (.inl V),Sem.run_bind,Z,Result.andThen_ok,Sem.run_pure]
  refine⟨V,_,_,V,fun w=>?_,.atom (.bool (!b)) V⟩
  obtain⟨Z,h2,h3⟩:=lH (P:=P) hb O hy w
  simp only[execOp,h2,pure_bind,h3 .neq (.inr V),Sem.run_bind,Z,Result.andThen_ok,Sem.run_pure]
 case unOp op t x=>
  have O:=T x (by simp[Op.operands])
  simp only[aop,aUn]at h
  split at h
  ·rename_i b hb;rw[hb]at O;split at h
   ·simp only[a01,a04]at h;obtain⟨rfl,rfl⟩:=h;exact⟨V,_,_,V,fun w=>by simp[execOp,O.bool_inv,Op.unary],.atom (.bool (!b)) V⟩
   cases h
  exact d4 h (fun _ _=>by simp) T
 case makeFunc fn first captured=>
  simp only[aop,a01,a04]at h
  obtain⟨rfl,rfl⟩:=h
  have Z:=kY (μ:=μ) (ops:=first) (ρ:=ρ) (ρ':=ρ') fun x O=>T x (by simp[Op.operands,O])
  have h2:=kY (μ:=μ) (ops:=captured) (ρ:=ρ) (ρ':=ρ') fun x O=>T x (by simp[Op.operands,O])
  exact⟨V,_,_,V,fun w=>rfl,.func _ _ _ _ _ Z.1 h2.1 Z.2 h2.2⟩
 case fieldAddr s x f=>
  simp only[aop]at h
  obtain⟨rfl,v,E,rfl⟩:=cR h
  obtain⟨v',U,Y⟩:=aField_sound E (T x (by simp[Op.operands]))
  exact⟨V,v,v',V,fun w=>by simp only[execOp,Sem.run_bind,U w,Result.andThen_ok,Sem.run_pure],Y⟩
 case field t x f=>
  simp only[aop]at h
  obtain⟨rfl,v,E,rfl⟩:=cR h
  obtain⟨v',U,Y⟩:=nY E (T x (by simp[Op.operands]))
  exact⟨V,v,v',V,fun w=>by simp only[execOp,Sem.run_bind,U w,Result.andThen_ok,Sem.run_pure],Y⟩
 case indexAddr t x i=>
  simp only[aop]at h
  obtain⟨rfl,v,E,rfl⟩:=cR h
  obtain⟨v',U,Y⟩:=kH E (T x (by simp[Op.operands])) (T i (by simp[Op.operands]))
  exact⟨V,v,v',V,fun w=>by simp only[execOp,Sem.run_bind,U w,Result.andThen_ok,Sem.run_pure],Y⟩
 case index t x i=>
  have O:=T x (by simp[Op.operands])
  have hi:=T i (by simp[Op.operands])
  simp only[aop,l6]at h
  split at h
  ·rename_i s hs;rw[hs]at O;obtain⟨rfl,v,E,rfl⟩:=cR h;unfold strAt at E;split at E
   ·rename_i j hu hj;obtain⟨k,hk⟩:=ge hj hi;rw[gE]at E;split at E
    ·rename_i b hb;injection E with E;subst E;exact⟨V,_,_,V,fun w=>by simp only[execOp,O.string_inv,hk,Sem.run_bind,strIndex_run hu hb w,Result.andThen_ok,Sem.run_pure],.atom _ V⟩
    cases E
   cases E
  rename_i a8
  obtain⟨rfl,v,rfl,E⟩:=lL h
  obtain⟨v',U,Y⟩:=index_rel O hi (fun s hs=>a8 s hs) E
  exact⟨V,v,v',V,fun w=>by simp only[execOp,Sem.run_bind,dg P U w,Result.andThen_ok,Sem.run_pure],Y⟩
 case extract x i=>
  simp only[aop]at h
  have O:=T x (by simp[Op.operands])
  obtain⟨rfl,v,E,rfl⟩:=cR h
  unfold iv at E
  split at E
  ·rename_i vs a9;rw[a9]at O;obtain⟨ba,a4,Y⟩:=O.tuple_inv;rw[gE]at E;obtain⟨v',U,a3⟩:=Y.get E;have hg:ba[i]?=some v':=by simpa using U
   exact⟨V,v,v',V,fun w=>by simp[execOp,a4,Instr.extract,hg],a3⟩
  cases E
end
end Go.R
namespace Go.R
theorem eU(l:List Value): ∀n,(dM n l).length=n *l.length
 |0=>by simp[dM]
 |n+1=>by simp only[dM,a00,eU l n];rw[a0N];omega
theorem mO(l:List Value): ∀(n i:Nat),i<n *l.length->(dM n l)[i]?=l[i%l.length]?
 |0,i,h=>by simp at h
 |n+1,i,h=>by
  simp only[dM];by_cases hi:i<l.length
  ·rw[a11 hi,Nat.mod_eq_of_lt hi]
  rw[a0N,Nat.one_mul]at h;rw[a1b M,mO l n (i-l.length) M];congr 1;exact(Nat.mod_eq_sub_mod M).symm
theorem zeros_eq(z:Array Value)(n:Nat):(Array.range (n *z.size)).map (fun i=>z[i%z.size]!)=⟨dM n z.toList⟩:=by
 apply a1s;intro i;refine Eq.trans ?_ (lK _ _).symm;by_cases hi:i<n *z.size
 ·rw[mO _ _ _ (by simpa using hi)];have O:0<z.size:=by
   rcases a1t z.size with h|h
   ·rw[h]at hi;simp at hi
   exact h
  have E:i%z.size<z.size:=Nat.mod_lt _ O;simp[hi,E]
 rw[a1f (by rw[eU];simpa using hi)];simp[hi]
theorem iT{l:List Value}(h:l.all dx=true): ∀n,(dM n l).all dx=true
 |0=>rfl
 |n+1=>by simp only[dM,List.all_append,h,iT h n,a1g]
section
variable {P:Program} {μ:Emb} {H H':Heap} {w:World}
def OpOK(P:Program)(μ:Emb)(H:Heap)(w:World)(s:Sem Next)(r:AN)(H':Heap):Prop:=
 ∃n w' μ',s.run P w= .ok n w'/\Post μ H w μ' H' w'/\ANRel μ' r n
theorem OpOK.value{s:Sem Value}{v v':Value}{w':World}{μ':Emb}(h:s.run P w= .ok v' w')(E:Post μ H w μ' H' w')(O:VRel μ' v v'):
  OpOK P μ H w (do Pure.pure (.value (←s))) (.val v) H':=
 ⟨.value v',w',μ',by simp only[Sem.run_bind,h,Result.andThen_ok,Sem.run_pure],E,O⟩
theorem OpOK.skip{s:Sem Unit}{w':World}{μ':Emb}(h:s.run P w= .ok () w')(E:Post μ H w μ' H' w'):
  OpOK P μ H w (do s;Pure.pure .skip) .skip H':=
 ⟨.skip,w',μ',by simp only[Sem.run_bind,h,Result.andThen_ok,Sem.run_pure],E,trivial⟩
theorem lE{r:Option (Value×Heap)}{n:AN}(h:ovh r=some (n,H')): ∃v,r=some (v,H')/\n= .val v:=by
 unfold ovh at h;split at h
 ·simp only[a01,a04]at h;obtain⟨rfl,rfl⟩:=h;exact⟨_,V,V⟩
 cases h
theorem osk_inv{r:Option Heap}{n:AN}(h:osk r=some (n,H')):r=some H'/\n= .skip:=by
 unfold osk at h;split at h
 ·simp only[a01,a04]at h;obtain⟨rfl,rfl⟩:=h;exact⟨V,V⟩
 cases h
theorem jj(h:WRel μ H w)(hf:μ H.next=none)(e:TypeId){cs E:List Value}(O:LRel μ cs E):
  ∃l,l.c=w.heap.size/\l.sh=0/\l.opn=none/\(newRow e ⟨E⟩).run P w= .ok ⟨w.heap.size,0,none⟩ (w.alloc (.cells ⟨E⟩ e))/\
   Post μ H w (μ.set H.next l) (aO H cs none) (w.alloc (.cells ⟨E⟩ e)):=by
 obtain⟨l,Y,Z,h3,_,T,U⟩:=dK (P:=P) h hf e O [] none (fun _=>rfl)
 simp only[a0p]at T U
 exact⟨l,Y,Z,h3,T,U⟩
theorem alloc_sound{e:TypeId}{r:AN}(h:WRel μ H w)(hf: ∀b,H.next<=b->b<H'.next->μ b=none)(E:ff P e H=some (r,H')):
  OpOK P μ H w (do Pure.pure (.value (←Instr.alloc e true (.tuple #[])))) r H':=by
 unfold ff at E
 split at E
 ·rename_i z hz;simp only[a01,a04]at E;obtain⟨rfl,rfl⟩:=E;obtain⟨i,v,hi,hv,hc,O⟩:=eZ (P:=P) hz;obtain⟨l,Y,Z,h3,T,hp⟩:=jj (P:=P) h (hf H.next (a07 _) (by simp[aO])) e (LRel.refl0 (μ:=μ) O);have U:v.cells=⟨z⟩:=by rw[←hc]
  refine OpOK.value (v':= .pointer (some ⟨w.heap.size,0,none⟩)) ?_ hp ?_
  ·simp only[Instr.alloc,Sem.run_bind,dY w hi hv,Result.andThen_ok,newVar,U,T,Sem.run_pure]
  have:=VRel.ptr (μ:=μ.set H.next l) H.next 0 l (Emb.set_same _ _ _);rw[Y,Z]at this;exact this
 cases E
theorem box_sound{e:TypeId}{x O:Value}(h:WRel μ H w)(Y:μ H.next=none)(hx:VRel μ x O):
  OpOK P μ H w (do Pure.pure (.value (←Instr.box e O))) (.val (ptrTo H.next)) (aO H x.cells.toList none):=by
 obtain⟨l,T,U,h3,E,Z⟩:=jj (P:=P) h Y e hx.cells
 refine OpOK.value (v':= .pointer (some ⟨w.heap.size,0,none⟩)) ?_ Z ?_
 ·simp only[Instr.box,newVar,Sem.run_bind,E,Result.andThen_ok,Sem.run_pure]
 have:=VRel.ptr (μ:=μ.set H.next l) H.next 0 l (Emb.set_same _ _ _)
 rw[T,U]at this;exact this
theorem mb{t:TypeId}{sz:Nat}{z:List Value}(h:eo P t=some (sz,z)): ∃e,P.underlying t=some (.slice e)/\dV P e=some sz/\dr P e=some z/\z.length=sz:=by
 unfold eo at h;split at h
 ·rename_i e O;split at h
  ·rename_i U Y hs T;cases E:Nat.beq (fE Y) U with
   |false=>rw[E]at h;cases h
   |true=>
    rw[E]at h;simp only[cond_true,a01,a04]at h
    obtain⟨rfl,rfl⟩:=h
    exact⟨e,O,hs,T,by rw[←bz];exact a06 E⟩
  cases h
 cases h
theorem kF{t:TypeId}{n:Nat}{ps:List (Nat×Value)}{ps':Array (Nat×Value)}{r:AN}(h:WRel μ H w)(hf: ∀b,H.next<=b->b<H'.next->μ b=none)
  (hl:ps.length=ps'.toList.length) (hp: ∀(i:Nat) x x',ps[i]?=some x->ps'.toList[i]?=some x'->x.1=x'.1/\VRel μ x.2 x'.2)
  (O:bN P t n ps H=some (r,H')):OpOK P μ H w (do Pure.pure (.value (←Instr.buildSlice t n ps'))) r H':=by
 unfold bN at O
 split at O
 ·rename_i sz z a2;obtain⟨e,hu,hs,hz,U⟩:=mb a2;cases hq:Nat.ble (n *sz) 16777216 with
  |false=>rw[hq]at O;cases O
  |true=>
   rw[hq]at O
   simp only[cond_true]at O
   have b1:n *sz<=16777216:=a0b hq
   split at O
   ·rename_i cells hc;simp only[a01,a04]at O;obtain⟨rfl,rfl⟩:=O;obtain⟨i,v,hi,hv,a3,an⟩:=eZ (P:=P) hz;obtain⟨a0,al,ax⟩:=kT (μ:=μ) ps ps'.toList _ _ cells hl hp (LRel.refl0 (iT an n)) hc;obtain⟨l,h1,h2,h3,T,Z⟩:=jj (P:=P) h (hf H.next (a07 _) (by simp[aO])) e ax;refine OpOK.value (v':= .slice (some ⟨w.heap.size,0,none⟩) n n) ?_ Z ?_
    ·have a4:v.cells=⟨z⟩:=by rw[←a3]
     simp only[Instr.buildSlice,Sem.run_bind,ak w hu,Result.andThen_ok,aZ w hs,show ¬(n *sz>2^24) by omega,if_false];by_cases Y:n *sz=0
     ·have a1:dM n z=[]:=a0i (by rw[eU,U];exact Y);have E: ∀g:Nat->Value,(Array.range (n *sz)).map g=⟨dM n z⟩:=fun g=>by rw[Y,a1];simp
      rw[if_pos Y];simp only[Sem.run_bind,Sem.run_pure,Result.andThen_ok,E,al,T]
     have E:=zeros_eq ⟨z⟩ n;simp only[show(Array.mk z).size=sz from U]at E;rw[if_neg Y];simp only[Sem.run_bind,dY w hi hv,Sem.run_pure,Result.andThen_ok,a4,show(Array.mk z).size=sz from U,E,al,T]
    have:=VRel.sliceC (μ:=μ.set H.next l) H.next 0 n n l (Emb.set_same _ _ _) h3;rw[h1,h2]at this;exact this
   cases O
 cases O
theorem load_sound{t:TypeId}{a T:Value}{r:AN}(h:WRel μ H w)(ha:VRel μ a T)(E:eI P t a H=some (r,H')):
  OpOK P μ H w (do Pure.pure (.value (←Instr.loadAt t T))) r H':=by
 unfold eI at E
 split at E
 ·rename_i p;obtain⟨rfl,v,Z,rfl⟩:=cR E;obtain⟨b,o,sp⟩:=p;have U:sp=none:=ha.ptr_some.1;subst U;obtain⟨l,hb,rfl⟩:=ha.ptr_inv;obtain⟨v',O,Y⟩:=iO (P:=P) h hb Z;refine OpOK.value (v':=v') ?_ (Post.refl h) Y;simp only[Instr.loadAt,Instr.sureAddr,Sem.run_bind,Sem.run_pure,Result.andThen_ok,O]
 cases E
theorem store_sound{t:TypeId}{a Z x Y:Value}{r:AN}(h:WRel μ H w)(ha:VRel μ a Z)(hx:VRel μ x Y)(E:iL P t a x H=some (r,H')):
  OpOK P μ H w (do Instr.storeAt t Z Y;Pure.pure .skip) r H':=by
 unfold iL at E
 split at E
 ·rename_i p;split at E
  ·rename_i n hn;cases O:Nat.beq x.cells.size n with
   |false=>rw[O]at E;cases E
   |true=>
    rw[O]at E
    obtain⟨hs,rfl⟩:=osk_inv E
    have a1:x.cells.size=n:=a06 O
    obtain⟨b,o,sp⟩:=p
    have al:sp=none:=ha.ptr_some.1
    subst al
    obtain⟨l,hb,rfl⟩:=ha.ptr_inv
    obtain⟨w',T,hp⟩:=gQ (P:=P) h hb hs hx.cells
    refine OpOK.skip ?_ hp
    have U:Y.cells.size=n:=by have:=hx.cells.1;simp only[a1z]at this;omega
    simp only[Instr.storeAt,Instr.sureAddr,storeVar,Sem.run_bind,Sem.run_pure,Result.andThen_ok,aZ w hn,U,ne_eq,not_true,if_false,T]
  cases E
 cases E
theorem nv(t:TypeId)(h:WRel μ H w)(E:μ H.next=none):
  OpOK P μ H w (do Pure.pure (.value (←Instr.makeMap t none))) (.val (.map (some H.next))) (H.push (.tab [])):=by
 refine OpOK.value (v':= .map (some w.heap.size)) (w':=w.alloc (.map #[] 0)) (μ':=μ.set H.next ⟨w.heap.size,0,none,0⟩) ?_ (Post.push h E _ V _ _ ?_) ?_
 ·simp[Instr.makeMap]
 ·exact⟨#[],0,gu w _,V,fun i x y O=>by simp at O⟩
 exact VRel.map (μ:=μ.set H.next ⟨w.heap.size,0,none,0⟩) H.next _ (Emb.set_same _ _ _)
theorem range_sound{t:TypeId}{x O:Value}{r:AN}(h:WRel μ H w)(T: ∀b,H.next<=b->b<H'.next->μ b=none)(Z:VRel μ x O)(U:ovh (aRange P t x H)=some (r,H')):
  OpOK P μ H w (do Pure.pure (.value (←Instr.range t O))) r H':=by
 obtain⟨v,E,rfl⟩:=lE U
 unfold aRange at E
 split at E
 ·rename_i s Y;simp only[a01,a04]at E;obtain⟨rfl,rfl⟩:=E;obtain rfl:=Z.string_inv;refine OpOK.value (v':= .pointer (some ⟨w.heap.size,0,none⟩)) (w':=w.alloc (.stringIter s 0)) (μ':=μ.set H.next ⟨w.heap.size,0,none,0⟩) ?_
   (Post.push h (T H.next (a07 _) (by simp)) _ V _ _ ⟨V,gu w _⟩) ?_
  ·simp[Instr.range,ak w Y]
  exact VRel.ptr (μ:=μ.set H.next ⟨w.heap.size,0,none,0⟩) H.next 0 _ (Emb.set_same _ _ _)
 cases E
theorem ii{r:Nat}{o:Obj}(E:w.heap[r]?=some o)(hc: ∀c e f,o≠ .cells c e f):(getObj r).run P w= .ok o w:=by cases o<;>first|exact absurd V (hc _ _ _)|(simp only[getObj,Sem.run,E])
theorem mo{r:Nat}{o E:Obj}(O:w.heap[r]?=some o)(hc: ∀c e f,o≠ .cells c e f):(setObj r E).run P w= .ok () (be w r E):=by cases o<;>first|exact absurd V (hc _ _ _)|(simp only[setObj,Sem.run,O];rfl)
theorem next_sound{it Z:Value}{type:TypeId}{r:AN}(h:WRel μ H w)(hx:VRel μ it Z)(ho:ovh (aNext H it)=some (r,H')):
  OpOK P μ H w (do Pure.pure (.value (←Instr.next Z true type))) r H':=by
 obtain⟨v,E,rfl⟩:=lE ho
 unfold aNext at E
 split at E
 ·rename_i b;split at E
  ·rename_i s pos hg;obtain⟨l,hb,rfl⟩:=hx.ptr_inv;obtain⟨Y,hh⟩:=h.obj b l _ hb hg;have O:(getObj l.c).run P w= .ok (.stringIter s pos) w:=ii hh (by intros;simp);cases U:Nat.ble (pos+1) s.size with
   |false=>
    rw[U]at E
    simp only[cond_false,a01,a04]at E
    obtain⟨rfl,rfl⟩:=E
    have ar: ¬pos<s.size:=fun T=>by rw[a0q T]at U;cases U
    refine OpOK.value (v':= .tuple #[.bool false]) ?_ (Post.refl h) (VRel.refl2 V)
    simp[Instr.next,Y,O,ar]
   |true=>
    rw[U]at E
    simp only[cond_true,a01,a04]at E
    obtain⟨rfl,rfl⟩:=E
    have T:pos<s.size:=a0b U
    refine OpOK.value (v':= .tuple #[.bool true,goInt pos,.int .i32 (Utf8.decode s pos).1]) (w':=be w l.c (.stringIter s (pos+(Utf8.decode s pos).2))) ?_
     (Post.put h hb hg V _ V _ ⟨Y,bJ w _ (cr hh)⟩) (VRel.refl2 V)
    simp[Instr.next,Y,O,T,mo hh (by intros;simp)]
  cases E
 cases E
theorem mi{n:Nat}(h:n<=2147483648):IntKind.i64.wrap (n:Int)=n:=IntWalk.i64_in _ M
theorem kp{e:TypeId}{b:Nat}(h:gz P e=some b): ∃i,P.info? e=some i/\i.bytes=b:=by
 unfold gz at h;split at h
 ·rename_i i hi;injection h with h;exact⟨i,hi,h⟩
 cases h
theorem make_sound{t:TypeId}{x x' y y':Value}{r:AN}(h:WRel μ H w)(hf: ∀b,H.next<=b->b<H'.next->μ b=none)(hx:VRel μ x x')(hy:VRel μ y y')
  (ho:ovh (aMake P t x y H)=some (r,H')):OpOK P μ H w (do Pure.pure (.value (←Instr.makeSlice t x' y'))) r H':=by
 obtain⟨v,O,rfl⟩:=lE ho
 unfold aMake at O
 split at O
 ·rename_i e hu;split at O
  ·rename_i sz U z n k hs hb hz hn hk;cases hq:(Nat.ble n k&&Nat.ble k 2147483648&&Nat.ble U 4096&&Nat.beq (fE z) sz&& !Nat.beq sz 0) with
   |false=>rw[hq]at O;cases O
   |true=>
    rw[hq]at O
    simp only[cond_true,a01,a04]at O
    obtain⟨rfl,rfl⟩:=O
    simp only[a03,a0u]at hq
    obtain⟨⟨⟨⟨q1,q2⟩,q3⟩,Z⟩,q5⟩:=hq
    have q1:n<=k:=a0b q1
    have q2:k<=2147483648:=a0b q2
    have q3:U<=4096:=a0b q3
    have Z:z.length=sz:=by rw[←bz];exact a06 Z
    have q5:sz≠0:=fun e=>by rw[e]at q5;cases q5
    obtain⟨i,vz,hi,bl,ba,a3⟩:=eZ (P:=P) hz
    obtain⟨ib,T,a8⟩:=kp hb
    rw[hi]at T;injection T with T;subst T
    obtain⟨l,h1,h2,h3,Y,an⟩:=jj (P:=P) h (hf H.next (a07 _) (by simp[aO])) e (LRel.refl0 (μ:=μ) (iT a3 k))
    refine OpOK.value (v':= .slice (some ⟨w.heap.size,0,none⟩) n k) ?_ an ?_
    ·obtain⟨kn,rfl⟩:=ge hn hx;obtain⟨kk,rfl⟩:=ge hk hy;have b1:=mi (n:=n) M;have b0:=mi (n:=k) q2;have bb:vz.cells=⟨z⟩:=by rw[←ba]
     have a4:U *k<=4096 *2147483648:=Nat.mul_le_mul q3 q2;have a5:(decide ((k:Int)<0)||decide ((i.bytes:Int) *(k:Int)>2^48)||decide ((n:Int)<0)||decide ((n:Int)>(k:Int)))=false:=by
      have hm:((i.bytes:Int) *(k:Int))<=8796093022208:=by rw[a8,←Int.natCast_mul];exact Int.ofNat_le.2 a4
      have h1: ¬((k:Int)<0):=M
      have h2: ¬((i.bytes:Int) *(k:Int)>2^48):=by
       have:(2:Int)^48=281474976710656:=by decide
       omega
      have h3: ¬((n:Int)<0):=M
      have h4: ¬((n:Int)>(k:Int)):=M
      simp only[decide_eq_false h1,decide_eq_false h2,decide_eq_false h3,decide_eq_false h4,Bool.or_self]
     simp only[Instr.makeSlice,Sem.run_bind,ak w hu,Result.andThen_ok,asInt,asIntOf,Sem.run_pure,eP w hi,b1,b0];rw[if_neg (by rw[a5];exact Bool.false_ne_true)];simp only[Sem.run_bind,run_askRoom,Result.andThen_ok,aZ w hs,Int.toNat_natCast];by_cases h0:k *sz=0
     ·have a9:dM k z=[]:=a0i (by rw[eU,Z];exact h0);have E: ∀g:Nat->Value,(Array.range (k *sz)).map g=⟨dM k z⟩:=fun g=>by rw[h0,a9];simp
      rw[if_pos h0];simp only[Sem.run_bind,Sem.run_pure,Result.andThen_ok,E,Y]
     have E:=zeros_eq ⟨z⟩ k;simp only[show(Array.mk z).size=sz from Z]at E;rw[if_neg h0];simp only[Sem.run_bind,dY w hi bl,Sem.run_pure,Result.andThen_ok,bb,show(Array.mk z).size=sz from Z,E,Y]
    have:=VRel.sliceC (μ:=μ.set H.next l) H.next 0 n k l (Emb.set_same _ _ _) h3
    rw[h1,h2]at this;exact this
  cases O
 cases O
end
end Go.R
namespace Go.R
section
variable {P:Program} {μ:Emb} {H H':Heap} {w:World}
theorem lW{n k l r:Nat}{lo hi:Option Value}(h:bnds n k lo hi=some (l,r)):
  cM n hi=some r/\cM 0 lo=some l/\l<=r/\r<=k:=by
 unfold bnds at h
 split at h
 ·rename_i O U;split at h
  ·rename_i l' T;cases E:(Nat.ble l' O&&Nat.ble O k) with
   |false=>rw[E]at h;cases h
   |true=>
    rw[E]at h;simp only[cond_true,a01,a04]at h
    obtain⟨rfl,rfl⟩:=h
    simp only[a03]at E
    exact⟨U,T,a0b E.1,a0b E.2⟩
  cases h
 cases h
theorem ei{v v':Value}{n y:Nat}(h:asNat v=some n)(O:VRel μ v v')(T:n<=y)(E:BoundsCode):(Instr.sliceBound v' y E).run P w= .ok n w:=by
 obtain⟨k,rfl⟩:=ge h O;have:(0:Int)<=(n:Int)/\(n:Int)<=(y:Int):=M
 simp[Instr.sliceBound,asIntOf,this.2]
theorem ee{isSlice:Bool}{n k Z l r:Nat}{lo hi al O:Option Value}(hb:bnds n k lo hi=some (l,r))(hk:k<=Z)
  (ar: ∀v,lo=some v->∃v',al=some v'/\VRel μ v v') (T:lo=none->al=none)
  (a1: ∀v,hi=some v->∃v',O=some v'/\VRel μ v v') (ax:hi=none->O=none):
  (Instr.sliceBounds isSlice n Z al O none).run P w= .ok (l,r,Z) w:=by
 obtain⟨h1,E,h3,h4⟩:=lW hb
 unfold Instr.sliceBounds
 cases hi with
 |none=>
  rw[ax rfl]
  simp only[cM,a01]at h1;subst h1
  cases lo with
  |none=>
   rw[T rfl]
   simp only[cM,a01]at E;subst E
   simp
  |some u=>
   obtain⟨u',U,Y⟩:=ar u V
   rw[U]
   simp only[Sem.run_bind,Sem.run_pure,Result.andThen_ok,ei (P:=P) (w:=w) E Y h3]
 |some v=>
  obtain⟨v',a3,hr⟩:=a1 v V
  rw[a3]
  cases lo with
  |none=>
   rw[T rfl]
   simp only[cM,a01]at E;subst E
   simp only[Sem.run_bind,Sem.run_pure,Result.andThen_ok,ei (P:=P) (w:=w) h1 hr (by omega:r<=Z)]
  |some u=>
   obtain⟨u',U,Y⟩:=ar u V
   rw[U]
   simp only[Sem.run_bind,Sem.run_pure,Result.andThen_ok,ei (P:=P) (w:=w) h1 hr (by omega:r<=Z),ei (P:=P) (w:=w) E Y h3]
theorem ed(s:ByteArray)(l r:Nat):s.extract l r=⟨⟨(s.data.toList.drop l).take (r-l)⟩⟩:=by apply ByteArray.ext;apply Array.ext';simp
theorem ln{t:TypeId}{x x':Value}{lo hi mx a6 a5 a9:Option Value}{r:AN}(h:WRel μ H w)(hx:VRel μ x x')
  (ax: ∀v,lo=some v->∃v',a6=some v'/\VRel μ v v') (al:lo=none->a6=none)
  (ar: ∀v,hi=some v->∃v',a5=some v'/\VRel μ v v') (Z:hi=none->a5=none) (b2:mx=none->a9=none)
  (ho:ovl (bQ P t x lo hi mx H) H=some (r,H')): ∃v v',r= .val v/\H'=H/\(Instr.sliceAt t x' a6 a5 a9).run P w= .ok v' w/\VRel μ v v':=by
 obtain⟨rfl,v,E,rfl⟩:=cR ho
 unfold bQ at E
 split at E
 ·cases E
 rw[b2 rfl]
 simp only at E
 split at E
 ·rename_i s hu;obtain rfl:=hx.string_inv;split at E
  ·rename_i l r hb;injection E with E;subst E;rw[bz]at hb;have b3:s.data.toList.length=s.size:=by simp
   rw[b3]at hb;refine⟨_,.string (s.extract l r),V,V,?_,?_⟩
   ·simp[Instr.sliceAt,Instr.slice,ak w hu,ee (P:=P) (w:=w) (isSlice:=false) hb (a07 _) ax al ar Z]
   rw[ed,bR,bW];exact .atom _ V
  cases E
 ·rename_i e hu;obtain rfl:=hx.eq0 V;split at E
  ·rename_i lr hb;obtain⟨l,r⟩:=lr;cases hs:dV P e with
   |none=>rw[hs]at E;cases E
   |some sz=>
    rw[hs]at E
    simp only[Option.isSome_some,cond_true,a01]at E;subst E
    obtain⟨_,_,h3,h4⟩:=lW hb
    obtain rfl:r=0:=M
    obtain rfl:l=0:=M
    refine⟨_,.slice none 0 0,V,V,?_,.atom _ V⟩
    simp[Instr.sliceAt,Instr.slice,ak w hu,ee (P:=P) (w:=w) (isSlice:=true) hb (a07 _) ax al ar Z,aZ w hs]
  cases E
 ·rename_i e b o n k hu;split at E
  ·rename_i l r sz cs b5 ro hb hs hg;obtain⟨O,hμ,hc⟩:=hx.slice_inv;have Y:O.opn=b5:=by
    have:=h.obj b O _ hμ hg;cases ro
    ·exact this.1
    exact this.1
   obtain⟨_,_,h3,h4⟩:=lW hb;split at E
   ·injection E with E;subst E;rcases hc with⟨U,rfl⟩|⟨e',o',k',U,rfl,_⟩|⟨rfl,rfl,a',rfl⟩
    rotate_right
    ·obtain rfl:r=0:=M
     obtain rfl:l=0:=M
     refine⟨_,.slice (some (if 0=0 then a' else a'.add (0 *sz))) (0-0) (0-0),V,V,?_,?_⟩
     ·simp only[Instr.sliceAt,Instr.slice,Sem.run_bind,ak w hu,Result.andThen_ok,ee (P:=P) (w:=w) (isSlice:=true) hb (a07 _) ax al ar Z,aZ w hs,Sem.run_pure];split<;>rfl
     exact .sliceZ b o a' O hμ
    ·refine⟨_,.slice (some (if k=l then⟨O.c,O.sh+o,none⟩ else Addr.add ⟨O.c,O.sh+o,none⟩ (l *sz))) (r-l) (k-l),V,V,?_,?_⟩
     ·simp only[Instr.sliceAt,Instr.slice,Sem.run_bind,ak w hu,Result.andThen_ok,ee (P:=P) (w:=w) (isSlice:=true) hb (a07 _) ax al ar Z,aZ w hs,Sem.run_pure];split<;>rfl
     by_cases T:k=l
     ·rw[if_pos T];have:Nat.beq k l=true:=by rw[T];exact a0M l
      rw[this];exact .sliceC b o _ _ O hμ U
     rw[if_neg T];have:Nat.beq k l=false:=by
      cases hq:Nat.beq k l with
      |false=>rfl
      |true=>exact absurd (a06 hq) T
     rw[this,dz,a12];exact .sliceC b (o+l *sz) _ _ O hμ U
    rw[Y]at U;cases U
   rename_i ez;cases hq:Nat.beq ez sz with
   |false=>rw[hq]at E;cases E
   |true=>
    rw[hq]at E
    simp only[cond_true,a01]at E;subst E
    have b0:ez=sz:=a06 hq
    rcases hc with⟨U,rfl⟩|⟨e',o',k',U,rfl,cm,b1,bb,cl⟩|⟨rfl,rfl,a',rfl⟩
    rotate_right
    ·obtain rfl:r=0:=M
     obtain rfl:l=0:=M
     refine⟨_,.slice (some (if 0=0 then a' else a'.add (0 *sz))) (0-0) (0-0),V,V,?_,?_⟩
     ·simp only[Instr.sliceAt,Instr.slice,Sem.run_bind,ak w hu,Result.andThen_ok,ee (P:=P) (w:=w) (isSlice:=true) hb (a07 _) ax al ar Z,aZ w hs,Sem.run_pure];split<;>rfl
     exact .sliceZ b _ a' O hμ
    ·rw[Y]at U;cases U
    rw[Y]at U;injection U with U
    subst U b0
    refine⟨_,.slice (some (if k'=l then⟨O.c,o',none⟩ else Addr.add ⟨O.c,o',none⟩ (l *ez))) (r-l) (k'-l),V,V,?_,?_⟩
    ·simp only[Instr.sliceAt,Instr.slice,Sem.run_bind,ak w hu,Result.andThen_ok,ee (P:=P) (w:=w) (isSlice:=true) hb b1 ax al ar Z,aZ w hs,Sem.run_pure];split<;>rfl
    by_cases T:k'=l
    ·rw[if_pos T];refine .sliceO b (o+l *ez) o' _ _ _ ez O hμ Y M M M ?_;rw[T,a1U,Nat.zero_mul];omega
    rw[if_neg T,dz]
    refine .sliceO b (o+l *ez) (o'+l *ez) _ _ _ ez O hμ Y M M (fun ci=>?_) ?_
    ·rw[bb M];omega
    have:l *ez+(k'-l) *ez=k' *ez:=by rw[←a0N];congr 1;omega
    omega
  cases E
 ·rename_i n e b o hu;split at E
  ·rename_i l r sz cs ro hb hs hg;obtain⟨O,hμ,rfl⟩:=hx.ptr_inv;have Y:O.opn=none:=by
    have:=h.obj b O _ hμ hg;cases ro
    ·exact this.1
    exact this.1
   injection E with E;subst E;refine⟨_,.slice (some (if n=l then⟨O.c,O.sh+o,none⟩ else Addr.add ⟨O.c,O.sh+o,none⟩ (l *sz))) (r-l) (n-l),V,V,?_,?_⟩
   ·simp only[Instr.sliceAt,Sem.run_bind,ak w hu,Result.andThen_ok,Instr.sureAddr,Sem.run_pure,ee (P:=P) (w:=w) (isSlice:=false) hb (a07 _) ax al ar Z,aZ w hs]
   by_cases T:n=l
   ·rw[if_pos T];have:Nat.beq n l=true:=by rw[T];exact a0M l
    rw[this];exact .sliceC b o _ _ O hμ Y
   rw[if_neg T];have:Nat.beq n l=false:=by
    cases hq:Nat.beq n l with
    |false=>rfl
    |true=>exact absurd (a06 hq) T
   rw[this,dz,a12];exact .sliceC b (o+l *sz) _ _ O hμ Y
  cases E
 cases E
theorem slice_sound{t:TypeId}{x x':Value}{lo hi mx O E T:Option Value}{r:AN}(h:WRel μ H w)(hx:VRel μ x x')
  (an: ∀v,lo=some v->∃v',O=some v'/\VRel μ v v') (Y:lo=none->O=none)
  (al: ∀v,hi=some v->∃v',E=some v'/\VRel μ v v') (U:hi=none->E=none) (ar:mx=none->T=none)
  (ho:ovl (bQ P t x lo hi mx H) H=some (r,H')):OpOK P μ H w (do Pure.pure (.value (←Instr.sliceAt t x' O E T))) r H':=by
 obtain⟨v,v',rfl,rfl,Z,hr⟩:=ln (P:=P) h hx an Y al U ar ho
 exact OpOK.value Z (Post.refl h) hr
theorem lenA_run{x O:Value}{m:Nat}(h:lenA x=some m)(E:VRel μ x O):(Builtin.lenOf O).run P w= .ok m w:=by
 unfold lenA at h;split at h
 ·injection h with h;subst h;rename_i a n k;obtain⟨T,U,rfl,_⟩:=dL E;rfl
 ·rename_i s;injection h with h;subst h;obtain rfl:=E.string_inv;rw[bz];simp[Builtin.lenOf]
 cases h
theorem eu{x x':Value}{sz m:Nat}{vs:List Value}(h:WRel μ H w)(hx:VRel μ x x')(hl: ∃m0,lenA x=some m0/\m<=m0)(E:g0 H sz m x=some vs):
  ∃U,(Builtin.firstCells sz m x').run P w= .ok ⟨U⟩ w/\LRel μ vs U/\vs.length=m *sz:=by
 unfold g0 at E
 split at E
 ·rename_i a n k;obtain⟨b,o,sp⟩:=a;have a3:sp=none:=hx.slice_some.1;subst a3;cases O:Nat.beq m 0 with
  |true=>
   rw[O]at E
   simp only[cond_true,a01]at E;subst E
   have hm:m=0:=a06 O
   subst hm
   obtain⟨_,a',k',rfl⟩:=hx.slice_some
   exact⟨[],by simp[Builtin.firstCells,loadCells,loadCellsFrom],.nil,by simp⟩
  |false=>
   rw[O]at E
   simp only[cond_false]at E
   have hm:m≠0:=fun e=>by subst e;cases O
   obtain⟨m0,T,ax⟩:=hl
   simp only[lenA,a01]at T;subst T
   obtain⟨l,hμ,hc⟩:=hx.slice_inv
   obtain⟨U,Z,hr,Y⟩:=iP (P:=P) h hμ E
   rcases hc with⟨_,rfl⟩|⟨e',o',k',_,rfl,a9,_,a0,_⟩|⟨hz,_,_⟩
   rotate_right
   ·omega
   ·exact⟨U,by simp only[Builtin.firstCells,Z],hr,Y⟩
   rw[a0 M]
   exact⟨U,by simp only[Builtin.firstCells,Z],hr,Y⟩
 ·rename_i n k;cases O:Nat.beq m 0 with
  |false=>rw[O]at E;cases E
  |true=>
   rw[O]at E
   simp only[cond_true,a01]at E;subst E
   have hm:m=0:=a06 O
   subst hm
   obtain⟨_,_,rfl⟩:=hx.sliceNil_inv
   exact⟨[],by simp[Builtin.firstCells],.nil,by simp⟩
 ·rename_i s;cases O:Nat.beq sz 1 with
  |false=>rw[O]at E;cases E
  |true=>
   rw[O]at E
   simp only[cond_true,a01,jO,bR]at E;subst E
   have hs:sz=1:=a06 O
   subst hs
   obtain rfl:=hx.string_inv
   obtain⟨m0,T,ax⟩:=hl
   simp only[lenA,bz,a01]at T;subst T
   refine⟨(s.data.toList.take m).map fun b=> .int .u8 b.toNat,?_,LRel.refl0 ?_,?_⟩
   ·simp only[Builtin.firstCells,Sem.run_pure,ed];congr 1;apply Array.ext';simp
   ·rw[a0s];intro u hu;obtain⟨c,_,rfl⟩:=a0t.1 hu;rfl
   simp at ax⊢;omega
 cases E
theorem growBy_le(E:Nat): ∀(r c:Nat),c<=E+(E+768)/4->Builtin.growBy E r c<=E+(E+768)/4
 |0,c,h=>h
 |r+1,c,h=>by
  simp only[Builtin.growBy];split
  ·exact h
  exact growBy_le E r _ M
theorem nextcap_le{n k:Nat}(h:k<n):Builtin.nextslicecap n k<=2 *n+768:=by
 unfold Builtin.nextslicecap;split
 ·omega
 split
 ·omega
 have:=growBy_le n 4 k M;omega
theorem dR{z:Array Value}{sz:Nat}(h:z.size=sz)(n:Nat):(Builtin.zeroCells z n).toList.length=n *sz:=by simp[Builtin.zeroCells,h]
theorem ji{st O ty e:TypeId}{T:TypeDesc}{E:Value}{base:Option Addr}{n m k sz:Nat}{i:TypeInfo}{z:Value}{old U:List Value}
  (hu:P.underlying st=some (.slice e)) (a4:P.underlying O=some T) (a2: ∀kk,T≠ .int kk) (hi:P.info? e=some i) (hs:i.size=sz) (hz:i.zero=some z)
  (Y:(Builtin.lenOf E).run P w= .ok m w) (a1:k<n+m) (a9:n+m<=2147483648) (a0:i.bytes<=4096)
  (an:(Builtin.firstCells sz n (.slice base n k)).run P w.drew= .ok ⟨old⟩ w.drew) (Z:(Builtin.firstCells sz m E).run P w.drew= .ok ⟨U⟩ w.drew):
  ∃nc,n+m<=nc/\(Builtin.append_ #[st,O] ty #[.slice base n k,E]).run P w=
   .ok (.slice (some ⟨w.heap.size,0,none⟩) (n+m) nc) (w.drew.alloc (.cells (⟨old⟩++⟨U⟩++Builtin.zeroCells z.cells (nc-(n+m))) e)):=by
 have a3:dV P e=some sz:=by unfold dV;rw[hi,←hs]
 have a5:=nextcap_le a1
 have al: ¬(Builtin.nextslicecap (n+m) k *i.bytes>2^48):=by
  have:Builtin.nextslicecap (n+m) k *i.bytes<=(2 *2147483648+768) *4096:=Nat.mul_le_mul M a0;have ba:(2:Nat)^48=281474976710656:=by decide
  omega
 have ax: ¬(((n+m:Nat):Int)>IntKind.i64.max/\(False\/i.bytes=0)):=by rw[IntKind.max_i64];omega
 refine⟨(Question.appendCap (n+m) k e).cut (w.tape w.drawn (.appendCap (n+m) k e)),by simp[Question.cut],?_⟩
 have bb:(match T with| .int _=>true|_=>false)=false:=by cases T<;>first|rfl|exact absurd V (a2 _)
 have e1: ∀a b:Value,(#[a,b]:Array Value)[0]?=some a/\(#[a,b]:Array Value)[1]?=some b:=fun a b=>⟨V,V⟩
 unfold Builtin.append_
 simp only[show(#[st,O]:Array TypeId)[0]?=some st from V,show(#[st,O]:Array TypeId)[1]?=some O from V,
  show(#[Value.slice base n k,E]:Array Value)[0]?=some (Value.slice base n k) from V,show(#[Value.slice base n k,E]:Array Value)[1]?=some E from V,
  Sem.run_bind,ak w hu,ak w a4,Result.andThen_ok,aZ w a3,Sem.run_pure,a0k,if_false,Y,
  show ¬(n+m<=k) by omega,eP w hi,al,ax]
 simp only[Sem.run_bind,run_choose,Question.forced,a0k,if_false,Result.andThen_ok,World.drew_eq,eP w.drew hi,run_askRoom,an,Z,a1G,if_true,
  dY w.drew hi hz,newRow,run_newObj,Sem.run_pure]
 rfl
theorem gw{st O ty e:TypeId}{T:TypeDesc}{E:Value}{base:Option Addr}{n m k sz:Nat}{U:List Value}{w':World}
  (hu:P.underlying st=some (.slice e)) (a0:P.underlying O=some T) (an: ∀kk,T≠ .int kk) (hs:dV P e=some sz)
  (Y:(Builtin.lenOf E).run P w= .ok m w) (al:n+m<=k) (Z:(Builtin.firstCells sz m E).run P w= .ok ⟨U⟩ w)
  (ax: ∀a,base=some a->(storeCells (a.add (n *sz)) U).run P w= .ok () w') (ar:base=none->w'=w):
  (Builtin.append_ #[st,O] ty #[.slice base n k,E]).run P w= .ok (.slice base (n+m) k) w':=by
 have a3:(match T with| .int _=>true|_=>false)=false:=by cases T<;>first|rfl|exact absurd V (an _)
 unfold Builtin.append_
 simp only[show(#[st,O]:Array TypeId)[0]?=some st from V,show(#[st,O]:Array TypeId)[1]?=some O from V,
  show(#[Value.slice base n k,E]:Array Value)[0]?=some (Value.slice base n k) from V,show(#[Value.slice base n k,E]:Array Value)[1]?=some E from V,
  Sem.run_bind,ak w hu,ak w a0,Result.andThen_ok,aZ w hs,Sem.run_pure,a0k,if_false,Y,al,if_true,a1G,Z]
 cases base with
 |none=>rw[ar rfl];rfl
 |some a=>simp only[Sem.run_bind,ax a V,Result.andThen_ok,Sem.run_pure]
theorem Post.kill(h:WRel μ H w){b:Nat}{l:Loc}{o:AObj}(hb:μ b=some l)(ho:H.get b=some o)(hr:o.rw=true):Post μ H w μ (H.put b .dead) w:=by
 refine⟨fun _ _ h=>h,fun _ _ h=> .inl h,a07 _,V,V,V,fun _ _ _=>rfl,fun k x Z T E a6=>?_,⟨fun k x Z T E=>?_,fun b1 b2 l1 l2 Y o2 a1 ar ax a2 a3 a5 U=>?_⟩⟩
 ·by_cases e:b=k
  ·subst e;exact .inr ⟨b,l,o,hb,ho,iD hr,fun _=>hr,by rw[hb]at T;injection T with T;rw[T]⟩
  rw[Heap.get_put_ne H _ e]at E;exact .inr ⟨k,x,Z,T,E,a6,id,V⟩
 ·by_cases e:b=k
  ·subst e;rw[Heap.get_put_same]at E;injection E with E;subst E;trivial
  rw[Heap.get_put_ne H _ e]at E;exact h.obj k x Z T E
 have old: ∀k ok,ok.live=true->(H.put b .dead).get k=some ok->H.get k=some ok:=by
  intro k ok a0 O;by_cases e:b=k
  ·subst e;rw[Heap.get_put_same]at O;injection O with O;subst O;simp[AObj.live]at a0
  rw[Heap.get_put_ne H _ e]at O;exact O
 exact h.inj b1 b2 l1 l2 Y o2 a1 ar ax (old b1 Y (by cases Y<;>simp_all[AObj.rw,AObj.live]) a2) (old b2 o2 U a3) a5 U
theorem szOf_info{e:TypeId}{s:Nat}(h:dV P e=some s): ∃i,P.info? e=some i/\i.size=s:=by
 unfold dV at h;split at h
 ·rename_i i hi;injection h with h;exact⟨i,hi,h⟩
 cases h
theorem ew(a b:List Value)(c:Array Value):(⟨a⟩++⟨b⟩++c:Array Value)=⟨(a++b)++c.toList⟩:=by apply Array.ext';simp
theorem append_sound{types:Array TypeId}{ty:TypeId}{s x s' x' v:Value}(h:WRel μ H w)(hf: ∀b,H.next<=b->b<H'.next->μ b=none)
  (hs:VRel μ s s') (hx:VRel μ x x') (e0:types.size=2) (E:gC P types s x H=some (v,H')):
  ∃v' w' μ',(Builtin.append_ types ty #[s',x']).run P w= .ok v' w'/\Post μ H w μ' H' w'/\VRel μ' v v':=by
 obtain⟨tl⟩:=types
 match tl,e0 with
 | [st,xt],_=>
 unfold gC at E
 simp only[show(#[st,xt]:Array TypeId)[0]?=some st from V,show(#[st,xt]:Array TypeId)[1]?=some xt from rfl]at E
 split at E
 ·rename_i e xd hu a2;split at E
  ·cases E
  rename_i a1;split at E
  ·rename_i sz fb z m b0 go hz hm;obtain⟨i,vz,hi,cv,fz,hn⟩:=eZ (P:=P) hz;obtain⟨i2,c9,hG⟩:=kp go;rw[hi]at c9;injection c9 with c9;subst c9;obtain⟨i3,dd,cm⟩:=szOf_info b0;rw[hi]at dd;injection dd with dd;subst dd;have Z:(Builtin.lenOf x').run P w= .ok m w:=lenA_run hm hx;split at E
   ·cases E
   rename_i cL d3;obtain⟨T,a0,a5,an⟩:=eu (P:=P) h hx ⟨m,hm,a07 _⟩ d3;obtain⟨hy,a4,a3,_⟩:=eu (P:=P) h.drew hx ⟨m,hm,a07 _⟩ d3;split at E
   ·--nil
    obtain rfl:=hs.eq0 V;cases hq:Nat.beq m 0 with
    |true=>
     rw[hq]at E
     simp only[cond_true,a01,a04]at E
     obtain⟨rfl,rfl⟩:=E
     have cl:m=0:=a06 hq
     subst cl
     exact⟨_,w,μ,gw (w':=w) hu a2 (fun kk=>a1 kk) b0 Z (a07 _) a0 (fun a ha=>by cases ha) (fun _=>rfl),Post.refl h,.atom _ V⟩
    |false=>
     rw[hq]at E
     simp only[cond_false]at E
     have cl:m≠0:=fun e=>by subst e;cases hq
     cases bb:(Nat.beq (fE z) sz&&Nat.ble m 2147483648&&Nat.ble fb 4096&& !Nat.beq sz 0) with
     |false=>rw[bb]at E;cases E
     |true=>
      rw[bb]at E
      simp only[cond_true,a01,a04]at E
      obtain⟨rfl,rfl⟩:=E
      simp only[a03,a0u]at bb
      obtain⟨⟨⟨q1,q2⟩,q3⟩,q4⟩:=bb
      have q1:z.length=sz:=by rw[←bz];exact a06 q1
      have q2:=a0b q2
      have q3:=a0b q3
      obtain⟨nc,a7,O⟩:=ji (P:=P) (w:=w) (ty:=ty) (base:=none) (n:=0) (k:=0) (old:=[]) hu a2 (fun kk=>a1 kk) hi cm cv Z M M M (by simp[Builtin.firstCells]) a4
      simp only[a0A]at O a7
      rw[ew,a0O]at O
      obtain⟨l,h1,h2,h3,h4,_,hp⟩:=dK (P:=P) h.drew (hf H.next (a07 _) (by simp[aO])) e a3 (Builtin.zeroCells vz.cells (nc-m)).toList (some sz) (fun e=>by cases e)
      refine⟨_,_,_,O,(Post.drew h).trans hp (a07 _) (by simp[aO]),?_⟩
      have:=VRel.sliceO (μ:=μ.set H.next l) H.next 0 0 m m nc sz l (Emb.set_same _ _ _) h3 (a07 _) a7 (fun _=>by omega) (by
       rw[h4,dR (show vz.cells.size=sz by rw[←q1,←fz];simp),an,a0A,←a0N];exact a0y _ M)
      rw[h1]at this;exact this
   ·--a slice
    rename_i b o n k;obtain⟨l,hμ,hc⟩:=hs.slice_inv;split at E
    ·rename_i cs g5 ro hg;have c4:l.opn=g5:=by
      have:=h.obj b l _ hμ hg;cases ro
      ·exact this.1
      exact this.1
     cases hq:Nat.ble (n+m) k with
     |true=>
      rw[hq]at E
      simp only[cond_true]at E
      have df:n+m<=k:=a0b hq
      cases dn:Nat.beq m 0 with
      |true=>
       rw[dn]at E
       simp only[cond_true,a01,a04]at E
       obtain⟨rfl,rfl⟩:=E
       have cl:m=0:=a06 dn
       subst cl
       have g1:T=[]:=a0i (by rw[←a5.1,an];simp)
       subst g1
       rcases hc with⟨Y,rfl⟩|⟨e',o',k',Y,rfl,fu,d2,b3,c8⟩|⟨rfl,rfl,a',rfl⟩
       rotate_right
       ·exact⟨_,w,μ,gw (w':=w) hu a2 (fun kk=>a1 kk) b0 Z df a0 (fun a ha=>rfl) (fun e=>by cases e),Post.refl h,hs⟩
       ·exact⟨_,w,μ,gw (w':=w) hu a2 (fun kk=>a1 kk) b0 Z df a0 (fun a ha=>rfl) (fun e=>by cases e),Post.refl h,hs⟩
       exact⟨_,w,μ,gw (w':=w) hu a2 (fun kk=>a1 kk) b0 Z M a0 (fun a ha=>rfl) (fun e=>by cases e),Post.refl h,hs⟩
      |false=>
       rw[dn]at E
       simp only[cond_false]at E
       have cl:m≠0:=fun e=>by subst e;cases dn
       split at E
       ·rename_i h1 g4;simp only[a01,a04]at E;obtain⟨rfl,rfl⟩:=E;obtain⟨w',O,hp⟩:=gQ (P:=P) h hμ g4 a5;rcases hc with⟨Y,rfl⟩|⟨e',o',k',Y,rfl,fu,d2,b3,c8⟩|⟨rfl,rfl,a',rfl⟩
        rotate_right
        ·omega
        ·refine⟨_,w',μ,gw (w':=w') hu a2 (fun kk=>a1 kk) b0 Z df a0 (fun a ha=>?_) (fun e=>by cases e),hp,.sliceC b o _ _ l hμ Y⟩;injection ha with ha;subst ha;rw[dz,a12];exact O
        refine⟨_,w',μ,gw (w':=w') hu a2 (fun kk=>a1 kk) b0 Z M a0 (fun a ha=>?_) (fun e=>by cases e),hp,.sliceO b o o' _ _ _ e' l hμ Y df d2 b3 c8⟩;injection ha with ha;subst ha;rw[dz,b3 M,a12];exact O
       cases E
     |false=>
      rw[hq]at E
      simp only[cond_false]at E
      have fl:k<n+m:=by
       rcases a0c k (n+m) with h'|h'
       ·exact h'
       rw[a0q h']at hq;cases hq
      cases bb:(Nat.beq (fE z) sz&&Nat.ble (n+m) 2147483648&&Nat.ble fb 4096&& !Nat.beq sz 0&&Nat.ble n k) with
      |false=>rw[bb]at E;cases E
      |true=>
       rw[bb]at E
       simp only[cond_true]at E
       simp only[a03,a0u]at bb
       obtain⟨⟨⟨⟨q1,q2⟩,q3⟩,q4⟩,q5⟩:=bb
       have q1:z.length=sz:=by rw[←bz];exact a06 q1
       have q2:=a0b q2
       have q3:=a0b q3
       have q5:=a0b q5
       have hJ:sz≠0:=fun e=>by rw[e]at q4;cases q4
       have ci:vz.cells.size=sz:=by rw[←q1,←fz];simp
       split at E
       ·cases E
       rename_i old ar
       obtain⟨hA,hl,he,a6⟩:=eu (P:=P) h hs ⟨n,V,a07 _⟩ ar
       obtain⟨hB,ba,a9,_⟩:=eu (P:=P) h.drew hs ⟨n,V,a07 _⟩ ar
       split at E
       ·--exact
        simp only[a01,a04]at E;obtain⟨rfl,rfl⟩:=E;rcases hc with⟨Y,rfl⟩|⟨e',o',k',Y,rfl,_⟩|⟨rfl,rfl,a',rfl⟩
        rotate_right
        ·obtain⟨nc,a7,O⟩:=ji (P:=P) (w:=w) (ty:=ty) hu a2 (fun kk=>a1 kk) hi cm cv Z fl q2 M ba a4;rw[ew]at O;obtain⟨l',h1,h2,h3,h4,_,hp⟩:=dK (P:=P) h.drew (hf H.next (a07 _) (by simp[aO])) e (a9.append a3) (Builtin.zeroCells vz.cells (nc-(0+m))).toList (some sz) (fun e=>by cases e);rw[ef];refine⟨_,_,_,O,(Post.drew h).trans hp (a07 _) (by simp[aO]),?_⟩;have:=VRel.sliceO (μ:=μ.set H.next l') H.next 0 0 (0+m) (0+m) nc sz l' (Emb.set_same _ _ _) h3 (a07 _) a7 (fun _=>by omega) (by
          rw[h4,dR ci,a00,a6,an,a0A,←a0N,←a0N];exact a0y _ M)
         rw[h1]at this;exact this
        ·obtain⟨nc,a7,O⟩:=ji (P:=P) (w:=w) (ty:=ty) hu a2 (fun kk=>a1 kk) hi cm cv Z fl q2 M ba a4;rw[ew]at O;obtain⟨l',h1,h2,h3,h4,_,hp⟩:=dK (P:=P) h.drew (hf H.next (a07 _) (by simp[aO])) e (a9.append a3) (Builtin.zeroCells vz.cells (nc-(n+m))).toList (some sz) (fun e=>by cases e);rw[ef];refine⟨_,_,_,O,(Post.drew h).trans hp (a07 _) (by simp[aO]),?_⟩;have:=VRel.sliceO (μ:=μ.set H.next l') H.next 0 0 (n+m) (n+m) nc sz l' (Emb.set_same _ _ _) h3 (a07 _) a7 (fun _=>by omega) (by
          rw[h4,dR ci,a00,a6,an,a0A,←a0N,←a0N];exact a0y _ M)
         rw[h1]at this;exact this
        rw[c4]at Y;cases Y
       ·--open
        rename_i U;cases dp:(Nat.beq U sz&& !ro&&nW Value.oneCell' cL) with
        |false=>rw[dp]at E;cases E
        |true=>
         rw[dp]at E
         simp only[cond_true,a01,a04]at E
         obtain⟨rfl,rfl⟩:=E
         simp only[a03,a0u]at dp
         obtain⟨⟨q6,q7⟩,q8⟩:=dp
         have q6:U=sz:=a06 q6
         subst q6 q7
         rcases hc with⟨Y,rfl⟩|⟨e',o',k',Y,rfl,fu,d2,b3,c8⟩|⟨rfl,rfl,a',rfl⟩
         rotate_right
         ·have b6:μ H.next=none:=hf H.next (a07 _) (by simp[aO]);obtain⟨nc,a7,O⟩:=ji (P:=P) (w:=w) (ty:=ty) hu a2 (fun kk=>a1 kk) hi cm cv Z M q2 M ba a4;rw[ew]at O;have hk:=Post.kill h hμ hg V;obtain⟨l',h1,h2,h3,h4,_,hp⟩:=dK (P:=P) (H:=H.put b .dead) hk.wrel.drew b6 e (a9.append a3) (Builtin.zeroCells vz.cells (nc-(0+m))).toList (some U) (fun e=>by cases e);rw[ef];refine⟨_,_,_,O,(hk.trans (Post.drew hk.wrel) (a07 _) (a07 _)).trans hp (a07 _) (by simp[aO]),?_⟩;have:=VRel.sliceO (μ:=μ.set H.next l') H.next 0 0 (0+m) (0+m) nc U l' (Emb.set_same _ _ _) h3 (a07 _) a7 (fun _=>by omega) (by
           rw[h4,dR ci,a00,a6,an,a0A,←a0N,←a0N];exact a0y _ M)
          rw[h1]at this;exact this
         ·rw[c4]at Y;cases Y
         rw[c4]at Y;injection Y with Y;subst Y
         have b6:μ H.next=none:=hf H.next (a07 _) (by simp[aO])
         by_cases d1:n+m<=k'
         ·--in place
          obtain⟨r1,a8,et,hh,r2,r3,r4⟩:=h.obj b l _ hμ hg;have dk:T.length=m *U:=by rw[←a5.1];exact an
          have hI:m≠0:=M
          have g3:T≠ []:=fun e=>by rw[e]at dk;have:=Nat.mul_eq_zero.1 dk.symm;omega
          have e7:T.all Value.oneCell'=true:=by
           rw[a0s];intro u b7;obtain⟨j,hj⟩:=List.getElem?_of_mem b7;have fi:j<cL.length:=by rw[a5.1];exact(a0r.1 hj).1
           have hr:=a5.2 j cL[j] u (a09 fi) hj;rw[hr.oneCell];rw[nV]at q8;exact a0s.1 q8 _ (a0E fi)
          have c0:o'+n *U+T.length<=a8.size:=by rw[dk,r2];have:(n+m) *U<=k' *U:=a0y _ d1;rw[a0N]at this;omega
          have co:=dZ (P:=P) l.c et T w a8 (o'+n *U) 0 hh M e7 g3;simp only[a1v]at co;have f2:(bx a8.toList (o'+n *U) T).length=a8.size:=by rw[cO _ _ _ (by simpa using c0)];simp
          have e8:=Post.take h hμ hg V b6 ⟨l.c,o',some U,l.csz⟩ V (.cells (appL old cL) (some U) false) (.cells ⟨bx a8.toList (o'+n *U) T⟩ et (0,0)) (by
           refine⟨V,_,et,bJ w _ (cr hh),by show(bx a8.toList (o'+n *U) T).length=_;rw[f2,r2],?_,fun j u hj=>?_⟩
           ·rw[ef,a00,a6,an];show o'+_<=l.csz;rw[←r2];rw[dk]at c0;omega
           rw[ef]at hj;have mg: ∀v':Value,(bx a8.toList (o'+n *U) T)[o'+j]?=some v'->(Array.mk (bx a8.toList (o'+n *U) T))[o'+j]?=some v':=fun v' hv=>(lK _ _).trans hv
           rw[bF _ _ _ _ (by simpa using c0)]at mg;by_cases fk:j<n *U
           ·rw[a11 M]at hj;rw[if_neg M]at mg;have g2:n≠0:=fun e=>by subst e;simp at fk
            unfold g0 at ar;have gm:Nat.beq n 0=false:=by
             cases f9:Nat.beq n 0 with
             |false=>rfl
             |true=>exact absurd (a06 f9) g2
            rw[gm]at ar;simp only[cond_false,Heap.loadN,hg,bR,bW,bz]at ar;cases fd:Nat.beq ((cs.drop o).take (n *U)).length (n *U) with
            |false=>rw[fd]at ar;cases ar
            |true=>
             rw[fd]at ar
             simp only[cond_true,a01]at ar
             rw[←ar,a0x,if_pos fk,a0F]at hj
             obtain⟨u',b7,hr⟩:=r4 (o+j) u hj
             refine⟨u',mg u' ?_,hr.mono (Emb.set_ext _ b6)⟩
             have:o'+j=l.sh+(o+j):=by have:=b3 M;omega
             rw[this];simpa using b7
           rw[a1b M,a6]at hj;obtain⟨u',b7,hr⟩:=a5.get hj;have hH:j-n *U<T.length:=(a0r.1 b7).1;rw[if_pos M]at mg;exact⟨u',mg u' (by rw[←b7];congr 1;omega),hr.mono (Emb.set_ext _ b6)⟩)
          refine⟨.slice (some ⟨l.c,o',none⟩) (n+m) k',_,_,gw (w':=be w l.c (.cells ⟨bx a8.toList (o'+n *U) T⟩ et (0,0))) hu a2 (fun kk=>a1 kk) b0 Z d1 a0 (fun a ha=>?_) (fun e=>by cases e),e8,?_⟩
          ·injection ha with ha;subst ha;rw[dz];exact co
          exact VRel.sliceO (μ:=μ.set H.next ⟨l.c,o',some U,l.csz⟩) H.next 0 o' (n+m) (n+m) k' U ⟨l.c,o',some U,l.csz⟩ (Emb.set_same _ _ _) V (a07 _) d1 (fun _=>rfl) c8
         ·--a cL row
          obtain⟨nc,a7,O⟩:=ji (P:=P) (w:=w) (ty:=ty) hu a2 (fun kk=>a1 kk) hi cm cv Z M q2 M ba a4;rw[ew]at O;have hk:=Post.kill h hμ hg V;obtain⟨l',h1,h2,h3,h4,_,hp⟩:=dK (P:=P) (H:=H.put b .dead) hk.wrel.drew b6 e (a9.append a3) (Builtin.zeroCells vz.cells (nc-(n+m))).toList (some U) (fun e=>by cases e);rw[ef];refine⟨_,_,_,O,(hk.trans (Post.drew hk.wrel) (a07 _) (a07 _)).trans hp (a07 _) (by simp[aO]),?_⟩;have:=VRel.sliceO (μ:=μ.set H.next l') H.next 0 0 (n+m) (n+m) nc U l' (Emb.set_same _ _ _) h3 (a07 _) a7 (fun _=>by omega) (by
           rw[h4,dR ci,a00,a6,an,a0A,←a0N,←a0N];exact a0y _ M)
          rw[h1]at this;exact this
    cases E
   cases E
  cases E
 cases E
end
end Go.R
namespace Go.R
section
variable {P:Program} {μ:Emb} {H H':Heap} {w:World}
theorem copy_sound{types:Array TypeId}{ty:TypeId}{d s d' U v:Value}(h:WRel μ H w)(hd:VRel μ d d')(hs:VRel μ s U)(E:aCopy P types d s H=some (v,H')):
  ∃v' w',(Builtin.copy_ types ty #[d',U]).run P w= .ok v' w'/\Post μ H w μ H' w'/\VRel μ v v':=by
 unfold aCopy at E
 split at E
 ·rename_i dt a1;split at E
  ·rename_i e base T dk m hu hm;split at E
   ·rename_i sz a2;simp only at E;obtain⟨O,Y,rfl,b7⟩:=dL hd;have an:(Builtin.lenOf U).run P w= .ok m w:=lenA_run hm hs;cases hq:Nat.beq (Nat.min m T) 0 with
    |true=>
     rw[hq]at E
     simp only[cond_true,a01,a04]at E
     obtain⟨rfl,rfl⟩:=E
     have h0:Nat.min m T=0:=a06 hq
     refine⟨_,w,?_,Post.refl h,.atom (goInt 0) V⟩
     have a8:(Builtin.firstCells sz 0 U).run P w= .ok #[] w:=by
      unfold lenA at hm;split at hm
      ·rename_i a n k;obtain⟨a',k',rfl,_⟩:=dL hs;cases a'<;>simp[Builtin.firstCells,loadCells,loadCellsFrom]
      ·rename_i u;obtain rfl:=hs.string_inv;simp only[Builtin.firstCells,Sem.run_pure,ed];congr 1;simp
      cases hm
     unfold Builtin.copy_
     simp only[a1,show(#[Value.slice O T Y,U]:Array Value)[0]?=some (Value.slice O T Y) from V,show(#[Value.slice O T Y,U]:Array Value)[1]?=some U from V,
      Sem.run_bind,ak w hu,Result.andThen_ok,an,aZ w a2,h0,a8]
     cases O<;>simp[storeCells]
    |false=>
     rw[hq]at E
     simp only[cond_false]at E
     split at E
     ·rename_i l a hl;split at E
      ·rename_i H1 bb;simp only[a01,a04]at E;obtain⟨rfl,rfl⟩:=E;obtain⟨b,o,sp⟩:=a;have ba:sp=none:=hd.slice_some.1;subst ba;obtain⟨ch,a9,a0,b0⟩:=eu (P:=P) h hs ⟨m,hm,Nat.min_le_left _ _⟩ hl;obtain⟨Z,hμ,hc⟩:=hd.slice_inv;have h0:Nat.min m T≠0:=fun e=>by rw[e]at hq;cases hq
       have b8:0<T:=by
        rcases a1t T with e|e
        ·exfalso;apply h0;rw[e];exact Nat.min_zero _
        exact e
       obtain⟨w',a5,hp⟩:=gQ (P:=P) h hμ bb a0;have a7:O=some ⟨Z.c,Z.sh+o,none⟩:=by
        rcases hc with⟨_,he⟩|⟨e',o',k',_,he,b9,_,a4,_⟩|⟨hz,_,_⟩
        rotate_right
        ·omega
        ·injection he with he
        injection he with he _ _;rw[he,a4 M]
       subst a7;refine⟨goInt (Nat.min m T:Nat),w',?_,hp,.atom _ V⟩;unfold Builtin.copy_;simp only[a1,show(#[Value.slice (some ⟨Z.c,Z.sh+o,none⟩) T Y,U]:Array Value)[0]?=some (Value.slice (some ⟨Z.c,Z.sh+o,none⟩) T Y) from V,
        show(#[Value.slice (some ⟨Z.c,Z.sh+o,none⟩) T Y,U]:Array Value)[1]?=some U from V,
        Sem.run_bind,ak w hu,Result.andThen_ok,an,aZ w a2,a9,a5,Sem.run_pure]
      cases E
     cases E
   cases E
  cases E
 cases E
theorem len_sound{t ty:TypeId}{x x' v:Value}(h:WRel μ H w)(U:VRel μ x x')(E:aLen P t x H=some v):
  (Builtin.len_ #[t] ty #[x']).run P w= .ok v w/\dx v=true:=by
 unfold aLen at E
 split at E
 ·rename_i e a n k O;injection E with E;subst E;obtain⟨a',k',rfl,_⟩:=dL U;exact⟨by simp[Builtin.len_,ak w O],V⟩
 ·rename_i s O;injection E with E;subst E;obtain rfl:=U.string_inv;exact⟨by simp[Builtin.len_,ak w O,bz],V⟩
 ·rename_i k e O;injection E with E;subst E;obtain rfl:=U.mapNil_inv;exact⟨by simp[Builtin.len_,ak w O],V⟩
 ·rename_i k e r O;split at E
  ·rename_i es hg;injection E with E;subst E;obtain⟨l,hμ,rfl⟩:=U.map_inv;obtain⟨Z,T,hh,hl,_⟩:=h.obj r l _ hμ hg;have Y:(getObj l.c).run P w= .ok (.map Z T) w:=ii hh (by intros;simp);exact⟨by simp[Builtin.len_,ak w O,Y,hl],V⟩
  cases E
 cases E
theorem gH: ∀(l:List Value) (r:List UInt8) (s:ByteArray),ct l=some r->
  (forIn (m:=Sem) l s (fun c s=>match c with
   | .int .u8 n=>Pure.pure (ForInStep.yield (s.push (UInt8.ofNat n.toNat)))
   |_=>do stuck "bytesToString: byte expected";Pure.pure (ForInStep.yield s))).run P w= .ok ⟨⟨s.data.toList++r⟩⟩ w
 | [],r,s,h=>by simp only[ct,a01]at h;subst h;simp
 |v::l,r,s,h=>by
  unfold ct at h;split at h
  ·rename_i E;cases E
  ·rename_i n U E;injection E with h1 h2;subst h1 h2;split at h
   ·rename_i T O;injection h with h;subst h;have ih:=gH l T (s.push (UInt8.ofNat n.toNat)) O;simp only[List.forIn_cons,Sem.run_bind,Sem.run_pure,Result.andThen_ok,ih];congr 3;simp
   cases h
  cases h
theorem fG: ∀(l:List Value) (r:List UInt8),ct l=some r->l.all dx=true
 | [],_,_=>rfl
 |v::l,r,h=>by
  unfold ct at h;split at h
  ·rename_i E;cases E
  ·rename_i n U E;injection E with h1 h2;subst h1 h2;split at h
   ·rename_i T O;simp only[a0o,dx,a1o];exact fG l T O
   cases h
  cases h
theorem nI{ρ ρ':Operand->Value}{o:Oper}{s d:TypeId}{x:Operand}{r:AN}(h:WRel μ H w)(ax:o.op= .convert s d x)(hρ: ∀x∈o.op.operands,VRel μ (ρ x) (ρ' x))
  (ho:fJ P ρ o s d (ρ x) H=some (r,H')):OpOK P μ H w (execOp ρ' o) r H':=by
 have Z:VRel μ (ρ x) (ρ' x):=hρ x (by rw[ax];simp[Op.operands])
 have al:execOp ρ' o=(do Pure.pure (.value (←convert s d (ρ' x)))):=by unfold execOp;simp only[ax]
 unfold fJ at ho
 split at ho
 ·rename_i k n hv;rw[hv]at Z;obtain⟨rfl,v,E,rfl⟩:=cR ho;unfold nJ at E;split at E
  ·rename_i sd kd U T;injection E with E;subst E;rw[al];refine OpOK.value (v':= .int kd (kd.wrap n)) ?_ (Post.refl h) (.atom _ V);rw[Z.int_inv];simp[convert,ak w U,ak w T,Conv.intToInt]
  cases E
 ·rename_i a n k hv;rw[hv]at Z;obtain⟨rfl,v,E,rfl⟩:=cR ho;rw[al];unfold dh at E;split at E
  ·rename_i e U T;split at E
   ·rename_i a0;split at E
    ·injection E with E;subst E;obtain⟨_,_,O⟩:=Z.sliceNil_inv;refine OpOK.value (v':= .string .empty) ?_ (Post.refl h) (.atom _ V);rw[O];simp[convert,ak w U,ak w T,ak w a0,Conv.bytesToString]
    rename_i a;obtain⟨b,o2,sp⟩:=a;have a9:sp=none:=Z.slice_some.1;subst a9;cases hq:Nat.beq n 0 with
    |true=>
     rw[hq]at E
     simp only[cond_true,a01]at E;subst E
     have hn:n=0:=a06 hq
     subst hn
     obtain⟨_,a',k',O⟩:=Z.slice_some
     refine OpOK.value (v':= .string .empty) ?_ (Post.refl h) (.atom _ V)
     rw[O]
     simp[convert,ak w U,ak w T,ak w a0,Conv.bytesToString,loadCells,loadCellsFrom]
    |false=>
     rw[hq]at E
     simp only[cond_false]at E
     have hn:n≠0:=fun e=>by subst e;cases hq
     split at E
     ·rename_i l hl;split at E
      ·rename_i rb a3;injection E with E;subst E;obtain⟨l0,hμ,hc⟩:=Z.slice_inv;obtain⟨a4,Y,a7,b2⟩:=iP (P:=P) h hμ hl;have ba:a4=l:=a7.eq0 (fG l rb a3);subst ba;have O: ∃k',ρ' x= .slice (some ⟨l0.c,l0.sh+o2,none⟩) n k':=by
        rcases hc with⟨_,he⟩|⟨e',o',k',_,he,b8,_,a6,_⟩|⟨hz,_,_⟩
        rotate_right
        ·exact absurd hz hn
        ·exact⟨k,he⟩
        rw[a6 M]at he;exact⟨k',he⟩
       obtain⟨k',O⟩:=O;refine OpOK.value (v':= .string ⟨⟨rb⟩⟩) ?_ (Post.refl h) (.atom _ V);rw[O];have hb:=gH (P:=P) (w:=w) a4 rb .empty a3;simp only[convert,Sem.run_bind,ak w U,ak w T,ak w a0,Result.andThen_ok,Conv.bytesToString,Y];have he:((ByteArray.empty.data.toList++rb:List UInt8))=rb:=rfl;rw[he]at hb;simp only[←Array.forIn_toList]at *
       exact congrArg (fun r=>Result.andThen r fun a w'=>Sem.run P (Pure.pure (Value.string a)) w') hb
      cases E
     cases E
   cases E
  cases E
 obtain⟨rfl,v,v',rfl,Y,hr⟩:=d4 ho (fun _ _=>by rw[ax];simp) hρ
 exact⟨.value v',w,μ,Y w,Post.refl h,hr⟩
theorem er{d:TypeDesc}{k:Value}(h:cx d k=true):dx k=true:=by unfold cx at h;split at h<;>first|rfl|cases h
theorem jt(a b:ByteArray):(a==b)=d6 a b:=by
 have e:(a==b)=(a.data==b.data):=by cases a;cases b;rfl
 rw[e,a0G];simp only[beq_iff_eq,d6];constructor
 ·intro h;rw[h]
 intro h;exact a0P.1 h
theorem bytesEq_iff{a b:ByteArray}(h:d6 a b=true):a=b:=by simp only[d6,beq_iff_eq]at h;exact ByteArray.ext (a0P.1 h)
theorem js(a:ByteArray):(a==a)=true:=by rw[jt];simp[d6]
theorem sameNow_key{d:TypeDesc}{a b:Value}(ha:cx d a=true)(hb:cx d b=true):Instr.sameNow d a b=some (eE a b):=by
 unfold cx at ha hb;split at ha
 ·split at hb
  ·rename_i k k1 n _ _ k2 O E;injection E with e1;subst e1;simp only[beq_iff_eq]at ha hb;subst ha hb;simp[Instr.sameNow,eE]
  ·cases ‹TypeDesc.int _=_›
  ·cases ‹TypeDesc.int _=_›
  cases hb
 ·split at hb
  ·cases ‹TypeDesc.string=_›
  ·simp[Instr.sameNow,eE,jt]
  ·cases ‹TypeDesc.string=_›
  cases hb
 ·split at hb
  ·cases ‹TypeDesc.bool=_›
  ·cases ‹TypeDesc.bool=_›
  ·simp[Instr.sameNow,eE]
  cases hb
 cases ha
def EntRel(μ:Emb)(es:List (Value×Value))(E:List MapEntry):Prop:=
 es.length=E.length/\∀(i:Nat) x y,es[i]?=some x->E[i]?=some y->VRel μ x.1 y.key/\VRel μ x.2 y.val
theorem EntRel.cons_left{x:Value×Value}{es:List (Value×Value)}{E:List MapEntry}(h:EntRel μ (x::es) E):
  ∃y t,E=y::t/\VRel μ x.1 y.key/\VRel μ x.2 y.val/\EntRel μ es t:=by
 cases E with
 |nil=>have:=h.1;simp at this
 |cons y t=>
  obtain⟨O,T⟩:=h.2 0 x y V V
  exact⟨y,t,V,O,T,by have:=h.1;simpa using this,fun i a b ha hb=>h.2 (i+1) a b (by simpa using ha) (by simpa using hb)⟩
theorem EntRel.cons{x:Value×Value}{es:List (Value×Value)}{y:MapEntry}{E:List MapEntry}(O:VRel μ x.1 y.key)(T:VRel μ x.2 y.val)(h:EntRel μ es E):
  EntRel μ (x::es) (y::E):=by
 refine⟨by simp[h.1],fun i a b ha hb=>?_⟩
 cases i with
 |zero=>simp at ha hb;subst ha hb;exact⟨O,T⟩
 |succ i=>exact h.2 i a b (by simpa using ha) (by simpa using hb)
theorem iR{d:TypeDesc}{k:Value}(hk:cx d k=true): ∀(es:List (Value×Value)) (ces:List MapEntry) (i:Nat),EntRel μ es ces->es.all (fun e=>cx d e.1)=true->
  (∃v v' j,hC d k es=some v/\Instr.findNow d k ces i=some (some (i+j,v'))/\VRel μ v v'/\j<ces.length/\
    (∃y,ces[j]?=some y/\eE k y.key=true/\cx d y.key=true)/\(∀u E,VRel μ u E->EntRel μ (je k u es) (ces.modify j fun e=>{e with key:=k,val:=E})))\/
  (hC d k es=none/\Instr.findNow d k ces i=some none/\∀u E b,VRel μ u E->EntRel μ (je k u es) (ces++[{key:=k,val:=E,born:=b}]))
 | [],ces,i,h,_=>by have:ces=[]:=a0i h.1.symm;subst this;refine .inr ⟨V,V,fun u E b O=>?_⟩;exact EntRel.cons (x:=(k,u)) (.atom k (er hk)) O ⟨V,fun i a b ha=>by simp at ha⟩
 |x::es,ces,i,h,hall=>by
  obtain⟨y,t,rfl,U,Y,ht⟩:=h.cons_left;simp only[a0o,a03]at hall;have Z:y.key=x.1:=U.eq0 (er hall.1);have T:Instr.sameNow d k y.key=some (eE k x.1):=by rw[Z];exact sameNow_key hk hall.1
  cases hs:eE k x.1 with
  |true=>
   refine .inl ⟨x.2,y.val,0,?_,?_,Y,by simp,⟨y,V,by rw[Z];exact hs,by rw[Z];exact hall.1⟩,fun u E O=>?_⟩
   ·simp only[hC,hs,cond_true]
   ·simp only[Instr.findNow,T,hs];rfl
   simp only[je,hs,cond_true,List.modify_zero_cons]
   exact EntRel.cons (x:=(k,u)) (.atom k (er hk)) O ht
  |false=>
   rcases iR hk es t (i+1) ht hall.2 with⟨v,v',j,h1,h2,h3,h4,h5,h6⟩|⟨h1,h2,h3⟩
   ·refine .inl ⟨v,v',j+1,?_,?_,h3,by simpa using h4,?_,fun u E O=>?_⟩
    ·simp only[hC,hs,cond_false];exact h1
    ·simp only[Instr.findNow,T,hs];rw[h2];congr 3;omega
    ·obtain⟨y2,a1,h7⟩:=h5;exact⟨y2,by simpa using a1,h7⟩
    simp only[je,hs,cond_false,List.modify_succ_cons];exact EntRel.cons (x:=(x.1,x.2)) U Y (h6 u E O)
   refine .inr ⟨?_,?_,fun u E b O=>?_⟩
   ·simp only[hC,hs,cond_false];exact h1
   ·simp only[Instr.findNow,T,hs];exact h2
   simp only[je,hs,cond_false,a0K]
   exact EntRel.cons (x:=(x.1,x.2)) U Y (h3 u E b O)
theorem fF{d:TypeDesc}{T:TypeId}{k:Value}(O:P.underlying T=some d)(E:cx d k=true)(b:Bool):(Instr.checkKey b 10000 T k).run P w= .ok () w:=by
 have key: ∀n,(Instr.checkKey b (n+1) T k).run P w= .ok () w:=by
  intro n;unfold cx at E;split at E
  ·simp[Instr.checkKey,ak w O]
  ·simp[Instr.checkKey,ak w O]
  ·simp[Instr.checkKey,ak w O]
  cases E
 exact key 9999
theorem lookup_sound{t:TypeId}{m k m' k' v:Value}{ok:Bool}(h:WRel μ H w)(hm:VRel μ m m')(hk:VRel μ k k')(E:hY P t m k ok H=some v):
  ∃v',(Instr.lookup t m' k' ok).run P w= .ok v' w/\VRel μ v v':=by
 unfold hY at E
 split at E
 ·rename_i kt et hu;split at E
  ·rename_i d i hd hi;split at E
   ·rename_i z hz;cases O:(cx d k&&jM z) with
    |false=>rw[O]at E;cases E
    |true=>
     rw[O]at E
     simp only[cond_true]at E
     simp only[a03]at O
     have a6:k'=k:=hk.eq0 (er O.1)
     subst a6
     have a0:VRel μ z z:=VRel.refl1 O.2
     have a1:(zeroValue et).run P w= .ok z w:=dY w hi hz
     have ar: ∀(u T:Value) (b:Bool),VRel μ u T->VRel μ (bif ok then .tuple #[u,.bool b] else u) (if ok then .tuple #[T,.bool b] else T):=by
      intro u T b hu;cases ok
      ·exact hu
      have:=LRel.cons hu (LRel.cons (VRel.atom (μ:=μ) (.bool b) V) LRel.nil);exact .tuple _ _ this.1 this.2
     split at E
     ·injection E with E;subst E;obtain rfl:=hm.mapNil_inv;refine⟨_,?_,ar z z false a0⟩;simp only[Instr.lookup,Sem.run_bind,ak w hu,Result.andThen_ok,Sem.run_pure,fF hd O.1,Instr.findKey,ak w hd];simp[Instr.findNow,a1]
     ·rename_i r;split at E
      ·rename_i es hg;cases Z:es.all fun e=>cx d e.1 with
       |false=>rw[Z]at E;cases E
       |true=>
        rw[Z]at E
        simp only[cond_true]at E
        obtain⟨l,hμ,rfl⟩:=hm.map_inv
        obtain⟨U,ax,hh,hl,a4⟩:=h.obj r l _ hμ hg
        have a5:(getObj l.c).run P w= .ok (.map U ax) w:=ii hh (by intros;simp)
        have Y: ∀c_,Instr.findNow d k' U.toList 0=some c_->(Instr.lookup t (.map (some l.c)) k' ok).run P w=
          (match c_ with
           |some (_,v)=>(.ok (if ok then .tuple #[v,.bool true] else v) w:Result Value)
           |none=> .ok (if ok then .tuple #[z,.bool false] else z) w):=by
         intro c_ hX
         simp only[Instr.lookup,Sem.run_bind,ak w hu,Result.andThen_ok,Sem.run_pure,a5,fF hd O.1,Instr.findKey,ak w hd,hX]
         cases c_ with
         |none=>simp[a1]
         |some p=>obtain⟨j,u⟩:=p;simp
        rcases iR O.1 es U.toList 0 ⟨hl,a4⟩ Z with⟨u,T,j,h1,h2,h3,_⟩|⟨h1,h2,_⟩
        ·rw[h1]at E;simp only[a01]at E;subst E;exact⟨_,Y _ h2,ar u T true h3⟩
        rw[h1]at E
        simp only[a01]at E;subst E
        exact⟨_,Y _ h2,ar z z false a0⟩
      cases E
     cases E
   cases E
  cases E
 cases E
theorem sameBits_key{d:TypeDesc}{a b:Value}(ha:cx d a=true)(hb:cx d b=true)(h:eE a b=true):Instr.sameBits 10000 b a=true:=by
 have key: ∀n,Instr.sameBits n b a=true:=by
  intro n;unfold cx at ha hb;split at ha
  ·split at hb
   ·rename_i k k1 x _ _ k2 y E;injection E with e1;subst e1;simp only[beq_iff_eq]at ha hb;subst ha hb;simp only[eE,beq_iff_eq]at h;subst h;cases n<;>simp[Instr.sameBits]
   ·cases ‹TypeDesc.int _=_›
   ·cases ‹TypeDesc.int _=_›
   cases hb
  ·split at hb
   ·cases ‹TypeDesc.string=_›
   ·rename_i x _ _ y _;have h:=bytesEq_iff h;subst h;cases n<;>simp[Instr.sameBits,js]
   ·cases ‹TypeDesc.string=_›
   cases hb
  ·split at hb
   ·cases ‹TypeDesc.bool=_›
   ·cases ‹TypeDesc.bool=_›
   ·simp only[eE,beq_iff_eq]at h;subst h;cases n<;>simp[Instr.sameBits]
   cases hb
  cases ha
 exact key 10000
theorem jZ{t:TypeId}{m k v m' k' v':Value}(h:WRel μ H w)(hm:VRel μ m m')(hk:VRel μ k k')(hv:VRel μ v v')(O:hU P t m k v H=some H'):
  ∃w',(Instr.mapUpdate t m' k' v').run P w= .ok () w'/\Post μ H w μ H' w':=by
 unfold hU at O
 split at O
 ·rename_i kt et hu;split at O
  ·rename_i d r hd;split at O
   ·rename_i es hg;cases T:(cx d k&&es.all fun e=>cx d e.1) with
    |false=>rw[T]at O;cases O
    |true=>
     rw[T]at O
     simp only[cond_true,a01]at O;subst O
     simp only[a03]at T
     have a6:k'=k:=hk.eq0 (er T.1)
     subst a6
     obtain⟨l,hμ,rfl⟩:=hm.map_inv
     obtain⟨U,E,hh,hl,a1⟩:=h.obj r l _ hμ hg
     have Y:(getObj l.c).run P w= .ok (.map U E) w:=ii hh (by intros;simp)
     have al: ∀o',(setObj l.c o').run P w= .ok () (be w l.c o'):=fun o'=>mo hh (by intros;simp)
     rcases iR T.1 es U.toList 0 ⟨hl,a1⟩ T.2 with⟨u,u',j,h1,h2,h3,h4,⟨y,hy,ba,a9⟩,h6⟩|⟨h1,h2,h3⟩
     ·refine⟨be w l.c (.map (U.modify j fun e=>{e with key:=k',val:=v'}) E),?_,?_⟩
      ·have ax:U[j]?=some y:=by simpa using hy
       simp only[Instr.mapUpdate,Sem.run_bind,ak w hu,Result.andThen_ok,Y,fF hd T.1,Instr.findKey,ak w hd,h2,Sem.run_pure,a0A,ax,a1B,a1c,
        Instr.keyThatStays,sameBits_key T.1 a9 ba,if_true,al]
      have Z:=h6 v v' hv;refine Post.put h hμ hg V _ V _ ⟨_,E,bJ w _ (cr hh),?_,?_⟩
      ·rw[Array.toList_modify];exact Z.1
      rw[Array.toList_modify];exact Z.2
     refine⟨be w l.c (.map (U.push {key:=k',val:=v',born:=E}) (E+1)),?_,?_⟩
     ·simp only[Instr.mapUpdate,Sem.run_bind,ak w hu,Result.andThen_ok,Y,fF hd T.1,Instr.findKey,ak w hd,h2,Sem.run_pure,al]
     have Z:=h3 v v' E hv
     refine Post.put h hμ hg V _ V _ ⟨_,E+1,bJ w _ (cr hh),?_,?_⟩
     ·rw[Array.toList_push];exact Z.1
     rw[Array.toList_push];exact Z.2
   cases O
  cases O
 cases O
theorem callee_sound{f f':Value}{args:List Value}{O:Array Value}{r:AN}(hf:VRel μ f f')(ha:LRel μ args O.toList)(E:iY P f args=some r):
  ∃i Y,r= .enter i Y/\∃U,(∀w,(do let d ←Deferred.ofValue f' O;invoke d.target d.args:Sem Next).run P w= .ok (.enter i U) w)/\LRel μ Y U.toList:=by
 unfold iY at E
 split at E
 ·rename_i i first an;obtain⟨al,T,rfl,h1,h2⟩:=hf.func_inv;split at E
  ·rename_i fn a0;cases Z:(fn.body.isSome&& !(fn.name== "runtime.NumGoroutine")) with
   |false=>rw[Z]at E;cases E
   |true=>
    rw[Z]at E
    simp only[cond_true,a01]at E;subst E
    simp only[a03,a0u]at Z
    refine⟨i,_,V,(al++O)++T,fun w=>?_,?_⟩
    ·have hb: ¬fn.body=none:=by intro ax;rw[ax]at Z;cases Z.1
     have a1: ¬fn.name= "runtime.NumGoroutine" :=by have:=Z.2;simpa using this
     simp[Deferred.ofValue,invoke,callFunc,a0,a1,hb]
    rw[ef,ef]
    have:=(h1.append (ha.append h2))
    simpa using this
  cases E
 cases E
end
end Go.R
