/-
The evaluator is sound: values, operations, memory.
-/
import Derived.Test.YtapgbjedgcpffaaZTR0
import Derived.IntWalk
set_option linter.unusedVariables false
set_option linter.unusedSimpArgs false
namespace Go.R
structure Loc where
 c:Nat
 sh:Nat
 opn:Option Nat
 csz:Nat
abbrev Emb:=Nat->Option Loc
inductive VRel(μ:Emb):Value->Value->Prop
 |atom (v:Value):dz v=true->VRel μ v v
 |ptr (b o:Nat) (l:Loc):μ b=some l->VRel μ (.pointer (some ⟨b,o,none⟩)) (.pointer (some ⟨l.c,l.sh+o,none⟩))
 |sliceC (b o n k:Nat) (l:Loc):μ b=some l->l.opn=none->VRel μ (.slice (some ⟨b,o,none⟩) n k) (.slice (some ⟨l.c,l.sh+o,none⟩) n k)
 |sliceO (b o o' n k k' e:Nat) (l:Loc):μ b=some l->l.opn=some e->n<=k->k<=k'->(0<k->o'=l.sh+o)->o'+k' *e<=l.csz->
   VRel μ (.slice (some ⟨b,o,none⟩) n k) (.slice (some ⟨l.c,o',none⟩) n k')
 |sliceZ (b o:Nat) (a:Addr) (l:Loc):μ b=some l->VRel μ (.slice (some ⟨b,o,none⟩) 0 0) (.slice (some a) 0 0)
 |map (b:Nat) (l:Loc):μ b=some l->VRel μ (.map (some b)) (.map (some l.c))
 |func (fn:Fn) (xs ys xs' ys':Array Value):xs.toList.length=xs'.toList.length->ys.toList.length=ys'.toList.length->
   (∀(i:Nat) v v',xs.toList[i]?=some v->xs'.toList[i]?=some v'->VRel μ v v')->
   (∀(i:Nat) v v',ys.toList[i]?=some v->ys'.toList[i]?=some v'->VRel μ v v')->VRel μ (.func fn xs ys) (.func fn xs' ys')
 |agg (xs xs':Array Value):xs.toList.length=xs'.toList.length->
   (∀(i:Nat) v v',xs.toList[i]?=some v->xs'.toList[i]?=some v'->VRel μ v v')->VRel μ (.agg xs) (.agg xs')
 |tuple (xs xs':Array Value):xs.toList.length=xs'.toList.length->
   (∀(i:Nat) v v',xs.toList[i]?=some v->xs'.toList[i]?=some v'->VRel μ v v')->VRel μ (.tuple xs) (.tuple xs')
def LRel(μ:Emb)(l l':List Value):Prop:=l.length=l'.length/\∀(i:Nat) v v',l[i]?=some v->l'[i]?=some v'->VRel μ v v'
section
variable {μ μ':Emb}
theorem VRel.mono(h: ∀b l,μ b=some l->μ' b=some l){v v':Value}(E:VRel μ v v'):VRel μ' v v':=by
 induction E with
 |atom v h0=>exact .atom v h0
 |ptr b o l hb=>exact .ptr b o l (h _ _ hb)
 |sliceC b o n k l hb ho=>exact .sliceC b o n k l (h _ _ hb) ho
 |sliceO b o o' n k k' e l hb ho h1 h2 h3 h4=>exact .sliceO b o o' n k k' e l (h _ _ hb) ho h1 h2 h3 h4
 |sliceZ b o a l hb=>exact .sliceZ b o a l (h _ _ hb)
 |map b l hb=>exact .map b l (h _ _ hb)
 |func fn xs ys xs' ys' h1 h2 _ _ i1 i2=>exact .func fn xs ys xs' ys' h1 h2 i1 i2
 |agg xs xs' h1 _ i1=>exact .agg xs xs' h1 i1
 |tuple xs xs' h1 _ i1=>exact .tuple xs xs' h1 i1
theorem LRel.nil:LRel μ [] []:=⟨rfl,fun i v v' h=>by simp at h⟩
theorem LRel.cons{v v':Value}{l l':List Value}(h:VRel μ v v')(T:LRel μ l l'):LRel μ (v::l) (v'::l'):=by
 refine⟨by simp[T.1],fun i x U E O=>?_⟩;cases i with
 |zero=>simp at E O;subst E O;exact h
 |succ i=>exact T.2 i x U (by simpa using E) (by simpa using O)
theorem LRel.head{v v':Value}{l l':List Value}(h:LRel μ (v::l) (v'::l')):VRel μ v v':=h.2 0 v v' rfl rfl
theorem LRel.tail{v v':Value}{l l':List Value}(h:LRel μ (v::l) (v'::l')):LRel μ l l':=
 ⟨by simpa using h.1,fun i x T E O=>h.2 (i+1) x T (by simpa using E) (by simpa using O)⟩
theorem LRel.get{l l':List Value}(h:LRel μ l l'){i:Nat}{v:Value}(E:l[i]?=some v): ∃v',l'[i]?=some v'/\VRel μ v v':=by
 have hi:i<l'.length:=by rw[←h.1];exact(a0u.1 E).1
 exact⟨l'[i],a0b hi,h.2 i v _ E (a0b hi)⟩
theorem LRel.append{a b a' T:List Value}(h:LRel μ a a')(k:LRel μ b T):LRel μ (a++b) (a'++T):=by
 refine⟨by simp[h.1,k.1],fun i v v' E O=>?_⟩;by_cases hi:i<a.length
 ·rw[a19 hi]at E;rw[a19 (h.1▸hi)]at O;exact h.2 i v v' E O
 rw[a1g (by omega)]at E;rw[a1g (by have:=h.1;omega),←h.1]at O;exact k.2 _ v v' E O
theorem LRel.take{a a':List Value}(h:LRel μ a a')(n:Nat):LRel μ (a.take n) (a'.take n):=by
 refine⟨by simp[h.1],fun i v v' E O=>?_⟩;rw[a0x]at E O;split at E
 ·rename_i hi;rw[if_pos hi]at O;exact h.2 i v v' E O
 cases E
theorem LRel.drop{a a':List Value}(h:LRel μ a a')(n:Nat):LRel μ (a.drop n) (a'.drop n):=by refine⟨by simp[h.1],fun i v v' E O=>?_⟩;rw[a0H]at E O;exact h.2 _ v v' E O
theorem LRel.nil_left{l':List Value}(h:LRel μ [] l'):l'=[]:=a0g h.1.symm
theorem LRel.cons_left{v:Value}{l l':List Value}(h:LRel μ (v::l) l'): ∃v' E,l'=v'::E/\VRel μ v v'/\LRel μ l E:=by
 cases l' with
 |nil=>have:=h.1;simp at this
 |cons v' E=>exact⟨v',E,rfl,h.head,h.tail⟩
theorem VRel.oneCell{v v':Value}(h:VRel μ v v'):v'.oneCell'=v.oneCell':=by cases h<;>rfl
theorem VRel.eq0{v v':Value}(h:VRel μ v v')(E:dz v=true):v'=v:=by
 cases h with
 |atom=>rfl
 |func fn xs ys xs' ys' h1 h2 _ _=>
  simp only[dz,a04]at E
  have O:xs.size=0:=a08 E.1
  have T:ys.size=0:=a08 E.2
  have U:xs= #[]:=a18.1 O
  have Y:ys= #[]:=a18.1 T
  subst U Y
  have Z:xs'= #[]:=a18.1 (by simpa using h1.symm)
  have g2:ys'= #[]:=a18.1 (by simpa using h2.symm)
  subst Z g2
  rfl
 |_=>simp[dz]at E
theorem LRel.eq0{l l':List Value}(h:LRel μ l l')(E:l.all dz=true):l'=l:=by
 induction l generalizing l' with
 |nil=>exact h.nil_left
 |cons v l ih=>
  obtain⟨v',U,rfl,T,O⟩:=h.cons_left
  simp only[a0Q,a04]at E
  rw[T.eq0 E.1,ih O E.2]
theorem VRel.eq1{v v':Value}(h:VRel μ v v')(E:ke v=true):v'=v:=by
 cases h with
 |agg xs xs' hl hi=>
  have:=LRel.eq0 (μ:=μ) (l:=xs.toList) (l':=xs'.toList) ⟨hl,hi⟩ E
  rw[a17.1 this]
 |atom v h0=>rfl
 |_=>exact VRel.eq0 (μ:=μ) (by constructor<;>assumption) E
theorem LRel.eq1{l l':List Value}(h:LRel μ l l')(E:l.all ke=true):l'=l:=by
 induction l generalizing l' with
 |nil=>exact h.nil_left
 |cons v l ih=>
  obtain⟨v',U,rfl,T,O⟩:=h.cons_left
  simp only[a0Q,a04]at E
  rw[T.eq1 E.1,ih O E.2]
theorem LRel.refl0{l:List Value}(h:l.all dz=true):LRel μ l l:=by refine⟨rfl,fun i v v' O E=>?_⟩;rw[O]at E;injection E with E;subst E;exact .atom v (a0l.1 h v (a0p O))
theorem VRel.refl1{v:Value}(h:ke v=true):VRel μ v v:=by
 cases v with
 |agg cs=>have:=LRel.refl0 (μ:=μ) (l:=cs.toList) h;exact .agg cs cs this.1 this.2
 |_=>exact .atom _ h
theorem LRel.refl1{l:List Value}(h:l.all ke=true):LRel μ l l:=by refine⟨rfl,fun i v v' O E=>?_⟩;rw[O]at E;injection E with E;subst E;exact VRel.refl1 (a0l.1 h v (a0p O))
theorem VRel.refl2{v:Value}(h:noA2 v=true):VRel μ v v:=by
 cases v with
 |tuple vs=>have:=LRel.refl1 (μ:=μ) (l:=vs.toList) h;exact .tuple vs vs this.1 this.2
 |_=>exact VRel.refl1 h
theorem VRel.undef:VRel μ undef undef:=VRel.refl2 rfl
theorem VRel.eq2{v v':Value}(h:VRel μ v v')(E:noA2 v=true):v'=v:=by
 cases h with
 |tuple xs xs' hl hi=>
  have:=LRel.eq1 (μ:=μ) (l:=xs.toList) (l':=xs'.toList) ⟨hl,hi⟩ E
  rw[a17.1 this]
 |atom v h0=>rfl
 |_=>exact VRel.eq1 (μ:=μ) (by constructor<;>assumption) E
theorem VRel.cells{v v':Value}(h:VRel μ v v'):LRel μ v.cells.toList v'.cells.toList:=by
 have one: ∀{u E:Value},VRel μ u E->LRel μ [u] [E]:=fun O=> .cons O .nil
 cases h with
 |agg xs xs' hl hi=>exact⟨hl,hi⟩
 |atom v h0=>cases v<;>first|(simp[dz]at h0;done)|exact one (.atom _ h0)
 |ptr b o l hb=>exact one (.ptr b o l hb)
 |sliceC b o n k l hb ho=>exact one (.sliceC b o n k l hb ho)
 |sliceO b o o' n k k' e l hb ho h1 h2 h3 h4=>exact one (.sliceO b o o' n k k' e l hb ho h1 h2 h3 h4)
 |sliceZ b o a l hb=>exact one (.sliceZ b o a l hb)
 |map b l hb=>exact one (.map b l hb)
 |func fn xs ys xs' ys' h1 h2 i1 i2=>exact one (.func fn xs ys xs' ys' h1 h2 i1 i2)
 |tuple xs xs' h1 i1=>exact one (.tuple xs xs' h1 i1)
theorem VRel.int_inv{k:IntKind}{n:Int}{v':Value}(h:VRel μ (.int k n) v'):v'= .int k n:=h.eq0 rfl
theorem VRel.bool_inv{b:Bool}{v':Value}(h:VRel μ (.bool b) v'):v'= .bool b:=h.eq0 rfl
theorem VRel.string_inv{s:ByteArray}{v':Value}(h:VRel μ (.string s) v'):v'= .string s:=h.eq0 rfl
theorem VRel.ptr_inv{b o:Nat}{v':Value}(h:VRel μ (.pointer (some ⟨b,o,none⟩)) v'): ∃l,μ b=some l/\v'= .pointer (some ⟨l.c,l.sh+o,none⟩):=by
 cases h with
 |atom _ h0=>simp[dz]at h0
 |ptr _ _ l hb=>exact⟨l,hb,rfl⟩
theorem VRel.ptr_some{a:Addr}{v':Value}(h:VRel μ (.pointer (some a)) v'):a.spot=none/\∃a',v'= .pointer (some a'):=by
 cases h with
 |atom _ h0=>simp[dz]at h0
 |ptr _ _ l hb=>exact⟨rfl,_,rfl⟩
theorem VRel.agg_inv{xs:Array Value}{v':Value}(h:VRel μ (.agg xs) v'): ∃E,v'= .agg E/\LRel μ xs.toList E.toList:=by
 cases h with
 |atom _ h0=>simp[dz]at h0
 |agg _ E hl hi=>exact⟨E,rfl,hl,hi⟩
theorem VRel.tuple_inv{xs:Array Value}{v':Value}(h:VRel μ (.tuple xs) v'): ∃E,v'= .tuple E/\LRel μ xs.toList E.toList:=by
 cases h with
 |atom _ h0=>simp[dz]at h0
 |tuple _ E hl hi=>exact⟨E,rfl,hl,hi⟩
theorem VRel.func_inv{fn:Fn}{xs ys:Array Value}{v':Value}(h:VRel μ (.func fn xs ys) v'):
  ∃E O,v'= .func fn E O/\LRel μ xs.toList E.toList/\LRel μ ys.toList O.toList:=by
 cases h with
 |atom _ h0=>
  simp only[dz,a04]at h0
  have T:xs= #[]:=a18.1 (a08 h0.1)
  have U:ys= #[]:=a18.1 (a08 h0.2)
  subst T U
  exact⟨#[], #[],rfl,.nil,.nil⟩
 |func _ _ _ E O h1 h2 i1 i2=>exact⟨E,O,rfl,⟨h1,i1⟩,⟨h2,i2⟩⟩
theorem VRel.map_inv{b:Nat}{v':Value}(h:VRel μ (.map (some b)) v'): ∃l,μ b=some l/\v'= .map (some l.c):=by
 cases h with
 |atom _ h0=>simp[dz]at h0
 |map _ l hb=>exact⟨l,hb,rfl⟩
theorem VRel.mapNil_inv{v':Value}(h:VRel μ (.map none) v'):v'= .map none:=h.eq0 rfl
theorem VRel.slice_inv{b o n k:Nat}{v':Value}(h:VRel μ (.slice (some ⟨b,o,none⟩) n k) v'):
  ∃l,μ b=some l/\((l.opn=none/\v'= .slice (some ⟨l.c,l.sh+o,none⟩) n k)\/
   (∃e O E,l.opn=some e/\v'= .slice (some ⟨l.c,O,none⟩) n E/\n<=k/\k<=E/\(0<k->O=l.sh+o)/\O+E *e<=l.csz)\/(n=0/\k=0/\∃a',v'= .slice (some a') 0 0)):=by
 cases h with
 |atom _ h0=>simp[dz]at h0
 |sliceC _ _ _ _ l hb ho=>exact⟨l,hb,.inl ⟨ho,rfl⟩⟩
 |sliceO _ _ O _ _ E e l hb ho h1 h2 h3 h4=>exact⟨l,hb,.inr (.inl ⟨e,O,E,ho,rfl,h1,h2,h3,h4⟩)⟩
 |sliceZ _ _ a l hb=>exact⟨l,hb,.inr (.inr ⟨rfl,rfl,a,rfl⟩)⟩
theorem VRel.sliceNil_inv{n k:Nat}{v':Value}(h:VRel μ (.slice none n k) v'):n=0/\k=0/\v'= .slice none n k:=by
 cases h with
 |atom _ h0=>
  simp only[dz,a04]at h0
  exact⟨a08 h0.1,a08 h0.2,rfl⟩
theorem VRel.slice_some{a:Addr}{n k:Nat}{v':Value}(h:VRel μ (.slice (some a) n k) v'):a.spot=none/\∃a' E,v'= .slice (some a') n E:=by
 cases h with
 |atom _ h0=>simp[dz]at h0
 |sliceC _ _ _ _ l hb ho=>exact⟨rfl,_,_,rfl⟩
 |sliceO _ _ o' _ _ E e l hb ho h1 h2 h3 h4=>exact⟨rfl,_,_,rfl⟩
 |sliceZ _ _ a l hb=>exact⟨rfl,_,_,rfl⟩
end
def ObjRel(μ:Emb)(w:World)(l:Loc):AObj->Prop
 | .cells cs opn true=>l.opn=opn/\opn=none/\l.c<w.heap.size/\∀(i:Nat) v,cs[i]?=some v->∃v',w.cell? ⟨l.c,l.sh+i,none⟩=some v'/\VRel μ v v'
 | .cells cs opn false=>l.opn=opn/\∃(E:Array Value) (e:TypeId),w.heap[l.c]?=some (.cells E e (0,0))/\E.size=l.csz/\l.sh+cs.length<=l.csz/\
   ∀(i:Nat) v,cs[i]?=some v->∃v',E[l.sh+i]?=some v'/\VRel μ v v'
 | .iter s pos=>l.sh=0/\w.heap[l.c]?=some (.stringIter s pos)
 | .tab es=> ∃(O:Array MapEntry) (T:Nat),w.heap[l.c]?=some (.map O T)/\es.length=O.toList.length/\
   ∀(i:Nat) x y,es[i]?=some x->O.toList[i]?=some y->VRel μ x.1 y.key/\VRel μ x.2 y.val
 | .dead=>True
structure WRel(μ:Emb)(H:Heap)(w:World):Prop where
 obj: ∀b l o,μ b=some l->H.get b=some o->ObjRel μ w l o
 inj: ∀b1 b2 l1 l2 o1 o2,b1≠b2->μ b1=some l1->μ b2=some l2->H.get b1=some o1->H.get b2=some o2->o1.rw=true->o2.live=true->l1.c≠l2.c
theorem bQ{w:World}{c:Nat}{o:Obj}(h:w.heap[c]?=some o):c<w.heap.size:=(a0I.1 h).1
theorem ObjRel.lt{μ:Emb}{w:World}{l:Loc}{o:AObj}(h:ObjRel μ w l o)(T:o.live=true):l.c<w.heap.size:=by
 cases o with
 |cells cs opn ro=>
  cases ro with
  |true=>exact h.2.2.1
  |false=>obtain⟨_,U,e,E,_⟩:=h;exact bQ E
 |iter s pos=>exact bQ h.2
 |tab es=>obtain⟨Y,O,E,_⟩:=h;exact bQ E
 |dead=>simp[AObj.live]at T
theorem ObjRel.keep{μ μ':Emb}{w w':World}{l:Loc}{o:AObj}(Y: ∀b l,μ b=some l->μ' b=some l)(hs:w.heap.size<=w'.heap.size)
  (hc:o.live=true->w'.heap[l.c]?=w.heap[l.c]?) (h:ObjRel μ w l o):ObjRel μ' w' l o:=by
 cases o with
 |cells cs opn ro=>
  have Z:=hc rfl
  cases ro with
  |true=>
   obtain⟨h1,E,U,h4⟩:=h
   refine⟨h1,E,by omega,fun i v hv=>?_⟩
   obtain⟨v',O,hr⟩:=h4 i v hv
   refine⟨v',?_,hr.mono Y⟩
   rw[←O]
   simp only[World.cell?,Z]
  |false=>
   obtain⟨h1,a3,e,hh,E,U,h4⟩:=h
   refine⟨h1,a3,e,Z.trans hh,E,U,fun i v hv=>?_⟩
   obtain⟨v',O,hr⟩:=h4 i v hv
   exact⟨v',O,hr.mono Y⟩
 |iter s pos=>exact⟨h.1,(hc rfl).trans h.2⟩
 |tab es=>
  obtain⟨a4,T,hh,E,U⟩:=h
  refine⟨a4,T,(hc rfl).trans hh,E,fun i x y hx hy=>?_⟩
  obtain⟨r1,r2⟩:=U i x y hx hy
  exact⟨r1.mono Y,r2.mono Y⟩
 |dead=>trivial
theorem ip{o:AObj}(h:o.rw=true):o.live=true:=by cases o<;>simp_all[AObj.rw,AObj.live]
structure Post(μ:Emb)(H:Heap)(w:World)(μ':Emb)(H':Heap)(w':World):Prop where
 ext: ∀b l,μ b=some l->μ' b=some l
 dom: ∀b l,μ' b=some l->μ b=some l\/(H.next<=b/\b<H'.next)
 grow:w.heap.size<=w'.heap.size
 os:w'.os=w.os
 tape:w'.tape=w.tape
 out:w'.output=w.output
 keep: ∀c,c<w.heap.size->(∀b l o,μ b=some l->H.get b=some o->o.rw=true->l.c≠c)->w'.heap[c]?=w.heap[c]?
 img: ∀b l o,μ' b=some l->H'.get b=some o->o.live=true->w.heap.size<=l.c\/∃b0 l0 o0,μ b0=some l0/\H.get b0=some o0/\o0.live=true/\(o.rw=true->o0.rw=true)/\l0.c=l.c
 wrel:WRel μ' H' w'
theorem Post.refl{μ:Emb}{H:Heap}{w:World}(h:WRel μ H w):Post μ H w μ H w:=
 ⟨fun _ _ h=>h,fun _ _ h=> .inl h,a07 _,rfl,rfl,rfl,fun _ _ _=>rfl,fun b l o E O T=> .inr ⟨b,l,o,E,O,T,id,rfl⟩,h⟩
theorem Post.trans{μ Z μ2:Emb}{H H1 O:Heap}{w w1 Y:World}(h:Post μ H w Z H1 w1)(k:Post Z H1 w1 μ2 O Y)(h1:H.next<=H1.next)(h2:H1.next<=O.next):
  Post μ H w μ2 O Y:=by
 refine⟨fun b l hb=>k.ext b l (h.ext b l hb),fun b l hb=>?_,a05 h.grow k.grow,k.os.trans h.os,k.tape.trans h.tape,k.out.trans h.out,fun c hc U=>?_,fun b l o hb T E=>?_,k.wrel⟩
 ·rcases k.dom b l hb with hb1|⟨hb1,hb2⟩
  ·rcases h.dom b l hb1 with hb0|⟨hb3,hb4⟩
   ·exact .inl hb0
   exact .inr ⟨hb3,by omega⟩
  exact .inr ⟨by omega,hb2⟩
 ·rw[k.keep c (a0V hc h.grow) ?_,h.keep c hc U];intro b l o hb T E he;rcases h.img b l o hb T (ip E) with hh|⟨b0,l0,o0,g1,g2,g3,g5,g4⟩
  ·omega
  exact U b0 l0 o0 g1 g2 (g5 E) (g4.trans he)
 rcases k.img b l o hb T E with hh|⟨b0,l0,o0,g1,g2,g3,g5,g4⟩
 ·exact .inl (a05 h.grow hh)
 rcases h.img b0 l0 o0 g1 g2 g3 with hh|⟨b1,l1,o1,e1,e2,e3,e5,e4⟩
 ·exact .inl (g4▸hh)
 exact .inr ⟨b1,l1,o1,e1,e2,e3,fun hx=>e5 (g5 hx),e4.trans g4⟩
theorem WRel.drew{μ:Emb}{H:Heap}{w:World}(h:WRel μ H w):WRel μ H w.drew:=
 ⟨fun b l o hb E=>(h.obj b l o hb E).keep (fun _ _ h=>h) (a07 _) (fun _=>rfl),h.inj⟩
theorem Post.drew{μ:Emb}{H:Heap}{w:World}(h:WRel μ H w):Post μ H w μ H w.drew:=
 ⟨fun _ _ h=>h,fun _ _ h=> .inl h,a07 _,rfl,rfl,rfl,fun _ _ _=>rfl,fun b l o E O T=> .inr ⟨b,l,o,E,O,T,id,rfl⟩,h.drew⟩
def Emb.set(μ:Emb)(b:Nat)(l:Loc):Emb:=fun k=>if k=b then some l else μ k
theorem Emb.set_same(μ:Emb)(b:Nat)(l:Loc):μ.set b l b=some l:=by simp[Emb.set]
theorem Emb.set_ext{μ:Emb}{b:Nat}(l:Loc)(h:μ b=none): ∀k x,μ k=some x->μ.set b l k=some x:=by
 intro k x E;have:k≠b:=fun e=>by subst e;rw[h]at E;cases E
 simp[Emb.set,this,E]
theorem Emb.set_inv{μ:Emb}{b:Nat}{l:Loc}{k:Nat}{x:Loc}(h:μ.set b l k=some x):(k=b/\x=l)\/(k≠b/\μ k=some x):=by
 unfold Emb.set at h;split at h
 ·rename_i e;injection h with h;exact .inl ⟨e,h.symm⟩
 rename_i e;exact .inr ⟨e,h⟩
theorem jU(w:World)(o:Obj){c:Nat}(h:c<w.heap.size):(w.alloc o).heap[c]?=w.heap[c]?:=by simp only[World.alloc,Array.getElem?_push];rw[if_neg (by omega)]
theorem gf(w:World)(o:Obj):(w.alloc o).heap[w.heap.size]?=some o:=by show(w.heap.push o)[w.heap.size]?=some o;simp
theorem Post.push{μ:Emb}{H:Heap}{w:World}(h:WRel μ H w)(hf:μ H.next=none)(l:Loc)(hl:l.c=w.heap.size)(o:AObj)(co:Obj)
  (ho:ObjRel (μ.set H.next l) (w.alloc co) l o):Post μ H w (μ.set H.next l) (H.push o) (w.alloc co):=by
 have hm:=Emb.set_ext l hf
 refine⟨hm,fun b x hb=>?_,by simp,rfl,rfl,rfl,fun c hc _=>jU w co hc,fun b x o' hb E hr=>?_,⟨fun b x o' hb E=>?_,fun b1 b2 l1 l2 o1 o2 O a7 a8 T U b0 a2=>?_⟩⟩
 ·rcases Emb.set_inv hb with⟨rfl,rfl⟩|⟨_,hb⟩
  ·exact .inr ⟨a07 _,by simp⟩
  exact .inl hb
 ·rcases Emb.set_inv hb with⟨rfl,rfl⟩|⟨O,hb⟩
  ·exact .inl (by omega)
  rw[Heap.get_push_ne H o (Ne.symm O)]at E;exact .inr ⟨b,x,o',hb,E,hr,id,rfl⟩
 ·rcases Emb.set_inv hb with⟨rfl,rfl⟩|⟨O,hb⟩
  ·rw[Heap.get_push_same]at E;injection E with E;subst E;exact ho
  rw[Heap.get_push_ne H o (Ne.symm O)]at E;have hr:=h.obj b x o' hb E;exact hr.keep hm (by simp) (fun a9=>jU w co (hr.lt a9))
 rcases Emb.set_inv a7 with⟨e1,f1⟩|⟨an,Y⟩<;>rcases Emb.set_inv a8 with⟨e2,f2⟩|⟨ar,Z⟩
 ·exact absurd (e1.trans e2.symm) O
 ·rw[Heap.get_push_ne H o (Ne.symm ar)]at U;have:=(h.obj b2 l2 o2 Z U).lt a2;subst f1;omega
 ·rw[Heap.get_push_ne H o (Ne.symm an)]at T;have:=(h.obj b1 l1 o1 Y T).lt (by cases o1<;>simp_all[AObj.rw,AObj.live]);subst f2;omega
 rw[Heap.get_push_ne H o (Ne.symm an)]at T
 rw[Heap.get_push_ne H o (Ne.symm ar)]at U
 exact h.inj b1 b2 l1 l2 o1 o2 O Y Z T U b0 a2
def bj(w:World)(c:Nat)(o:Obj):World:={w with heap:=w.heap.setIfInBounds c o}
theorem dD(w:World){c k:Nat}(o:Obj)(h:c≠k):(bj w c o).heap[k]?=w.heap[k]?:=by simp[bj,a1m h]
theorem bt(w:World){c:Nat}(o:Obj)(h:c<w.heap.size):(bj w c o).heap[c]?=some o:=by simp[bj,h]
@[simp] theorem setObjAt_size(w:World)(c:Nat)(o:Obj):(bj w c o).heap.size=w.heap.size:=by simp[bj]
theorem Post.put{μ:Emb}{H:Heap}{w:World}(h:WRel μ H w){b:Nat}{l:Loc}{o:AObj}(hb:μ b=some l)(Z:H.get b=some o)(U:o.rw=true)
  (T:AObj) (c0:T.rw=true) (Y:Obj) (hn:ObjRel μ (bj w l.c Y) l T):Post μ H w μ (H.put b T) (bj w l.c Y):=by
 refine⟨fun _ _ h=>h,fun _ _ h=> .inl h,by simp,rfl,rfl,rfl,fun c hc a2=>dD w Y (a2 b l o hb Z U),fun k x ox O E b3=>?_,⟨fun k x ox O E=>?_,fun b1 b2 l1 l2 o1 o2 a7 ar ax a8 a9 bb b0=>?_⟩⟩
 ·by_cases e:b=k
  ·subst e;rw[hb]at O;injection O with O;subst O;exact .inr ⟨b,l,o,hb,Z,ip U,fun _=>U,rfl⟩
  rw[Heap.get_put_ne H T e]at E;exact .inr ⟨k,x,ox,O,E,b3,id,rfl⟩
 ·by_cases e:b=k
  ·subst e;rw[hb]at O;injection O with O;subst O;rw[Heap.get_put_same]at E;injection E with E;subst E;exact hn
  rw[Heap.get_put_ne H T e]at E;have hx:=h.obj k x ox O E;exact hx.keep (fun _ _ h=>h) (by simp) (fun a6=>dD w Y (h.inj b k l x o ox e hb O Z E U a6))
 have old: ∀k ok lk,μ k=some lk->(H.put b T).get k=some ok->∃oo,H.get k=some oo/\(ok.rw=true->oo.rw=true)/\(ok.live=true->oo.live=true):=by
  intro k ok lk O a1;by_cases e:b=k
  ·subst e;exact⟨o,Z,fun _=>U,fun _=>by cases o<;>simp_all[AObj.rw,AObj.live]⟩
  rw[Heap.get_put_ne H T e]at a1;exact⟨ok,a1,id,id⟩
 obtain⟨p1,q1,r1,_⟩:=old b1 o1 l1 ar a8
 obtain⟨p2,q2,_,r2⟩:=old b2 o2 l2 ax a9
 exact h.inj b1 b2 l1 l2 p1 p2 a7 ar ax q1 q2 (r1 bb) (r2 b0)
theorem Post.take{μ:Emb}{H:Heap}{w:World}(h:WRel μ H w){b:Nat}{l:Loc}{o:AObj}(hb:μ b=some l)(ho:H.get b=some o)(hr:o.rw=true)
  (hf:μ H.next=none) (l':Loc) (hl:l'.c=l.c) (Z:AObj) (co:Obj) (hn:ObjRel (μ.set H.next l') (bj w l.c co) l' Z):
  Post μ H w (μ.set H.next l') ((H.put b .dead).push Z) (bj w l.c co):=by
 have hm:=Emb.set_ext l' hf
 have dk:b≠H.next:=fun e=>by subst e;rw[hf]at hb;cases hb
 have get: ∀k,k≠H.next->((H.put b .dead).push Z).get k=(H.put b .dead).get k:=fun k O=>Heap.get_push_ne (H.put b .dead) Z (Ne.symm O)
 have b9:((H.put b .dead).push Z).get H.next=some Z:=Heap.get_push_same (H.put b .dead) Z
 refine⟨hm,fun k x O=>?_,by simp,rfl,rfl,rfl,fun c hc ci=>dD w co (ci b l o hb ho hr),fun k x ox O E b6=>?_,⟨fun k x ox O E=>?_,fun b1 b2 l1 l2 o1 o2 Y cl cv b4 b5 an ar=>?_⟩⟩
 ·rcases Emb.set_inv O with⟨rfl,rfl⟩|⟨_,O⟩
  ·exact .inr ⟨a07 _,by simp⟩
  exact .inl O
 ·rcases Emb.set_inv O with⟨rfl,rfl⟩|⟨Y,O⟩
  ·exact .inr ⟨b,l,o,hb,ho,ip hr,fun _=>hr,hl.symm⟩
  rw[get k Y]at E;by_cases e:b=k
  ·subst e;rw[Heap.get_put_same]at E;injection E with E;subst E;simp[AObj.live]at b6
  rw[Heap.get_put_ne H _ e]at E;exact .inr ⟨k,x,ox,O,E,b6,id,rfl⟩
 ·rcases Emb.set_inv O with⟨rfl,rfl⟩|⟨Y,O⟩
  ·rw[b9]at E;injection E with E;subst E;exact hn
  rw[get k Y]at E;by_cases e:b=k
  ·subst e;rw[Heap.get_put_same]at E;injection E with E;subst E;trivial
  rw[Heap.get_put_ne H _ e]at E;have hx:=h.obj k x ox O E;exact hx.keep hm (by simp) (fun a3=>dD w co (h.inj b k l x o ox e hb O ho E hr a3))
 have old: ∀k ok,k≠H.next->ok.live=true->((H.put b .dead).push Z).get k=some ok->k≠b/\H.get k=some ok:=by
  intro k ok O a3 U;rw[get k O]at U;by_cases e:b=k
  ·subst e;rw[Heap.get_put_same]at U;injection U with U;subst U;simp[AObj.live]at a3
  rw[Heap.get_put_ne H _ e]at U;exact⟨Ne.symm e,U⟩
 have T: ∀{x:AObj},x.rw=true->x.live=true:=by intro x hx;cases x<;>simp_all[AObj.rw,AObj.live]
 rcases Emb.set_inv cl with⟨e1,f1⟩|⟨a4,a1⟩<;>rcases Emb.set_inv cv with⟨e2,f2⟩|⟨a5,a2⟩
 ·exact absurd (e1.trans e2.symm) Y
 ·obtain⟨n2,g2⟩:=old b2 o2 a5 ar b5;rw[f1,hl];exact h.inj b b2 l l2 o o2 (Ne.symm n2) hb a2 ho g2 hr ar
 ·obtain⟨n1,g1⟩:=old b1 o1 a4 (T an) b4;rw[f2,hl];exact fun e=>h.inj b b1 l l1 o o1 (Ne.symm n1) hb a1 ho g1 hr (T an) e.symm
 obtain⟨_,g1⟩:=old b1 o1 a4 (T an) b4
 obtain⟨_,g2⟩:=old b2 o2 a5 ar b5
 exact h.inj b1 b2 l1 l2 o1 o2 Y a1 a2 g1 g2 an ar
end Go.R
set_option linter.unusedVariables false
namespace Go.R
section pure_
variable {α β:Type} (P:Program)
theorem cM{s:Sem α}{a:α}(h:aC P s=some a)(w:World):s.run P w= .ok a w:=by
 induction s with
 |pure x=>simp only[aC,a01]at h;subst h;rfl
 |program k ih=>simp only[aC]at h;simp only[Sem.run];exact ih _ h
 |mark m k ih=>simp only[aC]at h;simp only[Sem.run];exact ih h
 |_=>simp[aC]at h
@[simp] theorem aT(x:Sem α)(f:α->Sem β):aC P (x>>=f)=(aC P x).bind fun a=>aC P (f a):=by
 show aC P (x.bind f)=_;induction x with
 |program k ih=>simp only[Sem.bind,aC];exact ih _
 |mark m k ih=>simp only[Sem.bind,aC];exact ih
 |pure a=>rfl
 |_=>rfl
@[simp] theorem cm(a:α):aC P (Pure.pure a:Sem α)=some a:=rfl
@[simp] theorem gE:aC P program=some P:=rfl
@[simp] theorem pureRun_stuck(E:String):aC P (stuck E:Sem α)=none:=rfl
@[simp] theorem pureRun_unsupported(u:Unsupported):aC P (unsupported u:Sem α)=none:=rfl
@[simp] theorem pureRun_goPanic(v:Value):aC P (goPanic v:Sem α)=none:=rfl
@[simp] theorem pureRun_choose(q:Question):aC P (choose q)=none:=rfl
@[simp] theorem pureRun_mark(m:Mark):aC P (mark m)=some ():=rfl
theorem pureRun_ite(c:Prop) [Decidable c](x y:Sem α):aC P (if c then x else y)=if c then aC P x else aC P y:=by split<;>rfl
@[simp] theorem bE(t:TypeId):aC P (underlying t)=P.underlying t:=by unfold underlying;simp only[aT,gE,a0s];cases P.underlying t<;>rfl
@[simp] theorem er(t:TypeId):aC P (typeInfo t)=P.info? t:=by unfold typeInfo;simp only[aT,gE,a0s];cases P.info? t<;>rfl
@[simp] theorem cY(t:TypeId):aC P (sizeOf t)=eb P t:=by unfold sizeOf eb;simp only[aT,er];cases P.info? t<;>rfl
@[simp] theorem fY(t:TypeId):aC P (isAgg t)=fS P t:=by
 unfold isAgg fS;simp only[aT,bE];cases P.underlying t with
 |none=>rfl
 |some d=>cases d<;>rfl
theorem hY(e:RuntimeError):aC P (runtimePanic e:Sem α)=none:=by unfold runtimePanic;cases e<;>simp[newVar,newRow,newObj,aC,elemOf]<;>(intros;split<;>simp[aC])
theorem iy(k:IntKind)(x y:Int)(c:BoundsCode):aC P (boundsPanic k x y c:Sem α)=none:=by unfold boundsPanic;simp[hY,pureRun_ite]
end pure_
section runs
variable {P:Program} (w:World)
theorem bg{t:TypeId}{n:Nat}(h:eb P t=some n):(sizeOf t).run P w= .ok n w:=cM P (by rw[cY];exact h) w
theorem lW{t:TypeId}{b:Bool}(h:fS P t=some b):(isAgg t).run P w= .ok b w:=cM P (by rw[fY];exact h) w
theorem eG{t:TypeId}{i:TypeInfo}(h:P.info? t=some i):(typeInfo t).run P w= .ok i w:=cM P (by rw[er];exact h) w
theorem aj{t:TypeId}{d:TypeDesc}(h:P.underlying t=some d):(underlying t).run P w= .ok d w:=cM P (by rw[bE];exact h) w
theorem eR{t:TypeId}{z:List Value}(h:ey P t=some z): ∃i v,P.info? t=some i/\i.zero=some v/\v.cells.toList=z/\z.all dz=true:=by
 unfold ey at h;split at h
 ·rename_i i hi;split at h
  ·rename_i v E;cases hc:v.cells.toList.all dz with
   |false=>rw[hc]at h;cases h
   |true=>rw[hc]at h;simp at h;subst h;exact⟨i,v,hi,E,rfl,hc⟩
  cases h
 cases h
theorem dE{t:TypeId}{i:TypeInfo}{v:Value}(hi:P.info? t=some i)(E:i.zero=some v):(zeroValue t).run P w= .ok v w:=by unfold zeroValue;simp[eG w hi,E]
end runs
section mem
variable {P:Program} {μ:Emb} {H:Heap} {w:World}
theorem jZ(h:WRel μ H w){b o:Nat}{l:Loc}{v:Value}(hb:μ b=some l)(E:H.cellAt ⟨b,o,none⟩=some v):
  ∃v',w.cell? ⟨l.c,l.sh+o,none⟩=some v'/\VRel μ v v':=by
 simp only[Heap.cellAt,iZ]at E
 split at E
 ·rename_i cs a1 ro Z;have T:=h.obj b l _ hb Z;cases ro with
  |true=>exact T.2.2.2 o v E
  |false=>
   obtain⟨_,ax,e,hh,_,_,Y⟩:=T
   obtain⟨v',U,O⟩:=Y o v E
   exact⟨v',by simp only[World.cell?,hh];simpa using U,O⟩
 cases E
theorem db(c o j:Nat):Addr.add ⟨c,o,none⟩ j=⟨c,o+j,none⟩:=by
 unfold Addr.add;split
 ·subst_vars;rfl
 rfl
theorem iD(h:WRel μ H w){b o n:Nat}{l:Loc}{vs:List Value}(hb:μ b=some l)(E:H.loadN ⟨b,o,none⟩ n=some vs):
  ∃ax,(loadCells ⟨l.c,l.sh+o,none⟩ n).run P w= .ok ⟨ax⟩ w/\LRel μ vs ax/\vs.length=n:=by
 simp only[Heap.loadN,bY,cy,bI]at E
 split at E
 ·rename_i cs a6 ro hg;cases hq:Nat.beq ((cs.drop o).take n).length n with
  |false=>rw[hq]at E;cases E
  |true=>
   rw[hq]at E;simp only[cond_true,a01]at E
   have T:((cs.drop o).take n).length=n:=a08 hq
   have key: ∀j,j<n->∃v v',cs[o+j]?=some v/\w.cell? ⟨l.c,l.sh+o+j,none⟩=some v'/\VRel μ v v':=by
    intro j Z;have ar:o+j<cs.length:=by rw[a0i,a0F]at T;omega
    have a1:H.cellAt ⟨b,o+j,none⟩=some cs[o+j]:=by simp only[Heap.cellAt,hg,iZ];exact a0b ar
    obtain⟨v',hc,hr⟩:=jZ h hb a1;exact⟨_,v',a0b ar,by rw[←hc,a0E],hr⟩
   have Y: ∃f:Nat->Value,∀j,j<n->w.cell? (Addr.add ⟨l.c,l.sh+o,none⟩ j)=some (f j)/\∀v,cs[o+j]?=some v->VRel μ v (f j):=by refine⟨fun j=>(w.cell? ⟨l.c,l.sh+o+j,none⟩).getD undef,fun j Z=>?_⟩;obtain⟨v,v',O,U,h3⟩:=key j Z;simp only[db,U,a1h];refine⟨trivial,fun u hu=>?_⟩;rw[O]at hu;injection hu with hu;subst hu;exact h3
   obtain⟨f,Y⟩:=Y
   refine⟨(List.range n).map f,run_loadCells w _ n f (fun j Z=>(Y j Z).1),?_,by rw[←E];exact T⟩
   subst E
   refine⟨by rw[T];simp,fun i v v' O U=>?_⟩
   rw[a0x]at O
   split at O
   ·rename_i hi;rw[a0H]at O;simp[hi]at U;subst U;exact(Y i hi).2 v O
   cases O
 cases E
theorem iC(h:WRel μ H w){b o:Nat}{l:Loc}{t:TypeId}{v:Value}(hb:μ b=some l)(E:H.loadV P t ⟨b,o,none⟩=some v):
  ∃v',(loadVar t ⟨l.c,l.sh+o,none⟩).run P w= .ok v' w/\VRel μ v v':=by
 unfold Heap.loadV at E
 split at E
 ·rename_i T;split at E
  ·rename_i n hn;split at E
   ·rename_i vs Z;injection E with E;subst E;obtain⟨Y,U,O,_⟩:=iD (P:=P) h hb Z;refine⟨.agg ⟨Y⟩,?_,.agg _ _ O.1 O.2⟩;simp[loadVar,lW w T,bg w hn,U]
   cases E
  cases E
 ·rename_i T;obtain⟨v',hc,hr⟩:=jZ h hb E;refine⟨v',?_,hr⟩;simp[loadVar,lW w T,hc]
 cases E
theorem lh{α:Type}(l:List α)(k:Nat):(Array.mk l)[k]?=l[k]?:=by simp
theorem kZ: ∀(cs vs:List Value),vs.length<=cs.length->(over cs vs).length=cs.length
 | [],[],_=>rfl
 | [],_::_,h=>by simp at h
 |_::_,[],_=>rfl
 |c::cs,v::vs,h=>by simp only[over,a02];rw[kZ cs vs (by simpa using h)]
theorem over_get: ∀(cs vs:List Value) (i:Nat),vs.length<=cs.length->(over cs vs)[i]?=if i<vs.length then vs[i]? else cs[i]?
 | [],[],i,_=>by simp[over]
 | [],_::_,_,h=>by simp at h
 |_::_,[],i,_=>by simp[over]
 |c::cs,v::vs,0,_=>by simp[over]
 |c::cs,v::vs,i+1,h=>by simp[over,over_get cs vs i (by simpa using h)]
theorem cr: ∀(cs:List Value) (o:Nat) (vs:List Value),o+vs.length<=cs.length->(bD cs o vs).length=cs.length
 |cs,0,vs,h=>by cases cs<;>exact kZ _ _ (by omega)
 | [],o+1,vs,h=>by simp[bD]
 |c::cs,o+1,vs,h=>by simp only[bD,a02];rw[cr cs o vs (by simp at h;omega)]
theorem bC: ∀(cs:List Value) (o:Nat) (vs:List Value) (i:Nat),o+vs.length<=cs.length->
  (bD cs o vs)[i]?=if o<=i/\i<o+vs.length then vs[i-o]? else cs[i]?
 |cs,0,vs,i,h=>by
  have:bD cs 0 vs=over cs vs:=by cases cs<;>rfl
  rw[this,over_get cs vs i (by omega)];simp
 | [],o+1,vs,i,h=>by simp at h
 |c::cs,o+1,vs,0,h=>by simp[bD]
 |c::cs,o+1,vs,i+1,h=>by
  simp only[bD,a1A];rw[bC cs o vs i (by simp at h;omega)];by_cases hc:o<=i/\i<o+vs.length
  ·rw[if_pos hc,if_pos (by omega)];congr 1;omega
  rw[if_neg hc,if_neg (by omega)]
theorem dF(c:Nat)(e:TypeId): ∀(vs:List Value) (w:World) (E:Array Value) (o i:Nat),w.heap[c]?=some (.cells E e (0,0))->
  o+i+vs.length<=E.size->vs.all Value.oneCell'=true->vs≠ []->
  (storeCells ⟨c,o,none⟩ vs i).run P w= .ok () (bj w c (.cells ⟨bD E.toList (o+i) vs⟩ e (0,0)))
 | [],_,_,_,_,_,_,_,hne=>absurd rfl hne
 |v::vs,w,E,o,i,hh,hl,hall,_=>by
  simp only[a0Q,a04]at hall;simp only[a02]at hl;have T:w.cell? ⟨c,o+i,none⟩=some (E[o+i]'(by omega)):=by simp[World.cell?,hh,show o+i<E.size by omega]
  have Z:w.frozen? ⟨c,o+i,none⟩=false:=by simp[World.frozen?,hh]
  have Y:w.setCell ⟨c,o+i,none⟩ v=bj w c (.cells (E.setIfInBounds (o+i) v) e (0,0)):=by
   unfold World.setCell bj;congr 1;apply a1v;intro k;by_cases O:c=k
   ·subst O;rw[Array.getElem?_modify,if_pos rfl,hh,a10,if_pos rfl,if_pos (bQ hh)];simp
   simp[Array.getElem?_modify,O,a1m O]
  have h1:(storeCells ⟨c,o,none⟩ (v::vs) i).run P w=(storeCells ⟨c,o,none⟩ vs (i+1)).run P (bj w c (.cells (E.setIfInBounds (o+i) v) e (0,0))):=by simp only[storeCells,Sem.run_bind,db];rw[run_store P w _ v _ hall.1,T];simp[Z,Y]
  rw[h1];by_cases hv:vs=[]
  ·subst hv;simp only[storeCells,Sem.run_pure];congr 3;apply a1v;intro k;simp only[a03]at hl;rw[a10];refine Eq.trans ?_ (lh _ _).symm;rw[bC _ _ _ _ (by simp;omega)];by_cases O:o+i=k
   ·subst O;rw[if_pos rfl,if_pos (by omega),if_pos (by simp)];simp
   rw[if_neg O,if_neg (by simp;omega)];simp
  have an:(bj w c (.cells (E.setIfInBounds (o+i) v) e (0,0))).heap[c]?=some (.cells (E.setIfInBounds (o+i) v) e (0,0)):=bt w _ (bQ hh);rw[dF c e vs _ _ o (i+1) an (by simp;omega) hall.2 hv];congr 1;have: ∀(x y:Obj),bj (bj w c x) c y=bj w c y:=by intro x y;simp[bj]
  rw[this];congr 2;apply a1v;intro k;refine(lh _ _).trans (Eq.trans ?_ (lh _ _).symm);rw[bC _ _ _ _ (by simp;omega),bC _ _ _ _ (by simp;omega)];by_cases O:o+i=k
  ·subst O;rw[if_neg (by omega),if_pos (by simp)];simp[show o+i<E.size by omega]
  by_cases U:o+(i+1)<=k/\k<o+(i+1)+vs.length
  ·rw[if_pos U,if_pos (by simp;omega)];rw[show k-(o+i)=(k-(o+(i+1)))+1 by omega,a1A]
  rw[if_neg U,if_neg (by simp;omega)];simp[O]
theorem gA(h:WRel μ H w){b o:Nat}{l:Loc}{vs E:List Value}{H':Heap}(hb:μ b=some l)(hs:H.storeL ⟨b,o,none⟩ vs=some H')(T:LRel μ vs E):
  ∃w',(storeCells ⟨l.c,l.sh+o,none⟩ E).run P w= .ok () w'/\Post μ H w μ H' w':=by
 simp only[Heap.storeL,bI,ns,Nat.add_eq]at hs
 split at hs
 ·rename_i cs b3 hg;cases hq:(Nat.ble (o+vs.length) cs.length&&vs.all Value.oneCell') with
  |false=>rw[hq]at hs;cases hs
  |true=>
   rw[hq]at hs;simp only[cond_true,a01]at hs
   simp only[a04]at hq
   have Y:o+vs.length<=cs.length:=a0e hq.1
   obtain⟨r1,O,e,U,r2,r3,r4⟩:=h.obj b l _ hb hg
   have Z:=T.1
   have a5:E.all Value.oneCell'=true:=by
    rw[a0l];intro x hx;obtain⟨i,hi⟩:=List.getElem?_of_mem hx;have a2:i<vs.length:=by rw[Z];exact(a0u.1 hi).1
    have hr:=T.2 i vs[i] x (a0b a2) hi;rw[hr.oneCell];exact a0l.1 hq.2 _ (a1e a2)
   by_cases a3:E=[]
   ·subst a3;have hv:vs=[]:=by simpa using Z
    subst hv;have a4:bD cs o []=cs:=by apply a1D;intro k;rw[bC _ _ _ _ (by simpa using Y),if_neg (by simp)]
    subst hs;refine⟨bj w l.c (.cells O e (0,0)),?_,?_⟩
    ·have:bj w l.c (.cells O e (0,0))=w:=by
      unfold bj;congr 1;apply a1v;intro k;by_cases hk:l.c=k
      ·subst hk;rw[a10,if_pos rfl,if_pos (bQ U),U]
      rw[a1m hk]
     rw[this];rfl
    refine Post.put h hb hg rfl _ rfl _ ⟨r1,O,e,bt w _ (bQ U),r2,by rw[a4];exact r3,fun i v hi=>r4 i v (by rw[a4]at hi;exact hi)⟩
   subst hs
   refine⟨_,by simpa using dF (P:=P) l.c e E w O (l.sh+o) 0 U (by omega) a5 a3,?_⟩
   refine Post.put h hb hg rfl _ rfl _ ⟨r1,_,e,bt w _ (bQ U),?_,?_,?_⟩
   ·rw[←r2];show(bD O.toList (l.sh+o) E).length=_;rw[cr _ _ _ (by simp;omega)];simp
   ·rw[cr _ _ _ Y];exact r3
   intro i v hi
   rw[bC _ _ _ _ Y]at hi
   have mg: ∀v':Value,(bD O.toList (l.sh+o) E)[l.sh+i]?=some v'->(Array.mk (bD O.toList (l.sh+o+0) E))[l.sh+i]?=some v':=fun v' hv=>(lh _ _).trans hv
   rw[bC _ _ _ _ (by simp;omega)]at mg
   by_cases hc:o<=i/\i<o+vs.length
   ·rw[if_pos hc]at hi;rw[if_pos (by omega)]at mg;obtain⟨v',ax,hr⟩:=T.get hi;exact⟨v',mg v' (by rw[←ax];congr 1;omega),hr⟩
   rw[if_neg hc]at hi
   rw[if_neg (by omega)]at mg
   obtain⟨v',ax,hr⟩:=r4 i v hi
   exact⟨v',mg v' (by simpa using ax),hr⟩
 cases hs
theorem dq(h:WRel μ H w)(Z:μ H.next=none)(e:TypeId){cs O:List Value}(U:LRel μ cs O)(E:List Value)(T:Option Nat)(ar:T=none->E=[]):
  ∃l,l.c=w.heap.size/\l.sh=0/\l.opn=T/\l.csz=cs.length+E.length/\
  (newRow e ⟨O++E⟩).run P w= .ok ⟨w.heap.size,0,none⟩ (w.alloc (.cells ⟨O++E⟩ e))/\
   Post μ H w (μ.set H.next l) (aS H cs T) (w.alloc (.cells ⟨O++E⟩ e)):=by
 refine⟨⟨w.heap.size,0,T,cs.length+E.length⟩,rfl,rfl,rfl,rfl,by simp[newRow],?_⟩
 refine Post.push h Z _ rfl _ _ ⟨rfl,_,e,gf w _,by simp[U.1],by simp,fun i v hi=>?_⟩
 obtain⟨v',Y,hr⟩:=U.get hi
 refine⟨v',?_,hr.mono (Emb.set_ext _ Z)⟩
 have:i<O.length:=(a0u.1 Y).1
 simp only[a0B,lh]
 rw[a19 this];exact Y
end mem
end Go.R
namespace Go.R
def ANRel(μ:Emb):AN->Next->Prop
 | .val v,.value v'=>VRel μ v v'
 | .skip,.skip=>True
 | .enter f args,.enter f' args'=>f=f'/\LRel μ args args'.toList
 |_,_=>False
theorem jG(bs:ByteArray): ∀(n i:Nat) (r:List UInt8),bs.size-i=n->ByteArray.toList.loop bs i r=r.reverse++bs.data.toList.drop i:=by
 intro n;induction n with
 |zero=>
  intro i r h
  rw[ByteArray.toList.loop,if_neg (by omega),a0O (by simp only[a1P,ByteArray.size_data];omega),a0o]
 |succ n ih=>
  intro i r h
  have hi:i<bs.size:=by omega
  rw[ByteArray.toList.loop,if_pos hi,ih (i+1) _ (by omega)]
  have E:i<bs.data.toList.length:=by simpa using hi
  rw[a0K E]
  simp[ByteArray.get!,hi]
theorem du(bs:ByteArray):bs.toList=bs.data.toList:=by unfold ByteArray.toList;rw[jG bs _ 0 [] rfl];simp
section
variable {P:Program} {μ:Emb}
theorem dG{ρ ρ':Operand->Value}{o:Oper}{H H':Heap}{r:AN}(h:bF P ρ o H=some (r,H'))(hs: ∀cs b,o.op≠ .select cs b)
  (Z: ∀x∈o.op.operands,VRel μ (ρ x) (ρ' x)):H'=H/\∃v v',r= .val v/\(∀w,(execOp ρ' o).run P w= .ok (.value v') w)/\VRel μ v v':=by
 unfold bF at h
 cases O:o.op.operands.toList.all fun x=>ke (ρ x) with
 |false=>rw[O]at h;cases h
 |true=>
  rw[O]at h
  have U:execOp ρ' o=execOp ρ o:=execOp_congr o hs fun x T=>(Z x T).eq1 (a0l.1 O x (by simpa using T))
  simp only[cond_true]at h
  split at h
  ·rename_i v Y;cases E:noA2 v with
   |false=>rw[E]at h;cases h
   |true=>
    rw[E]at h;simp only[cond_true,a01,a06]at h
    obtain⟨rfl,rfl⟩:=h
    exact⟨rfl,v,v,rfl,fun w=>by rw[U];exact cM P Y w,VRel.refl2 E⟩
  cases h
theorem lj{s:Sem Value}{H H':Heap}{r:AN}(h:lift P s H=some (r,H')):H'=H/\∃v,r= .val v/\aC P s=some v:=by
 unfold lift at h;split at h
 ·rename_i v E;simp only[a01,a06]at h;exact⟨h.2.symm,v,h.1.symm,E⟩
 cases h
theorem intBin_sound{op:BinOp}{k:IntKind}{a b:Int}{v:Value}(h:l9 op k a b=some v)(t:TypeId)(w:World):
  (binOp op t (.int k a) (.int k b)).run P w= .ok v w/\dz v=true:=by
 cases op<;>simp only[l9,a01,reduceCtorEq]at h
 case quo=>
  cases hb:(b==0) with
  |true=>rw[hb]at h;cases h
  |false=>
   rw[hb]at h;simp only[cond_false,a01]at h;subst h
   have E: ¬b=0:=by simpa using hb
   simp[binOp_quo,Op.intDiv,E,dz]
 case rem=>
  cases hb:(b==0) with
  |true=>rw[hb]at h;cases h
  |false=>
   rw[hb]at h;simp only[cond_false,a01]at h;subst h
   have E: ¬b=0:=by simpa using hb
   simp[binOp_rem,Op.intDiv,E,dz]
 all_goals subst h
 case add=>simp[binOp_add,Op.intArith,dz]
 case sub=>simp[binOp_sub,Op.intArith,dz]
 case mul=>simp[binOp_mul,Op.intArith,dz]
 case and=>simp[binOp_and,intBits_and,dz,dv]
 case or=>simp[binOp_or,intBits_or,dz,dv]
 case xor=>simp[binOp_xor,intBits_xor,dz,dv]
 case andNot=>simp[binOp_andNot,intBits_andNot,dz,dv]
 case eql=>simp[binOp_eql,dz]
 case neq=>simp[binOp_neq,dz]
 case lss=>simp[binOp_lss,dz]
 case leq=>simp[binOp_leq,dz]
 case gtr=>simp[binOp_gtr,dz]
 case geq=>simp[binOp_geq,dz]
theorem shBin_sound{op:BinOp}{k O:IntKind}{a b:Int}{v:Value}(h:shBin op k a b=some v)(t:TypeId)(w:World):
  (binOp op t (.int k a) (.int O b)).run P w= .ok v w/\dz v=true:=by
 cases op<;>simp only[shBin,reduceCtorEq]at h
 all_goals
  cases b with
  |negSucc n=>simp[shiftN]at h
  |ofNat n=>
   simp only[shiftN,a01]at h;subst h
   have E: ¬((n:Int)<0):=by omega
   simp[binOp_shl,binOp_shr,Op.shift,E,dz,Nat.min_def]
theorem kN{op:BinOp}{t:TypeId}{a b:ByteArray}{v:Value}(h:strOp op a b=some v)(w:World):
  (binOp op t (.string a) (.string b)).run P w= .ok v w/\dz v=true:=by
 have hb:binOp op t (.string a) (.string b)=Op.stringOp op a b:=by cases op<;>rfl
 rw[hb]
 unfold strOp at h
 split at h
 ·injection h with h;subst h;simp[Op.stringOp,du,dM,dz]
 ·injection h with h;subst h;simp[Op.stringOp,du,dM,dz]
 ·injection h with h;subst h;simp[Op.stringOp,du,dz]
 ·injection h with h;subst h;simp[Op.stringOp,du,dM,dz]
 ·injection h with h;subst h;simp[Op.stringOp,du,dM,dz]
 ·injection h with h;subst h;simp[Op.stringOp,du,dz]
 ·simp only[dY,bI]at h;cases E:Nat.ble (a.data.toList++b.data.toList).length 1099511627776 with
  |false=>rw[E]at h;cases h
  |true=>
   rw[E]at h;simp only[cond_true,a01]at h;subst h
   have O:=a0e E
   simp only[a00,a1P,ByteArray.size_data]at O
   refine⟨?_,rfl⟩
   have T: ¬(((a.size+b.size:Nat):Int)>IntKind.i64.max):=by rw[IntKind.max_i64];omega
   simp only[Op.stringOp,if_neg T,Sem.run_pure]
   congr 2
 cases h
theorem l7{a:Option Addr}{v':Value}(h:VRel μ (.pointer a) v'): ∃a',v'= .pointer a'/\a'.isNone=a.isNone:=by
 cases h with
 |atom _ h0=>exact⟨a,rfl,rfl⟩
 |ptr b o l hb=>exact⟨_,rfl,rfl⟩
theorem dr{a:Option Addr}{n k:Nat}{v':Value}(h:VRel μ (.slice a n k) v'): ∃a' E,v'= .slice a' n E/\a'.isNone=a.isNone:=by
 cases h with
 |atom _ h0=>exact⟨a,k,rfl,rfl⟩
 |sliceC b o n k l hb ho=>exact⟨_,_,rfl,rfl⟩
 |sliceO b o o' n k E e l hb ho h1 h2 h3 h4=>exact⟨_,_,rfl,rfl⟩
 |sliceZ b o a l hb=>exact⟨_,_,rfl,rfl⟩
theorem l8{a:Option Nat}{v':Value}(h:VRel μ (.map a) v'): ∃a',v'= .map a'/\a'.isNone=a.isNone:=by
 cases h with
 |atom _ h0=>exact⟨a,rfl,rfl⟩
 |map b l hb=>exact⟨_,rfl,rfl⟩
theorem eM{t:TypeId}{x y:Value}{w:World}{b:Bool}(h: ∀d,(Op.equalIn (d+1) t x y).run P w= .ok b w):(Op.equal t x y).run P w= .ok b w:=h 9999
theorem lb{t:TypeId}{x y Y Z:Value}{b:Bool}(h:nilEq P t x y=some b)(T:VRel μ x Y)(U:VRel μ y Z)(w:World):
  (Op.equal t Y Z).run P w= .ok b w/\(∀op u v,eqGuard op t u v Y Z=pure ())/\(∀op,op= .eql\/op= .neq->binOp op t Y Z=(match op with
   | .eql=>do pure (.bool (←Op.equal t Y Z))
   |_=>do pure (.bool (!(←Op.equal t Y Z))))):=by
 unfold nilEq at h
 split at h
 ·rename_i e b0 O;obtain rfl:=T.eq0 rfl;obtain⟨b',rfl,hb⟩:=l7 U;injection h with h;subst h;refine⟨?_,fun op u v=>by cases op<;>rfl,fun op E=>by rcases E with rfl|rfl<;>rfl⟩;exact eM fun d=>by simp[Op.equalIn,aj w O,hb]
 ·rename_i e a0 O;obtain rfl:=U.eq0 rfl;obtain⟨a',rfl,ha⟩:=l7 T;injection h with h;subst h;refine⟨?_,fun op u v=>by cases op<;>rfl,fun op E=>by rcases E with rfl|rfl<;>rfl⟩;exact eM fun d=>by cases a'<;>simp[Op.equalIn,aj w O,←ha]
 ·rename_i e n k b0 n2 k2 O;obtain⟨rfl,rfl,rfl⟩:=T.sliceNil_inv;obtain⟨b',k',rfl,hb⟩:=dr U;injection h with h;subst h;refine⟨?_,fun op u v=>by cases op<;>rfl,fun op E=>by rcases E with rfl|rfl<;>rfl⟩;exact eM fun d=>by simp[Op.equalIn,aj w O,hb]
 ·rename_i e a0 n k n2 k2 O;obtain⟨rfl,rfl,rfl⟩:=U.sliceNil_inv;obtain⟨a',k',rfl,ha⟩:=dr T;injection h with h;subst h;refine⟨?_,fun op u v=>by cases op<;>rfl,fun op E=>by rcases E with rfl|rfl<;>rfl⟩;exact eM fun d=>by cases a'<;>simp[Op.equalIn,aj w O,←ha]
 ·rename_i e1 e2 b0 O;obtain rfl:=T.eq0 rfl;obtain⟨b',rfl,hb⟩:=l8 U;injection h with h;subst h;refine⟨?_,fun op u v=>by cases op<;>rfl,fun op E=>by rcases E with rfl|rfl<;>rfl⟩;exact eM fun d=>by simp[Op.equalIn,aj w O,hb]
 ·rename_i e1 e2 a0 O;obtain rfl:=U.eq0 rfl;obtain⟨a',rfl,ha⟩:=l8 T;injection h with h;subst h;refine⟨?_,fun op u v=>by cases op<;>rfl,fun op E=>by rcases E with rfl|rfl<;>rfl⟩;exact eM fun d=>by cases a'<;>simp[Op.equalIn,aj w O,←ha]
 ·rename_i ps rs va O;obtain rfl:=T.eq0 rfl;obtain rfl:=U.eq0 rfl;injection h with h;subst h;refine⟨?_,fun op u v=>by cases op<;>rfl,fun op E=>by rcases E with rfl|rfl<;>rfl⟩;exact eM fun d=>by simp[Op.equalIn,aj w O]
 ·rename_i ps rs va fn xs ys O;obtain rfl:=T.eq0 rfl;obtain⟨a1,a2,rfl,_,_⟩:=U.func_inv;injection h with h;subst h;refine⟨?_,fun op u v=>by cases op<;>rfl,fun op E=>by rcases E with rfl|rfl<;>rfl⟩;exact eM fun d=>by simp[Op.equalIn,aj w O]
 ·rename_i ps rs va fn xs ys O;obtain rfl:=U.eq0 rfl;obtain⟨a1,a2,rfl,_,_⟩:=T.func_inv;injection h with h;subst h;refine⟨?_,fun op u v=>by cases op<;>rfl,fun op E=>by rcases E with rfl|rfl<;>rfl⟩;exact eM fun d=>by simp[Op.equalIn,aj w O]
 cases h
theorem part_rel{t:TypeId}{cs E:Array Value}{off:Nat}{v:Value}(U:LRel μ cs.toList E.toList)(h:aC P (part t cs off)=some v):
  ∃v',aC P (part t E off)=some v'/\VRel μ v v':=by
 unfold part at h⊢
 simp only[aT,fY]at h⊢
 cases T:fS P t with
 |none=>rw[T]at h;simp at h
 |some g=>
  rw[T]at h
  cases g with
  |true=>
   simp only[a0s,if_true,aT,cY]at h⊢
   cases hs:eb P t with
   |none=>rw[hs]at h;simp at h
   |some n=>
    rw[hs]at h
    simp only[a0s,cm,a01]at h⊢
    subst h
    refine⟨_,rfl,?_⟩
    have:=(U.take (off+n)).drop off
    have ex: ∀c:Array Value,(c.extract off (off+n)).toList=(c.toList.take (off+n)).drop off:=fun c=>by simp[a1z]
    exact .agg _ _ (by rw[ex,ex];exact this.1) (by rw[ex,ex];exact this.2)
  |false=>
   simp only[a0s,a0k,if_false]at h⊢
   cases hc:cs[off]? with
   |none=>rw[hc]at h;simp at h
   |some u=>
    rw[hc]at h
    simp only[cm,a01]at h;subst h
    obtain⟨v',Y,O⟩:=U.get (i:=off) (v:=u) (by simpa using hc)
    refine⟨v',?_,O⟩
    have:E[off]?=some v':=by simpa using Y
    rw[this];rfl
theorem field_rel{t:TypeId}{x T:Value}{f:Nat}{v:Value}(Y:VRel μ x T)(h:aC P (Instr.field t x f)=some v):
  ∃v',aC P (Instr.field t T f)=some v'/\VRel μ v v':=by
 unfold Instr.field at h⊢
 simp only[aT,bE]at h⊢
 cases O:P.underlying t with
 |none=>rw[O]at h;simp at h
 |some d=>
  rw[O]at h
  simp only[a0s]at h⊢
  cases d with
  |struct fields=>
   simp only at h⊢
   cases E:fields[f]? with
   |none=>rw[E]at h;simp at h
   |some fd=>
    rw[E]at h
    simp only[aT]at h⊢
    cases x with
    |agg cs=>
     obtain⟨Z,rfl,U⟩:=Y.agg_inv
     simp only[asAgg,cm,a0s]at h⊢
     exact part_rel U h
    |_=>simp[asAgg]at h
  |_=>simp at h
theorem index_rel{t:TypeId}{x U i T:Value}{v:Value}(Z:VRel μ x U)(hi:VRel μ i T)(E: ∀s,x≠ .string s)(h:aC P (Instr.index t x i)=some v):
  ∃v',aC P (Instr.index t U T)=some v'/\VRel μ v v':=by
 cases i with
 |int k n=>
  obtain rfl:=hi.int_inv
  unfold Instr.index at h⊢
  simp only[asIntOf,aT,cm,a0s,bE]at h⊢
  cases O:P.underlying t with
  |none=>rw[O]at h;simp at h
  |some d=>
   rw[O]at h
   simp only[a0s]at h⊢
   cases d with
   |array len e=>
    cases x with
    |agg cs=>
     obtain⟨an,rfl,Y⟩:=Z.agg_inv
     simp only at h⊢
     by_cases hb:0<=n/\n<(len:Int)
     ·rw[if_pos hb]at h⊢;simp only[aT,cY]at h⊢;cases hs:eb P e with
      |none=>rw[hs]at h;simp at h
      |some sz=>rw[hs]at h;simp only[a0s]at h⊢;exact part_rel Y h
     rw[if_neg hb,iy]at h;cases h
    |_=>simp at h
   |string=>
    cases x with
    |string s=>exact absurd rfl (E s)
    |_=>simp at h
   |_=>simp at h
 |pointer a=>cases a<;>simp[Instr.index,asIntOf]at h
 |_=>simp[Instr.index,asIntOf]at h
theorem i7: ∀(l l':List Value) (s off:Nat) (A T:Array Value),LRel μ l l'->LRel μ A.toList T.toList->
  LRel μ ((l.zipIdx s).foldl (fun cs p=>cs.setIfInBounds (off+p.2) p.1) A).toList ((l'.zipIdx s).foldl (fun cs p=>cs.setIfInBounds (off+p.2) p.1) T).toList
 | [],l',s,off,A,T,h,hA=>by rw[h.nil_left];exact hA
 |v::l,l',s,off,A,T,h,hA=>by
  obtain⟨v',t',rfl,Z,Y⟩:=h.cons_left;simp only[List.zipIdx_cons,List.foldl_cons];refine i7 l t' (s+1) off _ _ Y ⟨by simpa using hA.1,fun i x x' E O=>?_⟩;simp only[Array.toList_setIfInBounds,List.getElem?_set]at E O;have U:=hA.1;by_cases hi:off+s=i
  ·rw[if_pos hi]at E O;split at E
   ·rename_i ax;rw[if_pos (by omega)]at O;injection E with E;injection O with O;subst E O;exact Z
   cases E
  rw[if_neg hi]at E O;exact hA.2 i x x' E O
theorem kA{E:Nat->Option (Nat×Nat)}: ∀(ps ps':List (Nat×Value)) (A A':Array Value) (r:Array Value),ps.length=ps'.length->
  (∀(i:Nat) x O,ps[i]?=some x->ps'[i]?=some O->x.1=O.1/\VRel μ x.2 O.2)->LRel μ A.toList A'.toList->Instr.fill E A ps=some r->
  ∃r',Instr.fill E A' ps'=some r'/\LRel μ r.toList r'.toList
 | [],ps',A,A',r,hl,_,hA,h=>by have:ps'=[]:=a0g hl.symm;subst this;simp only[Instr.fill,a01]at h;subst h;exact⟨A',rfl,hA⟩
 |(i,v)::ps,ps',A,A',r,hl,hp,hA,h=>by
  cases ps' with
  |nil=>simp at hl
  |cons O ps'=>
   obtain⟨i',v'⟩:=O
   obtain⟨hi,hv⟩:=hp 0 (i,v) (i',v') rfl rfl
   simp only at hi hv;subst hi
   simp only[Instr.fill]at h⊢
   cases U:E i with
   |none=>rw[U]at h;cases h
   |some os=>
    obtain⟨off,size⟩:=os
    rw[U]at h
    simp only at h⊢
    have hc:=hv.cells
    have Z:v'.cells.size=v.cells.size:=by have:=hc.1;simpa using this.symm
    have Y:A'.size=A.size:=by have:=hA.1;simpa using this.symm
    rw[Z,Y]
    split at h
    ·cases h
    rename_i T
    rw[if_neg T]
    refine kA ps ps' _ _ r (by simpa using hl) (fun j x O h1 h2=>hp (j+1) x O (by simpa using h1) (by simpa using h2)) ?_ h
    have:=i7 v.cells.toList v'.cells.toList 0 off A A' hc hA
    have e: ∀(u:Value) (B:Array Value),Array.foldl (fun cs x=>cs.setIfInBounds (off+x.snd) x.fst) B u.cells.zipIdx=List.foldl (fun cs p=>cs.setIfInBounds (off+p.snd) p.fst) B u.cells.toList.zipIdx:=fun u B=>by rw[←Array.foldl_toList,Array.toList_zipIdx]
    exact(e v A▸e v' A'▸this:LRel μ (Array.foldl (fun cs x=>cs.setIfInBounds (off+x.snd) x.fst) A v.cells.zipIdx).toList (Array.foldl (fun cs x=>cs.setIfInBounds (off+x.snd) x.fst) A' v'.cells.zipIdx).toList)
end
end Go.R
namespace Go.R
section
variable {P:Program} {μ:Emb}
theorem build_rel{t:TypeId}{ps ps':Array (Nat×Value)}{v:Value}(Z:ps.toList.length=ps'.toList.length)
  (hp: ∀(i:Nat) x x',ps.toList[i]?=some x->ps'.toList[i]?=some x'->x.1=x'.1/\VRel μ x.2 x'.2)
  (hz:(ey P t).isSome=true) (h:aC P (Instr.build t ps)=some v):
  ∃v',aC P (Instr.build t ps')=some v'/\VRel μ v v':=by
 unfold Instr.build at h⊢
 have a2:aC P (zeroValue t)=(P.info? t).bind (·.zero):=by
  unfold zeroValue;simp only[aT,er];cases hi:P.info? t with
  |none=>rfl
  |some i=>simp only[a0s];cases i.zero<;>rfl
 simp only[aT,a2,bE]at h⊢
 cases hi:(P.info? t).bind (·.zero) with
 |none=>rw[hi]at h;simp at h
 |some z=>
  rw[hi]at h
  have U:LRel μ z.cells.toList z.cells.toList:=by obtain⟨zl,a1⟩:=Option.isSome_iff_exists.1 hz;obtain⟨i,v0,h1,h2,h3,h4⟩:=eR (P:=P) a1;rw[h1]at hi;simp only[a0s,h2,a01]at hi;subst hi;exact LRel.refl0 (by rw[h3];exact h4)
  simp only[a0s]at h⊢
  cases hu:P.underlying t with
  |none=>rw[hu]at h;simp at h
  |some d=>
   rw[hu]at h
   simp only[a0s]at h⊢
   cases d with
   |struct fields=>
    simp only[aT]at h⊢
    cases hm:aC P (fields.mapM fun f=>do let y ←sizeOf f.type;Pure.pure (f.offset,y)) with
    |none=>rw[hm]at h;simp at h
    |some places=>
     rw[hm]at h
     simp only[a0s]at h⊢
     cases O:Instr.fill (fun x=>places[x]?) z.cells ps.toList with
     |none=>rw[O]at h;simp at h
     |some r=>
      rw[O]at h
      simp only[cm,a01]at h
      subst h
      obtain⟨Y,T,E⟩:=kA _ _ _ _ _ Z hp U O
      exact⟨.agg Y,by rw[T];rfl,.agg _ _ E.1 E.2⟩
   |array n e=>
    simp only[aT,cY]at h⊢
    cases hs:eb P e with
    |none=>rw[hs]at h;simp at h
    |some sz=>
     rw[hs]at h
     simp only[a0s]at h⊢
     cases O:Instr.fill (fun i=>some (i *sz,sz)) z.cells ps.toList with
     |none=>rw[O]at h;simp at h
     |some r=>
      rw[O]at h
      simp only[cm,a01]at h
      subst h
      obtain⟨Y,T,E⟩:=kA _ _ _ _ _ Z hp U O
      exact⟨.agg Y,by rw[T];rfl,.agg _ _ E.1 E.2⟩
   |_=>simp at h
theorem fO{v v':Value}{n:Nat}(h:asNat v=some n)(E:VRel μ v v'): ∃k,v'= .int k (n:Int):=by
 unfold asNat at h;split at h
 ·rename_i k m;injection h with h;subst h;exact⟨k,E.int_inv⟩
 cases h
theorem aField_sound{s:TypeId}{x U:Value}{f:Nat}{v:Value}(h:jm P s x f=some v)(hx:VRel μ x U):
  ∃v',(∀w,(Instr.fieldAt s U f).run P w= .ok v' w)/\VRel μ v v':=by
 unfold jm at h
 split at h
 ·rename_i fs b o hu;split at h
  ·rename_i O Y;split at h
   ·rename_i n Z;cases E:Nat.beq n 0 with
    |true=>rw[E]at h;cases h
    |false=>
     rw[E]at h;simp only[cond_false,a01]at h;subst h
     obtain⟨l,hb,rfl⟩:=hx.ptr_inv
     have T: ¬n=0:=fun e=>by subst e;cases E
     refine⟨_,fun w=>?_,a0E l.sh o O.offset▸VRel.ptr b (o+O.offset) l hb⟩
     simp[Instr.fieldAt,aj w hu,Y,Instr.sureAddr,fieldPlace,bg w Z,T,db,a0E]
   cases h
  cases h
 cases h
theorem km{t:TypeId}{x x' i i':Value}{v:Value}(h:dw P t x i=some v)(hx:VRel μ x x')(hi:VRel μ i i'):
  ∃v',(∀w,(Instr.indexAt t x' i').run P w= .ok v' w)/\VRel μ v v':=by
 unfold dw at h
 split at h
 ·rename_i e b o n k j T Y;obtain⟨ik,rfl⟩:=fO Y hi;split at h
  ·rename_i sz hs;cases E:(Nat.ble (j+1) n&&Nat.ble n k) with
   |false=>rw[E]at h;cases h
   |true=>
    rw[E]at h;simp only[cond_true,a01]at h;subst h
    simp only[a04]at E
    have h1:j+1<=n:=a0e E.1
    have h2:n<=k:=a0e E.2
    obtain⟨l,hb,hc⟩:=hx.slice_inv
    have O:VRel μ (.pointer (some ⟨b,o+j *sz,none⟩)) (.pointer (some ⟨l.c,l.sh+o+j *sz,none⟩)):=
     a0E l.sh o (j *sz)▸VRel.ptr b (o+j *sz) l hb
    have U:(j:Int)<(n:Int):=by omega
    rcases hc with⟨_,rfl⟩|⟨e',o',k',_,rfl,_,_,Z,_⟩|⟨hz,_,_⟩
    rotate_right
    ·omega
    ·refine⟨_,fun w=>?_,O⟩;simp[Instr.indexAt,asIntOf,aj w T,bg w hs,db];omega
    have ho:o'=l.sh+o:=Z (by omega)
    subst ho
    refine⟨_,fun w=>?_,O⟩
    simp[Instr.indexAt,asIntOf,aj w T,bg w hs,db]
    omega
  cases h
 ·rename_i n e b o j T Y;obtain⟨ik,rfl⟩:=fO Y hi;split at h
  ·rename_i sz hs;cases E:Nat.ble (j+1) n with
   |false=>rw[E]at h;cases h
   |true=>
    rw[E]at h;simp only[cond_true,a01]at h;subst h
    have h1:j+1<=n:=a0e E
    obtain⟨l,hb,rfl⟩:=hx.ptr_inv
    refine⟨_,fun w=>?_,a0E l.sh o (j *sz)▸VRel.ptr b (o+j *sz) l hb⟩
    have U:(j:Int)<(n:Int):=by omega
    have h0:(0:Int)<=(j:Int)/\(j:Int)<(n:Int):=⟨by omega,U⟩
    simp only[Instr.indexAt,asIntOf,aj w T,bg w hs,db,Instr.sureAddr,Sem.run_bind,Sem.run_pure,Result.andThen_ok,if_pos h0,Int.toNat_natCast]
  cases h
 cases h
theorem strIndex_run{t:TypeId}{s:ByteArray}{k:IntKind}{j:Nat}{b:UInt8}(T:P.underlying t=some .string)(hb:s.data.toList[j]?=some b)(w:World):
  (Instr.index t (.string s) (.int k (j:Int))).run P w= .ok (.int .u8 b.toNat) w:=by
 have E:j<s.size:=by have:=(a0u.1 hb).1;simpa using this
 have O:s[j]?=some b:=by rw[getElem?_pos s j E];have:=(a0u.1 hb).2;rw[←this];rfl
 simp[Instr.index,asIntOf,aj w T,O]
theorem kE{ops:Array Operand}{ρ ρ':Operand->Value}(h: ∀x∈ops,VRel μ (ρ x) (ρ' x)):LRel μ (ops.map ρ).toList (ops.map ρ').toList:=by refine⟨by simp,fun i v v' O T=>?_⟩;simp only[Array.toList_map,a1E,a1C]at O T;obtain⟨x,U,rfl⟩:=O;obtain⟨y,E,rfl⟩:=T;rw[U]at E;injection E with E;subst E;exact h x (by simpa using a0p U)
theorem nu{t:TypeId}{x U:Value}{f:Nat}{v:Value}(h:iP P t x f=some v)(hx:VRel μ x U):
  ∃v',(∀w,(Instr.field t U f).run P w= .ok v' w)/\VRel μ v v':=by
 unfold iP at h
 split at h
 ·rename_i cs;split at h
  ·rename_i g n off E;have hp:aC P (Instr.field t (.agg cs) f)=some v:=by
    unfold fieldAt? at E;split at E
    ·rename_i fs hu;split at E
     ·rename_i Y O;split at E
      ·rename_i Z n' hg hn;simp only[a01,a06]at E;obtain⟨rfl,rfl,rfl⟩:=E;unfold Instr.field part;simp only[aT,bE,hu,a0s,O,asAgg,cm,fY,hg];unfold partL at h;cases Z with
       |true=>
        simp only[cond_true,a01,bY,cy]at h
        simp only[if_true,aT,cY,hn,a0s,cm,a01]
        subst h
        congr 1
        apply Array.ext'
        simp
       |false=>
        simp only[cond_false,iZ]at h
        simp only[a0k,if_false]
        have hc:cs[Y.offset]?=some v:=by simpa using h
        rw[hc];rfl
      cases E
     cases E
    cases E
   obtain⟨v',T,hr⟩:=field_rel hx hp;exact⟨v',fun w=>cM P T w,hr⟩
  cases h
 cases h
theorem cw{r:Option Value}{H H':Heap}{n:AN}(h:ovl r H=some (n,H')):H'=H/\∃v,r=some v/\n= .val v:=by
 unfold ovl at h;split at h
 ·rename_i v;simp only[a01,a06]at h;exact⟨h.2.symm,v,rfl,h.1.symm⟩
 cases h
theorem jy{op:BinOp}{r:Option Bool}{H H':Heap}{n:AN}(h:nilBin op r H=some (n,H')):
  H'=H/\∃b,r=some b/\((op= .eql/\n= .val (.bool b))\/(op= .neq/\n= .val (.bool (!b)))):=by
 unfold nilBin at h
 split at h
 ·rename_i b;split at h
  ·simp only[a01,a06]at h;exact⟨h.2.symm,b,rfl,.inl ⟨rfl,h.1.symm⟩⟩
  ·simp only[a01,a06]at h;exact⟨h.2.symm,b,rfl,.inr ⟨rfl,h.1.symm⟩⟩
  cases h
 cases h
theorem kK{ρ ρ':Operand->Value}{o:Oper}{H H':Heap}{r:AN}(hk:bh o.op=true)
  (T: ∀x∈o.op.operands,VRel μ (ρ x) (ρ' x)) (h:aop P ρ o H=some (r,H')):
  H'=H/\∃v v',r= .val v/\(∀w,(execOp ρ' o).run P w= .ok (.value v') w)/\VRel μ v v':=by
 obtain⟨b7,op,type,pos,after,b2⟩:=o
 cases op<;>simp only[bh,a0k]at hk
 case move x=>
  simp only[aop,a01,a06]at h
  obtain⟨rfl,rfl⟩:=h
  exact⟨rfl,_,ρ' x,rfl,fun w=>rfl,T x (by simp[Op.operands])⟩
 case assign x=>
  simp only[aop,a01,a06]at h
  obtain⟨rfl,rfl⟩:=h
  exact⟨rfl,_,ρ' x,rfl,fun w=>rfl,T x (by simp[Op.operands])⟩
 case pick c a b=>
  simp only[aop,gG]at h
  split at h
  ·rename_i t ht;simp only[a01,a06]at h;obtain⟨rfl,rfl⟩:=h;have hc:ρ' c= .bool t:=by have:=T c (by simp[Op.operands]);rw[ht]at this;exact this.bool_inv
   refine⟨rfl,_,(if t then ρ' a else ρ' b),rfl,fun w=>?_,?_⟩
   ·simp[execOp,hc,asBool]
   cases t
   ·exact T b (by simp[Op.operands])
   exact T a (by simp[Op.operands])
  cases h
 case build t parts=>
  simp only[aop,iB]at h
  split at h
  case h_2=>cases h
  rename_i z hz
  obtain⟨rfl,v,rfl,E⟩:=lj h
  obtain⟨v',U,Y⟩:=build_rel (μ:=μ) (ps:=parts.map fun p=>(p.1,ρ p.2)) (ps':=parts.map fun(i,x)=>(i,ρ' x)) (by simp) (fun i x x' Z h2=>by
   simp only[Array.toList_map,a1E,a1C]at Z h2;obtain⟨y,hy,rfl⟩:=Z;obtain⟨z,hz,rfl⟩:=h2;rw[hy]at hz;injection hz with hz;subst hz;refine⟨rfl,T _ ?_⟩;have:=a0p hy;simp only[Op.operands,List.mem_toArray,a0v];exact⟨y,this,rfl⟩) (by rw[hz];rfl) E
  exact⟨rfl,v,v',rfl,fun w=>by simp only[execOp,Sem.run_bind,cM P U w,Result.andThen_ok,Sem.run_pure],Y⟩
 case nilCheck x=>
  simp only[aop,opNil]at h
  split at h
  ·rename_i a ha;simp only[a01,a06]at h;obtain⟨rfl,rfl⟩:=h;have O:=T x (by simp[Op.operands]);rw[ha]at O;obtain⟨_,a',a8⟩:=O.ptr_some;exact⟨rfl,_,ρ' x,rfl,fun w=>by simp[execOp,a8],O⟩
  ·rename_i f a c ha;simp only[a01,a06]at h;obtain⟨rfl,rfl⟩:=h;have O:=T x (by simp[Op.operands]);rw[ha]at O;obtain⟨a',c',a9,_,_⟩:=O.func_inv;exact⟨rfl,_,ρ' x,rfl,fun w=>by simp[execOp,a9],O⟩
  cases h
 case binOp op t x y yt=>
  have O:=T x (by simp[Op.operands])
  have hy:=T y (by simp[Op.operands])
  simp only[aop,aBin]at h
  split at h
  ·rename_i k a ha;rw[ha]at O;unfold binInt at h;split at h
   ·rename_i k' b hb;rw[hb]at hy;obtain⟨rfl,v,E,rfl⟩:=cw h;have key: ∀w,(binOp op t (.int k a) (.int k' b)).run P w= .ok v w/\dz v=true:=by
     intro w;cases hs:ll op with
     |true=>rw[hs]at E;exact shBin_sound E t w
     |false=>
      rw[hs]at E
      simp only[cond_false]at E
      cases he:gt k k' with
      |false=>rw[he]at E;cases E
      |true=>
       rw[he]at E
       have:k=k':=by simpa[gt] using he
       subst this
       exact intBin_sound E t w
    refine⟨rfl,v,v,rfl,fun w=>?_,.atom v (key default).2⟩;simp only[execOp,O.int_inv,hy.int_inv,eqGuard_at_int,pure_bind,Sem.run_bind,(key w).1,Result.andThen_ok,Sem.run_pure]
   cases h
  ·rename_i a ha;rw[ha]at O;unfold binStr at h;split at h
   ·rename_i b hb;rw[hb]at hy;obtain⟨rfl,v,E,rfl⟩:=cw h;refine⟨rfl,v,v,rfl,fun w=>?_,.atom v (kN (P:=P) (t:=t) E default).2⟩;simp only[execOp,O.string_inv,hy.string_inv,eqGuard_at_string,pure_bind,Sem.run_bind,(kN (P:=P) (t:=t) E w).1,Result.andThen_ok,Sem.run_pure]
   cases h
  unfold nj at h
  split at h
  ·exact dG h (fun _ _=>by simp) T
  ·exact dG h (fun _ _=>by simp) T
  obtain⟨rfl,b,hb,a1⟩:=jy h
  rcases a1 with⟨rfl,rfl⟩|⟨rfl,rfl⟩
  ·refine⟨rfl,_,_,rfl,fun w=>?_,.atom (.bool b) rfl⟩;obtain⟨Z,h2,h3⟩:=lb (P:=P) hb O hy w;simp only[execOp,h2,pure_bind,h3 .eql (.inl rfl),Sem.run_bind,Z,Result.andThen_ok,Sem.run_pure]
  refine⟨rfl,_,_,rfl,fun w=>?_,.atom (.bool (!b)) rfl⟩
  obtain⟨Z,h2,h3⟩:=lb (P:=P) hb O hy w
  simp only[execOp,h2,pure_bind,h3 .neq (.inr rfl),Sem.run_bind,Z,Result.andThen_ok,Sem.run_pure]
 case unOp op t x=>
  have O:=T x (by simp[Op.operands])
  simp only[aop,aUn]at h
  split at h
  ·rename_i b hb;rw[hb]at O;split at h
   ·simp only[a01,a06]at h;obtain⟨rfl,rfl⟩:=h;exact⟨rfl,_,_,rfl,fun w=>by simp[execOp,O.bool_inv,Op.unary],.atom (.bool (!b)) rfl⟩
   cases h
  exact dG h (fun _ _=>by simp) T
 case makeFunc fn first captured=>
  simp only[aop,a01,a06]at h
  obtain⟨rfl,rfl⟩:=h
  have Z:=kE (μ:=μ) (ops:=first) (ρ:=ρ) (ρ':=ρ') fun x O=>T x (by simp[Op.operands,O])
  have h2:=kE (μ:=μ) (ops:=captured) (ρ:=ρ) (ρ':=ρ') fun x O=>T x (by simp[Op.operands,O])
  exact⟨rfl,_,_,rfl,fun w=>rfl,.func _ _ _ _ _ Z.1 h2.1 Z.2 h2.2⟩
 case fieldAddr s x f=>
  simp only[aop]at h
  obtain⟨rfl,v,E,rfl⟩:=cw h
  obtain⟨v',U,Y⟩:=aField_sound E (T x (by simp[Op.operands]))
  exact⟨rfl,v,v',rfl,fun w=>by simp only[execOp,Sem.run_bind,U w,Result.andThen_ok,Sem.run_pure],Y⟩
 case field t x f=>
  simp only[aop]at h
  obtain⟨rfl,v,E,rfl⟩:=cw h
  obtain⟨v',U,Y⟩:=nu E (T x (by simp[Op.operands]))
  exact⟨rfl,v,v',rfl,fun w=>by simp only[execOp,Sem.run_bind,U w,Result.andThen_ok,Sem.run_pure],Y⟩
 case indexAddr t x i=>
  simp only[aop]at h
  obtain⟨rfl,v,E,rfl⟩:=cw h
  obtain⟨v',U,Y⟩:=km E (T x (by simp[Op.operands])) (T i (by simp[Op.operands]))
  exact⟨rfl,v,v',rfl,fun w=>by simp only[execOp,Sem.run_bind,U w,Result.andThen_ok,Sem.run_pure],Y⟩
 case index t x i=>
  have O:=T x (by simp[Op.operands])
  have hi:=T i (by simp[Op.operands])
  simp only[aop,lC]at h
  split at h
  ·rename_i s hs;rw[hs]at O;obtain⟨rfl,v,E,rfl⟩:=cw h;unfold strAt at E;split at E
   ·rename_i j hu hj;obtain⟨k,hk⟩:=fO hj hi;rw[iZ]at E;split at E
    ·rename_i b hb;injection E with E;subst E;exact⟨rfl,_,_,rfl,fun w=>by simp only[execOp,O.string_inv,hk,Sem.run_bind,strIndex_run hu hb w,Result.andThen_ok,Sem.run_pure],.atom _ rfl⟩
    cases E
   cases E
  rename_i bb
  obtain⟨rfl,v,rfl,E⟩:=lj h
  obtain⟨v',U,Y⟩:=index_rel O hi (fun s hs=>bb s hs) E
  exact⟨rfl,v,v',rfl,fun w=>by simp only[execOp,Sem.run_bind,cM P U w,Result.andThen_ok,Sem.run_pure],Y⟩
 case extract x i=>
  simp only[aop]at h
  have O:=T x (by simp[Op.operands])
  obtain⟨rfl,v,E,rfl⟩:=cw h
  unfold hT at E
  split at E
  ·rename_i vs b0;rw[b0]at O;obtain⟨b1,a6,Y⟩:=O.tuple_inv;rw[iZ]at E;obtain⟨v',U,a5⟩:=Y.get E;have hg:b1[i]?=some v':=by simpa using U
   exact⟨rfl,v,v',rfl,fun w=>by simp[execOp,a6,Instr.extract,hg],a5⟩
  cases E
end
end Go.R
namespace Go.R
theorem eN(l:List Value): ∀n,(dU n l).length=n *l.length
 |0=>by simp[dU]
 |n+1=>by simp only[dU,a00,eN l n];rw[a0P];omega
theorem mn(l:List Value): ∀(n i:Nat),i<n *l.length->(dU n l)[i]?=l[i%l.length]?
 |0,i,h=>by simp at h
 |n+1,i,h=>by
  simp only[dU];by_cases hi:i<l.length
  ·rw[a19 hi,Nat.mod_eq_of_lt hi]
  rw[a0P,Nat.one_mul]at h;rw[a1g (by omega),mn l n (i-l.length) (by omega)];congr 1;exact(Nat.mod_eq_sub_mod (by omega)).symm
theorem zeros_eq(z:Array Value)(n:Nat):(Array.range (n *z.size)).map (fun i=>z[i%z.size]!)=⟨dU n z.toList⟩:=by
 apply a1v;intro i;refine Eq.trans ?_ (lh _ _).symm;by_cases hi:i<n *z.size
 ·rw[mn _ _ _ (by simpa using hi)];have O:0<z.size:=by
   rcases a1c z.size with h|h
   ·rw[h]at hi;simp at hi
   exact h
  have E:i%z.size<z.size:=a1F _ O;simp[hi,E]
 rw[a0Z (by rw[eN];simpa using hi)];simp[hi]
theorem iK{l:List Value}(h:l.all dz=true): ∀n,(dU n l).all dz=true
 |0=>rfl
 |n+1=>by simp only[dU,a1Q,h,iK h n,a1k]
section
variable {P:Program} {μ:Emb} {H H':Heap} {w:World}
def OpOK(P:Program)(μ:Emb)(H:Heap)(w:World)(s:Sem Next)(r:AN)(H':Heap):Prop:=
 ∃n w' μ',s.run P w= .ok n w'/\Post μ H w μ' H' w'/\ANRel μ' r n
theorem OpOK.value{s:Sem Value}{v v':Value}{w':World}{μ':Emb}(h:s.run P w= .ok v' w')(E:Post μ H w μ' H' w')(O:VRel μ' v v'):
  OpOK P μ H w (do Pure.pure (.value (←s))) (.val v) H':=
 ⟨.value v',w',μ',by simp only[Sem.run_bind,h,Result.andThen_ok,Sem.run_pure],E,O⟩
theorem OpOK.skip{s:Sem Unit}{w':World}{μ':Emb}(h:s.run P w= .ok () w')(E:Post μ H w μ' H' w'):
  OpOK P μ H w (do s;Pure.pure .skip) .skip H':=
 ⟨.skip,w',μ',by simp only[Sem.run_bind,h,Result.andThen_ok,Sem.run_pure],E,trivial⟩
theorem kY{r:Option (Value×Heap)}{n:AN}(h:ovh r=some (n,H')): ∃v,r=some (v,H')/\n= .val v:=by
 unfold ovh at h;split at h
 ·simp only[a01,a06]at h;obtain⟨rfl,rfl⟩:=h;exact⟨_,rfl,rfl⟩
 cases h
theorem osk_inv{r:Option Heap}{n:AN}(h:osk r=some (n,H')):r=some H'/\n= .skip:=by
 unfold osk at h;split at h
 ·simp only[a01,a06]at h;obtain⟨rfl,rfl⟩:=h;exact⟨rfl,rfl⟩
 cases h
theorem i6(h:WRel μ H w)(hf:μ H.next=none)(e:TypeId){cs E:List Value}(O:LRel μ cs E):
  ∃l,l.c=w.heap.size/\l.sh=0/\l.opn=none/\(newRow e ⟨E⟩).run P w= .ok ⟨w.heap.size,0,none⟩ (w.alloc (.cells ⟨E⟩ e))/\
   Post μ H w (μ.set H.next l) (aS H cs none) (w.alloc (.cells ⟨E⟩ e)):=by
 obtain⟨l,Y,Z,h3,_,T,U⟩:=dq (P:=P) h hf e O [] none (fun _=>rfl)
 simp only[a0o]at T U
 exact⟨l,Y,Z,h3,T,U⟩
theorem alloc_sound{e:TypeId}{r:AN}(h:WRel μ H w)(hf: ∀b,H.next<=b->b<H'.next->μ b=none)(E:eT P e H=some (r,H')):
  OpOK P μ H w (do Pure.pure (.value (←Instr.alloc e true (.tuple #[])))) r H':=by
 unfold eT at E
 split at E
 ·rename_i z hz;simp only[a01,a06]at E;obtain⟨rfl,rfl⟩:=E;obtain⟨i,v,hi,hv,hc,O⟩:=eR (P:=P) hz;obtain⟨l,Y,Z,h3,T,hp⟩:=i6 (P:=P) h (hf H.next (a07 _) (by simp[aS])) e (LRel.refl0 (μ:=μ) O);have U:v.cells=⟨z⟩:=by rw[←hc]
  refine OpOK.value (v':= .pointer (some ⟨w.heap.size,0,none⟩)) ?_ hp ?_
  ·simp only[Instr.alloc,Sem.run_bind,dE w hi hv,Result.andThen_ok,newVar,U,T,Sem.run_pure]
  have:=VRel.ptr (μ:=μ.set H.next l) H.next 0 l (Emb.set_same _ _ _);rw[Y,Z]at this;exact this
 cases E
theorem box_sound{e:TypeId}{x O:Value}(h:WRel μ H w)(Y:μ H.next=none)(hx:VRel μ x O):
  OpOK P μ H w (do Pure.pure (.value (←Instr.box e O))) (.val (ptrTo H.next)) (aS H x.cells.toList none):=by
 obtain⟨l,T,U,h3,E,Z⟩:=i6 (P:=P) h Y e hx.cells
 refine OpOK.value (v':= .pointer (some ⟨w.heap.size,0,none⟩)) ?_ Z ?_
 ·simp only[Instr.box,newVar,Sem.run_bind,E,Result.andThen_ok,Sem.run_pure]
 have:=VRel.ptr (μ:=μ.set H.next l) H.next 0 l (Emb.set_same _ _ _)
 rw[T,U]at this;exact this
theorem lH{t:TypeId}{sz:Nat}{z:List Value}(h:fH P t=some (sz,z)): ∃e,P.underlying t=some (.slice e)/\eb P e=some sz/\ey P e=some z/\z.length=sz:=by
 unfold fH at h;split at h
 ·rename_i e O;split at h
  ·rename_i U Y hs T;cases E:Nat.beq (jT Y) U with
   |false=>rw[E]at h;cases h
   |true=>
    rw[E]at h;simp only[cond_true,a01,a06]at h
    obtain⟨rfl,rfl⟩:=h
    exact⟨e,O,hs,T,by rw[←bI];exact a08 E⟩
  cases h
 cases h
theorem kj{t:TypeId}{n:Nat}{ps:List (Nat×Value)}{ps':Array (Nat×Value)}{r:AN}(h:WRel μ H w)(hf: ∀b,H.next<=b->b<H'.next->μ b=none)
  (hl:ps.length=ps'.toList.length) (hp: ∀(i:Nat) x x',ps[i]?=some x->ps'.toList[i]?=some x'->x.1=x'.1/\VRel μ x.2 x'.2)
  (O:bw P t n ps H=some (r,H')):OpOK P μ H w (do Pure.pure (.value (←Instr.buildSlice t n ps'))) r H':=by
 unfold bw at O
 split at O
 ·rename_i sz z a4;obtain⟨e,hu,hs,hz,U⟩:=lH a4;cases hq:Nat.ble (n *sz) 16777216 with
  |false=>rw[hq]at O;cases O
  |true=>
   rw[hq]at O
   simp only[cond_true]at O
   have b5:n *sz<=16777216:=a0e hq
   split at O
   ·rename_i cells hc;simp only[a01,a06]at O;obtain⟨rfl,rfl⟩:=O;obtain⟨i,v,hi,hv,a5,ar⟩:=eR (P:=P) hz;obtain⟨a2,an,a1⟩:=kA (μ:=μ) ps ps'.toList _ _ cells hl hp (LRel.refl0 (iK ar n)) hc;obtain⟨l,h1,h2,h3,T,Z⟩:=i6 (P:=P) h (hf H.next (a07 _) (by simp[aS])) e a1;refine OpOK.value (v':= .slice (some ⟨w.heap.size,0,none⟩) n n) ?_ Z ?_
    ·have a6:v.cells=⟨z⟩:=by rw[←a5]
     simp only[Instr.buildSlice,Sem.run_bind,aj w hu,Result.andThen_ok,bg w hs,show ¬(n *sz>2^24) by omega,if_false];by_cases Y:n *sz=0
     ·have a3:dU n z=[]:=a0g (by rw[eN,U];exact Y);have E: ∀g:Nat->Value,(Array.range (n *sz)).map g=⟨dU n z⟩:=fun g=>by rw[Y,a3];simp
      rw[if_pos Y];simp only[Sem.run_bind,Sem.run_pure,Result.andThen_ok,E,an,T]
     have E:=zeros_eq ⟨z⟩ n;simp only[show(Array.mk z).size=sz from U]at E;rw[if_neg Y];simp only[Sem.run_bind,dE w hi hv,Sem.run_pure,Result.andThen_ok,a6,show(Array.mk z).size=sz from U,E,an,T]
    have:=VRel.sliceC (μ:=μ.set H.next l) H.next 0 n n l (Emb.set_same _ _ _) h3;rw[h1,h2]at this;exact this
   cases O
 cases O
theorem load_sound{t:TypeId}{a a':Value}{r:AN}(h:WRel μ H w)(ha:VRel μ a a')(E:eC P t a H=some (r,H')):
  OpOK P μ H w (do Pure.pure (.value (←Instr.loadAt t a'))) r H':=by
 unfold eC at E
 split at E
 ·rename_i p;obtain⟨rfl,v,Y,rfl⟩:=cw E;obtain⟨b,o,sp⟩:=p;have T:sp=none:=ha.ptr_some.1;subst T;obtain⟨l,hb,rfl⟩:=ha.ptr_inv;obtain⟨v',O,U⟩:=iC (P:=P) h hb Y;refine OpOK.value (v':=v') ?_ (Post.refl h) U;simp only[Instr.loadAt,Instr.sureAddr,Sem.run_bind,Sem.run_pure,Result.andThen_ok,O]
 cases E
theorem store_sound{t:TypeId}{a a' x Y:Value}{r:AN}(h:WRel μ H w)(ha:VRel μ a a')(hx:VRel μ x Y)(E:iA P t a x H=some (r,H')):
  OpOK P μ H w (do Instr.storeAt t a' Y;Pure.pure .skip) r H':=by
 unfold iA at E
 split at E
 ·rename_i p;split at E
  ·rename_i n hn;cases O:Nat.beq x.cells.size n with
   |false=>rw[O]at E;cases E
   |true=>
    rw[O]at E
    obtain⟨hs,rfl⟩:=osk_inv E
    have a1:x.cells.size=n:=a08 O
    obtain⟨b,o,sp⟩:=p
    have Z:sp=none:=ha.ptr_some.1
    subst Z
    obtain⟨l,hb,rfl⟩:=ha.ptr_inv
    obtain⟨w',T,hp⟩:=gA (P:=P) h hb hs hx.cells
    refine OpOK.skip ?_ hp
    have U:Y.cells.size=n:=by have:=hx.cells.1;simp only[a1P]at this;omega
    simp only[Instr.storeAt,Instr.sureAddr,storeVar,Sem.run_bind,Sem.run_pure,Result.andThen_ok,bg w hn,U,ne_eq,not_true,if_false,T]
  cases E
 cases E
theorem mT(t:TypeId)(h:WRel μ H w)(E:μ H.next=none):
  OpOK P μ H w (do Pure.pure (.value (←Instr.makeMap t none))) (.val (.map (some H.next))) (H.push (.tab [])):=by
 refine OpOK.value (v':= .map (some w.heap.size)) (w':=w.alloc (.map #[] 0)) (μ':=μ.set H.next ⟨w.heap.size,0,none,0⟩) ?_ (Post.push h E _ rfl _ _ ?_) ?_
 ·simp[Instr.makeMap]
 ·exact⟨#[],0,gf w _,rfl,fun i x y O=>by simp at O⟩
 exact VRel.map (μ:=μ.set H.next ⟨w.heap.size,0,none,0⟩) H.next _ (Emb.set_same _ _ _)
theorem range_sound{t:TypeId}{x O:Value}{r:AN}(h:WRel μ H w)(T: ∀b,H.next<=b->b<H'.next->μ b=none)(Z:VRel μ x O)(U:ovh (aRange P t x H)=some (r,H')):
  OpOK P μ H w (do Pure.pure (.value (←Instr.range t O))) r H':=by
 obtain⟨v,E,rfl⟩:=kY U
 unfold aRange at E
 split at E
 ·rename_i s Y;simp only[a01,a06]at E;obtain⟨rfl,rfl⟩:=E;obtain rfl:=Z.string_inv;refine OpOK.value (v':= .pointer (some ⟨w.heap.size,0,none⟩)) (w':=w.alloc (.stringIter s 0)) (μ':=μ.set H.next ⟨w.heap.size,0,none,0⟩) ?_
   (Post.push h (T H.next (a07 _) (by simp)) _ rfl _ _ ⟨rfl,gf w _⟩) ?_
  ·simp[Instr.range,aj w Y]
  exact VRel.ptr (μ:=μ.set H.next ⟨w.heap.size,0,none,0⟩) H.next 0 _ (Emb.set_same _ _ _)
 cases E
theorem gV{r:Nat}{o:Obj}(E:w.heap[r]?=some o)(hc: ∀c e f,o≠ .cells c e f):(getObj r).run P w= .ok o w:=by cases o<;>first|exact absurd rfl (hc _ _ _)|(simp only[getObj,Sem.run,E])
theorem lV{r:Nat}{o E:Obj}(O:w.heap[r]?=some o)(hc: ∀c e f,o≠ .cells c e f):(setObj r E).run P w= .ok () (bj w r E):=by cases o<;>first|exact absurd rfl (hc _ _ _)|(simp only[setObj,Sem.run,O];rfl)
theorem next_sound{it Z:Value}{type:TypeId}{r:AN}(h:WRel μ H w)(hx:VRel μ it Z)(ho:ovh (aNext H it)=some (r,H')):
  OpOK P μ H w (do Pure.pure (.value (←Instr.next Z true type))) r H':=by
 obtain⟨v,E,rfl⟩:=kY ho
 unfold aNext at E
 split at E
 ·rename_i b;split at E
  ·rename_i s pos hg;obtain⟨l,hb,rfl⟩:=hx.ptr_inv;obtain⟨Y,hh⟩:=h.obj b l _ hb hg;have O:(getObj l.c).run P w= .ok (.stringIter s pos) w:=gV hh (by intros;simp);cases U:Nat.ble (pos+1) s.size with
   |false=>
    rw[U]at E
    simp only[cond_false,a01,a06]at E
    obtain⟨rfl,rfl⟩:=E
    have ax: ¬pos<s.size:=fun T=>by rw[a0t T]at U;cases U
    refine OpOK.value (v':= .tuple #[.bool false]) ?_ (Post.refl h) (VRel.refl2 rfl)
    simp[Instr.next,Y,O,ax]
   |true=>
    rw[U]at E
    simp only[cond_true,a01,a06]at E
    obtain⟨rfl,rfl⟩:=E
    have T:pos<s.size:=a0e U
    refine OpOK.value (v':= .tuple #[.bool true,goInt pos,.int .i32 (Utf8.decode s pos).1]) (w':=bj w l.c (.stringIter s (pos+(Utf8.decode s pos).2))) ?_
     (Post.put h hb hg rfl _ rfl _ ⟨Y,bt w _ (bQ hh)⟩) (VRel.refl2 rfl)
    simp[Instr.next,Y,O,T,lV hh (by intros;simp)]
  cases E
 cases E
theorem lN{n:Nat}(h:n<=2147483648):IntKind.i64.wrap (n:Int)=n:=IntWalk.i64_in _ (by omega)
theorem j0{e:TypeId}{b:Nat}(h:iL P e=some b): ∃i,P.info? e=some i/\i.bytes=b:=by
 unfold iL at h;split at h
 ·rename_i i hi;injection h with h;exact⟨i,hi,h⟩
 cases h
theorem make_sound{t:TypeId}{x x' y y':Value}{r:AN}(h:WRel μ H w)(hf: ∀b,H.next<=b->b<H'.next->μ b=none)(hx:VRel μ x x')(hy:VRel μ y y')
  (ho:ovh (aMake P t x y H)=some (r,H')):OpOK P μ H w (do Pure.pure (.value (←Instr.makeSlice t x' y'))) r H':=by
 obtain⟨v,O,rfl⟩:=kY ho
 unfold aMake at O
 split at O
 ·rename_i e hu;split at O
  ·rename_i sz U z n k hs hb hz hn hk;cases hq:(Nat.ble n k&&Nat.ble k 2147483648&&Nat.ble U 4096&&Nat.beq (jT z) sz&& !Nat.beq sz 0) with
   |false=>rw[hq]at O;cases O
   |true=>
    rw[hq]at O
    simp only[cond_true,a01,a06]at O
    obtain⟨rfl,rfl⟩:=O
    simp only[a04,a0L]at hq
    obtain⟨⟨⟨⟨q1,q2⟩,q3⟩,Z⟩,q5⟩:=hq
    have q1:n<=k:=a0e q1
    have q2:k<=2147483648:=a0e q2
    have q3:U<=4096:=a0e q3
    have Z:z.length=sz:=by rw[←bI];exact a08 Z
    have q5:sz≠0:=fun e=>by rw[e]at q5;cases q5
    obtain⟨i,vz,hi,b3,b1,a5⟩:=eR (P:=P) hz
    obtain⟨ib,T,bb⟩:=j0 hb
    rw[hi]at T;injection T with T;subst T
    obtain⟨l,h1,h2,h3,Y,ar⟩:=i6 (P:=P) h (hf H.next (a07 _) (by simp[aS])) e (LRel.refl0 (μ:=μ) (iK a5 k))
    refine OpOK.value (v':= .slice (some ⟨w.heap.size,0,none⟩) n k) ?_ ar ?_
    ·obtain⟨kn,rfl⟩:=fO hn hx;obtain⟨kk,rfl⟩:=fO hk hy;have b5:=lN (n:=n) (by omega);have b4:=lN (n:=k) q2;have b2:vz.cells=⟨z⟩:=by rw[←b1]
     have a6:U *k<=4096 *2147483648:=Nat.mul_le_mul q3 q2;have a7:(decide ((k:Int)<0)||decide ((i.bytes:Int) *(k:Int)>2^48)||decide ((n:Int)<0)||decide ((n:Int)>(k:Int)))=false:=by
      have hm:((i.bytes:Int) *(k:Int))<=8796093022208:=by rw[bb,←Int.natCast_mul];exact Int.ofNat_le.2 a6
      have h1: ¬((k:Int)<0):=by omega
      have h2: ¬((i.bytes:Int) *(k:Int)>2^48):=by
       have:(2:Int)^48=281474976710656:=by decide
       omega
      have h3: ¬((n:Int)<0):=by omega
      have h4: ¬((n:Int)>(k:Int)):=by omega
      simp only[decide_eq_false h1,decide_eq_false h2,decide_eq_false h3,decide_eq_false h4,Bool.or_self]
     simp only[Instr.makeSlice,Sem.run_bind,aj w hu,Result.andThen_ok,asInt,asIntOf,Sem.run_pure,eG w hi,b5,b4];rw[if_neg (by rw[a7];exact Bool.false_ne_true)];simp only[Sem.run_bind,run_askRoom,Result.andThen_ok,bg w hs,Int.toNat_natCast];by_cases h0:k *sz=0
     ·have b0:dU k z=[]:=a0g (by rw[eN,Z];exact h0);have E: ∀g:Nat->Value,(Array.range (k *sz)).map g=⟨dU k z⟩:=fun g=>by rw[h0,b0];simp
      rw[if_pos h0];simp only[Sem.run_bind,Sem.run_pure,Result.andThen_ok,E,Y]
     have E:=zeros_eq ⟨z⟩ k;simp only[show(Array.mk z).size=sz from Z]at E;rw[if_neg h0];simp only[Sem.run_bind,dE w hi b3,Sem.run_pure,Result.andThen_ok,b2,show(Array.mk z).size=sz from Z,E,Y]
    have:=VRel.sliceC (μ:=μ.set H.next l) H.next 0 n k l (Emb.set_same _ _ _) h3
    rw[h1,h2]at this;exact this
  cases O
 cases O
end
end Go.R
namespace Go.R
section
variable {P:Program} {μ:Emb} {H H':Heap} {w:World}
theorem ly{n k l r:Nat}{lo hi:Option Value}(h:bnds n k lo hi=some (l,r)):
  cn n hi=some r/\cn 0 lo=some l/\l<=r/\r<=k:=by
 unfold bnds at h
 split at h
 ·rename_i O U;split at h
  ·rename_i l' T;cases E:(Nat.ble l' O&&Nat.ble O k) with
   |false=>rw[E]at h;cases h
   |true=>
    rw[E]at h;simp only[cond_true,a01,a06]at h
    obtain⟨rfl,rfl⟩:=h
    simp only[a04]at E
    exact⟨U,T,a0e E.1,a0e E.2⟩
  cases h
 cases h
theorem ec{v v':Value}{n y:Nat}(h:asNat v=some n)(O:VRel μ v v')(T:n<=y)(E:BoundsCode):(Instr.sliceBound v' y E).run P w= .ok n w:=by
 obtain⟨k,rfl⟩:=fO h O;have:(0:Int)<=(n:Int)/\(n:Int)<=(y:Int):=by omega
 simp[Instr.sliceBound,asIntOf,this.2]
theorem dX{isSlice:Bool}{n k Z l r:Nat}{lo hi an O:Option Value}(hb:bnds n k lo hi=some (l,r))(hk:k<=Z)
  (ax: ∀v,lo=some v->∃v',an=some v'/\VRel μ v v') (T:lo=none->an=none)
  (a3: ∀v,hi=some v->∃v',O=some v'/\VRel μ v v') (a1:hi=none->O=none):
  (Instr.sliceBounds isSlice n Z an O none).run P w= .ok (l,r,Z) w:=by
 obtain⟨h1,E,h3,h4⟩:=ly hb
 unfold Instr.sliceBounds
 cases hi with
 |none=>
  rw[a1 rfl]
  simp only[cn,a01]at h1;subst h1
  cases lo with
  |none=>
   rw[T rfl]
   simp only[cn,a01]at E;subst E
   simp
  |some u=>
   obtain⟨u',U,Y⟩:=ax u rfl
   rw[U]
   simp only[Sem.run_bind,Sem.run_pure,Result.andThen_ok,ec (P:=P) (w:=w) E Y h3]
 |some v=>
  obtain⟨v',a5,hr⟩:=a3 v rfl
  rw[a5]
  cases lo with
  |none=>
   rw[T rfl]
   simp only[cn,a01]at E;subst E
   simp only[Sem.run_bind,Sem.run_pure,Result.andThen_ok,ec (P:=P) (w:=w) h1 hr (by omega:r<=Z)]
  |some u=>
   obtain⟨u',U,Y⟩:=ax u rfl
   rw[U]
   simp only[Sem.run_bind,Sem.run_pure,Result.andThen_ok,ec (P:=P) (w:=w) h1 hr (by omega:r<=Z),ec (P:=P) (w:=w) E Y h3]
theorem dW(s:ByteArray)(l r:Nat):s.extract l r=⟨⟨(s.data.toList.drop l).take (r-l)⟩⟩:=by apply ByteArray.ext;apply Array.ext';simp
theorem kQ{t:TypeId}{x x':Value}{lo hi mx a6 a5 a9:Option Value}{r:AN}(h:WRel μ H w)(hx:VRel μ x x')
  (ax: ∀v,lo=some v->∃v',a6=some v'/\VRel μ v v') (Z:lo=none->a6=none)
  (ar: ∀v,hi=some v->∃v',a5=some v'/\VRel μ v v') (Y:hi=none->a5=none) (b4:mx=none->a9=none)
  (ho:ovl (bz P t x lo hi mx H) H=some (r,H')): ∃v v',r= .val v/\H'=H/\(Instr.sliceAt t x' a6 a5 a9).run P w= .ok v' w/\VRel μ v v':=by
 obtain⟨rfl,v,E,rfl⟩:=cw ho
 unfold bz at E
 split at E
 ·cases E
 rw[b4 rfl]
 simp only at E
 split at E
 ·rename_i s hu;obtain rfl:=hx.string_inv;split at E
  ·rename_i l r hb;injection E with E;subst E;rw[bI]at hb;have b5:s.data.toList.length=s.size:=by simp
   rw[b5]at hb;refine⟨_,.string (s.extract l r),rfl,rfl,?_,?_⟩
   ·simp[Instr.sliceAt,Instr.slice,aj w hu,dX (P:=P) (w:=w) (isSlice:=false) hb (a07 _) ax Z ar Y]
   rw[dW,bY,cy];exact .atom _ rfl
  cases E
 ·rename_i e hu;obtain rfl:=hx.eq0 rfl;split at E
  ·rename_i lr hb;obtain⟨l,r⟩:=lr;cases hs:eb P e with
   |none=>rw[hs]at E;cases E
   |some sz=>
    rw[hs]at E
    simp only[Option.isSome_some,cond_true,a01]at E;subst E
    obtain⟨_,_,h3,h4⟩:=ly hb
    obtain rfl:r=0:=by omega
    obtain rfl:l=0:=by omega
    refine⟨_,.slice none 0 0,rfl,rfl,?_,.atom _ rfl⟩
    simp[Instr.sliceAt,Instr.slice,aj w hu,dX (P:=P) (w:=w) (isSlice:=true) hb (a07 _) ax Z ar Y,bg w hs]
  cases E
 ·rename_i e b o n k hu;split at E
  ·rename_i l r sz cs b7 ro hb hs hg;obtain⟨l0,hμ,hc⟩:=hx.slice_inv;have U:l0.opn=b7:=by
    have:=h.obj b l0 _ hμ hg;cases ro
    ·exact this.1
    exact this.1
   obtain⟨_,_,h3,h4⟩:=ly hb;split at E
   ·injection E with E;subst E;rcases hc with⟨T,rfl⟩|⟨e',o',k',T,rfl,_⟩|⟨rfl,rfl,a',rfl⟩
    rotate_right
    ·obtain rfl:r=0:=by omega
     obtain rfl:l=0:=by omega
     refine⟨_,.slice (some (if 0=0 then a' else a'.add (0 *sz))) (0-0) (0-0),rfl,rfl,?_,?_⟩
     ·simp only[Instr.sliceAt,Instr.slice,Sem.run_bind,aj w hu,Result.andThen_ok,dX (P:=P) (w:=w) (isSlice:=true) hb (a07 _) ax Z ar Y,bg w hs,Sem.run_pure];split<;>rfl
     exact .sliceZ b o a' l0 hμ
    ·refine⟨_,.slice (some (if k=l then⟨l0.c,l0.sh+o,none⟩ else Addr.add ⟨l0.c,l0.sh+o,none⟩ (l *sz))) (r-l) (k-l),rfl,rfl,?_,?_⟩
     ·simp only[Instr.sliceAt,Instr.slice,Sem.run_bind,aj w hu,Result.andThen_ok,dX (P:=P) (w:=w) (isSlice:=true) hb (a07 _) ax Z ar Y,bg w hs,Sem.run_pure];split<;>rfl
     by_cases O:k=l
     ·rw[if_pos O];have:Nat.beq k l=true:=by rw[O];exact a0N l
      rw[this];exact .sliceC b o _ _ l0 hμ T
     rw[if_neg O];have:Nat.beq k l=false:=by
      cases hq:Nat.beq k l with
      |false=>rfl
      |true=>exact absurd (a08 hq) O
     rw[this,db,a0E];exact .sliceC b (o+l *sz) _ _ l0 hμ T
    rw[U]at T;cases T
   rename_i ez;cases hq:Nat.beq ez sz with
   |false=>rw[hq]at E;cases E
   |true=>
    rw[hq]at E
    simp only[cond_true,a01]at E;subst E
    have b2:ez=sz:=a08 hq
    rcases hc with⟨T,rfl⟩|⟨e',o',k',T,rfl,c0,b3,b0,cL⟩|⟨rfl,rfl,a',rfl⟩
    rotate_right
    ·obtain rfl:r=0:=by omega
     obtain rfl:l=0:=by omega
     refine⟨_,.slice (some (if 0=0 then a' else a'.add (0 *sz))) (0-0) (0-0),rfl,rfl,?_,?_⟩
     ·simp only[Instr.sliceAt,Instr.slice,Sem.run_bind,aj w hu,Result.andThen_ok,dX (P:=P) (w:=w) (isSlice:=true) hb (a07 _) ax Z ar Y,bg w hs,Sem.run_pure];split<;>rfl
     exact .sliceZ b _ a' l0 hμ
    ·rw[U]at T;cases T
    rw[U]at T;injection T with T
    subst T b2
    refine⟨_,.slice (some (if k'=l then⟨l0.c,o',none⟩ else Addr.add ⟨l0.c,o',none⟩ (l *ez))) (r-l) (k'-l),rfl,rfl,?_,?_⟩
    ·simp only[Instr.sliceAt,Instr.slice,Sem.run_bind,aj w hu,Result.andThen_ok,dX (P:=P) (w:=w) (isSlice:=true) hb b3 ax Z ar Y,bg w hs,Sem.run_pure];split<;>rfl
    by_cases O:k'=l
    ·rw[if_pos O];refine .sliceO b (o+l *ez) o' _ _ _ ez l0 hμ U (by omega) (by omega) (by omega) ?_;rw[O,Nat.sub_self,Nat.zero_mul];omega
    rw[if_neg O,db]
    refine .sliceO b (o+l *ez) (o'+l *ez) _ _ _ ez l0 hμ U (by omega) (by omega) (fun co=>?_) ?_
    ·rw[b0 (by omega)];omega
    have:l *ez+(k'-l) *ez=k' *ez:=by rw[←a0P];congr 1;omega
    omega
  cases E
 ·rename_i n e b o hu;split at E
  ·rename_i l r sz cs ro hb hs hg;obtain⟨l0,hμ,rfl⟩:=hx.ptr_inv;have U:l0.opn=none:=by
    have:=h.obj b l0 _ hμ hg;cases ro
    ·exact this.1
    exact this.1
   injection E with E;subst E;refine⟨_,.slice (some (if n=l then⟨l0.c,l0.sh+o,none⟩ else Addr.add ⟨l0.c,l0.sh+o,none⟩ (l *sz))) (r-l) (n-l),rfl,rfl,?_,?_⟩
   ·simp only[Instr.sliceAt,Sem.run_bind,aj w hu,Result.andThen_ok,Instr.sureAddr,Sem.run_pure,dX (P:=P) (w:=w) (isSlice:=false) hb (a07 _) ax Z ar Y,bg w hs]
   by_cases O:n=l
   ·rw[if_pos O];have:Nat.beq n l=true:=by rw[O];exact a0N l
    rw[this];exact .sliceC b o _ _ l0 hμ U
   rw[if_neg O];have:Nat.beq n l=false:=by
    cases hq:Nat.beq n l with
    |false=>rfl
    |true=>exact absurd (a08 hq) O
   rw[this,db,a0E];exact .sliceC b (o+l *sz) _ _ l0 hμ U
  cases E
 cases E
theorem slice_sound{t:TypeId}{x x':Value}{lo hi mx O E T:Option Value}{r:AN}(h:WRel μ H w)(hx:VRel μ x x')
  (ar: ∀v,lo=some v->∃v',O=some v'/\VRel μ v v') (Y:lo=none->O=none)
  (an: ∀v,hi=some v->∃v',E=some v'/\VRel μ v v') (U:hi=none->E=none) (ax:mx=none->T=none)
  (ho:ovl (bz P t x lo hi mx H) H=some (r,H')):OpOK P μ H w (do Pure.pure (.value (←Instr.sliceAt t x' O E T))) r H':=by
 obtain⟨v,v',rfl,rfl,Z,hr⟩:=kQ (P:=P) h hx ar Y an U ax ho
 exact OpOK.value Z (Post.refl h) hr
theorem lenA_run{x O:Value}{m:Nat}(h:lenA x=some m)(E:VRel μ x O):(Builtin.lenOf O).run P w= .ok m w:=by
 unfold lenA at h;split at h
 ·injection h with h;subst h;rename_i a n k;obtain⟨a',T,rfl,_⟩:=dr E;rfl
 ·rename_i s;injection h with h;subst h;obtain rfl:=E.string_inv;rw[bI];simp[Builtin.lenOf]
 cases h
theorem ei{x x':Value}{sz m:Nat}{vs:List Value}(h:WRel μ H w)(hx:VRel μ x x')(hl: ∃m0,lenA x=some m0/\m<=m0)(E:gJ H sz m x=some vs):
  ∃U,(Builtin.firstCells sz m x').run P w= .ok ⟨U⟩ w/\LRel μ vs U/\vs.length=m *sz:=by
 unfold gJ at E
 split at E
 ·rename_i a n k;obtain⟨b,o,sp⟩:=a;have a5:sp=none:=hx.slice_some.1;subst a5;cases O:Nat.beq m 0 with
  |true=>
   rw[O]at E
   simp only[cond_true,a01]at E;subst E
   have hm:m=0:=a08 O
   subst hm
   obtain⟨_,a',k',rfl⟩:=hx.slice_some
   exact⟨[],by simp[Builtin.firstCells,loadCells,loadCellsFrom],.nil,by simp⟩
  |false=>
   rw[O]at E
   simp only[cond_false]at E
   have hm:m≠0:=fun e=>by subst e;cases O
   obtain⟨m0,T,a1⟩:=hl
   simp only[lenA,a01]at T;subst T
   obtain⟨l,hμ,hc⟩:=hx.slice_inv
   obtain⟨U,Z,hr,Y⟩:=iD (P:=P) h hμ E
   rcases hc with⟨_,rfl⟩|⟨e',o',k',_,rfl,bb,_,a2,_⟩|⟨hz,_,_⟩
   rotate_right
   ·omega
   ·exact⟨U,by simp only[Builtin.firstCells,Z],hr,Y⟩
   rw[a2 (by omega)]
   exact⟨U,by simp only[Builtin.firstCells,Z],hr,Y⟩
 ·rename_i n k;cases O:Nat.beq m 0 with
  |false=>rw[O]at E;cases E
  |true=>
   rw[O]at E
   simp only[cond_true,a01]at E;subst E
   have hm:m=0:=a08 O
   subst hm
   obtain⟨_,_,rfl⟩:=hx.sliceNil_inv
   exact⟨[],by simp[Builtin.firstCells],.nil,by simp⟩
 ·rename_i s;cases O:Nat.beq sz 1 with
  |false=>rw[O]at E;cases E
  |true=>
   rw[O]at E
   simp only[cond_true,a01,li,bY]at E;subst E
   have hs:sz=1:=a08 O
   subst hs
   obtain rfl:=hx.string_inv
   obtain⟨m0,T,a1⟩:=hl
   simp only[lenA,bI,a01]at T;subst T
   refine⟨(s.data.toList.take m).map fun b=> .int .u8 b.toNat,?_,LRel.refl0 ?_,?_⟩
   ·simp only[Builtin.firstCells,Sem.run_pure,dW];congr 1;apply Array.ext';simp
   ·rw[a0l];intro u hu;obtain⟨c,_,rfl⟩:=a0v.1 hu;rfl
   simp at a1⊢;omega
 cases E
theorem growBy_le(E:Nat): ∀(r c:Nat),c<=E+(E+768)/4->Builtin.growBy E r c<=E+(E+768)/4
 |0,c,h=>h
 |r+1,c,h=>by
  simp only[Builtin.growBy];split
  ·exact h
  exact growBy_le E r _ (by omega)
theorem nextcap_le{n k:Nat}(h:k<n):Builtin.nextslicecap n k<=2 *n+768:=by
 unfold Builtin.nextslicecap;split
 ·omega
 split
 ·omega
 have:=growBy_le n 4 k (by omega);omega
theorem dA{z:Array Value}{sz:Nat}(h:z.size=sz)(n:Nat):(Builtin.zeroCells z n).toList.length=n *sz:=by simp[Builtin.zeroCells,h]
theorem i5{st O ty e:TypeId}{T:TypeDesc}{E:Value}{base:Option Addr}{n m k sz:Nat}{i:TypeInfo}{z:Value}{old U:List Value}
  (hu:P.underlying st=some (.slice e)) (a6:P.underlying O=some T) (a4: ∀kk,T≠ .int kk) (hi:P.info? e=some i) (hs:i.size=sz) (hz:i.zero=some z)
  (Y:(Builtin.lenOf E).run P w= .ok m w) (a3:k<n+m) (b0:n+m<=2147483648) (a2:i.bytes<=4096)
  (ar:(Builtin.firstCells sz n (.slice base n k)).run P w.drew= .ok ⟨old⟩ w.drew) (Z:(Builtin.firstCells sz m E).run P w.drew= .ok ⟨U⟩ w.drew):
  ∃nc,n+m<=nc/\(Builtin.append_ #[st,O] ty #[.slice base n k,E]).run P w=
   .ok (.slice (some ⟨w.heap.size,0,none⟩) (n+m) nc) (w.drew.alloc (.cells (⟨old⟩++⟨U⟩++Builtin.zeroCells z.cells (nc-(n+m))) e)):=by
 have a5:eb P e=some sz:=by unfold eb;rw[hi,←hs]
 have a7:=nextcap_le a3
 have an: ¬(Builtin.nextslicecap (n+m) k *i.bytes>2^48):=by
  have:Builtin.nextslicecap (n+m) k *i.bytes<=(2 *2147483648+768) *4096:=Nat.mul_le_mul (by omega) a2;have b1:(2:Nat)^48=281474976710656:=by decide
  omega
 have a1: ¬(((n+m:Nat):Int)>IntKind.i64.max/\(False\/i.bytes=0)):=by rw[IntKind.max_i64];omega
 refine⟨(Question.appendCap (n+m) k e).cut (w.tape w.drawn (.appendCap (n+m) k e)),by simp[Question.cut],?_⟩
 have b2:(match T with| .int _=>true|_=>false)=false:=by cases T<;>first|rfl|exact absurd rfl (a4 _)
 have e1: ∀a b:Value,(#[a,b]:Array Value)[0]?=some a/\(#[a,b]:Array Value)[1]?=some b:=fun a b=>⟨rfl,rfl⟩
 unfold Builtin.append_
 simp only[show(#[st,O]:Array TypeId)[0]?=some st from rfl,show(#[st,O]:Array TypeId)[1]?=some O from rfl,
  show(#[Value.slice base n k,E]:Array Value)[0]?=some (Value.slice base n k) from rfl,show(#[Value.slice base n k,E]:Array Value)[1]?=some E from rfl,
  Sem.run_bind,aj w hu,aj w a6,Result.andThen_ok,bg w a5,Sem.run_pure,a0k,if_false,Y,
  show ¬(n+m<=k) by omega,eG w hi,an,a1]
 simp only[Sem.run_bind,run_choose,Question.forced,a0k,if_false,Result.andThen_ok,World.drew_eq,eG w.drew hi,run_askRoom,ar,Z,a1I,if_true,
  dE w.drew hi hz,newRow,run_newObj,Sem.run_pure]
 rfl
theorem gh{st O ty e:TypeId}{T:TypeDesc}{E:Value}{base:Option Addr}{n m k sz:Nat}{U:List Value}{w':World}
  (hu:P.underlying st=some (.slice e)) (a2:P.underlying O=some T) (ar: ∀kk,T≠ .int kk) (hs:eb P e=some sz)
  (Y:(Builtin.lenOf E).run P w= .ok m w) (an:n+m<=k) (Z:(Builtin.firstCells sz m E).run P w= .ok ⟨U⟩ w)
  (a1: ∀a,base=some a->(storeCells (a.add (n *sz)) U).run P w= .ok () w') (ax:base=none->w'=w):
  (Builtin.append_ #[st,O] ty #[.slice base n k,E]).run P w= .ok (.slice base (n+m) k) w':=by
 have a5:(match T with| .int _=>true|_=>false)=false:=by cases T<;>first|rfl|exact absurd rfl (ar _)
 unfold Builtin.append_
 simp only[show(#[st,O]:Array TypeId)[0]?=some st from rfl,show(#[st,O]:Array TypeId)[1]?=some O from rfl,
  show(#[Value.slice base n k,E]:Array Value)[0]?=some (Value.slice base n k) from rfl,show(#[Value.slice base n k,E]:Array Value)[1]?=some E from rfl,
  Sem.run_bind,aj w hu,aj w a2,Result.andThen_ok,bg w hs,Sem.run_pure,a0k,if_false,Y,an,if_true,a1I,Z]
 cases base with
 |none=>rw[ax rfl];rfl
 |some a=>simp only[Sem.run_bind,a1 a rfl,Result.andThen_ok,Sem.run_pure]
theorem Post.kill(h:WRel μ H w){b:Nat}{l:Loc}{o:AObj}(hb:μ b=some l)(ho:H.get b=some o)(hr:o.rw=true):Post μ H w μ (H.put b .dead) w:=by
 refine⟨fun _ _ h=>h,fun _ _ h=> .inl h,a07 _,rfl,rfl,rfl,fun _ _ _=>rfl,fun k x Z T E a8=>?_,⟨fun k x Z T E=>?_,fun b1 b2 l1 l2 Y o2 a3 ax a1 a4 a5 a7 U=>?_⟩⟩
 ·by_cases e:b=k
  ·subst e;exact .inr ⟨b,l,o,hb,ho,ip hr,fun _=>hr,by rw[hb]at T;injection T with T;rw[T]⟩
  rw[Heap.get_put_ne H _ e]at E;exact .inr ⟨k,x,Z,T,E,a8,id,rfl⟩
 ·by_cases e:b=k
  ·subst e;rw[Heap.get_put_same]at E;injection E with E;subst E;trivial
  rw[Heap.get_put_ne H _ e]at E;exact h.obj k x Z T E
 have old: ∀k ok,ok.live=true->(H.put b .dead).get k=some ok->H.get k=some ok:=by
  intro k ok a2 O;by_cases e:b=k
  ·subst e;rw[Heap.get_put_same]at O;injection O with O;subst O;simp[AObj.live]at a2
  rw[Heap.get_put_ne H _ e]at O;exact O
 exact h.inj b1 b2 l1 l2 Y o2 a3 ax a1 (old b1 Y (by cases Y<;>simp_all[AObj.rw,AObj.live]) a4) (old b2 o2 U a5) a7 U
theorem szOf_info{e:TypeId}{s:Nat}(h:eb P e=some s): ∃i,P.info? e=some i/\i.size=s:=by
 unfold eb at h;split at h
 ·rename_i i hi;injection h with h;exact⟨i,hi,h⟩
 cases h
theorem ek(a b:List Value)(c:Array Value):(⟨a⟩++⟨b⟩++c:Array Value)=⟨(a++b)++c.toList⟩:=by apply Array.ext';simp
theorem append_sound{types:Array TypeId}{ty:TypeId}{s x s' x' v:Value}(h:WRel μ H w)(hf: ∀b,H.next<=b->b<H'.next->μ b=none)
  (hs:VRel μ s s') (hx:VRel μ x x') (e0:types.size=2) (E:gj P types s x H=some (v,H')):
  ∃v' w' μ',(Builtin.append_ types ty #[s',x']).run P w= .ok v' w'/\Post μ H w μ' H' w'/\VRel μ' v v':=by
 obtain⟨tl⟩:=types
 match tl,e0 with
 | [st,xt],_=>
 unfold gj at E
 simp only[show(#[st,xt]:Array TypeId)[0]?=some st from rfl,show(#[st,xt]:Array TypeId)[1]?=some xt from rfl]at E
 split at E
 ·rename_i e xd hu a4;split at E
  ·cases E
  rename_i a3;split at E
  ·rename_i sz e9 z m b4 f9 hz hm;obtain⟨i,vz,hi,c6,fl,he⟩:=eR (P:=P) hz;obtain⟨i2,dt,hC⟩:=j0 f9;rw[hi]at dt;injection dt with dt;subst dt;obtain⟨i3,d1,c4⟩:=szOf_info b4;rw[hi]at d1;injection d1 with d1;subst d1;have Z:(Builtin.lenOf x').run P w= .ok m w:=lenA_run hm hx;split at E
   ·cases E
   rename_i c8 ea;obtain⟨T,a2,a7,ar⟩:=ei (P:=P) h hx ⟨m,hm,a07 _⟩ ea;obtain⟨ht,a6,a5,_⟩:=ei (P:=P) h.drew hx ⟨m,hm,a07 _⟩ ea;split at E
   ·--nil
    obtain rfl:=hs.eq0 rfl;cases hq:Nat.beq m 0 with
    |true=>
     rw[hq]at E
     simp only[cond_true,a01,a06]at E
     obtain⟨rfl,rfl⟩:=E
     have c3:m=0:=a08 hq
     subst c3
     exact⟨_,w,μ,gh (w':=w) hu a4 (fun kk=>a3 kk) b4 Z (a07 _) a2 (fun a ha=>by cases ha) (fun _=>rfl),Post.refl h,.atom _ rfl⟩
    |false=>
     rw[hq]at E
     simp only[cond_false]at E
     have c3:m≠0:=fun e=>by subst e;cases hq
     cases b2:(Nat.beq (jT z) sz&&Nat.ble m 2147483648&&Nat.ble e9 4096&& !Nat.beq sz 0) with
     |false=>rw[b2]at E;cases E
     |true=>
      rw[b2]at E
      simp only[cond_true,a01,a06]at E
      obtain⟨rfl,rfl⟩:=E
      simp only[a04,a0L]at b2
      obtain⟨⟨⟨q1,q2⟩,q3⟩,q4⟩:=b2
      have q1:z.length=sz:=by rw[←bI];exact a08 q1
      have q2:=a0e q2
      have q3:=a0e q3
      obtain⟨nc,a9,O⟩:=i5 (P:=P) (w:=w) (ty:=ty) (base:=none) (n:=0) (k:=0) (old:=[]) hu a4 (fun kk=>a3 kk) hi c4 c6 Z (by omega) (by omega) (by omega) (by simp[Builtin.firstCells]) a6
      simp only[a0B]at O a9
      rw[ek,a0z]at O
      obtain⟨l,h1,h2,h3,h4,_,hp⟩:=dq (P:=P) h.drew (hf H.next (a07 _) (by simp[aS])) e a5 (Builtin.zeroCells vz.cells (nc-m)).toList (some sz) (fun e=>by cases e)
      refine⟨_,_,_,O,(Post.drew h).trans hp (a07 _) (by simp[aS]),?_⟩
      have:=VRel.sliceO (μ:=μ.set H.next l) H.next 0 0 m m nc sz l (Emb.set_same _ _ _) h3 (a07 _) a9 (fun _=>by omega) (by
       rw[h4,dA (show vz.cells.size=sz by rw[←q1,←fl];simp),ar,a0B,←a0P];exact a0y _ (by omega))
      rw[h1]at this;exact this
   ·--a slice
    rename_i b o n k;obtain⟨l,hμ,hc⟩:=hs.slice_inv;split at E
    ·rename_i cs g3 ro hg;have df:l.opn=g3:=by
      have:=h.obj b l _ hμ hg;cases ro
      ·exact this.1
      exact this.1
     cases hq:Nat.ble (n+m) k with
     |true=>
      rw[hq]at E
      simp only[cond_true]at E
      have d2:n+m<=k:=a0e hq
      cases d4:Nat.beq m 0 with
      |true=>
       rw[d4]at E
       simp only[cond_true,a01,a06]at E
       obtain⟨rfl,rfl⟩:=E
       have c3:m=0:=a08 d4
       subst c3
       have go:T=[]:=a0g (by rw[←a7.1,ar];simp)
       subst go
       rcases hc with⟨Y,rfl⟩|⟨e',o',k',Y,rfl,fk,d9,b7,ds⟩|⟨rfl,rfl,a',rfl⟩
       rotate_right
       ·exact⟨_,w,μ,gh (w':=w) hu a4 (fun kk=>a3 kk) b4 Z d2 a2 (fun a ha=>rfl) (fun e=>by cases e),Post.refl h,hs⟩
       ·exact⟨_,w,μ,gh (w':=w) hu a4 (fun kk=>a3 kk) b4 Z d2 a2 (fun a ha=>rfl) (fun e=>by cases e),Post.refl h,hs⟩
       exact⟨_,w,μ,gh (w':=w) hu a4 (fun kk=>a3 kk) b4 Z (by omega) a2 (fun a ha=>rfl) (fun e=>by cases e),Post.refl h,hs⟩
      |false=>
       rw[d4]at E
       simp only[cond_false]at E
       have c3:m≠0:=fun e=>by subst e;cases d4
       split at E
       ·rename_i h1 g2;simp only[a01,a06]at E;obtain⟨rfl,rfl⟩:=E;obtain⟨w',O,hp⟩:=gA (P:=P) h hμ g2 a7;rcases hc with⟨Y,rfl⟩|⟨e',o',k',Y,rfl,fk,d9,b7,ds⟩|⟨rfl,rfl,a',rfl⟩
        rotate_right
        ·omega
        ·refine⟨_,w',μ,gh (w':=w') hu a4 (fun kk=>a3 kk) b4 Z d2 a2 (fun a ha=>?_) (fun e=>by cases e),hp,.sliceC b o _ _ l hμ Y⟩;injection ha with ha;subst ha;rw[db,a0E];exact O
        refine⟨_,w',μ,gh (w':=w') hu a4 (fun kk=>a3 kk) b4 Z (by omega) a2 (fun a ha=>?_) (fun e=>by cases e),hp,.sliceO b o o' _ _ _ e' l hμ Y d2 d9 b7 ds⟩;injection ha with ha;subst ha;rw[db,b7 (by omega),a0E];exact O
       cases E
     |false=>
      rw[hq]at E
      simp only[cond_false]at E
      have fi:k<n+m:=by
       rcases a0d k (n+m) with h'|h'
       ·exact h'
       rw[a0t h']at hq;cases hq
      cases b2:(Nat.beq (jT z) sz&&Nat.ble (n+m) 2147483648&&Nat.ble e9 4096&& !Nat.beq sz 0&&Nat.ble n k) with
      |false=>rw[b2]at E;cases E
      |true=>
       rw[b2]at E
       simp only[cond_true]at E
       simp only[a04,a0L]at b2
       obtain⟨⟨⟨⟨q1,q2⟩,q3⟩,q4⟩,q5⟩:=b2
       have q1:z.length=sz:=by rw[←bI];exact a08 q1
       have q2:=a0e q2
       have q3:=a0e q3
       have q5:=a0e q5
       have hG:sz≠0:=fun e=>by rw[e]at q4;cases q4
       have cL:vz.cells.size=sz:=by rw[←q1,←fl];simp
       split at E
       ·cases E
       rename_i old ax
       obtain⟨hw,g9,g8,a8⟩:=ei (P:=P) h hs ⟨n,rfl,a07 _⟩ ax
       obtain⟨hy,b1,b0,_⟩:=ei (P:=P) h.drew hs ⟨n,rfl,a07 _⟩ ax
       split at E
       ·--exact
        simp only[a01,a06]at E;obtain⟨rfl,rfl⟩:=E;rcases hc with⟨Y,rfl⟩|⟨e',o',k',Y,rfl,_⟩|⟨rfl,rfl,a',rfl⟩
        rotate_right
        ·obtain⟨nc,a9,O⟩:=i5 (P:=P) (w:=w) (ty:=ty) hu a4 (fun kk=>a3 kk) hi c4 c6 Z fi q2 (by omega) b1 a6;rw[ek]at O;obtain⟨l',h1,h2,h3,h4,_,hp⟩:=dq (P:=P) h.drew (hf H.next (a07 _) (by simp[aS])) e (b0.append a5) (Builtin.zeroCells vz.cells (nc-(0+m))).toList (some sz) (fun e=>by cases e);rw[dY];refine⟨_,_,_,O,(Post.drew h).trans hp (a07 _) (by simp[aS]),?_⟩;have:=VRel.sliceO (μ:=μ.set H.next l') H.next 0 0 (0+m) (0+m) nc sz l' (Emb.set_same _ _ _) h3 (a07 _) a9 (fun _=>by omega) (by
          rw[h4,dA cL,a00,a8,ar,a0B,←a0P,←a0P];exact a0y _ (by omega))
         rw[h1]at this;exact this
        ·obtain⟨nc,a9,O⟩:=i5 (P:=P) (w:=w) (ty:=ty) hu a4 (fun kk=>a3 kk) hi c4 c6 Z fi q2 (by omega) b1 a6;rw[ek]at O;obtain⟨l',h1,h2,h3,h4,_,hp⟩:=dq (P:=P) h.drew (hf H.next (a07 _) (by simp[aS])) e (b0.append a5) (Builtin.zeroCells vz.cells (nc-(n+m))).toList (some sz) (fun e=>by cases e);rw[dY];refine⟨_,_,_,O,(Post.drew h).trans hp (a07 _) (by simp[aS]),?_⟩;have:=VRel.sliceO (μ:=μ.set H.next l') H.next 0 0 (n+m) (n+m) nc sz l' (Emb.set_same _ _ _) h3 (a07 _) a9 (fun _=>by omega) (by
          rw[h4,dA cL,a00,a8,ar,a0B,←a0P,←a0P];exact a0y _ (by omega))
         rw[h1]at this;exact this
        rw[df]at Y;cases Y
       ·--open
        rename_i U;cases d5:(Nat.beq U sz&& !ro&&allL Value.oneCell' c8) with
        |false=>rw[d5]at E;cases E
        |true=>
         rw[d5]at E
         simp only[cond_true,a01,a06]at E
         obtain⟨rfl,rfl⟩:=E
         simp only[a04,a0L]at d5
         obtain⟨⟨q6,q7⟩,q8⟩:=d5
         have q6:U=sz:=a08 q6
         subst q6 q7
         rcases hc with⟨Y,rfl⟩|⟨e',o',k',Y,rfl,fk,d9,b7,ds⟩|⟨rfl,rfl,a',rfl⟩
         rotate_right
         ·have ch:μ H.next=none:=hf H.next (a07 _) (by simp[aS]);obtain⟨nc,a9,O⟩:=i5 (P:=P) (w:=w) (ty:=ty) hu a4 (fun kk=>a3 kk) hi c4 c6 Z (by omega) q2 (by omega) b1 a6;rw[ek]at O;have hk:=Post.kill h hμ hg rfl;obtain⟨l',h1,h2,h3,h4,_,hp⟩:=dq (P:=P) (H:=H.put b .dead) hk.wrel.drew ch e (b0.append a5) (Builtin.zeroCells vz.cells (nc-(0+m))).toList (some U) (fun e=>by cases e);rw[dY];refine⟨_,_,_,O,(hk.trans (Post.drew hk.wrel) (a07 _) (a07 _)).trans hp (a07 _) (by simp[aS]),?_⟩;have:=VRel.sliceO (μ:=μ.set H.next l') H.next 0 0 (0+m) (0+m) nc U l' (Emb.set_same _ _ _) h3 (a07 _) a9 (fun _=>by omega) (by
           rw[h4,dA cL,a00,a8,ar,a0B,←a0P,←a0P];exact a0y _ (by omega))
          rw[h1]at this;exact this
         ·rw[df]at Y;cases Y
         rw[df]at Y;injection Y with Y;subst Y
         have ch:μ H.next=none:=hf H.next (a07 _) (by simp[aS])
         by_cases d8:n+m<=k'
         ·--in place
          obtain⟨r1,bb,et,hh,r2,r3,r4⟩:=h.obj b l _ hμ hg;have d3:T.length=m *U:=by rw[←a7.1];exact ar
          have hF:m≠0:=by omega
          have g1:T≠ []:=fun e=>by rw[e]at d3;have:=Nat.mul_eq_zero.1 d3.symm;omega
          have e7:T.all Value.oneCell'=true:=by
           rw[a0l];intro u ci;obtain⟨j,hj⟩:=List.getElem?_of_mem ci;have fd:j<c8.length:=by rw[a7.1];exact(a0u.1 hj).1
           have hr:=a7.2 j c8[j] u (a0b fd) hj;rw[hr.oneCell];rw[ns]at q8;exact a0l.1 q8 _ (a1e fd)
          have c9:o'+n *U+T.length<=bb.size:=by rw[d3,r2];have:(n+m) *U<=k' *U:=a0y _ d8;rw[a0P]at this;omega
          have c5:=dF (P:=P) l.c et T w bb (o'+n *U) 0 hh (by omega) e7 g1;simp only[Nat.add_zero]at c5;have fu:(bD bb.toList (o'+n *U) T).length=bb.size:=by rw[cr _ _ _ (by simpa using c9)];simp
          have e8:=Post.take h hμ hg rfl ch ⟨l.c,o',some U,l.csz⟩ rfl (.cells (appL old c8) (some U) false) (.cells ⟨bD bb.toList (o'+n *U) T⟩ et (0,0)) (by
           refine⟨rfl,_,et,bt w _ (bQ hh),by show(bD bb.toList (o'+n *U) T).length=_;rw[fu,r2],?_,fun j u hj=>?_⟩
           ·rw[dY,a00,a8,ar];show o'+_<=l.csz;rw[←r2];rw[d3]at c9;omega
           rw[dY]at hj;have mg: ∀v':Value,(bD bb.toList (o'+n *U) T)[o'+j]?=some v'->(Array.mk (bD bb.toList (o'+n *U) T))[o'+j]?=some v':=fun v' hv=>(lh _ _).trans hv
           rw[bC _ _ _ _ (by simpa using c9)]at mg;by_cases ff:j<n *U
           ·rw[a19 (by omega)]at hj;rw[if_neg (by omega)]at mg;have gs:n≠0:=fun e=>by subst e;simp at ff
            unfold gJ at ax;have f7:Nat.beq n 0=false:=by
             cases f6:Nat.beq n 0 with
             |false=>rfl
             |true=>exact absurd (a08 f6) gs
            rw[f7]at ax;simp only[cond_false,Heap.loadN,hg,bY,cy,bI]at ax;cases fb:Nat.beq ((cs.drop o).take (n *U)).length (n *U) with
            |false=>rw[fb]at ax;cases ax
            |true=>
             rw[fb]at ax
             simp only[cond_true,a01]at ax
             rw[←ax,a0x,if_pos ff,a0H]at hj
             obtain⟨u',ci,hr⟩:=r4 (o+j) u hj
             refine⟨u',mg u' ?_,hr.mono (Emb.set_ext _ ch)⟩
             have:o'+j=l.sh+(o+j):=by have:=b7 (by omega);omega
             rw[this];simpa using ci
           rw[a1g (by omega),a8]at hj;obtain⟨u',ci,hr⟩:=a7.get hj;have hD:j-n *U<T.length:=(a0u.1 ci).1;rw[if_pos (by omega)]at mg;exact⟨u',mg u' (by rw[←ci];congr 1;omega),hr.mono (Emb.set_ext _ ch)⟩)
          refine⟨.slice (some ⟨l.c,o',none⟩) (n+m) k',_,_,gh (w':=bj w l.c (.cells ⟨bD bb.toList (o'+n *U) T⟩ et (0,0))) hu a4 (fun kk=>a3 kk) b4 Z d8 a2 (fun a ha=>?_) (fun e=>by cases e),e8,?_⟩
          ·injection ha with ha;subst ha;rw[db];exact c5
          exact VRel.sliceO (μ:=μ.set H.next ⟨l.c,o',some U,l.csz⟩) H.next 0 o' (n+m) (n+m) k' U ⟨l.c,o',some U,l.csz⟩ (Emb.set_same _ _ _) rfl (a07 _) d8 (fun _=>rfl) ds
         ·--a c8 row
          obtain⟨nc,a9,O⟩:=i5 (P:=P) (w:=w) (ty:=ty) hu a4 (fun kk=>a3 kk) hi c4 c6 Z (by omega) q2 (by omega) b1 a6;rw[ek]at O;have hk:=Post.kill h hμ hg rfl;obtain⟨l',h1,h2,h3,h4,_,hp⟩:=dq (P:=P) (H:=H.put b .dead) hk.wrel.drew ch e (b0.append a5) (Builtin.zeroCells vz.cells (nc-(n+m))).toList (some U) (fun e=>by cases e);rw[dY];refine⟨_,_,_,O,(hk.trans (Post.drew hk.wrel) (a07 _) (a07 _)).trans hp (a07 _) (by simp[aS]),?_⟩;have:=VRel.sliceO (μ:=μ.set H.next l') H.next 0 0 (n+m) (n+m) nc U l' (Emb.set_same _ _ _) h3 (a07 _) a9 (fun _=>by omega) (by
           rw[h4,dA cL,a00,a8,ar,a0B,←a0P,←a0P];exact a0y _ (by omega))
          rw[h1]at this;exact this
    cases E
   cases E
  cases E
 cases E
end
end Go.R
namespace Go.R
section
variable {P:Program} {μ:Emb} {H H':Heap} {w:World}
theorem copy_sound{types:Array TypeId}{ty:TypeId}{d s d' U v:Value}(h:WRel μ H w)(hd:VRel μ d d')(hs:VRel μ s U)(E:aCopy P types d s H=some (v,H')):
  ∃v' w',(Builtin.copy_ types ty #[d',U]).run P w= .ok v' w'/\Post μ H w μ H' w'/\VRel μ v v':=by
 unfold aCopy at E
 split at E
 ·rename_i dt a2;split at E
  ·rename_i e base T dk m hu hm;split at E
   ·rename_i sz a3;simp only at E;obtain⟨O,Y,rfl,b8⟩:=dr hd;have an:(Builtin.lenOf U).run P w= .ok m w:=lenA_run hm hs;cases hq:Nat.beq (Nat.min m T) 0 with
    |true=>
     rw[hq]at E
     simp only[cond_true,a01,a06]at E
     obtain⟨rfl,rfl⟩:=E
     have h0:Nat.min m T=0:=a08 hq
     refine⟨_,w,?_,Post.refl h,.atom (goInt 0) rfl⟩
     have a9:(Builtin.firstCells sz 0 U).run P w= .ok #[] w:=by
      unfold lenA at hm;split at hm
      ·rename_i a n k;obtain⟨a',k',rfl,_⟩:=dr hs;cases a'<;>simp[Builtin.firstCells,loadCells,loadCellsFrom]
      ·rename_i u;obtain rfl:=hs.string_inv;simp only[Builtin.firstCells,Sem.run_pure,dW];congr 1;simp
      cases hm
     unfold Builtin.copy_
     simp only[a2,show(#[Value.slice O T Y,U]:Array Value)[0]?=some (Value.slice O T Y) from rfl,show(#[Value.slice O T Y,U]:Array Value)[1]?=some U from rfl,
      Sem.run_bind,aj w hu,Result.andThen_ok,an,bg w a3,h0,a9]
     cases O<;>simp[storeCells]
    |false=>
     rw[hq]at E
     simp only[cond_false]at E
     split at E
     ·rename_i l a hl;split at E
      ·rename_i H1 b1;simp only[a01,a06]at E;obtain⟨rfl,rfl⟩:=E;obtain⟨b,o,sp⟩:=a;have b0:sp=none:=hd.slice_some.1;subst b0;obtain⟨ci,bb,a1,b3⟩:=ei (P:=P) h hs ⟨m,hm,Nat.min_le_left _ _⟩ hl;obtain⟨l0,hμ,hc⟩:=hd.slice_inv;have h0:Nat.min m T≠0:=fun e=>by rw[e]at hq;cases hq
       have b9:0<T:=by
        rcases a1c T with e|e
        ·exfalso;apply h0;rw[e];exact Nat.min_zero _
        exact e
       obtain⟨w',a6,hp⟩:=gA (P:=P) h hμ b1 a1;have a8:O=some ⟨l0.c,l0.sh+o,none⟩:=by
        rcases hc with⟨_,Z⟩|⟨e',o',k',_,Z,ch,_,a5,_⟩|⟨hz,_,_⟩
        rotate_right
        ·omega
        ·injection Z with Z
        injection Z with Z _ _;rw[Z,a5 (by omega)]
       subst a8;refine⟨goInt (Nat.min m T:Nat),w',?_,hp,.atom _ rfl⟩;unfold Builtin.copy_;simp only[a2,show(#[Value.slice (some ⟨l0.c,l0.sh+o,none⟩) T Y,U]:Array Value)[0]?=some (Value.slice (some ⟨l0.c,l0.sh+o,none⟩) T Y) from rfl,
        show(#[Value.slice (some ⟨l0.c,l0.sh+o,none⟩) T Y,U]:Array Value)[1]?=some U from rfl,
        Sem.run_bind,aj w hu,Result.andThen_ok,an,bg w a3,bb,a6,Sem.run_pure]
      cases E
     cases E
   cases E
  cases E
 cases E
theorem len_sound{t ty:TypeId}{x x' v:Value}(h:WRel μ H w)(U:VRel μ x x')(E:aLen P t x H=some v):
  (Builtin.len_ #[t] ty #[x']).run P w= .ok v w/\dz v=true:=by
 unfold aLen at E
 split at E
 ·rename_i e a n k O;injection E with E;subst E;obtain⟨a',k',rfl,_⟩:=dr U;exact⟨by simp[Builtin.len_,aj w O],rfl⟩
 ·rename_i s O;injection E with E;subst E;obtain rfl:=U.string_inv;exact⟨by simp[Builtin.len_,aj w O,bI],rfl⟩
 ·rename_i k e O;injection E with E;subst E;obtain rfl:=U.mapNil_inv;exact⟨by simp[Builtin.len_,aj w O],rfl⟩
 ·rename_i k e r O;split at E
  ·rename_i es hg;injection E with E;subst E;obtain⟨l,hμ,rfl⟩:=U.map_inv;obtain⟨Z,T,hh,hl,_⟩:=h.obj r l _ hμ hg;have Y:(getObj l.c).run P w= .ok (.map Z T) w:=gV hh (by intros;simp);exact⟨by simp[Builtin.len_,aj w O,Y,hl],rfl⟩
  cases E
 cases E
theorem gu: ∀(l:List Value) (r:List UInt8) (s:ByteArray),bR l=some r->
  (forIn (m:=Sem) l s (fun c s=>match c with
   | .int .u8 n=>Pure.pure (ForInStep.yield (s.push (UInt8.ofNat n.toNat)))
   |_=>do stuck "bytesToString: byte expected";Pure.pure (ForInStep.yield s))).run P w= .ok ⟨⟨s.data.toList++r⟩⟩ w
 | [],r,s,h=>by simp only[bR,a01]at h;subst h;simp
 |v::l,r,s,h=>by
  unfold bR at h;split at h
  ·rename_i E;cases E
  ·rename_i n U E;injection E with h1 h2;subst h1 h2;split at h
   ·rename_i T O;injection h with h;subst h;have ih:=gu l T (s.push (UInt8.ofNat n.toNat)) O;simp only[List.forIn_cons,Sem.run_bind,Sem.run_pure,Result.andThen_ok,ih];congr 3;simp
   cases h
  cases h
theorem fy: ∀(l:List Value) (r:List UInt8),bR l=some r->l.all dz=true
 | [],_,_=>rfl
 |v::l,r,h=>by
  unfold bR at h;split at h
  ·rename_i E;cases E
  ·rename_i n U E;injection E with h1 h2;subst h1 h2;split at h
   ·rename_i T O;simp only[a0Q,dz,a1l];exact fy l T O
   cases h
  cases h
theorem m9{ρ ρ':Operand->Value}{o:Oper}{s d:TypeId}{x:Operand}{r:AN}(h:WRel μ H w)(a1:o.op= .convert s d x)(hρ: ∀x∈o.op.operands,VRel μ (ρ x) (ρ' x))
  (ho:fB P ρ o s d (ρ x) H=some (r,H')):OpOK P μ H w (execOp ρ' o) r H':=by
 have Z:VRel μ (ρ x) (ρ' x):=hρ x (by rw[a1];simp[Op.operands])
 have an:execOp ρ' o=(do Pure.pure (.value (←convert s d (ρ' x)))):=by unfold execOp;simp only[a1]
 unfold fB at ho
 split at ho
 ·rename_i k n hv;rw[hv]at Z;obtain⟨rfl,v,E,rfl⟩:=cw ho;unfold na at E;split at E
  ·rename_i sd kd U T;injection E with E;subst E;rw[an];refine OpOK.value (v':= .int kd (kd.wrap n)) ?_ (Post.refl h) (.atom _ rfl);rw[Z.int_inv];simp[convert,aj w U,aj w T,Conv.intToInt]
  cases E
 ·rename_i a n k hv;rw[hv]at Z;obtain⟨rfl,v,E,rfl⟩:=cw ho;rw[an];unfold cN at E;split at E
  ·rename_i e U T;split at E
   ·rename_i a2;split at E
    ·injection E with E;subst E;obtain⟨_,_,O⟩:=Z.sliceNil_inv;refine OpOK.value (v':= .string .empty) ?_ (Post.refl h) (.atom _ rfl);rw[O];simp[convert,aj w U,aj w T,aj w a2,Conv.bytesToString]
    rename_i a;obtain⟨b,o2,sp⟩:=a;have b1:sp=none:=Z.slice_some.1;subst b1;cases hq:Nat.beq n 0 with
    |true=>
     rw[hq]at E
     simp only[cond_true,a01]at E;subst E
     have hn:n=0:=a08 hq
     subst hn
     obtain⟨_,a',k',O⟩:=Z.slice_some
     refine OpOK.value (v':= .string .empty) ?_ (Post.refl h) (.atom _ rfl)
     rw[O]
     simp[convert,aj w U,aj w T,aj w a2,Conv.bytesToString,loadCells,loadCellsFrom]
    |false=>
     rw[hq]at E
     simp only[cond_false]at E
     have hn:n≠0:=fun e=>by subst e;cases hq
     split at E
     ·rename_i l hl;split at E
      ·rename_i rb a6;injection E with E;subst E;obtain⟨l0,hμ,hc⟩:=Z.slice_inv;obtain⟨a7,Y,bb,b6⟩:=iD (P:=P) h hμ hl;have b2:a7=l:=bb.eq0 (fy l rb a6);subst b2;have O: ∃k',ρ' x= .slice (some ⟨l0.c,l0.sh+o2,none⟩) n k':=by
        rcases hc with⟨_,he⟩|⟨e',o',k',_,he,ci,_,a9,_⟩|⟨hz,_,_⟩
        rotate_right
        ·exact absurd hz hn
        ·exact⟨k,he⟩
        rw[a9 (by omega)]at he;exact⟨k',he⟩
       obtain⟨k',O⟩:=O;refine OpOK.value (v':= .string ⟨⟨rb⟩⟩) ?_ (Post.refl h) (.atom _ rfl);rw[O];have hb:=gu (P:=P) (w:=w) a7 rb .empty a6;simp only[convert,Sem.run_bind,aj w U,aj w T,aj w a2,Result.andThen_ok,Conv.bytesToString,Y];have he:((ByteArray.empty.data.toList++rb:List UInt8))=rb:=rfl;rw[he]at hb;simp only[←Array.forIn_toList]at *
       exact congrArg (fun r=>Result.andThen r fun a w'=>Sem.run P (Pure.pure (Value.string a)) w') hb
      cases E
     cases E
   cases E
  cases E
 obtain⟨rfl,v,v',rfl,Y,hr⟩:=dG ho (fun _ _=>by rw[a1];simp) hρ
 exact⟨.value v',w,μ,Y w,Post.refl h,hr⟩
theorem eh{d:TypeDesc}{k:Value}(h:bT d k=true):dz k=true:=by unfold bT at h;split at h<;>first|rfl|cases h
theorem je(a b:ByteArray):(a==b)=dM a b:=by
 have e:(a==b)=(a.data==b.data):=by cases a;cases b;rfl
 rw[e,a1w];simp only[beq_iff_eq,dM];constructor
 ·intro h;rw[h]
 intro h;exact a17.1 h
theorem bytesEq_iff{a b:ByteArray}(h:dM a b=true):a=b:=by simp only[dM,beq_iff_eq]at h;exact ByteArray.ext (a17.1 h)
theorem jd(a:ByteArray):(a==a)=true:=by rw[je];simp[dM]
theorem sameNow_key{d:TypeDesc}{a b:Value}(ha:bT d a=true)(hb:bT d b=true):Instr.sameNow d a b=some (ep a b):=by
 unfold bT at ha hb;split at ha
 ·split at hb
  ·rename_i k k1 n _ _ k2 O E;injection E with e1;subst e1;simp only[beq_iff_eq]at ha hb;subst ha hb;simp[Instr.sameNow,ep]
  ·cases ‹TypeDesc.int _=_›
  ·cases ‹TypeDesc.int _=_›
  cases hb
 ·split at hb
  ·cases ‹TypeDesc.string=_›
  ·simp[Instr.sameNow,ep,je]
  ·cases ‹TypeDesc.string=_›
  cases hb
 ·split at hb
  ·cases ‹TypeDesc.bool=_›
  ·cases ‹TypeDesc.bool=_›
  ·simp[Instr.sameNow,ep]
  cases hb
 cases ha
def EntRel(μ:Emb)(es:List (Value×Value))(E:List MapEntry):Prop:=
 es.length=E.length/\∀(i:Nat) x y,es[i]?=some x->E[i]?=some y->VRel μ x.1 y.key/\VRel μ x.2 y.val
theorem EntRel.cons_left{x:Value×Value}{es:List (Value×Value)}{E:List MapEntry}(h:EntRel μ (x::es) E):
  ∃y t,E=y::t/\VRel μ x.1 y.key/\VRel μ x.2 y.val/\EntRel μ es t:=by
 cases E with
 |nil=>have:=h.1;simp at this
 |cons y t=>
  obtain⟨O,T⟩:=h.2 0 x y rfl rfl
  exact⟨y,t,rfl,O,T,by have:=h.1;simpa using this,fun i a b ha hb=>h.2 (i+1) a b (by simpa using ha) (by simpa using hb)⟩
theorem EntRel.cons{x:Value×Value}{es:List (Value×Value)}{y:MapEntry}{E:List MapEntry}(O:VRel μ x.1 y.key)(T:VRel μ x.2 y.val)(h:EntRel μ es E):
  EntRel μ (x::es) (y::E):=by
 refine⟨by simp[h.1],fun i a b ha hb=>?_⟩
 cases i with
 |zero=>simp at ha hb;subst ha hb;exact⟨O,T⟩
 |succ i=>exact h.2 i a b (by simpa using ha) (by simpa using hb)
theorem iG{d:TypeDesc}{k:Value}(hk:bT d k=true): ∀(es:List (Value×Value)) (ces:List MapEntry) (i:Nat),EntRel μ es ces->es.all (fun e=>bT d e.1)=true->
  (∃v v' j,gK d k es=some v/\Instr.findNow d k ces i=some (some (i+j,v'))/\VRel μ v v'/\j<ces.length/\
    (∃y,ces[j]?=some y/\ep k y.key=true/\bT d y.key=true)/\(∀u E,VRel μ u E->EntRel μ (iX k u es) (ces.modify j fun e=>{e with key:=k,val:=E})))\/
  (gK d k es=none/\Instr.findNow d k ces i=some none/\∀u E b,VRel μ u E->EntRel μ (iX k u es) (ces++[{key:=k,val:=E,born:=b}]))
 | [],ces,i,h,_=>by have:ces=[]:=a0g h.1.symm;subst this;refine .inr ⟨rfl,rfl,fun u E b O=>?_⟩;exact EntRel.cons (x:=(k,u)) (.atom k (eh hk)) O ⟨rfl,fun i a b ha=>by simp at ha⟩
 |x::es,ces,i,h,hall=>by
  obtain⟨y,t,rfl,U,Y,ht⟩:=h.cons_left;simp only[a0Q,a04]at hall;have Z:y.key=x.1:=U.eq0 (eh hall.1);have T:Instr.sameNow d k y.key=some (ep k x.1):=by rw[Z];exact sameNow_key hk hall.1
  cases hs:ep k x.1 with
  |true=>
   refine .inl ⟨x.2,y.val,0,?_,?_,Y,by simp,⟨y,rfl,by rw[Z];exact hs,by rw[Z];exact hall.1⟩,fun u E O=>?_⟩
   ·simp only[gK,hs,cond_true]
   ·simp only[Instr.findNow,T,hs];rfl
   simp only[iX,hs,cond_true,List.modify_zero_cons]
   exact EntRel.cons (x:=(k,u)) (.atom k (eh hk)) O ht
  |false=>
   rcases iG hk es t (i+1) ht hall.2 with⟨v,v',j,h1,h2,h3,h4,h5,h6⟩|⟨h1,h2,h3⟩
   ·refine .inl ⟨v,v',j+1,?_,?_,h3,by simpa using h4,?_,fun u E O=>?_⟩
    ·simp only[gK,hs,cond_false];exact h1
    ·simp only[Instr.findNow,T,hs];rw[h2];congr 3;omega
    ·obtain⟨y2,a3,h7⟩:=h5;exact⟨y2,by simpa using a3,h7⟩
    simp only[iX,hs,cond_false,List.modify_succ_cons];exact EntRel.cons (x:=(x.1,x.2)) U Y (h6 u E O)
   refine .inr ⟨?_,?_,fun u E b O=>?_⟩
   ·simp only[gK,hs,cond_false];exact h1
   ·simp only[Instr.findNow,T,hs];exact h2
   simp only[iX,hs,cond_false,a0w]
   exact EntRel.cons (x:=(x.1,x.2)) U Y (h3 u E b O)
theorem fw{d:TypeDesc}{T:TypeId}{k:Value}(O:P.underlying T=some d)(E:bT d k=true)(b:Bool):(Instr.checkKey b 10000 T k).run P w= .ok () w:=by
 have key: ∀n,(Instr.checkKey b (n+1) T k).run P w= .ok () w:=by
  intro n;unfold bT at E;split at E
  ·simp[Instr.checkKey,aj w O]
  ·simp[Instr.checkKey,aj w O]
  ·simp[Instr.checkKey,aj w O]
  cases E
 exact key 9999
theorem lookup_sound{t:TypeId}{m k m' k' v:Value}{ok:Bool}(h:WRel μ H w)(hm:VRel μ m m')(hk:VRel μ k k')(E:gS P t m k ok H=some v):
  ∃v',(Instr.lookup t m' k' ok).run P w= .ok v' w/\VRel μ v v':=by
 unfold gS at E
 split at E
 ·rename_i kt et hu;split at E
  ·rename_i d i hd hi;split at E
   ·rename_i z hz;cases O:(bT d k&&ke z) with
    |false=>rw[O]at E;cases E
    |true=>
     rw[O]at E
     simp only[cond_true]at E
     simp only[a04]at O
     have a8:k'=k:=hk.eq0 (eh O.1)
     subst a8
     have a2:VRel μ z z:=VRel.refl1 O.2
     have a3:(zeroValue et).run P w= .ok z w:=dE w hi hz
     have ax: ∀(u T:Value) (b:Bool),VRel μ u T->VRel μ (bif ok then .tuple #[u,.bool b] else u) (if ok then .tuple #[T,.bool b] else T):=by
      intro u T b hu;cases ok
      ·exact hu
      have:=LRel.cons hu (LRel.cons (VRel.atom (μ:=μ) (.bool b) rfl) LRel.nil);exact .tuple _ _ this.1 this.2
     split at E
     ·injection E with E;subst E;obtain rfl:=hm.mapNil_inv;refine⟨_,?_,ax z z false a2⟩;simp only[Instr.lookup,Sem.run_bind,aj w hu,Result.andThen_ok,Sem.run_pure,fw hd O.1,Instr.findKey,aj w hd];simp[Instr.findNow,a3]
     ·rename_i r;split at E
      ·rename_i es hg;cases Z:es.all fun e=>bT d e.1 with
       |false=>rw[Z]at E;cases E
       |true=>
        rw[Z]at E
        simp only[cond_true]at E
        obtain⟨l,hμ,rfl⟩:=hm.map_inv
        obtain⟨U,a1,hh,hl,a6⟩:=h.obj r l _ hμ hg
        have a7:(getObj l.c).run P w= .ok (.map U a1) w:=gV hh (by intros;simp)
        have Y: ∀X,Instr.findNow d k' U.toList 0=some X->(Instr.lookup t (.map (some l.c)) k' ok).run P w=
          (match X with
           |some (_,v)=>(.ok (if ok then .tuple #[v,.bool true] else v) w:Result Value)
           |none=> .ok (if ok then .tuple #[z,.bool false] else z) w):=by
         intro X hX
         simp only[Instr.lookup,Sem.run_bind,aj w hu,Result.andThen_ok,Sem.run_pure,a7,fw hd O.1,Instr.findKey,aj w hd,hX]
         cases X with
         |none=>simp[a3]
         |some p=>obtain⟨j,u⟩:=p;simp
        rcases iG O.1 es U.toList 0 ⟨hl,a6⟩ Z with⟨u,T,j,h1,h2,h3,_⟩|⟨h1,h2,_⟩
        ·rw[h1]at E;simp only[a01]at E;subst E;exact⟨_,Y _ h2,ax u T true h3⟩
        rw[h1]at E
        simp only[a01]at E;subst E
        exact⟨_,Y _ h2,ax z z false a2⟩
      cases E
     cases E
   cases E
  cases E
 cases E
theorem sameBits_key{d:TypeDesc}{a b:Value}(ha:bT d a=true)(hb:bT d b=true)(h:ep a b=true):Instr.sameBits 10000 b a=true:=by
 have key: ∀n,Instr.sameBits n b a=true:=by
  intro n;unfold bT at ha hb;split at ha
  ·split at hb
   ·rename_i k k1 x _ _ k2 y E;injection E with e1;subst e1;simp only[beq_iff_eq]at ha hb;subst ha hb;simp only[ep,beq_iff_eq]at h;subst h;cases n<;>simp[Instr.sameBits]
   ·cases ‹TypeDesc.int _=_›
   ·cases ‹TypeDesc.int _=_›
   cases hb
  ·split at hb
   ·cases ‹TypeDesc.string=_›
   ·rename_i x _ _ y _;have h:=bytesEq_iff h;subst h;cases n<;>simp[Instr.sameBits,jd]
   ·cases ‹TypeDesc.string=_›
   cases hb
  ·split at hb
   ·cases ‹TypeDesc.bool=_›
   ·cases ‹TypeDesc.bool=_›
   ·simp only[ep,beq_iff_eq]at h;subst h;cases n<;>simp[Instr.sameBits]
   cases hb
  cases ha
 exact key 10000
theorem jL{t:TypeId}{m k v m' k' v':Value}(h:WRel μ H w)(hm:VRel μ m m')(hk:VRel μ k k')(hv:VRel μ v v')(O:gR P t m k v H=some H'):
  ∃w',(Instr.mapUpdate t m' k' v').run P w= .ok () w'/\Post μ H w μ H' w':=by
 unfold gR at O
 split at O
 ·rename_i kt et hu;split at O
  ·rename_i d r hd;split at O
   ·rename_i es hg;cases T:(bT d k&&es.all fun e=>bT d e.1) with
    |false=>rw[T]at O;cases O
    |true=>
     rw[T]at O
     simp only[cond_true,a01]at O;subst O
     simp only[a04]at T
     have a8:k'=k:=hk.eq0 (eh T.1)
     subst a8
     obtain⟨l,hμ,rfl⟩:=hm.map_inv
     obtain⟨U,E,hh,hl,a3⟩:=h.obj r l _ hμ hg
     have Y:(getObj l.c).run P w= .ok (.map U E) w:=gV hh (by intros;simp)
     have an: ∀o',(setObj l.c o').run P w= .ok () (bj w l.c o'):=fun o'=>lV hh (by intros;simp)
     rcases iG T.1 es U.toList 0 ⟨hl,a3⟩ T.2 with⟨u,u',j,h1,h2,h3,h4,⟨y,hy,b1,b0⟩,h6⟩|⟨h1,h2,h3⟩
     ·refine⟨bj w l.c (.map (U.modify j fun e=>{e with key:=k',val:=v'}) E),?_,?_⟩
      ·have a1:U[j]?=some y:=by simpa using hy
       simp only[Instr.mapUpdate,Sem.run_bind,aj w hu,Result.andThen_ok,Y,fw hd T.1,Instr.findKey,aj w hd,h2,Sem.run_pure,a0B,a1,a1B,a1h,
        Instr.keyThatStays,sameBits_key T.1 b0 b1,if_true,an]
      have Z:=h6 v v' hv;refine Post.put h hμ hg rfl _ rfl _ ⟨_,E,bt w _ (bQ hh),?_,?_⟩
      ·rw[Array.toList_modify];exact Z.1
      rw[Array.toList_modify];exact Z.2
     refine⟨bj w l.c (.map (U.push {key:=k',val:=v',born:=E}) (E+1)),?_,?_⟩
     ·simp only[Instr.mapUpdate,Sem.run_bind,aj w hu,Result.andThen_ok,Y,fw hd T.1,Instr.findKey,aj w hd,h2,Sem.run_pure,an]
     have Z:=h3 v v' E hv
     refine Post.put h hμ hg rfl _ rfl _ ⟨_,E+1,bt w _ (bQ hh),?_,?_⟩
     ·rw[Array.toList_push];exact Z.1
     rw[Array.toList_push];exact Z.2
   cases O
  cases O
 cases O
theorem callee_sound{f f':Value}{args:List Value}{O:Array Value}{r:AN}(hf:VRel μ f f')(ha:LRel μ args O.toList)(E:iQ P f args=some r):
  ∃i Y,r= .enter i Y/\∃U,(∀w,(do let d ←Deferred.ofValue f' O;invoke d.target d.args:Sem Next).run P w= .ok (.enter i U) w)/\LRel μ Y U.toList:=by
 unfold iQ at E
 split at E
 ·rename_i i first ar;obtain⟨an,T,rfl,h1,h2⟩:=hf.func_inv;split at E
  ·rename_i fn a1;cases Z:(fn.body.isSome&& !(fn.name== "runtime.NumGoroutine")) with
   |false=>rw[Z]at E;cases E
   |true=>
    rw[Z]at E
    simp only[cond_true,a01]at E;subst E
    simp only[a04,a0L]at Z
    refine⟨i,_,rfl,(an++O)++T,fun w=>?_,?_⟩
    ·have hb: ¬fn.body=none:=by intro ax;rw[ax]at Z;cases Z.1
     have a2: ¬fn.name= "runtime.NumGoroutine" :=by have:=Z.2;simpa using this
     simp[Deferred.ofValue,invoke,callFunc,a1,a2,hb]
    rw[dY,dY]
    have:=(h1.append (ha.append h2))
    simpa using this
  cases E
 cases E
end
end Go.R
