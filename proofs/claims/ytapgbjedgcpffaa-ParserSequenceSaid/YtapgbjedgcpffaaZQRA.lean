/-
The evaluator is sound: values, operations, memory.
-/
import Derived.Test.YtapgbjedgcpffaaZQR0
import Derived.IntWalk
set_option linter.unusedVariables false
set_option linter.unusedSimpArgs false
namespace Go.R
structure Loc where
 c:Nat
 sh:Nat
 opn:Option Nat
 csz:Nat
abbrev Emb:=Nat->Option Loc
inductive VRel(μ:Emb):Value->Value->Prop
 |atom (v:Value):de v=true->VRel μ v v
 |ptr (b o:Nat) (l:Loc):μ b=some l->VRel μ (.pointer (some ⟨b,o,none⟩)) (.pointer (some ⟨l.c,l.sh+o,none⟩))
 |sliceC (b o n k:Nat) (l:Loc):μ b=some l->l.opn=none->VRel μ (.slice (some ⟨b,o,none⟩) n k) (.slice (some ⟨l.c,l.sh+o,none⟩) n k)
 |sliceO (b o o' n k k' e:Nat) (l:Loc):μ b=some l->l.opn=some e->n<=k->k<=k'->(0<k->o'=l.sh+o)->o'+k' *e<=l.csz->
   VRel μ (.slice (some ⟨b,o,none⟩) n k) (.slice (some ⟨l.c,o',none⟩) n k')
 |sliceZ (b o:Nat) (a:Addr) (l:Loc):μ b=some l->VRel μ (.slice (some ⟨b,o,none⟩) 0 0) (.slice (some a) 0 0)
 |map (b:Nat) (l:Loc):μ b=some l->VRel μ (.map (some b)) (.map (some l.c))
 |func (fn:Fn) (xs ys xs' ys':Array Value):xs.toList.length=xs'.toList.length->ys.toList.length=ys'.toList.length->
   (∀(i:Nat) v v',xs.toList[i]?=some v->xs'.toList[i]?=some v'->VRel μ v v')->
   (∀(i:Nat) v v',ys.toList[i]?=some v->ys'.toList[i]?=some v'->VRel μ v v')->VRel μ (.func fn xs ys) (.func fn xs' ys')
 |agg (xs xs':Array Value):xs.toList.length=xs'.toList.length->
   (∀(i:Nat) v v',xs.toList[i]?=some v->xs'.toList[i]?=some v'->VRel μ v v')->VRel μ (.agg xs) (.agg xs')
 |tuple (xs xs':Array Value):xs.toList.length=xs'.toList.length->
   (∀(i:Nat) v v',xs.toList[i]?=some v->xs'.toList[i]?=some v'->VRel μ v v')->VRel μ (.tuple xs) (.tuple xs')
def LRel(μ:Emb)(l l':List Value):Prop:=l.length=l'.length/\∀(i:Nat) v v',l[i]?=some v->l'[i]?=some v'->VRel μ v v'
section
variable {μ μ':Emb}
theorem VRel.mono(h: ∀b l,μ b=some l->μ' b=some l){v v':Value}(E:VRel μ v v'):VRel μ' v v':=by
 induction E with
 |atom v h0=>exact .atom v h0
 |ptr b o l hb=>exact .ptr b o l (h _ _ hb)
 |sliceC b o n k l hb ho=>exact .sliceC b o n k l (h _ _ hb) ho
 |sliceO b o o' n k k' e l hb ho h1 h2 h3 h4=>exact .sliceO b o o' n k k' e l (h _ _ hb) ho h1 h2 h3 h4
 |sliceZ b o a l hb=>exact .sliceZ b o a l (h _ _ hb)
 |map b l hb=>exact .map b l (h _ _ hb)
 |func fn xs ys xs' ys' h1 h2 _ _ i1 i2=>exact .func fn xs ys xs' ys' h1 h2 i1 i2
 |agg xs xs' h1 _ i1=>exact .agg xs xs' h1 i1
 |tuple xs xs' h1 _ i1=>exact .tuple xs xs' h1 i1
theorem LRel.nil:LRel μ [] []:=⟨rfl,fun i v v' h=>by simp at h⟩
theorem LRel.cons{v v':Value}{l l':List Value}(h:VRel μ v v')(T:LRel μ l l'):LRel μ (v::l) (v'::l'):=by
 refine⟨by simp[T.1],fun i x U E O=>?_⟩;cases i with
 |zero=>simp at E O;subst E O;exact h
 |succ i=>exact T.2 i x U (by simpa using E) (by simpa using O)
theorem LRel.head{v v':Value}{l l':List Value}(h:LRel μ (v::l) (v'::l')):VRel μ v v':=h.2 0 v v' rfl rfl
theorem LRel.tail{v v':Value}{l l':List Value}(h:LRel μ (v::l) (v'::l')):LRel μ l l':=
 ⟨by simpa using h.1,fun i x T E O=>h.2 (i+1) x T (by simpa using E) (by simpa using O)⟩
theorem LRel.get{l l':List Value}(h:LRel μ l l'){i:Nat}{v:Value}(E:l[i]?=some v): ∃v',l'[i]?=some v'/\VRel μ v v':=by
 have hi:i<l'.length:=by rw[←h.1];exact(a0q.1 E).1
 exact⟨l'[i],a09 hi,h.2 i v _ E (a09 hi)⟩
theorem LRel.append{a b T U:List Value}(h:LRel μ a T)(k:LRel μ b U):LRel μ (a++b) (T++U):=by
 refine⟨by simp[h.1,k.1],fun i v v' E O=>?_⟩;by_cases hi:i<a.length
 ·rw[a17 hi]at E;rw[a17 (h.1▸hi)]at O;exact h.2 i v v' E O
 rw[a1d (by omega)]at E;rw[a1d (by have:=h.1;omega),←h.1]at O;exact k.2 _ v v' E O
theorem LRel.take{a T:List Value}(h:LRel μ a T)(n:Nat):LRel μ (a.take n) (T.take n):=by
 refine⟨by simp[h.1],fun i v v' E O=>?_⟩;rw[a0v]at E O;split at E
 ·rename_i hi;rw[if_pos hi]at O;exact h.2 i v v' E O
 cases E
theorem LRel.drop{a E:List Value}(h:LRel μ a E)(n:Nat):LRel μ (a.drop n) (E.drop n):=by refine⟨by simp[h.1],fun i v v' O T=>?_⟩;rw[a0D]at O T;exact h.2 _ v v' O T
theorem LRel.nil_left{l':List Value}(h:LRel μ [] l'):l'=[]:=a0g h.1.symm
theorem LRel.cons_left{v:Value}{l l':List Value}(h:LRel μ (v::l) l'): ∃v' E,l'=v'::E/\VRel μ v v'/\LRel μ l E:=by
 cases l' with
 |nil=>have:=h.1;simp at this
 |cons v' E=>exact⟨v',E,rfl,h.head,h.tail⟩
theorem VRel.oneCell{v v':Value}(h:VRel μ v v'):v'.oneCell'=v.oneCell':=by cases h<;>rfl
theorem VRel.eq0{v v':Value}(h:VRel μ v v')(E:de v=true):v'=v:=by
 cases h with
 |atom=>rfl
 |func fn xs ys xs' ys' h1 h2 _ _=>
  simp only[de,a04]at E
  have O:xs.size=0:=a07 E.1
  have T:ys.size=0:=a07 E.2
  have U:xs= #[]:=a11.1 O
  have Y:ys= #[]:=a11.1 T
  subst U Y
  have Z:xs'= #[]:=a11.1 (by simpa using h1.symm)
  have g2:ys'= #[]:=a11.1 (by simpa using h2.symm)
  subst Z g2
  rfl
 |_=>simp[de]at E
theorem LRel.eq0{l l':List Value}(h:LRel μ l l')(E:l.all de=true):l'=l:=by
 induction l generalizing l' with
 |nil=>exact h.nil_left
 |cons v l ih=>
  obtain⟨v',U,rfl,T,O⟩:=h.cons_left
  simp only[a0R,a04]at E
  rw[T.eq0 E.1,ih O E.2]
theorem VRel.eq1{v v':Value}(h:VRel μ v v')(E:iX v=true):v'=v:=by
 cases h with
 |agg xs xs' hl hi=>
  have:=LRel.eq0 (μ:=μ) (l:=xs.toList) (l':=xs'.toList) ⟨hl,hi⟩ E
  rw[a1e.1 this]
 |atom v h0=>rfl
 |_=>exact VRel.eq0 (μ:=μ) (by constructor<;>assumption) E
theorem LRel.eq1{l l':List Value}(h:LRel μ l l')(E:l.all iX=true):l'=l:=by
 induction l generalizing l' with
 |nil=>exact h.nil_left
 |cons v l ih=>
  obtain⟨v',U,rfl,T,O⟩:=h.cons_left
  simp only[a0R,a04]at E
  rw[T.eq1 E.1,ih O E.2]
theorem LRel.refl0{l:List Value}(h:l.all de=true):LRel μ l l:=by refine⟨rfl,fun i v v' O E=>?_⟩;rw[O]at E;injection E with E;subst E;exact .atom v (a0l.1 h v (a0o O))
theorem VRel.refl1{v:Value}(h:iX v=true):VRel μ v v:=by
 cases v with
 |agg cs=>have:=LRel.refl0 (μ:=μ) (l:=cs.toList) h;exact .agg cs cs this.1 this.2
 |_=>exact .atom _ h
theorem LRel.refl1{l:List Value}(h:l.all iX=true):LRel μ l l:=by refine⟨rfl,fun i v v' O E=>?_⟩;rw[O]at E;injection E with E;subst E;exact VRel.refl1 (a0l.1 h v (a0o O))
theorem VRel.refl2{v:Value}(h:noA2 v=true):VRel μ v v:=by
 cases v with
 |tuple vs=>have:=LRel.refl1 (μ:=μ) (l:=vs.toList) h;exact .tuple vs vs this.1 this.2
 |_=>exact VRel.refl1 h
theorem VRel.undef:VRel μ undef undef:=VRel.refl2 rfl
theorem VRel.eq2{v v':Value}(h:VRel μ v v')(E:noA2 v=true):v'=v:=by
 cases h with
 |tuple xs xs' hl hi=>
  have:=LRel.eq1 (μ:=μ) (l:=xs.toList) (l':=xs'.toList) ⟨hl,hi⟩ E
  rw[a1e.1 this]
 |atom v h0=>rfl
 |_=>exact VRel.eq1 (μ:=μ) (by constructor<;>assumption) E
theorem VRel.cells{v v':Value}(h:VRel μ v v'):LRel μ v.cells.toList v'.cells.toList:=by
 have one: ∀{u E:Value},VRel μ u E->LRel μ [u] [E]:=fun O=> .cons O .nil
 cases h with
 |agg xs xs' hl hi=>exact⟨hl,hi⟩
 |atom v h0=>cases v<;>first|(simp[de]at h0;done)|exact one (.atom _ h0)
 |ptr b o l hb=>exact one (.ptr b o l hb)
 |sliceC b o n k l hb ho=>exact one (.sliceC b o n k l hb ho)
 |sliceO b o o' n k k' e l hb ho h1 h2 h3 h4=>exact one (.sliceO b o o' n k k' e l hb ho h1 h2 h3 h4)
 |sliceZ b o a l hb=>exact one (.sliceZ b o a l hb)
 |map b l hb=>exact one (.map b l hb)
 |func fn xs ys xs' ys' h1 h2 i1 i2=>exact one (.func fn xs ys xs' ys' h1 h2 i1 i2)
 |tuple xs xs' h1 i1=>exact one (.tuple xs xs' h1 i1)
theorem VRel.int_inv{k:IntKind}{n:Int}{v':Value}(h:VRel μ (.int k n) v'):v'= .int k n:=h.eq0 rfl
theorem VRel.bool_inv{b:Bool}{v':Value}(h:VRel μ (.bool b) v'):v'= .bool b:=h.eq0 rfl
theorem VRel.string_inv{s:ByteArray}{v':Value}(h:VRel μ (.string s) v'):v'= .string s:=h.eq0 rfl
theorem VRel.ptr_inv{b o:Nat}{v':Value}(h:VRel μ (.pointer (some ⟨b,o,none⟩)) v'): ∃l,μ b=some l/\v'= .pointer (some ⟨l.c,l.sh+o,none⟩):=by
 cases h with
 |atom _ h0=>simp[de]at h0
 |ptr _ _ l hb=>exact⟨l,hb,rfl⟩
theorem VRel.ptr_some{a:Addr}{v':Value}(h:VRel μ (.pointer (some a)) v'):a.spot=none/\∃E,v'= .pointer (some E):=by
 cases h with
 |atom _ h0=>simp[de]at h0
 |ptr _ _ l hb=>exact⟨rfl,_,rfl⟩
theorem VRel.agg_inv{xs:Array Value}{v':Value}(h:VRel μ (.agg xs) v'): ∃E,v'= .agg E/\LRel μ xs.toList E.toList:=by
 cases h with
 |atom _ h0=>simp[de]at h0
 |agg _ E hl hi=>exact⟨E,rfl,hl,hi⟩
theorem VRel.tuple_inv{xs:Array Value}{v':Value}(h:VRel μ (.tuple xs) v'): ∃E,v'= .tuple E/\LRel μ xs.toList E.toList:=by
 cases h with
 |atom _ h0=>simp[de]at h0
 |tuple _ E hl hi=>exact⟨E,rfl,hl,hi⟩
theorem VRel.func_inv{fn:Fn}{xs ys:Array Value}{v':Value}(h:VRel μ (.func fn xs ys) v'):
  ∃E O,v'= .func fn E O/\LRel μ xs.toList E.toList/\LRel μ ys.toList O.toList:=by
 cases h with
 |atom _ h0=>
  simp only[de,a04]at h0
  have T:xs= #[]:=a11.1 (a07 h0.1)
  have U:ys= #[]:=a11.1 (a07 h0.2)
  subst T U
  exact⟨#[], #[],rfl,.nil,.nil⟩
 |func _ _ _ E O h1 h2 i1 i2=>exact⟨E,O,rfl,⟨h1,i1⟩,⟨h2,i2⟩⟩
theorem VRel.map_inv{b:Nat}{v':Value}(h:VRel μ (.map (some b)) v'): ∃l,μ b=some l/\v'= .map (some l.c):=by
 cases h with
 |atom _ h0=>simp[de]at h0
 |map _ l hb=>exact⟨l,hb,rfl⟩
theorem VRel.mapNil_inv{v':Value}(h:VRel μ (.map none) v'):v'= .map none:=h.eq0 rfl
theorem VRel.slice_inv{b o n k:Nat}{v':Value}(h:VRel μ (.slice (some ⟨b,o,none⟩) n k) v'):
  ∃l,μ b=some l/\((l.opn=none/\v'= .slice (some ⟨l.c,l.sh+o,none⟩) n k)\/
   (∃e O E,l.opn=some e/\v'= .slice (some ⟨l.c,O,none⟩) n E/\n<=k/\k<=E/\(0<k->O=l.sh+o)/\O+E *e<=l.csz)\/(n=0/\k=0/\∃T,v'= .slice (some T) 0 0)):=by
 cases h with
 |atom _ h0=>simp[de]at h0
 |sliceC _ _ _ _ l hb ho=>exact⟨l,hb,.inl ⟨ho,rfl⟩⟩
 |sliceO _ _ O _ _ E e l hb ho h1 h2 h3 h4=>exact⟨l,hb,.inr (.inl ⟨e,O,E,ho,rfl,h1,h2,h3,h4⟩)⟩
 |sliceZ _ _ a l hb=>exact⟨l,hb,.inr (.inr ⟨rfl,rfl,a,rfl⟩)⟩
theorem VRel.sliceNil_inv{n k:Nat}{v':Value}(h:VRel μ (.slice none n k) v'):n=0/\k=0/\v'= .slice none n k:=by
 cases h with
 |atom _ h0=>
  simp only[de,a04]at h0
  exact⟨a07 h0.1,a07 h0.2,rfl⟩
theorem VRel.slice_some{a:Addr}{n k:Nat}{v':Value}(h:VRel μ (.slice (some a) n k) v'):a.spot=none/\∃O E,v'= .slice (some O) n E:=by
 cases h with
 |atom _ h0=>simp[de]at h0
 |sliceC _ _ _ _ l hb ho=>exact⟨rfl,_,_,rfl⟩
 |sliceO _ _ o' _ _ E e l hb ho h1 h2 h3 h4=>exact⟨rfl,_,_,rfl⟩
 |sliceZ _ _ a l hb=>exact⟨rfl,_,_,rfl⟩
end
def ObjRel(μ:Emb)(w:World)(l:Loc):AObj->Prop
 | .cells cs opn true=>l.opn=opn/\opn=none/\l.c<w.heap.size/\∀(i:Nat) v,cs[i]?=some v->∃v',w.cell? ⟨l.c,l.sh+i,none⟩=some v'/\VRel μ v v'
 | .cells cs opn false=>l.opn=opn/\∃(h:Array Value) (e:TypeId),w.heap[l.c]?=some (.cells h e (0,0))/\h.size=l.csz/\l.sh+cs.length<=l.csz/\
   ∀(i:Nat) v,cs[i]?=some v->∃v',h[l.sh+i]?=some v'/\VRel μ v v'
 | .iter s pos=>l.sh=0/\w.heap[l.c]?=some (.stringIter s pos)
 | .tab es=> ∃(E:Array MapEntry) (O:Nat),w.heap[l.c]?=some (.map E O)/\es.length=E.toList.length/\
   ∀(i:Nat) x y,es[i]?=some x->E.toList[i]?=some y->VRel μ x.1 y.key/\VRel μ x.2 y.val
 | .dead=>True
structure WRel(μ:Emb)(H:Heap)(w:World):Prop where
 obj: ∀b l o,μ b=some l->H.get b=some o->ObjRel μ w l o
 inj: ∀b1 b2 l1 l2 o1 o2,b1≠b2->μ b1=some l1->μ b2=some l2->H.get b1=some o1->H.get b2=some o2->o1.rw=true->o2.live=true->l1.c≠l2.c
theorem cO{w:World}{c:Nat}{o:Obj}(h:w.heap[c]?=some o):c<w.heap.size:=(a0H.1 h).1
theorem ObjRel.lt{μ:Emb}{w:World}{l:Loc}{o:AObj}(h:ObjRel μ w l o)(T:o.live=true):l.c<w.heap.size:=by
 cases o with
 |cells cs opn ro=>
  cases ro with
  |true=>exact h.2.2.1
  |false=>obtain⟨_,U,e,E,_⟩:=h;exact cO E
 |iter s pos=>exact cO h.2
 |tab es=>obtain⟨Y,O,E,_⟩:=h;exact cO E
 |dead=>simp[AObj.live]at T
theorem ObjRel.keep{μ μ':Emb}{w w':World}{l:Loc}{o:AObj}(Y: ∀b l,μ b=some l->μ' b=some l)(hs:w.heap.size<=w'.heap.size)
  (hc:o.live=true->w'.heap[l.c]?=w.heap[l.c]?) (h:ObjRel μ w l o):ObjRel μ' w' l o:=by
 cases o with
 |cells cs opn ro=>
  have Z:=hc rfl
  cases ro with
  |true=>
   obtain⟨h1,E,U,h4⟩:=h
   refine⟨h1,E,by omega,fun i v hv=>?_⟩
   obtain⟨v',O,hr⟩:=h4 i v hv
   refine⟨v',?_,hr.mono Y⟩
   rw[←O]
   simp only[World.cell?,Z]
  |false=>
   obtain⟨h1,a2,e,hh,E,U,h4⟩:=h
   refine⟨h1,a2,e,Z.trans hh,E,U,fun i v hv=>?_⟩
   obtain⟨v',O,hr⟩:=h4 i v hv
   exact⟨v',O,hr.mono Y⟩
 |iter s pos=>exact⟨h.1,(hc rfl).trans h.2⟩
 |tab es=>
  obtain⟨a3,T,hh,E,U⟩:=h
  refine⟨a3,T,(hc rfl).trans hh,E,fun i x y hx hy=>?_⟩
  obtain⟨r1,r2⟩:=U i x y hx hy
  exact⟨r1.mono Y,r2.mono Y⟩
 |dead=>trivial
theorem gM{o:AObj}(h:o.rw=true):o.live=true:=by cases o<;>simp_all[AObj.rw,AObj.live]
structure Post(μ:Emb)(H:Heap)(w:World)(μ':Emb)(H':Heap)(w':World):Prop where
 ext: ∀b l,μ b=some l->μ' b=some l
 dom: ∀b l,μ' b=some l->μ b=some l\/(H.next<=b/\b<H'.next)
 grow:w.heap.size<=w'.heap.size
 os:w'.os=w.os
 tape:w'.tape=w.tape
 out:w'.output=w.output
 keep: ∀c,c<w.heap.size->(∀b l o,μ b=some l->H.get b=some o->o.rw=true->l.c≠c)->w'.heap[c]?=w.heap[c]?
 img: ∀b l o,μ' b=some l->H'.get b=some o->o.live=true->w.heap.size<=l.c\/∃b0 l0 o0,μ b0=some l0/\H.get b0=some o0/\o0.live=true/\(o.rw=true->o0.rw=true)/\l0.c=l.c
 wrel:WRel μ' H' w'
theorem Post.refl{μ:Emb}{H:Heap}{w:World}(h:WRel μ H w):Post μ H w μ H w:=
 ⟨fun _ _ h=>h,fun _ _ h=> .inl h,a06 _,rfl,rfl,rfl,fun _ _ _=>rfl,fun b l o E O T=> .inr ⟨b,l,o,E,O,T,id,rfl⟩,h⟩
theorem Post.trans{μ Z μ2:Emb}{H H1 O:Heap}{w w1 Y:World}(h:Post μ H w Z H1 w1)(k:Post Z H1 w1 μ2 O Y)(h1:H.next<=H1.next)(h2:H1.next<=O.next):
  Post μ H w μ2 O Y:=by
 refine⟨fun b l hb=>k.ext b l (h.ext b l hb),fun b l hb=>?_,a0h h.grow k.grow,k.os.trans h.os,k.tape.trans h.tape,k.out.trans h.out,fun c hc U=>?_,fun b l o hb T E=>?_,k.wrel⟩
 ·rcases k.dom b l hb with hb1|⟨hb1,hb2⟩
  ·rcases h.dom b l hb1 with hb0|⟨hb3,hb4⟩
   ·exact .inl hb0
   exact .inr ⟨hb3,by omega⟩
  exact .inr ⟨by omega,hb2⟩
 ·rw[k.keep c (a0U hc h.grow) ?_,h.keep c hc U];intro b l o hb T E he;rcases h.img b l o hb T (gM E) with hh|⟨b0,l0,o0,g1,g2,g3,g5,g4⟩
  ·omega
  exact U b0 l0 o0 g1 g2 (g5 E) (g4.trans he)
 rcases k.img b l o hb T E with hh|⟨b0,l0,o0,g1,g2,g3,g5,g4⟩
 ·exact .inl (a0h h.grow hh)
 rcases h.img b0 l0 o0 g1 g2 g3 with hh|⟨b1,l1,o1,e1,e2,e3,e5,e4⟩
 ·exact .inl (g4▸hh)
 exact .inr ⟨b1,l1,o1,e1,e2,e3,fun hx=>e5 (g5 hx),e4.trans g4⟩
theorem WRel.drew{μ:Emb}{H:Heap}{w:World}(h:WRel μ H w):WRel μ H w.drew:=
 ⟨fun b l o hb E=>(h.obj b l o hb E).keep (fun _ _ h=>h) (a06 _) (fun _=>rfl),h.inj⟩
theorem Post.drew{μ:Emb}{H:Heap}{w:World}(h:WRel μ H w):Post μ H w μ H w.drew:=
 ⟨fun _ _ h=>h,fun _ _ h=> .inl h,a06 _,rfl,rfl,rfl,fun _ _ _=>rfl,fun b l o E O T=> .inr ⟨b,l,o,E,O,T,id,rfl⟩,h.drew⟩
def Emb.set(μ:Emb)(b:Nat)(l:Loc):Emb:=fun k=>if k=b then some l else μ k
theorem Emb.set_same(μ:Emb)(b:Nat)(l:Loc):μ.set b l b=some l:=by simp[Emb.set]
theorem Emb.set_ext{μ:Emb}{b:Nat}(l:Loc)(h:μ b=none): ∀k x,μ k=some x->μ.set b l k=some x:=by
 intro k x E;have:k≠b:=fun e=>by subst e;rw[h]at E;cases E
 simp[Emb.set,this,E]
theorem Emb.set_inv{μ:Emb}{b:Nat}{l:Loc}{k:Nat}{x:Loc}(h:μ.set b l k=some x):(k=b/\x=l)\/(k≠b/\μ k=some x):=by
 unfold Emb.set at h;split at h
 ·rename_i e;injection h with h;exact .inl ⟨e,h.symm⟩
 rename_i e;exact .inr ⟨e,h⟩
theorem i4(w:World)(o:Obj){c:Nat}(h:c<w.heap.size):(w.alloc o).heap[c]?=w.heap[c]?:=by simp only[World.alloc,Array.getElem?_push];rw[if_neg (by omega)]
theorem lZ(w:World)(o:Obj):(w.alloc o).heap[w.heap.size]?=some o:=by show(w.heap.push o)[w.heap.size]?=some o;simp
theorem Post.push{μ:Emb}{H:Heap}{w:World}(h:WRel μ H w)(hf:μ H.next=none)(l:Loc)(hl:l.c=w.heap.size)(o:AObj)(co:Obj)
  (ho:ObjRel (μ.set H.next l) (w.alloc co) l o):Post μ H w (μ.set H.next l) (H.push o) (w.alloc co):=by
 have hm:=Emb.set_ext l hf
 refine⟨hm,fun b x hb=>?_,by simp,rfl,rfl,rfl,fun c hc _=>i4 w co hc,fun b x o' hb E hr=>?_,⟨fun b x o' hb E=>?_,fun b1 b2 l1 l2 o1 o2 O a6 a7 T U bb a1=>?_⟩⟩
 ·rcases Emb.set_inv hb with⟨rfl,rfl⟩|⟨_,hb⟩
  ·exact .inr ⟨a06 _,by simp⟩
  exact .inl hb
 ·rcases Emb.set_inv hb with⟨rfl,rfl⟩|⟨O,hb⟩
  ·exact .inl (by omega)
  rw[Heap.get_push_ne H o (Ne.symm O)]at E;exact .inr ⟨b,x,o',hb,E,hr,id,rfl⟩
 ·rcases Emb.set_inv hb with⟨rfl,rfl⟩|⟨O,hb⟩
  ·rw[Heap.get_push_same]at E;injection E with E;subst E;exact ho
  rw[Heap.get_push_ne H o (Ne.symm O)]at E;have hr:=h.obj b x o' hb E;exact hr.keep hm (by simp) (fun a8=>i4 w co (hr.lt a8))
 rcases Emb.set_inv a6 with⟨e1,f1⟩|⟨al,Y⟩<;>rcases Emb.set_inv a7 with⟨e2,f2⟩|⟨an,Z⟩
 ·exact absurd (e1.trans e2.symm) O
 ·rw[Heap.get_push_ne H o (Ne.symm an)]at U;have:=(h.obj b2 l2 o2 Z U).lt a1;subst f1;omega
 ·rw[Heap.get_push_ne H o (Ne.symm al)]at T;have:=(h.obj b1 l1 o1 Y T).lt (by cases o1<;>simp_all[AObj.rw,AObj.live]);subst f2;omega
 rw[Heap.get_push_ne H o (Ne.symm al)]at T
 rw[Heap.get_push_ne H o (Ne.symm an)]at U
 exact h.inj b1 b2 l1 l2 o1 o2 O Y Z T U bb a1
def bl(w:World)(c:Nat)(o:Obj):World:={w with heap:=w.heap.setIfInBounds c o}
theorem du(w:World){c k:Nat}(o:Obj)(h:c≠k):(bl w c o).heap[k]?=w.heap[k]?:=by simp[bl,a1k h]
theorem cM(w:World){c:Nat}(o:Obj)(h:c<w.heap.size):(bl w c o).heap[c]?=some o:=by simp[bl,h]
@[simp] theorem setObjAt_size(w:World)(c:Nat)(o:Obj):(bl w c o).heap.size=w.heap.size:=by simp[bl]
theorem Post.put{μ:Emb}{H:Heap}{w:World}(h:WRel μ H w){b:Nat}{l:Loc}{o:AObj}(hb:μ b=some l)(Z:H.get b=some o)(U:o.rw=true)
  (T:AObj) (cL:T.rw=true) (Y:Obj) (hn:ObjRel μ (bl w l.c Y) l T):Post μ H w μ (H.put b T) (bl w l.c Y):=by
 refine⟨fun _ _ h=>h,fun _ _ h=> .inl h,by simp,rfl,rfl,rfl,fun c hc a1=>du w Y (a1 b l o hb Z U),fun k x ox O E b0=>?_,⟨fun k x ox O E=>?_,fun b1 b2 l1 l2 o1 o2 a6 an ar a7 a8 a9 bb=>?_⟩⟩
 ·by_cases e:b=k
  ·subst e;rw[hb]at O;injection O with O;subst O;exact .inr ⟨b,l,o,hb,Z,gM U,fun _=>U,rfl⟩
  rw[Heap.get_put_ne H T e]at E;exact .inr ⟨k,x,ox,O,E,b0,id,rfl⟩
 ·by_cases e:b=k
  ·subst e;rw[hb]at O;injection O with O;subst O;rw[Heap.get_put_same]at E;injection E with E;subst E;exact hn
  rw[Heap.get_put_ne H T e]at E;have hx:=h.obj k x ox O E;exact hx.keep (fun _ _ h=>h) (by simp) (fun a5=>du w Y (h.inj b k l x o ox e hb O Z E U a5))
 have old: ∀k ok lk,μ k=some lk->(H.put b T).get k=some ok->∃oo,H.get k=some oo/\(ok.rw=true->oo.rw=true)/\(ok.live=true->oo.live=true):=by
  intro k ok lk O ax;by_cases e:b=k
  ·subst e;exact⟨o,Z,fun _=>U,fun _=>by cases o<;>simp_all[AObj.rw,AObj.live]⟩
  rw[Heap.get_put_ne H T e]at ax;exact⟨ok,ax,id,id⟩
 obtain⟨p1,q1,r1,_⟩:=old b1 o1 l1 an a7
 obtain⟨p2,q2,_,r2⟩:=old b2 o2 l2 ar a8
 exact h.inj b1 b2 l1 l2 p1 p2 a6 an ar q1 q2 (r1 a9) (r2 bb)
theorem Post.take{μ:Emb}{H:Heap}{w:World}(h:WRel μ H w){b:Nat}{l:Loc}{o:AObj}(hb:μ b=some l)(ho:H.get b=some o)(hr:o.rw=true)
  (hf:μ H.next=none) (l':Loc) (hl:l'.c=l.c) (Z:AObj) (co:Obj) (hn:ObjRel (μ.set H.next l') (bl w l.c co) l' Z):
  Post μ H w (μ.set H.next l') ((H.put b .dead).push Z) (bl w l.c co):=by
 have hm:=Emb.set_ext l' hf
 have df:b≠H.next:=fun e=>by subst e;rw[hf]at hb;cases hb
 have get: ∀k,k≠H.next->((H.put b .dead).push Z).get k=(H.put b .dead).get k:=fun k O=>Heap.get_push_ne (H.put b .dead) Z (Ne.symm O)
 have b8:((H.put b .dead).push Z).get H.next=some Z:=Heap.get_push_same (H.put b .dead) Z
 refine⟨hm,fun k x O=>?_,by simp,rfl,rfl,rfl,fun c hc ch=>du w co (ch b l o hb ho hr),fun k x ox O E b5=>?_,⟨fun k x ox O E=>?_,fun b1 b2 l1 l2 o1 o2 Y ci cl b3 b4 al an=>?_⟩⟩
 ·rcases Emb.set_inv O with⟨rfl,rfl⟩|⟨_,O⟩
  ·exact .inr ⟨a06 _,by simp⟩
  exact .inl O
 ·rcases Emb.set_inv O with⟨rfl,rfl⟩|⟨Y,O⟩
  ·exact .inr ⟨b,l,o,hb,ho,gM hr,fun _=>hr,hl.symm⟩
  rw[get k Y]at E;by_cases e:b=k
  ·subst e;rw[Heap.get_put_same]at E;injection E with E;subst E;simp[AObj.live]at b5
  rw[Heap.get_put_ne H _ e]at E;exact .inr ⟨k,x,ox,O,E,b5,id,rfl⟩
 ·rcases Emb.set_inv O with⟨rfl,rfl⟩|⟨Y,O⟩
  ·rw[b8]at E;injection E with E;subst E;exact hn
  rw[get k Y]at E;by_cases e:b=k
  ·subst e;rw[Heap.get_put_same]at E;injection E with E;subst E;trivial
  rw[Heap.get_put_ne H _ e]at E;have hx:=h.obj k x ox O E;exact hx.keep hm (by simp) (fun a2=>du w co (h.inj b k l x o ox e hb O ho E hr a2))
 have old: ∀k ok,k≠H.next->ok.live=true->((H.put b .dead).push Z).get k=some ok->k≠b/\H.get k=some ok:=by
  intro k ok O a2 U;rw[get k O]at U;by_cases e:b=k
  ·subst e;rw[Heap.get_put_same]at U;injection U with U;subst U;simp[AObj.live]at a2
  rw[Heap.get_put_ne H _ e]at U;exact⟨Ne.symm e,U⟩
 have T: ∀{x:AObj},x.rw=true->x.live=true:=by intro x hx;cases x<;>simp_all[AObj.rw,AObj.live]
 rcases Emb.set_inv ci with⟨e1,f1⟩|⟨a3,ax⟩<;>rcases Emb.set_inv cl with⟨e2,f2⟩|⟨a4,a1⟩
 ·exact absurd (e1.trans e2.symm) Y
 ·obtain⟨n2,g2⟩:=old b2 o2 a4 an b4;rw[f1,hl];exact h.inj b b2 l l2 o o2 (Ne.symm n2) hb a1 ho g2 hr an
 ·obtain⟨n1,g1⟩:=old b1 o1 a3 (T al) b3;rw[f2,hl];exact fun e=>h.inj b b1 l l1 o o1 (Ne.symm n1) hb ax ho g1 hr (T al) e.symm
 obtain⟨_,g1⟩:=old b1 o1 a3 (T al) b3
 obtain⟨_,g2⟩:=old b2 o2 a4 an b4
 exact h.inj b1 b2 l1 l2 o1 o2 Y ax a1 g1 g2 al an
end Go.R
set_option linter.unusedVariables false
namespace Go.R
section pure_
variable {α β:Type} (P:Program)
theorem cG{s:Sem α}{a:α}(h:aA P s=some a)(w:World):s.run P w= .ok a w:=by
 induction s with
 |pure x=>simp only[aA,a02]at h;subst h;rfl
 |program k ih=>simp only[aA]at h;simp only[Sem.run];exact ih _ h
 |mark m k ih=>simp only[aA]at h;simp only[Sem.run];exact ih h
 |_=>simp[aA]at h
@[simp] theorem aM(x:Sem α)(f:α->Sem β):aA P (x>>=f)=(aA P x).bind fun a=>aA P (f a):=by
 show aA P (x.bind f)=_;induction x with
 |program k ih=>simp only[Sem.bind,aA];exact ih _
 |mark m k ih=>simp only[Sem.bind,aA];exact ih
 |pure a=>rfl
 |_=>rfl
@[simp] theorem bG(a:α):aA P (Pure.pure a:Sem α)=some a:=rfl
@[simp] theorem eu:aA P program=some P:=rfl
@[simp] theorem pureRun_stuck(h:String):aA P (stuck h:Sem α)=none:=rfl
@[simp] theorem pureRun_unsupported(u:Unsupported):aA P (unsupported u:Sem α)=none:=rfl
@[simp] theorem pureRun_goPanic(v:Value):aA P (goPanic v:Sem α)=none:=rfl
@[simp] theorem pureRun_choose(q:Question):aA P (choose q)=none:=rfl
@[simp] theorem pureRun_mark(m:Mark):aA P (mark m)=some ():=rfl
theorem pureRun_ite(c:Prop) [Decidable c](x y:Sem α):aA P (if c then x else y)=if c then aA P x else aA P y:=by split<;>rfl
@[simp] theorem bC(t:TypeId):aA P (underlying t)=P.underlying t:=by unfold underlying;simp only[aM,eu,a0n];cases P.underlying t<;>rfl
@[simp] theorem dX(t:TypeId):aA P (typeInfo t)=P.info? t:=by unfold typeInfo;simp only[aM,eu,a0n];cases P.info? t<;>rfl
@[simp] theorem cT(t:TypeId):aA P (sizeOf t)=dJ P t:=by unfold sizeOf dJ;simp only[aM,dX];cases P.info? t<;>rfl
@[simp] theorem fv(t:TypeId):aA P (isAgg t)=fe P t:=by
 unfold isAgg fe;simp only[aM,bC];cases P.underlying t with
 |none=>rfl
 |some d=>cases d<;>rfl
theorem gF(e:RuntimeError):aA P (runtimePanic e:Sem α)=none:=by unfold runtimePanic;cases e<;>simp[newVar,newRow,newObj,aA,elemOf]<;>(intros;split<;>simp[aA])
theorem gR(k:IntKind)(x y:Int)(c:BoundsCode):aA P (boundsPanic k x y c:Sem α)=none:=by unfold boundsPanic;simp[gF,pureRun_ite]
end pure_
section runs
variable {P:Program} (w:World)
theorem bj{t:TypeId}{n:Nat}(h:dJ P t=some n):(sizeOf t).run P w= .ok n w:=cG P (by rw[cT];exact h) w
theorem kT{t:TypeId}{b:Bool}(h:fe P t=some b):(isAgg t).run P w= .ok b w:=cG P (by rw[fv];exact h) w
theorem ft{t:TypeId}{i:TypeInfo}(h:P.info? t=some i):(typeInfo t).run P w= .ok i w:=cG P (by rw[dX];exact h) w
theorem ao{t:TypeId}{d:TypeDesc}(h:P.underlying t=some d):(underlying t).run P w= .ok d w:=cG P (by rw[bC];exact h) w
theorem fg{t:TypeId}{z:List Value}(h:ec P t=some z): ∃i v,P.info? t=some i/\i.zero=some v/\v.cells.toList=z/\z.all de=true:=by
 unfold ec at h;split at h
 ·rename_i i hi;split at h
  ·rename_i v E;cases hc:v.cells.toList.all de with
   |false=>rw[hc]at h;cases h
   |true=>rw[hc]at h;simp at h;subst h;exact⟨i,v,hi,E,rfl,hc⟩
  cases h
 cases h
theorem fq{t:TypeId}{i:TypeInfo}{v:Value}(hi:P.info? t=some i)(h:i.zero=some v):(zeroValue t).run P w= .ok v w:=by unfold zeroValue;simp[ft w hi,h]
end runs
section mem
variable {P:Program} {μ:Emb} {H:Heap} {w:World}
theorem ja(h:WRel μ H w){b o:Nat}{l:Loc}{v:Value}(hb:μ b=some l)(E:H.cellAt ⟨b,o,none⟩=some v):
  ∃v',w.cell? ⟨l.c,l.sh+o,none⟩=some v'/\VRel μ v v':=by
 simp only[Heap.cellAt,ib]at E
 split at E
 ·rename_i cs ax ro Z;have T:=h.obj b l _ hb Z;cases ro with
  |true=>exact T.2.2.2 o v E
  |false=>
   obtain⟨_,ar,e,hh,_,_,Y⟩:=T
   obtain⟨v',U,O⟩:=Y o v E
   exact⟨v',by simp only[World.cell?,hh];simpa using U,O⟩
 cases E
theorem cW(c o j:Nat):Addr.add ⟨c,o,none⟩ j=⟨c,o+j,none⟩:=by
 unfold Addr.add;split
 ·subst_vars;rfl
 rfl
theorem gW(h:WRel μ H w){b o n:Nat}{l:Loc}{vs:List Value}(hb:μ b=some l)(E:H.loadN ⟨b,o,none⟩ n=some vs):
  ∃ar,(loadCells ⟨l.c,l.sh+o,none⟩ n).run P w= .ok ⟨ar⟩ w/\LRel μ vs ar/\vs.length=n:=by
 simp only[Heap.loadN,bX,cr,bK]at E
 split at E
 ·rename_i cs a5 ro hg;cases hq:Nat.beq ((cs.drop o).take n).length n with
  |false=>rw[hq]at E;cases E
  |true=>
   rw[hq]at E;simp only[cond_true,a02]at E
   have T:((cs.drop o).take n).length=n:=a07 hq
   have key: ∀j,j<n->∃v v',cs[o+j]?=some v/\w.cell? ⟨l.c,l.sh+o+j,none⟩=some v'/\VRel μ v v':=by
    intro j Z;have an:o+j<cs.length:=by rw[a0I,a0P]at T;omega
    have ax:H.cellAt ⟨b,o+j,none⟩=some cs[o+j]:=by simp only[Heap.cellAt,hg,ib];exact a09 an
    obtain⟨v',hc,hr⟩:=ja h hb ax;exact⟨_,v',a09 an,by rw[←hc,a0E],hr⟩
   have Y: ∃f:Nat->Value,∀j,j<n->w.cell? (Addr.add ⟨l.c,l.sh+o,none⟩ j)=some (f j)/\∀v,cs[o+j]?=some v->VRel μ v (f j):=by refine⟨fun j=>(w.cell? ⟨l.c,l.sh+o+j,none⟩).getD undef,fun j Z=>?_⟩;obtain⟨v,v',O,U,h3⟩:=key j Z;simp only[cW,U,a1s];refine⟨trivial,fun u hu=>?_⟩;rw[O]at hu;injection hu with hu;subst hu;exact h3
   obtain⟨f,Y⟩:=Y
   refine⟨(List.range n).map f,run_loadCells w _ n f (fun j Z=>(Y j Z).1),?_,by rw[←E];exact T⟩
   subst E
   refine⟨by rw[T];simp,fun i v v' O U=>?_⟩
   rw[a0v]at O
   split at O
   ·rename_i hi;rw[a0D]at O;simp[hi]at U;subst U;exact(Y i hi).2 v O
   cases O
 cases E
theorem gV(h:WRel μ H w){b o:Nat}{l:Loc}{t:TypeId}{v:Value}(hb:μ b=some l)(E:H.loadV P t ⟨b,o,none⟩=some v):
  ∃v',(loadVar t ⟨l.c,l.sh+o,none⟩).run P w= .ok v' w/\VRel μ v v':=by
 unfold Heap.loadV at E
 split at E
 ·rename_i T;split at E
  ·rename_i n hn;split at E
   ·rename_i vs Z;injection E with E;subst E;obtain⟨Y,U,O,_⟩:=gW (P:=P) h hb Z;refine⟨.agg ⟨Y⟩,?_,.agg _ _ O.1 O.2⟩;simp[loadVar,kT w T,bj w hn,U]
   cases E
  cases E
 ·rename_i T;obtain⟨v',hc,hr⟩:=ja h hb E;refine⟨v',?_,hr⟩;simp[loadVar,kT w T,hc]
 cases E
theorem j1{α:Type}(l:List α)(k:Nat):(Array.mk l)[k]?=l[k]?:=by simp
theorem jW: ∀(cs vs:List Value),vs.length<=cs.length->(over cs vs).length=cs.length
 | [],[],_=>rfl
 | [],_::_,h=>by simp at h
 |_::_,[],_=>rfl
 |c::cs,v::vs,h=>by simp only[over,a01];rw[jW cs vs (by simpa using h)]
theorem over_get: ∀(cs vs:List Value) (i:Nat),vs.length<=cs.length->(over cs vs)[i]?=if i<vs.length then vs[i]? else cs[i]?
 | [],[],i,_=>by simp[over]
 | [],_::_,_,h=>by simp at h
 |_::_,[],i,_=>by simp[over]
 |c::cs,v::vs,0,_=>by simp[over]
 |c::cs,v::vs,i+1,h=>by simp[over,over_get cs vs i (by simpa using h)]
theorem cm: ∀(cs:List Value) (o:Nat) (vs:List Value),o+vs.length<=cs.length->(bB cs o vs).length=cs.length
 |cs,0,vs,h=>by cases cs<;>exact jW _ _ (by omega)
 | [],o+1,vs,h=>by simp[bB]
 |c::cs,o+1,vs,h=>by simp only[bB,a01];rw[cm cs o vs (by simp at h;omega)]
theorem bA: ∀(cs:List Value) (o:Nat) (vs:List Value) (i:Nat),o+vs.length<=cs.length->
  (bB cs o vs)[i]?=if o<=i/\i<o+vs.length then vs[i-o]? else cs[i]?
 |cs,0,vs,i,h=>by
  have:bB cs 0 vs=over cs vs:=by cases cs<;>rfl
  rw[this,over_get cs vs i (by omega)];simp
 | [],o+1,vs,i,h=>by simp at h
 |c::cs,o+1,vs,0,h=>by simp[bB]
 |c::cs,o+1,vs,i+1,h=>by
  simp only[bB,a1x];rw[bA cs o vs i (by simp at h;omega)];by_cases hc:o<=i/\i<o+vs.length
  ·rw[if_pos hc,if_pos (by omega)];congr 1;omega
  rw[if_neg hc,if_neg (by omega)]
theorem dv(c:Nat)(e:TypeId): ∀(vs:List Value) (w:World) (h:Array Value) (o i:Nat),w.heap[c]?=some (.cells h e (0,0))->
  o+i+vs.length<=h.size->vs.all Value.oneCell'=true->vs≠ []->
  (storeCells ⟨c,o,none⟩ vs i).run P w= .ok () (bl w c (.cells ⟨bB h.toList (o+i) vs⟩ e (0,0)))
 | [],_,_,_,_,_,_,_,hne=>absurd rfl hne
 |v::vs,w,h,o,i,hh,hl,hall,_=>by
  simp only[a0R,a04]at hall;simp only[a01]at hl;have O:w.cell? ⟨c,o+i,none⟩=some (h[o+i]'(by omega)):=by simp[World.cell?,hh,show o+i<h.size by omega]
  have Y:w.frozen? ⟨c,o+i,none⟩=false:=by simp[World.frozen?,hh]
  have U:w.setCell ⟨c,o+i,none⟩ v=bl w c (.cells (h.setIfInBounds (o+i) v) e (0,0)):=by
   unfold World.setCell bl;congr 1;apply a1u;intro k;by_cases E:c=k
   ·subst E;rw[Array.getElem?_modify,if_pos rfl,hh,a0Y,if_pos rfl,if_pos (cO hh)];simp
   simp[Array.getElem?_modify,E,a1k E]
  have h1:(storeCells ⟨c,o,none⟩ (v::vs) i).run P w=(storeCells ⟨c,o,none⟩ vs (i+1)).run P (bl w c (.cells (h.setIfInBounds (o+i) v) e (0,0))):=by simp only[storeCells,Sem.run_bind,cW];rw[run_store P w _ v _ hall.1,O];simp[Y,U]
  rw[h1];by_cases hv:vs=[]
  ·subst hv;simp only[storeCells,Sem.run_pure];congr 3;apply a1u;intro k;simp only[a03]at hl;rw[a0Y];refine Eq.trans ?_ (j1 _ _).symm;rw[bA _ _ _ _ (by simp;omega)];by_cases E:o+i=k
   ·subst E;rw[if_pos rfl,if_pos (by omega),if_pos (by simp)];simp
   rw[if_neg E,if_neg (by simp;omega)];simp
  have Z:(bl w c (.cells (h.setIfInBounds (o+i) v) e (0,0))).heap[c]?=some (.cells (h.setIfInBounds (o+i) v) e (0,0)):=cM w _ (cO hh);rw[dv c e vs _ _ o (i+1) Z (by simp;omega) hall.2 hv];congr 1;have: ∀(x y:Obj),bl (bl w c x) c y=bl w c y:=by intro x y;simp[bl]
  rw[this];congr 2;apply a1u;intro k;refine(j1 _ _).trans (Eq.trans ?_ (j1 _ _).symm);rw[bA _ _ _ _ (by simp;omega),bA _ _ _ _ (by simp;omega)];by_cases E:o+i=k
  ·subst E;rw[if_neg (by omega),if_pos (by simp)];simp[show o+i<h.size by omega]
  by_cases T:o+(i+1)<=k/\k<o+(i+1)+vs.length
  ·rw[if_pos T,if_pos (by simp;omega)];rw[show k-(o+i)=(k-(o+(i+1)))+1 by omega,a1x]
  rw[if_neg T,if_neg (by simp;omega)];simp[E]
theorem iS(h:WRel μ H w){b o:Nat}{l:Loc}{vs E:List Value}{H':Heap}(hb:μ b=some l)(hs:H.storeL ⟨b,o,none⟩ vs=some H')(T:LRel μ vs E):
  ∃w',(storeCells ⟨l.c,l.sh+o,none⟩ E).run P w= .ok () w'/\Post μ H w μ H' w':=by
 simp only[Heap.storeL,bK,mq,Nat.add_eq]at hs
 split at hs
 ·rename_i cs b2 hg;cases hq:(Nat.ble (o+vs.length) cs.length&&vs.all Value.oneCell') with
  |false=>rw[hq]at hs;cases hs
  |true=>
   rw[hq]at hs;simp only[cond_true,a02]at hs
   simp only[a04]at hq
   have Y:o+vs.length<=cs.length:=a0d hq.1
   obtain⟨r1,O,e,U,r2,r3,r4⟩:=h.obj b l _ hb hg
   have Z:=T.1
   have a4:E.all Value.oneCell'=true:=by
    rw[a0l];intro x hx;obtain⟨i,hi⟩:=List.getElem?_of_mem hx;have a1:i<vs.length:=by rw[Z];exact(a0q.1 hi).1
    have hr:=T.2 i vs[i] x (a09 a1) hi;rw[hr.oneCell];exact a0l.1 hq.2 _ (a0J a1)
   by_cases a2:E=[]
   ·subst a2;have hv:vs=[]:=by simpa using Z
    subst hv;have a3:bB cs o []=cs:=by apply a1A;intro k;rw[bA _ _ _ _ (by simpa using Y),if_neg (by simp)]
    subst hs;refine⟨bl w l.c (.cells O e (0,0)),?_,?_⟩
    ·have:bl w l.c (.cells O e (0,0))=w:=by
      unfold bl;congr 1;apply a1u;intro k;by_cases hk:l.c=k
      ·subst hk;rw[a0Y,if_pos rfl,if_pos (cO U),U]
      rw[a1k hk]
     rw[this];rfl
    refine Post.put h hb hg rfl _ rfl _ ⟨r1,O,e,cM w _ (cO U),r2,by rw[a3];exact r3,fun i v hi=>r4 i v (by rw[a3]at hi;exact hi)⟩
   subst hs
   refine⟨_,by simpa using dv (P:=P) l.c e E w O (l.sh+o) 0 U (by omega) a4 a2,?_⟩
   refine Post.put h hb hg rfl _ rfl _ ⟨r1,_,e,cM w _ (cO U),?_,?_,?_⟩
   ·rw[←r2];show(bB O.toList (l.sh+o) E).length=_;rw[cm _ _ _ (by simp;omega)];simp
   ·rw[cm _ _ _ Y];exact r3
   intro i v hi
   rw[bA _ _ _ _ Y]at hi
   have mg: ∀v':Value,(bB O.toList (l.sh+o) E)[l.sh+i]?=some v'->(Array.mk (bB O.toList (l.sh+o+0) E))[l.sh+i]?=some v':=fun v' hv=>(j1 _ _).trans hv
   rw[bA _ _ _ _ (by simp;omega)]at mg
   by_cases hc:o<=i/\i<o+vs.length
   ·rw[if_pos hc]at hi;rw[if_pos (by omega)]at mg;obtain⟨v',ar,hr⟩:=T.get hi;exact⟨v',mg v' (by rw[←ar];congr 1;omega),hr⟩
   rw[if_neg hc]at hi
   rw[if_neg (by omega)]at mg
   obtain⟨v',ar,hr⟩:=r4 i v hi
   exact⟨v',mg v' (by simpa using ar),hr⟩
 cases hs
theorem dg(h:WRel μ H w)(Z:μ H.next=none)(e:TypeId){cs O:List Value}(U:LRel μ cs O)(E:List Value)(T:Option Nat)(an:T=none->E=[]):
  ∃l,l.c=w.heap.size/\l.sh=0/\l.opn=T/\l.csz=cs.length+E.length/\
  (newRow e ⟨O++E⟩).run P w= .ok ⟨w.heap.size,0,none⟩ (w.alloc (.cells ⟨O++E⟩ e))/\
   Post μ H w (μ.set H.next l) (aT H cs T) (w.alloc (.cells ⟨O++E⟩ e)):=by
 refine⟨⟨w.heap.size,0,T,cs.length+E.length⟩,rfl,rfl,rfl,rfl,by simp[newRow],?_⟩
 refine Post.push h Z _ rfl _ _ ⟨rfl,_,e,lZ w _,by simp[U.1],by simp,fun i v hi=>?_⟩
 obtain⟨v',Y,hr⟩:=U.get hi
 refine⟨v',?_,hr.mono (Emb.set_ext _ Z)⟩
 have:i<O.length:=(a0q.1 Y).1
 simp only[a0A,j1]
 rw[a17 this];exact Y
end mem
end Go.R
namespace Go.R
def ANRel(μ:Emb):AN->Next->Prop
 | .val v,.value v'=>VRel μ v v'
 | .skip,.skip=>True
 | .enter f args,.enter f' args'=>f=f'/\LRel μ args args'.toList
 |_,_=>False
theorem iL(bs:ByteArray): ∀(n i:Nat) (r:List UInt8),bs.size-i=n->ByteArray.toList.loop bs i r=r.reverse++bs.data.toList.drop i:=by
 intro n;induction n with
 |zero=>
  intro i r h
  rw[ByteArray.toList.loop,if_neg (by omega),a12 (by simp only[a1M,ByteArray.size_data];omega),a0m]
 |succ n ih=>
  intro i r h
  have hi:i<bs.size:=by omega
  rw[ByteArray.toList.loop,if_pos hi,ih (i+1) _ (by omega)]
  have E:i<bs.data.toList.length:=by simpa using hi
  rw[a0F E]
  simp[ByteArray.get!,hi]
theorem dh(bs:ByteArray):bs.toList=bs.data.toList:=by unfold ByteArray.toList;rw[iL bs _ 0 [] rfl];simp
section
variable {P:Program} {μ:Emb}
theorem dw{ρ ρ':Operand->Value}{o:Oper}{H H':Heap}{r:AN}(h:bp P ρ o H=some (r,H'))(hs: ∀cs b,o.op≠ .select cs b)
  (Z: ∀x∈o.op.operands,VRel μ (ρ x) (ρ' x)):H'=H/\∃v v',r= .val v/\(∀w,(execOp ρ' o).run P w= .ok (.value v') w)/\VRel μ v v':=by
 unfold bp at h
 cases O:o.op.operands.toList.all fun x=>iX (ρ x) with
 |false=>rw[O]at h;cases h
 |true=>
  rw[O]at h
  have U:execOp ρ' o=execOp ρ o:=execOp_congr o hs fun x T=>(Z x T).eq1 (a0l.1 O x (by simpa using T))
  simp only[cond_true]at h
  split at h
  ·rename_i v Y;cases E:noA2 v with
   |false=>rw[E]at h;cases h
   |true=>
    rw[E]at h;simp only[cond_true,a02,a05]at h
    obtain⟨rfl,rfl⟩:=h
    exact⟨rfl,v,v,rfl,fun w=>by rw[U];exact cG P Y w,VRel.refl2 E⟩
  cases h
theorem j4{s:Sem Value}{H H':Heap}{r:AN}(h:lift P s H=some (r,H')):H'=H/\∃v,r= .val v/\aA P s=some v:=by
 unfold lift at h;split at h
 ·rename_i v E;simp only[a02,a05]at h;exact⟨h.2.symm,v,h.1.symm,E⟩
 cases h
theorem intBin_sound{op:BinOp}{k:IntKind}{a b:Int}{v:Value}(h:lb op k a b=some v)(t:TypeId)(w:World):
  (binOp op t (.int k a) (.int k b)).run P w= .ok v w/\de v=true:=by
 cases op<;>simp only[lb,a02,reduceCtorEq]at h
 case quo=>
  cases hb:(b==0) with
  |true=>rw[hb]at h;cases h
  |false=>
   rw[hb]at h;simp only[cond_false,a02]at h;subst h
   have E: ¬b=0:=by simpa using hb
   simp[binOp_quo,Op.intDiv,E,de]
 case rem=>
  cases hb:(b==0) with
  |true=>rw[hb]at h;cases h
  |false=>
   rw[hb]at h;simp only[cond_false,a02]at h;subst h
   have E: ¬b=0:=by simpa using hb
   simp[binOp_rem,Op.intDiv,E,de]
 all_goals subst h
 case add=>simp[binOp_add,Op.intArith,de]
 case sub=>simp[binOp_sub,Op.intArith,de]
 case mul=>simp[binOp_mul,Op.intArith,de]
 case and=>simp[binOp_and,intBits_and,de,di]
 case or=>simp[binOp_or,intBits_or,de,di]
 case xor=>simp[binOp_xor,intBits_xor,de,di]
 case andNot=>simp[binOp_andNot,intBits_andNot,de,di]
 case eql=>simp[binOp_eql,de]
 case neq=>simp[binOp_neq,de]
 case lss=>simp[binOp_lss,de]
 case leq=>simp[binOp_leq,de]
 case gtr=>simp[binOp_gtr,de]
 case geq=>simp[binOp_geq,de]
theorem shBin_sound{op:BinOp}{k O:IntKind}{a b:Int}{v:Value}(h:shBin op k a b=some v)(t:TypeId)(w:World):
  (binOp op t (.int k a) (.int O b)).run P w= .ok v w/\de v=true:=by
 cases op<;>simp only[shBin,reduceCtorEq]at h
 all_goals
  cases b with
  |negSucc n=>simp[shiftN]at h
  |ofNat n=>
   simp only[shiftN,a02]at h;subst h
   have E: ¬((n:Int)<0):=by omega
   simp[binOp_shl,binOp_shr,Op.shift,E,de,Nat.min_def]
theorem jK{op:BinOp}{t:TypeId}{a b:ByteArray}{v:Value}(h:strOp op a b=some v)(w:World):
  (binOp op t (.string a) (.string b)).run P w= .ok v w/\de v=true:=by
 have hb:binOp op t (.string a) (.string b)=Op.stringOp op a b:=by cases op<;>rfl
 rw[hb]
 unfold strOp at h
 split at h
 ·injection h with h;subst h;simp[Op.stringOp,dh,fF,de]
 ·injection h with h;subst h;simp[Op.stringOp,dh,fF,de]
 ·injection h with h;subst h;simp[Op.stringOp,dh,de]
 ·injection h with h;subst h;simp[Op.stringOp,dh,fF,de]
 ·injection h with h;subst h;simp[Op.stringOp,dh,fF,de]
 ·injection h with h;subst h;simp[Op.stringOp,dh,de]
 ·simp only[dG,bK]at h;cases E:Nat.ble (a.data.toList++b.data.toList).length 1099511627776 with
  |false=>rw[E]at h;cases h
  |true=>
   rw[E]at h;simp only[cond_true,a02]at h;subst h
   have O:=a0d E
   simp only[a00,a1M,ByteArray.size_data]at O
   refine⟨?_,rfl⟩
   have T: ¬(((a.size+b.size:Nat):Int)>IntKind.i64.max):=by rw[IntKind.max_i64];omega
   simp only[Op.stringOp,if_neg T,Sem.run_pure]
   congr 2
 cases h
theorem kZ{a:Option Addr}{v':Value}(h:VRel μ (.pointer a) v'): ∃E,v'= .pointer E/\E.isNone=a.isNone:=by
 cases h with
 |atom _ h0=>exact⟨a,rfl,rfl⟩
 |ptr b o l hb=>exact⟨_,rfl,rfl⟩
theorem eK{a:Option Addr}{n k:Nat}{v':Value}(h:VRel μ (.slice a n k) v'): ∃E O,v'= .slice E n O/\E.isNone=a.isNone:=by
 cases h with
 |atom _ h0=>exact⟨a,k,rfl,rfl⟩
 |sliceC b o n k l hb ho=>exact⟨_,_,rfl,rfl⟩
 |sliceO b o o' n k O e l hb ho h1 h2 h3 h4=>exact⟨_,_,rfl,rfl⟩
 |sliceZ b o a l hb=>exact⟨_,_,rfl,rfl⟩
theorem la{a:Option Nat}{v':Value}(h:VRel μ (.map a) v'): ∃E,v'= .map E/\E.isNone=a.isNone:=by
 cases h with
 |atom _ h0=>exact⟨a,rfl,rfl⟩
 |map b l hb=>exact⟨_,rfl,rfl⟩
theorem el{t:TypeId}{x y:Value}{w:World}{b:Bool}(h: ∀d,(Op.equalIn (d+1) t x y).run P w= .ok b w):(Op.equal t x y).run P w= .ok b w:=h 9999
theorem jY{t:TypeId}{x y Y Z:Value}{b:Bool}(h:nilEq P t x y=some b)(T:VRel μ x Y)(U:VRel μ y Z)(w:World):
  (Op.equal t Y Z).run P w= .ok b w/\(∀op u v,eqGuard op t u v Y Z=pure ())/\(∀op,op= .eql\/op= .neq->binOp op t Y Z=(match op with
   | .eql=>do pure (.bool (←Op.equal t Y Z))
   |_=>do pure (.bool (!(←Op.equal t Y Z))))):=by
 unfold nilEq at h
 split at h
 ·rename_i e b0 O;obtain rfl:=T.eq0 rfl;obtain⟨b',rfl,hb⟩:=kZ U;injection h with h;subst h;refine⟨?_,fun op u v=>by cases op<;>rfl,fun op E=>by rcases E with rfl|rfl<;>rfl⟩;exact el fun d=>by simp[Op.equalIn,ao w O,hb]
 ·rename_i e a0 O;obtain rfl:=U.eq0 rfl;obtain⟨a',rfl,ha⟩:=kZ T;injection h with h;subst h;refine⟨?_,fun op u v=>by cases op<;>rfl,fun op E=>by rcases E with rfl|rfl<;>rfl⟩;exact el fun d=>by cases a'<;>simp[Op.equalIn,ao w O,←ha]
 ·rename_i e n k b0 n2 k2 O;obtain⟨rfl,rfl,rfl⟩:=T.sliceNil_inv;obtain⟨b',k',rfl,hb⟩:=eK U;injection h with h;subst h;refine⟨?_,fun op u v=>by cases op<;>rfl,fun op E=>by rcases E with rfl|rfl<;>rfl⟩;exact el fun d=>by simp[Op.equalIn,ao w O,hb]
 ·rename_i e a0 n k n2 k2 O;obtain⟨rfl,rfl,rfl⟩:=U.sliceNil_inv;obtain⟨a',k',rfl,ha⟩:=eK T;injection h with h;subst h;refine⟨?_,fun op u v=>by cases op<;>rfl,fun op E=>by rcases E with rfl|rfl<;>rfl⟩;exact el fun d=>by cases a'<;>simp[Op.equalIn,ao w O,←ha]
 ·rename_i e1 e2 b0 O;obtain rfl:=T.eq0 rfl;obtain⟨b',rfl,hb⟩:=la U;injection h with h;subst h;refine⟨?_,fun op u v=>by cases op<;>rfl,fun op E=>by rcases E with rfl|rfl<;>rfl⟩;exact el fun d=>by simp[Op.equalIn,ao w O,hb]
 ·rename_i e1 e2 a0 O;obtain rfl:=U.eq0 rfl;obtain⟨a',rfl,ha⟩:=la T;injection h with h;subst h;refine⟨?_,fun op u v=>by cases op<;>rfl,fun op E=>by rcases E with rfl|rfl<;>rfl⟩;exact el fun d=>by cases a'<;>simp[Op.equalIn,ao w O,←ha]
 ·rename_i ps rs va O;obtain rfl:=T.eq0 rfl;obtain rfl:=U.eq0 rfl;injection h with h;subst h;refine⟨?_,fun op u v=>by cases op<;>rfl,fun op E=>by rcases E with rfl|rfl<;>rfl⟩;exact el fun d=>by simp[Op.equalIn,ao w O]
 ·rename_i ps rs va fn xs ys O;obtain rfl:=T.eq0 rfl;obtain⟨a1,a2,rfl,_,_⟩:=U.func_inv;injection h with h;subst h;refine⟨?_,fun op u v=>by cases op<;>rfl,fun op E=>by rcases E with rfl|rfl<;>rfl⟩;exact el fun d=>by simp[Op.equalIn,ao w O]
 ·rename_i ps rs va fn xs ys O;obtain rfl:=U.eq0 rfl;obtain⟨a1,a2,rfl,_,_⟩:=T.func_inv;injection h with h;subst h;refine⟨?_,fun op u v=>by cases op<;>rfl,fun op E=>by rcases E with rfl|rfl<;>rfl⟩;exact el fun d=>by simp[Op.equalIn,ao w O]
 cases h
theorem part_rel{t:TypeId}{cs E:Array Value}{off:Nat}{v:Value}(U:LRel μ cs.toList E.toList)(h:aA P (part t cs off)=some v):
  ∃v',aA P (part t E off)=some v'/\VRel μ v v':=by
 unfold part at h⊢
 simp only[aM,fv]at h⊢
 cases T:fe P t with
 |none=>rw[T]at h;simp at h
 |some g=>
  rw[T]at h
  cases g with
  |true=>
   simp only[a0n,if_true,aM,cT]at h⊢
   cases hs:dJ P t with
   |none=>rw[hs]at h;simp at h
   |some n=>
    rw[hs]at h
    simp only[a0n,bG,a02]at h⊢
    subst h
    refine⟨_,rfl,?_⟩
    have:=(U.take (off+n)).drop off
    have ex: ∀c:Array Value,(c.extract off (off+n)).toList=(c.toList.take (off+n)).drop off:=fun c=>by simp[a1T]
    exact .agg _ _ (by rw[ex,ex];exact this.1) (by rw[ex,ex];exact this.2)
  |false=>
   simp only[a0n,a0i,if_false]at h⊢
   cases hc:cs[off]? with
   |none=>rw[hc]at h;simp at h
   |some u=>
    rw[hc]at h
    simp only[bG,a02]at h;subst h
    obtain⟨v',Y,O⟩:=U.get (i:=off) (v:=u) (by simpa using hc)
    refine⟨v',?_,O⟩
    have:E[off]?=some v':=by simpa using Y
    rw[this];rfl
theorem field_rel{t:TypeId}{x T:Value}{f:Nat}{v:Value}(Y:VRel μ x T)(h:aA P (Instr.field t x f)=some v):
  ∃v',aA P (Instr.field t T f)=some v'/\VRel μ v v':=by
 unfold Instr.field at h⊢
 simp only[aM,bC]at h⊢
 cases O:P.underlying t with
 |none=>rw[O]at h;simp at h
 |some d=>
  rw[O]at h
  simp only[a0n]at h⊢
  cases d with
  |struct fields=>
   simp only at h⊢
   cases E:fields[f]? with
   |none=>rw[E]at h;simp at h
   |some fd=>
    rw[E]at h
    simp only[aM]at h⊢
    cases x with
    |agg cs=>
     obtain⟨Z,rfl,U⟩:=Y.agg_inv
     simp only[asAgg,bG,a0n]at h⊢
     exact part_rel U h
    |_=>simp[asAgg]at h
  |_=>simp at h
theorem index_rel{t:TypeId}{x U i T:Value}{v:Value}(Z:VRel μ x U)(hi:VRel μ i T)(E: ∀s,x≠ .string s)(h:aA P (Instr.index t x i)=some v):
  ∃v',aA P (Instr.index t U T)=some v'/\VRel μ v v':=by
 cases i with
 |int k n=>
  obtain rfl:=hi.int_inv
  unfold Instr.index at h⊢
  simp only[asIntOf,aM,bG,a0n,bC]at h⊢
  cases O:P.underlying t with
  |none=>rw[O]at h;simp at h
  |some d=>
   rw[O]at h
   simp only[a0n]at h⊢
   cases d with
   |array len e=>
    cases x with
    |agg cs=>
     obtain⟨al,rfl,Y⟩:=Z.agg_inv
     simp only at h⊢
     by_cases hb:0<=n/\n<(len:Int)
     ·rw[if_pos hb]at h⊢;simp only[aM,cT]at h⊢;cases hs:dJ P e with
      |none=>rw[hs]at h;simp at h
      |some sz=>rw[hs]at h;simp only[a0n]at h⊢;exact part_rel Y h
     rw[if_neg hb,gR]at h;cases h
    |_=>simp at h
   |string=>
    cases x with
    |string s=>exact absurd rfl (E s)
    |_=>simp at h
   |_=>simp at h
 |pointer a=>cases a<;>simp[Instr.index,asIntOf]at h
 |_=>simp[Instr.index,asIntOf]at h
theorem ig: ∀(l l':List Value) (s off:Nat) (A T:Array Value),LRel μ l l'->LRel μ A.toList T.toList->
  LRel μ ((l.zipIdx s).foldl (fun cs p=>cs.setIfInBounds (off+p.2) p.1) A).toList ((l'.zipIdx s).foldl (fun cs p=>cs.setIfInBounds (off+p.2) p.1) T).toList
 | [],l',s,off,A,T,h,hA=>by rw[h.nil_left];exact hA
 |v::l,l',s,off,A,T,h,hA=>by
  obtain⟨v',t',rfl,Z,Y⟩:=h.cons_left;simp only[List.zipIdx_cons,List.foldl_cons];refine ig l t' (s+1) off _ _ Y ⟨by simpa using hA.1,fun i x x' E O=>?_⟩;simp only[Array.toList_setIfInBounds,List.getElem?_set]at E O;have U:=hA.1;by_cases hi:off+s=i
  ·rw[if_pos hi]at E O;split at E
   ·rename_i ar;rw[if_pos (by omega)]at O;injection E with E;injection O with O;subst E O;exact Z
   cases E
  rw[if_neg hi]at E O;exact hA.2 i x x' E O
theorem jx{E:Nat->Option (Nat×Nat)}: ∀(ps ps':List (Nat×Value)) (A A':Array Value) (r:Array Value),ps.length=ps'.length->
  (∀(i:Nat) x O,ps[i]?=some x->ps'[i]?=some O->x.1=O.1/\VRel μ x.2 O.2)->LRel μ A.toList A'.toList->Instr.fill E A ps=some r->
  ∃r',Instr.fill E A' ps'=some r'/\LRel μ r.toList r'.toList
 | [],ps',A,A',r,hl,_,hA,h=>by have:ps'=[]:=a0g hl.symm;subst this;simp only[Instr.fill,a02]at h;subst h;exact⟨A',rfl,hA⟩
 |(i,v)::ps,ps',A,A',r,hl,hp,hA,h=>by
  cases ps' with
  |nil=>simp at hl
  |cons O ps'=>
   obtain⟨i',v'⟩:=O
   obtain⟨hi,hv⟩:=hp 0 (i,v) (i',v') rfl rfl
   simp only at hi hv;subst hi
   simp only[Instr.fill]at h⊢
   cases U:E i with
   |none=>rw[U]at h;cases h
   |some os=>
    obtain⟨off,size⟩:=os
    rw[U]at h
    simp only at h⊢
    have hc:=hv.cells
    have Z:v'.cells.size=v.cells.size:=by have:=hc.1;simpa using this.symm
    have Y:A'.size=A.size:=by have:=hA.1;simpa using this.symm
    rw[Z,Y]
    split at h
    ·cases h
    rename_i T
    rw[if_neg T]
    refine jx ps ps' _ _ r (by simpa using hl) (fun j x O h1 h2=>hp (j+1) x O (by simpa using h1) (by simpa using h2)) ?_ h
    have:=ig v.cells.toList v'.cells.toList 0 off A A' hc hA
    have e: ∀(u:Value) (B:Array Value),Array.foldl (fun cs x=>cs.setIfInBounds (off+x.snd) x.fst) B u.cells.zipIdx=List.foldl (fun cs p=>cs.setIfInBounds (off+p.snd) p.fst) B u.cells.toList.zipIdx:=fun u B=>by rw[←Array.foldl_toList,Array.toList_zipIdx]
    exact(e v A▸e v' A'▸this:LRel μ (Array.foldl (fun cs x=>cs.setIfInBounds (off+x.snd) x.fst) A v.cells.zipIdx).toList (Array.foldl (fun cs x=>cs.setIfInBounds (off+x.snd) x.fst) A' v'.cells.zipIdx).toList)
end
end Go.R
namespace Go.R
section
variable {P:Program} {μ:Emb}
theorem build_rel{t:TypeId}{ps ps':Array (Nat×Value)}{v:Value}(Z:ps.toList.length=ps'.toList.length)
  (hp: ∀(i:Nat) x x',ps.toList[i]?=some x->ps'.toList[i]?=some x'->x.1=x'.1/\VRel μ x.2 x'.2)
  (hz:(ec P t).isSome=true) (h:aA P (Instr.build t ps)=some v):
  ∃v',aA P (Instr.build t ps')=some v'/\VRel μ v v':=by
 unfold Instr.build at h⊢
 have a1:aA P (zeroValue t)=(P.info? t).bind (·.zero):=by
  unfold zeroValue;simp only[aM,dX];cases hi:P.info? t with
  |none=>rfl
  |some i=>simp only[a0n];cases i.zero<;>rfl
 simp only[aM,a1,bC]at h⊢
 cases hi:(P.info? t).bind (·.zero) with
 |none=>rw[hi]at h;simp at h
 |some z=>
  rw[hi]at h
  have U:LRel μ z.cells.toList z.cells.toList:=by obtain⟨zl,ax⟩:=Option.isSome_iff_exists.1 hz;obtain⟨i,v0,h1,h2,h3,h4⟩:=fg (P:=P) ax;rw[h1]at hi;simp only[a0n,h2,a02]at hi;subst hi;exact LRel.refl0 (by rw[h3];exact h4)
  simp only[a0n]at h⊢
  cases hu:P.underlying t with
  |none=>rw[hu]at h;simp at h
  |some d=>
   rw[hu]at h
   simp only[a0n]at h⊢
   cases d with
   |struct fields=>
    simp only[aM]at h⊢
    cases hm:aA P (fields.mapM fun f=>do let y ←sizeOf f.type;Pure.pure (f.offset,y)) with
    |none=>rw[hm]at h;simp at h
    |some places=>
     rw[hm]at h
     simp only[a0n]at h⊢
     cases O:Instr.fill (fun x=>places[x]?) z.cells ps.toList with
     |none=>rw[O]at h;simp at h
     |some r=>
      rw[O]at h
      simp only[bG,a02]at h
      subst h
      obtain⟨Y,T,E⟩:=jx _ _ _ _ _ Z hp U O
      exact⟨.agg Y,by rw[T];rfl,.agg _ _ E.1 E.2⟩
   |array n e=>
    simp only[aM,cT]at h⊢
    cases hs:dJ P e with
    |none=>rw[hs]at h;simp at h
    |some sz=>
     rw[hs]at h
     simp only[a0n]at h⊢
     cases O:Instr.fill (fun i=>some (i *sz,sz)) z.cells ps.toList with
     |none=>rw[O]at h;simp at h
     |some r=>
      rw[O]at h
      simp only[bG,a02]at h
      subst h
      obtain⟨Y,T,E⟩:=jx _ _ _ _ _ Z hp U O
      exact⟨.agg Y,by rw[T];rfl,.agg _ _ E.1 E.2⟩
   |_=>simp at h
theorem il{v v':Value}{n:Nat}(h:asNat v=some n)(E:VRel μ v v'): ∃k,v'= .int k (n:Int):=by
 unfold asNat at h;split at h
 ·rename_i k m;injection h with h;subst h;exact⟨k,E.int_inv⟩
 cases h
theorem aField_sound{s:TypeId}{x U:Value}{f:Nat}{v:Value}(h:ir P s x f=some v)(hx:VRel μ x U):
  ∃v',(∀w,(Instr.fieldAt s U f).run P w= .ok v' w)/\VRel μ v v':=by
 unfold ir at h
 split at h
 ·rename_i fs b o hu;split at h
  ·rename_i O Y;split at h
   ·rename_i n Z;cases E:Nat.beq n 0 with
    |true=>rw[E]at h;cases h
    |false=>
     rw[E]at h;simp only[cond_false,a02]at h;subst h
     obtain⟨l,hb,rfl⟩:=hx.ptr_inv
     have T: ¬n=0:=fun e=>by subst e;cases E
     refine⟨_,fun w=>?_,a0E l.sh o O.offset▸VRel.ptr b (o+O.offset) l hb⟩
     simp[Instr.fieldAt,ao w hu,Y,Instr.sureAddr,fieldPlace,bj w Z,T,cW,a0E]
   cases h
  cases h
 cases h
theorem jo{t:TypeId}{x x' i i':Value}{v:Value}(h:dj P t x i=some v)(hx:VRel μ x x')(hi:VRel μ i i'):
  ∃v',(∀w,(Instr.indexAt t x' i').run P w= .ok v' w)/\VRel μ v v':=by
 unfold dj at h
 split at h
 ·rename_i e b o n k j T Y;obtain⟨ik,rfl⟩:=il Y hi;split at h
  ·rename_i sz hs;cases E:(Nat.ble (j+1) n&&Nat.ble n k) with
   |false=>rw[E]at h;cases h
   |true=>
    rw[E]at h;simp only[cond_true,a02]at h;subst h
    simp only[a04]at E
    have h1:j+1<=n:=a0d E.1
    have h2:n<=k:=a0d E.2
    obtain⟨l,hb,hc⟩:=hx.slice_inv
    have O:VRel μ (.pointer (some ⟨b,o+j *sz,none⟩)) (.pointer (some ⟨l.c,l.sh+o+j *sz,none⟩)):=
     a0E l.sh o (j *sz)▸VRel.ptr b (o+j *sz) l hb
    have U:(j:Int)<(n:Int):=by omega
    rcases hc with⟨_,rfl⟩|⟨e',o',k',_,rfl,_,_,Z,_⟩|⟨hz,_,_⟩
    rotate_right
    ·omega
    ·refine⟨_,fun w=>?_,O⟩;simp[Instr.indexAt,asIntOf,ao w T,bj w hs,cW];omega
    have ho:o'=l.sh+o:=Z (by omega)
    subst ho
    refine⟨_,fun w=>?_,O⟩
    simp[Instr.indexAt,asIntOf,ao w T,bj w hs,cW]
    omega
  cases h
 ·rename_i n e b o j T Y;obtain⟨ik,rfl⟩:=il Y hi;split at h
  ·rename_i sz hs;cases E:Nat.ble (j+1) n with
   |false=>rw[E]at h;cases h
   |true=>
    rw[E]at h;simp only[cond_true,a02]at h;subst h
    have h1:j+1<=n:=a0d E
    obtain⟨l,hb,rfl⟩:=hx.ptr_inv
    refine⟨_,fun w=>?_,a0E l.sh o (j *sz)▸VRel.ptr b (o+j *sz) l hb⟩
    have U:(j:Int)<(n:Int):=by omega
    have h0:(0:Int)<=(j:Int)/\(j:Int)<(n:Int):=⟨by omega,U⟩
    simp only[Instr.indexAt,asIntOf,ao w T,bj w hs,cW,Instr.sureAddr,Sem.run_bind,Sem.run_pure,Result.andThen_ok,if_pos h0,Int.toNat_natCast]
  cases h
 cases h
theorem strIndex_run{t:TypeId}{s:ByteArray}{k:IntKind}{j:Nat}{b:UInt8}(O:P.underlying t=some .string)(hb:s.data.toList[j]?=some b)(w:World):
  (Instr.index t (.string s) (.int k (j:Int))).run P w= .ok (.int .u8 b.toNat) w:=by
 have h:j<s.size:=by have:=(a0q.1 hb).1;simpa using this
 have E:s[j]?=some b:=by rw[getElem?_pos s j h];have:=(a0q.1 hb).2;rw[←this];rfl
 simp[Instr.index,asIntOf,ao w O,E]
theorem jB{ops:Array Operand}{ρ ρ':Operand->Value}(h: ∀x∈ops,VRel μ (ρ x) (ρ' x)):LRel μ (ops.map ρ).toList (ops.map ρ').toList:=by refine⟨by simp,fun i v v' O T=>?_⟩;simp only[Array.toList_map,a1B,a1z]at O T;obtain⟨x,U,rfl⟩:=O;obtain⟨y,E,rfl⟩:=T;rw[U]at E;injection E with E;subst E;exact h x (by simpa using a0o U)
theorem mt{t:TypeId}{x U:Value}{f:Nat}{v:Value}(h:hN P t x f=some v)(hx:VRel μ x U):
  ∃v',(∀w,(Instr.field t U f).run P w= .ok v' w)/\VRel μ v v':=by
 unfold hN at h
 split at h
 ·rename_i cs;split at h
  ·rename_i g n off E;have hp:aA P (Instr.field t (.agg cs) f)=some v:=by
    unfold fieldAt? at E;split at E
    ·rename_i fs hu;split at E
     ·rename_i Y O;split at E
      ·rename_i Z n' hg hn;simp only[a02,a05]at E;obtain⟨rfl,rfl,rfl⟩:=E;unfold Instr.field part;simp only[aM,bC,hu,a0n,O,asAgg,bG,fv,hg];unfold partL at h;cases Z with
       |true=>
        simp only[cond_true,a02,bX,cr]at h
        simp only[if_true,aM,cT,hn,a0n,bG,a02]
        subst h
        congr 1
        apply Array.ext'
        simp
       |false=>
        simp only[cond_false,ib]at h
        simp only[a0i,if_false]
        have hc:cs[Y.offset]?=some v:=by simpa using h
        rw[hc];rfl
      cases E
     cases E
    cases E
   obtain⟨v',T,hr⟩:=field_rel hx hp;exact⟨v',fun w=>cG P T w,hr⟩
  cases h
 cases h
theorem cx{r:Option Value}{H H':Heap}{n:AN}(h:ovl r H=some (n,H')):H'=H/\∃v,r=some v/\n= .val v:=by
 unfold ovl at h;split at h
 ·rename_i v;simp only[a02,a05]at h;exact⟨h.2.symm,v,rfl,h.1.symm⟩
 cases h
theorem iD{op:BinOp}{r:Option Bool}{H H':Heap}{n:AN}(h:nilBin op r H=some (n,H')):
  H'=H/\∃b,r=some b/\((op= .eql/\n= .val (.bool b))\/(op= .neq/\n= .val (.bool (!b)))):=by
 unfold nilBin at h
 split at h
 ·rename_i b;split at h
  ·simp only[a02,a05]at h;exact⟨h.2.symm,b,rfl,.inl ⟨rfl,h.1.symm⟩⟩
  ·simp only[a02,a05]at h;exact⟨h.2.symm,b,rfl,.inr ⟨rfl,h.1.symm⟩⟩
  cases h
 cases h
theorem jG{ρ ρ':Operand->Value}{o:Oper}{H H':Heap}{r:AN}(hk:bd o.op=true)
  (T: ∀x∈o.op.operands,VRel μ (ρ x) (ρ' x)) (h:aop P ρ o H=some (r,H')):
  H'=H/\∃v v',r= .val v/\(∀w,(execOp ρ' o).run P w= .ok (.value v') w)/\VRel μ v v':=by
 obtain⟨b8,op,b7,pos,after,b1⟩:=o
 cases op<;>simp only[bd,a0i]at hk
 case move x=>
  simp only[aop,a02,a05]at h
  obtain⟨rfl,rfl⟩:=h
  exact⟨rfl,_,ρ' x,rfl,fun w=>rfl,T x (by simp[Op.operands])⟩
 case assign x=>
  simp only[aop,a02,a05]at h
  obtain⟨rfl,rfl⟩:=h
  exact⟨rfl,_,ρ' x,rfl,fun w=>rfl,T x (by simp[Op.operands])⟩
 case pick c a b=>
  simp only[aop,fX]at h
  split at h
  ·rename_i t ht;simp only[a02,a05]at h;obtain⟨rfl,rfl⟩:=h;have hc:ρ' c= .bool t:=by have:=T c (by simp[Op.operands]);rw[ht]at this;exact this.bool_inv
   refine⟨rfl,_,(if t then ρ' a else ρ' b),rfl,fun w=>?_,?_⟩
   ·simp[execOp,hc,asBool]
   cases t
   ·exact T b (by simp[Op.operands])
   exact T a (by simp[Op.operands])
  cases h
 case build t parts=>
  simp only[aop,gU]at h
  split at h
  case h_2=>cases h
  rename_i z hz
  obtain⟨rfl,v,rfl,E⟩:=j4 h
  obtain⟨v',U,Y⟩:=build_rel (μ:=μ) (ps:=parts.map fun p=>(p.1,ρ p.2)) (ps':=parts.map fun(i,x)=>(i,ρ' x)) (by simp) (fun i x x' Z h2=>by
   simp only[Array.toList_map,a1B,a1z]at Z h2;obtain⟨y,hy,rfl⟩:=Z;obtain⟨z,hz,rfl⟩:=h2;rw[hy]at hz;injection hz with hz;subst hz;refine⟨rfl,T _ ?_⟩;have:=a0o hy;simp only[Op.operands,List.mem_toArray,a0t];exact⟨y,this,rfl⟩) (by rw[hz];rfl) E
  exact⟨rfl,v,v',rfl,fun w=>by simp only[execOp,Sem.run_bind,cG P U w,Result.andThen_ok,Sem.run_pure],Y⟩
 case nilCheck x=>
  simp only[aop,opNil]at h
  split at h
  ·rename_i a ha;simp only[a02,a05]at h;obtain⟨rfl,rfl⟩:=h;have O:=T x (by simp[Op.operands]);rw[ha]at O;obtain⟨_,a',a7⟩:=O.ptr_some;exact⟨rfl,_,ρ' x,rfl,fun w=>by simp[execOp,a7],O⟩
  ·rename_i f a c ha;simp only[a02,a05]at h;obtain⟨rfl,rfl⟩:=h;have O:=T x (by simp[Op.operands]);rw[ha]at O;obtain⟨a',c',a8,_,_⟩:=O.func_inv;exact⟨rfl,_,ρ' x,rfl,fun w=>by simp[execOp,a8],O⟩
  cases h
 case binOp op t x y yt=>
  have O:=T x (by simp[Op.operands])
  have hy:=T y (by simp[Op.operands])
  simp only[aop,aBin]at h
  split at h
  ·rename_i k a ha;rw[ha]at O;unfold binInt at h;split at h
   ·rename_i k' b hb;rw[hb]at hy;obtain⟨rfl,v,E,rfl⟩:=cx h;have key: ∀w,(binOp op t (.int k a) (.int k' b)).run P w= .ok v w/\de v=true:=by
     intro w;cases hs:j5 op with
     |true=>rw[hs]at E;exact shBin_sound E t w
     |false=>
      rw[hs]at E
      simp only[cond_false]at E
      cases he:fL k k' with
      |false=>rw[he]at E;cases E
      |true=>
       rw[he]at E
       have:k=k':=by simpa[fL] using he
       subst this
       exact intBin_sound E t w
    refine⟨rfl,v,v,rfl,fun w=>?_,.atom v (key default).2⟩;simp only[execOp,O.int_inv,hy.int_inv,eqGuard_at_int,pure_bind,Sem.run_bind,(key w).1,Result.andThen_ok,Sem.run_pure]
   cases h
  ·rename_i a ha;rw[ha]at O;unfold binStr at h;split at h
   ·rename_i b hb;rw[hb]at hy;obtain⟨rfl,v,E,rfl⟩:=cx h;refine⟨rfl,v,v,rfl,fun w=>?_,.atom v (jK (P:=P) (t:=t) E default).2⟩;simp only[execOp,O.string_inv,hy.string_inv,eqGuard_at_string,pure_bind,Sem.run_bind,(jK (P:=P) (t:=t) E w).1,Result.andThen_ok,Sem.run_pure]
   cases h
  unfold mi at h
  split at h
  ·exact dw h (fun _ _=>by simp) T
  ·exact dw h (fun _ _=>by simp) T
  obtain⟨rfl,b,hb,ax⟩:=iD h
  rcases ax with⟨rfl,rfl⟩|⟨rfl,rfl⟩
  ·refine⟨rfl,_,_,rfl,fun w=>?_,.atom (.bool b) rfl⟩;obtain⟨Z,h2,h3⟩:=jY (P:=P) hb O hy w;simp only[execOp,h2,pure_bind,h3 .eql (.inl rfl),Sem.run_bind,Z,Result.andThen_ok,Sem.run_pure]
  refine⟨rfl,_,_,rfl,fun w=>?_,.atom (.bool (!b)) rfl⟩
  obtain⟨Z,h2,h3⟩:=jY (P:=P) hb O hy w
  simp only[execOp,h2,pure_bind,h3 .neq (.inr rfl),Sem.run_bind,Z,Result.andThen_ok,Sem.run_pure]
 case unOp op t x=>
  have O:=T x (by simp[Op.operands])
  simp only[aop,aUn]at h
  split at h
  ·rename_i b hb;rw[hb]at O;split at h
   ·simp only[a02,a05]at h;obtain⟨rfl,rfl⟩:=h;exact⟨rfl,_,_,rfl,fun w=>by simp[execOp,O.bool_inv,Op.unary],.atom (.bool (!b)) rfl⟩
   cases h
  exact dw h (fun _ _=>by simp) T
 case makeFunc fn first captured=>
  simp only[aop,a02,a05]at h
  obtain⟨rfl,rfl⟩:=h
  have Z:=jB (μ:=μ) (ops:=first) (ρ:=ρ) (ρ':=ρ') fun x O=>T x (by simp[Op.operands,O])
  have h2:=jB (μ:=μ) (ops:=captured) (ρ:=ρ) (ρ':=ρ') fun x O=>T x (by simp[Op.operands,O])
  exact⟨rfl,_,_,rfl,fun w=>rfl,.func _ _ _ _ _ Z.1 h2.1 Z.2 h2.2⟩
 case fieldAddr s x f=>
  simp only[aop]at h
  obtain⟨rfl,v,E,rfl⟩:=cx h
  obtain⟨v',U,Y⟩:=aField_sound E (T x (by simp[Op.operands]))
  exact⟨rfl,v,v',rfl,fun w=>by simp only[execOp,Sem.run_bind,U w,Result.andThen_ok,Sem.run_pure],Y⟩
 case field t x f=>
  simp only[aop]at h
  obtain⟨rfl,v,E,rfl⟩:=cx h
  obtain⟨v',U,Y⟩:=mt E (T x (by simp[Op.operands]))
  exact⟨rfl,v,v',rfl,fun w=>by simp only[execOp,Sem.run_bind,U w,Result.andThen_ok,Sem.run_pure],Y⟩
 case indexAddr t x i=>
  simp only[aop]at h
  obtain⟨rfl,v,E,rfl⟩:=cx h
  obtain⟨v',U,Y⟩:=jo E (T x (by simp[Op.operands])) (T i (by simp[Op.operands]))
  exact⟨rfl,v,v',rfl,fun w=>by simp only[execOp,Sem.run_bind,U w,Result.andThen_ok,Sem.run_pure],Y⟩
 case index t x i=>
  have O:=T x (by simp[Op.operands])
  have hi:=T i (by simp[Op.operands])
  simp only[aop,kv]at h
  split at h
  ·rename_i s hs;rw[hs]at O;obtain⟨rfl,v,E,rfl⟩:=cx h;unfold strAt at E;split at E
   ·rename_i j hu hj;obtain⟨k,hk⟩:=il hj hi;rw[ib]at E;split at E
    ·rename_i b hb;injection E with E;subst E;exact⟨rfl,_,_,rfl,fun w=>by simp only[execOp,O.string_inv,hk,Sem.run_bind,strIndex_run hu hb w,Result.andThen_ok,Sem.run_pure],.atom _ rfl⟩
    cases E
   cases E
  rename_i a9
  obtain⟨rfl,v,rfl,E⟩:=j4 h
  obtain⟨v',U,Y⟩:=index_rel O hi (fun s hs=>a9 s hs) E
  exact⟨rfl,v,v',rfl,fun w=>by simp only[execOp,Sem.run_bind,cG P U w,Result.andThen_ok,Sem.run_pure],Y⟩
 case extract x i=>
  simp only[aop]at h
  have O:=T x (by simp[Op.operands])
  obtain⟨rfl,v,E,rfl⟩:=cx h
  unfold gD at E
  split at E
  ·rename_i vs bb;rw[bb]at O;obtain⟨b0,a5,Y⟩:=O.tuple_inv;rw[ib]at E;obtain⟨v',U,a4⟩:=Y.get E;have hg:b0[i]?=some v':=by simpa using U
   exact⟨rfl,v,v',rfl,fun w=>by simp[execOp,a5,Instr.extract,hg],a4⟩
  cases E
end
end Go.R
namespace Go.R
theorem fE(l:List Value): ∀n,(ef n l).length=n *l.length
 |0=>by simp[ef]
 |n+1=>by simp only[ef,a00,fE l n];rw[a0M];omega
theorem lu(l:List Value): ∀(n i:Nat),i<n *l.length->(ef n l)[i]?=l[i%l.length]?
 |0,i,h=>by simp at h
 |n+1,i,h=>by
  simp only[ef];by_cases hi:i<l.length
  ·rw[a17 hi,Nat.mod_eq_of_lt hi]
  rw[a0M,Nat.one_mul]at h;rw[a1d (by omega),lu l n (i-l.length) (by omega)];congr 1;exact(Nat.mod_eq_sub_mod (by omega)).symm
theorem zeros_eq(z:Array Value)(n:Nat):(Array.range (n *z.size)).map (fun i=>z[i%z.size]!)=⟨ef n z.toList⟩:=by
 apply a1u;intro i;refine Eq.trans ?_ (j1 _ _).symm;by_cases hi:i<n *z.size
 ·rw[lu _ _ _ (by simpa using hi)];have O:0<z.size:=by
   rcases a1h z.size with h|h
   ·rw[h]at hi;simp at hi
   exact h
  have E:i%z.size<z.size:=a1C _ O;simp[hi,E]
 rw[a19 (by rw[fE];simpa using hi)];simp[hi]
theorem ke{l:List Value}(h:l.all de=true): ∀n,(ef n l).all de=true
 |0=>rfl
 |n+1=>by simp only[ef,a1N,h,ke h n,a1i]
section
variable {P:Program} {μ:Emb} {H H':Heap} {w:World}
def OpOK(P:Program)(μ:Emb)(H:Heap)(w:World)(s:Sem Next)(r:AN)(H':Heap):Prop:=
 ∃n w' μ',s.run P w= .ok n w'/\Post μ H w μ' H' w'/\ANRel μ' r n
theorem OpOK.value{s:Sem Value}{v v':Value}{w':World}{μ':Emb}(h:s.run P w= .ok v' w')(E:Post μ H w μ' H' w')(O:VRel μ' v v'):
  OpOK P μ H w (do Pure.pure (.value (←s))) (.val v) H':=
 ⟨.value v',w',μ',by simp only[Sem.run_bind,h,Result.andThen_ok,Sem.run_pure],E,O⟩
theorem OpOK.skip{s:Sem Unit}{w':World}{μ':Emb}(h:s.run P w= .ok () w')(E:Post μ H w μ' H' w'):
  OpOK P μ H w (do s;Pure.pure .skip) .skip H':=
 ⟨.skip,w',μ',by simp only[Sem.run_bind,h,Result.andThen_ok,Sem.run_pure],E,trivial⟩
theorem ovh_inv{r:Option (Value×Heap)}{n:AN}(h:ovh r=some (n,H')): ∃v,r=some (v,H')/\n= .val v:=by
 unfold ovh at h;split at h
 ·simp only[a02,a05]at h;obtain⟨rfl,rfl⟩:=h;exact⟨_,rfl,rfl⟩
 cases h
theorem osk_inv{r:Option Heap}{n:AN}(h:osk r=some (n,H')):r=some H'/\n= .skip:=by
 unfold osk at h;split at h
 ·simp only[a02,a05]at h;obtain⟨rfl,rfl⟩:=h;exact⟨rfl,rfl⟩
 cases h
theorem j7(h:WRel μ H w)(hf:μ H.next=none)(e:TypeId){cs E:List Value}(O:LRel μ cs E):
  ∃l,l.c=w.heap.size/\l.sh=0/\l.opn=none/\(newRow e ⟨E⟩).run P w= .ok ⟨w.heap.size,0,none⟩ (w.alloc (.cells ⟨E⟩ e))/\
   Post μ H w (μ.set H.next l) (aT H cs none) (w.alloc (.cells ⟨E⟩ e)):=by
 obtain⟨l,Y,Z,h3,_,T,U⟩:=dg (P:=P) h hf e O [] none (fun _=>rfl)
 simp only[a0m]at T U
 exact⟨l,Y,Z,h3,T,U⟩
theorem alloc_sound{e:TypeId}{r:AN}(h:WRel μ H w)(hf: ∀b,H.next<=b->b<H'.next->μ b=none)(E:ev P e H=some (r,H')):
  OpOK P μ H w (do Pure.pure (.value (←Instr.alloc e true (.tuple #[])))) r H':=by
 unfold ev at E
 split at E
 ·rename_i z hz;simp only[a02,a05]at E;obtain⟨rfl,rfl⟩:=E;obtain⟨i,v,hi,hv,hc,O⟩:=fg (P:=P) hz;obtain⟨l,Y,Z,h3,T,hp⟩:=j7 (P:=P) h (hf H.next (a06 _) (by simp[aT])) e (LRel.refl0 (μ:=μ) O);have U:v.cells=⟨z⟩:=by rw[←hc]
  refine OpOK.value (v':= .pointer (some ⟨w.heap.size,0,none⟩)) ?_ hp ?_
  ·simp only[Instr.alloc,Sem.run_bind,fq w hi hv,Result.andThen_ok,newVar,U,T,Sem.run_pure]
  have:=VRel.ptr (μ:=μ.set H.next l) H.next 0 l (Emb.set_same _ _ _);rw[Y,Z]at this;exact this
 cases E
theorem box_sound{e:TypeId}{x O:Value}(h:WRel μ H w)(Y:μ H.next=none)(hx:VRel μ x O):
  OpOK P μ H w (do Pure.pure (.value (←Instr.box e O))) (.val (ptrTo H.next)) (aT H x.cells.toList none):=by
 obtain⟨l,T,U,h3,E,Z⟩:=j7 (P:=P) h Y e hx.cells
 refine OpOK.value (v':= .pointer (some ⟨w.heap.size,0,none⟩)) ?_ Z ?_
 ·simp only[Instr.box,newVar,Sem.run_bind,E,Result.andThen_ok,Sem.run_pure]
 have:=VRel.ptr (μ:=μ.set H.next l) H.next 0 l (Emb.set_same _ _ _)
 rw[T,U]at this;exact this
theorem kE{t:TypeId}{sz:Nat}{z:List Value}(h:eU P t=some (sz,z)): ∃e,P.underlying t=some (.slice e)/\dJ P e=some sz/\ec P e=some z/\z.length=sz:=by
 unfold eU at h;split at h
 ·rename_i e O;split at h
  ·rename_i U Y hs T;cases E:Nat.beq (ji Y) U with
   |false=>rw[E]at h;cases h
   |true=>
    rw[E]at h;simp only[cond_true,a02,a05]at h
    obtain⟨rfl,rfl⟩:=h
    exact⟨e,O,hs,T,by rw[←bK];exact a07 E⟩
  cases h
 cases h
theorem jm{t:TypeId}{n:Nat}{ps:List (Nat×Value)}{ps':Array (Nat×Value)}{r:AN}(h:WRel μ H w)(hf: ∀b,H.next<=b->b<H'.next->μ b=none)
  (hl:ps.length=ps'.toList.length) (hp: ∀(i:Nat) x x',ps[i]?=some x->ps'.toList[i]?=some x'->x.1=x'.1/\VRel μ x.2 x'.2)
  (O:bt P t n ps H=some (r,H')):OpOK P μ H w (do Pure.pure (.value (←Instr.buildSlice t n ps'))) r H':=by
 unfold bt at O
 split at O
 ·rename_i sz z a3;obtain⟨e,hu,hs,hz,U⟩:=kE a3;cases hq:Nat.ble (n *sz) 16777216 with
  |false=>rw[hq]at O;cases O
  |true=>
   rw[hq]at O
   simp only[cond_true]at O
   have b4:n *sz<=16777216:=a0d hq
   split at O
   ·rename_i cells hc;simp only[a02,a05]at O;obtain⟨rfl,rfl⟩:=O;obtain⟨i,v,hi,hv,a4,an⟩:=fg (P:=P) hz;obtain⟨a1,al,ax⟩:=jx (μ:=μ) ps ps'.toList _ _ cells hl hp (LRel.refl0 (ke an n)) hc;obtain⟨l,h1,h2,h3,T,Z⟩:=j7 (P:=P) h (hf H.next (a06 _) (by simp[aT])) e ax;refine OpOK.value (v':= .slice (some ⟨w.heap.size,0,none⟩) n n) ?_ Z ?_
    ·have a5:v.cells=⟨z⟩:=by rw[←a4]
     simp only[Instr.buildSlice,Sem.run_bind,ao w hu,Result.andThen_ok,bj w hs,show ¬(n *sz>2^24) by omega,if_false];by_cases Y:n *sz=0
     ·have a2:ef n z=[]:=a0g (by rw[fE,U];exact Y);have E: ∀g:Nat->Value,(Array.range (n *sz)).map g=⟨ef n z⟩:=fun g=>by rw[Y,a2];simp
      rw[if_pos Y];simp only[Sem.run_bind,Sem.run_pure,Result.andThen_ok,E,al,T]
     have E:=zeros_eq ⟨z⟩ n;simp only[show(Array.mk z).size=sz from U]at E;rw[if_neg Y];simp only[Sem.run_bind,fq w hi hv,Sem.run_pure,Result.andThen_ok,a5,show(Array.mk z).size=sz from U,E,al,T]
    have:=VRel.sliceC (μ:=μ.set H.next l) H.next 0 n n l (Emb.set_same _ _ _) h3;rw[h1,h2]at this;exact this
   cases O
 cases O
theorem load_sound{t:TypeId}{a T:Value}{r:AN}(h:WRel μ H w)(ha:VRel μ a T)(E:ed P t a H=some (r,H')):
  OpOK P μ H w (do Pure.pure (.value (←Instr.loadAt t T))) r H':=by
 unfold ed at E
 split at E
 ·rename_i p;obtain⟨rfl,v,Z,rfl⟩:=cx E;obtain⟨b,o,sp⟩:=p;have U:sp=none:=ha.ptr_some.1;subst U;obtain⟨l,hb,rfl⟩:=ha.ptr_inv;obtain⟨v',O,Y⟩:=gV (P:=P) h hb Z;refine OpOK.value (v':=v') ?_ (Post.refl h) Y;simp only[Instr.loadAt,Instr.sureAddr,Sem.run_bind,Sem.run_pure,Result.andThen_ok,O]
 cases E
theorem store_sound{t:TypeId}{a Z x Y:Value}{r:AN}(h:WRel μ H w)(ha:VRel μ a Z)(hx:VRel μ x Y)(E:gT P t a x H=some (r,H')):
  OpOK P μ H w (do Instr.storeAt t Z Y;Pure.pure .skip) r H':=by
 unfold gT at E
 split at E
 ·rename_i p;split at E
  ·rename_i n hn;cases O:Nat.beq x.cells.size n with
   |false=>rw[O]at E;cases E
   |true=>
    rw[O]at E
    obtain⟨hs,rfl⟩:=osk_inv E
    have a1:x.cells.size=n:=a07 O
    obtain⟨b,o,sp⟩:=p
    have al:sp=none:=ha.ptr_some.1
    subst al
    obtain⟨l,hb,rfl⟩:=ha.ptr_inv
    obtain⟨w',T,hp⟩:=iS (P:=P) h hb hs hx.cells
    refine OpOK.skip ?_ hp
    have U:Y.cells.size=n:=by have:=hx.cells.1;simp only[a1M]at this;omega
    simp only[Instr.storeAt,Instr.sureAddr,storeVar,Sem.run_bind,Sem.run_pure,Result.andThen_ok,bj w hn,U,ne_eq,not_true,if_false,T]
  cases E
 cases E
theorem run_getObj{r:Nat}{o:Obj}(h:w.heap[r]?=some o)(hc: ∀c e f,o≠ .cells c e f):(getObj r).run P w= .ok o w:=by cases o<;>first|exact absurd rfl (hc _ _ _)|(simp only[getObj,Sem.run,h])
theorem bytesOf_info{e:TypeId}{b:Nat}(h:hE P e=some b): ∃i,P.info? e=some i/\i.bytes=b:=by
 unfold hE at h;split at h
 ·rename_i i hi;injection h with h;exact⟨i,hi,h⟩
 cases h
end
end Go.R
namespace Go.R
section
variable {P:Program} {μ:Emb} {H H':Heap} {w:World}
theorem ko{n k l r:Nat}{lo hi:Option Value}(h:bnds n k lo hi=some (l,r)):
  ck n hi=some r/\ck 0 lo=some l/\l<=r/\r<=k:=by
 unfold bnds at h
 split at h
 ·rename_i O U;split at h
  ·rename_i l' T;cases E:(Nat.ble l' O&&Nat.ble O k) with
   |false=>rw[E]at h;cases h
   |true=>
    rw[E]at h;simp only[cond_true,a02,a05]at h
    obtain⟨rfl,rfl⟩:=h
    simp only[a04]at E
    exact⟨U,T,a0d E.1,a0d E.2⟩
  cases h
 cases h
theorem dK{v v':Value}{n y:Nat}(h:asNat v=some n)(O:VRel μ v v')(T:n<=y)(E:BoundsCode):(Instr.sliceBound v' y E).run P w= .ok n w:=by
 obtain⟨k,rfl⟩:=il h O;have:(0:Int)<=(n:Int)/\(n:Int)<=(y:Int):=by omega
 simp[Instr.sliceBound,asIntOf,this.2]
theorem dF{isSlice:Bool}{n k Y l r:Nat}{lo hi Z E:Option Value}(hb:bnds n k lo hi=some (l,r))(hk:k<=Y)
  (an: ∀v,lo=some v->∃v',Z=some v'/\VRel μ v v') (O:lo=none->Z=none)
  (a1: ∀v,hi=some v->∃v',E=some v'/\VRel μ v v') (ar:hi=none->E=none):
  (Instr.sliceBounds isSlice n Y Z E none).run P w= .ok (l,r,Y) w:=by
 obtain⟨h1,h,h3,h4⟩:=ko hb
 unfold Instr.sliceBounds
 cases hi with
 |none=>
  rw[ar rfl]
  simp only[ck,a02]at h1;subst h1
  cases lo with
  |none=>
   rw[O rfl]
   simp only[ck,a02]at h;subst h
   simp
  |some u=>
   obtain⟨u',T,U⟩:=an u rfl
   rw[T]
   simp only[Sem.run_bind,Sem.run_pure,Result.andThen_ok,dK (P:=P) (w:=w) h U h3]
 |some v=>
  obtain⟨v',a3,hr⟩:=a1 v rfl
  rw[a3]
  cases lo with
  |none=>
   rw[O rfl]
   simp only[ck,a02]at h;subst h
   simp only[Sem.run_bind,Sem.run_pure,Result.andThen_ok,dK (P:=P) (w:=w) h1 hr (by omega:r<=Y)]
  |some u=>
   obtain⟨u',T,U⟩:=an u rfl
   rw[T]
   simp only[Sem.run_bind,Sem.run_pure,Result.andThen_ok,dK (P:=P) (w:=w) h1 hr (by omega:r<=Y),dK (P:=P) (w:=w) h U h3]
theorem e9(s:ByteArray)(l r:Nat):s.extract l r=⟨⟨(s.data.toList.drop l).take (r-l)⟩⟩:=by apply ByteArray.ext;apply Array.ext';simp
theorem jM{t:TypeId}{x x':Value}{lo hi mx a6 a5 a9:Option Value}{r:AN}(h:WRel μ H w)(hx:VRel μ x x')
  (ar: ∀v,lo=some v->∃v',a6=some v'/\VRel μ v v') (Z:lo=none->a6=none)
  (an: ∀v,hi=some v->∃v',a5=some v'/\VRel μ v v') (Y:hi=none->a5=none) (b4:mx=none->a9=none)
  (ho:ovl (bw P t x lo hi mx H) H=some (r,H')): ∃v v',r= .val v/\H'=H/\(Instr.sliceAt t x' a6 a5 a9).run P w= .ok v' w/\VRel μ v v':=by
 obtain⟨rfl,v,E,rfl⟩:=cx ho
 unfold bw at E
 split at E
 ·cases E
 rw[b4 rfl]
 simp only at E
 split at E
 ·rename_i s hu;obtain rfl:=hx.string_inv;split at E
  ·rename_i l r hb;injection E with E;subst E;rw[bK]at hb;have b5:s.data.toList.length=s.size:=by simp
   rw[b5]at hb;refine⟨_,.string (s.extract l r),rfl,rfl,?_,?_⟩
   ·simp[Instr.sliceAt,Instr.slice,ao w hu,dF (P:=P) (w:=w) (isSlice:=false) hb (a06 _) ar Z an Y]
   rw[e9,bX,cr];exact .atom _ rfl
  cases E
 ·rename_i e hu;obtain rfl:=hx.eq0 rfl;split at E
  ·rename_i lr hb;obtain⟨l,r⟩:=lr;cases hs:dJ P e with
   |none=>rw[hs]at E;cases E
   |some sz=>
    rw[hs]at E
    simp only[Option.isSome_some,cond_true,a02]at E;subst E
    obtain⟨_,_,h3,h4⟩:=ko hb
    obtain rfl:r=0:=by omega
    obtain rfl:l=0:=by omega
    refine⟨_,.slice none 0 0,rfl,rfl,?_,.atom _ rfl⟩
    simp[Instr.sliceAt,Instr.slice,ao w hu,dF (P:=P) (w:=w) (isSlice:=true) hb (a06 _) ar Z an Y,bj w hs]
  cases E
 ·rename_i e b o n k hu;split at E
  ·rename_i l r sz cs b7 ro hb hs hg;obtain⟨l0,hμ,hc⟩:=hx.slice_inv;have U:l0.opn=b7:=by
    have:=h.obj b l0 _ hμ hg;cases ro
    ·exact this.1
    exact this.1
   obtain⟨_,_,h3,h4⟩:=ko hb;split at E
   ·injection E with E;subst E;rcases hc with⟨T,rfl⟩|⟨e',o',k',T,rfl,_⟩|⟨rfl,rfl,a',rfl⟩
    rotate_right
    ·obtain rfl:r=0:=by omega
     obtain rfl:l=0:=by omega
     refine⟨_,.slice (some (if 0=0 then a' else a'.add (0 *sz))) (0-0) (0-0),rfl,rfl,?_,?_⟩
     ·simp only[Instr.sliceAt,Instr.slice,Sem.run_bind,ao w hu,Result.andThen_ok,dF (P:=P) (w:=w) (isSlice:=true) hb (a06 _) ar Z an Y,bj w hs,Sem.run_pure];split<;>rfl
     exact .sliceZ b o a' l0 hμ
    ·refine⟨_,.slice (some (if k=l then⟨l0.c,l0.sh+o,none⟩ else Addr.add ⟨l0.c,l0.sh+o,none⟩ (l *sz))) (r-l) (k-l),rfl,rfl,?_,?_⟩
     ·simp only[Instr.sliceAt,Instr.slice,Sem.run_bind,ao w hu,Result.andThen_ok,dF (P:=P) (w:=w) (isSlice:=true) hb (a06 _) ar Z an Y,bj w hs,Sem.run_pure];split<;>rfl
     by_cases O:k=l
     ·rw[if_pos O];have:Nat.beq k l=true:=by rw[O];exact a0L l
      rw[this];exact .sliceC b o _ _ l0 hμ T
     rw[if_neg O];have:Nat.beq k l=false:=by
      cases hq:Nat.beq k l with
      |false=>rfl
      |true=>exact absurd (a07 hq) O
     rw[this,cW,a0E];exact .sliceC b (o+l *sz) _ _ l0 hμ T
    rw[U]at T;cases T
   rename_i ez;cases hq:Nat.beq ez sz with
   |false=>rw[hq]at E;cases E
   |true=>
    rw[hq]at E
    simp only[cond_true,a02]at E;subst E
    have b2:ez=sz:=a07 hq
    rcases hc with⟨T,rfl⟩|⟨e',o',k',T,rfl,c0,b3,b0,cL⟩|⟨rfl,rfl,a',rfl⟩
    rotate_right
    ·obtain rfl:r=0:=by omega
     obtain rfl:l=0:=by omega
     refine⟨_,.slice (some (if 0=0 then a' else a'.add (0 *sz))) (0-0) (0-0),rfl,rfl,?_,?_⟩
     ·simp only[Instr.sliceAt,Instr.slice,Sem.run_bind,ao w hu,Result.andThen_ok,dF (P:=P) (w:=w) (isSlice:=true) hb (a06 _) ar Z an Y,bj w hs,Sem.run_pure];split<;>rfl
     exact .sliceZ b _ a' l0 hμ
    ·rw[U]at T;cases T
    rw[U]at T;injection T with T
    subst T b2
    refine⟨_,.slice (some (if k'=l then⟨l0.c,o',none⟩ else Addr.add ⟨l0.c,o',none⟩ (l *ez))) (r-l) (k'-l),rfl,rfl,?_,?_⟩
    ·simp only[Instr.sliceAt,Instr.slice,Sem.run_bind,ao w hu,Result.andThen_ok,dF (P:=P) (w:=w) (isSlice:=true) hb b3 ar Z an Y,bj w hs,Sem.run_pure];split<;>rfl
    by_cases O:k'=l
    ·rw[if_pos O];refine .sliceO b (o+l *ez) o' _ _ _ ez l0 hμ U (by omega) (by omega) (by omega) ?_;rw[O,Nat.sub_self,Nat.zero_mul];omega
    rw[if_neg O,cW]
    refine .sliceO b (o+l *ez) (o'+l *ez) _ _ _ ez l0 hμ U (by omega) (by omega) (fun co=>?_) ?_
    ·rw[b0 (by omega)];omega
    have:l *ez+(k'-l) *ez=k' *ez:=by rw[←a0M];congr 1;omega
    omega
  cases E
 ·rename_i n e b o hu;split at E
  ·rename_i l r sz cs ro hb hs hg;obtain⟨l0,hμ,rfl⟩:=hx.ptr_inv;have U:l0.opn=none:=by
    have:=h.obj b l0 _ hμ hg;cases ro
    ·exact this.1
    exact this.1
   injection E with E;subst E;refine⟨_,.slice (some (if n=l then⟨l0.c,l0.sh+o,none⟩ else Addr.add ⟨l0.c,l0.sh+o,none⟩ (l *sz))) (r-l) (n-l),rfl,rfl,?_,?_⟩
   ·simp only[Instr.sliceAt,Sem.run_bind,ao w hu,Result.andThen_ok,Instr.sureAddr,Sem.run_pure,dF (P:=P) (w:=w) (isSlice:=false) hb (a06 _) ar Z an Y,bj w hs]
   by_cases O:n=l
   ·rw[if_pos O];have:Nat.beq n l=true:=by rw[O];exact a0L l
    rw[this];exact .sliceC b o _ _ l0 hμ U
   rw[if_neg O];have:Nat.beq n l=false:=by
    cases hq:Nat.beq n l with
    |false=>rfl
    |true=>exact absurd (a07 hq) O
   rw[this,cW,a0E];exact .sliceC b (o+l *sz) _ _ l0 hμ U
  cases E
 cases E
theorem slice_sound{t:TypeId}{x x':Value}{lo hi mx O E T:Option Value}{r:AN}(h:WRel μ H w)(hx:VRel μ x x')
  (an: ∀v,lo=some v->∃v',O=some v'/\VRel μ v v') (Y:lo=none->O=none)
  (al: ∀v,hi=some v->∃v',E=some v'/\VRel μ v v') (U:hi=none->E=none) (ar:mx=none->T=none)
  (ho:ovl (bw P t x lo hi mx H) H=some (r,H')):OpOK P μ H w (do Pure.pure (.value (←Instr.sliceAt t x' O E T))) r H':=by
 obtain⟨v,v',rfl,rfl,Z,hr⟩:=jM (P:=P) h hx an Y al U ar ho
 exact OpOK.value Z (Post.refl h) hr
theorem lenA_run{x O:Value}{m:Nat}(h:lenA x=some m)(E:VRel μ x O):(Builtin.lenOf O).run P w= .ok m w:=by
 unfold lenA at h;split at h
 ·injection h with h;subst h;rename_i a n k;obtain⟨T,U,rfl,_⟩:=eK E;rfl
 ·rename_i s;injection h with h;subst h;obtain rfl:=E.string_inv;rw[bK];simp[Builtin.lenOf]
 cases h
theorem eL{x x':Value}{sz m:Nat}{vs:List Value}(h:WRel μ H w)(hx:VRel μ x x')(hl: ∃m0,lenA x=some m0/\m<=m0)(E:gf H sz m x=some vs):
  ∃U,(Builtin.firstCells sz m x').run P w= .ok ⟨U⟩ w/\LRel μ vs U/\vs.length=m *sz:=by
 unfold gf at E
 split at E
 ·rename_i a n k;obtain⟨b,o,sp⟩:=a;have a4:sp=none:=hx.slice_some.1;subst a4;cases O:Nat.beq m 0 with
  |true=>
   rw[O]at E
   simp only[cond_true,a02]at E;subst E
   have hm:m=0:=a07 O
   subst hm
   obtain⟨_,a',k',rfl⟩:=hx.slice_some
   exact⟨[],by simp[Builtin.firstCells,loadCells,loadCellsFrom],.nil,by simp⟩
  |false=>
   rw[O]at E
   simp only[cond_false]at E
   have hm:m≠0:=fun e=>by subst e;cases O
   obtain⟨m0,T,ax⟩:=hl
   simp only[lenA,a02]at T;subst T
   obtain⟨l,hμ,hc⟩:=hx.slice_inv
   obtain⟨U,Z,hr,Y⟩:=gW (P:=P) h hμ E
   rcases hc with⟨_,rfl⟩|⟨e',o',k',_,rfl,a9,_,a1,_⟩|⟨hz,_,_⟩
   rotate_right
   ·omega
   ·exact⟨U,by simp only[Builtin.firstCells,Z],hr,Y⟩
   rw[a1 (by omega)]
   exact⟨U,by simp only[Builtin.firstCells,Z],hr,Y⟩
 ·rename_i n k;cases O:Nat.beq m 0 with
  |false=>rw[O]at E;cases E
  |true=>
   rw[O]at E
   simp only[cond_true,a02]at E;subst E
   have hm:m=0:=a07 O
   subst hm
   obtain⟨_,_,rfl⟩:=hx.sliceNil_inv
   exact⟨[],by simp[Builtin.firstCells],.nil,by simp⟩
 ·rename_i s;cases O:Nat.beq sz 1 with
  |false=>rw[O]at E;cases E
  |true=>
   rw[O]at E
   simp only[cond_true,a02,j3,bX]at E;subst E
   have hs:sz=1:=a07 O
   subst hs
   obtain rfl:=hx.string_inv
   obtain⟨m0,T,ax⟩:=hl
   simp only[lenA,bK,a02]at T;subst T
   refine⟨(s.data.toList.take m).map fun b=> .int .u8 b.toNat,?_,LRel.refl0 ?_,?_⟩
   ·simp only[Builtin.firstCells,Sem.run_pure,e9];congr 1;apply Array.ext';simp
   ·rw[a0l];intro u hu;obtain⟨c,_,rfl⟩:=a0t.1 hu;rfl
   simp at ax⊢;omega
 cases E
theorem growBy_le(E:Nat): ∀(r c:Nat),c<=E+(E+768)/4->Builtin.growBy E r c<=E+(E+768)/4
 |0,c,h=>h
 |r+1,c,h=>by
  simp only[Builtin.growBy];split
  ·exact h
  exact growBy_le E r _ (by omega)
theorem nextcap_le{n k:Nat}(h:k<n):Builtin.nextslicecap n k<=2 *n+768:=by
 unfold Builtin.nextslicecap;split
 ·omega
 split
 ·omega
 have:=growBy_le n 4 k (by omega);omega
theorem dl{z:Array Value}{sz:Nat}(h:z.size=sz)(n:Nat):(Builtin.zeroCells z n).toList.length=n *sz:=by simp[Builtin.zeroCells,h]
theorem ic{st E ty e:TypeId}{O:TypeDesc}{h:Value}{base:Option Addr}{n m k sz:Nat}{i:TypeInfo}{z:Value}{old T:List Value}
  (hu:P.underlying st=some (.slice e)) (a4:P.underlying E=some O) (a2: ∀kk,O≠ .int kk) (hi:P.info? e=some i) (hs:i.size=sz) (hz:i.zero=some z)
  (U:(Builtin.lenOf h).run P w= .ok m w) (a1:k<n+m) (a9:n+m<=2147483648) (ax:i.bytes<=4096)
  (al:(Builtin.firstCells sz n (.slice base n k)).run P w.drew= .ok ⟨old⟩ w.drew) (Y:(Builtin.firstCells sz m h).run P w.drew= .ok ⟨T⟩ w.drew):
  ∃nc,n+m<=nc/\(Builtin.append_ #[st,E] ty #[.slice base n k,h]).run P w=
   .ok (.slice (some ⟨w.heap.size,0,none⟩) (n+m) nc) (w.drew.alloc (.cells (⟨old⟩++⟨T⟩++Builtin.zeroCells z.cells (nc-(n+m))) e)):=by
 have a3:dJ P e=some sz:=by unfold dJ;rw[hi,←hs]
 have a5:=nextcap_le a1
 have Z: ¬(Builtin.nextslicecap (n+m) k *i.bytes>2^48):=by
  have:Builtin.nextslicecap (n+m) k *i.bytes<=(2 *2147483648+768) *4096:=Nat.mul_le_mul (by omega) ax;have bb:(2:Nat)^48=281474976710656:=by decide
  omega
 have ar: ¬(((n+m:Nat):Int)>IntKind.i64.max/\(False\/i.bytes=0)):=by rw[IntKind.max_i64];omega
 refine⟨(Question.appendCap (n+m) k e).cut (w.tape w.drawn (.appendCap (n+m) k e)),by simp[Question.cut],?_⟩
 have b0:(match O with| .int _=>true|_=>false)=false:=by cases O<;>first|rfl|exact absurd rfl (a2 _)
 have e1: ∀a b:Value,(#[a,b]:Array Value)[0]?=some a/\(#[a,b]:Array Value)[1]?=some b:=fun a b=>⟨rfl,rfl⟩
 unfold Builtin.append_
 simp only[show(#[st,E]:Array TypeId)[0]?=some st from rfl,show(#[st,E]:Array TypeId)[1]?=some E from rfl,
  show(#[Value.slice base n k,h]:Array Value)[0]?=some (Value.slice base n k) from rfl,show(#[Value.slice base n k,h]:Array Value)[1]?=some h from rfl,
  Sem.run_bind,ao w hu,ao w a4,Result.andThen_ok,bj w a3,Sem.run_pure,a0i,if_false,U,
  show ¬(n+m<=k) by omega,ft w hi,Z,ar]
 simp only[Sem.run_bind,run_choose,Question.forced,a0i,if_false,Result.andThen_ok,World.drew_eq,ft w.drew hi,run_askRoom,al,Y,a1E,if_true,
  fq w.drew hi hz,newRow,run_newObj,Sem.run_pure]
 rfl
theorem fC{st E ty e:TypeId}{O:TypeDesc}{h:Value}{base:Option Addr}{n m k sz:Nat}{T:List Value}{w':World}
  (hu:P.underlying st=some (.slice e)) (ax:P.underlying E=some O) (al: ∀kk,O≠ .int kk) (hs:dJ P e=some sz)
  (U:(Builtin.lenOf h).run P w= .ok m w) (Z:n+m<=k) (Y:(Builtin.firstCells sz m h).run P w= .ok ⟨T⟩ w)
  (ar: ∀a,base=some a->(storeCells (a.add (n *sz)) T).run P w= .ok () w') (an:base=none->w'=w):
  (Builtin.append_ #[st,E] ty #[.slice base n k,h]).run P w= .ok (.slice base (n+m) k) w':=by
 have a3:(match O with| .int _=>true|_=>false)=false:=by cases O<;>first|rfl|exact absurd rfl (al _)
 unfold Builtin.append_
 simp only[show(#[st,E]:Array TypeId)[0]?=some st from rfl,show(#[st,E]:Array TypeId)[1]?=some E from rfl,
  show(#[Value.slice base n k,h]:Array Value)[0]?=some (Value.slice base n k) from rfl,show(#[Value.slice base n k,h]:Array Value)[1]?=some h from rfl,
  Sem.run_bind,ao w hu,ao w ax,Result.andThen_ok,bj w hs,Sem.run_pure,a0i,if_false,U,Z,if_true,a1E,Y]
 cases base with
 |none=>rw[an rfl];rfl
 |some a=>simp only[Sem.run_bind,ar a rfl,Result.andThen_ok,Sem.run_pure]
theorem Post.kill(h:WRel μ H w){b:Nat}{l:Loc}{o:AObj}(hb:μ b=some l)(ho:H.get b=some o)(hr:o.rw=true):Post μ H w μ (H.put b .dead) w:=by
 refine⟨fun _ _ h=>h,fun _ _ h=> .inl h,a06 _,rfl,rfl,rfl,fun _ _ _=>rfl,fun k x Z T E a7=>?_,⟨fun k x Z T E=>?_,fun b1 b2 l1 l2 Y o2 a2 ar ax a3 a4 a6 U=>?_⟩⟩
 ·by_cases e:b=k
  ·subst e;exact .inr ⟨b,l,o,hb,ho,gM hr,fun _=>hr,by rw[hb]at T;injection T with T;rw[T]⟩
  rw[Heap.get_put_ne H _ e]at E;exact .inr ⟨k,x,Z,T,E,a7,id,rfl⟩
 ·by_cases e:b=k
  ·subst e;rw[Heap.get_put_same]at E;injection E with E;subst E;trivial
  rw[Heap.get_put_ne H _ e]at E;exact h.obj k x Z T E
 have old: ∀k ok,ok.live=true->(H.put b .dead).get k=some ok->H.get k=some ok:=by
  intro k ok a1 O;by_cases e:b=k
  ·subst e;rw[Heap.get_put_same]at O;injection O with O;subst O;simp[AObj.live]at a1
  rw[Heap.get_put_ne H _ e]at O;exact O
 exact h.inj b1 b2 l1 l2 Y o2 a2 ar ax (old b1 Y (by cases Y<;>simp_all[AObj.rw,AObj.live]) a3) (old b2 o2 U a4) a6 U
theorem szOf_info{e:TypeId}{s:Nat}(h:dJ P e=some s): ∃i,P.info? e=some i/\i.size=s:=by
 unfold dJ at h;split at h
 ·rename_i i hi;injection h with h;exact⟨i,hi,h⟩
 cases h
theorem dT(a b:List Value)(c:Array Value):(⟨a⟩++⟨b⟩++c:Array Value)=⟨(a++b)++c.toList⟩:=by apply Array.ext';simp
theorem append_sound{types:Array TypeId}{ty:TypeId}{s x s' x' v:Value}(h:WRel μ H w)(hf: ∀b,H.next<=b->b<H'.next->μ b=none)
  (hs:VRel μ s s') (hx:VRel μ x x') (e0:types.size=2) (E:fH P types s x H=some (v,H')):
  ∃v' w' μ',(Builtin.append_ types ty #[s',x']).run P w= .ok v' w'/\Post μ H w μ' H' w'/\VRel μ' v v':=by
 obtain⟨tl⟩:=types
 match tl,e0 with
 | [st,xt],_=>
 unfold fH at E
 simp only[show(#[st,xt]:Array TypeId)[0]?=some st from rfl,show(#[st,xt]:Array TypeId)[1]?=some xt from rfl]at E
 split at E
 ·rename_i e xd hu a3;split at E
  ·cases E
  rename_i a2;split at E
  ·rename_i sz fb z m b3 gs hz hm;obtain⟨i,vz,hi,c5,fz,ht⟩:=fg (P:=P) hz;obtain⟨i2,dt,hG⟩:=bytesOf_info gs;rw[hi]at dt;injection dt with dt;subst dt;obtain⟨i3,d1,c3⟩:=szOf_info b3;rw[hi]at d1;injection d1 with d1;subst d1;have Z:(Builtin.lenOf x').run P w= .ok m w:=lenA_run hm hx;split at E
   ·cases E
   rename_i c7 ea;obtain⟨T,a1,a6,an⟩:=eL (P:=P) h hx ⟨m,hm,a06 _⟩ ea;obtain⟨hA,a5,a4,_⟩:=eL (P:=P) h.drew hx ⟨m,hm,a06 _⟩ ea;split at E
   ·--nil
    obtain rfl:=hs.eq0 rfl;cases hq:Nat.beq m 0 with
    |true=>
     rw[hq]at E
     simp only[cond_true,a02,a05]at E
     obtain⟨rfl,rfl⟩:=E
     have c0:m=0:=a07 hq
     subst c0
     exact⟨_,w,μ,fC (w':=w) hu a3 (fun kk=>a2 kk) b3 Z (a06 _) a1 (fun a ha=>by cases ha) (fun _=>rfl),Post.refl h,.atom _ rfl⟩
    |false=>
     rw[hq]at E
     simp only[cond_false]at E
     have c0:m≠0:=fun e=>by subst e;cases hq
     cases b1:(Nat.beq (ji z) sz&&Nat.ble m 2147483648&&Nat.ble fb 4096&& !Nat.beq sz 0) with
     |false=>rw[b1]at E;cases E
     |true=>
      rw[b1]at E
      simp only[cond_true,a02,a05]at E
      obtain⟨rfl,rfl⟩:=E
      simp only[a04,a0S]at b1
      obtain⟨⟨⟨q1,q2⟩,q3⟩,q4⟩:=b1
      have q1:z.length=sz:=by rw[←bK];exact a07 q1
      have q2:=a0d q2
      have q3:=a0d q3
      obtain⟨nc,a8,O⟩:=ic (P:=P) (w:=w) (ty:=ty) (base:=none) (n:=0) (k:=0) (old:=[]) hu a3 (fun kk=>a2 kk) hi c3 c5 Z (by omega) (by omega) (by omega) (by simp[Builtin.firstCells]) a5
      simp only[a0A]at O a8
      rw[dT,a0z]at O
      obtain⟨l,h1,h2,h3,h4,_,hp⟩:=dg (P:=P) h.drew (hf H.next (a06 _) (by simp[aT])) e a4 (Builtin.zeroCells vz.cells (nc-m)).toList (some sz) (fun e=>by cases e)
      refine⟨_,_,_,O,(Post.drew h).trans hp (a06 _) (by simp[aT]),?_⟩
      have:=VRel.sliceO (μ:=μ.set H.next l) H.next 0 0 m m nc sz l (Emb.set_same _ _ _) h3 (a06 _) a8 (fun _=>by omega) (by
       rw[h4,dl (show vz.cells.size=sz by rw[←q1,←fz];simp),an,a0A,←a0M];exact a0x _ (by omega))
      rw[h1]at this;exact this
   ·--a slice
    rename_i b o n k;obtain⟨l,hμ,hc⟩:=hs.slice_inv;split at E
    ·rename_i cs g6 ro hg;have dd:l.opn=g6:=by
      have:=h.obj b l _ hμ hg;cases ro
      ·exact this.1
      exact this.1
     cases hq:Nat.ble (n+m) k with
     |true=>
      rw[hq]at E
      simp only[cond_true]at E
      have d2:n+m<=k:=a0d hq
      cases d4:Nat.beq m 0 with
      |true=>
       rw[d4]at E
       simp only[cond_true,a02,a05]at E
       obtain⟨rfl,rfl⟩:=E
       have c0:m=0:=a07 d4
       subst c0
       have g2:T=[]:=a0g (by rw[←a6.1,an];simp)
       subst g2
       rcases hc with⟨Y,rfl⟩|⟨e',o',k',Y,rfl,fu,d9,b6,ds⟩|⟨rfl,rfl,a',rfl⟩
       rotate_right
       ·exact⟨_,w,μ,fC (w':=w) hu a3 (fun kk=>a2 kk) b3 Z d2 a1 (fun a ha=>rfl) (fun e=>by cases e),Post.refl h,hs⟩
       ·exact⟨_,w,μ,fC (w':=w) hu a3 (fun kk=>a2 kk) b3 Z d2 a1 (fun a ha=>rfl) (fun e=>by cases e),Post.refl h,hs⟩
       exact⟨_,w,μ,fC (w':=w) hu a3 (fun kk=>a2 kk) b3 Z (by omega) a1 (fun a ha=>rfl) (fun e=>by cases e),Post.refl h,hs⟩
      |false=>
       rw[d4]at E
       simp only[cond_false]at E
       have c0:m≠0:=fun e=>by subst e;cases d4
       split at E
       ·rename_i h1 g5;simp only[a02,a05]at E;obtain⟨rfl,rfl⟩:=E;obtain⟨w',O,hp⟩:=iS (P:=P) h hμ g5 a6;rcases hc with⟨Y,rfl⟩|⟨e',o',k',Y,rfl,fu,d9,b6,ds⟩|⟨rfl,rfl,a',rfl⟩
        rotate_right
        ·omega
        ·refine⟨_,w',μ,fC (w':=w') hu a3 (fun kk=>a2 kk) b3 Z d2 a1 (fun a ha=>?_) (fun e=>by cases e),hp,.sliceC b o _ _ l hμ Y⟩;injection ha with ha;subst ha;rw[cW,a0E];exact O
        refine⟨_,w',μ,fC (w':=w') hu a3 (fun kk=>a2 kk) b3 Z (by omega) a1 (fun a ha=>?_) (fun e=>by cases e),hp,.sliceO b o o' _ _ _ e' l hμ Y d2 d9 b6 ds⟩;injection ha with ha;subst ha;rw[cW,b6 (by omega),a0E];exact O
       cases E
     |false=>
      rw[hq]at E
      simp only[cond_false]at E
      have fl:k<n+m:=by
       rcases a0k k (n+m) with h'|h'
       ·exact h'
       rw[a0u h']at hq;cases hq
      cases b1:(Nat.beq (ji z) sz&&Nat.ble (n+m) 2147483648&&Nat.ble fb 4096&& !Nat.beq sz 0&&Nat.ble n k) with
      |false=>rw[b1]at E;cases E
      |true=>
       rw[b1]at E
       simp only[cond_true]at E
       simp only[a04,a0S]at b1
       obtain⟨⟨⟨⟨q1,q2⟩,q3⟩,q4⟩,q5⟩:=b1
       have q1:z.length=sz:=by rw[←bK];exact a07 q1
       have q2:=a0d q2
       have q3:=a0d q3
       have q5:=a0d q5
       have hJ:sz≠0:=fun e=>by rw[e]at q4;cases q4
       have cv:vz.cells.size=sz:=by rw[←q1,←fz];simp
       split at E
       ·cases E
       rename_i old ar
       obtain⟨hB,hn,hl,a7⟩:=eL (P:=P) h hs ⟨n,rfl,a06 _⟩ ar
       obtain⟨hC,b0,bb,_⟩:=eL (P:=P) h.drew hs ⟨n,rfl,a06 _⟩ ar
       split at E
       ·--exact
        simp only[a02,a05]at E;obtain⟨rfl,rfl⟩:=E;rcases hc with⟨Y,rfl⟩|⟨e',o',k',Y,rfl,_⟩|⟨rfl,rfl,a',rfl⟩
        rotate_right
        ·obtain⟨nc,a8,O⟩:=ic (P:=P) (w:=w) (ty:=ty) hu a3 (fun kk=>a2 kk) hi c3 c5 Z fl q2 (by omega) b0 a5;rw[dT]at O;obtain⟨l',h1,h2,h3,h4,_,hp⟩:=dg (P:=P) h.drew (hf H.next (a06 _) (by simp[aT])) e (bb.append a4) (Builtin.zeroCells vz.cells (nc-(0+m))).toList (some sz) (fun e=>by cases e);rw[dG];refine⟨_,_,_,O,(Post.drew h).trans hp (a06 _) (by simp[aT]),?_⟩;have:=VRel.sliceO (μ:=μ.set H.next l') H.next 0 0 (0+m) (0+m) nc sz l' (Emb.set_same _ _ _) h3 (a06 _) a8 (fun _=>by omega) (by
          rw[h4,dl cv,a00,a7,an,a0A,←a0M,←a0M];exact a0x _ (by omega))
         rw[h1]at this;exact this
        ·obtain⟨nc,a8,O⟩:=ic (P:=P) (w:=w) (ty:=ty) hu a3 (fun kk=>a2 kk) hi c3 c5 Z fl q2 (by omega) b0 a5;rw[dT]at O;obtain⟨l',h1,h2,h3,h4,_,hp⟩:=dg (P:=P) h.drew (hf H.next (a06 _) (by simp[aT])) e (bb.append a4) (Builtin.zeroCells vz.cells (nc-(n+m))).toList (some sz) (fun e=>by cases e);rw[dG];refine⟨_,_,_,O,(Post.drew h).trans hp (a06 _) (by simp[aT]),?_⟩;have:=VRel.sliceO (μ:=μ.set H.next l') H.next 0 0 (n+m) (n+m) nc sz l' (Emb.set_same _ _ _) h3 (a06 _) a8 (fun _=>by omega) (by
          rw[h4,dl cv,a00,a7,an,a0A,←a0M,←a0M];exact a0x _ (by omega))
         rw[h1]at this;exact this
        rw[dd]at Y;cases Y
       ·--open
        rename_i U;cases d5:(Nat.beq U sz&& !ro&&allL Value.oneCell' c7) with
        |false=>rw[d5]at E;cases E
        |true=>
         rw[d5]at E
         simp only[cond_true,a02,a05]at E
         obtain⟨rfl,rfl⟩:=E
         simp only[a04,a0S]at d5
         obtain⟨⟨q6,q7⟩,q8⟩:=d5
         have q6:U=sz:=a07 q6
         subst q6 q7
         rcases hc with⟨Y,rfl⟩|⟨e',o',k',Y,rfl,fu,d9,b6,ds⟩|⟨rfl,rfl,a',rfl⟩
         rotate_right
         ·have b9:μ H.next=none:=hf H.next (a06 _) (by simp[aT]);obtain⟨nc,a8,O⟩:=ic (P:=P) (w:=w) (ty:=ty) hu a3 (fun kk=>a2 kk) hi c3 c5 Z (by omega) q2 (by omega) b0 a5;rw[dT]at O;have hk:=Post.kill h hμ hg rfl;obtain⟨l',h1,h2,h3,h4,_,hp⟩:=dg (P:=P) (H:=H.put b .dead) hk.wrel.drew b9 e (bb.append a4) (Builtin.zeroCells vz.cells (nc-(0+m))).toList (some U) (fun e=>by cases e);rw[dG];refine⟨_,_,_,O,(hk.trans (Post.drew hk.wrel) (a06 _) (a06 _)).trans hp (a06 _) (by simp[aT]),?_⟩;have:=VRel.sliceO (μ:=μ.set H.next l') H.next 0 0 (0+m) (0+m) nc U l' (Emb.set_same _ _ _) h3 (a06 _) a8 (fun _=>by omega) (by
           rw[h4,dl cv,a00,a7,an,a0A,←a0M,←a0M];exact a0x _ (by omega))
          rw[h1]at this;exact this
         ·rw[dd]at Y;cases Y
         rw[dd]at Y;injection Y with Y;subst Y
         have b9:μ H.next=none:=hf H.next (a06 _) (by simp[aT])
         by_cases d8:n+m<=k'
         ·--in place
          obtain⟨r1,a9,et,hh,r2,r3,r4⟩:=h.obj b l _ hμ hg;have d3:T.length=m *U:=by rw[←a6.1];exact an
          have hI:m≠0:=by omega
          have g4:T≠ []:=fun e=>by rw[e]at d3;have:=Nat.mul_eq_zero.1 d3.symm;omega
          have e7:T.all Value.oneCell'=true:=by
           rw[a0l];intro u ch;obtain⟨j,hj⟩:=List.getElem?_of_mem ch;have fi:j<c7.length:=by rw[a6.1];exact(a0q.1 hj).1
           have hr:=a6.2 j c7[j] u (a09 fi) hj;rw[hr.oneCell];rw[mq]at q8;exact a0l.1 q8 _ (a0J fi)
          have c8:o'+n *U+T.length<=a9.size:=by rw[d3,r2];have:(n+m) *U<=k' *U:=a0x _ d8;rw[a0M]at this;omega
          have c4:=dv (P:=P) l.c et T w a9 (o'+n *U) 0 hh (by omega) e7 g4;simp only[Nat.add_zero]at c4;have f2:(bB a9.toList (o'+n *U) T).length=a9.size:=by rw[cm _ _ _ (by simpa using c8)];simp
          have e8:=Post.take h hμ hg rfl b9 ⟨l.c,o',some U,l.csz⟩ rfl (.cells (appL old c7) (some U) false) (.cells ⟨bB a9.toList (o'+n *U) T⟩ et (0,0)) (by
           refine⟨rfl,_,et,cM w _ (cO hh),by show(bB a9.toList (o'+n *U) T).length=_;rw[f2,r2],?_,fun j u hj=>?_⟩
           ·rw[dG,a00,a7,an];show o'+_<=l.csz;rw[←r2];rw[d3]at c8;omega
           rw[dG]at hj;have mg: ∀v':Value,(bB a9.toList (o'+n *U) T)[o'+j]?=some v'->(Array.mk (bB a9.toList (o'+n *U) T))[o'+j]?=some v':=fun v' hv=>(j1 _ _).trans hv
           rw[bA _ _ _ _ (by simpa using c8)]at mg;by_cases fk:j<n *U
           ·rw[a17 (by omega)]at hj;rw[if_neg (by omega)]at mg;have g3:n≠0:=fun e=>by subst e;simp at fk
            unfold gf at ar;have go:Nat.beq n 0=false:=by
             cases gm:Nat.beq n 0 with
             |false=>rfl
             |true=>exact absurd (a07 gm) g3
            rw[go]at ar;simp only[cond_false,Heap.loadN,hg,bX,cr,bK]at ar;cases fd:Nat.beq ((cs.drop o).take (n *U)).length (n *U) with
            |false=>rw[fd]at ar;cases ar
            |true=>
             rw[fd]at ar
             simp only[cond_true,a02]at ar
             rw[←ar,a0v,if_pos fk,a0D]at hj
             obtain⟨u',ch,hr⟩:=r4 (o+j) u hj
             refine⟨u',mg u' ?_,hr.mono (Emb.set_ext _ b9)⟩
             have:o'+j=l.sh+(o+j):=by have:=b6 (by omega);omega
             rw[this];simpa using ch
           rw[a1d (by omega),a7]at hj;obtain⟨u',ch,hr⟩:=a6.get hj;have hH:j-n *U<T.length:=(a0q.1 ch).1;rw[if_pos (by omega)]at mg;exact⟨u',mg u' (by rw[←ch];congr 1;omega),hr.mono (Emb.set_ext _ b9)⟩)
          refine⟨.slice (some ⟨l.c,o',none⟩) (n+m) k',_,_,fC (w':=bl w l.c (.cells ⟨bB a9.toList (o'+n *U) T⟩ et (0,0))) hu a3 (fun kk=>a2 kk) b3 Z d8 a1 (fun a ha=>?_) (fun e=>by cases e),e8,?_⟩
          ·injection ha with ha;subst ha;rw[cW];exact c4
          exact VRel.sliceO (μ:=μ.set H.next ⟨l.c,o',some U,l.csz⟩) H.next 0 o' (n+m) (n+m) k' U ⟨l.c,o',some U,l.csz⟩ (Emb.set_same _ _ _) rfl (a06 _) d8 (fun _=>rfl) ds
         ·--a c7 row
          obtain⟨nc,a8,O⟩:=ic (P:=P) (w:=w) (ty:=ty) hu a3 (fun kk=>a2 kk) hi c3 c5 Z (by omega) q2 (by omega) b0 a5;rw[dT]at O;have hk:=Post.kill h hμ hg rfl;obtain⟨l',h1,h2,h3,h4,_,hp⟩:=dg (P:=P) (H:=H.put b .dead) hk.wrel.drew b9 e (bb.append a4) (Builtin.zeroCells vz.cells (nc-(n+m))).toList (some U) (fun e=>by cases e);rw[dG];refine⟨_,_,_,O,(hk.trans (Post.drew hk.wrel) (a06 _) (a06 _)).trans hp (a06 _) (by simp[aT]),?_⟩;have:=VRel.sliceO (μ:=μ.set H.next l') H.next 0 0 (n+m) (n+m) nc U l' (Emb.set_same _ _ _) h3 (a06 _) a8 (fun _=>by omega) (by
           rw[h4,dl cv,a00,a7,an,a0A,←a0M,←a0M];exact a0x _ (by omega))
          rw[h1]at this;exact this
    cases E
   cases E
  cases E
 cases E
end
end Go.R
namespace Go.R
section
variable {P:Program} {μ:Emb} {H H':Heap} {w:World}
theorem len_sound{t ty:TypeId}{x x' v:Value}(h:WRel μ H w)(U:VRel μ x x')(E:aLen P t x H=some v):
  (Builtin.len_ #[t] ty #[x']).run P w= .ok v w/\de v=true:=by
 unfold aLen at E
 split at E
 ·rename_i e a n k O;injection E with E;subst E;obtain⟨a',k',rfl,_⟩:=eK U;exact⟨by simp[Builtin.len_,ao w O],rfl⟩
 ·rename_i s O;injection E with E;subst E;obtain rfl:=U.string_inv;exact⟨by simp[Builtin.len_,ao w O,bK],rfl⟩
 ·rename_i k e O;injection E with E;subst E;obtain rfl:=U.mapNil_inv;exact⟨by simp[Builtin.len_,ao w O],rfl⟩
 ·rename_i k e r O;split at E
  ·rename_i es hg;injection E with E;subst E;obtain⟨l,hμ,rfl⟩:=U.map_inv;obtain⟨Z,T,hh,hl,_⟩:=h.obj r l _ hμ hg;have Y:(getObj l.c).run P w= .ok (.map Z T) w:=run_getObj hh (by intros;simp);exact⟨by simp[Builtin.len_,ao w O,Y,hl],rfl⟩
  cases E
 cases E
theorem fM: ∀(l:List Value) (r:List UInt8) (s:ByteArray),bM l=some r->
  (forIn (m:=Sem) l s (fun c s=>match c with
   | .int .u8 n=>Pure.pure (ForInStep.yield (s.push (UInt8.ofNat n.toNat)))
   |_=>do stuck "bytesToString: byte expected";Pure.pure (ForInStep.yield s))).run P w= .ok ⟨⟨s.data.toList++r⟩⟩ w
 | [],r,s,h=>by simp only[bM,a02]at h;subst h;simp
 |v::l,r,s,h=>by
  unfold bM at h;split at h
  ·rename_i E;cases E
  ·rename_i n U E;injection E with h1 h2;subst h1 h2;split at h
   ·rename_i T O;injection h with h;subst h;have ih:=fM l T (s.push (UInt8.ofNat n.toNat)) O;simp only[List.forIn_cons,Sem.run_bind,Sem.run_pure,Result.andThen_ok,ih];congr 3;simp
   cases h
  cases h
theorem eM: ∀(l:List Value) (r:List UInt8),bM l=some r->l.all de=true
 | [],_,_=>rfl
 |v::l,r,h=>by
  unfold bM at h;split at h
  ·rename_i E;cases E
  ·rename_i n U E;injection E with h1 h2;subst h1 h2;split at h
   ·rename_i T O;simp only[a0R,de,a1j];exact eM l T O
   cases h
  cases h
theorem mb{ρ ρ':Operand->Value}{o:Oper}{s d:TypeId}{x:Operand}{r:AN}(h:WRel μ H w)(ax:o.op= .convert s d x)(hρ: ∀x∈o.op.operands,VRel μ (ρ x) (ρ' x))
  (ho:eO P ρ o s d (ρ x) H=some (r,H')):OpOK P μ H w (execOp ρ' o) r H':=by
 have Z:VRel μ (ρ x) (ρ' x):=hρ x (by rw[ax];simp[Op.operands])
 have al:execOp ρ' o=(do Pure.pure (.value (←convert s d (ρ' x)))):=by unfold execOp;simp only[ax]
 unfold eO at ho
 split at ho
 ·rename_i k n hv;rw[hv]at Z;obtain⟨rfl,v,E,rfl⟩:=cx ho;unfold mc at E;split at E
  ·rename_i sd kd U T;injection E with E;subst E;rw[al];refine OpOK.value (v':= .int kd (kd.wrap n)) ?_ (Post.refl h) (.atom _ rfl);rw[Z.int_inv];simp[convert,ao w U,ao w T,Conv.intToInt]
  cases E
 ·rename_i a n k hv;rw[hv]at Z;obtain⟨rfl,v,E,rfl⟩:=cx ho;rw[al];unfold cH at E;split at E
  ·rename_i e U T;split at E
   ·rename_i a1;split at E
    ·injection E with E;subst E;obtain⟨_,_,O⟩:=Z.sliceNil_inv;refine OpOK.value (v':= .string .empty) ?_ (Post.refl h) (.atom _ rfl);rw[O];simp[convert,ao w U,ao w T,ao w a1,Conv.bytesToString]
    rename_i a;obtain⟨b,o2,sp⟩:=a;have bb:sp=none:=Z.slice_some.1;subst bb;cases hq:Nat.beq n 0 with
    |true=>
     rw[hq]at E
     simp only[cond_true,a02]at E;subst E
     have hn:n=0:=a07 hq
     subst hn
     obtain⟨_,a',k',O⟩:=Z.slice_some
     refine OpOK.value (v':= .string .empty) ?_ (Post.refl h) (.atom _ rfl)
     rw[O]
     simp[convert,ao w U,ao w T,ao w a1,Conv.bytesToString,loadCells,loadCellsFrom]
    |false=>
     rw[hq]at E
     simp only[cond_false]at E
     have hn:n≠0:=fun e=>by subst e;cases hq
     split at E
     ·rename_i l hl;split at E
      ·rename_i rb a4;injection E with E;subst E;obtain⟨l0,hμ,hc⟩:=Z.slice_inv;obtain⟨a5,Y,a8,b4⟩:=gW (P:=P) h hμ hl;have b0:a5=l:=a8.eq0 (eM l rb a4);subst b0;have O: ∃k',ρ' x= .slice (some ⟨l0.c,l0.sh+o2,none⟩) n k':=by
        rcases hc with⟨_,he⟩|⟨e',o',k',_,he,b9,_,a7,_⟩|⟨hz,_,_⟩
        rotate_right
        ·exact absurd hz hn
        ·exact⟨k,he⟩
        rw[a7 (by omega)]at he;exact⟨k',he⟩
       obtain⟨k',O⟩:=O;refine OpOK.value (v':= .string ⟨⟨rb⟩⟩) ?_ (Post.refl h) (.atom _ rfl);rw[O];have hb:=fM (P:=P) (w:=w) a5 rb .empty a4;simp only[convert,Sem.run_bind,ao w U,ao w T,ao w a1,Result.andThen_ok,Conv.bytesToString,Y];have he:((ByteArray.empty.data.toList++rb:List UInt8))=rb:=rfl;rw[he]at hb;simp only[←Array.forIn_toList]at *
       exact congrArg (fun r=>Result.andThen r fun a w'=>Sem.run P (Pure.pure (Value.string a)) w') hb
      cases E
     cases E
   cases E
  cases E
 obtain⟨rfl,v,v',rfl,Y,hr⟩:=dw ho (fun _ _=>by rw[ax];simp) hρ
 exact⟨.value v',w,μ,Y w,Post.refl h,hr⟩
def EntRel(μ:Emb)(es:List (Value×Value))(h:List MapEntry):Prop:=
 es.length=h.length/\∀(i:Nat) x y,es[i]?=some x->h[i]?=some y->VRel μ x.1 y.key/\VRel μ x.2 y.val
theorem callee_sound{f f':Value}{args:List Value}{E:Array Value}{r:AN}(hf:VRel μ f f')(ha:LRel μ args E.toList)(h:hO P f args=some r):
  ∃i U,r= .enter i U/\∃T,(∀w,(do let d ←Deferred.ofValue f' E;invoke d.target d.args:Sem Next).run P w= .ok (.enter i T) w)/\LRel μ U T.toList:=by
 unfold hO at h
 split at h
 ·rename_i i first al;obtain⟨Z,O,rfl,h1,h2⟩:=hf.func_inv;split at h
  ·rename_i fn ax;cases Y:(fn.body.isSome&& !(fn.name== "runtime.NumGoroutine")) with
   |false=>rw[Y]at h;cases h
   |true=>
    rw[Y]at h
    simp only[cond_true,a02]at h;subst h
    simp only[a04,a0S]at Y
    refine⟨i,_,rfl,(Z++E)++O,fun w=>?_,?_⟩
    ·have hb: ¬fn.body=none:=by intro ar;rw[ar]at Y;cases Y.1
     have a1: ¬fn.name= "runtime.NumGoroutine" :=by have:=Y.2;simpa using this
     simp[Deferred.ofValue,invoke,callFunc,ax,a1,hb]
    rw[dG,dG]
    have:=(h1.append (ha.append h2))
    simpa using this
  cases h
 cases h
end
end Go.R
