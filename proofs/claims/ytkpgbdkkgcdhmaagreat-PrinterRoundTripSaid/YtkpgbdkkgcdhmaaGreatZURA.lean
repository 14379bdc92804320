/-
The evaluator is sound: values, operations, memory.
-/
import Derived.Test.YtkpgbdkkgcdhmaaGreatZUR0
import Derived.IntWalk
set_option linter.unusedVariables false
set_option linter.unusedSimpArgs false
namespace Go.R
open List renaming getD→N,length→J
structure Loc where
 c:Nat
 sh:Nat
 opn:Option Nat
 csz:Nat
abbrev Emb:=Nat->Option Loc
inductive VRel(μ:Emb):Value->Value->Prop
 |atom (v:Value):dG v=true->VRel μ v v
 |ptr (b o:Nat) (l:Loc):μ b=some l->VRel μ (.pointer (some ⟨b,o,none⟩)) (.pointer (some ⟨l.c,l.sh+o,none⟩))
 |sliceC (b o n k:Nat) (l:Loc):μ b=some l->l.opn=none->VRel μ (.slice (some ⟨b,o,none⟩) n k) (.slice (some ⟨l.c,l.sh+o,none⟩) n k)
 |sliceO (b o o' n k k' e:Nat) (l:Loc):μ b=some l->l.opn=some e->n<=k->k<=k'->(0<k->o'=l.sh+o)->o'+k' *e<=l.csz->
   VRel μ (.slice (some ⟨b,o,none⟩) n k) (.slice (some ⟨l.c,o',none⟩) n k')
 |sliceZ (b o:Nat) (a:Addr) (l:Loc):μ b=some l->VRel μ (.slice (some ⟨b,o,none⟩) 0 0) (.slice (some a) 0 0)
 |map (b:Nat) (l:Loc):μ b=some l->VRel μ (.map (some b)) (.map (some l.c))
 |func (fn:Fn) (xs ys xs' ys':Array Value):J xs.toList=J xs'.toList->J ys.toList=J ys'.toList->
   (∀(i:Nat) v v',xs.toList[i]?=some v->xs'.toList[i]?=some v'->VRel μ v v')->
   (∀(i:Nat) v v',ys.toList[i]?=some v->ys'.toList[i]?=some v'->VRel μ v v')->VRel μ (.func fn xs ys) (.func fn xs' ys')
 |agg (xs xs':Array Value):J xs.toList=J xs'.toList->
   (∀(i:Nat) v v',xs.toList[i]?=some v->xs'.toList[i]?=some v'->VRel μ v v')->VRel μ (.agg xs) (.agg xs')
 |tuple (xs xs':Array Value):J xs.toList=J xs'.toList->
   (∀(i:Nat) v v',xs.toList[i]?=some v->xs'.toList[i]?=some v'->VRel μ v v')->VRel μ (.tuple xs) (.tuple xs')
def LRel(μ:Emb)(l l':List Value):Prop:=J l=J l'/\∀(i:Nat) v v',l[i]?=some v->l'[i]?=some v'->VRel μ v v'
section
variable {μ μ':Emb}
theorem VRel.ac(h: ∀b l,μ b=some l->μ' b=some l){v v'}(E:VRel μ v v'):VRel μ' v v':=by
 induction E with
 |atom v h0=>exact .atom v h0
 |ptr b o l hb=>exact .ptr b o l (h _ _ hb)
 |sliceC b o n k l hb ho=>exact .sliceC b o n k l (h _ _ hb) ho
 |sliceO b o o' n k k' e l hb ho h1 h2 h3 h4=>exact .sliceO b o o' n k k' e l (h _ _ hb) ho h1 h2 h3 h4
 |sliceZ b o a l hb=>exact .sliceZ b o a l (h _ _ hb)
 |map b l hb=>exact .map b l (h _ _ hb)
 |func fn xs ys xs' ys' h1 h2 _ _ i1 i2=>exact .func fn xs ys xs' ys' h1 h2 i1 i2
 |agg xs xs' h1 _ i1=>exact .agg xs xs' h1 i1
 |tuple xs xs' h1 _ i1=>exact .tuple xs xs' h1 i1
theorem LRel.nil:LRel μ [] []:=⟨V,λi v v' h=>by simp at h⟩
theorem LRel.cons{v v' l l'}(h:VRel μ v v')(T:LRel μ l l'):LRel μ (v::l) (v'::l'):=by
 refine⟨by simp[T.1],λi x U E O=>?_⟩;cases i with
 |zero=>simp at E O;subst E O;exact h
 |succ i=>exact T.2 i x U (by simpa using E) (by simpa using O)
theorem LRel.head{v v' l l'}(h:LRel μ (v::l) (v'::l')):VRel μ v v':=h.2 0 v v' V V
theorem LRel.tail{v v' l l'}(h:LRel μ (v::l) (v'::l')):LRel μ l l':=
 ⟨by simpa using h.1,λi x T E O=>h.2 (i+1) x T (by simpa using E) (by simpa using O)⟩
theorem LRel.get{l l'}(h:LRel μ l l'){i:Nat}{v}(E:l[i]?=some v): ∃v',l'[i]?=some v'/\VRel μ v v':=by
 have hi:i<J l':=by rw[←h.1];exact(a0A.1 E).1
 exact⟨l'[i],a08 hi,h.2 i v _ E (a08 hi)⟩
theorem LRel.append{a b T U}(h:LRel μ a T)(k:LRel μ b U):LRel μ (a++b) (T++U):=by
 refine⟨by simp[h.1,k.1],λi v v' E O=>?_⟩;by_cases hi:i<J a
 ·rw[a1k hi]at E;rw[a1k (h.1▸hi)]at O;exact h.2 i v v' E O
 rw[a1t M]at E;rw[a1t (by have:=h.1;omega),←h.1]at O;exact k.2 _ v v' E O
theorem LRel.take{a T}(h:LRel μ a T)(n:Nat):LRel μ (a.take n) (T.take n):=by
 refine⟨by simp[h.1],λi v v' E O=>?_⟩;rw[a0F]at E O;split at E
 ·rename_i hi;rw[if_pos hi]at O;exact h.2 i v v' E O
 cases E
theorem LRel.drop{a E}(h:LRel μ a E)(n:Nat):LRel μ (a.drop n) (E.drop n):=by refine⟨by simp[h.1],λi v v' O T=>?_⟩;rw[a0L]at O T;exact h.2 _ v v' O T
theorem LRel.nil_left{l'}(h:LRel μ [] l'):l'=[]:=a0e h.1.symm
theorem LRel.cons_left{v l l'}(h:LRel μ (v::l) l'): ∃v' E,l'=v'::E/\VRel μ v v'/\LRel μ l E:=by
 cases l' with
 |nil=>have:=h.1;simp at this
 |cons v' E=>exact⟨v',E,V,h.head,h.tail⟩
theorem VRel.oneCell{v v'}(h:VRel μ v v'):v'.oneCell'=v.oneCell':=by cases h<;>rfl
theorem VRel.eq0{v v'}(h:VRel μ v v')(E:dG v=true):v'=v:=by
 cases h with
 |atom=>rfl
 |func fn xs ys xs' ys' h1 h2 _ _=>
  simp only[dG,a04]at E
  have O:xs.size=0:=a0a E.1
  have T:ys.size=0:=a0a E.2
  have U:xs= #[]:=a1i.1 O
  have Z:ys= #[]:=a1i.1 T
  subst U Z
  have g1:xs'= #[]:=a1i.1 (by simpa using h1.symm)
  have g2:ys'= #[]:=a1i.1 (by simpa using h2.symm)
  subst g1 g2
  rfl
 |_=>simp[dG]at E
theorem LRel.eq0{l l'}(h:LRel μ l l')(E:l.all dG=true):l'=l:=by
 induction l generalizing l' with
 |nil=>exact h.nil_left
 |cons v l ih=>
  obtain⟨v',U,rfl,T,O⟩:=h.cons_left
  simp only[a0l,a04]at E
  rw[T.eq0 E.1,ih O E.2]
theorem VRel.eq1{v v'}(h:VRel μ v v')(E:jN v=true):v'=v:=by
 cases h with
 |agg xs xs' hl hi=>
  have:=LRel.eq0 (μ:=μ) (l:=xs.toList) (l':=xs'.toList) ⟨hl,hi⟩ E
  rw[a12.1 this]
 |atom v h0=>rfl
 |_=>exact VRel.eq0 (μ:=μ) (by constructor<;>assumption) E
theorem LRel.eq1{l l'}(h:LRel μ l l')(E:l.all jN=true):l'=l:=by
 induction l generalizing l' with
 |nil=>exact h.nil_left
 |cons v l ih=>
  obtain⟨v',U,rfl,T,O⟩:=h.cons_left
  simp only[a0l,a04]at E
  rw[T.eq1 E.1,ih O E.2]
theorem LRel.refl0{l}(h:l.all dG=true):LRel μ l l:=by refine⟨V,λi v v' O E=>?_⟩;rw[O]at E;injection E with E;subst E;exact .atom v (a0r.1 h v (a0w O))
theorem VRel.refl1{v}(h:jN v=true):VRel μ v v:=by
 cases v with
 |agg cs=>have:=LRel.refl0 (μ:=μ) (l:=cs.toList) h;exact .agg cs cs this.1 this.2
 |_=>exact .atom _ h
theorem LRel.refl1{l}(h:l.all jN=true):LRel μ l l:=by refine⟨V,λi v v' O E=>?_⟩;rw[O]at E;injection E with E;subst E;exact VRel.refl1 (a0r.1 h v (a0w O))
theorem VRel.refl2{v}(h:noA2 v=true):VRel μ v v:=by
 cases v with
 |tuple vs=>have:=LRel.refl1 (μ:=μ) (l:=vs.toList) h;exact .tuple vs vs this.1 this.2
 |_=>exact VRel.refl1 h
theorem VRel.undef:VRel μ undef undef:=VRel.refl2 V
theorem VRel.eq2{v v'}(h:VRel μ v v')(E:noA2 v=true):v'=v:=by
 cases h with
 |tuple xs xs' hl hi=>
  have:=LRel.eq1 (μ:=μ) (l:=xs.toList) (l':=xs'.toList) ⟨hl,hi⟩ E
  rw[a12.1 this]
 |atom v h0=>rfl
 |_=>exact VRel.eq1 (μ:=μ) (by constructor<;>assumption) E
theorem VRel.cells{v v'}(h:VRel μ v v'):LRel μ v.cells.toList v'.cells.toList:=by
 have one: ∀{u E:Value},VRel μ u E->LRel μ [u] [E]:=λO=> .cons O .nil
 cases h with
 |agg xs xs' hl hi=>exact⟨hl,hi⟩
 |atom v h0=>cases v<;>first|(simp[dG]at h0;done)|exact one (.atom _ h0)
 |ptr b o l hb=>exact one (.ptr b o l hb)
 |sliceC b o n k l hb ho=>exact one (.sliceC b o n k l hb ho)
 |sliceO b o o' n k k' e l hb ho h1 h2 h3 h4=>exact one (.sliceO b o o' n k k' e l hb ho h1 h2 h3 h4)
 |sliceZ b o a l hb=>exact one (.sliceZ b o a l hb)
 |map b l hb=>exact one (.map b l hb)
 |func fn xs ys xs' ys' h1 h2 i1 i2=>exact one (.func fn xs ys xs' ys' h1 h2 i1 i2)
 |tuple xs xs' h1 i1=>exact one (.tuple xs xs' h1 i1)
theorem VRel.int_inv{k:IntKind}{n:Int}{v'}(h:VRel μ (.int k n) v'):v'= .int k n:=h.eq0 V
theorem VRel.bool_inv{b v'}(h:VRel μ (.bool b) v'):v'= .bool b:=h.eq0 V
theorem VRel.string_inv{s v'}(h:VRel μ (.string s) v'):v'= .string s:=h.eq0 V
theorem VRel.ptr_inv{b o v'}(h:VRel μ (.pointer (some ⟨b,o,none⟩)) v'): ∃l,μ b=some l/\v'= .pointer (some ⟨l.c,l.sh+o,none⟩):=by
 cases h with
 |atom _ h0=>simp[dG]at h0
 |ptr _ _ l hb=>exact⟨l,hb,V⟩
theorem VRel.ptr_some{a v'}(h:VRel μ (.pointer (some a)) v'):a.spot=none/\∃E,v'= .pointer (some E):=by
 cases h with
 |atom _ h0=>simp[dG]at h0
 |ptr _ _ l hb=>exact⟨V,_,V⟩
theorem VRel.agg_inv{xs v'}(h:VRel μ (.agg xs) v'): ∃E,v'= .agg E/\LRel μ xs.toList E.toList:=by
 cases h with
 |atom _ h0=>simp[dG]at h0
 |agg _ E hl hi=>exact⟨E,V,hl,hi⟩
theorem VRel.tuple_inv{xs v'}(h:VRel μ (.tuple xs) v'): ∃E,v'= .tuple E/\LRel μ xs.toList E.toList:=by
 cases h with
 |atom _ h0=>simp[dG]at h0
 |tuple _ E hl hi=>exact⟨E,V,hl,hi⟩
theorem VRel.func_inv{fn xs ys v'}(h:VRel μ (.func fn xs ys) v'):
  ∃E O,v'= .func fn E O/\LRel μ xs.toList E.toList/\LRel μ ys.toList O.toList:=by
 cases h with
 |atom _ h0=>
  simp only[dG,a04]at h0
  have T:xs= #[]:=a1i.1 (a0a h0.1)
  have U:ys= #[]:=a1i.1 (a0a h0.2)
  subst T U
  exact⟨#[], #[],V,.nil,.nil⟩
 |func _ _ _ E O h1 h2 i1 i2=>exact⟨E,O,V,⟨h1,i1⟩,⟨h2,i2⟩⟩
theorem VRel.map_inv{b v'}(h:VRel μ (.map (some b)) v'): ∃l,μ b=some l/\v'= .map (some l.c):=by
 cases h with
 |atom _ h0=>simp[dG]at h0
 |map _ l hb=>exact⟨l,hb,V⟩
theorem VRel.mapNil_inv{v'}(h:VRel μ (.map none) v'):v'= .map none:=h.eq0 V
theorem VRel.slice_inv{b o n k v'}(h:VRel μ (.slice (some ⟨b,o,none⟩) n k) v'):
  ∃l,μ b=some l/\((l.opn=none/\v'= .slice (some ⟨l.c,l.sh+o,none⟩) n k)\/
   (∃e o' E,l.opn=some e/\v'= .slice (some ⟨l.c,o',none⟩) n E/\n<=k/\k<=E/\(0<k->o'=l.sh+o)/\o'+E *e<=l.csz)\/(n=0/\k=0/\∃O,v'= .slice (some O) 0 0)):=by
 cases h with
 |atom _ h0=>simp[dG]at h0
 |sliceC _ _ _ _ l hb ho=>exact⟨l,hb,.inl ⟨ho,V⟩⟩
 |sliceO _ _ o' _ _ E e l hb ho h1 h2 h3 h4=>exact⟨l,hb,.inr (.inl ⟨e,o',E,ho,V,h1,h2,h3,h4⟩)⟩
 |sliceZ _ _ a l hb=>exact⟨l,hb,.inr (.inr ⟨V,V,a,V⟩)⟩
theorem VRel.sliceNil_inv{n k v'}(h:VRel μ (.slice none n k) v'):n=0/\k=0/\v'= .slice none n k:=by
 cases h with
 |atom _ h0=>
  simp only[dG,a04]at h0
  exact⟨a0a h0.1,a0a h0.2,V⟩
theorem VRel.slice_some{a n k v'}(h:VRel μ (.slice (some a) n k) v'):a.spot=none/\∃O E,v'= .slice (some O) n E:=by
 cases h with
 |atom _ h0=>simp[dG]at h0
 |sliceC _ _ _ _ l hb ho=>exact⟨V,_,_,V⟩
 |sliceO _ _ o' _ _ E e l hb ho h1 h2 h3 h4=>exact⟨V,_,_,V⟩
 |sliceZ _ _ a l hb=>exact⟨V,_,_,V⟩
end
def ObjRel(μ:Emb)(w:World)(l:Loc):AObj->Prop
 | .cells cs opn true=>l.opn=opn/\opn=none/\l.c<w.heap.size/\∀(i:Nat) v,cs[i]?=some v->∃v',w.cell? ⟨l.c,l.sh+i,none⟩=some v'/\VRel μ v v'
 | .cells cs opn false=>l.opn=opn/\∃(E:Array Value) (e:TypeId),w.heap[l.c]?=some (.cells E e (0,0))/\E.size=l.csz/\l.sh+cs.length<=l.csz/\
   ∀(i:Nat) v,cs[i]?=some v->∃v',E[l.sh+i]?=some v'/\VRel μ v v'
 | .iter s pos=>l.sh=0/\w.heap[l.c]?=some (.stringIter s pos)
 | .tab es=> ∃(O:Array MapEntry) (T:Nat),w.heap[l.c]?=some (.map O T)/\es.length=O.toList.length/\
   ∀(i:Nat) x y,es[i]?=some x->O.toList[i]?=some y->VRel μ x.1 y.key/\VRel μ x.2 y.val
 | .dead=>True
structure WRel(μ:Emb)(H:Heap)(w:World):Prop where
 obj: ∀b l o,μ b=some l->H.get b=some o->ObjRel μ w l o
 inj: ∀b1 b2 l1 l2 o1 o2,b1≠b2->μ b1=some l1->μ b2=some l2->H.get b1=some o1->H.get b2=some o2->o1.rw=true->o2.live=true->l1.c≠l2.c
theorem cH{w:World}{c:Nat}{o:Obj}(h:w.heap[c]?=some o):c<w.heap.size:=(a0S.1 h).1
theorem ObjRel.lt{μ w l o}(h:ObjRel μ w l o)(T:o.live=true):l.c<w.heap.size:=by
 cases o with
 |cells cs opn ro=>
  cases ro with
  |true=>exact h.2.2.1
  |false=>obtain⟨_,U,e,E,_⟩:=h;exact cH E
 |iter s pos=>exact cH h.2
 |tab es=>obtain⟨Z,O,E,_⟩:=h;exact cH E
 |dead=>simp[AObj.live]at T
theorem ObjRel.keep{μ μ' w w' l o}(Z: ∀b l,μ b=some l->μ' b=some l)(hs:w.heap.size<=w'.heap.size)
  (hc:o.live=true->w'.heap[l.c]?=w.heap[l.c]?) (h:ObjRel μ w l o):ObjRel μ' w' l o:=by
 cases o with
 |cells cs opn ro=>
  have al:=hc V
  cases ro with
  |true=>
   obtain⟨h1,E,U,h4⟩:=h
   refine⟨h1,E,by omega,λi v hv=>?_⟩
   obtain⟨v',O,hr⟩:=h4 i v hv
   refine⟨v',?_,hr.ac Z⟩
   rw[←O]
   simp only[World.cell?,al]
  |false=>
   obtain⟨h1,a2,e,hh,E,U,h4⟩:=h
   refine⟨h1,a2,e,al.trans hh,E,U,λi v hv=>?_⟩
   obtain⟨v',O,hr⟩:=h4 i v hv
   exact⟨v',O,hr.ac Z⟩
 |iter s pos=>exact⟨h.1,(hc V).trans h.2⟩
 |tab es=>
  obtain⟨a3,T,hh,E,U⟩:=h
  refine⟨a3,T,(hc V).trans hh,E,λi x y hx hy=>?_⟩
  obtain⟨r1,r2⟩:=U i x y hx hy
  exact⟨r1.ac Z,r2.ac Z⟩
 |dead=>trivial
theorem jk{o:AObj}(h:o.rw=true):o.live=true:=by cases o<;>simp_all[AObj.rw,AObj.live]
structure Post(μ:Emb)(H:Heap)(w:World)(μ':Emb)(H':Heap)(w':World):Prop where
 ext: ∀b l,μ b=some l->μ' b=some l
 dom: ∀b l,μ' b=some l->μ b=some l\/(H.next<=b/\b<H'.next)
 grow:w.heap.size<=w'.heap.size
 os:w'.os=w.os
 tape:w'.tape=w.tape
 out:w'.output=w.output
 keep: ∀c,c<w.heap.size->(∀b l o,μ b=some l->H.get b=some o->o.rw=true->l.c≠c)->w'.heap[c]?=w.heap[c]?
 img: ∀b l o,μ' b=some l->H'.get b=some o->o.live=true->w.heap.size<=l.c\/∃b0 l0 o0,μ b0=some l0/\H.get b0=some o0/\o0.live=true/\(o.rw=true->o0.rw=true)/\l0.c=l.c
 wrel:WRel μ' H' w'
theorem Post.refl{μ H w}(h:WRel μ H w):Post μ H w μ H w:=
 ⟨λ_ _ h=>h,λ_ _ h=> .inl h,a07 _,V,V,V,λ_ _ _=>rfl,λb l o E O T=> .inr ⟨b,l,o,E,O,T,id,V⟩,h⟩
theorem Post.trans{μ μ1 μ2:Emb}{H H1 O:Heap}{w w1 Z:World}(h:Post μ H w μ1 H1 w1)(k:Post μ1 H1 w1 μ2 O Z)(h1:H.next<=H1.next)(h2:H1.next<=O.next):
  Post μ H w μ2 O Z:=by
 refine⟨λb l hb=>k.ext b l (h.ext b l hb),λb l hb=>?_,a0i h.grow k.grow,k.os.trans h.os,k.tape.trans h.tape,k.out.trans h.out,λc hc U=>?_,λb l o hb T E=>?_,k.wrel⟩
 ·rcases k.dom b l hb with hb1|⟨hb1,hb2⟩
  ·rcases h.dom b l hb1 with hb0|⟨hb3,hb4⟩
   ·exact .inl hb0
   exact .inr ⟨hb3,by omega⟩
  exact .inr ⟨by omega,hb2⟩
 ·rw[k.keep c (a11 hc h.grow) ?_,h.keep c hc U];intro b l o hb T E he;rcases h.img b l o hb T (jk E) with hh|⟨b0,l0,o0,g1,g2,g3,g5,g4⟩
  ·omega
  exact U b0 l0 o0 g1 g2 (g5 E) (g4.trans he)
 rcases k.img b l o hb T E with hh|⟨b0,l0,o0,g1,g2,g3,g5,g4⟩
 ·exact .inl (a0i h.grow hh)
 rcases h.img b0 l0 o0 g1 g2 g3 with hh|⟨b1,l1,o1,e1,e2,e3,e5,e4⟩
 ·exact .inl (g4▸hh)
 exact .inr ⟨b1,l1,o1,e1,e2,e3,λhx=>e5 (g5 hx),e4.trans g4⟩
theorem WRel.drew{μ H w}(h:WRel μ H w):WRel μ H w.drew:=
 ⟨λb l o hb E=>(h.obj b l o hb E).keep (λ_ _ h=>h) (a07 _) (λ_=>rfl),h.inj⟩
theorem Post.drew{μ H w}(h:WRel μ H w):Post μ H w μ H w.drew:=
 ⟨λ_ _ h=>h,λ_ _ h=> .inl h,a07 _,V,V,V,λ_ _ _=>rfl,λb l o E O T=> .inr ⟨b,l,o,E,O,T,id,V⟩,h.drew⟩
def Emb.set(μ:Emb)(b:Nat)(l:Loc):Emb:=λk=>if k=b then some l else μ k
theorem Emb.set_same(μ:Emb)(b:Nat)(l:Loc):μ.set b l b=some l:=by simp[Emb.set]
theorem Emb.set_ext{μ:Emb}{b:Nat}(l:Loc)(h:μ b=none): ∀k x,μ k=some x->μ.set b l k=some x:=by
 intro k x E;have:k≠b:=λe=>by subst e;rw[h]at E;cases E
 simp[Emb.set,this,E]
theorem Emb.set_inv{μ:Emb}{b:Nat}{l:Loc}{k:Nat}{x:Loc}(h:μ.set b l k=some x):(k=b/\x=l)\/(k≠b/\μ k=some x):=by
 unfold Emb.set at h;split at h
 ·rename_i e;injection h with h;exact .inl ⟨e,h.symm⟩
 rename_i e;exact .inr ⟨e,h⟩
theorem kZ(w:World)(o:Obj){c:Nat}(h:c<w.heap.size):(w.alloc o).heap[c]?=w.heap[c]?:=by simp only[World.alloc,Array.getElem?_push];rw[if_neg M]
theorem jY(w:World)(o:Obj):(w.alloc o).heap[w.heap.size]?=some o:=by show(w.heap.push o)[w.heap.size]?=some o;simp
theorem Post.push{μ:Emb}{H:Heap}{w:World}(h:WRel μ H w)(hf:μ H.next=none)(l:Loc)(hl:l.c=w.heap.size)(o:AObj)(co:Obj)
  (ho:ObjRel (μ.set H.next l) (w.alloc co) l o):Post μ H w (μ.set H.next l) (H.push o) (w.alloc co):=by
 have hm:=Emb.set_ext l hf
 refine⟨hm,λb x hb=>?_,by simp,V,V,V,λc hc _=>kZ w co hc,λb x o' hb E hr=>?_,⟨λb x o' hb E=>?_,λb1 b2 l1 l2 o1 o2 O a5 a6 T U a9 a1=>?_⟩⟩
 ·rcases Emb.set_inv hb with⟨rfl,rfl⟩|⟨_,hb⟩
  ·exact .inr ⟨a07 _,by simp⟩
  exact .inl hb
 ·rcases Emb.set_inv hb with⟨rfl,rfl⟩|⟨O,hb⟩
  ·exact .inl M
  rw[Heap.get_push_ne H o (Ne.symm O)]at E;exact .inr ⟨b,x,o',hb,E,hr,id,V⟩
 ·rcases Emb.set_inv hb with⟨rfl,rfl⟩|⟨O,hb⟩
  ·rw[Heap.get_push_same]at E;injection E with E;subst E;exact ho
  rw[Heap.get_push_ne H o (Ne.symm O)]at E;have hr:=h.obj b x o' hb E;exact hr.keep hm (by simp) (λa7=>kZ w co (hr.lt a7))
 rcases Emb.set_inv a5 with⟨e1,f1⟩|⟨an,Z⟩<;>rcases Emb.set_inv a6 with⟨e2,f2⟩|⟨ar,al⟩
 ·exact absurd (e1.trans e2.symm) O
 ·rw[Heap.get_push_ne H o (Ne.symm ar)]at U;have:=(h.obj b2 l2 o2 al U).lt a1;subst f1;omega
 ·rw[Heap.get_push_ne H o (Ne.symm an)]at T;have:=(h.obj b1 l1 o1 Z T).lt (by cases o1<;>simp_all[AObj.rw,AObj.live]);subst f2;omega
 rw[Heap.get_push_ne H o (Ne.symm an)]at T
 rw[Heap.get_push_ne H o (Ne.symm ar)]at U
 exact h.inj b1 b2 l1 l2 o1 o2 O Z al T U a9 a1
def aZ(w:World)(c:Nat)(o:Obj):World:={w with heap:=w.heap.setIfInBounds c o}
theorem en(w:World){c k}(o:Obj)(h:c≠k):(aZ w c o).heap[k]?=w.heap[k]?:=by simp[aZ,a1z h]
theorem bZ(w:World){c}(o:Obj)(h:c<w.heap.size):(aZ w c o).heap[c]?=some o:=by simp[aZ,h]
@[simp] theorem setObjAt_size(w:World)(c:Nat)(o:Obj):(aZ w c o).heap.size=w.heap.size:=by simp[aZ]
theorem Post.put{μ H w}(h:WRel μ H w){b l o}(hb:μ b=some l)(Z:H.get b=some o)(T:o.rw=true)
  (o':AObj) (b5:o'.rw=true) (U:Obj) (hn:ObjRel μ (aZ w l.c U) l o'):Post μ H w μ (H.put b o') (aZ w l.c U):=by
 refine⟨λ_ _ h=>h,λ_ _ h=> .inl h,by simp,V,V,V,λc hc aA=>en w U (aA b l o hb Z T),λk x ox O E ba=>?_,⟨λk x ox O E=>?_,λb1 b2 l1 l2 o1 o2 a5 an ar a6 a7 a8 a9=>?_⟩⟩
 ·by_cases e:b=k
  ·subst e;rw[hb]at O;injection O with O;subst O;exact .inr ⟨b,l,o,hb,Z,jk T,λ_=>T,V⟩
  rw[Heap.get_put_ne H o' e]at E;exact .inr ⟨k,x,ox,O,E,ba,id,V⟩
 ·by_cases e:b=k
  ·subst e;rw[hb]at O;injection O with O;subst O;rw[Heap.get_put_same]at E;injection E with E;subst E;exact hn
  rw[Heap.get_put_ne H o' e]at E;have hx:=h.obj k x ox O E;exact hx.keep (λ_ _ h=>h) (by simp) (λa4=>en w U (h.inj b k l x o ox e hb O Z E T a4))
 have old: ∀k ok lk,μ k=some lk->(H.put b o').get k=some ok->∃oo,H.get k=some oo/\(ok.rw=true->oo.rw=true)/\(ok.live=true->oo.live=true):=by
  intro k ok lk O ax;by_cases e:b=k
  ·subst e;exact⟨o,Z,λ_=>T,λ_=>by cases o<;>simp_all[AObj.rw,AObj.live]⟩
  rw[Heap.get_put_ne H o' e]at ax;exact⟨ok,ax,id,id⟩
 have⟨p1,q1,r1,_⟩:=old b1 o1 l1 an a6
 have⟨p2,q2,_,r2⟩:=old b2 o2 l2 ar a7
 exact h.inj b1 b2 l1 l2 p1 p2 a5 an ar q1 q2 (r1 a8) (r2 a9)
theorem Post.take{μ H w}(h:WRel μ H w){b:Nat}{l o}(hb:μ b=some l)(ho:H.get b=some o)(hr:o.rw=true)
  (hf:μ H.next=none) (l':Loc) (hl:l'.c=l.c) (o':AObj) (co:Obj) (hn:ObjRel (μ.set H.next l') (aZ w l.c co) l' o'):
  Post μ H w (μ.set H.next l') ((H.put b .dead).push o') (aZ w l.c co):=by
 have hm:=Emb.set_ext l' hf
 have c0:b≠H.next:=λe=>by subst e;rw[hf]at hb;cases hb
 have get: ∀k,k≠H.next->((H.put b .dead).push o').get k=(H.put b .dead).get k:=λk O=>Heap.get_push_ne (H.put b .dead) o' (Ne.symm O)
 have bw:((H.put b .dead).push o').get H.next=some o':=Heap.get_push_same (H.put b .dead) o'
 refine⟨hm,λk x O=>?_,by simp,V,V,V,λc hc b0=>en w co (b0 b l o hb ho hr),λk x ox O E bl=>?_,⟨λk x ox O E=>?_,λb1 b2 l1 l2 o1 o2 Z b3 b4 bb bf al an=>?_⟩⟩
 ·rcases Emb.set_inv O with⟨rfl,rfl⟩|⟨_,O⟩
  ·exact .inr ⟨a07 _,by simp⟩
  exact .inl O
 ·rcases Emb.set_inv O with⟨rfl,rfl⟩|⟨Z,O⟩
  ·exact .inr ⟨b,l,o,hb,ho,jk hr,λ_=>hr,hl.symm⟩
  rw[get k Z]at E;by_cases e:b=k
  ·subst e;rw[Heap.get_put_same]at E;injection E with E;subst E;simp[AObj.live]at bl
  rw[Heap.get_put_ne H _ e]at E;exact .inr ⟨k,x,ox,O,E,bl,id,V⟩
 ·rcases Emb.set_inv O with⟨rfl,rfl⟩|⟨Z,O⟩
  ·rw[bw]at E;injection E with E;subst E;exact hn
  rw[get k Z]at E;by_cases e:b=k
  ·subst e;rw[Heap.get_put_same]at E;injection E with E;subst E;trivial
  rw[Heap.get_put_ne H _ e]at E;have hx:=h.obj k x ox O E;exact hx.keep hm (by simp) (λa1=>en w co (h.inj b k l x o ox e hb O ho E hr a1))
 have old: ∀k ok,k≠H.next->ok.live=true->((H.put b .dead).push o').get k=some ok->k≠b/\H.get k=some ok:=by
  intro k ok O a1 U;rw[get k O]at U;by_cases e:b=k
  ·subst e;rw[Heap.get_put_same]at U;injection U with U;subst U;simp[AObj.live]at a1
  rw[Heap.get_put_ne H _ e]at U;exact⟨Ne.symm e,U⟩
 have T: ∀{x:AObj},x.rw=true->x.live=true:=by intro x hx;cases x<;>simp_all[AObj.rw,AObj.live]
 rcases Emb.set_inv b3 with⟨e1,f1⟩|⟨a2,ax⟩<;>rcases Emb.set_inv b4 with⟨e2,f2⟩|⟨a3,aA⟩
 ·exact absurd (e1.trans e2.symm) Z
 ·obtain⟨n2,g2⟩:=old b2 o2 a3 an bf;rw[f1,hl];exact h.inj b b2 l l2 o o2 (Ne.symm n2) hb aA ho g2 hr an
 ·obtain⟨n1,g1⟩:=old b1 o1 a2 (T al) bb;rw[f2,hl];exact λe=>h.inj b b1 l l1 o o1 (Ne.symm n1) hb ax ho g1 hr (T al) e.symm
 obtain⟨_,g1⟩:=old b1 o1 a2 (T al) bb
 obtain⟨_,g2⟩:=old b2 o2 a3 an bf
 exact h.inj b1 b2 l1 l2 o1 o2 Z ax aA g1 g2 al an
end Go.R
set_option linter.unusedVariables false
namespace Go.R
open List renaming getD→N,length→J
section pure_
variable {α β:Type} (P:Program)
theorem dr{s:Sem α}{a:α}(h:aD P s=some a)(w:World):s.run P w= .ok a w:=by
 induction s with
 |pure x=>simp only[aD,a01]at h;subst h;rfl
 |program k ih=>simp only[aD]at h;simp only[Sem.run];exact ih _ h
 |mark m k ih=>simp only[aD]at h;simp only[Sem.run];exact ih h
 |_=>simp[aD]at h
@[simp] theorem aJ(x:Sem α)(f:α->Sem β):aD P (x>>=f)=(aD P x).bind λa=>aD P (f a):=by
 show aD P (x.bind f)=_;induction x with
 |program k ih=>simp only[Sem.bind,aD];exact ih _
 |mark m k ih=>simp only[Sem.bind,aD];exact ih
 |pure a=>rfl
 |_=>rfl
@[simp] theorem bE(a:α):aD P (Pure.pure a:Sem α)=some a:=rfl
@[simp] theorem fF:aD P program=some P:=rfl
@[simp] theorem pureRun_stuck(E:String):aD P (stuck E:Sem α)=none:=rfl
@[simp] theorem pureRun_unsupported(u:Unsupported):aD P (unsupported u:Sem α)=none:=rfl
@[simp] theorem pureRun_goPanic(v:Value):aD P (goPanic v:Sem α)=none:=rfl
@[simp] theorem pureRun_choose(q:Question):aD P (choose q)=none:=rfl
@[simp] theorem pureRun_mark(m:Mark):aD P (mark m)=some ():=rfl
theorem pureRun_ite(c:Prop) [Decidable c](x y:Sem α):aD P (if c then x else y)=if c then aD P x else aD P y:=by split<;>rfl
@[simp] theorem bA(t:TypeId):aD P (underlying t)=P.underlying t:=by unfold underlying;simp only[aJ,fF,a0q];cases P.underlying t<;>rfl
@[simp] theorem dM(t:TypeId):aD P (typeInfo t)=P.info? t:=by unfold typeInfo;simp only[aJ,fF,a0q];cases P.info? t<;>rfl
@[simp] theorem cU(t:TypeId):aD P (sizeOf t)=dL P t:=by unfold sizeOf dL;simp only[aJ,dM];cases P.info? t<;>rfl
@[simp] theorem gP(t:TypeId):aD P (isAgg t)=ff P t:=by
 unfold isAgg ff;simp only[aJ,bA];cases P.underlying t with
 |none=>rfl
 |some d=>cases d<;>rfl
theorem iY(e:RuntimeError):aD P (runtimePanic e:Sem α)=none:=by unfold runtimePanic;cases e<;>simp[newVar,newRow,newObj,aD,elemOf]<;>(intros;split<;>simp[aD])
theorem js(k:IntKind)(x y:Int)(c:BoundsCode):aD P (boundsPanic k x y c:Sem α)=none:=by unfold boundsPanic;simp[iY,pureRun_ite]
end pure_
section runs
variable {P:Program} (w:World)
theorem aV{t:TypeId}{n}(h:dL P t=some n):(sizeOf t).run P w= .ok n w:=dr P (by rw[cU];exact h) w
theorem nF{t:TypeId}{b}(h:ff P t=some b):(isAgg t).run P w= .ok b w:=dr P (by rw[gP];exact h) w
theorem gO{t:TypeId}{i:TypeInfo}(h:P.info? t=some i):(typeInfo t).run P w= .ok i w:=dr P (by rw[dM];exact h) w
theorem am{t:TypeId}{d:TypeDesc}(h:P.underlying t=some d):(underlying t).run P w= .ok d w:=dr P (by rw[bA];exact h) w
theorem gH{t:TypeId}{z}(h:dm P t=some z): ∃i v,P.info? t=some i/\i.zero=some v/\v.cells.toList=z/\z.all dG=true:=by
 unfold dm at h;split at h
 ·rename_i i hi;split at h
  ·rename_i v E;cases hc:v.cells.toList.all dG with
   |false=>rw[hc]at h;cases h
   |true=>rw[hc]at h;simp at h;subst h;exact⟨i,v,hi,E,V,hc⟩
  cases h
 cases h
theorem fv{t:TypeId}{i:TypeInfo}{v}(hi:P.info? t=some i)(E:i.zero=some v):(zeroValue t).run P w= .ok v w:=by unfold zeroValue;simp[gO w hi,E]
end runs
section mem
variable {P:Program} {μ:Emb} {H:Heap} {w:World}
theorem li(h:WRel μ H w){b o l v}(hb:μ b=some l)(E:H.cellAt ⟨b,o,none⟩=some v):
  ∃v',w.cell? ⟨l.c,l.sh+o,none⟩=some v'/\VRel μ v v':=by
 simp only[Heap.cellAt,hM]at E
 split at E
 ·rename_i cs aA ro hg;have T:=h.obj b l _ hb hg;cases ro with
  |true=>exact T.2.2.2 o v E
  |false=>
   have⟨_,ax,e,hh,_,_,Z⟩:=T
   have⟨v',U,O⟩:=Z o v E
   exact⟨v',by simp only[World.cell?,hh];simpa using U,O⟩
 cases E
theorem dO(c o j:Nat):Addr.add ⟨c,o,none⟩ j=⟨c,o+j,none⟩:=by
 unfold Addr.add;split
 ·subst_vars;rfl
 rfl
theorem jx(h:WRel μ H w){b o n:Nat}{l vs}(hb:μ b=some l)(E:H.loadN ⟨b,o,none⟩ n=some vs):
  ∃ax,(loadCells ⟨l.c,l.sh+o,none⟩ n).run P w= .ok ⟨ax⟩ w/\LRel μ vs ax/\vs.length=n:=by
 simp only[Heap.loadN,bL,bX,bp]at E
 split at E
 ·rename_i cs a5 ro hg;cases hq:Nat.beq ((cs.drop o).take n).length n with
  |false=>rw[hq]at E;cases E
  |true=>
   rw[hq]at E;simp only[cond_true,a01]at E
   have T:((cs.drop o).take n).length=n:=a0a hq
   have key: ∀j,j<n->∃v v',cs[o+j]?=some v/\w.cell? ⟨l.c,l.sh+o+j,none⟩=some v'/\VRel μ v v':=by
    intro j hj;have ar:o+j<cs.length:=by rw[a0V,a17]at T;omega
    have aA:H.cellAt ⟨b,o+j,none⟩=some cs[o+j]:=by simp only[Heap.cellAt,hg,hM];exact a08 ar
    have⟨v',hc,hr⟩:=li h hb aA;exact⟨_,v',a08 ar,by rw[←hc,a0C],hr⟩
   have Z: ∃f:Nat->Value,∀j,j<n->w.cell? (Addr.add ⟨l.c,l.sh+o,none⟩ j)=some (f j)/\∀v,cs[o+j]?=some v->VRel μ v (f j):=by refine⟨λj=>(w.cell? ⟨l.c,l.sh+o+j,none⟩).getD undef,λj hj=>?_⟩;have⟨v,v',O,U,h3⟩:=key j hj;simp only[dO,U,a1u];refine⟨trivial,λu hu=>?_⟩;rw[O]at hu;injection hu with hu;subst hu;exact h3
   have⟨f,Z⟩:=Z
   refine⟨_,run_loadCells w _ n f (λj hj=>(Z j hj).1),?_,by rw[←E];exact T⟩
   subst E
   refine⟨by rw[T];simp,λi v v' O U=>?_⟩
   rw[a0F]at O
   split at O
   ·rename_i hi;rw[a0L]at O;simp[hi]at U;subst U;exact(Z i hi).2 v O
   cases O
 cases E
theorem jv(h:WRel μ H w){b o l}{t:TypeId}{v}(hb:μ b=some l)(E:H.loadV P t ⟨b,o,none⟩=some v):
  ∃v',(loadVar t ⟨l.c,l.sh+o,none⟩).run P w= .ok v' w/\VRel μ v v':=by
 unfold Heap.loadV at E
 split at E
 ·rename_i T;split at E
  ·rename_i n hn;split at E
   ·rename_i vs Z;injection E with E;subst E;have⟨ar,U,O,_⟩:=jx (P:=P) h hb Z;refine⟨_,?_,.agg _ _ O.1 O.2⟩;simp[loadVar,nF w T,aV w hn,U]
   cases E
  cases E
 ·rename_i T;have⟨v',hc,hr⟩:=li h hb E;refine⟨v',?_,hr⟩;simp[loadVar,nF w T,hc]
 cases E
theorem mI{α:Type}(l:List α)(k:Nat):(Array.mk l)[k]?=l[k]?:=by simp
theorem mC: ∀(cs vs:List Value),J vs<=J cs->J (over cs vs)=J cs
 | [],[],_=>rfl
 | [],_::_,h=>by simp at h
 |_::_,[],_=>rfl
 |c::cs,v::vs,h=>by simp only[over,a02];rw[mC cs vs (by simpa using h)]
theorem over_get: ∀(cs vs:List Value) (i:Nat),J vs<=J cs->(over cs vs)[i]?=if i<J vs then vs[i]? else cs[i]?
 | [],[],i,_=>by simp[over]
 | [],_::_,_,h=>by simp at h
 |_::_,[],i,_=>by simp[over]
 |c::cs,v::vs,0,_=>by simp[over]
 |c::cs,v::vs,i+1,h=>by simp[over,over_get cs vs i (by simpa using h)]
theorem cP: ∀(cs:List Value) (o:Nat) (vs:List Value),o+J vs<=J cs->J (be cs o vs)=J cs
 |cs,0,vs,h=>by cases cs<;>exact mC _ _ M
 | [],o+1,vs,h=>by simp[be]
 |c::cs,o+1,vs,h=>by simp only[be,a02];rw[cP cs o vs (by simp at h;omega)]
theorem bD: ∀(cs:List Value) (o:Nat) (vs:List Value) (i:Nat),o+J vs<=J cs->
  (be cs o vs)[i]?=if o<=i/\i<o+J vs then vs[i-o]? else cs[i]?
 |cs,0,vs,i,h=>by
  have:be cs 0 vs=over cs vs:=by cases cs<;>rfl
  rw[this,over_get cs vs i M];simp
 | [],o+1,vs,i,h=>by simp at h
 |c::cs,o+1,vs,0,h=>by simp[be]
 |c::cs,o+1,vs,i+1,h=>by
  simp only[be,a1q];rw[bD cs o vs i (by simp at h;omega)];by_cases hc:o<=i/\i<o+J vs
  ·rw[if_pos hc,if_pos M];congr 1;omega
  rw[if_neg hc,if_neg M]
theorem eo(c:Nat)(e:TypeId): ∀(vs:List Value) (w:World) (E:Array Value) (o i:Nat),w.heap[c]?=some (.cells E e (0,0))->
  o+i+J vs<=E.size->vs.all Value.oneCell'=true->vs≠ []->
  (storeCells ⟨c,o,none⟩ vs i).run P w= .ok () (aZ w c (.cells ⟨be E.toList (o+i) vs⟩ e (0,0)))
 | [],_,_,_,_,_,_,_,hne=>absurd V hne
 |v::vs,w,E,o,i,hh,hl,hall,_=>by
  simp only[a0l,a04]at hall;simp only[a02]at hl;have T:w.cell? ⟨c,o+i,none⟩=some (E[o+i]'M):=by simp[World.cell?,hh,show o+i<E.size by omega]
  have al:w.frozen? ⟨c,o+i,none⟩=false:=by simp[World.frozen?,hh]
  have Z:w.setCell ⟨c,o+i,none⟩ v=aZ w c (.cells (E.setIfInBounds (o+i) v) e (0,0)):=by
   unfold World.setCell aZ;congr 1;apply a1G;intro k;by_cases O:c=k
   ·subst O;rw[Array.getElem?_modify,if_pos V,hh,a1e,if_pos V,if_pos (cH hh)];simp
   simp[Array.getElem?_modify,O,a1z O]
  have h1:(storeCells ⟨c,o,none⟩ (v::vs) i).run P w=(storeCells ⟨c,o,none⟩ vs (i+1)).run P (aZ w c (.cells (E.setIfInBounds (o+i) v) e (0,0))):=by simp only[storeCells,Sem.run_bind,dO];rw[run_store P w _ v _ hall.1,T];simp[al,Z]
  rw[h1];by_cases hv:vs=[]
  ·subst hv;simp only[storeCells,Sem.run_pure];congr 3;apply a1G;intro k;simp only[a03]at hl;rw[a1e];refine Eq.trans ?_ (mI _ _).symm;rw[bD _ _ _ _ (by simp;omega)];by_cases O:o+i=k
   ·subst O;rw[if_pos V,if_pos M,if_pos (by simp)];simp
   rw[if_neg O,if_neg (by simp;omega)];simp
  have an:(aZ w c (.cells (E.setIfInBounds (o+i) v) e (0,0))).heap[c]?=some (.cells (E.setIfInBounds (o+i) v) e (0,0)):=bZ w _ (cH hh);rw[eo c e vs _ _ o (i+1) an (by simp;omega) hall.2 hv];congr 1;have: ∀(x y:Obj),aZ (aZ w c x) c y=aZ w c y:=by intro x y;simp[aZ]
  rw[this];congr 2;apply a1G;intro k;refine(mI _ _).trans (Eq.trans ?_ (mI _ _).symm);rw[bD _ _ _ _ (by simp;omega),bD _ _ _ _ (by simp;omega)];by_cases O:o+i=k
  ·subst O;rw[if_neg M,if_pos (by simp)];simp[show o+i<E.size by omega]
  by_cases U:o+(i+1)<=k/\k<o+(i+1)+J vs
  ·rw[if_pos U,if_pos (by simp;omega)];rw[show k-(o+i)=(k-(o+(i+1)))+1 by omega,a1q]
  rw[if_neg U,if_neg (by simp;omega)];simp[O]
theorem ib(h:WRel μ H w){b o:Nat}{l vs E H'}(hb:μ b=some l)(hs:H.storeL ⟨b,o,none⟩ vs=some H')(T:LRel μ vs E):
  ∃w',(storeCells ⟨l.c,l.sh+o,none⟩ E).run P w= .ok () w'/\Post μ H w μ H' w':=by
 simp only[Heap.storeL,bp,pO,Nat.add_eq]at hs
 split at hs
 ·rename_i cs bl hg;cases hq:(Nat.ble (o+J vs) (J cs)&&vs.all Value.oneCell') with
  |false=>rw[hq]at hs;cases hs
  |true=>
   rw[hq]at hs;simp only[cond_true,a01]at hs
   simp only[a04]at hq
   have Z:o+J vs<=J cs:=a0d hq.1
   have⟨r1,O,e,U,r2,r3,r4⟩:=h.obj b l _ hb hg
   have al:=T.1
   have a4:E.all Value.oneCell'=true:=by
    rw[a0r];intro x hx;have⟨i,hi⟩:=List.getElem?_of_mem hx;have a1:i<J vs:=by rw[al];exact(a0A.1 hi).1
    have hr:=T.2 i vs[i] x (a08 a1) hi;rw[hr.oneCell];exact a0r.1 hq.2 _ (a18 a1)
   by_cases a2:E=[]
   ·subst a2;have hv:vs=[]:=by simpa using al
    subst hv;have a3:be cs o []=cs:=by apply a1A;intro k;rw[bD _ _ _ _ (by simpa using Z),if_neg (by simp)]
    subst hs;refine⟨aZ w l.c (.cells O e (0,0)),?_,?_⟩
    ·have:aZ w l.c (.cells O e (0,0))=w:=by
      unfold aZ;congr 1;apply a1G;intro k;by_cases hk:l.c=k
      ·subst hk;rw[a1e,if_pos V,if_pos (cH U),U]
      rw[a1z hk]
     rw[this];rfl
    refine Post.put h hb hg V _ V _ ⟨r1,O,e,bZ w _ (cH U),r2,by rw[a3];exact r3,λi v hi=>r4 i v (by rw[a3]at hi;exact hi)⟩
   subst hs
   refine⟨_,by simpa using eo (P:=P) l.c e E w O (l.sh+o) 0 U M a4 a2,?_⟩
   refine Post.put h hb hg V _ V _ ⟨r1,_,e,bZ w _ (cH U),?_,?_,?_⟩
   ·rw[←r2];show(be O.toList (l.sh+o) E).length=_;rw[cP _ _ _ (by simp;omega)];simp
   ·rw[cP _ _ _ Z];exact r3
   intro i v hi
   rw[bD _ _ _ _ Z]at hi
   have mg: ∀v':Value,(be O.toList (l.sh+o) E)[l.sh+i]?=some v'->(Array.mk (be O.toList (l.sh+o+0) E))[l.sh+i]?=some v':=λv' hv=>(mI _ _).trans hv
   rw[bD _ _ _ _ (by simp;omega)]at mg
   by_cases hc:o<=i/\i<o+J vs
   ·rw[if_pos hc]at hi;rw[if_pos M]at mg;have⟨v',ax,hr⟩:=T.get hi;exact⟨v',mg v' (by rw[←ax];congr 1;omega),hr⟩
   rw[if_neg hc]at hi
   rw[if_neg M]at mg
   have⟨v',ax,hr⟩:=r4 i v hi
   exact⟨v',mg v' (by simpa using ax),hr⟩
 cases hs
theorem dV(h:WRel μ H w)(hf:μ H.next=none)(e:TypeId){cs O}(U:LRel μ cs O)(E:List Value)(T:Option Nat)(ar:T=none->E=[]):
  ∃l,l.c=w.heap.size/\l.sh=0/\l.opn=T/\l.csz=cs.length+E.length/\
  (newRow e ⟨O++E⟩).run P w= .ok ⟨w.heap.size,0,none⟩ (w.alloc (.cells ⟨O++E⟩ e))/\
   Post μ H w (μ.set H.next l) (aP H cs T) (w.alloc (.cells ⟨O++E⟩ e)):=by
 refine⟨⟨w.heap.size,0,T,_⟩,V,V,V,V,by simp[newRow],?_⟩
 refine Post.push h hf _ V _ _ ⟨V,_,e,jY w _,by simp[U.1],by simp,λi v hi=>?_⟩
 have⟨v',Z,hr⟩:=U.get hi
 refine⟨v',?_,hr.ac (Emb.set_ext _ hf)⟩
 have:i<O.length:=(a0A.1 Z).1
 simp only[a0x,mI]
 rw[a1k this];exact Z
end mem
def ANRel(μ:Emb):AN->Next->Prop
 | .val v,.value v'=>VRel μ v v'
 | .skip,.skip=>True
 | .enter f args,.enter f' args'=>f=f'/\LRel μ args args'.toList
 |_,_=>False
theorem kO(bs:ByteArray): ∀(n i:Nat) (r:List UInt8),bs.size-i=n->ByteArray.toList.loop bs i r=r.reverse++bs.data.toList.drop i:=by
 intro n;induction n with
 |zero=>
  intro i r h
  rw[ByteArray.toList.loop,if_neg M,a0Z (by simp only[a1L,ByteArray.size_data];omega),a0k]
 |succ n ih=>
  intro i r h
  have hi:i<bs.size:=M
  rw[ByteArray.toList.loop,if_pos hi,ih (i+1) _ M]
  have E:i<J bs.data.toList:=by simpa using hi
  rw[a0O E]
  simp[ByteArray.get!,hi]
theorem eb(bs:ByteArray):bs.toList=bs.data.toList:=by unfold ByteArray.toList;rw[kO bs _ 0 [] rfl];simp
section
variable {P:Program} {μ:Emb}
theorem ep{ρ ρ' o H H' r}(h:bB P ρ o H=some (r,H'))(hs: ∀cs b,o.op≠ .select cs b)
  (hρ: ∀x∈o.op.operands,VRel μ (ρ x) (ρ' x)):H'=H/\∃v v',r= .val v/\(∀w,(execOp ρ' o).run P w= .ok (.value v') w)/\VRel μ v v':=by
 unfold bB at h
 cases O:o.op.operands.toList.all λx=>jN (ρ x) with
 |false=>rw[O]at h;cases h
 |true=>
  rw[O]at h
  have U:execOp ρ' o=execOp ρ o:=execOp_congr o hs λx T=>(hρ x T).eq1 (a0r.1 O x (by simpa using T))
  simp only[cond_true]at h
  split at h
  ·rename_i v Z;cases E:noA2 v with
   |false=>rw[E]at h;cases h
   |true=>
    rw[E]at h;simp only[cond_true,a01,a05]at h
    obtain⟨rfl,rfl⟩:=h
    exact⟨V,v,v,V,λw=>by rw[U];exact dr P Z w,VRel.refl2 E⟩
  cases h
theorem mJ{s H H' r}(h:lift P s H=some (r,H')):H'=H/\∃v,r= .val v/\aD P s=some v:=by
 unfold lift at h;split at h
 ·rename_i v E;simp only[a01,a05]at h;exact⟨h.2.symm,v,h.1.symm,E⟩
 cases h
theorem intBin_sound{op}{k:IntKind}{a b:Int}{v}(h:nP op k a b=some v)(t:TypeId)(w:World):
  (binOp op t (.int k a) (.int k b)).run P w= .ok v w/\dG v=true:=by
 cases op<;>simp only[nP,a01,reduceCtorEq]at h
 case quo=>
  cases hb:(b==0) with
  |true=>rw[hb]at h;cases h
  |false=>
   rw[hb]at h;simp only[cond_false,a01]at h;subst h
   have E: ¬b=0:=by simpa using hb
   simp[binOp_quo,Op.intDiv,E,dG]
 case rem=>
  cases hb:(b==0) with
  |true=>rw[hb]at h;cases h
  |false=>
   rw[hb]at h;simp only[cond_false,a01]at h;subst h
   have E: ¬b=0:=by simpa using hb
   simp[binOp_rem,Op.intDiv,E,dG]
 all_goals subst h
 case add=>simp[binOp_add,Op.intArith,dG]
 case sub=>simp[binOp_sub,Op.intArith,dG]
 case mul=>simp[binOp_mul,Op.intArith,dG]
 case and=>simp[binOp_and,intBits_and,dG,fj]
 case or=>simp[binOp_or,intBits_or,dG,fj]
 case xor=>simp[binOp_xor,intBits_xor,dG,fj]
 case andNot=>simp[binOp_andNot,intBits_andNot,dG,fj]
 case eql=>simp[binOp_eql,dG]
 case neq=>simp[binOp_neq,dG]
 case lss=>simp[binOp_lss,dG]
 case leq=>simp[binOp_leq,dG]
 case gtr=>simp[binOp_gtr,dG]
 case geq=>simp[binOp_geq,dG]
theorem shBin_sound{op}{k O:IntKind}{a b:Int}{v}(h:shBin op k a b=some v)(t:TypeId)(w:World):
  (binOp op t (.int k a) (.int O b)).run P w= .ok v w/\dG v=true:=by
 cases op<;>simp only[shBin,reduceCtorEq]at h
 all_goals
  cases b with
  |negSucc n=>simp[shiftN]at h
  |ofNat n=>
   simp only[shiftN,a01]at h;subst h
   have E: ¬((n:Int)<0):=M
   simp[binOp_shl,binOp_shr,Op.shift,E,dG,Nat.min_def]
theorem mb{op}{t:TypeId}{a b v}(h:strOp op a b=some v)(w:World):
  (binOp op t (.string a) (.string b)).run P w= .ok v w/\dG v=true:=by
 have hb:binOp op t (.string a) (.string b)=Op.stringOp op a b:=by cases op<;>rfl
 rw[hb]
 unfold strOp at h
 split at h
 ·injection h with h;subst h;simp[Op.stringOp,eb,ey,dG]
 ·injection h with h;subst h;simp[Op.stringOp,eb,ey,dG]
 ·injection h with h;subst h;simp[Op.stringOp,eb,dG]
 ·injection h with h;subst h;simp[Op.stringOp,eb,ey,dG]
 ·injection h with h;subst h;simp[Op.stringOp,eb,ey,dG]
 ·injection h with h;subst h;simp[Op.stringOp,eb,dG]
 ·simp only[eO,bp]at h;cases E:Nat.ble (J (a.data.toList++b.data.toList)) 1099511627776 with
  |false=>rw[E]at h;cases h
  |true=>
   rw[E]at h;simp only[cond_true,a01]at h;subst h
   have O:=a0d E
   simp only[a00,a1L,ByteArray.size_data]at O
   refine⟨?_,V⟩
   have T: ¬(((a.size+b.size:Nat):Int)>IntKind.i64.max):=by rw[IntKind.max_i64];omega
   simp only[Op.stringOp,if_neg T,Sem.run_pure]
   congr 2
 cases h
theorem nN{a v'}(h:VRel μ (.pointer a) v'): ∃E,v'= .pointer E/\E.isNone=a.isNone:=by
 cases h with
 |atom _ h0=>exact⟨a,V,V⟩
 |ptr b o l hb=>exact⟨_,V,V⟩
theorem dW{a n k v'}(h:VRel μ (.slice a n k) v'): ∃E O,v'= .slice E n O/\E.isNone=a.isNone:=by
 cases h with
 |atom _ h0=>exact⟨a,k,V,V⟩
 |sliceC b o n k l hb ho=>exact⟨_,_,V,V⟩
 |sliceO b o o' n k O e l hb ho h1 h2 h3 h4=>exact⟨_,_,V,V⟩
 |sliceZ b o a l hb=>exact⟨_,_,V,V⟩
theorem nO{a v'}(h:VRel μ (.map a) v'): ∃E,v'= .map E/\E.isNone=a.isNone:=by
 cases h with
 |atom _ h0=>exact⟨a,V,V⟩
 |map b l hb=>exact⟨_,V,V⟩
theorem fA{t:TypeId}{x y w b}(h: ∀d,(Op.equalIn (d+1) t x y).run P w= .ok b w):(Op.equal t x y).run P w= .ok b w:=h 9999
theorem mE{t:TypeId}{x y Z y' b}(h:nilEq P t x y=some b)(T:VRel μ x Z)(U:VRel μ y y')(w:World):
  (Op.equal t Z y').run P w= .ok b w/\(∀op u v,eqGuard op t u v Z y'=pure ())/\(∀op,op= .eql\/op= .neq->binOp op t Z y'=(match op with
   | .eql=>do pure (.bool (←Op.equal t Z y'))
   |_=>do pure (.bool (!(←Op.equal t Z y'))))):=by
 unfold nilEq at h
 split at h
 ·rename_i e b0 O;obtain rfl:=T.eq0 V;obtain⟨b',rfl,hb⟩:=nN U;injection h with h;subst h;refine⟨?_,λop u v=>by cases op<;>rfl,λop E=>by rcases E with rfl|rfl<;>rfl⟩;exact fA λd=>by simp[Op.equalIn,am w O,hb]
 ·rename_i e a0 O;obtain rfl:=U.eq0 V;obtain⟨a',rfl,ha⟩:=nN T;injection h with h;subst h;refine⟨?_,λop u v=>by cases op<;>rfl,λop E=>by rcases E with rfl|rfl<;>rfl⟩;exact fA λd=>by cases a'<;>simp[Op.equalIn,am w O,←ha]
 ·rename_i e n k b0 n2 k2 O;obtain⟨rfl,rfl,rfl⟩:=T.sliceNil_inv;obtain⟨b',k',rfl,hb⟩:=dW U;injection h with h;subst h;refine⟨?_,λop u v=>by cases op<;>rfl,λop E=>by rcases E with rfl|rfl<;>rfl⟩;exact fA λd=>by simp[Op.equalIn,am w O,hb]
 ·rename_i e a0 n k n2 k2 O;obtain⟨rfl,rfl,rfl⟩:=U.sliceNil_inv;obtain⟨a',k',rfl,ha⟩:=dW T;injection h with h;subst h;refine⟨?_,λop u v=>by cases op<;>rfl,λop E=>by rcases E with rfl|rfl<;>rfl⟩;exact fA λd=>by cases a'<;>simp[Op.equalIn,am w O,←ha]
 ·rename_i e1 e2 b0 O;obtain rfl:=T.eq0 V;obtain⟨b',rfl,hb⟩:=nO U;injection h with h;subst h;refine⟨?_,λop u v=>by cases op<;>rfl,λop E=>by rcases E with rfl|rfl<;>rfl⟩;exact fA λd=>by simp[Op.equalIn,am w O,hb]
 ·rename_i e1 e2 a0 O;obtain rfl:=U.eq0 V;obtain⟨a',rfl,ha⟩:=nO T;injection h with h;subst h;refine⟨?_,λop u v=>by cases op<;>rfl,λop E=>by rcases E with rfl|rfl<;>rfl⟩;exact fA λd=>by cases a'<;>simp[Op.equalIn,am w O,←ha]
 ·rename_i ps rs va O;obtain rfl:=T.eq0 V;obtain rfl:=U.eq0 V;injection h with h;subst h;refine⟨?_,λop u v=>by cases op<;>rfl,λop E=>by rcases E with rfl|rfl<;>rfl⟩;exact fA λd=>by simp[Op.equalIn,am w O]
 ·rename_i ps rs va fn xs ys O;obtain rfl:=T.eq0 V;obtain⟨a1,a2,rfl,_,_⟩:=U.func_inv;injection h with h;subst h;refine⟨?_,λop u v=>by cases op<;>rfl,λop E=>by rcases E with rfl|rfl<;>rfl⟩;exact fA λd=>by simp[Op.equalIn,am w O]
 ·rename_i ps rs va fn xs ys O;obtain rfl:=U.eq0 V;obtain⟨a1,a2,rfl,_,_⟩:=T.func_inv;injection h with h;subst h;refine⟨?_,λop u v=>by cases op<;>rfl,λop E=>by rcases E with rfl|rfl<;>rfl⟩;exact fA λd=>by simp[Op.equalIn,am w O]
 cases h
theorem part_rel{t:TypeId}{cs E}{off:Nat}{v}(U:LRel μ cs.toList E.toList)(h:aD P (part t cs off)=some v):
  ∃v',aD P (part t E off)=some v'/\VRel μ v v':=by
 unfold part at h⊢
 simp only[aJ,gP]at h⊢
 cases T:ff P t with
 |none=>rw[T]at h;simp at h
 |some g=>
  rw[T]at h
  cases g with
  |true=>
   simp only[a0q,if_true,aJ,cU]at h⊢
   cases hs:dL P t with
   |none=>rw[hs]at h;simp at h
   |some n=>
    rw[hs]at h
    simp only[a0q,bE,a01]at h⊢
    subst h
    refine⟨_,V,?_⟩
    have:=(U.take (off+n)).drop off
    have ex: ∀c:Array Value,(c.extract off (off+n)).toList=(c.toList.take (off+n)).drop off:=λc=>by simp[a27]
    exact .agg _ _ (by rw[ex,ex];exact this.1) (by rw[ex,ex];exact this.2)
  |false=>
   simp only[a0q,a0j,if_false]at h⊢
   cases hc:cs[off]? with
   |none=>rw[hc]at h;simp at h
   |some u=>
    rw[hc]at h
    simp only[bE,a01]at h;subst h
    have⟨v',Z,O⟩:=U.get (i:=off) (v:=u) (by simpa using hc)
    refine⟨v',?_,O⟩
    have:E[off]?=some v':=by simpa using Z
    rw[this];rfl
theorem field_rel{t:TypeId}{x T f v}(Z:VRel μ x T)(h:aD P (Instr.field t x f)=some v):
  ∃v',aD P (Instr.field t T f)=some v'/\VRel μ v v':=by
 unfold Instr.field at h⊢
 simp only[aJ,bA]at h⊢
 cases O:P.underlying t with
 |none=>rw[O]at h;simp at h
 |some d=>
  rw[O]at h
  simp only[a0q]at h⊢
  cases d with
  |struct fields=>
   simp only at h⊢
   cases E:fields[f]? with
   |none=>rw[E]at h;simp at h
   |some fd=>
    rw[E]at h
    simp only[aJ]at h⊢
    cases x with
    |agg cs=>
     obtain⟨al,rfl,U⟩:=Z.agg_inv
     simp only[asAgg,bE,a0q]at h⊢
     exact part_rel U h
    |_=>simp[asAgg]at h
  |_=>simp at h
theorem index_rel{t:TypeId}{x U i T v}(hx:VRel μ x U)(hi:VRel μ i T)(E: ∀s,x≠ .string s)(h:aD P (Instr.index t x i)=some v):
  ∃v',aD P (Instr.index t U T)=some v'/\VRel μ v v':=by
 cases i with
 |int k n=>
  obtain rfl:=hi.int_inv
  unfold Instr.index at h⊢
  simp only[asIntOf,aJ,bE,a0q,bA]at h⊢
  cases O:P.underlying t with
  |none=>rw[O]at h;simp at h
  |some d=>
   rw[O]at h
   simp only[a0q]at h⊢
   cases d with
   |array len e=>
    cases x with
    |agg cs=>
     obtain⟨an,rfl,Z⟩:=hx.agg_inv
     simp only at h⊢
     by_cases hb:0<=n/\n<(len:Int)
     ·rw[if_pos hb]at h⊢;simp only[aJ,cU]at h⊢;cases hs:dL P e with
      |none=>rw[hs]at h;simp at h
      |some sz=>rw[hs]at h;simp only[a0q]at h⊢;exact part_rel Z h
     rw[if_neg hb,js]at h;cases h
    |_=>simp at h
   |string=>
    cases x with
    |string s=>exact absurd V (E s)
    |_=>simp at h
   |_=>simp at h
 |pointer a=>cases a<;>simp[Instr.index,asIntOf]at h
 |_=>simp[Instr.index,asIntOf]at h
theorem j0: ∀(l l':List Value) (s off:Nat) (A T:Array Value),LRel μ l l'->LRel μ A.toList T.toList->
  LRel μ ((l.zipIdx s).foldl (λcs p=>cs.setIfInBounds (off+p.2) p.1) A).toList ((l'.zipIdx s).foldl (λcs p=>cs.setIfInBounds (off+p.2) p.1) T).toList
 | [],l',s,off,A,T,h,hA=>by rw[h.nil_left];exact hA
 |v::l,l',s,off,A,T,h,hA=>by
  obtain⟨v',t',rfl,hv,Z⟩:=h.cons_left;simp only[List.zipIdx_cons,a1M];refine j0 l t' _ off _ _ Z ⟨by simpa using hA.1,λi x x' E O=>?_⟩;simp only[Array.toList_setIfInBounds,List.getElem?_set]at E O;have U:=hA.1;by_cases hi:off+s=i
  ·rw[if_pos hi]at E O;split at E
   ·rename_i ax;rw[if_pos M]at O;injection E with E;injection O with O;subst E O;exact hv
   cases E
  rw[if_neg hi]at E O;exact hA.2 i x x' E O
theorem lO{E}: ∀(ps ps':List (Nat×Value)) (A A':Array Value) (r:Array Value),J ps=J ps'->
  (∀(i:Nat) x O,ps[i]?=some x->ps'[i]?=some O->x.1=O.1/\VRel μ x.2 O.2)->LRel μ A.toList A'.toList->Instr.fill E A ps=some r->
  ∃r',Instr.fill E A' ps'=some r'/\LRel μ r.toList r'.toList
 | [],ps',A,A',r,hl,_,hA,h=>by have:ps'=[]:=a0e hl.symm;subst this;simp only[Instr.fill,a01]at h;subst h;exact⟨A',V,hA⟩
 |(i,v)::ps,ps',A,A',r,hl,hp,hA,h=>by
  cases ps' with
  |nil=>simp at hl
  |cons O ps'=>
   have⟨i',v'⟩:=O
   have⟨hi,hv⟩:=hp 0 (i,v) (i',v') V V
   simp only at hi hv;subst hi
   simp only[Instr.fill]at h⊢
   cases U:E i with
   |none=>rw[U]at h;cases h
   |some os=>
    have⟨off,size⟩:=os
    rw[U]at h
    simp only at h⊢
    have hc:=hv.cells
    have al:v'.cells.size=v.cells.size:=by have:=hc.1;simpa using this.symm
    have Z:A'.size=A.size:=by have:=hA.1;simpa using this.symm
    rw[al,Z]
    split at h
    ·cases h
    rename_i T
    rw[if_neg T]
    refine lO ps ps' _ _ r (by simpa using hl) (λj x O h1 h2=>hp (j+1) x O (by simpa using h1) (by simpa using h2)) ?_ h
    have:=j0 v.cells.toList v'.cells.toList 0 off A A' hc hA
    have e: ∀(u:Value) (B:Array Value),Array.foldl (λcs x=>cs.setIfInBounds (off+x.snd) x.fst) B u.cells.zipIdx=List.foldl (λcs p=>cs.setIfInBounds (off+p.snd) p.fst) B u.cells.toList.zipIdx:=λu B=>by rw[←Array.foldl_toList,Array.toList_zipIdx]
    exact(e v A▸e v' A'▸this:LRel μ _ _)
end
section
variable {P:Program} {μ:Emb}
theorem build_rel{t:TypeId}{ps ps' v}(Z:J ps.toList=J ps'.toList)
  (hp: ∀(i:Nat) x x',ps.toList[i]?=some x->ps'.toList[i]?=some x'->x.1=x'.1/\VRel μ x.2 x'.2)
  (hz:(dm P t).isSome=true) (h:aD P (Instr.build t ps)=some v):
  ∃v',aD P (Instr.build t ps')=some v'/\VRel μ v v':=by
 unfold Instr.build at h⊢
 have aA:aD P (zeroValue t)=(P.info? t).bind (·.zero):=by
  unfold zeroValue;simp only[aJ,dM];cases hi:P.info? t with
  |none=>rfl
  |some i=>simp only[a0q];cases i.zero<;>rfl
 simp only[aJ,aA,bA]at h⊢
 cases hi:(P.info? t).bind (·.zero) with
 |none=>rw[hi]at h;simp at h
 |some z=>
  rw[hi]at h
  have U:LRel μ z.cells.toList z.cells.toList:=by have⟨zl,ax⟩:=Option.isSome_iff_exists.1 hz;have⟨i,v0,h1,h2,h3,h4⟩:=gH (P:=P) ax;rw[h1]at hi;simp only[a0q,h2,a01]at hi;subst hi;exact LRel.refl0 (by rw[h3];exact h4)
  simp only[a0q]at h⊢
  cases hu:P.underlying t with
  |none=>rw[hu]at h;simp at h
  |some d=>
   rw[hu]at h
   simp only[a0q]at h⊢
   cases d with
   |struct fields=>
    simp only[aJ]at h⊢
    cases hm:aD P (fields.mapM λf=>do let y ←sizeOf f.type;Pure.pure (f.offset,y)) with
    |none=>rw[hm]at h;simp at h
    |some places=>
     rw[hm]at h
     simp only[a0q]at h⊢
     cases O:Instr.fill (λx=>places[x]?) z.cells ps.toList with
     |none=>rw[O]at h;simp at h
     |some r=>
      rw[O]at h
      simp only[bE,a01]at h
      subst h
      have⟨r',T,E⟩:=lO _ _ _ _ _ Z hp U O
      exact⟨_,by rw[T];rfl,.agg _ _ E.1 E.2⟩
   |array n e=>
    simp only[aJ,cU]at h⊢
    cases hs:dL P e with
    |none=>rw[hs]at h;simp at h
    |some sz=>
     rw[hs]at h
     simp only[a0q]at h⊢
     cases O:Instr.fill (λi=>some (i *sz,sz)) z.cells ps.toList with
     |none=>rw[O]at h;simp at h
     |some r=>
      rw[O]at h
      simp only[bE,a01]at h
      subst h
      have⟨r',T,E⟩:=lO _ _ _ _ _ Z hp U O
      exact⟨_,by rw[T];rfl,.agg _ _ E.1 E.2⟩
   |_=>simp at h
theorem ka{v v' n}(h:asNat v=some n)(E:VRel μ v v'): ∃k,v'= .int k (n:Int):=by
 unfold asNat at h;split at h
 ·rename_i k m;injection h with h;subst h;exact⟨k,E.int_inv⟩
 cases h
theorem aField_sound{s:TypeId}{x T f v}(h:kh P s x f=some v)(hx:VRel μ x T):
  ∃v',(∀w,(Instr.fieldAt s T f).run P w= .ok v' w)/\VRel μ v v':=by
 unfold kh at h
 split at h
 ·rename_i fs b o hu;split at h
  ·rename_i fd U;split at h
   ·rename_i n Z;cases E:Nat.beq n 0 with
    |true=>rw[E]at h;cases h
    |false=>
     rw[E]at h;simp only[cond_false,a01]at h;subst h
     obtain⟨l,hb,rfl⟩:=hx.ptr_inv
     have O: ¬n=0:=λe=>by subst e;cases E
     refine⟨_,λw=>?_,a0C _ o _▸VRel.ptr b _ l hb⟩
     simp[Instr.fieldAt,am w hu,U,Instr.sureAddr,fieldPlace,aV w Z,O,dO,a0C]
   cases h
  cases h
 cases h
theorem lI{t:TypeId}{x x' i i' v}(h:cV P t x i=some v)(hx:VRel μ x x')(hi:VRel μ i i'):
  ∃v',(∀w,(Instr.indexAt t x' i').run P w= .ok v' w)/\VRel μ v v':=by
 unfold cV at h
 split at h
 ·rename_i e b o n k j T Z;obtain⟨ik,rfl⟩:=ka Z hi;split at h
  ·rename_i sz hs;cases E:(Nat.ble (j+1) n&&Nat.ble n k) with
   |false=>rw[E]at h;cases h
   |true=>
    rw[E]at h;simp only[cond_true,a01]at h;subst h
    simp only[a04]at E
    have h1:j+1<=n:=a0d E.1
    have h2:n<=k:=a0d E.2
    have⟨l,hb,hc⟩:=hx.slice_inv
    have O:VRel μ (.pointer (some ⟨b,o+j *sz,none⟩)) (.pointer (some ⟨l.c,l.sh+o+j *sz,none⟩)):=
     a0C l.sh o (j *sz)▸VRel.ptr b (o+j *sz) l hb
    have U:(j:Int)<(n:Int):=M
    rcases hc with⟨_,rfl⟩|⟨e',o',k',_,rfl,_,_,al,_⟩|⟨hz,_,_⟩
    rotate_right
    ·omega
    ·refine⟨_,λw=>?_,O⟩;simp[Instr.indexAt,asIntOf,am w T,aV w hs,dO];omega
    have ho:o'=l.sh+o:=al M
    subst ho
    refine⟨_,λw=>?_,O⟩
    simp[Instr.indexAt,asIntOf,am w T,aV w hs,dO]
    omega
  cases h
 ·rename_i n e b o j T Z;obtain⟨ik,rfl⟩:=ka Z hi;split at h
  ·rename_i sz hs;cases E:Nat.ble (j+1) n with
   |false=>rw[E]at h;cases h
   |true=>
    rw[E]at h;simp only[cond_true,a01]at h;subst h
    have h1:j+1<=n:=a0d E
    obtain⟨l,hb,rfl⟩:=hx.ptr_inv
    refine⟨_,λw=>?_,a0C _ o _▸VRel.ptr b _ l hb⟩
    have U:(j:Int)<(n:Int):=M
    have h0:(0:Int)<=(j:Int)/\(j:Int)<(n:Int):=⟨by omega,U⟩
    simp only[Instr.indexAt,asIntOf,am w T,aV w hs,dO,Instr.sureAddr,Sem.run_bind,Sem.run_pure,Result.andThen_ok,if_pos h0,Int.toNat_natCast]
  cases h
 cases h
theorem strIndex_run{t:TypeId}{s}{k:IntKind}{j:Nat}{b}(T:P.underlying t=some .string)(hb:s.data.toList[j]?=some b)(w:World):
  (Instr.index t (.string s) (.int k (j:Int))).run P w= .ok (.int .u8 b.toNat) w:=by
 have E:j<s.size:=by have:=(a0A.1 hb).1;simpa using this
 have O:s[j]?=some b:=by rw[getElem?_pos s j E];have:=(a0A.1 hb).2;rw[←this];rfl
 simp[Instr.index,asIntOf,am w T,O]
theorem lV{ops:Array Operand}{ρ ρ':Operand->Value}(h: ∀x∈ops,VRel μ (ρ x) (ρ' x)):LRel μ (ops.map ρ).toList (ops.map ρ').toList:=by refine⟨by simp,λi v v' O T=>?_⟩;simp only[a1X,a1J,a1Q]at O T;obtain⟨x,U,rfl⟩:=O;obtain⟨y,E,rfl⟩:=T;rw[U]at E;injection E with E;subst E;exact h x (by simpa using a0w U)
theorem pQ{t:TypeId}{x U:Value}{f:Nat}{v:Value}(h:jJ P t x f=some v)(hx:VRel μ x U):
  ∃v',(∀w,(Instr.field t U f).run P w= .ok v' w)/\VRel μ v v':=by
 unfold jJ at h
 split at h
 ·rename_i cs;split at h
  ·rename_i g n off E;have hp:aD P (Instr.field t (.agg cs) f)=some v:=by
    unfold fieldAt? at E;split at E
    ·rename_i fs hu;split at E
     ·rename_i Z O;split at E
      ·rename_i g' n' hg hn;simp only[a01,a05]at E;obtain⟨rfl,rfl,rfl⟩:=E;unfold Instr.field part;simp only[aJ,bA,hu,a0q,O,asAgg,bE,gP,hg];unfold partL at h;cases g' with
       |true=>
        simp only[cond_true,a01,bL,bX]at h
        simp only[if_true,aJ,cU,hn,a0q,bE,a01]
        subst h
        congr 1
        apply Array.ext'
        simp
       |false=>
        simp only[cond_false,hM]at h
        simp only[a0j,if_false]
        have hc:cs[Z.offset]?=some v:=by simpa using h
        rw[hc];rfl
      cases E
     cases E
    cases E
   obtain⟨v',T,hr⟩:=field_rel hx hp;exact⟨v',λw=>dr P T w,hr⟩
  cases h
 cases h
theorem cR{r H H' n}(h:ovl r H=some (n,H')):H'=H/\∃v,r=some v/\n= .val v:=by
 unfold ovl at h;split at h
 ·rename_i v;simp only[a01,a05]at h;exact⟨h.2.symm,v,V,h.1.symm⟩
 cases h
theorem kI{op r H H' n}(h:nilBin op r H=some (n,H')):
  H'=H/\∃b,r=some b/\((op= .eql/\n= .val (.bool b))\/(op= .neq/\n= .val (.bool (!b)))):=by
 unfold nilBin at h
 split at h
 ·rename_i b;split at h
  ·simp only[a01,a05]at h;exact⟨h.2.symm,b,V,.inl ⟨V,h.1.symm⟩⟩
  ·simp only[a01,a05]at h;exact⟨h.2.symm,b,V,.inr ⟨V,h.1.symm⟩⟩
  cases h
 cases h
theorem l6{ρ ρ' o H H' r}(hk:aR o.op=true)
  (T: ∀x∈o.op.operands,VRel μ (ρ x) (ρ' x)) (h:aop P ρ o H=some (r,H')):
  H'=H/\∃v v',r= .val v/\(∀w,(execOp ρ' o).run P w= .ok (.value v') w)/\VRel μ v v':=by
 obtain⟨b1,op,b0,pos,after,bf⟩:=o
 cases op<;>simp only[aR,a0j]at hk
 case move x=>
  simp only[aop,a01,a05]at h
  obtain⟨rfl,rfl⟩:=h
  exact⟨V,_,_,V,λw=>rfl,T x (by simp[Op.operands])⟩
 case assign x=>
  simp only[aop,a01,a05]at h
  obtain⟨rfl,rfl⟩:=h
  exact⟨V,_,_,V,λw=>rfl,T x (by simp[Op.operands])⟩
 case pick c a b=>
  simp only[aop,il]at h
  split at h
  ·rename_i t ht;cases h;have hc:ρ' c= .bool t:=by have:=T c (by simp[Op.operands]);rw[ht]at this;exact this.bool_inv
   refine⟨V,_,(if t then ρ' a else ρ' b),V,λw=>?_,?_⟩
   ·simp[execOp,hc,asBool]
   cases t
   ·exact T b (by simp[Op.operands])
   exact T a (by simp[Op.operands])
  cases h
 case build t parts=>
  simp only[aop,jt]at h
  split at h
  case h_2=>cases h
  rename_i z hz
  obtain⟨rfl,v,rfl,E⟩:=mJ h
  obtain⟨v',U,Z⟩:=build_rel (μ:=μ) (ps:=parts.map λp=>(p.1,ρ p.2)) (ps':=parts.map λ(i,x)=>(i,ρ' x)) (by simp) (λi x x' h1 h2=>by
   simp only[a1X,a1J,a1Q]at h1 h2;obtain⟨y,hy,rfl⟩:=h1;obtain⟨z,hz,rfl⟩:=h2;rw[hy]at hz;injection hz with hz;subst hz;refine⟨V,T _ ?_⟩;have:=a0w hy;simp only[Op.operands,List.mem_toArray,a0B];exact⟨y,this,V⟩) (by rw[hz];rfl) E
  exact⟨V,v,v',V,λw=>by simp only[execOp,Sem.run_bind,dr P U w,Result.andThen_ok,Sem.run_pure],Z⟩
 case nilCheck x=>
  simp only[aop,opNil]at h
  split at h
  ·rename_i a ha;cases h;have O:=T x (by simp[Op.operands]);rw[ha]at O;obtain⟨_,a',a7⟩:=O.ptr_some;exact⟨V,_,_,V,λw=>by simp[execOp,a7],O⟩
  ·rename_i f a c ha;cases h;have O:=T x (by simp[Op.operands]);rw[ha]at O;obtain⟨a',c',a8,_,_⟩:=O.func_inv;exact⟨V,_,_,V,λw=>by simp[execOp,a8],O⟩
  cases h
 case binOp op t x y yt=>
  have O:=T x (by simp[Op.operands])
  have hy:=T y (by simp[Op.operands])
  simp only[aop,aBin]at h
  split at h
  ·rename_i k a ha;rw[ha]at O;unfold binInt at h;split at h
   ·rename_i k' b hb;rw[hb]at hy;obtain⟨rfl,v,E,rfl⟩:=cR h;have key: ∀w,(binOp op t (.int k a) (.int k' b)).run P w= .ok v w/\dG v=true:=by
     intro w;cases hs:mL op with
     |true=>rw[hs]at E;exact shBin_sound E t w
     |false=>
      rw[hs]at E
      simp only[cond_false]at E
      cases he:hN k k' with
      |false=>rw[he]at E;cases E
      |true=>
       rw[he]at E
       have:k=k':=by simpa[hN] using he
       subst this
       exact intBin_sound E t w
    refine⟨V,v,v,V,λw=>?_,.atom v (key default).2⟩;simp only[execOp,O.int_inv,hy.int_inv,eqGuard_at_int,pure_bind,Sem.run_bind,(key w).1,Result.andThen_ok,Sem.run_pure]
   cases h
  ·rename_i a ha;rw[ha]at O;unfold binStr at h;split at h
   ·rename_i b hb;rw[hb]at hy;obtain⟨rfl,v,E,rfl⟩:=cR h;refine⟨V,v,v,V,λw=>?_,.atom v (mb (P:=P) (t:=t) E default).2⟩;simp only[execOp,O.string_inv,hy.string_inv,eqGuard_at_string,pure_bind,Sem.run_bind,(mb (P:=P) (t:=t) E w).1,Result.andThen_ok,Sem.run_pure]
   cases h
  unfold pJ at h
  split at h
  ·exact ep h (λ_ _=>by simp) T
  ·exact ep h (λ_ _=>by simp) T
  obtain⟨rfl,b,hb,aA⟩:=kI h
  rcases aA with⟨rfl,rfl⟩|⟨rfl,rfl⟩
  ·refine⟨V,_,_,V,λw=>?_,.atom _ V⟩;obtain⟨h1,h2,h3⟩:=mE (P:=P) hb O hy w;simp only[execOp,h2,pure_bind,h3 .eql (.inl V),Sem.run_bind,h1,Result.andThen_ok,Sem.run_pure]
  refine⟨V,_,_,V,λw=>?_,.atom _ V⟩
  obtain⟨h1,h2,h3⟩:=mE (P:=P) hb O hy w
  simp only[execOp,h2,pure_bind,h3 .neq (.inr V),Sem.run_bind,h1,Result.andThen_ok,Sem.run_pure]
 case unOp op t x=>
  have O:=T x (by simp[Op.operands])
  simp only[aop,aUn]at h
  split at h
  ·rename_i b hb;rw[hb]at O;split at h
   ·cases h;exact⟨V,_,_,V,λw=>by simp[execOp,O.bool_inv,Op.unary],.atom _ V⟩
   cases h
  exact ep h (λ_ _=>by simp) T
 case makeFunc fn first captured=>
  simp only[aop,a01,a05]at h
  obtain⟨rfl,rfl⟩:=h
  have h1:=lV (μ:=μ) (ops:=first) (ρ:=ρ) (ρ':=ρ') λx O=>T x (by simp[Op.operands,O])
  have h2:=lV (μ:=μ) (ops:=captured) (ρ:=ρ) (ρ':=ρ') λx O=>T x (by simp[Op.operands,O])
  exact⟨V,_,_,V,λw=>rfl,.func _ _ _ _ _ h1.1 h2.1 h1.2 h2.2⟩
 case fieldAddr s x f=>
  simp only[aop]at h
  obtain⟨rfl,v,E,rfl⟩:=cR h
  obtain⟨v',U,Z⟩:=aField_sound E (T x (by simp[Op.operands]))
  exact⟨V,v,v',V,λw=>by simp only[execOp,Sem.run_bind,U w,Result.andThen_ok,Sem.run_pure],Z⟩
 case field t x f=>
  simp only[aop]at h
  obtain⟨rfl,v,E,rfl⟩:=cR h
  obtain⟨v',U,Z⟩:=pQ E (T x (by simp[Op.operands]))
  exact⟨V,v,v',V,λw=>by simp only[execOp,Sem.run_bind,U w,Result.andThen_ok,Sem.run_pure],Z⟩
 case indexAddr t x i=>
  simp only[aop]at h
  obtain⟨rfl,v,E,rfl⟩:=cR h
  obtain⟨v',U,Z⟩:=lI E (T x (by simp[Op.operands])) (T i (by simp[Op.operands]))
  exact⟨V,v,v',V,λw=>by simp only[execOp,Sem.run_bind,U w,Result.andThen_ok,Sem.run_pure],Z⟩
 case index t x i=>
  have O:=T x (by simp[Op.operands])
  have hi:=T i (by simp[Op.operands])
  simp only[aop,ne]at h
  split at h
  ·rename_i s hs;rw[hs]at O;obtain⟨rfl,v,E,rfl⟩:=cR h;unfold strAt at E;split at E
   ·rename_i j hu hj;obtain⟨k,hk⟩:=ka hj hi;rw[hM]at E;split at E
    ·rename_i b hb;injection E with E;subst E;exact⟨V,_,_,V,λw=>by simp only[execOp,O.string_inv,hk,Sem.run_bind,strIndex_run hu hb w,Result.andThen_ok,Sem.run_pure],.atom _ V⟩
    cases E
   cases E
  rename_i a9
  obtain⟨rfl,v,rfl,E⟩:=mJ h
  obtain⟨v',U,Z⟩:=index_rel O hi (λs hs=>a9 s hs) E
  exact⟨V,v,v',V,λw=>by simp only[execOp,Sem.run_bind,dr P U w,Result.andThen_ok,Sem.run_pure],Z⟩
 case extract x i=>
  simp only[aop]at h
  have O:=T x (by simp[Op.operands])
  obtain⟨rfl,v,E,rfl⟩:=cR h
  unfold iU at E
  split at E
  ·rename_i vs ba;rw[ba]at O;obtain⟨bb,a5,Z⟩:=O.tuple_inv;rw[hM]at E;obtain⟨v',U,a4⟩:=Z.get E;have hg:bb[i]?=some v':=by simpa using U
   exact⟨V,v,v',V,λw=>by simp[execOp,a5,Instr.extract,hg],a4⟩
  cases E
end
theorem gU(l:List Value): ∀n,J (dY n l)=n *J l
 |0=>by simp[dY]
 |n+1=>by simp only[dY,a00,gU l n];rw[a10];omega
theorem n9(l:List Value): ∀(n i:Nat),i<n *J l->(dY n l)[i]?=l[i%J l]?
 |0,i,h=>by simp at h
 |n+1,i,h=>by
  simp only[dY];by_cases hi:i<J l
  ·rw[a1k hi,Nat.mod_eq_of_lt hi]
  rw[a10,Nat.one_mul]at h;rw[a1t M,n9 l n (i-J l) M];congr 1;exact(Nat.mod_eq_sub_mod M).symm
theorem zeros_eq(z:Array Value)(n:Nat):(Array.range (n *z.size)).map (λi=>z[i%z.size]!)=⟨dY n z.toList⟩:=by
 apply a1G;intro i;refine Eq.trans ?_ (mI _ _).symm;by_cases hi:i<n *z.size
 ·rw[n9 _ _ _ (by simpa using hi)];have O:0<z.size:=by
   rcases a1g z.size with h|h
   ·rw[h]at hi;simp at hi
   exact h
  have E:i%z.size<z.size:=a1R _ O;simp[hi,E]
 rw[a1l (by rw[gU];simpa using hi)];simp[hi]
theorem mT{l}(h:l.all dG=true): ∀n,(dY n l).all dG=true
 |0=>rfl
 |n+1=>by simp only[dY,a1H,h,mT h n,a1w]
section
variable {P:Program} {μ:Emb} {H H':Heap} {w:World}
def OpOK(P:Program)(μ:Emb)(H:Heap)(w:World)(s:Sem Next)(r:AN)(H':Heap):Prop:=
 ∃n w' μ',s.run P w= .ok n w'/\Post μ H w μ' H' w'/\ANRel μ' r n
theorem OpOK.value{s v v' w' μ'}(h:s.run P w= .ok v' w')(E:Post μ H w μ' H' w')(O:VRel μ' v v'):
  OpOK P μ H w (do Pure.pure (.value (←s))) (.val v) H':=
 ⟨.value v',w',μ',by simp only[Sem.run_bind,h,Result.andThen_ok,Sem.run_pure],E,O⟩
theorem OpOK.skip{s w' μ'}(h:s.run P w= .ok () w')(E:Post μ H w μ' H' w'):
  OpOK P μ H w (do s;Pure.pure .skip) .skip H':=
 ⟨.skip,w',μ',by simp only[Sem.run_bind,h,Result.andThen_ok,Sem.run_pure],E,trivial⟩
theorem ovh_inv{r n}(h:ovh r=some (n,H')): ∃v,r=some (v,H')/\n= .val v:=by
 unfold ovh at h;split at h
 ·cases h;exact⟨_,V,V⟩
 cases h
theorem osk_inv{r n}(h:osk r=some (n,H')):r=some H'/\n= .skip:=by
 unfold osk at h;split at h
 ·cases h;exact⟨V,V⟩
 cases h
theorem mO(h:WRel μ H w)(hf:μ H.next=none)(e:TypeId){cs E}(O:LRel μ cs E):
  ∃l,l.c=w.heap.size/\l.sh=0/\l.opn=none/\(newRow e ⟨E⟩).run P w= .ok ⟨w.heap.size,0,none⟩ (w.alloc (.cells ⟨E⟩ e))/\
   Post μ H w (μ.set H.next l) (aP H cs none) (w.alloc (.cells ⟨E⟩ e)):=by
 have⟨l,Z,h2,h3,_,T,U⟩:=dV (P:=P) h hf e O [] none (λ_=>rfl)
 simp only[a0k]at T U
 exact⟨l,Z,h2,h3,T,U⟩
theorem alloc_sound{e:TypeId}{r}(h:WRel μ H w)(hf: ∀b,H.next<=b->b<H'.next->μ b=none)(E:fG P e H=some (r,H')):
  OpOK P μ H w (do Pure.pure (.value (←Instr.alloc e true (.tuple #[])))) r H':=by
 unfold fG at E
 split at E
 ·rename_i z hz;cases E;have⟨i,v,hi,hv,hc,O⟩:=gH (P:=P) hz;have⟨l,Z,h2,h3,T,hp⟩:=mO (P:=P) h (hf H.next (a07 _) (by simp[aP])) e (LRel.refl0 (μ:=μ) O);have U:v.cells=⟨z⟩:=by rw[←hc]
  refine OpOK.value (v':= .pointer (some ⟨w.heap.size,0,none⟩)) ?_ hp ?_
  ·simp only[Instr.alloc,Sem.run_bind,fv w hi hv,Result.andThen_ok,newVar,U,T,Sem.run_pure]
  have:=VRel.ptr (μ:=μ.set H.next l) H.next 0 l (Emb.set_same _ _ _);rw[Z,h2]at this;exact this
 cases E
theorem box_sound{e:TypeId}{x O}(h:WRel μ H w)(Z:μ H.next=none)(hx:VRel μ x O):
  OpOK P μ H w (do Pure.pure (.value (←Instr.box e O))) (.val (ptrTo H.next)) (aP H x.cells.toList none):=by
 have⟨l,T,U,h3,E,hp⟩:=mO (P:=P) h Z e hx.cells
 refine OpOK.value (v':= .pointer (some ⟨w.heap.size,0,none⟩)) ?_ hp ?_
 ·simp only[Instr.box,newVar,Sem.run_bind,E,Result.andThen_ok,Sem.run_pure]
 have:=VRel.ptr (μ:=μ.set H.next l) H.next 0 l (Emb.set_same _ _ _)
 rw[T,U]at this;exact this
theorem nj{t:TypeId}{sz z}(h:ej P t=some (sz,z)): ∃e,P.underlying t=some (.slice e)/\dL P e=some sz/\dm P e=some z/\(J z)=sz:=by
 unfold ej at h;split at h
 ·rename_i e O;split at h
  ·rename_i U Z hs T;cases E:Nat.beq (fU Z) U with
   |false=>rw[E]at h;cases h
   |true=>
    rw[E]at h;simp only[cond_true,a01,a05]at h
    obtain⟨rfl,rfl⟩:=h
    exact⟨e,O,hs,T,by rw[←bp];exact a0a E⟩
  cases h
 cases h
theorem lG{t:TypeId}{n ps ps' r}(h:WRel μ H w)(hf: ∀b,H.next<=b->b<H'.next->μ b=none)
  (hl:J ps=J ps'.toList) (hp: ∀(i:Nat) x x',ps[i]?=some x->ps'.toList[i]?=some x'->x.1=x'.1/\VRel μ x.2 x'.2)
  (O:bN P t n ps H=some (r,H')):OpOK P μ H w (do Pure.pure (.value (←Instr.buildSlice t n ps'))) r H':=by
 unfold bN at O
 split at O
 ·rename_i sz z a3;have⟨e,hu,hs,hz,U⟩:=nj a3;cases hq:Nat.ble (n *sz) 16777216 with
  |false=>rw[hq]at O;cases O
  |true=>
   rw[hq]at O
   simp only[cond_true]at O
   have bt:n *sz<=16777216:=a0d hq
   split at O
   ·rename_i cells hc;cases O;have⟨i,v,hi,hv,a4,ar⟩:=gH (P:=P) hz;have⟨a1,an,aA⟩:=lO (μ:=μ) ps ps'.toList _ _ cells hl hp (LRel.refl0 (mT ar n)) hc;have⟨l,h1,h2,h3,T,al⟩:=mO (P:=P) h (hf H.next (a07 _) (by simp[aP])) e aA;refine OpOK.value (v':= .slice (some ⟨w.heap.size,0,none⟩) n n) ?_ al ?_
    ·have a5:v.cells=⟨z⟩:=by rw[←a4]
     simp only[Instr.buildSlice,Sem.run_bind,am w hu,Result.andThen_ok,aV w hs,show ¬(n *sz>2^24) by omega,if_false];by_cases Z:n *sz=0
     ·have a2:dY n z=[]:=a0e (by rw[gU,U];exact Z);have E: ∀g:Nat->Value,(Array.range (n *sz)).map g=⟨dY n z⟩:=λg=>by rw[Z,a2];simp
      rw[if_pos Z];simp only[Sem.run_bind,Sem.run_pure,Result.andThen_ok,E,an,T]
     have E:=zeros_eq ⟨z⟩ n;simp only[show(Array.mk z).size=sz from U]at E;rw[if_neg Z];simp only[Sem.run_bind,fv w hi hv,Sem.run_pure,Result.andThen_ok,a5,show(Array.mk z).size=sz from U,E,an,T]
    have:=VRel.sliceC (μ:=μ.set H.next l) H.next 0 n n l (Emb.set_same _ _ _) h3;rw[h1,h2]at this;exact this
   cases O
 cases O
theorem load_sound{t:TypeId}{a T r}(h:WRel μ H w)(ha:VRel μ a T)(E:fh P t a H=some (r,H')):
  OpOK P μ H w (do Pure.pure (.value (←Instr.loadAt t T))) r H':=by
 unfold fh at E
 split at E
 ·rename_i p;obtain⟨rfl,v,hv,rfl⟩:=cR E;have⟨b,o,sp⟩:=p;have U:sp=none:=ha.ptr_some.1;subst U;obtain⟨l,hb,rfl⟩:=ha.ptr_inv;have⟨v',O,Z⟩:=jv (P:=P) h hb hv;refine OpOK.value ?_ (Post.refl h) Z;simp only[Instr.loadAt,Instr.sureAddr,Sem.run_bind,Sem.run_pure,Result.andThen_ok,O]
 cases E
theorem store_sound{t:TypeId}{a a' x Z r}(h:WRel μ H w)(ha:VRel μ a a')(hx:VRel μ x Z)(E:gk P t a x H=some (r,H')):
  OpOK P μ H w (do Instr.storeAt t a' Z;Pure.pure .skip) r H':=by
 unfold gk at E
 split at E
 ·rename_i p;split at E
  ·rename_i n hn;cases O:Nat.beq x.cells.size n with
   |false=>rw[O]at E;cases E
   |true=>
    rw[O]at E
    obtain⟨hs,rfl⟩:=osk_inv E
    have a1:x.cells.size=n:=a0a O
    have⟨b,o,sp⟩:=p
    have an:sp=none:=ha.ptr_some.1
    subst an
    obtain⟨l,hb,rfl⟩:=ha.ptr_inv
    have⟨w',T,hp⟩:=ib (P:=P) h hb hs hx.cells
    refine OpOK.skip ?_ hp
    have U:Z.cells.size=n:=by have:=hx.cells.1;simp only[a1L]at this;omega
    simp only[Instr.storeAt,Instr.sureAddr,storeVar,Sem.run_bind,Sem.run_pure,Result.andThen_ok,aV w hn,U,ne_eq,not_true,if_false,T]
  cases E
 cases E
theorem oU(t:TypeId)(h:WRel μ H w)(E:μ H.next=none):
  OpOK P μ H w (do Pure.pure (.value (←Instr.makeMap t none))) (.val (.map (some H.next))) (H.push (.tab [])):=by
 refine OpOK.value (v':= .map (some w.heap.size)) (w':=w.alloc (.map #[] 0)) (μ':=μ.set _ ⟨w.heap.size,0,none,0⟩) ?_ (Post.push h E _ V _ _ ?_) ?_
 ·simp[Instr.makeMap]
 ·exact⟨#[],0,jY w _,V,λi x y O=>by simp at O⟩
 exact VRel.map _ _ (Emb.set_same _ _ _)
theorem kC{r o}(E:w.heap[r]?=some o)(hc: ∀c e f,o≠ .cells c e f):(getObj r).run P w= .ok o w:=by cases o<;>first|exact absurd V (hc _ _ _)|(simp only[getObj,Sem.run,E])
theorem run_setObj{r o o'}(E:w.heap[r]?=some o)(hc: ∀c e f,o≠ .cells c e f):(setObj r o').run P w= .ok () (aZ w r o'):=by cases o<;>first|exact absurd V (hc _ _ _)|(simp only[setObj,Sem.run,E];rfl)
theorem bytesOf_info{e:TypeId}{b}(h:gW P e=some b): ∃i,P.info? e=some i/\i.bytes=b:=by
 unfold gW at h;split at h
 ·rename_i i hi;injection h with h;exact⟨i,hi,h⟩
 cases h
end
section
variable {P:Program} {μ:Emb} {H H':Heap} {w:World}
theorem mY{n k l r lo hi}(h:bnds n k lo hi=some (l,r)):
  cy n hi=some r/\cy 0 lo=some l/\l<=r/\r<=k:=by
 unfold bnds at h
 split at h
 ·rename_i O U;split at h
  ·rename_i l' T;cases E:(Nat.ble l' O&&Nat.ble O k) with
   |false=>rw[E]at h;cases h
   |true=>
    rw[E]at h;simp only[cond_true,a01,a05]at h
    obtain⟨rfl,rfl⟩:=h
    simp only[a04]at E
    exact⟨U,T,a0d E.1,a0d E.2⟩
  cases h
 cases h
theorem eR{v v' n y}(h:asNat v=some n)(O:VRel μ v v')(T:n<=y)(E:BoundsCode):(Instr.sliceBound v' y E).run P w= .ok n w:=by
 obtain⟨k,rfl⟩:=ka h O;have:(0:Int)<=(n:Int)/\(n:Int)<=(y:Int):=M
 simp[Instr.sliceBound,asIntOf,this.2]
theorem eM{isSlice n k k' l r lo hi an O}(hb:bnds n k lo hi=some (l,r))(hk:k<=k')
  (ax: ∀v,lo=some v->∃v',an=some v'/\VRel μ v v') (T:lo=none->an=none)
  (a2: ∀v,hi=some v->∃v',O=some v'/\VRel μ v v') (aA:hi=none->O=none):
  (Instr.sliceBounds isSlice n k' an O none).run P w= .ok (l,r,k') w:=by
 have⟨h1,E,h3,h4⟩:=mY hb
 unfold Instr.sliceBounds
 cases hi with
 |none=>
  rw[aA rfl]
  simp only[cy,a01]at h1;subst h1
  cases lo with
  |none=>
   rw[T rfl]
   simp only[cy,a01]at E;subst E
   simp
  |some u=>
   have⟨u',U,Z⟩:=ax u V
   rw[U]
   simp only[Sem.run_bind,Sem.run_pure,Result.andThen_ok,eR (P:=P) (w:=w) E Z h3]
 |some v=>
  have⟨v',a4,hr⟩:=a2 v V
  rw[a4]
  cases lo with
  |none=>
   rw[T rfl]
   simp only[cy,a01]at E;subst E
   simp only[Sem.run_bind,Sem.run_pure,Result.andThen_ok,eR (P:=P) (w:=w) h1 hr (by omega:r<=k')]
  |some u=>
   have⟨u',U,Z⟩:=ax u V
   rw[U]
   simp only[Sem.run_bind,Sem.run_pure,Result.andThen_ok,eR (P:=P) (w:=w) h1 hr (by omega:r<=k'),eR (P:=P) (w:=w) E Z h3]
theorem eL(s:ByteArray)(l r:Nat):s.extract l r=⟨⟨(s.data.toList.drop l).take (r-l)⟩⟩:=by apply ByteArray.ext;apply Array.ext';simp
theorem me{t:TypeId}{x x' lo hi mx a6 a5 a8 r}(h:WRel μ H w)(hx:VRel μ x x')
  (ar: ∀v,lo=some v->∃v',a6=some v'/\VRel μ v v') (al:lo=none->a6=none)
  (an: ∀v,hi=some v->∃v',a5=some v'/\VRel μ v v') (Z:hi=none->a5=none) (bn:mx=none->a8=none)
  (ho:ovl (bC P t x lo hi mx H) H=some (r,H')): ∃v v',r= .val v/\H'=H/\(Instr.sliceAt t x' a6 a5 a8).run P w= .ok v' w/\VRel μ v v':=by
 obtain⟨rfl,v,E,rfl⟩:=cR ho
 unfold bC at E
 split at E
 ·cases E
 rw[bn rfl]
 simp only at E
 split at E
 ·rename_i s hu;obtain rfl:=hx.string_inv;split at E
  ·rename_i l r hb;injection E with E;subst E;rw[bp]at hb;have bt:J s.data.toList=s.size:=by simp
   rw[bt]at hb;refine⟨_,.string (s.extract l r),V,V,?_,?_⟩
   ·simp[Instr.sliceAt,Instr.slice,am w hu,eM (P:=P) (w:=w) (isSlice:=false) hb (a07 _) ar al an Z]
   rw[eL,bL,bX];exact .atom _ V
  cases E
 ·rename_i e hu;obtain rfl:=hx.eq0 V;split at E
  ·rename_i lr hb;have⟨l,r⟩:=lr;cases hs:dL P e with
   |none=>rw[hs]at E;cases E
   |some sz=>
    rw[hs]at E
    simp only[Option.isSome_some,cond_true,a01]at E;subst E
    have⟨_,_,h3,h4⟩:=mY hb
    obtain rfl:r=0:=M
    obtain rfl:l=0:=M
    refine⟨_,_,V,V,?_,.atom _ V⟩
    simp[Instr.sliceAt,Instr.slice,am w hu,eM (P:=P) (w:=w) (isSlice:=true) hb (a07 _) ar al an Z,aV w hs]
  cases E
 ·rename_i e b o n k hu;split at E
  ·rename_i l r sz cs bF ro hb hs hg;have⟨l0,hμ,hc⟩:=hx.slice_inv;have U:l0.opn=bF:=by
    have:=h.obj b l0 _ hμ hg;cases ro
    ·exact this.1
    exact this.1
   have⟨_,_,h3,h4⟩:=mY hb;split at E
   ·injection E with E;subst E;rcases hc with⟨T,rfl⟩|⟨e',o',k',T,rfl,_⟩|⟨rfl,rfl,a',rfl⟩
    rotate_right
    ·obtain rfl:r=0:=M
     obtain rfl:l=0:=M
     refine⟨_,.slice (some (if 0=0 then a' else a'.add (0 *sz))) (0-0) (0-0),V,V,?_,?_⟩
     ·simp only[Instr.sliceAt,Instr.slice,Sem.run_bind,am w hu,Result.andThen_ok,eM (P:=P) (w:=w) (isSlice:=true) hb (a07 _) ar al an Z,aV w hs,Sem.run_pure];split<;>rfl
     exact .sliceZ b o a' l0 hμ
    ·refine⟨_,.slice (some (if k=l then⟨l0.c,l0.sh+o,none⟩ else Addr.add ⟨l0.c,l0.sh+o,none⟩ (l *sz))) (r-l) (k-l),V,V,?_,?_⟩
     ·simp only[Instr.sliceAt,Instr.slice,Sem.run_bind,am w hu,Result.andThen_ok,eM (P:=P) (w:=w) (isSlice:=true) hb (a07 _) ar al an Z,aV w hs,Sem.run_pure];split<;>rfl
     by_cases O:k=l
     ·rw[if_pos O];have:Nat.beq k l=true:=by rw[O];exact a0Y l
      rw[this];exact .sliceC b o _ _ l0 hμ T
     rw[if_neg O];have:Nat.beq k l=false:=by
      cases hq:Nat.beq k l with
      |false=>rfl
      |true=>exact absurd (a0a hq) O
     rw[this,dO,a0C];exact .sliceC b _ _ _ l0 hμ T
    rw[U]at T;cases T
   rename_i ez;cases hq:Nat.beq ez sz with
   |false=>rw[hq]at E;cases E
   |true=>
    rw[hq]at E
    simp only[cond_true,a01]at E;subst E
    have bf:ez=sz:=a0a hq
    rcases hc with⟨T,rfl⟩|⟨e',o',k',T,rfl,b8,bl,ba,b7⟩|⟨rfl,rfl,a',rfl⟩
    rotate_right
    ·obtain rfl:r=0:=M
     obtain rfl:l=0:=M
     refine⟨_,.slice (some (if 0=0 then a' else a'.add (0 *sz))) (0-0) (0-0),V,V,?_,?_⟩
     ·simp only[Instr.sliceAt,Instr.slice,Sem.run_bind,am w hu,Result.andThen_ok,eM (P:=P) (w:=w) (isSlice:=true) hb (a07 _) ar al an Z,aV w hs,Sem.run_pure];split<;>rfl
     exact .sliceZ b _ a' l0 hμ
    ·rw[U]at T;cases T
    rw[U]at T;injection T with T
    subst T bf
    refine⟨_,.slice (some (if k'=l then⟨l0.c,o',none⟩ else Addr.add ⟨l0.c,o',none⟩ (l *ez))) (r-l) (k'-l),V,V,?_,?_⟩
    ·simp only[Instr.sliceAt,Instr.slice,Sem.run_bind,am w hu,Result.andThen_ok,eM (P:=P) (w:=w) (isSlice:=true) hb bl ar al an Z,aV w hs,Sem.run_pure];split<;>rfl
    by_cases O:k'=l
    ·rw[if_pos O];refine .sliceO b _ o' _ _ _ ez l0 hμ U M M M ?_;rw[O,a24,Nat.zero_mul];omega
    rw[if_neg O,dO]
    refine .sliceO b _ _ _ _ _ ez l0 hμ U M M (λb5=>?_) ?_
    ·rw[ba M];omega
    have:l *ez+(k'-l) *ez=k' *ez:=by rw[←a10];congr 1;omega
    omega
  cases E
 ·rename_i n e b o hu;split at E
  ·rename_i l r sz cs ro hb hs hg;obtain⟨l0,hμ,rfl⟩:=hx.ptr_inv;have U:l0.opn=none:=by
    have:=h.obj b l0 _ hμ hg;cases ro
    ·exact this.1
    exact this.1
   injection E with E;subst E;refine⟨_,.slice (some (if n=l then⟨l0.c,l0.sh+o,none⟩ else Addr.add ⟨l0.c,l0.sh+o,none⟩ (l *sz))) (r-l) (n-l),V,V,?_,?_⟩
   ·simp only[Instr.sliceAt,Sem.run_bind,am w hu,Result.andThen_ok,Instr.sureAddr,Sem.run_pure,eM (P:=P) (w:=w) (isSlice:=false) hb (a07 _) ar al an Z,aV w hs]
   by_cases O:n=l
   ·rw[if_pos O];have:Nat.beq n l=true:=by rw[O];exact a0Y l
    rw[this];exact .sliceC b o _ _ l0 hμ U
   rw[if_neg O];have:Nat.beq n l=false:=by
    cases hq:Nat.beq n l with
    |false=>rfl
    |true=>exact absurd (a0a hq) O
   rw[this,dO,a0C];exact .sliceC b _ _ _ l0 hμ U
  cases E
 cases E
theorem slice_sound{t:TypeId}{x x' lo hi mx O E T r}(h:WRel μ H w)(hx:VRel μ x x')
  (ar: ∀v,lo=some v->∃v',O=some v'/\VRel μ v v') (Z:lo=none->O=none)
  (an: ∀v,hi=some v->∃v',E=some v'/\VRel μ v v') (U:hi=none->E=none) (ax:mx=none->T=none)
  (ho:ovl (bC P t x lo hi mx H) H=some (r,H')):OpOK P μ H w (do Pure.pure (.value (←Instr.sliceAt t x' O E T))) r H':=by
 obtain⟨v,v',rfl,rfl,al,hr⟩:=me (P:=P) h hx ar Z an U ax ho
 exact OpOK.value al (Post.refl h) hr
theorem lenA_run{x O m}(h:lenA x=some m)(E:VRel μ x O):(Builtin.lenOf O).run P w= .ok m w:=by
 unfold lenA at h;split at h
 ·injection h with h;subst h;rename_i a n k;obtain⟨T,U,rfl,_⟩:=dW E;rfl
 ·rename_i s;injection h with h;subst h;obtain rfl:=E.string_inv;rw[bp];simp[Builtin.lenOf]
 cases h
theorem eW{x x' sz m vs}(h:WRel μ H w)(hx:VRel μ x x')(hl: ∃m0,lenA x=some m0/\m<=m0)(E:iq H sz m x=some vs):
  ∃U,(Builtin.firstCells sz m x').run P w= .ok ⟨U⟩ w/\LRel μ vs U/\(J vs)=m *sz:=by
 unfold iq at E
 split at E
 ·rename_i a n k;have⟨b,o,sp⟩:=a;have a4:sp=none:=hx.slice_some.1;subst a4;cases O:Nat.beq m 0 with
  |true=>
   rw[O]at E
   simp only[cond_true,a01]at E;subst E
   have hm:m=0:=a0a O
   subst hm
   obtain⟨_,a',k',rfl⟩:=hx.slice_some
   exact⟨[],by simp[Builtin.firstCells,loadCells,loadCellsFrom],.nil,by simp⟩
  |false=>
   rw[O]at E
   simp only[cond_false]at E
   have hm:m≠0:=λe=>by subst e;cases O
   have⟨m0,T,aA⟩:=hl
   simp only[lenA,a01]at T;subst T
   have⟨l,hμ,hc⟩:=hx.slice_inv
   have⟨U,al,hr,Z⟩:=jx (P:=P) h hμ E
   rcases hc with⟨_,rfl⟩|⟨e',o',k',_,rfl,a9,_,a1,_⟩|⟨hz,_,_⟩
   rotate_right
   ·omega
   ·exact⟨U,by simp only[Builtin.firstCells,al],hr,Z⟩
   rw[a1 M]
   exact⟨U,by simp only[Builtin.firstCells,al],hr,Z⟩
 ·rename_i n k;cases O:Nat.beq m 0 with
  |false=>rw[O]at E;cases E
  |true=>
   rw[O]at E
   simp only[cond_true,a01]at E;subst E
   have hm:m=0:=a0a O
   subst hm
   obtain⟨_,_,rfl⟩:=hx.sliceNil_inv
   exact⟨[],by simp[Builtin.firstCells],.nil,by simp⟩
 ·rename_i s;cases O:Nat.beq sz 1 with
  |false=>rw[O]at E;cases E
  |true=>
   rw[O]at E
   simp only[cond_true,a01,ju,bL]at E;subst E
   have hs:sz=1:=a0a O
   subst hs
   obtain rfl:=hx.string_inv
   have⟨m0,T,aA⟩:=hl
   simp only[lenA,bp,a01]at T;subst T
   refine⟨_,?_,LRel.refl0 ?_,?_⟩
   ·simp only[Builtin.firstCells,Sem.run_pure,eL];congr 1;apply Array.ext';simp
   ·rw[a0r];intro u hu;obtain⟨c,_,rfl⟩:=a0B.1 hu;rfl
   simp at aA⊢;omega
 cases E
theorem growBy_le(E:Nat): ∀(r c:Nat),c<=E+(E+768)/4->Builtin.growBy E r c<=E+(E+768)/4
 |0,c,h=>h
 |r+1,c,h=>by
  simp only[Builtin.growBy];split
  ·exact h
  exact growBy_le _ r _ M
theorem nextcap_le{n k}(h:k<n):Builtin.nextslicecap n k<=2 *n+768:=by
 unfold Builtin.nextslicecap;split
 ·omega
 split
 ·omega
 have:=growBy_le n 4 k M;omega
theorem ec{z sz}(h:z.size=sz)(n:Nat):J (Builtin.zeroCells z n).toList=n *sz:=by simp[Builtin.zeroCells,h]
theorem jZ{st O ty e:TypeId}{T:TypeDesc}{E base n m k sz}{i:TypeInfo}{z old new}
  (hu:P.underlying st=some (.slice e)) (a4:P.underlying O=some T) (a2: ∀kk,T≠ .int kk) (hi:P.info? e=some i) (hs:i.size=sz) (hz:i.zero=some z)
  (U:(Builtin.lenOf E).run P w= .ok m w) (a1:k<n+m) (a9:n+m<=2147483648) (aA:i.bytes<=4096)
  (an:(Builtin.firstCells sz n (.slice base n k)).run P w.drew= .ok ⟨old⟩ w.drew) (Z:(Builtin.firstCells sz m E).run P w.drew= .ok ⟨new⟩ w.drew):
  ∃nc,n+m<=nc/\(Builtin.append_ #[st,O] ty #[.slice base n k,E]).run P w=
   .ok (.slice (some ⟨w.heap.size,0,none⟩) (n+m) nc) (w.drew.alloc (.cells (⟨old⟩++⟨new⟩++Builtin.zeroCells z.cells (nc-(n+m))) e)):=by
 have a3:dL P e=some sz:=by unfold dL;rw[hi,←hs]
 have a5:=nextcap_le a1
 have al: ¬(Builtin.nextslicecap (n+m) k *i.bytes>2^48):=by
  have:Builtin.nextslicecap (n+m) k *i.bytes<=(2 *2147483648+768) *4096:=Nat.mul_le_mul M aA;have ba:(2:Nat)^48=281474976710656:=by decide
  omega
 have ax: ¬(((n+m:Nat):Int)>IntKind.i64.max/\(False\/i.bytes=0)):=by rw[IntKind.max_i64];omega
 refine⟨(Question.appendCap (n+m) k e).cut (w.tape w.drawn (.appendCap (n+m) k e)),by simp[Question.cut],?_⟩
 have bb:(match T with| .int _=>true|_=>false)=false:=by cases T<;>first|rfl|exact absurd V (a2 _)
 have e1: ∀a b:Value,(#[a,b]:Array Value)[0]?=some a/\(#[a,b]:Array Value)[1]?=some b:=λa b=>⟨V,V⟩
 unfold Builtin.append_
 simp only[show(#[st,O]:Array TypeId)[0]?=some st from V,show(#[st,O]:Array TypeId)[1]?=some O from V,
  show(#[Value.slice base n k,E]:Array Value)[0]?=some (Value.slice base n k) from V,show(#[Value.slice base n k,E]:Array Value)[1]?=some E from V,
  Sem.run_bind,am w hu,am w a4,Result.andThen_ok,aV w a3,Sem.run_pure,a0j,if_false,U,
  show ¬(n+m<=k) by omega,gO w hi,al,ax]
 simp only[Sem.run_bind,run_choose,Question.forced,a0j,if_false,Result.andThen_ok,World.drew_eq,gO w.drew hi,run_askRoom,an,Z,a1K,if_true,
  fv w.drew hi hz,newRow,run_newObj,Sem.run_pure]
 rfl
theorem gT{st O ty e:TypeId}{T:TypeDesc}{E base n m k sz new w'}
  (hu:P.underlying st=some (.slice e)) (aA:P.underlying O=some T) (an: ∀kk,T≠ .int kk) (hs:dL P e=some sz)
  (U:(Builtin.lenOf E).run P w= .ok m w) (al:n+m<=k) (Z:(Builtin.firstCells sz m E).run P w= .ok ⟨new⟩ w)
  (ax: ∀a,base=some a->(storeCells (a.add (n *sz)) new).run P w= .ok () w') (ar:base=none->w'=w):
  (Builtin.append_ #[st,O] ty #[.slice base n k,E]).run P w= .ok (.slice base (n+m) k) w':=by
 have a3:(match T with| .int _=>true|_=>false)=false:=by cases T<;>first|rfl|exact absurd V (an _)
 unfold Builtin.append_
 simp only[show(#[st,O]:Array TypeId)[0]?=some st from V,show(#[st,O]:Array TypeId)[1]?=some O from V,
  show(#[Value.slice base n k,E]:Array Value)[0]?=some (Value.slice base n k) from V,show(#[Value.slice base n k,E]:Array Value)[1]?=some E from V,
  Sem.run_bind,am w hu,am w aA,Result.andThen_ok,aV w hs,Sem.run_pure,a0j,if_false,U,al,if_true,a1K,Z]
 cases base with
 |none=>rw[ar rfl];rfl
 |some a=>simp only[Sem.run_bind,ax a V,Result.andThen_ok,Sem.run_pure]
theorem Post.kill(h:WRel μ H w){b l o}(hb:μ b=some l)(ho:H.get b=some o)(hr:o.rw=true):Post μ H w μ (H.put b .dead) w:=by
 refine⟨λ_ _ h=>h,λ_ _ h=> .inl h,a07 _,V,V,V,λ_ _ _=>rfl,λk x ox T E a7=>?_,⟨λk x ox T E=>?_,λb1 b2 l1 l2 Z o2 a2 ax aA a3 a4 a6 U=>?_⟩⟩
 ·by_cases e:b=k
  ·subst e;exact .inr ⟨b,l,o,hb,ho,jk hr,λ_=>hr,by rw[hb]at T;injection T with T;rw[T]⟩
  rw[Heap.get_put_ne H _ e]at E;exact .inr ⟨k,x,ox,T,E,a7,id,V⟩
 ·by_cases e:b=k
  ·subst e;rw[Heap.get_put_same]at E;injection E with E;subst E;trivial
  rw[Heap.get_put_ne H _ e]at E;exact h.obj k x ox T E
 have old: ∀k ok,ok.live=true->(H.put b .dead).get k=some ok->H.get k=some ok:=by
  intro k ok a1 O;by_cases e:b=k
  ·subst e;rw[Heap.get_put_same]at O;injection O with O;subst O;simp[AObj.live]at a1
  rw[Heap.get_put_ne H _ e]at O;exact O
 exact h.inj b1 b2 l1 l2 Z o2 a2 ax aA (old b1 Z (by cases Z<;>simp_all[AObj.rw,AObj.live]) a3) (old b2 o2 U a4) a6 U
theorem szOf_info{e:TypeId}{s}(h:dL P e=some s): ∃i,P.info? e=some i/\i.size=s:=by
 unfold dL at h;split at h
 ·rename_i i hi;injection h with h;exact⟨i,hi,h⟩
 cases h
theorem eY(a b:List Value)(c:Array Value):(⟨a⟩++⟨b⟩++c:Array Value)=⟨(a++b)++c.toList⟩:=by apply Array.ext';simp
theorem append_sound{types}{ty:TypeId}{s x s' x' v}(h:WRel μ H w)(hf: ∀b,H.next<=b->b<H'.next->μ b=none)
  (hs:VRel μ s s') (hx:VRel μ x x') (d5:types.size=2) (E:hE P types s x H=some (v,H')):
  ∃v' w' μ',(Builtin.append_ types ty #[s',x']).run P w= .ok v' w'/\Post μ H w μ' H' w'/\VRel μ' v v':=by
 have⟨tl⟩:=types
 match tl,d5 with
 | [st,xt],_=>
 unfold hE at E
 simp only[show(#[st,xt]:Array TypeId)[0]?=some st from V,show(#[st,xt]:Array TypeId)[1]?=some xt from rfl]at E
 split at E
 ·rename_i e xd hu a2;split at E
  ·cases E
  rename_i a1;split at E
  ·rename_i sz e0 z m bl f3 hz hm;have⟨i,vz,hi,ci,e6,g4⟩:=gH (P:=P) hz;have⟨i2,c5,hn⟩:=bytesOf_info f3;rw[hi]at c5;injection c5 with c5;subst c5;have⟨i3,c6,b9⟩:=szOf_info bl;rw[hi]at c6;injection c6 with c6;subst c6;have U:(Builtin.lenOf x').run P w= .ok m w:=lenA_run hm hx;split at E
   ·cases E
   rename_i new d3;have⟨Z,aA,a5,ar⟩:=eW (P:=P) h hx ⟨m,hm,a07 _⟩ d3;have⟨g7,a4,a3,_⟩:=eW (P:=P) h.drew hx ⟨m,hm,a07 _⟩ d3;split at E
   ·--nil
    obtain rfl:=hs.eq0 V;cases hq:Nat.beq m 0 with
    |true=>
     rw[hq]at E
     simp only[cond_true,a01,a05]at E
     obtain⟨rfl,rfl⟩:=E
     have b8:m=0:=a0a hq
     subst b8
     exact⟨_,w,μ,gT hu a2 (λkk=>a1 kk) bl U (a07 _) aA (λa ha=>by cases ha) (λ_=>rfl),Post.refl h,.atom _ V⟩
    |false=>
     rw[hq]at E
     simp only[cond_false]at E
     have b8:m≠0:=λe=>by subst e;cases hq
     cases ba:(Nat.beq (fU z) sz&&Nat.ble m 2147483648&&Nat.ble e0 4096&& !Nat.beq sz 0) with
     |false=>rw[ba]at E;cases E
     |true=>
      rw[ba]at E
      simp only[cond_true,a01,a05]at E
      obtain⟨rfl,rfl⟩:=E
      simp only[a04,a0K]at ba
      have⟨⟨⟨q1,q2⟩,q3⟩,q4⟩:=ba
      have q1:z.length=sz:=by rw[←bp];exact a0a q1
      have q2:=a0d q2
      have q3:=a0d q3
      have⟨nc,a7,O⟩:=jZ (P:=P) (w:=w) (ty:=ty) (base:=none) (n:=0) (k:=0) (old:=[]) hu a2 (λkk=>a1 kk) hi b9 ci U M M M (by simp[Builtin.firstCells]) a4
      simp only[a0x]at O a7
      rw[eY,a0o]at O
      have⟨l,h1,h2,h3,h4,_,hp⟩:=dV (P:=P) h.drew (hf H.next (a07 _) (by simp[aP])) e a3 (Builtin.zeroCells vz.cells (nc-m)).toList (some sz) (λe=>by cases e)
      refine⟨_,_,_,O,(Post.drew h).trans hp (a07 _) (by simp[aP]),?_⟩
      have:=VRel.sliceO (μ:=μ.set H.next l) H.next 0 0 m m nc sz l (Emb.set_same _ _ _) h3 (a07 _) a7 (λ_=>by omega) (by
       rw[h4,ec (show vz.cells.size=sz by rw[←q1,←e6];simp),ar,a0x,←a10];exact a0G _ M)
      rw[h1]at this;exact this
   ·--a slice
    rename_i b o n k;have⟨l,hμ,hc⟩:=hs.slice_inv;split at E
    ·rename_i cs gm ro hg;have cL:l.opn=gm:=by
      have:=h.obj b l _ hμ hg;cases ro
      ·exact this.1
      exact this.1
     cases hq:Nat.ble (n+m) k with
     |true=>
      rw[hq]at E
      simp only[cond_true]at E
      have c7:n+m<=k:=a0d hq
      cases c9:Nat.beq m 0 with
      |true=>
       rw[c9]at E
       simp only[cond_true,a01,a05]at E
       obtain⟨rfl,rfl⟩:=E
       have b8:m=0:=a0a c9
       subst b8
       have f5:Z=[]:=a0e (by rw[←a5.1,ar];simp)
       subst f5
       rcases hc with⟨T,rfl⟩|⟨e',o',k',T,rfl,e5,d2,bw,c4⟩|⟨rfl,rfl,a',rfl⟩
       rotate_right
       ·exact⟨_,w,μ,gT hu a2 (λkk=>a1 kk) bl U c7 aA (λa ha=>rfl) (λe=>by cases e),Post.refl h,hs⟩
       ·exact⟨_,w,μ,gT hu a2 (λkk=>a1 kk) bl U c7 aA (λa ha=>rfl) (λe=>by cases e),Post.refl h,hs⟩
       exact⟨_,w,μ,gT hu a2 (λkk=>a1 kk) bl U M aA (λa ha=>rfl) (λe=>by cases e),Post.refl h,hs⟩
      |false=>
       rw[c9]at E
       simp only[cond_false]at E
       have b8:m≠0:=λe=>by subst e;cases c9
       split at E
       ·rename_i h1 f9;cases E;have⟨w',O,hp⟩:=ib (P:=P) h hμ f9 a5;rcases hc with⟨T,rfl⟩|⟨e',o',k',T,rfl,e5,d2,bw,c4⟩|⟨rfl,rfl,a',rfl⟩
        rotate_right
        ·omega
        ·refine⟨_,w',μ,gT hu a2 (λkk=>a1 kk) bl U c7 aA (λa ha=>?_) (λe=>by cases e),hp,.sliceC b o _ _ l hμ T⟩;injection ha with ha;subst ha;rw[dO,a0C];exact O
        refine⟨_,w',μ,gT hu a2 (λkk=>a1 kk) bl U M aA (λa ha=>?_) (λe=>by cases e),hp,.sliceO b o o' _ _ _ e' l hμ T c7 d2 bw c4⟩;injection ha with ha;subst ha;rw[dO,bw M,a0C];exact O
       cases E
     |false=>
      rw[hq]at E
      simp only[cond_false]at E
      have e4:k<n+m:=by
       rcases a0p k (n+m) with h'|h'
       ·exact h'
       rw[a0z h']at hq;cases hq
      cases ba:(Nat.beq (fU z) sz&&Nat.ble (n+m) 2147483648&&Nat.ble e0 4096&& !Nat.beq sz 0&&Nat.ble n k) with
      |false=>rw[ba]at E;cases E
      |true=>
       rw[ba]at E
       simp only[cond_true]at E
       simp only[a04,a0K]at ba
       have⟨⟨⟨⟨q1,q2⟩,q3⟩,q4⟩,q5⟩:=ba
       have q1:z.length=sz:=by rw[←bp];exact a0a q1
       have q2:=a0d q2
       have q3:=a0d q3
       have q5:=a0d q5
       have hy:sz≠0:=λe=>by rw[e]at q4;cases q4
       have b6:vz.cells.size=sz:=by rw[←q1,←e6];simp
       split at E
       ·cases E
       rename_i old ax
       have⟨g8,g3,g2,a6⟩:=eW (P:=P) h hs ⟨n,V,a07 _⟩ ax
       have⟨g9,a9,a8,_⟩:=eW (P:=P) h.drew hs ⟨n,V,a07 _⟩ ax
       split at E
       ·--exact
        cases E;rcases hc with⟨T,rfl⟩|⟨e',o',k',T,rfl,_⟩|⟨rfl,rfl,a',rfl⟩
        rotate_right
        ·have⟨nc,a7,O⟩:=jZ (P:=P) (w:=w) (ty:=ty) hu a2 (λkk=>a1 kk) hi b9 ci U e4 q2 M a9 a4;rw[eY]at O;have⟨l',h1,h2,h3,h4,_,hp⟩:=dV (P:=P) h.drew (hf H.next (a07 _) (by simp[aP])) e (a8.append a3) (Builtin.zeroCells vz.cells (nc-(0+m))).toList (some sz) (λe=>by cases e);rw[eO];refine⟨_,_,_,O,(Post.drew h).trans hp (a07 _) (by simp[aP]),?_⟩;have:=VRel.sliceO (μ:=μ.set H.next l') H.next 0 0 (0+m) (0+m) nc sz l' (Emb.set_same _ _ _) h3 (a07 _) a7 (λ_=>by omega) (by
          rw[h4,ec b6,a00,a6,ar,a0x,←a10,←a10];exact a0G _ M)
         rw[h1]at this;exact this
        ·have⟨nc,a7,O⟩:=jZ (P:=P) (w:=w) (ty:=ty) hu a2 (λkk=>a1 kk) hi b9 ci U e4 q2 M a9 a4;rw[eY]at O;have⟨l',h1,h2,h3,h4,_,hp⟩:=dV (P:=P) h.drew (hf H.next (a07 _) (by simp[aP])) e (a8.append a3) (Builtin.zeroCells vz.cells (nc-(n+m))).toList (some sz) (λe=>by cases e);rw[eO];refine⟨_,_,_,O,(Post.drew h).trans hp (a07 _) (by simp[aP]),?_⟩;have:=VRel.sliceO (μ:=μ.set H.next l') H.next 0 0 (n+m) (n+m) nc sz l' (Emb.set_same _ _ _) h3 (a07 _) a7 (λ_=>by omega) (by
          rw[h4,ec b6,a00,a6,ar,a0x,←a10,←a10];exact a0G _ M)
         rw[h1]at this;exact this
        rw[cL]at T;cases T
       ·--open
        rename_i ez;cases dk:(Nat.beq ez sz&& !ro&&nw Value.oneCell' new) with
        |false=>rw[dk]at E;cases E
        |true=>
         rw[dk]at E
         simp only[cond_true,a01,a05]at E
         obtain⟨rfl,rfl⟩:=E
         simp only[a04,a0K]at dk
         have⟨⟨q6,q7⟩,q8⟩:=dk
         have q6:ez=sz:=a0a q6
         subst q6 q7
         rcases hc with⟨T,rfl⟩|⟨e',o',k',T,rfl,e5,d2,bw,c4⟩|⟨rfl,rfl,a',rfl⟩
         rotate_right
         ·have b1:μ H.next=none:=hf H.next (a07 _) (by simp[aP]);have⟨nc,a7,O⟩:=jZ (P:=P) (w:=w) (ty:=ty) hu a2 (λkk=>a1 kk) hi b9 ci U M q2 M a9 a4;rw[eY]at O;have hk:=Post.kill h hμ hg V;have⟨l',h1,h2,h3,h4,_,hp⟩:=dV (P:=P) (H:=H.put b .dead) hk.wrel.drew b1 e (a8.append a3) (Builtin.zeroCells vz.cells (nc-(0+m))).toList (some ez) (λe=>by cases e);rw[eO];refine⟨_,_,_,O,(hk.trans (Post.drew hk.wrel) (a07 _) (a07 _)).trans hp (a07 _) (by simp[aP]),?_⟩;have:=VRel.sliceO (μ:=μ.set H.next l') H.next 0 0 (0+m) (0+m) nc ez l' (Emb.set_same _ _ _) h3 (a07 _) a7 (λ_=>by omega) (by
           rw[h4,ec b6,a00,a6,ar,a0x,←a10,←a10];exact a0G _ M)
          rw[h1]at this;exact this
         ·rw[cL]at T;cases T
         rw[cL]at T;injection T with T;subst T
         have b1:μ H.next=none:=hf H.next (a07 _) (by simp[aP])
         by_cases d1:n+m<=k'
         ·--in place
          have⟨r1,bf,et,hh,r2,r3,r4⟩:=h.obj b l _ hμ hg;have c8:Z.length=m *ez:=by rw[←a5.1];exact ar
          have hw:m≠0:=M
          have f7:Z≠ []:=λe=>by rw[e]at c8;have:=Nat.mul_eq_zero.1 c8.symm;omega
          have ee:Z.all Value.oneCell'=true:=by
           rw[a0r];intro u b2;have⟨j,hj⟩:=List.getElem?_of_mem b2;have e2:j<new.length:=by rw[a5.1];exact(a0A.1 hj).1
           have hr:=a5.2 j new[j] u (a08 e2) hj;rw[hr.oneCell];rw[pO]at q8;exact a0r.1 q8 _ (a18 e2)
          have cp:o'+n *ez+Z.length<=bf.size:=by rw[c8,r2];have:(n+m) *ez<=k' *ez:=a0G _ d1;rw[a10]at this;omega
          have ch:=eo (P:=P) l.c et Z w bf (o'+n *ez) 0 hh M ee f7;simp only[a25]at ch;have fb:(be bf.toList (o'+n *ez) Z).length=bf.size:=by rw[cP _ _ _ (by simpa using cp)];simp
          have em:=Post.take h hμ hg V b1 ⟨l.c,o',some ez,l.csz⟩ V (.cells (lU old new) (some ez) false) (.cells ⟨be bf.toList (o'+n *ez) Z⟩ et (0,0)) (by
           refine⟨V,_,et,bZ w _ (cH hh),by show(be bf.toList (o'+n *ez) Z).length=_;rw[fb,r2],?_,λj u hj=>?_⟩
           ·rw[eO,a00,a6,ar];show o'+_<=l.csz;rw[←r2];rw[c8]at cp;omega
           rw[eO]at hj;have mg: ∀v':Value,(be bf.toList (o'+n *ez) Z)[o'+j]?=some v'->(Array.mk (be bf.toList (o'+n *ez) Z))[o'+j]?=some v':=λv' hv=>(mI _ _).trans hv
           rw[bD _ _ _ _ (by simpa using cp)]at mg;by_cases e3:j<n *ez
           ·rw[a1k M]at hj;rw[if_neg M]at mg;have f6:n≠0:=λe=>by subst e;simp at e3
            unfold iq at ax;have f2:Nat.beq n 0=false:=by
             cases f1:Nat.beq n 0 with
             |false=>rfl
             |true=>exact absurd (a0a f1) f6
            rw[f2]at ax;simp only[cond_false,Heap.loadN,hg,bL,bX,bp]at ax;cases e1:Nat.beq ((cs.drop o).take (n *ez)).length (n *ez) with
            |false=>rw[e1]at ax;cases ax
            |true=>
             rw[e1]at ax
             simp only[cond_true,a01]at ax
             rw[←ax,a0F,if_pos e3,a0L]at hj
             have⟨u',b2,hr⟩:=r4 (o+j) u hj
             refine⟨u',mg u' ?_,hr.ac (Emb.set_ext _ b1)⟩
             have:o'+j=l.sh+(o+j):=by have:=bw M;omega
             rw[this];simpa using b2
           rw[a1t M,a6]at hj;have⟨u',b2,hr⟩:=a5.get hj;have ht:j-n *ez<Z.length:=(a0A.1 b2).1;rw[if_pos M]at mg;exact⟨u',mg u' (by rw[←b2];congr 1;omega),hr.ac (Emb.set_ext _ b1)⟩)
          refine⟨_,_,_,gT hu a2 (λkk=>a1 kk) bl U d1 aA (λa ha=>?_) (λe=>by cases e),em,?_⟩
          ·injection ha with ha;subst ha;rw[dO];exact ch
          exact VRel.sliceO _ 0 o' _ _ k' ez ⟨l.c,o',_,_⟩ (Emb.set_same _ _ _) V (a07 _) d1 (λ_=>rfl) c4
         ·--a new row
          have⟨nc,a7,O⟩:=jZ (P:=P) (w:=w) (ty:=ty) hu a2 (λkk=>a1 kk) hi b9 ci U M q2 M a9 a4;rw[eY]at O;have hk:=Post.kill h hμ hg V;have⟨l',h1,h2,h3,h4,_,hp⟩:=dV (P:=P) (H:=H.put b .dead) hk.wrel.drew b1 e (a8.append a3) (Builtin.zeroCells vz.cells (nc-(n+m))).toList (some ez) (λe=>by cases e);rw[eO];refine⟨_,_,_,O,(hk.trans (Post.drew hk.wrel) (a07 _) (a07 _)).trans hp (a07 _) (by simp[aP]),?_⟩;have:=VRel.sliceO (μ:=μ.set H.next l') H.next 0 0 (n+m) (n+m) nc ez l' (Emb.set_same _ _ _) h3 (a07 _) a7 (λ_=>by omega) (by
           rw[h4,ec b6,a00,a6,ar,a0x,←a10,←a10];exact a0G _ M)
          rw[h1]at this;exact this
    cases E
   cases E
  cases E
 cases E
end
section
variable {P:Program} {μ:Emb} {H H':Heap} {w:World}
theorem copy_sound{types}{ty:TypeId}{d s d' U v}(h:WRel μ H w)(hd:VRel μ d d')(hs:VRel μ s U)(E:aCopy P types d s H=some (v,H')):
  ∃v' w',(Builtin.copy_ types ty #[d',U]).run P w= .ok v' w'/\Post μ H w μ H' w'/\VRel μ v v':=by
 unfold aCopy at E
 split at E
 ·rename_i dt a1;split at E
  ·rename_i e base T dk m hu hm;split at E
   ·rename_i sz a2;simp only at E;obtain⟨O,Z,rfl,b1⟩:=dW hd;have an:(Builtin.lenOf U).run P w= .ok m w:=lenA_run hm hs;cases hq:Nat.beq (Nat.min m T) 0 with
    |true=>
     rw[hq]at E
     simp only[cond_true,a01,a05]at E
     obtain⟨rfl,rfl⟩:=E
     have h0:Nat.min m T=0:=a0a hq
     refine⟨_,w,?_,Post.refl h,.atom _ V⟩
     have a8:(Builtin.firstCells sz 0 U).run P w= .ok #[] w:=by
      unfold lenA at hm;split at hm
      ·rename_i a n k;obtain⟨a',k',rfl,_⟩:=dW hs;cases a'<;>simp[Builtin.firstCells,loadCells,loadCellsFrom]
      ·rename_i u;obtain rfl:=hs.string_inv;simp only[Builtin.firstCells,Sem.run_pure,eL];congr 1;simp
      cases hm
     unfold Builtin.copy_
     simp only[a1,show(#[Value.slice O T Z,U]:Array Value)[0]?=some (Value.slice O T Z) from V,show(#[Value.slice O T Z,U]:Array Value)[1]?=some U from V,
      Sem.run_bind,am w hu,Result.andThen_ok,an,aV w a2,h0,a8]
     cases O<;>simp[storeCells]
    |false=>
     rw[hq]at E
     simp only[cond_false]at E
     split at E
     ·rename_i l a hl;split at E
      ·rename_i H1 bb;cases E;have⟨b,o,sp⟩:=a;have ba:sp=none:=hd.slice_some.1;subst ba;have⟨b4,a9,aA,bl⟩:=eW (P:=P) h hs ⟨m,hm,Nat.min_le_left _ _⟩ hl;have⟨l0,hμ,hc⟩:=hd.slice_inv;have h0:Nat.min m T≠0:=λe=>by rw[e]at hq;cases hq
       have b2:0<T:=by
        rcases a1g T with e|e
        ·exfalso;apply h0;rw[e];exact Nat.min_zero _
        exact e
       have⟨w',a5,hp⟩:=ib (P:=P) h hμ bb aA;have a7:O=some ⟨l0.c,l0.sh+o,none⟩:=by
        rcases hc with⟨_,he⟩|⟨e',o',k',_,he,b3,_,a4,_⟩|⟨hz,_,_⟩
        rotate_right
        ·omega
        ·injection he with he
        injection he with he _ _;rw[he,a4 M]
       subst a7;refine⟨_,w',?_,hp,.atom _ V⟩;unfold Builtin.copy_;simp only[a1,show(#[Value.slice (some ⟨l0.c,l0.sh+o,none⟩) T Z,U]:Array Value)[0]?=some (Value.slice (some ⟨l0.c,l0.sh+o,none⟩) T Z) from V,
        show(#[Value.slice (some ⟨l0.c,l0.sh+o,none⟩) T Z,U]:Array Value)[1]?=some U from V,
        Sem.run_bind,am w hu,Result.andThen_ok,an,aV w a2,a9,a5,Sem.run_pure]
      cases E
     cases E
   cases E
  cases E
 cases E
theorem len_sound{t ty:TypeId}{x x' v}(h:WRel μ H w)(U:VRel μ x x')(E:aLen P t x H=some v):
  (Builtin.len_ #[t] ty #[x']).run P w= .ok v w/\dG v=true:=by
 unfold aLen at E
 split at E
 ·rename_i e a n k O;injection E with E;subst E;obtain⟨a',k',rfl,_⟩:=dW U;exact⟨by simp[Builtin.len_,am w O],V⟩
 ·rename_i s O;injection E with E;subst E;obtain rfl:=U.string_inv;exact⟨by simp[Builtin.len_,am w O,bp],V⟩
 ·rename_i k e O;injection E with E;subst E;obtain rfl:=U.mapNil_inv;exact⟨by simp[Builtin.len_,am w O],V⟩
 ·rename_i k e r O;split at E
  ·rename_i es hg;injection E with E;subst E;obtain⟨l,hμ,rfl⟩:=U.map_inv;have⟨al,T,hh,hl,_⟩:=h.obj r l _ hμ hg;have Z:(getObj l.c).run P w= .ok (.map al T) w:=kC hh (by intros;simp);exact⟨by simp[Builtin.len_,am w O,Z,hl],V⟩
  cases E
 cases E
theorem hO: ∀(l:List Value) (r:List UInt8) (s:ByteArray),ct l=some r->
  (forIn (m:=Sem) l s (λc s=>match c with
   | .int .u8 n=>Pure.pure (ForInStep.yield (s.push (UInt8.ofNat n.toNat)))
   |_=>do stuck "bytesToString: byte expected";Pure.pure (ForInStep.yield s))).run P w= .ok ⟨⟨s.data.toList++r⟩⟩ w
 | [],r,s,h=>by simp only[ct,a01]at h;subst h;simp
 |v::l,r,s,h=>by
  unfold ct at h;split at h
  ·rename_i E;cases E
  ·rename_i n l2 E;injection E with h1 h2;subst h1 h2;split at h
   ·rename_i T O;injection h with h;subst h;have ih:=hO l T (s.push (UInt8.ofNat n.toNat)) O;simp only[List.forIn_cons,Sem.run_bind,Sem.run_pure,Result.andThen_ok,ih];congr 3;simp
   cases h
  cases h
theorem ge: ∀(l:List Value) (r:List UInt8),ct l=some r->l.all dG=true
 | [],_,_=>rfl
 |v::l,r,h=>by
  unfold ct at h;split at h
  ·rename_i E;cases E
  ·rename_i n l2 E;injection E with h1 h2;subst h1 h2;split at h
   ·rename_i T O;simp only[a0l,dG,a1b];exact ge l T O
   cases h
  cases h
theorem pD{ρ ρ' o}{s d:TypeId}{x r}(h:WRel μ H w)(aA:o.op= .convert s d x)(hρ: ∀x∈o.op.operands,VRel μ (ρ x) (ρ' x))
  (ho:gj P ρ o s d (ρ x) H=some (r,H')):OpOK P μ H w (execOp ρ' o) r H':=by
 have hx:VRel μ (ρ x) (ρ' x):=hρ x (by rw[aA];simp[Op.operands])
 have an:execOp ρ' o=(do Pure.pure (.value (←convert s d (ρ' x)))):=by unfold execOp;simp only[aA]
 unfold gj at ho
 split at ho
 ·rename_i k n hv;rw[hv]at hx;obtain⟨rfl,v,E,rfl⟩:=cR ho;unfold pE at E;split at E
  ·rename_i sd kd U T;injection E with E;subst E;rw[an];refine OpOK.value ?_ (Post.refl h) (.atom _ V);rw[hx.int_inv];simp[convert,am w U,am w T,Conv.intToInt]
  cases E
 ·rename_i a n k hv;rw[hv]at hx;obtain⟨rfl,v,E,rfl⟩:=cR ho;rw[an];unfold du at E;split at E
  ·rename_i e U T;split at E
   ·rename_i a1;split at E
    ·injection E with E;subst E;have⟨_,_,O⟩:=hx.sliceNil_inv;refine OpOK.value ?_ (Post.refl h) (.atom _ V);rw[O];simp[convert,am w U,am w T,am w a1,Conv.bytesToString]
    rename_i a;have⟨b,o2,sp⟩:=a;have bb:sp=none:=hx.slice_some.1;subst bb;cases hq:Nat.beq n 0 with
    |true=>
     rw[hq]at E
     simp only[cond_true,a01]at E;subst E
     have hn:n=0:=a0a hq
     subst hn
     have⟨_,a',k',O⟩:=hx.slice_some
     refine OpOK.value ?_ (Post.refl h) (.atom _ V)
     rw[O]
     simp[convert,am w U,am w T,am w a1,Conv.bytesToString,loadCells,loadCellsFrom]
    |false=>
     rw[hq]at E
     simp only[cond_false]at E
     have hn:n≠0:=λe=>by subst e;cases hq
     split at E
     ·rename_i l hl;split at E
      ·rename_i rb a5;injection E with E;subst E;have⟨l0,hμ,hc⟩:=hx.slice_inv;have⟨a6,Z,a9,bt⟩:=jx (P:=P) h hμ hl;have bf:a6=l:=a9.eq0 (ge l rb a5);subst bf;have O: ∃k',ρ' x= .slice (some ⟨l0.c,l0.sh+o2,none⟩) n k':=by
        rcases hc with⟨_,he⟩|⟨e',o',k',_,he,b2,_,a8,_⟩|⟨hz,_,_⟩
        rotate_right
        ·exact absurd hz hn
        ·exact⟨k,he⟩
        rw[a8 M]at he;exact⟨k',he⟩
       have⟨k',O⟩:=O;refine OpOK.value ?_ (Post.refl h) (.atom _ V);rw[O];have hb:=hO (P:=P) (w:=w) a6 rb .empty a5;simp only[convert,Sem.run_bind,am w U,am w T,am w a1,Result.andThen_ok,Conv.bytesToString,Z];have he:((ByteArray.empty.data.toList++rb:List UInt8))=rb:=rfl;rw[he]at hb;simp only[←Array.forIn_toList]at *
       exact congrArg (λr=>Result.andThen r _) hb
      cases E
     cases E
   cases E
  cases E
 obtain⟨rfl,v,v',rfl,Z,hr⟩:=ep ho (λ_ _=>by rw[aA];simp) hρ
 exact⟨_,w,μ,Z w,Post.refl h,hr⟩
theorem eV{d:TypeDesc}{k}(h:bR d k=true):dG k=true:=by unfold bR at h;split at h<;>first|rfl|cases h
theorem j8(a b:ByteArray):(a==b)=ey a b:=by
 have e:(a==b)=(a.data==b.data):=by cases a;cases b;rfl
 rw[e,a0M];simp only[beq_iff_eq,ey];constructor
 ·intro h;rw[h]
 intro h;exact a12.1 h
theorem bytesEq_iff{a b}(h:ey a b=true):a=b:=by simp only[ey,beq_iff_eq]at h;exact ByteArray.ext (a12.1 h)
theorem j7(a:ByteArray):(a==a)=true:=by rw[j8];simp[ey]
theorem sameNow_key{d:TypeDesc}{a b}(ha:bR d a=true)(hb:bR d b=true):Instr.sameNow d a b=some (dP a b):=by
 unfold bR at ha hb;split at ha
 ·split at hb
  ·rename_i k k1 n _ _ k2 O E;injection E with e1;subst e1;simp only[beq_iff_eq]at ha hb;subst ha hb;simp[Instr.sameNow,dP]
  ·cases ‹TypeDesc.int _=_›
  ·cases ‹TypeDesc.int _=_›
  cases hb
 ·split at hb
  ·cases ‹TypeDesc.string=_›
  ·simp[Instr.sameNow,dP,j8]
  ·cases ‹TypeDesc.string=_›
  cases hb
 ·split at hb
  ·cases ‹TypeDesc.bool=_›
  ·cases ‹TypeDesc.bool=_›
  ·simp[Instr.sameNow,dP]
  cases hb
 cases ha
def EntRel(μ:Emb)(es:List (Value×Value))(E:List MapEntry):Prop:=
 (J es)=J E/\∀(i:Nat) x y,es[i]?=some x->E[i]?=some y->VRel μ x.1 y.key/\VRel μ x.2 y.val
theorem EntRel.cons_left{x es E}(h:EntRel μ (x::es) E):
  ∃y t,E=y::t/\VRel μ x.1 y.key/\VRel μ x.2 y.val/\EntRel μ es t:=by
 cases E with
 |nil=>have:=h.1;simp at this
 |cons y t=>
  have⟨O,T⟩:=h.2 0 x y V V
  exact⟨y,t,V,O,T,by have:=h.1;simpa using this,λi a b ha hb=>h.2 (i+1) a b (by simpa using ha) (by simpa using hb)⟩
theorem EntRel.cons{x es y E}(O:VRel μ x.1 y.key)(T:VRel μ x.2 y.val)(h:EntRel μ es E):
  EntRel μ (x::es) (y::E):=by
 refine⟨by simp[h.1],λi a b ha hb=>?_⟩
 cases i with
 |zero=>simp at ha hb;subst ha hb;exact⟨O,T⟩
 |succ i=>exact h.2 i a b (by simpa using ha) (by simpa using hb)
theorem jB{d:TypeDesc}{k}(hk:bR d k=true): ∀(es:List (Value×Value)) (ces:List MapEntry) (i:Nat),EntRel μ es ces->es.all (λe=>bR d e.1)=true->
  (∃v v' j,eJ d k es=some v/\Instr.findNow d k ces i=some (some (i+j,v'))/\VRel μ v v'/\j<J ces/\
    (∃y,ces[j]?=some y/\dP k y.key=true/\bR d y.key=true)/\(∀u E,VRel μ u E->EntRel μ (el k u es) (ces.modify j λe=>{e with key:=k,val:=E})))\/
  (eJ d k es=none/\Instr.findNow d k ces i=some none/\∀u E b,VRel μ u E->EntRel μ (el k u es) (ces++[{key:=k,val:=E,born:=b}]))
 | [],ces,i,h,_=>by have:ces=[]:=a0e h.1.symm;subst this;refine .inr ⟨V,V,λu E b O=>?_⟩;exact EntRel.cons (.atom k (eV hk)) O ⟨V,λi a b ha=>by simp at ha⟩
 |x::es,ces,i,h,hall=>by
  obtain⟨y,t,rfl,U,Z,ht⟩:=h.cons_left;simp only[a0l,a04]at hall;have al:y.key=x.1:=U.eq0 (eV hall.1);have T:Instr.sameNow d k y.key=some (dP k x.1):=by rw[al];exact sameNow_key hk hall.1
  cases hs:dP k x.1 with
  |true=>
   refine .inl ⟨x.2,_,0,?_,?_,Z,by simp,⟨y,V,by rw[al];exact hs,by rw[al];exact hall.1⟩,λu E O=>?_⟩
   ·simp only[eJ,hs,cond_true]
   ·simp only[Instr.findNow,T,hs];rfl
   simp only[el,hs,cond_true,List.modify_zero_cons]
   exact EntRel.cons (.atom k (eV hk)) O ht
  |false=>
   rcases jB hk es t (i+1) ht hall.2 with⟨v,v',j,h1,h2,h3,h4,h5,h6⟩|⟨h1,h2,h3⟩
   ·refine .inl ⟨v,v',j+1,?_,?_,h3,by simpa using h4,?_,λu E O=>?_⟩
    ·simp only[eJ,hs,cond_false];exact h1
    ·simp only[Instr.findNow,T,hs];rw[h2];congr 3;omega
    ·have⟨y2,a2,h7⟩:=h5;exact⟨y2,by simpa using a2,h7⟩
    simp only[el,hs,cond_false,List.modify_succ_cons];exact EntRel.cons U Z (h6 u E O)
   refine .inr ⟨?_,?_,λu E b O=>?_⟩
   ·simp only[eJ,hs,cond_false];exact h1
   ·simp only[Instr.findNow,T,hs];exact h2
   simp only[el,hs,cond_false,a0t]
   exact EntRel.cons U Z (h3 u E b O)
theorem gc{d:TypeDesc}{T:TypeId}{k}(O:P.underlying T=some d)(E:bR d k=true)(b:Bool):(Instr.checkKey b 10000 T k).run P w= .ok () w:=by
 have key: ∀n,(Instr.checkKey b (n+1) T k).run P w= .ok () w:=by
  intro n;unfold bR at E;split at E
  ·simp[Instr.checkKey,am w O]
  ·simp[Instr.checkKey,am w O]
  ·simp[Instr.checkKey,am w O]
  cases E
 exact key 9999
theorem lookup_sound{t:TypeId}{m k m' k' v ok}(h:WRel μ H w)(hm:VRel μ m m')(hk:VRel μ k k')(E:dU P t m k ok H=some v):
  ∃v',(Instr.lookup t m' k' ok).run P w= .ok v' w/\VRel μ v v':=by
 unfold dU at E
 split at E
 ·rename_i kt et hu;split at E
  ·rename_i d i hd hi;split at E
   ·rename_i z hz;cases O:(bR d k&&jN z) with
    |false=>rw[O]at E;cases E
    |true=>
     rw[O]at E
     simp only[cond_true]at E
     simp only[a04]at O
     have a7:k'=k:=hk.eq0 (eV O.1)
     subst a7
     have a1:VRel μ z z:=VRel.refl1 O.2
     have a2:(zeroValue et).run P w= .ok z w:=fv w hi hz
     have ax: ∀(u T:Value) (b:Bool),VRel μ u T->VRel μ (bif ok then .tuple #[u,.bool b] else u) (if ok then .tuple #[T,.bool b] else T):=by
      intro u T b hu;cases ok
      ·exact hu
      have:=LRel.cons hu (LRel.cons (VRel.atom (μ:=μ) (.bool b) V) LRel.nil);exact .tuple _ _ this.1 this.2
     split at E
     ·injection E with E;subst E;obtain rfl:=hm.mapNil_inv;refine⟨_,?_,ax z z _ a1⟩;simp only[Instr.lookup,Sem.run_bind,am w hu,Result.andThen_ok,Sem.run_pure,gc hd O.1,Instr.findKey,am w hd];simp[Instr.findNow,a2]
     ·rename_i r;split at E
      ·rename_i es hg;cases al:es.all λe=>bR d e.1 with
       |false=>rw[al]at E;cases E
       |true=>
        rw[al]at E
        simp only[cond_true]at E
        obtain⟨l,hμ,rfl⟩:=hm.map_inv
        have⟨U,aA,hh,hl,a5⟩:=h.obj r l _ hμ hg
        have a6:(getObj l.c).run P w= .ok (.map U aA) w:=kC hh (by intros;simp)
        have Z: ∀c_,Instr.findNow d k' U.toList 0=some c_->(Instr.lookup t (.map (some l.c)) k' ok).run P w=
          (match c_ with
           |some (_,v)=>(.ok (if ok then .tuple #[v,.bool true] else v) w:Result Value)
           |none=> .ok (if ok then .tuple #[z,.bool false] else z) w):=by
         intro c_ hX
         simp only[Instr.lookup,Sem.run_bind,am w hu,Result.andThen_ok,Sem.run_pure,a6,gc hd O.1,Instr.findKey,am w hd,hX]
         cases c_ with
         |none=>simp[a2]
         |some p=>have⟨j,u⟩:=p;simp
        rcases jB O.1 es U.toList 0 ⟨hl,a5⟩ al with⟨u,T,j,h1,h2,h3,_⟩|⟨h1,h2,_⟩
        ·rw[h1]at E;simp only[a01]at E;subst E;exact⟨_,Z _ h2,ax u T _ h3⟩
        rw[h1]at E
        simp only[a01]at E;subst E
        exact⟨_,Z _ h2,ax z z _ a1⟩
      cases E
     cases E
   cases E
  cases E
 cases E
theorem sameBits_key{d:TypeDesc}{a b}(ha:bR d a=true)(hb:bR d b=true)(h:dP a b=true):Instr.sameBits 10000 b a=true:=by
 have key: ∀n,Instr.sameBits n b a=true:=by
  intro n;unfold bR at ha hb;split at ha
  ·split at hb
   ·rename_i k k1 x _ _ k2 y E;injection E with e1;subst e1;simp only[beq_iff_eq]at ha hb;subst ha hb;simp only[dP,beq_iff_eq]at h;subst h;cases n<;>simp[Instr.sameBits]
   ·cases ‹TypeDesc.int _=_›
   ·cases ‹TypeDesc.int _=_›
   cases hb
  ·split at hb
   ·cases ‹TypeDesc.string=_›
   ·rename_i x _ _ y _;have h:=bytesEq_iff h;subst h;cases n<;>simp[Instr.sameBits,j7]
   ·cases ‹TypeDesc.string=_›
   cases hb
  ·split at hb
   ·cases ‹TypeDesc.bool=_›
   ·cases ‹TypeDesc.bool=_›
   ·simp only[dP,beq_iff_eq]at h;subst h;cases n<;>simp[Instr.sameBits]
   cases hb
  cases ha
 exact key 10000
theorem update_sound{t:TypeId}{m k v m' k' v'}(h:WRel μ H w)(hm:VRel μ m m')(hk:VRel μ k k')(hv:VRel μ v v')(O:gx P t m k v H=some H'):
  ∃w',(Instr.mapUpdate t m' k' v').run P w= .ok () w'/\Post μ H w μ H' w':=by
 unfold gx at O
 split at O
 ·rename_i kt et hu;split at O
  ·rename_i d r hd;split at O
   ·rename_i es hg;cases T:(bR d k&&es.all λe=>bR d e.1) with
    |false=>rw[T]at O;cases O
    |true=>
     rw[T]at O
     simp only[cond_true,a01]at O;subst O
     simp only[a04]at T
     have a6:k'=k:=hk.eq0 (eV T.1)
     subst a6
     obtain⟨l,hμ,rfl⟩:=hm.map_inv
     have⟨U,E,hh,hl,a2⟩:=h.obj r l _ hμ hg
     have Z:(getObj l.c).run P w= .ok (.map U E) w:=kC hh (by intros;simp)
     have an: ∀o',(setObj l.c o').run P w= .ok () (aZ w l.c o'):=λo'=>run_setObj hh (by intros;simp)
     rcases jB T.1 es U.toList 0 ⟨hl,a2⟩ T.2 with⟨u,u',j,h1,h2,h3,h4,⟨y,hy,ba,a9⟩,h6⟩|⟨h1,h2,h3⟩
     ·refine⟨aZ w l.c (.map (U.modify j λe=>{e with key:=k',val:=v'}) E),?_,?_⟩
      ·have aA:U[j]?=some y:=by simpa using hy
       simp only[Instr.mapUpdate,Sem.run_bind,am w hu,Result.andThen_ok,Z,gc hd T.1,Instr.findKey,am w hd,h2,Sem.run_pure,a0x,aA,a1N,a1u,
        Instr.keyThatStays,sameBits_key T.1 a9 ba,if_true,an]
      have hr:=h6 v v' hv;refine Post.put h hμ hg V _ V _ ⟨_,_,bZ w _ (cH hh),?_,?_⟩
      ·rw[Array.toList_modify];exact hr.1
      rw[Array.toList_modify];exact hr.2
     refine⟨aZ w l.c (.map (U.push {key:=k',val:=v',born:=E}) (E+1)),?_,?_⟩
     ·simp only[Instr.mapUpdate,Sem.run_bind,am w hu,Result.andThen_ok,Z,gc hd T.1,Instr.findKey,am w hd,h2,Sem.run_pure,an]
     have hr:=h3 v v' E hv
     refine Post.put h hμ hg V _ V _ ⟨_,_,bZ w _ (cH hh),?_,?_⟩
     ·rw[Array.toList_push];exact hr.1
     rw[Array.toList_push];exact hr.2
   cases O
  cases O
 cases O
theorem callee_sound{f f' args O r}(hf:VRel μ f f')(ha:LRel μ args O.toList)(E:gZ P f args=some r):
  ∃i Z,r= .enter i Z/\∃U,(∀w,(do let d ←Deferred.ofValue f' O;invoke d.target d.args:Sem Next).run P w= .ok (.enter i U) w)/\LRel μ Z U.toList:=by
 unfold gZ at E
 split at E
 ·rename_i i first ar;obtain⟨an,T,rfl,h1,h2⟩:=hf.func_inv;split at E
  ·rename_i fn a1;cases hq:(fn.body.isSome&& !(fn.name== "runtime.NumGoroutine")) with
   |false=>rw[hq]at E;cases E
   |true=>
    rw[hq]at E
    simp only[cond_true,a01]at E;subst E
    simp only[a04,a0K]at hq
    refine⟨i,_,V,(an++O)++T,λw=>?_,?_⟩
    ·have hb: ¬fn.body=none:=by intro aA;rw[aA]at hq;cases hq.1
     have a2: ¬fn.name= "runtime.NumGoroutine" :=by have:=hq.2;simpa using this
     simp[Deferred.ofValue,invoke,callFunc,a1,a2,hb]
    rw[eO,eO]
    have:=(h1.append (ha.append h2))
    simpa using this
  cases E
 cases E
end
end Go.R
