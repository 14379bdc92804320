/-
The evaluator is sound: values, operations, memory.
-/
import Derived.Test.YtgdggmlghemecaaGreatDoorZVR0
import Derived.IntWalk
set_option linter.unusedVariables false
set_option linter.unusedSimpArgs false
namespace Go.R
structure Loc where
 c:Nat
 sh:Nat
 opn:Option Nat
 csz:Nat
abbrev Emb:=Nat->Option Loc
inductive VRel(μ:Emb):Value->Value->Prop
 |atom (v:Value):noA0 v=true->VRel μ v v
 |ptr (b o:Nat) (l:Loc):μ b=some l->VRel μ (.pointer (some ⟨b,o,none⟩)) (.pointer (some ⟨l.c,l.sh+o,none⟩))
 |sliceC (b o n k:Nat) (l:Loc):μ b=some l->l.opn=none->VRel μ (.slice (some ⟨b,o,none⟩) n k) (.slice (some ⟨l.c,l.sh+o,none⟩) n k)
 |sliceO (b o o' n k k' e:Nat) (l:Loc):μ b=some l->l.opn=some e->n<=k->k<=k'->(0<k->o'=l.sh+o)->o'+k' *e<=l.csz->
   VRel μ (.slice (some ⟨b,o,none⟩) n k) (.slice (some ⟨l.c,o',none⟩) n k')
 |sliceZ (b o:Nat) (a:Addr) (l:Loc):μ b=some l->VRel μ (.slice (some ⟨b,o,none⟩) 0 0) (.slice (some a) 0 0)
 |map (b:Nat) (l:Loc):μ b=some l->VRel μ (.map (some b)) (.map (some l.c))
 |func (fn:Fn) (xs ys xs' ys':Array Value):xs.toList.length=xs'.toList.length->ys.toList.length=ys'.toList.length->
   (∀(i:Nat) v v',xs.toList[i]?=some v->xs'.toList[i]?=some v'->VRel μ v v')->
   (∀(i:Nat) v v',ys.toList[i]?=some v->ys'.toList[i]?=some v'->VRel μ v v')->VRel μ (.func fn xs ys) (.func fn xs' ys')
 |agg (xs xs':Array Value):xs.toList.length=xs'.toList.length->
   (∀(i:Nat) v v',xs.toList[i]?=some v->xs'.toList[i]?=some v'->VRel μ v v')->VRel μ (.agg xs) (.agg xs')
 |tuple (xs xs':Array Value):xs.toList.length=xs'.toList.length->
   (∀(i:Nat) v v',xs.toList[i]?=some v->xs'.toList[i]?=some v'->VRel μ v v')->VRel μ (.tuple xs) (.tuple xs')
def LRel(μ:Emb)(l l':List Value):Prop:=l.length=l'.length/\∀(i:Nat) v v',l[i]?=some v->l'[i]?=some v'->VRel μ v v'
section
variable {μ μ':Emb}
theorem VRel.mono(h: ∀b l,μ b=some l->μ' b=some l){v v':Value}(E:VRel μ v v'):VRel μ' v v':=by
 induction E with
 |atom v h0=>exact .atom v h0
 |ptr b o l hb=>exact .ptr b o l (h _ _ hb)
 |sliceC b o n k l hb ho=>exact .sliceC b o n k l (h _ _ hb) ho
 |sliceO b o o' n k k' e l hb ho h1 h2 h3 h4=>exact .sliceO b o o' n k k' e l (h _ _ hb) ho h1 h2 h3 h4
 |sliceZ b o a l hb=>exact .sliceZ b o a l (h _ _ hb)
 |map b l hb=>exact .map b l (h _ _ hb)
 |func fn xs ys xs' ys' h1 h2 _ _ i1 i2=>exact .func fn xs ys xs' ys' h1 h2 i1 i2
 |agg xs xs' h1 _ i1=>exact .agg xs xs' h1 i1
 |tuple xs xs' h1 _ i1=>exact .tuple xs xs' h1 i1
theorem LRel.nil:LRel μ [] []:=⟨V,fun i v v' h=>by simp at h⟩
theorem LRel.cons{v v':Value}{l l':List Value}(h:VRel μ v v')(T:LRel μ l l'):LRel μ (v::l) (v'::l'):=by
 refine⟨by simp[T.1],fun i x U E N=>?_⟩;cases i with
 |zero=>simp at E N;subst E N;exact h
 |succ i=>exact T.2 i x U (by simpa using E) (by simpa using N)
theorem LRel.head{v v':Value}{l l':List Value}(h:LRel μ (v::l) (v'::l')):VRel μ v v':=h.2 0 v v' V V
theorem LRel.tail{v v':Value}{l l':List Value}(h:LRel μ (v::l) (v'::l')):LRel μ l l':=
 ⟨by simpa using h.1,fun i x T E N=>h.2 (i+1) x T (by simpa using E) (by simpa using N)⟩
theorem LRel.get{l l':List Value}(h:LRel μ l l'){i:Nat}{v:Value}(E:l[i]?=some v): ∃v',l'[i]?=some v'/\VRel μ v v':=by
 have hi:i<l'.length:=by rw[←h.1];exact(a0w.1 E).1
 exact⟨l'[i],a06 hi,h.2 i v _ E (a06 hi)⟩
theorem LRel.append{a b T U:List Value}(h:LRel μ a T)(k:LRel μ b U):LRel μ (a++b) (T++U):=by
 refine⟨by simp[h.1,k.1],fun i v v' E N=>?_⟩;by_cases hi:i<a.length
 ·rw[a0M hi]at E;rw[a0M (h.1▸hi)]at N;exact h.2 i v v' E N
 rw[a0U M]at E;rw[a0U (by have:=h.1;omega),←h.1]at N;exact k.2 _ v v' E N
theorem LRel.take{a T:List Value}(h:LRel μ a T)(n:Nat):LRel μ (a.take n) (T.take n):=by
 refine⟨by simp[h.1],fun i v v' E N=>?_⟩;rw[a0z]at E N;split at E
 ·rename_i hi;rw[if_pos hi]at N;exact h.2 i v v' E N
 cases E
theorem LRel.drop{a E:List Value}(h:LRel μ a E)(n:Nat):LRel μ (a.drop n) (E.drop n):=by refine⟨by simp[h.1],fun i v v' N T=>?_⟩;rw[a0L]at N T;exact h.2 _ v v' N T
theorem LRel.nil_left{l':List Value}(h:LRel μ [] l'):l'=[]:=a0y h.1.symm
theorem LRel.cons_left{v:Value}{l l':List Value}(h:LRel μ (v::l) l'): ∃v' E,l'=v'::E/\VRel μ v v'/\LRel μ l E:=by
 cases l' with
 |nil=>have:=h.1;simp at this
 |cons v' E=>exact⟨v',E,V,h.head,h.tail⟩
theorem VRel.oneCell{v v':Value}(h:VRel μ v v'):v'.oneCell'=v.oneCell':=by cases h<;>rfl
theorem VRel.eq0{v v':Value}(h:VRel μ v v')(E:noA0 v=true):v'=v:=by
 cases h with
 |atom=>rfl
 |func fn xs ys xs' ys' h1 h2 _ _=>
  simp only[noA0,a09]at E
  have N:xs.size=0:=a0c E.1
  have T:ys.size=0:=a0c E.2
  have U:xs= #[]:=a1n.1 N
  have Z:ys= #[]:=a1n.1 T
  subst U Z
  have g1:xs'= #[]:=a1n.1 (by simpa using h1.symm)
  have g2:ys'= #[]:=a1n.1 (by simpa using h2.symm)
  subst g1 g2
  rfl
 |_=>simp[noA0]at E
theorem LRel.eq0{l l':List Value}(h:LRel μ l l')(E:l.all noA0=true):l'=l:=by
 induction l generalizing l' with
 |nil=>exact h.nil_left
 |cons v l ih=>
  obtain⟨v',U,rfl,T,N⟩:=h.cons_left
  simp only[a0F,a09]at E
  rw[T.eq0 E.1,ih N E.2]
theorem VRel.eq1{v v':Value}(h:VRel μ v v')(E:jT v=true):v'=v:=by
 cases h with
 |agg xs xs' hl hi=>
  have:=LRel.eq0 (μ:=μ) (l:=xs.toList) (l':=xs'.toList) ⟨hl,hi⟩ E
  rw[a1m.1 this]
 |atom v h0=>rfl
 |_=>exact VRel.eq0 (μ:=μ) (by constructor<;>assumption) E
theorem LRel.eq1{l l':List Value}(h:LRel μ l l')(E:l.all jT=true):l'=l:=by
 induction l generalizing l' with
 |nil=>exact h.nil_left
 |cons v l ih=>
  obtain⟨v',U,rfl,T,N⟩:=h.cons_left
  simp only[a0F,a09]at E
  rw[T.eq1 E.1,ih N E.2]
theorem LRel.refl0{l:List Value}(h:l.all noA0=true):LRel μ l l:=by refine⟨V,fun i v v' N E=>?_⟩;rw[N]at E;injection E with E;subst E;exact .atom v (a0m.1 h v (a0r N))
theorem VRel.refl1{v:Value}(h:jT v=true):VRel μ v v:=by
 cases v with
 |agg cs=>have:=LRel.refl0 (μ:=μ) (l:=cs.toList) h;exact .agg cs cs this.1 this.2
 |_=>exact .atom _ h
theorem LRel.refl1{l:List Value}(h:l.all jT=true):LRel μ l l:=by refine⟨V,fun i v v' N E=>?_⟩;rw[N]at E;injection E with E;subst E;exact VRel.refl1 (a0m.1 h v (a0r N))
theorem VRel.refl2{v:Value}(h:noA2 v=true):VRel μ v v:=by
 cases v with
 |tuple vs=>have:=LRel.refl1 (μ:=μ) (l:=vs.toList) h;exact .tuple vs vs this.1 this.2
 |_=>exact VRel.refl1 h
theorem VRel.undef:VRel μ undef undef:=VRel.refl2 V
theorem VRel.eq2{v v':Value}(h:VRel μ v v')(E:noA2 v=true):v'=v:=by
 cases h with
 |tuple xs xs' hl hi=>
  have:=LRel.eq1 (μ:=μ) (l:=xs.toList) (l':=xs'.toList) ⟨hl,hi⟩ E
  rw[a1m.1 this]
 |atom v h0=>rfl
 |_=>exact VRel.eq1 (μ:=μ) (by constructor<;>assumption) E
theorem VRel.cells{v v':Value}(h:VRel μ v v'):LRel μ v.cells.toList v'.cells.toList:=by
 have one: ∀{u E:Value},VRel μ u E->LRel μ [u] [E]:=fun N=> .cons N .nil
 cases h with
 |agg xs xs' hl hi=>exact⟨hl,hi⟩
 |atom v h0=>cases v<;>first|(simp[noA0]at h0;done)|exact one (.atom _ h0)
 |ptr b o l hb=>exact one (.ptr b o l hb)
 |sliceC b o n k l hb ho=>exact one (.sliceC b o n k l hb ho)
 |sliceO b o o' n k k' e l hb ho h1 h2 h3 h4=>exact one (.sliceO b o o' n k k' e l hb ho h1 h2 h3 h4)
 |sliceZ b o a l hb=>exact one (.sliceZ b o a l hb)
 |map b l hb=>exact one (.map b l hb)
 |func fn xs ys xs' ys' h1 h2 i1 i2=>exact one (.func fn xs ys xs' ys' h1 h2 i1 i2)
 |tuple xs xs' h1 i1=>exact one (.tuple xs xs' h1 i1)
theorem VRel.int_inv{k:IntKind}{n:Int}{v':Value}(h:VRel μ (.int k n) v'):v'= .int k n:=h.eq0 V
theorem VRel.bool_inv{b:Bool}{v':Value}(h:VRel μ (.bool b) v'):v'= .bool b:=h.eq0 V
theorem VRel.string_inv{s:ByteArray}{v':Value}(h:VRel μ (.string s) v'):v'= .string s:=h.eq0 V
theorem VRel.ptr_inv{b o:Nat}{v':Value}(h:VRel μ (.pointer (some ⟨b,o,none⟩)) v'): ∃l,μ b=some l/\v'= .pointer (some ⟨l.c,l.sh+o,none⟩):=by
 cases h with
 |atom _ h0=>simp[noA0]at h0
 |ptr _ _ l hb=>exact⟨l,hb,V⟩
theorem VRel.ptr_some{a:Addr}{v':Value}(h:VRel μ (.pointer (some a)) v'):a.spot=none/\∃E,v'= .pointer (some E):=by
 cases h with
 |atom _ h0=>simp[noA0]at h0
 |ptr _ _ l hb=>exact⟨V,_,V⟩
theorem VRel.agg_inv{xs:Array Value}{v':Value}(h:VRel μ (.agg xs) v'): ∃E,v'= .agg E/\LRel μ xs.toList E.toList:=by
 cases h with
 |atom _ h0=>simp[noA0]at h0
 |agg _ E hl hi=>exact⟨E,V,hl,hi⟩
theorem VRel.tuple_inv{xs:Array Value}{v':Value}(h:VRel μ (.tuple xs) v'): ∃E,v'= .tuple E/\LRel μ xs.toList E.toList:=by
 cases h with
 |atom _ h0=>simp[noA0]at h0
 |tuple _ E hl hi=>exact⟨E,V,hl,hi⟩
theorem VRel.func_inv{fn:Fn}{xs ys:Array Value}{v':Value}(h:VRel μ (.func fn xs ys) v'):
  ∃E N,v'= .func fn E N/\LRel μ xs.toList E.toList/\LRel μ ys.toList N.toList:=by
 cases h with
 |atom _ h0=>
  simp only[noA0,a09]at h0
  have T:xs= #[]:=a1n.1 (a0c h0.1)
  have U:ys= #[]:=a1n.1 (a0c h0.2)
  subst T U
  exact⟨#[], #[],V,.nil,.nil⟩
 |func _ _ _ E N h1 h2 i1 i2=>exact⟨E,N,V,⟨h1,i1⟩,⟨h2,i2⟩⟩
theorem VRel.map_inv{b:Nat}{v':Value}(h:VRel μ (.map (some b)) v'): ∃l,μ b=some l/\v'= .map (some l.c):=by
 cases h with
 |atom _ h0=>simp[noA0]at h0
 |map _ l hb=>exact⟨l,hb,V⟩
theorem VRel.mapNil_inv{v':Value}(h:VRel μ (.map none) v'):v'= .map none:=h.eq0 V
theorem VRel.slice_inv{b o n k:Nat}{v':Value}(h:VRel μ (.slice (some ⟨b,o,none⟩) n k) v'):
  ∃l,μ b=some l/\((l.opn=none/\v'= .slice (some ⟨l.c,l.sh+o,none⟩) n k)\/
   (∃e N E,l.opn=some e/\v'= .slice (some ⟨l.c,N,none⟩) n E/\n<=k/\k<=E/\(0<k->N=l.sh+o)/\N+E *e<=l.csz)\/(n=0/\k=0/\∃T,v'= .slice (some T) 0 0)):=by
 cases h with
 |atom _ h0=>simp[noA0]at h0
 |sliceC _ _ _ _ l hb ho=>exact⟨l,hb,.inl ⟨ho,V⟩⟩
 |sliceO _ _ N _ _ E e l hb ho h1 h2 h3 h4=>exact⟨l,hb,.inr (.inl ⟨e,N,E,ho,V,h1,h2,h3,h4⟩)⟩
 |sliceZ _ _ a l hb=>exact⟨l,hb,.inr (.inr ⟨V,V,a,V⟩)⟩
theorem VRel.sliceNil_inv{n k:Nat}{v':Value}(h:VRel μ (.slice none n k) v'):n=0/\k=0/\v'= .slice none n k:=by
 cases h with
 |atom _ h0=>
  simp only[noA0,a09]at h0
  exact⟨a0c h0.1,a0c h0.2,V⟩
theorem VRel.slice_some{a:Addr}{n k:Nat}{v':Value}(h:VRel μ (.slice (some a) n k) v'):a.spot=none/\∃N E,v'= .slice (some N) n E:=by
 cases h with
 |atom _ h0=>simp[noA0]at h0
 |sliceC _ _ _ _ l hb ho=>exact⟨V,_,_,V⟩
 |sliceO _ _ o' _ _ E e l hb ho h1 h2 h3 h4=>exact⟨V,_,_,V⟩
 |sliceZ _ _ a l hb=>exact⟨V,_,_,V⟩
end
def ObjRel(μ:Emb)(w:World)(l:Loc):AObj->Prop
 | .cells cs opn true=>l.opn=opn/\opn=none/\l.c<w.heap.size/\∀(i:Nat) v,cs[i]?=some v->∃v',w.cell? ⟨l.c,l.sh+i,none⟩=some v'/\VRel μ v v'
 | .cells cs opn false=>l.opn=opn/\∃(E:Array Value) (e:TypeId),w.heap[l.c]?=some (.cells E e (0,0))/\E.size=l.csz/\l.sh+cs.length<=l.csz/\
   ∀(i:Nat) v,cs[i]?=some v->∃v',E[l.sh+i]?=some v'/\VRel μ v v'
 | .iter s pos=>l.sh=0/\w.heap[l.c]?=some (.stringIter s pos)
 | .tab es=> ∃(N:Array MapEntry) (T:Nat),w.heap[l.c]?=some (.map N T)/\es.length=N.toList.length/\
   ∀(i:Nat) x y,es[i]?=some x->N.toList[i]?=some y->VRel μ x.1 y.key/\VRel μ x.2 y.val
 | .dead=>True
structure WRel(μ:Emb)(H:Heap)(w:World):Prop where
 obj: ∀b l o,μ b=some l->H.get b=some o->ObjRel μ w l o
 inj: ∀b1 b2 l1 l2 o1 o2,b1≠b2->μ b1=some l1->μ b2=some l2->H.get b1=some o1->H.get b2=some o2->o1.rw=true->o2.live=true->l1.c≠l2.c
theorem cN{w:World}{c:Nat}{o:Obj}(h:w.heap[c]?=some o):c<w.heap.size:=(a0K.1 h).1
theorem ObjRel.lt{μ:Emb}{w:World}{l:Loc}{o:AObj}(h:ObjRel μ w l o)(T:o.live=true):l.c<w.heap.size:=by
 cases o with
 |cells cs opn ro=>
  cases ro with
  |true=>exact h.2.2.1
  |false=>obtain⟨_,U,e,E,_⟩:=h;exact cN E
 |iter s pos=>exact cN h.2
 |tab es=>obtain⟨Z,N,E,_⟩:=h;exact cN E
 |dead=>simp[AObj.live]at T
theorem ObjRel.keep{μ μ':Emb}{w w':World}{l:Loc}{o:AObj}(Z: ∀b l,μ b=some l->μ' b=some l)(hs:w.heap.size<=w'.heap.size)
  (hc:o.live=true->w'.heap[l.c]?=w.heap[l.c]?) (h:ObjRel μ w l o):ObjRel μ' w' l o:=by
 cases o with
 |cells cs opn ro=>
  have aa:=hc V
  cases ro with
  |true=>
   obtain⟨h1,E,U,h4⟩:=h
   refine⟨h1,E,by omega,fun i v hv=>?_⟩
   obtain⟨v',N,hr⟩:=h4 i v hv
   refine⟨v',?_,hr.mono Z⟩
   rw[←N]
   simp only[World.cell?,aa]
  |false=>
   obtain⟨h1,ao,e,hh,E,U,h4⟩:=h
   refine⟨h1,ao,e,aa.trans hh,E,U,fun i v hv=>?_⟩
   obtain⟨v',N,hr⟩:=h4 i v hv
   exact⟨v',N,hr.mono Z⟩
 |iter s pos=>exact⟨h.1,(hc V).trans h.2⟩
 |tab es=>
  obtain⟨ap,T,hh,E,U⟩:=h
  refine⟨ap,T,(hc V).trans hh,E,fun i x y hx hy=>?_⟩
  obtain⟨r1,r2⟩:=U i x y hx hy
  exact⟨r1.mono Z,r2.mono Z⟩
 |dead=>trivial
theorem gY{o:AObj}(h:o.rw=true):o.live=true:=by cases o<;>simp_all[AObj.rw,AObj.live]
structure Post(μ:Emb)(H:Heap)(w:World)(μ':Emb)(H':Heap)(w':World):Prop where
 ext: ∀b l,μ b=some l->μ' b=some l
 dom: ∀b l,μ' b=some l->μ b=some l\/(H.next<=b/\b<H'.next)
 grow:w.heap.size<=w'.heap.size
 os:w'.os=w.os
 tape:w'.tape=w.tape
 out:w'.output=w.output
 keep: ∀c,c<w.heap.size->(∀b l o,μ b=some l->H.get b=some o->o.rw=true->l.c≠c)->w'.heap[c]?=w.heap[c]?
 img: ∀b l o,μ' b=some l->H'.get b=some o->o.live=true->w.heap.size<=l.c\/∃b0 l0 o0,μ b0=some l0/\H.get b0=some o0/\o0.live=true/\(o.rw=true->o0.rw=true)/\l0.c=l.c
 wrel:WRel μ' H' w'
theorem Post.refl{μ:Emb}{H:Heap}{w:World}(h:WRel μ H w):Post μ H w μ H w:=
 ⟨fun _ _ h=>h,fun _ _ h=> .inl h,a0d _,V,V,V,fun _ _ _=>rfl,fun b l o E N T=> .inr ⟨b,l,o,E,N,T,id,V⟩,h⟩
theorem Post.trans{μ μ1 μ2:Emb}{H H1 T:Heap}{w w1 w2:World}(h:Post μ H w μ1 H1 w1)(k:Post μ1 H1 w1 μ2 T w2)(h1:H.next<=H1.next)(h2:H1.next<=T.next):
  Post μ H w μ2 T w2:=by
 refine⟨fun b l E=>k.ext b l (h.ext b l E),fun b l E=>?_,a0e h.grow k.grow,k.os.trans h.os,k.tape.trans h.tape,k.out.trans h.out,fun c hc Z=>?_,fun b l o E U N=>?_,k.wrel⟩
 ·rcases k.dom b l E with hb1|⟨hb1,hb2⟩
  ·rcases h.dom b l hb1 with hb0|⟨hb3,hb4⟩
   ·exact .inl hb0
   exact .inr ⟨hb3,by omega⟩
  exact .inr ⟨by omega,hb2⟩
 ·rw[k.keep c (a0V hc h.grow) ?_,h.keep c hc Z];intro b l o E U N he;rcases h.img b l o E U (gY N) with hh|⟨b0,l0,o0,g1,g2,g3,g5,g4⟩
  ·omega
  exact Z b0 l0 o0 g1 g2 (g5 N) (g4.trans he)
 rcases k.img b l o E U N with hh|⟨b0,l0,o0,g1,g2,g3,g5,g4⟩
 ·exact .inl (a0e h.grow hh)
 rcases h.img b0 l0 o0 g1 g2 g3 with hh|⟨b1,l1,o1,e1,e2,e3,e5,e4⟩
 ·exact .inl (g4▸hh)
 exact .inr ⟨b1,l1,o1,e1,e2,e3,fun hx=>e5 (g5 hx),e4.trans g4⟩
theorem WRel.drew{μ:Emb}{H:Heap}{w:World}(h:WRel μ H w):WRel μ H w.drew:=
 ⟨fun b l o E N=>(h.obj b l o E N).keep (fun _ _ h=>h) (a0d _) (fun _=>rfl),h.inj⟩
theorem Post.drew{μ:Emb}{H:Heap}{w:World}(h:WRel μ H w):Post μ H w μ H w.drew:=
 ⟨fun _ _ h=>h,fun _ _ h=> .inl h,a0d _,V,V,V,fun _ _ _=>rfl,fun b l o E N T=> .inr ⟨b,l,o,E,N,T,id,V⟩,h.drew⟩
def Emb.set(μ:Emb)(b:Nat)(l:Loc):Emb:=fun k=>if k=b then some l else μ k
theorem Emb.set_same(μ:Emb)(b:Nat)(l:Loc):μ.set b l b=some l:=by simp[Emb.set]
theorem Emb.set_ext{μ:Emb}{b:Nat}(l:Loc)(h:μ b=none): ∀k x,μ k=some x->μ.set b l k=some x:=by
 intro k x E;have:k≠b:=fun e=>by subst e;rw[h]at E;cases E
 simp[Emb.set,this,E]
theorem Emb.set_inv{μ:Emb}{b:Nat}{l:Loc}{k:Nat}{x:Loc}(h:μ.set b l k=some x):(k=b/\x=l)\/(k≠b/\μ k=some x):=by
 unfold Emb.set at h;split at h
 ·rename_i e;injection h with h;exact .inl ⟨e,h.symm⟩
 rename_i e;exact .inr ⟨e,h⟩
theorem jE(w:World)(o:Obj){c:Nat}(h:c<w.heap.size):(w.alloc o).heap[c]?=w.heap[c]?:=by simp only[World.alloc,Array.getElem?_push];rw[if_neg M]
theorem nE(w:World)(o:Obj):(w.alloc o).heap[w.heap.size]?=some o:=by show(w.heap.push o)[w.heap.size]?=some o;simp
theorem Post.push{μ:Emb}{H:Heap}{w:World}(h:WRel μ H w)(hf:μ H.next=none)(l:Loc)(hl:l.c=w.heap.size)(o:AObj)(co:Obj)
  (ho:ObjRel (μ.set H.next l) (w.alloc co) l o):Post μ H w (μ.set H.next l) (H.push o) (w.alloc co):=by
 have hm:=Emb.set_ext l hf
 refine⟨hm,fun b x N=>?_,by simp,V,V,V,fun c hc _=>jE w co hc,fun b x o' N E hr=>?_,⟨fun b x o' N E=>?_,fun b1 b2 l1 l2 o1 o2 T aw ax U Z a0 ao=>?_⟩⟩
 ·rcases Emb.set_inv N with⟨rfl,rfl⟩|⟨_,N⟩
  ·exact .inr ⟨a0d _,by simp⟩
  exact .inl N
 ·rcases Emb.set_inv N with⟨rfl,rfl⟩|⟨T,N⟩
  ·exact .inl M
  rw[Heap.get_push_ne H o (Ne.symm T)]at E;exact .inr ⟨b,x,o',N,E,hr,id,V⟩
 ·rcases Emb.set_inv N with⟨rfl,rfl⟩|⟨T,N⟩
  ·rw[Heap.get_push_same]at E;injection E with E;subst E;exact ho
  rw[Heap.get_push_ne H o (Ne.symm T)]at E;have hr:=h.obj b x o' N E;exact hr.keep hm (by simp) (fun ay=>jE w co (hr.lt ay))
 rcases Emb.set_inv aw with⟨e1,f1⟩|⟨ag,aa⟩<;>rcases Emb.set_inv ax with⟨e2,f2⟩|⟨ai,ad⟩
 ·exact absurd (e1.trans e2.symm) T
 ·rw[Heap.get_push_ne H o (Ne.symm ai)]at Z;have:=(h.obj b2 l2 o2 ad Z).lt ao;subst f1;omega
 ·rw[Heap.get_push_ne H o (Ne.symm ag)]at U;have:=(h.obj b1 l1 o1 aa U).lt (by cases o1<;>simp_all[AObj.rw,AObj.live]);subst f2;omega
 rw[Heap.get_push_ne H o (Ne.symm ag)]at U
 rw[Heap.get_push_ne H o (Ne.symm ai)]at Z
 exact h.inj b1 b2 l1 l2 o1 o2 T aa ad U Z a0 ao
def bu(w:World)(c:Nat)(o:Obj):World:={w with heap:=w.heap.setIfInBounds c o}
theorem dr(w:World){c k:Nat}(o:Obj)(h:c≠k):(bu w c o).heap[k]?=w.heap[k]?:=by simp[bu,a1I h]
theorem cL(w:World){c:Nat}(o:Obj)(h:c<w.heap.size):(bu w c o).heap[c]?=some o:=by simp[bu,h]
@[simp] theorem setObjAt_size(w:World)(c:Nat)(o:Obj):(bu w c o).heap.size=w.heap.size:=by simp[bu]
theorem Post.put{μ:Emb}{H:Heap}{w:World}(h:WRel μ H w){b:Nat}{l:Loc}{o:AObj}(U:μ b=some l)(ho:H.get b=some o)(Z:o.rw=true)
  (T:AObj) (bz:T.rw=true) (co:Obj) (hn:ObjRel μ (bu w l.c co) l T):Post μ H w μ (H.put b T) (bu w l.c co):=by
 refine⟨fun _ _ h=>h,fun _ _ h=> .inl h,by simp,V,V,V,fun c hc ao=>dr w co (ao b l o U ho Z),fun k x ox N E a1=>?_,⟨fun k x ox N E=>?_,fun b1 b2 l1 l2 o1 o2 aw ai al ax ay aA a0=>?_⟩⟩
 ·by_cases e:b=k
  ·subst e;rw[U]at N;injection N with N;subst N;exact .inr ⟨b,l,o,U,ho,gY Z,fun _=>Z,V⟩
  rw[Heap.get_put_ne H T e]at E;exact .inr ⟨k,x,ox,N,E,a1,id,V⟩
 ·by_cases e:b=k
  ·subst e;rw[U]at N;injection N with N;subst N;rw[Heap.get_put_same]at E;injection E with E;subst E;exact hn
  rw[Heap.get_put_ne H T e]at E;have hx:=h.obj k x ox N E;exact hx.keep (fun _ _ h=>h) (by simp) (fun av=>dr w co (h.inj b k l x o ox e U N ho E Z av))
 have old: ∀k ok lk,μ k=some lk->(H.put b T).get k=some ok->∃oo,H.get k=some oo/\(ok.rw=true->oo.rw=true)/\(ok.live=true->oo.live=true):=by
  intro k ok lk N an;by_cases e:b=k
  ·subst e;exact⟨o,ho,fun _=>Z,fun _=>by cases o<;>simp_all[AObj.rw,AObj.live]⟩
  rw[Heap.get_put_ne H T e]at an;exact⟨ok,an,id,id⟩
 obtain⟨p1,q1,r1,_⟩:=old b1 o1 l1 ai ax
 obtain⟨p2,q2,_,r2⟩:=old b2 o2 l2 al ay
 exact h.inj b1 b2 l1 l2 p1 p2 aw ai al q1 q2 (r1 aA) (r2 a0)
theorem Post.take{μ:Emb}{H:Heap}{w:World}(h:WRel μ H w){b:Nat}{l:Loc}{o:AObj}(hb:μ b=some l)(ho:H.get b=some o)(hr:o.rw=true)
  (hf:μ H.next=none) (l':Loc) (hl:l'.c=l.c) (o':AObj) (co:Obj) (hn:ObjRel (μ.set H.next l') (bu w l.c co) l' o'):
  Post μ H w (μ.set H.next l') ((H.put b .dead).push o') (bu w l.c co):=by
 have hm:=Emb.set_ext l' hf
 have ch:b≠H.next:=fun e=>by subst e;rw[hf]at hb;cases hb
 have get: ∀k,k≠H.next->((H.put b .dead).push o').get k=(H.put b .dead).get k:=fun k N=>Heap.get_push_ne (H.put b .dead) o' (Ne.symm N)
 have a7:((H.put b .dead).push o').get H.next=some o':=Heap.get_push_same (H.put b .dead) o'
 refine⟨hm,fun k x N=>?_,by simp,V,V,V,fun c hc a9=>dr w co (a9 b l o hb ho hr),fun k x ox N E a4=>?_,⟨fun k x ox N E=>?_,fun b1 b2 l1 l2 o1 o2 Z bb bk a2 a3 ag ai=>?_⟩⟩
 ·rcases Emb.set_inv N with⟨rfl,rfl⟩|⟨_,N⟩
  ·exact .inr ⟨a0d _,by simp⟩
  exact .inl N
 ·rcases Emb.set_inv N with⟨rfl,rfl⟩|⟨Z,N⟩
  ·exact .inr ⟨b,l,o,hb,ho,gY hr,fun _=>hr,hl.symm⟩
  rw[get k Z]at E;by_cases e:b=k
  ·subst e;rw[Heap.get_put_same]at E;injection E with E;subst E;simp[AObj.live]at a4
  rw[Heap.get_put_ne H _ e]at E;exact .inr ⟨k,x,ox,N,E,a4,id,V⟩
 ·rcases Emb.set_inv N with⟨rfl,rfl⟩|⟨Z,N⟩
  ·rw[a7]at E;injection E with E;subst E;exact hn
  rw[get k Z]at E;by_cases e:b=k
  ·subst e;rw[Heap.get_put_same]at E;injection E with E;subst E;trivial
  rw[Heap.get_put_ne H _ e]at E;have hx:=h.obj k x ox N E;exact hx.keep hm (by simp) (fun ap=>dr w co (h.inj b k l x o ox e hb N ho E hr ap))
 have old: ∀k ok,k≠H.next->ok.live=true->((H.put b .dead).push o').get k=some ok->k≠b/\H.get k=some ok:=by
  intro k ok N ap U;rw[get k N]at U;by_cases e:b=k
  ·subst e;rw[Heap.get_put_same]at U;injection U with U;subst U;simp[AObj.live]at ap
  rw[Heap.get_put_ne H _ e]at U;exact⟨Ne.symm e,U⟩
 have T: ∀{x:AObj},x.rw=true->x.live=true:=by intro x hx;cases x<;>simp_all[AObj.rw,AObj.live]
 rcases Emb.set_inv bb with⟨e1,f1⟩|⟨aq,an⟩<;>rcases Emb.set_inv bk with⟨e2,f2⟩|⟨ar,ao⟩
 ·exact absurd (e1.trans e2.symm) Z
 ·obtain⟨n2,g2⟩:=old b2 o2 ar ai a3;rw[f1,hl];exact h.inj b b2 l l2 o o2 (Ne.symm n2) hb ao ho g2 hr ai
 ·obtain⟨n1,g1⟩:=old b1 o1 aq (T ag) a2;rw[f2,hl];exact fun e=>h.inj b b1 l l1 o o1 (Ne.symm n1) hb an ho g1 hr (T ag) e.symm
 obtain⟨_,g1⟩:=old b1 o1 aq (T ag) a2
 obtain⟨_,g2⟩:=old b2 o2 ar ai a3
 exact h.inj b1 b2 l1 l2 o1 o2 Z an ao g1 g2 ag ai
end Go.R
set_option linter.unusedVariables false
namespace Go.R
section pure_
variable {α β:Type} (P:Program)
theorem cF{s:Sem α}{a:α}(h:aJ P s=some a)(w:World):s.run P w= .ok a w:=by
 induction s with
 |pure x=>simp only[aJ,a00]at h;subst h;rfl
 |program k ih=>simp only[aJ]at h;simp only[Sem.run];exact ih _ h
 |mark m k ih=>simp only[aJ]at h;simp only[Sem.run];exact ih h
 |_=>simp[aJ]at h
@[simp] theorem aM(x:Sem α)(f:α->Sem β):aJ P (x>>=f)=(aJ P x).bind fun a=>aJ P (f a):=by
 show aJ P (x.bind f)=_;induction x with
 |program k ih=>simp only[Sem.bind,aJ];exact ih _
 |mark m k ih=>simp only[Sem.bind,aJ];exact ih
 |pure a=>rfl
 |_=>rfl
@[simp] theorem bD(a:α):aJ P (Pure.pure a:Sem α)=some a:=rfl
@[simp] theorem eH:aJ P program=some P:=rfl
@[simp] theorem pureRun_stuck(E:String):aJ P (stuck E:Sem α)=none:=rfl
@[simp] theorem pureRun_unsupported(u:Unsupported):aJ P (unsupported u:Sem α)=none:=rfl
@[simp] theorem pureRun_goPanic(v:Value):aJ P (goPanic v:Sem α)=none:=rfl
@[simp] theorem pureRun_choose(q:Question):aJ P (choose q)=none:=rfl
@[simp] theorem pureRun_mark(m:Mark):aJ P (mark m)=some ():=rfl
theorem pureRun_ite(c:Prop) [Decidable c](x y:Sem α):aJ P (if c then x else y)=if c then aJ P x else aJ P y:=by split<;>rfl
@[simp] theorem bx(t:TypeId):aJ P (underlying t)=P.underlying t:=by unfold underlying;simp only[aM,eH,a0q];cases P.underlying t<;>rfl
@[simp] theorem cW(t:TypeId):aJ P (typeInfo t)=P.info? t:=by unfold typeInfo;simp only[aM,eH,a0q];cases P.info? t<;>rfl
@[simp] theorem ct(t:TypeId):aJ P (sizeOf t)=cZ P t:=by unfold sizeOf cZ;simp only[aM,cW];cases P.info? t<;>rfl
@[simp] theorem fy(t:TypeId):aJ P (isAgg t)=eX P t:=by
 unfold isAgg eX;simp only[aM,bx];cases P.underlying t with
 |none=>rfl
 |some d=>cases d<;>rfl
theorem gR(e:RuntimeError):aJ P (runtimePanic e:Sem α)=none:=by unfold runtimePanic;cases e<;>simp[newVar,newRow,newObj,aJ,elemOf]<;>(intros;split<;>simp[aJ])
theorem hZ(k:IntKind)(x y:Int)(c:BoundsCode):aJ P (boundsPanic k x y c:Sem α)=none:=by unfold boundsPanic;simp[gR,pureRun_ite]
end pure_
section runs
variable {P:Program} (w:World)
theorem aW{t:TypeId}{n:Nat}(h:cZ P t=some n):(sizeOf t).run P w= .ok n w:=cF P (by rw[ct];exact h) w
theorem mp{t:TypeId}{b:Bool}(h:eX P t=some b):(isAgg t).run P w= .ok b w:=cF P (by rw[fy];exact h) w
theorem eo{t:TypeId}{i:TypeInfo}(h:P.info? t=some i):(typeInfo t).run P w= .ok i w:=cF P (by rw[cW];exact h) w
theorem az{t:TypeId}{d:TypeDesc}(h:P.underlying t=some d):(underlying t).run P w= .ok d w:=cF P (by rw[bx];exact h) w
theorem eD{t:TypeId}{z:List Value}(h:cy P t=some z): ∃i v,P.info? t=some i/\i.zero=some v/\v.cells.toList=z/\z.all noA0=true:=by
 unfold cy at h;split at h
 ·rename_i i hi;split at h
  ·rename_i v E;cases hc:v.cells.toList.all noA0 with
   |false=>rw[hc]at h;cases h
   |true=>rw[hc]at h;simp at h;subst h;exact⟨i,v,hi,E,V,hc⟩
  cases h
 cases h
theorem ei{t:TypeId}{i:TypeInfo}{v:Value}(hi:P.info? t=some i)(E:i.zero=some v):(zeroValue t).run P w= .ok v w:=by unfold zeroValue;simp[eo w hi,E]
end runs
section mem
variable {P:Program} {μ:Emb} {H:Heap} {w:World}
theorem jK(h:WRel μ H w){b o:Nat}{l:Loc}{v:Value}(hb:μ b=some l)(E:H.cellAt ⟨b,o,none⟩=some v):
  ∃v',w.cell? ⟨l.c,l.sh+o,none⟩=some v'/\VRel μ v v':=by
 simp only[Heap.cellAt,ga]at E
 split at E
 ·rename_i cs an ro hg;have T:=h.obj b l _ hb hg;cases ro with
  |true=>exact T.2.2.2 o v E
  |false=>
   obtain⟨_,al,e,hh,_,_,Z⟩:=T
   obtain⟨v',U,N⟩:=Z o v E
   exact⟨v',by simp only[World.cell?,hh];simpa using U,N⟩
 cases E
theorem cY(c o j:Nat):Addr.add ⟨c,o,none⟩ j=⟨c,o+j,none⟩:=by
 unfold Addr.add;split
 ·subst_vars;rfl
 rfl
theorem ig(h:WRel μ H w){b o n:Nat}{l:Loc}{vs:List Value}(hb:μ b=some l)(E:H.loadN ⟨b,o,none⟩ n=some vs):
  ∃ai,(loadCells ⟨l.c,l.sh+o,none⟩ n).run P w= .ok ⟨ai⟩ w/\LRel μ vs ai/\vs.length=n:=by
 simp only[Heap.loadN,bS,bU,bA]at E
 split at E
 ·rename_i cs ax ro hg;cases hq:Nat.beq ((cs.drop o).take n).length n with
  |false=>rw[hq]at E;cases E
  |true=>
   rw[hq]at E;simp only[cond_true,a00]at E
   have T:((cs.drop o).take n).length=n:=a0c hq
   have ap: ∀j,j<n->∃v v',cs[o+j]?=some v/\w.cell? ⟨l.c,l.sh+o+j,none⟩=some v'/\VRel μ v v':=by
    intro j hj;have ag:o+j<cs.length:=by rw[a0p,a0H]at T;omega
    have al:H.cellAt ⟨b,o+j,none⟩=some cs[o+j]:=by simp only[Heap.cellAt,hg,ga];exact a06 ag
    obtain⟨v',hc,hr⟩:=jK h hb al;exact⟨_,v',a06 ag,by rw[←hc,a1x],hr⟩
   have Z: ∃f:Nat->Value,∀j,j<n->w.cell? (Addr.add ⟨l.c,l.sh+o,none⟩ j)=some (f j)/\∀v,cs[o+j]?=some v->VRel μ v (f j):=by refine⟨fun j=>(w.cell? ⟨l.c,l.sh+o+j,none⟩).getD undef,fun j hj=>?_⟩;obtain⟨v,v',N,U,h3⟩:=ap j hj;simp only[cY,U,a0I];refine⟨trivial,fun u hu=>?_⟩;rw[N]at hu;injection hu with hu;subst hu;exact h3
   obtain⟨f,Z⟩:=Z
   refine⟨(List.range n).map f,run_loadCells w _ n f (fun j hj=>(Z j hj).1),?_,by rw[←E];exact T⟩
   subst E
   refine⟨by rw[T];simp,fun i v v' N U=>?_⟩
   rw[a0z]at N
   split at N
   ·rename_i hi;rw[a0L]at N;simp[hi]at U;subst U;exact(Z i hi).2 v N
   cases N
 cases E
theorem ie(h:WRel μ H w){b o:Nat}{l:Loc}{t:TypeId}{v:Value}(Z:μ b=some l)(E:H.loadV P t ⟨b,o,none⟩=some v):
  ∃v',(loadVar t ⟨l.c,l.sh+o,none⟩).run P w= .ok v' w/\VRel μ v v':=by
 unfold Heap.loadV at E
 split at E
 ·rename_i T;split at E
  ·rename_i n hn;split at E
   ·rename_i vs hl;injection E with E;subst E;obtain⟨aa,U,N,_⟩:=ig (P:=P) h Z hl;refine⟨.agg ⟨aa⟩,?_,.agg _ _ N.1 N.2⟩;simp[loadVar,mp w T,aW w hn,U]
   cases E
  cases E
 ·rename_i T;obtain⟨v',hc,hr⟩:=jK h Z E;refine⟨v',?_,hr⟩;simp[loadVar,mp w T,hc]
 cases E
theorem kY{α:Type}(l:List α)(k:Nat):(Array.mk l)[k]?=l[k]?:=by simp
theorem kT: ∀(cs E:List Value),E.length<=cs.length->(over cs E).length=cs.length
 | [],[],_=>rfl
 | [],_::_,h=>by simp at h
 |_::_,[],_=>rfl
 |c::cs,v::E,h=>by simp only[over,a05];rw[kT cs E (by simpa using h)]
theorem over_get: ∀(cs E:List Value) (i:Nat),E.length<=cs.length->(over cs E)[i]?=if i<E.length then E[i]? else cs[i]?
 | [],[],i,_=>by simp[over]
 | [],_::_,_,h=>by simp at h
 |_::_,[],i,_=>by simp[over]
 |c::cs,v::E,0,_=>by simp[over]
 |c::cs,v::E,i+1,h=>by simp[over,over_get cs E i (by simpa using h)]
theorem bX: ∀(cs:List Value) (o:Nat) (E:List Value),o+E.length<=cs.length->(bc cs o E).length=cs.length
 |cs,0,E,h=>by cases cs<;>exact kT _ _ M
 | [],o+1,E,h=>by simp[bc]
 |c::cs,o+1,E,h=>by simp only[bc,a05];rw[bX cs o E (by simp at h;omega)]
theorem bp: ∀(cs:List Value) (o:Nat) (E:List Value) (i:Nat),o+E.length<=cs.length->
  (bc cs o E)[i]?=if o<=i/\i<o+E.length then E[i-o]? else cs[i]?
 |cs,0,E,i,h=>by
  have:bc cs 0 E=over cs E:=by cases cs<;>rfl
  rw[this,over_get cs E i M];simp
 | [],o+1,E,i,h=>by simp at h
 |c::cs,o+1,E,0,h=>by simp[bc]
 |c::cs,o+1,E,i+1,h=>by
  simp only[bc,a1J];rw[bp cs o E i (by simp at h;omega)];by_cases hc:o<=i/\i<o+E.length
  ·rw[if_pos hc,if_pos M];congr 1;omega
  rw[if_neg hc,if_neg M]
theorem du(c:Nat)(e:TypeId): ∀(N:List Value) (w:World) (E:Array Value) (o i:Nat),w.heap[c]?=some (.cells E e (0,0))->
  o+i+N.length<=E.size->N.all Value.oneCell'=true->N≠ []->
  (storeCells ⟨c,o,none⟩ N i).run P w= .ok () (bu w c (.cells ⟨bc E.toList (o+i) N⟩ e (0,0)))
 | [],_,_,_,_,_,_,_,hne=>absurd V hne
 |v::N,w,E,o,i,hh,hl,hall,_=>by
  simp only[a0F,a09]at hall;simp only[a05]at hl;have U:w.cell? ⟨c,o+i,none⟩=some (E[o+i]'M):=by simp[World.cell?,hh,show o+i<E.size by omega]
  have ad:w.frozen? ⟨c,o+i,none⟩=false:=by simp[World.frozen?,hh]
  have aa:w.setCell ⟨c,o+i,none⟩ v=bu w c (.cells (E.setIfInBounds (o+i) v) e (0,0)):=by
   unfold World.setCell bu;congr 1;apply a1Q;intro k;by_cases T:c=k
   ·subst T;rw[Array.getElem?_modify,if_pos V,hh,a1i,if_pos V,if_pos (cN hh)];simp
   simp[Array.getElem?_modify,T,a1I T]
  have h1:(storeCells ⟨c,o,none⟩ (v::N) i).run P w=(storeCells ⟨c,o,none⟩ N (i+1)).run P (bu w c (.cells (E.setIfInBounds (o+i) v) e (0,0))):=by simp only[storeCells,Sem.run_bind,cY];rw[run_store P w _ v _ hall.1,U];simp[ad,aa]
  rw[h1];by_cases hv:N=[]
  ·subst hv;simp only[storeCells,Sem.run_pure];congr 3;apply a1Q;intro k;simp only[a0b]at hl;rw[a1i];refine Eq.trans ?_ (kY _ _).symm;rw[bp _ _ _ _ (by simp;omega)];by_cases T:o+i=k
   ·subst T;rw[if_pos V,if_pos M,if_pos (by simp)];simp
   rw[if_neg T,if_neg (by simp;omega)];simp
  have ag:(bu w c (.cells (E.setIfInBounds (o+i) v) e (0,0))).heap[c]?=some (.cells (E.setIfInBounds (o+i) v) e (0,0)):=cL w _ (cN hh);rw[du c e N _ _ o (i+1) ag (by simp;omega) hall.2 hv];congr 1;have: ∀(x y:Obj),bu (bu w c x) c y=bu w c y:=by intro x y;simp[bu]
  rw[this];congr 2;apply a1Q;intro k;refine(kY _ _).trans (Eq.trans ?_ (kY _ _).symm);rw[bp _ _ _ _ (by simp;omega),bp _ _ _ _ (by simp;omega)];by_cases T:o+i=k
  ·subst T;rw[if_neg M,if_pos (by simp)];simp[show o+i<E.size by omega]
  by_cases Z:o+(i+1)<=k/\k<o+(i+1)+N.length
  ·rw[if_pos Z,if_pos (by simp;omega)];rw[show k-(o+i)=(k-(o+(i+1)))+1 by omega,a1J]
  rw[if_neg Z,if_neg (by simp;omega)];simp[T]
theorem gm(h:WRel μ H w){b o:Nat}{l:Loc}{T E:List Value}{H':Heap}(hb:μ b=some l)(hs:H.storeL ⟨b,o,none⟩ T=some H')(U:LRel μ T E):
  ∃w',(storeCells ⟨l.c,l.sh+o,none⟩ E).run P w= .ok () w'/\Post μ H w μ H' w':=by
 simp only[Heap.storeL,bA,od,Nat.add_eq]at hs
 split at hs
 ·rename_i cs a3 hg;cases hq:(Nat.ble (o+T.length) cs.length&&T.all Value.oneCell') with
  |false=>rw[hq]at hs;cases hs
  |true=>
   rw[hq]at hs;simp only[cond_true,a00]at hs
   simp only[a09]at hq
   have aa:o+T.length<=cs.length:=a0a hq.1
   obtain⟨r1,N,e,Z,r2,r3,r4⟩:=h.obj b l _ hb hg
   have ad:=U.1
   have aq:E.all Value.oneCell'=true:=by
    rw[a0m];intro x hx;obtain⟨i,hi⟩:=List.getElem?_of_mem hx;have an:i<T.length:=by rw[ad];exact(a0w.1 hi).1
    have hr:=U.2 i T[i] x (a06 an) hi;rw[hr.oneCell];exact a0m.1 hq.2 _ (a10 an)
   by_cases ao:E=[]
   ·subst ao;have hv:T=[]:=by simpa using ad
    subst hv;have ap:bc cs o []=cs:=by apply a1o;intro k;rw[bp _ _ _ _ (by simpa using aa),if_neg (by simp)]
    subst hs;refine⟨bu w l.c (.cells N e (0,0)),?_,?_⟩
    ·have:bu w l.c (.cells N e (0,0))=w:=by
      unfold bu;congr 1;apply a1Q;intro k;by_cases hk:l.c=k
      ·subst hk;rw[a1i,if_pos V,if_pos (cN Z),Z]
      rw[a1I hk]
     rw[this];rfl
    refine Post.put h hb hg V _ V _ ⟨r1,N,e,cL w _ (cN Z),r2,by rw[ap];exact r3,fun i v hi=>r4 i v (by rw[ap]at hi;exact hi)⟩
   subst hs
   refine⟨_,by simpa using du (P:=P) l.c e E w N (l.sh+o) 0 Z M aq ao,?_⟩
   refine Post.put h hb hg V _ V _ ⟨r1,_,e,cL w _ (cN Z),?_,?_,?_⟩
   ·rw[←r2];show(bc N.toList (l.sh+o) E).length=_;rw[bX _ _ _ (by simp;omega)];simp
   ·rw[bX _ _ _ aa];exact r3
   intro i v hi
   rw[bp _ _ _ _ aa]at hi
   have mg: ∀v':Value,(bc N.toList (l.sh+o) E)[l.sh+i]?=some v'->(Array.mk (bc N.toList (l.sh+o+0) E))[l.sh+i]?=some v':=fun v' hv=>(kY _ _).trans hv
   rw[bp _ _ _ _ (by simp;omega)]at mg
   by_cases hc:o<=i/\i<o+T.length
   ·rw[if_pos hc]at hi;rw[if_pos M]at mg;obtain⟨v',al,hr⟩:=U.get hi;exact⟨v',mg v' (by rw[←al];congr 1;omega),hr⟩
   rw[if_neg hc]at hi
   rw[if_neg M]at mg
   obtain⟨v',al,hr⟩:=r4 i v hi
   exact⟨v',mg v' (by simpa using al),hr⟩
 cases hs
theorem de(h:WRel μ H w)(hf:μ H.next=none)(e:TypeId){cs N:List Value}(U:LRel μ cs N)(E:List Value)(T:Option Nat)(ag:T=none->E=[]):
  ∃l,l.c=w.heap.size/\l.sh=0/\l.opn=T/\l.csz=cs.length+E.length/\
  (newRow e ⟨N++E⟩).run P w= .ok ⟨w.heap.size,0,none⟩ (w.alloc (.cells ⟨N++E⟩ e))/\
   Post μ H w (μ.set H.next l) (aQ H cs T) (w.alloc (.cells ⟨N++E⟩ e)):=by
 refine⟨⟨w.heap.size,0,T,cs.length+E.length⟩,V,V,V,V,by simp[newRow],?_⟩
 refine Post.push h hf _ V _ _ ⟨V,_,e,nE w _,by simp[U.1],by simp,fun i v hi=>?_⟩
 obtain⟨v',Z,hr⟩:=U.get hi
 refine⟨v',?_,hr.mono (Emb.set_ext _ hf)⟩
 have:i<N.length:=(a0w.1 Z).1
 simp only[a1g,kY]
 rw[a0M this];exact Z
end mem
def ANRel(μ:Emb):AN->Next->Prop
 | .val v,.value v'=>VRel μ v v'
 | .skip,.skip=>True
 | .enter f args,.enter f' args'=>f=f'/\LRel μ args args'.toList
 |_,_=>False
theorem jt(bs:ByteArray): ∀(n i:Nat) (r:List UInt8),bs.size-i=n->ByteArray.toList.loop bs i r=r.reverse++bs.data.toList.drop i:=by
 intro n;induction n with
 |zero=>
  intro i r h
  rw[ByteArray.toList.loop,if_neg M,a1P (by simp only[a21,ByteArray.size_data];omega),a0o]
 |succ n ih=>
  intro i r h
  have hi:i<bs.size:=M
  rw[ByteArray.toList.loop,if_pos hi,ih (i+1) _ M]
  have E:i<bs.data.toList.length:=by simpa using hi
  rw[a1f E]
  simp[ByteArray.get!,hi]
theorem dh(bs:ByteArray):bs.toList=bs.data.toList:=by unfold ByteArray.toList;rw[jt bs _ 0 [] rfl];simp
section
variable {P:Program} {μ:Emb}
theorem dx{ρ ρ':Operand->Value}{o:Oper}{H H':Heap}{r:AN}(h:bG P ρ o H=some (r,H'))(hs: ∀cs b,o.op≠ .select cs b)
  (hρ: ∀x∈o.op.operands,VRel μ (ρ x) (ρ' x)):H'=H/\∃v v',r= .val v/\(∀w,(execOp ρ' o).run P w= .ok (.value v') w)/\VRel μ v v':=by
 unfold bG at h
 cases N:o.op.operands.toList.all fun x=>jT (ρ x) with
 |false=>rw[N]at h;cases h
 |true=>
  rw[N]at h
  have U:execOp ρ' o=execOp ρ o:=execOp_congr o hs fun x T=>(hρ x T).eq1 (a0m.1 N x (by simpa using T))
  simp only[cond_true]at h
  split at h
  ·rename_i v Z;cases E:noA2 v with
   |false=>rw[E]at h;cases h
   |true=>
    rw[E]at h;simp only[cond_true,a00,a04]at h
    obtain⟨rfl,rfl⟩:=h
    exact⟨V,v,v,V,fun w=>by rw[U];exact cF P Z w,VRel.refl2 E⟩
  cases h
theorem lc{s:Sem Value}{H H':Heap}{r:AN}(h:lift P s H=some (r,H')):H'=H/\∃v,r= .val v/\aJ P s=some v:=by
 unfold lift at h;split at h
 ·rename_i v E;simp only[a00,a04]at h;exact⟨h.2.symm,v,h.1.symm,E⟩
 cases h
theorem intBin_sound{op:BinOp}{k:IntKind}{a b:Int}{v:Value}(h:mA op k a b=some v)(t:TypeId)(w:World):
  (binOp op t (.int k a) (.int k b)).run P w= .ok v w/\noA0 v=true:=by
 cases op<;>simp only[mA,a00,reduceCtorEq]at h
 case quo=>
  cases E:(b==0) with
  |true=>rw[E]at h;cases h
  |false=>
   rw[E]at h;simp only[cond_false,a00]at h;subst h
   have N: ¬b=0:=by simpa using E
   simp[binOp_quo,Op.intDiv,N,noA0]
 case rem=>
  cases E:(b==0) with
  |true=>rw[E]at h;cases h
  |false=>
   rw[E]at h;simp only[cond_false,a00]at h;subst h
   have N: ¬b=0:=by simpa using E
   simp[binOp_rem,Op.intDiv,N,noA0]
 all_goals subst h
 case add=>simp[binOp_add,Op.intArith,noA0]
 case sub=>simp[binOp_sub,Op.intArith,noA0]
 case mul=>simp[binOp_mul,Op.intArith,noA0]
 case and=>simp[binOp_and,intBits_and,noA0,aD]
 case or=>simp[binOp_or,intBits_or,noA0,aD]
 case xor=>simp[binOp_xor,intBits_xor,noA0,aD]
 case andNot=>simp[binOp_andNot,intBits_andNot,noA0,aD]
 case eql=>simp[binOp_eql,noA0]
 case neq=>simp[binOp_neq,noA0]
 case lss=>simp[binOp_lss,noA0]
 case leq=>simp[binOp_leq,noA0]
 case gtr=>simp[binOp_gtr,noA0]
 case geq=>simp[binOp_geq,noA0]
theorem shBin_sound{op:BinOp}{k N:IntKind}{a b:Int}{v:Value}(h:shBin op k a b=some v)(t:TypeId)(w:World):
  (binOp op t (.int k a) (.int N b)).run P w= .ok v w/\noA0 v=true:=by
 cases op<;>simp only[shBin,reduceCtorEq]at h
 all_goals
  cases b with
  |negSucc n=>simp[shiftN]at h
  |ofNat n=>
   simp only[shiftN,a00]at h;subst h
   have E: ¬((n:Int)<0):=M
   simp[binOp_shl,binOp_shr,Op.shift,E,noA0,Nat.min_def]
theorem kH{op:BinOp}{t:TypeId}{a b:ByteArray}{v:Value}(h:strOp op a b=some v)(w:World):
  (binOp op t (.string a) (.string b)).run P w= .ok v w/\noA0 v=true:=by
 have T:binOp op t (.string a) (.string b)=Op.stringOp op a b:=by cases op<;>rfl
 rw[T]
 unfold strOp at h
 split at h
 ·injection h with h;subst h;simp[Op.stringOp,dh,fK,noA0]
 ·injection h with h;subst h;simp[Op.stringOp,dh,fK,noA0]
 ·injection h with h;subst h;simp[Op.stringOp,dh,noA0]
 ·injection h with h;subst h;simp[Op.stringOp,dh,fK,noA0]
 ·injection h with h;subst h;simp[Op.stringOp,dh,fK,noA0]
 ·injection h with h;subst h;simp[Op.stringOp,dh,noA0]
 ·simp only[dO,bA]at h;cases E:Nat.ble (a.data.toList++b.data.toList).length 1099511627776 with
  |false=>rw[E]at h;cases h
  |true=>
   rw[E]at h;simp only[cond_true,a00]at h;subst h
   have N:=a0a E
   simp only[a01,a21,ByteArray.size_data]at N
   refine⟨?_,V⟩
   have U: ¬(((a.size+b.size:Nat):Int)>IntKind.i64.max):=by rw[IntKind.max_i64];omega
   simp only[Op.stringOp,if_neg U,Sem.run_pure]
   congr 2
 cases h
theorem my{a:Option Addr}{v':Value}(h:VRel μ (.pointer a) v'): ∃E,v'= .pointer E/\E.isNone=a.isNone:=by
 cases h with
 |atom _ h0=>exact⟨a,V,V⟩
 |ptr b o l hb=>exact⟨_,V,V⟩
theorem df{a:Option Addr}{n k:Nat}{v':Value}(h:VRel μ (.slice a n k) v'): ∃E N,v'= .slice E n N/\E.isNone=a.isNone:=by
 cases h with
 |atom _ h0=>exact⟨a,k,V,V⟩
 |sliceC b o n k l hb ho=>exact⟨_,_,V,V⟩
 |sliceO b o o' n k N e l hb ho h1 h2 h3 h4=>exact⟨_,_,V,V⟩
 |sliceZ b o a l hb=>exact⟨_,_,V,V⟩
theorem mz{a:Option Nat}{v':Value}(h:VRel μ (.map a) v'): ∃E,v'= .map E/\E.isNone=a.isNone:=by
 cases h with
 |atom _ h0=>exact⟨a,V,V⟩
 |map b l hb=>exact⟨_,V,V⟩
theorem eu{t:TypeId}{x y:Value}{w:World}{b:Bool}(h: ∀d,(Op.equalIn (d+1) t x y).run P w= .ok b w):(Op.equal t x y).run P w= .ok b w:=h 9999
theorem kX{t:TypeId}{x y Z y':Value}{b:Bool}(h:nilEq P t x y=some b)(T:VRel μ x Z)(U:VRel μ y y')(w:World):
  (Op.equal t Z y').run P w= .ok b w/\(∀op u v,eqGuard op t u v Z y'=pure ())/\(∀op,op= .eql\/op= .neq->binOp op t Z y'=(match op with
   | .eql=>do pure (.bool (←Op.equal t Z y'))
   |_=>do pure (.bool (!(←Op.equal t Z y'))))):=by
 unfold nilEq at h
 split at h
 ·rename_i e b0 N;obtain rfl:=T.eq0 V;obtain⟨b',rfl,hb⟩:=my U;injection h with h;subst h;refine⟨?_,fun op u v=>by cases op<;>rfl,fun op E=>by rcases E with rfl|rfl<;>rfl⟩;exact eu fun d=>by simp[Op.equalIn,az w N,hb]
 ·rename_i e a0 N;obtain rfl:=U.eq0 V;obtain⟨a',rfl,ha⟩:=my T;injection h with h;subst h;refine⟨?_,fun op u v=>by cases op<;>rfl,fun op E=>by rcases E with rfl|rfl<;>rfl⟩;exact eu fun d=>by cases a'<;>simp[Op.equalIn,az w N,←ha]
 ·rename_i e n k b0 n2 k2 N;obtain⟨rfl,rfl,rfl⟩:=T.sliceNil_inv;obtain⟨b',k',rfl,hb⟩:=df U;injection h with h;subst h;refine⟨?_,fun op u v=>by cases op<;>rfl,fun op E=>by rcases E with rfl|rfl<;>rfl⟩;exact eu fun d=>by simp[Op.equalIn,az w N,hb]
 ·rename_i e a0 n k n2 k2 N;obtain⟨rfl,rfl,rfl⟩:=U.sliceNil_inv;obtain⟨a',k',rfl,ha⟩:=df T;injection h with h;subst h;refine⟨?_,fun op u v=>by cases op<;>rfl,fun op E=>by rcases E with rfl|rfl<;>rfl⟩;exact eu fun d=>by cases a'<;>simp[Op.equalIn,az w N,←ha]
 ·rename_i e1 e2 b0 N;obtain rfl:=T.eq0 V;obtain⟨b',rfl,hb⟩:=mz U;injection h with h;subst h;refine⟨?_,fun op u v=>by cases op<;>rfl,fun op E=>by rcases E with rfl|rfl<;>rfl⟩;exact eu fun d=>by simp[Op.equalIn,az w N,hb]
 ·rename_i e1 e2 a0 N;obtain rfl:=U.eq0 V;obtain⟨a',rfl,ha⟩:=mz T;injection h with h;subst h;refine⟨?_,fun op u v=>by cases op<;>rfl,fun op E=>by rcases E with rfl|rfl<;>rfl⟩;exact eu fun d=>by cases a'<;>simp[Op.equalIn,az w N,←ha]
 ·rename_i ps rs va N;obtain rfl:=T.eq0 V;obtain rfl:=U.eq0 V;injection h with h;subst h;refine⟨?_,fun op u v=>by cases op<;>rfl,fun op E=>by rcases E with rfl|rfl<;>rfl⟩;exact eu fun d=>by simp[Op.equalIn,az w N]
 ·rename_i ps rs va fn xs ys N;obtain rfl:=T.eq0 V;obtain⟨aq,ar,rfl,_,_⟩:=U.func_inv;injection h with h;subst h;refine⟨?_,fun op u v=>by cases op<;>rfl,fun op E=>by rcases E with rfl|rfl<;>rfl⟩;exact eu fun d=>by simp[Op.equalIn,az w N]
 ·rename_i ps rs va fn xs ys N;obtain rfl:=U.eq0 V;obtain⟨aq,ar,rfl,_,_⟩:=T.func_inv;injection h with h;subst h;refine⟨?_,fun op u v=>by cases op<;>rfl,fun op E=>by rcases E with rfl|rfl<;>rfl⟩;exact eu fun d=>by simp[Op.equalIn,az w N]
 cases h
theorem part_rel{t:TypeId}{cs E:Array Value}{off:Nat}{v:Value}(U:LRel μ cs.toList E.toList)(h:aJ P (part t cs off)=some v):
  ∃v',aJ P (part t E off)=some v'/\VRel μ v v':=by
 unfold part at h⊢
 simp only[aM,fy]at h⊢
 cases T:eX P t with
 |none=>rw[T]at h;simp at h
 |some g=>
  rw[T]at h
  cases g with
  |true=>
   simp only[a0q,if_true,aM,ct]at h⊢
   cases hs:cZ P t with
   |none=>rw[hs]at h;simp at h
   |some n=>
    rw[hs]at h
    simp only[a0q,bD,a00]at h⊢
    subst h
    refine⟨_,V,?_⟩
    have:=(U.take (off+n)).drop off
    have ex: ∀c:Array Value,(c.extract off (off+n)).toList=(c.toList.take (off+n)).drop off:=fun c=>by simp[a2x]
    exact .agg _ _ (by rw[ex,ex];exact this.1) (by rw[ex,ex];exact this.2)
  |false=>
   simp only[a0q,a0P,if_false]at h⊢
   cases hc:cs[off]? with
   |none=>rw[hc]at h;simp at h
   |some u=>
    rw[hc]at h
    simp only[bD,a00]at h;subst h
    obtain⟨v',Z,N⟩:=U.get (i:=off) (v:=u) (by simpa using hc)
    refine⟨v',?_,N⟩
    have:E[off]?=some v':=by simpa using Z
    rw[this];rfl
theorem field_rel{t:TypeId}{x T:Value}{f:Nat}{v:Value}(Z:VRel μ x T)(h:aJ P (Instr.field t x f)=some v):
  ∃v',aJ P (Instr.field t T f)=some v'/\VRel μ v v':=by
 unfold Instr.field at h⊢
 simp only[aM,bx]at h⊢
 cases N:P.underlying t with
 |none=>rw[N]at h;simp at h
 |some d=>
  rw[N]at h
  simp only[a0q]at h⊢
  cases d with
  |struct fields=>
   simp only at h⊢
   cases E:fields[f]? with
   |none=>rw[E]at h;simp at h
   |some fd=>
    rw[E]at h
    simp only[aM]at h⊢
    cases x with
    |agg cs=>
     obtain⟨aa,rfl,U⟩:=Z.agg_inv
     simp only[asAgg,bD,a0q]at h⊢
     exact part_rel U h
    |_=>simp[asAgg]at h
  |_=>simp at h
theorem index_rel{t:TypeId}{x U i i':Value}{v:Value}(hx:VRel μ x U)(hi:VRel μ i i')(N: ∀s,x≠ .string s)(h:aJ P (Instr.index t x i)=some v):
  ∃v',aJ P (Instr.index t U i')=some v'/\VRel μ v v':=by
 cases i with
 |int k n=>
  obtain rfl:=hi.int_inv
  unfold Instr.index at h⊢
  simp only[asIntOf,aM,bD,a0q,bx]at h⊢
  cases T:P.underlying t with
  |none=>rw[T]at h;simp at h
  |some d=>
   rw[T]at h
   simp only[a0q]at h⊢
   cases d with
   |array len e=>
    cases x with
    |agg cs=>
     obtain⟨ad,rfl,Z⟩:=hx.agg_inv
     simp only at h⊢
     by_cases E:0<=n/\n<(len:Int)
     ·rw[if_pos E]at h⊢;simp only[aM,ct]at h⊢;cases hs:cZ P e with
      |none=>rw[hs]at h;simp at h
      |some sz=>rw[hs]at h;simp only[a0q]at h⊢;exact part_rel Z h
     rw[if_neg E,hZ]at h;cases h
    |_=>simp at h
   |string=>
    cases x with
    |string s=>exact absurd V (N s)
    |_=>simp at h
   |_=>simp at h
 |pointer a=>cases a<;>simp[Instr.index,asIntOf]at h
 |_=>simp[Instr.index,asIntOf]at h
theorem iQ: ∀(l l':List Value) (s off:Nat) (A T:Array Value),LRel μ l l'->LRel μ A.toList T.toList->
  LRel μ ((l.zipIdx s).foldl (fun cs p=>cs.setIfInBounds (off+p.2) p.1) A).toList ((l'.zipIdx s).foldl (fun cs p=>cs.setIfInBounds (off+p.2) p.1) T).toList
 | [],l',s,off,A,T,h,hA=>by rw[h.nil_left];exact hA
 |v::l,l',s,off,A,T,h,hA=>by
  obtain⟨v',t',rfl,hv,Z⟩:=h.cons_left;simp only[List.zipIdx_cons,a2p];refine iQ l t' (s+1) off _ _ Z ⟨by simpa using hA.1,fun i x x' E N=>?_⟩;simp only[Array.toList_setIfInBounds,a1T]at E N;have U:=hA.1;by_cases hi:off+s=i
  ·rw[if_pos hi]at E N;split at E
   ·rename_i ai;rw[if_pos M]at N;injection E with E;injection N with N;subst E N;exact hv
   cases E
  rw[if_neg hi]at E N;exact hA.2 i x x' E N
theorem kf{E:Nat->Option (Nat×Nat)}: ∀(ps ps':List (Nat×Value)) (A A':Array Value) (r:Array Value),ps.length=ps'.length->
  (∀(i:Nat) x N,ps[i]?=some x->ps'[i]?=some N->x.1=N.1/\VRel μ x.2 N.2)->LRel μ A.toList A'.toList->Instr.fill E A ps=some r->
  ∃r',Instr.fill E A' ps'=some r'/\LRel μ r.toList r'.toList
 | [],ps',A,A',r,hl,_,hA,h=>by have:ps'=[]:=a0y hl.symm;subst this;simp only[Instr.fill,a00]at h;subst h;exact⟨A',V,hA⟩
 |(i,v)::ps,ps',A,A',r,hl,hp,hA,h=>by
  cases ps' with
  |nil=>simp at hl
  |cons N ps'=>
   obtain⟨i',v'⟩:=N
   obtain⟨hi,hv⟩:=hp 0 (i,v) (i',v') V V
   simp only at hi hv;subst hi
   simp only[Instr.fill]at h⊢
   cases U:E i with
   |none=>rw[U]at h;cases h
   |some os=>
    obtain⟨off,size⟩:=os
    rw[U]at h
    simp only at h⊢
    have hc:=hv.cells
    have aa:v'.cells.size=v.cells.size:=by have:=hc.1;simpa using this.symm
    have Z:A'.size=A.size:=by have:=hA.1;simpa using this.symm
    rw[aa,Z]
    split at h
    ·cases h
    rename_i T
    rw[if_neg T]
    refine kf ps ps' _ _ r (by simpa using hl) (fun j x N h1 h2=>hp (j+1) x N (by simpa using h1) (by simpa using h2)) ?_ h
    have:=iQ v.cells.toList v'.cells.toList 0 off A A' hc hA
    have e: ∀(u:Value) (B:Array Value),Array.foldl (fun cs x=>cs.setIfInBounds (off+x.snd) x.fst) B u.cells.zipIdx=List.foldl (fun cs p=>cs.setIfInBounds (off+p.snd) p.fst) B u.cells.toList.zipIdx:=fun u B=>by rw[←Array.foldl_toList,Array.toList_zipIdx]
    exact(e v A▸e v' A'▸this:LRel μ (Array.foldl (fun cs x=>cs.setIfInBounds (off+x.snd) x.fst) A v.cells.zipIdx).toList (Array.foldl (fun cs x=>cs.setIfInBounds (off+x.snd) x.fst) A' v'.cells.zipIdx).toList)
end
section
variable {P:Program} {μ:Emb}
theorem build_rel{t:TypeId}{ps ps':Array (Nat×Value)}{v:Value}(hl:ps.toList.length=ps'.toList.length)
  (hp: ∀(i:Nat) x x',ps.toList[i]?=some x->ps'.toList[i]?=some x'->x.1=x'.1/\VRel μ x.2 x'.2)
  (hz:(cy P t).isSome=true) (h:aJ P (Instr.build t ps)=some v):
  ∃v',aJ P (Instr.build t ps')=some v'/\VRel μ v v':=by
 unfold Instr.build at h⊢
 have an:aJ P (zeroValue t)=(P.info? t).bind (·.zero):=by
  unfold zeroValue;simp only[aM,cW];cases hi:P.info? t with
  |none=>rfl
  |some i=>simp only[a0q];cases i.zero<;>rfl
 simp only[aM,an,bx]at h⊢
 cases hi:(P.info? t).bind (·.zero) with
 |none=>rw[hi]at h;simp at h
 |some z=>
  rw[hi]at h
  have U:LRel μ z.cells.toList z.cells.toList:=by obtain⟨zl,al⟩:=Option.isSome_iff_exists.1 hz;obtain⟨i,v0,h1,h2,h3,h4⟩:=eD (P:=P) al;rw[h1]at hi;simp only[a0q,h2,a00]at hi;subst hi;exact LRel.refl0 (by rw[h3];exact h4)
  simp only[a0q]at h⊢
  cases hu:P.underlying t with
  |none=>rw[hu]at h;simp at h
  |some d=>
   rw[hu]at h
   simp only[a0q]at h⊢
   cases d with
   |struct fields=>
    simp only[aM]at h⊢
    cases hm:aJ P (fields.mapM fun f=>do let y ←sizeOf f.type;Pure.pure (f.offset,y)) with
    |none=>rw[hm]at h;simp at h
    |some places=>
     rw[hm]at h
     simp only[a0q]at h⊢
     cases N:Instr.fill (fun x=>places[x]?) z.cells ps.toList with
     |none=>rw[N]at h;simp at h
     |some r=>
      rw[N]at h
      simp only[bD,a00]at h
      subst h
      obtain⟨Z,T,E⟩:=kf _ _ _ _ _ hl hp U N
      exact⟨.agg Z,by rw[T];rfl,.agg _ _ E.1 E.2⟩
   |array n e=>
    simp only[aM,ct]at h⊢
    cases hs:cZ P e with
    |none=>rw[hs]at h;simp at h
    |some sz=>
     rw[hs]at h
     simp only[a0q]at h⊢
     cases N:Instr.fill (fun i=>some (i *sz,sz)) z.cells ps.toList with
     |none=>rw[N]at h;simp at h
     |some r=>
      rw[N]at h
      simp only[bD,a00]at h
      subst h
      obtain⟨Z,T,E⟩:=kf _ _ _ _ _ hl hp U N
      exact⟨.agg Z,by rw[T];rfl,.agg _ _ E.1 E.2⟩
   |_=>simp at h
theorem fp{v v':Value}{n:Nat}(h:jX v=some n)(E:VRel μ v v'): ∃k,v'= .int k (n:Int):=by
 unfold jX at h;split at h
 ·rename_i k m;injection h with h;subst h;exact⟨k,E.int_inv⟩
 cases h
theorem aField_sound{s:TypeId}{x U:Value}{f:Nat}{v:Value}(h:iW P s x f=some v)(hx:VRel μ x U):
  ∃v',(∀w,(Instr.fieldAt s U f).run P w= .ok v' w)/\VRel μ v v':=by
 unfold iW at h
 split at h
 ·rename_i fs b o hu;split at h
  ·rename_i N hf;split at h
   ·rename_i n hn;cases E:Nat.beq n 0 with
    |true=>rw[E]at h;cases h
    |false=>
     rw[E]at h;simp only[cond_false,a00]at h;subst h
     obtain⟨l,Z,rfl⟩:=hx.ptr_inv
     have T: ¬n=0:=fun e=>by subst e;cases E
     refine⟨_,fun w=>?_,a1x l.sh o N.offset▸VRel.ptr b (o+N.offset) l Z⟩
     simp[Instr.fieldAt,az w hu,hf,Instr.sureAddr,fieldPlace,aW w hn,T,cY,a1x]
   cases h
  cases h
 cases h
theorem jY{t:TypeId}{x x' i i':Value}{v:Value}(h:di P t x i=some v)(hx:VRel μ x x')(hi:VRel μ i i'):
  ∃v',(∀w,(Instr.indexAt t x' i').run P w= .ok v' w)/\VRel μ v v':=by
 unfold di at h
 split at h
 ·rename_i e b o n k j T hj;obtain⟨ik,rfl⟩:=fp hj hi;split at h
  ·rename_i sz hs;cases E:(Nat.ble (j+1) n&&Nat.ble n k) with
   |false=>rw[E]at h;cases h
   |true=>
    rw[E]at h;simp only[cond_true,a00]at h;subst h
    simp only[a09]at E
    have h1:j+1<=n:=a0a E.1
    have h2:n<=k:=a0a E.2
    obtain⟨l,Z,hc⟩:=hx.slice_inv
    have N:VRel μ (.pointer (some ⟨b,o+j *sz,none⟩)) (.pointer (some ⟨l.c,l.sh+o+j *sz,none⟩)):=
     a1x l.sh o (j *sz)▸VRel.ptr b (o+j *sz) l Z
    have U:(j:Int)<(n:Int):=M
    rcases hc with⟨_,rfl⟩|⟨e',o',k',_,rfl,_,_,ad,_⟩|⟨hz,_,_⟩
    rotate_right
    ·omega
    ·refine⟨_,fun w=>?_,N⟩;simp[Instr.indexAt,asIntOf,az w T,aW w hs,cY];omega
    have ho:o'=l.sh+o:=ad M
    subst ho
    refine⟨_,fun w=>?_,N⟩
    simp[Instr.indexAt,asIntOf,az w T,aW w hs,cY]
    omega
  cases h
 ·rename_i n e b o j T hj;obtain⟨ik,rfl⟩:=fp hj hi;split at h
  ·rename_i sz hs;cases E:Nat.ble (j+1) n with
   |false=>rw[E]at h;cases h
   |true=>
    rw[E]at h;simp only[cond_true,a00]at h;subst h
    have h1:j+1<=n:=a0a E
    obtain⟨l,Z,rfl⟩:=hx.ptr_inv
    refine⟨_,fun w=>?_,a1x l.sh o (j *sz)▸VRel.ptr b (o+j *sz) l Z⟩
    have U:(j:Int)<(n:Int):=M
    have h0:(0:Int)<=(j:Int)/\(j:Int)<(n:Int):=⟨by omega,U⟩
    simp only[Instr.indexAt,asIntOf,az w T,aW w hs,cY,Instr.sureAddr,Sem.run_bind,Sem.run_pure,Result.andThen_ok,if_pos h0,a0E]
  cases h
 cases h
theorem strIndex_run{t:TypeId}{s:ByteArray}{k:IntKind}{j:Nat}{b:UInt8}(U:P.underlying t=some .string)(E:s.data.toList[j]?=some b)(w:World):
  (Instr.index t (.string s) (.int k (j:Int))).run P w= .ok (.int .u8 b.toNat) w:=by
 have N:j<s.size:=by have:=(a0w.1 E).1;simpa using this
 have T:s[j]?=some b:=by rw[getElem?_pos s j N];have:=(a0w.1 E).2;rw[←this];rfl
 simp[Instr.index,asIntOf,az w U,T]
theorem kw{ops:Array Operand}{ρ ρ':Operand->Value}(h: ∀x∈ops,VRel μ (ρ x) (ρ' x)):LRel μ (ops.map ρ).toList (ops.map ρ').toList:=by refine⟨by simp,fun i v v' N T=>?_⟩;simp only[a2g,a14,a2c]at N T;obtain⟨x,U,rfl⟩:=N;obtain⟨y,E,rfl⟩:=T;rw[U]at E;injection E with E;subst E;exact h x (by simpa using a0r U)
theorem oi{t:TypeId}{x U:Value}{f:Nat}{v:Value}(h:iw P t x f=some v)(hx:VRel μ x U):
  ∃v',(∀w,(Instr.field t U f).run P w= .ok v' w)/\VRel μ v v':=by
 unfold iw at h
 split at h
 ·rename_i cs;split at h
  ·rename_i g n off E;have hp:aJ P (Instr.field t (.agg cs) f)=some v:=by
    unfold fieldAt? at E;split at E
    ·rename_i fs hu;split at E
     ·rename_i Z N;split at E
      ·rename_i g' n' hg hn;simp only[a00,a04]at E;obtain⟨rfl,rfl,rfl⟩:=E;unfold Instr.field part;simp only[aM,bx,hu,a0q,N,asAgg,bD,fy,hg];unfold partL at h;cases g' with
       |true=>
        simp only[cond_true,a00,bS,bU]at h
        simp only[if_true,aM,ct,hn,a0q,bD,a00]
        subst h
        congr 1
        apply Array.ext'
        simp
       |false=>
        simp only[cond_false,ga]at h
        simp only[a0P,if_false]
        have hc:cs[Z.offset]?=some v:=by simpa using h
        rw[hc];rfl
      cases E
     cases E
    cases E
   obtain⟨v',T,hr⟩:=field_rel hx hp;exact⟨v',fun w=>cF P T w,hr⟩
  cases h
 cases h
theorem cx{r:Option Value}{H H':Heap}{n:AN}(h:ovl r H=some (n,H')):H'=H/\∃v,r=some v/\n= .val v:=by
 unfold ovl at h;split at h
 ·rename_i v;simp only[a00,a04]at h;exact⟨h.2.symm,v,V,h.1.symm⟩
 cases h
theorem jd{op:BinOp}{r:Option Bool}{H H':Heap}{n:AN}(h:nilBin op r H=some (n,H')):
  H'=H/\∃b,r=some b/\((op= .eql/\n= .val (.bool b))\/(op= .neq/\n= .val (.bool (!b)))):=by
 unfold nilBin at h
 split at h
 ·rename_i b;split at h
  ·simp only[a00,a04]at h;exact⟨h.2.symm,b,V,.inl ⟨V,h.1.symm⟩⟩
  ·simp only[a00,a04]at h;exact⟨h.2.symm,b,V,.inr ⟨V,h.1.symm⟩⟩
  cases h
 cases h
theorem kD{ρ ρ':Operand->Value}{o:Oper}{H H':Heap}{r:AN}(hk:aT o.op=true)
  (T: ∀x∈o.op.operands,VRel μ (ρ x) (ρ' x)) (h:aop P ρ o H=some (r,H')):
  H'=H/\∃v v',r= .val v/\(∀w,(execOp ρ' o).run P w= .ok (.value v') w)/\VRel μ v v':=by
 obtain⟨bk,op,bb,pos,after,a4⟩:=o
 cases op<;>simp only[aT,a0P]at hk
 case move x=>
  simp only[aop,a00,a04]at h
  obtain⟨rfl,rfl⟩:=h
  exact⟨V,_,ρ' x,V,fun w=>rfl,T x (by simp[Op.operands])⟩
 case assign x=>
  simp only[aop,a00,a04]at h
  obtain⟨rfl,rfl⟩:=h
  exact⟨V,_,ρ' x,V,fun w=>rfl,T x (by simp[Op.operands])⟩
 case pick c a b=>
  simp only[aop,gq]at h
  split at h
  ·rename_i t ht;simp only[a00,a04]at h;obtain⟨rfl,rfl⟩:=h;have hc:ρ' c= .bool t:=by have:=T c (by simp[Op.operands]);rw[ht]at this;exact this.bool_inv
   refine⟨V,_,(if t then ρ' a else ρ' b),V,fun w=>?_,?_⟩
   ·simp[execOp,hc,asBool]
   cases t
   ·exact T b (by simp[Op.operands])
   exact T a (by simp[Op.operands])
  cases h
 case build t parts=>
  simp only[aop,ia]at h
  split at h
  case h_2=>cases h
  rename_i z hz
  obtain⟨rfl,v,rfl,E⟩:=lc h
  obtain⟨v',U,Z⟩:=build_rel (μ:=μ) (ps:=parts.map fun p=>(p.1,ρ p.2)) (ps':=parts.map fun(i,x)=>(i,ρ' x)) (by simp) (fun i x x' h1 h2=>by
   simp only[a2g,a14,a2c]at h1 h2;obtain⟨y,hy,rfl⟩:=h1;obtain⟨z,hz,rfl⟩:=h2;rw[hy]at hz;injection hz with hz;subst hz;refine⟨V,T _ ?_⟩;have:=a0r hy;simp only[Op.operands,List.mem_toArray,a0u];exact⟨y,this,V⟩) (by rw[hz];rfl) E
  exact⟨V,v,v',V,fun w=>by simp only[execOp,Sem.run_bind,cF P U w,Result.andThen_ok,Sem.run_pure],Z⟩
 case nilCheck x=>
  simp only[aop,opNil]at h
  split at h
  ·rename_i a ha;simp only[a00,a04]at h;obtain⟨rfl,rfl⟩:=h;have N:=T x (by simp[Op.operands]);rw[ha]at N;obtain⟨_,a',aA⟩:=N.ptr_some;exact⟨V,_,ρ' x,V,fun w=>by simp[execOp,aA],N⟩
  ·rename_i f a c ha;simp only[a00,a04]at h;obtain⟨rfl,rfl⟩:=h;have N:=T x (by simp[Op.operands]);rw[ha]at N;obtain⟨a',c',a0,_,_⟩:=N.func_inv;exact⟨V,_,ρ' x,V,fun w=>by simp[execOp,a0],N⟩
  cases h
 case binOp op t x y yt=>
  have N:=T x (by simp[Op.operands])
  have hy:=T y (by simp[Op.operands])
  simp only[aop,aBin]at h
  split at h
  ·rename_i k a ha;rw[ha]at N;unfold binInt at h;split at h
   ·rename_i k' b hb;rw[hb]at hy;obtain⟨rfl,v,E,rfl⟩:=cx h;have ap: ∀w,(binOp op t (.int k a) (.int k' b)).run P w= .ok v w/\noA0 v=true:=by
     intro w;cases hs:lm op with
     |true=>rw[hs]at E;exact shBin_sound E t w
     |false=>
      rw[hs]at E
      simp only[cond_false]at E
      cases he:mw k k' with
      |false=>rw[he]at E;cases E
      |true=>
       rw[he]at E
       have:k=k':=by simpa[mw] using he
       subst this
       exact intBin_sound E t w
    refine⟨V,v,v,V,fun w=>?_,.atom v (ap default).2⟩;simp only[execOp,N.int_inv,hy.int_inv,eqGuard_at_int,pure_bind,Sem.run_bind,(ap w).1,Result.andThen_ok,Sem.run_pure]
   cases h
  ·rename_i a ha;rw[ha]at N;unfold binStr at h;split at h
   ·rename_i b hb;rw[hb]at hy;obtain⟨rfl,v,E,rfl⟩:=cx h;refine⟨V,v,v,V,fun w=>?_,.atom v (kH (P:=P) (t:=t) E default).2⟩;simp only[execOp,N.string_inv,hy.string_inv,eqGuard_at_string,pure_bind,Sem.run_bind,(kH (P:=P) (t:=t) E w).1,Result.andThen_ok,Sem.run_pure]
   cases h
  unfold nT at h
  split at h
  ·exact dx h (fun _ _=>by simp) T
  ·exact dx h (fun _ _=>by simp) T
  obtain⟨rfl,b,hb,ao⟩:=jd h
  rcases ao with⟨rfl,rfl⟩|⟨rfl,rfl⟩
  ·refine⟨V,_,_,V,fun w=>?_,.atom (.bool b) V⟩;obtain⟨h1,h2,h3⟩:=kX (P:=P) hb N hy w;simp only[execOp,h2,pure_bind,h3 .eql (.inl V),Sem.run_bind,h1,Result.andThen_ok,Sem.run_pure]
  refine⟨V,_,_,V,fun w=>?_,.atom (.bool (!b)) V⟩
  obtain⟨h1,h2,h3⟩:=kX (P:=P) hb N hy w
  simp only[execOp,h2,pure_bind,h3 .neq (.inr V),Sem.run_bind,h1,Result.andThen_ok,Sem.run_pure]
 case unOp op t x=>
  have N:=T x (by simp[Op.operands])
  simp only[aop,aUn]at h
  split at h
  ·rename_i b hb;rw[hb]at N;split at h
   ·simp only[a00,a04]at h;obtain⟨rfl,rfl⟩:=h;exact⟨V,_,_,V,fun w=>by simp[execOp,N.bool_inv,Op.unary],.atom (.bool (!b)) V⟩
   cases h
  exact dx h (fun _ _=>by simp) T
 case makeFunc fn first captured=>
  simp only[aop,a00,a04]at h
  obtain⟨rfl,rfl⟩:=h
  have h1:=kw (μ:=μ) (ops:=first) (ρ:=ρ) (ρ':=ρ') fun x N=>T x (by simp[Op.operands,N])
  have h2:=kw (μ:=μ) (ops:=captured) (ρ:=ρ) (ρ':=ρ') fun x N=>T x (by simp[Op.operands,N])
  exact⟨V,_,_,V,fun w=>rfl,.func _ _ _ _ _ h1.1 h2.1 h1.2 h2.2⟩
 case fieldAddr s x f=>
  simp only[aop]at h
  obtain⟨rfl,v,E,rfl⟩:=cx h
  obtain⟨v',U,Z⟩:=aField_sound E (T x (by simp[Op.operands]))
  exact⟨V,v,v',V,fun w=>by simp only[execOp,Sem.run_bind,U w,Result.andThen_ok,Sem.run_pure],Z⟩
 case field t x f=>
  simp only[aop]at h
  obtain⟨rfl,v,E,rfl⟩:=cx h
  obtain⟨v',U,Z⟩:=oi E (T x (by simp[Op.operands]))
  exact⟨V,v,v',V,fun w=>by simp only[execOp,Sem.run_bind,U w,Result.andThen_ok,Sem.run_pure],Z⟩
 case indexAddr t x i=>
  simp only[aop]at h
  obtain⟨rfl,v,E,rfl⟩:=cx h
  obtain⟨v',U,Z⟩:=jY E (T x (by simp[Op.operands])) (T i (by simp[Op.operands]))
  exact⟨V,v,v',V,fun w=>by simp only[execOp,Sem.run_bind,U w,Result.andThen_ok,Sem.run_pure],Z⟩
 case index t x i=>
  have N:=T x (by simp[Op.operands])
  have hi:=T i (by simp[Op.operands])
  simp only[aop,lI]at h
  split at h
  ·rename_i s hs;rw[hs]at N;obtain⟨rfl,v,E,rfl⟩:=cx h;unfold strAt at E;split at E
   ·rename_i j hu hj;obtain⟨k,hk⟩:=fp hj hi;rw[ga]at E;split at E
    ·rename_i b hb;injection E with E;subst E;exact⟨V,_,_,V,fun w=>by simp only[execOp,N.string_inv,hk,Sem.run_bind,strIndex_run hu hb w,Result.andThen_ok,Sem.run_pure],.atom _ V⟩
    cases E
   cases E
  rename_i a1
  obtain⟨rfl,v,rfl,E⟩:=lc h
  obtain⟨v',U,Z⟩:=index_rel N hi (fun s hs=>a1 s hs) E
  exact⟨V,v,v',V,fun w=>by simp only[execOp,Sem.run_bind,cF P U w,Result.andThen_ok,Sem.run_pure],Z⟩
 case extract x i=>
  simp only[aop]at h
  have N:=T x (by simp[Op.operands])
  obtain⟨rfl,v,E,rfl⟩:=cx h
  unfold gO at E
  split at E
  ·rename_i vs a2;rw[a2]at N;obtain⟨a3,ax,Z⟩:=N.tuple_inv;rw[ga]at E;obtain⟨v',U,aw⟩:=Z.get E;have hg:a3[i]?=some v':=by simpa using U
   exact⟨V,v,v',V,fun w=>by simp[execOp,ax,Instr.extract,hg],aw⟩
  cases E
end
theorem ev(l:List Value): ∀n,(cp n l).length=n *l.length
 |0=>by simp[cp]
 |n+1=>by simp only[cp,a01,ev l n];rw[a16];omega
theorem mN(l:List Value): ∀(n i:Nat),i<n *l.length->(cp n l)[i]?=l[i%l.length]?
 |0,i,h=>by simp at h
 |n+1,i,h=>by
  simp only[cp];by_cases hi:i<l.length
  ·rw[a0M hi,Nat.mod_eq_of_lt hi]
  rw[a16,Nat.one_mul]at h;rw[a0U M,mN l n (i-l.length) M];congr 1;exact(Nat.mod_eq_sub_mod M).symm
theorem zeros_eq(z:Array Value)(n:Nat):(Array.range (n *z.size)).map (fun i=>z[i%z.size]!)=⟨cp n z.toList⟩:=by
 apply a1Q;intro i;refine Eq.trans ?_ (kY _ _).symm;by_cases hi:i<n *z.size
 ·rw[mN _ _ _ (by simpa using hi)];have N:0<z.size:=by
   rcases a1R z.size with h|h
   ·rw[h]at hi;simp at hi
   exact h
  have E:i%z.size<z.size:=Nat.mod_lt _ N;simp[hi,E]
 rw[a0J (by rw[ev];simpa using hi)];simp[hi]
theorem ip{l:List Value}(h:l.all noA0=true): ∀n,(cp n l).all noA0=true
 |0=>rfl
 |n+1=>by simp only[cp,a2q,h,ip h n,a1s]
section
variable {P:Program} {μ:Emb} {H H':Heap} {w:World}
def OpOK(P:Program)(μ:Emb)(H:Heap)(w:World)(s:Sem Next)(r:AN)(H':Heap):Prop:=
 ∃n w' μ',s.run P w= .ok n w'/\Post μ H w μ' H' w'/\ANRel μ' r n
theorem OpOK.value{s:Sem Value}{v v':Value}{w':World}{μ':Emb}(h:s.run P w= .ok v' w')(E:Post μ H w μ' H' w')(N:VRel μ' v v'):
  OpOK P μ H w (do Pure.pure (.value (←s))) (.val v) H':=
 ⟨.value v',w',μ',by simp only[Sem.run_bind,h,Result.andThen_ok,Sem.run_pure],E,N⟩
theorem OpOK.skip{s:Sem Unit}{w':World}{μ':Emb}(h:s.run P w= .ok () w')(E:Post μ H w μ' H' w'):
  OpOK P μ H w (do s;Pure.pure .skip) .skip H':=
 ⟨.skip,w',μ',by simp only[Sem.run_bind,h,Result.andThen_ok,Sem.run_pure],E,trivial⟩
theorem ovh_inv{r:Option (Value×Heap)}{n:AN}(h:ovh r=some (n,H')): ∃v,r=some (v,H')/\n= .val v:=by
 unfold ovh at h;split at h
 ·simp only[a00,a04]at h;obtain⟨rfl,rfl⟩:=h;exact⟨_,V,V⟩
 cases h
theorem osk_inv{r:Option Heap}{n:AN}(h:osk r=some (n,H')):r=some H'/\n= .skip:=by
 unfold osk at h;split at h
 ·simp only[a00,a04]at h;obtain⟨rfl,rfl⟩:=h;exact⟨V,V⟩
 cases h
theorem iO(h:WRel μ H w)(hf:μ H.next=none)(e:TypeId){cs E:List Value}(N:LRel μ cs E):
  ∃l,l.c=w.heap.size/\l.sh=0/\l.opn=none/\(newRow e ⟨E⟩).run P w= .ok ⟨w.heap.size,0,none⟩ (w.alloc (.cells ⟨E⟩ e))/\
   Post μ H w (μ.set H.next l) (aQ H cs none) (w.alloc (.cells ⟨E⟩ e)):=by
 obtain⟨l,Z,h2,h3,_,T,U⟩:=de (P:=P) h hf e N [] none (fun _=>rfl)
 simp only[a0o]at T U
 exact⟨l,Z,h2,h3,T,U⟩
theorem alloc_sound{e:TypeId}{r:AN}(h:WRel μ H w)(hf: ∀b,H.next<=b->b<H'.next->μ b=none)(E:eI P e H=some (r,H')):
  OpOK P μ H w (do Pure.pure (.value (←Instr.alloc e true (.tuple #[])))) r H':=by
 unfold eI at E
 split at E
 ·rename_i z hz;simp only[a00,a04]at E;obtain⟨rfl,rfl⟩:=E;obtain⟨i,v,hi,hv,hc,N⟩:=eD (P:=P) hz;obtain⟨l,Z,h2,h3,T,hp⟩:=iO (P:=P) h (hf H.next (a0d _) (by simp[aQ])) e (LRel.refl0 (μ:=μ) N);have U:v.cells=⟨z⟩:=by rw[←hc]
  refine OpOK.value (v':= .pointer (some ⟨w.heap.size,0,none⟩)) ?_ hp ?_
  ·simp only[Instr.alloc,Sem.run_bind,ei w hi hv,Result.andThen_ok,newVar,U,T,Sem.run_pure]
  have:=VRel.ptr (μ:=μ.set H.next l) H.next 0 l (Emb.set_same _ _ _);rw[Z,h2]at this;exact this
 cases E
theorem box_sound{e:TypeId}{x N:Value}(h:WRel μ H w)(Z:μ H.next=none)(hx:VRel μ x N):
  OpOK P μ H w (do Pure.pure (.value (←Instr.box e N))) (.val (ptrTo H.next)) (aQ H x.cells.toList none):=by
 obtain⟨l,T,U,h3,E,hp⟩:=iO (P:=P) h Z e hx.cells
 refine OpOK.value (v':= .pointer (some ⟨w.heap.size,0,none⟩)) ?_ hp ?_
 ·simp only[Instr.box,newVar,Sem.run_bind,E,Result.andThen_ok,Sem.run_pure]
 have:=VRel.ptr (μ:=μ.set H.next l) H.next 0 l (Emb.set_same _ _ _)
 rw[T,U]at this;exact this
theorem lM{t:TypeId}{sz:Nat}{z:List Value}(h:dV P t=some (sz,z)): ∃e,P.underlying t=some (.slice e)/\cZ P e=some sz/\cy P e=some z/\z.length=sz:=by
 unfold dV at h;split at h
 ·rename_i e N;split at h
  ·rename_i U Z hs T;cases E:Nat.beq (eB Z) U with
   |false=>rw[E]at h;cases h
   |true=>
    rw[E]at h;simp only[cond_true,a00,a04]at h
    obtain⟨rfl,rfl⟩:=h
    exact⟨e,N,hs,T,by rw[←bA];exact a0c E⟩
  cases h
 cases h
theorem jW{t:TypeId}{n:Nat}{ps:List (Nat×Value)}{ps':Array (Nat×Value)}{r:AN}(h:WRel μ H w)(hf: ∀b,H.next<=b->b<H'.next->μ b=none)
  (hl:ps.length=ps'.toList.length) (hp: ∀(i:Nat) x x',ps[i]?=some x->ps'.toList[i]?=some x'->x.1=x'.1/\VRel μ x.2 x'.2)
  (N:bK P t n ps H=some (r,H')):OpOK P μ H w (do Pure.pure (.value (←Instr.buildSlice t n ps'))) r H':=by
 unfold bK at N
 split at N
 ·rename_i sz z ap;obtain⟨e,hu,hs,hz,U⟩:=lM ap;cases hq:Nat.ble (n *sz) 16777216 with
  |false=>rw[hq]at N;cases N
  |true=>
   rw[hq]at N
   simp only[cond_true]at N
   have a4:n *sz<=16777216:=a0a hq
   split at N
   ·rename_i cells hc;simp only[a00,a04]at N;obtain⟨rfl,rfl⟩:=N;obtain⟨i,v,hi,hv,aq,ag⟩:=eD (P:=P) hz;obtain⟨an,ad,al⟩:=kf (μ:=μ) ps ps'.toList _ _ cells hl hp (LRel.refl0 (ip ag n)) hc;obtain⟨l,h1,h2,h3,T,aa⟩:=iO (P:=P) h (hf H.next (a0d _) (by simp[aQ])) e al;refine OpOK.value (v':= .slice (some ⟨w.heap.size,0,none⟩) n n) ?_ aa ?_
    ·have ar:v.cells=⟨z⟩:=by rw[←aq]
     simp only[Instr.buildSlice,Sem.run_bind,az w hu,Result.andThen_ok,aW w hs,show ¬(n *sz>2^24) by omega,if_false];by_cases Z:n *sz=0
     ·have ao:cp n z=[]:=a0y (by rw[ev,U];exact Z);have E: ∀g:Nat->Value,(Array.range (n *sz)).map g=⟨cp n z⟩:=fun g=>by rw[Z,ao];simp
      rw[if_pos Z];simp only[Sem.run_bind,Sem.run_pure,Result.andThen_ok,E,ad,T]
     have E:=zeros_eq ⟨z⟩ n;simp only[show(Array.mk z).size=sz from U]at E;rw[if_neg Z];simp only[Sem.run_bind,ei w hi hv,Sem.run_pure,Result.andThen_ok,ar,show(Array.mk z).size=sz from U,E,ad,T]
    have:=VRel.sliceC (μ:=μ.set H.next l) H.next 0 n n l (Emb.set_same _ _ _) h3;rw[h1,h2]at this;exact this
   cases N
 cases N
theorem load_sound{t:TypeId}{a T:Value}{r:AN}(h:WRel μ H w)(U:VRel μ a T)(E:d9 P t a H=some (r,H')):
  OpOK P μ H w (do Pure.pure (.value (←Instr.loadAt t T))) r H':=by
 unfold d9 at E
 split at E
 ·rename_i p;obtain⟨rfl,v,hv,rfl⟩:=cx E;obtain⟨b,o,sp⟩:=p;have Z:sp=none:=U.ptr_some.1;subst Z;obtain⟨l,hb,rfl⟩:=U.ptr_inv;obtain⟨v',N,hr⟩:=ie (P:=P) h hb hv;refine OpOK.value (v':=v') ?_ (Post.refl h) hr;simp only[Instr.loadAt,Instr.sureAddr,Sem.run_bind,Sem.run_pure,Result.andThen_ok,N]
 cases E
theorem store_sound{t:TypeId}{a a' x Z:Value}{r:AN}(h:WRel μ H w)(ha:VRel μ a a')(hx:VRel μ x Z)(E:eW P t a x H=some (r,H')):
  OpOK P μ H w (do Instr.storeAt t a' Z;Pure.pure .skip) r H':=by
 unfold eW at E
 split at E
 ·rename_i p;split at E
  ·rename_i n hn;cases N:Nat.beq x.cells.size n with
   |false=>rw[N]at E;cases E
   |true=>
    rw[N]at E
    obtain⟨hs,rfl⟩:=osk_inv E
    have ap:x.cells.size=n:=a0c N
    obtain⟨b,o,sp⟩:=p
    have ag:sp=none:=ha.ptr_some.1
    subst ag
    obtain⟨l,hb,rfl⟩:=ha.ptr_inv
    obtain⟨w',T,hp⟩:=gm (P:=P) h hb hs hx.cells
    refine OpOK.skip ?_ hp
    have U:Z.cells.size=n:=by have:=hx.cells.1;simp only[a21]at this;omega
    simp only[Instr.storeAt,Instr.sureAddr,storeVar,Sem.run_bind,Sem.run_pure,Result.andThen_ok,aW w hn,U,ne_eq,not_true,if_false,T]
  cases E
 cases E
theorem run_getObj{r:Nat}{o:Obj}(E:w.heap[r]?=some o)(hc: ∀c e f,o≠ .cells c e f):(getObj r).run P w= .ok o w:=by cases o<;>first|exact absurd V (hc _ _ _)|(simp only[getObj,Sem.run,E])
theorem lW{n:Nat}(h:n<=2147483648):IntKind.i64.wrap (n:Int)=n:=IntWalk.i64_in _ M
theorem jL{e:TypeId}{b:Nat}(h:eN P e=some b): ∃i,P.info? e=some i/\i.bytes=b:=by
 unfold eN at h;split at h
 ·rename_i i hi;injection h with h;exact⟨i,hi,h⟩
 cases h
theorem make_sound{t:TypeId}{x x' y y':Value}{r:AN}(h:WRel μ H w)(hf: ∀b,H.next<=b->b<H'.next->μ b=none)(hx:VRel μ x x')(hy:VRel μ y y')
  (ho:ovh (aMake P t x y H)=some (r,H')):OpOK P μ H w (do Pure.pure (.value (←Instr.makeSlice t x' y'))) r H':=by
 obtain⟨v,N,rfl⟩:=ovh_inv ho
 unfold aMake at N
 split at N
 ·rename_i e hu;split at N
  ·rename_i sz U z n k hs hb hz hn hk;cases hq:(Nat.ble n k&&Nat.ble k 2147483648&&Nat.ble U 4096&&Nat.beq (eB z) sz&& !Nat.beq sz 0) with
   |false=>rw[hq]at N;cases N
   |true=>
    rw[hq]at N
    simp only[cond_true,a00,a04]at N
    obtain⟨rfl,rfl⟩:=N
    simp only[a09,a0G]at hq
    obtain⟨⟨⟨⟨q1,q2⟩,q3⟩,q4⟩,q5⟩:=hq
    have q1:n<=k:=a0a q1
    have q2:k<=2147483648:=a0a q2
    have q3:U<=4096:=a0a q3
    have q4:z.length=sz:=by rw[←bA];exact a0c q4
    have q5:sz≠0:=fun e=>by rw[e]at q5;cases q5
    obtain⟨i,vz,hi,a2,a0,aq⟩:=eD (P:=P) hz
    obtain⟨ib,T,ay⟩:=jL hb
    rw[hi]at T;injection T with T;subst T
    obtain⟨l,h1,h2,h3,Z,ag⟩:=iO (P:=P) h (hf H.next (a0d _) (by simp[aQ])) e (LRel.refl0 (μ:=μ) (ip aq k))
    refine OpOK.value (v':= .slice (some ⟨w.heap.size,0,none⟩) n k) ?_ ag ?_
    ·obtain⟨kn,rfl⟩:=fp hn hx;obtain⟨kk,rfl⟩:=fp hk hy;have a4:=lW (n:=n) M;have a3:=lW (n:=k) q2;have a1:vz.cells=⟨z⟩:=by rw[←a0]
     have ar:U *k<=4096 *2147483648:=Nat.mul_le_mul q3 q2;have av:(decide ((k:Int)<0)||decide ((i.bytes:Int) *(k:Int)>2^48)||decide ((n:Int)<0)||decide ((n:Int)>(k:Int)))=false:=by
      have hm:((i.bytes:Int) *(k:Int))<=8796093022208:=by rw[ay,←a22];exact Int.ofNat_le.2 ar
      have h1: ¬((k:Int)<0):=M
      have h2: ¬((i.bytes:Int) *(k:Int)>2^48):=by
       have:(2:Int)^48=281474976710656:=by decide
       omega
      have h3: ¬((n:Int)<0):=M
      have h4: ¬((n:Int)>(k:Int)):=M
      simp only[decide_eq_false h1,decide_eq_false h2,decide_eq_false h3,decide_eq_false h4,Bool.or_self]
     simp only[Instr.makeSlice,Sem.run_bind,az w hu,Result.andThen_ok,asInt,asIntOf,Sem.run_pure,eo w hi,a4,a3];rw[if_neg (by rw[av];exact Bool.false_ne_true)];simp only[Sem.run_bind,run_askRoom,Result.andThen_ok,aW w hs,a0E];by_cases h0:k *sz=0
     ·have aA:cp k z=[]:=a0y (by rw[ev,q4];exact h0);have E: ∀g:Nat->Value,(Array.range (k *sz)).map g=⟨cp k z⟩:=fun g=>by rw[h0,aA];simp
      rw[if_pos h0];simp only[Sem.run_bind,Sem.run_pure,Result.andThen_ok,E,Z]
     have E:=zeros_eq ⟨z⟩ k;simp only[show(Array.mk z).size=sz from q4]at E;rw[if_neg h0];simp only[Sem.run_bind,ei w hi a2,Sem.run_pure,Result.andThen_ok,a1,show(Array.mk z).size=sz from q4,E,Z]
    have:=VRel.sliceC (μ:=μ.set H.next l) H.next 0 n k l (Emb.set_same _ _ _) h3
    rw[h1,h2]at this;exact this
  cases N
 cases N
end
section
variable {P:Program} {μ:Emb} {H H':Heap} {w:World}
theorem lC{n k l r:Nat}{lo hi:Option Value}(h:bnds n k lo hi=some (l,r)):
  cd n hi=some r/\cd 0 lo=some l/\l<=r/\r<=k:=by
 unfold bnds at h
 split at h
 ·rename_i N U;split at h
  ·rename_i l' T;cases E:(Nat.ble l' N&&Nat.ble N k) with
   |false=>rw[E]at h;cases h
   |true=>
    rw[E]at h;simp only[cond_true,a00,a04]at h
    obtain⟨rfl,rfl⟩:=h
    simp only[a09]at E
    exact⟨U,T,a0a E.1,a0a E.2⟩
  cases h
 cases h
theorem dR{v v':Value}{n y:Nat}(h:jX v=some n)(N:VRel μ v v')(T:n<=y)(E:BoundsCode):(Instr.sliceBound v' y E).run P w= .ok n w:=by
 obtain⟨k,rfl⟩:=fp h N;have:(0:Int)<=(n:Int)/\(n:Int)<=(y:Int):=M
 simp[Instr.sliceBound,asIntOf,this.2]
theorem dN{isSlice:Bool}{n k k' l r:Nat}{lo hi ad N:Option Value}(hb:bnds n k lo hi=some (l,r))(hk:k<=k')
  (ai: ∀v,lo=some v->∃v',ad=some v'/\VRel μ v v') (T:lo=none->ad=none)
  (ao: ∀v,hi=some v->∃v',N=some v'/\VRel μ v v') (al:hi=none->N=none):
  (Instr.sliceBounds isSlice n k' ad N none).run P w= .ok (l,r,k') w:=by
 obtain⟨h1,E,h3,h4⟩:=lC hb
 unfold Instr.sliceBounds
 cases hi with
 |none=>
  rw[al rfl]
  simp only[cd,a00]at h1;subst h1
  cases lo with
  |none=>
   rw[T rfl]
   simp only[cd,a00]at E;subst E
   simp
  |some u=>
   obtain⟨u',U,Z⟩:=ai u V
   rw[U]
   simp only[Sem.run_bind,Sem.run_pure,Result.andThen_ok,dR (P:=P) (w:=w) E Z h3]
 |some v=>
  obtain⟨v',aq,hr⟩:=ao v V
  rw[aq]
  cases lo with
  |none=>
   rw[T rfl]
   simp only[cd,a00]at E;subst E
   simp only[Sem.run_bind,Sem.run_pure,Result.andThen_ok,dR (P:=P) (w:=w) h1 hr (by omega:r<=k')]
  |some u=>
   obtain⟨u',U,Z⟩:=ai u V
   rw[U]
   simp only[Sem.run_bind,Sem.run_pure,Result.andThen_ok,dR (P:=P) (w:=w) h1 hr (by omega:r<=k'),dR (P:=P) (w:=w) E Z h3]
theorem dM(s:ByteArray)(l r:Nat):s.extract l r=⟨⟨(s.data.toList.drop l).take (r-l)⟩⟩:=by apply ByteArray.ext;apply Array.ext';simp
theorem kK{t:TypeId}{x x':Value}{lo hi mx ax aw a0:Option Value}{r:AN}(h:WRel μ H w)(hx:VRel μ x x')
  (an: ∀v,lo=some v->∃v',ax=some v'/\VRel μ v v') (ad:lo=none->ax=none)
  (al: ∀v,hi=some v->∃v',aw=some v'/\VRel μ v v') (aa:hi=none->aw=none) (a6:mx=none->a0=none)
  (ho:ovl (bt P t x lo hi mx H) H=some (r,H')): ∃v v',r= .val v/\H'=H/\(Instr.sliceAt t x' ax aw a0).run P w= .ok v' w/\VRel μ v v':=by
 obtain⟨rfl,v,E,rfl⟩:=cx ho
 unfold bt at E
 split at E
 ·cases E
 rw[a6 rfl]
 simp only at E
 split at E
 ·rename_i s hu;obtain rfl:=hx.string_inv;split at E
  ·rename_i l r hb;injection E with E;subst E;rw[bA]at hb;have a7:s.data.toList.length=s.size:=by simp
   rw[a7]at hb;refine⟨_,.string (s.extract l r),V,V,?_,?_⟩
   ·simp[Instr.sliceAt,Instr.slice,az w hu,dN (P:=P) (w:=w) (isSlice:=false) hb (a0d _) an ad al aa]
   rw[dM,bS,bU];exact .atom _ V
  cases E
 ·rename_i e hu;obtain rfl:=hx.eq0 V;split at E
  ·rename_i lr hb;obtain⟨l,r⟩:=lr;cases hs:cZ P e with
   |none=>rw[hs]at E;cases E
   |some sz=>
    rw[hs]at E
    simp only[Option.isSome_some,cond_true,a00]at E;subst E
    obtain⟨_,_,h3,h4⟩:=lC hb
    obtain rfl:r=0:=M
    obtain rfl:l=0:=M
    refine⟨_,.slice none 0 0,V,V,?_,.atom _ V⟩
    simp[Instr.sliceAt,Instr.slice,az w hu,dN (P:=P) (w:=w) (isSlice:=true) hb (a0d _) an ad al aa,aW w hs]
  cases E
 ·rename_i e b o n k hu;split at E
  ·rename_i l r sz cs a9 ro hb hs hg;obtain⟨N,hμ,hc⟩:=hx.slice_inv;have Z:N.opn=a9:=by
    have:=h.obj b N _ hμ hg;cases ro
    ·exact this.1
    exact this.1
   obtain⟨_,_,h3,h4⟩:=lC hb;split at E
   ·injection E with E;subst E;rcases hc with⟨U,rfl⟩|⟨e',o',k',U,rfl,_⟩|⟨rfl,rfl,a',rfl⟩
    rotate_right
    ·obtain rfl:r=0:=M
     obtain rfl:l=0:=M
     refine⟨_,.slice (some (if 0=0 then a' else a'.add (0 *sz))) (0-0) (0-0),V,V,?_,?_⟩
     ·simp only[Instr.sliceAt,Instr.slice,Sem.run_bind,az w hu,Result.andThen_ok,dN (P:=P) (w:=w) (isSlice:=true) hb (a0d _) an ad al aa,aW w hs,Sem.run_pure];split<;>rfl
     exact .sliceZ b o a' N hμ
    ·refine⟨_,.slice (some (if k=l then⟨N.c,N.sh+o,none⟩ else Addr.add ⟨N.c,N.sh+o,none⟩ (l *sz))) (r-l) (k-l),V,V,?_,?_⟩
     ·simp only[Instr.sliceAt,Instr.slice,Sem.run_bind,az w hu,Result.andThen_ok,dN (P:=P) (w:=w) (isSlice:=true) hb (a0d _) an ad al aa,aW w hs,Sem.run_pure];split<;>rfl
     by_cases T:k=l
     ·rw[if_pos T];have:Nat.beq k l=true:=by rw[T];exact a15 l
      rw[this];exact .sliceC b o _ _ N hμ U
     rw[if_neg T];have:Nat.beq k l=false:=by
      cases hq:Nat.beq k l with
      |false=>rfl
      |true=>exact absurd (a0c hq) T
     rw[this,cY,a1x];exact .sliceC b (o+l *sz) _ _ N hμ U
    rw[Z]at U;cases U
   rename_i ez;cases hq:Nat.beq ez sz with
   |false=>rw[hq]at E;cases E
   |true=>
    rw[hq]at E
    simp only[cond_true,a00]at E;subst E
    have a4:ez=sz:=a0c hq
    rcases hc with⟨U,rfl⟩|⟨e',o',k',U,rfl,b4,a5,a2,b3⟩|⟨rfl,rfl,a',rfl⟩
    rotate_right
    ·obtain rfl:r=0:=M
     obtain rfl:l=0:=M
     refine⟨_,.slice (some (if 0=0 then a' else a'.add (0 *sz))) (0-0) (0-0),V,V,?_,?_⟩
     ·simp only[Instr.sliceAt,Instr.slice,Sem.run_bind,az w hu,Result.andThen_ok,dN (P:=P) (w:=w) (isSlice:=true) hb (a0d _) an ad al aa,aW w hs,Sem.run_pure];split<;>rfl
     exact .sliceZ b _ a' N hμ
    ·rw[Z]at U;cases U
    rw[Z]at U;injection U with U
    subst U a4
    refine⟨_,.slice (some (if k'=l then⟨N.c,o',none⟩ else Addr.add ⟨N.c,o',none⟩ (l *ez))) (r-l) (k'-l),V,V,?_,?_⟩
    ·simp only[Instr.sliceAt,Instr.slice,Sem.run_bind,az w hu,Result.andThen_ok,dN (P:=P) (w:=w) (isSlice:=true) hb a5 an ad al aa,aW w hs,Sem.run_pure];split<;>rfl
    by_cases T:k'=l
    ·rw[if_pos T];refine .sliceO b (o+l *ez) o' _ _ _ ez N hμ Z M M M ?_;rw[T,a1S,Nat.zero_mul];omega
    rw[if_neg T,cY]
    refine .sliceO b (o+l *ez) (o'+l *ez) _ _ _ ez N hμ Z M M (fun b1=>?_) ?_
    ·rw[a2 M];omega
    have:l *ez+(k'-l) *ez=k' *ez:=by rw[←a16];congr 1;omega
    omega
  cases E
 ·rename_i n e b o hu;split at E
  ·rename_i l r sz cs ro hb hs hg;obtain⟨N,hμ,rfl⟩:=hx.ptr_inv;have Z:N.opn=none:=by
    have:=h.obj b N _ hμ hg;cases ro
    ·exact this.1
    exact this.1
   injection E with E;subst E;refine⟨_,.slice (some (if n=l then⟨N.c,N.sh+o,none⟩ else Addr.add ⟨N.c,N.sh+o,none⟩ (l *sz))) (r-l) (n-l),V,V,?_,?_⟩
   ·simp only[Instr.sliceAt,Sem.run_bind,az w hu,Result.andThen_ok,Instr.sureAddr,Sem.run_pure,dN (P:=P) (w:=w) (isSlice:=false) hb (a0d _) an ad al aa,aW w hs]
   by_cases T:n=l
   ·rw[if_pos T];have:Nat.beq n l=true:=by rw[T];exact a15 l
    rw[this];exact .sliceC b o _ _ N hμ Z
   rw[if_neg T];have:Nat.beq n l=false:=by
    cases hq:Nat.beq n l with
    |false=>rfl
    |true=>exact absurd (a0c hq) T
   rw[this,cY,a1x];exact .sliceC b (o+l *sz) _ _ N hμ Z
  cases E
 cases E
theorem slice_sound{t:TypeId}{x x':Value}{lo hi mx N E T:Option Value}{r:AN}(h:WRel μ H w)(hx:VRel μ x x')
  (ag: ∀v,lo=some v->∃v',N=some v'/\VRel μ v v') (Z:lo=none->N=none)
  (ad: ∀v,hi=some v->∃v',E=some v'/\VRel μ v v') (U:hi=none->E=none) (ai:mx=none->T=none)
  (ho:ovl (bt P t x lo hi mx H) H=some (r,H')):OpOK P μ H w (do Pure.pure (.value (←Instr.sliceAt t x' N E T))) r H':=by
 obtain⟨v,v',rfl,rfl,aa,hr⟩:=kK (P:=P) h hx ag Z ad U ai ho
 exact OpOK.value aa (Post.refl h) hr
theorem lenA_run{x N:Value}{m:Nat}(h:lenA x=some m)(E:VRel μ x N):(Builtin.lenOf N).run P w= .ok m w:=by
 unfold lenA at h;split at h
 ·injection h with h;subst h;rename_i a n k;obtain⟨T,U,rfl,_⟩:=df E;rfl
 ·rename_i s;injection h with h;subst h;obtain rfl:=E.string_inv;rw[bA];simp[Builtin.lenOf]
 cases h
theorem dX{x x':Value}{sz m:Nat}{vs:List Value}(h:WRel μ H w)(hx:VRel μ x x')(hl: ∃m0,lenA x=some m0/\m<=m0)(E:fl H sz m x=some vs):
  ∃U,(Builtin.firstCells sz m x').run P w= .ok ⟨U⟩ w/\LRel μ vs U/\vs.length=m *sz:=by
 unfold fl at E
 split at E
 ·rename_i a n k;obtain⟨b,o,sp⟩:=a;have ar:sp=none:=hx.slice_some.1;subst ar;cases N:Nat.beq m 0 with
  |true=>
   rw[N]at E
   simp only[cond_true,a00]at E;subst E
   have hm:m=0:=a0c N
   subst hm
   obtain⟨_,a',k',rfl⟩:=hx.slice_some
   exact⟨[],by simp[Builtin.firstCells,loadCells,loadCellsFrom],.nil,by simp⟩
  |false=>
   rw[N]at E
   simp only[cond_false]at E
   have hm:m≠0:=fun e=>by subst e;cases N
   obtain⟨m0,T,al⟩:=hl
   simp only[lenA,a00]at T;subst T
   obtain⟨l,hμ,hc⟩:=hx.slice_inv
   obtain⟨U,aa,hr,Z⟩:=ig (P:=P) h hμ E
   rcases hc with⟨_,rfl⟩|⟨e',o',k',_,rfl,aA,_,an,_⟩|⟨hz,_,_⟩
   rotate_right
   ·omega
   ·exact⟨U,by simp only[Builtin.firstCells,aa],hr,Z⟩
   rw[an M]
   exact⟨U,by simp only[Builtin.firstCells,aa],hr,Z⟩
 ·rename_i n k;cases N:Nat.beq m 0 with
  |false=>rw[N]at E;cases E
  |true=>
   rw[N]at E
   simp only[cond_true,a00]at E;subst E
   have hm:m=0:=a0c N
   subst hm
   obtain⟨_,_,rfl⟩:=hx.sliceNil_inv
   exact⟨[],by simp[Builtin.firstCells],.nil,by simp⟩
 ·rename_i s;cases N:Nat.beq sz 1 with
  |false=>rw[N]at E;cases E
  |true=>
   rw[N]at E
   simp only[cond_true,a00,je,bS]at E;subst E
   have hs:sz=1:=a0c N
   subst hs
   obtain rfl:=hx.string_inv
   obtain⟨m0,T,al⟩:=hl
   simp only[lenA,bA,a00]at T;subst T
   refine⟨(s.data.toList.take m).map fun b=> .int .u8 b.toNat,?_,LRel.refl0 ?_,?_⟩
   ·simp only[Builtin.firstCells,Sem.run_pure,dM];congr 1;apply Array.ext';simp
   ·rw[a0m];intro u hu;obtain⟨c,_,rfl⟩:=a0u.1 hu;rfl
   simp at al⊢;omega
 cases E
theorem growBy_le(E:Nat): ∀(r c:Nat),c<=E+(E+768)/4->Builtin.growBy E r c<=E+(E+768)/4
 |0,c,h=>h
 |r+1,c,h=>by
  simp only[Builtin.growBy];split
  ·exact h
  exact growBy_le E r _ M
theorem nextcap_le{n k:Nat}(h:k<n):Builtin.nextslicecap n k<=2 *n+768:=by
 unfold Builtin.nextslicecap;split
 ·omega
 split
 ·omega
 have:=growBy_le n 4 k M;omega
theorem dq{z:Array Value}{sz:Nat}(h:z.size=sz)(n:Nat):(Builtin.zeroCells z n).toList.length=n *sz:=by simp[Builtin.zeroCells,h]
theorem iN{st N ty e:TypeId}{T:TypeDesc}{E:Value}{base:Option Addr}{n m k sz:Nat}{i:TypeInfo}{z:Value}{old U:List Value}
  (hu:P.underlying st=some (.slice e)) (aq:P.underlying N=some T) (ao: ∀kk,T≠ .int kk) (hi:P.info? e=some i) (hs:i.size=sz) (hz:i.zero=some z)
  (Z:(Builtin.lenOf E).run P w= .ok m w) (an:k<n+m) (ay:n+m<=2147483648) (al:i.bytes<=4096)
  (ag:(Builtin.firstCells sz n (.slice base n k)).run P w.drew= .ok ⟨old⟩ w.drew) (aa:(Builtin.firstCells sz m E).run P w.drew= .ok ⟨U⟩ w.drew):
  ∃nc,n+m<=nc/\(Builtin.append_ #[st,N] ty #[.slice base n k,E]).run P w=
   .ok (.slice (some ⟨w.heap.size,0,none⟩) (n+m) nc) (w.drew.alloc (.cells (⟨old⟩++⟨U⟩++Builtin.zeroCells z.cells (nc-(n+m))) e)):=by
 have ap:cZ P e=some sz:=by unfold cZ;rw[hi,←hs]
 have ar:=nextcap_le an
 have ad: ¬(Builtin.nextslicecap (n+m) k *i.bytes>2^48):=by
  have:Builtin.nextslicecap (n+m) k *i.bytes<=(2 *2147483648+768) *4096:=Nat.mul_le_mul M al;have aA:(2:Nat)^48=281474976710656:=by decide
  omega
 have ai: ¬(((n+m:Nat):Int)>IntKind.i64.max/\(False\/i.bytes=0)):=by rw[IntKind.max_i64];omega
 refine⟨(Question.appendCap (n+m) k e).cut (w.tape w.drawn (.appendCap (n+m) k e)),by simp[Question.cut],?_⟩
 have a0:(match T with| .int _=>true|_=>false)=false:=by cases T<;>first|rfl|exact absurd V (ao _)
 have e1: ∀a b:Value,(#[a,b]:Array Value)[0]?=some a/\(#[a,b]:Array Value)[1]?=some b:=fun a b=>⟨V,V⟩
 unfold Builtin.append_
 simp only[show(#[st,N]:Array TypeId)[0]?=some st from V,show(#[st,N]:Array TypeId)[1]?=some N from V,
  show(#[Value.slice base n k,E]:Array Value)[0]?=some (Value.slice base n k) from V,show(#[Value.slice base n k,E]:Array Value)[1]?=some E from V,
  Sem.run_bind,az w hu,az w aq,Result.andThen_ok,aW w ap,Sem.run_pure,a0P,if_false,Z,
  show ¬(n+m<=k) by omega,eo w hi,ad,ai]
 simp only[Sem.run_bind,run_choose,Question.forced,a0P,if_false,Result.andThen_ok,World.drew_eq,eo w.drew hi,run_askRoom,ag,aa,a1N,if_true,
  ei w.drew hi hz,newRow,run_newObj,Sem.run_pure]
 rfl
theorem fH{st N ty e:TypeId}{T:TypeDesc}{E:Value}{base:Option Addr}{n m k sz:Nat}{U:List Value}{w':World}
  (hu:P.underlying st=some (.slice e)) (an:P.underlying N=some T) (ag: ∀kk,T≠ .int kk) (hs:cZ P e=some sz)
  (Z:(Builtin.lenOf E).run P w= .ok m w) (ad:n+m<=k) (aa:(Builtin.firstCells sz m E).run P w= .ok ⟨U⟩ w)
  (al: ∀a,base=some a->(storeCells (a.add (n *sz)) U).run P w= .ok () w') (ai:base=none->w'=w):
  (Builtin.append_ #[st,N] ty #[.slice base n k,E]).run P w= .ok (.slice base (n+m) k) w':=by
 have aq:(match T with| .int _=>true|_=>false)=false:=by cases T<;>first|rfl|exact absurd V (ag _)
 unfold Builtin.append_
 simp only[show(#[st,N]:Array TypeId)[0]?=some st from V,show(#[st,N]:Array TypeId)[1]?=some N from V,
  show(#[Value.slice base n k,E]:Array Value)[0]?=some (Value.slice base n k) from V,show(#[Value.slice base n k,E]:Array Value)[1]?=some E from V,
  Sem.run_bind,az w hu,az w an,Result.andThen_ok,aW w hs,Sem.run_pure,a0P,if_false,Z,ad,if_true,a1N,aa]
 cases base with
 |none=>rw[ai rfl];rfl
 |some a=>simp only[Sem.run_bind,al a V,Result.andThen_ok,Sem.run_pure]
theorem Post.kill(h:WRel μ H w){b:Nat}{l:Loc}{o:AObj}(hb:μ b=some l)(ho:H.get b=some o)(hr:o.rw=true):Post μ H w μ (H.put b .dead) w:=by
 refine⟨fun _ _ h=>h,fun _ _ h=> .inl h,a0d _,V,V,V,fun _ _ _=>rfl,fun k x ox T E ax=>?_,⟨fun k x ox T E=>?_,fun b1 b2 l1 l2 Z o2 ap al an aq ar aw U=>?_⟩⟩
 ·by_cases e:b=k
  ·subst e;exact .inr ⟨b,l,o,hb,ho,gY hr,fun _=>hr,by rw[hb]at T;injection T with T;rw[T]⟩
  rw[Heap.get_put_ne H _ e]at E;exact .inr ⟨k,x,ox,T,E,ax,id,V⟩
 ·by_cases e:b=k
  ·subst e;rw[Heap.get_put_same]at E;injection E with E;subst E;trivial
  rw[Heap.get_put_ne H _ e]at E;exact h.obj k x ox T E
 have old: ∀k ok,ok.live=true->(H.put b .dead).get k=some ok->H.get k=some ok:=by
  intro k ok ao N;by_cases e:b=k
  ·subst e;rw[Heap.get_put_same]at N;injection N with N;subst N;simp[AObj.live]at ao
  rw[Heap.get_put_ne H _ e]at N;exact N
 exact h.inj b1 b2 l1 l2 Z o2 ap al an (old b1 Z (by cases Z<;>simp_all[AObj.rw,AObj.live]) aq) (old b2 o2 U ar) aw U
theorem szOf_info{e:TypeId}{s:Nat}(h:cZ P e=some s): ∃i,P.info? e=some i/\i.size=s:=by
 unfold cZ at h;split at h
 ·rename_i i hi;injection h with h;exact⟨i,hi,h⟩
 cases h
theorem d3(a b:List Value)(c:Array Value):(⟨a⟩++⟨b⟩++c:Array Value)=⟨(a++b)++c.toList⟩:=by apply Array.ext';simp
theorem append_sound{types:Array TypeId}{ty:TypeId}{s x s' x' v:Value}(h:WRel μ H w)(hf: ∀b,H.next<=b->b<H'.next->μ b=none)
  (hs:VRel μ s s') (hx:VRel μ x x') (dl:types.size=2) (E:fV P types s x H=some (v,H')):
  ∃v' w' μ',(Builtin.append_ types ty #[s',x']).run P w= .ok v' w'/\Post μ H w μ' H' w'/\VRel μ' v v':=by
 obtain⟨tl⟩:=types
 match tl,dl with
 | [st,xt],_=>
 unfold fV at E
 simp only[show(#[st,xt]:Array TypeId)[0]?=some st from V,show(#[st,xt]:Array TypeId)[1]?=some xt from rfl]at E
 split at E
 ·rename_i e xd hu ap;split at E
  ·cases E
  rename_i ao;split at E
  ·rename_i sz el z m a3 f2 hz hm;obtain⟨i,vz,hi,b5,e3,g2⟩:=eD (P:=P) hz;obtain⟨i2,ck,hd⟩:=jL f2;rw[hi]at ck;injection ck with ck;subst ck;obtain⟨i3,co,b3⟩:=szOf_info a3;rw[hi]at co;injection co with co;subst co;have aa:(Builtin.lenOf x').run P w= .ok m w:=lenA_run hm hx;split at E
   ·cases E
   rename_i b7 dj;obtain⟨T,an,av,ag⟩:=dX (P:=P) h hx ⟨m,hm,a0d _⟩ dj;obtain⟨g5,ar,aq,_⟩:=dX (P:=P) h.drew hx ⟨m,hm,a0d _⟩ dj;split at E
   ·--nil
    obtain rfl:=hs.eq0 V;cases hq:Nat.beq m 0 with
    |true=>
     rw[hq]at E
     simp only[cond_true,a00,a04]at E
     obtain⟨rfl,rfl⟩:=E
     have b2:m=0:=a0c hq
     subst b2
     exact⟨_,w,μ,fH (w':=w) hu ap (fun kk=>ao kk) a3 aa (a0d _) an (fun a ha=>by cases ha) (fun _=>rfl),Post.refl h,.atom _ V⟩
    |false=>
     rw[hq]at E
     simp only[cond_false]at E
     have b2:m≠0:=fun e=>by subst e;cases hq
     cases a2:(Nat.beq (eB z) sz&&Nat.ble m 2147483648&&Nat.ble el 4096&& !Nat.beq sz 0) with
     |false=>rw[a2]at E;cases E
     |true=>
      rw[a2]at E
      simp only[cond_true,a00,a04]at E
      obtain⟨rfl,rfl⟩:=E
      simp only[a09,a0G]at a2
      obtain⟨⟨⟨q1,q2⟩,q3⟩,q4⟩:=a2
      have q1:z.length=sz:=by rw[←bA];exact a0c q1
      have q2:=a0a q2
      have q3:=a0a q3
      obtain⟨nc,ay,N⟩:=iN (P:=P) (w:=w) (ty:=ty) (base:=none) (n:=0) (k:=0) (old:=[]) hu ap (fun kk=>ao kk) hi b3 b5 aa M M M (by simp[Builtin.firstCells]) ar
      simp only[a1g]at N ay
      rw[d3,a18]at N
      obtain⟨l,h1,h2,h3,h4,_,hp⟩:=de (P:=P) h.drew (hf H.next (a0d _) (by simp[aQ])) e aq (Builtin.zeroCells vz.cells (nc-m)).toList (some sz) (fun e=>by cases e)
      refine⟨_,_,_,N,(Post.drew h).trans hp (a0d _) (by simp[aQ]),?_⟩
      have:=VRel.sliceO (μ:=μ.set H.next l) H.next 0 0 m m nc sz l (Emb.set_same _ _ _) h3 (a0d _) ay (fun _=>by omega) (by
       rw[h4,dq (show vz.cells.size=sz by rw[←q1,←e3];simp),ag,a1g,←a16];exact a0C _ M)
      rw[h1]at this;exact this
   ·--a slice
    rename_i b o n k;obtain⟨l,hμ,hc⟩:=hs.slice_inv;split at E
    ·rename_i cs f8 ro hg;have cc:l.opn=f8:=by
      have:=h.obj b l _ hμ hg;cases ro
      ·exact this.1
      exact this.1
     cases hq:Nat.ble (n+m) k with
     |true=>
      rw[hq]at E
      simp only[cond_true]at E
      have cv:n+m<=k:=a0a hq
      cases c5:Nat.beq m 0 with
      |true=>
       rw[c5]at E
       simp only[cond_true,a00,a04]at E
       obtain⟨rfl,rfl⟩:=E
       have b2:m=0:=a0c c5
       subst b2
       have f4:T=[]:=a0y (by rw[←av.1,ag];simp)
       subst f4
       rcases hc with⟨Z,rfl⟩|⟨e',o',k',Z,rfl,e2,dd,a6,ci⟩|⟨rfl,rfl,a',rfl⟩
       rotate_right
       ·exact⟨_,w,μ,fH (w':=w) hu ap (fun kk=>ao kk) a3 aa cv an (fun a ha=>rfl) (fun e=>by cases e),Post.refl h,hs⟩
       ·exact⟨_,w,μ,fH (w':=w) hu ap (fun kk=>ao kk) a3 aa cv an (fun a ha=>rfl) (fun e=>by cases e),Post.refl h,hs⟩
       exact⟨_,w,μ,fH (w':=w) hu ap (fun kk=>ao kk) a3 aa M an (fun a ha=>rfl) (fun e=>by cases e),Post.refl h,hs⟩
      |false=>
       rw[c5]at E
       simp only[cond_false]at E
       have b2:m≠0:=fun e=>by subst e;cases c5
       split at E
       ·rename_i h1 f7;simp only[a00,a04]at E;obtain⟨rfl,rfl⟩:=E;obtain⟨w',N,hp⟩:=gm (P:=P) h hμ f7 av;rcases hc with⟨Z,rfl⟩|⟨e',o',k',Z,rfl,e2,dd,a6,ci⟩|⟨rfl,rfl,a',rfl⟩
        rotate_right
        ·omega
        ·refine⟨_,w',μ,fH (w':=w') hu ap (fun kk=>ao kk) a3 aa cv an (fun a ha=>?_) (fun e=>by cases e),hp,.sliceC b o _ _ l hμ Z⟩;injection ha with ha;subst ha;rw[cY,a1x];exact N
        refine⟨_,w',μ,fH (w':=w') hu ap (fun kk=>ao kk) a3 aa M an (fun a ha=>?_) (fun e=>by cases e),hp,.sliceO b o o' _ _ _ e' l hμ Z cv dd a6 ci⟩;injection ha with ha;subst ha;rw[cY,a6 M,a1x];exact N
       cases E
     |false=>
      rw[hq]at E
      simp only[cond_false]at E
      have e1:k<n+m:=by
       rcases a0g k (n+m) with h'|h'
       ·exact h'
       rw[a0x h']at hq;cases hq
      cases a2:(Nat.beq (eB z) sz&&Nat.ble (n+m) 2147483648&&Nat.ble el 4096&& !Nat.beq sz 0&&Nat.ble n k) with
      |false=>rw[a2]at E;cases E
      |true=>
       rw[a2]at E
       simp only[cond_true]at E
       simp only[a09,a0G]at a2
       obtain⟨⟨⟨⟨q1,q2⟩,q3⟩,q4⟩,q5⟩:=a2
       have q1:z.length=sz:=by rw[←bA];exact a0c q1
       have q2:=a0a q2
       have q3:=a0a q3
       have q5:=a0a q5
       have hn:sz≠0:=fun e=>by rw[e]at q4;cases q4
       have b0:vz.cells.size=sz:=by rw[←q1,←e3];simp
       split at E
       ·cases E
       rename_i old ai
       obtain⟨g6,g1,gt,aw⟩:=dX (P:=P) h hs ⟨n,V,a0d _⟩ ai
       obtain⟨g7,a1,a0,_⟩:=dX (P:=P) h.drew hs ⟨n,V,a0d _⟩ ai
       split at E
       ·--exact
        simp only[a00,a04]at E;obtain⟨rfl,rfl⟩:=E;rcases hc with⟨Z,rfl⟩|⟨e',o',k',Z,rfl,_⟩|⟨rfl,rfl,a',rfl⟩
        rotate_right
        ·obtain⟨nc,ay,N⟩:=iN (P:=P) (w:=w) (ty:=ty) hu ap (fun kk=>ao kk) hi b3 b5 aa e1 q2 M a1 ar;rw[d3]at N;obtain⟨l',h1,h2,h3,h4,_,hp⟩:=de (P:=P) h.drew (hf H.next (a0d _) (by simp[aQ])) e (a0.append aq) (Builtin.zeroCells vz.cells (nc-(0+m))).toList (some sz) (fun e=>by cases e);rw[dO];refine⟨_,_,_,N,(Post.drew h).trans hp (a0d _) (by simp[aQ]),?_⟩;have:=VRel.sliceO (μ:=μ.set H.next l') H.next 0 0 (0+m) (0+m) nc sz l' (Emb.set_same _ _ _) h3 (a0d _) ay (fun _=>by omega) (by
          rw[h4,dq b0,a01,aw,ag,a1g,←a16,←a16];exact a0C _ M)
         rw[h1]at this;exact this
        ·obtain⟨nc,ay,N⟩:=iN (P:=P) (w:=w) (ty:=ty) hu ap (fun kk=>ao kk) hi b3 b5 aa e1 q2 M a1 ar;rw[d3]at N;obtain⟨l',h1,h2,h3,h4,_,hp⟩:=de (P:=P) h.drew (hf H.next (a0d _) (by simp[aQ])) e (a0.append aq) (Builtin.zeroCells vz.cells (nc-(n+m))).toList (some sz) (fun e=>by cases e);rw[dO];refine⟨_,_,_,N,(Post.drew h).trans hp (a0d _) (by simp[aQ]),?_⟩;have:=VRel.sliceO (μ:=μ.set H.next l') H.next 0 0 (n+m) (n+m) nc sz l' (Emb.set_same _ _ _) h3 (a0d _) ay (fun _=>by omega) (by
          rw[h4,dq b0,a01,aw,ag,a1g,←a16,←a16];exact a0C _ M)
         rw[h1]at this;exact this
        rw[cc]at Z;cases Z
       ·--open
        rename_i U;cases c6:(Nat.beq U sz&& !ro&&mU Value.oneCell' b7) with
        |false=>rw[c6]at E;cases E
        |true=>
         rw[c6]at E
         simp only[cond_true,a00,a04]at E
         obtain⟨rfl,rfl⟩:=E
         simp only[a09,a0G]at c6
         obtain⟨⟨q6,q7⟩,q8⟩:=c6
         have q6:U=sz:=a0c q6
         subst q6 q7
         rcases hc with⟨Z,rfl⟩|⟨e',o',k',Z,rfl,e2,dd,a6,ci⟩|⟨rfl,rfl,a',rfl⟩
         rotate_right
         ·have a9:μ H.next=none:=hf H.next (a0d _) (by simp[aQ]);obtain⟨nc,ay,N⟩:=iN (P:=P) (w:=w) (ty:=ty) hu ap (fun kk=>ao kk) hi b3 b5 aa M q2 M a1 ar;rw[d3]at N;have hk:=Post.kill h hμ hg V;obtain⟨l',h1,h2,h3,h4,_,hp⟩:=de (P:=P) (H:=H.put b .dead) hk.wrel.drew a9 e (a0.append aq) (Builtin.zeroCells vz.cells (nc-(0+m))).toList (some U) (fun e=>by cases e);rw[dO];refine⟨_,_,_,N,(hk.trans (Post.drew hk.wrel) (a0d _) (a0d _)).trans hp (a0d _) (by simp[aQ]),?_⟩;have:=VRel.sliceO (μ:=μ.set H.next l') H.next 0 0 (0+m) (0+m) nc U l' (Emb.set_same _ _ _) h3 (a0d _) ay (fun _=>by omega) (by
           rw[h4,dq b0,a01,aw,ag,a1g,←a16,←a16];exact a0C _ M)
          rw[h1]at this;exact this
         ·rw[cc]at Z;cases Z
         rw[cc]at Z;injection Z with Z;subst Z
         have a9:μ H.next=none:=hf H.next (a0d _) (by simp[aQ])
         by_cases c9:n+m<=k'
         ·--in place
          obtain⟨r1,aA,et,hh,r2,r3,r4⟩:=h.obj b l _ hμ hg;have c0:T.length=m *U:=by rw[←av.1];exact ag
          have hl:m≠0:=M
          have f6:T≠ []:=fun e=>by rw[e]at c0;have:=Nat.mul_eq_zero.1 c0.symm;omega
          have d2:T.all Value.oneCell'=true:=by
           rw[a0m];intro u bb;obtain⟨j,hj⟩:=List.getElem?_of_mem bb;have en:j<b7.length:=by rw[av.1];exact(a0w.1 hj).1
           have hr:=av.2 j b7[j] u (a06 en) hj;rw[hr.oneCell];rw[od]at q8;exact a0m.1 q8 _ (a10 en)
          have b8:o'+n *U+T.length<=aA.size:=by rw[c0,r2];have:(n+m) *U<=k' *U:=a0C _ c9;rw[a16]at this;omega
          have b4:=du (P:=P) l.c et T w aA (o'+n *U) 0 hh M d2 f6;simp only[a2w]at b4;have e5:(bc aA.toList (o'+n *U) T).length=aA.size:=by rw[bX _ _ _ (by simpa using b8)];simp
          have ef:=Post.take h hμ hg V a9 ⟨l.c,o',some U,l.csz⟩ V (.cells (appL old b7) (some U) false) (.cells ⟨bc aA.toList (o'+n *U) T⟩ et (0,0)) (by
           refine⟨V,_,et,cL w _ (cN hh),by show(bc aA.toList (o'+n *U) T).length=_;rw[e5,r2],?_,fun j u hj=>?_⟩
           ·rw[dO,a01,aw,ag];show o'+_<=l.csz;rw[←r2];rw[c0]at b8;omega
           rw[dO]at hj;have mg: ∀v':Value,(bc aA.toList (o'+n *U) T)[o'+j]?=some v'->(Array.mk (bc aA.toList (o'+n *U) T))[o'+j]?=some v':=fun v' hv=>(kY _ _).trans hv
           rw[bp _ _ _ _ (by simpa using b8)]at mg;by_cases e0:j<n *U
           ·rw[a0M M]at hj;rw[if_neg M]at mg;have f5:n≠0:=fun e=>by subst e;simp at e0
            unfold fl at ai;have f1:Nat.beq n 0=false:=by
             cases f0:Nat.beq n 0 with
             |false=>rfl
             |true=>exact absurd (a0c f0) f5
            rw[f1]at ai;simp only[cond_false,Heap.loadN,hg,bS,bU,bA]at ai;cases em:Nat.beq ((cs.drop o).take (n *U)).length (n *U) with
            |false=>rw[em]at ai;cases ai
            |true=>
             rw[em]at ai
             simp only[cond_true,a00]at ai
             rw[←ai,a0z,if_pos e0,a0L]at hj
             obtain⟨u',bb,hr⟩:=r4 (o+j) u hj
             refine⟨u',mg u' ?_,hr.mono (Emb.set_ext _ a9)⟩
             have:o'+j=l.sh+(o+j):=by have:=a6 M;omega
             rw[this];simpa using bb
           rw[a0U M,aw]at hj;obtain⟨u',bb,hr⟩:=av.get hj;have he:j-n *U<T.length:=(a0w.1 bb).1;rw[if_pos M]at mg;exact⟨u',mg u' (by rw[←bb];congr 1;omega),hr.mono (Emb.set_ext _ a9)⟩)
          refine⟨.slice (some ⟨l.c,o',none⟩) (n+m) k',_,_,fH (w':=bu w l.c (.cells ⟨bc aA.toList (o'+n *U) T⟩ et (0,0))) hu ap (fun kk=>ao kk) a3 aa c9 an (fun a ha=>?_) (fun e=>by cases e),ef,?_⟩
          ·injection ha with ha;subst ha;rw[cY];exact b4
          exact VRel.sliceO (μ:=μ.set H.next ⟨l.c,o',some U,l.csz⟩) H.next 0 o' (n+m) (n+m) k' U ⟨l.c,o',some U,l.csz⟩ (Emb.set_same _ _ _) V (a0d _) c9 (fun _=>rfl) ci
         ·--a b7 row
          obtain⟨nc,ay,N⟩:=iN (P:=P) (w:=w) (ty:=ty) hu ap (fun kk=>ao kk) hi b3 b5 aa M q2 M a1 ar;rw[d3]at N;have hk:=Post.kill h hμ hg V;obtain⟨l',h1,h2,h3,h4,_,hp⟩:=de (P:=P) (H:=H.put b .dead) hk.wrel.drew a9 e (a0.append aq) (Builtin.zeroCells vz.cells (nc-(n+m))).toList (some U) (fun e=>by cases e);rw[dO];refine⟨_,_,_,N,(hk.trans (Post.drew hk.wrel) (a0d _) (a0d _)).trans hp (a0d _) (by simp[aQ]),?_⟩;have:=VRel.sliceO (μ:=μ.set H.next l') H.next 0 0 (n+m) (n+m) nc U l' (Emb.set_same _ _ _) h3 (a0d _) ay (fun _=>by omega) (by
           rw[h4,dq b0,a01,aw,ag,a1g,←a16,←a16];exact a0C _ M)
          rw[h1]at this;exact this
    cases E
   cases E
  cases E
 cases E
end
section
variable {P:Program} {μ:Emb} {H H':Heap} {w:World}
theorem copy_sound{types:Array TypeId}{ty:TypeId}{d s d' U v:Value}(h:WRel μ H w)(hd:VRel μ d d')(hs:VRel μ s U)(E:oj P types d s H=some (v,H')):
  ∃v' w',(Builtin.copy_ types ty #[d',U]).run P w= .ok v' w'/\Post μ H w μ H' w'/\VRel μ v v':=by
 unfold oj at E
 split at E
 ·rename_i dt ao;split at E
  ·rename_i e base T dk m hu hm;split at E
   ·rename_i sz ap;simp only at E;obtain⟨N,Z,rfl,bb⟩:=df hd;have ag:(Builtin.lenOf U).run P w= .ok m w:=lenA_run hm hs;cases hq:Nat.beq (Nat.min m T) 0 with
    |true=>
     rw[hq]at E
     simp only[cond_true,a00,a04]at E
     obtain⟨rfl,rfl⟩:=E
     have h0:Nat.min m T=0:=a0c hq
     refine⟨_,w,?_,Post.refl h,.atom (goInt 0) V⟩
     have aA:(Builtin.firstCells sz 0 U).run P w= .ok #[] w:=by
      unfold lenA at hm;split at hm
      ·rename_i a n k;obtain⟨a',k',rfl,_⟩:=df hs;cases a'<;>simp[Builtin.firstCells,loadCells,loadCellsFrom]
      ·rename_i u;obtain rfl:=hs.string_inv;simp only[Builtin.firstCells,Sem.run_pure,dM];congr 1;simp
      cases hm
     unfold Builtin.copy_
     simp only[ao,show(#[Value.slice N T Z,U]:Array Value)[0]?=some (Value.slice N T Z) from V,show(#[Value.slice N T Z,U]:Array Value)[1]?=some U from V,
      Sem.run_bind,az w hu,Result.andThen_ok,ag,aW w ap,h0,aA]
     cases N<;>simp[storeCells]
    |false=>
     rw[hq]at E
     simp only[cond_false]at E
     split at E
     ·rename_i l a hl;split at E
      ·rename_i H1 a2;simp only[a00,a04]at E;obtain⟨rfl,rfl⟩:=E;obtain⟨b,o,sp⟩:=a;have a1:sp=none:=hd.slice_some.1;subst a1;obtain⟨bz,a0,an,a4⟩:=dX (P:=P) h hs ⟨m,hm,Nat.min_le_left _ _⟩ hl;obtain⟨l0,hμ,hc⟩:=hd.slice_inv;have h0:Nat.min m T≠0:=fun e=>by rw[e]at hq;cases hq
       have bk:0<T:=by
        rcases a1R T with e|e
        ·exfalso;apply h0;rw[e];exact Nat.min_zero _
        exact e
       obtain⟨w',aw,hp⟩:=gm (P:=P) h hμ a2 an;have ay:N=some ⟨l0.c,l0.sh+o,none⟩:=by
        rcases hc with⟨_,he⟩|⟨e',o',k',_,he,bl,_,av,_⟩|⟨hz,_,_⟩
        rotate_right
        ·omega
        ·injection he with he
        injection he with he _ _;rw[he,av M]
       subst ay;refine⟨goInt (Nat.min m T:Nat),w',?_,hp,.atom _ V⟩;unfold Builtin.copy_;simp only[ao,show(#[Value.slice (some ⟨l0.c,l0.sh+o,none⟩) T Z,U]:Array Value)[0]?=some (Value.slice (some ⟨l0.c,l0.sh+o,none⟩) T Z) from V,
        show(#[Value.slice (some ⟨l0.c,l0.sh+o,none⟩) T Z,U]:Array Value)[1]?=some U from V,
        Sem.run_bind,az w hu,Result.andThen_ok,ag,aW w ap,a0,aw,Sem.run_pure]
      cases E
     cases E
   cases E
  cases E
 cases E
theorem len_sound{t ty:TypeId}{x x' v:Value}(h:WRel μ H w)(U:VRel μ x x')(E:aLen P t x H=some v):
  (Builtin.len_ #[t] ty #[x']).run P w= .ok v w/\noA0 v=true:=by
 unfold aLen at E
 split at E
 ·rename_i e a n k N;injection E with E;subst E;obtain⟨a',k',rfl,_⟩:=df U;exact⟨by simp[Builtin.len_,az w N],V⟩
 ·rename_i s N;injection E with E;subst E;obtain rfl:=U.string_inv;exact⟨by simp[Builtin.len_,az w N,bA],V⟩
 ·rename_i k e N;injection E with E;subst E;obtain rfl:=U.mapNil_inv;exact⟨by simp[Builtin.len_,az w N],V⟩
 ·rename_i k e r N;split at E
  ·rename_i es hg;injection E with E;subst E;obtain⟨l,hμ,rfl⟩:=U.map_inv;obtain⟨aa,T,hh,hl,_⟩:=h.obj r l _ hμ hg;have Z:(getObj l.c).run P w= .ok (.map aa T) w:=run_getObj hh (by intros;simp);exact⟨by simp[Builtin.len_,az w N,Z,hl],V⟩
  cases E
 cases E
theorem gc: ∀(l:List Value) (r:List UInt8) (s:ByteArray),cG l=some r->
  (forIn (m:=Sem) l s (fun c s=>match c with
   | .int .u8 n=>Pure.pure (ForInStep.yield (s.push (UInt8.ofNat n.toNat)))
   |_=>do stuck "bytesToString: byte expected";Pure.pure (ForInStep.yield s))).run P w= .ok ⟨⟨s.data.toList++r⟩⟩ w
 | [],r,s,h=>by simp only[cG,a00]at h;subst h;simp
 |v::l,r,s,h=>by
  unfold cG at h;split at h
  ·rename_i E;cases E
  ·rename_i n Z E;injection E with h1 h2;subst h1 h2;split at h
   ·rename_i U N;injection h with h;subst h;have T:=gc l U (s.push (UInt8.ofNat n.toNat)) N;simp only[List.forIn_cons,Sem.run_bind,Sem.run_pure,Result.andThen_ok,T];congr 3;simp
   cases h
  cases h
theorem eT: ∀(l:List Value) (r:List UInt8),cG l=some r->l.all noA0=true
 | [],_,_=>rfl
 |v::l,r,h=>by
  unfold cG at h;split at h
  ·rename_i E;cases E
  ·rename_i n U E;injection E with h1 h2;subst h1 h2;split at h
   ·rename_i T N;simp only[a0F,noA0,a1L];exact eT l T N
   cases h
  cases h
theorem nL{ρ ρ':Operand->Value}{o:Oper}{s d:TypeId}{x:Operand}{r:AN}(h:WRel μ H w)(al:o.op= .convert s d x)(hρ: ∀x∈o.op.operands,VRel μ (ρ x) (ρ' x))
  (ho:fQ P ρ o s d (ρ x) H=some (r,H')):OpOK P μ H w (execOp ρ' o) r H':=by
 have hx:VRel μ (ρ x) (ρ' x):=hρ x (by rw[al];simp[Op.operands])
 have ad:execOp ρ' o=(do Pure.pure (.value (←convert s d (ρ' x)))):=by unfold execOp;simp only[al]
 unfold fQ at ho
 split at ho
 ·rename_i k n hv;rw[hv]at hx;obtain⟨rfl,v,E,rfl⟩:=cx ho;unfold nM at E;split at E
  ·rename_i sd kd U T;injection E with E;subst E;rw[ad];refine OpOK.value (v':= .int kd (kd.wrap n)) ?_ (Post.refl h) (.atom _ V);rw[hx.int_inv];simp[convert,az w U,az w T,Conv.intToInt]
  cases E
 ·rename_i a n k hv;rw[hv]at hx;obtain⟨rfl,v,E,rfl⟩:=cx ho;rw[ad];unfold eM at E;split at E
  ·rename_i e U T;split at E
   ·rename_i an;split at E
    ·injection E with E;subst E;obtain⟨_,_,N⟩:=hx.sliceNil_inv;refine OpOK.value (v':= .string .empty) ?_ (Post.refl h) (.atom _ V);rw[N];simp[convert,az w U,az w T,az w an,Conv.bytesToString]
    rename_i a;obtain⟨b,o2,sp⟩:=a;have a1:sp=none:=hx.slice_some.1;subst a1;cases hq:Nat.beq n 0 with
    |true=>
     rw[hq]at E
     simp only[cond_true,a00]at E;subst E
     have hn:n=0:=a0c hq
     subst hn
     obtain⟨_,a',k',N⟩:=hx.slice_some
     refine OpOK.value (v':= .string .empty) ?_ (Post.refl h) (.atom _ V)
     rw[N]
     simp[convert,az w U,az w T,az w an,Conv.bytesToString,loadCells,loadCellsFrom]
    |false=>
     rw[hq]at E
     simp only[cond_false]at E
     have hn:n≠0:=fun e=>by subst e;cases hq
     split at E
     ·rename_i l hl;split at E
      ·rename_i rb ar;injection E with E;subst E;obtain⟨l0,hμ,hc⟩:=hx.slice_inv;obtain⟨av,Z,ay,a7⟩:=ig (P:=P) h hμ hl;have a2:av=l:=ay.eq0 (eT l rb ar);subst a2;have N: ∃k',ρ' x= .slice (some ⟨l0.c,l0.sh+o2,none⟩) n k':=by
        rcases hc with⟨_,he⟩|⟨e',o',k',_,he,bl,_,ax,_⟩|⟨hz,_,_⟩
        rotate_right
        ·exact absurd hz hn
        ·exact⟨k,he⟩
        rw[ax M]at he;exact⟨k',he⟩
       obtain⟨k',N⟩:=N;refine OpOK.value (v':= .string ⟨⟨rb⟩⟩) ?_ (Post.refl h) (.atom _ V);rw[N];have hb:=gc (P:=P) (w:=w) av rb .empty ar;simp only[convert,Sem.run_bind,az w U,az w T,az w an,Result.andThen_ok,Conv.bytesToString,Z];have he:((ByteArray.empty.data.toList++rb:List UInt8))=rb:=rfl;rw[he]at hb;simp only[←Array.forIn_toList]at *
       exact congrArg (fun r=>Result.andThen r fun a w'=>Sem.run P (Pure.pure (Value.string a)) w') hb
      cases E
     cases E
   cases E
  cases E
 obtain⟨rfl,v,v',rfl,Z,hr⟩:=dx ho (fun _ _=>by rw[al];simp) hρ
 exact⟨.value v',w,μ,Z w,Post.refl h,hr⟩
theorem callee_sound{f f':Value}{args:List Value}{N:Array Value}{r:AN}(hf:VRel μ f f')(ha:LRel μ args N.toList)(E:fS P f args=some r):
  ∃i Z,r= .enter i Z/\∃U,(∀w,(do let d ←Deferred.ofValue f' N;invoke d.target d.args:Sem Next).run P w= .ok (.enter i U) w)/\LRel μ Z U.toList:=by
 unfold fS at E
 split at E
 ·rename_i i first ag;obtain⟨ad,T,rfl,h1,h2⟩:=hf.func_inv;split at E
  ·rename_i fn an;cases hq:(fn.body.isSome&& !(fn.name== "runtime.NumGoroutine")) with
   |false=>rw[hq]at E;cases E
   |true=>
    rw[hq]at E
    simp only[cond_true,a00]at E;subst E
    simp only[a09,a0G]at hq
    refine⟨i,_,V,(ad++N)++T,fun w=>?_,?_⟩
    ·have hb: ¬fn.body=none:=by intro al;rw[al]at hq;cases hq.1
     have ao: ¬fn.name= "runtime.NumGoroutine" :=by have:=hq.2;simpa using this
     simp[Deferred.ofValue,invoke,callFunc,an,ao,hb]
    rw[dO,dO]
    have:=(h1.append (ha.append h2))
    simpa using this
  cases E
 cases E
end
end Go.R
