/-
The evaluator is sound: values, operations, memory.
-/
import Derived.Test.YtapgbjedgcpffaaZXR0
import Derived.IntWalk
set_option linter.unusedVariables false
set_option linter.unusedSimpArgs false
namespace Go.R
structure Loc where
 c:Nat
 sh:Nat
 opn:Option Nat
 csz:Nat
abbrev Emb:=Nat->Option Loc
inductive VRel(μ:Emb):Value->Value->Prop
 |atom (v:Value):cJ v=true->VRel μ v v
 |ptr (b o:Nat) (l:Loc):μ b=some l->VRel μ (.pointer (some ⟨b,o,none⟩)) (.pointer (some ⟨l.c,l.sh+o,none⟩))
 |sliceC (b o n k:Nat) (l:Loc):μ b=some l->l.opn=none->VRel μ (.slice (some ⟨b,o,none⟩) n k) (.slice (some ⟨l.c,l.sh+o,none⟩) n k)
 |sliceO (b o o' n k k' e:Nat) (l:Loc):μ b=some l->l.opn=some e->n<=k->k<=k'->(0<k->o'=l.sh+o)->o'+k' *e<=l.csz->
   VRel μ (.slice (some ⟨b,o,none⟩) n k) (.slice (some ⟨l.c,o',none⟩) n k')
 |sliceZ (b o:Nat) (a:Addr) (l:Loc):μ b=some l->VRel μ (.slice (some ⟨b,o,none⟩) 0 0) (.slice (some a) 0 0)
 |map (b:Nat) (l:Loc):μ b=some l->VRel μ (.map (some b)) (.map (some l.c))
 |func (fn:Fn) (xs ys xs' ys':Array Value):xs.toList.length=xs'.toList.length->ys.toList.length=ys'.toList.length->
   (∀(i:Nat) v v',xs.toList[i]?=some v->xs'.toList[i]?=some v'->VRel μ v v')->
   (∀(i:Nat) v v',ys.toList[i]?=some v->ys'.toList[i]?=some v'->VRel μ v v')->VRel μ (.func fn xs ys) (.func fn xs' ys')
 |agg (xs xs':Array Value):xs.toList.length=xs'.toList.length->
   (∀(i:Nat) v v',xs.toList[i]?=some v->xs'.toList[i]?=some v'->VRel μ v v')->VRel μ (.agg xs) (.agg xs')
 |tuple (xs xs':Array Value):xs.toList.length=xs'.toList.length->
   (∀(i:Nat) v v',xs.toList[i]?=some v->xs'.toList[i]?=some v'->VRel μ v v')->VRel μ (.tuple xs) (.tuple xs')
def LRel(μ:Emb)(l l':List Value):Prop:=l.length=l'.length/\∀(i:Nat) v v',l[i]?=some v->l'[i]?=some v'->VRel μ v v'
section
variable {μ μ':Emb}
theorem VRel.mono(h: ∀b l,μ b=some l->μ' b=some l){v v':Value}(z:VRel μ v v'):VRel μ' v v':=by
 induction z with
 |atom v h0=>exact .atom v h0
 |ptr b o l hb=>exact .ptr b o l (h _ _ hb)
 |sliceC b o n k l hb ho=>exact .sliceC b o n k l (h _ _ hb) ho
 |sliceO b o o' n k k' e l hb ho h1 h2 h3 h4=>exact .sliceO b o o' n k k' e l (h _ _ hb) ho h1 h2 h3 h4
 |sliceZ b o a l hb=>exact .sliceZ b o a l (h _ _ hb)
 |map b l hb=>exact .map b l (h _ _ hb)
 |func fn xs ys xs' ys' h1 h2 _ _ i1 i2=>exact .func fn xs ys xs' ys' h1 h2 i1 i2
 |agg xs xs' h1 _ i1=>exact .agg xs xs' h1 i1
 |tuple xs xs' h1 _ i1=>exact .tuple xs xs' h1 i1
theorem LRel.nil:LRel μ [] []:=⟨rfl,fun i v v' h=>by simp at h⟩
theorem LRel.cons{v v':Value}{l l':List Value}(h:VRel μ v v')(E:LRel μ l l'):LRel μ (v::l) (v'::l'):=by
 refine⟨by simp[E.1],fun i x O z A=>?_⟩;cases i with
 |zero=>simp at z A;subst z A;exact h
 |succ i=>exact E.2 i x O (by simpa using z) (by simpa using A)
theorem LRel.head{v v':Value}{l l':List Value}(h:LRel μ (v::l) (v'::l')):VRel μ v v':=h.2 0 v v' rfl rfl
theorem LRel.tail{v v':Value}{l l':List Value}(h:LRel μ (v::l) (v'::l')):LRel μ l l':=
 ⟨by simpa using h.1,fun i x E z A=>h.2 (i+1) x E (by simpa using z) (by simpa using A)⟩
theorem LRel.get{l l':List Value}(h:LRel μ l l'){i:Nat}{v:Value}(z:l[i]?=some v): ∃v',l'[i]?=some v'/\VRel μ v v':=by
 have hi:i<l'.length:=by rw[←h.1];exact(a0m.1 z).1
 exact⟨l'[i],a09 hi,h.2 i v _ z (a09 hi)⟩
theorem LRel.append{a b E O:List Value}(h:LRel μ a E)(k:LRel μ b O):LRel μ (a++b) (E++O):=by
 refine⟨by simp[h.1,k.1],fun i v v' z A=>?_⟩;by_cases hi:i<a.length
 ·rw[a0S hi]at z;rw[a0S (h.1▸hi)]at A;exact h.2 i v v' z A
 rw[a11 (by omega)]at z;rw[a11 (by have:=h.1;omega),←h.1]at A;exact k.2 _ v v' z A
theorem LRel.take{a E:List Value}(h:LRel μ a E)(n:Nat):LRel μ (a.take n) (E.take n):=by
 refine⟨by simp[h.1],fun i v v' z A=>?_⟩;rw[a0G]at z A;split at z
 ·rename_i hi;rw[if_pos hi]at A;exact h.2 i v v' z A
 cases z
theorem LRel.drop{a z:List Value}(h:LRel μ a z)(n:Nat):LRel μ (a.drop n) (z.drop n):=by refine⟨by simp[h.1],fun i v v' A E=>?_⟩;rw[a0W]at A E;exact h.2 _ v v' A E
theorem LRel.nil_left{l':List Value}(h:LRel μ [] l'):l'=[]:=a0i h.1.symm
theorem LRel.cons_left{v:Value}{l l':List Value}(h:LRel μ (v::l) l'): ∃v' z,l'=v'::z/\VRel μ v v'/\LRel μ l z:=by
 cases l' with
 |nil=>have:=h.1;simp at this
 |cons v' z=>exact⟨v',z,rfl,h.head,h.tail⟩
theorem VRel.oneCell{v v':Value}(h:VRel μ v v'):v'.oneCell'=v.oneCell':=by cases h<;>rfl
theorem VRel.eq0{v v':Value}(h:VRel μ v v')(z:cJ v=true):v'=v:=by
 cases h with
 |atom=>rfl
 |func fn xs ys xs' ys' h1 h2 _ _=>
  simp only[cJ,a03]at z
  have A:xs.size=0:=a04 z.1
  have E:ys.size=0:=a04 z.2
  have O:xs= #[]:=a0R.1 A
  have T:ys= #[]:=a0R.1 E
  subst O T
  have U:xs'= #[]:=a0R.1 (by simpa using h1.symm)
  have V:ys'= #[]:=a0R.1 (by simpa using h2.symm)
  subst U V
  rfl
 |_=>simp[cJ]at z
theorem LRel.eq0{l l':List Value}(h:LRel μ l l')(z:l.all cJ=true):l'=l:=by
 induction l generalizing l' with
 |nil=>exact h.nil_left
 |cons v l ih=>
  obtain⟨v',O,rfl,E,A⟩:=h.cons_left
  simp only[a0J,a03]at z
  rw[E.eq0 z.1,ih A z.2]
theorem VRel.eq1{v v':Value}(h:VRel μ v v')(z:gY v=true):v'=v:=by
 cases h with
 |agg xs xs' hl hi=>
  have:=LRel.eq0 (μ:=μ) (l:=xs.toList) (l':=xs'.toList) ⟨hl,hi⟩ z
  rw[a0Q.1 this]
 |atom v h0=>rfl
 |_=>exact VRel.eq0 (μ:=μ) (by constructor<;>assumption) z
theorem LRel.eq1{l l':List Value}(h:LRel μ l l')(z:l.all gY=true):l'=l:=by
 induction l generalizing l' with
 |nil=>exact h.nil_left
 |cons v l ih=>
  obtain⟨v',O,rfl,E,A⟩:=h.cons_left
  simp only[a0J,a03]at z
  rw[E.eq1 z.1,ih A z.2]
theorem LRel.refl0{l:List Value}(h:l.all cJ=true):LRel μ l l:=by refine⟨rfl,fun i v v' A z=>?_⟩;rw[A]at z;injection z with z;subst z;exact .atom v (a0o.1 h v (a0h A))
theorem VRel.refl1{v:Value}(h:gY v=true):VRel μ v v:=by
 cases v with
 |agg cs=>have:=LRel.refl0 (μ:=μ) (l:=cs.toList) h;exact .agg cs cs this.1 this.2
 |_=>exact .atom _ h
theorem LRel.refl1{l:List Value}(h:l.all gY=true):LRel μ l l:=by refine⟨rfl,fun i v v' A z=>?_⟩;rw[A]at z;injection z with z;subst z;exact VRel.refl1 (a0o.1 h v (a0h A))
theorem VRel.refl2{v:Value}(h:noA2 v=true):VRel μ v v:=by
 cases v with
 |tuple vs=>have:=LRel.refl1 (μ:=μ) (l:=vs.toList) h;exact .tuple vs vs this.1 this.2
 |_=>exact VRel.refl1 h
theorem VRel.undef:VRel μ undef undef:=VRel.refl2 rfl
theorem VRel.eq2{v v':Value}(h:VRel μ v v')(z:noA2 v=true):v'=v:=by
 cases h with
 |tuple xs xs' hl hi=>
  have:=LRel.eq1 (μ:=μ) (l:=xs.toList) (l':=xs'.toList) ⟨hl,hi⟩ z
  rw[a0Q.1 this]
 |atom v h0=>rfl
 |_=>exact VRel.eq1 (μ:=μ) (by constructor<;>assumption) z
theorem VRel.cells{v v':Value}(h:VRel μ v v'):LRel μ v.cells.toList v'.cells.toList:=by
 have one: ∀{u z:Value},VRel μ u z->LRel μ [u] [z]:=fun A=> .cons A .nil
 cases h with
 |agg xs xs' hl hi=>exact⟨hl,hi⟩
 |atom v h0=>cases v<;>first|(simp[cJ]at h0;done)|exact one (.atom _ h0)
 |ptr b o l hb=>exact one (.ptr b o l hb)
 |sliceC b o n k l hb ho=>exact one (.sliceC b o n k l hb ho)
 |sliceO b o o' n k k' e l hb ho h1 h2 h3 h4=>exact one (.sliceO b o o' n k k' e l hb ho h1 h2 h3 h4)
 |sliceZ b o a l hb=>exact one (.sliceZ b o a l hb)
 |map b l hb=>exact one (.map b l hb)
 |func fn xs ys xs' ys' h1 h2 i1 i2=>exact one (.func fn xs ys xs' ys' h1 h2 i1 i2)
 |tuple xs xs' h1 i1=>exact one (.tuple xs xs' h1 i1)
theorem VRel.int_inv{k:IntKind}{n:Int}{v':Value}(h:VRel μ (.int k n) v'):v'= .int k n:=h.eq0 rfl
theorem VRel.bool_inv{b:Bool}{v':Value}(h:VRel μ (.bool b) v'):v'= .bool b:=h.eq0 rfl
theorem VRel.string_inv{s:ByteArray}{v':Value}(h:VRel μ (.string s) v'):v'= .string s:=h.eq0 rfl
theorem VRel.ptr_inv{b o:Nat}{v':Value}(h:VRel μ (.pointer (some ⟨b,o,none⟩)) v'): ∃l,μ b=some l/\v'= .pointer (some ⟨l.c,l.sh+o,none⟩):=by
 cases h with
 |atom _ h0=>simp[cJ]at h0
 |ptr _ _ l hb=>exact⟨l,hb,rfl⟩
theorem VRel.ptr_some{a:Addr}{v':Value}(h:VRel μ (.pointer (some a)) v'):a.spot=none/\∃z,v'= .pointer (some z):=by
 cases h with
 |atom _ h0=>simp[cJ]at h0
 |ptr _ _ l hb=>exact⟨rfl,_,rfl⟩
theorem VRel.agg_inv{xs:Array Value}{v':Value}(h:VRel μ (.agg xs) v'): ∃z,v'= .agg z/\LRel μ xs.toList z.toList:=by
 cases h with
 |atom _ h0=>simp[cJ]at h0
 |agg _ z hl hi=>exact⟨z,rfl,hl,hi⟩
theorem VRel.tuple_inv{xs:Array Value}{v':Value}(h:VRel μ (.tuple xs) v'): ∃z,v'= .tuple z/\LRel μ xs.toList z.toList:=by
 cases h with
 |atom _ h0=>simp[cJ]at h0
 |tuple _ z hl hi=>exact⟨z,rfl,hl,hi⟩
theorem VRel.func_inv{fn:Fn}{xs ys:Array Value}{v':Value}(h:VRel μ (.func fn xs ys) v'):
  ∃z A,v'= .func fn z A/\LRel μ xs.toList z.toList/\LRel μ ys.toList A.toList:=by
 cases h with
 |atom _ h0=>
  simp only[cJ,a03]at h0
  have E:xs= #[]:=a0R.1 (a04 h0.1)
  have O:ys= #[]:=a0R.1 (a04 h0.2)
  subst E O
  exact⟨#[], #[],rfl,.nil,.nil⟩
 |func _ _ _ z A h1 h2 i1 i2=>exact⟨z,A,rfl,⟨h1,i1⟩,⟨h2,i2⟩⟩
theorem VRel.map_inv{b:Nat}{v':Value}(h:VRel μ (.map (some b)) v'): ∃l,μ b=some l/\v'= .map (some l.c):=by
 cases h with
 |atom _ h0=>simp[cJ]at h0
 |map _ l hb=>exact⟨l,hb,rfl⟩
theorem VRel.mapNil_inv{v':Value}(h:VRel μ (.map none) v'):v'= .map none:=h.eq0 rfl
theorem VRel.slice_inv{b o n k:Nat}{v':Value}(h:VRel μ (.slice (some ⟨b,o,none⟩) n k) v'):
  ∃l,μ b=some l/\((l.opn=none/\v'= .slice (some ⟨l.c,l.sh+o,none⟩) n k)\/
   (∃e A z,l.opn=some e/\v'= .slice (some ⟨l.c,A,none⟩) n z/\n<=k/\k<=z/\(0<k->A=l.sh+o)/\A+z *e<=l.csz)\/(n=0/\k=0/\∃E,v'= .slice (some E) 0 0)):=by
 cases h with
 |atom _ h0=>simp[cJ]at h0
 |sliceC _ _ _ _ l hb ho=>exact⟨l,hb,.inl ⟨ho,rfl⟩⟩
 |sliceO _ _ A _ _ z e l hb ho h1 h2 h3 h4=>exact⟨l,hb,.inr (.inl ⟨e,A,z,ho,rfl,h1,h2,h3,h4⟩)⟩
 |sliceZ _ _ a l hb=>exact⟨l,hb,.inr (.inr ⟨rfl,rfl,a,rfl⟩)⟩
theorem VRel.sliceNil_inv{n k:Nat}{v':Value}(h:VRel μ (.slice none n k) v'):n=0/\k=0/\v'= .slice none n k:=by
 cases h with
 |atom _ h0=>
  simp only[cJ,a03]at h0
  exact⟨a04 h0.1,a04 h0.2,rfl⟩
theorem VRel.slice_some{a:Addr}{n k:Nat}{v':Value}(h:VRel μ (.slice (some a) n k) v'):a.spot=none/\∃A z,v'= .slice (some A) n z:=by
 cases h with
 |atom _ h0=>simp[cJ]at h0
 |sliceC _ _ _ _ l hb ho=>exact⟨rfl,_,_,rfl⟩
 |sliceO _ _ o' _ _ z e l hb ho h1 h2 h3 h4=>exact⟨rfl,_,_,rfl⟩
 |sliceZ _ _ a l hb=>exact⟨rfl,_,_,rfl⟩
end
def ObjRel(μ:Emb)(w:World)(l:Loc):AObj->Prop
 | .cells cs opn true=>l.opn=opn/\opn=none/\l.c<w.heap.size/\∀(i:Nat) v,cs[i]?=some v->∃v',w.cell? ⟨l.c,l.sh+i,none⟩=some v'/\VRel μ v v'
 | .cells cs opn false=>l.opn=opn/\∃(h:Array Value) (e:TypeId),w.heap[l.c]?=some (.cells h e (0,0))/\h.size=l.csz/\l.sh+cs.length<=l.csz/\
   ∀(i:Nat) v,cs[i]?=some v->∃v',h[l.sh+i]?=some v'/\VRel μ v v'
 | .iter s pos=>l.sh=0/\w.heap[l.c]?=some (.stringIter s pos)
 | .tab es=> ∃(z:Array MapEntry) (A:Nat),w.heap[l.c]?=some (.map z A)/\es.length=z.toList.length/\
   ∀(i:Nat) x y,es[i]?=some x->z.toList[i]?=some y->VRel μ x.1 y.key/\VRel μ x.2 y.val
 | .dead=>True
structure WRel(μ:Emb)(H:Heap)(w:World):Prop where
 obj: ∀b l o,μ b=some l->H.get b=some o->ObjRel μ w l o
 inj: ∀b1 b2 l1 l2 o1 o2,b1≠b2->μ b1=some l1->μ b2=some l2->H.get b1=some o1->H.get b2=some o2->o1.rw=true->o2.live=true->l1.c≠l2.c
theorem cC{w:World}{c:Nat}{o:Obj}(h:w.heap[c]?=some o):c<w.heap.size:=(a0v.1 h).1
theorem ObjRel.lt{μ:Emb}{w:World}{l:Loc}{o:AObj}(h:ObjRel μ w l o)(E:o.live=true):l.c<w.heap.size:=by
 cases o with
 |cells cs opn ro=>
  cases ro with
  |true=>exact h.2.2.1
  |false=>obtain⟨_,O,e,z,_⟩:=h;exact cC z
 |iter s pos=>exact cC h.2
 |tab es=>obtain⟨T,A,z,_⟩:=h;exact cC z
 |dead=>simp[AObj.live]at E
theorem ObjRel.keep{μ μ':Emb}{w w':World}{l:Loc}{o:AObj}(T: ∀b l,μ b=some l->μ' b=some l)(hs:w.heap.size<=w'.heap.size)
  (hc:o.live=true->w'.heap[l.c]?=w.heap[l.c]?) (h:ObjRel μ w l o):ObjRel μ' w' l o:=by
 cases o with
 |cells cs opn ro=>
  have U:=hc rfl
  cases ro with
  |true=>
   obtain⟨V,z,O,Y⟩:=h
   refine⟨V,z,by omega,fun i v hv=>?_⟩
   obtain⟨v',A,hr⟩:=Y i v hv
   refine⟨v',?_,hr.mono T⟩
   rw[←A]
   simp only[World.cell?,U]
  |false=>
   obtain⟨V,ax,e,Z,z,O,Y⟩:=h
   refine⟨V,ax,e,U.trans Z,z,O,fun i v hv=>?_⟩
   obtain⟨v',A,hr⟩:=Y i v hv
   exact⟨v',A,hr.mono T⟩
 |iter s pos=>exact⟨h.1,(hc rfl).trans h.2⟩
 |tab es=>
  obtain⟨a0,E,Z,z,O⟩:=h
  refine⟨a0,E,(hc rfl).trans Z,z,fun i x y hx hy=>?_⟩
  obtain⟨r1,r2⟩:=O i x y hx hy
  exact⟨r1.mono T,r2.mono T⟩
 |dead=>trivial
theorem fI{o:AObj}(h:o.rw=true):o.live=true:=by cases o<;>simp_all[AObj.rw,AObj.live]
structure Post(μ:Emb)(H:Heap)(w:World)(μ':Emb)(H':Heap)(w':World):Prop where
 ext: ∀b l,μ b=some l->μ' b=some l
 dom: ∀b l,μ' b=some l->μ b=some l\/(H.next<=b/\b<H'.next)
 grow:w.heap.size<=w'.heap.size
 os:w'.os=w.os
 tape:w'.tape=w.tape
 out:w'.output=w.output
 keep: ∀c,c<w.heap.size->(∀b l o,μ b=some l->H.get b=some o->o.rw=true->l.c≠c)->w'.heap[c]?=w.heap[c]?
 img: ∀b l o,μ' b=some l->H'.get b=some o->o.live=true->w.heap.size<=l.c\/∃b0 l0 o0,μ b0=some l0/\H.get b0=some o0/\o0.live=true/\(o.rw=true->o0.rw=true)/\l0.c=l.c
 wrel:WRel μ' H' w'
theorem Post.refl{μ:Emb}{H:Heap}{w:World}(h:WRel μ H w):Post μ H w μ H w:=
 ⟨fun _ _ h=>h,fun _ _ h=> .inl h,a05 _,rfl,rfl,rfl,fun _ _ _=>rfl,fun b l o z A E=> .inr ⟨b,l,o,z,A,E,id,rfl⟩,h⟩
theorem Post.trans{μ V Y:Emb}{H H1 E:Heap}{w w1 U:World}(h:Post μ H w V H1 w1)(k:Post V H1 w1 Y E U)(h1:H.next<=H1.next)(h2:H1.next<=E.next):
  Post μ H w Y E U:=by
 refine⟨fun b l z=>k.ext b l (h.ext b l z),fun b l z=>?_,a0j h.grow k.grow,k.os.trans h.os,k.tape.trans h.tape,k.out.trans h.out,fun c hc T=>?_,fun b l o z O A=>?_,k.wrel⟩
 ·rcases k.dom b l z with hb1|⟨hb1,hb2⟩
  ·rcases h.dom b l hb1 with hb0|⟨hb3,hb4⟩
   ·exact .inl hb0
   exact .inr ⟨hb3,by omega⟩
  exact .inr ⟨by omega,hb2⟩
 ·rw[k.keep c (a0H hc h.grow) ?_,h.keep c hc T];intro b l o z O A Z;rcases h.img b l o z O (fI A) with hh|⟨b0,l0,o0,g1,g2,g3,g5,g4⟩
  ·omega
  exact T b0 l0 o0 g1 g2 (g5 A) (g4.trans Z)
 rcases k.img b l o z O A with hh|⟨b0,l0,o0,g1,g2,g3,g5,g4⟩
 ·exact .inl (a0j h.grow hh)
 rcases h.img b0 l0 o0 g1 g2 g3 with hh|⟨b1,l1,o1,e1,e2,e3,e5,e4⟩
 ·exact .inl (g4▸hh)
 exact .inr ⟨b1,l1,o1,e1,e2,e3,fun hx=>e5 (g5 hx),e4.trans g4⟩
theorem WRel.drew{μ:Emb}{H:Heap}{w:World}(h:WRel μ H w):WRel μ H w.drew:=
 ⟨fun b l o z A=>(h.obj b l o z A).keep (fun _ _ h=>h) (a05 _) (fun _=>rfl),h.inj⟩
theorem Post.drew{μ:Emb}{H:Heap}{w:World}(h:WRel μ H w):Post μ H w μ H w.drew:=
 ⟨fun _ _ h=>h,fun _ _ h=> .inl h,a05 _,rfl,rfl,rfl,fun _ _ _=>rfl,fun b l o z A E=> .inr ⟨b,l,o,z,A,E,id,rfl⟩,h.drew⟩
def Emb.set(μ:Emb)(b:Nat)(l:Loc):Emb:=fun k=>if k=b then some l else μ k
theorem Emb.set_same(μ:Emb)(b:Nat)(l:Loc):μ.set b l b=some l:=by simp[Emb.set]
theorem Emb.set_ext{μ:Emb}{b:Nat}(l:Loc)(h:μ b=none): ∀k x,μ k=some x->μ.set b l k=some x:=by
 intro k x z;have:k≠b:=fun e=>by subst e;rw[h]at z;cases z
 simp[Emb.set,this,z]
theorem Emb.set_inv{μ:Emb}{b:Nat}{l:Loc}{k:Nat}{x:Loc}(h:μ.set b l k=some x):(k=b/\x=l)\/(k≠b/\μ k=some x):=by
 unfold Emb.set at h;split at h
 ·rename_i e;injection h with h;exact .inl ⟨e,h.symm⟩
 rename_i e;exact .inr ⟨e,h⟩
theorem hB(w:World)(o:Obj){c:Nat}(h:c<w.heap.size):(w.alloc o).heap[c]?=w.heap[c]?:=by simp only[World.alloc,Array.getElem?_push];rw[if_neg (by omega)]
theorem km(w:World)(o:Obj):(w.alloc o).heap[w.heap.size]?=some o:=by show(w.heap.push o)[w.heap.size]?=some o;simp
theorem Post.push{μ:Emb}{H:Heap}{w:World}(h:WRel μ H w)(hf:μ H.next=none)(l:Loc)(hl:l.c=w.heap.size)(o:AObj)(co:Obj)
  (ho:ObjRel (μ.set H.next l) (w.alloc co) l o):Post μ H w (μ.set H.next l) (H.push o) (w.alloc co):=by
 have hm:=Emb.set_ext l hf
 refine⟨hm,fun b x A=>?_,by simp,rfl,rfl,rfl,fun c hc _=>hB w co hc,fun b x o' A z hr=>?_,⟨fun b x o' A z=>?_,fun b1 b2 l1 l2 o1 o2 E a4 a8 O T bb ax=>?_⟩⟩
 ·rcases Emb.set_inv A with⟨rfl,rfl⟩|⟨_,A⟩
  ·exact .inr ⟨a05 _,by simp⟩
  exact .inl A
 ·rcases Emb.set_inv A with⟨rfl,rfl⟩|⟨E,A⟩
  ·exact .inl (by omega)
  rw[Heap.get_push_ne H o (Ne.symm E)]at z;exact .inr ⟨b,x,o',A,z,hr,id,rfl⟩
 ·rcases Emb.set_inv A with⟨rfl,rfl⟩|⟨E,A⟩
  ·rw[Heap.get_push_same]at z;injection z with z;subst z;exact ho
  rw[Heap.get_push_ne H o (Ne.symm E)]at z;have hr:=h.obj b x o' A z;exact hr.keep hm (by simp) (fun a9=>hB w co (hr.lt a9))
 rcases Emb.set_inv a4 with⟨e1,f1⟩|⟨Y,U⟩<;>rcases Emb.set_inv a8 with⟨e2,f2⟩|⟨Z,V⟩
 ·exact absurd (e1.trans e2.symm) E
 ·rw[Heap.get_push_ne H o (Ne.symm Z)]at T;have:=(h.obj b2 l2 o2 V T).lt ax;subst f1;omega
 ·rw[Heap.get_push_ne H o (Ne.symm Y)]at O;have:=(h.obj b1 l1 o1 U O).lt (by cases o1<;>simp_all[AObj.rw,AObj.live]);subst f2;omega
 rw[Heap.get_push_ne H o (Ne.symm Y)]at O
 rw[Heap.get_push_ne H o (Ne.symm Z)]at T
 exact h.inj b1 b2 l1 l2 o1 o2 E U V O T bb ax
def be(w:World)(c:Nat)(o:Obj):World:={w with heap:=w.heap.setIfInBounds c o}
theorem cX(w:World){c k:Nat}(o:Obj)(h:c≠k):(be w c o).heap[k]?=w.heap[k]?:=by simp[be,a1a h]
theorem cy(w:World){c:Nat}(o:Obj)(h:c<w.heap.size):(be w c o).heap[c]?=some o:=by simp[be,h]
@[simp] theorem setObjAt_size(w:World)(c:Nat)(o:Obj):(be w c o).heap.size=w.heap.size:=by simp[be]
theorem Post.put{μ:Emb}{H:Heap}{w:World}(h:WRel μ H w){b:Nat}{l:Loc}{o:AObj}(O:μ b=some l)(V:H.get b=some o)(T:o.rw=true)
  (E:AObj) (ch:E.rw=true) (U:Obj) (hn:ObjRel μ (be w l.c U) l E):Post μ H w μ (H.put b E) (be w l.c U):=by
 refine⟨fun _ _ h=>h,fun _ _ h=> .inl h,by simp,rfl,rfl,rfl,fun c hc ax=>cX w U (ax b l o O V T),fun k x Y A z bl=>?_,⟨fun k x Y A z=>?_,fun b1 b2 l1 l2 o1 o2 a4 Z al a8 a9 ba bb=>?_⟩⟩
 ·by_cases e:b=k
  ·subst e;rw[O]at A;injection A with A;subst A;exact .inr ⟨b,l,o,O,V,fI T,fun _=>T,rfl⟩
  rw[Heap.get_put_ne H E e]at z;exact .inr ⟨k,x,Y,A,z,bl,id,rfl⟩
 ·by_cases e:b=k
  ·subst e;rw[O]at A;injection A with A;subst A;rw[Heap.get_put_same]at z;injection z with z;subst z;exact hn
  rw[Heap.get_put_ne H E e]at z;have hx:=h.obj k x Y A z;exact hx.keep (fun _ _ h=>h) (by simp) (fun a3=>cX w U (h.inj b k l x o Y e O A V z T a3))
 have old: ∀k ok lk,μ k=some lk->(H.put b E).get k=some ok->∃oo,H.get k=some oo/\(ok.rw=true->oo.rw=true)/\(ok.live=true->oo.live=true):=by
  intro k ok lk A an;by_cases e:b=k
  ·subst e;exact⟨o,V,fun _=>T,fun _=>by cases o<;>simp_all[AObj.rw,AObj.live]⟩
  rw[Heap.get_put_ne H E e]at an;exact⟨ok,an,id,id⟩
 obtain⟨p1,q1,r1,_⟩:=old b1 o1 l1 Z a8
 obtain⟨p2,q2,_,r2⟩:=old b2 o2 l2 al a9
 exact h.inj b1 b2 l1 l2 p1 p2 a4 Z al q1 q2 (r1 ba) (r2 bb)
theorem Post.take{μ:Emb}{H:Heap}{w:World}(h:WRel μ H w){b:Nat}{l:Loc}{o:AObj}(V:μ b=some l)(ho:H.get b=some o)(hr:o.rw=true)
  (hf:μ H.next=none) (l':Loc) (hl:l'.c=l.c) (U:AObj) (co:Obj) (hn:ObjRel (μ.set H.next l') (be w l.c co) l' U):
  Post μ H w (μ.set H.next l') ((H.put b .dead).push U) (be w l.c co):=by
 have hm:=Emb.set_ext l' hf
 have c6:b≠H.next:=fun e=>by subst e;rw[hf]at V;cases V
 have get: ∀k,k≠H.next->((H.put b .dead).push U).get k=(H.put b .dead).get k:=fun k A=>Heap.get_push_ne (H.put b .dead) U (Ne.symm A)
 have b7:((H.put b .dead).push U).get H.next=some U:=Heap.get_push_same (H.put b .dead) U
 refine⟨hm,fun k x A=>?_,by simp,rfl,rfl,rfl,fun c hc b9=>cX w co (b9 b l o V ho hr),fun k x ox A z b4=>?_,⟨fun k x ox A z=>?_,fun b1 b2 l1 l2 o1 o2 T cb cc b0 b3 Y Z=>?_⟩⟩
 ·rcases Emb.set_inv A with⟨rfl,rfl⟩|⟨_,A⟩
  ·exact .inr ⟨a05 _,by simp⟩
  exact .inl A
 ·rcases Emb.set_inv A with⟨rfl,rfl⟩|⟨T,A⟩
  ·exact .inr ⟨b,l,o,V,ho,fI hr,fun _=>hr,hl.symm⟩
  rw[get k T]at z;by_cases e:b=k
  ·subst e;rw[Heap.get_put_same]at z;injection z with z;subst z;simp[AObj.live]at b4
  rw[Heap.get_put_ne H _ e]at z;exact .inr ⟨k,x,ox,A,z,b4,id,rfl⟩
 ·rcases Emb.set_inv A with⟨rfl,rfl⟩|⟨T,A⟩
  ·rw[b7]at z;injection z with z;subst z;exact hn
  rw[get k T]at z;by_cases e:b=k
  ·subst e;rw[Heap.get_put_same]at z;injection z with z;subst z;trivial
  rw[Heap.get_put_ne H _ e]at z;have hx:=h.obj k x ox A z;exact hx.keep hm (by simp) (fun a0=>cX w co (h.inj b k l x o ox e V A ho z hr a0))
 have old: ∀k ok,k≠H.next->ok.live=true->((H.put b .dead).push U).get k=some ok->k≠b/\H.get k=some ok:=by
  intro k ok A a0 O;rw[get k A]at O;by_cases e:b=k
  ·subst e;rw[Heap.get_put_same]at O;injection O with O;subst O;simp[AObj.live]at a0
  rw[Heap.get_put_ne H _ e]at O;exact⟨Ne.symm e,O⟩
 have E: ∀{x:AObj},x.rw=true->x.live=true:=by intro x hx;cases x<;>simp_all[AObj.rw,AObj.live]
 rcases Emb.set_inv cb with⟨e1,f1⟩|⟨a1,an⟩<;>rcases Emb.set_inv cc with⟨e2,f2⟩|⟨a2,ax⟩
 ·exact absurd (e1.trans e2.symm) T
 ·obtain⟨n2,g2⟩:=old b2 o2 a2 Z b3;rw[f1,hl];exact h.inj b b2 l l2 o o2 (Ne.symm n2) V ax ho g2 hr Z
 ·obtain⟨n1,g1⟩:=old b1 o1 a1 (E Y) b0;rw[f2,hl];exact fun e=>h.inj b b1 l l1 o o1 (Ne.symm n1) V an ho g1 hr (E Y) e.symm
 obtain⟨_,g1⟩:=old b1 o1 a1 (E Y) b0
 obtain⟨_,g2⟩:=old b2 o2 a2 Z b3
 exact h.inj b1 b2 l1 l2 o1 o2 T an ax g1 g2 Y Z
end Go.R
set_option linter.unusedVariables false
namespace Go.R
section pure_
variable {α β:Type} (P:Program)
theorem cu{s:Sem α}{a:α}(h:aw P s=some a)(w:World):s.run P w= .ok a w:=by
 induction s with
 |pure x=>simp only[aw,a00]at h;subst h;rfl
 |program k ih=>simp only[aw]at h;simp only[Sem.run];exact ih _ h
 |mark m k ih=>simp only[aw]at h;simp only[Sem.run];exact ih h
 |_=>simp[aw]at h
@[simp] theorem aF(x:Sem α)(f:α->Sem β):aw P (x>>=f)=(aw P x).bind fun a=>aw P (f a):=by
 show aw P (x.bind f)=_;induction x with
 |program k ih=>simp only[Sem.bind,aw];exact ih _
 |mark m k ih=>simp only[Sem.bind,aw];exact ih
 |pure a=>rfl
 |_=>rfl
@[simp] theorem bA(a:α):aw P (Pure.pure a:Sem α)=some a:=rfl
@[simp] theorem d6:aw P program=some P:=rfl
@[simp] theorem pureRun_stuck(h:String):aw P (stuck h:Sem α)=none:=rfl
@[simp] theorem pureRun_unsupported(u:Unsupported):aw P (unsupported u:Sem α)=none:=rfl
@[simp] theorem pureRun_goPanic(v:Value):aw P (goPanic v:Sem α)=none:=rfl
@[simp] theorem pureRun_choose(q:Question):aw P (choose q)=none:=rfl
@[simp] theorem pureRun_mark(m:Mark):aw P (mark m)=some ():=rfl
theorem pureRun_ite(c:Prop) [Decidable c](x y:Sem α):aw P (if c then x else y)=if c then aw P x else aw P y:=by split<;>rfl
@[simp] theorem bw(t:TypeId):aw P (underlying t)=P.underlying t:=by unfold underlying;simp only[aF,d6,a0e];cases P.underlying t<;>rfl
@[simp] theorem dJ(t:TypeId):aw P (typeInfo t)=P.info? t:=by unfold typeInfo;simp only[aF,d6,a0e];cases P.info? t<;>rfl
@[simp] theorem cG(t:TypeId):aw P (sizeOf t)=ei P t:=by unfold sizeOf ei;simp only[aF,dJ];cases P.info? t<;>rfl
@[simp] theorem eH(t:TypeId):aw P (isAgg t)=fC P t:=by
 unfold isAgg fC;simp only[aF,bw];cases P.underlying t with
 |none=>rfl
 |some d=>cases d<;>rfl
theorem fy(e:RuntimeError):aw P (runtimePanic e:Sem α)=none:=by unfold runtimePanic;cases e<;>simp[newVar,newRow,newObj,aw,elemOf]<;>(intros;split<;>simp[aw])
theorem fO(k:IntKind)(x y:Int)(c:BoundsCode):aw P (boundsPanic k x y c:Sem α)=none:=by unfold boundsPanic;simp[fy,pureRun_ite]
end pure_
section runs
variable {P:Program} (w:World)
theorem aT{t:TypeId}{n:Nat}(h:ei P t=some n):(sizeOf t).run P w= .ok n w:=cu P (by rw[cG];exact h) w
theorem jy{t:TypeId}{b:Bool}(h:fC P t=some b):(isAgg t).run P w= .ok b w:=cu P (by rw[eH];exact h) w
theorem dS{t:TypeId}{i:TypeInfo}(h:P.info? t=some i):(typeInfo t).run P w= .ok i w:=cu P (by rw[dJ];exact h) w
theorem ap{t:TypeId}{d:TypeDesc}(h:P.underlying t=some d):(underlying t).run P w= .ok d w:=cu P (by rw[bw];exact h) w
theorem d4{t:TypeId}{z:List Value}(h:dK P t=some z): ∃i v,P.info? t=some i/\i.zero=some v/\v.cells.toList=z/\z.all cJ=true:=by
 unfold dK at h;split at h
 ·rename_i i hi;split at h
  ·rename_i v A;cases hc:v.cells.toList.all cJ with
   |false=>rw[hc]at h;cases h
   |true=>rw[hc]at h;simp at h;subst h;exact⟨i,v,hi,A,rfl,hc⟩
  cases h
 cases h
theorem dR{t:TypeId}{i:TypeInfo}{v:Value}(hi:P.info? t=some i)(h:i.zero=some v):(zeroValue t).run P w= .ok v w:=by unfold zeroValue;simp[dS w hi,h]
end runs
section mem
variable {P:Program} {μ:Emb} {H:Heap} {w:World}
theorem hL(h:WRel μ H w){b o:Nat}{l:Loc}{v:Value}(U:μ b=some l)(z:H.cellAt ⟨b,o,none⟩=some v):
  ∃v',w.cell? ⟨l.c,l.sh+o,none⟩=some v'/\VRel μ v v':=by
 simp only[Heap.cellAt,gk]at z
 split at z
 ·rename_i cs an Z V;have E:=h.obj b l _ U V;cases Z with
  |true=>exact E.2.2.2 o v z
  |false=>
   obtain⟨_,al,e,Y,_,_,T⟩:=E
   obtain⟨v',O,A⟩:=T o v z
   exact⟨v',by simp only[World.cell?,Y];simpa using O,A⟩
 cases z
theorem cH(c o j:Nat):Addr.add ⟨c,o,none⟩ j=⟨c,o+j,none⟩:=by
 unfold Addr.add;split
 ·subst_vars;rfl
 rfl
theorem iZ(h:WRel μ H w){b o n:Nat}{l:Loc}{vs:List Value}(hb:μ b=some l)(z:H.loadN ⟨b,o,none⟩ n=some vs):
  ∃Z,(loadCells ⟨l.c,l.sh+o,none⟩ n).run P w= .ok ⟨Z⟩ w/\LRel μ vs Z/\vs.length=n:=by
 simp only[Heap.loadN,bT,cn,bC]at z
 split at z
 ·rename_i cs a8 ro hg;cases hq:Nat.beq ((cs.drop o).take n).length n with
  |false=>rw[hq]at z;cases z
  |true=>
   rw[hq]at z;simp only[cond_true,a00]at z
   have E:((cs.drop o).take n).length=n:=a04 hq
   have a0: ∀j,j<n->∃v v',cs[o+j]?=some v/\w.cell? ⟨l.c,l.sh+o+j,none⟩=some v'/\VRel μ v v':=by
    intro j U;have Y:o+j<cs.length:=by rw[a0q,a0f]at E;omega
    have al:H.cellAt ⟨b,o+j,none⟩=some cs[o+j]:=by simp only[Heap.cellAt,hg,gk];exact a09 Y
    obtain⟨v',hc,hr⟩:=hL h hb al;exact⟨_,v',a09 Y,by rw[←hc,a0X],hr⟩
   have T: ∃f:Nat->Value,∀j,j<n->w.cell? (Addr.add ⟨l.c,l.sh+o,none⟩ j)=some (f j)/\∀v,cs[o+j]?=some v->VRel μ v (f j):=by refine⟨fun j=>(w.cell? ⟨l.c,l.sh+o+j,none⟩).getD undef,fun j U=>?_⟩;obtain⟨v,v',A,O,h3⟩:=a0 j U;simp only[cH,O,a1e];refine⟨trivial,fun u V=>?_⟩;rw[A]at V;injection V with V;subst V;exact h3
   obtain⟨f,T⟩:=T
   refine⟨(List.range n).map f,run_loadCells w _ n f (fun j U=>(T j U).1),?_,by rw[←z];exact E⟩
   subst z
   refine⟨by rw[E];simp,fun i v v' A O=>?_⟩
   rw[a0G]at A
   split at A
   ·rename_i hi;rw[a0W]at A;simp[hi]at O;subst O;exact(T i hi).2 v A
   cases A
 cases z
theorem fV(h:WRel μ H w){b o:Nat}{l:Loc}{t:TypeId}{v:Value}(T:μ b=some l)(z:H.loadV P t ⟨b,o,none⟩=some v):
  ∃v',(loadVar t ⟨l.c,l.sh+o,none⟩).run P w= .ok v' w/\VRel μ v v':=by
 unfold Heap.loadV at z
 split at z
 ·rename_i E;split at z
  ·rename_i n Y;split at z
   ·rename_i vs V;injection z with z;subst z;obtain⟨U,O,A,_⟩:=iZ (P:=P) h T V;refine⟨.agg ⟨U⟩,?_,.agg _ _ A.1 A.2⟩;simp[loadVar,jy w E,aT w Y,O]
   cases z
  cases z
 ·rename_i E;obtain⟨v',hc,Z⟩:=hL h T z;refine⟨v',?_,Z⟩;simp[loadVar,jy w E,hc]
 cases z
theorem iX{α:Type}(l:List α)(k:Nat):(Array.mk l)[k]?=l[k]?:=by simp
theorem iT: ∀(cs z:List Value),z.length<=cs.length->(over cs z).length=cs.length
 | [],[],_=>rfl
 | [],_::_,h=>by simp at h
 |_::_,[],_=>rfl
 |c::cs,v::z,h=>by simp only[over,a07];rw[iT cs z (by simpa using h)]
theorem over_get: ∀(cs z:List Value) (i:Nat),z.length<=cs.length->(over cs z)[i]?=if i<z.length then z[i]? else cs[i]?
 | [],[],i,_=>by simp[over]
 | [],_::_,_,h=>by simp at h
 |_::_,[],i,_=>by simp[over]
 |c::cs,v::z,0,_=>by simp[over]
 |c::cs,v::z,i+1,h=>by simp[over,over_get cs z i (by simpa using h)]
theorem cW: ∀(cs:List Value) (o:Nat) (z:List Value),o+z.length<=cs.length->(bW cs o z).length=cs.length
 |cs,0,z,h=>by cases cs<;>exact iT _ _ (by omega)
 | [],o+1,z,h=>by simp[bW]
 |c::cs,o+1,z,h=>by simp only[bW,a07];rw[cW cs o z (by simp at h;omega)]
theorem cx: ∀(cs:List Value) (o:Nat) (z:List Value) (i:Nat),o+z.length<=cs.length->
  (bW cs o z)[i]?=if o<=i/\i<o+z.length then z[i-o]? else cs[i]?
 |cs,0,z,i,h=>by
  have:bW cs 0 z=over cs z:=by cases cs<;>rfl
  rw[this,over_get cs z i (by omega)];simp
 | [],o+1,z,i,h=>by simp at h
 |c::cs,o+1,z,0,h=>by simp[bW]
 |c::cs,o+1,z,i+1,h=>by
  simp only[bW,a1k];rw[cx cs o z i (by simp at h;omega)];by_cases hc:o<=i/\i<o+z.length
  ·rw[if_pos hc,if_pos (by omega)];congr 1;omega
  rw[if_neg hc,if_neg (by omega)]
theorem cZ(c:Nat)(e:TypeId): ∀(z:List Value) (w:World) (h:Array Value) (o i:Nat),w.heap[c]?=some (.cells h e (0,0))->
  o+i+z.length<=h.size->z.all Value.oneCell'=true->z≠ []->
  (storeCells ⟨c,o,none⟩ z i).run P w= .ok () (be w c (.cells ⟨bW h.toList (o+i) z⟩ e (0,0)))
 | [],_,_,_,_,_,_,_,hne=>absurd rfl hne
 |v::z,w,h,o,i,hh,hl,hall,_=>by
  simp only[a0J,a03]at hall;simp only[a07]at hl;have E:w.cell? ⟨c,o+i,none⟩=some (h[o+i]'(by omega)):=by simp[World.cell?,hh,show o+i<h.size by omega]
  have U:w.frozen? ⟨c,o+i,none⟩=false:=by simp[World.frozen?,hh]
  have T:w.setCell ⟨c,o+i,none⟩ v=be w c (.cells (h.setIfInBounds (o+i) v) e (0,0)):=by
   unfold World.setCell be;congr 1;apply a1h;intro k;by_cases A:c=k
   ·subst A;rw[Array.getElem?_modify,if_pos rfl,hh,a0M,if_pos rfl,if_pos (cC hh)];simp
   simp[Array.getElem?_modify,A,a1a A]
  have Z:(storeCells ⟨c,o,none⟩ (v::z) i).run P w=(storeCells ⟨c,o,none⟩ z (i+1)).run P (be w c (.cells (h.setIfInBounds (o+i) v) e (0,0))):=by simp only[storeCells,Sem.run_bind,cH];rw[run_store P w _ v _ hall.1,E];simp[U,T]
  rw[Z];by_cases Y:z=[]
  ·subst Y;simp only[storeCells,Sem.run_pure];congr 3;apply a1h;intro k;simp only[List.length_nil]at hl;rw[a0M];refine Eq.trans ?_ (iX _ _).symm;rw[cx _ _ _ _ (by simp;omega)];by_cases A:o+i=k
   ·subst A;rw[if_pos rfl,if_pos (by omega),if_pos (by simp)];simp
   rw[if_neg A,if_neg (by simp;omega)];simp
  have V:(be w c (.cells (h.setIfInBounds (o+i) v) e (0,0))).heap[c]?=some (.cells (h.setIfInBounds (o+i) v) e (0,0)):=cy w _ (cC hh);rw[cZ c e z _ _ o (i+1) V (by simp;omega) hall.2 Y];congr 1;have: ∀(x y:Obj),be (be w c x) c y=be w c y:=by intro x y;simp[be]
  rw[this];congr 2;apply a1h;intro k;refine(iX _ _).trans (Eq.trans ?_ (iX _ _).symm);rw[cx _ _ _ _ (by simp;omega),cx _ _ _ _ (by simp;omega)];by_cases A:o+i=k
  ·subst A;rw[if_neg (by omega),if_pos (by simp)];simp[show o+i<h.size by omega]
  by_cases O:o+(i+1)<=k/\k<o+(i+1)+z.length
  ·rw[if_pos O,if_pos (by simp;omega)];rw[show k-(o+i)=(k-(o+(i+1)))+1 by omega,a1k]
  rw[if_neg O,if_neg (by simp;omega)];simp[A]
theorem eT(h:WRel μ H w){b o:Nat}{l:Loc}{E z:List Value}{H':Heap}(hb:μ b=some l)(hs:H.storeL ⟨b,o,none⟩ E=some H')(O:LRel μ E z):
  ∃w',(storeCells ⟨l.c,l.sh+o,none⟩ z).run P w= .ok () w'/\Post μ H w μ H' w':=by
 simp only[Heap.storeL,bC,kL,Nat.add_eq]at hs
 split at hs
 ·rename_i cs b2 hg;cases Y:(Nat.ble (o+E.length) cs.length&&E.all Value.oneCell') with
  |false=>rw[Y]at hs;cases hs
  |true=>
   rw[Y]at hs;simp only[cond_true,a00]at hs
   simp only[a03]at Y
   have U:o+E.length<=cs.length:=a0a Y.1
   obtain⟨r1,A,e,T,r2,r3,r4⟩:=h.obj b l _ hb hg
   have V:=O.1
   have a2:z.all Value.oneCell'=true:=by
    rw[a0o];intro x hx;obtain⟨i,hi⟩:=List.getElem?_of_mem hx;have ax:i<E.length:=by rw[V];exact(a0m.1 hi).1
    have Z:=O.2 i E[i] x (a09 ax) hi;rw[Z.oneCell];exact a0o.1 Y.2 _ (a0w ax)
   by_cases a0:z=[]
   ·subst a0;have hv:E=[]:=by simpa using V
    subst hv;have a1:bW cs o []=cs:=by apply List.ext_getElem?;intro k;rw[cx _ _ _ _ (by simpa using U),if_neg (by simp)]
    subst hs;refine⟨be w l.c (.cells A e (0,0)),?_,?_⟩
    ·have:be w l.c (.cells A e (0,0))=w:=by
      unfold be;congr 1;apply a1h;intro k;by_cases hk:l.c=k
      ·subst hk;rw[a0M,if_pos rfl,if_pos (cC T),T]
      rw[a1a hk]
     rw[this];rfl
    refine Post.put h hb hg rfl _ rfl _ ⟨r1,A,e,cy w _ (cC T),r2,by rw[a1];exact r3,fun i v hi=>r4 i v (by rw[a1]at hi;exact hi)⟩
   subst hs
   refine⟨_,by simpa using cZ (P:=P) l.c e z w A (l.sh+o) 0 T (by omega) a2 a0,?_⟩
   refine Post.put h hb hg rfl _ rfl _ ⟨r1,_,e,cy w _ (cC T),?_,?_,?_⟩
   ·rw[←r2];show(bW A.toList (l.sh+o) z).length=_;rw[cW _ _ _ (by simp;omega)];simp
   ·rw[cW _ _ _ U];exact r3
   intro i v hi
   rw[cx _ _ _ _ U]at hi
   have mg: ∀v':Value,(bW A.toList (l.sh+o) z)[l.sh+i]?=some v'->(Array.mk (bW A.toList (l.sh+o+0) z))[l.sh+i]?=some v':=fun v' hv=>(iX _ _).trans hv
   rw[cx _ _ _ _ (by simp;omega)]at mg
   by_cases hc:o<=i/\i<o+E.length
   ·rw[if_pos hc]at hi;rw[if_pos (by omega)]at mg;obtain⟨v',al,Z⟩:=O.get hi;exact⟨v',mg v' (by rw[←al];congr 1;omega),Z⟩
   rw[if_neg hc]at hi
   rw[if_neg (by omega)]at mg
   obtain⟨v',al,Z⟩:=r4 i v hi
   exact⟨v',mg v' (by simpa using al),Z⟩
 cases hs
theorem cO(h:WRel μ H w)(U:μ H.next=none)(e:TypeId){cs A:List Value}(O:LRel μ cs A)(z:List Value)(E:Option Nat)(Y:E=none->z=[]):
  ∃l,l.c=w.heap.size/\l.sh=0/\l.opn=E/\l.csz=cs.length+z.length/\
  (newRow e ⟨A++z⟩).run P w= .ok ⟨w.heap.size,0,none⟩ (w.alloc (.cells ⟨A++z⟩ e))/\
   Post μ H w (μ.set H.next l) (aO H cs E) (w.alloc (.cells ⟨A++z⟩ e)):=by
 refine⟨⟨w.heap.size,0,E,cs.length+z.length⟩,rfl,rfl,rfl,rfl,by simp[newRow],?_⟩
 refine Post.push h U _ rfl _ _ ⟨rfl,_,e,km w _,by simp[O.1],by simp,fun i v hi=>?_⟩
 obtain⟨v',T,V⟩:=O.get hi
 refine⟨v',?_,V.mono (Emb.set_ext _ U)⟩
 have:i<A.length:=(a0m.1 T).1
 simp only[a0Y,iX]
 rw[a0S this];exact T
end mem
end Go.R
namespace Go.R
def ANRel(μ:Emb):AN->Next->Prop
 | .val v,.value v'=>VRel μ v v'
 | .skip,.skip=>True
 | .enter f args,.enter f' args'=>f=f'/\LRel μ args args'.toList
 |_,_=>False
theorem gR(bs:ByteArray): ∀(n i:Nat) (r:List UInt8),bs.size-i=n->ByteArray.toList.loop bs i r=r.reverse++bs.data.toList.drop i:=by
 intro n;induction n with
 |zero=>
  intro i r h
  rw[ByteArray.toList.loop,if_neg (by omega),a1m (by simp only[a1w,ByteArray.size_data];omega),a0N]
 |succ n ih=>
  intro i r h
  have hi:i<bs.size:=by omega
  rw[ByteArray.toList.loop,if_pos hi,ih (i+1) _ (by omega)]
  have z:i<bs.data.toList.length:=by simpa using hi
  rw[a0T z]
  simp[ByteArray.get!,hi]
theorem cQ(bs:ByteArray):bs.toList=bs.data.toList:=by unfold ByteArray.toList;rw[gR bs _ 0 [] rfl];simp
section
variable {P:Program} {μ:Emb}
theorem da{ρ ρ':Operand->Value}{o:Oper}{H H':Heap}{r:AN}(h:bg P ρ o H=some (r,H'))(hs: ∀cs b,o.op≠ .select cs b)
  (U: ∀x∈o.op.operands,VRel μ (ρ x) (ρ' x)):H'=H/\∃v v',r= .val v/\(∀w,(execOp ρ' o).run P w= .ok (.value v') w)/\VRel μ v v':=by
 unfold bg at h
 cases A:o.op.operands.toList.all fun x=>gY (ρ x) with
 |false=>rw[A]at h;cases h
 |true=>
  rw[A]at h
  have O:execOp ρ' o=execOp ρ o:=execOp_congr o hs fun x E=>(U x E).eq1 (a0o.1 A x (by simpa using E))
  simp only[cond_true]at h
  split at h
  ·rename_i v T;cases z:noA2 v with
   |false=>rw[z]at h;cases h
   |true=>
    rw[z]at h;simp only[cond_true,a00,a02]at h
    obtain⟨rfl,rfl⟩:=h
    exact⟨rfl,v,v,rfl,fun w=>by rw[O];exact cu P T w,VRel.refl2 z⟩
  cases h
theorem i0{s:Sem Value}{H H':Heap}{r:AN}(h:lift P s H=some (r,H')):H'=H/\∃v,r= .val v/\aw P s=some v:=by
 unfold lift at h;split at h
 ·rename_i v z;simp only[a00,a02]at h;exact⟨h.2.symm,v,h.1.symm,z⟩
 cases h
theorem intBin_sound{op:BinOp}{k:IntKind}{a b:Int}{v:Value}(h:jG op k a b=some v)(t:TypeId)(w:World):
  (binOp op t (.int k a) (.int k b)).run P w= .ok v w/\cJ v=true:=by
 cases op<;>simp only[jG,a00,reduceCtorEq]at h
 case quo=>
  cases z:(b==0) with
  |true=>rw[z]at h;cases h
  |false=>
   rw[z]at h;simp only[cond_false,a00]at h;subst h
   have A: ¬b=0:=by simpa using z
   simp[binOp_quo,Op.intDiv,A,cJ]
 case rem=>
  cases z:(b==0) with
  |true=>rw[z]at h;cases h
  |false=>
   rw[z]at h;simp only[cond_false,a00]at h;subst h
   have A: ¬b=0:=by simpa using z
   simp[binOp_rem,Op.intDiv,A,cJ]
 all_goals subst h
 case add=>simp[binOp_add,Op.intArith,cJ]
 case sub=>simp[binOp_sub,Op.intArith,cJ]
 case mul=>simp[binOp_mul,Op.intArith,cJ]
 case and=>simp[binOp_and,intBits_and,cJ,cR]
 case or=>simp[binOp_or,intBits_or,cJ,cR]
 case xor=>simp[binOp_xor,intBits_xor,cJ,cR]
 case andNot=>simp[binOp_andNot,intBits_andNot,cJ,cR]
 case eql=>simp[binOp_eql,cJ]
 case neq=>simp[binOp_neq,cJ]
 case lss=>simp[binOp_lss,cJ]
 case leq=>simp[binOp_leq,cJ]
 case gtr=>simp[binOp_gtr,cJ]
 case geq=>simp[binOp_geq,cJ]
theorem shBin_sound{op:BinOp}{k A:IntKind}{a b:Int}{v:Value}(h:shBin op k a b=some v)(t:TypeId)(w:World):
  (binOp op t (.int k a) (.int A b)).run P w= .ok v w/\cJ v=true:=by
 cases op<;>simp only[shBin,reduceCtorEq]at h
 all_goals
  cases b with
  |negSucc n=>simp[shiftN]at h
  |ofNat n=>
   simp only[shiftN,a00]at h;subst h
   have z: ¬((n:Int)<0):=by omega
   simp[binOp_shl,binOp_shr,Op.shift,z,cJ,Nat.min_def]
theorem iJ{op:BinOp}{t:TypeId}{a b:ByteArray}{v:Value}(h:strOp op a b=some v)(w:World):
  (binOp op t (.string a) (.string b)).run P w= .ok v w/\cJ v=true:=by
 have E:binOp op t (.string a) (.string b)=Op.stringOp op a b:=by cases op<;>rfl
 rw[E]
 unfold strOp at h
 split at h
 ·injection h with h;subst h;simp[Op.stringOp,cQ,de,cJ]
 ·injection h with h;subst h;simp[Op.stringOp,cQ,de,cJ]
 ·injection h with h;subst h;simp[Op.stringOp,cQ,cJ]
 ·injection h with h;subst h;simp[Op.stringOp,cQ,de,cJ]
 ·injection h with h;subst h;simp[Op.stringOp,cQ,de,cJ]
 ·injection h with h;subst h;simp[Op.stringOp,cQ,cJ]
 ·simp only[dr,bC]at h;cases z:Nat.ble (a.data.toList++b.data.toList).length 1099511627776 with
  |false=>rw[z]at h;cases h
  |true=>
   rw[z]at h;simp only[cond_true,a00]at h;subst h
   have A:=a0a z
   simp only[a01,a1w,ByteArray.size_data]at A
   refine⟨?_,rfl⟩
   have O: ¬(((a.size+b.size:Nat):Int)>IntKind.i64.max):=by rw[IntKind.max_i64];omega
   simp only[Op.stringOp,if_neg O,Sem.run_pure]
   congr 2
 cases h
theorem jE{a:Option Addr}{v':Value}(h:VRel μ (.pointer a) v'): ∃z,v'= .pointer z/\z.isNone=a.isNone:=by
 cases h with
 |atom _ h0=>exact⟨a,rfl,rfl⟩
 |ptr b o l hb=>exact⟨_,rfl,rfl⟩
theorem cP{a:Option Addr}{n k:Nat}{v':Value}(h:VRel μ (.slice a n k) v'): ∃z A,v'= .slice z n A/\z.isNone=a.isNone:=by
 cases h with
 |atom _ h0=>exact⟨a,k,rfl,rfl⟩
 |sliceC b o n k l hb ho=>exact⟨_,_,rfl,rfl⟩
 |sliceO b o o' n k A e l hb ho h1 h2 h3 h4=>exact⟨_,_,rfl,rfl⟩
 |sliceZ b o a l hb=>exact⟨_,_,rfl,rfl⟩
theorem jF{a:Option Nat}{v':Value}(h:VRel μ (.map a) v'): ∃z,v'= .map z/\z.isNone=a.isNone:=by
 cases h with
 |atom _ h0=>exact⟨a,rfl,rfl⟩
 |map b l hb=>exact⟨_,rfl,rfl⟩
theorem dX{t:TypeId}{x y:Value}{w:World}{b:Bool}(h: ∀d,(Op.equalIn (d+1) t x y).run P w= .ok b w):(Op.equal t x y).run P w= .ok b w:=h 9999
theorem iU{t:TypeId}{x y T U:Value}{b:Bool}(h:nilEq P t x y=some b)(E:VRel μ x T)(O:VRel μ y U)(w:World):
  (Op.equal t T U).run P w= .ok b w/\(∀op u v,eqGuard op t u v T U=pure ())/\(∀op,op= .eql\/op= .neq->binOp op t T U=(match op with
   | .eql=>do pure (.bool (←Op.equal t T U))
   |_=>do pure (.bool (!(←Op.equal t T U))))):=by
 unfold nilEq at h
 split at h
 ·rename_i e b0 A;obtain rfl:=E.eq0 rfl;obtain⟨b',rfl,Z⟩:=jE O;injection h with h;subst h;refine⟨?_,fun op u v=>by cases op<;>rfl,fun op z=>by rcases z with rfl|rfl<;>rfl⟩;exact dX fun d=>by simp[Op.equalIn,ap w A,Z]
 ·rename_i e a0 A;obtain rfl:=O.eq0 rfl;obtain⟨V,rfl,Y⟩:=jE E;injection h with h;subst h;refine⟨?_,fun op u v=>by cases op<;>rfl,fun op z=>by rcases z with rfl|rfl<;>rfl⟩;exact dX fun d=>by cases V<;>simp[Op.equalIn,ap w A,←Y]
 ·rename_i e n k b0 n2 k2 A;obtain⟨rfl,rfl,rfl⟩:=E.sliceNil_inv;obtain⟨b',k',rfl,Z⟩:=cP O;injection h with h;subst h;refine⟨?_,fun op u v=>by cases op<;>rfl,fun op z=>by rcases z with rfl|rfl<;>rfl⟩;exact dX fun d=>by simp[Op.equalIn,ap w A,Z]
 ·rename_i e a0 n k n2 k2 A;obtain⟨rfl,rfl,rfl⟩:=O.sliceNil_inv;obtain⟨V,k',rfl,Y⟩:=cP E;injection h with h;subst h;refine⟨?_,fun op u v=>by cases op<;>rfl,fun op z=>by rcases z with rfl|rfl<;>rfl⟩;exact dX fun d=>by cases V<;>simp[Op.equalIn,ap w A,←Y]
 ·rename_i e1 e2 b0 A;obtain rfl:=E.eq0 rfl;obtain⟨b',rfl,Z⟩:=jF O;injection h with h;subst h;refine⟨?_,fun op u v=>by cases op<;>rfl,fun op z=>by rcases z with rfl|rfl<;>rfl⟩;exact dX fun d=>by simp[Op.equalIn,ap w A,Z]
 ·rename_i e1 e2 a0 A;obtain rfl:=O.eq0 rfl;obtain⟨V,rfl,Y⟩:=jF E;injection h with h;subst h;refine⟨?_,fun op u v=>by cases op<;>rfl,fun op z=>by rcases z with rfl|rfl<;>rfl⟩;exact dX fun d=>by cases V<;>simp[Op.equalIn,ap w A,←Y]
 ·rename_i ps rs va A;obtain rfl:=E.eq0 rfl;obtain rfl:=O.eq0 rfl;injection h with h;subst h;refine⟨?_,fun op u v=>by cases op<;>rfl,fun op z=>by rcases z with rfl|rfl<;>rfl⟩;exact dX fun d=>by simp[Op.equalIn,ap w A]
 ·rename_i ps rs va fn xs ys A;obtain rfl:=E.eq0 rfl;obtain⟨a2,a3,rfl,_,_⟩:=O.func_inv;injection h with h;subst h;refine⟨?_,fun op u v=>by cases op<;>rfl,fun op z=>by rcases z with rfl|rfl<;>rfl⟩;exact dX fun d=>by simp[Op.equalIn,ap w A]
 ·rename_i ps rs va fn xs ys A;obtain rfl:=O.eq0 rfl;obtain⟨a2,a3,rfl,_,_⟩:=E.func_inv;injection h with h;subst h;refine⟨?_,fun op u v=>by cases op<;>rfl,fun op z=>by rcases z with rfl|rfl<;>rfl⟩;exact dX fun d=>by simp[Op.equalIn,ap w A]
 cases h
theorem part_rel{t:TypeId}{cs A:Array Value}{z:Nat}{v:Value}(T:LRel μ cs.toList A.toList)(h:aw P (part t cs z)=some v):
  ∃v',aw P (part t A z)=some v'/\VRel μ v v':=by
 unfold part at h⊢
 simp only[aF,eH]at h⊢
 cases O:fC P t with
 |none=>rw[O]at h;simp at h
 |some g=>
  rw[O]at h
  cases g with
  |true=>
   simp only[a0e,if_true,aF,cG]at h⊢
   cases hs:ei P t with
   |none=>rw[hs]at h;simp at h
   |some n=>
    rw[hs]at h
    simp only[a0e,bA,a00]at h⊢
    subst h
    refine⟨_,rfl,?_⟩
    have:=(T.take (z+n)).drop z
    have ex: ∀c:Array Value,(c.extract z (z+n)).toList=(c.toList.take (z+n)).drop z:=fun c=>by simp[List.drop_take]
    exact .agg _ _ (by rw[ex,ex];exact this.1) (by rw[ex,ex];exact this.2)
  |false=>
   simp only[a0e,a0d,if_false]at h⊢
   cases hc:cs[z]? with
   |none=>rw[hc]at h;simp at h
   |some u=>
    rw[hc]at h
    simp only[bA,a00]at h;subst h
    obtain⟨v',U,E⟩:=T.get (i:=z) (v:=u) (by simpa using hc)
    refine⟨v',?_,E⟩
    have:A[z]?=some v':=by simpa using U
    rw[this];rfl
theorem field_rel{t:TypeId}{x E:Value}{f:Nat}{v:Value}(T:VRel μ x E)(h:aw P (Instr.field t x f)=some v):
  ∃v',aw P (Instr.field t E f)=some v'/\VRel μ v v':=by
 unfold Instr.field at h⊢
 simp only[aF,bw]at h⊢
 cases A:P.underlying t with
 |none=>rw[A]at h;simp at h
 |some d=>
  rw[A]at h
  simp only[a0e]at h⊢
  cases d with
  |struct fields=>
   simp only at h⊢
   cases z:fields[f]? with
   |none=>rw[z]at h;simp at h
   |some fd=>
    rw[z]at h
    simp only[aF]at h⊢
    cases x with
    |agg cs=>
     obtain⟨U,rfl,O⟩:=T.agg_inv
     simp only[asAgg,bA,a0e]at h⊢
     exact part_rel O h
    |_=>simp[asAgg]at h
  |_=>simp at h
theorem index_rel{t:TypeId}{x T i O:Value}{v:Value}(V:VRel μ x T)(hi:VRel μ i O)(A: ∀s,x≠ .string s)(h:aw P (Instr.index t x i)=some v):
  ∃v',aw P (Instr.index t T O)=some v'/\VRel μ v v':=by
 cases i with
 |int k n=>
  obtain rfl:=hi.int_inv
  unfold Instr.index at h⊢
  simp only[asIntOf,aF,bA,a0e,bw]at h⊢
  cases E:P.underlying t with
  |none=>rw[E]at h;simp at h
  |some d=>
   rw[E]at h
   simp only[a0e]at h⊢
   cases d with
   |array len e=>
    cases x with
    |agg cs=>
     obtain⟨Y,rfl,U⟩:=V.agg_inv
     simp only at h⊢
     by_cases z:0<=n/\n<(len:Int)
     ·rw[if_pos z]at h⊢;simp only[aF,cG]at h⊢;cases hs:ei P e with
      |none=>rw[hs]at h;simp at h
      |some sz=>rw[hs]at h;simp only[a0e]at h⊢;exact part_rel U h
     rw[if_neg z,fO]at h;cases h
    |_=>simp at h
   |string=>
    cases x with
    |string s=>exact absurd rfl (A s)
    |_=>simp at h
   |_=>simp at h
 |pointer a=>cases a<;>simp[Instr.index,asIntOf]at h
 |_=>simp[Instr.index,asIntOf]at h
theorem gr: ∀(l l':List Value) (s z:Nat) (A T:Array Value),LRel μ l l'->LRel μ A.toList T.toList->
  LRel μ ((l.zipIdx s).foldl (fun cs p=>cs.setIfInBounds (z+p.2) p.1) A).toList ((l'.zipIdx s).foldl (fun cs p=>cs.setIfInBounds (z+p.2) p.1) T).toList
 | [],l',s,z,A,T,h,hA=>by rw[h.nil_left];exact hA
 |v::l,l',s,z,A,T,h,hA=>by
  obtain⟨v',Z,rfl,Y,V⟩:=h.cons_left;simp only[List.zipIdx_cons,List.foldl_cons];refine gr l Z (s+1) z _ _ V ⟨by simpa using hA.1,fun i x x' E O=>?_⟩;simp only[Array.toList_setIfInBounds,List.getElem?_set]at E O;have U:=hA.1;by_cases hi:z+s=i
  ·rw[if_pos hi]at E O;split at E
   ·rename_i an;rw[if_pos (by omega)]at O;injection E with E;injection O with O;subst E O;exact Y
   cases E
  rw[if_neg hi]at E O;exact hA.2 i x x' E O
theorem iv{z:Nat->Option (Nat×Nat)}: ∀(ps ps':List (Nat×Value)) (A A':Array Value) (r:Array Value),ps.length=ps'.length->
  (∀(i:Nat) x O,ps[i]?=some x->ps'[i]?=some O->x.1=O.1/\VRel μ x.2 O.2)->LRel μ A.toList A'.toList->Instr.fill z A ps=some r->
  ∃r',Instr.fill z A' ps'=some r'/\LRel μ r.toList r'.toList
 | [],ps',A,A',r,hl,_,hA,h=>by have:ps'=[]:=a0i hl.symm;subst this;simp only[Instr.fill,a00]at h;subst h;exact⟨A',rfl,hA⟩
 |(i,v)::ps,ps',A,A',r,hl,hp,hA,h=>by
  cases ps' with
  |nil=>simp at hl
  |cons O ps'=>
   obtain⟨i',v'⟩:=O
   obtain⟨hi,Z⟩:=hp 0 (i,v) (i',v') rfl rfl
   simp only at hi Z;subst hi
   simp only[Instr.fill]at h⊢
   cases U:z i with
   |none=>rw[U]at h;cases h
   |some os=>
    obtain⟨E,size⟩:=os
    rw[U]at h
    simp only at h⊢
    have hc:=Z.cells
    have Y:v'.cells.size=v.cells.size:=by have:=hc.1;simpa using this.symm
    have V:A'.size=A.size:=by have:=hA.1;simpa using this.symm
    rw[Y,V]
    split at h
    ·cases h
    rename_i T
    rw[if_neg T]
    refine iv ps ps' _ _ r (by simpa using hl) (fun j x O h1 h2=>hp (j+1) x O (by simpa using h1) (by simpa using h2)) ?_ h
    have:=gr v.cells.toList v'.cells.toList 0 E A A' hc hA
    have e: ∀(u:Value) (B:Array Value),Array.foldl (fun cs x=>cs.setIfInBounds (E+x.snd) x.fst) B u.cells.zipIdx=List.foldl (fun cs p=>cs.setIfInBounds (E+p.snd) p.fst) B u.cells.toList.zipIdx:=fun u B=>by rw[←Array.foldl_toList,Array.toList_zipIdx]
    exact(e v A▸e v' A'▸this:LRel μ (Array.foldl (fun cs x=>cs.setIfInBounds (E+x.snd) x.fst) A v.cells.zipIdx).toList (Array.foldl (fun cs x=>cs.setIfInBounds (E+x.snd) x.fst) A' v'.cells.zipIdx).toList)
end
end Go.R
namespace Go.R
section
variable {P:Program} {μ:Emb}
theorem build_rel{t:TypeId}{ps ps':Array (Nat×Value)}{v:Value}(V:ps.toList.length=ps'.toList.length)
  (Z: ∀(i:Nat) x x',ps.toList[i]?=some x->ps'.toList[i]?=some x'->x.1=x'.1/\VRel μ x.2 x'.2)
  (hz:(dK P t).isSome=true) (h:aw P (Instr.build t ps)=some v):
  ∃v',aw P (Instr.build t ps')=some v'/\VRel μ v v':=by
 unfold Instr.build at h⊢
 have ax:aw P (zeroValue t)=(P.info? t).bind (·.zero):=by
  unfold zeroValue;simp only[aF,dJ];cases hi:P.info? t with
  |none=>rfl
  |some i=>simp only[a0e];cases i.zero<;>rfl
 simp only[aF,ax,bw]at h⊢
 cases hi:(P.info? t).bind (·.zero) with
 |none=>rw[hi]at h;simp at h
 |some z=>
  rw[hi]at h
  have T:LRel μ z.cells.toList z.cells.toList:=by obtain⟨zl,an⟩:=Option.isSome_iff_exists.1 hz;obtain⟨i,v0,h1,h2,h3,h4⟩:=d4 (P:=P) an;rw[h1]at hi;simp only[a0e,h2,a00]at hi;subst hi;exact LRel.refl0 (by rw[h3];exact h4)
  simp only[a0e]at h⊢
  cases hu:P.underlying t with
  |none=>rw[hu]at h;simp at h
  |some d=>
   rw[hu]at h
   simp only[a0e]at h⊢
   cases d with
   |struct fields=>
    simp only[aF]at h⊢
    cases Y:aw P (fields.mapM fun f=>do let y ←sizeOf f.type;Pure.pure (f.offset,y)) with
    |none=>rw[Y]at h;simp at h
    |some places=>
     rw[Y]at h
     simp only[a0e]at h⊢
     cases E:Instr.fill (fun x=>places[x]?) z.cells ps.toList with
     |none=>rw[E]at h;simp at h
     |some r=>
      rw[E]at h
      simp only[bA,a00]at h
      subst h
      obtain⟨U,O,A⟩:=iv _ _ _ _ _ V Z T E
      exact⟨.agg U,by rw[O];rfl,.agg _ _ A.1 A.2⟩
   |array n e=>
    simp only[aF,cG]at h⊢
    cases hs:ei P e with
    |none=>rw[hs]at h;simp at h
    |some sz=>
     rw[hs]at h
     simp only[a0e]at h⊢
     cases E:Instr.fill (fun i=>some (i *sz,sz)) z.cells ps.toList with
     |none=>rw[E]at h;simp at h
     |some r=>
      rw[E]at h
      simp only[bA,a00]at h
      subst h
      obtain⟨U,O,A⟩:=iv _ _ _ _ _ V Z T E
      exact⟨.agg U,by rw[O];rfl,.agg _ _ A.1 A.2⟩
   |_=>simp at h
theorem eB{v v':Value}{n:Nat}(h:asNat v=some n)(z:VRel μ v v'): ∃k,v'= .int k (n:Int):=by
 unfold asNat at h;split at h
 ·rename_i k m;injection h with h;subst h;exact⟨k,z.int_inv⟩
 cases h
theorem aField_sound{s:TypeId}{x O:Value}{f:Nat}{v:Value}(h:gB P s x f=some v)(Z:VRel μ x O):
  ∃v',(∀w,(Instr.fieldAt s O f).run P w= .ok v' w)/\VRel μ v v':=by
 unfold gB at h
 split at h
 ·rename_i fs b o Y;split at h
  ·rename_i A U;split at h
   ·rename_i n V;cases z:Nat.beq n 0 with
    |true=>rw[z]at h;cases h
    |false=>
     rw[z]at h;simp only[cond_false,a00]at h;subst h
     obtain⟨l,T,rfl⟩:=Z.ptr_inv
     have E: ¬n=0:=fun e=>by subst e;cases z
     refine⟨_,fun w=>?_,a0X l.sh o A.offset▸VRel.ptr b (o+A.offset) l T⟩
     simp[Instr.fieldAt,ap w Y,U,Instr.sureAddr,fieldPlace,aT w V,E,cH,a0X]
   cases h
  cases h
 cases h
theorem ic{t:TypeId}{x x' i Z:Value}{v:Value}(h:cS P t x i=some v)(Y:VRel μ x x')(hi:VRel μ i Z):
  ∃v',(∀w,(Instr.indexAt t x' Z).run P w= .ok v' w)/\VRel μ v v':=by
 unfold cS at h
 split at h
 ·rename_i e b o n k j E U;obtain⟨ik,rfl⟩:=eB U hi;split at h
  ·rename_i sz hs;cases z:(Nat.ble (j+1) n&&Nat.ble n k) with
   |false=>rw[z]at h;cases h
   |true=>
    rw[z]at h;simp only[cond_true,a00]at h;subst h
    simp only[a03]at z
    have h1:j+1<=n:=a0a z.1
    have h2:n<=k:=a0a z.2
    obtain⟨l,T,hc⟩:=Y.slice_inv
    have A:VRel μ (.pointer (some ⟨b,o+j *sz,none⟩)) (.pointer (some ⟨l.c,l.sh+o+j *sz,none⟩)):=
     a0X l.sh o (j *sz)▸VRel.ptr b (o+j *sz) l T
    have O:(j:Int)<(n:Int):=by omega
    rcases hc with⟨_,rfl⟩|⟨e',o',k',_,rfl,_,_,V,_⟩|⟨hz,_,_⟩
    rotate_right
    ·omega
    ·refine⟨_,fun w=>?_,A⟩;simp[Instr.indexAt,asIntOf,ap w E,aT w hs,cH];omega
    have ho:o'=l.sh+o:=V (by omega)
    subst ho
    refine⟨_,fun w=>?_,A⟩
    simp[Instr.indexAt,asIntOf,ap w E,aT w hs,cH]
    omega
  cases h
 ·rename_i n e b o j E U;obtain⟨ik,rfl⟩:=eB U hi;split at h
  ·rename_i sz hs;cases z:Nat.ble (j+1) n with
   |false=>rw[z]at h;cases h
   |true=>
    rw[z]at h;simp only[cond_true,a00]at h;subst h
    have h1:j+1<=n:=a0a z
    obtain⟨l,T,rfl⟩:=Y.ptr_inv
    refine⟨_,fun w=>?_,a0X l.sh o (j *sz)▸VRel.ptr b (o+j *sz) l T⟩
    have O:(j:Int)<(n:Int):=by omega
    have h0:(0:Int)<=(j:Int)/\(j:Int)<(n:Int):=⟨by omega,O⟩
    simp only[Instr.indexAt,asIntOf,ap w E,aT w hs,cH,Instr.sureAddr,Sem.run_bind,Sem.run_pure,Result.andThen_ok,if_pos h0,Int.toNat_natCast]
  cases h
 cases h
theorem strIndex_run{t:TypeId}{s:ByteArray}{k:IntKind}{j:Nat}{b:UInt8}(E:P.underlying t=some .string)(h:s.data.toList[j]?=some b)(w:World):
  (Instr.index t (.string s) (.int k (j:Int))).run P w= .ok (.int .u8 b.toNat) w:=by
 have z:j<s.size:=by have:=(a0m.1 h).1;simpa using this
 have A:s[j]?=some b:=by rw[getElem?_pos s j z];have:=(a0m.1 h).2;rw[←this];rfl
 simp[Instr.index,asIntOf,ap w E,A]
theorem iA{ops:Array Operand}{ρ ρ':Operand->Value}(h: ∀x∈ops,VRel μ (ρ x) (ρ' x)):LRel μ (ops.map ρ).toList (ops.map ρ').toList:=by refine⟨by simp,fun i v v' A E=>?_⟩;simp only[Array.toList_map,a1o,a1n]at A E;obtain⟨x,O,rfl⟩:=A;obtain⟨y,z,rfl⟩:=E;rw[O]at z;injection z with z;subst z;exact h x (by simpa using a0h O)
theorem kN{t:TypeId}{x O:Value}{f:Nat}{v:Value}(h:f8 P t x f=some v)(hx:VRel μ x O):
  ∃v',(∀w,(Instr.field t O f).run P w= .ok v' w)/\VRel μ v v':=by
 unfold f8 at h
 split at h
 ·rename_i cs;split at h
  ·rename_i g n a0 z;have Z:aw P (Instr.field t (.agg cs) f)=some v:=by
    unfold fieldAt? at z;split at z
    ·rename_i fs hu;split at z
     ·rename_i T A;split at z
      ·rename_i U n' V Y;simp only[a00,a02]at z;obtain⟨rfl,rfl,rfl⟩:=z;unfold Instr.field part;simp only[aF,bw,hu,a0e,A,asAgg,bA,eH,V];unfold partL at h;cases U with
       |true=>
        simp only[cond_true,a00,bT,cn]at h
        simp only[if_true,aF,cG,Y,a0e,bA,a00]
        subst h
        congr 1
        apply Array.ext'
        simp
       |false=>
        simp only[cond_false,gk]at h
        simp only[a0d,if_false]
        have hc:cs[T.offset]?=some v:=by simpa using h
        rw[hc];rfl
      cases z
     cases z
    cases z
   obtain⟨v',E,hr⟩:=field_rel hx Z;exact⟨v',fun w=>cu P E w,hr⟩
  cases h
 cases h
theorem cv{r:Option Value}{H H':Heap}{n:AN}(h:ovl r H=some (n,H')):H'=H/\∃v,r=some v/\n= .val v:=by
 unfold ovl at h;split at h
 ·rename_i v;simp only[a00,a02]at h;exact⟨h.2.symm,v,rfl,h.1.symm⟩
 cases h
theorem gL{op:BinOp}{r:Option Bool}{H H':Heap}{n:AN}(h:nilBin op r H=some (n,H')):
  H'=H/\∃b,r=some b/\((op= .eql/\n= .val (.bool b))\/(op= .neq/\n= .val (.bool (!b)))):=by
 unfold nilBin at h
 split at h
 ·rename_i b;split at h
  ·simp only[a00,a02]at h;exact⟨h.2.symm,b,rfl,.inl ⟨rfl,h.1.symm⟩⟩
  ·simp only[a00,a02]at h;exact⟨h.2.symm,b,rfl,.inr ⟨rfl,h.1.symm⟩⟩
  cases h
 cases h
theorem iF{ρ ρ':Operand->Value}{o:Oper}{H H':Heap}{r:AN}(hk:aV o.op=true)
  (O: ∀x∈o.op.operands,VRel μ (ρ x) (ρ' x)) (h:aop P ρ o H=some (r,H')):
  H'=H/\∃v v',r= .val v/\(∀w,(execOp ρ' o).run P w= .ok (.value v') w)/\VRel μ v v':=by
 obtain⟨cb,op,b9,pos,after,b3⟩:=o
 cases op<;>simp only[aV,a0d]at hk
 case move x=>
  simp only[aop,a00,a02]at h
  obtain⟨rfl,rfl⟩:=h
  exact⟨rfl,_,ρ' x,rfl,fun w=>rfl,O x (by simp[Op.operands])⟩
 case assign x=>
  simp only[aop,a00,a02]at h
  obtain⟨rfl,rfl⟩:=h
  exact⟨rfl,_,ρ' x,rfl,fun w=>rfl,O x (by simp[Op.operands])⟩
 case pick c a b=>
  simp only[aop,eW]at h
  split at h
  ·rename_i t ht;simp only[a00,a02]at h;obtain⟨rfl,rfl⟩:=h;have hc:ρ' c= .bool t:=by have:=O c (by simp[Op.operands]);rw[ht]at this;exact this.bool_inv
   refine⟨rfl,_,(if t then ρ' a else ρ' b),rfl,fun w=>?_,?_⟩
   ·simp[execOp,hc,asBool]
   cases t
   ·exact O b (by simp[Op.operands])
   exact O a (by simp[Op.operands])
  cases h
 case build t parts=>
  simp only[aop,fS]at h
  split at h
  case h_2=>cases h
  rename_i z hz
  obtain⟨rfl,v,rfl,A⟩:=i0 h
  obtain⟨v',T,U⟩:=build_rel (μ:=μ) (ps:=parts.map fun p=>(p.1,ρ p.2)) (ps':=parts.map fun(i,x)=>(i,ρ' x)) (by simp) (fun i x x' Y Z=>by
   simp only[Array.toList_map,a1o,a1n]at Y Z;obtain⟨y,hy,rfl⟩:=Y;obtain⟨z,hz,rfl⟩:=Z;rw[hy]at hz;injection hz with hz;subst hz;refine⟨rfl,O _ ?_⟩;have:=a0h hy;simp only[Op.operands,List.mem_toArray,a0l];exact⟨y,this,rfl⟩) (by rw[hz];rfl) A
  exact⟨rfl,v,v',rfl,fun w=>by simp only[execOp,Sem.run_bind,cu P T w,Result.andThen_ok,Sem.run_pure],U⟩
 case nilCheck x=>
  simp only[aop,opNil]at h
  split at h
  ·rename_i a ha;simp only[a00,a02]at h;obtain⟨rfl,rfl⟩:=h;have E:=O x (by simp[Op.operands]);rw[ha]at E;obtain⟨_,a',bb⟩:=E.ptr_some;exact⟨rfl,_,ρ' x,rfl,fun w=>by simp[execOp,bb],E⟩
  ·rename_i f a c ha;simp only[a00,a02]at h;obtain⟨rfl,rfl⟩:=h;have E:=O x (by simp[Op.operands]);rw[ha]at E;obtain⟨a',c',bl,_,_⟩:=E.func_inv;exact⟨rfl,_,ρ' x,rfl,fun w=>by simp[execOp,bl],E⟩
  cases h
 case binOp op t x y yt=>
  have E:=O x (by simp[Op.operands])
  have hy:=O y (by simp[Op.operands])
  simp only[aop,aBin]at h
  split at h
  ·rename_i k a ha;rw[ha]at E;unfold binInt at h;split at h
   ·rename_i k' b V;rw[V]at hy;obtain⟨rfl,v,A,rfl⟩:=cv h;have a1: ∀w,(binOp op t (.int k a) (.int k' b)).run P w= .ok v w/\cJ v=true:=by
     intro w;cases hs:ja op with
     |true=>rw[hs]at A;exact shBin_sound A t w
     |false=>
      rw[hs]at A
      simp only[cond_false]at A
      cases he:fE k k' with
      |false=>rw[he]at A;cases A
      |true=>
       rw[he]at A
       have:k=k':=by simpa[fE] using he
       subst this
       exact intBin_sound A t w
    refine⟨rfl,v,v,rfl,fun w=>?_,.atom v (a1 default).2⟩;simp only[execOp,E.int_inv,hy.int_inv,eqGuard_at_int,pure_bind,Sem.run_bind,(a1 w).1,Result.andThen_ok,Sem.run_pure]
   cases h
  ·rename_i a ha;rw[ha]at E;unfold binStr at h;split at h
   ·rename_i b V;rw[V]at hy;obtain⟨rfl,v,A,rfl⟩:=cv h;refine⟨rfl,v,v,rfl,fun w=>?_,.atom v (iJ (P:=P) (t:=t) A default).2⟩;simp only[execOp,E.string_inv,hy.string_inv,eqGuard_at_string,pure_bind,Sem.run_bind,(iJ (P:=P) (t:=t) A w).1,Result.andThen_ok,Sem.run_pure]
   cases h
  unfold kE at h
  split at h
  ·exact da h (fun _ _=>by simp) O
  ·exact da h (fun _ _=>by simp) O
  obtain⟨rfl,b,V,a0⟩:=gL h
  rcases a0 with⟨rfl,rfl⟩|⟨rfl,rfl⟩
  ·refine⟨rfl,_,_,rfl,fun w=>?_,.atom (.bool b) rfl⟩;obtain⟨Y,Z,h3⟩:=iU (P:=P) V E hy w;simp only[execOp,Z,pure_bind,h3 .eql (.inl rfl),Sem.run_bind,Y,Result.andThen_ok,Sem.run_pure]
  refine⟨rfl,_,_,rfl,fun w=>?_,.atom (.bool (!b)) rfl⟩
  obtain⟨Y,Z,h3⟩:=iU (P:=P) V E hy w
  simp only[execOp,Z,pure_bind,h3 .neq (.inr rfl),Sem.run_bind,Y,Result.andThen_ok,Sem.run_pure]
 case unOp op t x=>
  have E:=O x (by simp[Op.operands])
  simp only[aop,aUn]at h
  split at h
  ·rename_i b V;rw[V]at E;split at h
   ·simp only[a00,a02]at h;obtain⟨rfl,rfl⟩:=h;exact⟨rfl,_,_,rfl,fun w=>by simp[execOp,E.bool_inv,Op.unary],.atom (.bool (!b)) rfl⟩
   cases h
  exact da h (fun _ _=>by simp) O
 case makeFunc fn first captured=>
  simp only[aop,a00,a02]at h
  obtain⟨rfl,rfl⟩:=h
  have Y:=iA (μ:=μ) (ops:=first) (ρ:=ρ) (ρ':=ρ') fun x E=>O x (by simp[Op.operands,E])
  have Z:=iA (μ:=μ) (ops:=captured) (ρ:=ρ) (ρ':=ρ') fun x E=>O x (by simp[Op.operands,E])
  exact⟨rfl,_,_,rfl,fun w=>rfl,.func _ _ _ _ _ Y.1 Z.1 Y.2 Z.2⟩
 case fieldAddr s x f=>
  simp only[aop]at h
  obtain⟨rfl,v,A,rfl⟩:=cv h
  obtain⟨v',T,U⟩:=aField_sound A (O x (by simp[Op.operands]))
  exact⟨rfl,v,v',rfl,fun w=>by simp only[execOp,Sem.run_bind,T w,Result.andThen_ok,Sem.run_pure],U⟩
 case field t x f=>
  simp only[aop]at h
  obtain⟨rfl,v,A,rfl⟩:=cv h
  obtain⟨v',T,U⟩:=kN A (O x (by simp[Op.operands]))
  exact⟨rfl,v,v',rfl,fun w=>by simp only[execOp,Sem.run_bind,T w,Result.andThen_ok,Sem.run_pure],U⟩
 case indexAddr t x i=>
  simp only[aop]at h
  obtain⟨rfl,v,A,rfl⟩:=cv h
  obtain⟨v',T,U⟩:=ic A (O x (by simp[Op.operands])) (O i (by simp[Op.operands]))
  exact⟨rfl,v,v',rfl,fun w=>by simp only[execOp,Sem.run_bind,T w,Result.andThen_ok,Sem.run_pure],U⟩
 case index t x i=>
  have E:=O x (by simp[Op.operands])
  have hi:=O i (by simp[Op.operands])
  simp only[aop,jk]at h
  split at h
  ·rename_i s hs;rw[hs]at E;obtain⟨rfl,v,A,rfl⟩:=cv h;unfold strAt at A;split at A
   ·rename_i j hu hj;obtain⟨k,hk⟩:=eB hj hi;rw[gk]at A;split at A
    ·rename_i b V;injection A with A;subst A;exact⟨rfl,_,_,rfl,fun w=>by simp only[execOp,E.string_inv,hk,Sem.run_bind,strIndex_run hu V w,Result.andThen_ok,Sem.run_pure],.atom _ rfl⟩
    cases A
   cases A
  rename_i b0
  obtain⟨rfl,v,rfl,A⟩:=i0 h
  obtain⟨v',T,U⟩:=index_rel E hi (fun s hs=>b0 s hs) A
  exact⟨rfl,v,v',rfl,fun w=>by simp only[execOp,Sem.run_bind,cu P T w,Result.andThen_ok,Sem.run_pure],U⟩
 case extract x i=>
  simp only[aop]at h
  have E:=O x (by simp[Op.operands])
  obtain⟨rfl,v,A,rfl⟩:=cv h
  unfold fv at A
  split at A
  ·rename_i vs b1;rw[b1]at E;obtain⟨b2,a9,U⟩:=E.tuple_inv;rw[gk]at A;obtain⟨v',T,a8⟩:=U.get A;have hg:b2[i]?=some v':=by simpa using T
   exact⟨rfl,v,v',rfl,fun w=>by simp[execOp,a9,Instr.extract,hg],a8⟩
  cases A
end
end Go.R
namespace Go.R
theorem dY(l:List Value): ∀n,(dj n l).length=n *l.length
 |0=>by simp[dj]
 |n+1=>by simp only[dj,a01,dY l n];rw[a0C];omega
theorem jQ(l:List Value): ∀(n i:Nat),i<n *l.length->(dj n l)[i]?=l[i%l.length]?
 |0,i,h=>by simp at h
 |n+1,i,h=>by
  simp only[dj];by_cases hi:i<l.length
  ·rw[a0S hi,Nat.mod_eq_of_lt hi]
  rw[a0C,Nat.one_mul]at h;rw[a11 (by omega),jQ l n (i-l.length) (by omega)];congr 1;exact(Nat.mod_eq_sub_mod (by omega)).symm
theorem zeros_eq(z:Array Value)(n:Nat):(Array.range (n *z.size)).map (fun i=>z[i%z.size]!)=⟨dj n z.toList⟩:=by
 apply a1h;intro i;refine Eq.trans ?_ (iX _ _).symm;by_cases hi:i<n *z.size
 ·rw[jQ _ _ _ (by simpa using hi)];have E:0<z.size:=by
   rcases Nat.eq_zero_or_pos z.size with h|h
   ·rw[h]at hi;simp at hi
   exact h
  have A:i%z.size<z.size:=Nat.mod_lt _ E;simp[hi,A]
 rw[a18 (by rw[dY];simpa using hi)];simp[hi]
theorem fY{l:List Value}(h:l.all cJ=true): ∀n,(dj n l).all cJ=true
 |0=>rfl
 |n+1=>by simp only[dj,List.all_append,h,fY h n,a19]
section
variable {P:Program} {μ:Emb} {H H':Heap} {w:World}
def OpOK(P:Program)(μ:Emb)(H:Heap)(w:World)(s:Sem Next)(r:AN)(H':Heap):Prop:=
 ∃n w' μ',s.run P w= .ok n w'/\Post μ H w μ' H' w'/\ANRel μ' r n
theorem OpOK.value{s:Sem Value}{v v':Value}{w':World}{μ':Emb}(h:s.run P w= .ok v' w')(z:Post μ H w μ' H' w')(A:VRel μ' v v'):
  OpOK P μ H w (do Pure.pure (.value (←s))) (.val v) H':=
 ⟨.value v',w',μ',by simp only[Sem.run_bind,h,Result.andThen_ok,Sem.run_pure],z,A⟩
theorem OpOK.skip{s:Sem Unit}{w':World}{μ':Emb}(h:s.run P w= .ok () w')(z:Post μ H w μ' H' w'):
  OpOK P μ H w (do s;Pure.pure .skip) .skip H':=
 ⟨.skip,w',μ',by simp only[Sem.run_bind,h,Result.andThen_ok,Sem.run_pure],z,trivial⟩
theorem ovh_inv{r:Option (Value×Heap)}{n:AN}(h:ovh r=some (n,H')): ∃v,r=some (v,H')/\n= .val v:=by
 unfold ovh at h;split at h
 ·simp only[a00,a02]at h;obtain⟨rfl,rfl⟩:=h;exact⟨_,rfl,rfl⟩
 cases h
theorem osk_inv{r:Option Heap}{n:AN}(h:osk r=some (n,H')):r=some H'/\n= .skip:=by
 unfold osk at h;split at h
 ·simp only[a00,a02]at h;obtain⟨rfl,rfl⟩:=h;exact⟨rfl,rfl⟩
 cases h
theorem gq(h:WRel μ H w)(Y:μ H.next=none)(e:TypeId){cs z:List Value}(A:LRel μ cs z):
  ∃l,l.c=w.heap.size/\l.sh=0/\l.opn=none/\(newRow e ⟨z⟩).run P w= .ok ⟨w.heap.size,0,none⟩ (w.alloc (.cells ⟨z⟩ e))/\
   Post μ H w (μ.set H.next l) (aO H cs none) (w.alloc (.cells ⟨z⟩ e)):=by
 obtain⟨l,T,U,V,_,E,O⟩:=cO (P:=P) h Y e A [] none (fun _=>rfl)
 simp only[a0N]at E O
 exact⟨l,T,U,V,E,O⟩
theorem alloc_sound{e:TypeId}{r:AN}(h:WRel μ H w)(Y: ∀b,H.next<=b->b<H'.next->μ b=none)(A:d7 P e H=some (r,H')):
  OpOK P μ H w (do Pure.pure (.value (←Instr.alloc e true (.tuple #[])))) r H':=by
 unfold d7 at A
 split at A
 ·rename_i z hz;simp only[a00,a02]at A;obtain⟨rfl,rfl⟩:=A;obtain⟨i,v,hi,hv,hc,E⟩:=d4 (P:=P) hz;obtain⟨l,U,V,h3,O,Z⟩:=gq (P:=P) h (Y H.next (a05 _) (by simp[aO])) e (LRel.refl0 (μ:=μ) E);have T:v.cells=⟨z⟩:=by rw[←hc]
  refine OpOK.value (v':= .pointer (some ⟨w.heap.size,0,none⟩)) ?_ Z ?_
  ·simp only[Instr.alloc,Sem.run_bind,dR w hi hv,Result.andThen_ok,newVar,T,O,Sem.run_pure]
  have:=VRel.ptr (μ:=μ.set H.next l) H.next 0 l (Emb.set_same _ _ _);rw[U,V]at this;exact this
 cases A
theorem box_sound{e:TypeId}{x A:Value}(h:WRel μ H w)(T:μ H.next=none)(V:VRel μ x A):
  OpOK P μ H w (do Pure.pure (.value (←Instr.box e A))) (.val (ptrTo H.next)) (aO H x.cells.toList none):=by
 obtain⟨l,E,O,Y,z,U⟩:=gq (P:=P) h T e V.cells
 refine OpOK.value (v':= .pointer (some ⟨w.heap.size,0,none⟩)) ?_ U ?_
 ·simp only[Instr.box,newVar,Sem.run_bind,z,Result.andThen_ok,Sem.run_pure]
 have:=VRel.ptr (μ:=μ.set H.next l) H.next 0 l (Emb.set_same _ _ _)
 rw[E,O]at this;exact this
theorem jn{t:TypeId}{sz:Nat}{z:List Value}(h:ev P t=some (sz,z)): ∃e,P.underlying t=some (.slice e)/\ei P e=some sz/\dK P e=some z/\z.length=sz:=by
 unfold ev at h;split at h
 ·rename_i e E;split at h
  ·rename_i T U hs O;cases A:Nat.beq (g0 U) T with
   |false=>rw[A]at h;cases h
   |true=>
    rw[A]at h;simp only[cond_true,a00,a02]at h
    obtain⟨rfl,rfl⟩:=h
    exact⟨e,E,hs,O,by rw[←bC];exact a04 A⟩
  cases h
 cases h
theorem ia{t:TypeId}{n:Nat}{ps:List (Nat×Value)}{ps':Array (Nat×Value)}{r:AN}(h:WRel μ H w)(hf: ∀b,H.next<=b->b<H'.next->μ b=none)
  (hl:ps.length=ps'.toList.length) (hp: ∀(i:Nat) x x',ps[i]?=some x->ps'.toList[i]?=some x'->x.1=x'.1/\VRel μ x.2 x'.2)
  (E:bp P t n ps H=some (r,H')):OpOK P μ H w (do Pure.pure (.value (←Instr.buildSlice t n ps'))) r H':=by
 unfold bp at E
 split at E
 ·rename_i sz z a1;obtain⟨e,hu,hs,hz,T⟩:=jn a1;cases hq:Nat.ble (n *sz) 16777216 with
  |false=>rw[hq]at E;cases E
  |true=>
   rw[hq]at E
   simp only[cond_true]at E
   have b3:n *sz<=16777216:=a0a hq
   split at E
   ·rename_i cells hc;simp only[a00,a02]at E;obtain⟨rfl,rfl⟩:=E;obtain⟨i,v,hi,hv,a2,Z⟩:=d4 (P:=P) hz;obtain⟨ax,Y,an⟩:=iv (μ:=μ) ps ps'.toList _ _ cells hl hp (LRel.refl0 (fY Z n)) hc;obtain⟨l,h1,h2,h3,O,V⟩:=gq (P:=P) h (hf H.next (a05 _) (by simp[aO])) e an;refine OpOK.value (v':= .slice (some ⟨w.heap.size,0,none⟩) n n) ?_ V ?_
    ·have a3:v.cells=⟨z⟩:=by rw[←a2]
     simp only[Instr.buildSlice,Sem.run_bind,ap w hu,Result.andThen_ok,aT w hs,show ¬(n *sz>2^24) by omega,if_false];by_cases U:n *sz=0
     ·have a0:dj n z=[]:=a0i (by rw[dY,T];exact U);have A: ∀g:Nat->Value,(Array.range (n *sz)).map g=⟨dj n z⟩:=fun g=>by rw[U,a0];simp
      rw[if_pos U];simp only[Sem.run_bind,Sem.run_pure,Result.andThen_ok,A,Y,O]
     have A:=zeros_eq ⟨z⟩ n;simp only[show(Array.mk z).size=sz from T]at A;rw[if_neg U];simp only[Sem.run_bind,dR w hi hv,Sem.run_pure,Result.andThen_ok,a3,show(Array.mk z).size=sz from T,A,Y,O]
    have:=VRel.sliceC (μ:=μ.set H.next l) H.next 0 n n l (Emb.set_same _ _ _) h3;rw[h1,h2]at this;exact this
   cases E
 cases E
theorem load_sound{t:TypeId}{a E:Value}{r:AN}(h:WRel μ H w)(O:VRel μ a E)(z:dM P t a H=some (r,H')):
  OpOK P μ H w (do Pure.pure (.value (←Instr.loadAt t E))) r H':=by
 unfold dM at z
 split at z
 ·rename_i p;obtain⟨rfl,v,Y,rfl⟩:=cv z;obtain⟨b,o,Z⟩:=p;have T:Z=none:=O.ptr_some.1;subst T;obtain⟨l,U,rfl⟩:=O.ptr_inv;obtain⟨v',A,V⟩:=fV (P:=P) h U Y;refine OpOK.value (v':=v') ?_ (Post.refl h) V;simp only[Instr.loadAt,Instr.sureAddr,Sem.run_bind,Sem.run_pure,Result.andThen_ok,A]
 cases z
theorem store_sound{t:TypeId}{a U x T:Value}{r:AN}(h:WRel μ H w)(V:VRel μ a U)(Z:VRel μ x T)(z:fQ P t a x H=some (r,H')):
  OpOK P μ H w (do Instr.storeAt t U T;Pure.pure .skip) r H':=by
 unfold fQ at z
 split at z
 ·rename_i p;split at z
  ·rename_i n hn;cases A:Nat.beq x.cells.size n with
   |false=>rw[A]at z;cases z
   |true=>
    rw[A]at z
    obtain⟨hs,rfl⟩:=osk_inv z
    have a1:x.cells.size=n:=a04 A
    obtain⟨b,o,sp⟩:=p
    have Y:sp=none:=V.ptr_some.1
    subst Y
    obtain⟨l,hb,rfl⟩:=V.ptr_inv
    obtain⟨w',E,hp⟩:=eT (P:=P) h hb hs Z.cells
    refine OpOK.skip ?_ hp
    have O:T.cells.size=n:=by have:=Z.cells.1;simp only[a1w]at this;omega
    simp only[Instr.storeAt,Instr.sureAddr,storeVar,Sem.run_bind,Sem.run_pure,Result.andThen_ok,aT w hn,O,ne_eq,not_true,if_false,E]
  cases z
 cases z
theorem run_getObj{r:Nat}{o:Obj}(h:w.heap[r]?=some o)(hc: ∀c e f,o≠ .cells c e f):(getObj r).run P w= .ok o w:=by cases o<;>first|exact absurd rfl (hc _ _ _)|(simp only[getObj,Sem.run,h])
theorem run_setObj{r:Nat}{o h:Obj}(z:w.heap[r]?=some o)(hc: ∀c e f,o≠ .cells c e f):(setObj r h).run P w= .ok () (be w r h):=by cases o<;>first|exact absurd rfl (hc _ _ _)|(simp only[setObj,Sem.run,z];rfl)
theorem ju{n:Nat}(h:n<=2147483648):IntKind.i64.wrap (n:Int)=n:=IntWalk.i64_in _ (by omega)
theorem hM{e:TypeId}{b:Nat}(h:fZ P e=some b): ∃i,P.info? e=some i/\i.bytes=b:=by
 unfold fZ at h;split at h
 ·rename_i i hi;injection h with h;exact⟨i,hi,h⟩
 cases h
theorem make_sound{t:TypeId}{x x' y y':Value}{r:AN}(h:WRel μ H w)(hf: ∀b,H.next<=b->b<H'.next->μ b=none)(hx:VRel μ x x')(hy:VRel μ y y')
  (ho:ovh (aMake P t x y H)=some (r,H')):OpOK P μ H w (do Pure.pure (.value (←Instr.makeSlice t x' y'))) r H':=by
 obtain⟨v,E,rfl⟩:=ovh_inv ho
 unfold aMake at E
 split at E
 ·rename_i e hu;split at E
  ·rename_i sz T z n k hs hb hz hn hk;cases hq:(Nat.ble n k&&Nat.ble k 2147483648&&Nat.ble T 4096&&Nat.beq (g0 z) sz&& !Nat.beq sz 0) with
   |false=>rw[hq]at E;cases E
   |true=>
    rw[hq]at E
    simp only[cond_true,a00,a02]at E
    obtain⟨rfl,rfl⟩:=E
    simp only[a03,a0n]at hq
    obtain⟨⟨⟨⟨q1,q2⟩,q3⟩,V⟩,q5⟩:=hq
    have q1:n<=k:=a0a q1
    have q2:k<=2147483648:=a0a q2
    have q3:T<=4096:=a0a q3
    have V:z.length=sz:=by rw[←bC];exact a04 V
    have q5:sz≠0:=fun e=>by rw[e]at q5;cases q5
    obtain⟨i,vz,hi,b1,bl,a2⟩:=d4 (P:=P) hz
    obtain⟨ib,O,ba⟩:=hM hb
    rw[hi]at O;injection O with O;subst O
    obtain⟨l,h1,h2,h3,U,Z⟩:=gq (P:=P) h (hf H.next (a05 _) (by simp[aO])) e (LRel.refl0 (μ:=μ) (fY a2 k))
    refine OpOK.value (v':= .slice (some ⟨w.heap.size,0,none⟩) n k) ?_ Z ?_
    ·obtain⟨kn,rfl⟩:=eB hn hx;obtain⟨kk,rfl⟩:=eB hk hy;have b3:=ju (n:=n) (by omega);have b2:=ju (n:=k) q2;have b0:vz.cells=⟨z⟩:=by rw[←bl]
     have a3:T *k<=4096 *2147483648:=Nat.mul_le_mul q3 q2;have a4:(decide ((k:Int)<0)||decide ((i.bytes:Int) *(k:Int)>2^48)||decide ((n:Int)<0)||decide ((n:Int)>(k:Int)))=false:=by
      have hm:((i.bytes:Int) *(k:Int))<=8796093022208:=by rw[ba,←Int.natCast_mul];exact Int.ofNat_le.2 a3
      have h1: ¬((k:Int)<0):=by omega
      have h2: ¬((i.bytes:Int) *(k:Int)>2^48):=by
       have:(2:Int)^48=281474976710656:=by decide
       omega
      have h3: ¬((n:Int)<0):=by omega
      have h4: ¬((n:Int)>(k:Int)):=by omega
      simp only[decide_eq_false h1,decide_eq_false h2,decide_eq_false h3,decide_eq_false h4,Bool.or_self]
     simp only[Instr.makeSlice,Sem.run_bind,ap w hu,Result.andThen_ok,asInt,asIntOf,Sem.run_pure,dS w hi,b3,b2];rw[if_neg (by rw[a4];exact Bool.false_ne_true)];simp only[Sem.run_bind,run_askRoom,Result.andThen_ok,aT w hs,Int.toNat_natCast];by_cases Y:k *sz=0
     ·have bb:dj k z=[]:=a0i (by rw[dY,V];exact Y);have A: ∀g:Nat->Value,(Array.range (k *sz)).map g=⟨dj k z⟩:=fun g=>by rw[Y,bb];simp
      rw[if_pos Y];simp only[Sem.run_bind,Sem.run_pure,Result.andThen_ok,A,U]
     have A:=zeros_eq ⟨z⟩ k;simp only[show(Array.mk z).size=sz from V]at A;rw[if_neg Y];simp only[Sem.run_bind,dR w hi b1,Sem.run_pure,Result.andThen_ok,b0,show(Array.mk z).size=sz from V,A,U]
    have:=VRel.sliceC (μ:=μ.set H.next l) H.next 0 n k l (Emb.set_same _ _ _) h3
    rw[h1,h2]at this;exact this
  cases E
 cases E
end
end Go.R
namespace Go.R
section
variable {P:Program} {μ:Emb} {H H':Heap} {w:World}
theorem ji{n k l r:Nat}{lo hi:Option Value}(h:bnds n k lo hi=some (l,r)):
  dL n hi=some r/\dL 0 lo=some l/\l<=r/\r<=k:=by
 unfold bnds at h
 split at h
 ·rename_i A O;split at h
  ·rename_i l' E;cases z:(Nat.ble l' A&&Nat.ble A k) with
   |false=>rw[z]at h;cases h
   |true=>
    rw[z]at h;simp only[cond_true,a00,a02]at h
    obtain⟨rfl,rfl⟩:=h
    simp only[a03]at z
    exact⟨O,E,a0a z.1,a0a z.2⟩
  cases h
 cases h
theorem dv{v v':Value}{n y:Nat}(h:asNat v=some n)(A:VRel μ v v')(E:n<=y)(z:BoundsCode):(Instr.sliceBound v' y z).run P w= .ok n w:=by
 obtain⟨k,rfl⟩:=eB h A;have:(0:Int)<=(n:Int)/\(n:Int)<=(y:Int):=by omega
 simp[Instr.sliceBound,asIntOf,this.2]
theorem dq{isSlice:Bool}{n k T l r:Nat}{lo hi U z:Option Value}(hb:bnds n k lo hi=some (l,r))(hk:k<=T)
  (Y: ∀v,lo=some v->∃v',U=some v'/\VRel μ v v') (A:lo=none->U=none)
  (an: ∀v,hi=some v->∃v',z=some v'/\VRel μ v v') (Z:hi=none->z=none):
  (Instr.sliceBounds isSlice n T U z none).run P w= .ok (l,r,T) w:=by
 obtain⟨V,h,h3,h4⟩:=ji hb
 unfold Instr.sliceBounds
 cases hi with
 |none=>
  rw[Z rfl]
  simp only[dL,a00]at V;subst V
  cases lo with
  |none=>
   rw[A rfl]
   simp only[dL,a00]at h;subst h
   simp
  |some u=>
   obtain⟨u',E,O⟩:=Y u rfl
   rw[E]
   simp only[Sem.run_bind,Sem.run_pure,Result.andThen_ok,dv (P:=P) (w:=w) h O h3]
 |some v=>
  obtain⟨v',a0,hr⟩:=an v rfl
  rw[a0]
  cases lo with
  |none=>
   rw[A rfl]
   simp only[dL,a00]at h;subst h
   simp only[Sem.run_bind,Sem.run_pure,Result.andThen_ok,dv (P:=P) (w:=w) V hr (by omega:r<=T)]
  |some u=>
   obtain⟨u',E,O⟩:=Y u rfl
   rw[E]
   simp only[Sem.run_bind,Sem.run_pure,Result.andThen_ok,dv (P:=P) (w:=w) V hr (by omega:r<=T),dv (P:=P) (w:=w) h O h3]
theorem dp(s:ByteArray)(l r:Nat):s.extract l r=⟨⟨(s.data.toList.drop l).take (r-l)⟩⟩:=by apply ByteArray.ext;apply Array.ext';simp
theorem iK{t:TypeId}{x x':Value}{lo hi mx a8 a4 bb:Option Value}{r:AN}(h:WRel μ H w)(hx:VRel μ x x')
  (an: ∀v,lo=some v->∃v',a8=some v'/\VRel μ v v') (V:lo=none->a8=none)
  (al: ∀v,hi=some v->∃v',a4=some v'/\VRel μ v v') (U:hi=none->a4=none) (b4:mx=none->bb=none)
  (ho:ovl (bS P t x lo hi mx H) H=some (r,H')): ∃v v',r= .val v/\H'=H/\(Instr.sliceAt t x' a8 a4 bb).run P w= .ok v' w/\VRel μ v v':=by
 obtain⟨rfl,v,z,rfl⟩:=cv ho
 unfold bS at z
 split at z
 ·cases z
 rw[b4 rfl]
 simp only at z
 split at z
 ·rename_i s hu;obtain rfl:=hx.string_inv;split at z
  ·rename_i l r Y;injection z with z;subst z;rw[bC]at Y;have b5:s.data.toList.length=s.size:=by simp
   rw[b5]at Y;refine⟨_,.string (s.extract l r),rfl,rfl,?_,?_⟩
   ·simp[Instr.sliceAt,Instr.slice,ap w hu,dq (P:=P) (w:=w) (isSlice:=false) Y (a05 _) an V al U]
   rw[dp,bT,cn];exact .atom _ rfl
  cases z
 ·rename_i e hu;obtain rfl:=hx.eq0 rfl;split at z
  ·rename_i lr Y;obtain⟨l,r⟩:=lr;cases hs:ei P e with
   |none=>rw[hs]at z;cases z
   |some sz=>
    rw[hs]at z
    simp only[Option.isSome_some,cond_true,a00]at z;subst z
    obtain⟨_,_,h3,h4⟩:=ji Y
    obtain rfl:r=0:=by omega
    obtain rfl:l=0:=by omega
    refine⟨_,.slice none 0 0,rfl,rfl,?_,.atom _ rfl⟩
    simp[Instr.sliceAt,Instr.slice,ap w hu,dq (P:=P) (w:=w) (isSlice:=true) Y (a05 _) an V al U,aT w hs]
  cases z
 ·rename_i e b o n k hu;split at z
  ·rename_i l r sz cs b7 ro Y hs hg;obtain⟨A,hμ,hc⟩:=hx.slice_inv;have T:A.opn=b7:=by
    have:=h.obj b A _ hμ hg;cases ro
    ·exact this.1
    exact this.1
   obtain⟨_,_,h3,h4⟩:=ji Y;split at z
   ·injection z with z;subst z;rcases hc with⟨O,rfl⟩|⟨e',o',k',O,rfl,_⟩|⟨rfl,rfl,a',rfl⟩
    rotate_right
    ·obtain rfl:r=0:=by omega
     obtain rfl:l=0:=by omega
     refine⟨_,.slice (some (if 0=0 then a' else a'.add (0 *sz))) (0-0) (0-0),rfl,rfl,?_,?_⟩
     ·simp only[Instr.sliceAt,Instr.slice,Sem.run_bind,ap w hu,Result.andThen_ok,dq (P:=P) (w:=w) (isSlice:=true) Y (a05 _) an V al U,aT w hs,Sem.run_pure];split<;>rfl
     exact .sliceZ b o a' A hμ
    ·refine⟨_,.slice (some (if k=l then⟨A.c,A.sh+o,none⟩ else Addr.add ⟨A.c,A.sh+o,none⟩ (l *sz))) (r-l) (k-l),rfl,rfl,?_,?_⟩
     ·simp only[Instr.sliceAt,Instr.slice,Sem.run_bind,ap w hu,Result.andThen_ok,dq (P:=P) (w:=w) (isSlice:=true) Y (a05 _) an V al U,aT w hs,Sem.run_pure];split<;>rfl
     by_cases E:k=l
     ·rw[if_pos E];have:Nat.beq k l=true:=by rw[E];exact a0I l
      rw[this];exact .sliceC b o _ _ A hμ O
     rw[if_neg E];have:Nat.beq k l=false:=by
      cases hq:Nat.beq k l with
      |false=>rfl
      |true=>exact absurd (a04 hq) E
     rw[this,cH,a0X];exact .sliceC b (o+l *sz) _ _ A hμ O
    rw[T]at O;cases O
   rename_i Z;cases hq:Nat.beq Z sz with
   |false=>rw[hq]at z;cases z
   |true=>
    rw[hq]at z
    simp only[cond_true,a00]at z;subst z
    have b2:Z=sz:=a04 hq
    rcases hc with⟨O,rfl⟩|⟨e',o',k',O,rfl,cl,b3,b0,ck⟩|⟨rfl,rfl,a',rfl⟩
    rotate_right
    ·obtain rfl:r=0:=by omega
     obtain rfl:l=0:=by omega
     refine⟨_,.slice (some (if 0=0 then a' else a'.add (0 *sz))) (0-0) (0-0),rfl,rfl,?_,?_⟩
     ·simp only[Instr.sliceAt,Instr.slice,Sem.run_bind,ap w hu,Result.andThen_ok,dq (P:=P) (w:=w) (isSlice:=true) Y (a05 _) an V al U,aT w hs,Sem.run_pure];split<;>rfl
     exact .sliceZ b _ a' A hμ
    ·rw[T]at O;cases O
    rw[T]at O;injection O with O
    subst O b2
    refine⟨_,.slice (some (if k'=l then⟨A.c,o',none⟩ else Addr.add ⟨A.c,o',none⟩ (l *Z))) (r-l) (k'-l),rfl,rfl,?_,?_⟩
    ·simp only[Instr.sliceAt,Instr.slice,Sem.run_bind,ap w hu,Result.andThen_ok,dq (P:=P) (w:=w) (isSlice:=true) Y b3 an V al U,aT w hs,Sem.run_pure];split<;>rfl
    by_cases E:k'=l
    ·rw[if_pos E];refine .sliceO b (o+l *Z) o' _ _ _ Z A hμ T (by omega) (by omega) (by omega) ?_;rw[E,Nat.sub_self,Nat.zero_mul];omega
    rw[if_neg E,cH]
    refine .sliceO b (o+l *Z) (o'+l *Z) _ _ _ Z A hμ T (by omega) (by omega) (fun ch=>?_) ?_
    ·rw[b0 (by omega)];omega
    have:l *Z+(k'-l) *Z=k' *Z:=by rw[←a0C];congr 1;omega
    omega
  cases z
 ·rename_i n e b o hu;split at z
  ·rename_i l r sz cs ro Y hs hg;obtain⟨A,hμ,rfl⟩:=hx.ptr_inv;have T:A.opn=none:=by
    have:=h.obj b A _ hμ hg;cases ro
    ·exact this.1
    exact this.1
   injection z with z;subst z;refine⟨_,.slice (some (if n=l then⟨A.c,A.sh+o,none⟩ else Addr.add ⟨A.c,A.sh+o,none⟩ (l *sz))) (r-l) (n-l),rfl,rfl,?_,?_⟩
   ·simp only[Instr.sliceAt,Sem.run_bind,ap w hu,Result.andThen_ok,Instr.sureAddr,Sem.run_pure,dq (P:=P) (w:=w) (isSlice:=false) Y (a05 _) an V al U,aT w hs]
   by_cases E:n=l
   ·rw[if_pos E];have:Nat.beq n l=true:=by rw[E];exact a0I l
    rw[this];exact .sliceC b o _ _ A hμ T
   rw[if_neg E];have:Nat.beq n l=false:=by
    cases hq:Nat.beq n l with
    |false=>rfl
    |true=>exact absurd (a04 hq) E
   rw[this,cH,a0X];exact .sliceC b (o+l *sz) _ _ A hμ T
  cases z
 cases z
theorem slice_sound{t:TypeId}{x x':Value}{lo hi mx A z E:Option Value}{r:AN}(h:WRel μ H w)(hx:VRel μ x x')
  (Y: ∀v,lo=some v->∃v',A=some v'/\VRel μ v v') (T:lo=none->A=none)
  (V: ∀v,hi=some v->∃v',z=some v'/\VRel μ v v') (O:hi=none->z=none) (Z:mx=none->E=none)
  (ho:ovl (bS P t x lo hi mx H) H=some (r,H')):OpOK P μ H w (do Pure.pure (.value (←Instr.sliceAt t x' A z E))) r H':=by
 obtain⟨v,v',rfl,rfl,U,hr⟩:=iK (P:=P) h hx Y T V O Z ho
 exact OpOK.value U (Post.refl h) hr
theorem lenA_run{x A:Value}{m:Nat}(h:lenA x=some m)(z:VRel μ x A):(Builtin.lenOf A).run P w= .ok m w:=by
 unfold lenA at h;split at h
 ·injection h with h;subst h;rename_i a n k;obtain⟨E,O,rfl,_⟩:=cP z;rfl
 ·rename_i s;injection h with h;subst h;obtain rfl:=z.string_inv;rw[bC];simp[Builtin.lenOf]
 cases h
theorem dB{x x':Value}{sz m:Nat}{vs:List Value}(h:WRel μ H w)(V:VRel μ x x')(hl: ∃Z,lenA x=some Z/\m<=Z)(z:e7 H sz m x=some vs):
  ∃O,(Builtin.firstCells sz m x').run P w= .ok ⟨O⟩ w/\LRel μ vs O/\vs.length=m *sz:=by
 unfold e7 at z
 split at z
 ·rename_i a n k;obtain⟨b,o,sp⟩:=a;have a2:sp=none:=V.slice_some.1;subst a2;cases A:Nat.beq m 0 with
  |true=>
   rw[A]at z
   simp only[cond_true,a00]at z;subst z
   have Y:m=0:=a04 A
   subst Y
   obtain⟨_,a',k',rfl⟩:=V.slice_some
   exact⟨[],by simp[Builtin.firstCells,loadCells,loadCellsFrom],.nil,by simp⟩
  |false=>
   rw[A]at z
   simp only[cond_false]at z
   have Y:m≠0:=fun e=>by subst e;cases A
   obtain⟨Z,E,al⟩:=hl
   simp only[lenA,a00]at E;subst E
   obtain⟨l,hμ,hc⟩:=V.slice_inv
   obtain⟨O,U,hr,T⟩:=iZ (P:=P) h hμ z
   rcases hc with⟨_,rfl⟩|⟨e',o',k',_,rfl,bb,_,an,_⟩|⟨hz,_,_⟩
   rotate_right
   ·omega
   ·exact⟨O,by simp only[Builtin.firstCells,U],hr,T⟩
   rw[an (by omega)]
   exact⟨O,by simp only[Builtin.firstCells,U],hr,T⟩
 ·rename_i n k;cases A:Nat.beq m 0 with
  |false=>rw[A]at z;cases z
  |true=>
   rw[A]at z
   simp only[cond_true,a00]at z;subst z
   have Y:m=0:=a04 A
   subst Y
   obtain⟨_,_,rfl⟩:=V.sliceNil_inv
   exact⟨[],by simp[Builtin.firstCells],.nil,by simp⟩
 ·rename_i s;cases A:Nat.beq sz 1 with
  |false=>rw[A]at z;cases z
  |true=>
   rw[A]at z
   simp only[cond_true,a00,iY,bT]at z;subst z
   have hs:sz=1:=a04 A
   subst hs
   obtain rfl:=V.string_inv
   obtain⟨Z,E,al⟩:=hl
   simp only[lenA,bC,a00]at E;subst E
   refine⟨(s.data.toList.take m).map fun b=> .int .u8 b.toNat,?_,LRel.refl0 ?_,?_⟩
   ·simp only[Builtin.firstCells,Sem.run_pure,dp];congr 1;apply Array.ext';simp
   ·rw[a0o];intro u hu;obtain⟨c,_,rfl⟩:=a0l.1 hu;rfl
   simp at al⊢;omega
 cases z
theorem growBy_le(z:Nat): ∀(r c:Nat),c<=z+(z+768)/4->Builtin.growBy z r c<=z+(z+768)/4
 |0,c,h=>h
 |r+1,c,h=>by
  simp only[Builtin.growBy];split
  ·exact h
  exact growBy_le z r _ (by omega)
theorem nextcap_le{n k:Nat}(h:k<n):Builtin.nextslicecap n k<=2 *n+768:=by
 unfold Builtin.nextslicecap;split
 ·omega
 split
 ·omega
 have:=growBy_le n 4 k (by omega);omega
theorem cU{z:Array Value}{sz:Nat}(h:z.size=sz)(n:Nat):(Builtin.zeroCells z n).toList.length=n *sz:=by simp[Builtin.zeroCells,h]
theorem gp{st A ty e:TypeId}{E:TypeDesc}{h:Value}{base:Option Addr}{n m k sz:Nat}{i:TypeInfo}{z:Value}{old O:List Value}
  (hu:P.underlying st=some (.slice e)) (a2:P.underlying A=some E) (a0: ∀kk,E≠ .int kk) (hi:P.info? e=some i) (hs:i.size=sz) (hz:i.zero=some z)
  (T:(Builtin.lenOf h).run P w= .ok m w) (ax:k<n+m) (ba:n+m<=2147483648) (an:i.bytes<=4096)
  (Y:(Builtin.firstCells sz n (.slice base n k)).run P w.drew= .ok ⟨old⟩ w.drew) (U:(Builtin.firstCells sz m h).run P w.drew= .ok ⟨O⟩ w.drew):
  ∃Z,n+m<=Z/\(Builtin.append_ #[st,A] ty #[.slice base n k,h]).run P w=
   .ok (.slice (some ⟨w.heap.size,0,none⟩) (n+m) Z) (w.drew.alloc (.cells (⟨old⟩++⟨O⟩++Builtin.zeroCells z.cells (Z-(n+m))) e)):=by
 have a1:ei P e=some sz:=by unfold ei;rw[hi,←hs]
 have a3:=nextcap_le ax
 have V: ¬(Builtin.nextslicecap (n+m) k *i.bytes>2^48):=by
  have:Builtin.nextslicecap (n+m) k *i.bytes<=(2 *2147483648+768) *4096:=Nat.mul_le_mul (by omega) an;have bb:(2:Nat)^48=281474976710656:=by decide
  omega
 have al: ¬(((n+m:Nat):Int)>IntKind.i64.max/\(False\/i.bytes=0)):=by rw[IntKind.max_i64];omega
 refine⟨(Question.appendCap (n+m) k e).cut (w.tape w.drawn (.appendCap (n+m) k e)),by simp[Question.cut],?_⟩
 have bl:(match E with| .int _=>true|_=>false)=false:=by cases E<;>first|rfl|exact absurd rfl (a0 _)
 have e1: ∀a b:Value,(#[a,b]:Array Value)[0]?=some a/\(#[a,b]:Array Value)[1]?=some b:=fun a b=>⟨rfl,rfl⟩
 unfold Builtin.append_
 simp only[show(#[st,A]:Array TypeId)[0]?=some st from rfl,show(#[st,A]:Array TypeId)[1]?=some A from rfl,
  show(#[Value.slice base n k,h]:Array Value)[0]?=some (Value.slice base n k) from rfl,show(#[Value.slice base n k,h]:Array Value)[1]?=some h from rfl,
  Sem.run_bind,ap w hu,ap w a2,Result.andThen_ok,aT w a1,Sem.run_pure,a0d,if_false,T,
  show ¬(n+m<=k) by omega,dS w hi,V,al]
 simp only[Sem.run_bind,run_choose,Question.forced,a0d,if_false,Result.andThen_ok,World.drew_eq,dS w.drew hi,run_askRoom,Y,U,a1p,if_true,
  dR w.drew hi hz,newRow,run_newObj,Sem.run_pure]
 rfl
theorem eK{st z ty e:TypeId}{A:TypeDesc}{h:Value}{base:Option Addr}{n m k sz:Nat}{E:List Value}{w':World}
  (hu:P.underlying st=some (.slice e)) (al:P.underlying z=some A) (V: ∀kk,A≠ .int kk) (hs:ei P e=some sz)
  (O:(Builtin.lenOf h).run P w= .ok m w) (U:n+m<=k) (T:(Builtin.firstCells sz m h).run P w= .ok ⟨E⟩ w)
  (Z: ∀a,base=some a->(storeCells (a.add (n *sz)) E).run P w= .ok () w') (Y:base=none->w'=w):
  (Builtin.append_ #[st,z] ty #[.slice base n k,h]).run P w= .ok (.slice base (n+m) k) w':=by
 have a0:(match A with| .int _=>true|_=>false)=false:=by cases A<;>first|rfl|exact absurd rfl (V _)
 unfold Builtin.append_
 simp only[show(#[st,z]:Array TypeId)[0]?=some st from rfl,show(#[st,z]:Array TypeId)[1]?=some z from rfl,
  show(#[Value.slice base n k,h]:Array Value)[0]?=some (Value.slice base n k) from rfl,show(#[Value.slice base n k,h]:Array Value)[1]?=some h from rfl,
  Sem.run_bind,ap w hu,ap w al,Result.andThen_ok,aT w hs,Sem.run_pure,a0d,if_false,O,U,if_true,a1p,T]
 cases base with
 |none=>rw[Y rfl];rfl
 |some a=>simp only[Sem.run_bind,Z a rfl,Result.andThen_ok,Sem.run_pure]
theorem Post.kill(h:WRel μ H w){b:Nat}{l:Loc}{o:AObj}(Z:μ b=some l)(ho:H.get b=some o)(hr:o.rw=true):Post μ H w μ (H.put b .dead) w:=by
 refine⟨fun _ _ h=>h,fun _ _ h=> .inl h,a05 _,rfl,rfl,rfl,fun _ _ _=>rfl,fun k x U E z a8=>?_,⟨fun k x U E z=>?_,fun V Y l1 l2 T o2 a0 al an a1 a2 a4 O=>?_⟩⟩
 ·by_cases e:b=k
  ·subst e;exact .inr ⟨b,l,o,Z,ho,fI hr,fun _=>hr,by rw[Z]at E;injection E with E;rw[E]⟩
  rw[Heap.get_put_ne H _ e]at z;exact .inr ⟨k,x,U,E,z,a8,id,rfl⟩
 ·by_cases e:b=k
  ·subst e;rw[Heap.get_put_same]at z;injection z with z;subst z;trivial
  rw[Heap.get_put_ne H _ e]at z;exact h.obj k x U E z
 have old: ∀k ok,ok.live=true->(H.put b .dead).get k=some ok->H.get k=some ok:=by
  intro k ok ax A;by_cases e:b=k
  ·subst e;rw[Heap.get_put_same]at A;injection A with A;subst A;simp[AObj.live]at ax
  rw[Heap.get_put_ne H _ e]at A;exact A
 exact h.inj V Y l1 l2 T o2 a0 al an (old V T (by cases T<;>simp_all[AObj.rw,AObj.live]) a1) (old Y o2 O a2) a4 O
theorem szOf_info{e:TypeId}{s:Nat}(h:ei P e=some s): ∃i,P.info? e=some i/\i.size=s:=by
 unfold ei at h;split at h
 ·rename_i i hi;injection h with h;exact⟨i,hi,h⟩
 cases h
theorem dC(a b:List Value)(c:Array Value):(⟨a⟩++⟨b⟩++c:Array Value)=⟨(a++b)++c.toList⟩:=by apply Array.ext';simp
theorem append_sound{types:Array TypeId}{ty:TypeId}{s x s' x' v:Value}(h:WRel μ H w)(hf: ∀b,H.next<=b->b<H'.next->μ b=none)
  (hs:VRel μ s s') (hx:VRel μ x x') (e5:types.size=2) (A:eN P types s x H=some (v,H')):
  ∃v' w' μ',(Builtin.append_ types ty #[s',x']).run P w= .ok v' w'/\Post μ H w μ' H' w'/\VRel μ' v v':=by
 obtain⟨tl⟩:=types
 match tl,e5 with
 | [st,xt],_=>
 unfold eN at A
 simp only[show(#[st,xt]:Array TypeId)[0]?=some st from rfl,show(#[st,xt]:Array TypeId)[1]?=some xt from rfl]at A
 split at A
 ·rename_i e xd hu a1;split at A
  ·cases A
  rename_i a0;split at A
  ·rename_i sz f3 z m b3 hb hz hm;obtain⟨i,vz,hi,cw,go,hH⟩:=d4 (P:=P) hz;obtain⟨i2,dk,h6⟩:=hM hb;rw[hi]at dk;injection dk with dk;subst dk;obtain⟨i3,dn,cm⟩:=szOf_info b3;rw[hi]at dn;injection dn with dn;subst dn;have V:(Builtin.lenOf x').run P w= .ok m w:=lenA_run hm hx;split at A
   ·cases A
   rename_i c3 e3;obtain⟨O,ax,a4,Z⟩:=dB (P:=P) h hx ⟨m,hm,a05 _⟩ e3;obtain⟨hQ,a3,a2,_⟩:=dB (P:=P) h.drew hx ⟨m,hm,a05 _⟩ e3;split at A
   ·--nil
    obtain rfl:=hs.eq0 rfl;cases hq:Nat.beq m 0 with
    |true=>
     rw[hq]at A
     simp only[cond_true,a00,a02]at A
     obtain⟨rfl,rfl⟩:=A
     have cl:m=0:=a04 hq
     subst cl
     exact⟨_,w,μ,eK (w':=w) hu a1 (fun Y=>a0 Y) b3 V (a05 _) ax (fun a ha=>by cases ha) (fun _=>rfl),Post.refl h,.atom _ rfl⟩
    |false=>
     rw[hq]at A
     simp only[cond_false]at A
     have cl:m≠0:=fun e=>by subst e;cases hq
     cases b1:(Nat.beq (g0 z) sz&&Nat.ble m 2147483648&&Nat.ble f3 4096&& !Nat.beq sz 0) with
     |false=>rw[b1]at A;cases A
     |true=>
      rw[b1]at A
      simp only[cond_true,a00,a02]at A
      obtain⟨rfl,rfl⟩:=A
      simp only[a03,a0n]at b1
      obtain⟨⟨⟨q1,q2⟩,q3⟩,q4⟩:=b1
      have q1:z.length=sz:=by rw[←bC];exact a04 q1
      have q2:=a0a q2
      have q3:=a0a q3
      obtain⟨nc,ba,E⟩:=gp (P:=P) (w:=w) (ty:=ty) (base:=none) (n:=0) (k:=0) (old:=[]) hu a1 (fun Y=>a0 Y) hi cm cw V (by omega) (by omega) (by omega) (by simp[Builtin.firstCells]) a3
      simp only[a0Y]at E ba
      rw[dC,a0U]at E
      obtain⟨l,h1,h2,h3,h4,_,hp⟩:=cO (P:=P) h.drew (hf H.next (a05 _) (by simp[aO])) e a2 (Builtin.zeroCells vz.cells (nc-m)).toList (some sz) (fun e=>by cases e)
      refine⟨_,_,_,E,(Post.drew h).trans hp (a05 _) (by simp[aO]),?_⟩
      have:=VRel.sliceO (μ:=μ.set H.next l) H.next 0 0 m m nc sz l (Emb.set_same _ _ _) h3 (a05 _) ba (fun _=>by omega) (by
       rw[h4,cU (show vz.cells.size=sz by rw[←q1,←go];simp),Z,a0Y,←a0C];exact a0A _ (by omega))
      rw[h1]at this;exact this
   ·--a slice
    rename_i b o n k;obtain⟨l,hμ,hc⟩:=hs.slice_inv;split at A
    ·rename_i cs hw ro hg;have c6:l.opn=hw:=by
      have:=h.obj b l _ hμ hg;cases ro
      ·exact this.1
      exact this.1
     cases hq:Nat.ble (n+m) k with
     |true=>
      rw[hq]at A
      simp only[cond_true]at A
      have ds:n+m<=k:=a0a hq
      cases d1:Nat.beq m 0 with
      |true=>
       rw[d1]at A
       simp only[cond_true,a00,a02]at A
       obtain⟨rfl,rfl⟩:=A
       have cl:m=0:=a04 d1
       subst cl
       have he:O=[]:=a0i (by rw[←a4.1,Z];simp)
       subst he
       rcases hc with⟨U,rfl⟩|⟨e',o',k',U,rfl,gm,e2,b6,dd⟩|⟨rfl,rfl,a',rfl⟩
       rotate_right
       ·exact⟨_,w,μ,eK (w':=w) hu a1 (fun Y=>a0 Y) b3 V ds ax (fun a ha=>rfl) (fun e=>by cases e),Post.refl h,hs⟩
       ·exact⟨_,w,μ,eK (w':=w) hu a1 (fun Y=>a0 Y) b3 V ds ax (fun a ha=>rfl) (fun e=>by cases e),Post.refl h,hs⟩
       exact⟨_,w,μ,eK (w':=w) hu a1 (fun Y=>a0 Y) b3 V (by omega) ax (fun a ha=>rfl) (fun e=>by cases e),Post.refl h,hs⟩
      |false=>
       rw[d1]at A
       simp only[cond_false]at A
       have cl:m≠0:=fun e=>by subst e;cases d1
       split at A
       ·rename_i h1 ht;simp only[a00,a02]at A;obtain⟨rfl,rfl⟩:=A;obtain⟨w',E,hp⟩:=eT (P:=P) h hμ ht a4;rcases hc with⟨U,rfl⟩|⟨e',o',k',U,rfl,gm,e2,b6,dd⟩|⟨rfl,rfl,a',rfl⟩
        rotate_right
        ·omega
        ·refine⟨_,w',μ,eK (w':=w') hu a1 (fun Y=>a0 Y) b3 V ds ax (fun a ha=>?_) (fun e=>by cases e),hp,.sliceC b o _ _ l hμ U⟩;injection ha with ha;subst ha;rw[cH,a0X];exact E
        refine⟨_,w',μ,eK (w':=w') hu a1 (fun Y=>a0 Y) b3 V (by omega) ax (fun a ha=>?_) (fun e=>by cases e),hp,.sliceO b o o' _ _ _ e' l hμ U ds e2 b6 dd⟩;injection ha with ha;subst ha;rw[cH,b6 (by omega),a0X];exact E
       cases A
     |false=>
      rw[hq]at A
      simp only[cond_false]at A
      have f9:k<n+m:=by
       rcases a0c k (n+m) with h'|h'
       ·exact h'
       rw[a0k h']at hq;cases hq
      cases b1:(Nat.beq (g0 z) sz&&Nat.ble (n+m) 2147483648&&Nat.ble f3 4096&& !Nat.beq sz 0&&Nat.ble n k) with
      |false=>rw[b1]at A;cases A
      |true=>
       rw[b1]at A
       simp only[cond_true]at A
       simp only[a03,a0n]at b1
       obtain⟨⟨⟨⟨q1,q2⟩,q3⟩,q4⟩,q5⟩:=b1
       have q1:z.length=sz:=by rw[←bC];exact a04 q1
       have q2:=a0a q2
       have q3:=a0a q3
       have q5:=a0a q5
       have h9:sz≠0:=fun e=>by rw[e]at q4;cases q4
       have ci:vz.cells.size=sz:=by rw[←q1,←go];simp
       split at A
       ·cases A
       rename_i old al
       obtain⟨hS,hG,hF,a8⟩:=dB (P:=P) h hs ⟨n,rfl,a05 _⟩ al
       obtain⟨hV,b0,bl,_⟩:=dB (P:=P) h.drew hs ⟨n,rfl,a05 _⟩ al
       split at A
       ·--exact
        simp only[a00,a02]at A;obtain⟨rfl,rfl⟩:=A;rcases hc with⟨U,rfl⟩|⟨e',o',k',U,rfl,_⟩|⟨rfl,rfl,a',rfl⟩
        rotate_right
        ·obtain⟨nc,ba,E⟩:=gp (P:=P) (w:=w) (ty:=ty) hu a1 (fun Y=>a0 Y) hi cm cw V f9 q2 (by omega) b0 a3;rw[dC]at E;obtain⟨l',h1,h2,h3,h4,_,hp⟩:=cO (P:=P) h.drew (hf H.next (a05 _) (by simp[aO])) e (bl.append a2) (Builtin.zeroCells vz.cells (nc-(0+m))).toList (some sz) (fun e=>by cases e);rw[dr];refine⟨_,_,_,E,(Post.drew h).trans hp (a05 _) (by simp[aO]),?_⟩;have:=VRel.sliceO (μ:=μ.set H.next l') H.next 0 0 (0+m) (0+m) nc sz l' (Emb.set_same _ _ _) h3 (a05 _) ba (fun _=>by omega) (by
          rw[h4,cU ci,a01,a8,Z,a0Y,←a0C,←a0C];exact a0A _ (by omega))
         rw[h1]at this;exact this
        ·obtain⟨nc,ba,E⟩:=gp (P:=P) (w:=w) (ty:=ty) hu a1 (fun Y=>a0 Y) hi cm cw V f9 q2 (by omega) b0 a3;rw[dC]at E;obtain⟨l',h1,h2,h3,h4,_,hp⟩:=cO (P:=P) h.drew (hf H.next (a05 _) (by simp[aO])) e (bl.append a2) (Builtin.zeroCells vz.cells (nc-(n+m))).toList (some sz) (fun e=>by cases e);rw[dr];refine⟨_,_,_,E,(Post.drew h).trans hp (a05 _) (by simp[aO]),?_⟩;have:=VRel.sliceO (μ:=μ.set H.next l') H.next 0 0 (n+m) (n+m) nc sz l' (Emb.set_same _ _ _) h3 (a05 _) ba (fun _=>by omega) (by
          rw[h4,cU ci,a01,a8,Z,a0Y,←a0C,←a0C];exact a0A _ (by omega))
         rw[h1]at this;exact this
        rw[c6]at U;cases U
       ·--open
        rename_i T;cases d2:(Nat.beq T sz&& !ro&&allL Value.oneCell' c3) with
        |false=>rw[d2]at A;cases A
        |true=>
         rw[d2]at A
         simp only[cond_true,a00,a02]at A
         obtain⟨rfl,rfl⟩:=A
         simp only[a03,a0n]at d2
         obtain⟨⟨q6,q7⟩,q8⟩:=d2
         have q6:T=sz:=a04 q6
         subst q6 q7
         rcases hc with⟨U,rfl⟩|⟨e',o',k',U,rfl,gm,e2,b6,dd⟩|⟨rfl,rfl,a',rfl⟩
         rotate_right
         ·have b9:μ H.next=none:=hf H.next (a05 _) (by simp[aO]);obtain⟨nc,ba,E⟩:=gp (P:=P) (w:=w) (ty:=ty) hu a1 (fun Y=>a0 Y) hi cm cw V (by omega) q2 (by omega) b0 a3;rw[dC]at E;have hk:=Post.kill h hμ hg rfl;obtain⟨l',h1,h2,h3,h4,_,hp⟩:=cO (P:=P) (H:=H.put b .dead) hk.wrel.drew b9 e (bl.append a2) (Builtin.zeroCells vz.cells (nc-(0+m))).toList (some T) (fun e=>by cases e);rw[dr];refine⟨_,_,_,E,(hk.trans (Post.drew hk.wrel) (a05 _) (a05 _)).trans hp (a05 _) (by simp[aO]),?_⟩;have:=VRel.sliceO (μ:=μ.set H.next l') H.next 0 0 (0+m) (0+m) nc T l' (Emb.set_same _ _ _) h3 (a05 _) ba (fun _=>by omega) (by
           rw[h4,cU ci,a01,a8,Z,a0Y,←a0C,←a0C];exact a0A _ (by omega))
          rw[h1]at this;exact this
         ·rw[c6]at U;cases U
         rw[c6]at U;injection U with U;subst U
         have b9:μ H.next=none:=hf H.next (a05 _) (by simp[aO])
         by_cases e1:n+m<=k'
         ·--in place
          obtain⟨r1,bb,et,hh,r2,r3,r4⟩:=h.obj b l _ hμ hg;have dt:O.length=m *T:=by rw[←a4.1];exact Z
          have h8:m≠0:=by omega
          have hn:O≠ []:=fun e=>by rw[e]at dt;have:=Nat.mul_eq_zero.1 dt.symm;omega
          have f1:O.all Value.oneCell'=true:=by
           rw[a0o];intro u cb;obtain⟨j,hj⟩:=List.getElem?_of_mem cb;have f5:j<c3.length:=by rw[a4.1];exact(a0m.1 hj).1
           have hr:=a4.2 j c3[j] u (a09 f5) hj;rw[hr.oneCell];rw[kL]at q8;exact a0o.1 q8 _ (a0w f5)
          have c4:o'+n *T+O.length<=bb.size:=by rw[dt,r2];have:(n+m) *T<=k' *T:=a0A _ e1;rw[a0C]at this;omega
          have co:=cZ (P:=P) l.c et O w bb (o'+n *T) 0 hh (by omega) f1 hn;simp only[a1q]at co;have g1:(bW bb.toList (o'+n *T) O).length=bb.size:=by rw[cW _ _ _ (by simpa using c4)];simp
          have f2:=Post.take h hμ hg rfl b9 ⟨l.c,o',some T,l.csz⟩ rfl (.cells (appL old c3) (some T) false) (.cells ⟨bW bb.toList (o'+n *T) O⟩ et (0,0)) (by
           refine⟨rfl,_,et,cy w _ (cC hh),by show(bW bb.toList (o'+n *T) O).length=_;rw[g1,r2],?_,fun j u hj=>?_⟩
           ·rw[dr,a01,a8,Z];show o'+_<=l.csz;rw[←r2];rw[dt]at c4;omega
           rw[dr]at hj;have mg: ∀v':Value,(bW bb.toList (o'+n *T) O)[o'+j]?=some v'->(Array.mk (bW bb.toList (o'+n *T) O))[o'+j]?=some v':=fun v' hv=>(iX _ _).trans hv
           rw[cx _ _ _ _ (by simpa using c4)]at mg;by_cases f6:j<n *T
           ·rw[a0S (by omega)]at hj;rw[if_neg (by omega)]at mg;have hl:n≠0:=fun e=>by subst e;simp at f6
            unfold e7 at al;have g9:Nat.beq n 0=false:=by
             cases g8:Nat.beq n 0 with
             |false=>rfl
             |true=>exact absurd (a04 g8) hl
            rw[g9]at al;simp only[cond_false,Heap.loadN,hg,bT,cn,bC]at al;cases f4:Nat.beq ((cs.drop o).take (n *T)).length (n *T) with
            |false=>rw[f4]at al;cases al
            |true=>
             rw[f4]at al
             simp only[cond_true,a00]at al
             rw[←al,a0G,if_pos f6,a0W]at hj
             obtain⟨u',cb,hr⟩:=r4 (o+j) u hj
             refine⟨u',mg u' ?_,hr.mono (Emb.set_ext _ b9)⟩
             have:o'+j=l.sh+(o+j):=by have:=b6 (by omega);omega
             rw[this];simpa using cb
           rw[a11 (by omega),a8]at hj;obtain⟨u',cb,hr⟩:=a4.get hj;have h7:j-n *T<O.length:=(a0m.1 cb).1;rw[if_pos (by omega)]at mg;exact⟨u',mg u' (by rw[←cb];congr 1;omega),hr.mono (Emb.set_ext _ b9)⟩)
          refine⟨.slice (some ⟨l.c,o',none⟩) (n+m) k',_,_,eK (w':=be w l.c (.cells ⟨bW bb.toList (o'+n *T) O⟩ et (0,0))) hu a1 (fun Y=>a0 Y) b3 V e1 ax (fun a ha=>?_) (fun e=>by cases e),f2,?_⟩
          ·injection ha with ha;subst ha;rw[cH];exact co
          exact VRel.sliceO (μ:=μ.set H.next ⟨l.c,o',some T,l.csz⟩) H.next 0 o' (n+m) (n+m) k' T ⟨l.c,o',some T,l.csz⟩ (Emb.set_same _ _ _) rfl (a05 _) e1 (fun _=>rfl) dd
         ·--a c3 row
          obtain⟨nc,ba,E⟩:=gp (P:=P) (w:=w) (ty:=ty) hu a1 (fun Y=>a0 Y) hi cm cw V (by omega) q2 (by omega) b0 a3;rw[dC]at E;have hk:=Post.kill h hμ hg rfl;obtain⟨l',h1,h2,h3,h4,_,hp⟩:=cO (P:=P) (H:=H.put b .dead) hk.wrel.drew b9 e (bl.append a2) (Builtin.zeroCells vz.cells (nc-(n+m))).toList (some T) (fun e=>by cases e);rw[dr];refine⟨_,_,_,E,(hk.trans (Post.drew hk.wrel) (a05 _) (a05 _)).trans hp (a05 _) (by simp[aO]),?_⟩;have:=VRel.sliceO (μ:=μ.set H.next l') H.next 0 0 (n+m) (n+m) nc T l' (Emb.set_same _ _ _) h3 (a05 _) ba (fun _=>by omega) (by
           rw[h4,cU ci,a01,a8,Z,a0Y,←a0C,←a0C];exact a0A _ (by omega))
          rw[h1]at this;exact this
    cases A
   cases A
  cases A
 cases A
end
end Go.R
namespace Go.R
section
variable {P:Program} {μ:Emb} {H H':Heap} {w:World}
theorem copy_sound{types:Array TypeId}{ty:TypeId}{d s d' O v:Value}(h:WRel μ H w)(hd:VRel μ d d')(hs:VRel μ s O)(z:aCopy P types d s H=some (v,H')):
  ∃v' w',(Builtin.copy_ types ty #[d',O]).run P w= .ok v' w'/\Post μ H w μ H' w'/\VRel μ v v':=by
 unfold aCopy at z
 split at z
 ·rename_i dt ax;split at z
  ·rename_i e base E dk m hu Z;split at z
   ·rename_i sz a0;simp only at z;obtain⟨A,T,rfl,b9⟩:=cP hd;have Y:(Builtin.lenOf O).run P w= .ok m w:=lenA_run Z hs;cases hq:Nat.beq (Nat.min m E) 0 with
    |true=>
     rw[hq]at z
     simp only[cond_true,a00,a02]at z
     obtain⟨rfl,rfl⟩:=z
     have h0:Nat.min m E=0:=a04 hq
     refine⟨_,w,?_,Post.refl h,.atom (goInt 0) rfl⟩
     have ba:(Builtin.firstCells sz 0 O).run P w= .ok #[] w:=by
      unfold lenA at Z;split at Z
      ·rename_i a n k;obtain⟨a',k',rfl,_⟩:=cP hs;cases a'<;>simp[Builtin.firstCells,loadCells,loadCellsFrom]
      ·rename_i u;obtain rfl:=hs.string_inv;simp only[Builtin.firstCells,Sem.run_pure,dp];congr 1;simp
      cases Z
     unfold Builtin.copy_
     simp only[ax,show(#[Value.slice A E T,O]:Array Value)[0]?=some (Value.slice A E T) from rfl,show(#[Value.slice A E T,O]:Array Value)[1]?=some O from rfl,
      Sem.run_bind,ap w hu,Result.andThen_ok,Y,aT w a0,h0,ba]
     cases A<;>simp[storeCells]
    |false=>
     rw[hq]at z
     simp only[cond_false]at z
     split at z
     ·rename_i l a hl;split at z
      ·rename_i H1 b0;simp only[a00,a02]at z;obtain⟨rfl,rfl⟩:=z;obtain⟨b,o,sp⟩:=a;have bl:sp=none:=hd.slice_some.1;subst bl;obtain⟨cd,bb,an,b2⟩:=dB (P:=P) h hs ⟨m,Z,Nat.min_le_left _ _⟩ hl;obtain⟨U,hμ,hc⟩:=hd.slice_inv;have h0:Nat.min m E≠0:=fun e=>by rw[e]at hq;cases hq
       have cb:0<E:=by
        rcases Nat.eq_zero_or_pos E with e|e
        ·exfalso;apply h0;rw[e];exact Nat.min_zero _
        exact e
       obtain⟨w',a4,hp⟩:=eT (P:=P) h hμ b0 an;have a9:A=some ⟨U.c,U.sh+o,none⟩:=by
        rcases hc with⟨_,V⟩|⟨e',o',k',_,V,cc,_,a3,_⟩|⟨hz,_,_⟩
        rotate_right
        ·omega
        ·injection V with V
        injection V with V _ _;rw[V,a3 (by omega)]
       subst a9;refine⟨goInt (Nat.min m E:Nat),w',?_,hp,.atom _ rfl⟩;unfold Builtin.copy_;simp only[ax,show(#[Value.slice (some ⟨U.c,U.sh+o,none⟩) E T,O]:Array Value)[0]?=some (Value.slice (some ⟨U.c,U.sh+o,none⟩) E T) from rfl,
        show(#[Value.slice (some ⟨U.c,U.sh+o,none⟩) E T,O]:Array Value)[1]?=some O from rfl,
        Sem.run_bind,ap w hu,Result.andThen_ok,Y,aT w a0,bb,a4,Sem.run_pure]
      cases z
     cases z
   cases z
  cases z
 cases z
theorem len_sound{t ty:TypeId}{x V v:Value}(h:WRel μ H w)(O:VRel μ x V)(z:aLen P t x H=some v):
  (Builtin.len_ #[t] ty #[V]).run P w= .ok v w/\cJ v=true:=by
 unfold aLen at z
 split at z
 ·rename_i e a n k A;injection z with z;subst z;obtain⟨a',k',rfl,_⟩:=cP O;exact⟨by simp[Builtin.len_,ap w A],rfl⟩
 ·rename_i s A;injection z with z;subst z;obtain rfl:=O.string_inv;exact⟨by simp[Builtin.len_,ap w A,bC],rfl⟩
 ·rename_i k e A;injection z with z;subst z;obtain rfl:=O.mapNil_inv;exact⟨by simp[Builtin.len_,ap w A],rfl⟩
 ·rename_i k e r A;split at z
  ·rename_i es Y;injection z with z;subst z;obtain⟨l,hμ,rfl⟩:=O.map_inv;obtain⟨U,E,Z,hl,_⟩:=h.obj r l _ hμ Y;have T:(getObj l.c).run P w= .ok (.map U E) w:=run_getObj Z (by intros;simp);exact⟨by simp[Builtin.len_,ap w A,T,hl],rfl⟩
  cases z
 cases z
theorem kv{ρ ρ':Operand->Value}{o:Oper}{s d:TypeId}{x:Operand}{r:AN}(h:WRel μ H w)(A:o.op= .convert s d x)(Z: ∀x∈o.op.operands,VRel μ (ρ x) (ρ' x))
  (O:fw P ρ o s d (ρ x) H=some (r,H')):OpOK P μ H w (execOp ρ' o) r H':=by
 have Y:VRel μ (ρ x) (ρ' x):=Z x (by rw[A];simp[Op.operands])
 have E:execOp ρ' o=(do Pure.pure (.value (←convert s d (ρ' x)))):=by unfold execOp;simp only[A]
 unfold fw at O
 split at O
 ·rename_i k n hv;rw[hv]at Y;obtain⟨rfl,v,z,rfl⟩:=cv O;unfold kw at z;split at z
  ·rename_i sd kd V U;injection z with z;subst z;rw[E];refine OpOK.value (v':= .int kd (kd.wrap n)) ?_ (Post.refl h) (.atom _ rfl);rw[Y.int_inv];simp[convert,ap w V,ap w U,Conv.intToInt]
  cases z
 obtain⟨rfl,v,v',rfl,T,hr⟩:=da O (fun _ _=>by rw[A];simp) Z
 exact⟨.value v',w,μ,T w,Post.refl h,hr⟩
theorem keyKind_atom{d:TypeDesc}{k:Value}(h:keyKind d k=true):cJ k=true:=by unfold keyKind at h;split at h<;>first|rfl|cases h
theorem kD(a b:ByteArray):(a==b)=de a b:=by
 have e:(a==b)=(a.data==b.data):=by cases a;cases b;rfl
 rw[e,a0x];simp only[beq_iff_eq,de];constructor
 ·intro h;rw[h]
 intro h;exact a0Q.1 h
theorem bytesEq_iff{a b:ByteArray}(h:de a b=true):a=b:=by simp only[de,beq_iff_eq]at h;exact ByteArray.ext (a0Q.1 h)
theorem byteArray_beq_self(a:ByteArray):(a==a)=true:=by rw[kD];simp[de]
def EntRel(μ:Emb)(es:List (Value×Value))(h:List MapEntry):Prop:=
 es.length=h.length/\∀(i:Nat) x y,es[i]?=some x->h[i]?=some y->VRel μ x.1 y.key/\VRel μ x.2 y.val
theorem callee_sound{f Y:Value}{args:List Value}{z:Array Value}{r:AN}(hf:VRel μ f Y)(ha:LRel μ args z.toList)(h:ga P f args=some r):
  ∃i O,r= .enter i O/\∃E,(∀w,(do let d ←Deferred.ofValue Y z;invoke d.target d.args:Sem Next).run P w= .ok (.enter i E) w)/\LRel μ O E.toList:=by
 unfold ga at h
 split at h
 ·rename_i i first V;obtain⟨U,A,rfl,h1,h2⟩:=hf.func_inv;split at h
  ·rename_i fn al;cases T:(fn.body.isSome&& !(fn.name== "runtime.NumGoroutine")) with
   |false=>rw[T]at h;cases h
   |true=>
    rw[T]at h
    simp only[cond_true,a00]at h;subst h
    simp only[a03,a0n]at T
    refine⟨i,_,rfl,(U++z)++A,fun w=>?_,?_⟩
    ·have hb: ¬fn.body=none:=by intro Z;rw[Z]at T;cases T.1
     have an: ¬fn.name= "runtime.NumGoroutine" :=by have:=T.2;simpa using this
     simp[Deferred.ofValue,invoke,callFunc,al,an,hb]
    rw[dr,dr]
    have:=(h1.append (ha.append h2))
    simpa using this
  cases h
 cases h
end
end Go.R
