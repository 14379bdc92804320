/-
The evaluator is sound: values, operations, memory.
-/
import Derived.Test.YtapgbjedgcpffaaZNR0
import Derived.IntWalk
set_option linter.unusedVariables false
set_option linter.unusedSimpArgs false
namespace Go.R
structure Loc where
 c:Nat
 sh:Nat
 opn:Option Nat
 csz:Nat
abbrev Emb:=Nat->Option Loc
inductive VRel(μ:Emb):Value->Value->Prop
 |atom (v:Value):bG v=true->VRel μ v v
 |ptr (b o:Nat) (l:Loc):μ b=some l->VRel μ (.pointer (some ⟨b,o,none⟩)) (.pointer (some ⟨l.c,l.sh+o,none⟩))
 |sliceC (b o n k:Nat) (l:Loc):μ b=some l->l.opn=none->VRel μ (.slice (some ⟨b,o,none⟩) n k) (.slice (some ⟨l.c,l.sh+o,none⟩) n k)
 |sliceO (b o o' n k k' e:Nat) (l:Loc):μ b=some l->l.opn=some e->n<=k->k<=k'->(0<k->o'=l.sh+o)->o'+k' *e<=l.csz->
   VRel μ (.slice (some ⟨b,o,none⟩) n k) (.slice (some ⟨l.c,o',none⟩) n k')
 |sliceZ (b o:Nat) (a:Addr) (l:Loc):μ b=some l->VRel μ (.slice (some ⟨b,o,none⟩) 0 0) (.slice (some a) 0 0)
 |map (b:Nat) (l:Loc):μ b=some l->VRel μ (.map (some b)) (.map (some l.c))
 |func (fn:Fn) (xs ys xs' ys':Array Value):xs.toList.length=xs'.toList.length->ys.toList.length=ys'.toList.length->
   (∀(i:Nat) v v',xs.toList[i]?=some v->xs'.toList[i]?=some v'->VRel μ v v')->
   (∀(i:Nat) v v',ys.toList[i]?=some v->ys'.toList[i]?=some v'->VRel μ v v')->VRel μ (.func fn xs ys) (.func fn xs' ys')
 |agg (xs xs':Array Value):xs.toList.length=xs'.toList.length->
   (∀(i:Nat) v v',xs.toList[i]?=some v->xs'.toList[i]?=some v'->VRel μ v v')->VRel μ (.agg xs) (.agg xs')
 |tuple (xs xs':Array Value):xs.toList.length=xs'.toList.length->
   (∀(i:Nat) v v',xs.toList[i]?=some v->xs'.toList[i]?=some v'->VRel μ v v')->VRel μ (.tuple xs) (.tuple xs')
def LRel(μ:Emb)(l l':List Value):Prop:=l.length=l'.length/\∀(i:Nat) v v',l[i]?=some v->l'[i]?=some v'->VRel μ v v'
section
variable {μ μ':Emb}
theorem VRel.mono(h: ∀b l,μ b=some l->μ' b=some l){v v':Value}(z:VRel μ v v'):VRel μ' v v':=by
 induction z with
 |atom v h0=>exact .atom v h0
 |ptr b o l hb=>exact .ptr b o l (h _ _ hb)
 |sliceC b o n k l hb ho=>exact .sliceC b o n k l (h _ _ hb) ho
 |sliceO b o o' n k k' e l hb ho h1 h2 h3 h4=>exact .sliceO b o o' n k k' e l (h _ _ hb) ho h1 h2 h3 h4
 |sliceZ b o a l hb=>exact .sliceZ b o a l (h _ _ hb)
 |map b l hb=>exact .map b l (h _ _ hb)
 |func fn xs ys xs' ys' h1 h2 _ _ i1 i2=>exact .func fn xs ys xs' ys' h1 h2 i1 i2
 |agg xs xs' h1 _ i1=>exact .agg xs xs' h1 i1
 |tuple xs xs' h1 _ i1=>exact .tuple xs xs' h1 i1
theorem LRel.nil:LRel μ [] []:=⟨rfl,fun i v v' h=>by simp at h⟩
theorem LRel.cons{v v':Value}{l l':List Value}(h:VRel μ v v')(E:LRel μ l l'):LRel μ (v::l) (v'::l'):=by
 refine⟨by simp[E.1],fun i x O z A=>?_⟩;cases i with
 |zero=>simp at z A;subst z A;exact h
 |succ i=>exact E.2 i x O (by simpa using z) (by simpa using A)
theorem LRel.head{v v':Value}{l l':List Value}(h:LRel μ (v::l) (v'::l')):VRel μ v v':=h.2 0 v v' rfl rfl
theorem LRel.tail{v v':Value}{l l':List Value}(h:LRel μ (v::l) (v'::l')):LRel μ l l':=
 ⟨by simpa using h.1,fun i x E z A=>h.2 (i+1) x E (by simpa using z) (by simpa using A)⟩
theorem LRel.get{l l':List Value}(h:LRel μ l l'){i:Nat}{v:Value}(z:l[i]?=some v): ∃v',l'[i]?=some v'/\VRel μ v v':=by
 have hi:i<l'.length:=by rw[←h.1];exact(a0o.1 z).1
 exact⟨l'[i],a09 hi,h.2 i v _ z (a09 hi)⟩
theorem LRel.append{a b E O:List Value}(h:LRel μ a E)(k:LRel μ b O):LRel μ (a++b) (E++O):=by
 refine⟨by simp[h.1,k.1],fun i v v' z A=>?_⟩;by_cases hi:i<a.length
 ·rw[a0P hi]at z;rw[a0P (h.1▸hi)]at A;exact h.2 i v v' z A
 rw[a0X (by omega)]at z;rw[a0X (by have:=h.1;omega),←h.1]at A;exact k.2 _ v v' z A
theorem LRel.take{a E:List Value}(h:LRel μ a E)(n:Nat):LRel μ (a.take n) (E.take n):=by
 refine⟨by simp[h.1],fun i v v' z A=>?_⟩;rw[a0J]at z A;split at z
 ·rename_i hi;rw[if_pos hi]at A;exact h.2 i v v' z A
 cases z
theorem LRel.drop{a z:List Value}(h:LRel μ a z)(n:Nat):LRel μ (a.drop n) (z.drop n):=by refine⟨by simp[h.1],fun i v v' A E=>?_⟩;rw[a10]at A E;exact h.2 _ v v' A E
theorem LRel.nil_left{l':List Value}(h:LRel μ [] l'):l'=[]:=a0e h.1.symm
theorem LRel.cons_left{v:Value}{l l':List Value}(h:LRel μ (v::l) l'): ∃v' z,l'=v'::z/\VRel μ v v'/\LRel μ l z:=by
 cases l' with
 |nil=>have:=h.1;simp at this
 |cons v' z=>exact⟨v',z,rfl,h.head,h.tail⟩
theorem VRel.oneCell{v v':Value}(h:VRel μ v v'):v'.oneCell'=v.oneCell':=by cases h<;>rfl
theorem VRel.eq0{v v':Value}(h:VRel μ v v')(z:bG v=true):v'=v:=by
 cases h with
 |atom=>rfl
 |func fn xs ys xs' ys' h1 h2 _ _=>
  simp only[bG,a04]at z
  have A:xs.size=0:=a03 z.1
  have E:ys.size=0:=a03 z.2
  have O:xs= #[]:=a0O.1 A
  have T:ys= #[]:=a0O.1 E
  subst O T
  have U:xs'= #[]:=a0O.1 (by simpa using h1.symm)
  have V:ys'= #[]:=a0O.1 (by simpa using h2.symm)
  subst U V
  rfl
 |_=>simp[bG]at z
theorem LRel.eq0{l l':List Value}(h:LRel μ l l')(z:l.all bG=true):l'=l:=by
 induction l generalizing l' with
 |nil=>exact h.nil_left
 |cons v l ih=>
  obtain⟨v',O,rfl,E,A⟩:=h.cons_left
  simp only[a0A,a04]at z
  rw[E.eq0 z.1,ih A z.2]
theorem VRel.eq1{v v':Value}(h:VRel μ v v')(z:f6 v=true):v'=v:=by
 cases h with
 |agg xs xs' hl hi=>
  have:=LRel.eq0 (μ:=μ) (l:=xs.toList) (l':=xs'.toList) ⟨hl,hi⟩ z
  rw[a0N.1 this]
 |atom v h0=>rfl
 |_=>exact VRel.eq0 (μ:=μ) (by constructor<;>assumption) z
theorem LRel.eq1{l l':List Value}(h:LRel μ l l')(z:l.all f6=true):l'=l:=by
 induction l generalizing l' with
 |nil=>exact h.nil_left
 |cons v l ih=>
  obtain⟨v',O,rfl,E,A⟩:=h.cons_left
  simp only[a0A,a04]at z
  rw[E.eq1 z.1,ih A z.2]
theorem LRel.refl0{l:List Value}(h:l.all bG=true):LRel μ l l:=by refine⟨rfl,fun i v v' A z=>?_⟩;rw[A]at z;injection z with z;subst z;exact .atom v (a0f.1 h v (a0j A))
theorem VRel.refl1{v:Value}(h:f6 v=true):VRel μ v v:=by
 cases v with
 |agg cs=>have:=LRel.refl0 (μ:=μ) (l:=cs.toList) h;exact .agg cs cs this.1 this.2
 |_=>exact .atom _ h
theorem LRel.refl1{l:List Value}(h:l.all f6=true):LRel μ l l:=by refine⟨rfl,fun i v v' A z=>?_⟩;rw[A]at z;injection z with z;subst z;exact VRel.refl1 (a0f.1 h v (a0j A))
theorem VRel.refl2{v:Value}(h:noA2 v=true):VRel μ v v:=by
 cases v with
 |tuple vs=>have:=LRel.refl1 (μ:=μ) (l:=vs.toList) h;exact .tuple vs vs this.1 this.2
 |_=>exact VRel.refl1 h
theorem VRel.undef:VRel μ undef undef:=VRel.refl2 rfl
theorem VRel.eq2{v v':Value}(h:VRel μ v v')(z:noA2 v=true):v'=v:=by
 cases h with
 |tuple xs xs' hl hi=>
  have:=LRel.eq1 (μ:=μ) (l:=xs.toList) (l':=xs'.toList) ⟨hl,hi⟩ z
  rw[a0N.1 this]
 |atom v h0=>rfl
 |_=>exact VRel.eq1 (μ:=μ) (by constructor<;>assumption) z
theorem VRel.cells{v v':Value}(h:VRel μ v v'):LRel μ v.cells.toList v'.cells.toList:=by
 have one: ∀{u z:Value},VRel μ u z->LRel μ [u] [z]:=fun A=> .cons A .nil
 cases h with
 |agg xs xs' hl hi=>exact⟨hl,hi⟩
 |atom v h0=>cases v<;>first|(simp[bG]at h0;done)|exact one (.atom _ h0)
 |ptr b o l hb=>exact one (.ptr b o l hb)
 |sliceC b o n k l hb ho=>exact one (.sliceC b o n k l hb ho)
 |sliceO b o o' n k k' e l hb ho h1 h2 h3 h4=>exact one (.sliceO b o o' n k k' e l hb ho h1 h2 h3 h4)
 |sliceZ b o a l hb=>exact one (.sliceZ b o a l hb)
 |map b l hb=>exact one (.map b l hb)
 |func fn xs ys xs' ys' h1 h2 i1 i2=>exact one (.func fn xs ys xs' ys' h1 h2 i1 i2)
 |tuple xs xs' h1 i1=>exact one (.tuple xs xs' h1 i1)
theorem VRel.int_inv{k:IntKind}{n:Int}{v':Value}(h:VRel μ (.int k n) v'):v'= .int k n:=h.eq0 rfl
theorem VRel.bool_inv{b:Bool}{v':Value}(h:VRel μ (.bool b) v'):v'= .bool b:=h.eq0 rfl
theorem VRel.string_inv{s:ByteArray}{v':Value}(h:VRel μ (.string s) v'):v'= .string s:=h.eq0 rfl
theorem VRel.ptr_inv{b o:Nat}{v':Value}(h:VRel μ (.pointer (some ⟨b,o,none⟩)) v'): ∃l,μ b=some l/\v'= .pointer (some ⟨l.c,l.sh+o,none⟩):=by
 cases h with
 |atom _ h0=>simp[bG]at h0
 |ptr _ _ l hb=>exact⟨l,hb,rfl⟩
theorem VRel.ptr_some{a:Addr}{v':Value}(h:VRel μ (.pointer (some a)) v'):a.spot=none/\∃z,v'= .pointer (some z):=by
 cases h with
 |atom _ h0=>simp[bG]at h0
 |ptr _ _ l hb=>exact⟨rfl,_,rfl⟩
theorem VRel.agg_inv{xs:Array Value}{v':Value}(h:VRel μ (.agg xs) v'): ∃z,v'= .agg z/\LRel μ xs.toList z.toList:=by
 cases h with
 |atom _ h0=>simp[bG]at h0
 |agg _ z hl hi=>exact⟨z,rfl,hl,hi⟩
theorem VRel.tuple_inv{xs:Array Value}{v':Value}(h:VRel μ (.tuple xs) v'): ∃z,v'= .tuple z/\LRel μ xs.toList z.toList:=by
 cases h with
 |atom _ h0=>simp[bG]at h0
 |tuple _ z hl hi=>exact⟨z,rfl,hl,hi⟩
theorem VRel.func_inv{fn:Fn}{xs ys:Array Value}{v':Value}(h:VRel μ (.func fn xs ys) v'):
  ∃z A,v'= .func fn z A/\LRel μ xs.toList z.toList/\LRel μ ys.toList A.toList:=by
 cases h with
 |atom _ h0=>
  simp only[bG,a04]at h0
  have E:xs= #[]:=a0O.1 (a03 h0.1)
  have O:ys= #[]:=a0O.1 (a03 h0.2)
  subst E O
  exact⟨#[], #[],rfl,.nil,.nil⟩
 |func _ _ _ z A h1 h2 i1 i2=>exact⟨z,A,rfl,⟨h1,i1⟩,⟨h2,i2⟩⟩
theorem VRel.map_inv{b:Nat}{v':Value}(h:VRel μ (.map (some b)) v'): ∃l,μ b=some l/\v'= .map (some l.c):=by
 cases h with
 |atom _ h0=>simp[bG]at h0
 |map _ l hb=>exact⟨l,hb,rfl⟩
theorem VRel.mapNil_inv{v':Value}(h:VRel μ (.map none) v'):v'= .map none:=h.eq0 rfl
theorem VRel.slice_inv{b o n k:Nat}{v':Value}(h:VRel μ (.slice (some ⟨b,o,none⟩) n k) v'):
  ∃l,μ b=some l/\((l.opn=none/\v'= .slice (some ⟨l.c,l.sh+o,none⟩) n k)\/
   (∃e A z,l.opn=some e/\v'= .slice (some ⟨l.c,A,none⟩) n z/\n<=k/\k<=z/\(0<k->A=l.sh+o)/\A+z *e<=l.csz)\/(n=0/\k=0/\∃E,v'= .slice (some E) 0 0)):=by
 cases h with
 |atom _ h0=>simp[bG]at h0
 |sliceC _ _ _ _ l hb ho=>exact⟨l,hb,.inl ⟨ho,rfl⟩⟩
 |sliceO _ _ A _ _ z e l hb ho h1 h2 h3 h4=>exact⟨l,hb,.inr (.inl ⟨e,A,z,ho,rfl,h1,h2,h3,h4⟩)⟩
 |sliceZ _ _ a l hb=>exact⟨l,hb,.inr (.inr ⟨rfl,rfl,a,rfl⟩)⟩
theorem VRel.sliceNil_inv{n k:Nat}{v':Value}(h:VRel μ (.slice none n k) v'):n=0/\k=0/\v'= .slice none n k:=by
 cases h with
 |atom _ h0=>
  simp only[bG,a04]at h0
  exact⟨a03 h0.1,a03 h0.2,rfl⟩
theorem VRel.slice_some{a:Addr}{n k:Nat}{v':Value}(h:VRel μ (.slice (some a) n k) v'):a.spot=none/\∃A z,v'= .slice (some A) n z:=by
 cases h with
 |atom _ h0=>simp[bG]at h0
 |sliceC _ _ _ _ l hb ho=>exact⟨rfl,_,_,rfl⟩
 |sliceO _ _ o' _ _ z e l hb ho h1 h2 h3 h4=>exact⟨rfl,_,_,rfl⟩
 |sliceZ _ _ a l hb=>exact⟨rfl,_,_,rfl⟩
end
def ObjRel(μ:Emb)(w:World)(l:Loc):AObj->Prop
 | .cells cs opn true=>l.opn=opn/\opn=none/\l.c<w.heap.size/\∀(i:Nat) v,cs[i]?=some v->∃v',w.cell? ⟨l.c,l.sh+i,none⟩=some v'/\VRel μ v v'
 | .cells cs opn false=>l.opn=opn/\∃(h:Array Value) (e:TypeId),w.heap[l.c]?=some (.cells h e (0,0))/\h.size=l.csz/\l.sh+cs.length<=l.csz/\
   ∀(i:Nat) v,cs[i]?=some v->∃v',h[l.sh+i]?=some v'/\VRel μ v v'
 | .iter s pos=>l.sh=0/\w.heap[l.c]?=some (.stringIter s pos)
 | .tab es=> ∃(z:Array MapEntry) (A:Nat),w.heap[l.c]?=some (.map z A)/\es.length=z.toList.length/\
   ∀(i:Nat) x y,es[i]?=some x->z.toList[i]?=some y->VRel μ x.1 y.key/\VRel μ x.2 y.val
 | .dead=>True
structure WRel(μ:Emb)(H:Heap)(w:World):Prop where
 obj: ∀b l o,μ b=some l->H.get b=some o->ObjRel μ w l o
 inj: ∀b1 b2 l1 l2 o1 o2,b1≠b2->μ b1=some l1->μ b2=some l2->H.get b1=some o1->H.get b2=some o2->o1.rw=true->o2.live=true->l1.c≠l2.c
theorem a6{w:World}{c:Nat}{o:Obj}(h:w.heap[c]?=some o):c<w.heap.size:=(a0C.1 h).1
theorem ObjRel.lt{μ:Emb}{w:World}{l:Loc}{o:AObj}(h:ObjRel μ w l o)(E:o.live=true):l.c<w.heap.size:=by
 cases o with
 |cells cs opn ro=>
  cases ro with
  |true=>exact h.2.2.1
  |false=>obtain⟨_,O,e,z,_⟩:=h;exact a6 z
 |iter s pos=>exact a6 h.2
 |tab es=>obtain⟨T,A,z,_⟩:=h;exact a6 z
 |dead=>simp[AObj.live]at E
theorem ObjRel.keep{μ μ':Emb}{w w':World}{l:Loc}{o:AObj}(T: ∀b l,μ b=some l->μ' b=some l)(hs:w.heap.size<=w'.heap.size)
  (hc:o.live=true->w'.heap[l.c]?=w.heap[l.c]?) (h:ObjRel μ w l o):ObjRel μ' w' l o:=by
 cases o with
 |cells cs opn ro=>
  have U:=hc rfl
  cases ro with
  |true=>
   obtain⟨V,z,O,Y⟩:=h
   refine⟨V,z,by omega,fun i v hv=>?_⟩
   obtain⟨v',A,hr⟩:=Y i v hv
   refine⟨v',?_,hr.mono T⟩
   rw[←A]
   simp only[World.cell?,U]
  |false=>
   obtain⟨V,ax,e,Z,z,O,Y⟩:=h
   refine⟨V,ax,e,U.trans Z,z,O,fun i v hv=>?_⟩
   obtain⟨v',A,hr⟩:=Y i v hv
   exact⟨v',A,hr.mono T⟩
 |iter s pos=>exact⟨h.1,(hc rfl).trans h.2⟩
 |tab es=>
  obtain⟨a0,E,Z,z,O⟩:=h
  refine⟨a0,E,(hc rfl).trans Z,z,fun i x y hx hy=>?_⟩
  obtain⟨r1,r2⟩:=O i x y hx hy
  exact⟨r1.mono T,r2.mono T⟩
 |dead=>trivial
theorem eS{o:AObj}(h:o.rw=true):o.live=true:=by cases o<;>simp_all[AObj.rw,AObj.live]
structure Post(μ:Emb)(H:Heap)(w:World)(μ':Emb)(H':Heap)(w':World):Prop where
 ext: ∀b l,μ b=some l->μ' b=some l
 dom: ∀b l,μ' b=some l->μ b=some l\/(H.next<=b/\b<H'.next)
 grow:w.heap.size<=w'.heap.size
 os:w'.os=w.os
 tape:w'.tape=w.tape
 out:w'.output=w.output
 keep: ∀c,c<w.heap.size->(∀b l o,μ b=some l->H.get b=some o->o.rw=true->l.c≠c)->w'.heap[c]?=w.heap[c]?
 img: ∀b l o,μ' b=some l->H'.get b=some o->o.live=true->w.heap.size<=l.c\/∃b0 l0 o0,μ b0=some l0/\H.get b0=some o0/\o0.live=true/\(o.rw=true->o0.rw=true)/\l0.c=l.c
 wrel:WRel μ' H' w'
theorem Post.refl{μ:Emb}{H:Heap}{w:World}(h:WRel μ H w):Post μ H w μ H w:=
 ⟨fun _ _ h=>h,fun _ _ h=> .inl h,a06 _,rfl,rfl,rfl,fun _ _ _=>rfl,fun b l o z A E=> .inr ⟨b,l,o,z,A,E,id,rfl⟩,h⟩
theorem Post.trans{μ V Y:Emb}{H H1 E:Heap}{w w1 U:World}(h:Post μ H w V H1 w1)(k:Post V H1 w1 Y E U)(h1:H.next<=H1.next)(h2:H1.next<=E.next):
  Post μ H w Y E U:=by
 refine⟨fun b l z=>k.ext b l (h.ext b l z),fun b l z=>?_,a0k h.grow k.grow,k.os.trans h.os,k.tape.trans h.tape,k.out.trans h.out,fun c hc T=>?_,fun b l o z O A=>?_,k.wrel⟩
 ·rcases k.dom b l z with hb1|⟨hb1,hb2⟩
  ·rcases h.dom b l hb1 with hb0|⟨hb3,hb4⟩
   ·exact .inl hb0
   exact .inr ⟨hb3,by omega⟩
  exact .inr ⟨by omega,hb2⟩
 ·rw[k.keep c (a0E hc h.grow) ?_,h.keep c hc T];intro b l o z O A Z;rcases h.img b l o z O (eS A) with hh|⟨b0,l0,o0,g1,g2,g3,g5,g4⟩
  ·omega
  exact T b0 l0 o0 g1 g2 (g5 A) (g4.trans Z)
 rcases k.img b l o z O A with hh|⟨b0,l0,o0,g1,g2,g3,g5,g4⟩
 ·exact .inl (a0k h.grow hh)
 rcases h.img b0 l0 o0 g1 g2 g3 with hh|⟨b1,l1,o1,e1,e2,e3,e5,e4⟩
 ·exact .inl (g4▸hh)
 exact .inr ⟨b1,l1,o1,e1,e2,e3,fun hx=>e5 (g5 hx),e4.trans g4⟩
theorem WRel.drew{μ:Emb}{H:Heap}{w:World}(h:WRel μ H w):WRel μ H w.drew:=
 ⟨fun b l o z A=>(h.obj b l o z A).keep (fun _ _ h=>h) (a06 _) (fun _=>rfl),h.inj⟩
theorem Post.drew{μ:Emb}{H:Heap}{w:World}(h:WRel μ H w):Post μ H w μ H w.drew:=
 ⟨fun _ _ h=>h,fun _ _ h=> .inl h,a06 _,rfl,rfl,rfl,fun _ _ _=>rfl,fun b l o z A E=> .inr ⟨b,l,o,z,A,E,id,rfl⟩,h.drew⟩
def Emb.set(μ:Emb)(b:Nat)(l:Loc):Emb:=fun k=>if k=b then some l else μ k
theorem Emb.set_same(μ:Emb)(b:Nat)(l:Loc):μ.set b l b=some l:=by simp[Emb.set]
theorem Emb.set_ext{μ:Emb}{b:Nat}(l:Loc)(h:μ b=none): ∀k x,μ k=some x->μ.set b l k=some x:=by
 intro k x z;have:k≠b:=fun e=>by subst e;rw[h]at z;cases z
 simp[Emb.set,this,z]
theorem Emb.set_inv{μ:Emb}{b:Nat}{l:Loc}{k:Nat}{x:Loc}(h:μ.set b l k=some x):(k=b/\x=l)\/(k≠b/\μ k=some x):=by
 unfold Emb.set at h;split at h
 ·rename_i e;injection h with h;exact .inl ⟨e,h.symm⟩
 rename_i e;exact .inr ⟨e,h⟩
theorem gv(w:World)(o:Obj){c:Nat}(h:c<w.heap.size):(w.alloc o).heap[c]?=w.heap[c]?:=by simp only[World.alloc,Array.getElem?_push];rw[if_neg (by omega)]
theorem dZ(w:World)(o:Obj):(w.alloc o).heap[w.heap.size]?=some o:=by show(w.heap.push o)[w.heap.size]?=some o;simp
theorem Post.push{μ:Emb}{H:Heap}{w:World}(h:WRel μ H w)(hf:μ H.next=none)(l:Loc)(hl:l.c=w.heap.size)(o:AObj)(co:Obj)
  (ho:ObjRel (μ.set H.next l) (w.alloc co) l o):Post μ H w (μ.set H.next l) (H.push o) (w.alloc co):=by
 have hm:=Emb.set_ext l hf
 refine⟨hm,fun b x A=>?_,by simp,rfl,rfl,rfl,fun c hc _=>gv w co hc,fun b x o' A z hr=>?_,⟨fun b x o' A z=>?_,fun b1 b2 l1 l2 o1 o2 E a4 a5 O T bb ax=>?_⟩⟩
 ·rcases Emb.set_inv A with⟨rfl,rfl⟩|⟨_,A⟩
  ·exact .inr ⟨a06 _,by simp⟩
  exact .inl A
 ·rcases Emb.set_inv A with⟨rfl,rfl⟩|⟨E,A⟩
  ·exact .inl (by omega)
  rw[Heap.get_push_ne H o (Ne.symm E)]at z;exact .inr ⟨b,x,o',A,z,hr,id,rfl⟩
 ·rcases Emb.set_inv A with⟨rfl,rfl⟩|⟨E,A⟩
  ·rw[Heap.get_push_same]at z;injection z with z;subst z;exact ho
  rw[Heap.get_push_ne H o (Ne.symm E)]at z;have hr:=h.obj b x o' A z;exact hr.keep hm (by simp) (fun a8=>gv w co (hr.lt a8))
 rcases Emb.set_inv a4 with⟨e1,f1⟩|⟨Y,U⟩<;>rcases Emb.set_inv a5 with⟨e2,f2⟩|⟨Z,V⟩
 ·exact absurd (e1.trans e2.symm) E
 ·rw[Heap.get_push_ne H o (Ne.symm Z)]at T;have:=(h.obj b2 l2 o2 V T).lt ax;subst f1;omega
 ·rw[Heap.get_push_ne H o (Ne.symm Y)]at O;have:=(h.obj b1 l1 o1 U O).lt (by cases o1<;>simp_all[AObj.rw,AObj.live]);subst f2;omega
 rw[Heap.get_push_ne H o (Ne.symm Y)]at O
 rw[Heap.get_push_ne H o (Ne.symm Z)]at T
 exact h.inj b1 b2 l1 l2 o1 o2 E U V O T bb ax
def aD(w:World)(c:Nat)(o:Obj):World:={w with heap:=w.heap.setIfInBounds c o}
theorem bW(w:World){c k:Nat}(o:Obj)(h:c≠k):(aD w c o).heap[k]?=w.heap[k]?:=by simp[aD,a17 h]
theorem aN(w:World){c:Nat}(o:Obj)(h:c<w.heap.size):(aD w c o).heap[c]?=some o:=by simp[aD,h]
@[simp] theorem setObjAt_size(w:World)(c:Nat)(o:Obj):(aD w c o).heap.size=w.heap.size:=by simp[aD]
theorem Post.put{μ:Emb}{H:Heap}{w:World}(h:WRel μ H w){b:Nat}{l:Loc}{o:AObj}(O:μ b=some l)(V:H.get b=some o)(T:o.rw=true)
  (E:AObj) (cs:E.rw=true) (U:Obj) (hn:ObjRel μ (aD w l.c U) l E):Post μ H w μ (H.put b E) (aD w l.c U):=by
 refine⟨fun _ _ h=>h,fun _ _ h=> .inl h,by simp,rfl,rfl,rfl,fun c hc ax=>bW w U (ax b l o O V T),fun k x Y A z b0=>?_,⟨fun k x Y A z=>?_,fun b1 b2 l1 l2 o1 o2 a4 Z al a5 a8 a9 bb=>?_⟩⟩
 ·by_cases e:b=k
  ·subst e;rw[O]at A;injection A with A;subst A;exact .inr ⟨b,l,o,O,V,eS T,fun _=>T,rfl⟩
  rw[Heap.get_put_ne H E e]at z;exact .inr ⟨k,x,Y,A,z,b0,id,rfl⟩
 ·by_cases e:b=k
  ·subst e;rw[O]at A;injection A with A;subst A;rw[Heap.get_put_same]at z;injection z with z;subst z;exact hn
  rw[Heap.get_put_ne H E e]at z;have hx:=h.obj k x Y A z;exact hx.keep (fun _ _ h=>h) (by simp) (fun a3=>bW w U (h.inj b k l x o Y e O A V z T a3))
 have old: ∀k ok lk,μ k=some lk->(H.put b E).get k=some ok->∃oo,H.get k=some oo/\(ok.rw=true->oo.rw=true)/\(ok.live=true->oo.live=true):=by
  intro k ok lk A an;by_cases e:b=k
  ·subst e;exact⟨o,V,fun _=>T,fun _=>by cases o<;>simp_all[AObj.rw,AObj.live]⟩
  rw[Heap.get_put_ne H E e]at an;exact⟨ok,an,id,id⟩
 obtain⟨p1,q1,r1,_⟩:=old b1 o1 l1 Z a5
 obtain⟨p2,q2,_,r2⟩:=old b2 o2 l2 al a8
 exact h.inj b1 b2 l1 l2 p1 p2 a4 Z al q1 q2 (r1 a9) (r2 bb)
theorem Post.take{μ:Emb}{H:Heap}{w:World}(h:WRel μ H w){b:Nat}{l:Loc}{o:AObj}(V:μ b=some l)(ho:H.get b=some o)(hr:o.rw=true)
  (hf:μ H.next=none) (l':Loc) (hl:l'.c=l.c) (U:AObj) (co:Obj) (hn:ObjRel (μ.set H.next l') (aD w l.c co) l' U):
  Post μ H w (μ.set H.next l') ((H.put b .dead).push U) (aD w l.c co):=by
 have hm:=Emb.set_ext l' hf
 have dd:b≠H.next:=fun e=>by subst e;rw[hf]at V;cases V
 have get: ∀k,k≠H.next->((H.put b .dead).push U).get k=(H.put b .dead).get k:=fun k A=>Heap.get_push_ne (H.put b .dead) U (Ne.symm A)
 have b8:((H.put b .dead).push U).get H.next=some U:=Heap.get_push_same (H.put b .dead) U
 refine⟨hm,fun k x A=>?_,by simp,rfl,rfl,rfl,fun c hc cc=>bW w co (cc b l o V ho hr),fun k x ox A z b5=>?_,⟨fun k x ox A z=>?_,fun b1 b2 l1 l2 o1 o2 T ch ci b3 b4 Y Z=>?_⟩⟩
 ·rcases Emb.set_inv A with⟨rfl,rfl⟩|⟨_,A⟩
  ·exact .inr ⟨a06 _,by simp⟩
  exact .inl A
 ·rcases Emb.set_inv A with⟨rfl,rfl⟩|⟨T,A⟩
  ·exact .inr ⟨b,l,o,V,ho,eS hr,fun _=>hr,hl.symm⟩
  rw[get k T]at z;by_cases e:b=k
  ·subst e;rw[Heap.get_put_same]at z;injection z with z;subst z;simp[AObj.live]at b5
  rw[Heap.get_put_ne H _ e]at z;exact .inr ⟨k,x,ox,A,z,b5,id,rfl⟩
 ·rcases Emb.set_inv A with⟨rfl,rfl⟩|⟨T,A⟩
  ·rw[b8]at z;injection z with z;subst z;exact hn
  rw[get k T]at z;by_cases e:b=k
  ·subst e;rw[Heap.get_put_same]at z;injection z with z;subst z;trivial
  rw[Heap.get_put_ne H _ e]at z;have hx:=h.obj k x ox A z;exact hx.keep hm (by simp) (fun a0=>bW w co (h.inj b k l x o ox e V A ho z hr a0))
 have old: ∀k ok,k≠H.next->ok.live=true->((H.put b .dead).push U).get k=some ok->k≠b/\H.get k=some ok:=by
  intro k ok A a0 O;rw[get k A]at O;by_cases e:b=k
  ·subst e;rw[Heap.get_put_same]at O;injection O with O;subst O;simp[AObj.live]at a0
  rw[Heap.get_put_ne H _ e]at O;exact⟨Ne.symm e,O⟩
 have E: ∀{x:AObj},x.rw=true->x.live=true:=by intro x hx;cases x<;>simp_all[AObj.rw,AObj.live]
 rcases Emb.set_inv ch with⟨e1,f1⟩|⟨a1,an⟩<;>rcases Emb.set_inv ci with⟨e2,f2⟩|⟨a2,ax⟩
 ·exact absurd (e1.trans e2.symm) T
 ·obtain⟨n2,g2⟩:=old b2 o2 a2 Z b4;rw[f1,hl];exact h.inj b b2 l l2 o o2 (Ne.symm n2) V ax ho g2 hr Z
 ·obtain⟨n1,g1⟩:=old b1 o1 a1 (E Y) b3;rw[f2,hl];exact fun e=>h.inj b b1 l l1 o o1 (Ne.symm n1) V an ho g1 hr (E Y) e.symm
 obtain⟨_,g1⟩:=old b1 o1 a1 (E Y) b3
 obtain⟨_,g2⟩:=old b2 o2 a2 Z b4
 exact h.inj b1 b2 l1 l2 o1 o2 T an ax g1 g2 Y Z
end Go.R
set_option linter.unusedVariables false
namespace Go.R
section pure_
variable {α β:Type} (P:Program)
theorem bx{s:Sem α}{a:α}(h:ak P s=some a)(w:World):s.run P w= .ok a w:=by
 induction s with
 |pure x=>simp only[ak,a00]at h;subst h;rfl
 |program k ih=>simp only[ak]at h;simp only[Sem.run];exact ih _ h
 |mark m k ih=>simp only[ak]at h;simp only[Sem.run];exact ih h
 |_=>simp[ak]at h
@[simp] theorem ao(x:Sem α)(f:α->Sem β):ak P (x>>=f)=(ak P x).bind fun a=>ak P (f a):=by
 show ak P (x.bind f)=_;induction x with
 |program k ih=>simp only[Sem.bind,ak];exact ih _
 |mark m k ih=>simp only[Sem.bind,ak];exact ih
 |pure a=>rfl
 |_=>rfl
@[simp] theorem aW(a:α):ak P (Pure.pure a:Sem α)=some a:=rfl
@[simp] theorem dp:ak P program=some P:=rfl
@[simp] theorem pureRun_stuck(h:String):ak P (stuck h:Sem α)=none:=rfl
@[simp] theorem pureRun_unsupported(u:Unsupported):ak P (unsupported u:Sem α)=none:=rfl
@[simp] theorem pureRun_goPanic(v:Value):ak P (goPanic v:Sem α)=none:=rfl
@[simp] theorem pureRun_choose(q:Question):ak P (choose q)=none:=rfl
@[simp] theorem pureRun_mark(m:Mark):ak P (mark m)=some ():=rfl
theorem pureRun_ite(c:Prop) [Decidable c](x y:Sem α):ak P (if c then x else y)=if c then ak P x else ak P y:=by split<;>rfl
@[simp] theorem aT(t:TypeId):ak P (underlying t)=P.underlying t:=by unfold underlying;simp only[ao,dp,a0d];cases P.underlying t<;>rfl
@[simp] theorem cO(t:TypeId):ak P (typeInfo t)=P.info? t:=by unfold typeInfo;simp only[ao,dp,a0d];cases P.info? t<;>rfl
@[simp] theorem bF(t:TypeId):ak P (sizeOf t)=dH P t:=by unfold sizeOf dH;simp only[ao,cO];cases P.info? t<;>rfl
@[simp] theorem dW(t:TypeId):ak P (isAgg t)=eO P t:=by
 unfold isAgg eO;simp only[ao,aT];cases P.underlying t with
 |none=>rfl
 |some d=>cases d<;>rfl
theorem eN(e:RuntimeError):ak P (runtimePanic e:Sem α)=none:=by unfold runtimePanic;cases e<;>simp[newVar,newRow,newObj,ak,elemOf]<;>(intros;split<;>simp[ak])
theorem eY(k:IntKind)(x y:Int)(c:BoundsCode):ak P (boundsPanic k x y c:Sem α)=none:=by unfold boundsPanic;simp[eN,pureRun_ite]
end pure_
section runs
variable {P:Program} (w:World)
theorem aC{t:TypeId}{n:Nat}(h:dH P t=some n):(sizeOf t).run P w= .ok n w:=bx P (by rw[bF];exact h) w
theorem iQ{t:TypeId}{b:Bool}(h:eO P t=some b):(isAgg t).run P w= .ok b w:=bx P (by rw[dW];exact h) w
theorem cW{t:TypeId}{i:TypeInfo}(h:P.info? t=some i):(typeInfo t).run P w= .ok i w:=bx P (by rw[cO];exact h) w
theorem ab{t:TypeId}{d:TypeDesc}(h:P.underlying t=some d):(underlying t).run P w= .ok d w:=bx P (by rw[aT];exact h) w
theorem di{t:TypeId}{z:List Value}(h:cR P t=some z): ∃i v,P.info? t=some i/\i.zero=some v/\v.cells.toList=z/\z.all bG=true:=by
 unfold cR at h;split at h
 ·rename_i i hi;split at h
  ·rename_i v A;cases hc:v.cells.toList.all bG with
   |false=>rw[hc]at h;cases h
   |true=>rw[hc]at h;simp at h;subst h;exact⟨i,v,hi,A,rfl,hc⟩
  cases h
 cases h
theorem bX{t:TypeId}{i:TypeInfo}{v:Value}(hi:P.info? t=some i)(h:i.zero=some v):(zeroValue t).run P w= .ok v w:=by unfold zeroValue;simp[cW w hi,h]
end runs
section mem
variable {P:Program} {μ:Emb} {H:Heap} {w:World}
theorem gz(h:WRel μ H w){b o:Nat}{l:Loc}{v:Value}(U:μ b=some l)(z:H.cellAt ⟨b,o,none⟩=some v):
  ∃v',w.cell? ⟨l.c,l.sh+o,none⟩=some v'/\VRel μ v v':=by
 simp only[Heap.cellAt,fB]at z
 split at z
 ·rename_i cs an Z V;have E:=h.obj b l _ U V;cases Z with
  |true=>exact E.2.2.2 o v z
  |false=>
   obtain⟨_,al,e,Y,_,_,T⟩:=E
   obtain⟨v',O,A⟩:=T o v z
   exact⟨v',by simp only[World.cell?,Y];simpa using O,A⟩
 cases z
theorem bI(c o j:Nat):Addr.add ⟨c,o,none⟩ j=⟨c,o+j,none⟩:=by
 unfold Addr.add;split
 ·subst_vars;rfl
 rfl
theorem e9(h:WRel μ H w){b o n:Nat}{l:Loc}{vs:List Value}(hb:μ b=some l)(z:H.loadN ⟨b,o,none⟩ n=some vs):
  ∃Z,(loadCells ⟨l.c,l.sh+o,none⟩ n).run P w= .ok ⟨Z⟩ w/\LRel μ vs Z/\vs.length=n:=by
 simp only[Heap.loadN,bg,bn,aV]at z
 split at z
 ·rename_i cs a4 ro hg;cases hq:Nat.beq ((cs.drop o).take n).length n with
  |false=>rw[hq]at z;cases z
  |true=>
   rw[hq]at z;simp only[cond_true,a00]at z
   have E:((cs.drop o).take n).length=n:=a03 hq
   have key: ∀j,j<n->∃v v',cs[o+j]?=some v/\w.cell? ⟨l.c,l.sh+o+j,none⟩=some v'/\VRel μ v v':=by
    intro j U;have Y:o+j<cs.length:=by rw[a0T,a0F]at E;omega
    have al:H.cellAt ⟨b,o+j,none⟩=some cs[o+j]:=by simp only[Heap.cellAt,hg,fB];exact a09 Y
    obtain⟨v',hc,hr⟩:=gz h hb al;exact⟨_,v',a09 Y,by rw[←hc,a0U],hr⟩
   have T: ∃f:Nat->Value,∀j,j<n->w.cell? (Addr.add ⟨l.c,l.sh+o,none⟩ j)=some (f j)/\∀v,cs[o+j]?=some v->VRel μ v (f j):=by refine⟨fun j=>(w.cell? ⟨l.c,l.sh+o+j,none⟩).getD undef,fun j U=>?_⟩;obtain⟨v,v',A,O,h3⟩:=key j U;simp only[bI,O,a0Y];refine⟨trivial,fun u V=>?_⟩;rw[A]at V;injection V with V;subst V;exact h3
   obtain⟨f,T⟩:=T
   refine⟨(List.range n).map f,run_loadCells w _ n f (fun j U=>(T j U).1),?_,by rw[←z];exact E⟩
   subst z
   refine⟨by rw[E];simp,fun i v v' A O=>?_⟩
   rw[a0J]at A
   split at A
   ·rename_i hi;rw[a10]at A;simp[hi]at O;subst O;exact(T i hi).2 v A
   cases A
 cases z
theorem e8(h:WRel μ H w){b o:Nat}{l:Loc}{t:TypeId}{v:Value}(T:μ b=some l)(z:H.loadV P t ⟨b,o,none⟩=some v):
  ∃v',(loadVar t ⟨l.c,l.sh+o,none⟩).run P w= .ok v' w/\VRel μ v v':=by
 unfold Heap.loadV at z
 split at z
 ·rename_i E;split at z
  ·rename_i n Y;split at z
   ·rename_i vs V;injection z with z;subst z;obtain⟨U,O,A,_⟩:=e9 (P:=P) h T V;refine⟨.agg ⟨U⟩,?_,.agg _ _ A.1 A.2⟩;simp[loadVar,iQ w E,aC w Y,O]
   cases z
  cases z
 ·rename_i E;obtain⟨v',hc,Z⟩:=gz h T z;refine⟨v',?_,Z⟩;simp[loadVar,iQ w E,hc]
 cases z
theorem ic{α:Type}(l:List α)(k:Nat):(Array.mk l)[k]?=l[k]?:=by simp
theorem hT: ∀(cs z:List Value),z.length<=cs.length->(over cs z).length=cs.length
 | [],[],_=>rfl
 | [],_::_,h=>by simp at h
 |_::_,[],_=>rfl
 |c::cs,v::z,h=>by simp only[over,a05];rw[hT cs z (by simpa using h)]
theorem over_get: ∀(cs z:List Value) (i:Nat),z.length<=cs.length->(over cs z)[i]?=if i<z.length then z[i]? else cs[i]?
 | [],[],i,_=>by simp[over]
 | [],_::_,_,h=>by simp at h
 |_::_,[],i,_=>by simp[over]
 |c::cs,v::z,0,_=>by simp[over]
 |c::cs,v::z,i+1,h=>by simp[over,over_get cs z i (by simpa using h)]
theorem bV: ∀(cs:List Value) (o:Nat) (z:List Value),o+z.length<=cs.length->(bt cs o z).length=cs.length
 |cs,0,z,h=>by cases cs<;>exact hT _ _ (by omega)
 | [],o+1,z,h=>by simp[bt]
 |c::cs,o+1,z,h=>by simp only[bt,a05];rw[bV cs o z (by simp at h;omega)]
theorem bB: ∀(cs:List Value) (o:Nat) (z:List Value) (i:Nat),o+z.length<=cs.length->
  (bt cs o z)[i]?=if o<=i/\i<o+z.length then z[i-o]? else cs[i]?
 |cs,0,z,i,h=>by
  have:bt cs 0 z=over cs z:=by cases cs<;>rfl
  rw[this,over_get cs z i (by omega)];simp
 | [],o+1,z,i,h=>by simp at h
 |c::cs,o+1,z,0,h=>by simp[bt]
 |c::cs,o+1,z,i+1,h=>by
  simp only[bt,a1j];rw[bB cs o z i (by simp at h;omega)];by_cases hc:o<=i/\i<o+z.length
  ·rw[if_pos hc,if_pos (by omega)];congr 1;omega
  rw[if_neg hc,if_neg (by omega)]
theorem bY(c:Nat)(e:TypeId): ∀(z:List Value) (w:World) (h:Array Value) (o i:Nat),w.heap[c]?=some (.cells h e (0,0))->
  o+i+z.length<=h.size->z.all Value.oneCell'=true->z≠ []->
  (storeCells ⟨c,o,none⟩ z i).run P w= .ok () (aD w c (.cells ⟨bt h.toList (o+i) z⟩ e (0,0)))
 | [],_,_,_,_,_,_,_,hne=>absurd rfl hne
 |v::z,w,h,o,i,hh,hl,hall,_=>by
  simp only[a0A,a04]at hall;simp only[a05]at hl;have E:w.cell? ⟨c,o+i,none⟩=some (h[o+i]'(by omega)):=by simp[World.cell?,hh,show o+i<h.size by omega]
  have U:w.frozen? ⟨c,o+i,none⟩=false:=by simp[World.frozen?,hh]
  have T:w.setCell ⟨c,o+i,none⟩ v=aD w c (.cells (h.setIfInBounds (o+i) v) e (0,0)):=by
   unfold World.setCell aD;congr 1;apply a1c;intro k;by_cases A:c=k
   ·subst A;rw[Array.getElem?_modify,if_pos rfl,hh,a0I,if_pos rfl,if_pos (a6 hh)];simp
   simp[Array.getElem?_modify,A,a17 A]
  have Z:(storeCells ⟨c,o,none⟩ (v::z) i).run P w=(storeCells ⟨c,o,none⟩ z (i+1)).run P (aD w c (.cells (h.setIfInBounds (o+i) v) e (0,0))):=by simp only[storeCells,Sem.run_bind,bI];rw[run_store P w _ v _ hall.1,E];simp[U,T]
  rw[Z];by_cases Y:z=[]
  ·subst Y;simp only[storeCells,Sem.run_pure];congr 3;apply a1c;intro k;simp only[a07]at hl;rw[a0I];refine Eq.trans ?_ (ic _ _).symm;rw[bB _ _ _ _ (by simp;omega)];by_cases A:o+i=k
   ·subst A;rw[if_pos rfl,if_pos (by omega),if_pos (by simp)];simp
   rw[if_neg A,if_neg (by simp;omega)];simp
  have V:(aD w c (.cells (h.setIfInBounds (o+i) v) e (0,0))).heap[c]?=some (.cells (h.setIfInBounds (o+i) v) e (0,0)):=aN w _ (a6 hh);rw[bY c e z _ _ o (i+1) V (by simp;omega) hall.2 Y];congr 1;have: ∀(x y:Obj),aD (aD w c x) c y=aD w c y:=by intro x y;simp[aD]
  rw[this];congr 2;apply a1c;intro k;refine(ic _ _).trans (Eq.trans ?_ (ic _ _).symm);rw[bB _ _ _ _ (by simp;omega),bB _ _ _ _ (by simp;omega)];by_cases A:o+i=k
  ·subst A;rw[if_neg (by omega),if_pos (by simp)];simp[show o+i<h.size by omega]
  by_cases O:o+(i+1)<=k/\k<o+(i+1)+z.length
  ·rw[if_pos O,if_pos (by simp;omega)];rw[show k-(o+i)=(k-(o+(i+1)))+1 by omega,a1j]
  rw[if_neg O,if_neg (by simp;omega)];simp[A]
theorem ek(h:WRel μ H w){b o:Nat}{l:Loc}{E z:List Value}{H':Heap}(hb:μ b=some l)(hs:H.storeL ⟨b,o,none⟩ E=some H')(O:LRel μ E z):
  ∃w',(storeCells ⟨l.c,l.sh+o,none⟩ z).run P w= .ok () w'/\Post μ H w μ H' w':=by
 simp only[Heap.storeL,aV,jK,Nat.add_eq]at hs
 split at hs
 ·rename_i cs b3 hg;cases Y:(Nat.ble (o+E.length) cs.length&&E.all Value.oneCell') with
  |false=>rw[Y]at hs;cases hs
  |true=>
   rw[Y]at hs;simp only[cond_true,a00]at hs
   simp only[a04]at Y
   have U:o+E.length<=cs.length:=a08 Y.1
   obtain⟨r1,A,e,T,r2,r3,r4⟩:=h.obj b l _ hb hg
   have V:=O.1
   have a2:z.all Value.oneCell'=true:=by
    rw[a0f];intro x hx;obtain⟨i,hi⟩:=List.getElem?_of_mem hx;have ax:i<E.length:=by rw[V];exact(a0o.1 hi).1
    have Z:=O.2 i E[i] x (a09 ax) hi;rw[Z.oneCell];exact a0f.1 Y.2 _ (a1a ax)
   by_cases a0:z=[]
   ·subst a0;have hv:E=[]:=by simpa using V
    subst hv;have a1:bt cs o []=cs:=by apply List.ext_getElem?;intro k;rw[bB _ _ _ _ (by simpa using U),if_neg (by simp)]
    subst hs;refine⟨aD w l.c (.cells A e (0,0)),?_,?_⟩
    ·have:aD w l.c (.cells A e (0,0))=w:=by
      unfold aD;congr 1;apply a1c;intro k;by_cases hk:l.c=k
      ·subst hk;rw[a0I,if_pos rfl,if_pos (a6 T),T]
      rw[a17 hk]
     rw[this];rfl
    refine Post.put h hb hg rfl _ rfl _ ⟨r1,A,e,aN w _ (a6 T),r2,by rw[a1];exact r3,fun i v hi=>r4 i v (by rw[a1]at hi;exact hi)⟩
   subst hs
   refine⟨_,by simpa using bY (P:=P) l.c e z w A (l.sh+o) 0 T (by omega) a2 a0,?_⟩
   refine Post.put h hb hg rfl _ rfl _ ⟨r1,_,e,aN w _ (a6 T),?_,?_,?_⟩
   ·rw[←r2];show(bt A.toList (l.sh+o) z).length=_;rw[bV _ _ _ (by simp;omega)];simp
   ·rw[bV _ _ _ U];exact r3
   intro i v hi
   rw[bB _ _ _ _ U]at hi
   have mg: ∀v':Value,(bt A.toList (l.sh+o) z)[l.sh+i]?=some v'->(Array.mk (bt A.toList (l.sh+o+0) z))[l.sh+i]?=some v':=fun v' hv=>(ic _ _).trans hv
   rw[bB _ _ _ _ (by simp;omega)]at mg
   by_cases hc:o<=i/\i<o+E.length
   ·rw[if_pos hc]at hi;rw[if_pos (by omega)]at mg;obtain⟨v',al,Z⟩:=O.get hi;exact⟨v',mg v' (by rw[←al];congr 1;omega),Z⟩
   rw[if_neg hc]at hi
   rw[if_neg (by omega)]at mg
   obtain⟨v',al,Z⟩:=r4 i v hi
   exact⟨v',mg v' (by simpa using al),Z⟩
 cases hs
theorem bN(h:WRel μ H w)(T:μ H.next=none)(e:TypeId){cs z:List Value}(E:LRel μ cs z)(rest:List Value)(A:Option Nat)(V:A=none->rest=[]):
  ∃l,l.c=w.heap.size/\l.sh=0/\l.opn=A/\l.csz=cs.length+rest.length/\
  (newRow e ⟨z++rest⟩).run P w= .ok ⟨w.heap.size,0,none⟩ (w.alloc (.cells ⟨z++rest⟩ e))/\
   Post μ H w (μ.set H.next l) (au H cs A) (w.alloc (.cells ⟨z++rest⟩ e)):=by
 refine⟨⟨w.heap.size,0,A,cs.length+rest.length⟩,rfl,rfl,rfl,rfl,by simp[newRow],?_⟩
 refine Post.push h T _ rfl _ _ ⟨rfl,_,e,dZ w _,by simp[E.1],by simp,fun i v hi=>?_⟩
 obtain⟨v',O,U⟩:=E.get hi
 refine⟨v',?_,U.mono (Emb.set_ext _ T)⟩
 have:i<z.length:=(a0o.1 O).1
 simp only[a0R,ic]
 rw[a0P this];exact O
end mem
end Go.R
namespace Go.R
def ANRel(μ:Emb):AN->Next->Prop
 | .val v,.value v'=>VRel μ v v'
 | .skip,.skip=>True
 | .enter f args,.enter f' args'=>f=f'/\LRel μ args args'.toList
 |_,_=>False
theorem gf(bs:ByteArray): ∀(n i:Nat) (r:List UInt8),bs.size-i=n->ByteArray.toList.loop bs i r=r.reverse++bs.data.toList.drop i:=by
 intro n;induction n with
 |zero=>
  intro i r h
  rw[ByteArray.toList.loop,if_neg (by omega),a1m (by simp only[a1u,ByteArray.size_data];omega),a0K]
 |succ n ih=>
  intro i r h
  have hi:i<bs.size:=by omega
  rw[ByteArray.toList.loop,if_pos hi,ih (i+1) _ (by omega)]
  have z:i<bs.data.toList.length:=by simpa using hi
  rw[a0Q z]
  simp[ByteArray.get!,hi]
theorem bP(bs:ByteArray):bs.toList=bs.data.toList:=by unfold ByteArray.toList;rw[gf bs _ 0 [] rfl];simp
section
variable {P:Program} {μ:Emb}
theorem bZ{ρ ρ':Operand->Value}{o:Oper}{H H':Heap}{r:AN}(h:aO P ρ o H=some (r,H'))(hs: ∀cs b,o.op≠ .select cs b)
  (U: ∀x∈o.op.operands,VRel μ (ρ x) (ρ' x)):H'=H/\∃v v',r= .val v/\(∀w,(execOp ρ' o).run P w= .ok (.value v') w)/\VRel μ v v':=by
 unfold aO at h
 cases A:o.op.operands.toList.all fun x=>f6 (ρ x) with
 |false=>rw[A]at h;cases h
 |true=>
  rw[A]at h
  have O:execOp ρ' o=execOp ρ o:=execOp_congr o hs fun x E=>(U x E).eq1 (a0f.1 A x (by simpa using E))
  simp only[cond_true]at h
  split at h
  ·rename_i v T;cases z:noA2 v with
   |false=>rw[z]at h;cases h
   |true=>
    rw[z]at h;simp only[cond_true,a00,a01]at h
    obtain⟨rfl,rfl⟩:=h
    exact⟨rfl,v,v,rfl,fun w=>by rw[O];exact bx P T w,VRel.refl2 z⟩
  cases h
theorem ig{s:Sem Value}{H H':Heap}{r:AN}(h:lift P s H=some (r,H')):H'=H/\∃v,r= .val v/\ak P s=some v:=by
 unfold lift at h;split at h
 ·rename_i v z;simp only[a00,a01]at h;exact⟨h.2.symm,v,h.1.symm,z⟩
 cases h
theorem intBin_sound{op:BinOp}{k:IntKind}{a b:Int}{v:Value}(h:iW op k a b=some v)(t:TypeId)(w:World):
  (binOp op t (.int k a) (.int k b)).run P w= .ok v w/\bG v=true:=by
 cases op<;>simp only[iW,a00,reduceCtorEq]at h
 case quo=>
  cases z:(b==0) with
  |true=>rw[z]at h;cases h
  |false=>
   rw[z]at h;simp only[cond_false,a00]at h;subst h
   have A: ¬b=0:=by simpa using z
   simp[binOp_quo,Op.intDiv,A,bG]
 case rem=>
  cases z:(b==0) with
  |true=>rw[z]at h;cases h
  |false=>
   rw[z]at h;simp only[cond_false,a00]at h;subst h
   have A: ¬b=0:=by simpa using z
   simp[binOp_rem,Op.intDiv,A,bG]
 all_goals subst h
 case add=>simp[binOp_add,Op.intArith,bG]
 case sub=>simp[binOp_sub,Op.intArith,bG]
 case mul=>simp[binOp_mul,Op.intArith,bG]
 case and=>simp[binOp_and,intBits_and,bG,bQ]
 case or=>simp[binOp_or,intBits_or,bG,bQ]
 case xor=>simp[binOp_xor,intBits_xor,bG,bQ]
 case andNot=>simp[binOp_andNot,intBits_andNot,bG,bQ]
 case eql=>simp[binOp_eql,bG]
 case neq=>simp[binOp_neq,bG]
 case lss=>simp[binOp_lss,bG]
 case leq=>simp[binOp_leq,bG]
 case gtr=>simp[binOp_gtr,bG]
 case geq=>simp[binOp_geq,bG]
theorem shBin_sound{op:BinOp}{k A:IntKind}{a b:Int}{v:Value}(h:shBin op k a b=some v)(t:TypeId)(w:World):
  (binOp op t (.int k a) (.int A b)).run P w= .ok v w/\bG v=true:=by
 cases op<;>simp only[shBin,reduceCtorEq]at h
 all_goals
  cases b with
  |negSucc n=>simp[shiftN]at h
  |ofNat n=>
   simp only[shiftN,a00]at h;subst h
   have z: ¬((n:Int)<0):=by omega
   simp[binOp_shl,binOp_shr,Op.shift,z,bG,Nat.min_def]
theorem hB{op:BinOp}{t:TypeId}{a b:ByteArray}{v:Value}(h:strOp op a b=some v)(w:World):
  (binOp op t (.string a) (.string b)).run P w= .ok v w/\bG v=true:=by
 have E:binOp op t (.string a) (.string b)=Op.stringOp op a b:=by cases op<;>rfl
 rw[E]
 unfold strOp at h
 split at h
 ·injection h with h;subst h;simp[Op.stringOp,bP,ce,bG]
 ·injection h with h;subst h;simp[Op.stringOp,bP,ce,bG]
 ·injection h with h;subst h;simp[Op.stringOp,bP,bG]
 ·injection h with h;subst h;simp[Op.stringOp,bP,ce,bG]
 ·injection h with h;subst h;simp[Op.stringOp,bP,ce,bG]
 ·injection h with h;subst h;simp[Op.stringOp,bP,bG]
 ·simp only[cu,aV]at h;cases z:Nat.ble (a.data.toList++b.data.toList).length 1099511627776 with
  |false=>rw[z]at h;cases h
  |true=>
   rw[z]at h;simp only[cond_true,a00]at h;subst h
   have A:=a08 z
   simp only[a02,a1u,ByteArray.size_data]at A
   refine⟨?_,rfl⟩
   have O: ¬(((a.size+b.size:Nat):Int)>IntKind.i64.max):=by rw[IntKind.max_i64];omega
   simp only[Op.stringOp,if_neg O,Sem.run_pure]
   congr 2
 cases h
theorem iU{a:Option Addr}{v':Value}(h:VRel μ (.pointer a) v'): ∃z,v'= .pointer z/\z.isNone=a.isNone:=by
 cases h with
 |atom _ h0=>exact⟨a,rfl,rfl⟩
 |ptr b o l hb=>exact⟨_,rfl,rfl⟩
theorem bO{a:Option Addr}{n k:Nat}{v':Value}(h:VRel μ (.slice a n k) v'): ∃z A,v'= .slice z n A/\z.isNone=a.isNone:=by
 cases h with
 |atom _ h0=>exact⟨a,k,rfl,rfl⟩
 |sliceC b o n k l hb ho=>exact⟨_,_,rfl,rfl⟩
 |sliceO b o o' n k A e l hb ho h1 h2 h3 h4=>exact⟨_,_,rfl,rfl⟩
 |sliceZ b o a l hb=>exact⟨_,_,rfl,rfl⟩
theorem iV{a:Option Nat}{v':Value}(h:VRel μ (.map a) v'): ∃z,v'= .map z/\z.isNone=a.isNone:=by
 cases h with
 |atom _ h0=>exact⟨a,rfl,rfl⟩
 |map b l hb=>exact⟨_,rfl,rfl⟩
theorem de{t:TypeId}{x y:Value}{w:World}{b:Bool}(h: ∀d,(Op.equalIn (d+1) t x y).run P w= .ok b w):(Op.equal t x y).run P w= .ok b w:=h 9999
theorem hY{t:TypeId}{x y T U:Value}{b:Bool}(h:nilEq P t x y=some b)(E:VRel μ x T)(O:VRel μ y U)(w:World):
  (Op.equal t T U).run P w= .ok b w/\(∀op u v,eqGuard op t u v T U=pure ())/\(∀op,op= .eql\/op= .neq->binOp op t T U=(match op with
   | .eql=>do pure (.bool (←Op.equal t T U))
   |_=>do pure (.bool (!(←Op.equal t T U))))):=by
 unfold nilEq at h
 split at h
 ·rename_i e b0 A;obtain rfl:=E.eq0 rfl;obtain⟨b',rfl,Z⟩:=iU O;injection h with h;subst h;refine⟨?_,fun op u v=>by cases op<;>rfl,fun op z=>by rcases z with rfl|rfl<;>rfl⟩;exact de fun d=>by simp[Op.equalIn,ab w A,Z]
 ·rename_i e a0 A;obtain rfl:=O.eq0 rfl;obtain⟨V,rfl,Y⟩:=iU E;injection h with h;subst h;refine⟨?_,fun op u v=>by cases op<;>rfl,fun op z=>by rcases z with rfl|rfl<;>rfl⟩;exact de fun d=>by cases V<;>simp[Op.equalIn,ab w A,←Y]
 ·rename_i e n k b0 n2 k2 A;obtain⟨rfl,rfl,rfl⟩:=E.sliceNil_inv;obtain⟨b',k',rfl,Z⟩:=bO O;injection h with h;subst h;refine⟨?_,fun op u v=>by cases op<;>rfl,fun op z=>by rcases z with rfl|rfl<;>rfl⟩;exact de fun d=>by simp[Op.equalIn,ab w A,Z]
 ·rename_i e a0 n k n2 k2 A;obtain⟨rfl,rfl,rfl⟩:=O.sliceNil_inv;obtain⟨V,k',rfl,Y⟩:=bO E;injection h with h;subst h;refine⟨?_,fun op u v=>by cases op<;>rfl,fun op z=>by rcases z with rfl|rfl<;>rfl⟩;exact de fun d=>by cases V<;>simp[Op.equalIn,ab w A,←Y]
 ·rename_i e1 e2 b0 A;obtain rfl:=E.eq0 rfl;obtain⟨b',rfl,Z⟩:=iV O;injection h with h;subst h;refine⟨?_,fun op u v=>by cases op<;>rfl,fun op z=>by rcases z with rfl|rfl<;>rfl⟩;exact de fun d=>by simp[Op.equalIn,ab w A,Z]
 ·rename_i e1 e2 a0 A;obtain rfl:=O.eq0 rfl;obtain⟨V,rfl,Y⟩:=iV E;injection h with h;subst h;refine⟨?_,fun op u v=>by cases op<;>rfl,fun op z=>by rcases z with rfl|rfl<;>rfl⟩;exact de fun d=>by cases V<;>simp[Op.equalIn,ab w A,←Y]
 ·rename_i ps rs va A;obtain rfl:=E.eq0 rfl;obtain rfl:=O.eq0 rfl;injection h with h;subst h;refine⟨?_,fun op u v=>by cases op<;>rfl,fun op z=>by rcases z with rfl|rfl<;>rfl⟩;exact de fun d=>by simp[Op.equalIn,ab w A]
 ·rename_i ps rs va fn xs ys A;obtain rfl:=E.eq0 rfl;obtain⟨a2,a3,rfl,_,_⟩:=O.func_inv;injection h with h;subst h;refine⟨?_,fun op u v=>by cases op<;>rfl,fun op z=>by rcases z with rfl|rfl<;>rfl⟩;exact de fun d=>by simp[Op.equalIn,ab w A]
 ·rename_i ps rs va fn xs ys A;obtain rfl:=O.eq0 rfl;obtain⟨a2,a3,rfl,_,_⟩:=E.func_inv;injection h with h;subst h;refine⟨?_,fun op u v=>by cases op<;>rfl,fun op z=>by rcases z with rfl|rfl<;>rfl⟩;exact de fun d=>by simp[Op.equalIn,ab w A]
 cases h
theorem part_rel{t:TypeId}{cs A:Array Value}{z:Nat}{v:Value}(T:LRel μ cs.toList A.toList)(h:ak P (part t cs z)=some v):
  ∃v',ak P (part t A z)=some v'/\VRel μ v v':=by
 unfold part at h⊢
 simp only[ao,dW]at h⊢
 cases O:eO P t with
 |none=>rw[O]at h;simp at h
 |some g=>
  rw[O]at h
  cases g with
  |true=>
   simp only[a0d,if_true,ao,bF]at h⊢
   cases hs:dH P t with
   |none=>rw[hs]at h;simp at h
   |some n=>
    rw[hs]at h
    simp only[a0d,aW,a00]at h⊢
    subst h
    refine⟨_,rfl,?_⟩
    have:=(T.take (z+n)).drop z
    have ex: ∀c:Array Value,(c.extract z (z+n)).toList=(c.toList.take (z+n)).drop z:=fun c=>by simp[List.drop_take]
    exact .agg _ _ (by rw[ex,ex];exact this.1) (by rw[ex,ex];exact this.2)
  |false=>
   simp only[a0d,a0a,if_false]at h⊢
   cases hc:cs[z]? with
   |none=>rw[hc]at h;simp at h
   |some u=>
    rw[hc]at h
    simp only[aW,a00]at h;subst h
    obtain⟨v',U,E⟩:=T.get (i:=z) (v:=u) (by simpa using hc)
    refine⟨v',?_,E⟩
    have:A[z]?=some v':=by simpa using U
    rw[this];rfl
theorem field_rel{t:TypeId}{x E:Value}{f:Nat}{v:Value}(T:VRel μ x E)(h:ak P (Instr.field t x f)=some v):
  ∃v',ak P (Instr.field t E f)=some v'/\VRel μ v v':=by
 unfold Instr.field at h⊢
 simp only[ao,aT]at h⊢
 cases A:P.underlying t with
 |none=>rw[A]at h;simp at h
 |some d=>
  rw[A]at h
  simp only[a0d]at h⊢
  cases d with
  |struct fields=>
   simp only at h⊢
   cases z:fields[f]? with
   |none=>rw[z]at h;simp at h
   |some fd=>
    rw[z]at h
    simp only[ao]at h⊢
    cases x with
    |agg cs=>
     obtain⟨U,rfl,O⟩:=T.agg_inv
     simp only[asAgg,aW,a0d]at h⊢
     exact part_rel O h
    |_=>simp[asAgg]at h
  |_=>simp at h
theorem index_rel{t:TypeId}{x T i O:Value}{v:Value}(V:VRel μ x T)(hi:VRel μ i O)(A: ∀s,x≠ .string s)(h:ak P (Instr.index t x i)=some v):
  ∃v',ak P (Instr.index t T O)=some v'/\VRel μ v v':=by
 cases i with
 |int k n=>
  obtain rfl:=hi.int_inv
  unfold Instr.index at h⊢
  simp only[asIntOf,ao,aW,a0d,aT]at h⊢
  cases E:P.underlying t with
  |none=>rw[E]at h;simp at h
  |some d=>
   rw[E]at h
   simp only[a0d]at h⊢
   cases d with
   |array len e=>
    cases x with
    |agg cs=>
     obtain⟨Y,rfl,U⟩:=V.agg_inv
     simp only at h⊢
     by_cases z:0<=n/\n<(len:Int)
     ·rw[if_pos z]at h⊢;simp only[ao,bF]at h⊢;cases hs:dH P e with
      |none=>rw[hs]at h;simp at h
      |some sz=>rw[hs]at h;simp only[a0d]at h⊢;exact part_rel U h
     rw[if_neg z,eY]at h;cases h
    |_=>simp at h
   |string=>
    cases x with
    |string s=>exact absurd rfl (A s)
    |_=>simp at h
   |_=>simp at h
 |pointer a=>cases a<;>simp[Instr.index,asIntOf]at h
 |_=>simp[Instr.index,asIntOf]at h
theorem fG: ∀(l l':List Value) (s z:Nat) (A T:Array Value),LRel μ l l'->LRel μ A.toList T.toList->
  LRel μ ((l.zipIdx s).foldl (fun cs p=>cs.setIfInBounds (z+p.2) p.1) A).toList ((l'.zipIdx s).foldl (fun cs p=>cs.setIfInBounds (z+p.2) p.1) T).toList
 | [],l',s,z,A,T,h,hA=>by rw[h.nil_left];exact hA
 |v::l,l',s,z,A,T,h,hA=>by
  obtain⟨v',Z,rfl,Y,V⟩:=h.cons_left;simp only[List.zipIdx_cons,List.foldl_cons];refine fG l Z (s+1) z _ _ V ⟨by simpa using hA.1,fun i x x' E O=>?_⟩;simp only[Array.toList_setIfInBounds,List.getElem?_set]at E O;have U:=hA.1;by_cases hi:z+s=i
  ·rw[if_pos hi]at E O;split at E
   ·rename_i an;rw[if_pos (by omega)]at O;injection E with E;injection O with O;subst E O;exact Y
   cases E
  rw[if_neg hi]at E O;exact hA.2 i x x' E O
theorem gQ{z:Nat->Option (Nat×Nat)}: ∀(ps ps':List (Nat×Value)) (A A':Array Value) (r:Array Value),ps.length=ps'.length->
  (∀(i:Nat) x O,ps[i]?=some x->ps'[i]?=some O->x.1=O.1/\VRel μ x.2 O.2)->LRel μ A.toList A'.toList->Instr.fill z A ps=some r->
  ∃r',Instr.fill z A' ps'=some r'/\LRel μ r.toList r'.toList
 | [],ps',A,A',r,hl,_,hA,h=>by have:ps'=[]:=a0e hl.symm;subst this;simp only[Instr.fill,a00]at h;subst h;exact⟨A',rfl,hA⟩
 |(i,v)::ps,ps',A,A',r,hl,hp,hA,h=>by
  cases ps' with
  |nil=>simp at hl
  |cons O ps'=>
   obtain⟨i',v'⟩:=O
   obtain⟨hi,Z⟩:=hp 0 (i,v) (i',v') rfl rfl
   simp only at hi Z;subst hi
   simp only[Instr.fill]at h⊢
   cases U:z i with
   |none=>rw[U]at h;cases h
   |some os=>
    obtain⟨E,size⟩:=os
    rw[U]at h
    simp only at h⊢
    have hc:=Z.cells
    have Y:v'.cells.size=v.cells.size:=by have:=hc.1;simpa using this.symm
    have V:A'.size=A.size:=by have:=hA.1;simpa using this.symm
    rw[Y,V]
    split at h
    ·cases h
    rename_i T
    rw[if_neg T]
    refine gQ ps ps' _ _ r (by simpa using hl) (fun j x O h1 h2=>hp (j+1) x O (by simpa using h1) (by simpa using h2)) ?_ h
    have:=fG v.cells.toList v'.cells.toList 0 E A A' hc hA
    have e: ∀(u:Value) (B:Array Value),Array.foldl (fun cs x=>cs.setIfInBounds (E+x.snd) x.fst) B u.cells.zipIdx=List.foldl (fun cs p=>cs.setIfInBounds (E+p.snd) p.fst) B u.cells.toList.zipIdx:=fun u B=>by rw[←Array.foldl_toList,Array.toList_zipIdx]
    exact(e v A▸e v' A'▸this:LRel μ (Array.foldl (fun cs x=>cs.setIfInBounds (E+x.snd) x.fst) A v.cells.zipIdx).toList (Array.foldl (fun cs x=>cs.setIfInBounds (E+x.snd) x.fst) A' v'.cells.zipIdx).toList)
end
end Go.R
namespace Go.R
section
variable {P:Program} {μ:Emb}
theorem build_rel{t:TypeId}{ps ps':Array (Nat×Value)}{v:Value}(V:ps.toList.length=ps'.toList.length)
  (Z: ∀(i:Nat) x x',ps.toList[i]?=some x->ps'.toList[i]?=some x'->x.1=x'.1/\VRel μ x.2 x'.2)
  (hz:(cR P t).isSome=true) (h:ak P (Instr.build t ps)=some v):
  ∃v',ak P (Instr.build t ps')=some v'/\VRel μ v v':=by
 unfold Instr.build at h⊢
 have ax:ak P (zeroValue t)=(P.info? t).bind (·.zero):=by
  unfold zeroValue;simp only[ao,cO];cases hi:P.info? t with
  |none=>rfl
  |some i=>simp only[a0d];cases i.zero<;>rfl
 simp only[ao,ax,aT]at h⊢
 cases hi:(P.info? t).bind (·.zero) with
 |none=>rw[hi]at h;simp at h
 |some z=>
  rw[hi]at h
  have T:LRel μ z.cells.toList z.cells.toList:=by obtain⟨zl,an⟩:=Option.isSome_iff_exists.1 hz;obtain⟨i,v0,h1,h2,h3,h4⟩:=di (P:=P) an;rw[h1]at hi;simp only[a0d,h2,a00]at hi;subst hi;exact LRel.refl0 (by rw[h3];exact h4)
  simp only[a0d]at h⊢
  cases hu:P.underlying t with
  |none=>rw[hu]at h;simp at h
  |some d=>
   rw[hu]at h
   simp only[a0d]at h⊢
   cases d with
   |struct fields=>
    simp only[ao]at h⊢
    cases Y:ak P (fields.mapM fun f=>do let y ←sizeOf f.type;Pure.pure (f.offset,y)) with
    |none=>rw[Y]at h;simp at h
    |some places=>
     rw[Y]at h
     simp only[a0d]at h⊢
     cases E:Instr.fill (fun x=>places[x]?) z.cells ps.toList with
     |none=>rw[E]at h;simp at h
     |some r=>
      rw[E]at h
      simp only[aW,a00]at h
      subst h
      obtain⟨U,O,A⟩:=gQ _ _ _ _ _ V Z T E
      exact⟨.agg U,by rw[O];rfl,.agg _ _ A.1 A.2⟩
   |array n e=>
    simp only[ao,bF]at h⊢
    cases hs:dH P e with
    |none=>rw[hs]at h;simp at h
    |some sz=>
     rw[hs]at h
     simp only[a0d]at h⊢
     cases E:Instr.fill (fun i=>some (i *sz,sz)) z.cells ps.toList with
     |none=>rw[E]at h;simp at h
     |some r=>
      rw[E]at h
      simp only[aW,a00]at h
      subst h
      obtain⟨U,O,A⟩:=gQ _ _ _ _ _ V Z T E
      exact⟨.agg U,by rw[O];rfl,.agg _ _ A.1 A.2⟩
   |_=>simp at h
theorem dR{v v':Value}{n:Nat}(h:asNat v=some n)(z:VRel μ v v'): ∃k,v'= .int k (n:Int):=by
 unfold asNat at h;split at h
 ·rename_i k m;injection h with h;subst h;exact⟨k,z.int_inv⟩
 cases h
theorem aField_sound{s:TypeId}{x O:Value}{f:Nat}{v:Value}(h:fS P s x f=some v)(Z:VRel μ x O):
  ∃v',(∀w,(Instr.fieldAt s O f).run P w= .ok v' w)/\VRel μ v v':=by
 unfold fS at h
 split at h
 ·rename_i fs b o Y;split at h
  ·rename_i A U;split at h
   ·rename_i n V;cases z:Nat.beq n 0 with
    |true=>rw[z]at h;cases h
    |false=>
     rw[z]at h;simp only[cond_false,a00]at h;subst h
     obtain⟨l,T,rfl⟩:=Z.ptr_inv
     have E: ¬n=0:=fun e=>by subst e;cases z
     refine⟨_,fun w=>?_,a0U l.sh o A.offset▸VRel.ptr b (o+A.offset) l T⟩
     simp[Instr.fieldAt,ab w Y,U,Instr.sureAddr,fieldPlace,aC w V,E,bI,a0U]
   cases h
  cases h
 cases h
theorem gK{t:TypeId}{x x' i Z:Value}{v:Value}(h:bR P t x i=some v)(Y:VRel μ x x')(hi:VRel μ i Z):
  ∃v',(∀w,(Instr.indexAt t x' Z).run P w= .ok v' w)/\VRel μ v v':=by
 unfold bR at h
 split at h
 ·rename_i e b o n k j E U;obtain⟨ik,rfl⟩:=dR U hi;split at h
  ·rename_i sz hs;cases z:(Nat.ble (j+1) n&&Nat.ble n k) with
   |false=>rw[z]at h;cases h
   |true=>
    rw[z]at h;simp only[cond_true,a00]at h;subst h
    simp only[a04]at z
    have h1:j+1<=n:=a08 z.1
    have h2:n<=k:=a08 z.2
    obtain⟨l,T,hc⟩:=Y.slice_inv
    have A:VRel μ (.pointer (some ⟨b,o+j *sz,none⟩)) (.pointer (some ⟨l.c,l.sh+o+j *sz,none⟩)):=
     a0U l.sh o (j *sz)▸VRel.ptr b (o+j *sz) l T
    have O:(j:Int)<(n:Int):=by omega
    rcases hc with⟨_,rfl⟩|⟨e',o',k',_,rfl,_,_,V,_⟩|⟨hz,_,_⟩
    rotate_right
    ·omega
    ·refine⟨_,fun w=>?_,A⟩;simp[Instr.indexAt,asIntOf,ab w E,aC w hs,bI];omega
    have ho:o'=l.sh+o:=V (by omega)
    subst ho
    refine⟨_,fun w=>?_,A⟩
    simp[Instr.indexAt,asIntOf,ab w E,aC w hs,bI]
    omega
  cases h
 ·rename_i n e b o j E U;obtain⟨ik,rfl⟩:=dR U hi;split at h
  ·rename_i sz hs;cases z:Nat.ble (j+1) n with
   |false=>rw[z]at h;cases h
   |true=>
    rw[z]at h;simp only[cond_true,a00]at h;subst h
    have h1:j+1<=n:=a08 z
    obtain⟨l,T,rfl⟩:=Y.ptr_inv
    refine⟨_,fun w=>?_,a0U l.sh o (j *sz)▸VRel.ptr b (o+j *sz) l T⟩
    have O:(j:Int)<(n:Int):=by omega
    have h0:(0:Int)<=(j:Int)/\(j:Int)<(n:Int):=⟨by omega,O⟩
    simp only[Instr.indexAt,asIntOf,ab w E,aC w hs,bI,Instr.sureAddr,Sem.run_bind,Sem.run_pure,Result.andThen_ok,if_pos h0,Int.toNat_natCast]
  cases h
 cases h
theorem strIndex_run{t:TypeId}{s:ByteArray}{k:IntKind}{j:Nat}{b:UInt8}(E:P.underlying t=some .string)(h:s.data.toList[j]?=some b)(w:World):
  (Instr.index t (.string s) (.int k (j:Int))).run P w= .ok (.int .u8 b.toNat) w:=by
 have z:j<s.size:=by have:=(a0o.1 h).1;simpa using this
 have A:s[j]?=some b:=by rw[getElem?_pos s j z];have:=(a0o.1 h).2;rw[←this];rfl
 simp[Instr.index,asIntOf,ab w E,A]
theorem gT{ops:Array Operand}{ρ ρ':Operand->Value}(h: ∀x∈ops,VRel μ (ρ x) (ρ' x)):LRel μ (ops.map ρ).toList (ops.map ρ').toList:=by refine⟨by simp,fun i v v' A E=>?_⟩;simp only[Array.toList_map,List.getElem?_map,a1n]at A E;obtain⟨x,O,rfl⟩:=A;obtain⟨y,z,rfl⟩:=E;rw[O]at z;injection z with z;subst z;exact h x (by simpa using a0j O)
theorem jN{t:TypeId}{x O:Value}{f:Nat}{v:Value}(h:fp P t x f=some v)(hx:VRel μ x O):
  ∃v',(∀w,(Instr.field t O f).run P w= .ok v' w)/\VRel μ v v':=by
 unfold fp at h
 split at h
 ·rename_i cs;split at h
  ·rename_i g n a0 z;have Z:ak P (Instr.field t (.agg cs) f)=some v:=by
    unfold fieldAt? at z;split at z
    ·rename_i fs hu;split at z
     ·rename_i T A;split at z
      ·rename_i U n' V Y;simp only[a00,a01]at z;obtain⟨rfl,rfl,rfl⟩:=z;unfold Instr.field part;simp only[ao,aT,hu,a0d,A,asAgg,aW,dW,V];unfold partL at h;cases U with
       |true=>
        simp only[cond_true,a00,bg,bn]at h
        simp only[if_true,ao,bF,Y,a0d,aW,a00]
        subst h
        congr 1
        apply Array.ext'
        simp
       |false=>
        simp only[cond_false,fB]at h
        simp only[a0a,if_false]
        have hc:cs[T.offset]?=some v:=by simpa using h
        rw[hc];rfl
      cases z
     cases z
    cases z
   obtain⟨v',E,hr⟩:=field_rel hx Z;exact⟨v',fun w=>bx P E w,hr⟩
  cases h
 cases h
theorem bm{r:Option Value}{H H':Heap}{n:AN}(h:ovl r H=some (n,H')):H'=H/\∃v,r=some v/\n= .val v:=by
 unfold ovl at h;split at h
 ·rename_i v;simp only[a00,a01]at h;exact⟨h.2.symm,v,rfl,h.1.symm⟩
 cases h
theorem f7{op:BinOp}{r:Option Bool}{H H':Heap}{n:AN}(h:nilBin op r H=some (n,H')):
  H'=H/\∃b,r=some b/\((op= .eql/\n= .val (.bool b))\/(op= .neq/\n= .val (.bool (!b)))):=by
 unfold nilBin at h
 split at h
 ·rename_i b;split at h
  ·simp only[a00,a01]at h;exact⟨h.2.symm,b,rfl,.inl ⟨rfl,h.1.symm⟩⟩
  ·simp only[a00,a01]at h;exact⟨h.2.symm,b,rfl,.inr ⟨rfl,h.1.symm⟩⟩
  cases h
 cases h
theorem gY{ρ ρ':Operand->Value}{o:Oper}{H H':Heap}{r:AN}(hk:aF o.op=true)
  (O: ∀x∈o.op.operands,VRel μ (ρ x) (ρ' x)) (h:aop P ρ o H=some (r,H')):
  H'=H/\∃v v',r= .val v/\(∀w,(execOp ρ' o).run P w= .ok (.value v') w)/\VRel μ v v':=by
 obtain⟨b9,op,type,pos,after,b3⟩:=o
 cases op<;>simp only[aF,a0a]at hk
 case move x=>
  simp only[aop,a00,a01]at h
  obtain⟨rfl,rfl⟩:=h
  exact⟨rfl,_,ρ' x,rfl,fun w=>rfl,O x (by simp[Op.operands])⟩
 case assign x=>
  simp only[aop,a00,a01]at h
  obtain⟨rfl,rfl⟩:=h
  exact⟨rfl,_,ρ' x,rfl,fun w=>rfl,O x (by simp[Op.operands])⟩
 case pick c a b=>
  simp only[aop,ep]at h
  split at h
  ·rename_i t ht;simp only[a00,a01]at h;obtain⟨rfl,rfl⟩:=h;have hc:ρ' c= .bool t:=by have:=O c (by simp[Op.operands]);rw[ht]at this;exact this.bool_inv
   refine⟨rfl,_,(if t then ρ' a else ρ' b),rfl,fun w=>?_,?_⟩
   ·simp[execOp,hc,asBool]
   cases t
   ·exact O b (by simp[Op.operands])
   exact O a (by simp[Op.operands])
  cases h
 case build t parts=>
  simp only[aop,e7]at h
  split at h
  case h_2=>cases h
  rename_i z hz
  obtain⟨rfl,v,rfl,A⟩:=ig h
  obtain⟨v',T,U⟩:=build_rel (μ:=μ) (ps:=parts.map fun p=>(p.1,ρ p.2)) (ps':=parts.map fun(i,x)=>(i,ρ' x)) (by simp) (fun i x x' Y Z=>by
   simp only[Array.toList_map,List.getElem?_map,a1n]at Y Z;obtain⟨y,hy,rfl⟩:=Y;obtain⟨z,hz,rfl⟩:=Z;rw[hy]at hz;injection hz with hz;subst hz;refine⟨rfl,O _ ?_⟩;have:=a0j hy;simp only[Op.operands,List.mem_toArray,a0m];exact⟨y,this,rfl⟩) (by rw[hz];rfl) A
  exact⟨rfl,v,v',rfl,fun w=>by simp only[execOp,Sem.run_bind,bx P T w,Result.andThen_ok,Sem.run_pure],U⟩
 case nilCheck x=>
  simp only[aop,opNil]at h
  split at h
  ·rename_i a ha;simp only[a00,a01]at h;obtain⟨rfl,rfl⟩:=h;have E:=O x (by simp[Op.operands]);rw[ha]at E;obtain⟨_,a',a9⟩:=E.ptr_some;exact⟨rfl,_,ρ' x,rfl,fun w=>by simp[execOp,a9],E⟩
  ·rename_i f a c ha;simp only[a00,a01]at h;obtain⟨rfl,rfl⟩:=h;have E:=O x (by simp[Op.operands]);rw[ha]at E;obtain⟨a',c',bb,_,_⟩:=E.func_inv;exact⟨rfl,_,ρ' x,rfl,fun w=>by simp[execOp,bb],E⟩
  cases h
 case binOp op t x y yt=>
  have E:=O x (by simp[Op.operands])
  have hy:=O y (by simp[Op.operands])
  simp only[aop,aBin]at h
  split at h
  ·rename_i k a ha;rw[ha]at E;unfold binInt at h;split at h
   ·rename_i k' b V;rw[V]at hy;obtain⟨rfl,v,A,rfl⟩:=bm h;have key: ∀w,(binOp op t (.int k a) (.int k' b)).run P w= .ok v w/\bG v=true:=by
     intro w;cases hs:ii op with
     |true=>rw[hs]at A;exact shBin_sound A t w
     |false=>
      rw[hs]at A
      simp only[cond_false]at A
      cases he:ec k k' with
      |false=>rw[he]at A;cases A
      |true=>
       rw[he]at A
       have:k=k':=by simpa[ec] using he
       subst this
       exact intBin_sound A t w
    refine⟨rfl,v,v,rfl,fun w=>?_,.atom v (key default).2⟩;simp only[execOp,E.int_inv,hy.int_inv,eqGuard_at_int,pure_bind,Sem.run_bind,(key w).1,Result.andThen_ok,Sem.run_pure]
   cases h
  ·rename_i a ha;rw[ha]at E;unfold binStr at h;split at h
   ·rename_i b V;rw[V]at hy;obtain⟨rfl,v,A,rfl⟩:=bm h;refine⟨rfl,v,v,rfl,fun w=>?_,.atom v (hB (P:=P) (t:=t) A default).2⟩;simp only[execOp,E.string_inv,hy.string_inv,eqGuard_at_string,pure_bind,Sem.run_bind,(hB (P:=P) (t:=t) A w).1,Result.andThen_ok,Sem.run_pure]
   cases h
  unfold jF at h
  split at h
  ·exact bZ h (fun _ _=>by simp) O
  ·exact bZ h (fun _ _=>by simp) O
  obtain⟨rfl,b,V,a0⟩:=f7 h
  rcases a0 with⟨rfl,rfl⟩|⟨rfl,rfl⟩
  ·refine⟨rfl,_,_,rfl,fun w=>?_,.atom (.bool b) rfl⟩;obtain⟨Y,Z,h3⟩:=hY (P:=P) V E hy w;simp only[execOp,Z,pure_bind,h3 .eql (.inl rfl),Sem.run_bind,Y,Result.andThen_ok,Sem.run_pure]
  refine⟨rfl,_,_,rfl,fun w=>?_,.atom (.bool (!b)) rfl⟩
  obtain⟨Y,Z,h3⟩:=hY (P:=P) V E hy w
  simp only[execOp,Z,pure_bind,h3 .neq (.inr rfl),Sem.run_bind,Y,Result.andThen_ok,Sem.run_pure]
 case unOp op t x=>
  have E:=O x (by simp[Op.operands])
  simp only[aop,aUn]at h
  split at h
  ·rename_i b V;rw[V]at E;split at h
   ·simp only[a00,a01]at h;obtain⟨rfl,rfl⟩:=h;exact⟨rfl,_,_,rfl,fun w=>by simp[execOp,E.bool_inv,Op.unary],.atom (.bool (!b)) rfl⟩
   cases h
  exact bZ h (fun _ _=>by simp) O
 case makeFunc fn first captured=>
  simp only[aop,a00,a01]at h
  obtain⟨rfl,rfl⟩:=h
  have Y:=gT (μ:=μ) (ops:=first) (ρ:=ρ) (ρ':=ρ') fun x E=>O x (by simp[Op.operands,E])
  have Z:=gT (μ:=μ) (ops:=captured) (ρ:=ρ) (ρ':=ρ') fun x E=>O x (by simp[Op.operands,E])
  exact⟨rfl,_,_,rfl,fun w=>rfl,.func _ _ _ _ _ Y.1 Z.1 Y.2 Z.2⟩
 case fieldAddr s x f=>
  simp only[aop]at h
  obtain⟨rfl,v,A,rfl⟩:=bm h
  obtain⟨v',T,U⟩:=aField_sound A (O x (by simp[Op.operands]))
  exact⟨rfl,v,v',rfl,fun w=>by simp only[execOp,Sem.run_bind,T w,Result.andThen_ok,Sem.run_pure],U⟩
 case field t x f=>
  simp only[aop]at h
  obtain⟨rfl,v,A,rfl⟩:=bm h
  obtain⟨v',T,U⟩:=jN A (O x (by simp[Op.operands]))
  exact⟨rfl,v,v',rfl,fun w=>by simp only[execOp,Sem.run_bind,T w,Result.andThen_ok,Sem.run_pure],U⟩
 case indexAddr t x i=>
  simp only[aop]at h
  obtain⟨rfl,v,A,rfl⟩:=bm h
  obtain⟨v',T,U⟩:=gK A (O x (by simp[Op.operands])) (O i (by simp[Op.operands]))
  exact⟨rfl,v,v',rfl,fun w=>by simp only[execOp,Sem.run_bind,T w,Result.andThen_ok,Sem.run_pure],U⟩
 case index t x i=>
  have E:=O x (by simp[Op.operands])
  have hi:=O i (by simp[Op.operands])
  simp only[aop,iw]at h
  split at h
  ·rename_i s hs;rw[hs]at E;obtain⟨rfl,v,A,rfl⟩:=bm h;unfold strAt at A;split at A
   ·rename_i j hu hj;obtain⟨k,hk⟩:=dR hj hi;rw[fB]at A;split at A
    ·rename_i b V;injection A with A;subst A;exact⟨rfl,_,_,rfl,fun w=>by simp only[execOp,E.string_inv,hk,Sem.run_bind,strIndex_run hu V w,Result.andThen_ok,Sem.run_pure],.atom _ rfl⟩
    cases A
   cases A
  rename_i b0
  obtain⟨rfl,v,rfl,A⟩:=ig h
  obtain⟨v',T,U⟩:=index_rel E hi (fun s hs=>b0 s hs) A
  exact⟨rfl,v,v',rfl,fun w=>by simp only[execOp,Sem.run_bind,bx P T w,Result.andThen_ok,Sem.run_pure],U⟩
 case extract x i=>
  simp only[aop]at h
  have E:=O x (by simp[Op.operands])
  obtain⟨rfl,v,A,rfl⟩:=bm h
  unfold eM at A
  split at A
  ·rename_i vs b1;rw[b1]at E;obtain⟨b2,a5,U⟩:=E.tuple_inv;rw[fB]at A;obtain⟨v',T,a4⟩:=U.get A;have hg:b2[i]?=some v':=by simpa using T
   exact⟨rfl,v,v',rfl,fun w=>by simp[execOp,a5,Instr.extract,hg],a4⟩
  cases A
end
end Go.R
namespace Go.R
theorem df(l:List Value): ∀n,(cm n l).length=n *l.length
 |0=>by simp[cm]
 |n+1=>by simp only[cm,a02,df l n];rw[a0x];omega
theorem ja(l:List Value): ∀(n i:Nat),i<n *l.length->(cm n l)[i]?=l[i%l.length]?
 |0,i,h=>by simp at h
 |n+1,i,h=>by
  simp only[cm];by_cases hi:i<l.length
  ·rw[a0P hi,Nat.mod_eq_of_lt hi]
  rw[a0x,Nat.one_mul]at h;rw[a0X (by omega),ja l n (i-l.length) (by omega)];congr 1;exact(Nat.mod_eq_sub_mod (by omega)).symm
theorem zeros_eq(z:Array Value)(n:Nat):(Array.range (n *z.size)).map (fun i=>z[i%z.size]!)=⟨cm n z.toList⟩:=by
 apply a1c;intro i;refine Eq.trans ?_ (ic _ _).symm;by_cases hi:i<n *z.size
 ·rw[ja _ _ _ (by simpa using hi)];have E:0<z.size:=by
   rcases a1d z.size with h|h
   ·rw[h]at hi;simp at hi
   exact h
  have A:i%z.size<z.size:=Nat.mod_lt _ E;simp[hi,A]
 rw[a11 (by rw[df];simpa using hi)];simp[hi]
theorem fh{l:List Value}(h:l.all bG=true): ∀n,(cm n l).all bG=true
 |0=>rfl
 |n+1=>by simp only[cm,a1v,h,fh h n,a12]
section
variable {P:Program} {μ:Emb} {H H':Heap} {w:World}
def OpOK(P:Program)(μ:Emb)(H:Heap)(w:World)(s:Sem Next)(r:AN)(H':Heap):Prop:=
 ∃n w' μ',s.run P w= .ok n w'/\Post μ H w μ' H' w'/\ANRel μ' r n
theorem OpOK.value{s:Sem Value}{v v':Value}{w':World}{μ':Emb}(h:s.run P w= .ok v' w')(z:Post μ H w μ' H' w')(A:VRel μ' v v'):
  OpOK P μ H w (do Pure.pure (.value (←s))) (.val v) H':=
 ⟨.value v',w',μ',by simp only[Sem.run_bind,h,Result.andThen_ok,Sem.run_pure],z,A⟩
theorem OpOK.skip{s:Sem Unit}{w':World}{μ':Emb}(h:s.run P w= .ok () w')(z:Post μ H w μ' H' w'):
  OpOK P μ H w (do s;Pure.pure .skip) .skip H':=
 ⟨.skip,w',μ',by simp only[Sem.run_bind,h,Result.andThen_ok,Sem.run_pure],z,trivial⟩
theorem hR{r:Option (Value×Heap)}{n:AN}(h:ovh r=some (n,H')): ∃v,r=some (v,H')/\n= .val v:=by
 unfold ovh at h;split at h
 ·simp only[a00,a01]at h;obtain⟨rfl,rfl⟩:=h;exact⟨_,rfl,rfl⟩
 cases h
theorem osk_inv{r:Option Heap}{n:AN}(h:osk r=some (n,H')):r=some H'/\n= .skip:=by
 unfold osk at h;split at h
 ·simp only[a00,a01]at h;obtain⟨rfl,rfl⟩:=h;exact⟨rfl,rfl⟩
 cases h
theorem fF(h:WRel μ H w)(Y:μ H.next=none)(e:TypeId){cs z:List Value}(A:LRel μ cs z):
  ∃l,l.c=w.heap.size/\l.sh=0/\l.opn=none/\(newRow e ⟨z⟩).run P w= .ok ⟨w.heap.size,0,none⟩ (w.alloc (.cells ⟨z⟩ e))/\
   Post μ H w (μ.set H.next l) (au H cs none) (w.alloc (.cells ⟨z⟩ e)):=by
 obtain⟨l,T,U,V,_,E,O⟩:=bN (P:=P) h Y e A [] none (fun _=>rfl)
 simp only[a0K]at E O
 exact⟨l,T,U,V,E,O⟩
theorem alloc_sound{e:TypeId}{r:AN}(h:WRel μ H w)(Y: ∀b,H.next<=b->b<H'.next->μ b=none)(A:dq P e H=some (r,H')):
  OpOK P μ H w (do Pure.pure (.value (←Instr.alloc e true (.tuple #[])))) r H':=by
 unfold dq at A
 split at A
 ·rename_i z hz;simp only[a00,a01]at A;obtain⟨rfl,rfl⟩:=A;obtain⟨i,v,hi,hv,hc,E⟩:=di (P:=P) hz;obtain⟨l,U,V,h3,O,Z⟩:=fF (P:=P) h (Y H.next (a06 _) (by simp[au])) e (LRel.refl0 (μ:=μ) E);have T:v.cells=⟨z⟩:=by rw[←hc]
  refine OpOK.value (v':= .pointer (some ⟨w.heap.size,0,none⟩)) ?_ Z ?_
  ·simp only[Instr.alloc,Sem.run_bind,bX w hi hv,Result.andThen_ok,newVar,T,O,Sem.run_pure]
  have:=VRel.ptr (μ:=μ.set H.next l) H.next 0 l (Emb.set_same _ _ _);rw[U,V]at this;exact this
 cases A
theorem box_sound{e:TypeId}{x A:Value}(h:WRel μ H w)(T:μ H.next=none)(V:VRel μ x A):
  OpOK P μ H w (do Pure.pure (.value (←Instr.box e A))) (.val (ptrTo H.next)) (au H x.cells.toList none):=by
 obtain⟨l,E,O,Y,z,U⟩:=fF (P:=P) h T e V.cells
 refine OpOK.value (v':= .pointer (some ⟨w.heap.size,0,none⟩)) ?_ U ?_
 ·simp only[Instr.box,newVar,Sem.run_bind,z,Result.andThen_ok,Sem.run_pure]
 have:=VRel.ptr (μ:=μ.set H.next l) H.next 0 l (Emb.set_same _ _ _)
 rw[E,O]at this;exact this
theorem iC{t:TypeId}{sz:Nat}{z:List Value}(h:dN P t=some (sz,z)): ∃e,P.underlying t=some (.slice e)/\dH P e=some sz/\cR P e=some z/\z.length=sz:=by
 unfold dN at h;split at h
 ·rename_i e E;split at h
  ·rename_i T U hs O;cases A:Nat.beq (gu U) T with
   |false=>rw[A]at h;cases h
   |true=>
    rw[A]at h;simp only[cond_true,a00,a01]at h
    obtain⟨rfl,rfl⟩:=h
    exact⟨e,E,hs,O,by rw[←aV];exact a03 A⟩
  cases h
 cases h
theorem gJ{t:TypeId}{n:Nat}{ps:List (Nat×Value)}{ps':Array (Nat×Value)}{r:AN}(h:WRel μ H w)(hf: ∀b,H.next<=b->b<H'.next->μ b=none)
  (hl:ps.length=ps'.toList.length) (hp: ∀(i:Nat) x x',ps[i]?=some x->ps'.toList[i]?=some x'->x.1=x'.1/\VRel μ x.2 x'.2)
  (E:aS P t n ps H=some (r,H')):OpOK P μ H w (do Pure.pure (.value (←Instr.buildSlice t n ps'))) r H':=by
 unfold aS at E
 split at E
 ·rename_i sz z a1;obtain⟨e,hu,hs,hz,T⟩:=iC a1;cases hq:Nat.ble (n *sz) 16777216 with
  |false=>rw[hq]at E;cases E
  |true=>
   rw[hq]at E
   simp only[cond_true]at E
   have b4:n *sz<=16777216:=a08 hq
   split at E
   ·rename_i cells hc;simp only[a00,a01]at E;obtain⟨rfl,rfl⟩:=E;obtain⟨i,v,hi,hv,a2,Z⟩:=di (P:=P) hz;obtain⟨ax,Y,an⟩:=gQ (μ:=μ) ps ps'.toList _ _ cells hl hp (LRel.refl0 (fh Z n)) hc;obtain⟨l,h1,h2,h3,O,V⟩:=fF (P:=P) h (hf H.next (a06 _) (by simp[au])) e an;refine OpOK.value (v':= .slice (some ⟨w.heap.size,0,none⟩) n n) ?_ V ?_
    ·have a3:v.cells=⟨z⟩:=by rw[←a2]
     simp only[Instr.buildSlice,Sem.run_bind,ab w hu,Result.andThen_ok,aC w hs,show ¬(n *sz>2^24) by omega,if_false];by_cases U:n *sz=0
     ·have a0:cm n z=[]:=a0e (by rw[df,T];exact U);have A: ∀g:Nat->Value,(Array.range (n *sz)).map g=⟨cm n z⟩:=fun g=>by rw[U,a0];simp
      rw[if_pos U];simp only[Sem.run_bind,Sem.run_pure,Result.andThen_ok,A,Y,O]
     have A:=zeros_eq ⟨z⟩ n;simp only[show(Array.mk z).size=sz from T]at A;rw[if_neg U];simp only[Sem.run_bind,bX w hi hv,Sem.run_pure,Result.andThen_ok,a3,show(Array.mk z).size=sz from T,A,Y,O]
    have:=VRel.sliceC (μ:=μ.set H.next l) H.next 0 n n l (Emb.set_same _ _ _) h3;rw[h1,h2]at this;exact this
   cases E
 cases E
theorem load_sound{t:TypeId}{a E:Value}{r:AN}(h:WRel μ H w)(O:VRel μ a E)(z:cT P t a H=some (r,H')):
  OpOK P μ H w (do Pure.pure (.value (←Instr.loadAt t E))) r H':=by
 unfold cT at z
 split at z
 ·rename_i p;obtain⟨rfl,v,Y,rfl⟩:=bm z;obtain⟨b,o,Z⟩:=p;have T:Z=none:=O.ptr_some.1;subst T;obtain⟨l,U,rfl⟩:=O.ptr_inv;obtain⟨v',A,V⟩:=e8 (P:=P) h U Y;refine OpOK.value (v':=v') ?_ (Post.refl h) V;simp only[Instr.loadAt,Instr.sureAddr,Sem.run_bind,Sem.run_pure,Result.andThen_ok,A]
 cases z
theorem store_sound{t:TypeId}{a U x T:Value}{r:AN}(h:WRel μ H w)(V:VRel μ a U)(Z:VRel μ x T)(z:eZ P t a x H=some (r,H')):
  OpOK P μ H w (do Instr.storeAt t U T;Pure.pure .skip) r H':=by
 unfold eZ at z
 split at z
 ·rename_i p;split at z
  ·rename_i n hn;cases A:Nat.beq x.cells.size n with
   |false=>rw[A]at z;cases z
   |true=>
    rw[A]at z
    obtain⟨hs,rfl⟩:=osk_inv z
    have a1:x.cells.size=n:=a03 A
    obtain⟨b,o,sp⟩:=p
    have Y:sp=none:=V.ptr_some.1
    subst Y
    obtain⟨l,hb,rfl⟩:=V.ptr_inv
    obtain⟨w',E,hp⟩:=ek (P:=P) h hb hs Z.cells
    refine OpOK.skip ?_ hp
    have O:T.cells.size=n:=by have:=Z.cells.1;simp only[a1u]at this;omega
    simp only[Instr.storeAt,Instr.sureAddr,storeVar,Sem.run_bind,Sem.run_pure,Result.andThen_ok,aC w hn,O,ne_eq,not_true,if_false,E]
  cases z
 cases z
theorem ju(t:TypeId)(h:WRel μ H w)(z:μ H.next=none):
  OpOK P μ H w (do Pure.pure (.value (←Instr.makeMap t none))) (.val (.map (some H.next))) (H.push (.tab [])):=by
 refine OpOK.value (v':= .map (some w.heap.size)) (w':=w.alloc (.map #[] 0)) (μ':=μ.set H.next ⟨w.heap.size,0,none,0⟩) ?_ (Post.push h z _ rfl _ _ ?_) ?_
 ·simp[Instr.makeMap]
 ·exact⟨#[],0,dZ w _,rfl,fun i x y A=>by simp at A⟩
 exact VRel.map (μ:=μ.set H.next ⟨w.heap.size,0,none,0⟩) H.next _ (Emb.set_same _ _ _)
theorem range_sound{t:TypeId}{x A:Value}{r:AN}(h:WRel μ H w)(E: ∀b,H.next<=b->b<H'.next->μ b=none)(U:VRel μ x A)(O:ovh (aRange P t x H)=some (r,H')):
  OpOK P μ H w (do Pure.pure (.value (←Instr.range t A))) r H':=by
 obtain⟨v,z,rfl⟩:=hR O
 unfold aRange at z
 split at z
 ·rename_i s T;simp only[a00,a01]at z;obtain⟨rfl,rfl⟩:=z;obtain rfl:=U.string_inv;refine OpOK.value (v':= .pointer (some ⟨w.heap.size,0,none⟩)) (w':=w.alloc (.stringIter s 0)) (μ':=μ.set H.next ⟨w.heap.size,0,none,0⟩) ?_
   (Post.push h (E H.next (a06 _) (by simp)) _ rfl _ _ ⟨rfl,dZ w _⟩) ?_
  ·simp[Instr.range,ab w T]
  exact VRel.ptr (μ:=μ.set H.next ⟨w.heap.size,0,none,0⟩) H.next 0 _ (Emb.set_same _ _ _)
 cases z
theorem eG{r:Nat}{o:Obj}(h:w.heap[r]?=some o)(hc: ∀c e f,o≠ .cells c e f):(getObj r).run P w= .ok o w:=by cases o<;>first|exact absurd rfl (hc _ _ _)|(simp only[getObj,Sem.run,h])
theorem iP{r:Nat}{o h:Obj}(z:w.heap[r]?=some o)(hc: ∀c e f,o≠ .cells c e f):(setObj r h).run P w= .ok () (aD w r h):=by cases o<;>first|exact absurd rfl (hc _ _ _)|(simp only[setObj,Sem.run,z];rfl)
theorem next_sound{it U:Value}{type:TypeId}{r:AN}(h:WRel μ H w)(hx:VRel μ it U)(ho:ovh (aNext H it)=some (r,H')):
  OpOK P μ H w (do Pure.pure (.value (←Instr.next U true type))) r H':=by
 obtain⟨v,z,rfl⟩:=hR ho
 unfold aNext at z
 split at z
 ·rename_i b;split at z
  ·rename_i s pos Z;obtain⟨l,Y,rfl⟩:=hx.ptr_inv;obtain⟨T,V⟩:=h.obj b l _ Y Z;have A:(getObj l.c).run P w= .ok (.stringIter s pos) w:=eG V (by intros;simp);cases O:Nat.ble (pos+1) s.size with
   |false=>
    rw[O]at z
    simp only[cond_false,a00,a01]at z
    obtain⟨rfl,rfl⟩:=z
    have al: ¬pos<s.size:=fun E=>by rw[a0g E]at O;cases O
    refine OpOK.value (v':= .tuple #[.bool false]) ?_ (Post.refl h) (VRel.refl2 rfl)
    simp[Instr.next,T,A,al]
   |true=>
    rw[O]at z
    simp only[cond_true,a00,a01]at z
    obtain⟨rfl,rfl⟩:=z
    have E:pos<s.size:=a08 O
    refine OpOK.value (v':= .tuple #[.bool true,goInt pos,.int .i32 (Utf8.decode s pos).1]) (w':=aD w l.c (.stringIter s (pos+(Utf8.decode s pos).2))) ?_
     (Post.put h Y Z rfl _ rfl _ ⟨T,aN w _ (a6 V)⟩) (VRel.refl2 rfl)
    simp[Instr.next,T,A,E,iP V (by intros;simp)]
  cases z
 cases z
theorem iH{n:Nat}(h:n<=2147483648):IntKind.i64.wrap (n:Int)=n:=IntWalk.i64_in _ (by omega)
theorem gA{e:TypeId}{b:Nat}(h:fj P e=some b): ∃i,P.info? e=some i/\i.bytes=b:=by
 unfold fj at h;split at h
 ·rename_i i hi;injection h with h;exact⟨i,hi,h⟩
 cases h
theorem make_sound{t:TypeId}{x x' y y':Value}{r:AN}(h:WRel μ H w)(hf: ∀b,H.next<=b->b<H'.next->μ b=none)(hx:VRel μ x x')(hy:VRel μ y y')
  (ho:ovh (aMake P t x y H)=some (r,H')):OpOK P μ H w (do Pure.pure (.value (←Instr.makeSlice t x' y'))) r H':=by
 obtain⟨v,E,rfl⟩:=hR ho
 unfold aMake at E
 split at E
 ·rename_i e hu;split at E
  ·rename_i sz T z n k hs hb hz hn hk;cases hq:(Nat.ble n k&&Nat.ble k 2147483648&&Nat.ble T 4096&&Nat.beq (gu z) sz&& !Nat.beq sz 0) with
   |false=>rw[hq]at E;cases E
   |true=>
    rw[hq]at E
    simp only[cond_true,a00,a01]at E
    obtain⟨rfl,rfl⟩:=E
    simp only[a04,a0u]at hq
    obtain⟨⟨⟨⟨q1,q2⟩,q3⟩,V⟩,q5⟩:=hq
    have q1:n<=k:=a08 q1
    have q2:k<=2147483648:=a08 q2
    have q3:T<=4096:=a08 q3
    have V:z.length=sz:=by rw[←aV];exact a03 V
    have q5:sz≠0:=fun e=>by rw[e]at q5;cases q5
    obtain⟨i,vz,hi,b2,b0,a2⟩:=di (P:=P) hz
    obtain⟨ib,O,a9⟩:=gA hb
    rw[hi]at O;injection O with O;subst O
    obtain⟨l,h1,h2,h3,U,Z⟩:=fF (P:=P) h (hf H.next (a06 _) (by simp[au])) e (LRel.refl0 (μ:=μ) (fh a2 k))
    refine OpOK.value (v':= .slice (some ⟨w.heap.size,0,none⟩) n k) ?_ Z ?_
    ·obtain⟨kn,rfl⟩:=dR hn hx;obtain⟨kk,rfl⟩:=dR hk hy;have b4:=iH (n:=n) (by omega);have b3:=iH (n:=k) q2;have b1:vz.cells=⟨z⟩:=by rw[←b0]
     have a3:T *k<=4096 *2147483648:=Nat.mul_le_mul q3 q2;have a4:(decide ((k:Int)<0)||decide ((i.bytes:Int) *(k:Int)>2^48)||decide ((n:Int)<0)||decide ((n:Int)>(k:Int)))=false:=by
      have hm:((i.bytes:Int) *(k:Int))<=8796093022208:=by rw[a9,←Int.natCast_mul];exact Int.ofNat_le.2 a3
      have h1: ¬((k:Int)<0):=by omega
      have h2: ¬((i.bytes:Int) *(k:Int)>2^48):=by
       have:(2:Int)^48=281474976710656:=by decide
       omega
      have h3: ¬((n:Int)<0):=by omega
      have h4: ¬((n:Int)>(k:Int)):=by omega
      simp only[decide_eq_false h1,decide_eq_false h2,decide_eq_false h3,decide_eq_false h4,Bool.or_self]
     simp only[Instr.makeSlice,Sem.run_bind,ab w hu,Result.andThen_ok,asInt,asIntOf,Sem.run_pure,cW w hi,b4,b3];rw[if_neg (by rw[a4];exact Bool.false_ne_true)];simp only[Sem.run_bind,run_askRoom,Result.andThen_ok,aC w hs,Int.toNat_natCast];by_cases Y:k *sz=0
     ·have bb:cm k z=[]:=a0e (by rw[df,V];exact Y);have A: ∀g:Nat->Value,(Array.range (k *sz)).map g=⟨cm k z⟩:=fun g=>by rw[Y,bb];simp
      rw[if_pos Y];simp only[Sem.run_bind,Sem.run_pure,Result.andThen_ok,A,U]
     have A:=zeros_eq ⟨z⟩ k;simp only[show(Array.mk z).size=sz from V]at A;rw[if_neg Y];simp only[Sem.run_bind,bX w hi b2,Sem.run_pure,Result.andThen_ok,b1,show(Array.mk z).size=sz from V,A,U]
    have:=VRel.sliceC (μ:=μ.set H.next l) H.next 0 n k l (Emb.set_same _ _ _) h3
    rw[h1,h2]at this;exact this
  cases E
 cases E
end
end Go.R
namespace Go.R
section
variable {P:Program} {μ:Emb} {H H':Heap} {w:World}
theorem iu{n k l r:Nat}{lo hi:Option Value}(h:bnds n k lo hi=some (l,r)):
  cS n hi=some r/\cS 0 lo=some l/\l<=r/\r<=k:=by
 unfold bnds at h
 split at h
 ·rename_i A O;split at h
  ·rename_i l' E;cases z:(Nat.ble l' A&&Nat.ble A k) with
   |false=>rw[z]at h;cases h
   |true=>
    rw[z]at h;simp only[cond_true,a00,a01]at h
    obtain⟨rfl,rfl⟩:=h
    simp only[a04]at z
    exact⟨O,E,a08 z.1,a08 z.2⟩
  cases h
 cases h
theorem cy{v v':Value}{n y:Nat}(h:asNat v=some n)(A:VRel μ v v')(E:n<=y)(z:BoundsCode):(Instr.sliceBound v' y z).run P w= .ok n w:=by
 obtain⟨k,rfl⟩:=dR h A;have:(0:Int)<=(n:Int)/\(n:Int)<=(y:Int):=by omega
 simp[Instr.sliceBound,asIntOf,this.2]
theorem ct{isSlice:Bool}{n k T l r:Nat}{lo hi U z:Option Value}(hb:bnds n k lo hi=some (l,r))(hk:k<=T)
  (Y: ∀v,lo=some v->∃v',U=some v'/\VRel μ v v') (A:lo=none->U=none)
  (an: ∀v,hi=some v->∃v',z=some v'/\VRel μ v v') (Z:hi=none->z=none):
  (Instr.sliceBounds isSlice n T U z none).run P w= .ok (l,r,T) w:=by
 obtain⟨V,h,h3,h4⟩:=iu hb
 unfold Instr.sliceBounds
 cases hi with
 |none=>
  rw[Z rfl]
  simp only[cS,a00]at V;subst V
  cases lo with
  |none=>
   rw[A rfl]
   simp only[cS,a00]at h;subst h
   simp
  |some u=>
   obtain⟨u',E,O⟩:=Y u rfl
   rw[E]
   simp only[Sem.run_bind,Sem.run_pure,Result.andThen_ok,cy (P:=P) (w:=w) h O h3]
 |some v=>
  obtain⟨v',a0,hr⟩:=an v rfl
  rw[a0]
  cases lo with
  |none=>
   rw[A rfl]
   simp only[cS,a00]at h;subst h
   simp only[Sem.run_bind,Sem.run_pure,Result.andThen_ok,cy (P:=P) (w:=w) V hr (by omega:r<=T)]
  |some u=>
   obtain⟨u',E,O⟩:=Y u rfl
   rw[E]
   simp only[Sem.run_bind,Sem.run_pure,Result.andThen_ok,cy (P:=P) (w:=w) V hr (by omega:r<=T),cy (P:=P) (w:=w) h O h3]
theorem cr(s:ByteArray)(l r:Nat):s.extract l r=⟨⟨(s.data.toList.drop l).take (r-l)⟩⟩:=by apply ByteArray.ext;apply Array.ext';simp
theorem hE{t:TypeId}{x x':Value}{lo hi mx a5 a4 bb:Option Value}{r:AN}(h:WRel μ H w)(hx:VRel μ x x')
  (an: ∀v,lo=some v->∃v',a5=some v'/\VRel μ v v') (V:lo=none->a5=none)
  (al: ∀v,hi=some v->∃v',a4=some v'/\VRel μ v v') (U:hi=none->a4=none) (b5:mx=none->bb=none)
  (ho:ovl (bk P t x lo hi mx H) H=some (r,H')): ∃v v',r= .val v/\H'=H/\(Instr.sliceAt t x' a5 a4 bb).run P w= .ok v' w/\VRel μ v v':=by
 obtain⟨rfl,v,z,rfl⟩:=bm ho
 unfold bk at z
 split at z
 ·cases z
 rw[b5 rfl]
 simp only at z
 split at z
 ·rename_i s hu;obtain rfl:=hx.string_inv;split at z
  ·rename_i l r Y;injection z with z;subst z;rw[aV]at Y;have b6:s.data.toList.length=s.size:=by simp
   rw[b6]at Y;refine⟨_,.string (s.extract l r),rfl,rfl,?_,?_⟩
   ·simp[Instr.sliceAt,Instr.slice,ab w hu,ct (P:=P) (w:=w) (isSlice:=false) Y (a06 _) an V al U]
   rw[cr,bg,bn];exact .atom _ rfl
  cases z
 ·rename_i e hu;obtain rfl:=hx.eq0 rfl;split at z
  ·rename_i lr Y;obtain⟨l,r⟩:=lr;cases hs:dH P e with
   |none=>rw[hs]at z;cases z
   |some sz=>
    rw[hs]at z
    simp only[Option.isSome_some,cond_true,a00]at z;subst z
    obtain⟨_,_,h3,h4⟩:=iu Y
    obtain rfl:r=0:=by omega
    obtain rfl:l=0:=by omega
    refine⟨_,.slice none 0 0,rfl,rfl,?_,.atom _ rfl⟩
    simp[Instr.sliceAt,Instr.slice,ab w hu,ct (P:=P) (w:=w) (isSlice:=true) Y (a06 _) an V al U,aC w hs]
  cases z
 ·rename_i e b o n k hu;split at z
  ·rename_i l r sz cs b8 ro Y hs hg;obtain⟨A,hμ,hc⟩:=hx.slice_inv;have T:A.opn=b8:=by
    have:=h.obj b A _ hμ hg;cases ro
    ·exact this.1
    exact this.1
   obtain⟨_,_,h3,h4⟩:=iu Y;split at z
   ·injection z with z;subst z;rcases hc with⟨O,rfl⟩|⟨e',o',k',O,rfl,_⟩|⟨rfl,rfl,a',rfl⟩
    rotate_right
    ·obtain rfl:r=0:=by omega
     obtain rfl:l=0:=by omega
     refine⟨_,.slice (some (if 0=0 then a' else a'.add (0 *sz))) (0-0) (0-0),rfl,rfl,?_,?_⟩
     ·simp only[Instr.sliceAt,Instr.slice,Sem.run_bind,ab w hu,Result.andThen_ok,ct (P:=P) (w:=w) (isSlice:=true) Y (a06 _) an V al U,aC w hs,Sem.run_pure];split<;>rfl
     exact .sliceZ b o a' A hμ
    ·refine⟨_,.slice (some (if k=l then⟨A.c,A.sh+o,none⟩ else Addr.add ⟨A.c,A.sh+o,none⟩ (l *sz))) (r-l) (k-l),rfl,rfl,?_,?_⟩
     ·simp only[Instr.sliceAt,Instr.slice,Sem.run_bind,ab w hu,Result.andThen_ok,ct (P:=P) (w:=w) (isSlice:=true) Y (a06 _) an V al U,aC w hs,Sem.run_pure];split<;>rfl
     by_cases E:k=l
     ·rw[if_pos E];have:Nat.beq k l=true:=by rw[E];exact a0y l
      rw[this];exact .sliceC b o _ _ A hμ O
     rw[if_neg E];have:Nat.beq k l=false:=by
      cases hq:Nat.beq k l with
      |false=>rfl
      |true=>exact absurd (a03 hq) E
     rw[this,bI,a0U];exact .sliceC b (o+l *sz) _ _ A hμ O
    rw[T]at O;cases O
   rename_i Z;cases hq:Nat.beq Z sz with
   |false=>rw[hq]at z;cases z
   |true=>
    rw[hq]at z
    simp only[cond_true,a00]at z;subst z
    have b3:Z=sz:=a03 hq
    rcases hc with⟨O,rfl⟩|⟨e',o',k',O,rfl,c3,b4,b1,c0⟩|⟨rfl,rfl,a',rfl⟩
    rotate_right
    ·obtain rfl:r=0:=by omega
     obtain rfl:l=0:=by omega
     refine⟨_,.slice (some (if 0=0 then a' else a'.add (0 *sz))) (0-0) (0-0),rfl,rfl,?_,?_⟩
     ·simp only[Instr.sliceAt,Instr.slice,Sem.run_bind,ab w hu,Result.andThen_ok,ct (P:=P) (w:=w) (isSlice:=true) Y (a06 _) an V al U,aC w hs,Sem.run_pure];split<;>rfl
     exact .sliceZ b _ a' A hμ
    ·rw[T]at O;cases O
    rw[T]at O;injection O with O
    subst O b3
    refine⟨_,.slice (some (if k'=l then⟨A.c,o',none⟩ else Addr.add ⟨A.c,o',none⟩ (l *Z))) (r-l) (k'-l),rfl,rfl,?_,?_⟩
    ·simp only[Instr.sliceAt,Instr.slice,Sem.run_bind,ab w hu,Result.andThen_ok,ct (P:=P) (w:=w) (isSlice:=true) Y b4 an V al U,aC w hs,Sem.run_pure];split<;>rfl
    by_cases E:k'=l
    ·rw[if_pos E];refine .sliceO b (o+l *Z) o' _ _ _ Z A hμ T (by omega) (by omega) (by omega) ?_;rw[E,Nat.sub_self,Nat.zero_mul];omega
    rw[if_neg E,bI]
    refine .sliceO b (o+l *Z) (o'+l *Z) _ _ _ Z A hμ T (by omega) (by omega) (fun co=>?_) ?_
    ·rw[b1 (by omega)];omega
    have:l *Z+(k'-l) *Z=k' *Z:=by rw[←a0x];congr 1;omega
    omega
  cases z
 ·rename_i n e b o hu;split at z
  ·rename_i l r sz cs ro Y hs hg;obtain⟨A,hμ,rfl⟩:=hx.ptr_inv;have T:A.opn=none:=by
    have:=h.obj b A _ hμ hg;cases ro
    ·exact this.1
    exact this.1
   injection z with z;subst z;refine⟨_,.slice (some (if n=l then⟨A.c,A.sh+o,none⟩ else Addr.add ⟨A.c,A.sh+o,none⟩ (l *sz))) (r-l) (n-l),rfl,rfl,?_,?_⟩
   ·simp only[Instr.sliceAt,Sem.run_bind,ab w hu,Result.andThen_ok,Instr.sureAddr,Sem.run_pure,ct (P:=P) (w:=w) (isSlice:=false) Y (a06 _) an V al U,aC w hs]
   by_cases E:n=l
   ·rw[if_pos E];have:Nat.beq n l=true:=by rw[E];exact a0y l
    rw[this];exact .sliceC b o _ _ A hμ T
   rw[if_neg E];have:Nat.beq n l=false:=by
    cases hq:Nat.beq n l with
    |false=>rfl
    |true=>exact absurd (a03 hq) E
   rw[this,bI,a0U];exact .sliceC b (o+l *sz) _ _ A hμ T
  cases z
 cases z
theorem slice_sound{t:TypeId}{x x':Value}{lo hi mx A z E:Option Value}{r:AN}(h:WRel μ H w)(hx:VRel μ x x')
  (Y: ∀v,lo=some v->∃v',A=some v'/\VRel μ v v') (T:lo=none->A=none)
  (V: ∀v,hi=some v->∃v',z=some v'/\VRel μ v v') (O:hi=none->z=none) (Z:mx=none->E=none)
  (ho:ovl (bk P t x lo hi mx H) H=some (r,H')):OpOK P μ H w (do Pure.pure (.value (←Instr.sliceAt t x' A z E))) r H':=by
 obtain⟨v,v',rfl,rfl,U,hr⟩:=hE (P:=P) h hx Y T V O Z ho
 exact OpOK.value U (Post.refl h) hr
theorem lenA_run{x A:Value}{m:Nat}(h:lenA x=some m)(z:VRel μ x A):(Builtin.lenOf A).run P w= .ok m w:=by
 unfold lenA at h;split at h
 ·injection h with h;subst h;rename_i a n k;obtain⟨E,O,rfl,_⟩:=bO z;rfl
 ·rename_i s;injection h with h;subst h;obtain rfl:=z.string_inv;rw[aV];simp[Builtin.lenOf]
 cases h
theorem cI{x x':Value}{sz m:Nat}{vs:List Value}(h:WRel μ H w)(V:VRel μ x x')(hl: ∃Z,lenA x=some Z/\m<=Z)(z:ev H sz m x=some vs):
  ∃O,(Builtin.firstCells sz m x').run P w= .ok ⟨O⟩ w/\LRel μ vs O/\vs.length=m *sz:=by
 unfold ev at z
 split at z
 ·rename_i a n k;obtain⟨b,o,sp⟩:=a;have a2:sp=none:=V.slice_some.1;subst a2;cases A:Nat.beq m 0 with
  |true=>
   rw[A]at z
   simp only[cond_true,a00]at z;subst z
   have Y:m=0:=a03 A
   subst Y
   obtain⟨_,a',k',rfl⟩:=V.slice_some
   exact⟨[],by simp[Builtin.firstCells,loadCells,loadCellsFrom],.nil,by simp⟩
  |false=>
   rw[A]at z
   simp only[cond_false]at z
   have Y:m≠0:=fun e=>by subst e;cases A
   obtain⟨Z,E,al⟩:=hl
   simp only[lenA,a00]at E;subst E
   obtain⟨l,hμ,hc⟩:=V.slice_inv
   obtain⟨O,U,hr,T⟩:=e9 (P:=P) h hμ z
   rcases hc with⟨_,rfl⟩|⟨e',o',k',_,rfl,bb,_,an,_⟩|⟨hz,_,_⟩
   rotate_right
   ·omega
   ·exact⟨O,by simp only[Builtin.firstCells,U],hr,T⟩
   rw[an (by omega)]
   exact⟨O,by simp only[Builtin.firstCells,U],hr,T⟩
 ·rename_i n k;cases A:Nat.beq m 0 with
  |false=>rw[A]at z;cases z
  |true=>
   rw[A]at z
   simp only[cond_true,a00]at z;subst z
   have Y:m=0:=a03 A
   subst Y
   obtain⟨_,_,rfl⟩:=V.sliceNil_inv
   exact⟨[],by simp[Builtin.firstCells],.nil,by simp⟩
 ·rename_i s;cases A:Nat.beq sz 1 with
  |false=>rw[A]at z;cases z
  |true=>
   rw[A]at z
   simp only[cond_true,a00,ie,bg]at z;subst z
   have hs:sz=1:=a03 A
   subst hs
   obtain rfl:=V.string_inv
   obtain⟨Z,E,al⟩:=hl
   simp only[lenA,aV,a00]at E;subst E
   refine⟨(s.data.toList.take m).map fun b=> .int .u8 b.toNat,?_,LRel.refl0 ?_,?_⟩
   ·simp only[Builtin.firstCells,Sem.run_pure,cr];congr 1;apply Array.ext';simp
   ·rw[a0f];intro u hu;obtain⟨c,_,rfl⟩:=a0m.1 hu;rfl
   simp at al⊢;omega
 cases z
theorem growBy_le(z:Nat): ∀(r c:Nat),c<=z+(z+768)/4->Builtin.growBy z r c<=z+(z+768)/4
 |0,c,h=>h
 |r+1,c,h=>by
  simp only[Builtin.growBy];split
  ·exact h
  exact growBy_le z r _ (by omega)
theorem nextcap_le{n k:Nat}(h:k<n):Builtin.nextslicecap n k<=2 *n+768:=by
 unfold Builtin.nextslicecap;split
 ·omega
 split
 ·omega
 have:=growBy_le n 4 k (by omega);omega
theorem bT{z:Array Value}{sz:Nat}(h:z.size=sz)(n:Nat):(Builtin.zeroCells z n).toList.length=n *sz:=by simp[Builtin.zeroCells,h]
theorem fE{st A ty e:TypeId}{E:TypeDesc}{h:Value}{base:Option Addr}{n m k sz:Nat}{i:TypeInfo}{z:Value}{old O:List Value}
  (hu:P.underlying st=some (.slice e)) (a2:P.underlying A=some E) (a0: ∀kk,E≠ .int kk) (hi:P.info? e=some i) (hs:i.size=sz) (hz:i.zero=some z)
  (T:(Builtin.lenOf h).run P w= .ok m w) (ax:k<n+m) (a9:n+m<=2147483648) (an:i.bytes<=4096)
  (Y:(Builtin.firstCells sz n (.slice base n k)).run P w.drew= .ok ⟨old⟩ w.drew) (U:(Builtin.firstCells sz m h).run P w.drew= .ok ⟨O⟩ w.drew):
  ∃Z,n+m<=Z/\(Builtin.append_ #[st,A] ty #[.slice base n k,h]).run P w=
   .ok (.slice (some ⟨w.heap.size,0,none⟩) (n+m) Z) (w.drew.alloc (.cells (⟨old⟩++⟨O⟩++Builtin.zeroCells z.cells (Z-(n+m))) e)):=by
 have a1:dH P e=some sz:=by unfold dH;rw[hi,←hs]
 have a3:=nextcap_le ax
 have V: ¬(Builtin.nextslicecap (n+m) k *i.bytes>2^48):=by
  have:Builtin.nextslicecap (n+m) k *i.bytes<=(2 *2147483648+768) *4096:=Nat.mul_le_mul (by omega) an;have bb:(2:Nat)^48=281474976710656:=by decide
  omega
 have al: ¬(((n+m:Nat):Int)>IntKind.i64.max/\(False\/i.bytes=0)):=by rw[IntKind.max_i64];omega
 refine⟨(Question.appendCap (n+m) k e).cut (w.tape w.drawn (.appendCap (n+m) k e)),by simp[Question.cut],?_⟩
 have b0:(match E with| .int _=>true|_=>false)=false:=by cases E<;>first|rfl|exact absurd rfl (a0 _)
 have e1: ∀a b:Value,(#[a,b]:Array Value)[0]?=some a/\(#[a,b]:Array Value)[1]?=some b:=fun a b=>⟨rfl,rfl⟩
 unfold Builtin.append_
 simp only[show(#[st,A]:Array TypeId)[0]?=some st from rfl,show(#[st,A]:Array TypeId)[1]?=some A from rfl,
  show(#[Value.slice base n k,h]:Array Value)[0]?=some (Value.slice base n k) from rfl,show(#[Value.slice base n k,h]:Array Value)[1]?=some h from rfl,
  Sem.run_bind,ab w hu,ab w a2,Result.andThen_ok,aC w a1,Sem.run_pure,a0a,if_false,T,
  show ¬(n+m<=k) by omega,cW w hi,V,al]
 simp only[Sem.run_bind,run_choose,Question.forced,a0a,if_false,Result.andThen_ok,World.drew_eq,cW w.drew hi,run_askRoom,Y,U,a1o,if_true,
  bX w.drew hi hz,newRow,run_newObj,Sem.run_pure]
 rfl
theorem d7{st z ty e:TypeId}{A:TypeDesc}{h:Value}{base:Option Addr}{n m k sz:Nat}{E:List Value}{w':World}
  (hu:P.underlying st=some (.slice e)) (al:P.underlying z=some A) (V: ∀kk,A≠ .int kk) (hs:dH P e=some sz)
  (O:(Builtin.lenOf h).run P w= .ok m w) (U:n+m<=k) (T:(Builtin.firstCells sz m h).run P w= .ok ⟨E⟩ w)
  (Z: ∀a,base=some a->(storeCells (a.add (n *sz)) E).run P w= .ok () w') (Y:base=none->w'=w):
  (Builtin.append_ #[st,z] ty #[.slice base n k,h]).run P w= .ok (.slice base (n+m) k) w':=by
 have a0:(match A with| .int _=>true|_=>false)=false:=by cases A<;>first|rfl|exact absurd rfl (V _)
 unfold Builtin.append_
 simp only[show(#[st,z]:Array TypeId)[0]?=some st from rfl,show(#[st,z]:Array TypeId)[1]?=some z from rfl,
  show(#[Value.slice base n k,h]:Array Value)[0]?=some (Value.slice base n k) from rfl,show(#[Value.slice base n k,h]:Array Value)[1]?=some h from rfl,
  Sem.run_bind,ab w hu,ab w al,Result.andThen_ok,aC w hs,Sem.run_pure,a0a,if_false,O,U,if_true,a1o,T]
 cases base with
 |none=>rw[Y rfl];rfl
 |some a=>simp only[Sem.run_bind,Z a rfl,Result.andThen_ok,Sem.run_pure]
theorem Post.kill(h:WRel μ H w){b:Nat}{l:Loc}{o:AObj}(Z:μ b=some l)(ho:H.get b=some o)(hr:o.rw=true):Post μ H w μ (H.put b .dead) w:=by
 refine⟨fun _ _ h=>h,fun _ _ h=> .inl h,a06 _,rfl,rfl,rfl,fun _ _ _=>rfl,fun k x U E z a5=>?_,⟨fun k x U E z=>?_,fun V Y l1 l2 T o2 a0 al an a1 a2 a4 O=>?_⟩⟩
 ·by_cases e:b=k
  ·subst e;exact .inr ⟨b,l,o,Z,ho,eS hr,fun _=>hr,by rw[Z]at E;injection E with E;rw[E]⟩
  rw[Heap.get_put_ne H _ e]at z;exact .inr ⟨k,x,U,E,z,a5,id,rfl⟩
 ·by_cases e:b=k
  ·subst e;rw[Heap.get_put_same]at z;injection z with z;subst z;trivial
  rw[Heap.get_put_ne H _ e]at z;exact h.obj k x U E z
 have old: ∀k ok,ok.live=true->(H.put b .dead).get k=some ok->H.get k=some ok:=by
  intro k ok ax A;by_cases e:b=k
  ·subst e;rw[Heap.get_put_same]at A;injection A with A;subst A;simp[AObj.live]at ax
  rw[Heap.get_put_ne H _ e]at A;exact A
 exact h.inj V Y l1 l2 T o2 a0 al an (old V T (by cases T<;>simp_all[AObj.rw,AObj.live]) a1) (old Y o2 O a2) a4 O
theorem szOf_info{e:TypeId}{s:Nat}(h:dH P e=some s): ∃i,P.info? e=some i/\i.size=s:=by
 unfold dH at h;split at h
 ·rename_i i hi;injection h with h;exact⟨i,hi,h⟩
 cases h
theorem cJ(a b:List Value)(c:Array Value):(⟨a⟩++⟨b⟩++c:Array Value)=⟨(a++b)++c.toList⟩:=by apply Array.ext';simp
theorem append_sound{types:Array TypeId}{ty:TypeId}{s x s' x' v:Value}(h:WRel μ H w)(hf: ∀b,H.next<=b->b<H'.next->μ b=none)
  (hs:VRel μ s s') (hx:VRel μ x x') (e6:types.size=2) (A:d9 P types s x H=some (v,H')):
  ∃v' w' μ',(Builtin.append_ types ty #[s',x']).run P w= .ok v' w'/\Post μ H w μ' H' w'/\VRel μ' v v':=by
 obtain⟨tl⟩:=types
 match tl,e6 with
 | [st,xt],_=>
 unfold d9 at A
 simp only[show(#[st,xt]:Array TypeId)[0]?=some st from rfl,show(#[st,xt]:Array TypeId)[1]?=some xt from rfl]at A
 split at A
 ·rename_i e xd hu a1;split at A
  ·cases A
  rename_i a0;split at A
  ·rename_i sz f4 z m b4 hd hz hm;obtain⟨i,vz,hi,c6,gs,hK⟩:=di (P:=P) hz;obtain⟨i2,d2,h7⟩:=gA hd;rw[hi]at d2;injection d2 with d2;subst d2;obtain⟨i3,d3,c4⟩:=szOf_info b4;rw[hi]at d3;injection d3 with d3;subst d3;have V:(Builtin.lenOf x').run P w= .ok m w:=lenA_run hm hx;split at A
   ·cases A
   rename_i c8 e4;obtain⟨O,ax,a4,Z⟩:=cI (P:=P) h hx ⟨m,hm,a06 _⟩ e4;obtain⟨hV,a3,a2,_⟩:=cI (P:=P) h.drew hx ⟨m,hm,a06 _⟩ e4;split at A
   ·--nil
    obtain rfl:=hs.eq0 rfl;cases hq:Nat.beq m 0 with
    |true=>
     rw[hq]at A
     simp only[cond_true,a00,a01]at A
     obtain⟨rfl,rfl⟩:=A
     have c3:m=0:=a03 hq
     subst c3
     exact⟨_,w,μ,d7 (w':=w) hu a1 (fun Y=>a0 Y) b4 V (a06 _) ax (fun a ha=>by cases ha) (fun _=>rfl),Post.refl h,.atom _ rfl⟩
    |false=>
     rw[hq]at A
     simp only[cond_false]at A
     have c3:m≠0:=fun e=>by subst e;cases hq
     cases b2:(Nat.beq (gu z) sz&&Nat.ble m 2147483648&&Nat.ble f4 4096&& !Nat.beq sz 0) with
     |false=>rw[b2]at A;cases A
     |true=>
      rw[b2]at A
      simp only[cond_true,a00,a01]at A
      obtain⟨rfl,rfl⟩:=A
      simp only[a04,a0u]at b2
      obtain⟨⟨⟨q1,q2⟩,q3⟩,q4⟩:=b2
      have q1:z.length=sz:=by rw[←aV];exact a03 q1
      have q2:=a08 q2
      have q3:=a08 q3
      obtain⟨nc,a9,E⟩:=fE (P:=P) (w:=w) (ty:=ty) (base:=none) (n:=0) (k:=0) (old:=[]) hu a1 (fun Y=>a0 Y) hi c4 c6 V (by omega) (by omega) (by omega) (by simp[Builtin.firstCells]) a3
      simp only[a0R]at E a9
      rw[cJ,a0L]at E
      obtain⟨l,h1,h2,h3,h4,_,hp⟩:=bN (P:=P) h.drew (hf H.next (a06 _) (by simp[au])) e a2 (Builtin.zeroCells vz.cells (nc-m)).toList (some sz) (fun e=>by cases e)
      refine⟨_,_,_,E,(Post.drew h).trans hp (a06 _) (by simp[au]),?_⟩
      have:=VRel.sliceO (μ:=μ.set H.next l) H.next 0 0 m m nc sz l (Emb.set_same _ _ _) h3 (a06 _) a9 (fun _=>by omega) (by
       rw[h4,bT (show vz.cells.size=sz by rw[←q1,←gs];simp),Z,a0R,←a0x];exact a0w _ (by omega))
      rw[h1]at this;exact this
   ·--a slice
    rename_i b o n k;obtain⟨l,hμ,hc⟩:=hs.slice_inv;split at A
    ·rename_i cs hy ro hg;have dk:l.opn=hy:=by
      have:=h.obj b l _ hμ hg;cases ro
      ·exact this.1
      exact this.1
     cases hq:Nat.ble (n+m) k with
     |true=>
      rw[hq]at A
      simp only[cond_true]at A
      have d4:n+m<=k:=a08 hq
      cases d6:Nat.beq m 0 with
      |true=>
       rw[d6]at A
       simp only[cond_true,a00,a01]at A
       obtain⟨rfl,rfl⟩:=A
       have c3:m=0:=a03 d6
       subst c3
       have hl:O=[]:=a0e (by rw[←a4.1,Z];simp)
       subst hl
       rcases hc with⟨U,rfl⟩|⟨e',o',k',U,rfl,go,e3,b7,d1⟩|⟨rfl,rfl,a',rfl⟩
       rotate_right
       ·exact⟨_,w,μ,d7 (w':=w) hu a1 (fun Y=>a0 Y) b4 V d4 ax (fun a ha=>rfl) (fun e=>by cases e),Post.refl h,hs⟩
       ·exact⟨_,w,μ,d7 (w':=w) hu a1 (fun Y=>a0 Y) b4 V d4 ax (fun a ha=>rfl) (fun e=>by cases e),Post.refl h,hs⟩
       exact⟨_,w,μ,d7 (w':=w) hu a1 (fun Y=>a0 Y) b4 V (by omega) ax (fun a ha=>rfl) (fun e=>by cases e),Post.refl h,hs⟩
      |false=>
       rw[d6]at A
       simp only[cond_false]at A
       have c3:m≠0:=fun e=>by subst e;cases d6
       split at A
       ·rename_i h1 hw;simp only[a00,a01]at A;obtain⟨rfl,rfl⟩:=A;obtain⟨w',E,hp⟩:=ek (P:=P) h hμ hw a4;rcases hc with⟨U,rfl⟩|⟨e',o',k',U,rfl,go,e3,b7,d1⟩|⟨rfl,rfl,a',rfl⟩
        rotate_right
        ·omega
        ·refine⟨_,w',μ,d7 (w':=w') hu a1 (fun Y=>a0 Y) b4 V d4 ax (fun a ha=>?_) (fun e=>by cases e),hp,.sliceC b o _ _ l hμ U⟩;injection ha with ha;subst ha;rw[bI,a0U];exact E
        refine⟨_,w',μ,d7 (w':=w') hu a1 (fun Y=>a0 Y) b4 V (by omega) ax (fun a ha=>?_) (fun e=>by cases e),hp,.sliceO b o o' _ _ _ e' l hμ U d4 e3 b7 d1⟩;injection ha with ha;subst ha;rw[bI,b7 (by omega),a0U];exact E
       cases A
     |false=>
      rw[hq]at A
      simp only[cond_false]at A
      have gm:k<n+m:=by
       rcases a0h k (n+m) with h'|h'
       ·exact h'
       rw[a0g h']at hq;cases hq
      cases b2:(Nat.beq (gu z) sz&&Nat.ble (n+m) 2147483648&&Nat.ble f4 4096&& !Nat.beq sz 0&&Nat.ble n k) with
      |false=>rw[b2]at A;cases A
      |true=>
       rw[b2]at A
       simp only[cond_true]at A
       simp only[a04,a0u]at b2
       obtain⟨⟨⟨⟨q1,q2⟩,q3⟩,q4⟩,q5⟩:=b2
       have q1:z.length=sz:=by rw[←aV];exact a03 q1
       have q2:=a08 q2
       have q3:=a08 q3
       have q5:=a08 q5
       have ib:sz≠0:=fun e=>by rw[e]at q4;cases q4
       have cx:vz.cells.size=sz:=by rw[←q1,←gs];simp
       split at A
       ·cases A
       rename_i old al
       obtain⟨hW,hI,hH,a5⟩:=cI (P:=P) h hs ⟨n,rfl,a06 _⟩ al
       obtain⟨hX,b1,b0,_⟩:=cI (P:=P) h.drew hs ⟨n,rfl,a06 _⟩ al
       split at A
       ·--exact
        simp only[a00,a01]at A;obtain⟨rfl,rfl⟩:=A;rcases hc with⟨U,rfl⟩|⟨e',o',k',U,rfl,_⟩|⟨rfl,rfl,a',rfl⟩
        rotate_right
        ·obtain⟨nc,a9,E⟩:=fE (P:=P) (w:=w) (ty:=ty) hu a1 (fun Y=>a0 Y) hi c4 c6 V gm q2 (by omega) b1 a3;rw[cJ]at E;obtain⟨l',h1,h2,h3,h4,_,hp⟩:=bN (P:=P) h.drew (hf H.next (a06 _) (by simp[au])) e (b0.append a2) (Builtin.zeroCells vz.cells (nc-(0+m))).toList (some sz) (fun e=>by cases e);rw[cu];refine⟨_,_,_,E,(Post.drew h).trans hp (a06 _) (by simp[au]),?_⟩;have:=VRel.sliceO (μ:=μ.set H.next l') H.next 0 0 (0+m) (0+m) nc sz l' (Emb.set_same _ _ _) h3 (a06 _) a9 (fun _=>by omega) (by
          rw[h4,bT cx,a02,a5,Z,a0R,←a0x,←a0x];exact a0w _ (by omega))
         rw[h1]at this;exact this
        ·obtain⟨nc,a9,E⟩:=fE (P:=P) (w:=w) (ty:=ty) hu a1 (fun Y=>a0 Y) hi c4 c6 V gm q2 (by omega) b1 a3;rw[cJ]at E;obtain⟨l',h1,h2,h3,h4,_,hp⟩:=bN (P:=P) h.drew (hf H.next (a06 _) (by simp[au])) e (b0.append a2) (Builtin.zeroCells vz.cells (nc-(n+m))).toList (some sz) (fun e=>by cases e);rw[cu];refine⟨_,_,_,E,(Post.drew h).trans hp (a06 _) (by simp[au]),?_⟩;have:=VRel.sliceO (μ:=μ.set H.next l') H.next 0 0 (n+m) (n+m) nc sz l' (Emb.set_same _ _ _) h3 (a06 _) a9 (fun _=>by omega) (by
          rw[h4,bT cx,a02,a5,Z,a0R,←a0x,←a0x];exact a0w _ (by omega))
         rw[h1]at this;exact this
        rw[dk]at U;cases U
       ·--open
        rename_i T;cases em:(Nat.beq T sz&& !ro&&allL Value.oneCell' c8) with
        |false=>rw[em]at A;cases A
        |true=>
         rw[em]at A
         simp only[cond_true,a00,a01]at A
         obtain⟨rfl,rfl⟩:=A
         simp only[a04,a0u]at em
         obtain⟨⟨q6,q7⟩,q8⟩:=em
         have q6:T=sz:=a03 q6
         subst q6 q7
         rcases hc with⟨U,rfl⟩|⟨e',o',k',U,rfl,go,e3,b7,d1⟩|⟨rfl,rfl,a',rfl⟩
         rotate_right
         ·have cc:μ H.next=none:=hf H.next (a06 _) (by simp[au]);obtain⟨nc,a9,E⟩:=fE (P:=P) (w:=w) (ty:=ty) hu a1 (fun Y=>a0 Y) hi c4 c6 V (by omega) q2 (by omega) b1 a3;rw[cJ]at E;have hk:=Post.kill h hμ hg rfl;obtain⟨l',h1,h2,h3,h4,_,hp⟩:=bN (P:=P) (H:=H.put b .dead) hk.wrel.drew cc e (b0.append a2) (Builtin.zeroCells vz.cells (nc-(0+m))).toList (some T) (fun e=>by cases e);rw[cu];refine⟨_,_,_,E,(hk.trans (Post.drew hk.wrel) (a06 _) (a06 _)).trans hp (a06 _) (by simp[au]),?_⟩;have:=VRel.sliceO (μ:=μ.set H.next l') H.next 0 0 (0+m) (0+m) nc T l' (Emb.set_same _ _ _) h3 (a06 _) a9 (fun _=>by omega) (by
           rw[h4,bT cx,a02,a5,Z,a0R,←a0x,←a0x];exact a0w _ (by omega))
          rw[h1]at this;exact this
         ·rw[dk]at U;cases U
         rw[dk]at U;injection U with U;subst U
         have cc:μ H.next=none:=hf H.next (a06 _) (by simp[au])
         by_cases e2:n+m<=k'
         ·--in place
          obtain⟨r1,bb,et,hh,r2,r3,r4⟩:=h.obj b l _ hμ hg;have d5:O.length=m *T:=by rw[←a4.1];exact Z
          have h9:m≠0:=by omega
          have ht:O≠ []:=fun e=>by rw[e]at d5;have:=Nat.mul_eq_zero.1 d5.symm;omega
          have f2:O.all Value.oneCell'=true:=by
           rw[a0f];intro u ch;obtain⟨j,hj⟩:=List.getElem?_of_mem ch;have f8:j<c8.length:=by rw[a4.1];exact(a0o.1 hj).1
           have hr:=a4.2 j c8[j] u (a09 f8) hj;rw[hr.oneCell];rw[jK]at q8;exact a0f.1 q8 _ (a1a f8)
          have c9:o'+n *T+O.length<=bb.size:=by rw[d5,r2];have:(n+m) *T<=k' *T:=a0w _ e2;rw[a0x]at this;omega
          have c5:=bY (P:=P) l.c et O w bb (o'+n *T) 0 hh (by omega) f2 ht;simp only[Nat.add_zero]at c5;have g2:(bt bb.toList (o'+n *T) O).length=bb.size:=by rw[bV _ _ _ (by simpa using c9)];simp
          have f3:=Post.take h hμ hg rfl cc ⟨l.c,o',some T,l.csz⟩ rfl (.cells (appL old c8) (some T) false) (.cells ⟨bt bb.toList (o'+n *T) O⟩ et (0,0)) (by
           refine⟨rfl,_,et,aN w _ (a6 hh),by show(bt bb.toList (o'+n *T) O).length=_;rw[g2,r2],?_,fun j u hj=>?_⟩
           ·rw[cu,a02,a5,Z];show o'+_<=l.csz;rw[←r2];rw[d5]at c9;omega
           rw[cu]at hj;have mg: ∀v':Value,(bt bb.toList (o'+n *T) O)[o'+j]?=some v'->(Array.mk (bt bb.toList (o'+n *T) O))[o'+j]?=some v':=fun v' hv=>(ic _ _).trans hv
           rw[bB _ _ _ _ (by simpa using c9)]at mg;by_cases f9:j<n *T
           ·rw[a0P (by omega)]at hj;rw[if_neg (by omega)]at mg;have hn:n≠0:=fun e=>by subst e;simp at f9
            unfold ev at al;have hb:Nat.beq n 0=false:=by
             cases g9:Nat.beq n 0 with
             |false=>rfl
             |true=>exact absurd (a03 g9) hn
            rw[hb]at al;simp only[cond_false,Heap.loadN,hg,bg,bn,aV]at al;cases f5:Nat.beq ((cs.drop o).take (n *T)).length (n *T) with
            |false=>rw[f5]at al;cases al
            |true=>
             rw[f5]at al
             simp only[cond_true,a00]at al
             rw[←al,a0J,if_pos f9,a10]at hj
             obtain⟨u',ch,hr⟩:=r4 (o+j) u hj
             refine⟨u',mg u' ?_,hr.mono (Emb.set_ext _ cc)⟩
             have:o'+j=l.sh+(o+j):=by have:=b7 (by omega);omega
             rw[this];simpa using ch
           rw[a0X (by omega),a5]at hj;obtain⟨u',ch,hr⟩:=a4.get hj;have h8:j-n *T<O.length:=(a0o.1 ch).1;rw[if_pos (by omega)]at mg;exact⟨u',mg u' (by rw[←ch];congr 1;omega),hr.mono (Emb.set_ext _ cc)⟩)
          refine⟨.slice (some ⟨l.c,o',none⟩) (n+m) k',_,_,d7 (w':=aD w l.c (.cells ⟨bt bb.toList (o'+n *T) O⟩ et (0,0))) hu a1 (fun Y=>a0 Y) b4 V e2 ax (fun a ha=>?_) (fun e=>by cases e),f3,?_⟩
          ·injection ha with ha;subst ha;rw[bI];exact c5
          exact VRel.sliceO (μ:=μ.set H.next ⟨l.c,o',some T,l.csz⟩) H.next 0 o' (n+m) (n+m) k' T ⟨l.c,o',some T,l.csz⟩ (Emb.set_same _ _ _) rfl (a06 _) e2 (fun _=>rfl) d1
         ·--a c8 row
          obtain⟨nc,a9,E⟩:=fE (P:=P) (w:=w) (ty:=ty) hu a1 (fun Y=>a0 Y) hi c4 c6 V (by omega) q2 (by omega) b1 a3;rw[cJ]at E;have hk:=Post.kill h hμ hg rfl;obtain⟨l',h1,h2,h3,h4,_,hp⟩:=bN (P:=P) (H:=H.put b .dead) hk.wrel.drew cc e (b0.append a2) (Builtin.zeroCells vz.cells (nc-(n+m))).toList (some T) (fun e=>by cases e);rw[cu];refine⟨_,_,_,E,(hk.trans (Post.drew hk.wrel) (a06 _) (a06 _)).trans hp (a06 _) (by simp[au]),?_⟩;have:=VRel.sliceO (μ:=μ.set H.next l') H.next 0 0 (n+m) (n+m) nc T l' (Emb.set_same _ _ _) h3 (a06 _) a9 (fun _=>by omega) (by
           rw[h4,bT cx,a02,a5,Z,a0R,←a0x,←a0x];exact a0w _ (by omega))
          rw[h1]at this;exact this
    cases A
   cases A
  cases A
 cases A
end
end Go.R
namespace Go.R
section
variable {P:Program} {μ:Emb} {H H':Heap} {w:World}
theorem copy_sound{types:Array TypeId}{ty:TypeId}{d s d' O v:Value}(h:WRel μ H w)(hd:VRel μ d d')(hs:VRel μ s O)(z:aCopy P types d s H=some (v,H')):
  ∃v' w',(Builtin.copy_ types ty #[d',O]).run P w= .ok v' w'/\Post μ H w μ H' w'/\VRel μ v v':=by
 unfold aCopy at z
 split at z
 ·rename_i dt ax;split at z
  ·rename_i e base E dk m hu Z;split at z
   ·rename_i sz a0;simp only at z;obtain⟨A,T,rfl,cc⟩:=bO hd;have Y:(Builtin.lenOf O).run P w= .ok m w:=lenA_run Z hs;cases hq:Nat.beq (Nat.min m E) 0 with
    |true=>
     rw[hq]at z
     simp only[cond_true,a00,a01]at z
     obtain⟨rfl,rfl⟩:=z
     have h0:Nat.min m E=0:=a03 hq
     refine⟨_,w,?_,Post.refl h,.atom (goInt 0) rfl⟩
     have a9:(Builtin.firstCells sz 0 O).run P w= .ok #[] w:=by
      unfold lenA at Z;split at Z
      ·rename_i a n k;obtain⟨a',k',rfl,_⟩:=bO hs;cases a'<;>simp[Builtin.firstCells,loadCells,loadCellsFrom]
      ·rename_i u;obtain rfl:=hs.string_inv;simp only[Builtin.firstCells,Sem.run_pure,cr];congr 1;simp
      cases Z
     unfold Builtin.copy_
     simp only[ax,show(#[Value.slice A E T,O]:Array Value)[0]?=some (Value.slice A E T) from rfl,show(#[Value.slice A E T,O]:Array Value)[1]?=some O from rfl,
      Sem.run_bind,ab w hu,Result.andThen_ok,Y,aC w a0,h0,a9]
     cases A<;>simp[storeCells]
    |false=>
     rw[hq]at z
     simp only[cond_false]at z
     split at z
     ·rename_i l a hl;split at z
      ·rename_i H1 b1;simp only[a00,a01]at z;obtain⟨rfl,rfl⟩:=z;obtain⟨b,o,sp⟩:=a;have b0:sp=none:=hd.slice_some.1;subst b0;obtain⟨cl,bb,an,b3⟩:=cI (P:=P) h hs ⟨m,Z,Nat.min_le_left _ _⟩ hl;obtain⟨U,hμ,hc⟩:=hd.slice_inv;have h0:Nat.min m E≠0:=fun e=>by rw[e]at hq;cases hq
       have ch:0<E:=by
        rcases a1d E with e|e
        ·exfalso;apply h0;rw[e];exact Nat.min_zero _
        exact e
       obtain⟨w',a4,hp⟩:=ek (P:=P) h hμ b1 an;have a8:A=some ⟨U.c,U.sh+o,none⟩:=by
        rcases hc with⟨_,V⟩|⟨e',o',k',_,V,ci,_,a3,_⟩|⟨hz,_,_⟩
        rotate_right
        ·omega
        ·injection V with V
        injection V with V _ _;rw[V,a3 (by omega)]
       subst a8;refine⟨goInt (Nat.min m E:Nat),w',?_,hp,.atom _ rfl⟩;unfold Builtin.copy_;simp only[ax,show(#[Value.slice (some ⟨U.c,U.sh+o,none⟩) E T,O]:Array Value)[0]?=some (Value.slice (some ⟨U.c,U.sh+o,none⟩) E T) from rfl,
        show(#[Value.slice (some ⟨U.c,U.sh+o,none⟩) E T,O]:Array Value)[1]?=some O from rfl,
        Sem.run_bind,ab w hu,Result.andThen_ok,Y,aC w a0,bb,a4,Sem.run_pure]
      cases z
     cases z
   cases z
  cases z
 cases z
theorem len_sound{t ty:TypeId}{x V v:Value}(h:WRel μ H w)(O:VRel μ x V)(z:aLen P t x H=some v):
  (Builtin.len_ #[t] ty #[V]).run P w= .ok v w/\bG v=true:=by
 unfold aLen at z
 split at z
 ·rename_i e a n k A;injection z with z;subst z;obtain⟨a',k',rfl,_⟩:=bO O;exact⟨by simp[Builtin.len_,ab w A],rfl⟩
 ·rename_i s A;injection z with z;subst z;obtain rfl:=O.string_inv;exact⟨by simp[Builtin.len_,ab w A,aV],rfl⟩
 ·rename_i k e A;injection z with z;subst z;obtain rfl:=O.mapNil_inv;exact⟨by simp[Builtin.len_,ab w A],rfl⟩
 ·rename_i k e r A;split at z
  ·rename_i es Y;injection z with z;subst z;obtain⟨l,hμ,rfl⟩:=O.map_inv;obtain⟨U,E,Z,hl,_⟩:=h.obj r l _ hμ Y;have T:(getObj l.c).run P w= .ok (.map U E) w:=eG Z (by intros;simp);exact⟨by simp[Builtin.len_,ab w A,T,hl],rfl⟩
  cases z
 cases z
theorem ed: ∀(l:List Value) (r:List UInt8) (s:ByteArray),a7 l=some r->
  (forIn (m:=Sem) l s (fun c s=>match c with
   | .int .u8 n=>Pure.pure (ForInStep.yield (s.push (UInt8.ofNat n.toNat)))
   |_=>do stuck "bytesToString: byte expected";Pure.pure (ForInStep.yield s))).run P w= .ok ⟨⟨s.data.toList++r⟩⟩ w
 | [],r,s,h=>by simp only[a7,a00]at h;subst h;simp
 |v::l,r,s,h=>by
  unfold a7 at h;split at h
  ·rename_i z;cases z
  ·rename_i n O z;injection z with h1 h2;subst h1 h2;split at h
   ·rename_i E A;injection h with h;subst h;have ih:=ed l E (s.push (UInt8.ofNat n.toNat)) A;simp only[List.forIn_cons,Sem.run_bind,Sem.run_pure,Result.andThen_ok,ih];congr 3;simp
   cases h
  cases h
theorem dD: ∀(l:List Value) (r:List UInt8),a7 l=some r->l.all bG=true
 | [],_,_=>rfl
 |v::l,r,h=>by
  unfold a7 at h;split at h
  ·rename_i z;cases z
  ·rename_i n O z;injection z with h1 h2;subst h1 h2;split at h
   ·rename_i E A;simp only[a0A,bG,a1s];exact dD l E A
   cases h
  cases h
theorem jy{ρ ρ':Operand->Value}{o:Oper}{s d:TypeId}{x:Operand}{r:AN}(h:WRel μ H w)(al:o.op= .convert s d x)(hρ: ∀x∈o.op.operands,VRel μ (ρ x) (ρ' x))
  (Z:dF P ρ o s d (ρ x) H=some (r,H')):OpOK P μ H w (execOp ρ' o) r H':=by
 have U:VRel μ (ρ x) (ρ' x):=hρ x (by rw[al];simp[Op.operands])
 have V:execOp ρ' o=(do Pure.pure (.value (←convert s d (ρ' x)))):=by unfold execOp;simp only[al]
 unfold dF at Z
 split at Z
 ·rename_i k n hv;rw[hv]at U;obtain⟨rfl,v,z,rfl⟩:=bm Z;unfold jz at z;split at z
  ·rename_i sd kd O E;injection z with z;subst z;rw[V];refine OpOK.value (v':= .int kd (kd.wrap n)) ?_ (Post.refl h) (.atom _ rfl);rw[U.int_inv];simp[convert,ab w O,ab w E,Conv.intToInt]
  cases z
 ·rename_i a n k hv;rw[hv]at U;obtain⟨rfl,v,z,rfl⟩:=bm Z;rw[V];unfold cd at z;split at z
  ·rename_i e O E;split at z
   ·rename_i an;split at z
    ·injection z with z;subst z;obtain⟨_,_,A⟩:=U.sliceNil_inv;refine OpOK.value (v':= .string .empty) ?_ (Post.refl h) (.atom _ rfl);rw[A];simp[convert,ab w O,ab w E,ab w an,Conv.bytesToString]
    rename_i a;obtain⟨b,o2,sp⟩:=a;have b0:sp=none:=U.slice_some.1;subst b0;cases hq:Nat.beq n 0 with
    |true=>
     rw[hq]at z
     simp only[cond_true,a00]at z;subst z
     have hn:n=0:=a03 hq
     subst hn
     obtain⟨_,a',k',A⟩:=U.slice_some
     refine OpOK.value (v':= .string .empty) ?_ (Post.refl h) (.atom _ rfl)
     rw[A]
     simp[convert,ab w O,ab w E,ab w an,Conv.bytesToString,loadCells,loadCellsFrom]
    |false=>
     rw[hq]at z
     simp only[cond_false]at z
     have hn:n≠0:=fun e=>by subst e;cases hq
     split at z
     ·rename_i l hl;split at z
      ·rename_i rb a2;injection z with z;subst z;obtain⟨l0,hμ,hc⟩:=U.slice_inv;obtain⟨a3,T,a8,b6⟩:=e9 (P:=P) h hμ hl;have b1:a3=l:=a8.eq0 (dD l rb a2);subst b1;have A: ∃k',ρ' x= .slice (some ⟨l0.c,l0.sh+o2,none⟩) n k':=by
        rcases hc with⟨_,Y⟩|⟨e',o',k',_,Y,ci,_,a5,_⟩|⟨hz,_,_⟩
        rotate_right
        ·exact absurd hz hn
        ·exact⟨k,Y⟩
        rw[a5 (by omega)]at Y;exact⟨k',Y⟩
       obtain⟨k',A⟩:=A;refine OpOK.value (v':= .string ⟨⟨rb⟩⟩) ?_ (Post.refl h) (.atom _ rfl);rw[A];have hb:=ed (P:=P) (w:=w) a3 rb .empty a2;simp only[convert,Sem.run_bind,ab w O,ab w E,ab w an,Result.andThen_ok,Conv.bytesToString,T];have Y:((ByteArray.empty.data.toList++rb:List UInt8))=rb:=rfl;rw[Y]at hb;simp only[←Array.forIn_toList]at *
       exact congrArg (fun r=>Result.andThen r fun a w'=>Sem.run P (Pure.pure (Value.string a)) w') hb
      cases z
     cases z
   cases z
  cases z
 obtain⟨rfl,v,v',rfl,T,hr⟩:=bZ Z (fun _ _=>by rw[al];simp) hρ
 exact⟨.value v',w,μ,T w,Post.refl h,hr⟩
theorem cH{d:TypeDesc}{k:Value}(h:bd d k=true):bG k=true:=by unfold bd at h;split at h<;>first|rfl|cases h
theorem fM(a b:ByteArray):(a==b)=ce a b:=by
 have e:(a==b)=(a.data==b.data):=by cases a;cases b;rfl
 rw[e,a1k];simp only[beq_iff_eq,ce];constructor
 ·intro h;rw[h]
 intro h;exact a0N.1 h
theorem bytesEq_iff{a b:ByteArray}(h:ce a b=true):a=b:=by simp only[ce,beq_iff_eq]at h;exact ByteArray.ext (a0N.1 h)
theorem fL(a:ByteArray):(a==a)=true:=by rw[fM];simp[ce]
theorem sameNow_key{d:TypeDesc}{a b:Value}(z:bd d a=true)(h:bd d b=true):Instr.sameNow d a b=some (cN a b):=by
 unfold bd at z h;split at z
 ·split at h
  ·rename_i k k1 n _ _ k2 E A;injection A with e1;subst e1;simp only[beq_iff_eq]at z h;subst z h;simp[Instr.sameNow,cN]
  ·cases ‹TypeDesc.int _=_›
  ·cases ‹TypeDesc.int _=_›
  cases h
 ·split at h
  ·cases ‹TypeDesc.string=_›
  ·simp[Instr.sameNow,cN,fM]
  ·cases ‹TypeDesc.string=_›
  cases h
 ·split at h
  ·cases ‹TypeDesc.bool=_›
  ·cases ‹TypeDesc.bool=_›
  ·simp[Instr.sameNow,cN]
  cases h
 cases z
def EntRel(μ:Emb)(es:List (Value×Value))(h:List MapEntry):Prop:=
 es.length=h.length/\∀(i:Nat) x y,es[i]?=some x->h[i]?=some y->VRel μ x.1 y.key/\VRel μ x.2 y.val
theorem EntRel.cons_left{x:Value×Value}{es:List (Value×Value)}{z:List MapEntry}(h:EntRel μ (x::es) z):
  ∃y t,z=y::t/\VRel μ x.1 y.key/\VRel μ x.2 y.val/\EntRel μ es t:=by
 cases z with
 |nil=>have:=h.1;simp at this
 |cons y t=>
  obtain⟨A,E⟩:=h.2 0 x y rfl rfl
  exact⟨y,t,rfl,A,E,by have:=h.1;simpa using this,fun i a b O T=>h.2 (i+1) a b (by simpa using O) (by simpa using T)⟩
theorem EntRel.cons{x:Value×Value}{es:List (Value×Value)}{y:MapEntry}{z:List MapEntry}(O:VRel μ x.1 y.key)(T:VRel μ x.2 y.val)(h:EntRel μ es z):
  EntRel μ (x::es) (y::z):=by
 refine⟨by simp[h.1],fun i a b A E=>?_⟩
 cases i with
 |zero=>simp at A E;subst A E;exact⟨O,T⟩
 |succ i=>exact h.2 i a b (by simpa using A) (by simpa using E)
theorem ff{d:TypeDesc}{k:Value}(V:bd d k=true): ∀(es:List (Value×Value)) (ces:List MapEntry) (i:Nat),EntRel μ es ces->es.all (fun e=>bd d e.1)=true->
  (∃v v' j,fe d k es=some v/\Instr.findNow d k ces i=some (some (i+j,v'))/\VRel μ v v'/\j<ces.length/\
    (∃y,ces[j]?=some y/\cN k y.key=true/\bd d y.key=true)/\(∀u z,VRel μ u z->EntRel μ (hJ k u es) (ces.modify j fun e=>{e with key:=k,val:=z})))\/
  (fe d k es=none/\Instr.findNow d k ces i=some none/\∀u z b,VRel μ u z->EntRel μ (hJ k u es) (ces++[{key:=k,val:=z,born:=b}]))
 | [],ces,i,h,_=>by have:ces=[]:=a0e h.1.symm;subst this;refine .inr ⟨rfl,rfl,fun u z b A=>?_⟩;exact EntRel.cons (x:=(k,u)) (.atom k (cH V)) A ⟨rfl,fun i a b ha=>by simp at ha⟩
 |x::es,ces,i,h,hall=>by
  obtain⟨y,t,rfl,O,T,ht⟩:=h.cons_left;simp only[a0A,a04]at hall;have U:y.key=x.1:=O.eq0 (cH hall.1);have E:Instr.sameNow d k y.key=some (cN k x.1):=by rw[U];exact sameNow_key V hall.1
  cases hs:cN k x.1 with
  |true=>
   refine .inl ⟨x.2,y.val,0,?_,?_,T,by simp,⟨y,rfl,by rw[U];exact hs,by rw[U];exact hall.1⟩,fun u z A=>?_⟩
   ·simp only[fe,hs,cond_true]
   ·simp only[Instr.findNow,E,hs];rfl
   simp only[hJ,hs,cond_true,List.modify_zero_cons]
   exact EntRel.cons (x:=(k,u)) (.atom k (cH V)) A ht
  |false=>
   rcases ff V es t (i+1) ht hall.2 with⟨v,v',j,Y,Z,h3,h4,h5,h6⟩|⟨Y,Z,h3⟩
   ·refine .inl ⟨v,v',j+1,?_,?_,h3,by simpa using h4,?_,fun u z A=>?_⟩
    ·simp only[fe,hs,cond_false];exact Y
    ·simp only[Instr.findNow,E,hs];rw[Z];congr 3;omega
    ·obtain⟨y2,ax,h7⟩:=h5;exact⟨y2,by simpa using ax,h7⟩
    simp only[hJ,hs,cond_false,List.modify_succ_cons];exact EntRel.cons (x:=(x.1,x.2)) O T (h6 u z A)
   refine .inr ⟨?_,?_,fun u z b A=>?_⟩
   ·simp only[fe,hs,cond_false];exact Y
   ·simp only[Instr.findNow,E,hs];exact Z
   simp only[hJ,hs,cond_false,a0n]
   exact EntRel.cons (x:=(x.1,x.2)) O T (h3 u z b A)
theorem dC{d:TypeDesc}{A:TypeId}{k:Value}(z:P.underlying A=some d)(h:bd d k=true)(b:Bool):(Instr.checkKey b 10000 A k).run P w= .ok () w:=by
 have key: ∀n,(Instr.checkKey b (n+1) A k).run P w= .ok () w:=by
  intro n;unfold bd at h;split at h
  ·simp[Instr.checkKey,ab w z]
  ·simp[Instr.checkKey,ab w z]
  ·simp[Instr.checkKey,ab w z]
  cases h
 exact key 9999
theorem lookup_sound{t:TypeId}{m k m' Z v:Value}{ok:Bool}(h:WRel μ H w)(hm:VRel μ m m')(hk:VRel μ k Z)(A:jM P t m k ok H=some v):
  ∃v',(Instr.lookup t m' Z ok).run P w= .ok v' w/\VRel μ v v':=by
 unfold jM at A
 split at A
 ·rename_i kt et Y;split at A
  ·rename_i d i hd hi;split at A
   ·rename_i z hz;cases E:(bd d k&&f6 z) with
    |false=>rw[E]at A;cases A
    |true=>
     rw[E]at A
     simp only[cond_true]at A
     simp only[a04]at E
     have a8:Z=k:=hk.eq0 (cH E.1)
     subst a8
     have a0:VRel μ z z:=VRel.refl1 E.2
     have a1:(zeroValue et).run P w= .ok z w:=bX w hi hz
     have al: ∀(u O:Value) (b:Bool),VRel μ u O->VRel μ (bif ok then .tuple #[u,.bool b] else u) (if ok then .tuple #[O,.bool b] else O):=by
      intro u O b Y;cases ok
      ·exact Y
      have:=LRel.cons Y (LRel.cons (VRel.atom (μ:=μ) (.bool b) rfl) LRel.nil);exact .tuple _ _ this.1 this.2
     split at A
     ·injection A with A;subst A;obtain rfl:=hm.mapNil_inv;refine⟨_,?_,al z z false a0⟩;simp only[Instr.lookup,Sem.run_bind,ab w Y,Result.andThen_ok,Sem.run_pure,dC hd E.1,Instr.findKey,ab w hd];simp[Instr.findNow,a1]
     ·rename_i r;split at A
      ·rename_i es hg;cases V:es.all fun e=>bd d e.1 with
       |false=>rw[V]at A;cases A
       |true=>
        rw[V]at A
        simp only[cond_true]at A
        obtain⟨l,hμ,rfl⟩:=hm.map_inv
        obtain⟨T,an,hh,hl,a4⟩:=h.obj r l _ hμ hg
        have a5:(getObj l.c).run P w= .ok (.map T an) w:=eG hh (by intros;simp)
        have U: ∀X,Instr.findNow d Z T.toList 0=some X->(Instr.lookup t (.map (some l.c)) Z ok).run P w=
          (match X with
           |some (_,v)=>(.ok (if ok then .tuple #[v,.bool true] else v) w:Result Value)
           |none=> .ok (if ok then .tuple #[z,.bool false] else z) w):=by
         intro X hX
         simp only[Instr.lookup,Sem.run_bind,ab w Y,Result.andThen_ok,Sem.run_pure,a5,dC hd E.1,Instr.findKey,ab w hd,hX]
         cases X with
         |none=>simp[a1]
         |some p=>obtain⟨j,u⟩:=p;simp
        rcases ff E.1 es T.toList 0 ⟨hl,a4⟩ V with⟨u,O,j,h1,h2,h3,_⟩|⟨h1,h2,_⟩
        ·rw[h1]at A;simp only[a00]at A;subst A;exact⟨_,U _ h2,al u O true h3⟩
        rw[h1]at A
        simp only[a00]at A;subst A
        exact⟨_,U _ h2,al z z false a0⟩
      cases A
     cases A
   cases A
  cases A
 cases A
theorem sameBits_key{d:TypeDesc}{a b:Value}(A:bd d a=true)(z:bd d b=true)(h:cN a b=true):Instr.sameBits 10000 b a=true:=by
 have key: ∀n,Instr.sameBits n b a=true:=by
  intro n;unfold bd at A z;split at A
  ·split at z
   ·rename_i k k1 x _ _ k2 y E;injection E with e1;subst e1;simp only[beq_iff_eq]at A z;subst A z;simp only[cN,beq_iff_eq]at h;subst h;cases n<;>simp[Instr.sameBits]
   ·cases ‹TypeDesc.int _=_›
   ·cases ‹TypeDesc.int _=_›
   cases z
  ·split at z
   ·cases ‹TypeDesc.string=_›
   ·rename_i x _ _ y _;have h:=bytesEq_iff h;subst h;cases n<;>simp[Instr.sameBits,fL]
   ·cases ‹TypeDesc.string=_›
   cases z
  ·split at z
   ·cases ‹TypeDesc.bool=_›
   ·cases ‹TypeDesc.bool=_›
   ·simp only[cN,beq_iff_eq]at h;subst h;cases n<;>simp[Instr.sameBits]
   cases z
  cases A
 exact key 10000
theorem gj{t:TypeId}{m k v m' Y v':Value}(h:WRel μ H w)(hm:VRel μ m m')(hk:VRel μ k Y)(hv:VRel μ v v')(A:eE P t m k v H=some H'):
  ∃w',(Instr.mapUpdate t m' Y v').run P w= .ok () w'/\Post μ H w μ H' w':=by
 unfold eE at A
 split at A
 ·rename_i kt et hu;split at A
  ·rename_i d r Z;split at A
   ·rename_i es hg;cases E:(bd d k&&es.all fun e=>bd d e.1) with
    |false=>rw[E]at A;cases A
    |true=>
     rw[E]at A
     simp only[cond_true,a00]at A;subst A
     simp only[a04]at E
     have a5:Y=k:=hk.eq0 (cH E.1)
     subst a5
     obtain⟨l,hμ,rfl⟩:=hm.map_inv
     obtain⟨O,z,hh,hl,a0⟩:=h.obj r l _ hμ hg
     have T:(getObj l.c).run P w= .ok (.map O z) w:=eG hh (by intros;simp)
     have V: ∀o',(setObj l.c o').run P w= .ok () (aD w l.c o'):=fun o'=>iP hh (by intros;simp)
     rcases ff E.1 es O.toList 0 ⟨hl,a0⟩ E.2 with⟨u,u',j,h1,h2,h3,h4,⟨y,hy,b0,bb⟩,h6⟩|⟨h1,h2,h3⟩
     ·refine⟨aD w l.c (.map (O.modify j fun e=>{e with key:=Y,val:=v'}) z),?_,?_⟩
      ·have an:O[j]?=some y:=by simpa using hy
       simp only[Instr.mapUpdate,Sem.run_bind,ab w hu,Result.andThen_ok,T,dC Z E.1,Instr.findKey,ab w Z,h2,Sem.run_pure,a0R,an,a1l,a0Y,
        Instr.keyThatStays,sameBits_key E.1 bb b0,if_true,V]
      have U:=h6 v v' hv;refine Post.put h hμ hg rfl _ rfl _ ⟨_,z,aN w _ (a6 hh),?_,?_⟩
      ·rw[Array.toList_modify];exact U.1
      rw[Array.toList_modify];exact U.2
     refine⟨aD w l.c (.map (O.push {key:=Y,val:=v',born:=z}) (z+1)),?_,?_⟩
     ·simp only[Instr.mapUpdate,Sem.run_bind,ab w hu,Result.andThen_ok,T,dC Z E.1,Instr.findKey,ab w Z,h2,Sem.run_pure,V]
     have U:=h3 v v' z hv
     refine Post.put h hμ hg rfl _ rfl _ ⟨_,z+1,aN w _ (a6 hh),?_,?_⟩
     ·rw[Array.toList_push];exact U.1
     rw[Array.toList_push];exact U.2
   cases A
  cases A
 cases A
theorem callee_sound{f Y:Value}{args:List Value}{z:Array Value}{r:AN}(hf:VRel μ f Y)(ha:LRel μ args z.toList)(h:fq P f args=some r):
  ∃i O,r= .enter i O/\∃E,(∀w,(do let d ←Deferred.ofValue Y z;invoke d.target d.args:Sem Next).run P w= .ok (.enter i E) w)/\LRel μ O E.toList:=by
 unfold fq at h
 split at h
 ·rename_i i first V;obtain⟨U,A,rfl,h1,h2⟩:=hf.func_inv;split at h
  ·rename_i fn al;cases T:(fn.body.isSome&& !(fn.name== "runtime.NumGoroutine")) with
   |false=>rw[T]at h;cases h
   |true=>
    rw[T]at h
    simp only[cond_true,a00]at h;subst h
    simp only[a04,a0u]at T
    refine⟨i,_,rfl,(U++z)++A,fun w=>?_,?_⟩
    ·have hb: ¬fn.body=none:=by intro Z;rw[Z]at T;cases T.1
     have an: ¬fn.name= "runtime.NumGoroutine" :=by have:=T.2;simpa using this
     simp[Deferred.ofValue,invoke,callFunc,al,an,hb]
    rw[cu,cu]
    have:=(h1.append (ha.append h2))
    simpa using this
  cases h
 cases h
end
end Go.R
