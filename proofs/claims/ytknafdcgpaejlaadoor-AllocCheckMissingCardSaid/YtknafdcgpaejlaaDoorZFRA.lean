/-
The evaluator is sound: values, operations, memory.
-/
import Derived.Test.YtknafdcgpaejlaaDoorZFR0
import Derived.IntWalk
set_option linter.unusedVariables false
set_option linter.unusedSimpArgs false
namespace Go.R
structure Loc where
 c:Nat
 sh:Nat
 opn:Option Nat
 csz:Nat
abbrev Emb:=Nat->Option Loc
inductive VRel(μ:Emb):Value->Value->Prop
 |atom (v:Value):noA0 v=true->VRel μ v v
 |ptr (b o:Nat) (l:Loc):μ b=some l->VRel μ (.pointer (some ⟨b,o,none⟩)) (.pointer (some ⟨l.c,l.sh+o,none⟩))
 |sliceC (b o n k:Nat) (l:Loc):μ b=some l->l.opn=none->VRel μ (.slice (some ⟨b,o,none⟩) n k) (.slice (some ⟨l.c,l.sh+o,none⟩) n k)
 |sliceO (b o o' n k k' e:Nat) (l:Loc):μ b=some l->l.opn=some e->n<=k->k<=k'->(0<k->o'=l.sh+o)->o'+k'*e<=l.csz->
   VRel μ (.slice (some ⟨b,o,none⟩) n k) (.slice (some ⟨l.c,o',none⟩) n k')
 |sliceZ (b o:Nat) (a:Addr) (l:Loc):μ b=some l->VRel μ (.slice (some ⟨b,o,none⟩) 0 0) (.slice (some a) 0 0)
 |map (b:Nat) (l:Loc):μ b=some l->VRel μ (.map (some b)) (.map (some l.c))
 |func (fn:Fn) (xs ys xs' ys':Array Value):xs.toList.length=xs'.toList.length->ys.toList.length=ys'.toList.length->
   (∀(i:Nat) v v',xs.toList[i]?=some v->xs'.toList[i]?=some v'->VRel μ v v')->
   (∀(i:Nat) v v',ys.toList[i]?=some v->ys'.toList[i]?=some v'->VRel μ v v')->VRel μ (.func fn xs ys) (.func fn xs' ys')
 |agg (xs xs':Array Value):xs.toList.length=xs'.toList.length->
   (∀(i:Nat) v v',xs.toList[i]?=some v->xs'.toList[i]?=some v'->VRel μ v v')->VRel μ (.agg xs) (.agg xs')
 |tuple (xs xs':Array Value):xs.toList.length=xs'.toList.length->
   (∀(i:Nat) v v',xs.toList[i]?=some v->xs'.toList[i]?=some v'->VRel μ v v')->VRel μ (.tuple xs) (.tuple xs')
def LRel(μ:Emb)(l l':List Value):Prop:=l.length=l'.length/\∀(i:Nat) v v',l[i]?=some v->l'[i]?=some v'->VRel μ v v'
section
variable {μ μ':Emb}
theorem VRel.mono(h: ∀b l,μ b=some l->μ' b=some l){v v':Value}(z:VRel μ v v'):VRel μ' v v':=by
 induction z with
 |atom v h0=>exact .atom v h0
 |ptr b o l hb=>exact .ptr b o l (h _ _ hb)
 |sliceC b o n k l hb ho=>exact .sliceC b o n k l (h _ _ hb) ho
 |sliceO b o o' n k k' e l hb ho h1 h2 h3 h4=>exact .sliceO b o o' n k k' e l (h _ _ hb) ho h1 h2 h3 h4
 |sliceZ b o a l hb=>exact .sliceZ b o a l (h _ _ hb)
 |map b l hb=>exact .map b l (h _ _ hb)
 |func fn xs ys xs' ys' h1 h2 _ _ i1 i2=>exact .func fn xs ys xs' ys' h1 h2 i1 i2
 |agg xs xs' h1 _ i1=>exact .agg xs xs' h1 i1
 |tuple xs xs' h1 _ i1=>exact .tuple xs xs' h1 i1
theorem LRel.nil:LRel μ [] []:=⟨rfl,fun i v v' h=>by simp at h⟩
theorem LRel.cons{v v':Value}{l l':List Value}(h:VRel μ v v')(E:LRel μ l l'):LRel μ (v::l) (v'::l'):=by
 refine⟨by simp[E.1],fun i x N z A=>?_⟩;cases i with
 |zero=>simp at z A;subst z A;exact h
 |succ i=>exact E.2 i x N (by simpa using z) (by simpa using A)
theorem LRel.head{v v':Value}{l l':List Value}(h:LRel μ (v::l) (v'::l')):VRel μ v v':=h.2 0 v v' rfl rfl
theorem LRel.tail{v v':Value}{l l':List Value}(h:LRel μ (v::l) (v'::l')):LRel μ l l':=
 ⟨by simpa using h.1,fun i x E z A=>h.2 (i+1) x E (by simpa using z) (by simpa using A)⟩
theorem LRel.get{l l':List Value}(h:LRel μ l l'){i:Nat}{v:Value}(z:l[i]?=some v): ∃v',l'[i]?=some v'/\VRel μ v v':=by
 have hi:i<l'.length:=by rw[←h.1];exact(a0v.1 z).1
 exact⟨l'[i],a05 hi,h.2 i v _ z (a05 hi)⟩
theorem LRel.append{a b E N:List Value}(h:LRel μ a E)(k:LRel μ b N):LRel μ (a++b) (E++N):=by
 refine⟨by simp[h.1,k.1],fun i v v' z A=>?_⟩;by_cases hi:i<a.length
 ·rw[a0S hi]at z;rw[a0S (h.1▸hi)]at A;exact h.2 i v v' z A
 rw[a17 (by omega)]at z;rw[a17 (by have:=h.1;omega),←h.1]at A;exact k.2 _ v v' z A
theorem LRel.take{a E:List Value}(h:LRel μ a E)(n:Nat):LRel μ (a.take n) (E.take n):=by
 refine⟨by simp[h.1],fun i v v' z A=>?_⟩;rw[a0x]at z A;split at z
 ·rename_i hi;rw[if_pos hi]at A;exact h.2 i v v' z A
 cases z
theorem LRel.drop{a z:List Value}(h:LRel μ a z)(n:Nat):LRel μ (a.drop n) (z.drop n):=by refine⟨by simp[h.1],fun i v v' A E=>?_⟩;rw[a0H]at A E;exact h.2 _ v v' A E
theorem LRel.nil_left{l':List Value}(h:LRel μ [] l'):l'=[]:=a0t h.1.symm
theorem LRel.cons_left{v:Value}{l l':List Value}(h:LRel μ (v::l) l'): ∃v' z,l'=v'::z/\VRel μ v v'/\LRel μ l z:=by
 cases l' with
 |nil=>have:=h.1;simp at this
 |cons v' z=>exact⟨v',z,rfl,h.head,h.tail⟩
theorem VRel.oneCell{v v':Value}(h:VRel μ v v'):v'.oneCell'=v.oneCell':=by cases h<;>rfl
theorem VRel.eq0{v v':Value}(h:VRel μ v v')(z:noA0 v=true):v'=v:=by
 cases h with
 |atom=>rfl
 |func fn xs ys xs' ys' h1 h2 _ _=>
  simp only[noA0,a0e]at z
  have A:xs.size=0:=a09 z.1
  have E:ys.size=0:=a09 z.2
  have N:xs= #[]:=a1g.1 A
  have T:ys= #[]:=a1g.1 E
  subst N T
  have U:xs'= #[]:=a1g.1 (by simpa using h1.symm)
  have V:ys'= #[]:=a1g.1 (by simpa using h2.symm)
  subst U V
  rfl
 |_=>simp[noA0]at z
theorem LRel.eq0{l l':List Value}(h:LRel μ l l')(z:l.all noA0=true):l'=l:=by
 induction l generalizing l' with
 |nil=>exact h.nil_left
 |cons v l ih=>
  obtain⟨v',N,rfl,E,A⟩:=h.cons_left
  simp only[a1k,a0e]at z
  rw[E.eq0 z.1,ih A z.2]
theorem VRel.eq1{v v':Value}(h:VRel μ v v')(z:gE v=true):v'=v:=by
 cases h with
 |agg xs xs' hl hi=>
  have:=LRel.eq0 (μ:=μ) (l:=xs.toList) (l':=xs'.toList) ⟨hl,hi⟩ z
  rw[a1d.1 this]
 |atom v h0=>rfl
 |_=>exact VRel.eq0 (μ:=μ) (by constructor<;>assumption) z
theorem LRel.eq1{l l':List Value}(h:LRel μ l l')(z:l.all gE=true):l'=l:=by
 induction l generalizing l' with
 |nil=>exact h.nil_left
 |cons v l ih=>
  obtain⟨v',N,rfl,E,A⟩:=h.cons_left
  simp only[a1k,a0e]at z
  rw[E.eq1 z.1,ih A z.2]
theorem LRel.refl0{l:List Value}(h:l.all noA0=true):LRel μ l l:=by refine⟨rfl,fun i v v' A z=>?_⟩;rw[A]at z;injection z with z;subst z;exact .atom v (a0y.1 h v (a0l A))
theorem VRel.refl1{v:Value}(h:gE v=true):VRel μ v v:=by
 cases v with
 |agg cs=>have:=LRel.refl0 (μ:=μ) (l:=cs.toList) h;exact .agg cs cs this.1 this.2
 |_=>exact .atom _ h
theorem LRel.refl1{l:List Value}(h:l.all gE=true):LRel μ l l:=by refine⟨rfl,fun i v v' A z=>?_⟩;rw[A]at z;injection z with z;subst z;exact VRel.refl1 (a0y.1 h v (a0l A))
theorem VRel.refl2{v:Value}(h:noA2 v=true):VRel μ v v:=by
 cases v with
 |tuple vs=>have:=LRel.refl1 (μ:=μ) (l:=vs.toList) h;exact .tuple vs vs this.1 this.2
 |_=>exact VRel.refl1 h
theorem VRel.undef:VRel μ undef undef:=VRel.refl2 rfl
theorem VRel.eq2{v v':Value}(h:VRel μ v v')(z:noA2 v=true):v'=v:=by
 cases h with
 |tuple xs xs' hl hi=>
  have:=LRel.eq1 (μ:=μ) (l:=xs.toList) (l':=xs'.toList) ⟨hl,hi⟩ z
  rw[a1d.1 this]
 |atom v h0=>rfl
 |_=>exact VRel.eq1 (μ:=μ) (by constructor<;>assumption) z
theorem VRel.cells{v v':Value}(h:VRel μ v v'):LRel μ v.cells.toList v'.cells.toList:=by
 have one: ∀{u z:Value},VRel μ u z->LRel μ [u] [z]:=fun A=> .cons A .nil
 cases h with
 |agg xs xs' hl hi=>exact⟨hl,hi⟩
 |atom v h0=>cases v<;>first|(simp[noA0]at h0;done)|exact one (.atom _ h0)
 |ptr b o l hb=>exact one (.ptr b o l hb)
 |sliceC b o n k l hb ho=>exact one (.sliceC b o n k l hb ho)
 |sliceO b o o' n k k' e l hb ho h1 h2 h3 h4=>exact one (.sliceO b o o' n k k' e l hb ho h1 h2 h3 h4)
 |sliceZ b o a l hb=>exact one (.sliceZ b o a l hb)
 |map b l hb=>exact one (.map b l hb)
 |func fn xs ys xs' ys' h1 h2 i1 i2=>exact one (.func fn xs ys xs' ys' h1 h2 i1 i2)
 |tuple xs xs' h1 i1=>exact one (.tuple xs xs' h1 i1)
theorem VRel.int_inv{k:IntKind}{n:Int}{v':Value}(h:VRel μ (.int k n) v'):v'= .int k n:=h.eq0 rfl
theorem VRel.bool_inv{b:Bool}{v':Value}(h:VRel μ (.bool b) v'):v'= .bool b:=h.eq0 rfl
theorem VRel.string_inv{s:ByteArray}{v':Value}(h:VRel μ (.string s) v'):v'= .string s:=h.eq0 rfl
theorem VRel.ptr_inv{b o:Nat}{v':Value}(h:VRel μ (.pointer (some ⟨b,o,none⟩)) v'): ∃l,μ b=some l/\v'= .pointer (some ⟨l.c,l.sh+o,none⟩):=by
 cases h with
 |atom _ h0=>simp[noA0]at h0
 |ptr _ _ l hb=>exact⟨l,hb,rfl⟩
theorem VRel.ptr_some{a:Addr}{v':Value}(h:VRel μ (.pointer (some a)) v'):a.spot=none/\∃z,v'= .pointer (some z):=by
 cases h with
 |atom _ h0=>simp[noA0]at h0
 |ptr _ _ l hb=>exact⟨rfl,_,rfl⟩
theorem VRel.agg_inv{xs:Array Value}{v':Value}(h:VRel μ (.agg xs) v'): ∃z,v'= .agg z/\LRel μ xs.toList z.toList:=by
 cases h with
 |atom _ h0=>simp[noA0]at h0
 |agg _ z hl hi=>exact⟨z,rfl,hl,hi⟩
theorem VRel.tuple_inv{xs:Array Value}{v':Value}(h:VRel μ (.tuple xs) v'): ∃z,v'= .tuple z/\LRel μ xs.toList z.toList:=by
 cases h with
 |atom _ h0=>simp[noA0]at h0
 |tuple _ z hl hi=>exact⟨z,rfl,hl,hi⟩
theorem VRel.func_inv{fn:Fn}{xs ys:Array Value}{v':Value}(h:VRel μ (.func fn xs ys) v'):
  ∃z A,v'= .func fn z A/\LRel μ xs.toList z.toList/\LRel μ ys.toList A.toList:=by
 cases h with
 |atom _ h0=>
  simp only[noA0,a0e]at h0
  have E:xs= #[]:=a1g.1 (a09 h0.1)
  have N:ys= #[]:=a1g.1 (a09 h0.2)
  subst E N
  exact⟨#[], #[],rfl,.nil,.nil⟩
 |func _ _ _ z A h1 h2 i1 i2=>exact⟨z,A,rfl,⟨h1,i1⟩,⟨h2,i2⟩⟩
theorem VRel.map_inv{b:Nat}{v':Value}(h:VRel μ (.map (some b)) v'): ∃l,μ b=some l/\v'= .map (some l.c):=by
 cases h with
 |atom _ h0=>simp[noA0]at h0
 |map _ l hb=>exact⟨l,hb,rfl⟩
theorem VRel.mapNil_inv{v':Value}(h:VRel μ (.map none) v'):v'= .map none:=h.eq0 rfl
theorem VRel.slice_inv{b o n k:Nat}{v':Value}(h:VRel μ (.slice (some ⟨b,o,none⟩) n k) v'):
  ∃l,μ b=some l/\((l.opn=none/\v'= .slice (some ⟨l.c,l.sh+o,none⟩) n k)\/
   (∃e o' z,l.opn=some e/\v'= .slice (some ⟨l.c,o',none⟩) n z/\n<=k/\k<=z/\(0<k->o'=l.sh+o)/\o'+z*e<=l.csz)\/(n=0/\k=0/\∃A,v'= .slice (some A) 0 0)):=by
 cases h with
 |atom _ h0=>simp[noA0]at h0
 |sliceC _ _ _ _ l hb ho=>exact⟨l,hb,.inl ⟨ho,rfl⟩⟩
 |sliceO _ _ o' _ _ z e l hb ho h1 h2 h3 h4=>exact⟨l,hb,.inr (.inl ⟨e,o',z,ho,rfl,h1,h2,h3,h4⟩)⟩
 |sliceZ _ _ a l hb=>exact⟨l,hb,.inr (.inr ⟨rfl,rfl,a,rfl⟩)⟩
theorem VRel.sliceNil_inv{n k:Nat}{v':Value}(h:VRel μ (.slice none n k) v'):n=0/\k=0/\v'= .slice none n k:=by
 cases h with
 |atom _ h0=>
  simp only[noA0,a0e]at h0
  exact⟨a09 h0.1,a09 h0.2,rfl⟩
theorem VRel.slice_some{a:Addr}{n k:Nat}{v':Value}(h:VRel μ (.slice (some a) n k) v'):a.spot=none/\∃A z,v'= .slice (some A) n z:=by
 cases h with
 |atom _ h0=>simp[noA0]at h0
 |sliceC _ _ _ _ l hb ho=>exact⟨rfl,_,_,rfl⟩
 |sliceO _ _ o' _ _ z e l hb ho h1 h2 h3 h4=>exact⟨rfl,_,_,rfl⟩
 |sliceZ _ _ a l hb=>exact⟨rfl,_,_,rfl⟩
end
def ObjRel(μ:Emb)(w:World)(l:Loc):AObj->Prop
 | .cells cs opn true=>l.opn=opn/\opn=none/\l.c<w.heap.size/\∀(i:Nat) v,cs[i]?=some v->∃v',w.cell? ⟨l.c,l.sh+i,none⟩=some v'/\VRel μ v v'
 | .cells cs opn false=>l.opn=opn/\∃(z:Array Value) (e:TypeId),w.heap[l.c]?=some (.cells z e (0,0))/\z.size=l.csz/\l.sh+cs.length<=l.csz/\
   ∀(i:Nat) v,cs[i]?=some v->∃v',z[l.sh+i]?=some v'/\VRel μ v v'
 | .iter s pos=>l.sh=0/\w.heap[l.c]?=some (.stringIter s pos)
 | .tab es=> ∃(A:Array MapEntry) (E:Nat),w.heap[l.c]?=some (.map A E)/\es.length=A.toList.length/\
   ∀(i:Nat) x y,es[i]?=some x->A.toList[i]?=some y->VRel μ x.1 y.key/\VRel μ x.2 y.val
 | .dead=>True
structure WRel(μ:Emb)(H:Heap)(w:World):Prop where
 obj: ∀b l o,μ b=some l->H.get b=some o->ObjRel μ w l o
 inj: ∀b1 b2 l1 l2 o1 o2,b1≠b2->μ b1=some l1->μ b2=some l2->H.get b1=some o1->H.get b2=some o2->o1.rw=true->o2.live=true->l1.c≠l2.c
theorem bT{w:World}{c:Nat}{o:Obj}(h:w.heap[c]?=some o):c<w.heap.size:=(a0E.1 h).1
theorem ObjRel.lt{μ:Emb}{w:World}{l:Loc}{o:AObj}(h:ObjRel μ w l o)(E:o.live=true):l.c<w.heap.size:=by
 cases o with
 |cells cs opn ro=>
  cases ro with
  |true=>exact h.2.2.1
  |false=>obtain⟨_,N,e,z,_⟩:=h;exact bT z
 |iter s pos=>exact bT h.2
 |tab es=>obtain⟨T,A,z,_⟩:=h;exact bT z
 |dead=>simp[AObj.live]at E
theorem ObjRel.keep{μ μ':Emb}{w w':World}{l:Loc}{o:AObj}(T: ∀b l,μ b=some l->μ' b=some l)(hs:w.heap.size<=w'.heap.size)
  (hc:o.live=true->w'.heap[l.c]?=w.heap[l.c]?) (h:ObjRel μ w l o):ObjRel μ' w' l o:=by
 cases o with
 |cells cs opn ro=>
  have U:=hc rfl
  cases ro with
  |true=>
   obtain⟨V,z,N,Z⟩:=h
   refine⟨V,z,by omega,fun i v hv=>?_⟩
   obtain⟨v',A,hr⟩:=Z i v hv
   refine⟨v',?_,hr.mono T⟩
   rw[←A]
   simp only[World.cell?,U]
  |false=>
   obtain⟨V,al,e,hh,z,N,Z⟩:=h
   refine⟨V,al,e,U.trans hh,z,N,fun i v hv=>?_⟩
   obtain⟨v',A,hr⟩:=Z i v hv
   exact⟨v',A,hr.mono T⟩
 |iter s pos=>exact⟨h.1,(hc rfl).trans h.2⟩
 |tab es=>
  obtain⟨an,E,hh,z,N⟩:=h
  refine⟨an,E,(hc rfl).trans hh,z,fun i x y hx hy=>?_⟩
  obtain⟨r1,r2⟩:=N i x y hx hy
  exact⟨r1.mono T,r2.mono T⟩
 |dead=>trivial
theorem gi{o:AObj}(h:o.rw=true):o.live=true:=by cases o<;>simp_all[AObj.rw,AObj.live]
structure Post(μ:Emb)(H:Heap)(w:World)(μ':Emb)(H':Heap)(w':World):Prop where
 ext: ∀b l,μ b=some l->μ' b=some l
 dom: ∀b l,μ' b=some l->μ b=some l\/(H.next<=b/\b<H'.next)
 grow:w.heap.size<=w'.heap.size
 os:w'.os=w.os
 tape:w'.tape=w.tape
 out:w'.output=w.output
 keep: ∀c,c<w.heap.size->(∀b l o,μ b=some l->H.get b=some o->o.rw=true->l.c≠c)->w'.heap[c]?=w.heap[c]?
 img: ∀b l o,μ' b=some l->H'.get b=some o->o.live=true->w.heap.size<=l.c\/∃b0 l0 o0,μ b0=some l0/\H.get b0=some o0/\o0.live=true/\(o.rw=true->o0.rw=true)/\l0.c=l.c
 wrel:WRel μ' H' w'
theorem Post.refl{μ:Emb}{H:Heap}{w:World}(h:WRel μ H w):Post μ H w μ H w:=
 ⟨fun _ _ h=>h,fun _ _ h=> .inl h,a0a _,rfl,rfl,rfl,fun _ _ _=>rfl,fun b l o z A E=> .inr ⟨b,l,o,z,A,E,id,rfl⟩,h⟩
theorem Post.trans{μ Z μ2:Emb}{H H1 E:Heap}{w U V:World}(h:Post μ H w Z H1 U)(k:Post Z H1 U μ2 E V)(h1:H.next<=H1.next)(h2:H1.next<=E.next):
  Post μ H w μ2 E V:=by
 refine⟨fun b l z=>k.ext b l (h.ext b l z),fun b l z=>?_,a0c h.grow k.grow,k.os.trans h.os,k.tape.trans h.tape,k.out.trans h.out,fun c hc T=>?_,fun b l o z N A=>?_,k.wrel⟩
 ·rcases k.dom b l z with hb1|⟨hb1,hb2⟩
  ·rcases h.dom b l hb1 with hb0|⟨hb3,hb4⟩
   ·exact .inl hb0
   exact .inr ⟨hb3,by omega⟩
  exact .inr ⟨by omega,hb2⟩
 ·rw[k.keep c (a0V hc h.grow) ?_,h.keep c hc T];intro b l o z N A he;rcases h.img b l o z N (gi A) with hh|⟨b0,l0,o0,g1,g2,g3,g5,g4⟩
  ·omega
  exact T b0 l0 o0 g1 g2 (g5 A) (g4.trans he)
 rcases k.img b l o z N A with hh|⟨b0,l0,o0,g1,g2,g3,g5,g4⟩
 ·exact .inl (a0c h.grow hh)
 rcases h.img b0 l0 o0 g1 g2 g3 with hh|⟨b1,l1,o1,e1,e2,e3,e5,e4⟩
 ·exact .inl (g4▸hh)
 exact .inr ⟨b1,l1,o1,e1,e2,e3,fun hx=>e5 (g5 hx),e4.trans g4⟩
theorem WRel.drew{μ:Emb}{H:Heap}{w:World}(h:WRel μ H w):WRel μ H w.drew:=
 ⟨fun b l o z A=>(h.obj b l o z A).keep (fun _ _ h=>h) (a0a _) (fun _=>rfl),h.inj⟩
theorem Post.drew{μ:Emb}{H:Heap}{w:World}(h:WRel μ H w):Post μ H w μ H w.drew:=
 ⟨fun _ _ h=>h,fun _ _ h=> .inl h,a0a _,rfl,rfl,rfl,fun _ _ _=>rfl,fun b l o z A E=> .inr ⟨b,l,o,z,A,E,id,rfl⟩,h.drew⟩
def Emb.set(μ:Emb)(b:Nat)(l:Loc):Emb:=fun k=>if k=b then some l else μ k
theorem Emb.set_same(μ:Emb)(b:Nat)(l:Loc):μ.set b l b=some l:=by simp[Emb.set]
theorem Emb.set_ext{μ:Emb}{b:Nat}(l:Loc)(h:μ b=none): ∀k x,μ k=some x->μ.set b l k=some x:=by
 intro k x z;have:k≠b:=fun e=>by subst e;rw[h]at z;cases z
 simp[Emb.set,this,z]
theorem Emb.set_inv{μ:Emb}{b:Nat}{l:Loc}{k:Nat}{x:Loc}(h:μ.set b l k=some x):(k=b/\x=l)\/(k≠b/\μ k=some x):=by
 unfold Emb.set at h;split at h
 ·rename_i e;injection h with h;exact .inl ⟨e,h.symm⟩
 rename_i e;exact .inr ⟨e,h⟩
theorem iJ(w:World)(o:Obj){c:Nat}(h:c<w.heap.size):(w.alloc o).heap[c]?=w.heap[c]?:=by simp only[World.alloc,Array.getElem?_push];rw[if_neg (by omega)]
theorem e7(w:World)(o:Obj):(w.alloc o).heap[w.heap.size]?=some o:=by show(w.heap.push o)[w.heap.size]?=some o;simp
theorem Post.push{μ:Emb}{H:Heap}{w:World}(h:WRel μ H w)(hf:μ H.next=none)(l:Loc)(hl:l.c=w.heap.size)(o:AObj)(co:Obj)
  (ho:ObjRel (μ.set H.next l) (w.alloc co) l o):Post μ H w (μ.set H.next l) (H.push o) (w.alloc co):=by
 have hm:=Emb.set_ext l hf
 refine⟨hm,fun b x A=>?_,by simp,rfl,rfl,rfl,fun c hc _=>iJ w co hc,fun b x o' A z hr=>?_,⟨fun b x o' A z=>?_,fun b1 b2 l1 l2 o1 o2 E av aw N T a0 al=>?_⟩⟩
 ·rcases Emb.set_inv A with⟨rfl,rfl⟩|⟨_,A⟩
  ·exact .inr ⟨a0a _,by simp⟩
  exact .inl A
 ·rcases Emb.set_inv A with⟨rfl,rfl⟩|⟨E,A⟩
  ·exact .inl (by omega)
  rw[Heap.get_push_ne H o (Ne.symm E)]at z;exact .inr ⟨b,x,o',A,z,hr,id,rfl⟩
 ·rcases Emb.set_inv A with⟨rfl,rfl⟩|⟨E,A⟩
  ·rw[Heap.get_push_same]at z;injection z with z;subst z;exact ho
  rw[Heap.get_push_ne H o (Ne.symm E)]at z;have hr:=h.obj b x o' A z;exact hr.keep hm (by simp) (fun ax=>iJ w co (hr.lt ax))
 rcases Emb.set_inv av with⟨e1,f1⟩|⟨Z,U⟩<;>rcases Emb.set_inv aw with⟨e2,f2⟩|⟨ad,V⟩
 ·exact absurd (e1.trans e2.symm) E
 ·rw[Heap.get_push_ne H o (Ne.symm ad)]at T;have:=(h.obj b2 l2 o2 V T).lt al;subst f1;omega
 ·rw[Heap.get_push_ne H o (Ne.symm Z)]at N;have:=(h.obj b1 l1 o1 U N).lt (by cases o1<;>simp_all[AObj.rw,AObj.live]);subst f2;omega
 rw[Heap.get_push_ne H o (Ne.symm Z)]at N
 rw[Heap.get_push_ne H o (Ne.symm ad)]at T
 exact h.inj b1 b2 l1 l2 o1 o2 E U V N T a0 al
def ba(w:World)(c:Nat)(o:Obj):World:={w with heap:=w.heap.setIfInBounds c o}
theorem cY(w:World){c k:Nat}(o:Obj)(h:c≠k):(ba w c o).heap[k]?=w.heap[k]?:=by simp[ba,a1z h]
theorem bF(w:World){c:Nat}(o:Obj)(h:c<w.heap.size):(ba w c o).heap[c]?=some o:=by simp[ba,h]
@[simp] theorem setObjAt_size(w:World)(c:Nat)(o:Obj):(ba w c o).heap.size=w.heap.size:=by simp[ba]
theorem Post.put{μ:Emb}{H:Heap}{w:World}(h:WRel μ H w){b:Nat}{l:Loc}{o:AObj}(E:μ b=some l)(U:H.get b=some o)(N:o.rw=true)
  (o':AObj) (bz:o'.rw=true) (T:Obj) (hn:ObjRel μ (ba w l.c T) l o'):Post μ H w μ (H.put b o') (ba w l.c T):=by
 refine⟨fun _ _ h=>h,fun _ _ h=> .inl h,by simp,rfl,rfl,rfl,fun c hc ai=>cY w T (ai b l o E U N),fun k x V A z a1=>?_,⟨fun k x V A z=>?_,fun b1 b2 l1 l2 o1 o2 av Z ad aw ax ay a0=>?_⟩⟩
 ·by_cases e:b=k
  ·subst e;rw[E]at A;injection A with A;subst A;exact .inr ⟨b,l,o,E,U,gi N,fun _=>N,rfl⟩
  rw[Heap.get_put_ne H o' e]at z;exact .inr ⟨k,x,V,A,z,a1,id,rfl⟩
 ·by_cases e:b=k
  ·subst e;rw[E]at A;injection A with A;subst A;rw[Heap.get_put_same]at z;injection z with z;subst z;exact hn
  rw[Heap.get_put_ne H o' e]at z;have hx:=h.obj k x V A z;exact hx.keep (fun _ _ h=>h) (by simp) (fun ar=>cY w T (h.inj b k l x o V e E A U z N ar))
 have old: ∀k ok lk,μ k=some lk->(H.put b o').get k=some ok->∃oo,H.get k=some oo/\(ok.rw=true->oo.rw=true)/\(ok.live=true->oo.live=true):=by
  intro k ok lk A ag;by_cases e:b=k
  ·subst e;exact⟨o,U,fun _=>N,fun _=>by cases o<;>simp_all[AObj.rw,AObj.live]⟩
  rw[Heap.get_put_ne H o' e]at ag;exact⟨ok,ag,id,id⟩
 obtain⟨p1,q1,r1,_⟩:=old b1 o1 l1 Z aw
 obtain⟨p2,q2,_,r2⟩:=old b2 o2 l2 ad ax
 exact h.inj b1 b2 l1 l2 p1 p2 av Z ad q1 q2 (r1 ay) (r2 a0)
theorem Post.take{μ:Emb}{H:Heap}{w:World}(h:WRel μ H w){b:Nat}{l:Loc}{o:AObj}(U:μ b=some l)(ho:H.get b=some o)(hr:o.rw=true)
  (hf:μ H.next=none) (l':Loc) (hl:l'.c=l.c) (o':AObj) (co:Obj) (hn:ObjRel (μ.set H.next l') (ba w l.c co) l' o'):
  Post μ H w (μ.set H.next l') ((H.put b .dead).push o') (ba w l.c co):=by
 have hm:=Emb.set_ext l' hf
 have ci:b≠H.next:=fun e=>by subst e;rw[hf]at U;cases U
 have get: ∀k,k≠H.next->((H.put b .dead).push o').get k=(H.put b .dead).get k:=fun k A=>Heap.get_push_ne (H.put b .dead) o' (Ne.symm A)
 have a7:((H.put b .dead).push o').get H.next=some o':=Heap.get_push_same (H.put b .dead) o'
 refine⟨hm,fun k x A=>?_,by simp,rfl,rfl,rfl,fun c hc a9=>cY w co (a9 b l o U ho hr),fun k x ox A z a4=>?_,⟨fun k x ox A z=>?_,fun b1 b2 l1 l2 o1 o2 T bb be a2 a3 V Z=>?_⟩⟩
 ·rcases Emb.set_inv A with⟨rfl,rfl⟩|⟨_,A⟩
  ·exact .inr ⟨a0a _,by simp⟩
  exact .inl A
 ·rcases Emb.set_inv A with⟨rfl,rfl⟩|⟨T,A⟩
  ·exact .inr ⟨b,l,o,U,ho,gi hr,fun _=>hr,hl.symm⟩
  rw[get k T]at z;by_cases e:b=k
  ·subst e;rw[Heap.get_put_same]at z;injection z with z;subst z;simp[AObj.live]at a4
  rw[Heap.get_put_ne H _ e]at z;exact .inr ⟨k,x,ox,A,z,a4,id,rfl⟩
 ·rcases Emb.set_inv A with⟨rfl,rfl⟩|⟨T,A⟩
  ·rw[a7]at z;injection z with z;subst z;exact hn
  rw[get k T]at z;by_cases e:b=k
  ·subst e;rw[Heap.get_put_same]at z;injection z with z;subst z;trivial
  rw[Heap.get_put_ne H _ e]at z;have hx:=h.obj k x ox A z;exact hx.keep hm (by simp) (fun al=>cY w co (h.inj b k l x o ox e U A ho z hr al))
 have old: ∀k ok,k≠H.next->ok.live=true->((H.put b .dead).push o').get k=some ok->k≠b/\H.get k=some ok:=by
  intro k ok A al N;rw[get k A]at N;by_cases e:b=k
  ·subst e;rw[Heap.get_put_same]at N;injection N with N;subst N;simp[AObj.live]at al
  rw[Heap.get_put_ne H _ e]at N;exact⟨Ne.symm e,N⟩
 have E: ∀{x:AObj},x.rw=true->x.live=true:=by intro x hx;cases x<;>simp_all[AObj.rw,AObj.live]
 rcases Emb.set_inv bb with⟨e1,f1⟩|⟨an,ag⟩<;>rcases Emb.set_inv be with⟨e2,f2⟩|⟨ao,ai⟩
 ·exact absurd (e1.trans e2.symm) T
 ·obtain⟨n2,g2⟩:=old b2 o2 ao Z a3;rw[f1,hl];exact h.inj b b2 l l2 o o2 (Ne.symm n2) U ai ho g2 hr Z
 ·obtain⟨n1,g1⟩:=old b1 o1 an (E V) a2;rw[f2,hl];exact fun e=>h.inj b b1 l l1 o o1 (Ne.symm n1) U ag ho g1 hr (E V) e.symm
 obtain⟨_,g1⟩:=old b1 o1 an (E V) a2
 obtain⟨_,g2⟩:=old b2 o2 ao Z a3
 exact h.inj b1 b2 l1 l2 o1 o2 T ag ai g1 g2 V Z
end Go.R
set_option linter.unusedVariables false
namespace Go.R
section pure_
variable {α β:Type} (P:Program)
theorem cv{s:Sem α}{a:α}(h:aq P s=some a)(w:World):s.run P w= .ok a w:=by
 induction s with
 |pure x=>simp only[aq,a00]at h;subst h;rfl
 |program k ih=>simp only[aq]at h;simp only[Sem.run];exact ih _ h
 |mark m k ih=>simp only[aq]at h;simp only[Sem.run];exact ih h
 |_=>simp[aq]at h
@[simp] theorem aJ(x:Sem α)(f:α->Sem β):aq P (x>>=f)=(aq P x).bind fun a=>aq P (f a):=by
 show aq P (x.bind f)=_;induction x with
 |program k ih=>simp only[Sem.bind,aq];exact ih _
 |mark m k ih=>simp only[Sem.bind,aq];exact ih
 |pure a=>rfl
 |_=>rfl
@[simp] theorem bQ(a:α):aq P (Pure.pure a:Sem α)=some a:=rfl
@[simp] theorem eb:aq P program=some P:=rfl
@[simp] theorem pureRun_stuck(z:String):aq P (stuck z:Sem α)=none:=rfl
@[simp] theorem pureRun_unsupported(u:Unsupported):aq P (unsupported u:Sem α)=none:=rfl
@[simp] theorem pureRun_goPanic(v:Value):aq P (goPanic v:Sem α)=none:=rfl
@[simp] theorem pureRun_choose(q:Question):aq P (choose q)=none:=rfl
@[simp] theorem pureRun_mark(m:Mark):aq P (mark m)=some ():=rfl
theorem pureRun_ite(c:Prop) [Decidable c](x y:Sem α):aq P (if c then x else y)=if c then aq P x else aq P y:=by split<;>rfl
@[simp] theorem bJ(t:TypeId):aq P (underlying t)=P.underlying t:=by unfold underlying;simp only[aJ,eb,a0q];cases P.underlying t<;>rfl
@[simp] theorem dO(t:TypeId):aq P (typeInfo t)=P.info? t:=by unfold typeInfo;simp only[aJ,eb,a0q];cases P.info? t<;>rfl
@[simp] theorem cF(t:TypeId):aq P (sizeOf t)=dp P t:=by unfold sizeOf dp;simp only[aJ,dO];cases P.info? t<;>rfl
@[simp] theorem eU(t:TypeId):aq P (isAgg t)=gf P t:=by
 unfold isAgg gf;simp only[aJ,bJ];cases P.underlying t with
 |none=>rfl
 |some d=>cases d<;>rfl
theorem gc(e:RuntimeError):aq P (runtimePanic e:Sem α)=none:=by unfold runtimePanic;cases e<;>simp[newVar,newRow,newObj,aq,elemOf]<;>(intros;split<;>simp[aq])
theorem gq(k:IntKind)(x y:Int)(c:BoundsCode):aq P (boundsPanic k x y c:Sem α)=none:=by unfold boundsPanic;simp[gc,pureRun_ite]
end pure_
section runs
variable {P:Program} (w:World)
theorem aW{t:TypeId}{n:Nat}(h:dp P t=some n):(sizeOf t).run P w= .ok n w:=cv P (by rw[cF];exact h) w
theorem kw{t:TypeId}{b:Bool}(h:gf P t=some b):(isAgg t).run P w= .ok b w:=cv P (by rw[eU];exact h) w
theorem dY{t:TypeId}{i:TypeInfo}(h:P.info? t=some i):(typeInfo t).run P w= .ok i w:=cv P (by rw[dO];exact h) w
theorem ae{t:TypeId}{d:TypeDesc}(h:P.underlying t=some d):(underlying t).run P w= .ok d w:=cv P (by rw[bJ];exact h) w
theorem d8{t:TypeId}{z:List Value}(h:dm P t=some z): ∃i v,P.info? t=some i/\i.zero=some v/\v.cells.toList=z/\z.all noA0=true:=by
 unfold dm at h;split at h
 ·rename_i i hi;split at h
  ·rename_i v A;cases hc:v.cells.toList.all noA0 with
   |false=>rw[hc]at h;cases h
   |true=>rw[hc]at h;simp at h;subst h;exact⟨i,v,hi,A,rfl,hc⟩
  cases h
 cases h
theorem cZ{t:TypeId}{i:TypeInfo}{v:Value}(hi:P.info? t=some i)(z:i.zero=some v):(zeroValue t).run P w= .ok v w:=by unfold zeroValue;simp[dY w hi,z]
end runs
section mem
variable {P:Program} {μ:Emb} {H:Heap} {w:World}
theorem iN(h:WRel μ H w){b o:Nat}{l:Loc}{v:Value}(U:μ b=some l)(z:H.cellAt ⟨b,o,none⟩=some v):
  ∃v',w.cell? ⟨l.c,l.sh+o,none⟩=some v'/\VRel μ v v':=by
 simp only[Heap.cellAt,gN]at z
 split at z
 ·rename_i cs ai ro V;have E:=h.obj b l _ U V;cases ro with
  |true=>exact E.2.2.2 o v z
  |false=>
   obtain⟨_,ag,e,Z,_,_,T⟩:=E
   obtain⟨v',N,A⟩:=T o v z
   exact⟨v',by simp only[World.cell?,Z];simpa using N,A⟩
 cases z
theorem cJ(c o j:Nat):Addr.add ⟨c,o,none⟩ j=⟨c,o+j,none⟩:=by
 unfold Addr.add;split
 ·subst_vars;rfl
 rfl
theorem gw(h:WRel μ H w){b o n:Nat}{l:Loc}{vs:List Value}(hb:μ b=some l)(z:H.loadN ⟨b,o,none⟩ n=some vs):
  ∃ad,(loadCells ⟨l.c,l.sh+o,none⟩ n).run P w= .ok ⟨ad⟩ w/\LRel μ vs ad/\vs.length=n:=by
 simp only[Heap.loadN,ca,cn,bS]at z
 split at z
 ·rename_i cs aw ro hg;cases hq:Nat.beq ((cs.drop o).take n).length n with
  |false=>rw[hq]at z;cases z
  |true=>
   rw[hq]at z;simp only[cond_true,a00]at z
   have E:((cs.drop o).take n).length=n:=a09 hq
   have key: ∀j,j<n->∃v v',cs[o+j]?=some v/\w.cell? ⟨l.c,l.sh+o+j,none⟩=some v'/\VRel μ v v':=by
    intro j U;have Z:o+j<cs.length:=by rw[a0j,a0n]at E;omega
    have ag:H.cellAt ⟨b,o+j,none⟩=some cs[o+j]:=by simp only[Heap.cellAt,hg,gN];exact a05 Z
    obtain⟨v',hc,hr⟩:=iN h hb ag;exact⟨_,v',a05 Z,by rw[←hc,a1t],hr⟩
   have T: ∃f:Nat->Value,∀j,j<n->w.cell? (Addr.add ⟨l.c,l.sh+o,none⟩ j)=some (f j)/\∀v,cs[o+j]?=some v->VRel μ v (f j):=by refine⟨fun j=>(w.cell? ⟨l.c,l.sh+o+j,none⟩).getD undef,fun j U=>?_⟩;obtain⟨v,v',A,N,h3⟩:=key j U;simp only[cJ,N,a0C];refine⟨trivial,fun u V=>?_⟩;rw[A]at V;injection V with V;subst V;exact h3
   obtain⟨f,T⟩:=T
   refine⟨(List.range n).map f,run_loadCells w _ n f (fun j U=>(T j U).1),?_,by rw[←z];exact E⟩
   subst z
   refine⟨by rw[E];simp,fun i v v' A N=>?_⟩
   rw[a0x]at A
   split at A
   ·rename_i hi;rw[a0H]at A;simp[hi]at N;subst N;exact(T i hi).2 v A
   cases A
 cases z
theorem gv(h:WRel μ H w){b o:Nat}{l:Loc}{t:TypeId}{v:Value}(T:μ b=some l)(z:H.loadV P t ⟨b,o,none⟩=some v):
  ∃v',(loadVar t ⟨l.c,l.sh+o,none⟩).run P w= .ok v' w/\VRel μ v v':=by
 unfold Heap.loadV at z
 split at z
 ·rename_i E;split at z
  ·rename_i n Z;split at z
   ·rename_i vs V;injection z with z;subst z;obtain⟨U,N,A,_⟩:=gw (P:=P) h T V;refine⟨.agg ⟨U⟩,?_,.agg _ _ A.1 A.2⟩;simp[loadVar,kw w E,aW w Z,N]
   cases z
  cases z
 ·rename_i E;obtain⟨v',hc,hr⟩:=iN h T z;refine⟨v',?_,hr⟩;simp[loadVar,kw w E,hc]
 cases z
theorem jK{α:Type}(l:List α)(k:Nat):(Array.mk l)[k]?=l[k]?:=by simp
theorem jG: ∀(cs z:List Value),z.length<=cs.length->(over cs z).length=cs.length
 | [],[],_=>rfl
 | [],_::_,h=>by simp at h
 |_::_,[],_=>rfl
 |c::cs,v::z,h=>by simp only[over,a08];rw[jG cs z (by simpa using h)]
theorem over_get: ∀(cs z:List Value) (i:Nat),z.length<=cs.length->(over cs z)[i]?=if i<z.length then z[i]? else cs[i]?
 | [],[],i,_=>by simp[over]
 | [],_::_,_,h=>by simp at h
 |_::_,[],i,_=>by simp[over]
 |c::cs,v::z,0,_=>by simp[over]
 |c::cs,v::z,i+1,h=>by simp[over,over_get cs z i (by simpa using h)]
theorem bV: ∀(cs:List Value) (o:Nat) (z:List Value),o+z.length<=cs.length->(bp cs o z).length=cs.length
 |cs,0,z,h=>by cases cs<;>exact jG _ _ (by omega)
 | [],o+1,z,h=>by simp[bp]
 |c::cs,o+1,z,h=>by simp only[bp,a08];rw[bV cs o z (by simp at h;omega)]
theorem bA: ∀(cs:List Value) (o:Nat) (z:List Value) (i:Nat),o+z.length<=cs.length->
  (bp cs o z)[i]?=if o<=i/\i<o+z.length then z[i-o]? else cs[i]?
 |cs,0,z,i,h=>by
  have:bp cs 0 z=over cs z:=by cases cs<;>rfl
  rw[this,over_get cs z i (by omega)];simp
 | [],o+1,z,i,h=>by simp at h
 |c::cs,o+1,z,0,h=>by simp[bp]
 |c::cs,o+1,z,i+1,h=>by
  simp only[bp,a1U];rw[bA cs o z i (by simp at h;omega)];by_cases hc:o<=i/\i<o+z.length
  ·rw[if_pos hc,if_pos (by omega)];congr 1;omega
  rw[if_neg hc,if_neg (by omega)]
theorem da(c:Nat)(e:TypeId): ∀(A:List Value) (w:World) (z:Array Value) (o i:Nat),w.heap[c]?=some (.cells z e (0,0))->
  o+i+A.length<=z.size->A.all Value.oneCell'=true->A≠ []->
  (storeCells ⟨c,o,none⟩ A i).run P w= .ok () (ba w c (.cells ⟨bp z.toList (o+i) A⟩ e (0,0)))
 | [],_,_,_,_,_,_,_,hne=>absurd rfl hne
 |v::A,w,z,o,i,hh,hl,hall,_=>by
  simp only[a1k,a0e]at hall;simp only[a08]at hl;have N:w.cell? ⟨c,o+i,none⟩=some (z[o+i]'(by omega)):=by simp[World.cell?,hh,show o+i<z.size by omega]
  have V:w.frozen? ⟨c,o+i,none⟩=false:=by simp[World.frozen?,hh]
  have U:w.setCell ⟨c,o+i,none⟩ v=ba w c (.cells (z.setIfInBounds (o+i) v) e (0,0)):=by
   unfold World.setCell ba;congr 1;apply a1F;intro k;by_cases E:c=k
   ·subst E;rw[Array.getElem?_modify,if_pos rfl,hh,a1c,if_pos rfl,if_pos (bT hh)];simp
   simp[Array.getElem?_modify,E,a1z E]
  have h1:(storeCells ⟨c,o,none⟩ (v::A) i).run P w=(storeCells ⟨c,o,none⟩ A (i+1)).run P (ba w c (.cells (z.setIfInBounds (o+i) v) e (0,0))):=by simp only[storeCells,Sem.run_bind,cJ];rw[run_store P w _ v _ hall.1,N];simp[V,U]
  rw[h1];by_cases hv:A=[]
  ·subst hv;simp only[storeCells,Sem.run_pure];congr 3;apply a1F;intro k;simp only[a0f]at hl;rw[a1c];refine Eq.trans ?_ (jK _ _).symm;rw[bA _ _ _ _ (by simp;omega)];by_cases E:o+i=k
   ·subst E;rw[if_pos rfl,if_pos (by omega),if_pos (by simp)];simp
   rw[if_neg E,if_neg (by simp;omega)];simp
  have Z:(ba w c (.cells (z.setIfInBounds (o+i) v) e (0,0))).heap[c]?=some (.cells (z.setIfInBounds (o+i) v) e (0,0)):=bF w _ (bT hh);rw[da c e A _ _ o (i+1) Z (by simp;omega) hall.2 hv];congr 1;have: ∀(x y:Obj),ba (ba w c x) c y=ba w c y:=by intro x y;simp[ba]
  rw[this];congr 2;apply a1F;intro k;refine(jK _ _).trans (Eq.trans ?_ (jK _ _).symm);rw[bA _ _ _ _ (by simp;omega),bA _ _ _ _ (by simp;omega)];by_cases E:o+i=k
  ·subst E;rw[if_neg (by omega),if_pos (by simp)];simp[show o+i<z.size by omega]
  by_cases T:o+(i+1)<=k/\k<o+(i+1)+A.length
  ·rw[if_pos T,if_pos (by simp;omega)];rw[show k-(o+i)=(k-(o+(i+1)))+1 by omega,a1U]
  rw[if_neg T,if_neg (by simp;omega)];simp[E]
theorem fu(h:WRel μ H w){b o:Nat}{l:Loc}{E z:List Value}{H':Heap}(hb:μ b=some l)(hs:H.storeL ⟨b,o,none⟩ E=some H')(N:LRel μ E z):
  ∃w',(storeCells ⟨l.c,l.sh+o,none⟩ z).run P w= .ok () w'/\Post μ H w μ H' w':=by
 simp only[Heap.storeL,bS,lU,Nat.add_eq]at hs
 split at hs
 ·rename_i cs a4 hg;cases Z:(Nat.ble (o+E.length) cs.length&&E.all Value.oneCell') with
  |false=>rw[Z]at hs;cases hs
  |true=>
   rw[Z]at hs;simp only[cond_true,a00]at hs
   simp only[a0e]at Z
   have U:o+E.length<=cs.length:=a06 Z.1
   obtain⟨r1,A,e,T,r2,r3,r4⟩:=h.obj b l _ hb hg
   have V:=N.1
   have ao:z.all Value.oneCell'=true:=by
    rw[a0y];intro x hx;obtain⟨i,hi⟩:=List.getElem?_of_mem hx;have ai:i<E.length:=by rw[V];exact(a0v.1 hi).1
    have hr:=N.2 i E[i] x (a05 ai) hi;rw[hr.oneCell];exact a0y.1 Z.2 _ (a1w ai)
   by_cases al:z=[]
   ·subst al;have hv:E=[]:=by simpa using V
    subst hv;have an:bp cs o []=cs:=by apply a1A;intro k;rw[bA _ _ _ _ (by simpa using U),if_neg (by simp)]
    subst hs;refine⟨ba w l.c (.cells A e (0,0)),?_,?_⟩
    ·have:ba w l.c (.cells A e (0,0))=w:=by
      unfold ba;congr 1;apply a1F;intro k;by_cases hk:l.c=k
      ·subst hk;rw[a1c,if_pos rfl,if_pos (bT T),T]
      rw[a1z hk]
     rw[this];rfl
    refine Post.put h hb hg rfl _ rfl _ ⟨r1,A,e,bF w _ (bT T),r2,by rw[an];exact r3,fun i v hi=>r4 i v (by rw[an]at hi;exact hi)⟩
   subst hs
   refine⟨_,by simpa using da (P:=P) l.c e z w A (l.sh+o) 0 T (by omega) ao al,?_⟩
   refine Post.put h hb hg rfl _ rfl _ ⟨r1,_,e,bF w _ (bT T),?_,?_,?_⟩
   ·rw[←r2];show(bp A.toList (l.sh+o) z).length=_;rw[bV _ _ _ (by simp;omega)];simp
   ·rw[bV _ _ _ U];exact r3
   intro i v hi
   rw[bA _ _ _ _ U]at hi
   have mg: ∀v':Value,(bp A.toList (l.sh+o) z)[l.sh+i]?=some v'->(Array.mk (bp A.toList (l.sh+o+0) z))[l.sh+i]?=some v':=fun v' hv=>(jK _ _).trans hv
   rw[bA _ _ _ _ (by simp;omega)]at mg
   by_cases hc:o<=i/\i<o+E.length
   ·rw[if_pos hc]at hi;rw[if_pos (by omega)]at mg;obtain⟨v',ag,hr⟩:=N.get hi;exact⟨v',mg v' (by rw[←ag];congr 1;omega),hr⟩
   rw[if_neg hc]at hi
   rw[if_neg (by omega)]at mg
   obtain⟨v',ag,hr⟩:=r4 i v hi
   exact⟨v',mg v' (by simpa using ag),hr⟩
 cases hs
theorem cQ(h:WRel μ H w)(U:μ H.next=none)(e:TypeId){cs A:List Value}(N:LRel μ cs A)(z:List Value)(E:Option Nat)(Z:E=none->z=[]):
  ∃l,l.c=w.heap.size/\l.sh=0/\l.opn=E/\l.csz=cs.length+z.length/\
  (newRow e ⟨A++z⟩).run P w= .ok ⟨w.heap.size,0,none⟩ (w.alloc (.cells ⟨A++z⟩ e))/\
   Post μ H w (μ.set H.next l) (aP H cs E) (w.alloc (.cells ⟨A++z⟩ e)):=by
 refine⟨⟨w.heap.size,0,E,cs.length+z.length⟩,rfl,rfl,rfl,rfl,by simp[newRow],?_⟩
 refine Post.push h U _ rfl _ _ ⟨rfl,_,e,e7 w _,by simp[N.1],by simp,fun i v hi=>?_⟩
 obtain⟨v',T,V⟩:=N.get hi
 refine⟨v',?_,V.mono (Emb.set_ext _ U)⟩
 have:i<A.length:=(a0v.1 T).1
 simp only[a1u,jK]
 rw[a0S this];exact T
end mem
end Go.R
namespace Go.R
def ANRel(μ:Emb):AN->Next->Prop
 | .val v,.value v'=>VRel μ v v'
 | .skip,.skip=>True
 | .enter f args,.enter f' args'=>f=f'/\LRel μ args args'.toList
 |_,_=>False
theorem iu(bs:ByteArray): ∀(n i:Nat) (r:List UInt8),bs.size-i=n->ByteArray.toList.loop bs i r=r.reverse++bs.data.toList.drop i:=by
 intro n;induction n with
 |zero=>
  intro i r h
  rw[ByteArray.toList.loop,if_neg (by omega),a20 (by simp only[a2d,ByteArray.size_data];omega),a0F]
 |succ n ih=>
  intro i r h
  have hi:i<bs.size:=by omega
  rw[ByteArray.toList.loop,if_pos hi,ih (i+1) _ (by omega)]
  have z:i<bs.data.toList.length:=by simpa using hi
  rw[a0T z]
  simp[ByteArray.get!,hi]
theorem cS(bs:ByteArray):bs.toList=bs.data.toList:=by unfold ByteArray.toList;rw[iu bs _ 0 [] rfl];simp
section
variable {P:Program} {μ:Emb}
theorem df{ρ ρ':Operand->Value}{o:Oper}{H H':Heap}{r:AN}(h:bw P ρ o H=some (r,H'))(hs: ∀cs b,o.op≠ .select cs b)
  (U: ∀x∈o.op.operands,VRel μ (ρ x) (ρ' x)):H'=H/\∃v v',r= .val v/\(∀w,(execOp ρ' o).run P w= .ok (.value v') w)/\VRel μ v v':=by
 unfold bw at h
 cases A:o.op.operands.toList.all fun x=>gE (ρ x) with
 |false=>rw[A]at h;cases h
 |true=>
  rw[A]at h
  have N:execOp ρ' o=execOp ρ o:=execOp_congr o hs fun x E=>(U x E).eq1 (a0y.1 A x (by simpa using E))
  simp only[cond_true]at h
  split at h
  ·rename_i v T;cases z:noA2 v with
   |false=>rw[z]at h;cases h
   |true=>
    rw[z]at h;simp only[cond_true,a00,a03]at h
    obtain⟨rfl,rfl⟩:=h
    exact⟨rfl,v,v,rfl,fun w=>by rw[N];exact cv P T w,VRel.refl2 z⟩
  cases h
theorem jN{s:Sem Value}{H H':Heap}{r:AN}(h:lift P s H=some (r,H')):H'=H/\∃v,r= .val v/\aq P s=some v:=by
 unfold lift at h;split at h
 ·rename_i v z;simp only[a00,a03]at h;exact⟨h.2.symm,v,h.1.symm,z⟩
 cases h
theorem intBin_sound{op:BinOp}{k:IntKind}{a b:Int}{v:Value}(h:kF op k a b=some v)(t:TypeId)(w:World):
  (binOp op t (.int k a) (.int k b)).run P w= .ok v w/\noA0 v=true:=by
 cases op<;>simp only[kF,a00,reduceCtorEq]at h
 case quo=>
  cases z:(b==0) with
  |true=>rw[z]at h;cases h
  |false=>
   rw[z]at h;simp only[cond_false,a00]at h;subst h
   have A: ¬b=0:=by simpa using z
   simp[binOp_quo,Op.intDiv,A,noA0]
 case rem=>
  cases z:(b==0) with
  |true=>rw[z]at h;cases h
  |false=>
   rw[z]at h;simp only[cond_false,a00]at h;subst h
   have A: ¬b=0:=by simpa using z
   simp[binOp_rem,Op.intDiv,A,noA0]
 all_goals subst h
 case add=>simp[binOp_add,Op.intArith,noA0]
 case sub=>simp[binOp_sub,Op.intArith,noA0]
 case mul=>simp[binOp_mul,Op.intArith,noA0]
 case and=>simp[binOp_and,intBits_and,noA0,aS]
 case or=>simp[binOp_or,intBits_or,noA0,aS]
 case xor=>simp[binOp_xor,intBits_xor,noA0,aS]
 case andNot=>simp[binOp_andNot,intBits_andNot,noA0,aS]
 case eql=>simp[binOp_eql,noA0]
 case neq=>simp[binOp_neq,noA0]
 case lss=>simp[binOp_lss,noA0]
 case leq=>simp[binOp_leq,noA0]
 case gtr=>simp[binOp_gtr,noA0]
 case geq=>simp[binOp_geq,noA0]
theorem shBin_sound{op:BinOp}{k A:IntKind}{a b:Int}{v:Value}(h:shBin op k a b=some v)(t:TypeId)(w:World):
  (binOp op t (.int k a) (.int A b)).run P w= .ok v w/\noA0 v=true:=by
 cases op<;>simp only[shBin,reduceCtorEq]at h
 all_goals
  cases b with
  |negSucc n=>simp[shiftN]at h
  |ofNat n=>
   simp only[shiftN,a00]at h;subst h
   have z: ¬((n:Int)<0):=by omega
   simp[binOp_shl,binOp_shr,Op.shift,z,noA0,Nat.min_def]
theorem jz{op:BinOp}{t:TypeId}{a b:ByteArray}{v:Value}(h:strOp op a b=some v)(w:World):
  (binOp op t (.string a) (.string b)).run P w= .ok v w/\noA0 v=true:=by
 have E:binOp op t (.string a) (.string b)=Op.stringOp op a b:=by cases op<;>rfl
 rw[E]
 unfold strOp at h
 split at h
 ·injection h with h;subst h;simp[Op.stringOp,cS,dh,noA0]
 ·injection h with h;subst h;simp[Op.stringOp,cS,dh,noA0]
 ·injection h with h;subst h;simp[Op.stringOp,cS,noA0]
 ·injection h with h;subst h;simp[Op.stringOp,cS,dh,noA0]
 ·injection h with h;subst h;simp[Op.stringOp,cS,dh,noA0]
 ·injection h with h;subst h;simp[Op.stringOp,cS,noA0]
 ·simp only[dA,bS]at h;cases z:Nat.ble (a.data.toList++b.data.toList).length 1099511627776 with
  |false=>rw[z]at h;cases h
  |true=>
   rw[z]at h;simp only[cond_true,a00]at h;subst h
   have A:=a06 z
   simp only[a04,a2d,ByteArray.size_data]at A
   refine⟨?_,rfl⟩
   have N: ¬(((a.size+b.size:Nat):Int)>IntKind.i64.max):=by rw[IntKind.max_i64];omega
   simp only[Op.stringOp,if_neg N,Sem.run_pure]
   congr 2
 cases h
theorem kD{a:Option Addr}{v':Value}(h:VRel μ (.pointer a) v'): ∃z,v'= .pointer z/\z.isNone=a.isNone:=by
 cases h with
 |atom _ h0=>exact⟨a,rfl,rfl⟩
 |ptr b o l hb=>exact⟨_,rfl,rfl⟩
theorem cR{a:Option Addr}{n k:Nat}{v':Value}(h:VRel μ (.slice a n k) v'): ∃z A,v'= .slice z n A/\z.isNone=a.isNone:=by
 cases h with
 |atom _ h0=>exact⟨a,k,rfl,rfl⟩
 |sliceC b o n k l hb ho=>exact⟨_,_,rfl,rfl⟩
 |sliceO b o o' n k A e l hb ho h1 h2 h3 h4=>exact⟨_,_,rfl,rfl⟩
 |sliceZ b o a l hb=>exact⟨_,_,rfl,rfl⟩
theorem kE{a:Option Nat}{v':Value}(h:VRel μ (.map a) v'): ∃z,v'= .map z/\z.isNone=a.isNone:=by
 cases h with
 |atom _ h0=>exact⟨a,rfl,rfl⟩
 |map b l hb=>exact⟨_,rfl,rfl⟩
theorem d3{t:TypeId}{x y:Value}{w:World}{b:Bool}(h: ∀d,(Op.equalIn (d+1) t x y).run P w= .ok b w):(Op.equal t x y).run P w= .ok b w:=h 9999
theorem jJ{t:TypeId}{x y T U:Value}{b:Bool}(h:nilEq P t x y=some b)(E:VRel μ x T)(N:VRel μ y U)(w:World):
  (Op.equal t T U).run P w= .ok b w/\(∀op u v,eqGuard op t u v T U=pure ())/\(∀op,op= .eql\/op= .neq->binOp op t T U=(match op with
   | .eql=>do pure (.bool (←Op.equal t T U))
   |_=>do pure (.bool (!(←Op.equal t T U))))):=by
 unfold nilEq at h
 split at h
 ·rename_i e b0 A;obtain rfl:=E.eq0 rfl;obtain⟨b',rfl,hb⟩:=kD N;injection h with h;subst h;refine⟨?_,fun op u v=>by cases op<;>rfl,fun op z=>by rcases z with rfl|rfl<;>rfl⟩;exact d3 fun d=>by simp[Op.equalIn,ae w A,hb]
 ·rename_i e a0 A;obtain rfl:=N.eq0 rfl;obtain⟨V,rfl,Z⟩:=kD E;injection h with h;subst h;refine⟨?_,fun op u v=>by cases op<;>rfl,fun op z=>by rcases z with rfl|rfl<;>rfl⟩;exact d3 fun d=>by cases V<;>simp[Op.equalIn,ae w A,←Z]
 ·rename_i e n k b0 n2 k2 A;obtain⟨rfl,rfl,rfl⟩:=E.sliceNil_inv;obtain⟨b',k',rfl,hb⟩:=cR N;injection h with h;subst h;refine⟨?_,fun op u v=>by cases op<;>rfl,fun op z=>by rcases z with rfl|rfl<;>rfl⟩;exact d3 fun d=>by simp[Op.equalIn,ae w A,hb]
 ·rename_i e a0 n k n2 k2 A;obtain⟨rfl,rfl,rfl⟩:=N.sliceNil_inv;obtain⟨V,k',rfl,Z⟩:=cR E;injection h with h;subst h;refine⟨?_,fun op u v=>by cases op<;>rfl,fun op z=>by rcases z with rfl|rfl<;>rfl⟩;exact d3 fun d=>by cases V<;>simp[Op.equalIn,ae w A,←Z]
 ·rename_i e1 e2 b0 A;obtain rfl:=E.eq0 rfl;obtain⟨b',rfl,hb⟩:=kE N;injection h with h;subst h;refine⟨?_,fun op u v=>by cases op<;>rfl,fun op z=>by rcases z with rfl|rfl<;>rfl⟩;exact d3 fun d=>by simp[Op.equalIn,ae w A,hb]
 ·rename_i e1 e2 a0 A;obtain rfl:=N.eq0 rfl;obtain⟨V,rfl,Z⟩:=kE E;injection h with h;subst h;refine⟨?_,fun op u v=>by cases op<;>rfl,fun op z=>by rcases z with rfl|rfl<;>rfl⟩;exact d3 fun d=>by cases V<;>simp[Op.equalIn,ae w A,←Z]
 ·rename_i ps rs va A;obtain rfl:=E.eq0 rfl;obtain rfl:=N.eq0 rfl;injection h with h;subst h;refine⟨?_,fun op u v=>by cases op<;>rfl,fun op z=>by rcases z with rfl|rfl<;>rfl⟩;exact d3 fun d=>by simp[Op.equalIn,ae w A]
 ·rename_i ps rs va fn xs ys A;obtain rfl:=E.eq0 rfl;obtain⟨ao,ar,rfl,_,_⟩:=N.func_inv;injection h with h;subst h;refine⟨?_,fun op u v=>by cases op<;>rfl,fun op z=>by rcases z with rfl|rfl<;>rfl⟩;exact d3 fun d=>by simp[Op.equalIn,ae w A]
 ·rename_i ps rs va fn xs ys A;obtain rfl:=N.eq0 rfl;obtain⟨ao,ar,rfl,_,_⟩:=E.func_inv;injection h with h;subst h;refine⟨?_,fun op u v=>by cases op<;>rfl,fun op z=>by rcases z with rfl|rfl<;>rfl⟩;exact d3 fun d=>by simp[Op.equalIn,ae w A]
 cases h
theorem part_rel{t:TypeId}{cs z:Array Value}{off:Nat}{v:Value}(N:LRel μ cs.toList z.toList)(h:aq P (part t cs off)=some v):
  ∃v',aq P (part t z off)=some v'/\VRel μ v v':=by
 unfold part at h⊢
 simp only[aJ,eU]at h⊢
 cases E:gf P t with
 |none=>rw[E]at h;simp at h
 |some g=>
  rw[E]at h
  cases g with
  |true=>
   simp only[a0q,if_true,aJ,cF]at h⊢
   cases hs:dp P t with
   |none=>rw[hs]at h;simp at h
   |some n=>
    rw[hs]at h
    simp only[a0q,bQ,a00]at h⊢
    subst h
    refine⟨_,rfl,?_⟩
    have:=(N.take (off+n)).drop off
    have ex: ∀c:Array Value,(c.extract off (off+n)).toList=(c.toList.take (off+n)).drop off:=fun c=>by simp[a2h]
    exact .agg _ _ (by rw[ex,ex];exact this.1) (by rw[ex,ex];exact this.2)
  |false=>
   simp only[a0q,a0K,if_false]at h⊢
   cases hc:cs[off]? with
   |none=>rw[hc]at h;simp at h
   |some u=>
    rw[hc]at h
    simp only[bQ,a00]at h;subst h
    obtain⟨v',T,A⟩:=N.get (i:=off) (v:=u) (by simpa using hc)
    refine⟨v',?_,A⟩
    have:z[off]?=some v':=by simpa using T
    rw[this];rfl
theorem field_rel{t:TypeId}{x E:Value}{f:Nat}{v:Value}(T:VRel μ x E)(h:aq P (Instr.field t x f)=some v):
  ∃v',aq P (Instr.field t E f)=some v'/\VRel μ v v':=by
 unfold Instr.field at h⊢
 simp only[aJ,bJ]at h⊢
 cases A:P.underlying t with
 |none=>rw[A]at h;simp at h
 |some d=>
  rw[A]at h
  simp only[a0q]at h⊢
  cases d with
  |struct fields=>
   simp only at h⊢
   cases z:fields[f]? with
   |none=>rw[z]at h;simp at h
   |some fd=>
    rw[z]at h
    simp only[aJ]at h⊢
    cases x with
    |agg cs=>
     obtain⟨U,rfl,N⟩:=T.agg_inv
     simp only[asAgg,bQ,a0q]at h⊢
     exact part_rel N h
    |_=>simp[asAgg]at h
  |_=>simp at h
theorem index_rel{t:TypeId}{x N i i':Value}{v:Value}(U:VRel μ x N)(hi:VRel μ i i')(A: ∀s,x≠ .string s)(h:aq P (Instr.index t x i)=some v):
  ∃v',aq P (Instr.index t N i')=some v'/\VRel μ v v':=by
 cases i with
 |int k n=>
  obtain rfl:=hi.int_inv
  unfold Instr.index at h⊢
  simp only[asIntOf,aJ,bQ,a0q,bJ]at h⊢
  cases E:P.underlying t with
  |none=>rw[E]at h;simp at h
  |some d=>
   rw[E]at h
   simp only[a0q]at h⊢
   cases d with
   |array len e=>
    cases x with
    |agg cs=>
     obtain⟨V,rfl,T⟩:=U.agg_inv
     simp only at h⊢
     by_cases z:0<=n/\n<(len:Int)
     ·rw[if_pos z]at h⊢;simp only[aJ,cF]at h⊢;cases hs:dp P e with
      |none=>rw[hs]at h;simp at h
      |some sz=>rw[hs]at h;simp only[a0q]at h⊢;exact part_rel T h
     rw[if_neg z,gq]at h;cases h
    |_=>simp at h
   |string=>
    cases x with
    |string s=>exact absurd rfl (A s)
    |_=>simp at h
   |_=>simp at h
 |pointer a=>cases a<;>simp[Instr.index,asIntOf]at h
 |_=>simp[Instr.index,asIntOf]at h
theorem gT: ∀(l l':List Value) (s off:Nat) (A N:Array Value),LRel μ l l'->LRel μ A.toList N.toList->
  LRel μ ((l.zipIdx s).foldl (fun cs p=>cs.setIfInBounds (off+p.2) p.1) A).toList ((l'.zipIdx s).foldl (fun cs p=>cs.setIfInBounds (off+p.2) p.1) N).toList
 | [],l',s,off,A,N,h,hA=>by rw[h.nil_left];exact hA
 |v::l,l',s,off,A,N,h,hA=>by
  obtain⟨v',Z,rfl,V,U⟩:=h.cons_left;simp only[List.zipIdx_cons,List.foldl_cons];refine gT l Z (s+1) off _ _ U ⟨by simpa using hA.1,fun i x x' z E=>?_⟩;simp only[Array.toList_setIfInBounds,List.getElem?_set]at z E;have T:=hA.1;by_cases hi:off+s=i
  ·rw[if_pos hi]at z E;split at z
   ·rename_i ag;rw[if_pos (by omega)]at E;injection z with z;injection E with E;subst z E;exact V
   cases z
  rw[if_neg hi]at z E;exact hA.2 i x x' z E
theorem ji{z:Nat->Option (Nat×Nat)}: ∀(ps ps':List (Nat×Value)) (A A':Array Value) (r:Array Value),ps.length=ps'.length->
  (∀(i:Nat) x E,ps[i]?=some x->ps'[i]?=some E->x.1=E.1/\VRel μ x.2 E.2)->LRel μ A.toList A'.toList->Instr.fill z A ps=some r->
  ∃r',Instr.fill z A' ps'=some r'/\LRel μ r.toList r'.toList
 | [],ps',A,A',r,hl,_,hA,h=>by have:ps'=[]:=a0t hl.symm;subst this;simp only[Instr.fill,a00]at h;subst h;exact⟨A',rfl,hA⟩
 |(i,v)::ps,ps',A,A',r,hl,hp,hA,h=>by
  cases ps' with
  |nil=>simp at hl
  |cons E ps'=>
   obtain⟨i',v'⟩:=E
   obtain⟨hi,Z⟩:=hp 0 (i,v) (i',v') rfl rfl
   simp only at hi Z;subst hi
   simp only[Instr.fill]at h⊢
   cases T:z i with
   |none=>rw[T]at h;cases h
   |some os=>
    obtain⟨off,size⟩:=os
    rw[T]at h
    simp only at h⊢
    have hc:=Z.cells
    have V:v'.cells.size=v.cells.size:=by have:=hc.1;simpa using this.symm
    have U:A'.size=A.size:=by have:=hA.1;simpa using this.symm
    rw[V,U]
    split at h
    ·cases h
    rename_i N
    rw[if_neg N]
    refine ji ps ps' _ _ r (by simpa using hl) (fun j x E h1 h2=>hp (j+1) x E (by simpa using h1) (by simpa using h2)) ?_ h
    have:=gT v.cells.toList v'.cells.toList 0 off A A' hc hA
    have e: ∀(u:Value) (B:Array Value),Array.foldl (fun cs x=>cs.setIfInBounds (off+x.snd) x.fst) B u.cells.zipIdx=List.foldl (fun cs p=>cs.setIfInBounds (off+p.snd) p.fst) B u.cells.toList.zipIdx:=fun u B=>by rw[←Array.foldl_toList,Array.toList_zipIdx]
    exact(e v A▸e v' A'▸this:LRel μ (Array.foldl (fun cs x=>cs.setIfInBounds (off+x.snd) x.fst) A v.cells.zipIdx).toList (Array.foldl (fun cs x=>cs.setIfInBounds (off+x.snd) x.fst) A' v'.cells.zipIdx).toList)
end
end Go.R
namespace Go.R
section
variable {P:Program} {μ:Emb}
theorem build_rel{t:TypeId}{ps ps':Array (Nat×Value)}{v:Value}(V:ps.toList.length=ps'.toList.length)
  (hp: ∀(i:Nat) x x',ps.toList[i]?=some x->ps'.toList[i]?=some x'->x.1=x'.1/\VRel μ x.2 x'.2)
  (hz:(dm P t).isSome=true) (h:aq P (Instr.build t ps)=some v):
  ∃v',aq P (Instr.build t ps')=some v'/\VRel μ v v':=by
 unfold Instr.build at h⊢
 have al:aq P (zeroValue t)=(P.info? t).bind (·.zero):=by
  unfold zeroValue;simp only[aJ,dO];cases hi:P.info? t with
  |none=>rfl
  |some i=>simp only[a0q];cases i.zero<;>rfl
 simp only[aJ,al,bJ]at h⊢
 cases hi:(P.info? t).bind (·.zero) with
 |none=>rw[hi]at h;simp at h
 |some z=>
  rw[hi]at h
  have T:LRel μ z.cells.toList z.cells.toList:=by obtain⟨zl,ai⟩:=Option.isSome_iff_exists.1 hz;obtain⟨i,v0,h1,h2,h3,h4⟩:=d8 (P:=P) ai;rw[h1]at hi;simp only[a0q,h2,a00]at hi;subst hi;exact LRel.refl0 (by rw[h3];exact h4)
  simp only[a0q]at h⊢
  cases hu:P.underlying t with
  |none=>rw[hu]at h;simp at h
  |some d=>
   rw[hu]at h
   simp only[a0q]at h⊢
   cases d with
   |struct fields=>
    simp only[aJ]at h⊢
    cases Z:aq P (fields.mapM fun f=>do let y ←sizeOf f.type;Pure.pure (f.offset,y)) with
    |none=>rw[Z]at h;simp at h
    |some places=>
     rw[Z]at h
     simp only[a0q]at h⊢
     cases E:Instr.fill (fun x=>places[x]?) z.cells ps.toList with
     |none=>rw[E]at h;simp at h
     |some r=>
      rw[E]at h
      simp only[bQ,a00]at h
      subst h
      obtain⟨U,N,A⟩:=ji _ _ _ _ _ V hp T E
      exact⟨.agg U,by rw[N];rfl,.agg _ _ A.1 A.2⟩
   |array n e=>
    simp only[aJ,cF]at h⊢
    cases hs:dp P e with
    |none=>rw[hs]at h;simp at h
    |some sz=>
     rw[hs]at h
     simp only[a0q]at h⊢
     cases E:Instr.fill (fun i=>some (i*sz,sz)) z.cells ps.toList with
     |none=>rw[E]at h;simp at h
     |some r=>
      rw[E]at h
      simp only[bQ,a00]at h
      subst h
      obtain⟨U,N,A⟩:=ji _ _ _ _ _ V hp T E
      exact⟨.agg U,by rw[N];rfl,.agg _ _ A.1 A.2⟩
   |_=>simp at h
theorem eN{v v':Value}{n:Nat}(h:iZ v=some n)(z:VRel μ v v'): ∃k,v'= .int k (n:Int):=by
 unfold iZ at h;split at h
 ·rename_i k m;injection h with h;subst h;exact⟨k,z.int_inv⟩
 cases h
theorem aField_sound{s:TypeId}{x N:Value}{f:Nat}{v:Value}(h:hL P s x f=some v)(hx:VRel μ x N):
  ∃v',(∀w,(Instr.fieldAt s N f).run P w= .ok v' w)/\VRel μ v v':=by
 unfold hL at h
 split at h
 ·rename_i fs b o Z;split at h
  ·rename_i A U;split at h
   ·rename_i n V;cases z:Nat.beq n 0 with
    |true=>rw[z]at h;cases h
    |false=>
     rw[z]at h;simp only[cond_false,a00]at h;subst h
     obtain⟨l,T,rfl⟩:=hx.ptr_inv
     have E: ¬n=0:=fun e=>by subst e;cases z
     refine⟨_,fun w=>?_,a1t l.sh o A.offset▸VRel.ptr b (o+A.offset) l T⟩
     simp[Instr.fieldAt,ae w Z,U,Instr.sureAddr,fieldPlace,aW w V,E,cJ,a1t]
   cases h
  cases h
 cases h
theorem i0{t:TypeId}{x x' i i':Value}{v:Value}(h:cT P t x i=some v)(Z:VRel μ x x')(hi:VRel μ i i'):
  ∃v',(∀w,(Instr.indexAt t x' i').run P w= .ok v' w)/\VRel μ v v':=by
 unfold cT at h
 split at h
 ·rename_i e b o n k j E U;obtain⟨ik,rfl⟩:=eN U hi;split at h
  ·rename_i sz hs;cases z:(Nat.ble (j+1) n&&Nat.ble n k) with
   |false=>rw[z]at h;cases h
   |true=>
    rw[z]at h;simp only[cond_true,a00]at h;subst h
    simp only[a0e]at z
    have h1:j+1<=n:=a06 z.1
    have h2:n<=k:=a06 z.2
    obtain⟨l,T,hc⟩:=Z.slice_inv
    have A:VRel μ (.pointer (some ⟨b,o+j*sz,none⟩)) (.pointer (some ⟨l.c,l.sh+o+j*sz,none⟩)):=
     a1t l.sh o (j*sz)▸VRel.ptr b (o+j*sz) l T
    have N:(j:Int)<(n:Int):=by omega
    rcases hc with⟨_,rfl⟩|⟨e',o',k',_,rfl,_,_,V,_⟩|⟨hz,_,_⟩
    rotate_right
    ·omega
    ·refine⟨_,fun w=>?_,A⟩;simp[Instr.indexAt,asIntOf,ae w E,aW w hs,cJ];omega
    have ho:o'=l.sh+o:=V (by omega)
    subst ho
    refine⟨_,fun w=>?_,A⟩
    simp[Instr.indexAt,asIntOf,ae w E,aW w hs,cJ]
    omega
  cases h
 ·rename_i n e b o j E U;obtain⟨ik,rfl⟩:=eN U hi;split at h
  ·rename_i sz hs;cases z:Nat.ble (j+1) n with
   |false=>rw[z]at h;cases h
   |true=>
    rw[z]at h;simp only[cond_true,a00]at h;subst h
    have h1:j+1<=n:=a06 z
    obtain⟨l,T,rfl⟩:=Z.ptr_inv
    refine⟨_,fun w=>?_,a1t l.sh o (j*sz)▸VRel.ptr b (o+j*sz) l T⟩
    have N:(j:Int)<(n:Int):=by omega
    have h0:(0:Int)<=(j:Int)/\(j:Int)<(n:Int):=⟨by omega,N⟩
    simp only[Instr.indexAt,asIntOf,ae w E,aW w hs,cJ,Instr.sureAddr,Sem.run_bind,Sem.run_pure,Result.andThen_ok,if_pos h0,a1K]
  cases h
 cases h
theorem strIndex_run{t:TypeId}{s:ByteArray}{k:IntKind}{j:Nat}{b:UInt8}(N:P.underlying t=some .string)(z:s.data.toList[j]?=some b)(w:World):
  (Instr.index t (.string s) (.int k (j:Int))).run P w= .ok (.int .u8 b.toNat) w:=by
 have A:j<s.size:=by have:=(a0v.1 z).1;simpa using this
 have E:s[j]?=some b:=by rw[getElem?_pos s j A];have:=(a0v.1 z).2;rw[←this];rfl
 simp[Instr.index,asIntOf,ae w N,E]
theorem jm{ops:Array Operand}{ρ ρ':Operand->Value}(h: ∀x∈ops,VRel μ (ρ x) (ρ' x)):LRel μ (ops.map ρ).toList (ops.map ρ').toList:=by refine⟨by simp,fun i v v' A E=>?_⟩;simp only[Array.toList_map,a1h,a21]at A E;obtain⟨x,N,rfl⟩:=A;obtain⟨y,z,rfl⟩:=E;rw[N]at z;injection z with z;subst z;exact h x (by simpa using a0l N)
theorem lX{t:TypeId}{x N:Value}{f:Nat}{v:Value}(h:gD P t x f=some v)(hx:VRel μ x N):
  ∃v',(∀w,(Instr.field t N f).run P w= .ok v' w)/\VRel μ v v':=by
 unfold gD at h
 split at h
 ·rename_i cs;split at h
  ·rename_i g n off z;have hp:aq P (Instr.field t (.agg cs) f)=some v:=by
    unfold fieldAt? at z;split at z
    ·rename_i fs hu;split at z
     ·rename_i T A;split at z
      ·rename_i U n' V Z;simp only[a00,a03]at z;obtain⟨rfl,rfl,rfl⟩:=z;unfold Instr.field part;simp only[aJ,bJ,hu,a0q,A,asAgg,bQ,eU,V];unfold partL at h;cases U with
       |true=>
        simp only[cond_true,a00,ca,cn]at h
        simp only[if_true,aJ,cF,Z,a0q,bQ,a00]
        subst h
        congr 1
        apply Array.ext'
        simp
       |false=>
        simp only[cond_false,gN]at h
        simp only[a0K,if_false]
        have hc:cs[T.offset]?=some v:=by simpa using h
        rw[hc];rfl
      cases z
     cases z
    cases z
   obtain⟨v',E,hr⟩:=field_rel hx hp;exact⟨v',fun w=>cv P E w,hr⟩
  cases h
 cases h
theorem cd{r:Option Value}{H H':Heap}{n:AN}(h:ovl r H=some (n,H')):H'=H/\∃v,r=some v/\n= .val v:=by
 unfold ovl at h;split at h
 ·rename_i v;simp only[a00,a03]at h;exact⟨h.2.symm,v,rfl,h.1.symm⟩
 cases h
theorem ii{op:BinOp}{r:Option Bool}{H H':Heap}{n:AN}(h:nilBin op r H=some (n,H')):
  H'=H/\∃b,r=some b/\((op= .eql/\n= .val (.bool b))\/(op= .neq/\n= .val (.bool (!b)))):=by
 unfold nilBin at h
 split at h
 ·rename_i b;split at h
  ·simp only[a00,a03]at h;exact⟨h.2.symm,b,rfl,.inl ⟨rfl,h.1.symm⟩⟩
  ·simp only[a00,a03]at h;exact⟨h.2.symm,b,rfl,.inr ⟨rfl,h.1.symm⟩⟩
  cases h
 cases h
theorem ju{ρ ρ':Operand->Value}{o:Oper}{H H':Heap}{r:AN}(hk:aX o.op=true)
  (N: ∀x∈o.op.operands,VRel μ (ρ x) (ρ' x)) (h:aop P ρ o H=some (r,H')):
  H'=H/\∃v v',r= .val v/\(∀w,(execOp ρ' o).run P w= .ok (.value v') w)/\VRel μ v v':=by
 obtain⟨be,op,type,pos,after,a5⟩:=o
 cases op<;>simp only[aX,a0K]at hk
 case move x=>
  simp only[aop,a00,a03]at h
  obtain⟨rfl,rfl⟩:=h
  exact⟨rfl,_,ρ' x,rfl,fun w=>rfl,N x (by simp[Op.operands])⟩
 case assign x=>
  simp only[aop,a00,a03]at h
  obtain⟨rfl,rfl⟩:=h
  exact⟨rfl,_,ρ' x,rfl,fun w=>rfl,N x (by simp[Op.operands])⟩
 case pick c a b=>
  simp only[aop,fw]at h
  split at h
  ·rename_i t ht;simp only[a00,a03]at h;obtain⟨rfl,rfl⟩:=h;have hc:ρ' c= .bool t:=by have:=N c (by simp[Op.operands]);rw[ht]at this;exact this.bool_inv
   refine⟨rfl,_,(if t then ρ' a else ρ' b),rfl,fun w=>?_,?_⟩
   ·simp[execOp,hc,asBool]
   cases t
   ·exact N b (by simp[Op.operands])
   exact N a (by simp[Op.operands])
  cases h
 case build t parts=>
  simp only[aop,gt]at h
  split at h
  case h_2=>cases h
  rename_i z hz
  obtain⟨rfl,v,rfl,A⟩:=jN h
  obtain⟨v',T,U⟩:=build_rel (μ:=μ) (ps:=parts.map fun p=>(p.1,ρ p.2)) (ps':=parts.map fun(i,x)=>(i,ρ' x)) (by simp) (fun i x x' Z h2=>by
   simp only[Array.toList_map,a1h,a21]at Z h2;obtain⟨y,hy,rfl⟩:=Z;obtain⟨z,hz,rfl⟩:=h2;rw[hy]at hz;injection hz with hz;subst hz;refine⟨rfl,N _ ?_⟩;have:=a0l hy;simp only[Op.operands,List.mem_toArray,a0s];exact⟨y,this,rfl⟩) (by rw[hz];rfl) A
  exact⟨rfl,v,v',rfl,fun w=>by simp only[execOp,Sem.run_bind,cv P T w,Result.andThen_ok,Sem.run_pure],U⟩
 case nilCheck x=>
  simp only[aop,opNil]at h
  split at h
  ·rename_i a ha;simp only[a00,a03]at h;obtain⟨rfl,rfl⟩:=h;have E:=N x (by simp[Op.operands]);rw[ha]at E;obtain⟨_,a',a0⟩:=E.ptr_some;exact⟨rfl,_,ρ' x,rfl,fun w=>by simp[execOp,a0],E⟩
  ·rename_i f a c ha;simp only[a00,a03]at h;obtain⟨rfl,rfl⟩:=h;have E:=N x (by simp[Op.operands]);rw[ha]at E;obtain⟨a',c',a1,_,_⟩:=E.func_inv;exact⟨rfl,_,ρ' x,rfl,fun w=>by simp[execOp,a1],E⟩
  cases h
 case binOp op t x y yt=>
  have E:=N x (by simp[Op.operands])
  have hy:=N y (by simp[Op.operands])
  simp only[aop,aBin]at h
  split at h
  ·rename_i k a ha;rw[ha]at E;unfold binInt at h;split at h
   ·rename_i k' b V;rw[V]at hy;obtain⟨rfl,v,A,rfl⟩:=cd h;have key: ∀w,(binOp op t (.int k a) (.int k' b)).run P w= .ok v w/\noA0 v=true:=by
     intro w;cases hs:jO op with
     |true=>rw[hs]at A;exact shBin_sound A t w
     |false=>
      rw[hs]at A
      simp only[cond_false]at A
      cases he:gP k k' with
      |false=>rw[he]at A;cases A
      |true=>
       rw[he]at A
       have:k=k':=by simpa[gP] using he
       subst this
       exact intBin_sound A t w
    refine⟨rfl,v,v,rfl,fun w=>?_,.atom v (key default).2⟩;simp only[execOp,E.int_inv,hy.int_inv,eqGuard_at_int,pure_bind,Sem.run_bind,(key w).1,Result.andThen_ok,Sem.run_pure]
   cases h
  ·rename_i a ha;rw[ha]at E;unfold binStr at h;split at h
   ·rename_i b V;rw[V]at hy;obtain⟨rfl,v,A,rfl⟩:=cd h;refine⟨rfl,v,v,rfl,fun w=>?_,.atom v (jz (P:=P) (t:=t) A default).2⟩;simp only[execOp,E.string_inv,hy.string_inv,eqGuard_at_string,pure_bind,Sem.run_bind,(jz (P:=P) (t:=t) A w).1,Result.andThen_ok,Sem.run_pure]
   cases h
  unfold lP at h
  split at h
  ·exact df h (fun _ _=>by simp) N
  ·exact df h (fun _ _=>by simp) N
  obtain⟨rfl,b,V,an⟩:=ii h
  rcases an with⟨rfl,rfl⟩|⟨rfl,rfl⟩
  ·refine⟨rfl,_,_,rfl,fun w=>?_,.atom (.bool b) rfl⟩;obtain⟨Z,h2,h3⟩:=jJ (P:=P) V E hy w;simp only[execOp,h2,pure_bind,h3 .eql (.inl rfl),Sem.run_bind,Z,Result.andThen_ok,Sem.run_pure]
  refine⟨rfl,_,_,rfl,fun w=>?_,.atom (.bool (!b)) rfl⟩
  obtain⟨Z,h2,h3⟩:=jJ (P:=P) V E hy w
  simp only[execOp,h2,pure_bind,h3 .neq (.inr rfl),Sem.run_bind,Z,Result.andThen_ok,Sem.run_pure]
 case unOp op t x=>
  have E:=N x (by simp[Op.operands])
  simp only[aop,aUn]at h
  split at h
  ·rename_i b V;rw[V]at E;split at h
   ·simp only[a00,a03]at h;obtain⟨rfl,rfl⟩:=h;exact⟨rfl,_,_,rfl,fun w=>by simp[execOp,E.bool_inv,Op.unary],.atom (.bool (!b)) rfl⟩
   cases h
  exact df h (fun _ _=>by simp) N
 case makeFunc fn first captured=>
  simp only[aop,a00,a03]at h
  obtain⟨rfl,rfl⟩:=h
  have Z:=jm (μ:=μ) (ops:=first) (ρ:=ρ) (ρ':=ρ') fun x E=>N x (by simp[Op.operands,E])
  have h2:=jm (μ:=μ) (ops:=captured) (ρ:=ρ) (ρ':=ρ') fun x E=>N x (by simp[Op.operands,E])
  exact⟨rfl,_,_,rfl,fun w=>rfl,.func _ _ _ _ _ Z.1 h2.1 Z.2 h2.2⟩
 case fieldAddr s x f=>
  simp only[aop]at h
  obtain⟨rfl,v,A,rfl⟩:=cd h
  obtain⟨v',T,U⟩:=aField_sound A (N x (by simp[Op.operands]))
  exact⟨rfl,v,v',rfl,fun w=>by simp only[execOp,Sem.run_bind,T w,Result.andThen_ok,Sem.run_pure],U⟩
 case field t x f=>
  simp only[aop]at h
  obtain⟨rfl,v,A,rfl⟩:=cd h
  obtain⟨v',T,U⟩:=lX A (N x (by simp[Op.operands]))
  exact⟨rfl,v,v',rfl,fun w=>by simp only[execOp,Sem.run_bind,T w,Result.andThen_ok,Sem.run_pure],U⟩
 case indexAddr t x i=>
  simp only[aop]at h
  obtain⟨rfl,v,A,rfl⟩:=cd h
  obtain⟨v',T,U⟩:=i0 A (N x (by simp[Op.operands])) (N i (by simp[Op.operands]))
  exact⟨rfl,v,v',rfl,fun w=>by simp only[execOp,Sem.run_bind,T w,Result.andThen_ok,Sem.run_pure],U⟩
 case index t x i=>
  have E:=N x (by simp[Op.operands])
  have hi:=N i (by simp[Op.operands])
  simp only[aop,j5]at h
  split at h
  ·rename_i s hs;rw[hs]at E;obtain⟨rfl,v,A,rfl⟩:=cd h;unfold strAt at A;split at A
   ·rename_i j hu hj;obtain⟨k,hk⟩:=eN hj hi;rw[gN]at A;split at A
    ·rename_i b V;injection A with A;subst A;exact⟨rfl,_,_,rfl,fun w=>by simp only[execOp,E.string_inv,hk,Sem.run_bind,strIndex_run hu V w,Result.andThen_ok,Sem.run_pure],.atom _ rfl⟩
    cases A
   cases A
  rename_i a2
  obtain⟨rfl,v,rfl,A⟩:=jN h
  obtain⟨v',T,U⟩:=index_rel E hi (fun s hs=>a2 s hs) A
  exact⟨rfl,v,v',rfl,fun w=>by simp only[execOp,Sem.run_bind,cv P T w,Result.andThen_ok,Sem.run_pure],U⟩
 case extract x i=>
  simp only[aop]at h
  have E:=N x (by simp[Op.operands])
  obtain⟨rfl,v,A,rfl⟩:=cd h
  unfold fZ at A
  split at A
  ·rename_i vs a3;rw[a3]at E;obtain⟨a4,ax,U⟩:=E.tuple_inv;rw[gN]at A;obtain⟨v',T,aw⟩:=U.get A;have hg:a4[i]?=some v':=by simpa using T
   exact⟨rfl,v,v',rfl,fun w=>by simp[execOp,ax,Instr.extract,hg],aw⟩
  cases A
end
end Go.R
namespace Go.R
theorem d4(l:List Value): ∀n,(cw n l).length=n*l.length
 |0=>by simp[cw]
 |n+1=>by simp only[cw,a04,d4 l n];rw[a10];omega
theorem kP(l:List Value): ∀(n i:Nat),i<n*l.length->(cw n l)[i]?=l[i%l.length]?
 |0,i,h=>by simp at h
 |n+1,i,h=>by
  simp only[cw];by_cases hi:i<l.length
  ·rw[a0S hi,Nat.mod_eq_of_lt hi]
  rw[a10,Nat.one_mul]at h;rw[a17 (by omega),kP l n (i-l.length) (by omega)];congr 1;exact(Nat.mod_eq_sub_mod (by omega)).symm
theorem zeros_eq(z:Array Value)(n:Nat):(Array.range (n*z.size)).map (fun i=>z[i%z.size]!)=⟨cw n z.toList⟩:=by
 apply a1F;intro i;refine Eq.trans ?_ (jK _ _).symm;by_cases hi:i<n*z.size
 ·rw[kP _ _ _ (by simpa using hi)];have E:0<z.size:=by
   rcases a1G z.size with h|h
   ·rw[h]at hi;simp at hi
   exact h
  have A:i%z.size<z.size:=Nat.mod_lt _ E;simp[hi,A]
 rw[a0Q (by rw[d4];simpa using hi)];simp[hi]
theorem gz{l:List Value}(h:l.all noA0=true): ∀n,(cw n l).all noA0=true
 |0=>rfl
 |n+1=>by simp only[cw,a2e,h,gz h n,a1l]
section
variable {P:Program} {μ:Emb} {H H':Heap} {w:World}
def OpOK(P:Program)(μ:Emb)(H:Heap)(w:World)(s:Sem Next)(r:AN)(H':Heap):Prop:=
 ∃n w' μ',s.run P w= .ok n w'/\Post μ H w μ' H' w'/\ANRel μ' r n
theorem OpOK.value{s:Sem Value}{v v':Value}{w':World}{μ':Emb}(h:s.run P w= .ok v' w')(z:Post μ H w μ' H' w')(A:VRel μ' v v'):
  OpOK P μ H w (do Pure.pure (.value (←s))) (.val v) H':=
 ⟨.value v',w',μ',by simp only[Sem.run_bind,h,Result.andThen_ok,Sem.run_pure],z,A⟩
theorem OpOK.skip{s:Sem Unit}{w':World}{μ':Emb}(h:s.run P w= .ok () w')(z:Post μ H w μ' H' w'):
  OpOK P μ H w (do s;Pure.pure .skip) .skip H':=
 ⟨.skip,w',μ',by simp only[Sem.run_bind,h,Result.andThen_ok,Sem.run_pure],z,trivial⟩
theorem jF{r:Option (Value×Heap)}{n:AN}(h:ovh r=some (n,H')): ∃v,r=some (v,H')/\n= .val v:=by
 unfold ovh at h;split at h
 ·simp only[a00,a03]at h;obtain⟨rfl,rfl⟩:=h;exact⟨_,rfl,rfl⟩
 cases h
theorem osk_inv{r:Option Heap}{n:AN}(h:osk r=some (n,H')):r=some H'/\n= .skip:=by
 unfold osk at h;split at h
 ·simp only[a00,a03]at h;obtain⟨rfl,rfl⟩:=h;exact⟨rfl,rfl⟩
 cases h
theorem gS(h:WRel μ H w)(Z:μ H.next=none)(e:TypeId){cs z:List Value}(A:LRel μ cs z):
  ∃l,l.c=w.heap.size/\l.sh=0/\l.opn=none/\(newRow e ⟨z⟩).run P w= .ok ⟨w.heap.size,0,none⟩ (w.alloc (.cells ⟨z⟩ e))/\
   Post μ H w (μ.set H.next l) (aP H cs none) (w.alloc (.cells ⟨z⟩ e)):=by
 obtain⟨l,T,U,V,_,E,N⟩:=cQ (P:=P) h Z e A [] none (fun _=>rfl)
 simp only[a0F]at E N
 exact⟨l,T,U,V,E,N⟩
theorem alloc_sound{e:TypeId}{r:AN}(h:WRel μ H w)(Z: ∀b,H.next<=b->b<H'.next->μ b=none)(A:ec P e H=some (r,H')):
  OpOK P μ H w (do Pure.pure (.value (←Instr.alloc e true (.tuple #[])))) r H':=by
 unfold ec at A
 split at A
 ·rename_i z hz;simp only[a00,a03]at A;obtain⟨rfl,rfl⟩:=A;obtain⟨i,v,hi,hv,hc,E⟩:=d8 (P:=P) hz;obtain⟨l,U,V,h3,N,hp⟩:=gS (P:=P) h (Z H.next (a0a _) (by simp[aP])) e (LRel.refl0 (μ:=μ) E);have T:v.cells=⟨z⟩:=by rw[←hc]
  refine OpOK.value (v':= .pointer (some ⟨w.heap.size,0,none⟩)) ?_ hp ?_
  ·simp only[Instr.alloc,Sem.run_bind,cZ w hi hv,Result.andThen_ok,newVar,T,N,Sem.run_pure]
  have:=VRel.ptr (μ:=μ.set H.next l) H.next 0 l (Emb.set_same _ _ _);rw[U,V]at this;exact this
 cases A
theorem box_sound{e:TypeId}{x A:Value}(h:WRel μ H w)(T:μ H.next=none)(V:VRel μ x A):
  OpOK P μ H w (do Pure.pure (.value (←Instr.box e A))) (.val (ptrTo H.next)) (aP H x.cells.toList none):=by
 obtain⟨l,E,N,Z,z,U⟩:=gS (P:=P) h T e V.cells
 refine OpOK.value (v':= .pointer (some ⟨w.heap.size,0,none⟩)) ?_ U ?_
 ·simp only[Instr.box,newVar,Sem.run_bind,z,Result.andThen_ok,Sem.run_pure]
 have:=VRel.ptr (μ:=μ.set H.next l) H.next 0 l (Emb.set_same _ _ _)
 rw[E,N]at this;exact this
theorem j7{t:TypeId}{sz:Nat}{z:List Value}(h:eG P t=some (sz,z)): ∃e,P.underlying t=some (.slice e)/\dp P e=some sz/\dm P e=some z/\z.length=sz:=by
 unfold eG at h;split at h
 ·rename_i e E;split at h
  ·rename_i T U hs N;cases A:Nat.beq (hO U) T with
   |false=>rw[A]at h;cases h
   |true=>
    rw[A]at h;simp only[cond_true,a00,a03]at h
    obtain⟨rfl,rfl⟩:=h
    exact⟨e,E,hs,N,by rw[←bS];exact a09 A⟩
  cases h
 cases h
theorem iY{t:TypeId}{n:Nat}{ps:List (Nat×Value)}{ps':Array (Nat×Value)}{r:AN}(h:WRel μ H w)(hf: ∀b,H.next<=b->b<H'.next->μ b=none)
  (hl:ps.length=ps'.toList.length) (hp: ∀(i:Nat) x x',ps[i]?=some x->ps'.toList[i]?=some x'->x.1=x'.1/\VRel μ x.2 x'.2)
  (E:bH P t n ps H=some (r,H')):OpOK P μ H w (do Pure.pure (.value (←Instr.buildSlice t n ps'))) r H':=by
 unfold bH at E
 split at E
 ·rename_i sz z ao;obtain⟨e,hu,hs,hz,T⟩:=j7 ao;cases hq:Nat.ble (n*sz) 16777216 with
  |false=>rw[hq]at E;cases E
  |true=>
   rw[hq]at E
   simp only[cond_true]at E
   have a6:n*sz<=16777216:=a06 hq
   split at E
   ·rename_i cells hc;simp only[a00,a03]at E;obtain⟨rfl,rfl⟩:=E;obtain⟨i,v,hi,hv,ar,ad⟩:=d8 (P:=P) hz;obtain⟨al,Z,ai⟩:=ji (μ:=μ) ps ps'.toList _ _ cells hl hp (LRel.refl0 (gz ad n)) hc;obtain⟨l,h1,h2,h3,N,V⟩:=gS (P:=P) h (hf H.next (a0a _) (by simp[aP])) e ai;refine OpOK.value (v':= .slice (some ⟨w.heap.size,0,none⟩) n n) ?_ V ?_
    ·have av:v.cells=⟨z⟩:=by rw[←ar]
     simp only[Instr.buildSlice,Sem.run_bind,ae w hu,Result.andThen_ok,aW w hs,show ¬(n*sz>2^24) by omega,if_false];by_cases U:n*sz=0
     ·have an:cw n z=[]:=a0t (by rw[d4,T];exact U);have A: ∀g:Nat->Value,(Array.range (n*sz)).map g=⟨cw n z⟩:=fun g=>by rw[U,an];simp
      rw[if_pos U];simp only[Sem.run_bind,Sem.run_pure,Result.andThen_ok,A,Z,N]
     have A:=zeros_eq ⟨z⟩ n;simp only[show(Array.mk z).size=sz from T]at A;rw[if_neg U];simp only[Sem.run_bind,cZ w hi hv,Sem.run_pure,Result.andThen_ok,av,show(Array.mk z).size=sz from T,A,Z,N]
    have:=VRel.sliceC (μ:=μ.set H.next l) H.next 0 n n l (Emb.set_same _ _ _) h3;rw[h1,h2]at this;exact this
   cases E
 cases E
theorem load_sound{t:TypeId}{a E:Value}{r:AN}(h:WRel μ H w)(N:VRel μ a E)(z:dU P t a H=some (r,H')):
  OpOK P μ H w (do Pure.pure (.value (←Instr.loadAt t E))) r H':=by
 unfold dU at z
 split at z
 ·rename_i p;obtain⟨rfl,v,Z,rfl⟩:=cd z;obtain⟨b,o,sp⟩:=p;have T:sp=none:=N.ptr_some.1;subst T;obtain⟨l,U,rfl⟩:=N.ptr_inv;obtain⟨v',A,V⟩:=gv (P:=P) h U Z;refine OpOK.value (v':=v') ?_ (Post.refl h) V;simp only[Instr.loadAt,Instr.sureAddr,Sem.run_bind,Sem.run_pure,Result.andThen_ok,A]
 cases z
theorem store_sound{t:TypeId}{a U x T:Value}{r:AN}(h:WRel μ H w)(V:VRel μ a U)(hx:VRel μ x T)(z:gr P t a x H=some (r,H')):
  OpOK P μ H w (do Instr.storeAt t U T;Pure.pure .skip) r H':=by
 unfold gr at z
 split at z
 ·rename_i p;split at z
  ·rename_i n hn;cases A:Nat.beq x.cells.size n with
   |false=>rw[A]at z;cases z
   |true=>
    rw[A]at z
    obtain⟨hs,rfl⟩:=osk_inv z
    have ao:x.cells.size=n:=a09 A
    obtain⟨b,o,sp⟩:=p
    have Z:sp=none:=V.ptr_some.1
    subst Z
    obtain⟨l,hb,rfl⟩:=V.ptr_inv
    obtain⟨w',E,hp⟩:=fu (P:=P) h hb hs hx.cells
    refine OpOK.skip ?_ hp
    have N:T.cells.size=n:=by have:=hx.cells.1;simp only[a2d]at this;omega
    simp only[Instr.storeAt,Instr.sureAddr,storeVar,Sem.run_bind,Sem.run_pure,Result.andThen_ok,aW w hn,N,ne_eq,not_true,if_false,E]
  cases z
 cases z
theorem lC(t:TypeId)(h:WRel μ H w)(z:μ H.next=none):
  OpOK P μ H w (do Pure.pure (.value (←Instr.makeMap t none))) (.val (.map (some H.next))) (H.push (.tab [])):=by
 refine OpOK.value (v':= .map (some w.heap.size)) (w':=w.alloc (.map #[] 0)) (μ':=μ.set H.next ⟨w.heap.size,0,none,0⟩) ?_ (Post.push h z _ rfl _ _ ?_) ?_
 ·simp[Instr.makeMap]
 ·exact⟨#[],0,e7 w _,rfl,fun i x y A=>by simp at A⟩
 exact VRel.map (μ:=μ.set H.next ⟨w.heap.size,0,none,0⟩) H.next _ (Emb.set_same _ _ _)
theorem range_sound{t:TypeId}{x A:Value}{r:AN}(h:WRel μ H w)(E: ∀b,H.next<=b->b<H'.next->μ b=none)(U:VRel μ x A)(N:ovh (aRange P t x H)=some (r,H')):
  OpOK P μ H w (do Pure.pure (.value (←Instr.range t A))) r H':=by
 obtain⟨v,z,rfl⟩:=jF N
 unfold aRange at z
 split at z
 ·rename_i s T;simp only[a00,a03]at z;obtain⟨rfl,rfl⟩:=z;obtain rfl:=U.string_inv;refine OpOK.value (v':= .pointer (some ⟨w.heap.size,0,none⟩)) (w':=w.alloc (.stringIter s 0)) (μ':=μ.set H.next ⟨w.heap.size,0,none,0⟩) ?_
   (Post.push h (E H.next (a0a _) (by simp)) _ rfl _ _ ⟨rfl,e7 w _⟩) ?_
  ·simp[Instr.range,ae w T]
  exact VRel.ptr (μ:=μ.set H.next ⟨w.heap.size,0,none,0⟩) H.next 0 _ (Emb.set_same _ _ _)
 cases z
theorem fS{r:Nat}{o:Obj}(z:w.heap[r]?=some o)(hc: ∀c e f,o≠ .cells c e f):(getObj r).run P w= .ok o w:=by cases o<;>first|exact absurd rfl (hc _ _ _)|(simp only[getObj,Sem.run,z])
theorem kv{r:Nat}{o o':Obj}(z:w.heap[r]?=some o)(hc: ∀c e f,o≠ .cells c e f):(setObj r o').run P w= .ok () (ba w r o'):=by cases o<;>first|exact absurd rfl (hc _ _ _)|(simp only[setObj,Sem.run,z];rfl)
theorem next_sound{it U:Value}{type:TypeId}{r:AN}(h:WRel μ H w)(hx:VRel μ it U)(ho:ovh (aNext H it)=some (r,H')):
  OpOK P μ H w (do Pure.pure (.value (←Instr.next U true type))) r H':=by
 obtain⟨v,z,rfl⟩:=jF ho
 unfold aNext at z
 split at z
 ·rename_i b;split at z
  ·rename_i s pos hg;obtain⟨l,Z,rfl⟩:=hx.ptr_inv;obtain⟨T,V⟩:=h.obj b l _ Z hg;have A:(getObj l.c).run P w= .ok (.stringIter s pos) w:=fS V (by intros;simp);cases N:Nat.ble (pos+1) s.size with
   |false=>
    rw[N]at z
    simp only[cond_false,a00,a03]at z
    obtain⟨rfl,rfl⟩:=z
    have ag: ¬pos<s.size:=fun E=>by rw[a0w E]at N;cases N
    refine OpOK.value (v':= .tuple #[.bool false]) ?_ (Post.refl h) (VRel.refl2 rfl)
    simp[Instr.next,T,A,ag]
   |true=>
    rw[N]at z
    simp only[cond_true,a00,a03]at z
    obtain⟨rfl,rfl⟩:=z
    have E:pos<s.size:=a06 N
    refine OpOK.value (v':= .tuple #[.bool true,goInt pos,.int .i32 (Utf8.decode s pos).1]) (w':=ba w l.c (.stringIter s (pos+(Utf8.decode s pos).2))) ?_
     (Post.put h Z hg rfl _ rfl _ ⟨T,bF w _ (bT V)⟩) (VRel.refl2 rfl)
    simp[Instr.next,T,A,E,kv V (by intros;simp)]
  cases z
 cases z
theorem kh{n:Nat}(h:n<=2147483648):IntKind.i64.wrap (n:Int)=n:=IntWalk.i64_in _ (by omega)
theorem iO{e:TypeId}{b:Nat}(h:fb P e=some b): ∃i,P.info? e=some i/\i.bytes=b:=by
 unfold fb at h;split at h
 ·rename_i i hi;injection h with h;exact⟨i,hi,h⟩
 cases h
theorem make_sound{t:TypeId}{x x' y y':Value}{r:AN}(h:WRel μ H w)(hf: ∀b,H.next<=b->b<H'.next->μ b=none)(hx:VRel μ x x')(hy:VRel μ y y')
  (ho:ovh (aMake P t x y H)=some (r,H')):OpOK P μ H w (do Pure.pure (.value (←Instr.makeSlice t x' y'))) r H':=by
 obtain⟨v,E,rfl⟩:=jF ho
 unfold aMake at E
 split at E
 ·rename_i e hu;split at E
  ·rename_i sz T z n k hs hb hz hn hk;cases hq:(Nat.ble n k&&Nat.ble k 2147483648&&Nat.ble T 4096&&Nat.beq (hO z) sz&& !Nat.beq sz 0) with
   |false=>rw[hq]at E;cases E
   |true=>
    rw[hq]at E
    simp only[cond_true,a00,a03]at E
    obtain⟨rfl,rfl⟩:=E
    simp only[a0e,a0I]at hq
    obtain⟨⟨⟨⟨q1,q2⟩,q3⟩,V⟩,q5⟩:=hq
    have q1:n<=k:=a06 q1
    have q2:k<=2147483648:=a06 q2
    have q3:T<=4096:=a06 q3
    have V:z.length=sz:=by rw[←bS];exact a09 V
    have q5:sz≠0:=fun e=>by rw[e]at q5;cases q5
    obtain⟨i,vz,hi,a4,a2,ar⟩:=d8 (P:=P) hz
    obtain⟨ib,N,a0⟩:=iO hb
    rw[hi]at N;injection N with N;subst N
    obtain⟨l,h1,h2,h3,U,ad⟩:=gS (P:=P) h (hf H.next (a0a _) (by simp[aP])) e (LRel.refl0 (μ:=μ) (gz ar k))
    refine OpOK.value (v':= .slice (some ⟨w.heap.size,0,none⟩) n k) ?_ ad ?_
    ·obtain⟨kn,rfl⟩:=eN hn hx;obtain⟨kk,rfl⟩:=eN hk hy;have a6:=kh (n:=n) (by omega);have a5:=kh (n:=k) q2;have a3:vz.cells=⟨z⟩:=by rw[←a2]
     have av:T*k<=4096*2147483648:=Nat.mul_le_mul q3 q2;have aw:(decide ((k:Int)<0)||decide ((i.bytes:Int)*(k:Int)>2^48)||decide ((n:Int)<0)||decide ((n:Int)>(k:Int)))=false:=by
      have hm:((i.bytes:Int)*(k:Int))<=8796093022208:=by rw[a0,←Int.natCast_mul];exact Int.ofNat_le.2 av
      have h1: ¬((k:Int)<0):=by omega
      have h2: ¬((i.bytes:Int)*(k:Int)>2^48):=by
       have:(2:Int)^48=281474976710656:=by decide
       omega
      have h3: ¬((n:Int)<0):=by omega
      have h4: ¬((n:Int)>(k:Int)):=by omega
      simp only[decide_eq_false h1,decide_eq_false h2,decide_eq_false h3,decide_eq_false h4,Bool.or_self]
     simp only[Instr.makeSlice,Sem.run_bind,ae w hu,Result.andThen_ok,asInt,asIntOf,Sem.run_pure,dY w hi,a6,a5];rw[if_neg (by rw[aw];exact Bool.false_ne_true)];simp only[Sem.run_bind,run_askRoom,Result.andThen_ok,aW w hs,a1K];by_cases Z:k*sz=0
     ·have a1:cw k z=[]:=a0t (by rw[d4,V];exact Z);have A: ∀g:Nat->Value,(Array.range (k*sz)).map g=⟨cw k z⟩:=fun g=>by rw[Z,a1];simp
      rw[if_pos Z];simp only[Sem.run_bind,Sem.run_pure,Result.andThen_ok,A,U]
     have A:=zeros_eq ⟨z⟩ k;simp only[show(Array.mk z).size=sz from V]at A;rw[if_neg Z];simp only[Sem.run_bind,cZ w hi a4,Sem.run_pure,Result.andThen_ok,a3,show(Array.mk z).size=sz from V,A,U]
    have:=VRel.sliceC (μ:=μ.set H.next l) H.next 0 n k l (Emb.set_same _ _ _) h3
    rw[h1,h2]at this;exact this
  cases E
 cases E
end
end Go.R
namespace Go.R
section
variable {P:Program} {μ:Emb} {H H':Heap} {w:World}
theorem jY{n k l r:Nat}{lo hi:Option Value}(h:bnds n k lo hi=some (l,r)):
  bY n hi=some r/\bY 0 lo=some l/\l<=r/\r<=k:=by
 unfold bnds at h
 split at h
 ·rename_i A N;split at h
  ·rename_i l' E;cases z:(Nat.ble l' A&&Nat.ble A k) with
   |false=>rw[z]at h;cases h
   |true=>
    rw[z]at h;simp only[cond_true,a00,a03]at h
    obtain⟨rfl,rfl⟩:=h
    simp only[a0e]at z
    exact⟨N,E,a06 z.1,a06 z.2⟩
  cases h
 cases h
theorem dC{v v':Value}{n y:Nat}(h:iZ v=some n)(A:VRel μ v v')(E:n<=y)(z:BoundsCode):(Instr.sliceBound v' y z).run P w= .ok n w:=by
 obtain⟨k,rfl⟩:=eN h A;have:(0:Int)<=(n:Int)/\(n:Int)<=(y:Int):=by omega
 simp[Instr.sliceBound,asIntOf,this.2]
theorem dz{isSlice:Bool}{n k U l r:Nat}{lo hi V A:Option Value}(hb:bnds n k lo hi=some (l,r))(hk:k<=U)
  (ad: ∀v,lo=some v->∃v',V=some v'/\VRel μ v v') (E:lo=none->V=none)
  (al: ∀v,hi=some v->∃v',A=some v'/\VRel μ v v') (ag:hi=none->A=none):
  (Instr.sliceBounds isSlice n U V A none).run P w= .ok (l,r,U) w:=by
 obtain⟨Z,z,h3,h4⟩:=jY hb
 unfold Instr.sliceBounds
 cases hi with
 |none=>
  rw[ag rfl]
  simp only[bY,a00]at Z;subst Z
  cases lo with
  |none=>
   rw[E rfl]
   simp only[bY,a00]at z;subst z
   simp
  |some u=>
   obtain⟨u',N,T⟩:=ad u rfl
   rw[N]
   simp only[Sem.run_bind,Sem.run_pure,Result.andThen_ok,dC (P:=P) (w:=w) z T h3]
 |some v=>
  obtain⟨v',ao,hr⟩:=al v rfl
  rw[ao]
  cases lo with
  |none=>
   rw[E rfl]
   simp only[bY,a00]at z;subst z
   simp only[Sem.run_bind,Sem.run_pure,Result.andThen_ok,dC (P:=P) (w:=w) Z hr (by omega:r<=U)]
  |some u=>
   obtain⟨u',N,T⟩:=ad u rfl
   rw[N]
   simp only[Sem.run_bind,Sem.run_pure,Result.andThen_ok,dC (P:=P) (w:=w) Z hr (by omega:r<=U),dC (P:=P) (w:=w) z T h3]
theorem dy(s:ByteArray)(l r:Nat):s.extract l r=⟨⟨(s.data.toList.drop l).take (r-l)⟩⟩:=by apply ByteArray.ext;apply Array.ext';simp
theorem jA{t:TypeId}{x x':Value}{lo hi mx ax aw a0:Option Value}{r:AN}(h:WRel μ H w)(hx:VRel μ x x')
  (ai: ∀v,lo=some v->∃v',ax=some v'/\VRel μ v v') (V:lo=none->ax=none)
  (ag: ∀v,hi=some v->∃v',aw=some v'/\VRel μ v v') (U:hi=none->aw=none) (a6:mx=none->a0=none)
  (ho:ovl (bx P t x lo hi mx H) H=some (r,H')): ∃v v',r= .val v/\H'=H/\(Instr.sliceAt t x' ax aw a0).run P w= .ok v' w/\VRel μ v v':=by
 obtain⟨rfl,v,z,rfl⟩:=cd ho
 unfold bx at z
 split at z
 ·cases z
 rw[a6 rfl]
 simp only at z
 split at z
 ·rename_i s hu;obtain rfl:=hx.string_inv;split at z
  ·rename_i l r Z;injection z with z;subst z;rw[bS]at Z;have a7:s.data.toList.length=s.size:=by simp
   rw[a7]at Z;refine⟨_,.string (s.extract l r),rfl,rfl,?_,?_⟩
   ·simp[Instr.sliceAt,Instr.slice,ae w hu,dz (P:=P) (w:=w) (isSlice:=false) Z (a0a _) ai V ag U]
   rw[dy,ca,cn];exact .atom _ rfl
  cases z
 ·rename_i e hu;obtain rfl:=hx.eq0 rfl;split at z
  ·rename_i lr Z;obtain⟨l,r⟩:=lr;cases hs:dp P e with
   |none=>rw[hs]at z;cases z
   |some sz=>
    rw[hs]at z
    simp only[Option.isSome_some,cond_true,a00]at z;subst z
    obtain⟨_,_,h3,h4⟩:=jY Z
    obtain rfl:r=0:=by omega
    obtain rfl:l=0:=by omega
    refine⟨_,.slice none 0 0,rfl,rfl,?_,.atom _ rfl⟩
    simp[Instr.sliceAt,Instr.slice,ae w hu,dz (P:=P) (w:=w) (isSlice:=true) Z (a0a _) ai V ag U,aW w hs]
  cases z
 ·rename_i e b o n k hu;split at z
  ·rename_i l r sz cs a9 ro Z hs hg;obtain⟨A,hμ,hc⟩:=hx.slice_inv;have T:A.opn=a9:=by
    have:=h.obj b A _ hμ hg;cases ro
    ·exact this.1
    exact this.1
   obtain⟨_,_,h3,h4⟩:=jY Z;split at z
   ·injection z with z;subst z;rcases hc with⟨N,rfl⟩|⟨e',o',k',N,rfl,_⟩|⟨rfl,rfl,a',rfl⟩
    rotate_right
    ·obtain rfl:r=0:=by omega
     obtain rfl:l=0:=by omega
     refine⟨_,.slice (some (if 0=0 then a' else a'.add (0*sz))) (0-0) (0-0),rfl,rfl,?_,?_⟩
     ·simp only[Instr.sliceAt,Instr.slice,Sem.run_bind,ae w hu,Result.andThen_ok,dz (P:=P) (w:=w) (isSlice:=true) Z (a0a _) ai V ag U,aW w hs,Sem.run_pure];split<;>rfl
     exact .sliceZ b o a' A hμ
    ·refine⟨_,.slice (some (if k=l then⟨A.c,A.sh+o,none⟩ else Addr.add ⟨A.c,A.sh+o,none⟩ (l*sz))) (r-l) (k-l),rfl,rfl,?_,?_⟩
     ·simp only[Instr.sliceAt,Instr.slice,Sem.run_bind,ae w hu,Result.andThen_ok,dz (P:=P) (w:=w) (isSlice:=true) Z (a0a _) ai V ag U,aW w hs,Sem.run_pure];split<;>rfl
     by_cases E:k=l
     ·rw[if_pos E];have:Nat.beq k l=true:=by rw[E];exact a0Z l
      rw[this];exact .sliceC b o _ _ A hμ N
     rw[if_neg E];have:Nat.beq k l=false:=by
      cases hq:Nat.beq k l with
      |false=>rfl
      |true=>exact absurd (a09 hq) E
     rw[this,cJ,a1t];exact .sliceC b (o+l*sz) _ _ A hμ N
    rw[T]at N;cases N
   rename_i ez;cases hq:Nat.beq ez sz with
   |false=>rw[hq]at z;cases z
   |true=>
    rw[hq]at z
    simp only[cond_true,a00]at z;subst z
    have a4:ez=sz:=a09 hq
    rcases hc with⟨N,rfl⟩|⟨e',o',k',N,rfl,b3,a5,a2,b2⟩|⟨rfl,rfl,a',rfl⟩
    rotate_right
    ·obtain rfl:r=0:=by omega
     obtain rfl:l=0:=by omega
     refine⟨_,.slice (some (if 0=0 then a' else a'.add (0*sz))) (0-0) (0-0),rfl,rfl,?_,?_⟩
     ·simp only[Instr.sliceAt,Instr.slice,Sem.run_bind,ae w hu,Result.andThen_ok,dz (P:=P) (w:=w) (isSlice:=true) Z (a0a _) ai V ag U,aW w hs,Sem.run_pure];split<;>rfl
     exact .sliceZ b _ a' A hμ
    ·rw[T]at N;cases N
    rw[T]at N;injection N with N
    subst N a4
    refine⟨_,.slice (some (if k'=l then⟨A.c,o',none⟩ else Addr.add ⟨A.c,o',none⟩ (l*ez))) (r-l) (k'-l),rfl,rfl,?_,?_⟩
    ·simp only[Instr.sliceAt,Instr.slice,Sem.run_bind,ae w hu,Result.andThen_ok,dz (P:=P) (w:=w) (isSlice:=true) Z a5 ai V ag U,aW w hs,Sem.run_pure];split<;>rfl
    by_cases E:k'=l
    ·rw[if_pos E];refine .sliceO b (o+l*ez) o' _ _ _ ez A hμ T (by omega) (by omega) (by omega) ?_;rw[E,a1T,Nat.zero_mul];omega
    rw[if_neg E,cJ]
    refine .sliceO b (o+l*ez) (o'+l*ez) _ _ _ ez A hμ T (by omega) (by omega) (fun b0=>?_) ?_
    ·rw[a2 (by omega)];omega
    have:l*ez+(k'-l)*ez=k'*ez:=by rw[←a10];congr 1;omega
    omega
  cases z
 ·rename_i n e b o hu;split at z
  ·rename_i l r sz cs ro Z hs hg;obtain⟨A,hμ,rfl⟩:=hx.ptr_inv;have T:A.opn=none:=by
    have:=h.obj b A _ hμ hg;cases ro
    ·exact this.1
    exact this.1
   injection z with z;subst z;refine⟨_,.slice (some (if n=l then⟨A.c,A.sh+o,none⟩ else Addr.add ⟨A.c,A.sh+o,none⟩ (l*sz))) (r-l) (n-l),rfl,rfl,?_,?_⟩
   ·simp only[Instr.sliceAt,Sem.run_bind,ae w hu,Result.andThen_ok,Instr.sureAddr,Sem.run_pure,dz (P:=P) (w:=w) (isSlice:=false) Z (a0a _) ai V ag U,aW w hs]
   by_cases E:n=l
   ·rw[if_pos E];have:Nat.beq n l=true:=by rw[E];exact a0Z l
    rw[this];exact .sliceC b o _ _ A hμ T
   rw[if_neg E];have:Nat.beq n l=false:=by
    cases hq:Nat.beq n l with
    |false=>rfl
    |true=>exact absurd (a09 hq) E
   rw[this,cJ,a1t];exact .sliceC b (o+l*sz) _ _ A hμ T
  cases z
 cases z
theorem slice_sound{t:TypeId}{x x':Value}{lo hi mx A z E:Option Value}{r:AN}(h:WRel μ H w)(hx:VRel μ x x')
  (Z: ∀v,lo=some v->∃v',A=some v'/\VRel μ v v') (T:lo=none->A=none)
  (V: ∀v,hi=some v->∃v',z=some v'/\VRel μ v v') (N:hi=none->z=none) (ad:mx=none->E=none)
  (ho:ovl (bx P t x lo hi mx H) H=some (r,H')):OpOK P μ H w (do Pure.pure (.value (←Instr.sliceAt t x' A z E))) r H':=by
 obtain⟨v,v',rfl,rfl,U,hr⟩:=jA (P:=P) h hx Z T V N ad ho
 exact OpOK.value U (Post.refl h) hr
theorem lenA_run{x A:Value}{m:Nat}(h:lenA x=some m)(z:VRel μ x A):(Builtin.lenOf A).run P w= .ok m w:=by
 unfold lenA at h;split at h
 ·injection h with h;subst h;rename_i a n k;obtain⟨E,N,rfl,_⟩:=cR z;rfl
 ·rename_i s;injection h with h;subst h;obtain rfl:=z.string_inv;rw[bS];simp[Builtin.lenOf]
 cases h
theorem dI{x x':Value}{sz m:Nat}{vs:List Value}(h:WRel μ H w)(V:VRel μ x x')(hl: ∃m0,lenA x=some m0/\m<=m0)(z:eL H sz m x=some vs):
  ∃N,(Builtin.firstCells sz m x').run P w= .ok ⟨N⟩ w/\LRel μ vs N/\vs.length=m*sz:=by
 unfold eL at z
 split at z
 ·rename_i a n k;obtain⟨b,o,sp⟩:=a;have ar:sp=none:=V.slice_some.1;subst ar;cases A:Nat.beq m 0 with
  |true=>
   rw[A]at z
   simp only[cond_true,a00]at z;subst z
   have Z:m=0:=a09 A
   subst Z
   obtain⟨_,a',k',rfl⟩:=V.slice_some
   exact⟨[],by simp[Builtin.firstCells,loadCells,loadCellsFrom],.nil,by simp⟩
  |false=>
   rw[A]at z
   simp only[cond_false]at z
   have Z:m≠0:=fun e=>by subst e;cases A
   obtain⟨m0,E,ag⟩:=hl
   simp only[lenA,a00]at E;subst E
   obtain⟨l,hμ,hc⟩:=V.slice_inv
   obtain⟨N,U,hr,T⟩:=gw (P:=P) h hμ z
   rcases hc with⟨_,rfl⟩|⟨e',o',k',_,rfl,a1,_,ai,_⟩|⟨hz,_,_⟩
   rotate_right
   ·omega
   ·exact⟨N,by simp only[Builtin.firstCells,U],hr,T⟩
   rw[ai (by omega)]
   exact⟨N,by simp only[Builtin.firstCells,U],hr,T⟩
 ·rename_i n k;cases A:Nat.beq m 0 with
  |false=>rw[A]at z;cases z
  |true=>
   rw[A]at z
   simp only[cond_true,a00]at z;subst z
   have Z:m=0:=a09 A
   subst Z
   obtain⟨_,_,rfl⟩:=V.sliceNil_inv
   exact⟨[],by simp[Builtin.firstCells],.nil,by simp⟩
 ·rename_i s;cases A:Nat.beq sz 1 with
  |false=>rw[A]at z;cases z
  |true=>
   rw[A]at z
   simp only[cond_true,a00,jL,ca]at z;subst z
   have hs:sz=1:=a09 A
   subst hs
   obtain rfl:=V.string_inv
   obtain⟨m0,E,ag⟩:=hl
   simp only[lenA,bS,a00]at E;subst E
   refine⟨(s.data.toList.take m).map fun b=> .int .u8 b.toNat,?_,LRel.refl0 ?_,?_⟩
   ·simp only[Builtin.firstCells,Sem.run_pure,dy];congr 1;apply Array.ext';simp
   ·rw[a0y];intro u hu;obtain⟨c,_,rfl⟩:=a0s.1 hu;rfl
   simp at ag⊢;omega
 cases z
theorem growBy_le(z:Nat): ∀(r c:Nat),c<=z+(z+768)/4->Builtin.growBy z r c<=z+(z+768)/4
 |0,c,h=>h
 |r+1,c,h=>by
  simp only[Builtin.growBy];split
  ·exact h
  exact growBy_le z r _ (by omega)
theorem nextcap_le{n k:Nat}(h:k<n):Builtin.nextslicecap n k<=2*n+768:=by
 unfold Builtin.nextslicecap;split
 ·omega
 split
 ·omega
 have:=growBy_le n 4 k (by omega);omega
theorem cW{z:Array Value}{sz:Nat}(h:z.size=sz)(n:Nat):(Builtin.zeroCells z n).toList.length=n*sz:=by simp[Builtin.zeroCells,h]
theorem gR{st E ty e:TypeId}{N:TypeDesc}{A:Value}{base:Option Addr}{n m k sz:Nat}{i:TypeInfo}{z:Value}{old T:List Value}
  (hu:P.underlying st=some (.slice e)) (ar:P.underlying E=some N) (an: ∀kk,N≠ .int kk) (hi:P.info? e=some i) (hs:i.size=sz) (hz:i.zero=some z)
  (U:(Builtin.lenOf A).run P w= .ok m w) (al:k<n+m) (a0:n+m<=2147483648) (ai:i.bytes<=4096)
  (ad:(Builtin.firstCells sz n (.slice base n k)).run P w.drew= .ok ⟨old⟩ w.drew) (V:(Builtin.firstCells sz m A).run P w.drew= .ok ⟨T⟩ w.drew):
  ∃nc,n+m<=nc/\(Builtin.append_ #[st,E] ty #[.slice base n k,A]).run P w=
   .ok (.slice (some ⟨w.heap.size,0,none⟩) (n+m) nc) (w.drew.alloc (.cells (⟨old⟩++⟨T⟩++Builtin.zeroCells z.cells (nc-(n+m))) e)):=by
 have ao:dp P e=some sz:=by unfold dp;rw[hi,←hs]
 have av:=nextcap_le al
 have Z: ¬(Builtin.nextslicecap (n+m) k*i.bytes>2^48):=by
  have:Builtin.nextslicecap (n+m) k*i.bytes<=(2*2147483648+768)*4096:=Nat.mul_le_mul (by omega) ai;have a1:(2:Nat)^48=281474976710656:=by decide
  omega
 have ag: ¬(((n+m:Nat):Int)>IntKind.i64.max/\(False\/i.bytes=0)):=by rw[IntKind.max_i64];omega
 refine⟨(Question.appendCap (n+m) k e).cut (w.tape w.drawn (.appendCap (n+m) k e)),by simp[Question.cut],?_⟩
 have a2:(match N with| .int _=>true|_=>false)=false:=by cases N<;>first|rfl|exact absurd rfl (an _)
 have e1: ∀a b:Value,(#[a,b]:Array Value)[0]?=some a/\(#[a,b]:Array Value)[1]?=some b:=fun a b=>⟨rfl,rfl⟩
 unfold Builtin.append_
 simp only[show(#[st,E]:Array TypeId)[0]?=some st from rfl,show(#[st,E]:Array TypeId)[1]?=some E from rfl,
  show(#[Value.slice base n k,A]:Array Value)[0]?=some (Value.slice base n k) from rfl,show(#[Value.slice base n k,A]:Array Value)[1]?=some A from rfl,
  Sem.run_bind,ae w hu,ae w ar,Result.andThen_ok,aW w ao,Sem.run_pure,a0K,if_false,U,
  show ¬(n+m<=k) by omega,dY w hi,Z,ag]
 simp only[Sem.run_bind,run_choose,Question.forced,a0K,if_false,Result.andThen_ok,World.drew_eq,dY w.drew hi,run_askRoom,ad,V,a1D,if_true,
  cZ w.drew hi hz,newRow,run_newObj,Sem.run_pure]
 rfl
theorem e8{st A ty e:TypeId}{E:TypeDesc}{z:Value}{base:Option Addr}{n m k sz:Nat}{N:List Value}{w':World}
  (hu:P.underlying st=some (.slice e)) (ai:P.underlying A=some E) (Z: ∀kk,E≠ .int kk) (hs:dp P e=some sz)
  (T:(Builtin.lenOf z).run P w= .ok m w) (V:n+m<=k) (U:(Builtin.firstCells sz m z).run P w= .ok ⟨N⟩ w)
  (ag: ∀a,base=some a->(storeCells (a.add (n*sz)) N).run P w= .ok () w') (ad:base=none->w'=w):
  (Builtin.append_ #[st,A] ty #[.slice base n k,z]).run P w= .ok (.slice base (n+m) k) w':=by
 have ao:(match E with| .int _=>true|_=>false)=false:=by cases E<;>first|rfl|exact absurd rfl (Z _)
 unfold Builtin.append_
 simp only[show(#[st,A]:Array TypeId)[0]?=some st from rfl,show(#[st,A]:Array TypeId)[1]?=some A from rfl,
  show(#[Value.slice base n k,z]:Array Value)[0]?=some (Value.slice base n k) from rfl,show(#[Value.slice base n k,z]:Array Value)[1]?=some z from rfl,
  Sem.run_bind,ae w hu,ae w ai,Result.andThen_ok,aW w hs,Sem.run_pure,a0K,if_false,T,V,if_true,a1D,U]
 cases base with
 |none=>rw[ad rfl];rfl
 |some a=>simp only[Sem.run_bind,ag a rfl,Result.andThen_ok,Sem.run_pure]
theorem Post.kill(h:WRel μ H w){b:Nat}{l:Loc}{o:AObj}(hb:μ b=some l)(ho:H.get b=some o)(hr:o.rw=true):Post μ H w μ (H.put b .dead) w:=by
 refine⟨fun _ _ h=>h,fun _ _ h=> .inl h,a0a _,rfl,rfl,rfl,fun _ _ _=>rfl,fun k x U E z ax=>?_,⟨fun k x U E z=>?_,fun V Z l1 l2 T o2 an ag ai ao ar aw N=>?_⟩⟩
 ·by_cases e:b=k
  ·subst e;exact .inr ⟨b,l,o,hb,ho,gi hr,fun _=>hr,by rw[hb]at E;injection E with E;rw[E]⟩
  rw[Heap.get_put_ne H _ e]at z;exact .inr ⟨k,x,U,E,z,ax,id,rfl⟩
 ·by_cases e:b=k
  ·subst e;rw[Heap.get_put_same]at z;injection z with z;subst z;trivial
  rw[Heap.get_put_ne H _ e]at z;exact h.obj k x U E z
 have old: ∀k ok,ok.live=true->(H.put b .dead).get k=some ok->H.get k=some ok:=by
  intro k ok al A;by_cases e:b=k
  ·subst e;rw[Heap.get_put_same]at A;injection A with A;subst A;simp[AObj.live]at al
  rw[Heap.get_put_ne H _ e]at A;exact A
 exact h.inj V Z l1 l2 T o2 an ag ai (old V T (by cases T<;>simp_all[AObj.rw,AObj.live]) ao) (old Z o2 N ar) aw N
theorem szOf_info{e:TypeId}{s:Nat}(h:dp P e=some s): ∃i,P.info? e=some i/\i.size=s:=by
 unfold dp at h;split at h
 ·rename_i i hi;injection h with h;exact⟨i,hi,h⟩
 cases h
theorem dJ(a b:List Value)(c:Array Value):(⟨a⟩++⟨b⟩++c:Array Value)=⟨(a++b)++c.toList⟩:=by apply Array.ext';simp
theorem append_sound{types:Array TypeId}{ty:TypeId}{s x s' x' v:Value}(h:WRel μ H w)(hf: ∀b,H.next<=b->b<H'.next->μ b=none)
  (hs:VRel μ s s') (hx:VRel μ x x') (dt:types.size=2) (A:fg P types s x H=some (v,H')):
  ∃v' w' μ',(Builtin.append_ types ty #[s',x']).run P w= .ok v' w'/\Post μ H w μ' H' w'/\VRel μ' v v':=by
 obtain⟨tl⟩:=types
 match tl,dt with
 | [st,xt],_=>
 unfold fg at A
 simp only[show(#[st,xt]:Array TypeId)[0]?=some st from rfl,show(#[st,xt]:Array TypeId)[1]?=some xt from rfl]at A
 split at A
 ·rename_i e xd hu an;split at A
  ·cases A
  rename_i al;split at A
  ·rename_i sz e1 z m a4 f7 hz hm;obtain⟨i,vz,hi,b5,e9,g8⟩:=d8 (P:=P) hz;obtain⟨i2,c3,hy⟩:=iO f7;rw[hi]at c3;injection c3 with c3;subst c3;obtain⟨i3,c4,b3⟩:=szOf_info a4;rw[hi]at c4;injection c4 with c4;subst c4;have V:(Builtin.lenOf x').run P w= .ok m w:=lenA_run hm hx;split at A
   ·cases A
   rename_i b7 dn;obtain⟨N,ai,av,ad⟩:=dI (P:=P) h hx ⟨m,hm,a0a _⟩ dn;obtain⟨hd,ar,ao,_⟩:=dI (P:=P) h.drew hx ⟨m,hm,a0a _⟩ dn;split at A
   ·--nil
    obtain rfl:=hs.eq0 rfl;cases hq:Nat.beq m 0 with
    |true=>
     rw[hq]at A
     simp only[cond_true,a00,a03]at A
     obtain⟨rfl,rfl⟩:=A
     have b2:m=0:=a09 hq
     subst b2
     exact⟨_,w,μ,e8 (w':=w) hu an (fun Z=>al Z) a4 V (a0a _) ai (fun a ha=>by cases ha) (fun _=>rfl),Post.refl h,.atom _ rfl⟩
    |false=>
     rw[hq]at A
     simp only[cond_false]at A
     have b2:m≠0:=fun e=>by subst e;cases hq
     cases a3:(Nat.beq (hO z) sz&&Nat.ble m 2147483648&&Nat.ble e1 4096&& !Nat.beq sz 0) with
     |false=>rw[a3]at A;cases A
     |true=>
      rw[a3]at A
      simp only[cond_true,a00,a03]at A
      obtain⟨rfl,rfl⟩:=A
      simp only[a0e,a0I]at a3
      obtain⟨⟨⟨q1,q2⟩,q3⟩,q4⟩:=a3
      have q1:z.length=sz:=by rw[←bS];exact a09 q1
      have q2:=a06 q2
      have q3:=a06 q3
      obtain⟨nc,ay,E⟩:=gR (P:=P) (w:=w) (ty:=ty) (base:=none) (n:=0) (k:=0) (old:=[]) hu an (fun Z=>al Z) hi b3 b5 V (by omega) (by omega) (by omega) (by simp[Builtin.firstCells]) ar
      simp only[a1u]at E ay
      rw[dJ,a11]at E
      obtain⟨l,h1,h2,h3,h4,_,hp⟩:=cQ (P:=P) h.drew (hf H.next (a0a _) (by simp[aP])) e ao (Builtin.zeroCells vz.cells (nc-m)).toList (some sz) (fun e=>by cases e)
      refine⟨_,_,_,E,(Post.drew h).trans hp (a0a _) (by simp[aP]),?_⟩
      have:=VRel.sliceO (μ:=μ.set H.next l) H.next 0 0 m m nc sz l (Emb.set_same _ _ _) h3 (a0a _) ay (fun _=>by omega) (by
       rw[h4,cW (show vz.cells.size=sz by rw[←q1,←e9];simp),ad,a1u,←a10];exact a0A _ (by omega))
      rw[h1]at this;exact this
   ·--a slice
    rename_i b o n k;obtain⟨l,hμ,hc⟩:=hs.slice_inv;split at A
    ·rename_i cs g1 ro hg;have ch:l.opn=g1:=by
      have:=h.obj b l _ hμ hg;cases ro
      ·exact this.1
      exact this.1
     cases hq:Nat.ble (n+m) k with
     |true=>
      rw[hq]at A
      simp only[cond_true]at A
      have c5:n+m<=k:=a06 hq
      cases c7:Nat.beq m 0 with
      |true=>
       rw[c7]at A
       simp only[cond_true,a00,a03]at A
       obtain⟨rfl,rfl⟩:=A
       have b2:m=0:=a09 c7
       subst b2
       have f9:N=[]:=a0t (by rw[←av.1,ad];simp)
       subst f9
       rcases hc with⟨U,rfl⟩|⟨e',o',k',U,rfl,e6,dl,a7,c0⟩|⟨rfl,rfl,a',rfl⟩
       rotate_right
       ·exact⟨_,w,μ,e8 (w':=w) hu an (fun Z=>al Z) a4 V c5 ai (fun a ha=>rfl) (fun e=>by cases e),Post.refl h,hs⟩
       ·exact⟨_,w,μ,e8 (w':=w) hu an (fun Z=>al Z) a4 V c5 ai (fun a ha=>rfl) (fun e=>by cases e),Post.refl h,hs⟩
       exact⟨_,w,μ,e8 (w':=w) hu an (fun Z=>al Z) a4 V (by omega) ai (fun a ha=>rfl) (fun e=>by cases e),Post.refl h,hs⟩
      |false=>
       rw[c7]at A
       simp only[cond_false]at A
       have b2:m≠0:=fun e=>by subst e;cases c7
       split at A
       ·rename_i h1 gs;simp only[a00,a03]at A;obtain⟨rfl,rfl⟩:=A;obtain⟨w',E,hp⟩:=fu (P:=P) h hμ gs av;rcases hc with⟨U,rfl⟩|⟨e',o',k',U,rfl,e6,dl,a7,c0⟩|⟨rfl,rfl,a',rfl⟩
        rotate_right
        ·omega
        ·refine⟨_,w',μ,e8 (w':=w') hu an (fun Z=>al Z) a4 V c5 ai (fun a ha=>?_) (fun e=>by cases e),hp,.sliceC b o _ _ l hμ U⟩;injection ha with ha;subst ha;rw[cJ,a1t];exact E
        refine⟨_,w',μ,e8 (w':=w') hu an (fun Z=>al Z) a4 V (by omega) ai (fun a ha=>?_) (fun e=>by cases e),hp,.sliceO b o o' _ _ _ e' l hμ U c5 dl a7 c0⟩;injection ha with ha;subst ha;rw[cJ,a7 (by omega),a1t];exact E
       cases A
     |false=>
      rw[hq]at A
      simp only[cond_false]at A
      have e5:k<n+m:=by
       rcases a0k k (n+m) with h'|h'
       ·exact h'
       rw[a0w h']at hq;cases hq
      cases a3:(Nat.beq (hO z) sz&&Nat.ble (n+m) 2147483648&&Nat.ble e1 4096&& !Nat.beq sz 0&&Nat.ble n k) with
      |false=>rw[a3]at A;cases A
      |true=>
       rw[a3]at A
       simp only[cond_true]at A
       simp only[a0e,a0I]at a3
       obtain⟨⟨⟨⟨q1,q2⟩,q3⟩,q4⟩,q5⟩:=a3
       have q1:z.length=sz:=by rw[←bS];exact a09 q1
       have q2:=a06 q2
       have q3:=a06 q3
       have q5:=a06 q5
       have hC:sz≠0:=fun e=>by rw[e]at q4;cases q4
       have b0:vz.cells.size=sz:=by rw[←q1,←e9];simp
       split at A
       ·cases A
       rename_i old ag
       obtain⟨he,g7,g6,aw⟩:=dI (P:=P) h hs ⟨n,rfl,a0a _⟩ ag
       obtain⟨hl,a2,a1,_⟩:=dI (P:=P) h.drew hs ⟨n,rfl,a0a _⟩ ag
       split at A
       ·--exact
        simp only[a00,a03]at A;obtain⟨rfl,rfl⟩:=A;rcases hc with⟨U,rfl⟩|⟨e',o',k',U,rfl,_⟩|⟨rfl,rfl,a',rfl⟩
        rotate_right
        ·obtain⟨nc,ay,E⟩:=gR (P:=P) (w:=w) (ty:=ty) hu an (fun Z=>al Z) hi b3 b5 V e5 q2 (by omega) a2 ar;rw[dJ]at E;obtain⟨l',h1,h2,h3,h4,_,hp⟩:=cQ (P:=P) h.drew (hf H.next (a0a _) (by simp[aP])) e (a1.append ao) (Builtin.zeroCells vz.cells (nc-(0+m))).toList (some sz) (fun e=>by cases e);rw[dA];refine⟨_,_,_,E,(Post.drew h).trans hp (a0a _) (by simp[aP]),?_⟩;have:=VRel.sliceO (μ:=μ.set H.next l') H.next 0 0 (0+m) (0+m) nc sz l' (Emb.set_same _ _ _) h3 (a0a _) ay (fun _=>by omega) (by
          rw[h4,cW b0,a04,aw,ad,a1u,←a10,←a10];exact a0A _ (by omega))
         rw[h1]at this;exact this
        ·obtain⟨nc,ay,E⟩:=gR (P:=P) (w:=w) (ty:=ty) hu an (fun Z=>al Z) hi b3 b5 V e5 q2 (by omega) a2 ar;rw[dJ]at E;obtain⟨l',h1,h2,h3,h4,_,hp⟩:=cQ (P:=P) h.drew (hf H.next (a0a _) (by simp[aP])) e (a1.append ao) (Builtin.zeroCells vz.cells (nc-(n+m))).toList (some sz) (fun e=>by cases e);rw[dA];refine⟨_,_,_,E,(Post.drew h).trans hp (a0a _) (by simp[aP]),?_⟩;have:=VRel.sliceO (μ:=μ.set H.next l') H.next 0 0 (n+m) (n+m) nc sz l' (Emb.set_same _ _ _) h3 (a0a _) ay (fun _=>by omega) (by
          rw[h4,cW b0,a04,aw,ad,a1u,←a10,←a10];exact a0A _ (by omega))
         rw[h1]at this;exact this
        rw[ch]at U;cases U
       ·--open
        rename_i T;cases c8:(Nat.beq T sz&& !ro&&allL Value.oneCell' b7) with
        |false=>rw[c8]at A;cases A
        |true=>
         rw[c8]at A
         simp only[cond_true,a00,a03]at A
         obtain⟨rfl,rfl⟩:=A
         simp only[a0e,a0I]at c8
         obtain⟨⟨q6,q7⟩,q8⟩:=c8
         have q6:T=sz:=a09 q6
         subst q6 q7
         rcases hc with⟨U,rfl⟩|⟨e',o',k',U,rfl,e6,dl,a7,c0⟩|⟨rfl,rfl,a',rfl⟩
         rotate_right
         ·have bb:μ H.next=none:=hf H.next (a0a _) (by simp[aP]);obtain⟨nc,ay,E⟩:=gR (P:=P) (w:=w) (ty:=ty) hu an (fun Z=>al Z) hi b3 b5 V (by omega) q2 (by omega) a2 ar;rw[dJ]at E;have hk:=Post.kill h hμ hg rfl;obtain⟨l',h1,h2,h3,h4,_,hp⟩:=cQ (P:=P) (H:=H.put b .dead) hk.wrel.drew bb e (a1.append ao) (Builtin.zeroCells vz.cells (nc-(0+m))).toList (some T) (fun e=>by cases e);rw[dA];refine⟨_,_,_,E,(hk.trans (Post.drew hk.wrel) (a0a _) (a0a _)).trans hp (a0a _) (by simp[aP]),?_⟩;have:=VRel.sliceO (μ:=μ.set H.next l') H.next 0 0 (0+m) (0+m) nc T l' (Emb.set_same _ _ _) h3 (a0a _) ay (fun _=>by omega) (by
           rw[h4,cW b0,a04,aw,ad,a1u,←a10,←a10];exact a0A _ (by omega))
          rw[h1]at this;exact this
         ·rw[ch]at U;cases U
         rw[ch]at U;injection U with U;subst U
         have bb:μ H.next=none:=hf H.next (a0a _) (by simp[aP])
         by_cases dk:n+m<=k'
         ·--in place
          obtain⟨r1,a0,et,hh,r2,r3,r4⟩:=h.obj b l _ hμ hg;have c6:N.length=m*T:=by rw[←av.1];exact ad
          have hB:m≠0:=by omega
          have go:N≠ []:=fun e=>by rw[e]at c6;have:=Nat.mul_eq_zero.1 c6.symm;omega
          have ey:N.all Value.oneCell'=true:=by
           rw[a0y];intro u be;obtain⟨j,hj⟩:=List.getElem?_of_mem be;have e3:j<b7.length:=by rw[av.1];exact(a0v.1 hj).1
           have hr:=av.2 j b7[j] u (a05 e3) hj;rw[hr.oneCell];rw[lU]at q8;exact a0y.1 q8 _ (a1w e3)
          have b9:o'+n*T+N.length<=a0.size:=by rw[c6,r2];have:(n+m)*T<=k'*T:=a0A _ dk;rw[a10]at this;omega
          have b4:=da (P:=P) l.c et N w a0 (o'+n*T) 0 hh (by omega) ey go;simp only[a2g]at b4;have fi:(bp a0.toList (o'+n*T) N).length=a0.size:=by rw[bV _ _ _ (by simpa using b9)];simp
          have e0:=Post.take h hμ hg rfl bb ⟨l.c,o',some T,l.csz⟩ rfl (.cells (appL old b7) (some T) false) (.cells ⟨bp a0.toList (o'+n*T) N⟩ et (0,0)) (by
           refine⟨rfl,_,et,bF w _ (bT hh),by show(bp a0.toList (o'+n*T) N).length=_;rw[fi,r2],?_,fun j u hj=>?_⟩
           ·rw[dA,a04,aw,ad];show o'+_<=l.csz;rw[←r2];rw[c6]at b9;omega
           rw[dA]at hj;have mg: ∀v':Value,(bp a0.toList (o'+n*T) N)[o'+j]?=some v'->(Array.mk (bp a0.toList (o'+n*T) N))[o'+j]?=some v':=fun v' hv=>(jK _ _).trans hv
           rw[bA _ _ _ _ (by simpa using b9)]at mg;by_cases e4:j<n*T
           ·rw[a0S (by omega)]at hj;rw[if_neg (by omega)]at mg;have gb:n≠0:=fun e=>by subst e;simp at e4
            unfold eL at ag;have f6:Nat.beq n 0=false:=by
             cases f5:Nat.beq n 0 with
             |false=>rfl
             |true=>exact absurd (a09 f5) gb
            rw[f6]at ag;simp only[cond_false,Heap.loadN,hg,ca,cn,bS]at ag;cases e2:Nat.beq ((cs.drop o).take (n*T)).length (n*T) with
            |false=>rw[e2]at ag;cases ag
            |true=>
             rw[e2]at ag
             simp only[cond_true,a00]at ag
             rw[←ag,a0x,if_pos e4,a0H]at hj
             obtain⟨u',be,hr⟩:=r4 (o+j) u hj
             refine⟨u',mg u' ?_,hr.mono (Emb.set_ext _ bb)⟩
             have:o'+j=l.sh+(o+j):=by have:=a7 (by omega);omega
             rw[this];simpa using be
           rw[a17 (by omega),aw]at hj;obtain⟨u',be,hr⟩:=av.get hj;have hA:j-n*T<N.length:=(a0v.1 be).1;rw[if_pos (by omega)]at mg;exact⟨u',mg u' (by rw[←be];congr 1;omega),hr.mono (Emb.set_ext _ bb)⟩)
          refine⟨.slice (some ⟨l.c,o',none⟩) (n+m) k',_,_,e8 (w':=ba w l.c (.cells ⟨bp a0.toList (o'+n*T) N⟩ et (0,0))) hu an (fun Z=>al Z) a4 V dk ai (fun a ha=>?_) (fun e=>by cases e),e0,?_⟩
          ·injection ha with ha;subst ha;rw[cJ];exact b4
          exact VRel.sliceO (μ:=μ.set H.next ⟨l.c,o',some T,l.csz⟩) H.next 0 o' (n+m) (n+m) k' T ⟨l.c,o',some T,l.csz⟩ (Emb.set_same _ _ _) rfl (a0a _) dk (fun _=>rfl) c0
         ·--a b7 row
          obtain⟨nc,ay,E⟩:=gR (P:=P) (w:=w) (ty:=ty) hu an (fun Z=>al Z) hi b3 b5 V (by omega) q2 (by omega) a2 ar;rw[dJ]at E;have hk:=Post.kill h hμ hg rfl;obtain⟨l',h1,h2,h3,h4,_,hp⟩:=cQ (P:=P) (H:=H.put b .dead) hk.wrel.drew bb e (a1.append ao) (Builtin.zeroCells vz.cells (nc-(n+m))).toList (some T) (fun e=>by cases e);rw[dA];refine⟨_,_,_,E,(hk.trans (Post.drew hk.wrel) (a0a _) (a0a _)).trans hp (a0a _) (by simp[aP]),?_⟩;have:=VRel.sliceO (μ:=μ.set H.next l') H.next 0 0 (n+m) (n+m) nc T l' (Emb.set_same _ _ _) h3 (a0a _) ay (fun _=>by omega) (by
           rw[h4,cW b0,a04,aw,ad,a1u,←a10,←a10];exact a0A _ (by omega))
          rw[h1]at this;exact this
    cases A
   cases A
  cases A
 cases A
end
end Go.R
namespace Go.R
section
variable {P:Program} {μ:Emb} {H H':Heap} {w:World}
theorem copy_sound{types:Array TypeId}{ty:TypeId}{d s d' N v:Value}(h:WRel μ H w)(hd:VRel μ d d')(hs:VRel μ s N)(z:lY P types d s H=some (v,H')):
  ∃v' w',(Builtin.copy_ types ty #[d',N]).run P w= .ok v' w'/\Post μ H w μ H' w'/\VRel μ v v':=by
 unfold lY at z
 split at z
 ·rename_i dt al;split at z
  ·rename_i e base E dk m hu hm;split at z
   ·rename_i sz an;simp only at z;obtain⟨A,T,rfl,bk⟩:=cR hd;have Z:(Builtin.lenOf N).run P w= .ok m w:=lenA_run hm hs;cases hq:Nat.beq (Nat.min m E) 0 with
    |true=>
     rw[hq]at z
     simp only[cond_true,a00,a03]at z
     obtain⟨rfl,rfl⟩:=z
     have h0:Nat.min m E=0:=a09 hq
     refine⟨_,w,?_,Post.refl h,.atom (goInt 0) rfl⟩
     have a0:(Builtin.firstCells sz 0 N).run P w= .ok #[] w:=by
      unfold lenA at hm;split at hm
      ·rename_i a n k;obtain⟨a',k',rfl,_⟩:=cR hs;cases a'<;>simp[Builtin.firstCells,loadCells,loadCellsFrom]
      ·rename_i u;obtain rfl:=hs.string_inv;simp only[Builtin.firstCells,Sem.run_pure,dy];congr 1;simp
      cases hm
     unfold Builtin.copy_
     simp only[al,show(#[Value.slice A E T,N]:Array Value)[0]?=some (Value.slice A E T) from rfl,show(#[Value.slice A E T,N]:Array Value)[1]?=some N from rfl,
      Sem.run_bind,ae w hu,Result.andThen_ok,Z,aW w an,h0,a0]
     cases A<;>simp[storeCells]
    |false=>
     rw[hq]at z
     simp only[cond_false]at z
     split at z
     ·rename_i l a hl;split at z
      ·rename_i H1 a3;simp only[a00,a03]at z;obtain⟨rfl,rfl⟩:=z;obtain⟨b,o,sp⟩:=a;have a2:sp=none:=hd.slice_some.1;subst a2;obtain⟨b0,a1,ai,a5⟩:=dI (P:=P) h hs ⟨m,hm,Nat.min_le_left _ _⟩ hl;obtain⟨U,hμ,hc⟩:=hd.slice_inv;have h0:Nat.min m E≠0:=fun e=>by rw[e]at hq;cases hq
       have bl:0<E:=by
        rcases a1G E with e|e
        ·exfalso;apply h0;rw[e];exact Nat.min_zero _
        exact e
       obtain⟨w',aw,hp⟩:=fu (P:=P) h hμ a3 ai;have ay:A=some ⟨U.c,U.sh+o,none⟩:=by
        rcases hc with⟨_,V⟩|⟨e',o',k',_,V,bz,_,av,_⟩|⟨hz,_,_⟩
        rotate_right
        ·omega
        ·injection V with V
        injection V with V _ _;rw[V,av (by omega)]
       subst ay;refine⟨goInt (Nat.min m E:Nat),w',?_,hp,.atom _ rfl⟩;unfold Builtin.copy_;simp only[al,show(#[Value.slice (some ⟨U.c,U.sh+o,none⟩) E T,N]:Array Value)[0]?=some (Value.slice (some ⟨U.c,U.sh+o,none⟩) E T) from rfl,
        show(#[Value.slice (some ⟨U.c,U.sh+o,none⟩) E T,N]:Array Value)[1]?=some N from rfl,
        Sem.run_bind,ae w hu,Result.andThen_ok,Z,aW w an,a1,aw,Sem.run_pure]
      cases z
     cases z
   cases z
  cases z
 cases z
theorem len_sound{t ty:TypeId}{x V v:Value}(h:WRel μ H w)(N:VRel μ x V)(z:aLen P t x H=some v):
  (Builtin.len_ #[t] ty #[V]).run P w= .ok v w/\noA0 v=true:=by
 unfold aLen at z
 split at z
 ·rename_i e a n k A;injection z with z;subst z;obtain⟨a',k',rfl,_⟩:=cR N;exact⟨by simp[Builtin.len_,ae w A],rfl⟩
 ·rename_i s A;injection z with z;subst z;obtain rfl:=N.string_inv;exact⟨by simp[Builtin.len_,ae w A,bS],rfl⟩
 ·rename_i k e A;injection z with z;subst z;obtain rfl:=N.mapNil_inv;exact⟨by simp[Builtin.len_,ae w A],rfl⟩
 ·rename_i k e r A;split at z
  ·rename_i es Z;injection z with z;subst z;obtain⟨l,hμ,rfl⟩:=N.map_inv;obtain⟨U,E,hh,hl,_⟩:=h.obj r l _ hμ Z;have T:(getObj l.c).run P w= .ok (.map U E) w:=fS hh (by intros;simp);exact⟨by simp[Builtin.len_,ae w A,T,hl],rfl⟩
  cases z
 cases z
theorem fk: ∀(l:List Value) (r:List UInt8) (s:ByteArray),cx l=some r->
  (forIn (m:=Sem) l s (fun c s=>match c with
   | .int .u8 n=>Pure.pure (ForInStep.yield (s.push (UInt8.ofNat n.toNat)))
   |_=>do stuck "bytesToString: byte expected";Pure.pure (ForInStep.yield s))).run P w= .ok ⟨⟨s.data.toList++r⟩⟩ w
 | [],r,s,h=>by simp only[cx,a00]at h;subst h;simp
 |v::l,r,s,h=>by
  unfold cx at h;split at h
  ·rename_i z;cases z
  ·rename_i n T z;injection z with h1 h2;subst h1 h2;split at h
   ·rename_i N A;injection h with h;subst h;have E:=fk l N (s.push (UInt8.ofNat n.toNat)) A;simp only[List.forIn_cons,Sem.run_bind,Sem.run_pure,Result.andThen_ok,E];congr 3;simp
   cases h
  cases h
theorem er: ∀(l:List Value) (r:List UInt8),cx l=some r->l.all noA0=true
 | [],_,_=>rfl
 |v::l,r,h=>by
  unfold cx at h;split at h
  ·rename_i z;cases z
  ·rename_i n N z;injection z with h1 h2;subst h1 h2;split at h
   ·rename_i E A;simp only[a1k,noA0,a1x];exact er l E A
   cases h
  cases h
theorem lG{ρ ρ':Operand->Value}{o:Oper}{s d:TypeId}{x:Operand}{r:AN}(h:WRel μ H w)(ag:o.op= .convert s d x)(hρ: ∀x∈o.op.operands,VRel μ (ρ x) (ρ' x))
  (ho:fe P ρ o s d (ρ x) H=some (r,H')):OpOK P μ H w (execOp ρ' o) r H':=by
 have U:VRel μ (ρ x) (ρ' x):=hρ x (by rw[ag];simp[Op.operands])
 have V:execOp ρ' o=(do Pure.pure (.value (←convert s d (ρ' x)))):=by unfold execOp;simp only[ag]
 unfold fe at ho
 split at ho
 ·rename_i k n hv;rw[hv]at U;obtain⟨rfl,v,z,rfl⟩:=cd ho;unfold lH at z;split at z
  ·rename_i sd kd N E;injection z with z;subst z;rw[V];refine OpOK.value (v':= .int kd (kd.wrap n)) ?_ (Post.refl h) (.atom _ rfl);rw[U.int_inv];simp[convert,ae w N,ae w E,Conv.intToInt]
  cases z
 ·rename_i a n k hv;rw[hv]at U;obtain⟨rfl,v,z,rfl⟩:=cd ho;rw[V];unfold fF at z;split at z
  ·rename_i e N E;split at z
   ·rename_i ai;split at z
    ·injection z with z;subst z;obtain⟨_,_,A⟩:=U.sliceNil_inv;refine OpOK.value (v':= .string .empty) ?_ (Post.refl h) (.atom _ rfl);rw[A];simp[convert,ae w N,ae w E,ae w ai,Conv.bytesToString]
    rename_i a;obtain⟨b,o2,sp⟩:=a;have a2:sp=none:=U.slice_some.1;subst a2;cases hq:Nat.beq n 0 with
    |true=>
     rw[hq]at z
     simp only[cond_true,a00]at z;subst z
     have hn:n=0:=a09 hq
     subst hn
     obtain⟨_,a',k',A⟩:=U.slice_some
     refine OpOK.value (v':= .string .empty) ?_ (Post.refl h) (.atom _ rfl)
     rw[A]
     simp[convert,ae w N,ae w E,ae w ai,Conv.bytesToString,loadCells,loadCellsFrom]
    |false=>
     rw[hq]at z
     simp only[cond_false]at z
     have hn:n≠0:=fun e=>by subst e;cases hq
     split at z
     ·rename_i l hl;split at z
      ·rename_i rb ar;injection z with z;subst z;obtain⟨l0,hμ,hc⟩:=U.slice_inv;obtain⟨av,T,ay,a8⟩:=gw (P:=P) h hμ hl;have a3:av=l:=ay.eq0 (er l rb ar);subst a3;have A: ∃k',ρ' x= .slice (some ⟨l0.c,l0.sh+o2,none⟩) n k':=by
        rcases hc with⟨_,Z⟩|⟨e',o',k',_,Z,bz,_,ax,_⟩|⟨hz,_,_⟩
        rotate_right
        ·exact absurd hz hn
        ·exact⟨k,Z⟩
        rw[ax (by omega)]at Z;exact⟨k',Z⟩
       obtain⟨k',A⟩:=A;refine OpOK.value (v':= .string ⟨⟨rb⟩⟩) ?_ (Post.refl h) (.atom _ rfl);rw[A];have hb:=fk (P:=P) (w:=w) av rb .empty ar;simp only[convert,Sem.run_bind,ae w N,ae w E,ae w ai,Result.andThen_ok,Conv.bytesToString,T];have Z:((ByteArray.empty.data.toList++rb:List UInt8))=rb:=rfl;rw[Z]at hb;simp only[←Array.forIn_toList]at*
       exact congrArg (fun r=>Result.andThen r fun a w'=>Sem.run P (Pure.pure (Value.string a)) w') hb
      cases z
     cases z
   cases z
  cases z
 obtain⟨rfl,v,v',rfl,T,hr⟩:=df ho (fun _ _=>by rw[ag];simp) hρ
 exact⟨.value v',w,μ,T w,Post.refl h,hr⟩
theorem dH{d:TypeDesc}{k:Value}(h:bO d k=true):noA0 k=true:=by unfold bO at h;split at h<;>first|rfl|cases h
theorem g0(a b:ByteArray):(a==b)=dh a b:=by
 have e:(a==b)=(a.data==b.data):=by cases a;cases b;rfl
 rw[e,a0p];simp only[beq_iff_eq,dh];constructor
 ·intro h;rw[h]
 intro h;exact a1d.1 h
theorem bytesEq_iff{a b:ByteArray}(h:dh a b=true):a=b:=by simp only[dh,beq_iff_eq]at h;exact ByteArray.ext (a1d.1 h)
theorem gZ(a:ByteArray):(a==a)=true:=by rw[g0];simp[dh]
theorem sameNow_key{d:TypeDesc}{a b:Value}(A:bO d a=true)(z:bO d b=true):Instr.sameNow d a b=some (cL a b):=by
 unfold bO at A z;split at A
 ·split at z
  ·rename_i k k1 n _ _ k2 N E;injection E with e1;subst e1;simp only[beq_iff_eq]at A z;subst A z;simp[Instr.sameNow,cL]
  ·cases‹TypeDesc.int _=_›
  ·cases‹TypeDesc.int _=_›
  cases z
 ·split at z
  ·cases‹TypeDesc.string=_›
  ·simp[Instr.sameNow,cL,g0]
  ·cases‹TypeDesc.string=_›
  cases z
 ·split at z
  ·cases‹TypeDesc.bool=_›
  ·cases‹TypeDesc.bool=_›
  ·simp[Instr.sameNow,cL]
  cases z
 cases A
def EntRel(μ:Emb)(es:List (Value×Value))(z:List MapEntry):Prop:=
 es.length=z.length/\∀(i:Nat) x y,es[i]?=some x->z[i]?=some y->VRel μ x.1 y.key/\VRel μ x.2 y.val
theorem EntRel.cons_left{x:Value×Value}{es:List (Value×Value)}{z:List MapEntry}(h:EntRel μ (x::es) z):
  ∃y t,z=y::t/\VRel μ x.1 y.key/\VRel μ x.2 y.val/\EntRel μ es t:=by
 cases z with
 |nil=>have:=h.1;simp at this
 |cons y t=>
  obtain⟨A,E⟩:=h.2 0 x y rfl rfl
  exact⟨y,t,rfl,A,E,by have:=h.1;simpa using this,fun i a b N T=>h.2 (i+1) a b (by simpa using N) (by simpa using T)⟩
theorem EntRel.cons{x:Value×Value}{es:List (Value×Value)}{y:MapEntry}{z:List MapEntry}(N:VRel μ x.1 y.key)(T:VRel μ x.2 y.val)(h:EntRel μ es z):
  EntRel μ (x::es) (y::z):=by
 refine⟨by simp[h.1],fun i a b A E=>?_⟩
 cases i with
 |zero=>simp at A E;subst A E;exact⟨N,T⟩
 |succ i=>exact h.2 i a b (by simpa using A) (by simpa using E)
theorem gx{d:TypeDesc}{k:Value}(V:bO d k=true): ∀(es:List (Value×Value)) (ces:List MapEntry) (i:Nat),EntRel μ es ces->es.all (fun e=>bO d e.1)=true->
  (∃v v' j,ew d k es=some v/\Instr.findNow d k ces i=some (some (i+j,v'))/\VRel μ v v'/\j<ces.length/\
    (∃y,ces[j]?=some y/\cL k y.key=true/\bO d y.key=true)/\(∀u z,VRel μ u z->EntRel μ (fh k u es) (ces.modify j fun e=>{e with key:=k,val:=z})))\/
  (ew d k es=none/\Instr.findNow d k ces i=some none/\∀u z b,VRel μ u z->EntRel μ (fh k u es) (ces++[{key:=k,val:=z,born:=b}]))
 | [],ces,i,h,_=>by have:ces=[]:=a0t h.1.symm;subst this;refine .inr ⟨rfl,rfl,fun u z b A=>?_⟩;exact EntRel.cons (x:=(k,u)) (.atom k (dH V)) A ⟨rfl,fun i a b ha=>by simp at ha⟩
 |x::es,ces,i,h,hall=>by
  obtain⟨y,t,rfl,N,T,ht⟩:=h.cons_left;simp only[a1k,a0e]at hall;have U:y.key=x.1:=N.eq0 (dH hall.1);have E:Instr.sameNow d k y.key=some (cL k x.1):=by rw[U];exact sameNow_key V hall.1
  cases hs:cL k x.1 with
  |true=>
   refine .inl ⟨x.2,y.val,0,?_,?_,T,by simp,⟨y,rfl,by rw[U];exact hs,by rw[U];exact hall.1⟩,fun u z A=>?_⟩
   ·simp only[ew,hs,cond_true]
   ·simp only[Instr.findNow,E,hs];rfl
   simp only[fh,hs,cond_true,List.modify_zero_cons]
   exact EntRel.cons (x:=(k,u)) (.atom k (dH V)) A ht
  |false=>
   rcases gx V es t (i+1) ht hall.2 with⟨v,v',j,Z,h2,h3,h4,h5,h6⟩|⟨Z,h2,h3⟩
   ·refine .inl ⟨v,v',j+1,?_,?_,h3,by simpa using h4,?_,fun u z A=>?_⟩
    ·simp only[ew,hs,cond_false];exact Z
    ·simp only[Instr.findNow,E,hs];rw[h2];congr 3;omega
    ·obtain⟨y2,al,h7⟩:=h5;exact⟨y2,by simpa using al,h7⟩
    simp only[fh,hs,cond_false,List.modify_succ_cons];exact EntRel.cons (x:=(x.1,x.2)) N T (h6 u z A)
   refine .inr ⟨?_,?_,fun u z b A=>?_⟩
   ·simp only[ew,hs,cond_false];exact Z
   ·simp only[Instr.findNow,E,hs];exact h2
   simp only[fh,hs,cond_false,a0P]
   exact EntRel.cons (x:=(x.1,x.2)) N T (h3 u z b A)
theorem ep{d:TypeDesc}{E:TypeId}{k:Value}(A:P.underlying E=some d)(z:bO d k=true)(b:Bool):(Instr.checkKey b 10000 E k).run P w= .ok () w:=by
 have key: ∀n,(Instr.checkKey b (n+1) E k).run P w= .ok () w:=by
  intro n;unfold bO at z;split at z
  ·simp[Instr.checkKey,ae w A]
  ·simp[Instr.checkKey,ae w A]
  ·simp[Instr.checkKey,ae w A]
  cases z
 exact key 9999
theorem lookup_sound{t:TypeId}{m k m' k' v:Value}{ok:Bool}(h:WRel μ H w)(hm:VRel μ m m')(hk:VRel μ k k')(A:gC P t m k ok H=some v):
  ∃v',(Instr.lookup t m' k' ok).run P w= .ok v' w/\VRel μ v v':=by
 unfold gC at A
 split at A
 ·rename_i kt et Z;split at A
  ·rename_i d i hd hi;split at A
   ·rename_i z hz;cases E:(bO d k&&gE z) with
    |false=>rw[E]at A;cases A
    |true=>
     rw[E]at A
     simp only[cond_true]at A
     simp only[a0e]at E
     have ay:k'=k:=hk.eq0 (dH E.1)
     subst ay
     have an:VRel μ z z:=VRel.refl1 E.2
     have ao:(zeroValue et).run P w= .ok z w:=cZ w hi hz
     have ag: ∀(u N:Value) (b:Bool),VRel μ u N->VRel μ (bif ok then .tuple #[u,.bool b] else u) (if ok then .tuple #[N,.bool b] else N):=by
      intro u N b Z;cases ok
      ·exact Z
      have:=LRel.cons Z (LRel.cons (VRel.atom (μ:=μ) (.bool b) rfl) LRel.nil);exact .tuple _ _ this.1 this.2
     split at A
     ·injection A with A;subst A;obtain rfl:=hm.mapNil_inv;refine⟨_,?_,ag z z false an⟩;simp only[Instr.lookup,Sem.run_bind,ae w Z,Result.andThen_ok,Sem.run_pure,ep hd E.1,Instr.findKey,ae w hd];simp[Instr.findNow,ao]
     ·rename_i r;split at A
      ·rename_i es hg;cases V:es.all fun e=>bO d e.1 with
       |false=>rw[V]at A;cases A
       |true=>
        rw[V]at A
        simp only[cond_true]at A
        obtain⟨l,hμ,rfl⟩:=hm.map_inv
        obtain⟨T,ai,hh,hl,aw⟩:=h.obj r l _ hμ hg
        have ax:(getObj l.c).run P w= .ok (.map T ai) w:=fS hh (by intros;simp)
        have U: ∀X,Instr.findNow d k' T.toList 0=some X->(Instr.lookup t (.map (some l.c)) k' ok).run P w=
          (match X with
           |some (_,v)=>(.ok (if ok then .tuple #[v,.bool true] else v) w:Result Value)
           |none=> .ok (if ok then .tuple #[z,.bool false] else z) w):=by
         intro X hX
         simp only[Instr.lookup,Sem.run_bind,ae w Z,Result.andThen_ok,Sem.run_pure,ax,ep hd E.1,Instr.findKey,ae w hd,hX]
         cases X with
         |none=>simp[ao]
         |some p=>obtain⟨j,u⟩:=p;simp
        rcases gx E.1 es T.toList 0 ⟨hl,aw⟩ V with⟨u,N,j,h1,h2,h3,_⟩|⟨h1,h2,_⟩
        ·rw[h1]at A;simp only[a00]at A;subst A;exact⟨_,U _ h2,ag u N true h3⟩
        rw[h1]at A
        simp only[a00]at A;subst A
        exact⟨_,U _ h2,ag z z false an⟩
      cases A
     cases A
   cases A
  cases A
 cases A
theorem sameBits_key{d:TypeDesc}{a b:Value}(A:bO d a=true)(z:bO d b=true)(h:cL a b=true):Instr.sameBits 10000 b a=true:=by
 have key: ∀n,Instr.sameBits n b a=true:=by
  intro n;unfold bO at A z;split at A
  ·split at z
   ·rename_i k k1 x _ _ k2 y E;injection E with e1;subst e1;simp only[beq_iff_eq]at A z;subst A z;simp only[cL,beq_iff_eq]at h;subst h;cases n<;>simp[Instr.sameBits]
   ·cases‹TypeDesc.int _=_›
   ·cases‹TypeDesc.int _=_›
   cases z
  ·split at z
   ·cases‹TypeDesc.string=_›
   ·rename_i x _ _ y _;have h:=bytesEq_iff h;subst h;cases n<;>simp[Instr.sameBits,gZ]
   ·cases‹TypeDesc.string=_›
   cases z
  ·split at z
   ·cases‹TypeDesc.bool=_›
   ·cases‹TypeDesc.bool=_›
   ·simp only[cL,beq_iff_eq]at h;subst h;cases n<;>simp[Instr.sameBits]
   cases z
  cases A
 exact key 10000
theorem iC{t:TypeId}{m k v m' Z v':Value}(h:WRel μ H w)(hm:VRel μ m m')(hk:VRel μ k Z)(hv:VRel μ v v')(A:eD P t m k v H=some H'):
  ∃w',(Instr.mapUpdate t m' Z v').run P w= .ok () w'/\Post μ H w μ H' w':=by
 unfold eD at A
 split at A
 ·rename_i kt et hu;split at A
  ·rename_i d r hd;split at A
   ·rename_i es hg;cases E:(bO d k&&es.all fun e=>bO d e.1) with
    |false=>rw[E]at A;cases A
    |true=>
     rw[E]at A
     simp only[cond_true,a00]at A;subst A
     simp only[a0e]at E
     have aw:Z=k:=hk.eq0 (dH E.1)
     subst aw
     obtain⟨l,hμ,rfl⟩:=hm.map_inv
     obtain⟨N,z,hh,hl,an⟩:=h.obj r l _ hμ hg
     have T:(getObj l.c).run P w= .ok (.map N z) w:=fS hh (by intros;simp)
     have V: ∀o',(setObj l.c o').run P w= .ok () (ba w l.c o'):=fun o'=>kv hh (by intros;simp)
     rcases gx E.1 es N.toList 0 ⟨hl,an⟩ E.2 with⟨u,u',j,h1,h2,h3,h4,⟨y,hy,a1,a0⟩,h6⟩|⟨h1,h2,h3⟩
     ·refine⟨ba w l.c (.map (N.modify j fun e=>{e with key:=Z,val:=v'}) z),?_,?_⟩
      ·have ai:N[j]?=some y:=by simpa using hy
       simp only[Instr.mapUpdate,Sem.run_bind,ae w hu,Result.andThen_ok,T,ep hd E.1,Instr.findKey,ae w hd,h2,Sem.run_pure,a1u,ai,a1V,a0C,
        Instr.keyThatStays,sameBits_key E.1 a0 a1,if_true,V]
      have U:=h6 v v' hv;refine Post.put h hμ hg rfl _ rfl _ ⟨_,z,bF w _ (bT hh),?_,?_⟩
      ·rw[Array.toList_modify];exact U.1
      rw[Array.toList_modify];exact U.2
     refine⟨ba w l.c (.map (N.push {key:=Z,val:=v',born:=z}) (z+1)),?_,?_⟩
     ·simp only[Instr.mapUpdate,Sem.run_bind,ae w hu,Result.andThen_ok,T,ep hd E.1,Instr.findKey,ae w hd,h2,Sem.run_pure,V]
     have U:=h3 v v' z hv
     refine Post.put h hμ hg rfl _ rfl _ ⟨_,z+1,bF w _ (bT hh),?_,?_⟩
     ·rw[Array.toList_push];exact U.1
     rw[Array.toList_push];exact U.2
   cases A
  cases A
 cases A
theorem callee_sound{f f':Value}{args:List Value}{A:Array Value}{r:AN}(hf:VRel μ f f')(ha:LRel μ args A.toList)(z:ff P f args=some r):
  ∃i T,r= .enter i T/\∃N,(∀w,(do let d ←Deferred.ofValue f' A;invoke d.target d.args:Sem Next).run P w= .ok (.enter i N) w)/\LRel μ T N.toList:=by
 unfold ff at z
 split at z
 ·rename_i i first Z;obtain⟨V,E,rfl,h1,h2⟩:=hf.func_inv;split at z
  ·rename_i fn ai;cases U:(fn.body.isSome&& !(fn.name== "runtime.NumGoroutine")) with
   |false=>rw[U]at z;cases z
   |true=>
    rw[U]at z
    simp only[cond_true,a00]at z;subst z
    simp only[a0e,a0I]at U
    refine⟨i,_,rfl,(V++A)++E,fun w=>?_,?_⟩
    ·have hb: ¬fn.body=none:=by intro ag;rw[ag]at U;cases U.1
     have al: ¬fn.name= "runtime.NumGoroutine" :=by have:=U.2;simpa using this
     simp[Deferred.ofValue,invoke,callFunc,ai,al,hb]
    rw[dA,dA]
    have:=(h1.append (ha.append h2))
    simpa using this
  cases z
 cases z
end
end Go.R
