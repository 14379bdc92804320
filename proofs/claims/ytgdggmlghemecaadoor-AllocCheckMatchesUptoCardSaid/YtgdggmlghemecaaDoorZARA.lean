/-
The evaluator is sound: values, operations, memory.
-/
import Derived.Test.YtgdggmlghemecaaDoorZAR0
import Derived.IntWalk
set_option linter.unusedVariables false
set_option linter.unusedSimpArgs false
namespace Go.R
structure Loc where
 c:Nat
 sh:Nat
 opn:Option Nat
 csz:Nat
abbrev Emb:=Nat->Option Loc
inductive VRel(μ:Emb):Value->Value->Prop
 |atom (v:Value):noA0 v=true->VRel μ v v
 |ptr (b o:Nat) (l:Loc):μ b=some l->VRel μ (.pointer (some ⟨b,o,none⟩)) (.pointer (some ⟨l.c,l.sh+o,none⟩))
 |sliceC (b o n k:Nat) (l:Loc):μ b=some l->l.opn=none->VRel μ (.slice (some ⟨b,o,none⟩) n k) (.slice (some ⟨l.c,l.sh+o,none⟩) n k)
 |sliceO (b o o' n k k' e:Nat) (l:Loc):μ b=some l->l.opn=some e->n<=k->k<=k'->(0<k->o'=l.sh+o)->o'+k' *e<=l.csz->
   VRel μ (.slice (some ⟨b,o,none⟩) n k) (.slice (some ⟨l.c,o',none⟩) n k')
 |sliceZ (b o:Nat) (a:Addr) (l:Loc):μ b=some l->VRel μ (.slice (some ⟨b,o,none⟩) 0 0) (.slice (some a) 0 0)
 |map (b:Nat) (l:Loc):μ b=some l->VRel μ (.map (some b)) (.map (some l.c))
 |func (fn:Fn) (xs ys xs' ys':Array Value):xs.toList.length=xs'.toList.length->ys.toList.length=ys'.toList.length->
   (∀(i:Nat) v v',xs.toList[i]?=some v->xs'.toList[i]?=some v'->VRel μ v v')->
   (∀(i:Nat) v v',ys.toList[i]?=some v->ys'.toList[i]?=some v'->VRel μ v v')->VRel μ (.func fn xs ys) (.func fn xs' ys')
 |agg (xs xs':Array Value):xs.toList.length=xs'.toList.length->
   (∀(i:Nat) v v',xs.toList[i]?=some v->xs'.toList[i]?=some v'->VRel μ v v')->VRel μ (.agg xs) (.agg xs')
 |tuple (xs xs':Array Value):xs.toList.length=xs'.toList.length->
   (∀(i:Nat) v v',xs.toList[i]?=some v->xs'.toList[i]?=some v'->VRel μ v v')->VRel μ (.tuple xs) (.tuple xs')
def LRel(μ:Emb)(l l':List Value):Prop:=l.length=l'.length/\∀(i:Nat) v v',l[i]?=some v->l'[i]?=some v'->VRel μ v v'
section
variable {μ μ':Emb}
theorem VRel.mono(h: ∀b l,μ b=some l->μ' b=some l){v v':Value}(z:VRel μ v v'):VRel μ' v v':=by
 induction z with
 |atom v h0=>exact .atom v h0
 |ptr b o l hb=>exact .ptr b o l (h _ _ hb)
 |sliceC b o n k l hb ho=>exact .sliceC b o n k l (h _ _ hb) ho
 |sliceO b o o' n k k' e l hb ho h1 h2 h3 h4=>exact .sliceO b o o' n k k' e l (h _ _ hb) ho h1 h2 h3 h4
 |sliceZ b o a l hb=>exact .sliceZ b o a l (h _ _ hb)
 |map b l hb=>exact .map b l (h _ _ hb)
 |func fn xs ys xs' ys' h1 h2 _ _ i1 i2=>exact .func fn xs ys xs' ys' h1 h2 i1 i2
 |agg xs xs' h1 _ i1=>exact .agg xs xs' h1 i1
 |tuple xs xs' h1 _ i1=>exact .tuple xs xs' h1 i1
theorem LRel.mono(h: ∀b l,μ b=some l->μ' b=some l){l l':List Value}(z:LRel μ l l'):LRel μ' l l':=
 ⟨z.1,fun i v v' A E=>(z.2 i v v' A E).mono h⟩
theorem LRel.nil:LRel μ [] []:=⟨V,fun i v v' h=>by simp at h⟩
theorem LRel.cons{v v':Value}{l l':List Value}(h:VRel μ v v')(E:LRel μ l l'):LRel μ (v::l) (v'::l'):=by
 refine⟨by simp[E.1],fun i x N z A=>?_⟩;cases i with
 |zero=>simp at z A;subst z A;exact h
 |succ i=>exact E.2 i x N (by simpa using z) (by simpa using A)
theorem LRel.head{v v':Value}{l l':List Value}(h:LRel μ (v::l) (v'::l')):VRel μ v v':=h.2 0 v v' V V
theorem LRel.tail{v v':Value}{l l':List Value}(h:LRel μ (v::l) (v'::l')):LRel μ l l':=
 ⟨by simpa using h.1,fun i x E z A=>h.2 (i+1) x E (by simpa using z) (by simpa using A)⟩
theorem LRel.get{l l':List Value}(h:LRel μ l l'){i:Nat}{v:Value}(z:l[i]?=some v): ∃v',l'[i]?=some v'/\VRel μ v v':=by
 have hi:i<l'.length:=by rw[←h.1];exact(a0q.1 z).1
 exact⟨l'[i],a05 hi,h.2 i v _ z (a05 hi)⟩
theorem LRel.append{a b E N:List Value}(h:LRel μ a E)(k:LRel μ b N):LRel μ (a++b) (E++N):=by
 refine⟨by simp[h.1,k.1],fun i v v' z A=>?_⟩;by_cases hi:i<a.length
 ·rw[a0S hi]at z;rw[a0S (h.1▸hi)]at A;exact h.2 i v v' z A
 rw[a11 M]at z;rw[a11 (by have:=h.1;omega),←h.1]at A;exact k.2 _ v v' z A
theorem LRel.take{a E:List Value}(h:LRel μ a E)(n:Nat):LRel μ (a.take n) (E.take n):=by
 refine⟨by simp[h.1],fun i v v' z A=>?_⟩;rw[a0A]at z A;split at z
 ·rename_i hi;rw[if_pos hi]at A;exact h.2 i v v' z A
 cases z
theorem LRel.drop{a z:List Value}(h:LRel μ a z)(n:Nat):LRel μ (a.drop n) (z.drop n):=by refine⟨by simp[h.1],fun i v v' A E=>?_⟩;rw[a0N]at A E;exact h.2 _ v v' A E
theorem LRel.nil_left{l':List Value}(h:LRel μ [] l'):l'=[]:=a0v h.1.symm
theorem LRel.cons_left{v:Value}{l l':List Value}(h:LRel μ (v::l) l'): ∃v' z,l'=v'::z/\VRel μ v v'/\LRel μ l z:=by
 cases l' with
 |nil=>have:=h.1;simp at this
 |cons v' z=>exact⟨v',z,V,h.head,h.tail⟩
theorem VRel.oneCell{v v':Value}(h:VRel μ v v'):v'.oneCell'=v.oneCell':=by cases h<;>rfl
theorem VRel.eq0{v v':Value}(h:VRel μ v v')(z:noA0 v=true):v'=v:=by
 cases h with
 |atom=>rfl
 |func fn xs ys xs' ys' h1 h2 _ _=>
  simp only[noA0,a07]at z
  have A:xs.size=0:=a09 z.1
  have E:ys.size=0:=a09 z.2
  have N:xs= #[]:=a1m.1 A
  have T:ys= #[]:=a1m.1 E
  subst N T
  have U:xs'= #[]:=a1m.1 (by simpa using h1.symm)
  have Z:ys'= #[]:=a1m.1 (by simpa using h2.symm)
  subst U Z
  rfl
 |_=>simp[noA0]at z
theorem LRel.eq0{l l':List Value}(h:LRel μ l l')(z:l.all noA0=true):l'=l:=by
 induction l generalizing l' with
 |nil=>exact h.nil_left
 |cons v l ih=>
  obtain⟨v',N,rfl,E,A⟩:=h.cons_left
  simp only[a0J,a07]at z
  rw[E.eq0 z.1,ih A z.2]
theorem VRel.eq1{v v':Value}(h:VRel μ v v')(z:gZ v=true):v'=v:=by
 cases h with
 |agg xs xs' hl hi=>
  have:=LRel.eq0 (μ:=μ) (l:=xs.toList) (l':=xs'.toList) ⟨hl,hi⟩ z
  rw[a19.1 this]
 |atom v h0=>rfl
 |_=>exact VRel.eq0 (μ:=μ) (by constructor<;>assumption) z
theorem LRel.eq1{l l':List Value}(h:LRel μ l l')(z:l.all gZ=true):l'=l:=by
 induction l generalizing l' with
 |nil=>exact h.nil_left
 |cons v l ih=>
  obtain⟨v',N,rfl,E,A⟩:=h.cons_left
  simp only[a0J,a07]at z
  rw[E.eq1 z.1,ih A z.2]
theorem LRel.refl0{l:List Value}(h:l.all noA0=true):LRel μ l l:=by refine⟨V,fun i v v' A z=>?_⟩;rw[A]at z;injection z with z;subst z;exact .atom v (a0y.1 h v (a0n A))
theorem VRel.refl1{v:Value}(h:gZ v=true):VRel μ v v:=by
 cases v with
 |agg cs=>have:=LRel.refl0 (μ:=μ) (l:=cs.toList) h;exact .agg cs cs this.1 this.2
 |_=>exact .atom _ h
theorem LRel.refl1{l:List Value}(h:l.all gZ=true):LRel μ l l:=by refine⟨V,fun i v v' A z=>?_⟩;rw[A]at z;injection z with z;subst z;exact VRel.refl1 (a0y.1 h v (a0n A))
theorem VRel.refl2{v:Value}(h:noA2 v=true):VRel μ v v:=by
 cases v with
 |tuple vs=>have:=LRel.refl1 (μ:=μ) (l:=vs.toList) h;exact .tuple vs vs this.1 this.2
 |_=>exact VRel.refl1 h
theorem VRel.undef:VRel μ undef undef:=VRel.refl2 V
theorem VRel.eq2{v v':Value}(h:VRel μ v v')(z:noA2 v=true):v'=v:=by
 cases h with
 |tuple xs xs' hl hi=>
  have:=LRel.eq1 (μ:=μ) (l:=xs.toList) (l':=xs'.toList) ⟨hl,hi⟩ z
  rw[a19.1 this]
 |atom v h0=>rfl
 |_=>exact VRel.eq1 (μ:=μ) (by constructor<;>assumption) z
theorem VRel.cells{v v':Value}(h:VRel μ v v'):LRel μ v.cells.toList v'.cells.toList:=by
 have one: ∀{u z:Value},VRel μ u z->LRel μ [u] [z]:=fun A=> .cons A .nil
 cases h with
 |agg xs xs' hl hi=>exact⟨hl,hi⟩
 |atom v h0=>cases v<;>first|(simp[noA0]at h0;done)|exact one (.atom _ h0)
 |ptr b o l hb=>exact one (.ptr b o l hb)
 |sliceC b o n k l hb ho=>exact one (.sliceC b o n k l hb ho)
 |sliceO b o o' n k k' e l hb ho h1 h2 h3 h4=>exact one (.sliceO b o o' n k k' e l hb ho h1 h2 h3 h4)
 |sliceZ b o a l hb=>exact one (.sliceZ b o a l hb)
 |map b l hb=>exact one (.map b l hb)
 |func fn xs ys xs' ys' h1 h2 i1 i2=>exact one (.func fn xs ys xs' ys' h1 h2 i1 i2)
 |tuple xs xs' h1 i1=>exact one (.tuple xs xs' h1 i1)
theorem VRel.int_inv{k:IntKind}{n:Int}{v':Value}(h:VRel μ (.int k n) v'):v'= .int k n:=h.eq0 V
theorem VRel.bool_inv{b:Bool}{v':Value}(h:VRel μ (.bool b) v'):v'= .bool b:=h.eq0 V
theorem VRel.string_inv{s:ByteArray}{v':Value}(h:VRel μ (.string s) v'):v'= .string s:=h.eq0 V
theorem VRel.ptr_inv{b o:Nat}{v':Value}(h:VRel μ (.pointer (some ⟨b,o,none⟩)) v'): ∃l,μ b=some l/\v'= .pointer (some ⟨l.c,l.sh+o,none⟩):=by
 cases h with
 |atom _ h0=>simp[noA0]at h0
 |ptr _ _ l hb=>exact⟨l,hb,V⟩
theorem VRel.ptr_some{a:Addr}{v':Value}(h:VRel μ (.pointer (some a)) v'):a.spot=none/\∃z,v'= .pointer (some z):=by
 cases h with
 |atom _ h0=>simp[noA0]at h0
 |ptr _ _ l hb=>exact⟨V,_,V⟩
theorem VRel.agg_inv{xs:Array Value}{v':Value}(h:VRel μ (.agg xs) v'): ∃z,v'= .agg z/\LRel μ xs.toList z.toList:=by
 cases h with
 |atom _ h0=>simp[noA0]at h0
 |agg _ z hl hi=>exact⟨z,V,hl,hi⟩
theorem VRel.tuple_inv{xs:Array Value}{v':Value}(h:VRel μ (.tuple xs) v'): ∃z,v'= .tuple z/\LRel μ xs.toList z.toList:=by
 cases h with
 |atom _ h0=>simp[noA0]at h0
 |tuple _ z hl hi=>exact⟨z,V,hl,hi⟩
theorem VRel.func_inv{fn:Fn}{xs ys:Array Value}{v':Value}(h:VRel μ (.func fn xs ys) v'):
  ∃z A,v'= .func fn z A/\LRel μ xs.toList z.toList/\LRel μ ys.toList A.toList:=by
 cases h with
 |atom _ h0=>
  simp only[noA0,a07]at h0
  have E:xs= #[]:=a1m.1 (a09 h0.1)
  have N:ys= #[]:=a1m.1 (a09 h0.2)
  subst E N
  exact⟨#[], #[],V,.nil,.nil⟩
 |func _ _ _ z A h1 h2 i1 i2=>exact⟨z,A,V,⟨h1,i1⟩,⟨h2,i2⟩⟩
theorem VRel.map_inv{b:Nat}{v':Value}(h:VRel μ (.map (some b)) v'): ∃l,μ b=some l/\v'= .map (some l.c):=by
 cases h with
 |atom _ h0=>simp[noA0]at h0
 |map _ l hb=>exact⟨l,hb,V⟩
theorem VRel.mapNil_inv{v':Value}(h:VRel μ (.map none) v'):v'= .map none:=h.eq0 V
theorem VRel.slice_inv{b o n k:Nat}{v':Value}(h:VRel μ (.slice (some ⟨b,o,none⟩) n k) v'):
  ∃l,μ b=some l/\((l.opn=none/\v'= .slice (some ⟨l.c,l.sh+o,none⟩) n k)\/
   (∃e o' z,l.opn=some e/\v'= .slice (some ⟨l.c,o',none⟩) n z/\n<=k/\k<=z/\(0<k->o'=l.sh+o)/\o'+z *e<=l.csz)\/(n=0/\k=0/\∃A,v'= .slice (some A) 0 0)):=by
 cases h with
 |atom _ h0=>simp[noA0]at h0
 |sliceC _ _ _ _ l hb ho=>exact⟨l,hb,.inl ⟨ho,V⟩⟩
 |sliceO _ _ o' _ _ z e l hb ho h1 h2 h3 h4=>exact⟨l,hb,.inr (.inl ⟨e,o',z,ho,V,h1,h2,h3,h4⟩)⟩
 |sliceZ _ _ a l hb=>exact⟨l,hb,.inr (.inr ⟨V,V,a,V⟩)⟩
theorem VRel.sliceNil_inv{n k:Nat}{v':Value}(h:VRel μ (.slice none n k) v'):n=0/\k=0/\v'= .slice none n k:=by
 cases h with
 |atom _ h0=>
  simp only[noA0,a07]at h0
  exact⟨a09 h0.1,a09 h0.2,V⟩
theorem VRel.slice_some{a:Addr}{n k:Nat}{v':Value}(h:VRel μ (.slice (some a) n k) v'):a.spot=none/\∃A z,v'= .slice (some A) n z:=by
 cases h with
 |atom _ h0=>simp[noA0]at h0
 |sliceC _ _ _ _ l hb ho=>exact⟨V,_,_,V⟩
 |sliceO _ _ o' _ _ z e l hb ho h1 h2 h3 h4=>exact⟨V,_,_,V⟩
 |sliceZ _ _ a l hb=>exact⟨V,_,_,V⟩
end
def ObjRel(μ:Emb)(w:World)(l:Loc):AObj->Prop
 | .cells cs opn true=>l.opn=opn/\opn=none/\l.c<w.heap.size/\∀(i:Nat) v,cs[i]?=some v->∃v',w.cell? ⟨l.c,l.sh+i,none⟩=some v'/\VRel μ v v'
 | .cells cs opn false=>l.opn=opn/\∃(z:Array Value) (e:TypeId),w.heap[l.c]?=some (.cells z e (0,0))/\z.size=l.csz/\l.sh+cs.length<=l.csz/\
   ∀(i:Nat) v,cs[i]?=some v->∃v',z[l.sh+i]?=some v'/\VRel μ v v'
 | .iter s pos=>l.sh=0/\w.heap[l.c]?=some (.stringIter s pos)
 | .tab es=> ∃(A:Array MapEntry) (E:Nat),w.heap[l.c]?=some (.map A E)/\es.length=A.toList.length/\
   ∀(i:Nat) x y,es[i]?=some x->A.toList[i]?=some y->VRel μ x.1 y.key/\VRel μ x.2 y.val
 | .dead=>True
structure WRel(μ:Emb)(H:Heap)(w:World):Prop where
 obj: ∀b l o,μ b=some l->H.get b=some o->ObjRel μ w l o
 inj: ∀b1 b2 l1 l2 o1 o2,b1≠b2->μ b1=some l1->μ b2=some l2->H.get b1=some o1->H.get b2=some o2->o1.rw=true->o2.live=true->l1.c≠l2.c
theorem cb{w:World}{c:Nat}{o:Obj}(h:w.heap[c]?=some o):c<w.heap.size:=(a0C.1 h).1
theorem ObjRel.lt{μ:Emb}{w:World}{l:Loc}{o:AObj}(h:ObjRel μ w l o)(E:o.live=true):l.c<w.heap.size:=by
 cases o with
 |cells cs opn ro=>
  cases ro with
  |true=>exact h.2.2.1
  |false=>obtain⟨_,N,e,z,_⟩:=h;exact cb z
 |iter s pos=>exact cb h.2
 |tab es=>obtain⟨T,A,z,_⟩:=h;exact cb z
 |dead=>simp[AObj.live]at E
theorem ObjRel.keep{μ μ':Emb}{w w':World}{l:Loc}{o:AObj}(T: ∀b l,μ b=some l->μ' b=some l)(hs:w.heap.size<=w'.heap.size)
  (hc:o.live=true->w'.heap[l.c]?=w.heap[l.c]?) (h:ObjRel μ w l o):ObjRel μ' w' l o:=by
 cases o with
 |cells cs opn ro=>
  have U:=hc V
  cases ro with
  |true=>
   obtain⟨Z,z,N,h4⟩:=h
   refine⟨Z,z,by omega,fun i v hv=>?_⟩
   obtain⟨v',A,hr⟩:=h4 i v hv
   refine⟨v',?_,hr.mono T⟩
   rw[←A]
   simp only[World.cell?,U]
  |false=>
   obtain⟨Z,an,e,hh,z,N,h4⟩:=h
   refine⟨Z,an,e,U.trans hh,z,N,fun i v hv=>?_⟩
   obtain⟨v',A,hr⟩:=h4 i v hv
   exact⟨v',A,hr.mono T⟩
 |iter s pos=>exact⟨h.1,(hc V).trans h.2⟩
 |tab es=>
  obtain⟨ao,E,hh,z,N⟩:=h
  refine⟨ao,E,(hc V).trans hh,z,fun i x y hx hy=>?_⟩
  obtain⟨r1,r2⟩:=N i x y hx hy
  exact⟨r1.mono T,r2.mono T⟩
 |dead=>trivial
theorem gG{o:AObj}(h:o.rw=true):o.live=true:=by cases o<;>simp_all[AObj.rw,AObj.live]
structure Post(μ:Emb)(H:Heap)(w:World)(μ':Emb)(H':Heap)(w':World):Prop where
 ext: ∀b l,μ b=some l->μ' b=some l
 dom: ∀b l,μ' b=some l->μ b=some l\/(H.next<=b/\b<H'.next)
 grow:w.heap.size<=w'.heap.size
 os:w'.os=w.os
 tape:w'.tape=w.tape
 out:w'.output=w.output
 keep: ∀c,c<w.heap.size->(∀b l o,μ b=some l->H.get b=some o->o.rw=true->l.c≠c)->w'.heap[c]?=w.heap[c]?
 img: ∀b l o,μ' b=some l->H'.get b=some o->o.live=true->w.heap.size<=l.c\/∃b0 l0 o0,μ b0=some l0/\H.get b0=some o0/\o0.live=true/\(o.rw=true->o0.rw=true)/\l0.c=l.c
 wrel:WRel μ' H' w'
theorem Post.refl{μ:Emb}{H:Heap}{w:World}(h:WRel μ H w):Post μ H w μ H w:=
 ⟨fun _ _ h=>h,fun _ _ h=> .inl h,a0b _,V,V,V,fun _ _ _=>rfl,fun b l o z A E=> .inr ⟨b,l,o,z,A,E,id,V⟩,h⟩
theorem Post.trans{μ μ1 μ2:Emb}{H H1 E:Heap}{w U Z:World}(h:Post μ H w μ1 H1 U)(k:Post μ1 H1 U μ2 E Z)(h1:H.next<=H1.next)(h2:H1.next<=E.next):
  Post μ H w μ2 E Z:=by
 refine⟨fun b l z=>k.ext b l (h.ext b l z),fun b l z=>?_,a0e h.grow k.grow,k.os.trans h.os,k.tape.trans h.tape,k.out.trans h.out,fun c hc T=>?_,fun b l o z N A=>?_,k.wrel⟩
 ·rcases k.dom b l z with hb1|⟨hb1,hb2⟩
  ·rcases h.dom b l hb1 with hb0|⟨hb3,hb4⟩
   ·exact .inl hb0
   exact .inr ⟨hb3,by omega⟩
  exact .inr ⟨by omega,hb2⟩
 ·rw[k.keep c (a0V hc h.grow) ?_,h.keep c hc T];intro b l o z N A he;rcases h.img b l o z N (gG A) with hh|⟨b0,l0,o0,g1,g2,g3,g5,g4⟩
  ·omega
  exact T b0 l0 o0 g1 g2 (g5 A) (g4.trans he)
 rcases k.img b l o z N A with hh|⟨b0,l0,o0,g1,g2,g3,g5,g4⟩
 ·exact .inl (a0e h.grow hh)
 rcases h.img b0 l0 o0 g1 g2 g3 with hh|⟨b1,l1,o1,e1,e2,e3,e5,e4⟩
 ·exact .inl (g4▸hh)
 exact .inr ⟨b1,l1,o1,e1,e2,e3,fun hx=>e5 (g5 hx),e4.trans g4⟩
theorem WRel.drew{μ:Emb}{H:Heap}{w:World}(h:WRel μ H w):WRel μ H w.drew:=
 ⟨fun b l o z A=>(h.obj b l o z A).keep (fun _ _ h=>h) (a0b _) (fun _=>rfl),h.inj⟩
theorem Post.drew{μ:Emb}{H:Heap}{w:World}(h:WRel μ H w):Post μ H w μ H w.drew:=
 ⟨fun _ _ h=>h,fun _ _ h=> .inl h,a0b _,V,V,V,fun _ _ _=>rfl,fun b l o z A E=> .inr ⟨b,l,o,z,A,E,id,V⟩,h.drew⟩
def Emb.set(μ:Emb)(b:Nat)(l:Loc):Emb:=fun k=>if k=b then some l else μ k
theorem Emb.set_same(μ:Emb)(b:Nat)(l:Loc):μ.set b l b=some l:=by simp[Emb.set]
theorem Emb.set_ext{μ:Emb}{b:Nat}(l:Loc)(h:μ b=none): ∀k x,μ k=some x->μ.set b l k=some x:=by
 intro k x z;have:k≠b:=fun e=>by subst e;rw[h]at z;cases z
 simp[Emb.set,this,z]
theorem Emb.set_inv{μ:Emb}{b:Nat}{l:Loc}{k:Nat}{x:Loc}(h:μ.set b l k=some x):(k=b/\x=l)\/(k≠b/\μ k=some x):=by
 unfold Emb.set at h;split at h
 ·rename_i e;injection h with h;exact .inl ⟨e,h.symm⟩
 rename_i e;exact .inr ⟨e,h⟩
theorem i9(w:World)(o:Obj){c:Nat}(h:c<w.heap.size):(w.alloc o).heap[c]?=w.heap[c]?:=by simp only[World.alloc,Array.getElem?_push];rw[if_neg M]
theorem fC(w:World)(o:Obj):(w.alloc o).heap[w.heap.size]?=some o:=by show(w.heap.push o)[w.heap.size]?=some o;simp
theorem Post.push{μ:Emb}{H:Heap}{w:World}(h:WRel μ H w)(hf:μ H.next=none)(l:Loc)(hl:l.c=w.heap.size)(o:AObj)(co:Obj)
  (ho:ObjRel (μ.set H.next l) (w.alloc co) l o):Post μ H w (μ.set H.next l) (H.push o) (w.alloc co):=by
 have hm:=Emb.set_ext l hf
 refine⟨hm,fun b x A=>?_,by simp,V,V,V,fun c hc _=>i9 w co hc,fun b x o' A z hr=>?_,⟨fun b x o' A z=>?_,fun b1 b2 l1 l2 o1 o2 E aw ax N T a1 an=>?_⟩⟩
 ·rcases Emb.set_inv A with⟨rfl,rfl⟩|⟨_,A⟩
  ·exact .inr ⟨a0b _,by simp⟩
  exact .inl A
 ·rcases Emb.set_inv A with⟨rfl,rfl⟩|⟨E,A⟩
  ·exact .inl M
  rw[Heap.get_push_ne H o (Ne.symm E)]at z;exact .inr ⟨b,x,o',A,z,hr,id,V⟩
 ·rcases Emb.set_inv A with⟨rfl,rfl⟩|⟨E,A⟩
  ·rw[Heap.get_push_same]at z;injection z with z;subst z;exact ho
  rw[Heap.get_push_ne H o (Ne.symm E)]at z;have hr:=h.obj b x o' A z;exact hr.keep hm (by simp) (fun ay=>i9 w co (hr.lt ay))
 rcases Emb.set_inv aw with⟨e1,f1⟩|⟨ad,U⟩<;>rcases Emb.set_inv ax with⟨e2,f2⟩|⟨ag,Z⟩
 ·exact absurd (e1.trans e2.symm) E
 ·rw[Heap.get_push_ne H o (Ne.symm ag)]at T;have:=(h.obj b2 l2 o2 Z T).lt an;subst f1;omega
 ·rw[Heap.get_push_ne H o (Ne.symm ad)]at N;have:=(h.obj b1 l1 o1 U N).lt (by cases o1<;>simp_all[AObj.rw,AObj.live]);subst f2;omega
 rw[Heap.get_push_ne H o (Ne.symm ad)]at N
 rw[Heap.get_push_ne H o (Ne.symm ag)]at T
 exact h.inj b1 b2 l1 l2 o1 o2 E U Z N T a1 an
def bd(w:World)(c:Nat)(o:Obj):World:={w with heap:=w.heap.setIfInBounds c o}
theorem dA(w:World){c k:Nat}(o:Obj)(h:c≠k):(bd w c o).heap[k]?=w.heap[k]?:=by simp[bd,a1F h]
theorem bL(w:World){c:Nat}(o:Obj)(h:c<w.heap.size):(bd w c o).heap[c]?=some o:=by simp[bd,h]
@[simp] theorem setObjAt_size(w:World)(c:Nat)(o:Obj):(bd w c o).heap.size=w.heap.size:=by simp[bd]
theorem Post.put{μ:Emb}{H:Heap}{w:World}(h:WRel μ H w){b:Nat}{l:Loc}{o:AObj}(E:μ b=some l)(U:H.get b=some o)(N:o.rw=true)
  (o':AObj) (b3:o'.rw=true) (T:Obj) (hn:ObjRel μ (bd w l.c T) l o'):Post μ H w μ (H.put b o') (bd w l.c T):=by
 refine⟨fun _ _ h=>h,fun _ _ h=> .inl h,by simp,V,V,V,fun c hc al=>dA w T (al b l o E U N),fun k x Z A z a2=>?_,⟨fun k x Z A z=>?_,fun b1 b2 l1 l2 o1 o2 aw ad ag ax ay a0 a1=>?_⟩⟩
 ·by_cases e:b=k
  ·subst e;rw[E]at A;injection A with A;subst A;exact .inr ⟨b,l,o,E,U,gG N,fun _=>N,V⟩
  rw[Heap.get_put_ne H o' e]at z;exact .inr ⟨k,x,Z,A,z,a2,id,V⟩
 ·by_cases e:b=k
  ·subst e;rw[E]at A;injection A with A;subst A;rw[Heap.get_put_same]at z;injection z with z;subst z;exact hn
  rw[Heap.get_put_ne H o' e]at z;have hx:=h.obj k x Z A z;exact hx.keep (fun _ _ h=>h) (by simp) (fun av=>dA w T (h.inj b k l x o Z e E A U z N av))
 have old: ∀k ok lk,μ k=some lk->(H.put b o').get k=some ok->∃oo,H.get k=some oo/\(ok.rw=true->oo.rw=true)/\(ok.live=true->oo.live=true):=by
  intro k ok lk A ai;by_cases e:b=k
  ·subst e;exact⟨o,U,fun _=>N,fun _=>by cases o<;>simp_all[AObj.rw,AObj.live]⟩
  rw[Heap.get_put_ne H o' e]at ai;exact⟨ok,ai,id,id⟩
 obtain⟨p1,q1,r1,_⟩:=old b1 o1 l1 ad ax
 obtain⟨p2,q2,_,r2⟩:=old b2 o2 l2 ag ay
 exact h.inj b1 b2 l1 l2 p1 p2 aw ad ag q1 q2 (r1 a0) (r2 a1)
theorem Post.take{μ:Emb}{H:Heap}{w:World}(h:WRel μ H w){b:Nat}{l:Loc}{o:AObj}(U:μ b=some l)(ho:H.get b=some o)(hr:o.rw=true)
  (hf:μ H.next=none) (l':Loc) (hl:l'.c=l.c) (o':AObj) (co:Obj) (hn:ObjRel (μ.set H.next l') (bd w l.c co) l' o'):
  Post μ H w (μ.set H.next l') ((H.put b .dead).push o') (bd w l.c co):=by
 have hm:=Emb.set_ext l' hf
 have ck:b≠H.next:=fun e=>by subst e;rw[hf]at U;cases U
 have get: ∀k,k≠H.next->((H.put b .dead).push o').get k=(H.put b .dead).get k:=fun k A=>Heap.get_push_ne (H.put b .dead) o' (Ne.symm A)
 have a8:((H.put b .dead).push o').get H.next=some o':=Heap.get_push_same (H.put b .dead) o'
 refine⟨hm,fun k x A=>?_,by simp,V,V,V,fun c hc bb=>dA w co (bb b l o U ho hr),fun k x ox A z a5=>?_,⟨fun k x ox A z=>?_,fun b1 b2 l1 l2 o1 o2 T bk bl a3 a4 Z ad=>?_⟩⟩
 ·rcases Emb.set_inv A with⟨rfl,rfl⟩|⟨_,A⟩
  ·exact .inr ⟨a0b _,by simp⟩
  exact .inl A
 ·rcases Emb.set_inv A with⟨rfl,rfl⟩|⟨T,A⟩
  ·exact .inr ⟨b,l,o,U,ho,gG hr,fun _=>hr,hl.symm⟩
  rw[get k T]at z;by_cases e:b=k
  ·subst e;rw[Heap.get_put_same]at z;injection z with z;subst z;simp[AObj.live]at a5
  rw[Heap.get_put_ne H _ e]at z;exact .inr ⟨k,x,ox,A,z,a5,id,V⟩
 ·rcases Emb.set_inv A with⟨rfl,rfl⟩|⟨T,A⟩
  ·rw[a8]at z;injection z with z;subst z;exact hn
  rw[get k T]at z;by_cases e:b=k
  ·subst e;rw[Heap.get_put_same]at z;injection z with z;subst z;trivial
  rw[Heap.get_put_ne H _ e]at z;have hx:=h.obj k x ox A z;exact hx.keep hm (by simp) (fun an=>dA w co (h.inj b k l x o ox e U A ho z hr an))
 have old: ∀k ok,k≠H.next->ok.live=true->((H.put b .dead).push o').get k=some ok->k≠b/\H.get k=some ok:=by
  intro k ok A an N;rw[get k A]at N;by_cases e:b=k
  ·subst e;rw[Heap.get_put_same]at N;injection N with N;subst N;simp[AObj.live]at an
  rw[Heap.get_put_ne H _ e]at N;exact⟨Ne.symm e,N⟩
 have E: ∀{x:AObj},x.rw=true->x.live=true:=by intro x hx;cases x<;>simp_all[AObj.rw,AObj.live]
 rcases Emb.set_inv bk with⟨e1,f1⟩|⟨ao,ai⟩<;>rcases Emb.set_inv bl with⟨e2,f2⟩|⟨ar,al⟩
 ·exact absurd (e1.trans e2.symm) T
 ·obtain⟨n2,g2⟩:=old b2 o2 ar ad a4;rw[f1,hl];exact h.inj b b2 l l2 o o2 (Ne.symm n2) U al ho g2 hr ad
 ·obtain⟨n1,g1⟩:=old b1 o1 ao (E Z) a3;rw[f2,hl];exact fun e=>h.inj b b1 l l1 o o1 (Ne.symm n1) U ai ho g1 hr (E Z) e.symm
 obtain⟨_,g1⟩:=old b1 o1 ao (E Z) a3
 obtain⟨_,g2⟩:=old b2 o2 ar ad a4
 exact h.inj b1 b2 l1 l2 o1 o2 T ai al g1 g2 Z ad
end Go.R
set_option linter.unusedVariables false
namespace Go.R
section pure_
variable {α β:Type} (P:Program)
theorem cO{s:Sem α}{a:α}(h:aB P s=some a)(w:World):s.run P w= .ok a w:=by
 induction s with
 |pure x=>simp only[aB,a00]at h;subst h;rfl
 |program k ih=>simp only[aB]at h;simp only[Sem.run];exact ih _ h
 |mark m k ih=>simp only[aB]at h;simp only[Sem.run];exact ih h
 |_=>simp[aB]at h
@[simp] theorem aJ(x:Sem α)(f:α->Sem β):aB P (x>>=f)=(aB P x).bind fun a=>aB P (f a):=by
 show aB P (x.bind f)=_;induction x with
 |program k ih=>simp only[Sem.bind,aB];exact ih _
 |mark m k ih=>simp only[Sem.bind,aB];exact ih
 |pure a=>rfl
 |_=>rfl
@[simp] theorem bG(a:α):aB P (Pure.pure a:Sem α)=some a:=rfl
@[simp] theorem eA:aB P program=some P:=rfl
@[simp] theorem pureRun_stuck(z:String):aB P (stuck z:Sem α)=none:=rfl
@[simp] theorem pureRun_unsupported(u:Unsupported):aB P (unsupported u:Sem α)=none:=rfl
@[simp] theorem pureRun_goPanic(v:Value):aB P (goPanic v:Sem α)=none:=rfl
@[simp] theorem pureRun_choose(q:Question):aB P (choose q)=none:=rfl
@[simp] theorem pureRun_mark(m:Mark):aB P (mark m)=some ():=rfl
theorem pureRun_ite(c:Prop) [Decidable c](x y:Sem α):aB P (if c then x else y)=if c then aB P x else aB P y:=by split<;>rfl
@[simp] theorem bC(t:TypeId):aB P (underlying t)=P.underlying t:=by unfold underlying;simp only[aJ,eA,a0l];cases P.underlying t<;>rfl
@[simp] theorem db(t:TypeId):aB P (typeInfo t)=P.info? t:=by unfold typeInfo;simp only[aJ,eA,a0l];cases P.info? t<;>rfl
@[simp] theorem cF(t:TypeId):aB P (sizeOf t)=cY P t:=by unfold sizeOf cY;simp only[aJ,db];cases P.info? t<;>rfl
@[simp] theorem fu(t:TypeId):aB P (isAgg t)=aggOf P t:=by
 unfold isAgg aggOf;simp only[aJ,bC];cases P.underlying t with
 |none=>rfl
 |some d=>cases d<;>rfl
theorem gB(e:RuntimeError):aB P (runtimePanic e:Sem α)=none:=by unfold runtimePanic;cases e<;>simp[newVar,newRow,newObj,aB,elemOf]<;>(intros;split<;>simp[aB])
theorem gL(k:IntKind)(x y:Int)(c:BoundsCode):aB P (boundsPanic k x y c:Sem α)=none:=by unfold boundsPanic;simp[gB,pureRun_ite]
end pure_
section runs
variable {P:Program} (w:World)
theorem aZ{t:TypeId}{n:Nat}(h:cY P t=some n):(sizeOf t).run P w= .ok n w:=cO P (by rw[cF];exact h) w
theorem lh{t:TypeId}{b:Bool}(h:aggOf P t=some b):(isAgg t).run P w= .ok b w:=cO P (by rw[fu];exact h) w
theorem el{t:TypeId}{i:TypeInfo}(h:P.info? t=some i):(typeInfo t).run P w= .ok i w:=cO P (by rw[db];exact h) w
theorem ak{t:TypeId}{d:TypeDesc}(h:P.underlying t=some d):(underlying t).run P w= .ok d w:=cO P (by rw[bC];exact h) w
theorem ev{t:TypeId}{z:List Value}(h:cJ P t=some z): ∃i v,P.info? t=some i/\i.zero=some v/\v.cells.toList=z/\z.all noA0=true:=by
 unfold cJ at h;split at h
 ·rename_i i hi;split at h
  ·rename_i v A;cases hc:v.cells.toList.all noA0 with
   |false=>rw[hc]at h;cases h
   |true=>rw[hc]at h;simp at h;subst h;exact⟨i,v,hi,A,V,hc⟩
  cases h
 cases h
theorem dB{t:TypeId}{i:TypeInfo}{v:Value}(hi:P.info? t=some i)(z:i.zero=some v):(zeroValue t).run P w= .ok v w:=by unfold zeroValue;simp[el w hi,z]
end runs
section mem
variable {P:Program} {μ:Emb} {H:Heap} {w:World}
theorem jf(h:WRel μ H w){b o:Nat}{l:Loc}{v:Value}(U:μ b=some l)(z:H.cellAt ⟨b,o,none⟩=some v):
  ∃v',w.cell? ⟨l.c,l.sh+o,none⟩=some v'/\VRel μ v v':=by
 simp only[Heap.cellAt,fV]at z
 split at z
 ·rename_i cs al ro Z;have E:=h.obj b l _ U Z;cases ro with
  |true=>exact E.2.2.2 o v z
  |false=>
   obtain⟨_,ai,e,hh,_,_,T⟩:=E
   obtain⟨v',N,A⟩:=T o v z
   exact⟨v',by simp only[World.cell?,hh];simpa using N,A⟩
 cases z
theorem df(c o j:Nat):Addr.add ⟨c,o,none⟩ j=⟨c,o+j,none⟩:=by
 unfold Addr.add;split
 ·subst_vars;rfl
 rfl
theorem gP(h:WRel μ H w){b o n:Nat}{l:Loc}{vs:List Value}(hb:μ b=some l)(z:H.loadN ⟨b,o,none⟩ n=some vs):
  ∃ag,(loadCells ⟨l.c,l.sh+o,none⟩ n).run P w= .ok ⟨ag⟩ w/\LRel μ vs ag/\vs.length=n:=by
 simp only[Heap.loadN,bV,bZ,bE]at z
 split at z
 ·rename_i cs ax ro hg;cases hq:Nat.beq ((cs.drop o).take n).length n with
  |false=>rw[hq]at z;cases z
  |true=>
   rw[hq]at z;simp only[cond_true,a00]at z
   have E:((cs.drop o).take n).length=n:=a09 hq
   have key: ∀j,j<n->∃v v',cs[o+j]?=some v/\w.cell? ⟨l.c,l.sh+o+j,none⟩=some v'/\VRel μ v v':=by
    intro j U;have ad:o+j<cs.length:=by rw[a0k,a0D]at E;omega
    have ai:H.cellAt ⟨b,o+j,none⟩=some cs[o+j]:=by simp only[Heap.cellAt,hg,fV];exact a05 ad
    obtain⟨v',hc,hr⟩:=jf h hb ai;exact⟨_,v',a05 ad,by rw[←hc,a1w],hr⟩
   have T: ∃f:Nat->Value,∀j,j<n->w.cell? (Addr.add ⟨l.c,l.sh+o,none⟩ j)=some (f j)/\∀v,cs[o+j]?=some v->VRel μ v (f j):=by refine⟨fun j=>(w.cell? ⟨l.c,l.sh+o+j,none⟩).getD undef,fun j U=>?_⟩;obtain⟨v,v',A,N,h3⟩:=key j U;simp only[df,N,a0Q];refine⟨trivial,fun u Z=>?_⟩;rw[A]at Z;injection Z with Z;subst Z;exact h3
   obtain⟨f,T⟩:=T
   refine⟨(List.range n).map f,run_loadCells w _ n f (fun j U=>(T j U).1),?_,by rw[←z];exact E⟩
   subst z
   refine⟨by rw[E];simp,fun i v v' A N=>?_⟩
   rw[a0A]at A
   split at A
   ·rename_i hi;rw[a0N]at A;simp[hi]at N;subst N;exact(T i hi).2 v A
   cases A
 cases z
theorem gO(h:WRel μ H w){b o:Nat}{l:Loc}{t:TypeId}{v:Value}(T:μ b=some l)(z:H.loadV P t ⟨b,o,none⟩=some v):
  ∃v',(loadVar t ⟨l.c,l.sh+o,none⟩).run P w= .ok v' w/\VRel μ v v':=by
 unfold Heap.loadV at z
 split at z
 ·rename_i E;split at z
  ·rename_i n hn;split at z
   ·rename_i vs Z;injection z with z;subst z;obtain⟨U,N,A,_⟩:=gP (P:=P) h T Z;refine⟨.agg ⟨U⟩,?_,.agg _ _ A.1 A.2⟩;simp[loadVar,lh w E,aZ w hn,N]
   cases z
  cases z
 ·rename_i E;obtain⟨v',hc,hr⟩:=jf h T z;refine⟨v',?_,hr⟩;simp[loadVar,lh w E,hc]
 cases z
theorem j7{α:Type}(l:List α)(k:Nat):(Array.mk l)[k]?=l[k]?:=by simp
theorem j4: ∀(cs z:List Value),z.length<=cs.length->(over cs z).length=cs.length
 | [],[],_=>rfl
 | [],_::_,h=>by simp at h
 |_::_,[],_=>rfl
 |c::cs,v::z,h=>by simp only[over,a0a];rw[j4 cs z (by simpa using h)]
theorem over_get: ∀(cs z:List Value) (i:Nat),z.length<=cs.length->(over cs z)[i]?=if i<z.length then z[i]? else cs[i]?
 | [],[],i,_=>by simp[over]
 | [],_::_,_,h=>by simp at h
 |_::_,[],i,_=>by simp[over]
 |c::cs,v::z,0,_=>by simp[over]
 |c::cs,v::z,i+1,h=>by simp[over,over_get cs z i (by simpa using h)]
theorem ce: ∀(cs:List Value) (o:Nat) (z:List Value),o+z.length<=cs.length->(bc cs o z).length=cs.length
 |cs,0,z,h=>by cases cs<;>exact j4 _ _ M
 | [],o+1,z,h=>by simp[bc]
 |c::cs,o+1,z,h=>by simp only[bc,a0a];rw[ce cs o z (by simp at h;omega)]
theorem bj: ∀(cs:List Value) (o:Nat) (z:List Value) (i:Nat),o+z.length<=cs.length->
  (bc cs o z)[i]?=if o<=i/\i<o+z.length then z[i-o]? else cs[i]?
 |cs,0,z,i,h=>by
  have:bc cs 0 z=over cs z:=by cases cs<;>rfl
  rw[this,over_get cs z i M];simp
 | [],o+1,z,i,h=>by simp at h
 |c::cs,o+1,z,0,h=>by simp[bc]
 |c::cs,o+1,z,i+1,h=>by
  simp only[bc,a1I];rw[bj cs o z i (by simp at h;omega)];by_cases hc:o<=i/\i<o+z.length
  ·rw[if_pos hc,if_pos M];congr 1;omega
  rw[if_neg hc,if_neg M]
theorem dC(c:Nat)(e:TypeId): ∀(A:List Value) (w:World) (z:Array Value) (o i:Nat),w.heap[c]?=some (.cells z e (0,0))->
  o+i+A.length<=z.size->A.all Value.oneCell'=true->A≠ []->
  (storeCells ⟨c,o,none⟩ A i).run P w= .ok () (bd w c (.cells ⟨bc z.toList (o+i) A⟩ e (0,0)))
 | [],_,_,_,_,_,_,_,hne=>absurd V hne
 |v::A,w,z,o,i,hh,hl,hall,_=>by
  simp only[a0J,a07]at hall;simp only[a0a]at hl;have N:w.cell? ⟨c,o+i,none⟩=some (z[o+i]'M):=by simp[World.cell?,hh,show o+i<z.size by omega]
  have Z:w.frozen? ⟨c,o+i,none⟩=false:=by simp[World.frozen?,hh]
  have U:w.setCell ⟨c,o+i,none⟩ v=bd w c (.cells (z.setIfInBounds (o+i) v) e (0,0)):=by
   unfold World.setCell bd;congr 1;apply a1J;intro k;by_cases E:c=k
   ·subst E;rw[Array.getElem?_modify,if_pos V,hh,a1i,if_pos V,if_pos (cb hh)];simp
   simp[Array.getElem?_modify,E,a1F E]
  have h1:(storeCells ⟨c,o,none⟩ (v::A) i).run P w=(storeCells ⟨c,o,none⟩ A (i+1)).run P (bd w c (.cells (z.setIfInBounds (o+i) v) e (0,0))):=by simp only[storeCells,Sem.run_bind,df];rw[run_store P w _ v _ hall.1,N];simp[Z,U]
  rw[h1];by_cases hv:A=[]
  ·subst hv;simp only[storeCells,Sem.run_pure];congr 3;apply a1J;intro k;simp only[a0g]at hl;rw[a1i];refine Eq.trans ?_ (j7 _ _).symm;rw[bj _ _ _ _ (by simp;omega)];by_cases E:o+i=k
   ·subst E;rw[if_pos V,if_pos M,if_pos (by simp)];simp
   rw[if_neg E,if_neg (by simp;omega)];simp
  have ad:(bd w c (.cells (z.setIfInBounds (o+i) v) e (0,0))).heap[c]?=some (.cells (z.setIfInBounds (o+i) v) e (0,0)):=bL w _ (cb hh);rw[dC c e A _ _ o (i+1) ad (by simp;omega) hall.2 hv];congr 1;have: ∀(x y:Obj),bd (bd w c x) c y=bd w c y:=by intro x y;simp[bd]
  rw[this];congr 2;apply a1J;intro k;refine(j7 _ _).trans (Eq.trans ?_ (j7 _ _).symm);rw[bj _ _ _ _ (by simp;omega),bj _ _ _ _ (by simp;omega)];by_cases E:o+i=k
  ·subst E;rw[if_neg M,if_pos (by simp)];simp[show o+i<z.size by omega]
  by_cases T:o+(i+1)<=k/\k<o+(i+1)+A.length
  ·rw[if_pos T,if_pos (by simp;omega)];rw[show k-(o+i)=(k-(o+(i+1)))+1 by omega,a1I]
  rw[if_neg T,if_neg (by simp;omega)];simp[E]
theorem fY(h:WRel μ H w){b o:Nat}{l:Loc}{E z:List Value}{H':Heap}(hb:μ b=some l)(hs:H.storeL ⟨b,o,none⟩ E=some H')(N:LRel μ E z):
  ∃w',(storeCells ⟨l.c,l.sh+o,none⟩ z).run P w= .ok () w'/\Post μ H w μ H' w':=by
 simp only[Heap.storeL,bE,mP,Nat.add_eq]at hs
 split at hs
 ·rename_i cs a5 hg;cases hq:(Nat.ble (o+E.length) cs.length&&E.all Value.oneCell') with
  |false=>rw[hq]at hs;cases hs
  |true=>
   rw[hq]at hs;simp only[cond_true,a00]at hs
   simp only[a07]at hq
   have U:o+E.length<=cs.length:=a06 hq.1
   obtain⟨r1,A,e,T,r2,r3,r4⟩:=h.obj b l _ hb hg
   have Z:=N.1
   have ar:z.all Value.oneCell'=true:=by
    rw[a0y];intro x hx;obtain⟨i,hi⟩:=List.getElem?_of_mem hx;have al:i<E.length:=by rw[Z];exact(a0q.1 hi).1
    have hr:=N.2 i E[i] x (a05 al) hi;rw[hr.oneCell];exact a0y.1 hq.2 _ (a1t al)
   by_cases an:z=[]
   ·subst an;have hv:E=[]:=by simpa using Z
    subst hv;have ao:bc cs o []=cs:=by apply a1b;intro k;rw[bj _ _ _ _ (by simpa using U),if_neg (by simp)]
    subst hs;refine⟨bd w l.c (.cells A e (0,0)),?_,?_⟩
    ·have:bd w l.c (.cells A e (0,0))=w:=by
      unfold bd;congr 1;apply a1J;intro k;by_cases hk:l.c=k
      ·subst hk;rw[a1i,if_pos V,if_pos (cb T),T]
      rw[a1F hk]
     rw[this];rfl
    refine Post.put h hb hg V _ V _ ⟨r1,A,e,bL w _ (cb T),r2,by rw[ao];exact r3,fun i v hi=>r4 i v (by rw[ao]at hi;exact hi)⟩
   subst hs
   refine⟨_,by simpa using dC (P:=P) l.c e z w A (l.sh+o) 0 T M ar an,?_⟩
   refine Post.put h hb hg V _ V _ ⟨r1,_,e,bL w _ (cb T),?_,?_,?_⟩
   ·rw[←r2];show(bc A.toList (l.sh+o) z).length=_;rw[ce _ _ _ (by simp;omega)];simp
   ·rw[ce _ _ _ U];exact r3
   intro i v hi
   rw[bj _ _ _ _ U]at hi
   have mg: ∀v':Value,(bc A.toList (l.sh+o) z)[l.sh+i]?=some v'->(Array.mk (bc A.toList (l.sh+o+0) z))[l.sh+i]?=some v':=fun v' hv=>(j7 _ _).trans hv
   rw[bj _ _ _ _ (by simp;omega)]at mg
   by_cases hc:o<=i/\i<o+E.length
   ·rw[if_pos hc]at hi;rw[if_pos M]at mg;obtain⟨v',ai,hr⟩:=N.get hi;exact⟨v',mg v' (by rw[←ai];congr 1;omega),hr⟩
   rw[if_neg hc]at hi
   rw[if_neg M]at mg
   obtain⟨v',ai,hr⟩:=r4 i v hi
   exact⟨v',mg v' (by simpa using ai),hr⟩
 cases hs
theorem dj(h:WRel μ H w)(U:μ H.next=none)(e:TypeId){cs A:List Value}(N:LRel μ cs A)(z:List Value)(E:Option Nat)(ad:E=none->z=[]):
  ∃l,l.c=w.heap.size/\l.sh=0/\l.opn=E/\l.csz=cs.length+z.length/\
  (newRow e ⟨A++z⟩).run P w= .ok ⟨w.heap.size,0,none⟩ (w.alloc (.cells ⟨A++z⟩ e))/\
   Post μ H w (μ.set H.next l) (aQ H cs E) (w.alloc (.cells ⟨A++z⟩ e)):=by
 refine⟨⟨w.heap.size,0,E,cs.length+z.length⟩,V,V,V,V,by simp[newRow],?_⟩
 refine Post.push h U _ V _ _ ⟨V,_,e,fC w _,by simp[N.1],by simp,fun i v hi=>?_⟩
 obtain⟨v',T,Z⟩:=N.get hi
 refine⟨v',?_,Z.mono (Emb.set_ext _ U)⟩
 have:i<A.length:=(a0q.1 T).1
 simp only[a1f,j7]
 rw[a0S this];exact T
end mem
end Go.R
namespace Go.R
def ANRel(μ:Emb):AN->Next->Prop
 | .val v,.value v'=>VRel μ v v'
 | .skip,.skip=>True
 | .enter f args,.enter f' args'=>f=f'/\LRel μ args args'.toList
 |_,_=>False
theorem iU(bs:ByteArray): ∀(n i:Nat) (r:List UInt8),bs.size-i=n->ByteArray.toList.loop bs i r=r.reverse++bs.data.toList.drop i:=by
 intro n;induction n with
 |zero=>
  intro i r h
  rw[ByteArray.toList.loop,if_neg M,a21 (by simp only[a1V,ByteArray.size_data];omega),a0r]
 |succ n ih=>
  intro i r h
  have hi:i<bs.size:=M
  rw[ByteArray.toList.loop,if_pos hi,ih (i+1) _ M]
  have z:i<bs.data.toList.length:=by simpa using hi
  rw[a1p z]
  simp[ByteArray.get!,hi]
theorem dr(bs:ByteArray):bs.toList=bs.data.toList:=by unfold ByteArray.toList;rw[iU bs _ 0 [] rfl];simp
section
variable {P:Program} {μ:Emb}
theorem dF{ρ ρ':Operand->Value}{o:Oper}{H H':Heap}{r:AN}(h:bD P ρ o H=some (r,H'))(hs: ∀cs b,o.op≠ .select cs b)
  (U: ∀x∈o.op.operands,VRel μ (ρ x) (ρ' x)):H'=H/\∃v v',r= .val v/\(∀w,(execOp ρ' o).run P w= .ok (.value v') w)/\VRel μ v v':=by
 unfold bD at h
 cases A:o.op.operands.toList.all fun x=>gZ (ρ x) with
 |false=>rw[A]at h;cases h
 |true=>
  rw[A]at h
  have N:execOp ρ' o=execOp ρ o:=execOp_congr o hs fun x E=>(U x E).eq1 (a0y.1 A x (by simpa using E))
  simp only[cond_true]at h
  split at h
  ·rename_i v T;cases z:noA2 v with
   |false=>rw[z]at h;cases h
   |true=>
    rw[z]at h;simp only[cond_true,a00,a01]at h
    obtain⟨rfl,rfl⟩:=h
    exact⟨V,v,v,V,fun w=>by rw[N];exact cO P T w,VRel.refl2 z⟩
  cases h
theorem ka{s:Sem Value}{H H':Heap}{r:AN}(h:lift P s H=some (r,H')):H'=H/\∃v,r= .val v/\aB P s=some v:=by
 unfold lift at h;split at h
 ·rename_i v z;simp only[a00,a01]at h;exact⟨h.2.symm,v,h.1.symm,z⟩
 cases h
theorem intBin_sound{op:BinOp}{k:IntKind}{a b:Int}{v:Value}(h:lv op k a b=some v)(t:TypeId)(w:World):
  (binOp op t (.int k a) (.int k b)).run P w= .ok v w/\noA0 v=true:=by
 cases op<;>simp only[lv,a00,reduceCtorEq]at h
 case quo=>
  cases z:(b==0) with
  |true=>rw[z]at h;cases h
  |false=>
   rw[z]at h;simp only[cond_false,a00]at h;subst h
   have A: ¬b=0:=by simpa using z
   simp[binOp_quo,Op.intDiv,A,noA0]
 case rem=>
  cases z:(b==0) with
  |true=>rw[z]at h;cases h
  |false=>
   rw[z]at h;simp only[cond_false,a00]at h;subst h
   have A: ¬b=0:=by simpa using z
   simp[binOp_rem,Op.intDiv,A,noA0]
 all_goals subst h
 case add=>simp[binOp_add,Op.intArith,noA0]
 case sub=>simp[binOp_sub,Op.intArith,noA0]
 case mul=>simp[binOp_mul,Op.intArith,noA0]
 case and=>simp[binOp_and,intBits_and,noA0,aX]
 case or=>simp[binOp_or,intBits_or,noA0,aX]
 case xor=>simp[binOp_xor,intBits_xor,noA0,aX]
 case andNot=>simp[binOp_andNot,intBits_andNot,noA0,aX]
 case eql=>simp[binOp_eql,noA0]
 case neq=>simp[binOp_neq,noA0]
 case lss=>simp[binOp_lss,noA0]
 case leq=>simp[binOp_leq,noA0]
 case gtr=>simp[binOp_gtr,noA0]
 case geq=>simp[binOp_geq,noA0]
theorem shBin_sound{op:BinOp}{k A:IntKind}{a b:Int}{v:Value}(h:shBin op k a b=some v)(t:TypeId)(w:World):
  (binOp op t (.int k a) (.int A b)).run P w= .ok v w/\noA0 v=true:=by
 cases op<;>simp only[shBin,reduceCtorEq]at h
 all_goals
  cases b with
  |negSucc n=>simp[shiftN]at h
  |ofNat n=>
   simp only[shiftN,a00]at h;subst h
   have z: ¬((n:Int)<0):=M
   simp[binOp_shl,binOp_shr,Op.shift,z,noA0,Nat.min_def]
theorem jQ{op:BinOp}{t:TypeId}{a b:ByteArray}{v:Value}(h:strOp op a b=some v)(w:World):
  (binOp op t (.string a) (.string b)).run P w= .ok v w/\noA0 v=true:=by
 have E:binOp op t (.string a) (.string b)=Op.stringOp op a b:=by cases op<;>rfl
 rw[E]
 unfold strOp at h
 split at h
 ·injection h with h;subst h;simp[Op.stringOp,dr,dH,noA0]
 ·injection h with h;subst h;simp[Op.stringOp,dr,dH,noA0]
 ·injection h with h;subst h;simp[Op.stringOp,dr,noA0]
 ·injection h with h;subst h;simp[Op.stringOp,dr,dH,noA0]
 ·injection h with h;subst h;simp[Op.stringOp,dr,dH,noA0]
 ·injection h with h;subst h;simp[Op.stringOp,dr,noA0]
 ·simp only[dV,bE]at h;cases z:Nat.ble (a.data.toList++b.data.toList).length 1099511627776 with
  |false=>rw[z]at h;cases h
  |true=>
   rw[z]at h;simp only[cond_true,a00]at h;subst h
   have A:=a06 z
   simp only[a04,a1V,ByteArray.size_data]at A
   refine⟨?_,V⟩
   have N: ¬(((a.size+b.size:Nat):Int)>IntKind.i64.max):=by rw[IntKind.max_i64];omega
   simp only[Op.stringOp,if_neg N,Sem.run_pure]
   congr 2
 cases h
theorem lq{a:Option Addr}{v':Value}(h:VRel μ (.pointer a) v'): ∃z,v'= .pointer z/\z.isNone=a.isNone:=by
 cases h with
 |atom _ h0=>exact⟨a,V,V⟩
 |ptr b o l hb=>exact⟨_,V,V⟩
theorem dp{a:Option Addr}{n k:Nat}{v':Value}(h:VRel μ (.slice a n k) v'): ∃z A,v'= .slice z n A/\z.isNone=a.isNone:=by
 cases h with
 |atom _ h0=>exact⟨a,k,V,V⟩
 |sliceC b o n k l hb ho=>exact⟨_,_,V,V⟩
 |sliceO b o o' n k A e l hb ho h1 h2 h3 h4=>exact⟨_,_,V,V⟩
 |sliceZ b o a l hb=>exact⟨_,_,V,V⟩
theorem lu{a:Option Nat}{v':Value}(h:VRel μ (.map a) v'): ∃z,v'= .map z/\z.isNone=a.isNone:=by
 cases h with
 |atom _ h0=>exact⟨a,V,V⟩
 |map b l hb=>exact⟨_,V,V⟩
theorem eo{t:TypeId}{x y:Value}{w:World}{b:Bool}(h: ∀d,(Op.equalIn (d+1) t x y).run P w= .ok b w):(Op.equal t x y).run P w= .ok b w:=h 9999
theorem j6{t:TypeId}{x y T U:Value}{b:Bool}(h:nilEq P t x y=some b)(E:VRel μ x T)(N:VRel μ y U)(w:World):
  (Op.equal t T U).run P w= .ok b w/\(∀op u v,eqGuard op t u v T U=pure ())/\(∀op,op= .eql\/op= .neq->binOp op t T U=(match op with
   | .eql=>do pure (.bool (←Op.equal t T U))
   |_=>do pure (.bool (!(←Op.equal t T U))))):=by
 unfold nilEq at h
 split at h
 ·rename_i e b0 A;obtain rfl:=E.eq0 V;obtain⟨b',rfl,hb⟩:=lq N;injection h with h;subst h;refine⟨?_,fun op u v=>by cases op<;>rfl,fun op z=>by rcases z with rfl|rfl<;>rfl⟩;exact eo fun d=>by simp[Op.equalIn,ak w A,hb]
 ·rename_i e a0 A;obtain rfl:=N.eq0 V;obtain⟨Z,rfl,ha⟩:=lq E;injection h with h;subst h;refine⟨?_,fun op u v=>by cases op<;>rfl,fun op z=>by rcases z with rfl|rfl<;>rfl⟩;exact eo fun d=>by cases Z<;>simp[Op.equalIn,ak w A,←ha]
 ·rename_i e n k b0 n2 k2 A;obtain⟨rfl,rfl,rfl⟩:=E.sliceNil_inv;obtain⟨b',k',rfl,hb⟩:=dp N;injection h with h;subst h;refine⟨?_,fun op u v=>by cases op<;>rfl,fun op z=>by rcases z with rfl|rfl<;>rfl⟩;exact eo fun d=>by simp[Op.equalIn,ak w A,hb]
 ·rename_i e a0 n k n2 k2 A;obtain⟨rfl,rfl,rfl⟩:=N.sliceNil_inv;obtain⟨Z,k',rfl,ha⟩:=dp E;injection h with h;subst h;refine⟨?_,fun op u v=>by cases op<;>rfl,fun op z=>by rcases z with rfl|rfl<;>rfl⟩;exact eo fun d=>by cases Z<;>simp[Op.equalIn,ak w A,←ha]
 ·rename_i e1 e2 b0 A;obtain rfl:=E.eq0 V;obtain⟨b',rfl,hb⟩:=lu N;injection h with h;subst h;refine⟨?_,fun op u v=>by cases op<;>rfl,fun op z=>by rcases z with rfl|rfl<;>rfl⟩;exact eo fun d=>by simp[Op.equalIn,ak w A,hb]
 ·rename_i e1 e2 a0 A;obtain rfl:=N.eq0 V;obtain⟨Z,rfl,ha⟩:=lu E;injection h with h;subst h;refine⟨?_,fun op u v=>by cases op<;>rfl,fun op z=>by rcases z with rfl|rfl<;>rfl⟩;exact eo fun d=>by cases Z<;>simp[Op.equalIn,ak w A,←ha]
 ·rename_i ps rs va A;obtain rfl:=E.eq0 V;obtain rfl:=N.eq0 V;injection h with h;subst h;refine⟨?_,fun op u v=>by cases op<;>rfl,fun op z=>by rcases z with rfl|rfl<;>rfl⟩;exact eo fun d=>by simp[Op.equalIn,ak w A]
 ·rename_i ps rs va fn xs ys A;obtain rfl:=E.eq0 V;obtain⟨ar,av,rfl,_,_⟩:=N.func_inv;injection h with h;subst h;refine⟨?_,fun op u v=>by cases op<;>rfl,fun op z=>by rcases z with rfl|rfl<;>rfl⟩;exact eo fun d=>by simp[Op.equalIn,ak w A]
 ·rename_i ps rs va fn xs ys A;obtain rfl:=N.eq0 V;obtain⟨ar,av,rfl,_,_⟩:=E.func_inv;injection h with h;subst h;refine⟨?_,fun op u v=>by cases op<;>rfl,fun op z=>by rcases z with rfl|rfl<;>rfl⟩;exact eo fun d=>by simp[Op.equalIn,ak w A]
 cases h
theorem part_rel{t:TypeId}{cs z:Array Value}{off:Nat}{v:Value}(N:LRel μ cs.toList z.toList)(h:aB P (part t cs off)=some v):
  ∃v',aB P (part t z off)=some v'/\VRel μ v v':=by
 unfold part at h⊢
 simp only[aJ,fu]at h⊢
 cases E:aggOf P t with
 |none=>rw[E]at h;simp at h
 |some g=>
  rw[E]at h
  cases g with
  |true=>
   simp only[a0l,if_true,aJ,cF]at h⊢
   cases hs:cY P t with
   |none=>rw[hs]at h;simp at h
   |some n=>
    rw[hs]at h
    simp only[a0l,bG,a00]at h⊢
    subst h
    refine⟨_,V,?_⟩
    have:=(N.take (off+n)).drop off
    have ex: ∀c:Array Value,(c.extract off (off+n)).toList=(c.toList.take (off+n)).drop off:=fun c=>by simp[a2k]
    exact .agg _ _ (by rw[ex,ex];exact this.1) (by rw[ex,ex];exact this.2)
  |false=>
   simp only[a0l,a0O,if_false]at h⊢
   cases hc:cs[off]? with
   |none=>rw[hc]at h;simp at h
   |some u=>
    rw[hc]at h
    simp only[bG,a00]at h;subst h
    obtain⟨v',T,A⟩:=N.get (i:=off) (v:=u) (by simpa using hc)
    refine⟨v',?_,A⟩
    have:z[off]?=some v':=by simpa using T
    rw[this];rfl
theorem field_rel{t:TypeId}{x E:Value}{f:Nat}{v:Value}(T:VRel μ x E)(h:aB P (Instr.field t x f)=some v):
  ∃v',aB P (Instr.field t E f)=some v'/\VRel μ v v':=by
 unfold Instr.field at h⊢
 simp only[aJ,bC]at h⊢
 cases A:P.underlying t with
 |none=>rw[A]at h;simp at h
 |some d=>
  rw[A]at h
  simp only[a0l]at h⊢
  cases d with
  |struct fields=>
   simp only at h⊢
   cases z:fields[f]? with
   |none=>rw[z]at h;simp at h
   |some fd=>
    rw[z]at h
    simp only[aJ]at h⊢
    cases x with
    |agg cs=>
     obtain⟨U,rfl,N⟩:=T.agg_inv
     simp only[asAgg,bG,a0l]at h⊢
     exact part_rel N h
    |_=>simp[asAgg]at h
  |_=>simp at h
theorem index_rel{t:TypeId}{x N i i':Value}{v:Value}(U:VRel μ x N)(hi:VRel μ i i')(A: ∀s,x≠ .string s)(h:aB P (Instr.index t x i)=some v):
  ∃v',aB P (Instr.index t N i')=some v'/\VRel μ v v':=by
 cases i with
 |int k n=>
  obtain rfl:=hi.int_inv
  unfold Instr.index at h⊢
  simp only[asIntOf,aJ,bG,a0l,bC]at h⊢
  cases E:P.underlying t with
  |none=>rw[E]at h;simp at h
  |some d=>
   rw[E]at h
   simp only[a0l]at h⊢
   cases d with
   |array len e=>
    cases x with
    |agg cs=>
     obtain⟨Z,rfl,T⟩:=U.agg_inv
     simp only at h⊢
     by_cases z:0<=n/\n<(len:Int)
     ·rw[if_pos z]at h⊢;simp only[aJ,cF]at h⊢;cases hs:cY P e with
      |none=>rw[hs]at h;simp at h
      |some sz=>rw[hs]at h;simp only[a0l]at h⊢;exact part_rel T h
     rw[if_neg z,gL]at h;cases h
    |_=>simp at h
   |string=>
    cases x with
    |string s=>exact absurd V (A s)
    |_=>simp at h
   |_=>simp at h
 |pointer a=>cases a<;>simp[Instr.index,asIntOf]at h
 |_=>simp[Instr.index,asIntOf]at h
theorem im: ∀(l l':List Value) (s off:Nat) (A N:Array Value),LRel μ l l'->LRel μ A.toList N.toList->
  LRel μ ((l.zipIdx s).foldl (fun cs p=>cs.setIfInBounds (off+p.2) p.1) A).toList ((l'.zipIdx s).foldl (fun cs p=>cs.setIfInBounds (off+p.2) p.1) N).toList
 | [],l',s,off,A,N,h,hA=>by rw[h.nil_left];exact hA
 |v::l,l',s,off,A,N,h,hA=>by
  obtain⟨v',t',rfl,Z,U⟩:=h.cons_left;simp only[List.zipIdx_cons,List.foldl_cons];refine im l t' (s+1) off _ _ U ⟨by simpa using hA.1,fun i x x' z E=>?_⟩;simp only[Array.toList_setIfInBounds,a24]at z E;have T:=hA.1;by_cases hi:off+s=i
  ·rw[if_pos hi]at z E;split at z
   ·rename_i ai;rw[if_pos M]at E;injection z with z;injection E with E;subst z E;exact Z
   cases z
  rw[if_neg hi]at z E;exact hA.2 i x x' z E
theorem jE{z:Nat->Option (Nat×Nat)}: ∀(ps ps':List (Nat×Value)) (A A':Array Value) (r:Array Value),ps.length=ps'.length->
  (∀(i:Nat) x E,ps[i]?=some x->ps'[i]?=some E->x.1=E.1/\VRel μ x.2 E.2)->LRel μ A.toList A'.toList->Instr.fill z A ps=some r->
  ∃r',Instr.fill z A' ps'=some r'/\LRel μ r.toList r'.toList
 | [],ps',A,A',r,hl,_,hA,h=>by have:ps'=[]:=a0v hl.symm;subst this;simp only[Instr.fill,a00]at h;subst h;exact⟨A',V,hA⟩
 |(i,v)::ps,ps',A,A',r,hl,hp,hA,h=>by
  cases ps' with
  |nil=>simp at hl
  |cons E ps'=>
   obtain⟨i',v'⟩:=E
   obtain⟨hi,hv⟩:=hp 0 (i,v) (i',v') V V
   simp only at hi hv;subst hi
   simp only[Instr.fill]at h⊢
   cases T:z i with
   |none=>rw[T]at h;cases h
   |some os=>
    obtain⟨off,size⟩:=os
    rw[T]at h
    simp only at h⊢
    have hc:=hv.cells
    have Z:v'.cells.size=v.cells.size:=by have:=hc.1;simpa using this.symm
    have U:A'.size=A.size:=by have:=hA.1;simpa using this.symm
    rw[Z,U]
    split at h
    ·cases h
    rename_i N
    rw[if_neg N]
    refine jE ps ps' _ _ r (by simpa using hl) (fun j x E h1 h2=>hp (j+1) x E (by simpa using h1) (by simpa using h2)) ?_ h
    have:=im v.cells.toList v'.cells.toList 0 off A A' hc hA
    have e: ∀(u:Value) (B:Array Value),Array.foldl (fun cs x=>cs.setIfInBounds (off+x.snd) x.fst) B u.cells.zipIdx=List.foldl (fun cs p=>cs.setIfInBounds (off+p.snd) p.fst) B u.cells.toList.zipIdx:=fun u B=>by rw[←Array.foldl_toList,Array.toList_zipIdx]
    exact(e v A▸e v' A'▸this:LRel μ (Array.foldl (fun cs x=>cs.setIfInBounds (off+x.snd) x.fst) A v.cells.zipIdx).toList (Array.foldl (fun cs x=>cs.setIfInBounds (off+x.snd) x.fst) A' v'.cells.zipIdx).toList)
end
end Go.R
namespace Go.R
section
variable {P:Program} {μ:Emb}
theorem build_rel{t:TypeId}{ps ps':Array (Nat×Value)}{v:Value}(Z:ps.toList.length=ps'.toList.length)
  (hp: ∀(i:Nat) x x',ps.toList[i]?=some x->ps'.toList[i]?=some x'->x.1=x'.1/\VRel μ x.2 x'.2)
  (hz:(cJ P t).isSome=true) (h:aB P (Instr.build t ps)=some v):
  ∃v',aB P (Instr.build t ps')=some v'/\VRel μ v v':=by
 unfold Instr.build at h⊢
 have an:aB P (zeroValue t)=(P.info? t).bind (·.zero):=by
  unfold zeroValue;simp only[aJ,db];cases hi:P.info? t with
  |none=>rfl
  |some i=>simp only[a0l];cases i.zero<;>rfl
 simp only[aJ,an,bC]at h⊢
 cases hi:(P.info? t).bind (·.zero) with
 |none=>rw[hi]at h;simp at h
 |some z=>
  rw[hi]at h
  have T:LRel μ z.cells.toList z.cells.toList:=by obtain⟨zl,al⟩:=Option.isSome_iff_exists.1 hz;obtain⟨i,v0,h1,h2,h3,h4⟩:=ev (P:=P) al;rw[h1]at hi;simp only[a0l,h2,a00]at hi;subst hi;exact LRel.refl0 (by rw[h3];exact h4)
  simp only[a0l]at h⊢
  cases hu:P.underlying t with
  |none=>rw[hu]at h;simp at h
  |some d=>
   rw[hu]at h
   simp only[a0l]at h⊢
   cases d with
   |struct fields=>
    simp only[aJ]at h⊢
    cases hm:aB P (fields.mapM fun f=>do let y ←sizeOf f.type;Pure.pure (f.offset,y)) with
    |none=>rw[hm]at h;simp at h
    |some places=>
     rw[hm]at h
     simp only[a0l]at h⊢
     cases E:Instr.fill (fun x=>places[x]?) z.cells ps.toList with
     |none=>rw[E]at h;simp at h
     |some r=>
      rw[E]at h
      simp only[bG,a00]at h
      subst h
      obtain⟨U,N,A⟩:=jE _ _ _ _ _ Z hp T E
      exact⟨.agg U,by rw[N];rfl,.agg _ _ A.1 A.2⟩
   |array n e=>
    simp only[aJ,cF]at h⊢
    cases hs:cY P e with
    |none=>rw[hs]at h;simp at h
    |some sz=>
     rw[hs]at h
     simp only[a0l]at h⊢
     cases E:Instr.fill (fun i=>some (i *sz,sz)) z.cells ps.toList with
     |none=>rw[E]at h;simp at h
     |some r=>
      rw[E]at h
      simp only[bG,a00]at h
      subst h
      obtain⟨U,N,A⟩:=jE _ _ _ _ _ Z hp T E
      exact⟨.agg U,by rw[N];rfl,.agg _ _ A.1 A.2⟩
   |_=>simp at h
theorem fo{v v':Value}{n:Nat}(h:jt v=some n)(z:VRel μ v v'): ∃k,v'= .int k (n:Int):=by
 unfold jt at h;split at h
 ·rename_i k m;injection h with h;subst h;exact⟨k,z.int_inv⟩
 cases h
theorem aField_sound{s:TypeId}{x N:Value}{f:Nat}{v:Value}(h:iB P s x f=some v)(hx:VRel μ x N):
  ∃v',(∀w,(Instr.fieldAt s N f).run P w= .ok v' w)/\VRel μ v v':=by
 unfold iB at h
 split at h
 ·rename_i fs b o hu;split at h
  ·rename_i A U;split at h
   ·rename_i n Z;cases z:Nat.beq n 0 with
    |true=>rw[z]at h;cases h
    |false=>
     rw[z]at h;simp only[cond_false,a00]at h;subst h
     obtain⟨l,T,rfl⟩:=hx.ptr_inv
     have E: ¬n=0:=fun e=>by subst e;cases z
     refine⟨_,fun w=>?_,a1w l.sh o A.offset▸VRel.ptr b (o+A.offset) l T⟩
     simp[Instr.fieldAt,ak w hu,U,Instr.sureAddr,fieldPlace,aZ w Z,E,df,a1w]
   cases h
  cases h
 cases h
theorem ju{t:TypeId}{x x' i i':Value}{v:Value}(h:du P t x i=some v)(hx:VRel μ x x')(hi:VRel μ i i'):
  ∃v',(∀w,(Instr.indexAt t x' i').run P w= .ok v' w)/\VRel μ v v':=by
 unfold du at h
 split at h
 ·rename_i e b o n k j E U;obtain⟨ik,rfl⟩:=fo U hi;split at h
  ·rename_i sz hs;cases z:(Nat.ble (j+1) n&&Nat.ble n k) with
   |false=>rw[z]at h;cases h
   |true=>
    rw[z]at h;simp only[cond_true,a00]at h;subst h
    simp only[a07]at z
    have h1:j+1<=n:=a06 z.1
    have h2:n<=k:=a06 z.2
    obtain⟨l,T,hc⟩:=hx.slice_inv
    have A:VRel μ (.pointer (some ⟨b,o+j *sz,none⟩)) (.pointer (some ⟨l.c,l.sh+o+j *sz,none⟩)):=
     a1w l.sh o (j *sz)▸VRel.ptr b (o+j *sz) l T
    have N:(j:Int)<(n:Int):=M
    rcases hc with⟨_,rfl⟩|⟨e',o',k',_,rfl,_,_,Z,_⟩|⟨hz,_,_⟩
    rotate_right
    ·omega
    ·refine⟨_,fun w=>?_,A⟩;simp[Instr.indexAt,asIntOf,ak w E,aZ w hs,df];omega
    have ho:o'=l.sh+o:=Z M
    subst ho
    refine⟨_,fun w=>?_,A⟩
    simp[Instr.indexAt,asIntOf,ak w E,aZ w hs,df]
    omega
  cases h
 ·rename_i n e b o j E U;obtain⟨ik,rfl⟩:=fo U hi;split at h
  ·rename_i sz hs;cases z:Nat.ble (j+1) n with
   |false=>rw[z]at h;cases h
   |true=>
    rw[z]at h;simp only[cond_true,a00]at h;subst h
    have h1:j+1<=n:=a06 z
    obtain⟨l,T,rfl⟩:=hx.ptr_inv
    refine⟨_,fun w=>?_,a1w l.sh o (j *sz)▸VRel.ptr b (o+j *sz) l T⟩
    have N:(j:Int)<(n:Int):=M
    have h0:(0:Int)<=(j:Int)/\(j:Int)<(n:Int):=⟨by omega,N⟩
    simp only[Instr.indexAt,asIntOf,ak w E,aZ w hs,df,Instr.sureAddr,Sem.run_bind,Sem.run_pure,Result.andThen_ok,if_pos h0,a1O]
  cases h
 cases h
theorem strIndex_run{t:TypeId}{s:ByteArray}{k:IntKind}{j:Nat}{b:UInt8}(N:P.underlying t=some .string)(z:s.data.toList[j]?=some b)(w:World):
  (Instr.index t (.string s) (.int k (j:Int))).run P w= .ok (.int .u8 b.toNat) w:=by
 have A:j<s.size:=by have:=(a0q.1 z).1;simpa using this
 have E:s[j]?=some b:=by rw[getElem?_pos s j A];have:=(a0q.1 z).2;rw[←this];rfl
 simp[Instr.index,asIntOf,ak w N,E]
theorem jI{ops:Array Operand}{ρ ρ':Operand->Value}(h: ∀x∈ops,VRel μ (ρ x) (ρ' x)):LRel μ (ops.map ρ).toList (ops.map ρ').toList:=by refine⟨by simp,fun i v v' A E=>?_⟩;simp only[a29,a1n,a22]at A E;obtain⟨x,N,rfl⟩:=A;obtain⟨y,z,rfl⟩:=E;rw[N]at z;injection z with z;subst z;exact h x (by simpa using a0n N)
theorem mR{t:TypeId}{x N:Value}{f:Nat}{v:Value}(h:gY P t x f=some v)(hx:VRel μ x N):
  ∃v',(∀w,(Instr.field t N f).run P w= .ok v' w)/\VRel μ v v':=by
 unfold gY at h
 split at h
 ·rename_i cs;split at h
  ·rename_i g n off z;have hp:aB P (Instr.field t (.agg cs) f)=some v:=by
    unfold fieldAt? at z;split at z
    ·rename_i fs hu;split at z
     ·rename_i T A;split at z
      ·rename_i U n' Z hn;simp only[a00,a01]at z;obtain⟨rfl,rfl,rfl⟩:=z;unfold Instr.field part;simp only[aJ,bC,hu,a0l,A,asAgg,bG,fu,Z];unfold partL at h;cases U with
       |true=>
        simp only[cond_true,a00,bV,bZ]at h
        simp only[if_true,aJ,cF,hn,a0l,bG,a00]
        subst h
        congr 1
        apply Array.ext'
        simp
       |false=>
        simp only[cond_false,fV]at h
        simp only[a0O,if_false]
        have hc:cs[T.offset]?=some v:=by simpa using h
        rw[hc];rfl
      cases z
     cases z
    cases z
   obtain⟨v',E,hr⟩:=field_rel hx hp;exact⟨v',fun w=>cO P E w,hr⟩
  cases h
 cases h
theorem cx{r:Option Value}{H H':Heap}{n:AN}(h:ovl r H=some (n,H')):H'=H/\∃v,r=some v/\n= .val v:=by
 unfold ovl at h;split at h
 ·rename_i v;simp only[a00,a01]at h;exact⟨h.2.symm,v,V,h.1.symm⟩
 cases h
theorem iM{op:BinOp}{r:Option Bool}{H H':Heap}{n:AN}(h:nilBin op r H=some (n,H')):
  H'=H/\∃b,r=some b/\((op= .eql/\n= .val (.bool b))\/(op= .neq/\n= .val (.bool (!b)))):=by
 unfold nilBin at h
 split at h
 ·rename_i b;split at h
  ·simp only[a00,a01]at h;exact⟨h.2.symm,b,V,.inl ⟨V,h.1.symm⟩⟩
  ·simp only[a00,a01]at h;exact⟨h.2.symm,b,V,.inr ⟨V,h.1.symm⟩⟩
  cases h
 cases h
theorem jN{ρ ρ':Operand->Value}{o:Oper}{H H':Heap}{r:AN}(hk:aU o.op=true)
  (N: ∀x∈o.op.operands,VRel μ (ρ x) (ρ' x)) (h:aop P ρ o H=some (r,H')):
  H'=H/\∃v v',r= .val v/\(∀w,(execOp ρ' o).run P w= .ok (.value v') w)/\VRel μ v v':=by
 obtain⟨bl,op,type,pos,after,a6⟩:=o
 cases op<;>simp only[aU,a0O]at hk
 case move x=>
  simp only[aop,a00,a01]at h
  obtain⟨rfl,rfl⟩:=h
  exact⟨V,_,ρ' x,V,fun w=>rfl,N x (by simp[Op.operands])⟩
 case assign x=>
  simp only[aop,a00,a01]at h
  obtain⟨rfl,rfl⟩:=h
  exact⟨V,_,ρ' x,V,fun w=>rfl,N x (by simp[Op.operands])⟩
 case pick c a b=>
  simp only[aop,ga]at h
  split at h
  ·rename_i t ht;simp only[a00,a01]at h;obtain⟨rfl,rfl⟩:=h;have hc:ρ' c= .bool t:=by have:=N c (by simp[Op.operands]);rw[ht]at this;exact this.bool_inv
   refine⟨V,_,(if t then ρ' a else ρ' b),V,fun w=>?_,?_⟩
   ·simp[execOp,hc,asBool]
   cases t
   ·exact N b (by simp[Op.operands])
   exact N a (by simp[Op.operands])
  cases h
 case build t parts=>
  simp only[aop,gM]at h
  split at h
  case h_2=>cases h
  rename_i z hz
  obtain⟨rfl,v,rfl,A⟩:=ka h
  obtain⟨v',T,U⟩:=build_rel (μ:=μ) (ps:=parts.map fun p=>(p.1,ρ p.2)) (ps':=parts.map fun(i,x)=>(i,ρ' x)) (by simp) (fun i x x' h1 h2=>by
   simp only[a29,a1n,a22]at h1 h2;obtain⟨y,hy,rfl⟩:=h1;obtain⟨z,hz,rfl⟩:=h2;rw[hy]at hz;injection hz with hz;subst hz;refine⟨V,N _ ?_⟩;have:=a0n hy;simp only[Op.operands,List.mem_toArray,a0u];exact⟨y,this,V⟩) (by rw[hz];rfl) A
  exact⟨V,v,v',V,fun w=>by simp only[execOp,Sem.run_bind,cO P T w,Result.andThen_ok,Sem.run_pure],U⟩
 case nilCheck x=>
  simp only[aop,opNil]at h
  split at h
  ·rename_i a ha;simp only[a00,a01]at h;obtain⟨rfl,rfl⟩:=h;have E:=N x (by simp[Op.operands]);rw[ha]at E;obtain⟨_,a',a1⟩:=E.ptr_some;exact⟨V,_,ρ' x,V,fun w=>by simp[execOp,a1],E⟩
  ·rename_i f a c ha;simp only[a00,a01]at h;obtain⟨rfl,rfl⟩:=h;have E:=N x (by simp[Op.operands]);rw[ha]at E;obtain⟨a',c',a2,_,_⟩:=E.func_inv;exact⟨V,_,ρ' x,V,fun w=>by simp[execOp,a2],E⟩
  cases h
 case binOp op t x y yt=>
  have E:=N x (by simp[Op.operands])
  have hy:=N y (by simp[Op.operands])
  simp only[aop,aBin]at h
  split at h
  ·rename_i k a ha;rw[ha]at E;unfold binInt at h;split at h
   ·rename_i k' b Z;rw[Z]at hy;obtain⟨rfl,v,A,rfl⟩:=cx h;have key: ∀w,(binOp op t (.int k a) (.int k' b)).run P w= .ok v w/\noA0 v=true:=by
     intro w;cases hs:kf op with
     |true=>rw[hs]at A;exact shBin_sound A t w
     |false=>
      rw[hs]at A
      simp only[cond_false]at A
      cases he:ke k k' with
      |false=>rw[he]at A;cases A
      |true=>
       rw[he]at A
       have:k=k':=by simpa[ke] using he
       subst this
       exact intBin_sound A t w
    refine⟨V,v,v,V,fun w=>?_,.atom v (key default).2⟩;simp only[execOp,E.int_inv,hy.int_inv,eqGuard_at_int,pure_bind,Sem.run_bind,(key w).1,Result.andThen_ok,Sem.run_pure]
   cases h
  ·rename_i a ha;rw[ha]at E;unfold binStr at h;split at h
   ·rename_i b Z;rw[Z]at hy;obtain⟨rfl,v,A,rfl⟩:=cx h;refine⟨V,v,v,V,fun w=>?_,.atom v (jQ (P:=P) (t:=t) A default).2⟩;simp only[execOp,E.string_inv,hy.string_inv,eqGuard_at_string,pure_bind,Sem.run_bind,(jQ (P:=P) (t:=t) A w).1,Result.andThen_ok,Sem.run_pure]
   cases h
  unfold mK at h
  split at h
  ·exact dF h (fun _ _=>by simp) N
  ·exact dF h (fun _ _=>by simp) N
  obtain⟨rfl,b,Z,ao⟩:=iM h
  rcases ao with⟨rfl,rfl⟩|⟨rfl,rfl⟩
  ·refine⟨V,_,_,V,fun w=>?_,.atom (.bool b) V⟩;obtain⟨h1,h2,h3⟩:=j6 (P:=P) Z E hy w;simp only[execOp,h2,pure_bind,h3 .eql (.inl V),Sem.run_bind,h1,Result.andThen_ok,Sem.run_pure]
  refine⟨V,_,_,V,fun w=>?_,.atom (.bool (!b)) V⟩
  obtain⟨h1,h2,h3⟩:=j6 (P:=P) Z E hy w
  simp only[execOp,h2,pure_bind,h3 .neq (.inr V),Sem.run_bind,h1,Result.andThen_ok,Sem.run_pure]
 case unOp op t x=>
  have E:=N x (by simp[Op.operands])
  simp only[aop,aUn]at h
  split at h
  ·rename_i b Z;rw[Z]at E;split at h
   ·simp only[a00,a01]at h;obtain⟨rfl,rfl⟩:=h;exact⟨V,_,_,V,fun w=>by simp[execOp,E.bool_inv,Op.unary],.atom (.bool (!b)) V⟩
   cases h
  exact dF h (fun _ _=>by simp) N
 case makeFunc fn first captured=>
  simp only[aop,a00,a01]at h
  obtain⟨rfl,rfl⟩:=h
  have h1:=jI (μ:=μ) (ops:=first) (ρ:=ρ) (ρ':=ρ') fun x E=>N x (by simp[Op.operands,E])
  have h2:=jI (μ:=μ) (ops:=captured) (ρ:=ρ) (ρ':=ρ') fun x E=>N x (by simp[Op.operands,E])
  exact⟨V,_,_,V,fun w=>rfl,.func _ _ _ _ _ h1.1 h2.1 h1.2 h2.2⟩
 case fieldAddr s x f=>
  simp only[aop]at h
  obtain⟨rfl,v,A,rfl⟩:=cx h
  obtain⟨v',T,U⟩:=aField_sound A (N x (by simp[Op.operands]))
  exact⟨V,v,v',V,fun w=>by simp only[execOp,Sem.run_bind,T w,Result.andThen_ok,Sem.run_pure],U⟩
 case field t x f=>
  simp only[aop]at h
  obtain⟨rfl,v,A,rfl⟩:=cx h
  obtain⟨v',T,U⟩:=mR A (N x (by simp[Op.operands]))
  exact⟨V,v,v',V,fun w=>by simp only[execOp,Sem.run_bind,T w,Result.andThen_ok,Sem.run_pure],U⟩
 case indexAddr t x i=>
  simp only[aop]at h
  obtain⟨rfl,v,A,rfl⟩:=cx h
  obtain⟨v',T,U⟩:=ju A (N x (by simp[Op.operands])) (N i (by simp[Op.operands]))
  exact⟨V,v,v',V,fun w=>by simp only[execOp,Sem.run_bind,T w,Result.andThen_ok,Sem.run_pure],U⟩
 case index t x i=>
  have E:=N x (by simp[Op.operands])
  have hi:=N i (by simp[Op.operands])
  simp only[aop,kL]at h
  split at h
  ·rename_i s hs;rw[hs]at E;obtain⟨rfl,v,A,rfl⟩:=cx h;unfold strAt at A;split at A
   ·rename_i j hu hj;obtain⟨k,hk⟩:=fo hj hi;rw[fV]at A;split at A
    ·rename_i b Z;injection A with A;subst A;exact⟨V,_,_,V,fun w=>by simp only[execOp,E.string_inv,hk,Sem.run_bind,strIndex_run hu Z w,Result.andThen_ok,Sem.run_pure],.atom _ V⟩
    cases A
   cases A
  rename_i a3
  obtain⟨rfl,v,rfl,A⟩:=ka h
  obtain⟨v',T,U⟩:=index_rel E hi (fun s hs=>a3 s hs) A
  exact⟨V,v,v',V,fun w=>by simp only[execOp,Sem.run_bind,cO P T w,Result.andThen_ok,Sem.run_pure],U⟩
 case extract x i=>
  simp only[aop]at h
  have E:=N x (by simp[Op.operands])
  obtain⟨rfl,v,A,rfl⟩:=cx h
  unfold gy at A
  split at A
  ·rename_i vs a4;rw[a4]at E;obtain⟨a5,ay,U⟩:=E.tuple_inv;rw[fV]at A;obtain⟨v',T,ax⟩:=U.get A;have hg:a5[i]?=some v':=by simpa using T
   exact⟨V,v,v',V,fun w=>by simp[execOp,ay,Instr.extract,hg],ax⟩
  cases A
end
end Go.R
namespace Go.R
theorem ep(l:List Value): ∀n,(cz n l).length=n *l.length
 |0=>by simp[cz]
 |n+1=>by simp only[cz,a04,ep l n];rw[a13];omega
theorem lI(l:List Value): ∀(n i:Nat),i<n *l.length->(cz n l)[i]?=l[i%l.length]?
 |0,i,h=>by simp at h
 |n+1,i,h=>by
  simp only[cz];by_cases hi:i<l.length
  ·rw[a0S hi,Nat.mod_eq_of_lt hi]
  rw[a13,Nat.one_mul]at h;rw[a11 M,lI l n (i-l.length) M];congr 1;exact(Nat.mod_eq_sub_mod M).symm
theorem zeros_eq(z:Array Value)(n:Nat):(Array.range (n *z.size)).map (fun i=>z[i%z.size]!)=⟨cz n z.toList⟩:=by
 apply a1J;intro i;refine Eq.trans ?_ (j7 _ _).symm;by_cases hi:i<n *z.size
 ·rw[lI _ _ _ (by simpa using hi)];have E:0<z.size:=by
   rcases a1D z.size with h|h
   ·rw[h]at hi;simp at hi
   exact h
  have A:i%z.size<z.size:=Nat.mod_lt _ E;simp[hi,A]
 rw[a0L (by rw[ep];simpa using hi)];simp[hi]
theorem gU{l:List Value}(h:l.all noA0=true): ∀n,(cz n l).all noA0=true
 |0=>rfl
 |n+1=>by simp only[cz,a2g,h,gU h n,a1q]
section
variable {P:Program} {μ:Emb} {H H':Heap} {w:World}
def OpOK(P:Program)(μ:Emb)(H:Heap)(w:World)(s:Sem Next)(r:AN)(H':Heap):Prop:=
 ∃n w' μ',s.run P w= .ok n w'/\Post μ H w μ' H' w'/\ANRel μ' r n
theorem OpOK.value{s:Sem Value}{v v':Value}{w':World}{μ':Emb}(h:s.run P w= .ok v' w')(z:Post μ H w μ' H' w')(A:VRel μ' v v'):
  OpOK P μ H w (do Pure.pure (.value (←s))) (.val v) H':=
 ⟨.value v',w',μ',by simp only[Sem.run_bind,h,Result.andThen_ok,Sem.run_pure],z,A⟩
theorem OpOK.skip{s:Sem Unit}{w':World}{μ':Emb}(h:s.run P w= .ok () w')(z:Post μ H w μ' H' w'):
  OpOK P μ H w (do s;Pure.pure .skip) .skip H':=
 ⟨.skip,w',μ',by simp only[Sem.run_bind,h,Result.andThen_ok,Sem.run_pure],z,trivial⟩
theorem j3{r:Option (Value×Heap)}{n:AN}(h:ovh r=some (n,H')): ∃v,r=some (v,H')/\n= .val v:=by
 unfold ovh at h;split at h
 ·simp only[a00,a01]at h;obtain⟨rfl,rfl⟩:=h;exact⟨_,V,V⟩
 cases h
theorem mp{r:Option Heap}{n:AN}(h:osk r=some (n,H')):r=some H'/\n= .skip:=by
 unfold osk at h;split at h
 ·simp only[a00,a01]at h;obtain⟨rfl,rfl⟩:=h;exact⟨V,V⟩
 cases h
theorem ij(h:WRel μ H w)(hf:μ H.next=none)(e:TypeId){cs z:List Value}(A:LRel μ cs z):
  ∃l,l.c=w.heap.size/\l.sh=0/\l.opn=none/\(newRow e ⟨z⟩).run P w= .ok ⟨w.heap.size,0,none⟩ (w.alloc (.cells ⟨z⟩ e))/\
   Post μ H w (μ.set H.next l) (aQ H cs none) (w.alloc (.cells ⟨z⟩ e)):=by
 obtain⟨l,T,U,Z,_,E,N⟩:=dj (P:=P) h hf e A [] none (fun _=>rfl)
 simp only[a0r]at E N
 exact⟨l,T,U,Z,E,N⟩
theorem alloc_sound{e:TypeId}{r:AN}(h:WRel μ H w)(hf: ∀b,H.next<=b->b<H'.next->μ b=none)(A:eC P e H=some (r,H')):
  OpOK P μ H w (do Pure.pure (.value (←Instr.alloc e true (.tuple #[])))) r H':=by
 unfold eC at A
 split at A
 ·rename_i z hz;simp only[a00,a01]at A;obtain⟨rfl,rfl⟩:=A;obtain⟨i,v,hi,hv,hc,E⟩:=ev (P:=P) hz;obtain⟨l,U,Z,h3,N,hp⟩:=ij (P:=P) h (hf H.next (a0b _) (by simp[aQ])) e (LRel.refl0 (μ:=μ) E);have T:v.cells=⟨z⟩:=by rw[←hc]
  refine OpOK.value (v':= .pointer (some ⟨w.heap.size,0,none⟩)) ?_ hp ?_
  ·simp only[Instr.alloc,Sem.run_bind,dB w hi hv,Result.andThen_ok,newVar,T,N,Sem.run_pure]
  have:=VRel.ptr (μ:=μ.set H.next l) H.next 0 l (Emb.set_same _ _ _);rw[U,Z]at this;exact this
 cases A
theorem box_sound{e:TypeId}{x A:Value}(h:WRel μ H w)(T:μ H.next=none)(Z:VRel μ x A):
  OpOK P μ H w (do Pure.pure (.value (←Instr.box e A))) (.val (ptrTo H.next)) (aQ H x.cells.toList none):=by
 obtain⟨l,E,N,h3,z,U⟩:=ij (P:=P) h T e Z.cells
 refine OpOK.value (v':= .pointer (some ⟨w.heap.size,0,none⟩)) ?_ U ?_
 ·simp only[Instr.box,newVar,Sem.run_bind,z,Result.andThen_ok,Sem.run_pure]
 have:=VRel.ptr (μ:=μ.set H.next l) H.next 0 l (Emb.set_same _ _ _)
 rw[E,N]at this;exact this
theorem kO{t:TypeId}{sz:Nat}{z:List Value}(h:d7 P t=some (sz,z)): ∃e,P.underlying t=some (.slice e)/\cY P e=some sz/\cJ P e=some z/\z.length=sz:=by
 unfold d7 at h;split at h
 ·rename_i e E;split at h
  ·rename_i T U hs N;cases A:Nat.beq (eu U) T with
   |false=>rw[A]at h;cases h
   |true=>
    rw[A]at h;simp only[cond_true,a00,a01]at h
    obtain⟨rfl,rfl⟩:=h
    exact⟨e,E,hs,N,by rw[←bE];exact a09 A⟩
  cases h
 cases h
theorem js{t:TypeId}{n:Nat}{ps:List (Nat×Value)}{ps':Array (Nat×Value)}{r:AN}(h:WRel μ H w)(hf: ∀b,H.next<=b->b<H'.next->μ b=none)
  (hl:ps.length=ps'.toList.length) (hp: ∀(i:Nat) x x',ps[i]?=some x->ps'.toList[i]?=some x'->x.1=x'.1/\VRel μ x.2 x'.2)
  (E:bN P t n ps H=some (r,H')):OpOK P μ H w (do Pure.pure (.value (←Instr.buildSlice t n ps'))) r H':=by
 unfold bN at E
 split at E
 ·rename_i sz z ar;obtain⟨e,hu,hs,hz,T⟩:=kO ar;cases hq:Nat.ble (n *sz) 16777216 with
  |false=>rw[hq]at E;cases E
  |true=>
   rw[hq]at E
   simp only[cond_true]at E
   have a7:n *sz<=16777216:=a06 hq
   split at E
   ·rename_i cells hc;simp only[a00,a01]at E;obtain⟨rfl,rfl⟩:=E;obtain⟨i,v,hi,hv,av,ag⟩:=ev (P:=P) hz;obtain⟨an,ad,al⟩:=jE (μ:=μ) ps ps'.toList _ _ cells hl hp (LRel.refl0 (gU ag n)) hc;obtain⟨l,h1,h2,h3,N,Z⟩:=ij (P:=P) h (hf H.next (a0b _) (by simp[aQ])) e al;refine OpOK.value (v':= .slice (some ⟨w.heap.size,0,none⟩) n n) ?_ Z ?_
    ·have aw:v.cells=⟨z⟩:=by rw[←av]
     simp only[Instr.buildSlice,Sem.run_bind,ak w hu,Result.andThen_ok,aZ w hs,show ¬(n *sz>2^24) by omega,if_false];by_cases U:n *sz=0
     ·have ao:cz n z=[]:=a0v (by rw[ep,T];exact U);have A: ∀g:Nat->Value,(Array.range (n *sz)).map g=⟨cz n z⟩:=fun g=>by rw[U,ao];simp
      rw[if_pos U];simp only[Sem.run_bind,Sem.run_pure,Result.andThen_ok,A,ad,N]
     have A:=zeros_eq ⟨z⟩ n;simp only[show(Array.mk z).size=sz from T]at A;rw[if_neg U];simp only[Sem.run_bind,dB w hi hv,Sem.run_pure,Result.andThen_ok,aw,show(Array.mk z).size=sz from T,A,ad,N]
    have:=VRel.sliceC (μ:=μ.set H.next l) H.next 0 n n l (Emb.set_same _ _ _) h3;rw[h1,h2]at this;exact this
   cases E
 cases E
theorem load_sound{t:TypeId}{a E:Value}{r:AN}(h:WRel μ H w)(N:VRel μ a E)(z:ek P t a H=some (r,H')):
  OpOK P μ H w (do Pure.pure (.value (←Instr.loadAt t E))) r H':=by
 unfold ek at z
 split at z
 ·rename_i p;obtain⟨rfl,v,hv,rfl⟩:=cx z;obtain⟨b,o,sp⟩:=p;have T:sp=none:=N.ptr_some.1;subst T;obtain⟨l,U,rfl⟩:=N.ptr_inv;obtain⟨v',A,Z⟩:=gO (P:=P) h U hv;refine OpOK.value (v':=v') ?_ (Post.refl h) Z;simp only[Instr.loadAt,Instr.sureAddr,Sem.run_bind,Sem.run_pure,Result.andThen_ok,A]
 cases z
theorem store_sound{t:TypeId}{a U x T:Value}{r:AN}(h:WRel μ H w)(Z:VRel μ a U)(hx:VRel μ x T)(z:eW P t a x H=some (r,H')):
  OpOK P μ H w (do Instr.storeAt t U T;Pure.pure .skip) r H':=by
 unfold eW at z
 split at z
 ·rename_i p;split at z
  ·rename_i n hn;cases A:Nat.beq x.cells.size n with
   |false=>rw[A]at z;cases z
   |true=>
    rw[A]at z
    obtain⟨hs,rfl⟩:=mp z
    have ar:x.cells.size=n:=a09 A
    obtain⟨b,o,sp⟩:=p
    have ad:sp=none:=Z.ptr_some.1
    subst ad
    obtain⟨l,hb,rfl⟩:=Z.ptr_inv
    obtain⟨w',E,hp⟩:=fY (P:=P) h hb hs hx.cells
    refine OpOK.skip ?_ hp
    have N:T.cells.size=n:=by have:=hx.cells.1;simp only[a1V]at this;omega
    simp only[Instr.storeAt,Instr.sureAddr,storeVar,Sem.run_bind,Sem.run_pure,Result.andThen_ok,aZ w hn,N,ne_eq,not_true,if_false,E]
  cases z
 cases z
theorem mq(t:TypeId)(h:WRel μ H w)(z:μ H.next=none):
  OpOK P μ H w (do Pure.pure (.value (←Instr.makeMap t none))) (.val (.map (some H.next))) (H.push (.tab [])):=by
 refine OpOK.value (v':= .map (some w.heap.size)) (w':=w.alloc (.map #[] 0)) (μ':=μ.set H.next ⟨w.heap.size,0,none,0⟩) ?_ (Post.push h z _ V _ _ ?_) ?_
 ·simp[Instr.makeMap]
 ·exact⟨#[],0,fC w _,V,fun i x y A=>by simp at A⟩
 exact VRel.map (μ:=μ.set H.next ⟨w.heap.size,0,none,0⟩) H.next _ (Emb.set_same _ _ _)
theorem range_sound{t:TypeId}{x A:Value}{r:AN}(h:WRel μ H w)(E: ∀b,H.next<=b->b<H'.next->μ b=none)(U:VRel μ x A)(N:ovh (aRange P t x H)=some (r,H')):
  OpOK P μ H w (do Pure.pure (.value (←Instr.range t A))) r H':=by
 obtain⟨v,z,rfl⟩:=j3 N
 unfold aRange at z
 split at z
 ·rename_i s T;simp only[a00,a01]at z;obtain⟨rfl,rfl⟩:=z;obtain rfl:=U.string_inv;refine OpOK.value (v':= .pointer (some ⟨w.heap.size,0,none⟩)) (w':=w.alloc (.stringIter s 0)) (μ':=μ.set H.next ⟨w.heap.size,0,none,0⟩) ?_
   (Post.push h (E H.next (a0b _) (by simp)) _ V _ _ ⟨V,fC w _⟩) ?_
  ·simp[Instr.range,ak w T]
  exact VRel.ptr (μ:=μ.set H.next ⟨w.heap.size,0,none,0⟩) H.next 0 _ (Emb.set_same _ _ _)
 cases z
theorem gr{r:Nat}{o:Obj}(z:w.heap[r]?=some o)(hc: ∀c e f,o≠ .cells c e f):(getObj r).run P w= .ok o w:=by cases o<;>first|exact absurd V (hc _ _ _)|(simp only[getObj,Sem.run,z])
theorem lc{r:Nat}{o o':Obj}(z:w.heap[r]?=some o)(hc: ∀c e f,o≠ .cells c e f):(setObj r o').run P w= .ok () (bd w r o'):=by cases o<;>first|exact absurd V (hc _ _ _)|(simp only[setObj,Sem.run,z];rfl)
theorem next_sound{it U:Value}{type:TypeId}{r:AN}(h:WRel μ H w)(hx:VRel μ it U)(ho:ovh (aNext H it)=some (r,H')):
  OpOK P μ H w (do Pure.pure (.value (←Instr.next U true type))) r H':=by
 obtain⟨v,z,rfl⟩:=j3 ho
 unfold aNext at z
 split at z
 ·rename_i b;split at z
  ·rename_i s pos hg;obtain⟨l,hb,rfl⟩:=hx.ptr_inv;obtain⟨T,Z⟩:=h.obj b l _ hb hg;have A:(getObj l.c).run P w= .ok (.stringIter s pos) w:=gr Z (by intros;simp);cases N:Nat.ble (pos+1) s.size with
   |false=>
    rw[N]at z
    simp only[cond_false,a00,a01]at z
    obtain⟨rfl,rfl⟩:=z
    have ai: ¬pos<s.size:=fun E=>by rw[a0w E]at N;cases N
    refine OpOK.value (v':= .tuple #[.bool false]) ?_ (Post.refl h) (VRel.refl2 V)
    simp[Instr.next,T,A,ai]
   |true=>
    rw[N]at z
    simp only[cond_true,a00,a01]at z
    obtain⟨rfl,rfl⟩:=z
    have E:pos<s.size:=a06 N
    refine OpOK.value (v':= .tuple #[.bool true,goInt pos,.int .i32 (Utf8.decode s pos).1]) (w':=bd w l.c (.stringIter s (pos+(Utf8.decode s pos).2))) ?_
     (Post.put h hb hg V _ V _ ⟨T,bL w _ (cb Z)⟩) (VRel.refl2 V)
    simp[Instr.next,T,A,E,lc Z (by intros;simp)]
  cases z
 cases z
theorem kU{n:Nat}(h:n<=2147483648):IntKind.i64.wrap (n:Int)=n:=IntWalk.i64_in _ M
theorem jg{e:TypeId}{b:Nat}(h:eL P e=some b): ∃i,P.info? e=some i/\i.bytes=b:=by
 unfold eL at h;split at h
 ·rename_i i hi;injection h with h;exact⟨i,hi,h⟩
 cases h
theorem make_sound{t:TypeId}{x x' y y':Value}{r:AN}(h:WRel μ H w)(hf: ∀b,H.next<=b->b<H'.next->μ b=none)(hx:VRel μ x x')(hy:VRel μ y y')
  (ho:ovh (aMake P t x y H)=some (r,H')):OpOK P μ H w (do Pure.pure (.value (←Instr.makeSlice t x' y'))) r H':=by
 obtain⟨v,E,rfl⟩:=j3 ho
 unfold aMake at E
 split at E
 ·rename_i e hu;split at E
  ·rename_i sz T z n k hs hb hz hn hk;cases hq:(Nat.ble n k&&Nat.ble k 2147483648&&Nat.ble T 4096&&Nat.beq (eu z) sz&& !Nat.beq sz 0) with
   |false=>rw[hq]at E;cases E
   |true=>
    rw[hq]at E
    simp only[cond_true,a00,a01]at E
    obtain⟨rfl,rfl⟩:=E
    simp only[a07,a0B]at hq
    obtain⟨⟨⟨⟨q1,q2⟩,q3⟩,Z⟩,q5⟩:=hq
    have q1:n<=k:=a06 q1
    have q2:k<=2147483648:=a06 q2
    have q3:T<=4096:=a06 q3
    have Z:z.length=sz:=by rw[←bE];exact a09 Z
    have q5:sz≠0:=fun e=>by rw[e]at q5;cases q5
    obtain⟨i,vz,hi,a5,a3,av⟩:=ev (P:=P) hz
    obtain⟨ib,N,a1⟩:=jg hb
    rw[hi]at N;injection N with N;subst N
    obtain⟨l,h1,h2,h3,U,ag⟩:=ij (P:=P) h (hf H.next (a0b _) (by simp[aQ])) e (LRel.refl0 (μ:=μ) (gU av k))
    refine OpOK.value (v':= .slice (some ⟨w.heap.size,0,none⟩) n k) ?_ ag ?_
    ·obtain⟨kn,rfl⟩:=fo hn hx;obtain⟨kk,rfl⟩:=fo hk hy;have a7:=kU (n:=n) M;have a6:=kU (n:=k) q2;have a4:vz.cells=⟨z⟩:=by rw[←a3]
     have aw:T *k<=4096 *2147483648:=Nat.mul_le_mul q3 q2;have ax:(decide ((k:Int)<0)||decide ((i.bytes:Int) *(k:Int)>2^48)||decide ((n:Int)<0)||decide ((n:Int)>(k:Int)))=false:=by
      have hm:((i.bytes:Int) *(k:Int))<=8796093022208:=by rw[a1,←Int.natCast_mul];exact Int.ofNat_le.2 aw
      have h1: ¬((k:Int)<0):=M
      have h2: ¬((i.bytes:Int) *(k:Int)>2^48):=by
       have:(2:Int)^48=281474976710656:=by decide
       omega
      have h3: ¬((n:Int)<0):=M
      have h4: ¬((n:Int)>(k:Int)):=M
      simp only[decide_eq_false h1,decide_eq_false h2,decide_eq_false h3,decide_eq_false h4,Bool.or_self]
     simp only[Instr.makeSlice,Sem.run_bind,ak w hu,Result.andThen_ok,asInt,asIntOf,Sem.run_pure,el w hi,a7,a6];rw[if_neg (by rw[ax];exact Bool.false_ne_true)];simp only[Sem.run_bind,run_askRoom,Result.andThen_ok,aZ w hs,a1O];by_cases h0:k *sz=0
     ·have a2:cz k z=[]:=a0v (by rw[ep,Z];exact h0);have A: ∀g:Nat->Value,(Array.range (k *sz)).map g=⟨cz k z⟩:=fun g=>by rw[h0,a2];simp
      rw[if_pos h0];simp only[Sem.run_bind,Sem.run_pure,Result.andThen_ok,A,U]
     have A:=zeros_eq ⟨z⟩ k;simp only[show(Array.mk z).size=sz from Z]at A;rw[if_neg h0];simp only[Sem.run_bind,dB w hi a5,Sem.run_pure,Result.andThen_ok,a4,show(Array.mk z).size=sz from Z,A,U]
    have:=VRel.sliceC (μ:=μ.set H.next l) H.next 0 n k l (Emb.set_same _ _ _) h3
    rw[h1,h2]at this;exact this
  cases E
 cases E
end
end Go.R
namespace Go.R
section
variable {P:Program} {μ:Emb} {H H':Heap} {w:World}
theorem kD{n k l r:Nat}{lo hi:Option Value}(h:bnds n k lo hi=some (l,r)):
  bU n hi=some r/\bU 0 lo=some l/\l<=r/\r<=k:=by
 unfold bnds at h
 split at h
 ·rename_i A N;split at h
  ·rename_i l' E;cases z:(Nat.ble l' A&&Nat.ble A k) with
   |false=>rw[z]at h;cases h
   |true=>
    rw[z]at h;simp only[cond_true,a00,a01]at h
    obtain⟨rfl,rfl⟩:=h
    simp only[a07]at z
    exact⟨N,E,a06 z.1,a06 z.2⟩
  cases h
 cases h
theorem dW{v v':Value}{n y:Nat}(h:jt v=some n)(A:VRel μ v v')(E:n<=y)(z:BoundsCode):(Instr.sliceBound v' y z).run P w= .ok n w:=by
 obtain⟨k,rfl⟩:=fo h A;have:(0:Int)<=(n:Int)/\(n:Int)<=(y:Int):=M
 simp[Instr.sliceBound,asIntOf,this.2]
theorem dU{isSlice:Bool}{n k U l r:Nat}{lo hi Z A:Option Value}(hb:bnds n k lo hi=some (l,r))(hk:k<=U)
  (ag: ∀v,lo=some v->∃v',Z=some v'/\VRel μ v v') (E:lo=none->Z=none)
  (an: ∀v,hi=some v->∃v',A=some v'/\VRel μ v v') (ai:hi=none->A=none):
  (Instr.sliceBounds isSlice n U Z A none).run P w= .ok (l,r,U) w:=by
 obtain⟨h1,z,h3,h4⟩:=kD hb
 unfold Instr.sliceBounds
 cases hi with
 |none=>
  rw[ai rfl]
  simp only[bU,a00]at h1;subst h1
  cases lo with
  |none=>
   rw[E rfl]
   simp only[bU,a00]at z;subst z
   simp
  |some u=>
   obtain⟨u',N,T⟩:=ag u V
   rw[N]
   simp only[Sem.run_bind,Sem.run_pure,Result.andThen_ok,dW (P:=P) (w:=w) z T h3]
 |some v=>
  obtain⟨v',ar,hr⟩:=an v V
  rw[ar]
  cases lo with
  |none=>
   rw[E rfl]
   simp only[bU,a00]at z;subst z
   simp only[Sem.run_bind,Sem.run_pure,Result.andThen_ok,dW (P:=P) (w:=w) h1 hr (by omega:r<=U)]
  |some u=>
   obtain⟨u',N,T⟩:=ag u V
   rw[N]
   simp only[Sem.run_bind,Sem.run_pure,Result.andThen_ok,dW (P:=P) (w:=w) h1 hr (by omega:r<=U),dW (P:=P) (w:=w) z T h3]
theorem dT(s:ByteArray)(l r:Nat):s.extract l r=⟨⟨(s.data.toList.drop l).take (r-l)⟩⟩:=by apply ByteArray.ext;apply Array.ext';simp
theorem jS{t:TypeId}{x x':Value}{lo hi mx ay ax a1:Option Value}{r:AN}(h:WRel μ H w)(hx:VRel μ x x')
  (al: ∀v,lo=some v->∃v',ay=some v'/\VRel μ v v') (Z:lo=none->ay=none)
  (ai: ∀v,hi=some v->∃v',ax=some v'/\VRel μ v v') (U:hi=none->ax=none) (a7:mx=none->a1=none)
  (ho:ovl (bA P t x lo hi mx H) H=some (r,H')): ∃v v',r= .val v/\H'=H/\(Instr.sliceAt t x' ay ax a1).run P w= .ok v' w/\VRel μ v v':=by
 obtain⟨rfl,v,z,rfl⟩:=cx ho
 unfold bA at z
 split at z
 ·cases z
 rw[a7 rfl]
 simp only at z
 split at z
 ·rename_i s hu;obtain rfl:=hx.string_inv;split at z
  ·rename_i l r hb;injection z with z;subst z;rw[bE]at hb;have a8:s.data.toList.length=s.size:=by simp
   rw[a8]at hb;refine⟨_,.string (s.extract l r),V,V,?_,?_⟩
   ·simp[Instr.sliceAt,Instr.slice,ak w hu,dU (P:=P) (w:=w) (isSlice:=false) hb (a0b _) al Z ai U]
   rw[dT,bV,bZ];exact .atom _ V
  cases z
 ·rename_i e hu;obtain rfl:=hx.eq0 V;split at z
  ·rename_i lr hb;obtain⟨l,r⟩:=lr;cases hs:cY P e with
   |none=>rw[hs]at z;cases z
   |some sz=>
    rw[hs]at z
    simp only[Option.isSome_some,cond_true,a00]at z;subst z
    obtain⟨_,_,h3,h4⟩:=kD hb
    obtain rfl:r=0:=M
    obtain rfl:l=0:=M
    refine⟨_,.slice none 0 0,V,V,?_,.atom _ V⟩
    simp[Instr.sliceAt,Instr.slice,ak w hu,dU (P:=P) (w:=w) (isSlice:=true) hb (a0b _) al Z ai U,aZ w hs]
  cases z
 ·rename_i e b o n k hu;split at z
  ·rename_i l r sz cs bb ro hb hs hg;obtain⟨A,hμ,hc⟩:=hx.slice_inv;have T:A.opn=bb:=by
    have:=h.obj b A _ hμ hg;cases ro
    ·exact this.1
    exact this.1
   obtain⟨_,_,h3,h4⟩:=kD hb;split at z
   ·injection z with z;subst z;rcases hc with⟨N,rfl⟩|⟨e',o',k',N,rfl,_⟩|⟨rfl,rfl,a',rfl⟩
    rotate_right
    ·obtain rfl:r=0:=M
     obtain rfl:l=0:=M
     refine⟨_,.slice (some (if 0=0 then a' else a'.add (0 *sz))) (0-0) (0-0),V,V,?_,?_⟩
     ·simp only[Instr.sliceAt,Instr.slice,Sem.run_bind,ak w hu,Result.andThen_ok,dU (P:=P) (w:=w) (isSlice:=true) hb (a0b _) al Z ai U,aZ w hs,Sem.run_pure];split<;>rfl
     exact .sliceZ b o a' A hμ
    ·refine⟨_,.slice (some (if k=l then⟨A.c,A.sh+o,none⟩ else Addr.add ⟨A.c,A.sh+o,none⟩ (l *sz))) (r-l) (k-l),V,V,?_,?_⟩
     ·simp only[Instr.sliceAt,Instr.slice,Sem.run_bind,ak w hu,Result.andThen_ok,dU (P:=P) (w:=w) (isSlice:=true) hb (a0b _) al Z ai U,aZ w hs,Sem.run_pure];split<;>rfl
     by_cases E:k=l
     ·rw[if_pos E];have:Nat.beq k l=true:=by rw[E];exact a12 l
      rw[this];exact .sliceC b o _ _ A hμ N
     rw[if_neg E];have:Nat.beq k l=false:=by
      cases hq:Nat.beq k l with
      |false=>rfl
      |true=>exact absurd (a09 hq) E
     rw[this,df,a1w];exact .sliceC b (o+l *sz) _ _ A hμ N
    rw[T]at N;cases N
   rename_i ez;cases hq:Nat.beq ez sz with
   |false=>rw[hq]at z;cases z
   |true=>
    rw[hq]at z
    simp only[cond_true,a00]at z;subst z
    have a5:ez=sz:=a09 hq
    rcases hc with⟨N,rfl⟩|⟨e',o',k',N,rfl,b5,a6,a3,b4⟩|⟨rfl,rfl,a',rfl⟩
    rotate_right
    ·obtain rfl:r=0:=M
     obtain rfl:l=0:=M
     refine⟨_,.slice (some (if 0=0 then a' else a'.add (0 *sz))) (0-0) (0-0),V,V,?_,?_⟩
     ·simp only[Instr.sliceAt,Instr.slice,Sem.run_bind,ak w hu,Result.andThen_ok,dU (P:=P) (w:=w) (isSlice:=true) hb (a0b _) al Z ai U,aZ w hs,Sem.run_pure];split<;>rfl
     exact .sliceZ b _ a' A hμ
    ·rw[T]at N;cases N
    rw[T]at N;injection N with N
    subst N a5
    refine⟨_,.slice (some (if k'=l then⟨A.c,o',none⟩ else Addr.add ⟨A.c,o',none⟩ (l *ez))) (r-l) (k'-l),V,V,?_,?_⟩
    ·simp only[Instr.sliceAt,Instr.slice,Sem.run_bind,ak w hu,Result.andThen_ok,dU (P:=P) (w:=w) (isSlice:=true) hb a6 al Z ai U,aZ w hs,Sem.run_pure];split<;>rfl
    by_cases E:k'=l
    ·rw[if_pos E];refine .sliceO b (o+l *ez) o' _ _ _ ez A hμ T M M M ?_;rw[E,a1L,Nat.zero_mul];omega
    rw[if_neg E,df]
    refine .sliceO b (o+l *ez) (o'+l *ez) _ _ _ ez A hμ T M M (fun b2=>?_) ?_
    ·rw[a3 M];omega
    have:l *ez+(k'-l) *ez=k' *ez:=by rw[←a13];congr 1;omega
    omega
  cases z
 ·rename_i n e b o hu;split at z
  ·rename_i l r sz cs ro hb hs hg;obtain⟨A,hμ,rfl⟩:=hx.ptr_inv;have T:A.opn=none:=by
    have:=h.obj b A _ hμ hg;cases ro
    ·exact this.1
    exact this.1
   injection z with z;subst z;refine⟨_,.slice (some (if n=l then⟨A.c,A.sh+o,none⟩ else Addr.add ⟨A.c,A.sh+o,none⟩ (l *sz))) (r-l) (n-l),V,V,?_,?_⟩
   ·simp only[Instr.sliceAt,Sem.run_bind,ak w hu,Result.andThen_ok,Instr.sureAddr,Sem.run_pure,dU (P:=P) (w:=w) (isSlice:=false) hb (a0b _) al Z ai U,aZ w hs]
   by_cases E:n=l
   ·rw[if_pos E];have:Nat.beq n l=true:=by rw[E];exact a12 l
    rw[this];exact .sliceC b o _ _ A hμ T
   rw[if_neg E];have:Nat.beq n l=false:=by
    cases hq:Nat.beq n l with
    |false=>rfl
    |true=>exact absurd (a09 hq) E
   rw[this,df,a1w];exact .sliceC b (o+l *sz) _ _ A hμ T
  cases z
 cases z
theorem slice_sound{t:TypeId}{x x':Value}{lo hi mx A z E:Option Value}{r:AN}(h:WRel μ H w)(hx:VRel μ x x')
  (ad: ∀v,lo=some v->∃v',A=some v'/\VRel μ v v') (T:lo=none->A=none)
  (Z: ∀v,hi=some v->∃v',z=some v'/\VRel μ v v') (N:hi=none->z=none) (ag:mx=none->E=none)
  (ho:ovl (bA P t x lo hi mx H) H=some (r,H')):OpOK P μ H w (do Pure.pure (.value (←Instr.sliceAt t x' A z E))) r H':=by
 obtain⟨v,v',rfl,rfl,U,hr⟩:=jS (P:=P) h hx ad T Z N ag ho
 exact OpOK.value U (Post.refl h) hr
theorem lenA_run{x A:Value}{m:Nat}(h:lenA x=some m)(z:VRel μ x A):(Builtin.lenOf A).run P w= .ok m w:=by
 unfold lenA at h;split at h
 ·injection h with h;subst h;rename_i a n k;obtain⟨E,N,rfl,_⟩:=dp z;rfl
 ·rename_i s;injection h with h;subst h;obtain rfl:=z.string_inv;rw[bE];simp[Builtin.lenOf]
 cases h
theorem ec{x x':Value}{sz m:Nat}{vs:List Value}(h:WRel μ H w)(Z:VRel μ x x')(hl: ∃m0,lenA x=some m0/\m<=m0)(z:fk H sz m x=some vs):
  ∃N,(Builtin.firstCells sz m x').run P w= .ok ⟨N⟩ w/\LRel μ vs N/\vs.length=m *sz:=by
 unfold fk at z
 split at z
 ·rename_i a n k;obtain⟨b,o,sp⟩:=a;have av:sp=none:=Z.slice_some.1;subst av;cases A:Nat.beq m 0 with
  |true=>
   rw[A]at z
   simp only[cond_true,a00]at z;subst z
   have hm:m=0:=a09 A
   subst hm
   obtain⟨_,a',k',rfl⟩:=Z.slice_some
   exact⟨[],by simp[Builtin.firstCells,loadCells,loadCellsFrom],.nil,by simp⟩
  |false=>
   rw[A]at z
   simp only[cond_false]at z
   have hm:m≠0:=fun e=>by subst e;cases A
   obtain⟨m0,E,ai⟩:=hl
   simp only[lenA,a00]at E;subst E
   obtain⟨l,hμ,hc⟩:=Z.slice_inv
   obtain⟨N,U,hr,T⟩:=gP (P:=P) h hμ z
   rcases hc with⟨_,rfl⟩|⟨e',o',k',_,rfl,a2,_,al,_⟩|⟨hz,_,_⟩
   rotate_right
   ·omega
   ·exact⟨N,by simp only[Builtin.firstCells,U],hr,T⟩
   rw[al M]
   exact⟨N,by simp only[Builtin.firstCells,U],hr,T⟩
 ·rename_i n k;cases A:Nat.beq m 0 with
  |false=>rw[A]at z;cases z
  |true=>
   rw[A]at z
   simp only[cond_true,a00]at z;subst z
   have hm:m=0:=a09 A
   subst hm
   obtain⟨_,_,rfl⟩:=Z.sliceNil_inv
   exact⟨[],by simp[Builtin.firstCells],.nil,by simp⟩
 ·rename_i s;cases A:Nat.beq sz 1 with
  |false=>rw[A]at z;cases z
  |true=>
   rw[A]at z
   simp only[cond_true,a00,iN,bV]at z;subst z
   have hs:sz=1:=a09 A
   subst hs
   obtain rfl:=Z.string_inv
   obtain⟨m0,E,ai⟩:=hl
   simp only[lenA,bE,a00]at E;subst E
   refine⟨(s.data.toList.take m).map fun b=> .int .u8 b.toNat,?_,LRel.refl0 ?_,?_⟩
   ·simp only[Builtin.firstCells,Sem.run_pure,dT];congr 1;apply Array.ext';simp
   ·rw[a0y];intro u hu;obtain⟨c,_,rfl⟩:=a0u.1 hu;rfl
   simp at ai⊢;omega
 cases z
theorem growBy_le(z:Nat): ∀(r c:Nat),c<=z+(z+768)/4->Builtin.growBy z r c<=z+(z+768)/4
 |0,c,h=>h
 |r+1,c,h=>by
  simp only[Builtin.growBy];split
  ·exact h
  exact growBy_le z r _ M
theorem nextcap_le{n k:Nat}(h:k<n):Builtin.nextslicecap n k<=2 *n+768:=by
 unfold Builtin.nextslicecap;split
 ·omega
 split
 ·omega
 have:=growBy_le n 4 k M;omega
theorem dy{z:Array Value}{sz:Nat}(h:z.size=sz)(n:Nat):(Builtin.zeroCells z n).toList.length=n *sz:=by simp[Builtin.zeroCells,h]
theorem ii{st E ty e:TypeId}{N:TypeDesc}{A:Value}{base:Option Addr}{n m k sz:Nat}{i:TypeInfo}{z:Value}{old T:List Value}
  (hu:P.underlying st=some (.slice e)) (av:P.underlying E=some N) (ao: ∀kk,N≠ .int kk) (hi:P.info? e=some i) (hs:i.size=sz) (hz:i.zero=some z)
  (U:(Builtin.lenOf A).run P w= .ok m w) (an:k<n+m) (a1:n+m<=2147483648) (al:i.bytes<=4096)
  (ag:(Builtin.firstCells sz n (.slice base n k)).run P w.drew= .ok ⟨old⟩ w.drew) (Z:(Builtin.firstCells sz m A).run P w.drew= .ok ⟨T⟩ w.drew):
  ∃nc,n+m<=nc/\(Builtin.append_ #[st,E] ty #[.slice base n k,A]).run P w=
   .ok (.slice (some ⟨w.heap.size,0,none⟩) (n+m) nc) (w.drew.alloc (.cells (⟨old⟩++⟨T⟩++Builtin.zeroCells z.cells (nc-(n+m))) e)):=by
 have ar:cY P e=some sz:=by unfold cY;rw[hi,←hs]
 have aw:=nextcap_le an
 have ad: ¬(Builtin.nextslicecap (n+m) k *i.bytes>2^48):=by
  have:Builtin.nextslicecap (n+m) k *i.bytes<=(2 *2147483648+768) *4096:=Nat.mul_le_mul M al;have a2:(2:Nat)^48=281474976710656:=by decide
  omega
 have ai: ¬(((n+m:Nat):Int)>IntKind.i64.max/\(False\/i.bytes=0)):=by rw[IntKind.max_i64];omega
 refine⟨(Question.appendCap (n+m) k e).cut (w.tape w.drawn (.appendCap (n+m) k e)),by simp[Question.cut],?_⟩
 have a3:(match N with| .int _=>true|_=>false)=false:=by cases N<;>first|rfl|exact absurd V (ao _)
 have e1: ∀a b:Value,(#[a,b]:Array Value)[0]?=some a/\(#[a,b]:Array Value)[1]?=some b:=fun a b=>⟨V,V⟩
 unfold Builtin.append_
 simp only[show(#[st,E]:Array TypeId)[0]?=some st from V,show(#[st,E]:Array TypeId)[1]?=some E from V,
  show(#[Value.slice base n k,A]:Array Value)[0]?=some (Value.slice base n k) from V,show(#[Value.slice base n k,A]:Array Value)[1]?=some A from V,
  Sem.run_bind,ak w hu,ak w av,Result.andThen_ok,aZ w ar,Sem.run_pure,a0O,if_false,U,
  show ¬(n+m<=k) by omega,el w hi,ad,ai]
 simp only[Sem.run_bind,run_choose,Question.forced,a0O,if_false,Result.andThen_ok,World.drew_eq,el w.drew hi,run_askRoom,ag,Z,a1z,if_true,
  dB w.drew hi hz,newRow,run_newObj,Sem.run_pure]
 rfl
theorem fD{st A ty e:TypeId}{E:TypeDesc}{z:Value}{base:Option Addr}{n m k sz:Nat}{N:List Value}{w':World}
  (hu:P.underlying st=some (.slice e)) (al:P.underlying A=some E) (ad: ∀kk,E≠ .int kk) (hs:cY P e=some sz)
  (T:(Builtin.lenOf z).run P w= .ok m w) (Z:n+m<=k) (U:(Builtin.firstCells sz m z).run P w= .ok ⟨N⟩ w)
  (ai: ∀a,base=some a->(storeCells (a.add (n *sz)) N).run P w= .ok () w') (ag:base=none->w'=w):
  (Builtin.append_ #[st,A] ty #[.slice base n k,z]).run P w= .ok (.slice base (n+m) k) w':=by
 have ar:(match E with| .int _=>true|_=>false)=false:=by cases E<;>first|rfl|exact absurd V (ad _)
 unfold Builtin.append_
 simp only[show(#[st,A]:Array TypeId)[0]?=some st from V,show(#[st,A]:Array TypeId)[1]?=some A from V,
  show(#[Value.slice base n k,z]:Array Value)[0]?=some (Value.slice base n k) from V,show(#[Value.slice base n k,z]:Array Value)[1]?=some z from V,
  Sem.run_bind,ak w hu,ak w al,Result.andThen_ok,aZ w hs,Sem.run_pure,a0O,if_false,T,Z,if_true,a1z,U]
 cases base with
 |none=>rw[ag rfl];rfl
 |some a=>simp only[Sem.run_bind,ai a V,Result.andThen_ok,Sem.run_pure]
theorem Post.kill(h:WRel μ H w){b:Nat}{l:Loc}{o:AObj}(hb:μ b=some l)(ho:H.get b=some o)(hr:o.rw=true):Post μ H w μ (H.put b .dead) w:=by
 refine⟨fun _ _ h=>h,fun _ _ h=> .inl h,a0b _,V,V,V,fun _ _ _=>rfl,fun k x U E z ay=>?_,⟨fun k x U E z=>?_,fun Z b2 l1 l2 T o2 ao ai al ar av ax N=>?_⟩⟩
 ·by_cases e:b=k
  ·subst e;exact .inr ⟨b,l,o,hb,ho,gG hr,fun _=>hr,by rw[hb]at E;injection E with E;rw[E]⟩
  rw[Heap.get_put_ne H _ e]at z;exact .inr ⟨k,x,U,E,z,ay,id,V⟩
 ·by_cases e:b=k
  ·subst e;rw[Heap.get_put_same]at z;injection z with z;subst z;trivial
  rw[Heap.get_put_ne H _ e]at z;exact h.obj k x U E z
 have old: ∀k ok,ok.live=true->(H.put b .dead).get k=some ok->H.get k=some ok:=by
  intro k ok an A;by_cases e:b=k
  ·subst e;rw[Heap.get_put_same]at A;injection A with A;subst A;simp[AObj.live]at an
  rw[Heap.get_put_ne H _ e]at A;exact A
 exact h.inj Z b2 l1 l2 T o2 ao ai al (old Z T (by cases T<;>simp_all[AObj.rw,AObj.live]) ar) (old b2 o2 N av) ax N
theorem szOf_info{e:TypeId}{s:Nat}(h:cY P e=some s): ∃i,P.info? e=some i/\i.size=s:=by
 unfold cY at h;split at h
 ·rename_i i hi;injection h with h;exact⟨i,hi,h⟩
 cases h
theorem ee(a b:List Value)(c:Array Value):(⟨a⟩++⟨b⟩++c:Array Value)=⟨(a++b)++c.toList⟩:=by apply Array.ext';simp
theorem append_sound{types:Array TypeId}{ty:TypeId}{s x s' x' v:Value}(h:WRel μ H w)(hf: ∀b,H.next<=b->b<H'.next->μ b=none)
  (hs:VRel μ s s') (hx:VRel μ x x') (dt:types.size=2) (A:fN P types s x H=some (v,H')):
  ∃v' w' μ',(Builtin.append_ types ty #[s',x']).run P w= .ok v' w'/\Post μ H w μ' H' w'/\VRel μ' v v':=by
 obtain⟨tl⟩:=types
 match tl,dt with
 | [st,xt],_=>
 unfold fN at A
 simp only[show(#[st,xt]:Array TypeId)[0]?=some st from V,show(#[st,xt]:Array TypeId)[1]?=some xt from rfl]at A
 split at A
 ·rename_i e xd hu ao;split at A
  ·cases A
  rename_i an;split at A
  ·rename_i sz e0 z m a5 f7 hz hm;obtain⟨i,vz,hi,b7,e6,g7⟩:=ev (P:=P) hz;obtain⟨i2,c3,hw⟩:=jg f7;rw[hi]at c3;injection c3 with c3;subst c3;obtain⟨i3,c4,b5⟩:=szOf_info a5;rw[hi]at c4;injection c4 with c4;subst c4;have Z:(Builtin.lenOf x').run P w= .ok m w:=lenA_run hm hx;split at A
   ·cases A
   rename_i b9 dn;obtain⟨N,al,aw,ag⟩:=ec (P:=P) h hx ⟨m,hm,a0b _⟩ dn;obtain⟨hb,av,ar,_⟩:=ec (P:=P) h.drew hx ⟨m,hm,a0b _⟩ dn;split at A
   ·--nil
    obtain rfl:=hs.eq0 V;cases hq:Nat.beq m 0 with
    |true=>
     rw[hq]at A
     simp only[cond_true,a00,a01]at A
     obtain⟨rfl,rfl⟩:=A
     have b4:m=0:=a09 hq
     subst b4
     exact⟨_,w,μ,fD (w':=w) hu ao (fun kk=>an kk) a5 Z (a0b _) al (fun a ha=>by cases ha) (fun _=>rfl),Post.refl h,.atom _ V⟩
    |false=>
     rw[hq]at A
     simp only[cond_false]at A
     have b4:m≠0:=fun e=>by subst e;cases hq
     cases a4:(Nat.beq (eu z) sz&&Nat.ble m 2147483648&&Nat.ble e0 4096&& !Nat.beq sz 0) with
     |false=>rw[a4]at A;cases A
     |true=>
      rw[a4]at A
      simp only[cond_true,a00,a01]at A
      obtain⟨rfl,rfl⟩:=A
      simp only[a07,a0B]at a4
      obtain⟨⟨⟨q1,q2⟩,q3⟩,q4⟩:=a4
      have q1:z.length=sz:=by rw[←bE];exact a09 q1
      have q2:=a06 q2
      have q3:=a06 q3
      obtain⟨nc,a0,E⟩:=ii (P:=P) (w:=w) (ty:=ty) (base:=none) (n:=0) (k:=0) (old:=[]) hu ao (fun kk=>an kk) hi b5 b7 Z M M M (by simp[Builtin.firstCells]) av
      simp only[a1f]at E a0
      rw[ee,a0m]at E
      obtain⟨l,h1,h2,h3,h4,_,hp⟩:=dj (P:=P) h.drew (hf H.next (a0b _) (by simp[aQ])) e ar (Builtin.zeroCells vz.cells (nc-m)).toList (some sz) (fun e=>by cases e)
      refine⟨_,_,_,E,(Post.drew h).trans hp (a0b _) (by simp[aQ]),?_⟩
      have:=VRel.sliceO (μ:=μ.set H.next l) H.next 0 0 m m nc sz l (Emb.set_same _ _ _) h3 (a0b _) a0 (fun _=>by omega) (by
       rw[h4,dy (show vz.cells.size=sz by rw[←q1,←e6];simp),ag,a1f,←a13];exact a0E _ M)
      rw[h1]at this;exact this
   ·--a slice
    rename_i b o n k;obtain⟨l,hμ,hc⟩:=hs.slice_inv;split at A
    ·rename_i cs g0 ro hg;have ci:l.opn=g0:=by
      have:=h.obj b l _ hμ hg;cases ro
      ·exact this.1
      exact this.1
     cases hq:Nat.ble (n+m) k with
     |true=>
      rw[hq]at A
      simp only[cond_true]at A
      have c5:n+m<=k:=a06 hq
      cases c7:Nat.beq m 0 with
      |true=>
       rw[c7]at A
       simp only[cond_true,a00,a01]at A
       obtain⟨rfl,rfl⟩:=A
       have b4:m=0:=a09 c7
       subst b4
       have f9:N=[]:=a0v (by rw[←aw.1,ag];simp)
       subst f9
       rcases hc with⟨U,rfl⟩|⟨e',o',k',U,rfl,e5,dl,a8,c0⟩|⟨rfl,rfl,a',rfl⟩
       rotate_right
       ·exact⟨_,w,μ,fD (w':=w) hu ao (fun kk=>an kk) a5 Z c5 al (fun a ha=>rfl) (fun e=>by cases e),Post.refl h,hs⟩
       ·exact⟨_,w,μ,fD (w':=w) hu ao (fun kk=>an kk) a5 Z c5 al (fun a ha=>rfl) (fun e=>by cases e),Post.refl h,hs⟩
       exact⟨_,w,μ,fD (w':=w) hu ao (fun kk=>an kk) a5 Z M al (fun a ha=>rfl) (fun e=>by cases e),Post.refl h,hs⟩
      |false=>
       rw[c7]at A
       simp only[cond_false]at A
       have b4:m≠0:=fun e=>by subst e;cases c7
       split at A
       ·rename_i h1 gs;simp only[a00,a01]at A;obtain⟨rfl,rfl⟩:=A;obtain⟨w',E,hp⟩:=fY (P:=P) h hμ gs aw;rcases hc with⟨U,rfl⟩|⟨e',o',k',U,rfl,e5,dl,a8,c0⟩|⟨rfl,rfl,a',rfl⟩
        rotate_right
        ·omega
        ·refine⟨_,w',μ,fD (w':=w') hu ao (fun kk=>an kk) a5 Z c5 al (fun a ha=>?_) (fun e=>by cases e),hp,.sliceC b o _ _ l hμ U⟩;injection ha with ha;subst ha;rw[df,a1w];exact E
        refine⟨_,w',μ,fD (w':=w') hu ao (fun kk=>an kk) a5 Z M al (fun a ha=>?_) (fun e=>by cases e),hp,.sliceO b o o' _ _ _ e' l hμ U c5 dl a8 c0⟩;injection ha with ha;subst ha;rw[df,a8 M,a1w];exact E
       cases A
     |false=>
      rw[hq]at A
      simp only[cond_false]at A
      have e4:k<n+m:=by
       rcases a0j k (n+m) with h'|h'
       ·exact h'
       rw[a0w h']at hq;cases hq
      cases a4:(Nat.beq (eu z) sz&&Nat.ble (n+m) 2147483648&&Nat.ble e0 4096&& !Nat.beq sz 0&&Nat.ble n k) with
      |false=>rw[a4]at A;cases A
      |true=>
       rw[a4]at A
       simp only[cond_true]at A
       simp only[a07,a0B]at a4
       obtain⟨⟨⟨⟨q1,q2⟩,q3⟩,q4⟩,q5⟩:=a4
       have q1:z.length=sz:=by rw[←bE];exact a09 q1
       have q2:=a06 q2
       have q3:=a06 q3
       have q5:=a06 q5
       have hB:sz≠0:=fun e=>by rw[e]at q4;cases q4
       have b2:vz.cells.size=sz:=by rw[←q1,←e6];simp
       split at A
       ·cases A
       rename_i old ai
       obtain⟨hd,g6,g5,ax⟩:=ec (P:=P) h hs ⟨n,V,a0b _⟩ ai
       obtain⟨he,a3,a2,_⟩:=ec (P:=P) h.drew hs ⟨n,V,a0b _⟩ ai
       split at A
       ·--exact
        simp only[a00,a01]at A;obtain⟨rfl,rfl⟩:=A;rcases hc with⟨U,rfl⟩|⟨e',o',k',U,rfl,_⟩|⟨rfl,rfl,a',rfl⟩
        rotate_right
        ·obtain⟨nc,a0,E⟩:=ii (P:=P) (w:=w) (ty:=ty) hu ao (fun kk=>an kk) hi b5 b7 Z e4 q2 M a3 av;rw[ee]at E;obtain⟨l',h1,h2,h3,h4,_,hp⟩:=dj (P:=P) h.drew (hf H.next (a0b _) (by simp[aQ])) e (a2.append ar) (Builtin.zeroCells vz.cells (nc-(0+m))).toList (some sz) (fun e=>by cases e);rw[dV];refine⟨_,_,_,E,(Post.drew h).trans hp (a0b _) (by simp[aQ]),?_⟩;have:=VRel.sliceO (μ:=μ.set H.next l') H.next 0 0 (0+m) (0+m) nc sz l' (Emb.set_same _ _ _) h3 (a0b _) a0 (fun _=>by omega) (by
          rw[h4,dy b2,a04,ax,ag,a1f,←a13,←a13];exact a0E _ M)
         rw[h1]at this;exact this
        ·obtain⟨nc,a0,E⟩:=ii (P:=P) (w:=w) (ty:=ty) hu ao (fun kk=>an kk) hi b5 b7 Z e4 q2 M a3 av;rw[ee]at E;obtain⟨l',h1,h2,h3,h4,_,hp⟩:=dj (P:=P) h.drew (hf H.next (a0b _) (by simp[aQ])) e (a2.append ar) (Builtin.zeroCells vz.cells (nc-(n+m))).toList (some sz) (fun e=>by cases e);rw[dV];refine⟨_,_,_,E,(Post.drew h).trans hp (a0b _) (by simp[aQ]),?_⟩;have:=VRel.sliceO (μ:=μ.set H.next l') H.next 0 0 (n+m) (n+m) nc sz l' (Emb.set_same _ _ _) h3 (a0b _) a0 (fun _=>by omega) (by
          rw[h4,dy b2,a04,ax,ag,a1f,←a13,←a13];exact a0E _ M)
         rw[h1]at this;exact this
        rw[ci]at U;cases U
       ·--open
        rename_i T;cases c8:(Nat.beq T sz&& !ro&&lQ Value.oneCell' b9) with
        |false=>rw[c8]at A;cases A
        |true=>
         rw[c8]at A
         simp only[cond_true,a00,a01]at A
         obtain⟨rfl,rfl⟩:=A
         simp only[a07,a0B]at c8
         obtain⟨⟨q6,q7⟩,q8⟩:=c8
         have q6:T=sz:=a09 q6
         subst q6 q7
         rcases hc with⟨U,rfl⟩|⟨e',o',k',U,rfl,e5,dl,a8,c0⟩|⟨rfl,rfl,a',rfl⟩
         rotate_right
         ·have bk:μ H.next=none:=hf H.next (a0b _) (by simp[aQ]);obtain⟨nc,a0,E⟩:=ii (P:=P) (w:=w) (ty:=ty) hu ao (fun kk=>an kk) hi b5 b7 Z M q2 M a3 av;rw[ee]at E;have hk:=Post.kill h hμ hg V;obtain⟨l',h1,h2,h3,h4,_,hp⟩:=dj (P:=P) (H:=H.put b .dead) hk.wrel.drew bk e (a2.append ar) (Builtin.zeroCells vz.cells (nc-(0+m))).toList (some T) (fun e=>by cases e);rw[dV];refine⟨_,_,_,E,(hk.trans (Post.drew hk.wrel) (a0b _) (a0b _)).trans hp (a0b _) (by simp[aQ]),?_⟩;have:=VRel.sliceO (μ:=μ.set H.next l') H.next 0 0 (0+m) (0+m) nc T l' (Emb.set_same _ _ _) h3 (a0b _) a0 (fun _=>by omega) (by
           rw[h4,dy b2,a04,ax,ag,a1f,←a13,←a13];exact a0E _ M)
          rw[h1]at this;exact this
         ·rw[ci]at U;cases U
         rw[ci]at U;injection U with U;subst U
         have bk:μ H.next=none:=hf H.next (a0b _) (by simp[aQ])
         by_cases dk:n+m<=k'
         ·--in place
          obtain⟨r1,a1,et,hh,r2,r3,r4⟩:=h.obj b l _ hμ hg;have c6:N.length=m *T:=by rw[←aw.1];exact ag
          have hA:m≠0:=M
          have go:N≠ []:=fun e=>by rw[e]at c6;have:=Nat.mul_eq_zero.1 c6.symm;omega
          have ea:N.all Value.oneCell'=true:=by
           rw[a0y];intro u bl;obtain⟨j,hj⟩:=List.getElem?_of_mem bl;have e2:j<b9.length:=by rw[aw.1];exact(a0q.1 hj).1
           have hr:=aw.2 j b9[j] u (a05 e2) hj;rw[hr.oneCell];rw[mP]at q8;exact a0y.1 q8 _ (a1t e2)
          have cc:o'+n *T+N.length<=a1.size:=by rw[c6,r2];have:(n+m) *T<=k' *T:=a0E _ dk;rw[a13]at this;omega
          have b6:=dC (P:=P) l.c et N w a1 (o'+n *T) 0 hh M ea go;simp only[a26]at b6;have fi:(bc a1.toList (o'+n *T) N).length=a1.size:=by rw[ce _ _ _ (by simpa using cc)];simp
          have em:=Post.take h hμ hg V bk ⟨l.c,o',some T,l.csz⟩ V (.cells (appL old b9) (some T) false) (.cells ⟨bc a1.toList (o'+n *T) N⟩ et (0,0)) (by
           refine⟨V,_,et,bL w _ (cb hh),by show(bc a1.toList (o'+n *T) N).length=_;rw[fi,r2],?_,fun j u hj=>?_⟩
           ·rw[dV,a04,ax,ag];show o'+_<=l.csz;rw[←r2];rw[c6]at cc;omega
           rw[dV]at hj;have mg: ∀v':Value,(bc a1.toList (o'+n *T) N)[o'+j]?=some v'->(Array.mk (bc a1.toList (o'+n *T) N))[o'+j]?=some v':=fun v' hv=>(j7 _ _).trans hv
           rw[bj _ _ _ _ (by simpa using cc)]at mg;by_cases e3:j<n *T
           ·rw[a0S M]at hj;rw[if_neg M]at mg;have gb:n≠0:=fun e=>by subst e;simp at e3
            unfold fk at ai;have f6:Nat.beq n 0=false:=by
             cases f5:Nat.beq n 0 with
             |false=>rfl
             |true=>exact absurd (a09 f5) gb
            rw[f6]at ai;simp only[cond_false,Heap.loadN,hg,bV,bZ,bE]at ai;cases e1:Nat.beq ((cs.drop o).take (n *T)).length (n *T) with
            |false=>rw[e1]at ai;cases ai
            |true=>
             rw[e1]at ai
             simp only[cond_true,a00]at ai
             rw[←ai,a0A,if_pos e3,a0N]at hj
             obtain⟨u',bl,hr⟩:=r4 (o+j) u hj
             refine⟨u',mg u' ?_,hr.mono (Emb.set_ext _ bk)⟩
             have:o'+j=l.sh+(o+j):=by have:=a8 M;omega
             rw[this];simpa using bl
           rw[a11 M,ax]at hj;obtain⟨u',bl,hr⟩:=aw.get hj;have hy:j-n *T<N.length:=(a0q.1 bl).1;rw[if_pos M]at mg;exact⟨u',mg u' (by rw[←bl];congr 1;omega),hr.mono (Emb.set_ext _ bk)⟩)
          refine⟨.slice (some ⟨l.c,o',none⟩) (n+m) k',_,_,fD (w':=bd w l.c (.cells ⟨bc a1.toList (o'+n *T) N⟩ et (0,0))) hu ao (fun kk=>an kk) a5 Z dk al (fun a ha=>?_) (fun e=>by cases e),em,?_⟩
          ·injection ha with ha;subst ha;rw[df];exact b6
          exact VRel.sliceO (μ:=μ.set H.next ⟨l.c,o',some T,l.csz⟩) H.next 0 o' (n+m) (n+m) k' T ⟨l.c,o',some T,l.csz⟩ (Emb.set_same _ _ _) V (a0b _) dk (fun _=>rfl) c0
         ·--a b9 row
          obtain⟨nc,a0,E⟩:=ii (P:=P) (w:=w) (ty:=ty) hu ao (fun kk=>an kk) hi b5 b7 Z M q2 M a3 av;rw[ee]at E;have hk:=Post.kill h hμ hg V;obtain⟨l',h1,h2,h3,h4,_,hp⟩:=dj (P:=P) (H:=H.put b .dead) hk.wrel.drew bk e (a2.append ar) (Builtin.zeroCells vz.cells (nc-(n+m))).toList (some T) (fun e=>by cases e);rw[dV];refine⟨_,_,_,E,(hk.trans (Post.drew hk.wrel) (a0b _) (a0b _)).trans hp (a0b _) (by simp[aQ]),?_⟩;have:=VRel.sliceO (μ:=μ.set H.next l') H.next 0 0 (n+m) (n+m) nc T l' (Emb.set_same _ _ _) h3 (a0b _) a0 (fun _=>by omega) (by
           rw[h4,dy b2,a04,ax,ag,a1f,←a13,←a13];exact a0E _ M)
          rw[h1]at this;exact this
    cases A
   cases A
  cases A
 cases A
end
end Go.R
namespace Go.R
section
variable {P:Program} {μ:Emb} {H H':Heap} {w:World}
theorem copy_sound{types:Array TypeId}{ty:TypeId}{d s d' N v:Value}(h:WRel μ H w)(hd:VRel μ d d')(hs:VRel μ s N)(z:mS P types d s H=some (v,H')):
  ∃v' w',(Builtin.copy_ types ty #[d',N]).run P w= .ok v' w'/\Post μ H w μ H' w'/\VRel μ v v':=by
 unfold mS at z
 split at z
 ·rename_i dt an;split at z
  ·rename_i e base E dk m hu hm;split at z
   ·rename_i sz ao;simp only at z;obtain⟨A,T,rfl,bz⟩:=dp hd;have ad:(Builtin.lenOf N).run P w= .ok m w:=lenA_run hm hs;cases hq:Nat.beq (Nat.min m E) 0 with
    |true=>
     rw[hq]at z
     simp only[cond_true,a00,a01]at z
     obtain⟨rfl,rfl⟩:=z
     have h0:Nat.min m E=0:=a09 hq
     refine⟨_,w,?_,Post.refl h,.atom (goInt 0) V⟩
     have a1:(Builtin.firstCells sz 0 N).run P w= .ok #[] w:=by
      unfold lenA at hm;split at hm
      ·rename_i a n k;obtain⟨a',k',rfl,_⟩:=dp hs;cases a'<;>simp[Builtin.firstCells,loadCells,loadCellsFrom]
      ·rename_i u;obtain rfl:=hs.string_inv;simp only[Builtin.firstCells,Sem.run_pure,dT];congr 1;simp
      cases hm
     unfold Builtin.copy_
     simp only[an,show(#[Value.slice A E T,N]:Array Value)[0]?=some (Value.slice A E T) from V,show(#[Value.slice A E T,N]:Array Value)[1]?=some N from V,
      Sem.run_bind,ak w hu,Result.andThen_ok,ad,aZ w ao,h0,a1]
     cases A<;>simp[storeCells]
    |false=>
     rw[hq]at z
     simp only[cond_false]at z
     split at z
     ·rename_i l a hl;split at z
      ·rename_i H1 a4;simp only[a00,a01]at z;obtain⟨rfl,rfl⟩:=z;obtain⟨b,o,sp⟩:=a;have a3:sp=none:=hd.slice_some.1;subst a3;obtain⟨b2,a2,al,a6⟩:=ec (P:=P) h hs ⟨m,hm,Nat.min_le_left _ _⟩ hl;obtain⟨U,hμ,hc⟩:=hd.slice_inv;have h0:Nat.min m E≠0:=fun e=>by rw[e]at hq;cases hq
       have b0:0<E:=by
        rcases a1D E with e|e
        ·exfalso;apply h0;rw[e];exact Nat.min_zero _
        exact e
       obtain⟨w',ax,hp⟩:=fY (P:=P) h hμ a4 al;have a0:A=some ⟨U.c,U.sh+o,none⟩:=by
        rcases hc with⟨_,Z⟩|⟨e',o',k',_,Z,b1,_,aw,_⟩|⟨hz,_,_⟩
        rotate_right
        ·omega
        ·injection Z with Z
        injection Z with Z _ _;rw[Z,aw M]
       subst a0;refine⟨goInt (Nat.min m E:Nat),w',?_,hp,.atom _ V⟩;unfold Builtin.copy_;simp only[an,show(#[Value.slice (some ⟨U.c,U.sh+o,none⟩) E T,N]:Array Value)[0]?=some (Value.slice (some ⟨U.c,U.sh+o,none⟩) E T) from V,
        show(#[Value.slice (some ⟨U.c,U.sh+o,none⟩) E T,N]:Array Value)[1]?=some N from V,
        Sem.run_bind,ak w hu,Result.andThen_ok,ad,aZ w ao,a2,ax,Sem.run_pure]
      cases z
     cases z
   cases z
  cases z
 cases z
theorem len_sound{t ty:TypeId}{x Z v:Value}(h:WRel μ H w)(N:VRel μ x Z)(z:aLen P t x H=some v):
  (Builtin.len_ #[t] ty #[Z]).run P w= .ok v w/\noA0 v=true:=by
 unfold aLen at z
 split at z
 ·rename_i e a n k A;injection z with z;subst z;obtain⟨a',k',rfl,_⟩:=dp N;exact⟨by simp[Builtin.len_,ak w A],V⟩
 ·rename_i s A;injection z with z;subst z;obtain rfl:=N.string_inv;exact⟨by simp[Builtin.len_,ak w A,bE],V⟩
 ·rename_i k e A;injection z with z;subst z;obtain rfl:=N.mapNil_inv;exact⟨by simp[Builtin.len_,ak w A],V⟩
 ·rename_i k e r A;split at z
  ·rename_i es hg;injection z with z;subst z;obtain⟨l,hμ,rfl⟩:=N.map_inv;obtain⟨U,E,hh,hl,_⟩:=h.obj r l _ hμ hg;have T:(getObj l.c).run P w= .ok (.map U E) w:=gr hh (by intros;simp);exact⟨by simp[Builtin.len_,ak w A,T,hl],V⟩
  cases z
 cases z
theorem fW: ∀(l:List Value) (r:List UInt8) (s:ByteArray),cQ l=some r->
  (forIn (m:=Sem) l s (fun c s=>match c with
   | .int .u8 n=>Pure.pure (ForInStep.yield (s.push (UInt8.ofNat n.toNat)))
   |_=>do stuck "bytesToString: byte expected";Pure.pure (ForInStep.yield s))).run P w= .ok ⟨⟨s.data.toList++r⟩⟩ w
 | [],r,s,h=>by simp only[cQ,a00]at h;subst h;simp
 |v::l,r,s,h=>by
  unfold cQ at h;split at h
  ·rename_i z;cases z
  ·rename_i n T z;injection z with h1 h2;subst h1 h2;split at h
   ·rename_i N A;injection h with h;subst h;have E:=fW l N (s.push (UInt8.ofNat n.toNat)) A;simp only[List.forIn_cons,Sem.run_bind,Sem.run_pure,Result.andThen_ok,E];congr 3;simp
   cases h
  cases h
theorem eS: ∀(l:List Value) (r:List UInt8),cQ l=some r->l.all noA0=true
 | [],_,_=>rfl
 |v::l,r,h=>by
  unfold cQ at h;split at h
  ·rename_i z;cases z
  ·rename_i n N z;injection z with h1 h2;subst h1 h2;split at h
   ·rename_i E A;simp only[a0J,noA0,a1j];exact eS l E A
   cases h
  cases h
theorem mB{ρ ρ':Operand->Value}{o:Oper}{s d:TypeId}{x:Operand}{r:AN}(h:WRel μ H w)(ai:o.op= .convert s d x)(hρ: ∀x∈o.op.operands,VRel μ (ρ x) (ρ' x))
  (ho:fK P ρ o s d (ρ x) H=some (r,H')):OpOK P μ H w (execOp ρ' o) r H':=by
 have U:VRel μ (ρ x) (ρ' x):=hρ x (by rw[ai];simp[Op.operands])
 have Z:execOp ρ' o=(do Pure.pure (.value (←convert s d (ρ' x)))):=by unfold execOp;simp only[ai]
 unfold fK at ho
 split at ho
 ·rename_i k n hv;rw[hv]at U;obtain⟨rfl,v,z,rfl⟩:=cx ho;unfold mC at z;split at z
  ·rename_i sd kd N E;injection z with z;subst z;rw[Z];refine OpOK.value (v':= .int kd (kd.wrap n)) ?_ (Post.refl h) (.atom _ V);rw[U.int_inv];simp[convert,ak w N,ak w E,Conv.intToInt]
  cases z
 ·rename_i a n k hv;rw[hv]at U;obtain⟨rfl,v,z,rfl⟩:=cx ho;rw[Z];unfold eK at z;split at z
  ·rename_i e N E;split at z
   ·rename_i al;split at z
    ·injection z with z;subst z;obtain⟨_,_,A⟩:=U.sliceNil_inv;refine OpOK.value (v':= .string .empty) ?_ (Post.refl h) (.atom _ V);rw[A];simp[convert,ak w N,ak w E,ak w al,Conv.bytesToString]
    rename_i a;obtain⟨b,o2,sp⟩:=a;have a3:sp=none:=U.slice_some.1;subst a3;cases hq:Nat.beq n 0 with
    |true=>
     rw[hq]at z
     simp only[cond_true,a00]at z;subst z
     have hn:n=0:=a09 hq
     subst hn
     obtain⟨_,a',k',A⟩:=U.slice_some
     refine OpOK.value (v':= .string .empty) ?_ (Post.refl h) (.atom _ V)
     rw[A]
     simp[convert,ak w N,ak w E,ak w al,Conv.bytesToString,loadCells,loadCellsFrom]
    |false=>
     rw[hq]at z
     simp only[cond_false]at z
     have hn:n≠0:=fun e=>by subst e;cases hq
     split at z
     ·rename_i l hl;split at z
      ·rename_i rb av;injection z with z;subst z;obtain⟨l0,hμ,hc⟩:=U.slice_inv;obtain⟨aw,T,a0,a9⟩:=gP (P:=P) h hμ hl;have a4:aw=l:=a0.eq0 (eS l rb av);subst a4;have A: ∃k',ρ' x= .slice (some ⟨l0.c,l0.sh+o2,none⟩) n k':=by
        rcases hc with⟨_,he⟩|⟨e',o',k',_,he,b1,_,ay,_⟩|⟨hz,_,_⟩
        rotate_right
        ·exact absurd hz hn
        ·exact⟨k,he⟩
        rw[ay M]at he;exact⟨k',he⟩
       obtain⟨k',A⟩:=A;refine OpOK.value (v':= .string ⟨⟨rb⟩⟩) ?_ (Post.refl h) (.atom _ V);rw[A];have hb:=fW (P:=P) (w:=w) aw rb .empty av;simp only[convert,Sem.run_bind,ak w N,ak w E,ak w al,Result.andThen_ok,Conv.bytesToString,T];have he:((ByteArray.empty.data.toList++rb:List UInt8))=rb:=rfl;rw[he]at hb;simp only[←Array.forIn_toList]at *
       exact congrArg (fun r=>Result.andThen r fun a w'=>Sem.run P (Pure.pure (Value.string a)) w') hb
      cases z
     cases z
   cases z
  cases z
 obtain⟨rfl,v,v',rfl,T,hr⟩:=dF ho (fun _ _=>by rw[ai];simp) hρ
 exact⟨.value v',w,μ,T w,Post.refl h,hr⟩
theorem eb{d:TypeDesc}{k:Value}(h:bW d k=true):noA0 k=true:=by unfold bW at h;split at h<;>first|rfl|cases h
theorem iy(a b:ByteArray):(a==b)=dH a b:=by
 have e:(a==b)=(a.data==b.data):=by cases a;cases b;rfl
 rw[e,a0o];simp only[beq_iff_eq,dH];constructor
 ·intro h;rw[h]
 intro h;exact a19.1 h
theorem bytesEq_iff{a b:ByteArray}(h:dH a b=true):a=b:=by simp only[dH,beq_iff_eq]at h;exact ByteArray.ext (a19.1 h)
theorem iw(a:ByteArray):(a==a)=true:=by rw[iy];simp[dH]
theorem sameNow_key{d:TypeDesc}{a b:Value}(A:bW d a=true)(z:bW d b=true):Instr.sameNow d a b=some (dg a b):=by
 unfold bW at A z;split at A
 ·split at z
  ·rename_i k k1 n _ _ k2 N E;injection E with e1;subst e1;simp only[beq_iff_eq]at A z;subst A z;simp[Instr.sameNow,dg]
  ·cases ‹TypeDesc.int _=_›
  ·cases ‹TypeDesc.int _=_›
  cases z
 ·split at z
  ·cases ‹TypeDesc.string=_›
  ·simp[Instr.sameNow,dg,iy]
  ·cases ‹TypeDesc.string=_›
  cases z
 ·split at z
  ·cases ‹TypeDesc.bool=_›
  ·cases ‹TypeDesc.bool=_›
  ·simp[Instr.sameNow,dg]
  cases z
 cases A
def EntRel(μ:Emb)(es:List (Value×Value))(z:List MapEntry):Prop:=
 es.length=z.length/\∀(i:Nat) x y,es[i]?=some x->z[i]?=some y->VRel μ x.1 y.key/\VRel μ x.2 y.val
theorem EntRel.cons_left{x:Value×Value}{es:List (Value×Value)}{z:List MapEntry}(h:EntRel μ (x::es) z):
  ∃y t,z=y::t/\VRel μ x.1 y.key/\VRel μ x.2 y.val/\EntRel μ es t:=by
 cases z with
 |nil=>have:=h.1;simp at this
 |cons y t=>
  obtain⟨A,E⟩:=h.2 0 x y V V
  exact⟨y,t,V,A,E,by have:=h.1;simpa using this,fun i a b N T=>h.2 (i+1) a b (by simpa using N) (by simpa using T)⟩
theorem EntRel.cons{x:Value×Value}{es:List (Value×Value)}{y:MapEntry}{z:List MapEntry}(N:VRel μ x.1 y.key)(T:VRel μ x.2 y.val)(h:EntRel μ es z):
  EntRel μ (x::es) (y::z):=by
 refine⟨by simp[h.1],fun i a b A E=>?_⟩
 cases i with
 |zero=>simp at A E;subst A E;exact⟨N,T⟩
 |succ i=>exact h.2 i a b (by simpa using A) (by simpa using E)
theorem gR{d:TypeDesc}{k:Value}(Z:bW d k=true): ∀(es:List (Value×Value)) (ces:List MapEntry) (i:Nat),EntRel μ es ces->es.all (fun e=>bW d e.1)=true->
  (∃v v' j,eI d k es=some v/\Instr.findNow d k ces i=some (some (i+j,v'))/\VRel μ v v'/\j<ces.length/\
    (∃y,ces[j]?=some y/\dg k y.key=true/\bW d y.key=true)/\(∀u z,VRel μ u z->EntRel μ (eP k u es) (ces.modify j fun e=>{e with key:=k,val:=z})))\/
  (eI d k es=none/\Instr.findNow d k ces i=some none/\∀u z b,VRel μ u z->EntRel μ (eP k u es) (ces++[{key:=k,val:=z,born:=b}]))
 | [],ces,i,h,_=>by have:ces=[]:=a0v h.1.symm;subst this;refine .inr ⟨V,V,fun u z b A=>?_⟩;exact EntRel.cons (x:=(k,u)) (.atom k (eb Z)) A ⟨V,fun i a b ha=>by simp at ha⟩
 |x::es,ces,i,h,hall=>by
  obtain⟨y,t,rfl,N,T,ht⟩:=h.cons_left;simp only[a0J,a07]at hall;have U:y.key=x.1:=N.eq0 (eb hall.1);have E:Instr.sameNow d k y.key=some (dg k x.1):=by rw[U];exact sameNow_key Z hall.1
  cases hs:dg k x.1 with
  |true=>
   refine .inl ⟨x.2,y.val,0,?_,?_,T,by simp,⟨y,V,by rw[U];exact hs,by rw[U];exact hall.1⟩,fun u z A=>?_⟩
   ·simp only[eI,hs,cond_true]
   ·simp only[Instr.findNow,E,hs];rfl
   simp only[eP,hs,cond_true,List.modify_zero_cons]
   exact EntRel.cons (x:=(k,u)) (.atom k (eb Z)) A ht
  |false=>
   rcases gR Z es t (i+1) ht hall.2 with⟨v,v',j,h1,h2,h3,h4,h5,h6⟩|⟨h1,h2,h3⟩
   ·refine .inl ⟨v,v',j+1,?_,?_,h3,by simpa using h4,?_,fun u z A=>?_⟩
    ·simp only[eI,hs,cond_false];exact h1
    ·simp only[Instr.findNow,E,hs];rw[h2];congr 3;omega
    ·obtain⟨y2,an,h7⟩:=h5;exact⟨y2,by simpa using an,h7⟩
    simp only[eP,hs,cond_false,List.modify_succ_cons];exact EntRel.cons (x:=(x.1,x.2)) N T (h6 u z A)
   refine .inr ⟨?_,?_,fun u z b A=>?_⟩
   ·simp only[eI,hs,cond_false];exact h1
   ·simp only[Instr.findNow,E,hs];exact h2
   simp only[eP,hs,cond_false,a0U]
   exact EntRel.cons (x:=(x.1,x.2)) N T (h3 u z b A)
theorem eR{d:TypeDesc}{E:TypeId}{k:Value}(A:P.underlying E=some d)(z:bW d k=true)(b:Bool):(Instr.checkKey b 10000 E k).run P w= .ok () w:=by
 have key: ∀n,(Instr.checkKey b (n+1) E k).run P w= .ok () w:=by
  intro n;unfold bW at z;split at z
  ·simp[Instr.checkKey,ak w A]
  ·simp[Instr.checkKey,ak w A]
  ·simp[Instr.checkKey,ak w A]
  cases z
 exact key 9999
theorem lookup_sound{t:TypeId}{m k m' k' v:Value}{ok:Bool}(h:WRel μ H w)(hm:VRel μ m m')(hk:VRel μ k k')(A:eM P t m k ok H=some v):
  ∃v',(Instr.lookup t m' k' ok).run P w= .ok v' w/\VRel μ v v':=by
 unfold eM at A
 split at A
 ·rename_i kt et hu;split at A
  ·rename_i d i hd hi;split at A
   ·rename_i z hz;cases E:(bW d k&&gZ z) with
    |false=>rw[E]at A;cases A
    |true=>
     rw[E]at A
     simp only[cond_true]at A
     simp only[a07]at E
     have a0:k'=k:=hk.eq0 (eb E.1)
     subst a0
     have ao:VRel μ z z:=VRel.refl1 E.2
     have ar:(zeroValue et).run P w= .ok z w:=dB w hi hz
     have ai: ∀(u N:Value) (b:Bool),VRel μ u N->VRel μ (bif ok then .tuple #[u,.bool b] else u) (if ok then .tuple #[N,.bool b] else N):=by
      intro u N b hu;cases ok
      ·exact hu
      have:=LRel.cons hu (LRel.cons (VRel.atom (μ:=μ) (.bool b) V) LRel.nil);exact .tuple _ _ this.1 this.2
     split at A
     ·injection A with A;subst A;obtain rfl:=hm.mapNil_inv;refine⟨_,?_,ai z z false ao⟩;simp only[Instr.lookup,Sem.run_bind,ak w hu,Result.andThen_ok,Sem.run_pure,eR hd E.1,Instr.findKey,ak w hd];simp[Instr.findNow,ar]
     ·rename_i r;split at A
      ·rename_i es hg;cases Z:es.all fun e=>bW d e.1 with
       |false=>rw[Z]at A;cases A
       |true=>
        rw[Z]at A
        simp only[cond_true]at A
        obtain⟨l,hμ,rfl⟩:=hm.map_inv
        obtain⟨T,al,hh,hl,ax⟩:=h.obj r l _ hμ hg
        have ay:(getObj l.c).run P w= .ok (.map T al) w:=gr hh (by intros;simp)
        have U: ∀c_,Instr.findNow d k' T.toList 0=some c_->(Instr.lookup t (.map (some l.c)) k' ok).run P w=
          (match c_ with
           |some (_,v)=>(.ok (if ok then .tuple #[v,.bool true] else v) w:Result Value)
           |none=> .ok (if ok then .tuple #[z,.bool false] else z) w):=by
         intro c_ hX
         simp only[Instr.lookup,Sem.run_bind,ak w hu,Result.andThen_ok,Sem.run_pure,ay,eR hd E.1,Instr.findKey,ak w hd,hX]
         cases c_ with
         |none=>simp[ar]
         |some p=>obtain⟨j,u⟩:=p;simp
        rcases gR E.1 es T.toList 0 ⟨hl,ax⟩ Z with⟨u,N,j,h1,h2,h3,_⟩|⟨h1,h2,_⟩
        ·rw[h1]at A;simp only[a00]at A;subst A;exact⟨_,U _ h2,ai u N true h3⟩
        rw[h1]at A
        simp only[a00]at A;subst A
        exact⟨_,U _ h2,ai z z false ao⟩
      cases A
     cases A
   cases A
  cases A
 cases A
theorem sameBits_key{d:TypeDesc}{a b:Value}(A:bW d a=true)(z:bW d b=true)(h:dg a b=true):Instr.sameBits 10000 b a=true:=by
 have key: ∀n,Instr.sameBits n b a=true:=by
  intro n;unfold bW at A z;split at A
  ·split at z
   ·rename_i k k1 x _ _ k2 y E;injection E with e1;subst e1;simp only[beq_iff_eq]at A z;subst A z;simp only[dg,beq_iff_eq]at h;subst h;cases n<;>simp[Instr.sameBits]
   ·cases ‹TypeDesc.int _=_›
   ·cases ‹TypeDesc.int _=_›
   cases z
  ·split at z
   ·cases ‹TypeDesc.string=_›
   ·rename_i x _ _ y _;have h:=bytesEq_iff h;subst h;cases n<;>simp[Instr.sameBits,iw]
   ·cases ‹TypeDesc.string=_›
   cases z
  ·split at z
   ·cases ‹TypeDesc.bool=_›
   ·cases ‹TypeDesc.bool=_›
   ·simp only[dg,beq_iff_eq]at h;subst h;cases n<;>simp[Instr.sameBits]
   cases z
  cases A
 exact key 10000
theorem iY{t:TypeId}{m k v m' k' v':Value}(h:WRel μ H w)(hm:VRel μ m m')(hk:VRel μ k k')(hv:VRel μ v v')(A:e7 P t m k v H=some H'):
  ∃w',(Instr.mapUpdate t m' k' v').run P w= .ok () w'/\Post μ H w μ H' w':=by
 unfold e7 at A
 split at A
 ·rename_i kt et hu;split at A
  ·rename_i d r hd;split at A
   ·rename_i es hg;cases E:(bW d k&&es.all fun e=>bW d e.1) with
    |false=>rw[E]at A;cases A
    |true=>
     rw[E]at A
     simp only[cond_true,a00]at A;subst A
     simp only[a07]at E
     have ax:k'=k:=hk.eq0 (eb E.1)
     subst ax
     obtain⟨l,hμ,rfl⟩:=hm.map_inv
     obtain⟨N,z,hh,hl,ao⟩:=h.obj r l _ hμ hg
     have T:(getObj l.c).run P w= .ok (.map N z) w:=gr hh (by intros;simp)
     have Z: ∀o',(setObj l.c o').run P w= .ok () (bd w l.c o'):=fun o'=>lc hh (by intros;simp)
     rcases gR E.1 es N.toList 0 ⟨hl,ao⟩ E.2 with⟨u,u',j,h1,h2,h3,h4,⟨y,hy,a2,a1⟩,h6⟩|⟨h1,h2,h3⟩
     ·refine⟨bd w l.c (.map (N.modify j fun e=>{e with key:=k',val:=v'}) z),?_,?_⟩
      ·have al:N[j]?=some y:=by simpa using hy
       simp only[Instr.mapUpdate,Sem.run_bind,ak w hu,Result.andThen_ok,T,eR hd E.1,Instr.findKey,ak w hd,h2,Sem.run_pure,a1f,al,a1M,a0Q,
        Instr.keyThatStays,sameBits_key E.1 a1 a2,if_true,Z]
      have U:=h6 v v' hv;refine Post.put h hμ hg V _ V _ ⟨_,z,bL w _ (cb hh),?_,?_⟩
      ·rw[Array.toList_modify];exact U.1
      rw[Array.toList_modify];exact U.2
     refine⟨bd w l.c (.map (N.push {key:=k',val:=v',born:=z}) (z+1)),?_,?_⟩
     ·simp only[Instr.mapUpdate,Sem.run_bind,ak w hu,Result.andThen_ok,T,eR hd E.1,Instr.findKey,ak w hd,h2,Sem.run_pure,Z]
     have U:=h3 v v' z hv
     refine Post.put h hμ hg V _ V _ ⟨_,z+1,bL w _ (cb hh),?_,?_⟩
     ·rw[Array.toList_push];exact U.1
     rw[Array.toList_push];exact U.2
   cases A
  cases A
 cases A
theorem callee_sound{f f':Value}{args:List Value}{A:Array Value}{r:AN}(hf:VRel μ f f')(ha:LRel μ args A.toList)(z:fM P f args=some r):
  ∃i T,r= .enter i T/\∃N,(∀w,(do let d ←Deferred.ofValue f' A;invoke d.target d.args:Sem Next).run P w= .ok (.enter i N) w)/\LRel μ T N.toList:=by
 unfold fM at z
 split at z
 ·rename_i i first ad;obtain⟨Z,E,rfl,h1,h2⟩:=hf.func_inv;split at z
  ·rename_i fn al;cases U:(fn.body.isSome&& !(fn.name== "runtime.NumGoroutine")) with
   |false=>rw[U]at z;cases z
   |true=>
    rw[U]at z
    simp only[cond_true,a00]at z;subst z
    simp only[a07,a0B]at U
    refine⟨i,_,V,(Z++A)++E,fun w=>?_,?_⟩
    ·have hb: ¬fn.body=none:=by intro ai;rw[ai]at U;cases U.1
     have an: ¬fn.name= "runtime.NumGoroutine" :=by have:=U.2;simpa using this
     simp[Deferred.ofValue,invoke,callFunc,al,an,hb]
    rw[dV,dV]
    have:=(h1.append (ha.append h2))
    simpa using this
  cases z
 cases z
end
end Go.R
