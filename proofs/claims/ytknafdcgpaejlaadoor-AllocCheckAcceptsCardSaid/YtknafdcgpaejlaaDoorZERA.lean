/-
 The evaluator is sound, first part: values, operations, memory. No condition beyond those that each statement names.
-/
import Derived.Test.YtknafdcgpaejlaaDoorZER0
import Derived.IntWalk
set_option linter.unusedVariables false
set_option linter.unusedSimpArgs false
namespace Go.R
structure Loc where
 c:Nat
 sh:Nat
 opn:Option Nat
 csz:Nat
abbrev Emb:=Nat->Option Loc
inductive VRel(μ:Emb):Value->Value->Prop
 |atom (v:Value):noA0 v=true->VRel μ v v
 |ptr (b o:Nat) (l:Loc):μ b=some l->VRel μ (.pointer (some ⟨b,o,none⟩)) (.pointer (some ⟨l.c,l.sh+o,none⟩))
 |sliceC (b o n k:Nat) (l:Loc):μ b=some l->l.opn=none->VRel μ (.slice (some ⟨b,o,none⟩) n k) (.slice (some ⟨l.c,l.sh+o,none⟩) n k)
 |sliceO (b o o' n k k' e:Nat) (l:Loc):μ b=some l->l.opn=some e->n<=k->k<=k'->(0<k->o'=l.sh+o)->o'+k'*e<=l.csz->
   VRel μ (.slice (some ⟨b,o,none⟩) n k) (.slice (some ⟨l.c,o',none⟩) n k')
 |sliceZ (b o:Nat) (a:Addr) (l:Loc):μ b=some l->VRel μ (.slice (some ⟨b,o,none⟩) 0 0) (.slice (some a) 0 0)
 |map (b:Nat) (l:Loc):μ b=some l->VRel μ (.map (some b)) (.map (some l.c))
 |func (fn:Fn) (xs ys xs' ys':Array Value):xs.toList.length=xs'.toList.length->ys.toList.length=ys'.toList.length->
   (∀(i:Nat) v v',xs.toList[i]?=some v->xs'.toList[i]?=some v'->VRel μ v v')->
   (∀(i:Nat) v v',ys.toList[i]?=some v->ys'.toList[i]?=some v'->VRel μ v v')->VRel μ (.func fn xs ys) (.func fn xs' ys')
 |agg (xs xs':Array Value):xs.toList.length=xs'.toList.length->
   (∀(i:Nat) v v',xs.toList[i]?=some v->xs'.toList[i]?=some v'->VRel μ v v')->VRel μ (.agg xs) (.agg xs')
 |tuple (xs xs':Array Value):xs.toList.length=xs'.toList.length->
   (∀(i:Nat) v v',xs.toList[i]?=some v->xs'.toList[i]?=some v'->VRel μ v v')->VRel μ (.tuple xs) (.tuple xs')
def LRel(μ:Emb)(l l':List Value):Prop:=l.length=l'.length/\∀(i:Nat) v v',l[i]?=some v->l'[i]?=some v'->VRel μ v v'
section
variable {μ μ':Emb}
theorem VRel.mono(h: ∀b l,μ b=some l->μ' b=some l){v v':Value}(hv:VRel μ v v'):VRel μ' v v':=by
 induction hv with
 |atom v h0=>exact .atom v h0
 |ptr b o l hb=>exact .ptr b o l (h _ _ hb)
 |sliceC b o n k l hb ho=>exact .sliceC b o n k l (h _ _ hb) ho
 |sliceO b o o' n k k' e l hb ho h1 h2 h3 h4=>exact .sliceO b o o' n k k' e l (h _ _ hb) ho h1 h2 h3 h4
 |sliceZ b o a l hb=>exact .sliceZ b o a l (h _ _ hb)
 |map b l hb=>exact .map b l (h _ _ hb)
 |func fn xs ys xs' ys' h1 h2 _ _ i1 i2=>exact .func fn xs ys xs' ys' h1 h2 i1 i2
 |agg xs xs' h1 _ i1=>exact .agg xs xs' h1 i1
 |tuple xs xs' h1 _ i1=>exact .tuple xs xs' h1 i1
theorem LRel.nil:LRel μ [] []:=⟨rfl,fun i v v' h=>by simp at h⟩
theorem LRel.cons{v v':Value}{l l':List Value}(h:VRel μ v v')(hl:LRel μ l l'):LRel μ (v::l) (v'::l'):=by
 refine⟨by simp[hl.1],fun i x x' h1 h2=>?_⟩;cases i with
 |zero=>simp at h1 h2;subst h1 h2;exact h
 |succ i=>exact hl.2 i x x' (by simpa using h1) (by simpa using h2)
theorem LRel.head{v v':Value}{l l':List Value}(h:LRel μ (v::l) (v'::l')):VRel μ v v':=h.2 0 v v' rfl rfl
theorem LRel.tail{v v':Value}{l l':List Value}(h:LRel μ (v::l) (v'::l')):LRel μ l l':=
 ⟨by simpa using h.1,fun i x x' h1 h2=>h.2 (i+1) x x' (by simpa using h1) (by simpa using h2)⟩
theorem LRel.get{l l':List Value}(h:LRel μ l l'){i:Nat}{v:Value}(hv:l[i]?=some v): ∃v',l'[i]?=some v'/\VRel μ v v':=by
 have hi:i<l'.length:=by rw[←h.1];exact(a0u.1 hv).1
 exact⟨l'[i],a04 hi,h.2 i v _ hv (a04 hi)⟩
theorem LRel.append{a b a' b':List Value}(h:LRel μ a a')(k:LRel μ b b'):LRel μ (a++b) (a'++b'):=by
 refine⟨by simp[h.1,k.1],fun i v v' h1 h2=>?_⟩;by_cases hi:i<a.length
 ·rw[a0S hi]at h1;rw[a0S (h.1▸hi)]at h2;exact h.2 i v v' h1 h2
 rw[a17 (by omega)]at h1;rw[a17 (by have:=h.1;omega),←h.1]at h2;exact k.2 _ v v' h1 h2
theorem LRel.take{a a':List Value}(h:LRel μ a a')(n:Nat):LRel μ (a.take n) (a'.take n):=by
 refine⟨by simp[h.1],fun i v v' h1 h2=>?_⟩;rw[a0y]at h1 h2;split at h1
 ·rename_i hi;rw[if_pos hi]at h2;exact h.2 i v v' h1 h2
 cases h1
theorem LRel.drop{a a':List Value}(h:LRel μ a a')(n:Nat):LRel μ (a.drop n) (a'.drop n):=by refine⟨by simp[h.1],fun i v v' h1 h2=>?_⟩;rw[a0J]at h1 h2;exact h.2 _ v v' h1 h2
theorem LRel.nil_left{l':List Value}(h:LRel μ [] l'):l'=[]:=a0s h.1.symm
theorem LRel.cons_left{v:Value}{l l':List Value}(h:LRel μ (v::l) l'): ∃v' t',l'=v'::t'/\VRel μ v v'/\LRel μ l t':=by
 cases l' with
 |nil=>have:=h.1;simp at this
 |cons v' t'=>exact⟨v',t',rfl,h.head,h.tail⟩
theorem VRel.oneCell{v v':Value}(h:VRel μ v v'):v'.oneCell'=v.oneCell':=by cases h<;>rfl
theorem VRel.eq0{v v':Value}(h:VRel μ v v')(h0:noA0 v=true):v'=v:=by
 cases h with
 |atom=>rfl
 |func fn xs ys xs' ys' h1 h2 _ _=>
  simp only[noA0,a0d]at h0
  have e1:xs.size=0:=a07 h0.1
  have e2:ys.size=0:=a07 h0.2
  have f1:xs= #[]:=a1f.1 e1
  have f2:ys= #[]:=a1f.1 e2
  subst f1 f2
  have g1:xs'= #[]:=a1f.1 (by simpa using h1.symm)
  have g2:ys'= #[]:=a1f.1 (by simpa using h2.symm)
  subst g1 g2
  rfl
 |_=>simp[noA0]at h0
theorem LRel.eq0{l l':List Value}(h:LRel μ l l')(h0:l.all noA0=true):l'=l:=by
 induction l generalizing l' with
 |nil=>exact h.nil_left
 |cons v l ih=>
  obtain⟨v',t',rfl,hv,ht⟩:=h.cons_left
  simp only[a1i,a0d]at h0
  rw[hv.eq0 h0.1,ih ht h0.2]
theorem VRel.eq1{v v':Value}(h:VRel μ v v')(h1:gF v=true):v'=v:=by
 cases h with
 |agg xs xs' hl hi=>
  have:=LRel.eq0 (μ:=μ) (l:=xs.toList) (l':=xs'.toList) ⟨hl,hi⟩ h1
  rw[a1c.1 this]
 |atom v h0=>rfl
 |_=>exact VRel.eq0 (μ:=μ) (by constructor<;>assumption) h1
theorem LRel.eq1{l l':List Value}(h:LRel μ l l')(h0:l.all gF=true):l'=l:=by
 induction l generalizing l' with
 |nil=>exact h.nil_left
 |cons v l ih=>
  obtain⟨v',t',rfl,hv,ht⟩:=h.cons_left
  simp only[a1i,a0d]at h0
  rw[hv.eq1 h0.1,ih ht h0.2]
theorem LRel.refl0{l:List Value}(h:l.all noA0=true):LRel μ l l:=by refine⟨rfl,fun i v v' h1 h2=>?_⟩;rw[h1]at h2;injection h2 with h2;subst h2;exact .atom v (a0w.1 h v (a0k h1))
theorem VRel.refl1{v:Value}(h:gF v=true):VRel μ v v:=by
 cases v with
 |agg cs=>have:=LRel.refl0 (μ:=μ) (l:=cs.toList) h;exact .agg cs cs this.1 this.2
 |_=>exact .atom _ h
theorem LRel.refl1{l:List Value}(h:l.all gF=true):LRel μ l l:=by refine⟨rfl,fun i v v' h1 h2=>?_⟩;rw[h1]at h2;injection h2 with h2;subst h2;exact VRel.refl1 (a0w.1 h v (a0k h1))
theorem VRel.refl2{v:Value}(h:noA2 v=true):VRel μ v v:=by
 cases v with
 |tuple vs=>have:=LRel.refl1 (μ:=μ) (l:=vs.toList) h;exact .tuple vs vs this.1 this.2
 |_=>exact VRel.refl1 h
theorem VRel.undef:VRel μ undef undef:=VRel.refl2 rfl
theorem VRel.eq2{v v':Value}(h:VRel μ v v')(h1:noA2 v=true):v'=v:=by
 cases h with
 |tuple xs xs' hl hi=>
  have:=LRel.eq1 (μ:=μ) (l:=xs.toList) (l':=xs'.toList) ⟨hl,hi⟩ h1
  rw[a1c.1 this]
 |atom v h0=>rfl
 |_=>exact VRel.eq1 (μ:=μ) (by constructor<;>assumption) h1
theorem VRel.cells{v v':Value}(h:VRel μ v v'):LRel μ v.cells.toList v'.cells.toList:=by
 have one: ∀{u u':Value},VRel μ u u'->LRel μ [u] [u']:=fun hu=> .cons hu .nil
 cases h with
 |agg xs xs' hl hi=>exact⟨hl,hi⟩
 |atom v h0=>cases v<;>first|(simp[noA0]at h0;done)|exact one (.atom _ h0)
 |ptr b o l hb=>exact one (.ptr b o l hb)
 |sliceC b o n k l hb ho=>exact one (.sliceC b o n k l hb ho)
 |sliceO b o o' n k k' e l hb ho h1 h2 h3 h4=>exact one (.sliceO b o o' n k k' e l hb ho h1 h2 h3 h4)
 |sliceZ b o a l hb=>exact one (.sliceZ b o a l hb)
 |map b l hb=>exact one (.map b l hb)
 |func fn xs ys xs' ys' h1 h2 i1 i2=>exact one (.func fn xs ys xs' ys' h1 h2 i1 i2)
 |tuple xs xs' h1 i1=>exact one (.tuple xs xs' h1 i1)
theorem VRel.int_inv{k:IntKind}{n:Int}{v':Value}(h:VRel μ (.int k n) v'):v'= .int k n:=h.eq0 rfl
theorem VRel.bool_inv{b:Bool}{v':Value}(h:VRel μ (.bool b) v'):v'= .bool b:=h.eq0 rfl
theorem VRel.string_inv{s:ByteArray}{v':Value}(h:VRel μ (.string s) v'):v'= .string s:=h.eq0 rfl
theorem VRel.ptr_inv{b o:Nat}{v':Value}(h:VRel μ (.pointer (some ⟨b,o,none⟩)) v'): ∃l,μ b=some l/\v'= .pointer (some ⟨l.c,l.sh+o,none⟩):=by
 cases h with
 |atom _ h0=>simp[noA0]at h0
 |ptr _ _ l hb=>exact⟨l,hb,rfl⟩
theorem VRel.ptr_some{a:Addr}{v':Value}(h:VRel μ (.pointer (some a)) v'):a.spot=none/\∃a',v'= .pointer (some a'):=by
 cases h with
 |atom _ h0=>simp[noA0]at h0
 |ptr _ _ l hb=>exact⟨rfl,_,rfl⟩
theorem VRel.agg_inv{xs:Array Value}{v':Value}(h:VRel μ (.agg xs) v'): ∃xs',v'= .agg xs'/\LRel μ xs.toList xs'.toList:=by
 cases h with
 |atom _ h0=>simp[noA0]at h0
 |agg _ xs' hl hi=>exact⟨xs',rfl,hl,hi⟩
theorem VRel.tuple_inv{xs:Array Value}{v':Value}(h:VRel μ (.tuple xs) v'): ∃xs',v'= .tuple xs'/\LRel μ xs.toList xs'.toList:=by
 cases h with
 |atom _ h0=>simp[noA0]at h0
 |tuple _ xs' hl hi=>exact⟨xs',rfl,hl,hi⟩
theorem VRel.func_inv{fn:Fn}{xs ys:Array Value}{v':Value}(h:VRel μ (.func fn xs ys) v'):
  ∃xs' ys',v'= .func fn xs' ys'/\LRel μ xs.toList xs'.toList/\LRel μ ys.toList ys'.toList:=by
 cases h with
 |atom _ h0=>
  simp only[noA0,a0d]at h0
  have f1:xs= #[]:=a1f.1 (a07 h0.1)
  have f2:ys= #[]:=a1f.1 (a07 h0.2)
  subst f1 f2
  exact⟨#[], #[],rfl,.nil,.nil⟩
 |func _ _ _ xs' ys' h1 h2 i1 i2=>exact⟨xs',ys',rfl,⟨h1,i1⟩,⟨h2,i2⟩⟩
theorem VRel.map_inv{b:Nat}{v':Value}(h:VRel μ (.map (some b)) v'): ∃l,μ b=some l/\v'= .map (some l.c):=by
 cases h with
 |atom _ h0=>simp[noA0]at h0
 |map _ l hb=>exact⟨l,hb,rfl⟩
theorem VRel.mapNil_inv{v':Value}(h:VRel μ (.map none) v'):v'= .map none:=h.eq0 rfl
theorem VRel.slice_inv{b o n k:Nat}{v':Value}(h:VRel μ (.slice (some ⟨b,o,none⟩) n k) v'):
  ∃l,μ b=some l/\((l.opn=none/\v'= .slice (some ⟨l.c,l.sh+o,none⟩) n k)\/
   (∃e o' k',l.opn=some e/\v'= .slice (some ⟨l.c,o',none⟩) n k'/\n<=k/\k<=k'/\(0<k->o'=l.sh+o)/\o'+k'*e<=l.csz)\/(n=0/\k=0/\∃a',v'= .slice (some a') 0 0)):=by
 cases h with
 |atom _ h0=>simp[noA0]at h0
 |sliceC _ _ _ _ l hb ho=>exact⟨l,hb,.inl ⟨ho,rfl⟩⟩
 |sliceO _ _ o' _ _ k' e l hb ho h1 h2 h3 h4=>exact⟨l,hb,.inr (.inl ⟨e,o',k',ho,rfl,h1,h2,h3,h4⟩)⟩
 |sliceZ _ _ a l hb=>exact⟨l,hb,.inr (.inr ⟨rfl,rfl,a,rfl⟩)⟩
theorem VRel.sliceNil_inv{n k:Nat}{v':Value}(h:VRel μ (.slice none n k) v'):n=0/\k=0/\v'= .slice none n k:=by
 cases h with
 |atom _ h0=>
  simp only[noA0,a0d]at h0
  exact⟨a07 h0.1,a07 h0.2,rfl⟩
theorem VRel.slice_some{a:Addr}{n k:Nat}{v':Value}(h:VRel μ (.slice (some a) n k) v'):a.spot=none/\∃a' k',v'= .slice (some a') n k':=by
 cases h with
 |atom _ h0=>simp[noA0]at h0
 |sliceC _ _ _ _ l hb ho=>exact⟨rfl,_,_,rfl⟩
 |sliceO _ _ o' _ _ k' e l hb ho h1 h2 h3 h4=>exact⟨rfl,_,_,rfl⟩
 |sliceZ _ _ a l hb=>exact⟨rfl,_,_,rfl⟩
end
def ObjRel(μ:Emb)(w:World)(l:Loc):AObj->Prop
 | .cells cs opn true=>l.opn=opn/\opn=none/\l.c<w.heap.size/\∀(i:Nat) v,cs[i]?=some v->∃v',w.cell? ⟨l.c,l.sh+i,none⟩=some v'/\VRel μ v v'
 | .cells cs opn false=>l.opn=opn/\∃(ccs:Array Value) (e:TypeId),w.heap[l.c]?=some (.cells ccs e (0,0))/\ccs.size=l.csz/\l.sh+cs.length<=l.csz/\
   ∀(i:Nat) v,cs[i]?=some v->∃v',ccs[l.sh+i]?=some v'/\VRel μ v v'
 | .iter s pos=>l.sh=0/\w.heap[l.c]?=some (.stringIter s pos)
 | .tab es=> ∃(ces:Array MapEntry) (clock:Nat),w.heap[l.c]?=some (.map ces clock)/\es.length=ces.toList.length/\
   ∀(i:Nat) x y,es[i]?=some x->ces.toList[i]?=some y->VRel μ x.1 y.key/\VRel μ x.2 y.val
 | .dead=>True
structure WRel(μ:Emb)(H:Heap)(w:World):Prop where
 obj: ∀b l o,μ b=some l->H.get b=some o->ObjRel μ w l o
 inj: ∀b1 b2 l1 l2 o1 o2,b1≠b2->μ b1=some l1->μ b2=some l2->H.get b1=some o1->H.get b2=some o2->o1.rw=true->o2.live=true->l1.c≠l2.c
theorem bW{w:World}{c:Nat}{o:Obj}(h:w.heap[c]?=some o):c<w.heap.size:=(a0D.1 h).1
theorem ObjRel.lt{μ:Emb}{w:World}{l:Loc}{o:AObj}(h:ObjRel μ w l o)(ho:o.live=true):l.c<w.heap.size:=by
 cases o with
 |cells cs opn ro=>
  cases ro with
  |true=>exact h.2.2.1
  |false=>obtain⟨_,ccs,e,hh,_⟩:=h;exact bW hh
 |iter s pos=>exact bW h.2
 |tab es=>obtain⟨ces,clock,hh,_⟩:=h;exact bW hh
 |dead=>simp[AObj.live]at ho
theorem ObjRel.keep{μ μ':Emb}{w w':World}{l:Loc}{o:AObj}(hm: ∀b l,μ b=some l->μ' b=some l)(hs:w.heap.size<=w'.heap.size)
  (hc:o.live=true->w'.heap[l.c]?=w.heap[l.c]?) (h:ObjRel μ w l o):ObjRel μ' w' l o:=by
 cases o with
 |cells cs opn ro=>
  have hcc:=hc rfl
  cases ro with
  |true=>
   obtain⟨h1,h2,h3,h4⟩:=h
   refine⟨h1,h2,by omega,fun i v hv=>?_⟩
   obtain⟨v',hv',hr⟩:=h4 i v hv
   refine⟨v',?_,hr.mono hm⟩
   rw[←hv']
   simp only[World.cell?,hcc]
  |false=>
   obtain⟨h1,ccs,e,hh,h2,h3,h4⟩:=h
   refine⟨h1,ccs,e,hcc.trans hh,h2,h3,fun i v hv=>?_⟩
   obtain⟨v',hv',hr⟩:=h4 i v hv
   exact⟨v',hv',hr.mono hm⟩
 |iter s pos=>exact⟨h.1,(hc rfl).trans h.2⟩
 |tab es=>
  obtain⟨ces,clock,hh,h2,h3⟩:=h
  refine⟨ces,clock,(hc rfl).trans hh,h2,fun i x y hx hy=>?_⟩
  obtain⟨r1,r2⟩:=h3 i x y hx hy
  exact⟨r1.mono hm,r2.mono hm⟩
 |dead=>trivial
theorem gh{o:AObj}(h:o.rw=true):o.live=true:=by cases o<;>simp_all[AObj.rw,AObj.live]
structure Post(μ:Emb)(H:Heap)(w:World)(μ':Emb)(H':Heap)(w':World):Prop where
 ext: ∀b l,μ b=some l->μ' b=some l
 dom: ∀b l,μ' b=some l->μ b=some l\/(H.next<=b/\b<H'.next)
 grow:w.heap.size<=w'.heap.size
 os:w'.os=w.os
 tape:w'.tape=w.tape
 out:w'.output=w.output
 keep: ∀c,c<w.heap.size->(∀b l o,μ b=some l->H.get b=some o->o.rw=true->l.c≠c)->w'.heap[c]?=w.heap[c]?
 img: ∀b l o,μ' b=some l->H'.get b=some o->o.live=true->w.heap.size<=l.c\/∃b0 l0 o0,μ b0=some l0/\H.get b0=some o0/\o0.live=true/\(o.rw=true->o0.rw=true)/\l0.c=l.c
 wrel:WRel μ' H' w'
theorem Post.refl{μ:Emb}{H:Heap}{w:World}(h:WRel μ H w):Post μ H w μ H w:=
 ⟨fun _ _ h=>h,fun _ _ h=> .inl h,a09 _,rfl,rfl,rfl,fun _ _ _=>rfl,fun b l o h1 h2 h3=> .inr ⟨b,l,o,h1,h2,h3,id,rfl⟩,h⟩
theorem Post.trans{μ μ1 μ2:Emb}{H H1 H2:Heap}{w w1 w2:World}(h:Post μ H w μ1 H1 w1)(k:Post μ1 H1 w1 μ2 H2 w2)(h1:H.next<=H1.next)(h2:H1.next<=H2.next):
  Post μ H w μ2 H2 w2:=by
 refine⟨fun b l hb=>k.ext b l (h.ext b l hb),fun b l hb=>?_,a0c h.grow k.grow,k.os.trans h.os,k.tape.trans h.tape,k.out.trans h.out,fun c hc hn=>?_,fun b l o hb ho hr=>?_,k.wrel⟩
 ·rcases k.dom b l hb with hb1|⟨hb1,hb2⟩
  ·rcases h.dom b l hb1 with hb0|⟨hb3,hb4⟩
   ·exact .inl hb0
   exact .inr ⟨hb3,by omega⟩
  exact .inr ⟨by omega,hb2⟩
 ·rw[k.keep c (a0V hc h.grow) ?_,h.keep c hc hn];intro b l o hb ho hr he;rcases h.img b l o hb ho (gh hr) with hh|⟨b0,l0,o0,g1,g2,g3,g5,g4⟩
  ·omega
  exact hn b0 l0 o0 g1 g2 (g5 hr) (g4.trans he)
 rcases k.img b l o hb ho hr with hh|⟨b0,l0,o0,g1,g2,g3,g5,g4⟩
 ·exact .inl (a0c h.grow hh)
 rcases h.img b0 l0 o0 g1 g2 g3 with hh|⟨b1,l1,o1,e1,e2,e3,e5,e4⟩
 ·exact .inl (g4▸hh)
 exact .inr ⟨b1,l1,o1,e1,e2,e3,fun hx=>e5 (g5 hx),e4.trans g4⟩
theorem WRel.drew{μ:Emb}{H:Heap}{w:World}(h:WRel μ H w):WRel μ H w.drew:=
 ⟨fun b l o hb ho=>(h.obj b l o hb ho).keep (fun _ _ h=>h) (a09 _) (fun _=>rfl),h.inj⟩
theorem Post.drew{μ:Emb}{H:Heap}{w:World}(h:WRel μ H w):Post μ H w μ H w.drew:=
 ⟨fun _ _ h=>h,fun _ _ h=> .inl h,a09 _,rfl,rfl,rfl,fun _ _ _=>rfl,fun b l o h1 h2 h3=> .inr ⟨b,l,o,h1,h2,h3,id,rfl⟩,h.drew⟩
def Emb.set(μ:Emb)(b:Nat)(l:Loc):Emb:=fun k=>if k=b then some l else μ k
theorem Emb.set_same(μ:Emb)(b:Nat)(l:Loc):μ.set b l b=some l:=by simp[Emb.set]
theorem Emb.set_ext{μ:Emb}{b:Nat}(l:Loc)(h:μ b=none): ∀k x,μ k=some x->μ.set b l k=some x:=by
 intro k x hk;have:k≠b:=fun e=>by subst e;rw[h]at hk;cases hk
 simp[Emb.set,this,hk]
theorem Emb.set_inv{μ:Emb}{b:Nat}{l:Loc}{k:Nat}{x:Loc}(h:μ.set b l k=some x):(k=b/\x=l)\/(k≠b/\μ k=some x):=by
 unfold Emb.set at h;split at h
 ·rename_i e;injection h with h;exact .inl ⟨e,h.symm⟩
 rename_i e;exact .inr ⟨e,h⟩
theorem iK(w:World)(o:Obj){c:Nat}(h:c<w.heap.size):(w.alloc o).heap[c]?=w.heap[c]?:=by simp only[World.alloc,Array.getElem?_push];rw[if_neg (by omega)]
theorem e8(w:World)(o:Obj):(w.alloc o).heap[w.heap.size]?=some o:=by show(w.heap.push o)[w.heap.size]?=some o;simp
theorem Post.push{μ:Emb}{H:Heap}{w:World}(h:WRel μ H w)(hf:μ H.next=none)(l:Loc)(hl:l.c=w.heap.size)(o:AObj)(co:Obj)
  (ho:ObjRel (μ.set H.next l) (w.alloc co) l o):Post μ H w (μ.set H.next l) (H.push o) (w.alloc co):=by
 have hm:=Emb.set_ext l hf
 refine⟨hm,fun b x hb=>?_,by simp,rfl,rfl,rfl,fun c hc _=>iK w co hc,fun b x o' hb ho' hr=>?_,⟨fun b x o' hb ho'=>?_,fun b1 b2 l1 l2 o1 o2 hne hb1 hb2 ho1 ho2 hr1 hr2=>?_⟩⟩
 ·rcases Emb.set_inv hb with⟨rfl,rfl⟩|⟨_,hb⟩
  ·exact .inr ⟨a09 _,by simp⟩
  exact .inl hb
 ·rcases Emb.set_inv hb with⟨rfl,rfl⟩|⟨hne,hb⟩
  ·exact .inl (by omega)
  rw[Heap.get_push_ne H o (Ne.symm hne)]at ho';exact .inr ⟨b,x,o',hb,ho',hr,id,rfl⟩
 ·rcases Emb.set_inv hb with⟨rfl,rfl⟩|⟨hne,hb⟩
  ·rw[Heap.get_push_same]at ho';injection ho' with ho';subst ho';exact ho
  rw[Heap.get_push_ne H o (Ne.symm hne)]at ho';have hr:=h.obj b x o' hb ho';exact hr.keep hm (by simp) (fun hlv=>iK w co (hr.lt hlv))
 rcases Emb.set_inv hb1 with⟨e1,f1⟩|⟨hne1,hb1'⟩<;>rcases Emb.set_inv hb2 with⟨e2,f2⟩|⟨hne2,hb2'⟩
 ·exact absurd (e1.trans e2.symm) hne
 ·rw[Heap.get_push_ne H o (Ne.symm hne2)]at ho2;have:=(h.obj b2 l2 o2 hb2' ho2).lt hr2;subst f1;omega
 ·rw[Heap.get_push_ne H o (Ne.symm hne1)]at ho1;have:=(h.obj b1 l1 o1 hb1' ho1).lt (by cases o1<;>simp_all[AObj.rw,AObj.live]);subst f2;omega
 rw[Heap.get_push_ne H o (Ne.symm hne1)]at ho1
 rw[Heap.get_push_ne H o (Ne.symm hne2)]at ho2
 exact h.inj b1 b2 l1 l2 o1 o2 hne hb1' hb2' ho1 ho2 hr1 hr2
def bd(w:World)(c:Nat)(o:Obj):World:={w with heap:=w.heap.setIfInBounds c o}
theorem db(w:World){c k:Nat}(o:Obj)(h:c≠k):(bd w c o).heap[k]?=w.heap[k]?:=by simp[bd,a1z h]
theorem bH(w:World){c:Nat}(o:Obj)(h:c<w.heap.size):(bd w c o).heap[c]?=some o:=by simp[bd,h]
@[simp] theorem setObjAt_size(w:World)(c:Nat)(o:Obj):(bd w c o).heap.size=w.heap.size:=by simp[bd]
theorem Post.put{μ:Emb}{H:Heap}{w:World}(h:WRel μ H w){b:Nat}{l:Loc}{o:AObj}(hb:μ b=some l)(ho:H.get b=some o)(hr:o.rw=true)
  (o':AObj) (hr':o'.rw=true) (co:Obj) (hn:ObjRel μ (bd w l.c co) l o'):Post μ H w μ (H.put b o') (bd w l.c co):=by
 refine⟨fun _ _ h=>h,fun _ _ h=> .inl h,by simp,rfl,rfl,rfl,fun c hc hnot=>db w co (hnot b l o hb ho hr),fun k x ox hk hox hrx=>?_,⟨fun k x ox hk hox=>?_,fun b1 b2 l1 l2 o1 o2 hne hb1 hb2 ho1 ho2 hr1 hr2=>?_⟩⟩
 ·by_cases e:b=k
  ·subst e;rw[hb]at hk;injection hk with hk;subst hk;exact .inr ⟨b,l,o,hb,ho,gh hr,fun _=>hr,rfl⟩
  rw[Heap.get_put_ne H o' e]at hox;exact .inr ⟨k,x,ox,hk,hox,hrx,id,rfl⟩
 ·by_cases e:b=k
  ·subst e;rw[hb]at hk;injection hk with hk;subst hk;rw[Heap.get_put_same]at hox;injection hox with hox;subst hox;exact hn
  rw[Heap.get_put_ne H o' e]at hox;have hx:=h.obj k x ox hk hox;exact hx.keep (fun _ _ h=>h) (by simp) (fun hlv=>db w co (h.inj b k l x o ox e hb hk ho hox hr hlv))
 have old: ∀k ok lk,μ k=some lk->(H.put b o').get k=some ok->∃oo,H.get k=some oo/\(ok.rw=true->oo.rw=true)/\(ok.live=true->oo.live=true):=by
  intro k ok lk hk hok;by_cases e:b=k
  ·subst e;exact⟨o,ho,fun _=>hr,fun _=>by cases o<;>simp_all[AObj.rw,AObj.live]⟩
  rw[Heap.get_put_ne H o' e]at hok;exact⟨ok,hok,id,id⟩
 obtain⟨p1,q1,r1,_⟩:=old b1 o1 l1 hb1 ho1
 obtain⟨p2,q2,_,r2⟩:=old b2 o2 l2 hb2 ho2
 exact h.inj b1 b2 l1 l2 p1 p2 hne hb1 hb2 q1 q2 (r1 hr1) (r2 hr2)
theorem Post.take{μ:Emb}{H:Heap}{w:World}(h:WRel μ H w){b:Nat}{l:Loc}{o:AObj}(hb:μ b=some l)(ho:H.get b=some o)(hr:o.rw=true)
  (hf:μ H.next=none) (l':Loc) (hl:l'.c=l.c) (o':AObj) (co:Obj) (hn:ObjRel (μ.set H.next l') (bd w l.c co) l' o'):
  Post μ H w (μ.set H.next l') ((H.put b .dead).push o') (bd w l.c co):=by
 have hm:=Emb.set_ext l' hf
 have hbn:b≠H.next:=fun e=>by subst e;rw[hf]at hb;cases hb
 have get: ∀k,k≠H.next->((H.put b .dead).push o').get k=(H.put b .dead).get k:=fun k hk=>Heap.get_push_ne (H.put b .dead) o' (Ne.symm hk)
 have gnew:((H.put b .dead).push o').get H.next=some o':=Heap.get_push_same (H.put b .dead) o'
 refine⟨hm,fun k x hk=>?_,by simp,rfl,rfl,rfl,fun c hc hnot=>db w co (hnot b l o hb ho hr),fun k x ox hk hox hrx=>?_,⟨fun k x ox hk hox=>?_,fun b1 b2 l1 l2 o1 o2 hne hb1 hb2 ho1 ho2 hr1 hr2=>?_⟩⟩
 ·rcases Emb.set_inv hk with⟨rfl,rfl⟩|⟨_,hk⟩
  ·exact .inr ⟨a09 _,by simp⟩
  exact .inl hk
 ·rcases Emb.set_inv hk with⟨rfl,rfl⟩|⟨hne,hk⟩
  ·exact .inr ⟨b,l,o,hb,ho,gh hr,fun _=>hr,hl.symm⟩
  rw[get k hne]at hox;by_cases e:b=k
  ·subst e;rw[Heap.get_put_same]at hox;injection hox with hox;subst hox;simp[AObj.live]at hrx
  rw[Heap.get_put_ne H _ e]at hox;exact .inr ⟨k,x,ox,hk,hox,hrx,id,rfl⟩
 ·rcases Emb.set_inv hk with⟨rfl,rfl⟩|⟨hne,hk⟩
  ·rw[gnew]at hox;injection hox with hox;subst hox;exact hn
  rw[get k hne]at hox;by_cases e:b=k
  ·subst e;rw[Heap.get_put_same]at hox;injection hox with hox;subst hox;trivial
  rw[Heap.get_put_ne H _ e]at hox;have hx:=h.obj k x ox hk hox;exact hx.keep hm (by simp) (fun hlv=>db w co (h.inj b k l x o ox e hb hk ho hox hr hlv))
 have old: ∀k ok,k≠H.next->ok.live=true->((H.put b .dead).push o').get k=some ok->k≠b/\H.get k=some ok:=by
  intro k ok hk hlv hok;rw[get k hk]at hok;by_cases e:b=k
  ·subst e;rw[Heap.get_put_same]at hok;injection hok with hok;subst hok;simp[AObj.live]at hlv
  rw[Heap.get_put_ne H _ e]at hok;exact⟨Ne.symm e,hok⟩
 have live_of: ∀{x:AObj},x.rw=true->x.live=true:=by intro x hx;cases x<;>simp_all[AObj.rw,AObj.live]
 rcases Emb.set_inv hb1 with⟨e1,f1⟩|⟨hne1,hb1'⟩<;>rcases Emb.set_inv hb2 with⟨e2,f2⟩|⟨hne2,hb2'⟩
 ·exact absurd (e1.trans e2.symm) hne
 ·obtain⟨n2,g2⟩:=old b2 o2 hne2 hr2 ho2;rw[f1,hl];exact h.inj b b2 l l2 o o2 (Ne.symm n2) hb hb2' ho g2 hr hr2
 ·obtain⟨n1,g1⟩:=old b1 o1 hne1 (live_of hr1) ho1;rw[f2,hl];exact fun e=>h.inj b b1 l l1 o o1 (Ne.symm n1) hb hb1' ho g1 hr (live_of hr1) e.symm
 obtain⟨_,g1⟩:=old b1 o1 hne1 (live_of hr1) ho1
 obtain⟨_,g2⟩:=old b2 o2 hne2 hr2 ho2
 exact h.inj b1 b2 l1 l2 o1 o2 hne hb1' hb2' g1 g2 hr1 hr2
end Go.R
set_option linter.unusedVariables false
namespace Go.R
section pure_
variable {α β:Type} (P:Program)
theorem cy{s:Sem α}{a:α}(h:aB P s=some a)(w:World):s.run P w= .ok a w:=by
 induction s with
 |pure x=>simp only[aB,a00]at h;subst h;rfl
 |program k ih=>simp only[aB]at h;simp only[Sem.run];exact ih _ h
 |mark m k ih=>simp only[aB]at h;simp only[Sem.run];exact ih h
 |_=>simp[aB]at h
@[simp] theorem aN(x:Sem α)(f:α->Sem β):aB P (x>>=f)=(aB P x).bind fun a=>aB P (f a):=by
 show aB P (x.bind f)=_;induction x with
 |program k ih=>simp only[Sem.bind,aB];exact ih _
 |mark m k ih=>simp only[Sem.bind,aB];exact ih
 |pure a=>rfl
 |_=>rfl
@[simp] theorem bQ(a:α):aB P (Pure.pure a:Sem α)=some a:=rfl
@[simp] theorem ed:aB P program=some P:=rfl
@[simp] theorem pureRun_stuck(why:String):aB P (stuck why:Sem α)=none:=rfl
@[simp] theorem pureRun_unsupported(u:Unsupported):aB P (unsupported u:Sem α)=none:=rfl
@[simp] theorem pureRun_goPanic(v:Value):aB P (goPanic v:Sem α)=none:=rfl
@[simp] theorem pureRun_choose(q:Question):aB P (choose q)=none:=rfl
@[simp] theorem pureRun_mark(m:Mark):aB P (mark m)=some ():=rfl
theorem pureRun_ite(c:Prop) [Decidable c](x y:Sem α):aB P (if c then x else y)=if c then aB P x else aB P y:=by split<;>rfl
@[simp] theorem bL(t:TypeId):aB P (underlying t)=P.underlying t:=by unfold underlying;simp only[aN,ed,a0o];cases P.underlying t<;>rfl
@[simp] theorem dT(t:TypeId):aB P (typeInfo t)=P.info? t:=by unfold typeInfo;simp only[aN,ed,a0o];cases P.info? t<;>rfl
@[simp] theorem cJ(t:TypeId):aB P (sizeOf t)=dw P t:=by unfold sizeOf dw;simp only[aN,dT];cases P.info? t<;>rfl
@[simp] theorem eW(t:TypeId):aB P (isAgg t)=gc P t:=by
 unfold isAgg gc;simp only[aN,bL];cases P.underlying t with
 |none=>rfl
 |some d=>cases d<;>rfl
theorem fY(e:RuntimeError):aB P (runtimePanic e:Sem α)=none:=by unfold runtimePanic;cases e<;>simp[newVar,newRow,newObj,aB,elemOf]<;>(intros;split<;>simp[aB])
theorem gp(k:IntKind)(x y:Int)(c:BoundsCode):aB P (boundsPanic k x y c:Sem α)=none:=by unfold boundsPanic;simp[fY,pureRun_ite]
end pure_
section runs
variable {P:Program} (w:World)
theorem aX{t:TypeId}{n:Nat}(h:dw P t=some n):(sizeOf t).run P w= .ok n w:=cy P (by rw[cJ];exact h) w
theorem kw{t:TypeId}{b:Bool}(h:gc P t=some b):(isAgg t).run P w= .ok b w:=cy P (by rw[eW];exact h) w
theorem d3{t:TypeId}{i:TypeInfo}(h:P.info? t=some i):(typeInfo t).run P w= .ok i w:=cy P (by rw[dT];exact h) w
theorem ae{t:TypeId}{d:TypeDesc}(h:P.underlying t=some d):(underlying t).run P w= .ok d w:=cy P (by rw[bL];exact h) w
theorem eb{t:TypeId}{z:List Value}(h:du P t=some z): ∃i v,P.info? t=some i/\i.zero=some v/\v.cells.toList=z/\z.all noA0=true:=by
 unfold du at h;split at h
 ·rename_i i hi;split at h
  ·rename_i v hv;cases hc:v.cells.toList.all noA0 with
   |false=>rw[hc]at h;cases h
   |true=>rw[hc]at h;simp at h;subst h;exact⟨i,v,hi,hv,rfl,hc⟩
  cases h
 cases h
theorem de{t:TypeId}{i:TypeInfo}{v:Value}(hi:P.info? t=some i)(hv:i.zero=some v):(zeroValue t).run P w= .ok v w:=by unfold zeroValue;simp[d3 w hi,hv]
end runs
section mem
variable {P:Program} {μ:Emb} {H:Heap} {w:World}
theorem iO(h:WRel μ H w){b o:Nat}{l:Loc}{v:Value}(hb:μ b=some l)(hv:H.cellAt ⟨b,o,none⟩=some v):
  ∃v',w.cell? ⟨l.c,l.sh+o,none⟩=some v'/\VRel μ v v':=by
 simp only[Heap.cellAt,gO]at hv
 split at hv
 ·rename_i cs opn ro hg;have hr:=h.obj b l _ hb hg;cases ro with
  |true=>exact hr.2.2.2 o v hv
  |false=>
   obtain⟨_,ccs,e,hh,_,_,h4⟩:=hr
   obtain⟨v',hv',hrel⟩:=h4 o v hv
   exact⟨v',by simp only[World.cell?,hh];simpa using hv',hrel⟩
 cases hv
theorem cN(c o j:Nat):Addr.add ⟨c,o,none⟩ j=⟨c,o+j,none⟩:=by
 unfold Addr.add;split
 ·subst_vars;rfl
 rfl
theorem gv(h:WRel μ H w){b o n:Nat}{l:Loc}{vs:List Value}(hb:μ b=some l)(hv:H.loadN ⟨b,o,none⟩ n=some vs):
  ∃vs',(loadCells ⟨l.c,l.sh+o,none⟩ n).run P w= .ok ⟨vs'⟩ w/\LRel μ vs vs'/\vs.length=n:=by
 simp only[Heap.loadN,ce,ct,bT]at hv
 split at hv
 ·rename_i cs opn ro hg;cases hq:Nat.beq ((cs.drop o).take n).length n with
  |false=>rw[hq]at hv;cases hv
  |true=>
   rw[hq]at hv;simp only[cond_true,a00]at hv
   have hlen:((cs.drop o).take n).length=n:=a07 hq
   have key: ∀j,j<n->∃v v',cs[o+j]?=some v/\w.cell? ⟨l.c,l.sh+o+j,none⟩=some v'/\VRel μ v v':=by
    intro j hj;have hcs:o+j<cs.length:=by rw[a0q,a0H]at hlen;omega
    have hget:H.cellAt ⟨b,o+j,none⟩=some cs[o+j]:=by simp only[Heap.cellAt,hg,gO];exact a04 hcs
    obtain⟨v',hc,hr⟩:=iO h hb hget;exact⟨_,v',a04 hcs,by rw[←hc,a1s],hr⟩
   have hf: ∃f:Nat->Value,∀j,j<n->w.cell? (Addr.add ⟨l.c,l.sh+o,none⟩ j)=some (f j)/\∀v,cs[o+j]?=some v->VRel μ v (f j):=by refine⟨fun j=>(w.cell? ⟨l.c,l.sh+o+j,none⟩).getD undef,fun j hj=>?_⟩;obtain⟨v,v',h1,h2,h3⟩:=key j hj;simp only[cN,h2,a0B];refine⟨trivial,fun u hu=>?_⟩;rw[h1]at hu;injection hu with hu;subst hu;exact h3
   obtain⟨f,hf⟩:=hf
   refine⟨(List.range n).map f,run_loadCells w _ n f (fun j hj=>(hf j hj).1),?_,by rw[←hv];exact hlen⟩
   subst hv
   refine⟨by rw[hlen];simp,fun i v v' h1 h2=>?_⟩
   rw[a0y]at h1
   split at h1
   ·rename_i hi;rw[a0J]at h1;simp[hi]at h2;subst h2;exact(hf i hi).2 v h1
   cases h1
 cases hv
theorem gu(h:WRel μ H w){b o:Nat}{l:Loc}{t:TypeId}{v:Value}(hb:μ b=some l)(hv:H.loadV P t ⟨b,o,none⟩=some v):
  ∃v',(loadVar t ⟨l.c,l.sh+o,none⟩).run P w= .ok v' w/\VRel μ v v':=by
 unfold Heap.loadV at hv
 split at hv
 ·rename_i hg;split at hv
  ·rename_i n hn;split at hv
   ·rename_i vs hl;injection hv with hv;subst hv;obtain⟨vs',hrun,hrel,_⟩:=gv (P:=P) h hb hl;refine⟨.agg ⟨vs'⟩,?_,.agg _ _ hrel.1 hrel.2⟩;simp[loadVar,kw w hg,aX w hn,hrun]
   cases hv
  cases hv
 ·rename_i hg;obtain⟨v',hc,hr⟩:=iO h hb hv;refine⟨v',?_,hr⟩;simp[loadVar,kw w hg,hc]
 cases hv
theorem jK{α:Type}(l:List α)(k:Nat):(Array.mk l)[k]?=l[k]?:=by simp
theorem jG: ∀(cs vs:List Value),vs.length<=cs.length->(over cs vs).length=cs.length
 | [],[],_=>rfl
 | [],_::_,h=>by simp at h
 |_::_,[],_=>rfl
 |c::cs,v::vs,h=>by simp only[over,a0a];rw[jG cs vs (by simpa using h)]
theorem over_get: ∀(cs vs:List Value) (i:Nat),vs.length<=cs.length->(over cs vs)[i]?=if i<vs.length then vs[i]? else cs[i]?
 | [],[],i,_=>by simp[over]
 | [],_::_,_,h=>by simp at h
 |_::_,[],i,_=>by simp[over]
 |c::cs,v::vs,0,_=>by simp[over]
 |c::cs,v::vs,i+1,h=>by simp[over,over_get cs vs i (by simpa using h)]
theorem bY: ∀(cs:List Value) (o:Nat) (vs:List Value),o+vs.length<=cs.length->(bp cs o vs).length=cs.length
 |cs,0,vs,h=>by cases cs<;>exact jG _ _ (by omega)
 | [],o+1,vs,h=>by simp[bp]
 |c::cs,o+1,vs,h=>by simp only[bp,a0a];rw[bY cs o vs (by simp at h;omega)]
theorem bA: ∀(cs:List Value) (o:Nat) (vs:List Value) (i:Nat),o+vs.length<=cs.length->
  (bp cs o vs)[i]?=if o<=i/\i<o+vs.length then vs[i-o]? else cs[i]?
 |cs,0,vs,i,h=>by
  have:bp cs 0 vs=over cs vs:=by cases cs<;>rfl
  rw[this,over_get cs vs i (by omega)];simp
 | [],o+1,vs,i,h=>by simp at h
 |c::cs,o+1,vs,0,h=>by simp[bp]
 |c::cs,o+1,vs,i+1,h=>by
  simp only[bp,a1S];rw[bA cs o vs i (by simp at h;omega)];by_cases hc:o<=i/\i<o+vs.length
  ·rw[if_pos hc,if_pos (by omega)];congr 1;omega
  rw[if_neg hc,if_neg (by omega)]
theorem df(c:Nat)(e:TypeId): ∀(vs:List Value) (w:World) (ccs:Array Value) (o i:Nat),w.heap[c]?=some (.cells ccs e (0,0))->
  o+i+vs.length<=ccs.size->vs.all Value.oneCell'=true->vs≠ []->
  (storeCells ⟨c,o,none⟩ vs i).run P w= .ok () (bd w c (.cells ⟨bp ccs.toList (o+i) vs⟩ e (0,0)))
 | [],_,_,_,_,_,_,_,hne=>absurd rfl hne
 |v::vs,w,ccs,o,i,hh,hl,hall,_=>by
  simp only[a1i,a0d]at hall;simp only[a0a]at hl;have hcell:w.cell? ⟨c,o+i,none⟩=some (ccs[o+i]'(by omega)):=by simp[World.cell?,hh,show o+i<ccs.size by omega]
  have hfr:w.frozen? ⟨c,o+i,none⟩=false:=by simp[World.frozen?,hh]
  have hset:w.setCell ⟨c,o+i,none⟩ v=bd w c (.cells (ccs.setIfInBounds (o+i) v) e (0,0)):=by
   unfold World.setCell bd;congr 1;apply a1E;intro k;by_cases hk:c=k
   ·subst hk;rw[Array.getElem?_modify,if_pos rfl,hh,a1b,if_pos rfl,if_pos (bW hh)];simp
   simp[Array.getElem?_modify,hk,a1z hk]
  have h1:(storeCells ⟨c,o,none⟩ (v::vs) i).run P w=(storeCells ⟨c,o,none⟩ vs (i+1)).run P (bd w c (.cells (ccs.setIfInBounds (o+i) v) e (0,0))):=by simp only[storeCells,Sem.run_bind,cN];rw[run_store P w _ v _ hall.1,hcell];simp[hfr,hset]
  rw[h1];by_cases hv:vs=[]
  ·subst hv;simp only[storeCells,Sem.run_pure];congr 3;apply a1E;intro k;simp only[a0i]at hl;rw[a1b];refine Eq.trans ?_ (jK _ _).symm;rw[bA _ _ _ _ (by simp;omega)];by_cases hk:o+i=k
   ·subst hk;rw[if_pos rfl,if_pos (by omega),if_pos (by simp)];simp
   rw[if_neg hk,if_neg (by simp;omega)];simp
  have hh':(bd w c (.cells (ccs.setIfInBounds (o+i) v) e (0,0))).heap[c]?=some (.cells (ccs.setIfInBounds (o+i) v) e (0,0)):=bH w _ (bW hh);rw[df c e vs _ _ o (i+1) hh' (by simp;omega) hall.2 hv];congr 1;have: ∀(x y:Obj),bd (bd w c x) c y=bd w c y:=by intro x y;simp[bd]
  rw[this];congr 2;apply a1E;intro k;refine(jK _ _).trans (Eq.trans ?_ (jK _ _).symm);rw[bA _ _ _ _ (by simp;omega),bA _ _ _ _ (by simp;omega)];by_cases hk:o+i=k
  ·subst hk;rw[if_neg (by omega),if_pos (by simp)];simp[show o+i<ccs.size by omega]
  by_cases hk2:o+(i+1)<=k/\k<o+(i+1)+vs.length
  ·rw[if_pos hk2,if_pos (by simp;omega)];rw[show k-(o+i)=(k-(o+(i+1)))+1 by omega,a1S]
  rw[if_neg hk2,if_neg (by simp;omega)];simp[hk]
theorem fu(h:WRel μ H w){b o:Nat}{l:Loc}{vs vs':List Value}{H':Heap}(hb:μ b=some l)(hs:H.storeL ⟨b,o,none⟩ vs=some H')(hrel:LRel μ vs vs'):
  ∃w',(storeCells ⟨l.c,l.sh+o,none⟩ vs').run P w= .ok () w'/\Post μ H w μ H' w':=by
 simp only[Heap.storeL,bT,lS,Nat.add_eq]at hs
 split at hs
 ·rename_i cs opn hg;cases hq:(Nat.ble (o+vs.length) cs.length&&vs.all Value.oneCell') with
  |false=>rw[hq]at hs;cases hs
  |true=>
   rw[hq]at hs;simp only[cond_true,a00]at hs
   simp only[a0d]at hq
   have hle:o+vs.length<=cs.length:=a06 hq.1
   obtain⟨r1,ccs,e,hh,r2,r3,r4⟩:=h.obj b l _ hb hg
   have hlen:=hrel.1
   have hall:vs'.all Value.oneCell'=true:=by
    rw[a0w];intro x hx;obtain⟨i,hi⟩:=List.getElem?_of_mem hx;have hi':i<vs.length:=by rw[hlen];exact(a0u.1 hi).1
    have hr:=hrel.2 i vs[i] x (a04 hi') hi;rw[hr.oneCell];exact a0w.1 hq.2 _ (a1w hi')
   by_cases hne:vs'=[]
   ·subst hne;have hv:vs=[]:=by simpa using hlen
    subst hv;have hsp:bp cs o []=cs:=by apply a1A;intro k;rw[bA _ _ _ _ (by simpa using hle),if_neg (by simp)]
    subst hs;refine⟨bd w l.c (.cells ccs e (0,0)),?_,?_⟩
    ·have:bd w l.c (.cells ccs e (0,0))=w:=by
      unfold bd;congr 1;apply a1E;intro k;by_cases hk:l.c=k
      ·subst hk;rw[a1b,if_pos rfl,if_pos (bW hh),hh]
      rw[a1z hk]
     rw[this];rfl
    refine Post.put h hb hg rfl _ rfl _ ⟨r1,ccs,e,bH w _ (bW hh),r2,by rw[hsp];exact r3,fun i v hi=>r4 i v (by rw[hsp]at hi;exact hi)⟩
   subst hs
   refine⟨_,by simpa using df (P:=P) l.c e vs' w ccs (l.sh+o) 0 hh (by omega) hall hne,?_⟩
   refine Post.put h hb hg rfl _ rfl _ ⟨r1,_,e,bH w _ (bW hh),?_,?_,?_⟩
   ·rw[←r2];show(bp ccs.toList (l.sh+o) vs').length=_;rw[bY _ _ _ (by simp;omega)];simp
   ·rw[bY _ _ _ hle];exact r3
   intro i v hi
   rw[bA _ _ _ _ hle]at hi
   have mg: ∀v':Value,(bp ccs.toList (l.sh+o) vs')[l.sh+i]?=some v'->(Array.mk (bp ccs.toList (l.sh+o+0) vs'))[l.sh+i]?=some v':=fun v' hv=>(jK _ _).trans hv
   rw[bA _ _ _ _ (by simp;omega)]at mg
   by_cases hc:o<=i/\i<o+vs.length
   ·rw[if_pos hc]at hi;rw[if_pos (by omega)]at mg;obtain⟨v',hv',hr⟩:=hrel.get hi;exact⟨v',mg v' (by rw[←hv'];congr 1;omega),hr⟩
   rw[if_neg hc]at hi
   rw[if_neg (by omega)]at mg
   obtain⟨v',hv',hr⟩:=r4 i v hi
   exact⟨v',mg v' (by simpa using hv'),hr⟩
 cases hs
theorem cT(h:WRel μ H w)(hf:μ H.next=none)(e:TypeId){cs cs':List Value}(hrel:LRel μ cs cs')(rest:List Value)(opn:Option Nat)(hro:opn=none->rest=[]):
  ∃l,l.c=w.heap.size/\l.sh=0/\l.opn=opn/\l.csz=cs.length+rest.length/\
  (newRow e ⟨cs'++rest⟩).run P w= .ok ⟨w.heap.size,0,none⟩ (w.alloc (.cells ⟨cs'++rest⟩ e))/\
   Post μ H w (μ.set H.next l) (aS H cs opn) (w.alloc (.cells ⟨cs'++rest⟩ e)):=by
 refine⟨⟨w.heap.size,0,opn,cs.length+rest.length⟩,rfl,rfl,rfl,rfl,by simp[newRow],?_⟩
 refine Post.push h hf _ rfl _ _ ⟨rfl,_,e,e8 w _,by simp[hrel.1],by simp,fun i v hi=>?_⟩
 obtain⟨v',hv',hr⟩:=hrel.get hi
 refine⟨v',?_,hr.mono (Emb.set_ext _ hf)⟩
 have:i<cs'.length:=(a0u.1 hv').1
 simp only[a1t,jK]
 rw[a0S this];exact hv'
end mem
end Go.R
namespace Go.R
def ANRel(μ:Emb):AN->Next->Prop
 | .val v,.value v'=>VRel μ v v'
 | .skip,.skip=>True
 | .enter f args,.enter f' args'=>f=f'/\LRel μ args args'.toList
 |_,_=>False
theorem iw(bs:ByteArray): ∀(n i:Nat) (r:List UInt8),bs.size-i=n->ByteArray.toList.loop bs i r=r.reverse++bs.data.toList.drop i:=by
 intro n;induction n with
 |zero=>
  intro i r h
  rw[ByteArray.toList.loop,if_neg (by omega),a1Y (by simp only[a2c,ByteArray.size_data];omega),a0E]
 |succ n ih=>
  intro i r h
  have hi:i<bs.size:=by omega
  rw[ByteArray.toList.loop,if_pos hi,ih (i+1) _ (by omega)]
  have hi':i<bs.data.toList.length:=by simpa using hi
  rw[a0T hi']
  simp[ByteArray.get!,hi]
theorem cV(bs:ByteArray):bs.toList=bs.data.toList:=by unfold ByteArray.toList;rw[iw bs _ 0 [] rfl];simp
section
variable {P:Program} {μ:Emb}
theorem di{ρ ρ':Operand->Value}{o:Oper}{H H':Heap}{r:AN}(h:bw P ρ o H=some (r,H'))(hs: ∀cs b,o.op≠ .select cs b)
  (hρ: ∀x∈o.op.operands,VRel μ (ρ x) (ρ' x)):H'=H/\∃v v',r= .val v/\(∀w,(execOp ρ' o).run P w= .ok (.value v') w)/\VRel μ v v':=by
 unfold bw at h
 cases hq:o.op.operands.toList.all fun x=>gF (ρ x) with
 |false=>rw[hq]at h;cases h
 |true=>
  rw[hq]at h
  have he:execOp ρ' o=execOp ρ o:=execOp_congr o hs fun x hx=>(hρ x hx).eq1 (a0w.1 hq x (by simpa using hx))
  simp only[cond_true]at h
  split at h
  ·rename_i v hv;cases hn:noA2 v with
   |false=>rw[hn]at h;cases h
   |true=>
    rw[hn]at h;simp only[cond_true,a00,a03]at h
    obtain⟨rfl,rfl⟩:=h
    exact⟨rfl,v,v,rfl,fun w=>by rw[he];exact cy P hv w,VRel.refl2 hn⟩
  cases h
theorem jN{s:Sem Value}{H H':Heap}{r:AN}(h:lift P s H=some (r,H')):H'=H/\∃v,r= .val v/\aB P s=some v:=by
 unfold lift at h;split at h
 ·rename_i v hv;simp only[a00,a03]at h;exact⟨h.2.symm,v,h.1.symm,hv⟩
 cases h
theorem intBin_sound{op:BinOp}{k:IntKind}{a b:Int}{v:Value}(h:kF op k a b=some v)(t:TypeId)(w:World):
  (binOp op t (.int k a) (.int k b)).run P w= .ok v w/\noA0 v=true:=by
 cases op<;>simp only[kF,a00,reduceCtorEq]at h
 case quo=>
  cases hb:(b==0) with
  |true=>rw[hb]at h;cases h
  |false=>
   rw[hb]at h;simp only[cond_false,a00]at h;subst h
   have hne: ¬b=0:=by simpa using hb
   simp[binOp_quo,Op.intDiv,hne,noA0]
 case rem=>
  cases hb:(b==0) with
  |true=>rw[hb]at h;cases h
  |false=>
   rw[hb]at h;simp only[cond_false,a00]at h;subst h
   have hne: ¬b=0:=by simpa using hb
   simp[binOp_rem,Op.intDiv,hne,noA0]
 all_goals subst h
 case add=>simp[binOp_add,Op.intArith,noA0]
 case sub=>simp[binOp_sub,Op.intArith,noA0]
 case mul=>simp[binOp_mul,Op.intArith,noA0]
 case and=>simp[binOp_and,intBits_and,noA0,aT]
 case or=>simp[binOp_or,intBits_or,noA0,aT]
 case xor=>simp[binOp_xor,intBits_xor,noA0,aT]
 case andNot=>simp[binOp_andNot,intBits_andNot,noA0,aT]
 case eql=>simp[binOp_eql,noA0]
 case neq=>simp[binOp_neq,noA0]
 case lss=>simp[binOp_lss,noA0]
 case leq=>simp[binOp_leq,noA0]
 case gtr=>simp[binOp_gtr,noA0]
 case geq=>simp[binOp_geq,noA0]
theorem shBin_sound{op:BinOp}{k yk:IntKind}{a b:Int}{v:Value}(h:shBin op k a b=some v)(t:TypeId)(w:World):
  (binOp op t (.int k a) (.int yk b)).run P w= .ok v w/\noA0 v=true:=by
 cases op<;>simp only[shBin,reduceCtorEq]at h
 all_goals
  cases b with
  |negSucc n=>simp[shiftN]at h
  |ofNat n=>
   simp only[shiftN,a00]at h;subst h
   have hn: ¬((n:Int)<0):=by omega
   simp[binOp_shl,binOp_shr,Op.shift,hn,noA0,Nat.min_def]
theorem jz{op:BinOp}{t:TypeId}{a b:ByteArray}{v:Value}(h:strOp op a b=some v)(w:World):
  (binOp op t (.string a) (.string b)).run P w= .ok v w/\noA0 v=true:=by
 have hb:binOp op t (.string a) (.string b)=Op.stringOp op a b:=by cases op<;>rfl
 rw[hb]
 unfold strOp at h
 split at h
 ·injection h with h;subst h;simp[Op.stringOp,cV,dm,noA0]
 ·injection h with h;subst h;simp[Op.stringOp,cV,dm,noA0]
 ·injection h with h;subst h;simp[Op.stringOp,cV,noA0]
 ·injection h with h;subst h;simp[Op.stringOp,cV,dm,noA0]
 ·injection h with h;subst h;simp[Op.stringOp,cV,dm,noA0]
 ·injection h with h;subst h;simp[Op.stringOp,cV,noA0]
 ·simp only[dF,bT]at h;cases hq:Nat.ble (a.data.toList++b.data.toList).length 1099511627776 with
  |false=>rw[hq]at h;cases h
  |true=>
   rw[hq]at h;simp only[cond_true,a00]at h;subst h
   have hle:=a06 hq
   simp only[a05,a2c,ByteArray.size_data]at hle
   refine⟨?_,rfl⟩
   have hn: ¬(((a.size+b.size:Nat):Int)>IntKind.i64.max):=by rw[IntKind.max_i64];omega
   simp only[Op.stringOp,if_neg hn,Sem.run_pure]
   congr 2
 cases h
theorem kD{a:Option Addr}{v':Value}(h:VRel μ (.pointer a) v'): ∃a',v'= .pointer a'/\a'.isNone=a.isNone:=by
 cases h with
 |atom _ h0=>exact⟨a,rfl,rfl⟩
 |ptr b o l hb=>exact⟨_,rfl,rfl⟩
theorem cU{a:Option Addr}{n k:Nat}{v':Value}(h:VRel μ (.slice a n k) v'): ∃a' k',v'= .slice a' n k'/\a'.isNone=a.isNone:=by
 cases h with
 |atom _ h0=>exact⟨a,k,rfl,rfl⟩
 |sliceC b o n k l hb ho=>exact⟨_,_,rfl,rfl⟩
 |sliceO b o o' n k k' e l hb ho h1 h2 h3 h4=>exact⟨_,_,rfl,rfl⟩
 |sliceZ b o a l hb=>exact⟨_,_,rfl,rfl⟩
theorem kE{a:Option Nat}{v':Value}(h:VRel μ (.map a) v'): ∃a',v'= .map a'/\a'.isNone=a.isNone:=by
 cases h with
 |atom _ h0=>exact⟨a,rfl,rfl⟩
 |map b l hb=>exact⟨_,rfl,rfl⟩
theorem d5{t:TypeId}{x y:Value}{w:World}{b:Bool}(h: ∀d,(Op.equalIn (d+1) t x y).run P w= .ok b w):(Op.equal t x y).run P w= .ok b w:=h 9999
theorem jJ{t:TypeId}{x y x' y':Value}{b:Bool}(h:nilEq P t x y=some b)(hx:VRel μ x x')(hy:VRel μ y y')(w:World):
  (Op.equal t x' y').run P w= .ok b w/\(∀op u v,eqGuard op t u v x' y'=pure ())/\(∀op,op= .eql\/op= .neq->binOp op t x' y'=(match op with
   | .eql=>do pure (.bool (←Op.equal t x' y'))
   |_=>do pure (.bool (!(←Op.equal t x' y'))))):=by
 unfold nilEq at h
 split at h
 ·rename_i e b0 hu;obtain rfl:=hx.eq0 rfl;obtain⟨b',rfl,hb⟩:=kD hy;injection h with h;subst h;refine⟨?_,fun op u v=>by cases op<;>rfl,fun op ho=>by rcases ho with rfl|rfl<;>rfl⟩;exact d5 fun d=>by simp[Op.equalIn,ae w hu,hb]
 ·rename_i e a0 hu;obtain rfl:=hy.eq0 rfl;obtain⟨a',rfl,ha⟩:=kD hx;injection h with h;subst h;refine⟨?_,fun op u v=>by cases op<;>rfl,fun op ho=>by rcases ho with rfl|rfl<;>rfl⟩;exact d5 fun d=>by cases a'<;>simp[Op.equalIn,ae w hu,←ha]
 ·rename_i e n k b0 n2 k2 hu;obtain⟨rfl,rfl,rfl⟩:=hx.sliceNil_inv;obtain⟨b',k',rfl,hb⟩:=cU hy;injection h with h;subst h;refine⟨?_,fun op u v=>by cases op<;>rfl,fun op ho=>by rcases ho with rfl|rfl<;>rfl⟩;exact d5 fun d=>by simp[Op.equalIn,ae w hu,hb]
 ·rename_i e a0 n k n2 k2 hu;obtain⟨rfl,rfl,rfl⟩:=hy.sliceNil_inv;obtain⟨a',k',rfl,ha⟩:=cU hx;injection h with h;subst h;refine⟨?_,fun op u v=>by cases op<;>rfl,fun op ho=>by rcases ho with rfl|rfl<;>rfl⟩;exact d5 fun d=>by cases a'<;>simp[Op.equalIn,ae w hu,←ha]
 ·rename_i e1 e2 b0 hu;obtain rfl:=hx.eq0 rfl;obtain⟨b',rfl,hb⟩:=kE hy;injection h with h;subst h;refine⟨?_,fun op u v=>by cases op<;>rfl,fun op ho=>by rcases ho with rfl|rfl<;>rfl⟩;exact d5 fun d=>by simp[Op.equalIn,ae w hu,hb]
 ·rename_i e1 e2 a0 hu;obtain rfl:=hy.eq0 rfl;obtain⟨a',rfl,ha⟩:=kE hx;injection h with h;subst h;refine⟨?_,fun op u v=>by cases op<;>rfl,fun op ho=>by rcases ho with rfl|rfl<;>rfl⟩;exact d5 fun d=>by cases a'<;>simp[Op.equalIn,ae w hu,←ha]
 ·rename_i ps rs va hu;obtain rfl:=hx.eq0 rfl;obtain rfl:=hy.eq0 rfl;injection h with h;subst h;refine⟨?_,fun op u v=>by cases op<;>rfl,fun op ho=>by rcases ho with rfl|rfl<;>rfl⟩;exact d5 fun d=>by simp[Op.equalIn,ae w hu]
 ·rename_i ps rs va fn xs ys hu;obtain rfl:=hx.eq0 rfl;obtain⟨xs',ys',rfl,_,_⟩:=hy.func_inv;injection h with h;subst h;refine⟨?_,fun op u v=>by cases op<;>rfl,fun op ho=>by rcases ho with rfl|rfl<;>rfl⟩;exact d5 fun d=>by simp[Op.equalIn,ae w hu]
 ·rename_i ps rs va fn xs ys hu;obtain rfl:=hy.eq0 rfl;obtain⟨xs',ys',rfl,_,_⟩:=hx.func_inv;injection h with h;subst h;refine⟨?_,fun op u v=>by cases op<;>rfl,fun op ho=>by rcases ho with rfl|rfl<;>rfl⟩;exact d5 fun d=>by simp[Op.equalIn,ae w hu]
 cases h
theorem part_rel{t:TypeId}{cs cs':Array Value}{off:Nat}{v:Value}(hr:LRel μ cs.toList cs'.toList)(h:aB P (part t cs off)=some v):
  ∃v',aB P (part t cs' off)=some v'/\VRel μ v v':=by
 unfold part at h⊢
 simp only[aN,eW]at h⊢
 cases hg:gc P t with
 |none=>rw[hg]at h;simp at h
 |some g=>
  rw[hg]at h
  cases g with
  |true=>
   simp only[a0o,if_true,aN,cJ]at h⊢
   cases hs:dw P t with
   |none=>rw[hs]at h;simp at h
   |some n=>
    rw[hs]at h
    simp only[a0o,bQ,a00]at h⊢
    subst h
    refine⟨_,rfl,?_⟩
    have:=(hr.take (off+n)).drop off
    have ex: ∀c:Array Value,(c.extract off (off+n)).toList=(c.toList.take (off+n)).drop off:=fun c=>by simp[a2h]
    exact .agg _ _ (by rw[ex,ex];exact this.1) (by rw[ex,ex];exact this.2)
  |false=>
   simp only[a0o,a0K,if_false]at h⊢
   cases hc:cs[off]? with
   |none=>rw[hc]at h;simp at h
   |some u=>
    rw[hc]at h
    simp only[bQ,a00]at h;subst h
    obtain⟨v',hv',hrel⟩:=hr.get (i:=off) (v:=u) (by simpa using hc)
    refine⟨v',?_,hrel⟩
    have:cs'[off]?=some v':=by simpa using hv'
    rw[this];rfl
theorem field_rel{t:TypeId}{x x':Value}{f:Nat}{v:Value}(hx:VRel μ x x')(h:aB P (Instr.field t x f)=some v):
  ∃v',aB P (Instr.field t x' f)=some v'/\VRel μ v v':=by
 unfold Instr.field at h⊢
 simp only[aN,bL]at h⊢
 cases hu:P.underlying t with
 |none=>rw[hu]at h;simp at h
 |some d=>
  rw[hu]at h
  simp only[a0o]at h⊢
  cases d with
  |struct fields=>
   simp only at h⊢
   cases hf:fields[f]? with
   |none=>rw[hf]at h;simp at h
   |some fd=>
    rw[hf]at h
    simp only[aN]at h⊢
    cases x with
    |agg cs=>
     obtain⟨cs',rfl,hr⟩:=hx.agg_inv
     simp only[asAgg,bQ,a0o]at h⊢
     exact part_rel hr h
    |_=>simp[asAgg]at h
  |_=>simp at h
theorem index_rel{t:TypeId}{x x' i i':Value}{v:Value}(hx:VRel μ x x')(hi:VRel μ i i')(hns: ∀s,x≠ .string s)(h:aB P (Instr.index t x i)=some v):
  ∃v',aB P (Instr.index t x' i')=some v'/\VRel μ v v':=by
 cases i with
 |int k n=>
  obtain rfl:=hi.int_inv
  unfold Instr.index at h⊢
  simp only[asIntOf,aN,bQ,a0o,bL]at h⊢
  cases hu:P.underlying t with
  |none=>rw[hu]at h;simp at h
  |some d=>
   rw[hu]at h
   simp only[a0o]at h⊢
   cases d with
   |array len e=>
    cases x with
    |agg cs=>
     obtain⟨cs',rfl,hr⟩:=hx.agg_inv
     simp only at h⊢
     by_cases hb:0<=n/\n<(len:Int)
     ·rw[if_pos hb]at h⊢;simp only[aN,cJ]at h⊢;cases hs:dw P e with
      |none=>rw[hs]at h;simp at h
      |some sz=>rw[hs]at h;simp only[a0o]at h⊢;exact part_rel hr h
     rw[if_neg hb,gp]at h;cases h
    |_=>simp at h
   |string=>
    cases x with
    |string s=>exact absurd rfl (hns s)
    |_=>simp at h
   |_=>simp at h
 |pointer a=>cases a<;>simp[Instr.index,asIntOf]at h
 |_=>simp[Instr.index,asIntOf]at h
theorem gU: ∀(l l':List Value) (s off:Nat) (A A':Array Value),LRel μ l l'->LRel μ A.toList A'.toList->
  LRel μ ((l.zipIdx s).foldl (fun cs p=>cs.setIfInBounds (off+p.2) p.1) A).toList ((l'.zipIdx s).foldl (fun cs p=>cs.setIfInBounds (off+p.2) p.1) A').toList
 | [],l',s,off,A,A',h,hA=>by rw[h.nil_left];exact hA
 |v::l,l',s,off,A,A',h,hA=>by
  obtain⟨v',t',rfl,hv,ht⟩:=h.cons_left;simp only[List.zipIdx_cons,List.foldl_cons];refine gU l t' (s+1) off _ _ ht ⟨by simpa using hA.1,fun i x x' h1 h2=>?_⟩;simp only[Array.toList_setIfInBounds,List.getElem?_set]at h1 h2;have hlen:=hA.1;by_cases hi:off+s=i
  ·rw[if_pos hi]at h1 h2;split at h1
   ·rename_i hlt;rw[if_pos (by omega)]at h2;injection h1 with h1;injection h2 with h2;subst h1 h2;exact hv
   cases h1
  rw[if_neg hi]at h1 h2;exact hA.2 i x x' h1 h2
theorem ji{place:Nat->Option (Nat×Nat)}: ∀(ps ps':List (Nat×Value)) (A A':Array Value) (r:Array Value),ps.length=ps'.length->
  (∀(i:Nat) x x',ps[i]?=some x->ps'[i]?=some x'->x.1=x'.1/\VRel μ x.2 x'.2)->LRel μ A.toList A'.toList->Instr.fill place A ps=some r->
  ∃r',Instr.fill place A' ps'=some r'/\LRel μ r.toList r'.toList
 | [],ps',A,A',r,hl,_,hA,h=>by have:ps'=[]:=a0s hl.symm;subst this;simp only[Instr.fill,a00]at h;subst h;exact⟨A',rfl,hA⟩
 |(i,v)::ps,ps',A,A',r,hl,hp,hA,h=>by
  cases ps' with
  |nil=>simp at hl
  |cons x' ps'=>
   obtain⟨i',v'⟩:=x'
   obtain⟨hi,hv⟩:=hp 0 (i,v) (i',v') rfl rfl
   simp only at hi hv;subst hi
   simp only[Instr.fill]at h⊢
   cases hpl:place i with
   |none=>rw[hpl]at h;cases h
   |some os=>
    obtain⟨off,size⟩:=os
    rw[hpl]at h
    simp only at h⊢
    have hc:=hv.cells
    have hcs:v'.cells.size=v.cells.size:=by have:=hc.1;simpa using this.symm
    have hAs:A'.size=A.size:=by have:=hA.1;simpa using this.symm
    rw[hcs,hAs]
    split at h
    ·cases h
    rename_i hcond
    rw[if_neg hcond]
    refine ji ps ps' _ _ r (by simpa using hl) (fun j x x' h1 h2=>hp (j+1) x x' (by simpa using h1) (by simpa using h2)) ?_ h
    have:=gU v.cells.toList v'.cells.toList 0 off A A' hc hA
    have e: ∀(u:Value) (B:Array Value),Array.foldl (fun cs x=>cs.setIfInBounds (off+x.snd) x.fst) B u.cells.zipIdx=List.foldl (fun cs p=>cs.setIfInBounds (off+p.snd) p.fst) B u.cells.toList.zipIdx:=fun u B=>by rw[←Array.foldl_toList,Array.toList_zipIdx]
    exact(e v A▸e v' A'▸this:LRel μ (Array.foldl (fun cs x=>cs.setIfInBounds (off+x.snd) x.fst) A v.cells.zipIdx).toList (Array.foldl (fun cs x=>cs.setIfInBounds (off+x.snd) x.fst) A' v'.cells.zipIdx).toList)
end
end Go.R
namespace Go.R
section
variable {P:Program} {μ:Emb}
theorem build_rel{t:TypeId}{ps ps':Array (Nat×Value)}{v:Value}(hl:ps.toList.length=ps'.toList.length)
  (hp: ∀(i:Nat) x x',ps.toList[i]?=some x->ps'.toList[i]?=some x'->x.1=x'.1/\VRel μ x.2 x'.2)
  (hz:(du P t).isSome=true) (h:aB P (Instr.build t ps)=some v):
  ∃v',aB P (Instr.build t ps')=some v'/\VRel μ v v':=by
 unfold Instr.build at h⊢
 have hzv:aB P (zeroValue t)=(P.info? t).bind (·.zero):=by
  unfold zeroValue;simp only[aN,dT];cases hi:P.info? t with
  |none=>rfl
  |some i=>simp only[a0o];cases i.zero<;>rfl
 simp only[aN,hzv,bL]at h⊢
 cases hi:(P.info? t).bind (·.zero) with
 |none=>rw[hi]at h;simp at h
 |some z=>
  rw[hi]at h
  have hza:LRel μ z.cells.toList z.cells.toList:=by obtain⟨zl,hzl⟩:=Option.isSome_iff_exists.1 hz;obtain⟨i,v0,h1,h2,h3,h4⟩:=eb (P:=P) hzl;rw[h1]at hi;simp only[a0o,h2,a00]at hi;subst hi;exact LRel.refl0 (by rw[h3];exact h4)
  simp only[a0o]at h⊢
  cases hu:P.underlying t with
  |none=>rw[hu]at h;simp at h
  |some d=>
   rw[hu]at h
   simp only[a0o]at h⊢
   cases d with
   |struct fields=>
    simp only[aN]at h⊢
    cases hm:aB P (fields.mapM fun f=>do let y ←sizeOf f.type;Pure.pure (f.offset,y)) with
    |none=>rw[hm]at h;simp at h
    |some places=>
     rw[hm]at h
     simp only[a0o]at h⊢
     cases hf:Instr.fill (fun x=>places[x]?) z.cells ps.toList with
     |none=>rw[hf]at h;simp at h
     |some r=>
      rw[hf]at h
      simp only[bQ,a00]at h
      subst h
      obtain⟨r',hr',hrel⟩:=ji _ _ _ _ _ hl hp hza hf
      exact⟨.agg r',by rw[hr'];rfl,.agg _ _ hrel.1 hrel.2⟩
   |array n e=>
    simp only[aN,cJ]at h⊢
    cases hs:dw P e with
    |none=>rw[hs]at h;simp at h
    |some sz=>
     rw[hs]at h
     simp only[a0o]at h⊢
     cases hf:Instr.fill (fun i=>some (i*sz,sz)) z.cells ps.toList with
     |none=>rw[hf]at h;simp at h
     |some r=>
      rw[hf]at h
      simp only[bQ,a00]at h
      subst h
      obtain⟨r',hr',hrel⟩:=ji _ _ _ _ _ hl hp hza hf
      exact⟨.agg r',by rw[hr'];rfl,.agg _ _ hrel.1 hrel.2⟩
   |_=>simp at h
theorem eP{v v':Value}{n:Nat}(h:i0 v=some n)(hr:VRel μ v v'): ∃k,v'= .int k (n:Int):=by
 unfold i0 at h;split at h
 ·rename_i k m;injection h with h;subst h;exact⟨k,hr.int_inv⟩
 cases h
theorem aField_sound{s:TypeId}{x x':Value}{f:Nat}{v:Value}(h:hN P s x f=some v)(hx:VRel μ x x'):
  ∃v',(∀w,(Instr.fieldAt s x' f).run P w= .ok v' w)/\VRel μ v v':=by
 unfold hN at h
 split at h
 ·rename_i fs b o hu;split at h
  ·rename_i fd hf;split at h
   ·rename_i n hn;cases hq:Nat.beq n 0 with
    |true=>rw[hq]at h;cases h
    |false=>
     rw[hq]at h;simp only[cond_false,a00]at h;subst h
     obtain⟨l,hb,rfl⟩:=hx.ptr_inv
     have hne: ¬n=0:=fun e=>by subst e;cases hq
     refine⟨_,fun w=>?_,a1s l.sh o fd.offset▸VRel.ptr b (o+fd.offset) l hb⟩
     simp[Instr.fieldAt,ae w hu,hf,Instr.sureAddr,fieldPlace,aX w hn,hne,cN,a1s]
   cases h
  cases h
 cases h
theorem i4{t:TypeId}{x x' i i':Value}{v:Value}(h:cW P t x i=some v)(hx:VRel μ x x')(hi:VRel μ i i'):
  ∃v',(∀w,(Instr.indexAt t x' i').run P w= .ok v' w)/\VRel μ v v':=by
 unfold cW at h
 split at h
 ·rename_i e b o n k j hu hj;obtain⟨ik,rfl⟩:=eP hj hi;split at h
  ·rename_i sz hs;cases hq:(Nat.ble (j+1) n&&Nat.ble n k) with
   |false=>rw[hq]at h;cases h
   |true=>
    rw[hq]at h;simp only[cond_true,a00]at h;subst h
    simp only[a0d]at hq
    have h1:j+1<=n:=a06 hq.1
    have h2:n<=k:=a06 hq.2
    obtain⟨l,hb,hc⟩:=hx.slice_inv
    have hrel:VRel μ (.pointer (some ⟨b,o+j*sz,none⟩)) (.pointer (some ⟨l.c,l.sh+o+j*sz,none⟩)):=
     a1s l.sh o (j*sz)▸VRel.ptr b (o+j*sz) l hb
    have hlt:(j:Int)<(n:Int):=by omega
    rcases hc with⟨_,rfl⟩|⟨e',o',k',_,rfl,_,_,hoff,_⟩|⟨hz,_,_⟩
    rotate_right
    ·omega
    ·refine⟨_,fun w=>?_,hrel⟩;simp[Instr.indexAt,asIntOf,ae w hu,aX w hs,cN];omega
    have ho:o'=l.sh+o:=hoff (by omega)
    subst ho
    refine⟨_,fun w=>?_,hrel⟩
    simp[Instr.indexAt,asIntOf,ae w hu,aX w hs,cN]
    omega
  cases h
 ·rename_i n e b o j hu hj;obtain⟨ik,rfl⟩:=eP hj hi;split at h
  ·rename_i sz hs;cases hq:Nat.ble (j+1) n with
   |false=>rw[hq]at h;cases h
   |true=>
    rw[hq]at h;simp only[cond_true,a00]at h;subst h
    have h1:j+1<=n:=a06 hq
    obtain⟨l,hb,rfl⟩:=hx.ptr_inv
    refine⟨_,fun w=>?_,a1s l.sh o (j*sz)▸VRel.ptr b (o+j*sz) l hb⟩
    have hlt:(j:Int)<(n:Int):=by omega
    have h0:(0:Int)<=(j:Int)/\(j:Int)<(n:Int):=⟨by omega,hlt⟩
    simp only[Instr.indexAt,asIntOf,ae w hu,aX w hs,cN,Instr.sureAddr,Sem.run_bind,Sem.run_pure,Result.andThen_ok,if_pos h0,a1I]
  cases h
 cases h
theorem strIndex_run{t:TypeId}{s:ByteArray}{k:IntKind}{j:Nat}{b:UInt8}(hu:P.underlying t=some .string)(hb:s.data.toList[j]?=some b)(w:World):
  (Instr.index t (.string s) (.int k (j:Int))).run P w= .ok (.int .u8 b.toNat) w:=by
 have hlt:j<s.size:=by have:=(a0u.1 hb).1;simpa using this
 have hg:s[j]?=some b:=by rw[getElem?_pos s j hlt];have:=(a0u.1 hb).2;rw[←this];rfl
 simp[Instr.index,asIntOf,ae w hu,hg]
theorem jm{ops:Array Operand}{ρ ρ':Operand->Value}(h: ∀x∈ops,VRel μ (ρ x) (ρ' x)):LRel μ (ops.map ρ).toList (ops.map ρ').toList:=by refine⟨by simp,fun i v v' h1 h2=>?_⟩;simp only[Array.toList_map,a1g,a1Z]at h1 h2;obtain⟨x,hx,rfl⟩:=h1;obtain⟨y,hy,rfl⟩:=h2;rw[hx]at hy;injection hy with hy;subst hy;exact h x (by simpa using a0k hx)
theorem lV{t:TypeId}{x x':Value}{f:Nat}{v:Value}(h:gE P t x f=some v)(hx:VRel μ x x'):
  ∃v',(∀w,(Instr.field t x' f).run P w= .ok v' w)/\VRel μ v v':=by
 unfold gE at h
 split at h
 ·rename_i cs;split at h
  ·rename_i g n off hf;have hp:aB P (Instr.field t (.agg cs) f)=some v:=by
    unfold fieldAt? at hf;split at hf
    ·rename_i fs hu;split at hf
     ·rename_i fd hfd;split at hf
      ·rename_i g' n' hg hn;simp only[a00,a03]at hf;obtain⟨rfl,rfl,rfl⟩:=hf;unfold Instr.field part;simp only[aN,bL,hu,a0o,hfd,asAgg,bQ,eW,hg];unfold partL at h;cases g' with
       |true=>
        simp only[cond_true,a00,ce,ct]at h
        simp only[if_true,aN,cJ,hn,a0o,bQ,a00]
        subst h
        congr 1
        apply Array.ext'
        simp
       |false=>
        simp only[cond_false,gO]at h
        simp only[a0K,if_false]
        have hc:cs[fd.offset]?=some v:=by simpa using h
        rw[hc];rfl
      cases hf
     cases hf
    cases hf
   obtain⟨v',hv',hr⟩:=field_rel hx hp;exact⟨v',fun w=>cy P hv' w,hr⟩
  cases h
 cases h
theorem cj{r:Option Value}{H H':Heap}{n:AN}(h:ovl r H=some (n,H')):H'=H/\∃v,r=some v/\n= .val v:=by
 unfold ovl at h;split at h
 ·rename_i v;simp only[a00,a03]at h;exact⟨h.2.symm,v,rfl,h.1.symm⟩
 cases h
theorem ij{op:BinOp}{r:Option Bool}{H H':Heap}{n:AN}(h:nilBin op r H=some (n,H')):
  H'=H/\∃b,r=some b/\((op= .eql/\n= .val (.bool b))\/(op= .neq/\n= .val (.bool (!b)))):=by
 unfold nilBin at h
 split at h
 ·rename_i b;split at h
  ·simp only[a00,a03]at h;exact⟨h.2.symm,b,rfl,.inl ⟨rfl,h.1.symm⟩⟩
  ·simp only[a00,a03]at h;exact⟨h.2.symm,b,rfl,.inr ⟨rfl,h.1.symm⟩⟩
  cases h
 cases h
theorem ju{ρ ρ':Operand->Value}{o:Oper}{H H':Heap}{r:AN}(hk:aY o.op=true)
  (hρ: ∀x∈o.op.operands,VRel μ (ρ x) (ρ' x)) (h:aop P ρ o H=some (r,H')):
  H'=H/\∃v v',r= .val v/\(∀w,(execOp ρ' o).run P w= .ok (.value v') w)/\VRel μ v v':=by
 obtain⟨dst,op,type,pos,after,guard⟩:=o
 cases op<;>simp only[aY,a0K]at hk
 case move x=>
  simp only[aop,a00,a03]at h
  obtain⟨rfl,rfl⟩:=h
  exact⟨rfl,_,ρ' x,rfl,fun w=>rfl,hρ x (by simp[Op.operands])⟩
 case assign x=>
  simp only[aop,a00,a03]at h
  obtain⟨rfl,rfl⟩:=h
  exact⟨rfl,_,ρ' x,rfl,fun w=>rfl,hρ x (by simp[Op.operands])⟩
 case pick c a b=>
  simp only[aop,fw]at h
  split at h
  ·rename_i t ht;simp only[a00,a03]at h;obtain⟨rfl,rfl⟩:=h;have hc:ρ' c= .bool t:=by have:=hρ c (by simp[Op.operands]);rw[ht]at this;exact this.bool_inv
   refine⟨rfl,_,(if t then ρ' a else ρ' b),rfl,fun w=>?_,?_⟩
   ·simp[execOp,hc,asBool]
   cases t
   ·exact hρ b (by simp[Op.operands])
   exact hρ a (by simp[Op.operands])
  cases h
 case build t parts=>
  simp only[aop,gr]at h
  split at h
  case h_2=>cases h
  rename_i z hz
  obtain⟨rfl,v,rfl,hv⟩:=jN h
  obtain⟨v',hv',hr⟩:=build_rel (μ:=μ) (ps:=parts.map fun p=>(p.1,ρ p.2)) (ps':=parts.map fun(i,x)=>(i,ρ' x)) (by simp) (fun i x x' h1 h2=>by
   simp only[Array.toList_map,a1g,a1Z]at h1 h2;obtain⟨y,hy,rfl⟩:=h1;obtain⟨z,hz,rfl⟩:=h2;rw[hy]at hz;injection hz with hz;subst hz;refine⟨rfl,hρ _ ?_⟩;have:=a0k hy;simp only[Op.operands,List.mem_toArray,a0r];exact⟨y,this,rfl⟩) (by rw[hz];rfl) hv
  exact⟨rfl,v,v',rfl,fun w=>by simp only[execOp,Sem.run_bind,cy P hv' w,Result.andThen_ok,Sem.run_pure],hr⟩
 case nilCheck x=>
  simp only[aop,opNil]at h
  split at h
  ·rename_i a ha;simp only[a00,a03]at h;obtain⟨rfl,rfl⟩:=h;have hx:=hρ x (by simp[Op.operands]);rw[ha]at hx;obtain⟨_,a',ha'⟩:=hx.ptr_some;exact⟨rfl,_,ρ' x,rfl,fun w=>by simp[execOp,ha'],hx⟩
  ·rename_i f a c ha;simp only[a00,a03]at h;obtain⟨rfl,rfl⟩:=h;have hx:=hρ x (by simp[Op.operands]);rw[ha]at hx;obtain⟨a',c',hf',_,_⟩:=hx.func_inv;exact⟨rfl,_,ρ' x,rfl,fun w=>by simp[execOp,hf'],hx⟩
  cases h
 case binOp op t x y yt=>
  have hx:=hρ x (by simp[Op.operands])
  have hy:=hρ y (by simp[Op.operands])
  simp only[aop,aBin]at h
  split at h
  ·rename_i k a ha;rw[ha]at hx;unfold binInt at h;split at h
   ·rename_i k' b hb;rw[hb]at hy;obtain⟨rfl,v,hv,rfl⟩:=cj h;have key: ∀w,(binOp op t (.int k a) (.int k' b)).run P w= .ok v w/\noA0 v=true:=by
     intro w;cases hs:jO op with
     |true=>rw[hs]at hv;exact shBin_sound hv t w
     |false=>
      rw[hs]at hv
      simp only[cond_false]at hv
      cases he:gQ k k' with
      |false=>rw[he]at hv;cases hv
      |true=>
       rw[he]at hv
       have:k=k':=by simpa[gQ] using he
       subst this
       exact intBin_sound hv t w
    refine⟨rfl,v,v,rfl,fun w=>?_,.atom v (key default).2⟩;simp only[execOp,hx.int_inv,hy.int_inv,eqGuard_at_int,pure_bind,Sem.run_bind,(key w).1,Result.andThen_ok,Sem.run_pure]
   cases h
  ·rename_i a ha;rw[ha]at hx;unfold binStr at h;split at h
   ·rename_i b hb;rw[hb]at hy;obtain⟨rfl,v,hv,rfl⟩:=cj h;refine⟨rfl,v,v,rfl,fun w=>?_,.atom v (jz (P:=P) (t:=t) hv default).2⟩;simp only[execOp,hx.string_inv,hy.string_inv,eqGuard_at_string,pure_bind,Sem.run_bind,(jz (P:=P) (t:=t) hv w).1,Result.andThen_ok,Sem.run_pure]
   cases h
  unfold lN at h
  split at h
  ·exact di h (fun _ _=>by simp) hρ
  ·exact di h (fun _ _=>by simp) hρ
  obtain⟨rfl,b,hb,hcase⟩:=ij h
  rcases hcase with⟨rfl,rfl⟩|⟨rfl,rfl⟩
  ·refine⟨rfl,_,_,rfl,fun w=>?_,.atom (.bool b) rfl⟩;obtain⟨h1,h2,h3⟩:=jJ (P:=P) hb hx hy w;simp only[execOp,h2,pure_bind,h3 .eql (.inl rfl),Sem.run_bind,h1,Result.andThen_ok,Sem.run_pure]
  refine⟨rfl,_,_,rfl,fun w=>?_,.atom (.bool (!b)) rfl⟩
  obtain⟨h1,h2,h3⟩:=jJ (P:=P) hb hx hy w
  simp only[execOp,h2,pure_bind,h3 .neq (.inr rfl),Sem.run_bind,h1,Result.andThen_ok,Sem.run_pure]
 case unOp op t x=>
  have hx:=hρ x (by simp[Op.operands])
  simp only[aop,aUn]at h
  split at h
  ·rename_i b hb;rw[hb]at hx;split at h
   ·simp only[a00,a03]at h;obtain⟨rfl,rfl⟩:=h;exact⟨rfl,_,_,rfl,fun w=>by simp[execOp,hx.bool_inv,Op.unary],.atom (.bool (!b)) rfl⟩
   cases h
  exact di h (fun _ _=>by simp) hρ
 case makeFunc fn first captured=>
  simp only[aop,a00,a03]at h
  obtain⟨rfl,rfl⟩:=h
  have h1:=jm (μ:=μ) (ops:=first) (ρ:=ρ) (ρ':=ρ') fun x hx=>hρ x (by simp[Op.operands,hx])
  have h2:=jm (μ:=μ) (ops:=captured) (ρ:=ρ) (ρ':=ρ') fun x hx=>hρ x (by simp[Op.operands,hx])
  exact⟨rfl,_,_,rfl,fun w=>rfl,.func _ _ _ _ _ h1.1 h2.1 h1.2 h2.2⟩
 case fieldAddr s x f=>
  simp only[aop]at h
  obtain⟨rfl,v,hv,rfl⟩:=cj h
  obtain⟨v',hv',hr⟩:=aField_sound hv (hρ x (by simp[Op.operands]))
  exact⟨rfl,v,v',rfl,fun w=>by simp only[execOp,Sem.run_bind,hv' w,Result.andThen_ok,Sem.run_pure],hr⟩
 case field t x f=>
  simp only[aop]at h
  obtain⟨rfl,v,hv,rfl⟩:=cj h
  obtain⟨v',hv',hr⟩:=lV hv (hρ x (by simp[Op.operands]))
  exact⟨rfl,v,v',rfl,fun w=>by simp only[execOp,Sem.run_bind,hv' w,Result.andThen_ok,Sem.run_pure],hr⟩
 case indexAddr t x i=>
  simp only[aop]at h
  obtain⟨rfl,v,hv,rfl⟩:=cj h
  obtain⟨v',hv',hr⟩:=i4 hv (hρ x (by simp[Op.operands])) (hρ i (by simp[Op.operands]))
  exact⟨rfl,v,v',rfl,fun w=>by simp only[execOp,Sem.run_bind,hv' w,Result.andThen_ok,Sem.run_pure],hr⟩
 case index t x i=>
  have hx:=hρ x (by simp[Op.operands])
  have hi:=hρ i (by simp[Op.operands])
  simp only[aop,j5]at h
  split at h
  ·rename_i s hs;rw[hs]at hx;obtain⟨rfl,v,hv,rfl⟩:=cj h;unfold strAt at hv;split at hv
   ·rename_i j hu hj;obtain⟨k,hk⟩:=eP hj hi;rw[gO]at hv;split at hv
    ·rename_i b hb;injection hv with hv;subst hv;exact⟨rfl,_,_,rfl,fun w=>by simp only[execOp,hx.string_inv,hk,Sem.run_bind,strIndex_run hu hb w,Result.andThen_ok,Sem.run_pure],.atom _ rfl⟩
    cases hv
   cases hv
  rename_i hns
  obtain⟨rfl,v,rfl,hv⟩:=jN h
  obtain⟨v',hv',hr⟩:=index_rel hx hi (fun s hs=>hns s hs) hv
  exact⟨rfl,v,v',rfl,fun w=>by simp only[execOp,Sem.run_bind,cy P hv' w,Result.andThen_ok,Sem.run_pure],hr⟩
 case extract x i=>
  simp only[aop]at h
  have hx:=hρ x (by simp[Op.operands])
  obtain⟨rfl,v,hv,rfl⟩:=cj h
  unfold fW at hv
  split at hv
  ·rename_i vs hvs;rw[hvs]at hx;obtain⟨vs',hvs',hr⟩:=hx.tuple_inv;rw[gO]at hv;obtain⟨v',hv',hrel⟩:=hr.get hv;have hg:vs'[i]?=some v':=by simpa using hv'
   exact⟨rfl,v,v',rfl,fun w=>by simp[execOp,hvs',Instr.extract,hg],hrel⟩
  cases hv
end
end Go.R
namespace Go.R
theorem d6(l:List Value): ∀n,(cz n l).length=n*l.length
 |0=>by simp[cz]
 |n+1=>by simp only[cz,a05,d6 l n];rw[a10];omega
theorem kP(l:List Value): ∀(n i:Nat),i<n*l.length->(cz n l)[i]?=l[i%l.length]?
 |0,i,h=>by simp at h
 |n+1,i,h=>by
  simp only[cz];by_cases hi:i<l.length
  ·rw[a0S hi,Nat.mod_eq_of_lt hi]
  rw[a10,Nat.one_mul]at h;rw[a17 (by omega),kP l n (i-l.length) (by omega)];congr 1;exact(Nat.mod_eq_sub_mod (by omega)).symm
theorem zeros_eq(z:Array Value)(n:Nat):(Array.range (n*z.size)).map (fun i=>z[i%z.size]!)=⟨cz n z.toList⟩:=by
 apply a1E;intro i;refine Eq.trans ?_ (jK _ _).symm;by_cases hi:i<n*z.size
 ·rw[kP _ _ _ (by simpa using hi)];have hz:0<z.size:=by
   rcases a1F z.size with h|h
   ·rw[h]at hi;simp at hi
   exact h
  have hm:i%z.size<z.size:=Nat.mod_lt _ hz;simp[hi,hm]
 rw[a0Q (by rw[d6];simpa using hi)];simp[hi]
theorem gz{l:List Value}(h:l.all noA0=true): ∀n,(cz n l).all noA0=true
 |0=>rfl
 |n+1=>by simp only[cz,a2d,h,gz h n,a1j]
section
variable {P:Program} {μ:Emb} {H H':Heap} {w:World}
def OpOK(P:Program)(μ:Emb)(H:Heap)(w:World)(s:Sem Next)(r:AN)(H':Heap):Prop:=
 ∃n w' μ',s.run P w= .ok n w'/\Post μ H w μ' H' w'/\ANRel μ' r n
theorem OpOK.value{s:Sem Value}{v v':Value}{w':World}{μ':Emb}(h:s.run P w= .ok v' w')(hp:Post μ H w μ' H' w')(hr:VRel μ' v v'):
  OpOK P μ H w (do Pure.pure (.value (←s))) (.val v) H':=
 ⟨.value v',w',μ',by simp only[Sem.run_bind,h,Result.andThen_ok,Sem.run_pure],hp,hr⟩
theorem OpOK.skip{s:Sem Unit}{w':World}{μ':Emb}(h:s.run P w= .ok () w')(hp:Post μ H w μ' H' w'):
  OpOK P μ H w (do s;Pure.pure .skip) .skip H':=
 ⟨.skip,w',μ',by simp only[Sem.run_bind,h,Result.andThen_ok,Sem.run_pure],hp,trivial⟩
theorem jF{r:Option (Value×Heap)}{n:AN}(h:ovh r=some (n,H')): ∃v,r=some (v,H')/\n= .val v:=by
 unfold ovh at h;split at h
 ·simp only[a00,a03]at h;obtain⟨rfl,rfl⟩:=h;exact⟨_,rfl,rfl⟩
 cases h
theorem osk_inv{r:Option Heap}{n:AN}(h:osk r=some (n,H')):r=some H'/\n= .skip:=by
 unfold osk at h;split at h
 ·simp only[a00,a03]at h;obtain⟨rfl,rfl⟩:=h;exact⟨rfl,rfl⟩
 cases h
theorem gT(h:WRel μ H w)(hf:μ H.next=none)(e:TypeId){cs cs':List Value}(hrel:LRel μ cs cs'):
  ∃l,l.c=w.heap.size/\l.sh=0/\l.opn=none/\(newRow e ⟨cs'⟩).run P w= .ok ⟨w.heap.size,0,none⟩ (w.alloc (.cells ⟨cs'⟩ e))/\
   Post μ H w (μ.set H.next l) (aS H cs none) (w.alloc (.cells ⟨cs'⟩ e)):=by
 obtain⟨l,h1,h2,h3,_,h5,h6⟩:=cT (P:=P) h hf e hrel [] none (fun _=>rfl)
 simp only[a0E]at h5 h6
 exact⟨l,h1,h2,h3,h5,h6⟩
theorem alloc_sound{e:TypeId}{r:AN}(h:WRel μ H w)(hf: ∀b,H.next<=b->b<H'.next->μ b=none)(ho:ee P e H=some (r,H')):
  OpOK P μ H w (do Pure.pure (.value (←Instr.alloc e true (.tuple #[])))) r H':=by
 unfold ee at ho
 split at ho
 ·rename_i z hz;simp only[a00,a03]at ho;obtain⟨rfl,rfl⟩:=ho;obtain⟨i,v,hi,hv,hc,hall⟩:=eb (P:=P) hz;obtain⟨l,h1,h2,h3,hrun,hp⟩:=gT (P:=P) h (hf H.next (a09 _) (by simp[aS])) e (LRel.refl0 (μ:=μ) hall);have hvc:v.cells=⟨z⟩:=by rw[←hc]
  refine OpOK.value (v':= .pointer (some ⟨w.heap.size,0,none⟩)) ?_ hp ?_
  ·simp only[Instr.alloc,Sem.run_bind,de w hi hv,Result.andThen_ok,newVar,hvc,hrun,Sem.run_pure]
  have:=VRel.ptr (μ:=μ.set H.next l) H.next 0 l (Emb.set_same _ _ _);rw[h1,h2]at this;exact this
 cases ho
theorem box_sound{e:TypeId}{x x':Value}(h:WRel μ H w)(hf:μ H.next=none)(hx:VRel μ x x'):
  OpOK P μ H w (do Pure.pure (.value (←Instr.box e x'))) (.val (ptrTo H.next)) (aS H x.cells.toList none):=by
 obtain⟨l,h1,h2,h3,hrun,hp⟩:=gT (P:=P) h hf e hx.cells
 refine OpOK.value (v':= .pointer (some ⟨w.heap.size,0,none⟩)) ?_ hp ?_
 ·simp only[Instr.box,newVar,Sem.run_bind,hrun,Result.andThen_ok,Sem.run_pure]
 have:=VRel.ptr (μ:=μ.set H.next l) H.next 0 l (Emb.set_same _ _ _)
 rw[h1,h2]at this;exact this
theorem j7{t:TypeId}{sz:Nat}{z:List Value}(h:eH P t=some (sz,z)): ∃e,P.underlying t=some (.slice e)/\dw P e=some sz/\du P e=some z/\z.length=sz:=by
 unfold eH at h;split at h
 ·rename_i e hu;split at h
  ·rename_i s' z' hs hz;cases hq:Nat.beq (hP z') s' with
   |false=>rw[hq]at h;cases h
   |true=>
    rw[hq]at h;simp only[cond_true,a00,a03]at h
    obtain⟨rfl,rfl⟩:=h
    exact⟨e,hu,hs,hz,by rw[←bT];exact a07 hq⟩
  cases h
 cases h
theorem iZ{t:TypeId}{n:Nat}{ps:List (Nat×Value)}{ps':Array (Nat×Value)}{r:AN}(h:WRel μ H w)(hf: ∀b,H.next<=b->b<H'.next->μ b=none)
  (hl:ps.length=ps'.toList.length) (hp: ∀(i:Nat) x x',ps[i]?=some x->ps'.toList[i]?=some x'->x.1=x'.1/\VRel μ x.2 x'.2)
  (ho:bK P t n ps H=some (r,H')):OpOK P μ H w (do Pure.pure (.value (←Instr.buildSlice t n ps'))) r H':=by
 unfold bK at ho
 split at ho
 ·rename_i sz z hsi;obtain⟨e,hu,hs,hz,hzl⟩:=j7 hsi;cases hq:Nat.ble (n*sz) 16777216 with
  |false=>rw[hq]at ho;cases ho
  |true=>
   rw[hq]at ho
   simp only[cond_true]at ho
   have hle:n*sz<=16777216:=a06 hq
   split at ho
   ·rename_i cells hc;simp only[a00,a03]at ho;obtain⟨rfl,rfl⟩:=ho;obtain⟨i,v,hi,hv,hvc,hall⟩:=eb (P:=P) hz;obtain⟨cells',hc',hrel⟩:=ji (μ:=μ) ps ps'.toList _ _ cells hl hp (LRel.refl0 (gz hall n)) hc;obtain⟨l,h1,h2,h3,hrun,hpost⟩:=gT (P:=P) h (hf H.next (a09 _) (by simp[aS])) e hrel;refine OpOK.value (v':= .slice (some ⟨w.heap.size,0,none⟩) n n) ?_ hpost ?_
    ·have hvs:v.cells=⟨z⟩:=by rw[←hvc]
     simp only[Instr.buildSlice,Sem.run_bind,ae w hu,Result.andThen_ok,aX w hs,show ¬(n*sz>2^24) by omega,if_false];by_cases h0:n*sz=0
     ·have hcz:cz n z=[]:=a0s (by rw[d6,hzl];exact h0);have hbase: ∀g:Nat->Value,(Array.range (n*sz)).map g=⟨cz n z⟩:=fun g=>by rw[h0,hcz];simp
      rw[if_pos h0];simp only[Sem.run_bind,Sem.run_pure,Result.andThen_ok,hbase,hc',hrun]
     have hbase:=zeros_eq ⟨z⟩ n;simp only[show(Array.mk z).size=sz from hzl]at hbase;rw[if_neg h0];simp only[Sem.run_bind,de w hi hv,Sem.run_pure,Result.andThen_ok,hvs,show(Array.mk z).size=sz from hzl,hbase,hc',hrun]
    have:=VRel.sliceC (μ:=μ.set H.next l) H.next 0 n n l (Emb.set_same _ _ _) h3;rw[h1,h2]at this;exact this
   cases ho
 cases ho
theorem load_sound{t:TypeId}{a a':Value}{r:AN}(h:WRel μ H w)(ha:VRel μ a a')(ho:dX P t a H=some (r,H')):
  OpOK P μ H w (do Pure.pure (.value (←Instr.loadAt t a'))) r H':=by
 unfold dX at ho
 split at ho
 ·rename_i p;obtain⟨rfl,v,hv,rfl⟩:=cj ho;obtain⟨b,o,sp⟩:=p;have hsp:sp=none:=ha.ptr_some.1;subst hsp;obtain⟨l,hb,rfl⟩:=ha.ptr_inv;obtain⟨v',hrun,hr⟩:=gu (P:=P) h hb hv;refine OpOK.value (v':=v') ?_ (Post.refl h) hr;simp only[Instr.loadAt,Instr.sureAddr,Sem.run_bind,Sem.run_pure,Result.andThen_ok,hrun]
 cases ho
theorem store_sound{t:TypeId}{a a' x x':Value}{r:AN}(h:WRel μ H w)(ha:VRel μ a a')(hx:VRel μ x x')(ho:gq P t a x H=some (r,H')):
  OpOK P μ H w (do Instr.storeAt t a' x';Pure.pure .skip) r H':=by
 unfold gq at ho
 split at ho
 ·rename_i p;split at ho
  ·rename_i n hn;cases hq:Nat.beq x.cells.size n with
   |false=>rw[hq]at ho;cases ho
   |true=>
    rw[hq]at ho
    obtain⟨hs,rfl⟩:=osk_inv ho
    have hsz:x.cells.size=n:=a07 hq
    obtain⟨b,o,sp⟩:=p
    have hsp:sp=none:=ha.ptr_some.1
    subst hsp
    obtain⟨l,hb,rfl⟩:=ha.ptr_inv
    obtain⟨w',hrun,hp⟩:=fu (P:=P) h hb hs hx.cells
    refine OpOK.skip ?_ hp
    have hsz':x'.cells.size=n:=by have:=hx.cells.1;simp only[a2c]at this;omega
    simp only[Instr.storeAt,Instr.sureAddr,storeVar,Sem.run_bind,Sem.run_pure,Result.andThen_ok,aX w hn,hsz',ne_eq,not_true,if_false,hrun]
  cases ho
 cases ho
theorem lA(t:TypeId)(h:WRel μ H w)(hf:μ H.next=none):
  OpOK P μ H w (do Pure.pure (.value (←Instr.makeMap t none))) (.val (.map (some H.next))) (H.push (.tab [])):=by
 refine OpOK.value (v':= .map (some w.heap.size)) (w':=w.alloc (.map #[] 0)) (μ':=μ.set H.next ⟨w.heap.size,0,none,0⟩) ?_ (Post.push h hf _ rfl _ _ ?_) ?_
 ·simp[Instr.makeMap]
 ·exact⟨#[],0,e8 w _,rfl,fun i x y hx=>by simp at hx⟩
 exact VRel.map (μ:=μ.set H.next ⟨w.heap.size,0,none,0⟩) H.next _ (Emb.set_same _ _ _)
theorem range_sound{t:TypeId}{x x':Value}{r:AN}(h:WRel μ H w)(hf: ∀b,H.next<=b->b<H'.next->μ b=none)(hx:VRel μ x x')(ho:ovh (aRange P t x H)=some (r,H')):
  OpOK P μ H w (do Pure.pure (.value (←Instr.range t x'))) r H':=by
 obtain⟨v,hv,rfl⟩:=jF ho
 unfold aRange at hv
 split at hv
 ·rename_i s hu;simp only[a00,a03]at hv;obtain⟨rfl,rfl⟩:=hv;obtain rfl:=hx.string_inv;refine OpOK.value (v':= .pointer (some ⟨w.heap.size,0,none⟩)) (w':=w.alloc (.stringIter s 0)) (μ':=μ.set H.next ⟨w.heap.size,0,none,0⟩) ?_
   (Post.push h (hf H.next (a09 _) (by simp)) _ rfl _ _ ⟨rfl,e8 w _⟩) ?_
  ·simp[Instr.range,ae w hu]
  exact VRel.ptr (μ:=μ.set H.next ⟨w.heap.size,0,none,0⟩) H.next 0 _ (Emb.set_same _ _ _)
 cases hv
theorem fN{r:Nat}{o:Obj}(hh:w.heap[r]?=some o)(hc: ∀c e f,o≠ .cells c e f):(getObj r).run P w= .ok o w:=by cases o<;>first|exact absurd rfl (hc _ _ _)|(simp only[getObj,Sem.run,hh])
theorem kv{r:Nat}{o o':Obj}(hh:w.heap[r]?=some o)(hc: ∀c e f,o≠ .cells c e f):(setObj r o').run P w= .ok () (bd w r o'):=by cases o<;>first|exact absurd rfl (hc _ _ _)|(simp only[setObj,Sem.run,hh];rfl)
theorem next_sound{it it':Value}{type:TypeId}{r:AN}(h:WRel μ H w)(hx:VRel μ it it')(ho:ovh (aNext H it)=some (r,H')):
  OpOK P μ H w (do Pure.pure (.value (←Instr.next it' true type))) r H':=by
 obtain⟨v,hv,rfl⟩:=jF ho
 unfold aNext at hv
 split at hv
 ·rename_i b;split at hv
  ·rename_i s pos hg;obtain⟨l,hb,rfl⟩:=hx.ptr_inv;obtain⟨hsh,hh⟩:=h.obj b l _ hb hg;have hget:(getObj l.c).run P w= .ok (.stringIter s pos) w:=fN hh (by intros;simp);cases hq:Nat.ble (pos+1) s.size with
   |false=>
    rw[hq]at hv
    simp only[cond_false,a00,a03]at hv
    obtain⟨rfl,rfl⟩:=hv
    have hge: ¬pos<s.size:=fun hlt=>by rw[a0v hlt]at hq;cases hq
    refine OpOK.value (v':= .tuple #[.bool false]) ?_ (Post.refl h) (VRel.refl2 rfl)
    simp[Instr.next,hsh,hget,hge]
   |true=>
    rw[hq]at hv
    simp only[cond_true,a00,a03]at hv
    obtain⟨rfl,rfl⟩:=hv
    have hlt:pos<s.size:=a06 hq
    refine OpOK.value (v':= .tuple #[.bool true,goInt pos,.int .i32 (Utf8.decode s pos).1]) (w':=bd w l.c (.stringIter s (pos+(Utf8.decode s pos).2))) ?_
     (Post.put h hb hg rfl _ rfl _ ⟨hsh,bH w _ (bW hh)⟩) (VRel.refl2 rfl)
    simp[Instr.next,hsh,hget,hlt,kv hh (by intros;simp)]
  cases hv
 cases hv
theorem kh{n:Nat}(h:n<=2147483648):IntKind.i64.wrap (n:Int)=n:=IntWalk.i64_in _ (by omega)
theorem iP{e:TypeId}{b:Nat}(h:fc P e=some b): ∃i,P.info? e=some i/\i.bytes=b:=by
 unfold fc at h;split at h
 ·rename_i i hi;injection h with h;exact⟨i,hi,h⟩
 cases h
theorem make_sound{t:TypeId}{x x' y y':Value}{r:AN}(h:WRel μ H w)(hf: ∀b,H.next<=b->b<H'.next->μ b=none)(hx:VRel μ x x')(hy:VRel μ y y')
  (ho:ovh (aMake P t x y H)=some (r,H')):OpOK P μ H w (do Pure.pure (.value (←Instr.makeSlice t x' y'))) r H':=by
 obtain⟨v,hv,rfl⟩:=jF ho
 unfold aMake at hv
 split at hv
 ·rename_i e hu;split at hv
  ·rename_i sz by_ z n k hs hb hz hn hk;cases hq:(Nat.ble n k&&Nat.ble k 2147483648&&Nat.ble by_ 4096&&Nat.beq (hP z) sz&& !Nat.beq sz 0) with
   |false=>rw[hq]at hv;cases hv
   |true=>
    rw[hq]at hv
    simp only[cond_true,a00,a03]at hv
    obtain⟨rfl,rfl⟩:=hv
    simp only[a0d,a0G]at hq
    obtain⟨⟨⟨⟨q1,q2⟩,q3⟩,q4⟩,q5⟩:=hq
    have q1:n<=k:=a06 q1
    have q2:k<=2147483648:=a06 q2
    have q3:by_<=4096:=a06 q3
    have q4:z.length=sz:=by rw[←bT];exact a07 q4
    have q5:sz≠0:=fun e=>by rw[e]at q5;cases q5
    obtain⟨i,vz,hi,hvz,hvc,hall⟩:=eb (P:=P) hz
    obtain⟨ib,hib,hbb⟩:=iP hb
    rw[hi]at hib;injection hib with hib;subst hib
    obtain⟨l,h1,h2,h3,hrun,hpost⟩:=gT (P:=P) h (hf H.next (a09 _) (by simp[aS])) e (LRel.refl0 (μ:=μ) (gz hall k))
    refine OpOK.value (v':= .slice (some ⟨w.heap.size,0,none⟩) n k) ?_ hpost ?_
    ·obtain⟨kn,rfl⟩:=eP hn hx;obtain⟨kk,rfl⟩:=eP hk hy;have hwn:=kh (n:=n) (by omega);have hwk:=kh (n:=k) q2;have hvs:vz.cells=⟨z⟩:=by rw[←hvc]
     have hmul:by_*k<=4096*2147483648:=Nat.mul_le_mul q3 q2;have hnot:(decide ((k:Int)<0)||decide ((i.bytes:Int)*(k:Int)>2^48)||decide ((n:Int)<0)||decide ((n:Int)>(k:Int)))=false:=by
      have hm:((i.bytes:Int)*(k:Int))<=8796093022208:=by rw[hbb,←Int.natCast_mul];exact Int.ofNat_le.2 hmul
      have h1: ¬((k:Int)<0):=by omega
      have h2: ¬((i.bytes:Int)*(k:Int)>2^48):=by
       have:(2:Int)^48=281474976710656:=by decide
       omega
      have h3: ¬((n:Int)<0):=by omega
      have h4: ¬((n:Int)>(k:Int)):=by omega
      simp only[decide_eq_false h1,decide_eq_false h2,decide_eq_false h3,decide_eq_false h4,Bool.or_self]
     simp only[Instr.makeSlice,Sem.run_bind,ae w hu,Result.andThen_ok,asInt,asIntOf,Sem.run_pure,d3 w hi,hwn,hwk];rw[if_neg (by rw[hnot];exact Bool.false_ne_true)];simp only[Sem.run_bind,run_askRoom,Result.andThen_ok,aX w hs,a1I];by_cases h0:k*sz=0
     ·have hcz:cz k z=[]:=a0s (by rw[d6,q4];exact h0);have hbase: ∀g:Nat->Value,(Array.range (k*sz)).map g=⟨cz k z⟩:=fun g=>by rw[h0,hcz];simp
      rw[if_pos h0];simp only[Sem.run_bind,Sem.run_pure,Result.andThen_ok,hbase,hrun]
     have hbase:=zeros_eq ⟨z⟩ k;simp only[show(Array.mk z).size=sz from q4]at hbase;rw[if_neg h0];simp only[Sem.run_bind,de w hi hvz,Sem.run_pure,Result.andThen_ok,hvs,show(Array.mk z).size=sz from q4,hbase,hrun]
    have:=VRel.sliceC (μ:=μ.set H.next l) H.next 0 n k l (Emb.set_same _ _ _) h3
    rw[h1,h2]at this;exact this
  cases hv
 cases hv
end
end Go.R
namespace Go.R
section
variable {P:Program} {μ:Emb} {H H':Heap} {w:World}
theorem jY{n k l r:Nat}{lo hi:Option Value}(h:bnds n k lo hi=some (l,r)):
  ca n hi=some r/\ca 0 lo=some l/\l<=r/\r<=k:=by
 unfold bnds at h
 split at h
 ·rename_i r' hr;split at h
  ·rename_i l' hl;cases hq:(Nat.ble l' r'&&Nat.ble r' k) with
   |false=>rw[hq]at h;cases h
   |true=>
    rw[hq]at h;simp only[cond_true,a00,a03]at h
    obtain⟨rfl,rfl⟩:=h
    simp only[a0d]at hq
    exact⟨hr,hl,a06 hq.1,a06 hq.2⟩
  cases h
 cases h
theorem dH{v v':Value}{n y:Nat}(h:i0 v=some n)(hr:VRel μ v v')(hle:n<=y)(code:BoundsCode):(Instr.sliceBound v' y code).run P w= .ok n w:=by
 obtain⟨k,rfl⟩:=eP h hr;have:(0:Int)<=(n:Int)/\(n:Int)<=(y:Int):=by omega
 simp[Instr.sliceBound,asIntOf,this.2]
theorem dE{isSlice:Bool}{n k k' l r:Nat}{lo hi lo' hi':Option Value}(hb:bnds n k lo hi=some (l,r))(hk:k<=k')
  (hlo: ∀v,lo=some v->∃v',lo'=some v'/\VRel μ v v') (hlon:lo=none->lo'=none)
  (hhi: ∀v,hi=some v->∃v',hi'=some v'/\VRel μ v v') (hhin:hi=none->hi'=none):
  (Instr.sliceBounds isSlice n k' lo' hi' none).run P w= .ok (l,r,k') w:=by
 obtain⟨h1,h2,h3,h4⟩:=jY hb
 unfold Instr.sliceBounds
 cases hi with
 |none=>
  rw[hhin rfl]
  simp only[ca,a00]at h1;subst h1
  cases lo with
  |none=>
   rw[hlon rfl]
   simp only[ca,a00]at h2;subst h2
   simp
  |some u=>
   obtain⟨u',hu',hur⟩:=hlo u rfl
   rw[hu']
   simp only[Sem.run_bind,Sem.run_pure,Result.andThen_ok,dH (P:=P) (w:=w) h2 hur h3]
 |some v=>
  obtain⟨v',hv',hr⟩:=hhi v rfl
  rw[hv']
  cases lo with
  |none=>
   rw[hlon rfl]
   simp only[ca,a00]at h2;subst h2
   simp only[Sem.run_bind,Sem.run_pure,Result.andThen_ok,dH (P:=P) (w:=w) h1 hr (by omega:r<=k')]
  |some u=>
   obtain⟨u',hu',hur⟩:=hlo u rfl
   rw[hu']
   simp only[Sem.run_bind,Sem.run_pure,Result.andThen_ok,dH (P:=P) (w:=w) h1 hr (by omega:r<=k'),dH (P:=P) (w:=w) h2 hur h3]
theorem dD(s:ByteArray)(l r:Nat):s.extract l r=⟨⟨(s.data.toList.drop l).take (r-l)⟩⟩:=by apply ByteArray.ext;apply Array.ext';simp
theorem jA{t:TypeId}{x x':Value}{lo hi mx lo' hi' mx':Option Value}{r:AN}(h:WRel μ H w)(hx:VRel μ x x')
  (hlo: ∀v,lo=some v->∃v',lo'=some v'/\VRel μ v v') (hlon:lo=none->lo'=none)
  (hhi: ∀v,hi=some v->∃v',hi'=some v'/\VRel μ v v') (hhin:hi=none->hi'=none) (hmx:mx=none->mx'=none)
  (ho:ovl (bx P t x lo hi mx H) H=some (r,H')): ∃v v',r= .val v/\H'=H/\(Instr.sliceAt t x' lo' hi' mx').run P w= .ok v' w/\VRel μ v v':=by
 obtain⟨rfl,v,hv,rfl⟩:=cj ho
 unfold bx at hv
 split at hv
 ·cases hv
 rw[hmx rfl]
 simp only at hv
 split at hv
 ·rename_i s hu;obtain rfl:=hx.string_inv;split at hv
  ·rename_i l r hb;injection hv with hv;subst hv;rw[bT]at hb;have hsz:s.data.toList.length=s.size:=by simp
   rw[hsz]at hb;refine⟨_,.string (s.extract l r),rfl,rfl,?_,?_⟩
   ·simp[Instr.sliceAt,Instr.slice,ae w hu,dE (P:=P) (w:=w) (isSlice:=false) hb (a09 _) hlo hlon hhi hhin]
   rw[dD,ce,ct];exact .atom _ rfl
  cases hv
 ·rename_i e hu;obtain rfl:=hx.eq0 rfl;split at hv
  ·rename_i lr hb;obtain⟨l,r⟩:=lr;cases hs:dw P e with
   |none=>rw[hs]at hv;cases hv
   |some sz=>
    rw[hs]at hv
    simp only[Option.isSome_some,cond_true,a00]at hv;subst hv
    obtain⟨_,_,h3,h4⟩:=jY hb
    obtain rfl:r=0:=by omega
    obtain rfl:l=0:=by omega
    refine⟨_,.slice none 0 0,rfl,rfl,?_,.atom _ rfl⟩
    simp[Instr.sliceAt,Instr.slice,ae w hu,dE (P:=P) (w:=w) (isSlice:=true) hb (a09 _) hlo hlon hhi hhin,aX w hs]
  cases hv
 ·rename_i e b o n k hu;split at hv
  ·rename_i l r sz cs opn ro hb hs hg;obtain⟨l0,hμ,hc⟩:=hx.slice_inv;have hopn:l0.opn=opn:=by
    have:=h.obj b l0 _ hμ hg;cases ro
    ·exact this.1
    exact this.1
   obtain⟨_,_,h3,h4⟩:=jY hb;split at hv
   ·injection hv with hv;subst hv;rcases hc with⟨ho0,rfl⟩|⟨e',o',k',ho0,rfl,_⟩|⟨rfl,rfl,a',rfl⟩
    rotate_right
    ·obtain rfl:r=0:=by omega
     obtain rfl:l=0:=by omega
     refine⟨_,.slice (some (if 0=0 then a' else a'.add (0*sz))) (0-0) (0-0),rfl,rfl,?_,?_⟩
     ·simp only[Instr.sliceAt,Instr.slice,Sem.run_bind,ae w hu,Result.andThen_ok,dE (P:=P) (w:=w) (isSlice:=true) hb (a09 _) hlo hlon hhi hhin,aX w hs,Sem.run_pure];split<;>rfl
     exact .sliceZ b o a' l0 hμ
    ·refine⟨_,.slice (some (if k=l then⟨l0.c,l0.sh+o,none⟩ else Addr.add ⟨l0.c,l0.sh+o,none⟩ (l*sz))) (r-l) (k-l),rfl,rfl,?_,?_⟩
     ·simp only[Instr.sliceAt,Instr.slice,Sem.run_bind,ae w hu,Result.andThen_ok,dE (P:=P) (w:=w) (isSlice:=true) hb (a09 _) hlo hlon hhi hhin,aX w hs,Sem.run_pure];split<;>rfl
     by_cases hkl:k=l
     ·rw[if_pos hkl];have:Nat.beq k l=true:=by rw[hkl];exact a0Z l
      rw[this];exact .sliceC b o _ _ l0 hμ ho0
     rw[if_neg hkl];have:Nat.beq k l=false:=by
      cases hq:Nat.beq k l with
      |false=>rfl
      |true=>exact absurd (a07 hq) hkl
     rw[this,cN,a1s];exact .sliceC b (o+l*sz) _ _ l0 hμ ho0
    rw[hopn]at ho0;cases ho0
   rename_i ez;cases hq:Nat.beq ez sz with
   |false=>rw[hq]at hv;cases hv
   |true=>
    rw[hq]at hv
    simp only[cond_true,a00]at hv;subst hv
    have hes:ez=sz:=a07 hq
    rcases hc with⟨ho0,rfl⟩|⟨e',o',k',ho0,rfl,hnk,hkk,hoff,hbd⟩|⟨rfl,rfl,a',rfl⟩
    rotate_right
    ·obtain rfl:r=0:=by omega
     obtain rfl:l=0:=by omega
     refine⟨_,.slice (some (if 0=0 then a' else a'.add (0*sz))) (0-0) (0-0),rfl,rfl,?_,?_⟩
     ·simp only[Instr.sliceAt,Instr.slice,Sem.run_bind,ae w hu,Result.andThen_ok,dE (P:=P) (w:=w) (isSlice:=true) hb (a09 _) hlo hlon hhi hhin,aX w hs,Sem.run_pure];split<;>rfl
     exact .sliceZ b _ a' l0 hμ
    ·rw[hopn]at ho0;cases ho0
    rw[hopn]at ho0;injection ho0 with ho0
    subst ho0 hes
    refine⟨_,.slice (some (if k'=l then⟨l0.c,o',none⟩ else Addr.add ⟨l0.c,o',none⟩ (l*ez))) (r-l) (k'-l),rfl,rfl,?_,?_⟩
    ·simp only[Instr.sliceAt,Instr.slice,Sem.run_bind,ae w hu,Result.andThen_ok,dE (P:=P) (w:=w) (isSlice:=true) hb hkk hlo hlon hhi hhin,aX w hs,Sem.run_pure];split<;>rfl
    by_cases hkl:k'=l
    ·rw[if_pos hkl];refine .sliceO b (o+l*ez) o' _ _ _ ez l0 hμ hopn (by omega) (by omega) (by omega) ?_;rw[hkl,a1Q,Nat.zero_mul];omega
    rw[if_neg hkl,cN]
    refine .sliceO b (o+l*ez) (o'+l*ez) _ _ _ ez l0 hμ hopn (by omega) (by omega) (fun hpos=>?_) ?_
    ·rw[hoff (by omega)];omega
    have:l*ez+(k'-l)*ez=k'*ez:=by rw[←a10];congr 1;omega
    omega
  cases hv
 ·rename_i n e b o hu;split at hv
  ·rename_i l r sz cs ro hb hs hg;obtain⟨l0,hμ,rfl⟩:=hx.ptr_inv;have hopn:l0.opn=none:=by
    have:=h.obj b l0 _ hμ hg;cases ro
    ·exact this.1
    exact this.1
   injection hv with hv;subst hv;refine⟨_,.slice (some (if n=l then⟨l0.c,l0.sh+o,none⟩ else Addr.add ⟨l0.c,l0.sh+o,none⟩ (l*sz))) (r-l) (n-l),rfl,rfl,?_,?_⟩
   ·simp only[Instr.sliceAt,Sem.run_bind,ae w hu,Result.andThen_ok,Instr.sureAddr,Sem.run_pure,dE (P:=P) (w:=w) (isSlice:=false) hb (a09 _) hlo hlon hhi hhin,aX w hs]
   by_cases hkl:n=l
   ·rw[if_pos hkl];have:Nat.beq n l=true:=by rw[hkl];exact a0Z l
    rw[this];exact .sliceC b o _ _ l0 hμ hopn
   rw[if_neg hkl];have:Nat.beq n l=false:=by
    cases hq:Nat.beq n l with
    |false=>rfl
    |true=>exact absurd (a07 hq) hkl
   rw[this,cN,a1s];exact .sliceC b (o+l*sz) _ _ l0 hμ hopn
  cases hv
 cases hv
theorem slice_sound{t:TypeId}{x x':Value}{lo hi mx lo' hi' mx':Option Value}{r:AN}(h:WRel μ H w)(hx:VRel μ x x')
  (hlo: ∀v,lo=some v->∃v',lo'=some v'/\VRel μ v v') (hlon:lo=none->lo'=none)
  (hhi: ∀v,hi=some v->∃v',hi'=some v'/\VRel μ v v') (hhin:hi=none->hi'=none) (hmx:mx=none->mx'=none)
  (ho:ovl (bx P t x lo hi mx H) H=some (r,H')):OpOK P μ H w (do Pure.pure (.value (←Instr.sliceAt t x' lo' hi' mx'))) r H':=by
 obtain⟨v,v',rfl,rfl,hrun,hr⟩:=jA (P:=P) h hx hlo hlon hhi hhin hmx ho
 exact OpOK.value hrun (Post.refl h) hr
theorem lenA_run{x x':Value}{m:Nat}(h:lenA x=some m)(hx:VRel μ x x'):(Builtin.lenOf x').run P w= .ok m w:=by
 unfold lenA at h;split at h
 ·injection h with h;subst h;rename_i a n k;obtain⟨a',k',rfl,_⟩:=cU hx;rfl
 ·rename_i s;injection h with h;subst h;obtain rfl:=hx.string_inv;rw[bT];simp[Builtin.lenOf]
 cases h
theorem dO{x x':Value}{sz m:Nat}{vs:List Value}(h:WRel μ H w)(hx:VRel μ x x')(hl: ∃m0,lenA x=some m0/\m<=m0)(hf:eN H sz m x=some vs):
  ∃vs',(Builtin.firstCells sz m x').run P w= .ok ⟨vs'⟩ w/\LRel μ vs vs'/\vs.length=m*sz:=by
 unfold eN at hf
 split at hf
 ·rename_i a n k;obtain⟨b,o,sp⟩:=a;have hsp:sp=none:=hx.slice_some.1;subst hsp;cases hq:Nat.beq m 0 with
  |true=>
   rw[hq]at hf
   simp only[cond_true,a00]at hf;subst hf
   have hm:m=0:=a07 hq
   subst hm
   obtain⟨_,a',k',rfl⟩:=hx.slice_some
   exact⟨[],by simp[Builtin.firstCells,loadCells,loadCellsFrom],.nil,by simp⟩
  |false=>
   rw[hq]at hf
   simp only[cond_false]at hf
   have hm:m≠0:=fun e=>by subst e;cases hq
   obtain⟨m0,hm0,hle⟩:=hl
   simp only[lenA,a00]at hm0;subst hm0
   obtain⟨l,hμ,hc⟩:=hx.slice_inv
   obtain⟨vs',hrun,hr,hlen⟩:=gv (P:=P) h hμ hf
   rcases hc with⟨_,rfl⟩|⟨e',o',k',_,rfl,hnk,_,hoff,_⟩|⟨hz,_,_⟩
   rotate_right
   ·omega
   ·exact⟨vs',by simp only[Builtin.firstCells,hrun],hr,hlen⟩
   rw[hoff (by omega)]
   exact⟨vs',by simp only[Builtin.firstCells,hrun],hr,hlen⟩
 ·rename_i n k;cases hq:Nat.beq m 0 with
  |false=>rw[hq]at hf;cases hf
  |true=>
   rw[hq]at hf
   simp only[cond_true,a00]at hf;subst hf
   have hm:m=0:=a07 hq
   subst hm
   obtain⟨_,_,rfl⟩:=hx.sliceNil_inv
   exact⟨[],by simp[Builtin.firstCells],.nil,by simp⟩
 ·rename_i s;cases hq:Nat.beq sz 1 with
  |false=>rw[hq]at hf;cases hf
  |true=>
   rw[hq]at hf
   simp only[cond_true,a00,jL,ce]at hf;subst hf
   have hs:sz=1:=a07 hq
   subst hs
   obtain rfl:=hx.string_inv
   obtain⟨m0,hm0,hle⟩:=hl
   simp only[lenA,bT,a00]at hm0;subst hm0
   refine⟨(s.data.toList.take m).map fun b=> .int .u8 b.toNat,?_,LRel.refl0 ?_,?_⟩
   ·simp only[Builtin.firstCells,Sem.run_pure,dD];congr 1;apply Array.ext';simp
   ·rw[a0w];intro u hu;obtain⟨c,_,rfl⟩:=a0r.1 hu;rfl
   simp at hle⊢;omega
 cases hf
theorem growBy_le(newLen:Nat): ∀(r c:Nat),c<=newLen+(newLen+768)/4->Builtin.growBy newLen r c<=newLen+(newLen+768)/4
 |0,c,h=>h
 |r+1,c,h=>by
  simp only[Builtin.growBy];split
  ·exact h
  exact growBy_le newLen r _ (by omega)
theorem nextcap_le{n k:Nat}(h:k<n):Builtin.nextslicecap n k<=2*n+768:=by
 unfold Builtin.nextslicecap;split
 ·omega
 split
 ·omega
 have:=growBy_le n 4 k (by omega);omega
theorem cZ{z:Array Value}{sz:Nat}(h:z.size=sz)(n:Nat):(Builtin.zeroCells z n).toList.length=n*sz:=by simp[Builtin.zeroCells,h]
theorem gS{st xt ty e:TypeId}{xd:TypeDesc}{x':Value}{base:Option Addr}{n m k sz:Nat}{i:TypeInfo}{z:Value}{old new:List Value}
  (hu:P.underlying st=some (.slice e)) (hux:P.underlying xt=some xd) (hni: ∀kk,xd≠ .int kk) (hi:P.info? e=some i) (hs:i.size=sz) (hz:i.zero=some z)
  (hlen:(Builtin.lenOf x').run P w= .ok m w) (hlt:k<n+m) (h31:n+m<=2147483648) (hby:i.bytes<=4096)
  (hold:(Builtin.firstCells sz n (.slice base n k)).run P w.drew= .ok ⟨old⟩ w.drew) (hnew:(Builtin.firstCells sz m x').run P w.drew= .ok ⟨new⟩ w.drew):
  ∃nc,n+m<=nc/\(Builtin.append_ #[st,xt] ty #[.slice base n k,x']).run P w=
   .ok (.slice (some ⟨w.heap.size,0,none⟩) (n+m) nc) (w.drew.alloc (.cells (⟨old⟩++⟨new⟩++Builtin.zeroCells z.cells (nc-(n+m))) e)):=by
 have hss:dw P e=some sz:=by unfold dw;rw[hi,←hs]
 have hcap:=nextcap_le hlt
 have hnot: ¬(Builtin.nextslicecap (n+m) k*i.bytes>2^48):=by
  have:Builtin.nextslicecap (n+m) k*i.bytes<=(2*2147483648+768)*4096:=Nat.mul_le_mul (by omega) hby;have h48:(2:Nat)^48=281474976710656:=by decide
  omega
 have h63: ¬(((n+m:Nat):Int)>IntKind.i64.max/\(False\/i.bytes=0)):=by rw[IntKind.max_i64];omega
 refine⟨(Question.appendCap (n+m) k e).cut (w.tape w.drawn (.appendCap (n+m) k e)),by simp[Question.cut],?_⟩
 have hm1:(match xd with| .int _=>true|_=>false)=false:=by cases xd<;>first|rfl|exact absurd rfl (hni _)
 have e1: ∀a b:Value,(#[a,b]:Array Value)[0]?=some a/\(#[a,b]:Array Value)[1]?=some b:=fun a b=>⟨rfl,rfl⟩
 unfold Builtin.append_
 simp only[show(#[st,xt]:Array TypeId)[0]?=some st from rfl,show(#[st,xt]:Array TypeId)[1]?=some xt from rfl,
  show(#[Value.slice base n k,x']:Array Value)[0]?=some (Value.slice base n k) from rfl,show(#[Value.slice base n k,x']:Array Value)[1]?=some x' from rfl,
  Sem.run_bind,ae w hu,ae w hux,Result.andThen_ok,aX w hss,Sem.run_pure,a0K,if_false,hlen,
  show ¬(n+m<=k) by omega,d3 w hi,hnot,h63]
 simp only[Sem.run_bind,run_choose,Question.forced,a0K,if_false,Result.andThen_ok,World.drew_eq,d3 w.drew hi,run_askRoom,hold,hnew,a1C,if_true,
  de w.drew hi hz,newRow,run_newObj,Sem.run_pure]
 rfl
theorem fb{st xt ty e:TypeId}{xd:TypeDesc}{x':Value}{base:Option Addr}{n m k sz:Nat}{new:List Value}{w':World}
  (hu:P.underlying st=some (.slice e)) (hux:P.underlying xt=some xd) (hni: ∀kk,xd≠ .int kk) (hs:dw P e=some sz)
  (hlen:(Builtin.lenOf x').run P w= .ok m w) (hle:n+m<=k) (hnew:(Builtin.firstCells sz m x').run P w= .ok ⟨new⟩ w)
  (hst: ∀a,base=some a->(storeCells (a.add (n*sz)) new).run P w= .ok () w') (hno:base=none->w'=w):
  (Builtin.append_ #[st,xt] ty #[.slice base n k,x']).run P w= .ok (.slice base (n+m) k) w':=by
 have hm1:(match xd with| .int _=>true|_=>false)=false:=by cases xd<;>first|rfl|exact absurd rfl (hni _)
 unfold Builtin.append_
 simp only[show(#[st,xt]:Array TypeId)[0]?=some st from rfl,show(#[st,xt]:Array TypeId)[1]?=some xt from rfl,
  show(#[Value.slice base n k,x']:Array Value)[0]?=some (Value.slice base n k) from rfl,show(#[Value.slice base n k,x']:Array Value)[1]?=some x' from rfl,
  Sem.run_bind,ae w hu,ae w hux,Result.andThen_ok,aX w hs,Sem.run_pure,a0K,if_false,hlen,hle,if_true,a1C,hnew]
 cases base with
 |none=>rw[hno rfl];rfl
 |some a=>simp only[Sem.run_bind,hst a rfl,Result.andThen_ok,Sem.run_pure]
theorem Post.kill(h:WRel μ H w){b:Nat}{l:Loc}{o:AObj}(hb:μ b=some l)(ho:H.get b=some o)(hr:o.rw=true):Post μ H w μ (H.put b .dead) w:=by
 refine⟨fun _ _ h=>h,fun _ _ h=> .inl h,a09 _,rfl,rfl,rfl,fun _ _ _=>rfl,fun k x ox hk hox hrx=>?_,⟨fun k x ox hk hox=>?_,fun b1 b2 l1 l2 o1 o2 hne hb1 hb2 ho1 ho2 hr1 hr2=>?_⟩⟩
 ·by_cases e:b=k
  ·subst e;exact .inr ⟨b,l,o,hb,ho,gh hr,fun _=>hr,by rw[hb]at hk;injection hk with hk;rw[hk]⟩
  rw[Heap.get_put_ne H _ e]at hox;exact .inr ⟨k,x,ox,hk,hox,hrx,id,rfl⟩
 ·by_cases e:b=k
  ·subst e;rw[Heap.get_put_same]at hox;injection hox with hox;subst hox;trivial
  rw[Heap.get_put_ne H _ e]at hox;exact h.obj k x ox hk hox
 have old: ∀k ok,ok.live=true->(H.put b .dead).get k=some ok->H.get k=some ok:=by
  intro k ok hlv hok;by_cases e:b=k
  ·subst e;rw[Heap.get_put_same]at hok;injection hok with hok;subst hok;simp[AObj.live]at hlv
  rw[Heap.get_put_ne H _ e]at hok;exact hok
 exact h.inj b1 b2 l1 l2 o1 o2 hne hb1 hb2 (old b1 o1 (by cases o1<;>simp_all[AObj.rw,AObj.live]) ho1) (old b2 o2 hr2 ho2) hr1 hr2
theorem szOf_info{e:TypeId}{s:Nat}(h:dw P e=some s): ∃i,P.info? e=some i/\i.size=s:=by
 unfold dw at h;split at h
 ·rename_i i hi;injection h with h;exact⟨i,hi,h⟩
 cases h
theorem dP(a b:List Value)(c:Array Value):(⟨a⟩++⟨b⟩++c:Array Value)=⟨(a++b)++c.toList⟩:=by apply Array.ext';simp
theorem append_sound{types:Array TypeId}{ty:TypeId}{s x s' x' v:Value}(h:WRel μ H w)(hf: ∀b,H.next<=b->b<H'.next->μ b=none)
  (hs:VRel μ s s') (hx:VRel μ x x') (htypes:types.size=2) (ho:fh P types s x H=some (v,H')):
  ∃v' w' μ',(Builtin.append_ types ty #[s',x']).run P w= .ok v' w'/\Post μ H w μ' H' w'/\VRel μ' v v':=by
 obtain⟨tl⟩:=types
 match tl,htypes with
 | [st,xt],_=>
 unfold fh at ho
 simp only[show(#[st,xt]:Array TypeId)[0]?=some st from rfl,show(#[st,xt]:Array TypeId)[1]?=some xt from rfl]at ho
 split at ho
 ·rename_i e xd hu hux;split at ho
  ·cases ho
  rename_i hni;split at ho
  ·rename_i sz by_ z m hsz hby hz hm;obtain⟨i,vz,hi,hvz,hvc,hall⟩:=eb (P:=P) hz;obtain⟨i2,hi2,hbb⟩:=iP hby;rw[hi]at hi2;injection hi2 with hi2;subst hi2;obtain⟨i3,hi3,hss⟩:=szOf_info hsz;rw[hi]at hi3;injection hi3 with hi3;subst hi3;have hlen:(Builtin.lenOf x').run P w= .ok m w:=lenA_run hm hx;split at ho
   ·cases ho
   rename_i new hnew;obtain⟨new',hnrun,hnrel,hnlen⟩:=dO (P:=P) h hx ⟨m,hm,a09 _⟩ hnew;obtain⟨new2,hnrun2,hnrel2,_⟩:=dO (P:=P) h.drew hx ⟨m,hm,a09 _⟩ hnew;split at ho
   ·--nil
    obtain rfl:=hs.eq0 rfl;cases hq:Nat.beq m 0 with
    |true=>
     rw[hq]at ho
     simp only[cond_true,a00,a03]at ho
     obtain⟨rfl,rfl⟩:=ho
     have hm0:m=0:=a07 hq
     subst hm0
     exact⟨_,w,μ,fb (w':=w) hu hux (fun kk=>hni kk) hsz hlen (a09 _) hnrun (fun a ha=>by cases ha) (fun _=>rfl),Post.refl h,.atom _ rfl⟩
    |false=>
     rw[hq]at ho
     simp only[cond_false]at ho
     have hm0:m≠0:=fun e=>by subst e;cases hq
     cases hq2:(Nat.beq (hP z) sz&&Nat.ble m 2147483648&&Nat.ble by_ 4096&& !Nat.beq sz 0) with
     |false=>rw[hq2]at ho;cases ho
     |true=>
      rw[hq2]at ho
      simp only[cond_true,a00,a03]at ho
      obtain⟨rfl,rfl⟩:=ho
      simp only[a0d,a0G]at hq2
      obtain⟨⟨⟨q1,q2⟩,q3⟩,q4⟩:=hq2
      have q1:z.length=sz:=by rw[←bT];exact a07 q1
      have q2:=a06 q2
      have q3:=a06 q3
      obtain⟨nc,hnc,hrun⟩:=gS (P:=P) (w:=w) (ty:=ty) (base:=none) (n:=0) (k:=0) (old:=[]) hu hux (fun kk=>hni kk) hi hss hvz hlen (by omega) (by omega) (by omega) (by simp[Builtin.firstCells]) hnrun2
      simp only[a1t]at hrun hnc
      rw[dP,a11]at hrun
      obtain⟨l,h1,h2,h3,h4,_,hp⟩:=cT (P:=P) h.drew (hf H.next (a09 _) (by simp[aS])) e hnrel2 (Builtin.zeroCells vz.cells (nc-m)).toList (some sz) (fun e=>by cases e)
      refine⟨_,_,_,hrun,(Post.drew h).trans hp (a09 _) (by simp[aS]),?_⟩
      have:=VRel.sliceO (μ:=μ.set H.next l) H.next 0 0 m m nc sz l (Emb.set_same _ _ _) h3 (a09 _) hnc (fun _=>by omega) (by
       rw[h4,cZ (show vz.cells.size=sz by rw[←q1,←hvc];simp),hnlen,a1t,←a10];exact a0z _ (by omega))
      rw[h1]at this;exact this
   ·--a slice
    rename_i b o n k;obtain⟨l,hμ,hc⟩:=hs.slice_inv;split at ho
    ·rename_i cs opn ro hg;have hopn:l.opn=opn:=by
      have:=h.obj b l _ hμ hg;cases ro
      ·exact this.1
      exact this.1
     cases hq:Nat.ble (n+m) k with
     |true=>
      rw[hq]at ho
      simp only[cond_true]at ho
      have hle:n+m<=k:=a06 hq
      cases hq0:Nat.beq m 0 with
      |true=>
       rw[hq0]at ho
       simp only[cond_true,a00,a03]at ho
       obtain⟨rfl,rfl⟩:=ho
       have hm0:m=0:=a07 hq0
       subst hm0
       have hn':new'=[]:=a0s (by rw[←hnrel.1,hnlen];simp)
       subst hn'
       rcases hc with⟨ho0,rfl⟩|⟨e',o',k',ho0,rfl,hnk,hkk,hoff,hbd⟩|⟨rfl,rfl,a',rfl⟩
       rotate_right
       ·exact⟨_,w,μ,fb (w':=w) hu hux (fun kk=>hni kk) hsz hlen hle hnrun (fun a ha=>rfl) (fun e=>by cases e),Post.refl h,hs⟩
       ·exact⟨_,w,μ,fb (w':=w) hu hux (fun kk=>hni kk) hsz hlen hle hnrun (fun a ha=>rfl) (fun e=>by cases e),Post.refl h,hs⟩
       exact⟨_,w,μ,fb (w':=w) hu hux (fun kk=>hni kk) hsz hlen (by omega) hnrun (fun a ha=>rfl) (fun e=>by cases e),Post.refl h,hs⟩
      |false=>
       rw[hq0]at ho
       simp only[cond_false]at ho
       have hm0:m≠0:=fun e=>by subst e;cases hq0
       split at ho
       ·rename_i h1 hst;simp only[a00,a03]at ho;obtain⟨rfl,rfl⟩:=ho;obtain⟨w',hrun,hp⟩:=fu (P:=P) h hμ hst hnrel;rcases hc with⟨ho0,rfl⟩|⟨e',o',k',ho0,rfl,hnk,hkk,hoff,hbd⟩|⟨rfl,rfl,a',rfl⟩
        rotate_right
        ·omega
        ·refine⟨_,w',μ,fb (w':=w') hu hux (fun kk=>hni kk) hsz hlen hle hnrun (fun a ha=>?_) (fun e=>by cases e),hp,.sliceC b o _ _ l hμ ho0⟩;injection ha with ha;subst ha;rw[cN,a1s];exact hrun
        refine⟨_,w',μ,fb (w':=w') hu hux (fun kk=>hni kk) hsz hlen (by omega) hnrun (fun a ha=>?_) (fun e=>by cases e),hp,.sliceO b o o' _ _ _ e' l hμ ho0 hle hkk hoff hbd⟩;injection ha with ha;subst ha;rw[cN,hoff (by omega),a1s];exact hrun
       cases ho
     |false=>
      rw[hq]at ho
      simp only[cond_false]at ho
      have hlt:k<n+m:=by
       rcases a0j k (n+m) with h'|h'
       ·exact h'
       rw[a0v h']at hq;cases hq
      cases hq2:(Nat.beq (hP z) sz&&Nat.ble (n+m) 2147483648&&Nat.ble by_ 4096&& !Nat.beq sz 0&&Nat.ble n k) with
      |false=>rw[hq2]at ho;cases ho
      |true=>
       rw[hq2]at ho
       simp only[cond_true]at ho
       simp only[a0d,a0G]at hq2
       obtain⟨⟨⟨⟨q1,q2⟩,q3⟩,q4⟩,q5⟩:=hq2
       have q1:z.length=sz:=by rw[←bT];exact a07 q1
       have q2:=a06 q2
       have q3:=a06 q3
       have q5:=a06 q5
       have q4':sz≠0:=fun e=>by rw[e]at q4;cases q4
       have hvsz:vz.cells.size=sz:=by rw[←q1,←hvc];simp
       split at ho
       ·cases ho
       rename_i old hold
       obtain⟨old',horun,horel,holen⟩:=dO (P:=P) h hs ⟨n,rfl,a09 _⟩ hold
       obtain⟨old2,horun2,horel2,_⟩:=dO (P:=P) h.drew hs ⟨n,rfl,a09 _⟩ hold
       split at ho
       ·--exact
        simp only[a00,a03]at ho;obtain⟨rfl,rfl⟩:=ho;rcases hc with⟨ho0,rfl⟩|⟨e',o',k',ho0,rfl,_⟩|⟨rfl,rfl,a',rfl⟩
        rotate_right
        ·obtain⟨nc,hnc,hrun⟩:=gS (P:=P) (w:=w) (ty:=ty) hu hux (fun kk=>hni kk) hi hss hvz hlen hlt q2 (by omega) horun2 hnrun2;rw[dP]at hrun;obtain⟨l',h1,h2,h3,h4,_,hp⟩:=cT (P:=P) h.drew (hf H.next (a09 _) (by simp[aS])) e (horel2.append hnrel2) (Builtin.zeroCells vz.cells (nc-(0+m))).toList (some sz) (fun e=>by cases e);rw[dF];refine⟨_,_,_,hrun,(Post.drew h).trans hp (a09 _) (by simp[aS]),?_⟩;have:=VRel.sliceO (μ:=μ.set H.next l') H.next 0 0 (0+m) (0+m) nc sz l' (Emb.set_same _ _ _) h3 (a09 _) hnc (fun _=>by omega) (by
          rw[h4,cZ hvsz,a05,holen,hnlen,a1t,←a10,←a10];exact a0z _ (by omega))
         rw[h1]at this;exact this
        ·obtain⟨nc,hnc,hrun⟩:=gS (P:=P) (w:=w) (ty:=ty) hu hux (fun kk=>hni kk) hi hss hvz hlen hlt q2 (by omega) horun2 hnrun2;rw[dP]at hrun;obtain⟨l',h1,h2,h3,h4,_,hp⟩:=cT (P:=P) h.drew (hf H.next (a09 _) (by simp[aS])) e (horel2.append hnrel2) (Builtin.zeroCells vz.cells (nc-(n+m))).toList (some sz) (fun e=>by cases e);rw[dF];refine⟨_,_,_,hrun,(Post.drew h).trans hp (a09 _) (by simp[aS]),?_⟩;have:=VRel.sliceO (μ:=μ.set H.next l') H.next 0 0 (n+m) (n+m) nc sz l' (Emb.set_same _ _ _) h3 (a09 _) hnc (fun _=>by omega) (by
          rw[h4,cZ hvsz,a05,holen,hnlen,a1t,←a10,←a10];exact a0z _ (by omega))
         rw[h1]at this;exact this
        rw[hopn]at ho0;cases ho0
       ·--open
        rename_i ez;cases hq3:(Nat.beq ez sz&& !ro&&allL Value.oneCell' new) with
        |false=>rw[hq3]at ho;cases ho
        |true=>
         rw[hq3]at ho
         simp only[cond_true,a00,a03]at ho
         obtain⟨rfl,rfl⟩:=ho
         simp only[a0d,a0G]at hq3
         obtain⟨⟨q6,q7⟩,q8⟩:=hq3
         have q6:ez=sz:=a07 q6
         subst q6 q7
         rcases hc with⟨ho0,rfl⟩|⟨e',o',k',ho0,rfl,hnk,hkk,hoff,hbd⟩|⟨rfl,rfl,a',rfl⟩
         rotate_right
         ·have hfn:μ H.next=none:=hf H.next (a09 _) (by simp[aS]);obtain⟨nc,hnc,hrun⟩:=gS (P:=P) (w:=w) (ty:=ty) hu hux (fun kk=>hni kk) hi hss hvz hlen (by omega) q2 (by omega) horun2 hnrun2;rw[dP]at hrun;have hk:=Post.kill h hμ hg rfl;obtain⟨l',h1,h2,h3,h4,_,hp⟩:=cT (P:=P) (H:=H.put b .dead) hk.wrel.drew hfn e (horel2.append hnrel2) (Builtin.zeroCells vz.cells (nc-(0+m))).toList (some ez) (fun e=>by cases e);rw[dF];refine⟨_,_,_,hrun,(hk.trans (Post.drew hk.wrel) (a09 _) (a09 _)).trans hp (a09 _) (by simp[aS]),?_⟩;have:=VRel.sliceO (μ:=μ.set H.next l') H.next 0 0 (0+m) (0+m) nc ez l' (Emb.set_same _ _ _) h3 (a09 _) hnc (fun _=>by omega) (by
           rw[h4,cZ hvsz,a05,holen,hnlen,a1t,←a10,←a10];exact a0z _ (by omega))
          rw[h1]at this;exact this
         ·rw[hopn]at ho0;cases ho0
         rw[hopn]at ho0;injection ho0 with ho0;subst ho0
         have hfn:μ H.next=none:=hf H.next (a09 _) (by simp[aS])
         by_cases hin:n+m<=k'
         ·--in place
          obtain⟨r1,ccs,et,hh,r2,r3,r4⟩:=h.obj b l _ hμ hg;have hnl:new'.length=m*ez:=by rw[←hnrel.1];exact hnlen
          have hmm:m≠0:=by omega
          have hne:new'≠ []:=fun e=>by rw[e]at hnl;have:=Nat.mul_eq_zero.1 hnl.symm;omega
          have hall2:new'.all Value.oneCell'=true:=by
           rw[a0w];intro u hu';obtain⟨j,hj⟩:=List.getElem?_of_mem hu';have hj':j<new.length:=by rw[hnrel.1];exact(a0u.1 hj).1
           have hr:=hnrel.2 j new[j] u (a04 hj') hj;rw[hr.oneCell];rw[lS]at q8;exact a0w.1 q8 _ (a1w hj')
          have hbd2:o'+n*ez+new'.length<=ccs.size:=by rw[hnl,r2];have:(n+m)*ez<=k'*ez:=a0z _ hin;rw[a10]at this;omega
          have hstore:=df (P:=P) l.c et new' w ccs (o'+n*ez) 0 hh (by omega) hall2 hne;simp only[a2g]at hstore;have hlsp:(bp ccs.toList (o'+n*ez) new').length=ccs.size:=by rw[bY _ _ _ (by simpa using hbd2)];simp
          have hpost:=Post.take h hμ hg rfl hfn ⟨l.c,o',some ez,l.csz⟩ rfl (.cells (appL old new) (some ez) false) (.cells ⟨bp ccs.toList (o'+n*ez) new'⟩ et (0,0)) (by
           refine⟨rfl,_,et,bH w _ (bW hh),by show(bp ccs.toList (o'+n*ez) new').length=_;rw[hlsp,r2],?_,fun j u hj=>?_⟩
           ·rw[dF,a05,holen,hnlen];show o'+_<=l.csz;rw[←r2];rw[hnl]at hbd2;omega
           rw[dF]at hj;have mg: ∀v':Value,(bp ccs.toList (o'+n*ez) new')[o'+j]?=some v'->(Array.mk (bp ccs.toList (o'+n*ez) new'))[o'+j]?=some v':=fun v' hv=>(jK _ _).trans hv
           rw[bA _ _ _ _ (by simpa using hbd2)]at mg;by_cases hjn:j<n*ez
           ·rw[a0S (by omega)]at hj;rw[if_neg (by omega)]at mg;have hn0:n≠0:=fun e=>by subst e;simp at hjn
            unfold eN at hold;have hbn:Nat.beq n 0=false:=by
             cases hb0:Nat.beq n 0 with
             |false=>rfl
             |true=>exact absurd (a07 hb0) hn0
            rw[hbn]at hold;simp only[cond_false,Heap.loadN,hg,ce,ct,bT]at hold;cases hb1:Nat.beq ((cs.drop o).take (n*ez)).length (n*ez) with
            |false=>rw[hb1]at hold;cases hold
            |true=>
             rw[hb1]at hold
             simp only[cond_true,a00]at hold
             rw[←hold,a0y,if_pos hjn,a0J]at hj
             obtain⟨u',hu',hr⟩:=r4 (o+j) u hj
             refine⟨u',mg u' ?_,hr.mono (Emb.set_ext _ hfn)⟩
             have:o'+j=l.sh+(o+j):=by have:=hoff (by omega);omega
             rw[this];simpa using hu'
           rw[a17 (by omega),holen]at hj;obtain⟨u',hu',hr⟩:=hnrel.get hj;have hjl:j-n*ez<new'.length:=(a0u.1 hu').1;rw[if_pos (by omega)]at mg;exact⟨u',mg u' (by rw[←hu'];congr 1;omega),hr.mono (Emb.set_ext _ hfn)⟩)
          refine⟨.slice (some ⟨l.c,o',none⟩) (n+m) k',_,_,fb (w':=bd w l.c (.cells ⟨bp ccs.toList (o'+n*ez) new'⟩ et (0,0))) hu hux (fun kk=>hni kk) hsz hlen hin hnrun (fun a ha=>?_) (fun e=>by cases e),hpost,?_⟩
          ·injection ha with ha;subst ha;rw[cN];exact hstore
          exact VRel.sliceO (μ:=μ.set H.next ⟨l.c,o',some ez,l.csz⟩) H.next 0 o' (n+m) (n+m) k' ez ⟨l.c,o',some ez,l.csz⟩ (Emb.set_same _ _ _) rfl (a09 _) hin (fun _=>rfl) hbd
         ·--a new row
          obtain⟨nc,hnc,hrun⟩:=gS (P:=P) (w:=w) (ty:=ty) hu hux (fun kk=>hni kk) hi hss hvz hlen (by omega) q2 (by omega) horun2 hnrun2;rw[dP]at hrun;have hk:=Post.kill h hμ hg rfl;obtain⟨l',h1,h2,h3,h4,_,hp⟩:=cT (P:=P) (H:=H.put b .dead) hk.wrel.drew hfn e (horel2.append hnrel2) (Builtin.zeroCells vz.cells (nc-(n+m))).toList (some ez) (fun e=>by cases e);rw[dF];refine⟨_,_,_,hrun,(hk.trans (Post.drew hk.wrel) (a09 _) (a09 _)).trans hp (a09 _) (by simp[aS]),?_⟩;have:=VRel.sliceO (μ:=μ.set H.next l') H.next 0 0 (n+m) (n+m) nc ez l' (Emb.set_same _ _ _) h3 (a09 _) hnc (fun _=>by omega) (by
           rw[h4,cZ hvsz,a05,holen,hnlen,a1t,←a10,←a10];exact a0z _ (by omega))
          rw[h1]at this;exact this
    cases ho
   cases ho
  cases ho
 cases ho
end
end Go.R
namespace Go.R
section
variable {P:Program} {μ:Emb} {H H':Heap} {w:World}
theorem copy_sound{types:Array TypeId}{ty:TypeId}{d s d' s' v:Value}(h:WRel μ H w)(hd:VRel μ d d')(hs:VRel μ s s')(ho:lW P types d s H=some (v,H')):
  ∃v' w',(Builtin.copy_ types ty #[d',s']).run P w= .ok v' w'/\Post μ H w μ H' w'/\VRel μ v v':=by
 unfold lW at ho
 split at ho
 ·rename_i dt hdt;split at ho
  ·rename_i e base dn dk m hu hm;split at ho
   ·rename_i sz hsz;simp only at ho;obtain⟨base',dk',rfl,hbn⟩:=cU hd;have hlen:(Builtin.lenOf s').run P w= .ok m w:=lenA_run hm hs;cases hq:Nat.beq (Nat.min m dn) 0 with
    |true=>
     rw[hq]at ho
     simp only[cond_true,a00,a03]at ho
     obtain⟨rfl,rfl⟩:=ho
     have h0:Nat.min m dn=0:=a07 hq
     refine⟨_,w,?_,Post.refl h,.atom (goInt 0) rfl⟩
     have hfc:(Builtin.firstCells sz 0 s').run P w= .ok #[] w:=by
      unfold lenA at hm;split at hm
      ·rename_i a n k;obtain⟨a',k',rfl,_⟩:=cU hs;cases a'<;>simp[Builtin.firstCells,loadCells,loadCellsFrom]
      ·rename_i u;obtain rfl:=hs.string_inv;simp only[Builtin.firstCells,Sem.run_pure,dD];congr 1;simp
      cases hm
     unfold Builtin.copy_
     simp only[hdt,show(#[Value.slice base' dn dk',s']:Array Value)[0]?=some (Value.slice base' dn dk') from rfl,show(#[Value.slice base' dn dk',s']:Array Value)[1]?=some s' from rfl,
      Sem.run_bind,ae w hu,Result.andThen_ok,hlen,aX w hsz,h0,hfc]
     cases base'<;>simp[storeCells]
    |false=>
     rw[hq]at ho
     simp only[cond_false]at ho
     split at ho
     ·rename_i l a hl;split at ho
      ·rename_i H1 hst;simp only[a00,a03]at ho;obtain⟨rfl,rfl⟩:=ho;obtain⟨b,o,sp⟩:=a;have hsp:sp=none:=hd.slice_some.1;subst hsp;obtain⟨vs',hfr,hfrel,hflen⟩:=dO (P:=P) h hs ⟨m,hm,Nat.min_le_left _ _⟩ hl;obtain⟨l0,hμ,hc⟩:=hd.slice_inv;have h0:Nat.min m dn≠0:=fun e=>by rw[e]at hq;cases hq
       have hdn:0<dn:=by
        rcases a1F dn with e|e
        ·exfalso;apply h0;rw[e];exact Nat.min_zero _
        exact e
       obtain⟨w',hrun,hp⟩:=fu (P:=P) h hμ hst hfrel;have hb':base'=some ⟨l0.c,l0.sh+o,none⟩:=by
        rcases hc with⟨_,he⟩|⟨e',o',k',_,he,hnk,_,hoff,_⟩|⟨hz,_,_⟩
        rotate_right
        ·omega
        ·injection he with he
        injection he with he _ _;rw[he,hoff (by omega)]
       subst hb';refine⟨goInt (Nat.min m dn:Nat),w',?_,hp,.atom _ rfl⟩;unfold Builtin.copy_;simp only[hdt,show(#[Value.slice (some ⟨l0.c,l0.sh+o,none⟩) dn dk',s']:Array Value)[0]?=some (Value.slice (some ⟨l0.c,l0.sh+o,none⟩) dn dk') from rfl,
        show(#[Value.slice (some ⟨l0.c,l0.sh+o,none⟩) dn dk',s']:Array Value)[1]?=some s' from rfl,
        Sem.run_bind,ae w hu,Result.andThen_ok,hlen,aX w hsz,hfr,hrun,Sem.run_pure]
      cases ho
     cases ho
   cases ho
  cases ho
 cases ho
theorem len_sound{t ty:TypeId}{x x' v:Value}(h:WRel μ H w)(hx:VRel μ x x')(ho:aLen P t x H=some v):
  (Builtin.len_ #[t] ty #[x']).run P w= .ok v w/\noA0 v=true:=by
 unfold aLen at ho
 split at ho
 ·rename_i e a n k hu;injection ho with ho;subst ho;obtain⟨a',k',rfl,_⟩:=cU hx;exact⟨by simp[Builtin.len_,ae w hu],rfl⟩
 ·rename_i s hu;injection ho with ho;subst ho;obtain rfl:=hx.string_inv;exact⟨by simp[Builtin.len_,ae w hu,bT],rfl⟩
 ·rename_i k e hu;injection ho with ho;subst ho;obtain rfl:=hx.mapNil_inv;exact⟨by simp[Builtin.len_,ae w hu],rfl⟩
 ·rename_i k e r hu;split at ho
  ·rename_i es hg;injection ho with ho;subst ho;obtain⟨l,hμ,rfl⟩:=hx.map_inv;obtain⟨ces,clock,hh,hl,_⟩:=h.obj r l _ hμ hg;have hget:(getObj l.c).run P w= .ok (.map ces clock) w:=fN hh (by intros;simp);exact⟨by simp[Builtin.len_,ae w hu,hget,hl],rfl⟩
  cases ho
 cases ho
theorem fo: ∀(l:List Value) (r:List UInt8) (s:ByteArray),cC l=some r->
  (forIn (m:=Sem) l s (fun c s=>match c with
   | .int .u8 n=>Pure.pure (ForInStep.yield (s.push (UInt8.ofNat n.toNat)))
   |_=>do stuck "bytesToString: byte expected";Pure.pure (ForInStep.yield s))).run P w= .ok ⟨⟨s.data.toList++r⟩⟩ w
 | [],r,s,h=>by simp only[cC,a00]at h;subst h;simp
 |v::l,r,s,h=>by
  unfold cC at h;split at h
  ·rename_i heq;cases heq
  ·rename_i n l2 heq;injection heq with h1 h2;subst h1 h2;split at h
   ·rename_i r2 hr2;injection h with h;subst h;have ih:=fo l r2 (s.push (UInt8.ofNat n.toNat)) hr2;simp only[List.forIn_cons,Sem.run_bind,Sem.run_pure,Result.andThen_ok,ih];congr 3;simp
   cases h
  cases h
theorem er: ∀(l:List Value) (r:List UInt8),cC l=some r->l.all noA0=true
 | [],_,_=>rfl
 |v::l,r,h=>by
  unfold cC at h;split at h
  ·rename_i heq;cases heq
  ·rename_i n l2 heq;injection heq with h1 h2;subst h1 h2;split at h
   ·rename_i r2 hr2;simp only[a1i,noA0,a1x];exact er l r2 hr2
   cases h
  cases h
theorem lE{ρ ρ':Operand->Value}{o:Oper}{s d:TypeId}{x:Operand}{r:AN}(h:WRel μ H w)(hop:o.op= .convert s d x)(hρ: ∀x∈o.op.operands,VRel μ (ρ x) (ρ' x))
  (ho:ff P ρ o s d (ρ x) H=some (r,H')):OpOK P μ H w (execOp ρ' o) r H':=by
 have hx:VRel μ (ρ x) (ρ' x):=hρ x (by rw[hop];simp[Op.operands])
 have hexec:execOp ρ' o=(do Pure.pure (.value (←convert s d (ρ' x)))):=by unfold execOp;simp only[hop]
 unfold ff at ho
 split at ho
 ·rename_i k n hv;rw[hv]at hx;obtain⟨rfl,v,hv2,rfl⟩:=cj ho;unfold lF at hv2;split at hv2
  ·rename_i sd kd hus hud;injection hv2 with hv2;subst hv2;rw[hexec];refine OpOK.value (v':= .int kd (kd.wrap n)) ?_ (Post.refl h) (.atom _ rfl);rw[hx.int_inv];simp[convert,ae w hus,ae w hud,Conv.intToInt]
  cases hv2
 ·rename_i a n k hv;rw[hv]at hx;obtain⟨rfl,v,hv2,rfl⟩:=cj ho;rw[hexec];unfold fE at hv2;split at hv2
  ·rename_i e hus hud;split at hv2
   ·rename_i hue;split at hv2
    ·injection hv2 with hv2;subst hv2;obtain⟨_,_,hx'⟩:=hx.sliceNil_inv;refine OpOK.value (v':= .string .empty) ?_ (Post.refl h) (.atom _ rfl);rw[hx'];simp[convert,ae w hus,ae w hud,ae w hue,Conv.bytesToString]
    rename_i a;obtain⟨b,o2,sp⟩:=a;have hsp:sp=none:=hx.slice_some.1;subst hsp;cases hq:Nat.beq n 0 with
    |true=>
     rw[hq]at hv2
     simp only[cond_true,a00]at hv2;subst hv2
     have hn:n=0:=a07 hq
     subst hn
     obtain⟨_,a',k',hx'⟩:=hx.slice_some
     refine OpOK.value (v':= .string .empty) ?_ (Post.refl h) (.atom _ rfl)
     rw[hx']
     simp[convert,ae w hus,ae w hud,ae w hue,Conv.bytesToString,loadCells,loadCellsFrom]
    |false=>
     rw[hq]at hv2
     simp only[cond_false]at hv2
     have hn:n≠0:=fun e=>by subst e;cases hq
     split at hv2
     ·rename_i l hl;split at hv2
      ·rename_i rb hrb;injection hv2 with hv2;subst hv2;obtain⟨l0,hμ,hc⟩:=hx.slice_inv;obtain⟨vs',hrun,hrel,hlen⟩:=gv (P:=P) h hμ hl;have hvs:vs'=l:=hrel.eq0 (er l rb hrb);subst hvs;have hx': ∃k',ρ' x= .slice (some ⟨l0.c,l0.sh+o2,none⟩) n k':=by
        rcases hc with⟨_,he⟩|⟨e',o',k',_,he,hnk,_,hoff,_⟩|⟨hz,_,_⟩
        rotate_right
        ·exact absurd hz hn
        ·exact⟨k,he⟩
        rw[hoff (by omega)]at he;exact⟨k',he⟩
       obtain⟨k',hx'⟩:=hx';refine OpOK.value (v':= .string ⟨⟨rb⟩⟩) ?_ (Post.refl h) (.atom _ rfl);rw[hx'];have hb:=fo (P:=P) (w:=w) vs' rb .empty hrb;simp only[convert,Sem.run_bind,ae w hus,ae w hud,ae w hue,Result.andThen_ok,Conv.bytesToString,hrun];have he:((ByteArray.empty.data.toList++rb:List UInt8))=rb:=rfl;rw[he]at hb;simp only[←Array.forIn_toList]at*
       exact congrArg (fun r=>Result.andThen r fun a w'=>Sem.run P (Pure.pure (Value.string a)) w') hb
      cases hv2
     cases hv2
   cases hv2
  cases hv2
 obtain⟨rfl,v,v',rfl,hrun,hr⟩:=di ho (fun _ _=>by rw[hop];simp) hρ
 exact⟨.value v',w,μ,hrun w,Post.refl h,hr⟩
theorem dM{d:TypeDesc}{k:Value}(h:bP d k=true):noA0 k=true:=by unfold bP at h;split at h<;>first|rfl|cases h
theorem hJ(a b:ByteArray):(a==b)=dm a b:=by
 have e:(a==b)=(a.data==b.data):=by cases a;cases b;rfl
 rw[e,a0m];simp only[beq_iff_eq,dm];constructor
 ·intro h;rw[h]
 intro h;exact a1c.1 h
theorem bytesEq_iff{a b:ByteArray}(h:dm a b=true):a=b:=by simp only[dm,beq_iff_eq]at h;exact ByteArray.ext (a1c.1 h)
theorem g0(a:ByteArray):(a==a)=true:=by rw[hJ];simp[dm]
theorem sameNow_key{d:TypeDesc}{a b:Value}(ha:bP d a=true)(hb:bP d b=true):Instr.sameNow d a b=some (cO a b):=by
 unfold bP at ha hb;split at ha
 ·split at hb
  ·rename_i k k1 n _ _ k2 n2 heq;injection heq with e1;subst e1;simp only[beq_iff_eq]at ha hb;subst ha hb;simp[Instr.sameNow,cO]
  ·cases‹TypeDesc.int _=_›
  ·cases‹TypeDesc.int _=_›
  cases hb
 ·split at hb
  ·cases‹TypeDesc.string=_›
  ·simp[Instr.sameNow,cO,hJ]
  ·cases‹TypeDesc.string=_›
  cases hb
 ·split at hb
  ·cases‹TypeDesc.bool=_›
  ·cases‹TypeDesc.bool=_›
  ·simp[Instr.sameNow,cO]
  cases hb
 cases ha
def EntRel(μ:Emb)(es:List (Value×Value))(ces:List MapEntry):Prop:=
 es.length=ces.length/\∀(i:Nat) x y,es[i]?=some x->ces[i]?=some y->VRel μ x.1 y.key/\VRel μ x.2 y.val
theorem EntRel.cons_left{x:Value×Value}{es:List (Value×Value)}{ces:List MapEntry}(h:EntRel μ (x::es) ces):
  ∃y t,ces=y::t/\VRel μ x.1 y.key/\VRel μ x.2 y.val/\EntRel μ es t:=by
 cases ces with
 |nil=>have:=h.1;simp at this
 |cons y t=>
  obtain⟨h1,h2⟩:=h.2 0 x y rfl rfl
  exact⟨y,t,rfl,h1,h2,by have:=h.1;simpa using this,fun i a b ha hb=>h.2 (i+1) a b (by simpa using ha) (by simpa using hb)⟩
theorem EntRel.cons{x:Value×Value}{es:List (Value×Value)}{y:MapEntry}{ces:List MapEntry}(h1:VRel μ x.1 y.key)(h2:VRel μ x.2 y.val)(h:EntRel μ es ces):
  EntRel μ (x::es) (y::ces):=by
 refine⟨by simp[h.1],fun i a b ha hb=>?_⟩
 cases i with
 |zero=>simp at ha hb;subst ha hb;exact⟨h1,h2⟩
 |succ i=>exact h.2 i a b (by simpa using ha) (by simpa using hb)
theorem gw{d:TypeDesc}{k:Value}(hk:bP d k=true): ∀(es:List (Value×Value)) (ces:List MapEntry) (i:Nat),EntRel μ es ces->es.all (fun e=>bP d e.1)=true->
  (∃v v' j,eB d k es=some v/\Instr.findNow d k ces i=some (some (i+j,v'))/\VRel μ v v'/\j<ces.length/\
    (∃y,ces[j]?=some y/\cO k y.key=true/\bP d y.key=true)/\(∀u u',VRel μ u u'->EntRel μ (fk k u es) (ces.modify j fun e=>{e with key:=k,val:=u'})))\/
  (eB d k es=none/\Instr.findNow d k ces i=some none/\∀u u' b,VRel μ u u'->EntRel μ (fk k u es) (ces++[{key:=k,val:=u',born:=b}]))
 | [],ces,i,h,_=>by have:ces=[]:=a0s h.1.symm;subst this;refine .inr ⟨rfl,rfl,fun u u' b hu=>?_⟩;exact EntRel.cons (x:=(k,u)) (.atom k (dM hk)) hu ⟨rfl,fun i a b ha=>by simp at ha⟩
 |x::es,ces,i,h,hall=>by
  obtain⟨y,t,rfl,hxk,hxv,ht⟩:=h.cons_left;simp only[a1i,a0d]at hall;have hyk:y.key=x.1:=hxk.eq0 (dM hall.1);have hsn:Instr.sameNow d k y.key=some (cO k x.1):=by rw[hyk];exact sameNow_key hk hall.1
  cases hs:cO k x.1 with
  |true=>
   refine .inl ⟨x.2,y.val,0,?_,?_,hxv,by simp,⟨y,rfl,by rw[hyk];exact hs,by rw[hyk];exact hall.1⟩,fun u u' hu=>?_⟩
   ·simp only[eB,hs,cond_true]
   ·simp only[Instr.findNow,hsn,hs];rfl
   simp only[fk,hs,cond_true,List.modify_zero_cons]
   exact EntRel.cons (x:=(k,u)) (.atom k (dM hk)) hu ht
  |false=>
   rcases gw hk es t (i+1) ht hall.2 with⟨v,v',j,h1,h2,h3,h4,h5,h6⟩|⟨h1,h2,h3⟩
   ·refine .inl ⟨v,v',j+1,?_,?_,h3,by simpa using h4,?_,fun u u' hu=>?_⟩
    ·simp only[eB,hs,cond_false];exact h1
    ·simp only[Instr.findNow,hsn,hs];rw[h2];congr 3;omega
    ·obtain⟨y2,hy2,h7⟩:=h5;exact⟨y2,by simpa using hy2,h7⟩
    simp only[fk,hs,cond_false,List.modify_succ_cons];exact EntRel.cons (x:=(x.1,x.2)) hxk hxv (h6 u u' hu)
   refine .inr ⟨?_,?_,fun u u' b hu=>?_⟩
   ·simp only[eB,hs,cond_false];exact h1
   ·simp only[Instr.findNow,hsn,hs];exact h2
   simp only[fk,hs,cond_false,a0P]
   exact EntRel.cons (x:=(x.1,x.2)) hxk hxv (h3 u u' b hu)
theorem ep{d:TypeDesc}{kt:TypeId}{k:Value}(hu:P.underlying kt=some d)(hk:bP d k=true)(b:Bool):(Instr.checkKey b 10000 kt k).run P w= .ok () w:=by
 have key: ∀n,(Instr.checkKey b (n+1) kt k).run P w= .ok () w:=by
  intro n;unfold bP at hk;split at hk
  ·simp[Instr.checkKey,ae w hu]
  ·simp[Instr.checkKey,ae w hu]
  ·simp[Instr.checkKey,ae w hu]
  cases hk
 exact key 9999
theorem lookup_sound{t:TypeId}{m k m' k' v:Value}{ok:Bool}(h:WRel μ H w)(hm:VRel μ m m')(hk:VRel μ k k')(ho:gD P t m k ok H=some v):
  ∃v',(Instr.lookup t m' k' ok).run P w= .ok v' w/\VRel μ v v':=by
 unfold gD at ho
 split at ho
 ·rename_i kt et hu;split at ho
  ·rename_i d i hd hi;split at ho
   ·rename_i z hz;cases hq:(bP d k&&gF z) with
    |false=>rw[hq]at ho;cases ho
    |true=>
     rw[hq]at ho
     simp only[cond_true]at ho
     simp only[a0d]at hq
     have hk':k'=k:=hk.eq0 (dM hq.1)
     subst hk'
     have hzr:VRel μ z z:=VRel.refl1 hq.2
     have hzv:(zeroValue et).run P w= .ok z w:=de w hi hz
     have tup: ∀(u u':Value) (b:Bool),VRel μ u u'->VRel μ (bif ok then .tuple #[u,.bool b] else u) (if ok then .tuple #[u',.bool b] else u'):=by
      intro u u' b hu;cases ok
      ·exact hu
      have:=LRel.cons hu (LRel.cons (VRel.atom (μ:=μ) (.bool b) rfl) LRel.nil);exact .tuple _ _ this.1 this.2
     split at ho
     ·injection ho with ho;subst ho;obtain rfl:=hm.mapNil_inv;refine⟨_,?_,tup z z false hzr⟩;simp only[Instr.lookup,Sem.run_bind,ae w hu,Result.andThen_ok,Sem.run_pure,ep hd hq.1,Instr.findKey,ae w hd];simp[Instr.findNow,hzv]
     ·rename_i r;split at ho
      ·rename_i es hg;cases hq2:es.all fun e=>bP d e.1 with
       |false=>rw[hq2]at ho;cases ho
       |true=>
        rw[hq2]at ho
        simp only[cond_true]at ho
        obtain⟨l,hμ,rfl⟩:=hm.map_inv
        obtain⟨ces,clock,hh,hl,hent⟩:=h.obj r l _ hμ hg
        have hget:(getObj l.c).run P w= .ok (.map ces clock) w:=fN hh (by intros;simp)
        have hpre: ∀X,Instr.findNow d k' ces.toList 0=some X->(Instr.lookup t (.map (some l.c)) k' ok).run P w=
          (match X with
           |some (_,v)=>(.ok (if ok then .tuple #[v,.bool true] else v) w:Result Value)
           |none=> .ok (if ok then .tuple #[z,.bool false] else z) w):=by
         intro X hX
         simp only[Instr.lookup,Sem.run_bind,ae w hu,Result.andThen_ok,Sem.run_pure,hget,ep hd hq.1,Instr.findKey,ae w hd,hX]
         cases X with
         |none=>simp[hzv]
         |some p=>obtain⟨j,u⟩:=p;simp
        rcases gw hq.1 es ces.toList 0 ⟨hl,hent⟩ hq2 with⟨u,u',j,h1,h2,h3,_⟩|⟨h1,h2,_⟩
        ·rw[h1]at ho;simp only[a00]at ho;subst ho;exact⟨_,hpre _ h2,tup u u' true h3⟩
        rw[h1]at ho
        simp only[a00]at ho;subst ho
        exact⟨_,hpre _ h2,tup z z false hzr⟩
      cases ho
     cases ho
   cases ho
  cases ho
 cases ho
theorem sameBits_key{d:TypeDesc}{a b:Value}(ha:bP d a=true)(hb:bP d b=true)(h:cO a b=true):Instr.sameBits 10000 b a=true:=by
 have key: ∀n,Instr.sameBits n b a=true:=by
  intro n;unfold bP at ha hb;split at ha
  ·split at hb
   ·rename_i k k1 x _ _ k2 y heq;injection heq with e1;subst e1;simp only[beq_iff_eq]at ha hb;subst ha hb;simp only[cO,beq_iff_eq]at h;subst h;cases n<;>simp[Instr.sameBits]
   ·cases‹TypeDesc.int _=_›
   ·cases‹TypeDesc.int _=_›
   cases hb
  ·split at hb
   ·cases‹TypeDesc.string=_›
   ·rename_i x _ _ y _;have h:=bytesEq_iff h;subst h;cases n<;>simp[Instr.sameBits,g0]
   ·cases‹TypeDesc.string=_›
   cases hb
  ·split at hb
   ·cases‹TypeDesc.bool=_›
   ·cases‹TypeDesc.bool=_›
   ·simp only[cO,beq_iff_eq]at h;subst h;cases n<;>simp[Instr.sameBits]
   cases hb
  cases ha
 exact key 10000
theorem iD{t:TypeId}{m k v m' k' v':Value}(h:WRel μ H w)(hm:VRel μ m m')(hk:VRel μ k k')(hv:VRel μ v v')(ho:eE P t m k v H=some H'):
  ∃w',(Instr.mapUpdate t m' k' v').run P w= .ok () w'/\Post μ H w μ H' w':=by
 unfold eE at ho
 split at ho
 ·rename_i kt et hu;split at ho
  ·rename_i d r hd;split at ho
   ·rename_i es hg;cases hq:(bP d k&&es.all fun e=>bP d e.1) with
    |false=>rw[hq]at ho;cases ho
    |true=>
     rw[hq]at ho
     simp only[cond_true,a00]at ho;subst ho
     simp only[a0d]at hq
     have hk':k'=k:=hk.eq0 (dM hq.1)
     subst hk'
     obtain⟨l,hμ,rfl⟩:=hm.map_inv
     obtain⟨ces,clock,hh,hl,hent⟩:=h.obj r l _ hμ hg
     have hget:(getObj l.c).run P w= .ok (.map ces clock) w:=fN hh (by intros;simp)
     have hset: ∀o',(setObj l.c o').run P w= .ok () (bd w l.c o'):=fun o'=>kv hh (by intros;simp)
     rcases gw hq.1 es ces.toList 0 ⟨hl,hent⟩ hq.2 with⟨u,u',j,h1,h2,h3,h4,⟨y,hy,hys,hyk⟩,h6⟩|⟨h1,h2,h3⟩
     ·refine⟨bd w l.c (.map (ces.modify j fun e=>{e with key:=k',val:=v'}) clock),?_,?_⟩
      ·have hyget:ces[j]?=some y:=by simpa using hy
       simp only[Instr.mapUpdate,Sem.run_bind,ae w hu,Result.andThen_ok,hget,ep hd hq.1,Instr.findKey,ae w hd,h2,Sem.run_pure,a1t,hyget,a1T,a0B,
        Instr.keyThatStays,sameBits_key hq.1 hyk hys,if_true,hset]
      have hr:=h6 v v' hv;refine Post.put h hμ hg rfl _ rfl _ ⟨_,clock,bH w _ (bW hh),?_,?_⟩
      ·rw[Array.toList_modify];exact hr.1
      rw[Array.toList_modify];exact hr.2
     refine⟨bd w l.c (.map (ces.push {key:=k',val:=v',born:=clock}) (clock+1)),?_,?_⟩
     ·simp only[Instr.mapUpdate,Sem.run_bind,ae w hu,Result.andThen_ok,hget,ep hd hq.1,Instr.findKey,ae w hd,h2,Sem.run_pure,hset]
     have hr:=h3 v v' clock hv
     refine Post.put h hμ hg rfl _ rfl _ ⟨_,clock+1,bH w _ (bW hh),?_,?_⟩
     ·rw[Array.toList_push];exact hr.1
     rw[Array.toList_push];exact hr.2
   cases ho
  cases ho
 cases ho
theorem callee_sound{f f':Value}{args:List Value}{args':Array Value}{r:AN}(hf:VRel μ f f')(ha:LRel μ args args'.toList)(ho:fg P f args=some r):
  ∃i fargs,r= .enter i fargs/\∃cargs,(∀w,(do let d ←Deferred.ofValue f' args';invoke d.target d.args:Sem Next).run P w= .ok (.enter i cargs) w)/\LRel μ fargs cargs.toList:=by
 unfold fg at ho
 split at ho
 ·rename_i i first captured;obtain⟨first',captured',rfl,h1,h2⟩:=hf.func_inv;split at ho
  ·rename_i fn hfn;cases hq:(fn.body.isSome&& !(fn.name== "runtime.NumGoroutine")) with
   |false=>rw[hq]at ho;cases ho
   |true=>
    rw[hq]at ho
    simp only[cond_true,a00]at ho;subst ho
    simp only[a0d,a0G]at hq
    refine⟨i,_,rfl,(first'++args')++captured',fun w=>?_,?_⟩
    ·have hb: ¬fn.body=none:=by intro hbd;rw[hbd]at hq;cases hq.1
     have hne: ¬fn.name= "runtime.NumGoroutine" :=by have:=hq.2;simpa using this
     simp[Deferred.ofValue,invoke,callFunc,hfn,hne,hb]
    rw[dF,dF]
    have:=(h1.append (ha.append h2))
    simpa using this
  cases ho
 cases ho
end
end Go.R
