/-
The evaluator is sound: regions, code, calls, laws.
-/
import Derived.Test.YtkpgbdkkgcdhmaaGreatZURA
import Derived.Below
import Derived.ChangeSame
import Derived.ChangeArms
namespace Go.R
open List renaming getD→N,length→J
structure Ext(H H':Heap):Prop where
 next:H.next<=H'.next
 log: ∃d,H'.log=d++H.log/\∀b,b<H.next->b∉d->H'.get b=H.get b
 far: ∀b,H'.next<=b->H'.get b=H.get b
theorem Ext.refl(H:Heap):Ext H H:=⟨a07 _,⟨[],V,λ_ _ _=>rfl⟩,λ_ _=>rfl⟩
theorem Ext.trans{H H1 O:Heap}(h:Ext H H1)(k:Ext H1 O):Ext H O:=by
 obtain⟨d1,T,Z⟩:=h.log;obtain⟨d2,U,g2⟩:=k.log;refine⟨a0i h.next k.next,⟨_,by rw[U,T,a0b],λb hb E=>?_⟩,λb hb=>?_⟩
 ·rw[a0f,not_or]at E;rw[g2 b (a11 hb h.next) E.1,Z b hb E.2]
 rw[k.far b hb,h.far b (a0i k.next hb)]
theorem Ext.push(H:Heap)(o:AObj):Ext H (H.push o):=by refine⟨by simp,⟨[],V,λb hb _=>Heap.get_push_ne H o M⟩,λb hb=>Heap.get_push_ne H o ?_⟩;simp at hb;omega
theorem Ext.put{H:Heap}{b:Nat}(o:AObj)(hb:b<H.next):Ext H (H.put b o):=by refine⟨a07 _,⟨[b],V,λk _ E=>Heap.get_put_ne H o (λe=>E (by simp[e]))⟩,λk E=>Heap.get_put_ne H o ?_⟩;simp at E;omega
def WF(H:Heap):Prop:= ∀b,H.next<=b->H.get b=none
theorem WF.ext{H H':Heap}(h:WF H)(e:Ext H H'):WF H':=λb hb=>by rw[e.far b hb];exact h b (a0i e.next hb)
theorem WF.lt{H:Heap}(h:WF H){b:Nat}{o:AObj}(E:H.get b=some o):b<H.next:=by
 rcases a0p b H.next with hl|hl
 ·exact hl
 rw[h b hl]at E;cases E
section ext
variable {P:Program} {H H':Heap}
def ER(H:Heap){α:Type}(r:Option (α×Heap)):Prop:= ∀a H',r=some (a,H')->Ext H H'
theorem ER.none_{α:Type}:ER H (none:Option (α×Heap)):=λ_ _ h=>by cases h
theorem ER.some_{α:Type}{a:α}{H1:Heap}(h:Ext H H1):ER H (some (a,H1)):=λ_ _ e=>by injection e with e;injection e with _ e;subst e;exact h
theorem ER.same{α:Type}{a:α}:ER H (some (a,H)):=ER.some_ (Ext.refl H)
theorem ER.bif_{α:Type}{c:Bool}{x y:Option (α×Heap)}(h:ER H x)(k:ER H y):ER H (bif c then x else y):=by cases c<;>assumption
def EO(H:Heap)(r:Option Heap):Prop:= ∀H',r=some H'->Ext H H'
theorem EO.none_:EO H none:=λ_ h=>by cases h
theorem EO.some_{H1:Heap}(h:Ext H H1):EO H (some H1):=λ_ e=>by injection e with e;subst e;exact h
theorem EO.bif_{c:Bool}{x y:Option Heap}(h:EO H x)(k:EO H y):EO H (bif c then x else y):=by cases c<;>assumption
theorem ER.ovl_(r:Option Value):ER H (ovl r H):=by unfold ovl;split;exact ER.same;exact ER.none_
theorem ER.ovh_{r:Option (Value×Heap)}(h:ER H r):ER H (ovh r):=by
 unfold ovh;split
 ·rename_i v E;exact ER.some_ (h v E V)
 exact ER.none_
theorem ER.osk_{r:Option Heap}(h:EO H r):ER H (osk r):=by
 unfold osk;split
 ·rename_i E;exact ER.some_ (h E V)
 exact ER.none_
theorem ER.lift_(s:Sem Value):ER H (lift P s H):=by unfold lift;split;exact ER.same;exact ER.none_
theorem ER.plain_(ρ:Operand->Value)(o:Oper):ER H (bB P ρ o H):=by
 unfold bB;refine ER.bif_ ?_ ER.none_;split
 ·exact ER.bif_ ER.same ER.none_
 exact ER.none_
theorem kB(O:WF H)(a:Addr)(vs:List Value):EO H (H.storeL a vs):=by
 unfold Heap.storeL;split
 ·split
  ·rename_i E;exact EO.bif_ (EO.some_ (Ext.put _ (O.lt E))) EO.none_
  exact EO.none_
 exact EO.none_
theorem append_ext(O:WF H)(types:Array TypeId)(s x:Value):ER H (hE P types s x H):=by
 unfold hE;split
 case h_2=>exact ER.none_
 split
 case h_2=>exact ER.none_
 split
 ·exact ER.none_
 split
 case h_2=>exact ER.none_
 split
 ·exact ER.none_
 split
 ·exact ER.bif_ ER.same (ER.bif_ (ER.some_ (Ext.push _ _)) ER.none_)
 ·split
  ·rename_i U;refine ER.bif_ (ER.bif_ ER.same ?_) (ER.bif_ ?_ ER.none_)
   ·split
    ·rename_i T E;exact ER.some_ (kB O _ _ T E)
    exact ER.none_
   split
   ·exact ER.none_
   split
   ·exact ER.some_ (Ext.push _ _)
   exact ER.bif_ (ER.some_ ((Ext.put _ (O.lt U)).trans (Ext.push _ _))) ER.none_
  exact ER.none_
 exact ER.none_
theorem copy_ext(T:WF H)(types:Array TypeId)(d s:Value):ER H (aCopy P types d s H):=by
 unfold aCopy;split
 case h_2=>exact ER.none_
 split
 case h_2=>exact ER.none_
 split
 case h_2=>exact ER.none_
 refine ER.bif_ ER.same ?_;split
 ·split
  ·rename_i O E;exact ER.some_ (kB T _ _ O E)
  exact ER.none_
 exact ER.none_
theorem update_ext(O:WF H)(t:TypeId)(m k v:Value):EO H (gx P t m k v H):=by
 unfold gx;split
 ·split
  ·split
   ·rename_i E;exact EO.bif_ (EO.some_ (Ext.put _ (O.lt E))) EO.none_
   exact EO.none_
  exact EO.none_
 exact EO.none_
theorem aop_er(E:WF H)(ρ:Operand->Value)(o:Oper):ER H (aop P ρ o H):=by
 unfold aop;split
 ·exact ER.same
 ·exact ER.same
 ·unfold il;split;exact ER.same;exact ER.none_
 ·unfold fG;split;exact ER.some_ (Ext.push _ _);exact ER.none_
 ·exact ER.some_ (Ext.push _ _)
 ·unfold jt;split;exact ER.lift_ _;exact ER.none_
 ·unfold bN;split
  ·refine ER.bif_ ?_ ER.none_;split
   ·exact ER.some_ (Ext.push _ _)
   exact ER.none_
  exact ER.none_
 ·unfold fh;split;exact ER.ovl_ _;exact ER.none_
 ·unfold gk;split
  ·split
   ·exact ER.bif_ (ER.osk_ (kB E _ _)) ER.none_
   exact ER.none_
  exact ER.none_
 ·unfold opNil;split;exact ER.same;exact ER.same;exact ER.none_
 ·unfold aBin;split
  ·unfold binInt;split;exact ER.ovl_ _;exact ER.none_
  ·unfold binStr;split;exact ER.ovl_ _;exact ER.none_
  unfold pJ;split
  ·exact ER.plain_ _ _
  ·exact ER.plain_ _ _
  intro a H' h;rw[(kI h).1];exact Ext.refl _
 ·unfold gj;split;exact ER.ovl_ _;exact ER.ovl_ _;exact ER.plain_ _ _
 ·exact ER.same
 ·exact ER.some_ (Ext.push _ _)
 ·exact ER.ovl_ _
 ·exact ER.ovl_ _
 ·exact ER.ovl_ _
 ·exact ER.ovl_ _
 ·unfold ne;split;exact ER.ovl_ _;exact ER.lift_ _
 ·exact ER.ovl_ _
 ·exact ER.osk_ (update_ext E _ _ _ _)
 ·exact ER.ovl_ _
 ·unfold opCall;split
  ·unfold pR;split
   ·unfold bLen;split;exact ER.ovl_ _;exact ER.none_
   ·unfold bAppend;split;exact ER.ovh_ (append_ext E _ _ _);exact ER.none_
   ·unfold bCopy;split;exact ER.ovh_ (copy_ext E _ _ _);exact ER.none_
   ·exact ER.plain_ _ _
   ·exact ER.plain_ _ _
   exact ER.none_
  ·unfold gS;split;exact ER.same;exact ER.none_
  exact ER.none_
 ·unfold aUn;split
  ·split;exact ER.same;exact ER.none_
  exact ER.plain_ _ _
 exact ER.none_
theorem pM(E:WF H){ρ:Operand->Value}{o:Oper}{r:AN}(h:aop P ρ o H=some (r,H')):Ext H H':=aop_er E ρ o r H' h
end ext
section
variable {P:Program} {μ:Emb} {H H':Heap} {w:World}
theorem two_of{l a b E}(h:LRel μ l E.toList)(he:l=[a,b]): ∃O T,E= #[O,T]/\VRel μ a O/\VRel μ b T:=by subst he;have⟨O,t,Z,ha,ht⟩:=h.cons_left;have⟨T,t2,h2,hb,U⟩:=ht.cons_left;have:=U.nil_left;subst this h2;exact⟨O,T,a12.1 (by rw[Z]),ha,hb⟩
theorem nJ{l a E}(h:LRel μ l E.toList)(U:l=[a]): ∃O,E= #[O]/\VRel μ a O:=by subst U;have⟨O,t,T,ha,Z⟩:=h.cons_left;have:=Z.nil_left;subst this;exact⟨O,a12.1 (by rw[T]),ha⟩
theorem OpOK.of_value{s v v'}(h: ∀w,s.run P w= .ok (.value v') w)(O:WRel μ H w)(E:VRel μ v v'):OpOK P μ H w s (.val v) H:=
 ⟨.value v',w,μ,h w,Post.refl O,E⟩
theorem gR{ρ ρ':Operand->Value}{x:Option Operand}(h: ∀y,x=some y->VRel μ (ρ y) (ρ' y)):
  (∀v,x.map ρ=some v->∃v',x.map ρ'=some v'/\VRel μ v v')/\(x.map ρ=none->x.map ρ'=none):=by
 cases x with
 |none=>exact⟨λv E=>by simp at E,λ_=>rfl⟩
 |some y=>exact⟨λv E=>by simp at E;subst E;exact⟨_,V,h y V⟩,λO=>by simp at O⟩
set_option maxHeartbeats 4000000 in
theorem iD{ρ ρ':Operand->Value}{o:Oper}{r:AN}(U: ∀x∈o.op.operands,VRel μ (ρ x) (ρ' x))(Z:WRel μ H w)
  (hf: ∀b,H.next<=b->b<H'.next->μ b=none) (h:aop P ρ o H=some (r,H')):OpOK P μ H w (execOp ρ' o) r H':=by
 cases hk:aR o.op with
 |true=>
  obtain⟨rfl,v,v',rfl,E,hr⟩:=l6 hk U h
  exact OpOK.of_value E Z hr
 |false=>
  obtain⟨a9,op,al,pos,after,an⟩:=o
  cases op<;>simp only[aR,reduceCtorEq]at hk
  case alloc e=>
   have T:fG P e H=some (r,H'):=h
   have:=alloc_sound Z hf T
   exact this
  case box e x=>
   have T:some (AN.val (ptrTo H.next),aP H (ρ x).cells.toList none)=some (r,H'):=h
   cases T
   have:=box_sound (P:=P) (e:=e) Z (hf H.next (a07 _) (by simp[aP])) (U x (by simp[Op.operands]))
   exact this
  case buildSlice t n parts=>
   have T:bN P t n (eu (λp=>(p.1,ρ p.2)) parts.toList) H=some (r,H'):=h
   rw[ju]at T
   have:=lG (ps':=parts.map λ(i,x)=>(i,ρ' x)) Z hf (by simp) (λi x x' h1 h2=>?_) T
   ·exact this
   simp only[a1X,a1J,a1Q]at h1 h2
   obtain⟨y,hy,rfl⟩:=h1
   obtain⟨z,hz,rfl⟩:=h2
   rw[hy]at hz;injection hz with hz;subst hz
   refine⟨V,U _ ?_⟩
   have:=a0w hy
   simp only[Op.operands,List.mem_toArray,a0B]
   exact⟨y,this,V⟩
  case load t a=>
   have T:fh P t (ρ a) H=some (r,H'):=h
   have:=load_sound Z (U a (by simp[Op.operands])) T
   exact this
  case store t a x=>
   have T:gk P t (ρ a) (ρ x) H=some (r,H'):=h
   have:=store_sound Z (U a (by simp[Op.operands])) (U x (by simp[Op.operands])) T
   exact this
  case convert s d x=>
   have T:gj P ρ ⟨a9,.convert s d x,al,pos,after,an⟩ s d (ρ x) H=some (r,H'):=h
   exact pD Z V U T
  case makeMap t rsv=>
   cases rsv with
   |some _=>simp[aop]at h
   |none=>
    have T:some (AN.val (.map (some H.next)),H.push (.tab []))=some (r,H'):=h
    cases T
    have:=oU (P:=P) t Z (hf H.next (a07 _) (by simp))
    exact this
  case slice t x lo hi mx=>
   obtain⟨a1,a2⟩:=gR (μ:=μ) (ρ:=ρ) (ρ':=ρ') (x:=lo) λy hy=>U y (by subst hy;simp[Op.operands])
   obtain⟨b1,b2⟩:=gR (μ:=μ) (ρ:=ρ) (ρ':=ρ') (x:=hi) λy hy=>U y (by subst hy;simp[Op.operands])
   obtain⟨_,c2⟩:=gR (μ:=μ) (ρ:=ρ) (ρ':=ρ') (x:=mx) λy hy=>U y (by subst hy;simp[Op.operands])
   have T:ovl (bC P t (ρ x) (lo.map ρ) (hi.map ρ) (mx.map ρ) H) H=some (r,H'):=h
   have:=slice_sound Z (U x (by simp[Op.operands])) a1 a2 b1 b2 c2 T
   exact this
  case lookup t m k ok=>
   have T:ovl (dU P t (ρ m) (ρ k) ok H) H=some (r,H'):=h
   obtain⟨rfl,v,hv,rfl⟩:=cR T
   obtain⟨v',E,hr⟩:=lookup_sound (P:=P) Z (U m (by simp[Op.operands])) (U k (by simp[Op.operands])) hv
   have:=OpOK.value E (Post.refl Z) hr
   exact this
  case mapUpdate t m k x=>
   have T:osk (gx P t (ρ m) (ρ k) (ρ x) H)=some (r,H'):=h
   obtain⟨hu,rfl⟩:=osk_inv T
   obtain⟨w',E,hp⟩:=update_sound (P:=P) Z (U m (by simp[Op.operands])) (U k (by simp[Op.operands])) (U x (by simp[Op.operands])) hu
   have:=OpOK.skip E hp
   exact this
  case call c=>
   obtain⟨ax,args,O⟩:=c
   have ar:LRel μ (eu ρ args.toList) (args.map ρ').toList:=by
    rw[ju];have:=lV (μ:=μ) (ops:=args) (ρ:=ρ) (ρ':=ρ') λx hx=>U x (by simp[Op.operands,Call.operands];exact .inr hx)
    simpa using this
   have h:opCall P ρ ⟨a9,.call ⟨ax,args,O⟩,al,pos,after,an⟩ ⟨ax,args,O⟩ H=some (r,H'):=h
   unfold opCall at h
   cases ax with
   |invoke rv nm=>simp at h
   |value f=>
    simp only at h
    unfold gS at h
    split at h
    ·rename_i n hn;cases h;obtain⟨i,b7,rfl,b6,E,hr⟩:=callee_sound (P:=P) (U f (by simp[Op.operands,Call.operands])) ar hn;refine⟨.enter i _,w,μ,?_,Post.refl Z,V,hr⟩;have:=E w;simpa only[execOp,resolve] using this
    cases h
   |builtin b=>
    simp only at h
    unfold pR at h
    have a3:bB P ρ ⟨a9,.call ⟨.builtin b,args,O⟩,al,pos,after,an⟩ H=some (r,H')->OpOK P μ H w (execOp ρ' ⟨a9,.call ⟨.builtin b,args,O⟩,al,pos,after,an⟩) r H':=by intro hp;obtain⟨rfl,v,v',rfl,E,hr⟩:=ep hp (λ_ _=>by simp) U;exact OpOK.of_value E Z hr
    split at h
    ·--len
     unfold bLen at h;split at h
     ·rename_i t x ht hx;obtain⟨x',a4,bl⟩:=nJ ar hx;obtain⟨rfl,v,hv,rfl⟩:=cR h;obtain⟨E,hn⟩:=len_sound (P:=P) (ty:=al) Z bl hv;have ba:O= #[t]:=a12.1 (by rw[ht]);refine⟨.value v,w,μ,?_,Post.refl Z,.atom v hn⟩;simp only[execOp,resolve,Sem.run_bind,Sem.run_pure,Result.andThen_ok,invoke,builtin,a4,ba,E]
     cases h
    ·unfold bAppend at h;split at h
     ·rename_i t1 t2 s x ht hx;obtain⟨s',x',a4,bf,bl⟩:=two_of ar hx;obtain⟨v,hv,rfl⟩:=ovh_inv h;have ba:O= #[t1,t2]:=a12.1 (by rw[ht]);obtain⟨v',w',μ',E,hp,hr⟩:=append_sound (P:=P) (ty:=al) Z hf bf bl (by rw[ba];rfl) hv;refine⟨.value v',w',μ',?_,hp,hr⟩;simp only[execOp,resolve,Sem.run_bind,Sem.run_pure,Result.andThen_ok,invoke,builtin,a4,E]
     cases h
    ·unfold bCopy at h;split at h
     ·rename_i d s hx;obtain⟨d',s',a4,b3,bf⟩:=two_of ar hx;obtain⟨v,hv,rfl⟩:=ovh_inv h;obtain⟨v',w',E,hp,hr⟩:=copy_sound (P:=P) (ty:=al) Z b3 bf hv;refine⟨.value v',w',μ,?_,hp,hr⟩;simp only[execOp,resolve,Sem.run_bind,Sem.run_pure,Result.andThen_ok,invoke,builtin,a4,E]
     cases h
    ·exact a3 h
    ·exact a3 h
    cases h
  all_goals simp[aop]at h
end
@[simp] theorem lget_nil(i:Nat):dC .nil i=undef:=rfl
@[simp] theorem lget_lset_same(t:Tr Value)(d:Nat)(v:Value):dC (lset t d v) d=v:=by simp[dC,lset]
theorem lget_lset_ne(t:Tr Value){d k}(v:Value)(h:d≠k):dC (lset t d v) k=dC t k:=by simp[dC,lset,Tr.get_set_ne _ _ h]
theorem io(t:Tr Value)(d k:Nat)(v:Value):dC (lset t d v) k=if d=k then v else dC t k:=by
 by_cases h:d=k
 ·subst h;simp
 rw[if_neg h,lget_lset_ne t v h]
def TRel(μ:Emb)(t:Tr Value)(n:Nat)(a:Array Value):Prop:=a.size=n/\∀i,VRel μ (dC t i) (a.getD i undef)
def GRel(μ:Emb)(G:Nat):Prop:= ∀g,g<G->∃l,μ g=some l/\l.c=g/\l.sh=0
section
variable {P:Program} {G:Nat} {μ μ':Emb}
theorem TRel.ac(h: ∀b l,μ b=some l->μ' b=some l){t:Tr Value}{n:Nat}{a:Array Value}(E:TRel μ t n a):TRel μ' t n a:=⟨E.1,λi=>(E.2 i).ac h⟩
theorem GRel.ac(h: ∀b l,μ b=some l->μ' b=some l)(Z:GRel μ G):GRel μ' G:=λg E=>by obtain⟨l,O,T,U⟩:=Z g E;exact⟨l,h _ _ O,T,U⟩
theorem getD_set(a:Array Value)(d i:Nat)(v:Value):(a.setIfInBounds d v).getD i undef=if d=i/\d<a.size then v else a.getD i undef:=by
 simp only[a0Q,a1e];by_cases h:d=i
 ·subst h;by_cases E:d<a.size
  ·simp[E]
  simp[E]
 simp[h]
theorem TRel.put{t:Tr Value}{n:Nat}{a:Array Value}(h:TRel μ t n a){d:Nat}(hd:d<n){v v':Value}(E:VRel μ v v'):TRel μ (lset t d v) n (a.setIfInBounds d v'):=by
 refine⟨by simp[h.1],λi=>?_⟩;rw[io,getD_set];by_cases hi:d=i
 ·rw[if_pos hi,if_pos ⟨hi,by rw[h.1];exact hd⟩];exact E
 rw[if_neg hi,if_neg (λe=>hi e.1)];exact h.2 i
theorem eval_of(Z:GRel μ G){tm:Tr Value}{a:Act}{x:Operand}(E:bc G x=true)(h: ∀t,x= .tmp t->VRel μ (dC tm t) (a.tmps.getD t undef)):
  VRel μ (dA tm x) (a.eval x):=by
 cases x with
 |tmp t=>exact h t V
 |const v=>exact VRel.refl2 E
 |global g=>
  obtain⟨l,O,T,U⟩:=Z g (a0d E)
  have:=VRel.ptr (μ:=μ) g 0 l O
  rw[T,U]at this;exact this
 |func f=>exact .atom _ V
theorem yield_eq{ops tm a}{j:Nat}(h: ∀d,(ops[j]?).bind (·.dst)=some d->VRel μ (dC tm d) (a.getD d undef)):
  ny ops tm j=yielded ops a j:=by
 unfold ny yielded
 cases hd:(ops[j]?).bind (·.dst) with
 |none=>rfl
 |some d=>
  have E:=h d hd
  simp only[a0q]
  simp only[a0Q]at E
  cases ha:a[d]? with
  |none=>
   rw[ha]at E
   simp only[Option.getD_none]at E
   have: ∀b,dC tm d≠ .bool b:=by intro b e;rw[e]at E;have:=E.bool_inv;cases this
   cases O:dC tm d<;>first|rfl|exact absurd O (this _)
  |some x=>
   rw[ha]at E
   simp only[a1u]at E
   cases x with
   |bool b=>
    have:dC tm d= .bool b:=by generalize dC tm d=y at E;cases E;rfl
    rw[this]
   |_=>
    have: ∀b,dC tm d≠ .bool b:=by intro b e;rw[e]at E;have:=E.bool_inv;cases this
    cases O:dC tm d<;>first|rfl|exact absurd O (this _)
theorem wanted_eq{ops o tm a}(h: ∀j w,o.guard=some (j,w)->∀d,(ops[j]?).bind (·.dst)=some d->VRel μ (dC tm d) (a.getD d undef)):
  aX ops o tm=Region.wanted o (yielded ops a):=by
 unfold aX Region.wanted
 cases E:o.guard with
 |none=>rfl
 |some p=>
  obtain⟨j,w⟩:=p
  simp only
  rw[yield_eq (h j w E)]
def e9(P:Program)(G:Nat)(cf:cT):Prop:= ∀f args H v H',cf f args H=some (v,H')->WF H->Ext H H'/\
 ∀μ w (cargs:Array Value),LRel μ args cargs.toList->GRel μ G->WRel μ H w->(∀b,H.next<=b->b<H'.next->μ b=none)->
  Calls P f cargs w λe w'=> ∃μ' v',e= .returned v'/\VRel μ' v v'/\Post μ H w μ' H' w'
noncomputable def eD (P : Program) (cf : cT) (ρ : Operand -> Value) (o : Oper) (H : Heap) : Option (Value × Heap) :=
 match aop P ρ o H with
 |some (.val v,h)=>some (v,h)
 |some (.skip,h)=>some (undef,h)
 |some (.enter f args,h)=>cf f args h
 |none=>none
theorem step_eq(cf:cT)(ops:Array Oper)(o:Oper)(s:St):step P G cf ops o s=
  bif aX ops o s.tmps then
   bif o.op.operands.toList.all (bc G) then
    match eD P cf (dA s.tmps) o s.heap with
    |some (v,h)=>{s with heap:=h}.put o.dst v
    |none=>none
   else none
  else s.put o.dst undef:=by
 unfold step eD
 cases aX ops o s.tmps with
 |false=>rfl
 |true=>
  cases o.op.operands.toList.all (bc G) with
  |false=>rfl
  |true=>
   simp only[cond_true]
   cases aop P (dA s.tmps) o s.heap with
   |none=>rfl
   |some p=>
    have⟨r,h⟩:=p
    cases r with
    |val v=>rfl
    |skip=>rfl
    |enter f args=>
     simp only
     cases cf f args h with
     |none=>rfl
     |some q=>rfl
theorem jr{s O:St}{E:Option Tmp}{v:Value}(h:s.put E v=some O):
  O.size=s.size/\O.heap=s.heap/\((E=none/\O.tmps=s.tmps)\/∃d,E=some d/\d<s.size/\O.tmps=lset s.tmps d v):=by
 unfold St.put at h
 split at h
 ·rename_i d;cases T:Nat.ble (d+1) s.size with
  |false=>rw[T]at h;cases h
  |true=>
   rw[T]at h;simp only[cond_true,a01]at h;subst h
   exact⟨V,V,.inr ⟨d,V,a0d T,V⟩⟩
 injection h with h;subst h;exact⟨V,V,.inl ⟨V,V⟩⟩
theorem nZ{cf}(U:e9 P G cf){ρ o H H' v}(E:WF H)(h:eD P cf ρ o H=some (v,H')):Ext H H':=by
 unfold eD at h;split at h
 ·rename_i u O ha;simp only[a01,a05]at h;rw[←h.2];exact pM E ha
 ·rename_i O ha;simp only[a01,a05]at h;rw[←h.2];exact pM E ha
 ·rename_i f args O ha;have T:=pM E ha;exact T.trans (U f _ O v H' h (E.ext T)).1
 cases h
theorem lf{cf:cT}(a7:e9 P G cf){ρ:Operand->Value}{o:Oper}{a:Act}{H H':Heap}{v:Value}{w:World}(aA:WF H)(hρ: ∀x∈o.op.operands,VRel μ (ρ x) (a.eval x))
  (hG:GRel μ G) (hw:WRel μ H w) (hf: ∀b,H.next<=b->b<H'.next->μ b=none) (h:eD P cf ρ o H=some (v,H')) {K:Act->World->Prop} {Q:Exit->Act->World->Prop}
  (hK: ∀μ' w' v',Post μ H w μ' H' w'->VRel μ' v v'->K (a.put o.dst v') w'):o.wp P a w K Q:=by
 unfold eD at h
 unfold Oper.wp
 split at h
 ·rename_i u h1 ha;simp only[a01,a05]at h;obtain⟨rfl,rfl⟩:=h;obtain⟨n,w1,U,E,O,T⟩:=iD hρ hw hf ha;rw[E];cases n<;>first|exact hK U w1 _ O T|exact T.elim
 ·rename_i h1 ha;simp only[a01,a05]at h;obtain⟨rfl,rfl⟩:=h;obtain⟨n,w1,U,E,O,T⟩:=iD hρ hw hf ha;rw[E];cases n<;>first|exact hK U w1 _ O VRel.undef|exact T.elim
 ·rename_i f args h1 ha;have e1:=pM aA ha;obtain⟨e2,ar⟩:=a7 f args h1 v H' h (aA.ext e1);obtain⟨n,w1,U,E,O,T⟩:=iD hρ hw (λb Z al=>hf b Z (a11 al e2.next)) ha;rw[E];cases n with
  |enter f' cargs=>
   obtain⟨rfl,an⟩:=T
   rw[Oper.upon_enter]
   refine(ar U w1 _ an (hG.ac O.ext) O.wrel (λb Z al=>?_)).mono ?_
   ·cases hb:U b with
    |none=>rfl
    |some l=>
     rcases O.dom b l hb with hb0|⟨_,hb3⟩
     ·rw[hf b (a0i e1.next Z) al]at hb0;cases hb0
     omega
   rintro e w2 ⟨μ2,v',rfl,hv,hp2⟩
   exact hK μ2 w2 v' (O.trans hp2 e1.next e2.next) hv
  |_=>exact T.elim
 cases h
theorem lK{cf:cT}(O:e9 P G cf){ops:Array Oper}{o:Oper}{s U:St}(hw:WF s.heap)(h:step P G cf ops o s=some U):Ext s.heap U.heap:=by
 rw[step_eq]at h;cases T:aX ops o s.tmps with
 |false=>rw[T]at h;rw[(jr h).2.1];exact Ext.refl _
 |true=>
  rw[T]at h
  cases E:o.op.operands.toList.all (bc G) with
  |false=>rw[E]at h;cases h
  |true=>
   rw[E]at h
   simp only[cond_true]at h
   split at h
   ·rename_i v h1 Z;rw[(jr h).2.1];exact nZ O hw Z
   cases h
theorem gw(a:Act)(E:Option Tmp)(v:Value):(a.put E v).defers=a.defers:=by cases E<;>rfl
theorem put_rel{s T:St}{E:Option Tmp}{v v':Value}{a:Act}(h:s.put E v=some T)(Z:TRel μ s.tmps s.size a.tmps)(hv:VRel μ v v'):
  TRel μ T.tmps T.size (a.put E v').tmps:=by
 obtain⟨U,_,⟨rfl,O⟩|⟨d,rfl,hd,O⟩⟩:=jr h
 ·rw[U,O];exact Z
 rw[U,O];exact Z.put hd hv
theorem step_sound{cf}(ax:e9 P G cf){ops i o}(ho:ops[i]?=some o){s T a w}(a4:WF s.heap)(U:TRel μ s.tmps s.size a.tmps)
  (hG:GRel μ G) (hw:WRel μ s.heap w) (hf: ∀b,s.heap.next<=b->b<T.heap.next->μ b=none) (h:step P G cf ops o s=some T) {K} {Q}
  (hK: ∀μ' w' a',Post μ s.heap w μ' T.heap w'->TRel μ' T.tmps T.size a'.tmps->a'.defers=a.defers->K a' w'):wpOp P ops Q i K a w:=by
 unfold wpOp
 rw[ho]
 simp only
 have Z:aX ops o s.tmps=Region.wanted o (yielded ops a.tmps):=wanted_eq (μ:=μ) λ_ _ _ d _=>U.2 d
 rw[step_eq,Z]at h
 cases hq:Region.wanted o (yielded ops a.tmps) with
 |false=>
  rw[hq]at h
  simp only[cond_false]at h
  simp only[a0j,if_false]
  have E:=(jr h).2.1
  exact hK μ w _ (by rw[E];exact Post.refl hw) (put_rel h U VRel.undef) (gw _ _ _)
 |true=>
  rw[hq]at h
  simp only[if_true]
  left
  cases O:o.op.operands.toList.all (bc G) with
  |false=>rw[O]at h;cases h
  |true=>
   rw[O]at h
   simp only[cond_true]at h
   split at h
   ·rename_i v h1 he;have E:=(jr h).2.1;simp only at E;refine lf ax a4 (λx hx=>eval_of hG (a0r.1 O x (by simpa using hx)) λt _=>U.2 t) hG hw (by rw[←E];exact hf) he ?_;intro μ' w' v' hp hv;have a2:TRel μ' s.tmps s.size a.tmps:=U.ac hp.ext;exact hK μ' w' _ (by rw[E];exact hp) (put_rel h a2 hv) (gw _ _ _)
   cases h
theorem kE{cf}(O:e9 P G cf){ops}: ∀(l:List Oper) (s E:St),WF s.heap->hL P G cf ops l s=some E->Ext s.heap E.heap
 | [],s,E,_,h=>by rw[kD]at h;injection h with h;subst h;exact Ext.refl _
 |o::os,s,E,hw,h=>by
  rw[cw]at h;split at h
  ·rename_i Z U;have T:=lK O hw U;exact T.trans (kE O os Z E (hw.ext T) h)
  cases h
theorem kU{cf}(O:e9 P G cf){ops Q}: ∀(l:List Oper) (k:Nat) (s E:St),ops.toList.drop k=l->hL P G cf ops l s=some E->
  ∀(μ:Emb) (a:Act) (w:World),WF s.heap->TRel μ s.tmps s.size a.tmps->GRel μ G->WRel μ s.heap w->(∀b,s.heap.next<=b->b<E.heap.next->μ b=none)->
  (∀μ' w' a',Post μ s.heap w μ' E.heap w'->TRel μ' E.tmps E.size a'.tmps->a'.defers=a.defers->Q .normal a' w')->wpOps P ops Q (List.range' k (J l)) a w
 | [],k,s,E,_,h,μ,a,w,hwf,ht,hG,hw,hf,hQ=>by rw[kD]at h;injection h with h;subst h;simp only[a03,List.range'_zero,wpOps];exact hQ μ w a (Post.refl hw) ht V
 |o::os,k,s,E,hd,h,μ,a,w,hwf,ht,hG,hw,hf,hQ=>by
  rw[cw]at h;split at h
  ·rename_i s1 h1;have Z:=lK O hwf h1;have e2:=kE O os s1 E (hwf.ext Z) h;have hk:k<J ops.toList:=by
    rcases a0p k (J ops.toList) with hl|hl
    ·exact hl
    rw[a0Z hl]at hd;cases hd
   have an:=a0O hk;rw[hd]at an;injection an with h2 h3;have ho:ops[k]?=some o:=by
    have:ops.toList[k]?=some o:=by rw[a08 hk,←h2]
    simpa using this
   simp only[a02,List.range'_succ];rw[wpOps_cons];refine step_sound O ho hwf ht hG hw (λb T U=>hf b T (a11 U e2.next)) h1 ?_;intro μ1 w1 a1 hp a7 a3;refine kU O os _ s1 E h3.symm h μ1 a1 w1 (hwf.ext Z) a7 (hG.ac hp.ext) hp.wrel (λb T U=>?_) ?_
   ·cases hb:μ1 b with
    |none=>rfl
    |some l=>
     rcases hp.dom b l hb with hb0|⟨_,hb3⟩
     ·rw[hf b (a0i Z.next T) U]at hb0;cases hb0
     omega
   intro μ2 w2 a2 a6 a8 a4;exact hQ μ2 w2 a2 (hp.trans a6 Z.next e2.next) a8 (a4.trans a3)
  cases h
end
end Go.R
set_option linter.unusedVariables false
set_option linter.unusedSimpArgs false
namespace Go.R
open List renaming getD→N,length→J
def ns(l:List Nat)(o:Oper):Nat:=o.after.toList.foldl (λs e=>bif Region.binds .any e then s|||2^e.on|||N l e.on 0 else s) 0
theorem jI: ∀(os:List Oper) (E:List Nat),∃t,ancs os E=E++t/\(J t)=J os
 | [],E=>⟨[],by simp[ancs],V⟩
 |o::os,E=>by have⟨t,h,O⟩:=jI os (E++[ns E o]);refine⟨ns E o::t,?_,by simp[O]⟩;show ancs os (E++[ns E o])=_;rw[h];simp
theorem ancs_at: ∀(os:List Oper) (E:List Nat) (k:Nat) (o:Oper),os[k]?=some o->
  N (ancs os E) (J E+k) 0=ns ((ancs os E).take (J E+k)) o
 | [],E,k,o,h=>by simp at h
 |x::os,E,0,o,h=>by
  simp at h;subst h;have⟨t,h,_⟩:=jI os (E++[ns E x]);have e:ancs (x::os) E=E++([ns E x]++t):=by show ancs os (E++[ns E x])=_;rw[h];simp
  rw[e];simp
 |x::os,E,k+1,o,h=>by have ih:=ancs_at os (E++[ns E x]) k o (by simpa using h);have e:ancs (x::os) E=ancs os (E++[ns E x]):=rfl;rw[e];simp only[a00,a0v]at ih;rw[show J E+(k+1)=J E+1+k by omega];exact ih
theorem fold_bit(l:List Nat)(j:Nat): ∀(es:List Edge) (s:Nat),(es.foldl (λs e=>bif Region.binds .any e then s|||2^e.on|||N l e.on 0 else s) s).testBit j=true->
  s.testBit j=true\/∃e∈es,Region.binds .any e=true/\(e.on=j\/(N l e.on 0).testBit j=true)
 | [],s,h=> .inl h
 |e::es,s,h=>by
  simp only[a1M]at h;rcases fold_bit l j es _ h with h1|⟨e',he,h2⟩
  ·cases hb:Region.binds .any e with
   |false=>rw[hb]at h1;exact .inl h1
   |true=>
    rw[hb]at h1
    simp only[cond_true,Nat.testBit_or,a0E]at h1
    rcases h1 with(h1|h1)|h1
    ·exact .inl h1
    ·rw[Nat.testBit_two_pow]at h1;exact .inr ⟨e,by simp,hb,.inl (by simpa using h1)⟩
    exact .inr ⟨e,by simp,hb,.inr h1⟩
  exact .inr ⟨e',by simp[he],h2⟩
theorem ordered_edge{ops j k}(h:aY (cJ ops) j k=true):
  ∃o,ops[k]?=some o/\∃e∈o.after.toList,Region.binds .any e=true/\(e.on=j\/(e.on<k/\aY (cJ ops) j e.on=true)):=by
 unfold aY at h
 have O:k<J ops.toList:=by
  have⟨t,T,U⟩:=jI ops.toList [];rcases a0p k (J ops.toList) with hlt|hge
  ·exact hlt
  have:N (cJ ops) k 0=0:=by unfold cJ;rw[T,a0o,a09,a1l M];rfl
  rw[this]at h;simp at h
 have E:ops.toList[k]?=some ops.toList[k]:=a08 O
 have ha:=ancs_at ops.toList [] k _ E
 simp only[a03,a0x]at ha
 change N (cJ ops) k 0=ns ((cJ ops).take k) _ at ha
 rw[ha]at h
 rcases fold_bit _ j _ 0 h with h1|⟨e,he,hb,h2⟩
 ·simp at h1
 refine⟨ops.toList[k],by rw[←Array.getElem?_toList];exact E,e,he,hb,?_⟩
 rcases h2 with h2|h2
 ·exact .inl h2
 right
 rcases a0p e.on k with hlt|hge
 ·refine⟨hlt,?_⟩;unfold aY;rw[a09,a0F,if_pos hlt,←a09]at h2;exact h2
 rw[a09,a0F,if_neg M]at h2
 simp at h2
def DC(ops:Array Oper)(S:Nat->Bool):Prop:= ∀(k:Nat) o,ops[k]?=some o->S k=true->∀e∈o.after.toList,Region.binds .any e=true->S e.on=true
theorem DC.anc{ops S}(h:DC ops S){j}: ∀(k:Nat),S k=true->aY (cJ ops) j k=true->S j=true:=by
 intro k;induction k using Nat.strongRecOn with
 |_ k ih=>
  intro U Z
  have⟨o,E,e,T,hb,O⟩:=ordered_edge Z
  have hs:=h k o E U e T hb
  rcases O with rfl|⟨hlt,h2⟩
  ·exact hs
  exact ih e.on hlt hs h2
structure RegFacts(ops:Array Oper):Prop where
 G8: ∀(j:Nat) o,ops[j]?=some o->∀e∈o.after.toList,Region.binds .any e=true->e.on<j
 pair: ∀(i j:Nat) x o,i<j->ops[i]?=some x->ops[j]?=some o->aY (cJ ops) i j=true\/x.apart ops o=true
theorem regOK_facts{ops}(h:jU ops=true):RegFacts ops:=by
 unfold jU at h;simp only[a0r,List.mem_range]at h;refine⟨λj o O e Z hb=>?_,λi j x o U hx O=>?_⟩
 ·have T:j<ops.size:=(a0S.1 O).1;have:=h j T;rw[O]at this;simp only[a04,a0r]at this;have E:=this.1.1 e Z;rw[hb]at E;simp only[a1x,a1c]at E;exact a0d E
 have T:j<ops.size:=(a0S.1 O).1;have:=h j T;rw[O]at this;simp only[a04,a0r,List.mem_range]at this;have E:=this.2 i U;rw[hx]at E;simpa using E
section
variable (st:Nat->St) (vl:Nat->Value) (ops:Array Oper)
def chg(k b:Nat):Prop:=(st (k+1)).heap.get b≠(st k).heap.get b
open Classical in
noncomputable def lQ (S : Nat -> Bool) : Nat -> Nat -> Option AObj
 |0,b=>(st 0).heap.get b
 |k+1,b=>if S k=true/\chg st k b then(st (k+1)).heap.get b else lQ S k b
def lE(k:Nat):Option Tmp:=(ops[k]?).bind (·.dst)
open Classical in
noncomputable def tv (S : Nat -> Bool) : Nat -> Nat -> Value
 |0,t=>dC (st 0).tmps t
 |k+1,t=>if S k=true/\lE ops k=some t then vl k else tv S k t
theorem mV{S b i}: ∀m,(∀k,k<m->chg st k b->(S k=true↔k<i))->lQ st S m b=(st (min m i)).heap.get b
 |0,_=>by simp[lQ]
 |m+1,h=>by
  have ih:=mV m λk O=>h k M
  unfold lQ;by_cases E:m<i
  ·rw[show min (m+1) i=m+1 by omega];rw[show min m i=m by omega]at ih;by_cases hc:chg st m b
   ·rw[if_pos ⟨(h m M hc).2 E,hc⟩]
   rw[if_neg (λe=>hc e.2),ih];unfold chg at hc;exact(Classical.not_not.1 hc).symm
  rw[show min (m+1) i=i by omega];rw[show min m i=i by omega]at ih;rw[if_neg (λe=>E ((h m M e.2).1 e.1)),ih]
theorem ob{S S' b}: ∀m,(∀k,k<m->chg st k b->S k=S' k)->lQ st S m b=lQ st S' m b
 |0,_=>rfl
 |m+1,h=>by
  have ih:=ob m λk E=>h k M
  unfold lQ;by_cases hc:chg st m b
  ·rw[h m M hc,ih]
  rw[if_neg (λe=>hc e.2),if_neg (λe=>hc e.2),ih]
theorem tv_eq{S t i}(E: ∀k,dC (st (k+1)).tmps t=if lE ops k=some t then vl k else dC (st k).tmps t):
  ∀m,(∀k,k<m->lE ops k=some t->(S k=true↔k<i))->tv st vl ops S m t=dC (st (min m i)).tmps t
 |0,_=>by simp[tv]
 |m+1,h=>by
  have ih:=tv_eq E m λk T=>h k M
  unfold tv;by_cases O:m<i
  ·rw[show min (m+1) i=m+1 by omega];rw[show min m i=m by omega]at ih;by_cases hc:lE ops m=some t
   ·rw[if_pos ⟨(h m M hc).2 O,hc⟩,E,if_pos hc]
   rw[if_neg (λe=>hc e.2),ih,E,if_neg hc]
  rw[show min (m+1) i=i by omega];rw[show min m i=i by omega]at ih;rw[if_neg (λe=>O ((h m M e.2).1 e.1)),ih]
theorem tv_congr{S S' t}: ∀m,(∀k,k<m->lE ops k=some t->S k=S' k)->tv st vl ops S m t=tv st vl ops S' m t
 |0,_=>rfl
 |m+1,h=>by
  have ih:=tv_congr m λk E=>h k M
  unfold tv;by_cases hc:lE ops m=some t
  ·rw[h m M hc,ih]
  rw[if_neg (λe=>hc e.2),if_neg (λe=>hc e.2),ih]
end
structure Inv(ops:Array Oper)(st:Nat->St)(vl:Nat->Value)(μ0:Emb)(w0:World)(d0:List Deferred)(S:Nat->Bool)(μ:Emb)(a:Act)(w:World):Prop where
 dc:DC ops S
 dom: ∀b l,μ b=some l->b<(st 0).heap.next\/(∃k,k<ops.size/\S k=true/\(st k).heap.next<=b/\b<(st (k+1)).heap.next)\/(st ops.size).heap.next<=b
 obj: ∀b l o,μ b=some l->lQ st S ops.size b=some o->ObjRel μ w l o
 inj: ∀b1 b2 l1 l2 o1 o2,b1≠b2->μ b1=some l1->μ b2=some l2->lQ st S ops.size b1=some o1->lQ st S ops.size b2=some o2->o1.rw=true->o2.live=true->l1.c≠l2.c
 size:a.tmps.size=(st 0).size
 tm: ∀t,VRel μ (tv st vl ops S ops.size t) (a.tmps.getD t undef)
 defers:a.defers=d0
 ext0: ∀b l,μ0 b=some l->μ b=some l
 dom0: ∀b l,μ b=some l->μ0 b=some l\/((st 0).heap.next<=b/\b<(st ops.size).heap.next)
 grow0:w0.heap.size<=w.heap.size
 os0:w.os=w0.os
 tape0:w.tape=w0.tape
 out0:w.output=w0.output
 keep0: ∀c,c<w0.heap.size->(∀b l o,μ0 b=some l->(st 0).heap.get b=some o->o.rw=true->l.c≠c)->w.heap[c]?=w0.heap[c]?
 img0: ∀b l o,μ b=some l->lQ st S ops.size b=some o->o.live=true->
  w0.heap.size<=l.c\/∃b0 l0 o0,μ0 b0=some l0/\(st 0).heap.get b0=some o0/\o0.live=true/\(o.rw=true->o0.rw=true)/\l0.c=l.c
def lw(S:Nat->Bool)(i:Nat):Nat->Bool:=λk=>Nat.beq k i||S k
theorem iE(S:Nat->Bool)(i:Nat):lw S i i=true:=by simp[lw]
theorem iF(S:Nat->Bool){i k}(h:k≠i):lw S i k=S k:=by
 have:Nat.beq k i=false:=by
  cases hb:Nat.beq k i with
  |false=>rfl
  |true=>exact absurd (a0a hb) h
 simp[lw,this]
theorem Inv.next{ops st vl μ0 μ μ' w0 w w' d0 S a i H Hn o v'}
  (I:Inv ops st vl μ0 w0 d0 S μ a w) (hi:i<ops.size) (ho:ops[i]?=some o) (O:Post μ H w μ' Hn w') (hv:VRel μ' (vl i) v') (a9: ∀k,(st k).heap.next<=(st (k+1)).heap.next)
  (c5:(st i).heap.next<=H.next) (c6:Hn.next<=(st (i+1)).heap.next)
  (c1: ∀b l x,μ b=some l->H.get b=some x->lQ st S ops.size b=some x)
  (c2: ∀b l x,μ' b=some l->Hn.get b=some x->lQ st (lw S i) ops.size b=some x)
  (c3: ∀b l x,μ' b=some l->Hn.get b=none->lQ st (lw S i) ops.size b=some x->μ b=some l/\H.get b=none/\lQ st S ops.size b=some x)
  (b9:DC ops (lw S i)) (ch: ∀d,o.dst=some d->d<(st 0).size)
  (cp: ∀t,o.dst=some t->tv st vl ops (lw S i) ops.size t=vl i) (b5: ∀t,o.dst≠some t->tv st vl ops (lw S i) ops.size t=tv st vl ops S ops.size t):
  Inv ops st vl μ0 w0 d0 (lw S i) μ' (a.put o.dst v') w':=by
 have bw: ∀k,(st 0).heap.next<=(st k).heap.next:=by
  intro k;induction k with
  |zero=>exact a07 _
  |succ k ih=>exact a0i ih (a9 k)
 have monoL: ∀j k,j<=k->(st j).heap.next<=(st k).heap.next:=by
  intro j k h;induction h with
  |refl=>exact a07 _
  |step _ ih=>exact a0i ih (a9 _)
 have cv:=monoL (i+1) ops.size hi
 have b8: ∀b l x,μ b=some l->H.get b=none->lQ st S ops.size b=some x->x.live=true->w'.heap[l.c]?=w.heap[l.c]?:=by
  intro b l x hb hh hc ax;refine O.keep l.c ((I.obj b l x hb hc).lt ax) λU l2 o2 Z bn aA=>?_
  exact I.inj U b l2 l o2 x (λe=>by subst e;rw[hh]at bn;cases bn) Z hb (c1 U l2 o2 Z bn) hc aA ax
 refine⟨b9,λb l hb=>?_,λb l x hb hc=>?_,λb1 U l1 l2 o1 o2 b4 a7 Z a3 T a1 aA=>?_,?_,λt=>?_,?_,λb l hb=>O.ext b l (I.ext0 b l hb),λb l hb=>?_,a0i I.grow0 O.grow,
  O.os.trans I.os0,O.tape.trans I.tape0,O.out.trans I.out0,λc hc bl=>?_,λb l x hb hc ax=>?_⟩
 ·rcases O.dom b l hb with E|⟨E,h2⟩
  ·rcases I.dom b l E with h2|⟨k,hk,hs,h3,h4⟩|h2
   ·exact .inl h2
   ·refine .inr (.inl ⟨k,hk,?_,h3,h4⟩);unfold lw;rw[hs];simp
   exact .inr (.inr h2)
  exact .inr (.inl ⟨i,hi,iE S i,by omega,by omega⟩)
 ·cases hg:Hn.get b with
  |some y=>
   have:=c2 b l y hb hg
   rw[this]at hc;injection hc with hc;subst hc
   exact O.wrel.obj b l y hb hg
  |none=>
   have⟨E,h2,h3⟩:=c3 b l x hb hg hc
   exact(I.obj b l x E h3).keep O.ext O.grow (λax=>b8 b l x E h2 h3 ax)
 ·--no two blocks at one place
  cases a8:Hn.get b1 with
  |some y1=>
   have e1:=c2 b1 l1 y1 a7 a8
   rw[e1]at a3;injection a3 with a3;subst a3
   cases ar:Hn.get U with
   |some y2=>
    have e2:=c2 U l2 y2 Z ar
    rw[e2]at T;injection T with T;subst T
    exact O.wrel.inj b1 U l1 l2 y1 y2 b4 a7 Z a8 ar a1 aA
   |none=>
    have⟨E,h2,h3⟩:=c3 U l2 o2 Z ar T
    have ci:=(I.obj U l2 o2 E h3).lt aA
    rcases O.img b1 l1 y1 a7 a8 (jk a1) with hh|⟨b0,l0,o0,g1,g2,g3,g4,g5⟩
    ·omega
    rw[←g5]
    exact I.inj b0 U l0 l2 o0 o2 (λe=>by subst e;rw[h2]at g2;cases g2) g1 E (c1 b0 l0 o0 g1 g2) h3 (g4 a1) aA
  |none=>
   have⟨E,h2,h3⟩:=c3 b1 l1 o1 a7 a8 a3
   cases ar:Hn.get U with
   |some y2=>
    have e2:=c2 U l2 y2 Z ar
    rw[e2]at T;injection T with T;subst T
    have ci:=(I.obj b1 l1 o1 E h3).lt (jk a1)
    rcases O.img U l2 y2 Z ar aA with hh|⟨b0,l0,o0,g1,g2,g3,g4,g5⟩
    ·omega
    rw[←g5]
    exact I.inj b1 b0 l1 l0 o1 o0 (λe=>by subst e;rw[h2]at g2;cases g2) E g1 h3 (c1 b0 l0 o0 g1 g2) a1 g3
   |none=>
    have⟨k1,k2,k3⟩:=c3 U l2 o2 Z ar T
    exact I.inj b1 U l1 l2 o1 o2 b4 E k1 h3 k3 a1 aA
 ·cases hd:o.dst with
  |none=>exact I.size
  |some d=>simp only[Act.put,Array.size_setIfInBounds];exact I.size
 ·have bt:=(I.tm t).ac O.ext;cases hd:o.dst with
  |none=>rw[b5 t (by rw[hd];simp)];exact bt
  |some d=>
   simp only[Act.put,getD_set]
   by_cases bf:d=t
   ·subst bf;rw[cp d hd,if_pos ⟨V,by rw[I.size];exact ch d hd⟩];exact hv
   rw[b5 t (by rw[hd];simpa using bf),if_neg (λe=>bf e.1)];exact bt
 ·rw[gw];exact I.defers
 ·rcases O.dom b l hb with E|⟨E,h2⟩
  ·exact I.dom0 b l E
  exact .inr ⟨by have:=bw i;omega,by omega⟩
 ·rw[O.keep c (a11 hc I.grow0) ?_,I.keep0 c hc bl];intro b l x hb hx hr he;rcases I.img0 b l x hb (c1 b l x hb hx) (jk hr) with hh|⟨b0,l0,o0,g1,g2,g3,g4,g5⟩
  ·omega
  exact bl b0 l0 o0 g1 g2 (g4 hr) (g5.trans he)
 cases hg:Hn.get b with
 |some y=>
  have:=c2 b l y hb hg
  rw[this]at hc;injection hc with hc;subst hc
  rcases O.img b l y hb hg ax with hh|⟨b0,l0,o0,g1,g2,g3,g4,g5⟩
  ·exact .inl (a0i I.grow0 hh)
  rcases I.img0 b0 l0 o0 g1 (c1 b0 l0 o0 g1 g2) g3 with hh|⟨b3,l3,o3,e1,e2,e3,e4,e5⟩
  ·exact .inl (g5▸hh)
  exact .inr ⟨b3,l3,o3,e1,e2,e3,λhx=>e4 (g4 hx),e5.trans g5⟩
 |none=>
  have⟨E,h2,h3⟩:=c3 b l x hb hg hc
  exact I.img0 b l x E h3 ax
section
variable {P:Program} {G:Nat}
def ng(ρ:Operand->Value)(o:Oper)(b:Nat):Prop:=
 (∃t a off,o.op= .load t a/\ρ a= .pointer (some ⟨b,off,none⟩))\/
 (∃t x lo hi E off n k,o.op= .slice t x lo hi E/\ρ x= .slice (some ⟨b,off,none⟩) n k)
def NilCut(ρ:Operand->Value)(o:Oper):Prop:=(∃t x lo hi E n k,o.op= .slice t x lo hi E/\ρ x= .slice none n k)\/
 (∃xs ts x,o.op= .call ⟨.builtin .len,xs,ts⟩/\eu ρ xs.toList=[x]/\((∃a n k,x= .slice a n k)\/∃s,x= .string s))
structure OpFact(P:Program)(G:Nat)(cf:cT)(ops:Array Oper)(o:Oper)(s s':St)(v:Value)(f:Inf):Prop where
 size:s'.size=s.size
 tm: ∀t,dC s'.tmps t=if o.dst=some t then v else dC s.tmps t
 dlt: ∀d,o.dst=some d->d<s.size
 next:s.heap.next<=s'.heap.next
 far: ∀b,s'.heap.next<=b->s'.heap.get b=s.heap.get b
 how:(aX ops o s.tmps=false/\v=undef/\f= .v/\s'.heap.next=s.heap.next/\∀b,s'.heap.get b=s.heap.get b)\/
  (aX ops o s.tmps=true/\o.op.operands.toList.all (bc G)=true/\∃H1 H2,(∀b,H1.get b=s.heap.get b)/\H1.next=s.heap.next/\
   eD P cf (dA s.tmps) o H1=some (v,H2)/\(∀b,s'.heap.get b=H2.get b)/\s'.heap.next=H2.next/\
   ((f= .v/\(aR o.op=true\/NilCut (dA s.tmps) o))\/(f= .a s.heap.next/\eG o.op=true)\/
    (∃b,f= .l b/\ng (dA s.tmps) o b)\/
    (∃w,f= .x w/\(∀b,b∈w->b<s.heap.next)/\(∀b,b<s.heap.next->b∉w->s'.heap.get b=s.heap.get b)/\(jy o.op=true->∃t a x b off,o.op= .store t a x/\dA s.tmps a= .pointer (some ⟨b,off,none⟩)/\b∈w))))
theorem nC{ρ o H H' r}{t:TypeId}{a x}(hk:o.op= .store t a x)(h:aop P ρ o H=some (r,H')):
  r= .skip/\∃b off O E,ρ a= .pointer (some ⟨b,off,none⟩)/\H.get b=some O/\H'=H.put b E/\∀K:Heap,K.get b=some O->aop P ρ o K=some (.skip,K.put b E):=by
 have e: ∀K,aop P ρ o K=gk P t (ρ a) (ρ x) K:=λK=>by unfold aop;rw[hk]
 rw[e]at h
 unfold gk at h
 split at h
 case h_2=>cases h
 rename_i p U
 split at h
 case h_2=>cases h
 rename_i n hn
 cases hb:Nat.beq (ρ x).cells.size n with
 |false=>rw[hb]at h;cases h
 |true=>
  rw[hb]at h
  have⟨b,off,sp⟩:=p
  simp only[cond_true]at h
  obtain⟨hs,rfl⟩:=osk_inv h
  unfold Heap.storeL at hs
  cases sp with
  |some _=>cases hs
  |none=>
   simp only at hs
   split at hs
   case h_2=>cases hs
   rename_i cs ax hg
   cases T:(Nat.ble (Nat.add off (fU (ρ x).cells.toList)) (fU cs)&&nw Value.oneCell' (ρ x).cells.toList) with
   |false=>rw[T]at hs;cases hs
   |true=>
    rw[T]at hs
    simp only[cond_true,a01]at hs
    refine⟨V,b,off,_,_,U,hg,hs.symm,λK Z=>?_⟩
    rw[e,U]
    unfold gk
    simp only[hn,hb,cond_true]
    unfold Heap.storeL
    simp only[Z,T,cond_true]
    rfl
theorem gE{n b}: ∀{l:List Nat},b∈eN n l↔b∈l/\b<n
 | []=>by simp[eN]
 |c::l=>by
  unfold eN;cases T:Nat.ble n c with
  |true=>
   have:=a0d T
   simp only[cond_true,a0n]
   rw[gE (l:=l)]
   constructor
   ·rintro⟨E,O⟩;exact⟨.inr E,O⟩
   rintro⟨rfl|E,O⟩
   ·omega
   exact⟨E,O⟩
  |false=>
   have Z: ¬n<=c:=λU=>by rw[a0z U]at T;cases T
   simp only[cond_false,a0n]
   rw[gE (l:=l)]
   constructor
   ·rintro(rfl|⟨E,O⟩)
    ·exact⟨.inl V,by omega⟩
    exact⟨.inr E,O⟩
   rintro⟨rfl|E,O⟩
   ·exact .inl V
   exact .inr ⟨E,O⟩
theorem loadV_spot{P:Program}{H:Heap}{t:TypeId}{p:Addr}{v:Value}(h:H.loadV P t p=some v):p.spot=none:=by
 obtain⟨b,o,sp⟩:=p;cases sp with
 |none=>rfl
 |some _=>
  unfold Heap.loadV at h
  split at h
  ·split at h
   ·simp[Heap.loadN]at h
   cases h
  ·simp[Heap.cellAt]at h
  cases h
theorem loadV_congr{H H':Heap}{t:TypeId}{b off:Nat}(h:H.get b=H'.get b):H.loadV P t ⟨b,off,none⟩=H'.loadV P t ⟨b,off,none⟩:=by unfold Heap.loadV Heap.loadN Heap.cellAt;simp only[h]
theorem loadV_some{H:Heap}{t:TypeId}{b off:Nat}{v:Value}(h:H.loadV P t ⟨b,off,none⟩=some v): ∃x,H.get b=some x:=by
 cases E:H.get b with
 |some x=>exact⟨x,V⟩
 |none=>
  unfold Heap.loadV Heap.loadN Heap.cellAt at h
  simp only[E]at h
  split at h
  ·split at h<;>cases h
  ·cases h
  cases h
theorem aSlice_spot{P H}{t:TypeId}{p n k lo hi E v}(h:bC P t (.slice (some p) n k) lo hi E H=some v):p.spot=none:=by
 have⟨b,o,sp⟩:=p;cases sp with
 |none=>rfl
 |some _=>
  unfold bC at h
  split at h
  ·cases h
  split at h<;>simp_all
theorem aSlice_get{P H}{t:TypeId}{b off n k lo hi T v}(h:bC P t (.slice (some ⟨b,off,none⟩) n k) lo hi T H=some v):
  ∃E,H.get b=some E/\∀O:Heap,O.get b=some E->bC P t (.slice (some ⟨b,off,none⟩) n k) lo hi T O=some v:=by
 cases Z:H.get b with
 |some E=>
  refine⟨E,V,λO U=>?_⟩
  rw[←h]
  unfold bC
  cases T with
  |some _=>rfl
  |none=>
   cases P.underlying t with
   |none=>rfl
   |some d=>cases d<;>first|rfl|simp only[U,Z]
 |none=>
  exfalso
  unfold bC at h
  split at h
  ·cases h
  split at h<;>simp_all
theorem fB{P ρ o}{b:Nat}{H H' r}(hr:ng ρ o b)(h:aop P ρ o H=some (r,H')):
  ∃v O,r= .val v/\H'=H/\H.get b=some O/\∀U:Heap,U.get b=some O->aop P ρ o U=some (.val v,U):=by
 rcases hr with⟨t,a,off,Z,ha⟩|⟨t,x,lo,hi,mx,off,n,k,Z,hx⟩
 ·have E: ∀H,aop P ρ o H=fh P t (ρ a) H:=λH=>by unfold aop;rw[Z]
  rw[E,ha]at h;unfold fh at h;simp only at h;obtain⟨rfl,v,hv,rfl⟩:=cR h;obtain⟨O,T⟩:=loadV_some hv;refine⟨v,O,V,V,T,λU h2=>?_⟩;rw[E,ha];unfold fh;simp only;rw[loadV_congr (H':=H') (by rw[h2,T]),hv];rfl
 have E: ∀H,aop P ρ o H=ovl (bC P t (ρ x) (lo.map ρ) (hi.map ρ) (mx.map ρ) H) H:=λH=>by unfold aop;rw[Z]
 rw[E,hx]at h
 obtain⟨rfl,v,hv,rfl⟩:=cR h
 obtain⟨O,T,ar⟩:=aSlice_get hv
 refine⟨v,O,V,V,T,λU h2=>?_⟩
 rw[E,hx,ar U h2]
 rfl
theorem reads_sound{P μ ρ ρ' o b H w v}(hr:ng ρ o b)(hρ: ∀x∈o.op.operands,VRel μ (ρ x) (ρ' x))(hw:WRel μ H w)
  (h:aop P ρ o H=some (.val v,H)): ∃v',(execOp ρ' o).run P w= .ok (.value v') w/\VRel μ v v':=by
 rcases hr with⟨t,a,off,E,ha⟩|⟨t,x,lo,hi,mx,off,n,k,E,hx⟩
 ·have T: ∀H,aop P ρ o H=fh P t (ρ a) H:=λH=>by unfold aop;rw[E]
  rw[T,ha]at h;unfold fh at h;simp only at h;have⟨_,v1,hv,O⟩:=cR h;injection O with O;subst O;have ax:VRel μ (ρ a) (ρ' a):=hρ a (by rw[E];simp[Op.operands]);rw[ha]at ax;have⟨l,hμ,a4⟩:=ax.ptr_inv;have⟨v',U,Z⟩:=jv (P:=P) hw hμ hv;refine⟨v',?_,Z⟩;have⟨a3,op,aA,pos,after,ar⟩:=o;simp only at E;subst E;simp only[execOp,a4,Instr.loadAt,Instr.sureAddr,Sem.run_bind,Sem.run_pure,Result.andThen_ok,U]
 have T: ∀H,aop P ρ o H=ovl (bC P t (ρ x) (lo.map ρ) (hi.map ρ) (mx.map ρ) H) H:=λH=>by unfold aop;rw[E]
 rw[T]at h
 have⟨a3,op,aA,pos,after,ar⟩:=o
 simp only at E
 subst E
 have⟨a1,a2⟩:=gR (μ:=μ) (ρ:=ρ) (ρ':=ρ') (x:=lo) λy hy=>hρ y (by subst hy;simp[Op.operands])
 have⟨b1,b2⟩:=gR (μ:=μ) (ρ:=ρ) (ρ':=ρ') (x:=hi) λy hy=>hρ y (by subst hy;simp[Op.operands])
 have⟨_,c2⟩:=gR (μ:=μ) (ρ:=ρ) (ρ':=ρ') (x:=mx) λy hy=>hρ y (by subst hy;simp[Op.operands])
 have⟨v1,v',O,_,U,Z⟩:=me (P:=P) hw (hρ x (by simp[Op.operands])) a1 a2 b1 b2 c2 h
 injection O with O;subst O
 refine⟨v',?_,Z⟩
 simp only[execOp,Sem.run_bind,U,Result.andThen_ok,Sem.run_pure]
theorem reads_loc{μ:Emb}{ρ ρ':Operand->Value}{o:Oper}{b:Nat}(Z:ng ρ o b)(U: ∀x∈o.op.operands,VRel μ (ρ x) (ρ' x)): ∃l,μ b=some l:=by
 rcases Z with⟨t,a,off,O,ha⟩|⟨t,x,lo,hi,mx,off,n,k,O,hx⟩
 ·have E:VRel μ (ρ a) (ρ' a):=U a (by rw[O];simp[Op.operands]);rw[ha]at E;obtain⟨l,T,_⟩:=E.ptr_inv;exact⟨l,T⟩
 have E:VRel μ (ρ x) (ρ' x):=U x (by rw[O];simp[Op.operands]);rw[hx]at E;obtain⟨l,T,_⟩:=E.slice_inv;exact⟨l,T⟩
theorem stepD_fact{cf}(ba:e9 P G cf){ops o s s' f}(hw:WF s.heap)(h:ji P G cf ops o s=some (s',f)):
  ∃v,OpFact P G cf ops o s s' v f:=by
 unfold ji at h
 split at h
 case h_2=>cases h
 rename_i t E
 cases h
 have a6:WF {s.heap with log:=[]}:=hw
 have ext:=lK ba (s:={s with heap:={s.heap with log:=[]}}) a6 E
 rw[step_eq]at E
 cases hq:aX ops o s.tmps with
 |false=>
  rw[hq]at E
  simp only[cond_false]at E
  have⟨h1,h2,h3⟩:=jr E
  refine⟨_,h1,?_,?_,by rw[h2];exact a07 _,λb _=>by rw[h2];rfl,.inl ⟨hq,V,by unfold fc;rw[hq];rfl,by rw[h2],λb=>by rw[h2];rfl⟩⟩
  ·intro k;rcases h3 with⟨U,h5⟩|⟨d,U,hd,h5⟩
   ·simp[U,h5]
   rw[U];simp only[h5,io,a01]
  intro d hd
  rcases h3 with⟨U,_⟩|⟨d',U,a3,_⟩
  ·rw[U]at hd;cases hd
  rw[U]at hd;injection hd with hd;subst hd;exact a3
 |true=>
  rw[hq]at E
  cases a5:o.op.operands.toList.all (bc G) with
  |false=>rw[a5]at E;cases E
  |true=>
   rw[a5]at E
   simp only[cond_true]at E
   split at E
   case h_2=>cases E
   rename_i v H2 T
   have⟨h1,h2,h3⟩:=jr E
   simp only at h2
   have aA:Ext {s.heap with log:=[]} H2:=nZ ba a6 T
   refine⟨v,h1,?_,?_,by simp only[h2];exact aA.next,λb hb=>by simp only[h2]at hb⊢;exact aA.far b hb,.inr ⟨hq,a5,{s.heap with log:=[]},H2,λ_=>rfl,rfl,T,λb=>by simp only[h2];rfl,by simp only[h2],?_⟩⟩
   ·intro k;rcases h3 with⟨U,h5⟩|⟨d,U,hd,h5⟩
    ·simp[U,h5]
    rw[U];simp only[h5,io,a01]
   ·intro d hd;rcases h3 with⟨U,_⟩|⟨d',U,a3,_⟩
    ·rw[U]at hd;cases hd
    rw[U]at hd;injection hd with hd;subst hd;exact a3
   ·--which kind
    have hx:(∃w,Inf.x (eN s.heap.next t.heap.log)= .x w/\(∀b,b∈w->b<s.heap.next)/\(∀b,b<s.heap.next->b∉w->t.heap.get b=s.heap.get b)/\(jy o.op=true->∃t a x b off,o.op= .store t a x/\dA s.tmps a= .pointer (some ⟨b,off,none⟩)/\b∈w)):=by
     refine⟨_,V,λb hb=>(gE.1 hb).2,λb hb hn=>?_,λE=>?_⟩
     ·have⟨d,hd,a7⟩:=aA.log;rw[h2];refine a7 b hb λhm=>hn (gE.2 ⟨?_,hb⟩)
      rw[h2,hd,a0k];exact hm
     cases O:o.op<;>rw[O]at E<;>try (cases E)
     rename_i ty a x;unfold eD at T;cases Z:aop P (dA s.tmps) o {s.heap with log:=[]} with
     |none=>rw[Z]at T;cases T
     |some q=>
      have⟨r,H3⟩:=q
      obtain⟨rfl,b,off,b4,b2,hp,hg,rfl,_⟩:=nC O Z
      rw[Z]at T
      simp only[a01,a05]at T
      refine⟨ty,a,x,b,off,V,hp,gE.2 ⟨?_,a6.lt hg⟩⟩
      rw[h2,←T.2];exact a0m
    unfold fc;rw[hq];cases hv:aR o.op with
    |true=>exact .inl ⟨V,.inl V⟩
    |false=>
     simp only[a1x,Bool.or_false,cond_false]
     cases b3:eG o.op with
     |true=>exact .inr (.inl ⟨V,V⟩)
     |false=>
      simp only[cond_false]
      split
      ·rename_i ty a O;split
       ·rename_i p hp;have ar:p.spot=none:=by
         unfold eD at T;have Z:aop P (dA s.tmps) o {s.heap with log:=[]}=fh P ty (dA s.tmps a) {s.heap with log:=[]}:=by unfold aop;rw[O]
         rw[Z,hp]at T;unfold fh at T;simp only at T;cases hl:Heap.loadV P {s.heap with log:=[]} ty p with
         |none=>rw[hl]at T;simp[ovl]at T
         |some u=>exact loadV_spot hl
        have⟨b,off,sp⟩:=p;simp only at ar;subst ar;exact .inr (.inr (.inl ⟨b,V,.inl ⟨ty,a,off,O,hp⟩⟩))
       exact .inr (.inr (.inr hx))
      ·rename_i ty x lo hi mx O;split
       ·rename_i p n k hp;have ar:p.spot=none:=by
         unfold eD at T;have Z:aop P (dA s.tmps) o {s.heap with log:=[]}=ovl (bC P ty (dA s.tmps x) (lo.map (dA s.tmps)) (hi.map (dA s.tmps)) (mx.map (dA s.tmps)) {s.heap with log:=[]}) {s.heap with log:=[]}:=by unfold aop;rw[O]
         rw[Z,hp]at T;cases hl:bC P ty (.slice (some p) n k) (lo.map (dA s.tmps)) (hi.map (dA s.tmps)) (mx.map (dA s.tmps)) {s.heap with log:=[]} with
         |none=>rw[hl]at T;simp[ovl]at T
         |some u=>exact aSlice_spot hl
        have⟨b,off,sp⟩:=p;simp only at ar;subst ar;exact .inr (.inr (.inl ⟨b,V,.inr ⟨ty,x,lo,hi,mx,off,n,k,O,hp⟩⟩))
       ·rename_i n k hp;exact .inl ⟨V,.inr (.inl ⟨ty,x,lo,hi,mx,n,k,O,hp⟩)⟩
       exact .inr (.inr (.inr hx))
      ·rename_i xs ts O;split
       ·rename_i a n k hp;exact .inl ⟨V,.inr (.inr ⟨xs,ts,_,O,hp,.inl ⟨a,n,k,V⟩⟩)⟩
       ·rename_i bn hp;exact .inl ⟨V,.inr (.inr ⟨xs,ts,_,O,hp,.inr ⟨bn,V⟩⟩)⟩
       exact .inr (.inr (.inr hx))
      exact .inr (.inr (.inr hx))
theorem my{ρ o H H' r}(h:bB P ρ o H=some (r,H')):H'=H/\∃v,r= .val v:=by
 unfold bB at h;cases O:o.op.operands.toList.all λx=>jN (ρ x) with
 |false=>rw[O]at h;cases h
 |true=>
  rw[O]at h
  simp only[cond_true]at h
  split at h
  ·rename_i v T;cases E:noA2 v with
   |false=>rw[E]at h;cases h
   |true=>
    rw[E]at h;simp only[cond_true,a01,a05]at h
    exact⟨h.2.symm,v,h.1.symm⟩
  cases h
theorem lift_val{s H H' r}(h:lift P s H=some (r,H')):H'=H/\∃v,r= .val v:=by have⟨E,v,O,_⟩:=mJ h;exact⟨E,v,O⟩
theorem gQ{x H H' r}(h:ovl x H=some (r,H')):H'=H/\∃v,r= .val v:=by have⟨E,v,_,O⟩:=cR h;exact⟨E,v,O⟩
theorem gM{v:Value}{H H':Heap}{r:AN}(h:some (AN.val v,H)=some (r,H')):H'=H/\∃v,r= .val v:=by simp only[a01,a05]at h;exact⟨h.2.symm,v,h.1.symm⟩
theorem aop_value{ρ o H H' r}(hk:aR o.op=true)(h:aop P ρ o H=some (r,H')):H'=H/\∃v,r= .val v:=by
 have⟨U,op,T,pos,after,O⟩:=o;cases op<;>simp only[aR,a0j]at hk
 case move x=>exact gM h
 case assign x=>exact gM h
 case pick c a b=>
  have E:il ρ c a b H=some (r,H'):=h
  unfold il at E
  split at E
  ·exact gM E
  cases E
 case build t parts=>
  have E:jt P t (parts.map λp=>(p.1,ρ p.2)) H=some (r,H'):=h
  unfold jt at E
  split at E
  ·exact lift_val E
  cases E
 case nilCheck x=>
  have E:opNil (ρ x) H=some (r,H'):=h
  unfold opNil at E
  split at E
  ·exact gM E
  ·exact gM E
  cases E
 case binOp op t x y yt=>
  have E:aBin P ρ ⟨U,.binOp op t x y yt,T,pos,after,O⟩ op t (ρ x) y H=some (r,H'):=h
  unfold aBin at E
  split at E
  ·unfold binInt at E;split at E
   ·exact gQ E
   cases E
  ·unfold binStr at E;split at E
   ·exact gQ E
   cases E
  unfold pJ at E;split at E
  ·exact my E
  ·exact my E
  have⟨h1,b,_,hc⟩:=kI E
  rcases hc with⟨_,Z⟩|⟨_,Z⟩
  ·exact⟨h1,_,Z⟩
  exact⟨h1,_,Z⟩
 case unOp op t x=>
  have E:aUn P ρ ⟨U,.unOp op t x,T,pos,after,O⟩ op (ρ x) H=some (r,H'):=h
  unfold aUn at E
  split at E
  ·split at E
   ·exact gM E
   cases E
  exact my E
 case makeFunc fn first captured=>exact gM h
 case fieldAddr s x f=>
  have E:ovl (kh P s (ρ x) f) H=some (r,H'):=h
  exact gQ E
 case field t x f=>
  have E:ovl (jJ P t (ρ x) f) H=some (r,H'):=h
  exact gQ E
 case indexAddr t x i=>
  have E:ovl (cV P t (ρ x) (ρ i)) H=some (r,H'):=h
  exact gQ E
 case index t x i=>
  have E:ne P t (ρ x) (ρ i) H=some (r,H'):=h
  unfold ne at E
  split at E
  ·exact gQ E
  exact lift_val E
 case extract x i=>
  have E:ovl (iU (ρ x) i) H=some (r,H'):=h
  exact gQ E
theorem nA{ρ o H H' r}(E:aR o.op=true)(h:aop P ρ o H=some (r,H')):H'=H:=by have:=aop_value E h;exact this.1
theorem l4{ρ o H H' r}(E:aR o.op=true)(h:aop P ρ o H=some (r,H')): ∃v,r= .val v:=(aop_value E h).2
theorem gC{ρ o H H' r}(hk:eG o.op=true)(h:aop P ρ o H=some (r,H')):
  ∃v U,r= .val v/\H'=H.push U/\∀O:Heap,O.next=H.next->aop P ρ o O=some (.val v,O.push U):=by
 have⟨aA,op,ax,pos,after,ar⟩:=o
 cases op<;>simp only[eG,a0j]at hk
 case alloc e=>
  have E:fG P e H=some (r,H'):=h
  unfold fG at E
  split at E
  ·rename_i z hz;cases E;refine⟨_,_,V,V,λO T=>?_⟩;show fG P e O=_;unfold fG;rw[hz,T];rfl
  cases E
 case box e x=>
  have E:some (AN.val (ptrTo H.next),aP H (ρ x).cells.toList none)=some (r,H'):=h
  cases E
  refine⟨_,_,V,V,λO T=>?_⟩
  show some (AN.val (ptrTo O.next),aP O (ρ x).cells.toList none)=_
  rw[T];rfl
 case buildSlice t n parts=>
  have E:bN P t n (eu (λp=>(p.1,ρ p.2)) parts.toList) H=some (r,H'):=h
  unfold bN at E
  split at E
  ·rename_i sz z hz;cases Z:Nat.ble (n *sz) 16777216 with
   |false=>rw[Z]at E;cases E
   |true=>
    rw[Z]at E
    simp only[cond_true]at E
    split at E
    ·rename_i cells hc;cases E;refine⟨_,_,V,V,λO T=>?_⟩;show bN P t n (eu (λp=>(p.1,ρ p.2)) parts.toList) O=_;unfold bN;rw[hz];simp only[Z,cond_true,hc,T];rfl
    cases E
  cases E
 case makeMap t rsv=>
  cases rsv with
  |some _=>simp at hk
  |none=>
   have E:some (AN.val (.map (some H.next)),H.push (.tab []))=some (r,H'):=h
   cases E
   refine⟨_,_,V,V,λO T=>?_⟩
   show some (AN.val (.map (some O.next)),O.push (.tab []))=_
   rw[T]
def og(n:Nat):Heap:={tr:= .nil,next:=n,log:=[]}
theorem dN(n b:Nat):(og n).get b=none:=rfl
theorem lT(μ:Emb)(n:Nat)(w:World):WRel μ (og n) w:=
 ⟨(λb l o _ h=>by rw[dN]at h;cases h),(λE O l1 l2 T U _ _ _ h=>by rw[dN]at h;cases h)⟩
theorem aSlice_nil{t:TypeId}{n k lo hi E}(H O:Heap):bC P t (.slice none n k) lo hi E H=bC P t (.slice none n k) lo hi E O:=by
 unfold bC;cases E with
 |some _=>rfl
 |none=>
  cases P.underlying t with
  |none=>rfl
  |some d=>cases d<;>first|rfl|(cases n<;>cases k<;>rfl)
theorem fJ{ρ o H H' r}(T:NilCut ρ o)(h:aop P ρ o H=some (r,H')):H'=H/\∃v,r= .val v:=by
 rcases T with⟨t,x,lo,hi,Z,n,k,O,U⟩|⟨xs,ts,x,O,U,_⟩
 ·have E: ∀H,aop P ρ o H=ovl (bC P t (ρ x) (lo.map ρ) (hi.map ρ) (Z.map ρ) H) H:=λH=>by unfold aop;rw[O]
  rw[E]at h;exact gQ h
 have E:aop P ρ o H=bLen P ts (eu ρ xs.toList) H:=by unfold aop;rw[O];rfl
 rw[E]at h;unfold bLen at h;split at h
 ·exact gQ h
 cases h
theorem aLen_any{t:TypeId}{x}(O:(∃a n k,x= .slice a n k)\/∃s,x= .string s)(H E:Heap):aLen P t x H=aLen P t x E:=by
 rcases O with⟨a,n,k,rfl⟩|⟨s,rfl⟩<;>(unfold aLen;cases P.underlying t with
  |none=>rfl
  |some d=>cases d<;>rfl)
theorem nilcut_sound{μ ρ ρ' o H v}(hr:NilCut ρ o)(hρ: ∀x∈o.op.operands,VRel μ (ρ x) (ρ' x))(h:aop P ρ o H=some (.val v,H))(w:World):
  ∃v',(execOp ρ' o).run P w= .ok (.value v') w/\VRel μ v v':=by
 rcases hr with hr|⟨xs,ts,x,E,hxs,Z⟩
 rotate_left
 ·have T:aop P ρ o H=bLen P ts (eu ρ xs.toList) H:=by unfold aop;rw[E];rfl
  rw[T,hxs]at h;have⟨a7,op,ax,pos,after,aA⟩:=o;simp only at E;subst E;unfold bLen at h;split at h
  ·rename_i t x1 ht a4;simp only[List.cons.injEq,and_true]at a4;subst a4;have⟨_,v1,hv,O⟩:=cR h;injection O with O;subst O;rw[aLen_any Z H (og 0)]at hv;have a3:LRel μ (eu ρ xs.toList) (xs.map ρ').toList:=by
    rw[ju];have:=lV (μ:=μ) (ops:=xs) (ρ:=ρ) (ρ':=ρ') λx Z=>hρ x (by simp[Op.operands,Call.operands];exact Z)
    simpa using this
   have⟨x',ba,bb⟩:=nJ a3 hxs;have⟨U,hn⟩:=len_sound (P:=P) (ty:=ax) (lT μ 0 w) bb hv;have a8:ts= #[t]:=a12.1 (by rw[ht]);refine⟨v,?_,.atom v hn⟩;simp only[execOp,resolve,Sem.run_bind,Sem.run_pure,Result.andThen_ok,invoke,builtin,ba,a8,U]
  cases h
 have⟨t,x,lo,hi,mx,n,k,E,Z⟩:=hr
 have T: ∀H,aop P ρ o H=ovl (bC P t (ρ x) (lo.map ρ) (hi.map ρ) (mx.map ρ) H) H:=λH=>by unfold aop;rw[E]
 rw[T,Z]at h
 have⟨_,v1,hv,O⟩:=cR h
 rw[aSlice_nil H (og 0)]at hv
 have h2:ovl (bC P t (ρ x) (lo.map ρ) (hi.map ρ) (mx.map ρ) (og 0)) (og 0)=some (.val v,og 0):=by rw[Z,hv,O];rfl
 have⟨a7,op,ax,pos,after,aA⟩:=o
 simp only at E
 subst E
 have⟨a1,a2⟩:=gR (μ:=μ) (ρ:=ρ) (ρ':=ρ') (x:=lo) λy hy=>hρ y (by subst hy;simp[Op.operands])
 have⟨b1,b2⟩:=gR (μ:=μ) (ρ:=ρ) (ρ':=ρ') (x:=hi) λy hy=>hρ y (by subst hy;simp[Op.operands])
 have⟨_,c2⟩:=gR (μ:=μ) (ρ:=ρ) (ρ':=ρ') (x:=mx) λy hy=>hρ y (by subst hy;simp[Op.operands])
 have⟨v1,v',O,_,U,a9⟩:=me (P:=P) (lT μ 0 w) (hρ x (by simp[Op.operands])) a1 a2 b1 b2 c2 h2
 injection O with O;subst O
 refine⟨v',?_,a9⟩
 simp only[execOp,Sem.run_bind,U,Result.andThen_ok,Sem.run_pure]
theorem either_heap{ρ o H H' r}(E:aR o.op=true\/NilCut ρ o)(h:aop P ρ o H=some (r,H')):H'=H:=by
 rcases E with E|E
 ·exact nA E h
 exact(fJ E h).1
theorem n8{ρ o H H' r}(E:aR o.op=true\/NilCut ρ o)(h:aop P ρ o H=some (r,H')): ∃v,r= .val v:=by
 rcases E with E|E
 ·exact l4 E h
 exact(fJ E h).2
structure Trace(P:Program)(G:Nat)(cf:cT)(ops:Array Oper)(st:Nat->St)(vl:Nat->Value)(nf:Nat->Inf):Prop where
 fact: ∀k o,ops[k]?=some o->OpFact P G cf ops o (st k) (st (k+1)) (vl k) (nf k)
 past: ∀k,ops.size<=k->st (k+1)=st k
 comp: ∀j k,j<k->k<ops.size->aY (cJ ops) j k=true\/dZ (nf j) (nf k)=true\/stst ops j k (nf j) (nf k)=true
 reg:RegFacts ops
 wf: ∀k,WF (st k).heap
section
variable {cf:cT} {ops:Array Oper} {st:Nat->St} {vl:Nat->Value} {nf:Nat->Inf}
theorem Trace.ac(T:Trace P G cf ops st vl nf)(k:Nat):(st k).heap.next<=(st (k+1)).heap.next:=by
 rcases a0p k ops.size with h|h
 ·exact(T.fact k _ (a0J h)).next
 rw[T.past k h];exact a07 _
theorem Trace.monoL(T:Trace P G cf ops st vl nf){j k}(h:j<=k):(st j).heap.next<=(st k).heap.next:=by
 induction h with
 |refl=>exact a07 _
 |step _ ih=>exact a0i ih (T.ac _)
theorem Trace.sizeL(T:Trace P G cf ops st vl nf)(k:Nat):(st k).size=(st 0).size:=by
 induction k with
 |zero=>rfl
 |succ k ih=>
  rcases a0p k ops.size with h|h
  ·rw[(T.fact k ops[k] (a0J h)).size,ih]
  rw[T.past k h,ih]
theorem Trace.tm(T:Trace P G cf ops st vl nf)(k t:Nat):dC (st (k+1)).tmps t=if lE ops k=some t then vl k else dC (st k).tmps t:=by
 unfold lE;rcases a0p k ops.size with h|h
 ·have E:=a0J h;rw[(T.fact k ops[k] E).tm t,E];rfl
 rw[T.past k h,Array.getElem?_eq_none h];simp
theorem Trace.chg(T:Trace P G cf ops st vl nf){k b}(h:chg st k b):
  k<ops.size/\((st k).heap.next<=b/\b<(st (k+1)).heap.next\/∃w,nf k= .x w/\b∈w/\b<(st k).heap.next):=by
 have hk:k<ops.size:=by
  rcases a0p k ops.size with hk|hk
  ·exact hk
  exfalso;unfold R.chg at h;rw[T.past k hk]at h;exact h V
 refine⟨hk,?_⟩
 have F:=T.fact k ops[k] (a0J hk)
 have a5:b<(st (k+1)).heap.next:=by
  rcases a0p b (st (k+1)).heap.next with U|U
  ·exact U
  exact absurd (F.far b U) h
 rcases a0p b (st k).heap.next with hb|hb
 ·right;rcases F.how with⟨_,_,_,_,hs⟩|⟨_,_,H1,H2,ax,a7,O,al,a8,a2⟩
  ·exact absurd (hs b) h
  rcases a2 with⟨hf,hv⟩|⟨hf,hv⟩|⟨b',hf,aA⟩|⟨w,hf,a9,a4,_⟩
  ·--a value operation changes nothing
   exfalso;unfold eD at O;split at O
   ·rename_i u U E;simp only[a01,a05]at O;have:=(either_heap hv E)
    rw[←O.2,this]at al;exact h (by rw[al b,ax b])
   ·rename_i U E;have:=(n8 hv E)
    have⟨_,Z⟩:=this;cases Z
   ·rename_i f args U E;have⟨_,Z⟩:=n8 hv E;cases Z
   cases O
  ·exfalso;unfold eD at O;split at O
   ·rename_i u U E;simp only[a01,a05]at O;have⟨_,ba,_,a3,_⟩:=gC hv E;rw[←O.2,a3]at al;exact h (by rw[al b,Heap.get_push_ne _ _ M,ax b])
   ·rename_i U E;have⟨_,_,Z,_⟩:=gC hv E;cases Z
   ·rename_i f args U E;have⟨_,_,Z,_⟩:=gC hv E;cases Z
   cases O
  ·exfalso;unfold eD at O;split at O
   ·rename_i u U E;simp only[a01,a05]at O;have⟨_,_,_,hH,_,_⟩:=fB aA E;rw[←O.2,hH]at al;exact h (by rw[al b,ax b])
   ·rename_i U E;have⟨_,_,Z,_⟩:=fB aA E;cases Z
   ·rename_i f args U E;have⟨_,_,Z,_⟩:=fB aA E;cases Z
   cases O
  rcases Classical.em (b∈w) with hm|hm
  ·exact⟨w,hf,hm,hb⟩
  exact absurd (a4 b hb hm) h
 exact .inl ⟨hb,a5⟩
end
end
end Go.R
set_option linter.unusedVariables false
namespace Go.R
open List renaming getD→N,length→J
section
variable {P:Program} {G:Nat} {cf:cT} {ops:Array Oper} {st:Nat->St} {vl:Nat->Value} {nf:Nat->Inf}
variable {μ0 μ:Emb} {w0 w:World} {d0:List Deferred} {S:Nat->Bool} {a:Act} {i:Nat} {o:Oper}
structure Ready(ops:Array Oper)(S:Nat->Bool)(i:Nat)(o:Oper):Prop where
 G2:ops[i]?=some o
 new:S i=false
 edges: ∀e∈o.after.toList,Region.binds .any e=true->S e.on=true
theorem Ready.lt(R:Ready ops S i o):i<ops.size:=(a0S.1 R.G2).1
theorem Ready.dc(R:Ready ops S i o)(h:DC ops S):DC ops (lw S i):=by
 intro k x E hs e T hb;by_cases O:k=i
 ·subst O;rw[R.G2]at E;injection E with E;subst E;have:=R.edges e T hb;unfold lw;rw[this];simp
 rw[iF S O]at hs;have:=h k x E hs e T hb;unfold lw;rw[this];simp
theorem Ready.ahead(R:Ready ops S i o)(h:DC ops S){k}(E:k≠i)(O:aY (cJ ops) k i=true):S k=true:=by have:=(R.dc h).anc i (iE S i) O;rwa [iF S E]at this
theorem Ready.behind(R:Ready ops S i o)(h:DC ops S){k}(E:aY (cJ ops) i k=true):S k=false:=by
 cases hs:S k with
 |false=>rfl
 |true=>have:=h.anc k hs E;rw[R.new]at this;cases this
theorem Ready.iff_(R:Ready ops S i o)(h:DC ops S){k}(E:k<i->aY (cJ ops) k i=true)(O:i<k->aY (cJ ops) i k=true):S k=true↔k<i:=by
 rcases Nat.lt_trichotomy k i with hlt|rfl|hgt
 ·exact⟨λ_=>hlt,λ_=>R.ahead h M (E hlt)⟩
 ·rw[R.new];simp
 rw[R.behind h (O hgt)];simp;omega
theorem Ready.iffAdd(R:Ready ops S i o)(h:DC ops S){k}(O:k<i->aY (cJ ops) k i=true)(T:i<k->aY (cJ ops) i k=true):lw S i k=true↔k<i+1:=by
 by_cases E:k=i
 ·subst E;rw[iE];simp
 rw[iF S E,R.iff_ h O T];omega
theorem share(T:Trace P G cf ops st vl nf)(ho:ops[i]?=some o){t}(E:t∈o.looksAt ops\/o.dst=some t){k}(hd:lE ops k=some t):
  (k<i->aY (cJ ops) k i=true)/\(i<k->aY (cJ ops) i k=true):=by
 unfold lE at hd
 cases U:ops[k]? with
 |none=>rw[U]at hd;simp at hd
 |some x=>
  rw[U]at hd
  simp only[a0q]at hd
  constructor
  ·intro O;rcases T.reg.pair k i x o O U ho with h|h
   ·exact h
   exfalso;have⟨p1,Z,p3⟩:=Oper.apart_spec h;rcases E with E|E
   ·exact p1 t hd E
   exact Z t hd E
  intro O
  rcases T.reg.pair i k o x O ho U with h|h
  ·exact h
  exfalso
  have⟨p1,Z,p3⟩:=Oper.apart_spec h
  rcases E with E|E
  ·exact p3 t hd E
  exact Z t E hd
theorem slot_here(T:Trace P G cf ops st vl nf)(I:Inv ops st vl μ0 w0 d0 S μ a w)(R:Ready ops S i o){t:Tmp}(E:t∈o.looksAt ops):
  VRel μ (dC (st i).tmps t) (a.tmps.getD t undef):=by
 have:=I.tm t
 rw[tv_eq st vl ops (i:=i) (λk=>T.tm k t) ops.size (λk _ hd=>R.iff_ I.dc (share T R.G2 (.inl E) hd).1 (share T R.G2 (.inl E) hd).2)]at this
 rwa [a1Y (a26 R.lt)]at this
theorem operand_here(T:Trace P G cf ops st vl nf)(I:Inv ops st vl μ0 w0 d0 S μ a w)(R:Ready ops S i o)(U:GRel μ G)(E:o.op.operands.toList.all (bc G)=true):
  ∀x∈o.op.operands,VRel μ (dA (st i).tmps x) (a.eval x):=by
 intro x O
 refine eval_of U (a0r.1 E x (by simpa using O)) λt Z=>?_
 subst Z
 refine slot_here T I R ?_
 unfold Oper.looksAt
 rw[a0f]
 left
 rw[List.mem_filterMap]
 exact⟨_,by simpa using O,V⟩
theorem wanted_here(T:Trace P G cf ops st vl nf)(I:Inv ops st vl μ0 w0 d0 S μ a w)(R:Ready ops S i o):aX ops o (st i).tmps=Region.wanted o (yielded ops a.tmps):=by
 refine wanted_eq λj w E d hd=>slot_here T I R ?_
 unfold Oper.looksAt;rw[a0f];right;rw[E];simp only;rw[hd];simp
theorem between(T:Trace P G cf ops st vl nf){j k b}(E:(st j).heap.next<=b)(O:b<(st (j+1)).heap.next)(U:(st k).heap.next<=b)(Z:b<(st (k+1)).heap.next):j=k:=by
 rcases Nat.lt_trichotomy j k with h|h|h
 ·have:=T.monoL (show j+1<=k from h);omega
 ·exact h
 have:=T.monoL (show k+1<=j from h);omega
theorem nR(T:Trace P G cf ops st vl nf)(I:Inv ops st vl μ0 w0 d0 S μ a w)(R:Ready ops S i o)(b:Nat)(E:(st i).heap.next<=b)(O:b<(st (i+1)).heap.next):μ b=none:=by
 cases hb:μ b with
 |none=>rfl
 |some l=>
  exfalso
  rcases I.dom b l hb with h|⟨k,_,hs,h3,h4⟩|h
  ·have:=T.monoL (a0h i);omega
  ·have:=between T E O h3 h4;subst this;rw[R.new]at hs;cases hs
  have:=T.monoL (show i+1<=ops.size from R.lt);omega
theorem mU(T:Trace P G cf ops st vl nf)(I:Inv ops st vl μ0 w0 d0 S μ a w)(R:Ready ops S i o){b l}(hb:μ b=some l)(an:b<(st i).heap.next)
  (hw: ∀k w',nf k= .x w'->b∈w'->k<ops.size->(k<i->aY (cJ ops) k i=true)/\(i<k->aY (cJ ops) i k=true)):lQ st S ops.size b=(st i).heap.get b:=by
 rw[mV st (i:=i) ops.size,a1Y (a26 R.lt)]
 intro k U hc
 obtain⟨_,⟨E,O⟩|⟨w',E,O,h3⟩⟩:=T.chg hc
 ·--made there
  have Z:k<i:=by
   rcases a0p k i with h|h
   ·exact h
   have:=T.monoL h;omega
  refine⟨λ_=>Z,λ_=>?_⟩;rcases I.dom b l hb with h|⟨k',_,hs,h4,h5⟩|h
  ·have:=T.monoL (a0h k);omega
  ·have:=between T E O h4 h5;subst this;exact hs
  have:=T.monoL (a26 R.lt);omega
 exact R.iff_ I.dc (hw k w' E O U).1 (hw k w' E O U).2
theorem iR(T:Trace P G cf ops st vl nf)(I:Inv ops st vl μ0 w0 d0 S μ a w)(R:Ready ops S i o){b}(hb:b<(st i).heap.next->∃l,μ b=some l)(aA:b<(st (i+1)).heap.next)
  (hw: ∀k w',nf k= .x w'->b∈w'->k<ops.size->(k<i->aY (cJ ops) k i=true)/\(i<k->aY (cJ ops) i k=true)):lQ st (lw S i) ops.size b=(st (i+1)).heap.get b:=by
 rw[mV st (i:=i+1) ops.size,a1Y R.lt]
 intro k hk hc
 by_cases U:k=i
 ·subst U;rw[iE];simp
 obtain⟨_,⟨E,O⟩|⟨w',E,O,h3⟩⟩:=T.chg hc
 ·have an:k<i:=by
   rcases a0p k i with h|h
   ·exact h
   have:=T.monoL (show i+1<=k by omega);omega
  rw[iF S U];refine⟨λ_=>by omega,λ_=>?_⟩;have Z:b<(st i).heap.next:=by have:=T.monoL (show k+1<=i from an);omega
  have⟨l,hl⟩:=hb Z;rcases I.dom b l hl with h|⟨k',_,hs,h4,h5⟩|h
  ·have:=T.monoL (a0h k);omega
  ·have:=between T E O h4 h5;subst this;exact hs
  have:=T.monoL (a26 R.lt);omega
 exact R.iffAdd I.dc (hw k w' E O hk).1 (hw k w' E O hk).2
theorem j6(T:Trace P G cf ops st vl nf){b}(h: ¬chg st i b):lQ st (lw S i) ops.size b=lQ st S ops.size b:=by refine(ob st _ λk _ hc=>?_);exact iF S (λe=>by subst e;exact h hc)
theorem jW{b}: ∀{l:List Nat},memB b l=true↔b∈l
 | []=>by simp[memB]
 |c::l=>by
  unfold memB;rw[a0E,jW (l:=l),a0n];constructor
  ·rintro(h|h)
   ·exact .inl (a0a h)
   exact .inr h
  rintro(rfl|h)
  ·exact .inl (a0Y b)
  exact .inr h
theorem iK(T:Trace P G cf ops st vl nf)(I:Inv ops st vl μ0 w0 d0 S μ a w)(R:Ready ops S i o):
  (∀t,o.dst=some t->tv st vl ops (lw S i) ops.size t=vl i)/\(∀t,o.dst≠some t->tv st vl ops (lw S i) ops.size t=tv st vl ops S ops.size t):=by
 constructor
 ·intro t E;rw[tv_eq st vl ops (i:=i+1) (λk=>T.tm k t) ops.size (λk _ hd=>R.iffAdd I.dc (share T R.G2 (.inr E) hd).1 (share T R.G2 (.inr E) hd).2),a1Y R.lt,T.tm];rw[if_pos (by unfold lE;rw[R.G2];exact E)]
 intro t E
 refine tv_congr st vl ops _ λk _ hd=>iF S ?_
 intro e
 subst e
 unfold lE at hd
 rw[R.G2]at hd
 exact E hd
theorem iM(T:Trace P G cf ops st vl nf)(I:Inv ops st vl μ0 w0 d0 S μ a w)(R:Ready ops S i o)(E: ∀b,(st (i+1)).heap.get b=(st i).heap.get b){v'}(O:VRel μ (vl i) v'):
  Inv ops st vl μ0 w0 d0 (lw S i) μ (a.put o.dst v') w:=by
 have⟨U,Z⟩:=iK T I R
 refine Inv.next (Hn:=og (st i).heap.next) I R.lt R.G2 (Post.refl (lT μ _ w)) O (λk=>T.ac k) (a07 _) (T.ac i)
  (λb l x _ h=>by rw[dN]at h;cases h) (λb l x _ h=>by rw[dN]at h;cases h) (λb l x hb _ hc=>⟨hb,V,?_⟩) (R.dc I.dc) (λd hd=>?_) U Z
 ·rw[j6 T (λe=>e (E b))]at hc;exact hc
 have:=(T.fact i o R.G2).dlt d hd
 rwa [T.sizeL i]at this
theorem no_st(R:Ready ops S i o)(h:jy o.op=false){k f g}:stst ops k i g f=false/\stst ops i k g f=false:=by
 have:stAt ops i=false:=by unfold stAt;rw[R.G2];exact h
 unfold stst;rw[this];cases stAt ops k<;>exact⟨V,V⟩
theorem new_nst{p}(h:eG p=true):jy p=false:=by cases p<;>first|rfl|cases h
theorem reads_nst{ρ b}(h:ng ρ o b):jy o.op=false:=by rcases h with⟨_,_,_,h,_⟩|⟨_,_,_,_,_,_,_,_,h,_⟩<;>rw[h]<;>rfl
theorem pz{b}: ∀{w u:List Nat},disjL w u=true->b∈w->b∈u->False
 | [],_,_,h,_=>by cases h
 |c::w,u,h,hb,hu=>by
  unfold disjL at h;rw[a04,a0K]at h;rcases a0n.1 hb with rfl|hb
  ·rw[jW.2 hu]at h;cases h.1
  exact pz h.2 hb hu
theorem inv_step(f1:e9 P G cf)(T:Trace P G cf ops st vl nf)(I:Inv ops st vl μ0 w0 d0 S μ a w)(hG:GRel μ0 G)(R:Ready ops S i o){K:Act->World->Prop}{Q:Exit->Act->World->Prop}
  (hK: ∀μ' a' w',Inv ops st vl μ0 w0 d0 (lw S i) μ' a' w'->K a' w'):wpOp P ops Q i K a w:=by
 have e3:GRel μ G:=hG.ac I.ext0
 have F:=T.fact i o R.G2
 have dk:=wanted_here T I R
 unfold wpOp
 rw[R.G2]
 simp only
 rcases F.how with⟨hq,hv,hf,hn,hs⟩|⟨hq,e8,H1,H2,aA,a6,U,a4,c9,ez⟩
 ·rw[dk]at hq;rw[hq];simp only[a0j,if_false];exact hK μ _ w (iM T I R hs (by rw[hv];exact VRel.undef))
 rw[dk]at hq
 rw[hq]
 simp only[if_true]
 left
 have hρ:=operand_here T I R e3 e8
 have c5:WF (st i).heap:=T.wf i
 rcases ez with⟨hf,hk|hk⟩|⟨hf,hk⟩|⟨b,hf,bt⟩|⟨wr,hf,f9,gm,f6⟩
 rotate_left
 ·--a part of the nil slice
  unfold eD at U;split at U
  case h_2=>rename_i Z E;obtain⟨_,_,O⟩:=fJ hk E;cases O
  case h_3=>rename_i f args Z E;obtain⟨_,_,O⟩:=fJ hk E;cases O
  case h_4=>cases U
  rename_i u Z E;simp only[a01,a05]at U;obtain⟨e1,_⟩:=fJ hk E;subst e1;obtain⟨rfl,rfl⟩:=U;obtain⟨v',a3,hr⟩:=nilcut_sound hk hρ E w;unfold Oper.wp;rw[a3,Oper.upon_value];exact hK μ _ w (iM T I R (λb=>by rw[a4 b,aA b]) hr)
 rotate_right
 ·--a value
  have E: ∃u,aop P (dA (st i).tmps) o H1=some (.val u,H1)/\u=vl i/\H2=H1:=by
   unfold eD at U;split at U
   ·rename_i u Z E;simp only[a01,a05]at U;have:=nA hk E;subst this;exact⟨u,E,U.1,U.2.symm⟩
   ·rename_i Z E;obtain⟨_,O⟩:=l4 hk E;cases O
   ·rename_i f args Z E;obtain⟨_,O⟩:=l4 hk E;cases O
   cases U
  obtain⟨u,E,rfl,rfl⟩:=E;obtain⟨_,v,v',d6,a3,hr⟩:=l6 hk hρ E;injection d6 with d6;subst d6;unfold Oper.wp;rw[a3 w,Oper.upon_value];exact hK μ _ w (iM T I R (λb=>by rw[a4 b,aA b]) hr)
 ·--a new block
  unfold eD at U;split at U
  case h_2=>rename_i Z E;obtain⟨_,_,O,_⟩:=gC hk E;cases O
  case h_3=>rename_i f args Z E;obtain⟨_,_,O,_⟩:=gC hk E;cases O
  case h_4=>cases U
  rename_i u Z E;simp only[a01,a05]at U;obtain⟨rfl,rfl⟩:=U;obtain⟨u,al,hu,e0,fb⟩:=gC hk E;injection hu with hu;subst hu e0;have d1:(st (i+1)).heap.next=(st i).heap.next+1:=by rw[c9,Heap.next_push,a6]
  have fz:=fb (og (st i).heap.next) (by rw[a6];rfl);obtain⟨n,w',μ',a3,hp,hr⟩:=iD hρ (lT μ _ w) (λb bF b0=>nR T I R b bF (by rw[d1];exact b0)) fz;unfold Oper.wp;rw[a3];cases n with
  |value v'=>
   rw[Oper.upon_value]
   obtain⟨t1,t2⟩:=iK T I R
   have hw: ∀k w',nf k= .x w'->(st i).heap.next∈w'->k<ops.size->(k<i->aY (cJ ops) k i=true)/\(i<k->aY (cJ ops) i k=true):=by
    intro k w' O hm a8;have f5:(st i).heap.next<(st k).heap.next:=by
     have Fk:=T.fact k ops[k] (a0J a8);rcases Fk.how with⟨_,_,an,_⟩|⟨_,_,_,_,_,_,_,_,_,f3⟩
     ·rw[O]at an;cases an
     rcases f3 with⟨an,_⟩|⟨an,_⟩|⟨_,an,_⟩|⟨w2,an,f4,_,_⟩
     ·rw[O]at an;cases an
     ·rw[O]at an;cases an
     ·rw[O]at an;cases an
     rw[O]at an;injection an with an;subst an;exact f4 _ hm
    constructor
    ·intro bl;have:=T.monoL (a26 bl);omega
    intro bf;rcases T.comp i k bf a8 with h|h|h
    ·exact h
    ·rw[hf,O]at h;simp only[dZ]at h;rw[jW.2 hm]at h;cases h
    rw[(no_st R (new_nst hk)).2]at h;cases h
   have fi:lQ st (lw S i) ops.size (st i).heap.next=some al:=by rw[iR T I R (λh=>absurd h (Nat.lt_irrefl _)) (by rw[d1];omega) hw,a4,←a6,Heap.get_push_same]
   have et: ∀b x,((og (st i).heap.next).push al).get b=some x->b=(st i).heap.next/\x=al:=by
    intro b x O;by_cases c6:(og (st i).heap.next).next=b
    ·subst c6;rw[Heap.get_push_same]at O;injection O with O;exact⟨V,O.symm⟩
    rw[Heap.get_push_ne _ _ c6,dN]at O;cases O
   refine hK μ' _ w' (Inv.next (H:=og (st i).heap.next) I R.lt R.G2 hp hr (λk=>T.ac k) (a07 _) (by rw[d1];exact a07 _)
    (λb l x _ h=>by rw[dN]at h;cases h) (λb l x _ h=>?_) (λb l x hb hg hc=>?_) (R.dc I.dc) (λd hd=>?_) t1 t2)
   ·obtain⟨rfl,rfl⟩:=et b x h;exact fi
   ·have c6:b≠(st i).heap.next:=by rintro rfl;have:((og (st i).heap.next).push al).get (st i).heap.next=some al:=Heap.get_push_same (og (st i).heap.next) al;rw[this]at hg;cases hg
    have cv: ¬chg st i b:=by intro cp;apply cp;rw[a4,Heap.get_push_ne _ _ (by rw[a6];exact Ne.symm c6),aA]
    rw[j6 T cv]at hc;rcases hp.dom b l hb with Z|⟨Z,h2⟩
    ·exact⟨Z,V,hc⟩
    exfalso;have g5:(st i).heap.next<=b:=Z;have g6:b<(st i).heap.next+1:=h2;omega
   have:=F.dlt d hd
   rwa [T.sizeL i]at this
  |_=>exact hr.elim
 ·--a load,or a part of a slice
  unfold eD at U;split at U
  case h_2=>rename_i Z E;obtain⟨_,_,O,_⟩:=fB bt E;cases O
  case h_3=>rename_i f args Z E;obtain⟨_,_,O,_⟩:=fB bt E;cases O
  case h_4=>cases U
  rename_i u Z E;simp only[a01,a05]at U;obtain⟨rfl,rfl⟩:=U;obtain⟨u,al,hu,rfl,d2,b5⟩:=fB bt E;injection hu with hu;subst hu;obtain⟨l,hμ⟩:=reads_loc bt hρ;have b6:b<(st i).heap.next:=c5.lt (by rw[←aA];exact d2);have ba:=mU T I R hμ b6 (λk w' a2 hm a8=>by
   constructor
   ·intro bl;rcases T.comp k i bl R.lt with h|h|h
    ·exact h
    ·rw[hf,a2]at h;simp only[dZ]at h;rw[jW.2 hm]at h;cases h
    rw[(no_st R (reads_nst bt)).1]at h;cases h
   intro bf;rcases T.comp i k bf a8 with h|h|h
   ·exact h
   ·rw[hf,a2]at h;simp only[dZ]at h;rw[jW.2 hm]at h;cases h
   rw[(no_st R (reads_nst bt)).2]at h;cases h)
  have b8:WRel μ ((og (st i).heap.next).put b al) w:=by
   refine⟨λb' l' o' bb a9=>?_,λb1 b2 l1 l2 o1 o2 a1 _ _ b3 b4=>?_⟩
   ·by_cases ax:b=b'
    ·subst ax;rw[Heap.get_put_same]at a9;injection a9 with a9;subst a9;exact I.obj b l' al bb (by rw[ba,←aA];exact d2)
    rw[Heap.get_put_ne _ _ ax,dN]at a9;cases a9
   exfalso;by_cases Z:b=b1
   ·by_cases h2:b=b2
    ·exact a1 (Z.symm.trans h2)
    rw[Heap.get_put_ne _ _ h2,dN]at b4;cases b4
   rw[Heap.get_put_ne _ _ Z,dN]at b3;cases b3
  obtain⟨v',ci,hr⟩:=reads_sound bt hρ b8 (b5 _ (Heap.get_put_same _ _ _));unfold Oper.wp;rw[ci,Oper.upon_value];exact hK μ _ w (iM T I R (λb=>by rw[a4 b,aA b]) hr)
 cases d5:jy o.op with
 |true=>
  obtain⟨ty,pa,px,b,off,e6,e7,ds⟩:=f6 d5
  have b8: ∀k w',nf k= .x w'->b∈w'->k<ops.size->(k<i->aY (cJ ops) k i=true)/\(i<k->aY (cJ ops) i k=true):=by
   intro k w' a2 hm a8;have a1:isNilL w'=false:=by cases w' with
    |nil=>simp at hm
    |cons _ _=>rfl
   constructor
   ·intro bl;rcases T.comp k i bl R.lt with h|h|h
    ·exact h
    ·rw[hf,a2]at h;simp only[dZ,a1,Bool.false_and]at h;cases h
    unfold stst at h;rw[hf,a2,a04,a04]at h;exact(pz h.2.2 hm ds).elim
   intro bf;rcases T.comp i k bf a8 with h|h|h
   ·exact h
   ·rw[hf,a2]at h;simp only[dZ,a1,a1a]at h;cases h
   unfold stst at h;rw[hf,a2,a04,a04]at h;exact(pz h.2.2 ds hm).elim
  unfold eD at U
  cases E:aop P (dA (st i).tmps) o H1 with
  |none=>rw[E]at U;cases U
  |some q=>
   obtain⟨r,H3⟩:=q
   obtain⟨rfl,b2,g4,al,fq,d3,hg,rfl,b5⟩:=nC e6 E
   rw[e7]at d3
   simp only[Value.pointer.injEq,a01,Addr.mk.injEq,and_true]at d3
   obtain⟨rfl,rfl⟩:=d3
   rw[E]at U
   simp only[a01,a05]at U
   obtain⟨f7,rfl⟩:=U
   have b6:b<(st i).heap.next:=f9 b ds
   have fd: ∃l,μ b=some l:=by have Z:=hρ pa (by rw[e6];simp[Op.operands]);rw[e7]at Z;obtain⟨l,hl,_⟩:=Z.ptr_inv;exact⟨l,hl⟩
   obtain⟨l,hμ⟩:=fd
   have ba:=mU T I R hμ b6 b8
   have e4:((og (st i).heap.next).put b al).get b=some al:=Heap.get_put_same _ _ _
   have b7: ∀b' x,((og (st i).heap.next).put b al).get b'=some x->b'=b/\x=al:=by
    intro b' x O;by_cases ax:b=b'
    ·subst ax;rw[e4]at O;injection O with O;exact⟨V,O.symm⟩
    rw[Heap.get_put_ne _ _ ax,dN]at O;cases O
   have ch:WRel μ ((og (st i).heap.next).put b al) w:=by
    refine⟨λb' l' o' bb a9=>?_,λb1 b2 l1 l2 o1 o2 a1 _ _ b3 b4=>?_⟩
    ·obtain⟨rfl,rfl⟩:=b7 b' o' a9;exact I.obj b' l' o' bb (by rw[ba,←aA];exact hg)
    exact absurd ((b7 b1 o1 b3).1.trans (b7 b2 o2 b4).1.symm) a1
   have a3:=b5 _ e4
   have f2: ∀b',((og (st i).heap.next).put b al).next<=b'->b'<(((og (st i).heap.next).put b al).put b fq).next->μ b'=none:=λb' Z h2=>absurd h2 (Nat.not_lt_of_le Z)
   obtain⟨n,w',μ',ci,hp,hr⟩:=iD hρ ch f2 a3
   unfold Oper.wp
   rw[ci]
   cases n with
   |skip=>
    rw[Oper.upon_skip]
    obtain⟨t1,t2⟩:=iK T I R
    refine hK μ' _ w' (Inv.next I R.lt R.G2 hp (by rw[←f7];exact VRel.undef) (λk=>T.ac k) (a07 _) (T.ac i)
     (λb' l' x bb O=>?_) (λb' l' x bb O=>?_) (λb' l' x bb O hc=>?_) (R.dc I.dc) (λd hd=>?_) t1 t2)
    ·obtain⟨rfl,rfl⟩:=b7 b' x O;rw[ba,←aA];exact hg
    ·by_cases ax:b=b'
     ·subst ax;rw[Heap.get_put_same]at O;rw[iR T I R (λ_=>⟨l,hμ⟩) (a11 b6 (T.ac i)) b8,a4,Heap.get_put_same];exact O
     rw[Heap.get_put_ne _ _ ax,Heap.get_put_ne _ _ ax,dN]at O;cases O
    ·have ax:b≠b':=by rintro rfl;rw[Heap.get_put_same]at O;cases O
     have cv: ¬chg st i b':=by intro cp;exact cp (by rw[a4,Heap.get_put_ne _ _ ax,aA])
     rw[j6 T cv]at hc;rcases hp.dom b' l' bb with Z|⟨Z,h2⟩
     ·exact⟨Z,by rw[Heap.get_put_ne _ _ ax,dN],hc⟩
     exact absurd h2 (Nat.not_lt_of_le Z)
    have:=F.dlt d hd
    rwa [T.sizeL i]at this
   |_=>exact hr.elim
 |false=>
 have d8: ∀b k w',nf k= .x w'->b∈w'->k<ops.size->(k<i->aY (cJ ops) k i=true)/\(i<k->aY (cJ ops) i k=true):=by
  intro b k w' a2 hm a8;have a1:isNilL w'=false:=by cases w' with
   |nil=>simp at hm
   |cons _ _=>rfl
  constructor
  ·intro bl;rcases T.comp k i bl R.lt with h|h|h
   ·exact h
   ·rw[hf,a2]at h;simp only[dZ,a1,Bool.false_and]at h;cases h
   rw[(no_st R d5).1]at h;cases h
  intro bf;rcases T.comp i k bf a8 with h|h|h
  ·exact h
  ·rw[hf,a2]at h;simp only[dZ,a1,a1a]at h;cases h
  rw[(no_st R d5).2]at h;cases h
 have c7: ∀b l x,μ b=some l->H1.get b=some x->lQ st S ops.size b=some x:=by intro b l x hb O;rw[aA]at O;rw[mU T I R hb (c5.lt O) (d8 b)];exact O
 have d7:WF H1:=λb hb=>by rw[aA];exact c5 b (by rw[←a6];exact hb)
 have ch:WRel μ H1 w:=⟨λb l x hb O=>I.obj b l x hb (c7 b l x hb O),λb1 b2 l1 l2 o1 o2 a1 bF b0 b3 b4=>I.inj b1 b2 l1 l2 o1 o2 a1 bF b0 (c7 b1 l1 o1 bF b3) (c7 b2 l2 o2 b0 b4)⟩
 refine lf f1 d7 hρ e3 ch (λb bF b0=>nR T I R b (by rw[←a6];exact bF) (by rw[c9];exact b0)) U ?_
 intro μ' w' v' hp hv
 obtain⟨t1,t2⟩:=iK T I R
 have c8: ∀b l,μ' b=some l->b<(st i).heap.next->∃l,μ b=some l:=by
  intro b l hb f5;rcases hp.dom b l hb with h|⟨h,_⟩
  ·exact⟨l,h⟩
  rw[a6]at h;omega
 refine hK μ' _ w' (Inv.next I R.lt R.G2 hp hv (λk=>T.ac k) (by rw[a6];exact a07 _) (by rw[c9];exact a07 _) c7 (λb l x hb O=>?_) (λb l x hb O hc=>?_) (R.dc I.dc) (λd hd=>?_) t1 t2)
 ·rw[←a4]at O;rw[iR T I R (c8 b l hb) ((T.wf (i+1)).lt O) (d8 b)];exact O
 ·rw[←a4]at O;have e5:(st (i+1)).heap.next<=b:=by
   rcases a0p b (st (i+1)).heap.next with h|h
   ·rw[iR T I R (c8 b l hb) h (d8 b),O]at hc;cases hc
   exact h
  have cv: ¬chg st i b:=λcp=>cp (F.far b e5)
  rw[j6 T cv]at hc;refine⟨?_,?_,hc⟩
  ·rcases hp.dom b l hb with h|⟨_,h⟩
   ·exact h
   rw[←c9]at h;omega
  exact d7 b (by rw[a6];exact a0i F.next e5)
 have:=F.dlt d hd
 rwa [T.sizeL i]at this
end
section
variable {P:Program} {G:Nat} {cf:cT} {ops:Array Oper} {st:Nat->St} {vl:Nat->Value} {nf:Nat->Inf}
variable {μ0 μ:Emb} {w0 w:World} {d0:List Deferred} {a:Act}
def cnt(S:Nat->Bool):Nat->Nat
 |0=>0
 |n+1=>cnt S n+if S n=true then 0 else 1
theorem cnt_far{S i}: ∀n,n<=i->cnt (lw S i) n=cnt S n
 |0,_=>rfl
 |n+1,h=>by have:=cnt_far (S:=S) (i:=i) n M;simp only[cnt,this,iF S (show n≠i by omega)]
theorem cnt_add{S i}(hs:S i=false): ∀n,i<n->cnt (lw S i) n+1=cnt S n
 |0,h=>by omega
 |n+1,h=>by
  by_cases hi:i=n
  ·subst hi;simp only[cnt,cnt_far i (a07 i),iE,hs,if_true,a0j,if_false]
  have:=cnt_add hs n M;simp only[cnt,iF S (show n≠i by omega)];omega
theorem cnt_zero{S}: ∀n,cnt S n=0->∀k,k<n->S k=true
 |0,_,k,h=>by omega
 |n+1,h,k,hk=>by
  simp only[cnt]at h;by_cases hs:S n=true
  ·by_cases E:k=n
   ·subst E;exact hs
   exact cnt_zero n M k M
  rw[if_neg hs]at h;omega
theorem cnt_le{S}: ∀n,cnt S n<=n
 |0=>a07 _
 |n+1=>by have:=cnt_le (S:=S) n;simp only[cnt];split<;>omega
def jj(listed:Array Bool):Nat->Bool:=λk=>listed.getD k false
theorem setOf_set{listed}{i:Nat}(hi:i<listed.size):jj (listed.setIfInBounds i true)=lw (jj listed) i:=by
 funext k;unfold jj lw;simp only[a0Q,a1e];by_cases E:i=k
 ·subst E;simp[hi]
 have:Nat.beq k i=false:=by
  cases hb:Nat.beq k i with
  |false=>rfl
  |true=>exact absurd (a0a hb).symm E
 simp[E,this]
theorem mw{listed}(hl:listed.size=ops.size){i}:i∈Region.ready .any ops listed↔
  ∃o,Ready ops (jj listed) i o:=by
 unfold Region.ready
 rw[List.mem_filter,List.mem_range]
 constructor
 ·rintro⟨hi,h⟩;have E:ops[i]?=some ops[i]:=a0J hi;rw[E]at h;simp only[a04,a0K,a1N,a1u]at h;refine⟨_,E,?_,λe O hb=>?_⟩
  ·unfold jj;have U:=h.1;simp only[a0Q,a0J (show i<listed.size by omega),a1u]at U⊢;exact U
  have Z:=h.2;rw[Array.all_eq_true']at Z;have:=Z e (by simpa using O);rw[hb]at this;simpa[jj] using this
 rintro⟨o,E,T,O⟩
 have hi:i<ops.size:=(a0S.1 E).1
 refine⟨hi,?_⟩
 rw[E]
 simp only[a04,a0K,a1N,a1u]
 constructor
 ·unfold jj at T;simp only[a0Q,a0J (show i<listed.size by omega),a1u]at T⊢;exact T
 rw[Array.all_eq_true']
 intro e al
 cases hb:Region.binds .any e with
 |false=>rfl
 |true=>
  have:=O e (by simpa using al) hb
  simpa[jj] using this
theorem all_of_none(T:Trace P G cf ops st vl nf){listed}(hl:listed.size=ops.size)(h:Region.ready .any ops listed=[]): ∀k,k<ops.size->jj listed k=true:=by
 intro k;induction k using Nat.strongRecOn with
 |_ k ih=>
  intro Z
  cases hs:jj listed k with
  |true=>rfl
  |false=>
   exfalso
   have O:=a0J Z
   have:k∈Region.ready .any ops listed:=(mw hl).2 ⟨ops[k],O,hs,λe U hb=>by
    have E:=T.reg.G8 k ops[k] O e U hb;exact ih _ E M⟩
   rw[h]at this;simp at this
theorem any_sound(U:e9 P G cf)(T:Trace P G cf ops st vl nf)(hG:GRel μ0 G){Q}
  (Z: ∀S μ a w,(∀k,k<ops.size->S k=true)->Inv ops st vl μ0 w0 d0 S μ a w->Q .normal a w):
  ∀(fuel:Nat) (listed:Array Bool) (μ:Emb) (a:Act) (w:World),listed.size=ops.size->cnt (jj listed) ops.size<=fuel->Inv ops st vl μ0 w0 d0 (jj listed) μ a w->
   wpAny P .any ops Q fuel listed a w
 |0,listed,μ,a,w,hl,hc,I=>by
  have E:=cnt_zero ops.size (by omega:cnt (jj listed) ops.size=0);refine⟨?_,Z _ μ a w E I⟩;cases hr:Region.ready .any ops listed with
  |nil=>rfl
  |cons i t=>
   exfalso
   have hm:i∈Region.ready .any ops listed:=by rw[hr];simp
   have⟨o,R⟩:=(mw hl).1 hm
   have:=E i R.lt
   rw[R.new]at this;cases this
 |fuel+1,listed,μ,a,w,hl,hc,I=>by
  refine⟨λh=>Z _ μ a w (all_of_none T hl h) I,λi hi=>?_⟩;have⟨o,R⟩:=(mw hl).1 hi;refine inv_step U T I hG R λμ' a' w' I'=>?_
  have O:=setOf_set (listed:=listed) (i:=i) (by rw[hl];exact R.lt);refine any_sound U T hG Z _ _ μ' a' w' (by simp[hl]) ?_ (by rw[O];exact I');rw[O];have:=cnt_add R.new ops.size R.lt;omega
theorem inv_start(T:Trace P G cf ops st vl nf)(ht:TRel μ0 (st 0).tmps (st 0).size a.tmps)(hw:WRel μ0 (st 0).heap w)(O: ∀b l,μ0 b=some l->b<(st 0).heap.next\/(st ops.size).heap.next<=b)(S:Nat->Bool)(E: ∀k,S k=false):
  Inv ops st vl μ0 w a.defers S μ0 a w:=by
 have hc: ∀b,lQ st S ops.size b=(st 0).heap.get b:=by intro b;have:=mV st (S:=S) (b:=b) (i:=0) ops.size (λk _ _=>by rw[E k];simp);rwa [Nat.min_zero]at this
 have a3: ∀t,tv st vl ops S ops.size t=dC (st 0).tmps t:=by intro t;have:=tv_eq st vl ops (S:=S) (t:=t) (i:=0) (λk=>T.tm k t) ops.size (λk _ _=>by rw[E k];simp);rwa [Nat.min_zero]at this
 refine⟨(λk o _ hk=>by rw[E k]at hk;cases hk),λb l hb=>?_,λb l o hb U=>hw.obj b l o hb (by rw[←hc];exact U),λb1 b2 l1 l2 o1 o2 ax Z al aA a1=>hw.inj b1 b2 l1 l2 o1 o2 ax Z al (by rw[←hc];exact aA) (by rw[←hc];exact a1),
  ht.1,λt=>by rw[a3];exact ht.2 t,V,λ_ _ h=>h,λ_ _ h=> .inl h,a07 _,V,V,V,λ_ _ _=>rfl,λb l o hb U ar=> .inr ⟨b,l,o,hb,by rw[←hc];exact U,ar,id,V⟩⟩
 rcases O b l hb with h|h
 ·exact .inl h
 exact .inr (.inr h)
theorem inv_end(T:Trace P G cf ops st vl nf){S}(E: ∀k,k<ops.size->S k=true)(I:Inv ops st vl μ0 w0 d0 S μ a w):
  Post μ0 (st 0).heap w0 μ (st ops.size).heap w/\TRel μ (st ops.size).tmps (st ops.size).size a.tmps/\a.defers=d0:=by
 have hc: ∀b,lQ st S ops.size b=(st ops.size).heap.get b:=by intro b;have:=mV st (S:=S) (b:=b) (i:=ops.size) ops.size (λk O _=>by rw[E k O];simp[O]);rwa [Nat.min_self]at this
 have a1: ∀t,tv st vl ops S ops.size t=dC (st ops.size).tmps t:=by intro t;have:=tv_eq st vl ops (S:=S) (t:=t) (i:=ops.size) (λk=>T.tm k t) ops.size (λk O _=>by rw[E k O];simp[O]);rwa [Nat.min_self]at this
 refine⟨⟨I.ext0,I.dom0,I.grow0,I.os0,I.tape0,I.out0,I.keep0,λb l o hb U an=>I.img0 b l o hb (by rw[hc];exact U) an,
  ⟨λb l o hb U=>I.obj b l o hb (by rw[hc];exact U),λb1 b2 l1 l2 o1 o2 ar Z al ax aA=>I.inj b1 b2 l1 l2 o1 o2 ar Z al (by rw[hc];exact ax) (by rw[hc];exact aA)⟩⟩,⟨?_,λt=>?_⟩,I.defers⟩
 ·rw[I.size,T.sizeL ops.size]
 have:=I.tm t
 rwa [a1]at this
end
section
variable {P:Program} {G:Nat} {cf:cT} {ops:Array Oper}
theorem jR(an:e9 P G cf): ∀(l:List Oper) (k:Nat) (fs:List (Nat×Inf)) (s s':St),ops.toList.drop k=l->k+J l=ops.size->bz P G cf ops k fs l s=some s'->WF s.heap->
  ∃(st:Nat->St) (vl:Nat->Value) (nf:Nat->Inf),st k=s/\st ops.size=s'/\(∀j,ops.size<=j->st (j+1)=st j)/\(∀j,k<=j->WF (st j).heap)/\
   (∀j o,k<=j->ops[j]?=some o->OpFact P G cf ops o (st j) (st (j+1)) (vl j) (nf j))/\
   (∀j,k<=j->j<ops.size->∀q∈fs,aY (cJ ops) q.1 j=true\/dZ q.2 (nf j)=true\/stst ops q.1 j q.2 (nf j)=true)/\
   (∀i j,k<=i->i<j->j<ops.size->aY (cJ ops) i j=true\/dZ (nf i) (nf j)=true\/stst ops i j (nf i) (nf j)=true)
 | [],k,fs,s,s',hd,hlen,h,hw=>by simp only[bz,a01]at h;subst h;simp only[a03,a25]at hlen;refine⟨λ_=>s,λ_=>undef,λ_=> .v,V,V,λ_ _=>rfl,λ_ _=>hw,λj o T U=>?_,λj T bt=>by omega,λi j hi ax T=>by omega⟩;have:=(a0S.1 U).1;omega
 |x::os,k,fs,s,s',hd,hlen,h,hw=>by
  simp only[a02]at hlen;unfold bz at h;split at h
  case h_2=>cases h
  rename_i s1 f h1;cases O:cM ops (cJ ops) k f fs with
  |false=>rw[O]at h;cases h
  |true=>
   rw[O]at h
   simp only[cond_true]at h
   have⟨v,F⟩:=stepD_fact an hw h1
   have a6:WF s1.heap:=λb hb=>by rw[F.far b hb];exact hw b (a0i F.next hb)
   have hk:k<J ops.toList:=by simp;omega
   have ar:=a0O hk
   rw[hd]at ar
   injection ar with e1 e2
   have a5:ops[k]?=some x:=by rw[←Array.getElem?_toList,a08 hk,←e1]
   have⟨st,vl,nf,g1,g2,g3,g4,g5,g6,g7⟩:=jR an os (k+1) ((k,f)::fs) s1 s' e2.symm M h a6
   have al: ∀(l:List (Nat×Inf)),cM ops (cJ ops) k f l=true->∀q∈l,aY (cJ ops) q.1 k=true\/dZ q.2 f=true\/stst ops q.1 k q.2 f=true:=by
    intro l;induction l with
    |nil=>intro _ q O;simp at O
    |cons p l ih=>
     intro hl q O
     have⟨pj,pg⟩:=p
     simp only[cM,a04,a0E]at hl
     rcases a0n.1 O with rfl|O
     ·exact hl.1
     exact ih hl.2 q O
   refine⟨λj=>if j<=k then s else st j,λj=>if j<=k then v else vl j,λj=>if j<=k then f else nf j,by simp,?_,λj T=>?_,λj T=>?_,λj o T U=>?_,λj T Z q aA=>?_,λi j hi ax Z=>?_⟩
   ·simp only[show ¬(ops.size<=k) by omega,if_false];exact g2
   ·simp only[show ¬(j<=k) by omega,show ¬(j+1<=k) by omega,if_false];exact g3 j T
   ·by_cases E:j<=k
    ·simp only[E,if_true];exact hw
    simp only[E,if_false];exact g4 j M
   ·by_cases E:j=k
    ·subst E;rw[a5]at U;injection U with U;subst U;simp only[a07,if_true,show ¬(j+1<=j) by omega,if_false,g1];exact F
    simp only[show ¬(j<=k) by omega,show ¬(j+1<=k) by omega,if_false];exact g5 j o M U
   ·by_cases E:j=k
    ·subst E;simp only[a07,if_true];exact al fs O q aA
    simp only[show ¬(j<=k) by omega,if_false];exact g6 j M Z q (a0c _ aA)
   by_cases a3:i=k
   ·subst a3;simp only[a07,if_true,show ¬(j<=i) by omega,if_false];exact g6 j M Z (i,f) (by simp)
   simp only[show ¬(i<=k) by omega,show ¬(j<=k) by omega,if_false]
   exact g7 i j M ax Z
theorem region_sound(al:e9 P G cf){id:Nat}{O s E}(h:cg P G cf ops O s=some E){μ a w Q}
  (a2:WF s.heap) (ht:TRel μ s.tmps s.size a.tmps) (hG:GRel μ G) (hw:WRel μ s.heap w) (an: ∀b l,μ b=some l->b<s.heap.next\/E.heap.next<=b)
  (hQ: ∀μ' w' U,Post μ s.heap w μ' E.heap w'->TRel μ' E.tmps E.size U.tmps->U.defers=a.defers->Q .normal U w'):(Code.region id ops O).wp P Q a w:=by
 have ar: ∀b,s.heap.next<=b->b<E.heap.next->μ b=none:=by
  intro b h1 h2;cases hb:μ b with
  |none=>rfl
  |some l=>rcases an b l hb with h3|h3<;>omega
 unfold cg at h
 cases O with
 |false=>
  simp only[cond_false]at h
  refine wp_region ?_
  rw[List.range_eq_range']
  have:=kU al ops.toList 0 s E V h μ a w a2 ht hG hw ar (Q:=Q) hQ
  simpa using this
 |true=>
  simp only[cond_true]at h
  cases hq:(jU ops&&P.follows .mixedOrders) with
  |false=>rw[hq]at h;cases h
  |true=>
   rw[hq]at h
   simp only[cond_true]at h
   simp only[a04]at hq
   have⟨st,vl,nf,Z,g2,g3,g4,g5,_,g7⟩:=jR al ops.toList 0 [] s E V (by simp) h a2
   have T:Trace P G cf ops st vl nf:=⟨λk o ho=>g5 k o (a0h _) ho,g3,λj k a7 hk=>g7 j k (a0h _) a7 hk,regOK_facts hq.1,λk=>g4 k (a0h _)⟩
   refine wp_region_any hq.2 ?_
   rw[World.drew_eq]
   have I:=inv_start (a:=a) (w:=w.drew) (μ0:=μ) T (by rw[Z];exact ht) (by rw[Z];exact hw.drew) (by rw[Z,g2];exact an) (jj (Array.replicate ops.size false)) (λk=>by
    unfold jj;simp[a0Q,Array.getElem?_replicate];split<;>rfl)
   refine any_sound al T hG (λS μ' U w' hS I'=>?_) _ _ μ a _ (by simp) (cnt_le _) I
   have⟨hp,a1,a6⟩:=inv_end T hS I'
   rw[Z,g2]at hp
   rw[g2]at a1
   refine hQ μ' w' U ((Post.drew hw).trans hp (a07 _) ?_) a1 a6
   have:=T.monoL (a0h ops.size)
   rwa [Z,g2]at this
end
open Go.RowKit
def Ex.toExit:Ex->Exit
 | .normal=> .normal
 | .exit id=> .exit id
 | .ret=> .ret
def LoopWp(P:Program)(c:Code)(Q:Exit->Act->World->Prop)(a:Act)(w:World):Prop:=
 ∀(b:Frame) (k:List Item) (cs:List Frame),∃e E w',Q e E w'/\Arrives P (lone (b.at a (.code c:: .inLoop c::k)) cs w) b k cs e E w'
theorem LoopWp.wp{P c Q a w}(h:LoopWp P c Q a w):(Code.loop c).wp P Q a w:=
 λb k cs=>let⟨e,a',w',q,r⟩:=h b k cs;⟨e,a',w',q,.of_steps (.one step_loop) r⟩
theorem LoopWp.round{P c Q a w}(h:c.wp P (Exit.then (LoopWp P c Q) Q) a w):LoopWp P c Q a w:=by
 intro b k cs;have⟨e,Z,w₁,O,E⟩:=h b (.inLoop c::k) cs;cases e with
 |normal=>
  have⟨e₂,a₂,w₂,U,T⟩:=O b k cs
  exact⟨_,_,_,U,.of_steps (Steps.trans E (.one step_inLoop)) T⟩
 |exit id=>exact⟨_,_,_,O,.pass V (λ_ _=> .inl (by simp)) E⟩
 |goto l=>exact⟨_,_,_,O,.pass V (λ_ _=> .inl (by simp)) E⟩
 |ret=>exact⟨_,_,_,O,.pass V (λ_ _=> .inl (by simp)) E⟩
 |panic ch=>exact⟨_,_,_,O,.pass V (λ_ _=> .inl (by simp)) E⟩
 |outgrown=>exact⟨_,_,_,O,.pass V (λ_ _=> .inl (by simp)) E⟩
def Wp(P:Program)(c:Code)(Q:Exit->Act->World->Prop)(a:Act)(w:World):Prop:=
 match c with
 | .loop b=>LoopWp P b Q a w
 |c=>c.wp P Q a w
theorem Wp.wp{P c Q a w}(h:Wp P c Q a w):c.wp P Q a w:=by cases c<;>first|exact LoopWp.wp h|exact h
def After(μ:Emb)(s:St)(w:World)(e:Ex)(E:St):Exit->Act->World->Prop:=λT O U=>
 T=e.toExit/\O.defers=[]/\∃μ',Post μ s.heap w μ' E.heap U/\TRel μ' E.tmps E.size O.tmps
def ExOK(P:Program)(G:Nat)(ex:Code->St->Option (Ex×St)):Prop:= ∀c s e E,ex c s=some (e,E)->WF s.heap->Ext s.heap E.heap/\
 ∀μ a w,a.defers=[]->TRel μ s.tmps s.size a.tmps->GRel μ G->WRel μ s.heap w->(∀b,s.heap.next<=b->b<E.heap.next->μ b=none)->Wp P c (After μ s w e E) a w
section
variable {P:Program} {G:Nat}
theorem nQ{μ E:Emb}{H H1 O:Heap}{w w1:World}(hp:Post μ H w E H1 w1)(T:H.next<=H1.next)(hf: ∀b,H.next<=b->b<O.next->μ b=none): ∀b,H1.next<=b->b<O.next->E b=none:=by
 intro b U Z;cases hb:E b with
 |none=>rfl
 |some l=>
  rcases hp.dom b l hb with h|⟨_,h⟩
  ·rw[hf b (a0i T U) Z]at h;cases h
  omega
theorem After.trans{μ μ1 s E U w w1 e}(hp:Post μ s.heap w μ1 E.heap w1)(h1:s.heap.next<=E.heap.next)(h2:E.heap.next<=U.heap.next):
  ∀T O Z,After μ1 E w1 e U T O Z->After μ s w e U T O Z:=by
 rintro T O Z ⟨he,hd,μ2,hp2,ht⟩
 exact⟨he,hd,μ2,hp.trans hp2 h1 h2,ht⟩
theorem region_ext{cf}(al:e9 P G cf){ops O s E}(Z:WF s.heap)(h:cg P G cf ops O s=some E):Ext s.heap E.heap:=by
 unfold cg at h;cases O with
 |false=>exact kE al _ _ _ Z h
 |true=>
  simp only[cond_true]at h
  cases U:(jU ops&&P.follows .mixedOrders) with
  |false=>rw[U]at h;cases h
  |true=>
   rw[U]at h
   simp only[cond_true]at h
   have key: ∀(l:List Oper) (k:Nat) (fs:List (Nat×Inf)) (s E:St),WF s.heap->bz P G cf ops k fs l s=some E->Ext s.heap E.heap:=by
    intro l;induction l with
    |nil=>intro k fs s E _ h;simp only[bz,a01]at h;subst h;exact Ext.refl _
    |cons o os ih=>
     intro k fs s E Z h
     unfold bz at h
     split at h
     case h_2=>cases h
     rename_i s1 f T
     cases U:cM ops (cJ ops) k f fs with
     |false=>rw[U]at h;cases h
     |true=>
      rw[U]at h
      simp only[cond_true]at h
      have e1:Ext s.heap s1.heap:=by
       unfold ji at T;split at T
       case h_2=>cases T
       rename_i t ax;simp only[a01,a05]at T;obtain⟨rfl,_⟩:=T;have e0:=lK al (s:={s with heap:={s.heap with log:=[]}}) Z ax;have⟨d,hd,hs⟩:=e0.log;refine⟨e0.next,⟨_,V,λb hb hn=>?_⟩,e0.far⟩;refine hs b hb λhm=>hn (gE.2 ⟨?_,hb⟩)
       rw[hd,a0k];exact hm
      exact e1.trans (ih _ _ _ _ (Z.ext e1) h)
   exact key _ _ _ _ _ Z h
theorem execC_ok{rec_:Code->St->Option (Ex×St)}{cf:cT}(bb:ExOK P G rec_)(a9:e9 P G cf):ExOK P G (fQ P G rec_ cf):=by
 intro c;induction c with
 |skip=>
  intro s e s' h hw
  rw[nV]at h
  simp only[a01,a05]at h
  obtain⟨rfl,rfl⟩:=h
  exact⟨Ext.refl _,λμ a w hd O T Z _=>wp_skip ⟨V,hd,μ,Post.refl Z,O⟩⟩
 |region id ops draw=>
  intro s e s' h hw
  rw[iu]at h
  unfold eS at h
  split at h
  ·rename_i s1 h1;simp only[a01,a05]at h;obtain⟨rfl,rfl⟩:=h;refine⟨region_ext a9 hw h1,λμ a w hd O T Z hf=>?_⟩;refine region_sound a9 h1 hw O T Z (λb l hb=>?_) λμ' w' a' hp bl bf=>⟨V,bf.trans hd,μ',hp,bl⟩
   rcases a0p b s.heap.next with h2|h2
   ·exact .inl h2
   right;rcases a0p b s1.heap.next with h3|h3
   ·rw[hf b h2 h3]at hb;cases hb
   exact h3
  cases h
 |seq x y ihx ihy=>
  intro s e s' h hw
  rw[mQ]at h
  cases hx:fQ P G rec_ cf x s with
  |none=>rw[hx]at h;cases h
  |some p=>
   obtain⟨e1,s1⟩:=p
   obtain⟨E,U⟩:=ihx s e1 s1 hx hw
   rw[hx]at h
   cases e1 with
   |normal=>
    simp only[iw]at h
    obtain⟨ax,a6⟩:=ihy s1 e s' h (hw.ext E)
    refine⟨E.trans ax,λμ a w hd O T Z hf=>wp_seq ?_⟩
    refine wp_mono (U μ a w hd O T Z (λb h1 h2=>hf b h1 (a11 h2 ax.next))).wp ?_
    rintro e2 a2 w2 ⟨rfl,hd2,μ2,hp2,ht2⟩
    exact wp_mono (a6 μ2 a2 w2 hd2 ht2 (T.ac hp2.ext) hp2.wrel (nQ hp2 E.next hf)).wp (After.trans hp2 E.next ax.next)
   |exit i=>
    simp only[iw,a01,a05]at h
    obtain⟨rfl,rfl⟩:=h
    refine⟨E,λμ a w hd O T Z hf=>wp_seq ?_⟩
    refine wp_mono (U μ a w hd O T Z hf).wp ?_
    rintro e2 a2 w2 ⟨rfl,hrest⟩
    exact⟨V,hrest⟩
   |ret=>
    simp only[iw,a01,a05]at h
    obtain⟨rfl,rfl⟩:=h
    refine⟨E,λμ a w hd O T Z hf=>wp_seq ?_⟩
    refine wp_mono (U μ a w hd O T Z hf).wp ?_
    rintro e2 a2 w2 ⟨rfl,hrest⟩
    exact⟨V,hrest⟩
 |cond c x y ihx ihy=>
  intro s e s' h hw
  rw[kL]at h
  cases hq:bc G c with
  |false=>rw[hq]at h;cases h
  |true=>
   rw[hq]at h
   simp only[cond_true]at h
   unfold nY at h
   split at h
   ·rename_i t hv;have a7: ∀(μ:Emb) (a:Act),TRel μ s.tmps s.size a.tmps->GRel μ G->a.eval c= .bool t:=by
     intro μ a O T;have:=eval_of T hq (tm:=s.tmps) (a:=a) λk _=>O.2 k
     rw[hv]at this;exact this.bool_inv
    cases t with
    |true=>
     obtain⟨E,U⟩:=ihx s e s' h hw
     exact⟨E,λμ a w hd O T Z hf=>wp_cond_true (a7 μ a O T) (U μ a w hd O T Z hf).wp⟩
    |false=>
     obtain⟨E,U⟩:=ihy s e s' h hw
     exact⟨E,λμ a w hd O T Z hf=>wp_cond_false (a7 μ a O T) (U μ a w hd O T Z hf).wp⟩
   cases h
 |block id x ih=>
  intro s e s' h hw
  rw[jC]at h
  cases hx:fQ P G rec_ cf x s with
  |none=>rw[hx]at h;cases h
  |some p=>
   obtain⟨e1,s1⟩:=p
   obtain⟨E,U⟩:=ih s e1 s1 hx hw
   rw[hx]at h
   cases e1 with
   |normal=>
    simp only[dT,a01,a05]at h
    obtain⟨rfl,rfl⟩:=h
    refine⟨E,λμ a w hd O T Z hf=>wp_block ?_⟩
    refine wp_mono (U μ a w hd O T Z hf).wp ?_
    rintro e2 a2 w2 ⟨rfl,hrest⟩
    exact⟨V,hrest⟩
   |exit i=>
    simp only[dT]at h
    cases hb:Nat.beq i id with
    |true=>
     rw[hb]at h
     simp only[cond_true,a01,a05]at h
     obtain⟨rfl,rfl⟩:=h
     have hi:i=id:=a0a hb
     subst hi
     refine⟨E,λμ a w hd O T Z hf=>wp_block ?_⟩
     refine wp_mono (U μ a w hd O T Z hf).wp ?_
     rintro e2 a2 w2 ⟨rfl,hrest⟩
     simp only[Ex.toExit,Exit.inBlock,if_true]
     exact⟨V,hrest⟩
    |false=>
     rw[hb]at h
     simp only[cond_false,a01,a05]at h
     obtain⟨rfl,rfl⟩:=h
     have hi: ¬i=id:=λe=>by subst e;rw[a0Y]at hb;cases hb
     refine⟨E,λμ a w hd O T Z hf=>wp_block ?_⟩
     refine wp_mono (U μ a w hd O T Z hf).wp ?_
     rintro e2 a2 w2 ⟨rfl,hrest⟩
     simp only[Ex.toExit,Exit.inBlock,hi,if_false]
     exact⟨V,hrest⟩
   |ret=>
    simp only[dT,a01,a05]at h
    obtain⟨rfl,rfl⟩:=h
    refine⟨E,λμ a w hd O T Z hf=>wp_block ?_⟩
    refine wp_mono (U μ a w hd O T Z hf).wp ?_
    rintro e2 a2 w2 ⟨rfl,hrest⟩
    exact⟨V,hrest⟩
 |loop x ih=>
  intro s e s' h hw
  rw[kK]at h
  cases hx:fQ P G rec_ cf x s with
  |none=>rw[hx]at h;cases h
  |some p=>
   obtain⟨e1,s1⟩:=p
   obtain⟨E,U⟩:=ih s e1 s1 hx hw
   rw[hx]at h
   cases e1 with
   |normal=>
    simp only[iw]at h
    obtain⟨ax,a6⟩:=bb (.loop x) s1 e s' h (hw.ext E)
    refine⟨E.trans ax,λμ a w hd O T Z hf=>LoopWp.round ?_⟩
    refine wp_mono (U μ a w hd O T Z (λb h1 h2=>hf b h1 (a11 h2 ax.next))).wp ?_
    rintro e2 a2 w2 ⟨rfl,hd2,μ2,hp2,ht2⟩
    have hl:LoopWp P x (After μ2 s1 w2 e s') a2 w2:=a6 μ2 a2 w2 hd2 ht2 (T.ac hp2.ext) hp2.wrel (nQ hp2 E.next hf)
    intro b k cs
    obtain⟨e3,a3,w3,q,r⟩:=hl b k cs
    exact⟨e3,a3,w3,After.trans hp2 E.next ax.next _ _ _ q,r⟩
   |exit i=>
    simp only[iw,a01,a05]at h
    obtain⟨rfl,rfl⟩:=h
    refine⟨E,λμ a w hd O T Z hf=>LoopWp.round ?_⟩
    refine wp_mono (U μ a w hd O T Z hf).wp ?_
    rintro e2 a2 w2 ⟨rfl,hrest⟩
    exact⟨V,hrest⟩
   |ret=>
    simp only[iw,a01,a05]at h
    obtain⟨rfl,rfl⟩:=h
    refine⟨E,λμ a w hd O T Z hf=>LoopWp.round ?_⟩
    refine wp_mono (U μ a w hd O T Z hf).wp ?_
    rintro e2 a2 w2 ⟨rfl,hrest⟩
    exact⟨V,hrest⟩
 |exit id=>
  intro s e s' h hw
  rw[nW]at h
  simp only[a01,a05]at h
  obtain⟨rfl,rfl⟩:=h
  exact⟨Ext.refl _,λμ a w hd O T Z _=>wp_exit ⟨V,hd,μ,Post.refl Z,O⟩⟩
 |ret=>
  intro s e s' h hw
  rw[execC_ret]at h
  simp only[a01,a05]at h
  obtain⟨rfl,rfl⟩:=h
  exact⟨Ext.refl _,λμ a w hd O T Z _=>wp_ret ⟨V,hd,μ,Post.refl Z,O⟩⟩
 |rangeFunc f ps x y _ _=>intro s e s' h;cases h
 |scope x _=>intro s e s' h;cases h
 |label l=>intro s e s' h;cases h
 |goto l=>intro s e s' h;cases h
 |refuse m=>intro s e s' h;cases h
theorem jG: ∀(args:List Value) (i:Nat) (t:Tr Value) (k:Nat),dC (gX i args t) k=if i<=k/\k<i+J args then N args (k-i) undef else dC t k
 | [],i,t,k=>by rw[if_neg (by simp only[a03];omega)];rfl
 |v::l,i,t,k=>by
  simp only[gX];rw[jG l (i+1) _ k];by_cases E:i+1<=k/\k<i+1+J l
  ·rw[if_pos E,if_pos (by simp only[a02];omega),show k-i=(k-(i+1))+1 by omega];rfl
  rw[if_neg E,io];by_cases O:i=k
  ·subst O;rw[if_pos V,if_pos (by simp only[a02];omega)];simp
  rw[if_neg O,if_neg (by simp only[a02];omega)]
theorem args_rel{μ args E}(h:LRel μ args E.toList)(n:Nat):
  TRel μ (gX 0 args .nil) (Nat.max (J args) n) (E++Array.replicate (n-E.size) undef):=by
 have U:J args=E.size:=by rw[h.1];simp
 refine⟨by simp only[Array.size_append,Array.size_replicate];rw[U];show _=max _ _;omega,λi=>?_⟩
 rw[jG]
 simp only[a0h,true_and,a0x,Nat.sub_zero,lget_nil,a0Q,Array.getElem?_append]
 by_cases hi:i<J args
 ·rw[if_pos hi,if_pos M];have O:args[i]?=some args[i]:=a08 hi;have⟨v',T,Z⟩:=h.get O;have:E[i]?=some v':=by simpa using T
  rw[this,a09,O];exact Z
 rw[if_neg hi,if_neg M]
 rw[Array.getElem?_replicate]
 split
 ·exact VRel.undef
 exact VRel.undef
theorem jo{μ s a w}(O:TRel μ s.tmps s.size a)(Z:WRel μ s.heap w): ∀(rs:List ResultVar) (l:List Value),dz P s rs=some l->
  ∃l',(rs.mapM (m:=Sem) fun| .tmp t=>Pure.pure (a.getD t undef)| .cell x t=>do loadVar t (←asAddr (a.getD x undef))).run P w= .ok l' w/\LRel μ l l'
 | [],l,h=>by simp only[dz,a01]at h;subst h;exact⟨[],by simp,.nil⟩
 | .tmp t::rs,l,h=>by
  unfold dz at h;split at h
  ·rename_i l1 T;injection h with h;subst h;have⟨l',E,U⟩:=jo O Z rs l1 T;exact⟨_,by simp only[List.mapM_cons,Sem.run_bind,Sem.run_pure,Result.andThen_ok,E],.cons (O.2 t) U⟩
  cases h
 | .cell x t::rs,l,h=>by
  unfold dz at h;split at h
  ·rename_i p hp;split at h
   ·rename_i v l1 hv T;injection h with h;subst h;have⟨l',E,U⟩:=jo O Z rs l1 T;have hx:=O.2 x;rw[hp]at hx;have⟨b,o,sp⟩:=p;have ar:sp=none:=hx.ptr_some.1;subst ar;have⟨l0,hμ,aA⟩:=hx.ptr_inv;have⟨v',an,ax⟩:=jv (P:=P) Z hμ hv;exact⟨_,by simp only[List.mapM_cons,Sem.run_bind,aA,show(asAddr (Value.pointer (some ⟨l0.c,l0.sh+o,none⟩))).run P w= .ok ⟨l0.c,l0.sh+o,none⟩ w from V,Sem.run_pure,Result.andThen_ok,an,E],.cons ax U⟩
   cases h
  cases h
theorem result_rel{μ l l'}(h:LRel μ l l'):VRel μ (fZ l) (if h:l'.toArray.size=1 then l'.toArray[0] else .tuple l'.toArray):=by
 match l,l',h with
 | [],l',h=>
  have:=h.nil_left
  subst this
  exact .tuple _ _ V (λi v v' h=>by simp at h)
 | [v],l',h=>
  obtain⟨v',t,rfl,O,E⟩:=h.cons_left
  have:=E.nil_left
  subst this
  exact O
 |v::u::r,l',h=>
  obtain⟨v',t,rfl,O,E⟩:=h.cons_left
  obtain⟨u',Z,rfl,U,T⟩:=E.cons_left
  simp only[List.size_toArray,a02,show ¬(J Z+1+1=1) by omega,dite_false]
  have:=LRel.cons O (LRel.cons U T)
  exact .tuple _ _ (by simpa[fZ] using this.1) (by simpa[fZ] using this.2)
theorem oI{μ s fn a w}(T:TRel μ s.tmps s.size a)(U:WRel μ s.heap w){l}(h:dz P s fn.results.toList=some l):
  ∃v',(results fn a).run P w= .ok v' w/\VRel μ (fZ l) v':=by
 have⟨l',O,E⟩:=jo (P:=P) T U _ l h
 refine⟨_,?_,result_rel E⟩
 unfold results
 rw[Array.mapM_eq_mapM_toList]
 simp only[Sem.run_bind,Sem.run_map]
 have e: ∀(r:Result (List Value)),r= .ok l' w->((r.andThen λa w'=>(.ok a.toArray w':Result (Array Value))).andThen λvs w'=>((Pure.pure (if h:vs.size=1 then vs[0] else Value.tuple vs):Sem Value).run P w'))=
   .ok (if h:l'.toArray.size=1 then l'.toArray[0] else .tuple l'.toArray) w:=by
  intro r E;subst E;rfl
 exact e _ O
theorem callC_ok{ex}(al:ExOK P G ex):e9 P G (pH P ex):=by
 intro f args H v H' h ax;unfold pH at h;split at h
 case h_2=>cases h
 rename_i fn an;split at h
 case h_2=>cases h
 rename_i c hc;have Z: ∀e s,(e=Ex.normal\/e=Ex.ret)->ex c {tmps:=gX 0 args .nil,size:=Nat.max (J args) fn.ntmps,heap:=H}=some (e,s)->
   (match dz P s fn.results.toList with|some l=>some (fZ l,s.heap)|none=>none)=some (v,H')->Ext H H'/\
   ∀μ w (E:Array Value),LRel μ args E.toList->GRel μ G->WRel μ H w->(∀b,H.next<=b->b<H'.next->μ b=none)->
    Calls P f E w λe w'=> ∃μ' v',e= .returned v'/\VRel μ' v v'/\Post μ H w μ' H' w':=by
  intro e s he U O
  split at O
  ·rename_i l hl;cases O;have⟨ext,aA⟩:=al c _ e s U ax;refine⟨ext,λμ w E ha hG hw hf=>?_⟩;refine calls_of_wp an hc ?_;refine wp_mono (aA μ _ w V (args_rel ha _) hG hw hf).wp ?_;rintro e2 a2 w2 ⟨rfl,hd,μ',hp,ht⟩;have⟨v',T,hr⟩:=oI (P:=P) (fn:=fn) ht hp.wrel hl;rcases he with rfl|rfl
   ·exact⟨hd,v',T,μ',v',V,hr,hp⟩
   exact⟨hd,v',T,μ',v',V,hr,hp⟩
  cases O
 split at h
 ·rename_i s U;exact Z _ s (.inl V) U h
 ·rename_i s U;exact Z _ s (.inr V) U h
 cases h
def iG(P:Program)(G:Nat)(K:bJ):Prop:= ∀f args H v,K f args H=some v->args.all noA2=true/\noA2 v=true/\∀(μ:Emb) (E:Array Value) (w:World),E.toList=args->GRel μ G->WRel μ H w->
 Calls P f E w λe w'=>e= .returned v/\Below w.heap.size w w'
theorem LRel.eq2{μ:Emb}{l l':List Value}(h:LRel μ l l')(E:l.all noA2=true):l'=l:=by
 induction l generalizing l' with
 |nil=>exact h.nil_left
 |cons v l ih=>
  obtain⟨v',U,rfl,T,O⟩:=h.cons_left
  simp only[a0l,a04]at E
  rw[T.eq2 E.1,ih O E.2]
theorem LRel.refl2{μ:Emb}{l:List Value}(h:l.all noA2=true):LRel μ l l:=by refine⟨V,λi v v' O E=>?_⟩;rw[O]at E;injection E with E;subst E;exact VRel.refl2 (a0r.1 h v (a0w O))
theorem callK_ok{K:bJ}{cf:cT}(hK:iG P G K)(U:e9 P G cf):e9 P G (mX K cf):=by
 intro f args H v H' h an;unfold mX at h;split at h
 ·rename_i u hu;simp only[a01,a05]at h;obtain⟨rfl,rfl⟩:=h;obtain⟨h1,h2,h3⟩:=hK f args H u hu;refine⟨Ext.refl _,λμ w ar ha hG T hf=>?_⟩;refine(h3 μ _ w (ha.eq2 h1) hG T).mono ?_;rintro e w' ⟨rfl,hb⟩;refine⟨μ,u,V,VRel.refl2 h2,⟨λ_ _ h=>h,λ_ _ h=> .inl h,hb.size,hb.os,hb.tape,hb.output,λc hc _=>hb.block c hc,λb l o E O h6=> .inr ⟨b,l,o,E,O,h6,id,V⟩,⟨λb l o E O=>?_,T.inj⟩⟩⟩;have hr:=T.obj b l o E O;exact hr.keep (λ_ _ h=>h) hb.size (λZ=>hb.block l.c (hr.lt Z))
 exact U f _ H v H' h an
theorem exec_ok{K}(E:iG P G K): ∀n,ExOK P G (nX P G K n)
 |0=>λc s e O h=>by cases h
 |n+1=>execC_ok (exec_ok E n) (callK_ok E (callC_ok (exec_ok E n)))
theorem call_ok{K:bJ}(E:iG P G K)(n:Nat):e9 P G (call P G K n):=callK_ok E (callC_ok (exec_ok E n))
theorem none_ok:iG P G noneKnown:=λf args H v h=>by cases h
theorem pG{K:bJ}(Z:iG P 0 K){n:Nat}{f:FuncId}{args:List Value}{v:Value}{H':Heap}(ha:args.all noA2=true)(hv:noA2 v=true)
  (h:call P 0 K n f args Heap.empty=some (v,H')) (E:Array Value) (w:World) (hc:E.toList=args):
  Calls P f E w λe w'=>e= .returned v/\Below w.heap.size w w':=by
 have U:WF Heap.empty:=λb _=>rfl
 obtain⟨_,O⟩:=call_ok (G:=0) Z n f args Heap.empty v H' h U
 have T:WRel (λ_=>none) Heap.empty w:=⟨λb l o hb=>(by cases hb),λb1 b2 l1 l2 o1 o2 _ hb=>(by cases hb)⟩
 refine(O _ w _ (by rw[hc];exact LRel.refl2 ha) (λg hg=>by omega) T (λ_ _ _=>rfl)).mono ?_
 rintro e w' ⟨μ',v',rfl,hr,hp⟩
 rw[hr.eq2 hv]
 refine⟨V,hp.os,hp.tape,hp.out,hp.grow,λk hk=>hp.keep k hk λb l o hb=>by cases hb⟩
end
open Go.RowKit
theorem walk_of_eval{P K}(O:iG P 0 K){n f}(h:saysTrue (call P 0 K n f [] Heap.empty)=true)(w:World):
  Calls P f #[] w λe w'=>e= .returned (.bool true)/\Below w.heap.size w w':=by
 revert h
 cases hc:call P 0 K n f [] Heap.empty with
 |none=>intro h;cases h
 |some r=>
  have⟨v,H'⟩:=r
  intro h
  have T:v= .bool true:=by
   unfold saysTrue at h;split at h
   ·rename_i E;simp only[a01,a05]at E;exact E.1
   cases h
  subst T
  exact pG O V V hc #[] w V
open Go.WideShapes Go.ChangeShapes in
theorem oK{H:Type}{enc:TypeId×Value->H}{P:Program}{f:Func}{s:ChangeSpec}{T a5 ar a4:Bool}{W W':World}{args:Array Value}{v:Value}{ds gs:List (DataW H)}{E pa pv:List MemPlace}
  (hW:DataW.Whole enc P f.params.toList s.vars T W args.toList ds gs E)
  (a2: ∀(b:Nat) (sp:Nat->Bool) (hd:Bool),DataW.TrodAll enc P W' b sp hd f.resultTypes.toList (v.resultList f.resultTypes.size) (s.fn H (ds++gs)).results [])
  (U: ∀sp:Nat->Bool,(∀p∈E,sp p.block=true)->DataW.TrodAll enc P W' 0 sp true f.params.toList args.toList (s.fn H (ds++gs)).args pa)
  (al: ∀sp:Nat->Bool,(∀p∈E,sp p.block=true)->DataW.TrodVars enc P W' sp s.vars (s.fn H (ds++gs)).vars pv)
  (Z:E=pa++pv) (hb:Below W.heap.size W W')
  (bb: ∀(j:Nat) (t:TypeId) (r:Value),f.resultTypes[j]?=some t->(v.resultList f.resultTypes.size)[j]?=some r->Value.okWide P W' .any 0 t r):
  s.post enc P f T a5 ar a4 W args v W':=by
 have a1: ∀p∈E,(λb=>decide (b<W.heap.size)) p.block=true:=λp O=>by simpa using hW.lt p O
 have ba: ∀p∈E,p.block<W.heap.size:=λp O=>by simpa using hW.lt p O
 refine⟨ds,gs,E,[],pa,pv,hW,a2 _ _ _,U _ a1,al _ a1,World.keptBut_mono (λp O=>⟨O,?_⟩) (hb.frame (· ∈E)),λ_=>?_⟩
 ·rw[Z,a0f]at O;exact Or.inr O
 obtain⟨_,_,_,_,_,hz,hn⟩:=hW
 refine⟨bb,_,_,([]++pa)++pv,⟨[]++pa,pv,trodAll_append (U _ (λ_ _=>rfl)) (a2 _ _ _),al _ (λ_ _=>rfl),V,?_,?_⟩,?_⟩
 ·intro b off O;have a7:MemPlace.cell b off∈E:=by rw[Z];simpa using O
  have h1:=hb.frozen (p:=⟨b,off,none⟩) (ba _ a7);have h2:=hz b off a7;first|(rw[h1];exact h2)|(exact h1.trans h2)|(simp_all)
 ·intro ha;have:=hn ha;rw[Z]at this;simpa using this
 intro p O _
 rw[Z]
 simpa using O
end Go.R
noncomputable section
namespace Go.R
open List renaming getD→N,length→J
open Go.RowKit
section
variable {P:Program} {w:World} {base:Nat} {held:Bool} {enc:TypeId×Value->Unit}
end
end Go.R
end
namespace Go.R
open List renaming getD→N,length→J
def CfLe(cf cf':cT):Prop:= ∀f a H r,cf f a H=some r->cf' f a H=some r
def ExLe(ex E:Code->St->Option (Ex×St)):Prop:= ∀c s r,ex c s=some r->E c s=some r
section
variable {P:Program} {G:Nat} {cf cf':cT} {ops:Array Oper}
theorem step_mono(h:CfLe cf cf'){o s T}(hs:step P G cf ops o s=some T):step P G cf' ops o s=some T:=by
 unfold step at hs⊢;cases O:aX ops o s.tmps with
 |false=>rw[O]at hs;exact hs
 |true=>
  rw[O]at hs
  cases E:o.op.operands.toList.all (bc G) with
  |false=>rw[E]at hs;cases hs
  |true=>
   rw[E]at hs
   simp only[cond_true]at hs⊢
   split at hs
   ·exact hs
   ·exact hs
   ·split at hs
    ·rename_i v U hc;rw[h _ _ _ _ hc];exact hs
    cases hs
   cases hs
theorem jm(h:CfLe cf cf'): ∀(l:List Oper) (s E:St),hL P G cf ops l s=some E->hL P G cf' ops l s=some E
 | [],_,_,hs=>hs
 |o::l,s,E,hs=>by
  rw[cw]at hs⊢;split at hs
  ·rename_i t O;rw[step_mono h O];exact jm h l _ _ hs
  cases hs
theorem stepD_mono(h:CfLe cf cf'){o s r}(hs:ji P G cf ops o s=some r):ji P G cf' ops o s=some r:=by
 unfold ji at hs⊢;split at hs
 ·rename_i t E;rw[step_mono h E];exact hs
 cases hs
theorem fY(h:CfLe cf cf'): ∀(l:List Oper) (i:Nat) (fs:List (Nat×Inf)) (s s':St),bz P G cf ops i fs l s=some s'->bz P G cf' ops i fs l s=some s'
 | [],_,_,_,_,hs=>by unfold bz at hs⊢;exact hs
 |o::l,i,fs,s,s',hs=>by
  unfold bz at hs⊢;split at hs
  ·rename_i t f O;rw[stepD_mono h O];simp only;cases E:cM ops (cJ ops) i f fs with
   |false=>rw[E]at hs;cases hs
   |true=>rw[E]at hs;simp only[cond_true]at hs⊢;exact fY h l _ _ _ _ hs
  cases hs
theorem np(h:CfLe cf cf'){E s T}(hs:cg P G cf ops E s=some T):cg P G cf' ops E s=some T:=by
 unfold cg at hs⊢;cases E with
 |false=>exact jm h _ _ _ hs
 |true=>
  simp only[cond_true]at hs⊢
  cases O:jU ops&&P.follows .mixedOrders with
  |false=>rw[O]at hs;cases hs
  |true=>rw[O]at hs;simp only[cond_true]at hs⊢;exact fY h _ _ _ _ _ hs
theorem iP{r T k O}(Z: ∀x,r=some x->T=some x)(U: ∀s x,k s=some x->O s=some x){x}(h:iw r k=some x):iw T O=some x:=by
 cases E:r with
 |none=>rw[E]at h;cases h
 |some y=>
  rw[Z y E]
  rw[E]at h
  have⟨e,s⟩:=y
  cases e with
  |normal=>exact U _ _ h
  |exit i=>exact h
  |ret=>exact h
theorem lc{id r O}(T: ∀x,r=some x->O=some x){x}(h:dT id r=some x):dT id O=some x:=by
 cases E:r with
 |none=>rw[E]at h;cases h
 |some y=>rw[T y E];rw[E]at h;exact h
theorem execC_mono(h:CfLe cf cf'){ex T}(U:ExLe ex T)(c:Code): ∀(s:St) (x:Ex×St),fQ P G ex cf c s=some x->fQ P G T cf' c s=some x:=by
 induction c with
 |skip=>intro s x E;exact E
 |region id ops draw=>
  intro s x E
  rw[iu]at E⊢
  cases O:cg P G cf ops draw s with
  |none=>rw[O]at E;cases E
  |some t=>rw[np h O];rw[O]at E;exact E
 |seq a b iha ihb=>
  intro s x E
  rw[mQ]at E⊢
  exact iP (iha s) ihb E
 |cond c t e iht ihe=>
  intro s x E
  rw[kL]at E⊢
  cases O:bc G c with
  |false=>rw[O]at E;cases E
  |true=>
   rw[O]at E
   simp only[cond_true]at E⊢
   unfold nY at E⊢
   split at E
   ·rename_i b hb;cases b with
    |true=>exact iht s x E
    |false=>exact ihe s x E
   cases E
 |block id b ih=>
  intro s x E
  rw[jC]at E⊢
  exact lc (ih s) E
 |loop b ih=>
  intro s x E
  rw[kK]at E⊢
  exact iP (ih s) (U _) E
 |exit id=>intro s x E;exact E
 |ret=>intro s x E;exact E
 |_=>intro s x E;cases E
theorem od{ex E}(O:ExLe ex E):CfLe (pH P ex) (pH P E):=by
 intro f a H r h;unfold pH at h⊢;split at h
 ·split at h
  ·split at h
   ·rename_i s T;rw[O _ _ _ T];exact h
   ·rename_i s T;rw[O _ _ _ T];exact h
   cases h
  cases h
 cases h
theorem oc{K}(h:CfLe cf cf'):CfLe (mX K cf) (mX K cf'):=by
 intro f a H r E;unfold mX at E⊢;split at E
 ·exact E
 exact h _ _ _ _ E
theorem j3{K}: ∀n,ExLe (nX P G K n) (nX P G K (n+1))
 |0=>λc s r h=>by cases h
 |n+1=>λc s r h=>execC_mono (oc (od (j3 n))) (j3 n) c s r h
theorem j4{K n m}(h:n<=m):ExLe (nX P G K n) (nX P G K m):=by
 induction h with
 |refl=>exact λ_ _ _ h=>h
 |step _ ih=>exact λc s r h=>j3 _ c s r (ih c s r h)
theorem gG{K n m}(h:n<=m):CfLe (call P G K n) (call P G K m):=oc (od (j4 h))
end
end Go.R
