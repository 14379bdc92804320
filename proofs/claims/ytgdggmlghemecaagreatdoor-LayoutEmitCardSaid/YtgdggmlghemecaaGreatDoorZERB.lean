/-
The evaluator is sound: regions, code, calls, laws.
-/
import Derived.Test.YtgdggmlghemecaaGreatDoorZERA
import Derived.Below
import Derived.ChangeSame
import Derived.ChangeArms
namespace Go.R
structure Ext(H H':Heap):Prop where
 next:H.next<=H'.next
 log: ∃d,H'.log=d++H.log/\∀b,b<H.next->b∉d->H'.get b=H.get b
 far: ∀b,H'.next<=b->H'.get b=H.get b
theorem Ext.refl(H:Heap):Ext H H:=⟨a0d _,⟨[],V,fun _ _ _=>rfl⟩,fun _ _=>rfl⟩
theorem Ext.trans{H H1 N:Heap}(h:Ext H H1)(k:Ext H1 N):Ext H N:=by
 obtain⟨T,Z,g1⟩:=h.log;obtain⟨U,e2,g2⟩:=k.log;refine⟨a0e h.next k.next,⟨U++T,by rw[e2,Z,a0l],fun b A E=>?_⟩,fun b A=>?_⟩
 ·rw[a09,not_or]at E;rw[g2 b (a0U A h.next) E.1,g1 b A E.2]
 rw[k.far b A,h.far b (a0e k.next A)]
theorem Ext.push(H:Heap)(o:AObj):Ext H (H.push o):=by refine⟨by simp,⟨[],V,fun b A _=>Heap.get_push_ne H o M⟩,fun b A=>Heap.get_push_ne H o ?_⟩;simp at A;omega
theorem Ext.put{H:Heap}{b:Nat}(o:AObj)(E:b<H.next):Ext H (H.put b o):=by refine⟨a0d _,⟨[b],V,fun k _ A=>Heap.get_put_ne H o (fun e=>A (by simp[e]))⟩,fun k A=>Heap.get_put_ne H o ?_⟩;simp at A;omega
def WF(H:Heap):Prop:= ∀b,H.next<=b->H.get b=none
theorem WF.ext{H H':Heap}(h:WF H)(e:Ext H H'):WF H':=fun b A=>by rw[e.far b A];exact h b (a0e e.next A)
theorem WF.lt{H:Heap}(h:WF H){b:Nat}{o:AObj}(A:H.get b=some o):b<H.next:=by
 rcases a0k b H.next with hl|hl
 ·exact hl
 rw[h b hl]at A;cases A
section ext
variable {P:Program} {H H':Heap}
def ER(H:Heap){α:Type}(r:Option (α×Heap)):Prop:= ∀a H',r=some (a,H')->Ext H H'
theorem ER.none_{α:Type}:ER H (none:Option (α×Heap)):=fun _ _ h=>by cases h
theorem ER.some_{α:Type}{a:α}{H1:Heap}(h:Ext H H1):ER H (some (a,H1)):=fun _ _ e=>by injection e with e;injection e with _ e;subst e;exact h
theorem ER.same{α:Type}{a:α}:ER H (some (a,H)):=ER.some_ (Ext.refl H)
theorem ER.bif_{α:Type}{c:Bool}{x y:Option (α×Heap)}(h:ER H x)(k:ER H y):ER H (bif c then x else y):=by cases c<;>assumption
def EO(H:Heap)(r:Option Heap):Prop:= ∀H',r=some H'->Ext H H'
theorem EO.none_:EO H none:=fun _ h=>by cases h
theorem EO.some_{H1:Heap}(h:Ext H H1):EO H (some H1):=fun _ e=>by injection e with e;subst e;exact h
theorem EO.bif_{c:Bool}{x y:Option Heap}(h:EO H x)(k:EO H y):EO H (bif c then x else y):=by cases c<;>assumption
theorem ER.ovl_(r:Option Value):ER H (ovl r H):=by unfold ovl;split;exact ER.same;exact ER.none_
theorem ER.ovh_{r:Option (Value×Heap)}(h:ER H r):ER H (ovh r):=by
 unfold ovh;split
 ·rename_i v A;exact ER.some_ (h v A V)
 exact ER.none_
theorem ER.osk_{r:Option Heap}(h:EO H r):ER H (osk r):=by
 unfold osk;split
 ·rename_i A;exact ER.some_ (h A V)
 exact ER.none_
theorem ER.lift_(s:Sem Value):ER H (lift P s H):=by unfold lift;split;exact ER.same;exact ER.none_
theorem ER.plain_(ρ:Operand->Value)(o:Oper):ER H (bF P ρ o H):=by
 unfold bF;refine ER.bif_ ?_ ER.none_;split
 ·exact ER.bif_ ER.same ER.none_
 exact ER.none_
theorem i7(E:WF H)(a:Addr)(N:List Value):EO H (H.storeL a N):=by
 unfold Heap.storeL;split
 ·split
  ·rename_i A;exact EO.bif_ (EO.some_ (Ext.put _ (E.lt A))) EO.none_
  exact EO.none_
 exact EO.none_
theorem append_ext(E:WF H)(types:Array TypeId)(s x:Value):ER H (fW P types s x H):=by
 unfold fW;split
 case h_2=>exact ER.none_
 split
 case h_2=>exact ER.none_
 split
 ·exact ER.none_
 split
 case h_2=>exact ER.none_
 split
 ·exact ER.none_
 split
 ·exact ER.bif_ ER.same (ER.bif_ (ER.some_ (Ext.push _ _)) ER.none_)
 ·split
  ·rename_i T;refine ER.bif_ (ER.bif_ ER.same ?_) (ER.bif_ ?_ ER.none_)
   ·split
    ·rename_i N A;exact ER.some_ (i7 E _ _ N A)
    exact ER.none_
   split
   ·exact ER.none_
   split
   ·exact ER.some_ (Ext.push _ _)
   exact ER.bif_ (ER.some_ ((Ext.put .dead (E.lt T)).trans (Ext.push _ _))) ER.none_
  exact ER.none_
 exact ER.none_
theorem copy_ext(N:WF H)(types:Array TypeId)(d s:Value):ER H (ot P types d s H):=by
 unfold ot;split
 case h_2=>exact ER.none_
 split
 case h_2=>exact ER.none_
 split
 case h_2=>exact ER.none_
 refine ER.bif_ ER.same ?_;split
 ·split
  ·rename_i E A;exact ER.some_ (i7 N _ _ E A)
  exact ER.none_
 exact ER.none_
theorem aop_er(A:WF H)(ρ:Operand->Value)(o:Oper):ER H (aop P ρ o H):=by
 unfold aop;split
 ·exact ER.same
 ·exact ER.same
 ·unfold gm;split;exact ER.same;exact ER.none_
 ·unfold eG;split;exact ER.some_ (Ext.push _ _);exact ER.none_
 ·exact ER.some_ (Ext.push _ _)
 ·unfold gY;split;exact ER.lift_ _;exact ER.none_
 ·unfold bN;split
  ·refine ER.bif_ ?_ ER.none_;split
   ·exact ER.some_ (Ext.push _ _)
   exact ER.none_
  exact ER.none_
 ·unfold d9;split;exact ER.ovl_ _;exact ER.none_
 ·unfold eY;split
  ·split
   ·exact ER.bif_ (ER.osk_ (i7 A _ _)) ER.none_
   exact ER.none_
  exact ER.none_
 ·unfold opNil;split;exact ER.same;exact ER.same;exact ER.none_
 ·unfold aBin;split
  ·unfold binInt;split;exact ER.ovl_ _;exact ER.none_
  ·unfold binStr;split;exact ER.ovl_ _;exact ER.none_
  unfold nX;split
  ·exact ER.plain_ _ _
  ·exact ER.plain_ _ _
  intro a H' h;rw[(jh h).1];exact Ext.refl _
 ·unfold fS;split;exact ER.ovl_ _;exact ER.ovl_ _;exact ER.plain_ _ _
 ·exact ER.same
 ·refine ER.ovh_ ?_;unfold aMake;split
  ·split
   ·exact ER.bif_ (ER.some_ (Ext.push _ _)) ER.none_
   exact ER.none_
  exact ER.none_
 ·exact ER.ovl_ _
 ·exact ER.ovl_ _
 ·exact ER.ovl_ _
 ·exact ER.ovl_ _
 ·unfold lT;split;exact ER.ovl_ _;exact ER.lift_ _
 ·exact ER.ovl_ _
 ·unfold opCall;split
  ·unfold ou;split
   ·unfold bLen;split;exact ER.ovl_ _;exact ER.none_
   ·unfold bAppend;split;exact ER.ovh_ (append_ext A _ _ _);exact ER.none_
   ·unfold bCopy;split;exact ER.ovh_ (copy_ext A _ _ _);exact ER.none_
   ·exact ER.plain_ _ _
   ·exact ER.plain_ _ _
   exact ER.none_
  ·unfold fE;split;exact ER.same;exact ER.none_
  exact ER.none_
 ·unfold aUn;split
  ·split;exact ER.same;exact ER.none_
  exact ER.plain_ _ _
 exact ER.none_
theorem oe(A:WF H){ρ:Operand->Value}{o:Oper}{r:AN}(h:aop P ρ o H=some (r,H')):Ext H H':=aop_er A ρ o r H' h
end ext
section
variable {P:Program} {μ:Emb} {H H':Heap} {w:World}
theorem two_of{l:List Value}{a b:Value}{A:Array Value}(h:LRel μ l A.toList)(he:l=[a,b]): ∃E N,A= #[E,N]/\VRel μ a E/\VRel μ b N:=by subst he;obtain⟨E,t,U,ha,ht⟩:=h.cons_left;obtain⟨N,t2,Z,hb,T⟩:=ht.cons_left;have:=T.nil_left;subst this Z;exact⟨E,N,a1j.1 (by rw[U]),ha,hb⟩
theorem one_of{l:List Value}{a:Value}{A:Array Value}(h:LRel μ l A.toList)(U:l=[a]): ∃E,A= #[E]/\VRel μ a E:=by subst U;obtain⟨E,t,N,T,Z⟩:=h.cons_left;have:=Z.nil_left;subst this;exact⟨E,a1j.1 (by rw[N]),T⟩
theorem OpOK.of_value{s:Sem Next}{v v':Value}(h: ∀w,s.run P w= .ok (.value v') w)(E:WRel μ H w)(A:VRel μ v v'):OpOK P μ H w s (.val v) H:=
 ⟨.value v',w,μ,h w,Post.refl E,A⟩
theorem fC{ρ ρ':Operand->Value}{x:Option Operand}(h: ∀y,x=some y->VRel μ (ρ y) (ρ' y)):
  (∀v,x.map ρ=some v->∃v',x.map ρ'=some v'/\VRel μ v v')/\(x.map ρ=none->x.map ρ'=none):=by
 cases x with
 |none=>exact⟨fun v A=>by simp at A,fun _=>rfl⟩
 |some y=>exact⟨fun v A=>by simp at A;subst A;exact⟨_,V,h y V⟩,fun E=>by simp at E⟩
set_option maxHeartbeats 4000000 in
theorem gx{ρ ρ':Operand->Value}{o:Oper}{r:AN}(U: ∀x∈o.op.operands,VRel μ (ρ x) (ρ' x))(Z:WRel μ H w)
  (hf: ∀b,H.next<=b->b<H'.next->μ b=none) (h:aop P ρ o H=some (r,H')):OpOK P μ H w (execOp ρ' o) r H':=by
 cases hk:aY o.op with
 |true=>
  obtain⟨rfl,v,v',rfl,E,hr⟩:=kL hk U h
  exact OpOK.of_value E Z hr
 |false=>
  obtain⟨al,op,T,pos,after,aa⟩:=o
  cases op<;>simp only[aY,reduceCtorEq]at hk
  case alloc e=>
   have N:eG P e H=some (r,H'):=h
   have:=alloc_sound Z hf N
   exact this
  case box e x=>
   have N:some (AN.val (ptrTo H.next),aR H (ρ x).cells.toList none)=some (r,H'):=h
   simp only[a00,a05]at N
   obtain⟨rfl,rfl⟩:=N
   have:=box_sound (P:=P) (e:=e) Z (hf H.next (a0d _) (by simp[aR])) (U x (by simp[Op.operands]))
   exact this
  case buildSlice t n parts=>
   have N:bN P t n (dJ (fun p=>(p.1,ρ p.2)) parts.toList) H=some (r,H'):=h
   rw[ji]at N
   have:=jY (ps':=parts.map fun(i,x)=>(i,ρ' x)) Z hf (by simp) (fun i x x' h1 h2=>?_) N
   ·exact this
   simp only[a2e,a18,a2a]at h1 h2
   obtain⟨y,hy,rfl⟩:=h1
   obtain⟨z,hz,rfl⟩:=h2
   rw[hy]at hz;injection hz with hz;subst hz
   refine⟨V,U _ ?_⟩
   have:=a0m hy
   simp only[Op.operands,List.mem_toArray,a0v]
   exact⟨y,this,V⟩
  case load t a=>
   have N:d9 P t (ρ a) H=some (r,H'):=h
   have:=load_sound Z (U a (by simp[Op.operands])) N
   exact this
  case store t a x=>
   have N:eY P t (ρ a) (ρ x) H=some (r,H'):=h
   have:=store_sound Z (U a (by simp[Op.operands])) (U x (by simp[Op.operands])) N
   exact this
  case convert s d x=>
   have N:fS P ρ ⟨al,.convert s d x,T,pos,after,aa⟩ s d (ρ x) H=some (r,H'):=h
   exact nQ (o:=⟨al,.convert s d x,T,pos,after,aa⟩) Z V U N
  case makeSlice t l c=>
   have N:ovh (aMake P t (ρ l) (ρ c) H)=some (r,H'):=h
   have:=make_sound Z hf (U l (by simp[Op.operands])) (U c (by simp[Op.operands])) N
   exact this
  case slice t x lo hi mx=>
   obtain⟨a1,a2⟩:=fC (μ:=μ) (ρ:=ρ) (ρ':=ρ') (x:=lo) fun y hy=>U y (by subst hy;simp[Op.operands])
   obtain⟨b1,b2⟩:=fC (μ:=μ) (ρ:=ρ) (ρ':=ρ') (x:=hi) fun y hy=>U y (by subst hy;simp[Op.operands])
   obtain⟨_,c2⟩:=fC (μ:=μ) (ρ:=ρ) (ρ':=ρ') (x:=mx) fun y hy=>U y (by subst hy;simp[Op.operands])
   have N:ovl (bA P t (ρ x) (lo.map ρ) (hi.map ρ) (mx.map ρ) H) H=some (r,H'):=h
   have:=slice_sound Z (U x (by simp[Op.operands])) a1 a2 b1 b2 c2 N
   exact this
  case call c=>
   obtain⟨ag,args,A⟩:=c
   have ad:LRel μ (dJ ρ args.toList) (args.map ρ').toList:=by
    rw[ji];have:=kF (μ:=μ) (ops:=args) (ρ:=ρ) (ρ':=ρ') fun x hx=>U x (by simp[Op.operands,Call.operands];exact .inr hx)
    simpa using this
   have h:opCall P ρ ⟨al,.call ⟨ag,args,A⟩,T,pos,after,aa⟩ ⟨ag,args,A⟩ H=some (r,H'):=h
   unfold opCall at h
   cases ag with
   |invoke rv nm=>simp at h
   |value f=>
    simp only at h
    unfold fE at h
    split at h
    ·rename_i n hn;simp only[a00,a05]at h;obtain⟨rfl,rfl⟩:=h;obtain⟨i,bl,rfl,a3,E,hr⟩:=callee_sound (P:=P) (U f (by simp[Op.operands,Call.operands])) ad hn;refine⟨.enter i a3,w,μ,?_,Post.refl Z,V,hr⟩;have:=E w;simpa only[execOp,resolve] using this
    cases h
   |builtin b=>
    simp only at h
    unfold ou at h
    have an:bF P ρ ⟨al,.call ⟨.builtin b,args,A⟩,T,pos,after,aa⟩ H=some (r,H')->OpOK P μ H w (execOp ρ' ⟨al,.call ⟨.builtin b,args,A⟩,T,pos,after,aa⟩) r H':=by intro hp;obtain⟨rfl,v,v',rfl,E,hr⟩:=dE hp (fun _ _=>by simp) U;exact OpOK.of_value E Z hr
    split at h
    ·--len
     unfold bLen at h;split at h
     ·rename_i t x ht hx;obtain⟨x',ao,a0⟩:=one_of ad hx;obtain⟨rfl,v,hv,rfl⟩:=cx h;obtain⟨E,hn⟩:=len_sound (P:=P) (ty:=T) Z a0 hv;have ar:A= #[t]:=a1j.1 (by rw[ht]);refine⟨.value v,w,μ,?_,Post.refl Z,.atom v hn⟩;simp only[execOp,resolve,Sem.run_bind,Sem.run_pure,Result.andThen_ok,invoke,builtin,ao,ar,E]
     cases h
    ·unfold bAppend at h;split at h
     ·rename_i t1 t2 s x ht hx;obtain⟨s',x',ao,ax,a0⟩:=two_of ad hx;obtain⟨v,hv,rfl⟩:=ovh_inv h;have ar:A= #[t1,t2]:=a1j.1 (by rw[ht]);obtain⟨v',w',μ',E,hp,hr⟩:=append_sound (P:=P) (ty:=T) Z hf ax a0 (by rw[ar];rfl) hv;refine⟨.value v',w',μ',?_,hp,hr⟩;simp only[execOp,resolve,Sem.run_bind,Sem.run_pure,Result.andThen_ok,invoke,builtin,ao,E]
     cases h
    ·unfold bCopy at h;split at h
     ·rename_i d s hx;obtain⟨d',s',ao,a9,ax⟩:=two_of ad hx;obtain⟨v,hv,rfl⟩:=ovh_inv h;obtain⟨v',w',E,hp,hr⟩:=copy_sound (P:=P) (ty:=T) Z a9 ax hv;refine⟨.value v',w',μ,?_,hp,hr⟩;simp only[execOp,resolve,Sem.run_bind,Sem.run_pure,Result.andThen_ok,invoke,builtin,ao,E]
     cases h
    ·exact an h
    ·exact an h
    cases h
  all_goals simp[aop]at h
end
@[simp] theorem lget_nil(i:Nat):cU .nil i=undef:=rfl
@[simp] theorem lget_lset_same(t:Tr Value)(d:Nat)(v:Value):cU (lset t d v) d=v:=by simp[cU,lset]
theorem lget_lset_ne(t:Tr Value){d k:Nat}(v:Value)(h:d≠k):cU (lset t d v) k=cU t k:=by simp[cU,lset,Tr.get_set_ne _ _ h]
theorem gn(t:Tr Value)(d k:Nat)(v:Value):cU (lset t d v) k=if d=k then v else cU t k:=by
 by_cases h:d=k
 ·subst h;simp
 rw[if_neg h,lget_lset_ne t v h]
def TRel(μ:Emb)(t:Tr Value)(n:Nat)(a:Array Value):Prop:=a.size=n/\∀i,VRel μ (cU t i) (a.getD i undef)
def GRel(μ:Emb)(G:Nat):Prop:= ∀g,g<G->∃l,μ g=some l/\l.c=g/\l.sh=0
section
variable {P:Program} {G:Nat} {μ μ':Emb}
theorem TRel.mono(h: ∀b l,μ b=some l->μ' b=some l){t:Tr Value}{n:Nat}{a:Array Value}(A:TRel μ t n a):TRel μ' t n a:=⟨A.1,fun i=>(A.2 i).mono h⟩
theorem GRel.mono(h: ∀b l,μ b=some l->μ' b=some l)(U:GRel μ G):GRel μ' G:=fun g A=>by obtain⟨l,E,N,T⟩:=U g A;exact⟨l,h _ _ E,N,T⟩
theorem getD_set(a:Array Value)(d i:Nat)(v:Value):(a.setIfInBounds d v).getD i undef=if d=i/\d<a.size then v else a.getD i undef:=by
 simp only[a0Y,a1h];by_cases h:d=i
 ·subst h;by_cases A:d<a.size
  ·simp[A]
  simp[A]
 simp[h]
theorem TRel.put{t:Tr Value}{n:Nat}{a:Array Value}(h:TRel μ t n a){d:Nat}(A:d<n){v v':Value}(E:VRel μ v v'):TRel μ (lset t d v) n (a.setIfInBounds d v'):=by
 refine⟨by simp[h.1],fun i=>?_⟩;rw[gn,getD_set];by_cases hi:d=i
 ·rw[if_pos hi,if_pos ⟨hi,by rw[h.1];exact A⟩];exact E
 rw[if_neg hi,if_neg (fun e=>hi e.1)];exact h.2 i
theorem eval_of(U:GRel μ G){tm:Tr Value}{a:Act}{x:Operand}(A:bo G x=true)(h: ∀t,x= .tmp t->VRel μ (cU tm t) (a.tmps.getD t undef)):
  VRel μ (cI tm x) (a.eval x):=by
 cases x with
 |tmp t=>exact h t V
 |const v=>exact VRel.refl2 A
 |global g=>
  obtain⟨l,E,N,T⟩:=U g (a08 A)
  have:=VRel.ptr (μ:=μ) g 0 l E
  rw[N,T]at this;exact this
 |func f=>exact .atom _ V
theorem yield_eq{ops:Array Oper}{tm:Tr Value}{a:Array Value}{j:Nat}(h: ∀d,(ops[j]?).bind (·.dst)=some d->VRel μ (cU tm d) (a.getD d undef)):
  mn ops tm j=yielded ops a j:=by
 unfold mn yielded
 cases T:(ops[j]?).bind (·.dst) with
 |none=>rfl
 |some d=>
  have A:=h d T
  simp only[a0n]
  simp only[a0Y]at A
  cases N:a[d]? with
  |none=>
   rw[N]at A
   simp only[Option.getD_none]at A
   have: ∀b,cU tm d≠ .bool b:=by intro b e;rw[e]at A;have:=A.bool_inv;cases this
   cases E:cU tm d<;>first|rfl|exact absurd E (this _)
  |some x=>
   rw[N]at A
   simp only[a0O]at A
   cases x with
   |bool b=>
    have:cU tm d= .bool b:=by generalize cU tm d=y at A;cases A;rfl
    rw[this]
   |_=>
    have: ∀b,cU tm d≠ .bool b:=by intro b e;rw[e]at A;have:=A.bool_inv;cases this
    cases E:cU tm d<;>first|rfl|exact absurd E (this _)
theorem wanted_eq{ops:Array Oper}{o:Oper}{tm:Tr Value}{a:Array Value}(h: ∀j w,o.guard=some (j,w)->∀d,(ops[j]?).bind (·.dst)=some d->VRel μ (cU tm d) (a.getD d undef)):
  bf ops o tm=Region.wanted o (yielded ops a):=by
 unfold bf Region.wanted
 cases A:o.guard with
 |none=>rfl
 |some p=>
  obtain⟨j,w⟩:=p
  simp only
  rw[yield_eq (h j w A)]
def d6(P:Program)(G:Nat)(cf:cu):Prop:= ∀f args H v H',cf f args H=some (v,H')->WF H->Ext H H'/\
 ∀μ w (cargs:Array Value),LRel μ args cargs.toList->GRel μ G->WRel μ H w->(∀b,H.next<=b->b<H'.next->μ b=none)->
  Calls P f cargs w fun e w'=> ∃μ' v',e= .returned v'/\VRel μ' v v'/\Post μ H w μ' H' w'
noncomputable def dL (P : Program) (cf : cu) (ρ : Operand -> Value) (o : Oper) (H : Heap) : Option (Value × Heap) :=
 match aop P ρ o H with
 |some (.val v,h)=>some (v,h)
 |some (.skip,h)=>some (undef,h)
 |some (.enter f args,h)=>cf f args h
 |none=>none
theorem step_eq(cf:cu)(ops:Array Oper)(o:Oper)(s:St):step P G cf ops o s=
  bif bf ops o s.tmps then
   bif o.op.operands.toList.all (bo G) then
    match dL P cf (cI s.tmps) o s.heap with
    |some (v,h)=>{s with heap:=h}.put o.dst v
    |none=>none
   else none
  else s.put o.dst undef:=by
 unfold step dL
 cases bf ops o s.tmps with
 |false=>rfl
 |true=>
  cases o.op.operands.toList.all (bo G) with
  |false=>rfl
  |true=>
   simp only[cond_true]
   cases aop P (cI s.tmps) o s.heap with
   |none=>rfl
   |some p=>
    obtain⟨r,h⟩:=p
    cases r with
    |val v=>rfl
    |skip=>rfl
    |enter f args=>
     simp only
     cases cf f args h with
     |none=>rfl
     |some q=>rfl
theorem gW{s E:St}{A:Option Tmp}{v:Value}(h:s.put A v=some E):
  E.size=s.size/\E.heap=s.heap/\((A=none/\E.tmps=s.tmps)\/∃d,A=some d/\d<s.size/\E.tmps=lset s.tmps d v):=by
 unfold St.put at h
 split at h
 ·rename_i d;cases N:Nat.ble (d+1) s.size with
  |false=>rw[N]at h;cases h
  |true=>
   rw[N]at h;simp only[cond_true,a00]at h;subst h
   exact⟨V,V,.inr ⟨d,V,a08 N,V⟩⟩
 injection h with h;subst h;exact⟨V,V,.inl ⟨V,V⟩⟩
theorem mS{cf:cu}(U:d6 P G cf){ρ:Operand->Value}{o:Oper}{H H':Heap}{v:Value}(E:WF H)(h:dL P cf ρ o H=some (v,H')):Ext H H':=by
 unfold dL at h;split at h
 ·rename_i u N A;simp only[a00,a05]at h;rw[←h.2];exact oe E A
 ·rename_i N A;simp only[a00,a05]at h;rw[←h.2];exact oe E A
 ·rename_i f args N A;have T:=oe E A;exact T.trans (U f args N v H' h (E.ext T)).1
 cases h
theorem jM{cf:cu}(ax:d6 P G cf){ρ:Operand->Value}{o:Oper}{a:Act}{H H':Heap}{v:Value}{w:World}(an:WF H)(hρ: ∀x∈o.op.operands,VRel μ (ρ x) (a.eval x))
  (hG:GRel μ G) (hw:WRel μ H w) (hf: ∀b,H.next<=b->b<H'.next->μ b=none) (h:dL P cf ρ o H=some (v,H')) {K:Act->World->Prop} {Q:Exit->Act->World->Prop}
  (hK: ∀μ' w' v',Post μ H w μ' H' w'->VRel μ' v v'->K (a.put o.dst v') w'):o.wp P a w K Q:=by
 unfold dL at h
 unfold Oper.wp
 split at h
 ·rename_i u h1 T;simp only[a00,a05]at h;obtain⟨rfl,rfl⟩:=h;obtain⟨n,w1,U,A,E,N⟩:=gx hρ hw hf T;rw[A];cases n<;>first|exact hK U w1 _ E N|exact N.elim
 ·rename_i h1 T;simp only[a00,a05]at h;obtain⟨rfl,rfl⟩:=h;obtain⟨n,w1,U,A,E,N⟩:=gx hρ hw hf T;rw[A];cases n<;>first|exact hK U w1 _ E VRel.undef|exact N.elim
 ·rename_i f args h1 T;have e1:=oe an T;obtain⟨e2,ai⟩:=ax f args h1 v H' h (an.ext e1);obtain⟨n,w1,U,A,E,N⟩:=gx hρ hw (fun b Z aa=>hf b Z (a0U aa e2.next)) T;rw[A];cases n with
  |enter f' cargs=>
   obtain⟨rfl,ag⟩:=N
   rw[Oper.upon_enter]
   refine(ai U w1 cargs ag (hG.mono E.ext) E.wrel (fun b Z aa=>?_)).mono ?_
   ·cases hb:U b with
    |none=>rfl
    |some l=>
     rcases E.dom b l hb with hb0|⟨_,hb3⟩
     ·rw[hf b (a0e e1.next Z) aa]at hb0;cases hb0
     omega
   rintro e w2 ⟨μ2,v',rfl,hv,hp2⟩
   exact hK μ2 w2 v' (E.trans hp2 e1.next e2.next) hv
  |_=>exact N.elim
 cases h
theorem j9{cf:cu}(E:d6 P G cf){ops:Array Oper}{o:Oper}{s T:St}(Z:WF s.heap)(h:step P G cf ops o s=some T):Ext s.heap T.heap:=by
 rw[step_eq]at h;cases N:bf ops o s.tmps with
 |false=>rw[N]at h;rw[(gW h).2.1];exact Ext.refl _
 |true=>
  rw[N]at h
  cases A:o.op.operands.toList.all (bo G) with
  |false=>rw[A]at h;cases h
  |true=>
   rw[A]at h
   simp only[cond_true]at h
   split at h
   ·rename_i v h1 U;rw[(gW h).2.1];exact mS E Z U
   cases h
theorem e8(a:Act)(A:Option Tmp)(v:Value):(a.put A v).defers=a.defers:=by cases A<;>rfl
theorem put_rel{s N:St}{A:Option Tmp}{v v':Value}{a:Act}(h:s.put A v=some N)(U:TRel μ s.tmps s.size a.tmps)(hv:VRel μ v v'):
  TRel μ N.tmps N.size (a.put A v').tmps:=by
 obtain⟨T,_,⟨rfl,E⟩|⟨d,rfl,Z,E⟩⟩:=gW h
 ·rw[T,E];exact U
 rw[T,E];exact U.put Z hv
theorem step_sound{cf:cu}(ag:d6 P G cf){ops:Array Oper}{i:Nat}{o:Oper}(ho:ops[i]?=some o){s N:St}{a:Act}{w:World}(ap:WF s.heap)(T:TRel μ s.tmps s.size a.tmps)
  (hG:GRel μ G) (hw:WRel μ s.heap w) (hf: ∀b,s.heap.next<=b->b<N.heap.next->μ b=none) (h:step P G cf ops o s=some N) {K:Act->World->Prop} {Q:Exit->Act->World->Prop}
  (hK: ∀μ' w' Z,Post μ s.heap w μ' N.heap w'->TRel μ' N.tmps N.size Z.tmps->Z.defers=a.defers->K Z w'):wpOp P ops Q i K a w:=by
 unfold wpOp
 rw[ho]
 simp only
 have U:bf ops o s.tmps=Region.wanted o (yielded ops a.tmps):=wanted_eq (μ:=μ) fun _ _ _ d _=>T.2 d
 rw[step_eq,U]at h
 cases hq:Region.wanted o (yielded ops a.tmps) with
 |false=>
  rw[hq]at h
  simp only[cond_false]at h
  simp only[a0M,if_false]
  have A:=(gW h).2.1
  exact hK μ w _ (by rw[A];exact Post.refl hw) (put_rel h T VRel.undef) (e8 _ _ _)
 |true=>
  rw[hq]at h
  simp only[if_true]
  left
  cases E:o.op.operands.toList.all (bo G) with
  |false=>rw[E]at h;cases h
  |true=>
   rw[E]at h
   simp only[cond_true]at h
   split at h
   ·rename_i v h1 he;have A:=(gW h).2.1;simp only at A;refine jM ag ap (fun x hx=>eval_of hG (a0t.1 E x (by simpa using hx)) fun t _=>T.2 t) hG hw (by rw[←A];exact hf) he ?_;intro μ' w' v' hp hv;have an:TRel μ' s.tmps s.size a.tmps:=T.mono hp.ext;exact hK μ' w' _ (by rw[A];exact hp) (put_rel (s:={s with heap:=h1}) h an hv) (e8 _ _ _)
   cases h
theorem i9{cf:cu}(E:d6 P G cf){ops:Array Oper}: ∀(l:List Oper) (s A:St),WF s.heap->fX P G cf ops l s=some A->Ext s.heap A.heap
 | [],s,A,_,h=>by rw[i8]at h;injection h with h;subst h;exact Ext.refl _
 |o::os,s,A,hw,h=>by
  rw[cj]at h;split at h
  ·rename_i U T;have N:=j9 E hw T;exact N.trans (i9 E os U A (hw.ext N) h)
  cases h
theorem jE{cf:cu}(E:d6 P G cf){ops:Array Oper}{Q:Exit->Act->World->Prop}: ∀(l:List Oper) (k:Nat) (s A:St),ops.toList.drop k=l->fX P G cf ops l s=some A->
  ∀(μ:Emb) (a:Act) (w:World),WF s.heap->TRel μ s.tmps s.size a.tmps->GRel μ G->WRel μ s.heap w->(∀b,s.heap.next<=b->b<A.heap.next->μ b=none)->
  (∀μ' w' a',Post μ s.heap w μ' A.heap w'->TRel μ' A.tmps A.size a'.tmps->a'.defers=a.defers->Q .normal a' w')->wpOps P ops Q (List.range' k l.length) a w
 | [],k,s,A,_,h,μ,a,w,hwf,ht,hG,hw,hf,hQ=>by rw[i8]at h;injection h with h;subst h;simp only[a07,List.range'_zero,wpOps];exact hQ μ w a (Post.refl hw) ht V
 |o::os,k,s,A,hd,h,μ,a,w,hwf,ht,hG,hw,hf,hQ=>by
  rw[cj]at h;split at h
  ·rename_i s1 h1;have U:=j9 E hwf h1;have e2:=i9 E os s1 A (hwf.ext U) h;have hk:k<ops.toList.length:=by
    rcases a0k k ops.toList.length with hl|hl
    ·exact hl
    rw[a1O hl]at hd;cases hd
   have aa:=a1d hk;rw[hd]at aa;injection aa with h2 h3;have ho:ops[k]?=some o:=by
    have:ops.toList[k]?=some o:=by rw[a06 hk,←h2]
    simpa using this
   simp only[a04,List.range'_succ];rw[wpOps_cons];refine step_sound E ho hwf ht hG hw (fun b N T=>hf b N (a0U T e2.next)) h1 ?_;intro μ1 w1 a1 Z aq al;refine jE E os (k+1) s1 A h3.symm h μ1 a1 w1 (hwf.ext U) aq (hG.mono Z.ext) Z.wrel (fun b N T=>?_) ?_
   ·cases hb:μ1 b with
    |none=>rfl
    |some l=>
     rcases Z.dom b l hb with hb0|⟨_,hb3⟩
     ·rw[hf b (a0e U.next N) T]at hb0;cases hb0
     omega
   intro μ2 w2 a2 ap ar an;exact hQ μ2 w2 a2 (Z.trans ap U.next e2.next) ar (an.trans al)
  cases h
end
end Go.R
set_option linter.unusedVariables false
set_option linter.unusedSimpArgs false
namespace Go.R
def l8(l:List Nat)(o:Oper):Nat:=o.after.toList.foldl (fun s e=>bif Region.binds .any e then s|||2^e.on|||l.getD e.on 0 else s) 0
theorem iq: ∀(os:List Oper) (A:List Nat),∃t,ancs os A=A++t/\t.length=os.length
 | [],A=>⟨[],by simp[ancs],V⟩
 |o::os,A=>by obtain⟨t,h,E⟩:=iq os (A++[l8 A o]);refine⟨l8 A o::t,?_,by simp[E]⟩;show ancs os (A++[l8 A o])=_;rw[h];simp
theorem ancs_at: ∀(os:List Oper) (A:List Nat) (k:Nat) (o:Oper),os[k]?=some o->
  (ancs os A).getD (A.length+k) 0=l8 ((ancs os A).take (A.length+k)) o
 | [],A,k,o,h=>by simp at h
 |x::os,A,0,o,h=>by
  simp at h;subst h;obtain⟨t,h,_⟩:=iq os (A++[l8 A x]);have e:ancs (x::os) A=A++([l8 A x]++t):=by show ancs os (A++[l8 A x])=_;rw[h];simp
  rw[e];simp
 |x::os,A,k+1,o,h=>by have E:=ancs_at os (A++[l8 A x]) k o (by simpa using h);have e:ancs (x::os) A=ancs os (A++[l8 A x]):=rfl;rw[e];simp only[a02,a0j]at E;rw[show A.length+(k+1)=A.length+1+k by omega];exact E
theorem fold_bit(l:List Nat)(j:Nat): ∀(es:List Edge) (s:Nat),(es.foldl (fun s e=>bif Region.binds .any e then s|||2^e.on|||l.getD e.on 0 else s) s).testBit j=true->
  s.testBit j=true\/∃e∈es,Region.binds .any e=true/\(e.on=j\/(l.getD e.on 0).testBit j=true)
 | [],s,h=> .inl h
 |e::es,s,h=>by
  simp only[a2m]at h;rcases fold_bit l j es _ h with h1|⟨e',he,h2⟩
  ·cases A:Region.binds .any e with
   |false=>rw[A]at h1;exact .inl h1
   |true=>
    rw[A]at h1
    simp only[cond_true,Nat.testBit_or,a0C]at h1
    rcases h1 with(h1|h1)|h1
    ·exact .inl h1
    ·rw[Nat.testBit_two_pow]at h1;exact .inr ⟨e,by simp,A,.inl (by simpa using h1)⟩
    exact .inr ⟨e,by simp,A,.inr h1⟩
  exact .inr ⟨e',by simp[he],h2⟩
theorem ordered_edge{ops:Array Oper}{j k:Nat}(h:bn (cm ops) j k=true):
  ∃o,ops[k]?=some o/\∃e∈o.after.toList,Region.binds .any e=true/\(e.on=j\/(e.on<k/\bn (cm ops) j e.on=true)):=by
 unfold bn at h
 have N:k<ops.toList.length:=by
  obtain⟨t,T,U⟩:=iq ops.toList [];rcases a0k k ops.toList.length with hlt|hge
  ·exact hlt
  have:(cm ops).getD k 0=0:=by unfold cm;rw[T,a14,a03,a0J M];rfl
  rw[this]at h;simp at h
 have E:ops.toList[k]?=some ops.toList[k]:=a06 N
 have A:=ancs_at ops.toList [] k _ E
 simp only[a07,a1c]at A
 change (cm ops).getD k 0=l8 ((cm ops).take k) _ at A
 rw[A]at h
 rcases fold_bit _ j _ 0 h with h1|⟨e,he,hb,h2⟩
 ·simp at h1
 refine⟨ops.toList[k],by rw[←Array.getElem?_toList];exact E,e,he,hb,?_⟩
 rcases h2 with h2|h2
 ·exact .inl h2
 right
 rcases a0k e.on k with hlt|hge
 ·refine⟨hlt,?_⟩;unfold bn;rw[a03,a0A,if_pos hlt,←a03]at h2;exact h2
 rw[a03,a0A,if_neg M]at h2
 simp at h2
def DC(ops:Array Oper)(S:Nat->Bool):Prop:= ∀(k:Nat) o,ops[k]?=some o->S k=true->∀e∈o.after.toList,Region.binds .any e=true->S e.on=true
theorem DC.anc{ops:Array Oper}{S:Nat->Bool}(h:DC ops S){j:Nat}: ∀(k:Nat),S k=true->bn (cm ops) j k=true->S j=true:=by
 intro k;induction k using Nat.strongRecOn with
 |_ k ih=>
  intro U Z
  obtain⟨o,A,e,T,N,E⟩:=ordered_edge Z
  have hs:=h k o A U e T N
  rcases E with rfl|⟨hlt,h2⟩
  ·exact hs
  exact ih e.on hlt hs h2
structure RegFacts(ops:Array Oper):Prop where
 back: ∀(j:Nat) o,ops[j]?=some o->∀e∈o.after.toList,Region.binds .any e=true->e.on<j
 pair: ∀(i j:Nat) x o,i<j->ops[i]?=some x->ops[j]?=some o->bn (cm ops) i j=true\/x.apart ops o=true
theorem regOK_facts{ops:Array Oper}(h:bg ops=true):RegFacts ops:=by
 unfold bg at h;simp only[a0t,a2b]at h;refine⟨fun j o E e Z U=>?_,fun i j x o T hx E=>?_⟩
 ·have N:j<ops.size:=(a0G.1 E).1;have:=h j N;rw[E]at this;simp only[a0a,a0t]at this;have A:=this.1.1 e Z;rw[U]at A;simp only[a1E,a21]at A;exact a08 A
 have N:j<ops.size:=(a0G.1 E).1;have:=h j N;rw[E]at this;simp only[a0a,a0t,a2b]at this;have A:=this.2 i T;rw[hx]at A;simpa using A
section
variable (st:Nat->St) (vl:Nat->Value) (ops:Array Oper)
def chg(k b:Nat):Prop:=(st (k+1)).heap.get b≠(st k).heap.get b
open Classical in
noncomputable def kw (S : Nat -> Bool) : Nat -> Nat -> Option AObj
 |0,b=>(st 0).heap.get b
 |k+1,b=>if S k=true/\chg st k b then(st (k+1)).heap.get b else kw S k b
def jW(k:Nat):Option Tmp:=(ops[k]?).bind (·.dst)
open Classical in
noncomputable def tv (S : Nat -> Bool) : Nat -> Nat -> Value
 |0,t=>cU (st 0).tmps t
 |k+1,t=>if S k=true/\jW ops k=some t then vl k else tv S k t
theorem lK{S:Nat->Bool}{b i:Nat}: ∀m,(∀k,k<m->chg st k b->(S k=true↔k<i))->kw st S m b=(st (min m i)).heap.get b
 |0,_=>by simp[kw]
 |m+1,h=>by
  have A:=lK m fun k N=>h k M
  unfold kw;by_cases E:m<i
  ·rw[show min (m+1) i=m+1 by omega];rw[show min m i=m by omega]at A;by_cases hc:chg st m b
   ·rw[if_pos ⟨(h m M hc).2 E,hc⟩]
   rw[if_neg (fun e=>hc e.2),A];unfold chg at hc;exact(Classical.not_not.1 hc).symm
  rw[show min (m+1) i=i by omega];rw[show min m i=i by omega]at A;rw[if_neg (fun e=>E ((h m M e.2).1 e.1)),A]
theorem mV{S S':Nat->Bool}{b:Nat}: ∀m,(∀k,k<m->chg st k b->S k=S' k)->kw st S m b=kw st S' m b
 |0,_=>rfl
 |m+1,h=>by
  have A:=mV m fun k E=>h k M
  unfold kw;by_cases hc:chg st m b
  ·rw[h m M hc,A]
  rw[if_neg (fun e=>hc e.2),if_neg (fun e=>hc e.2),A]
theorem tv_eq{S:Nat->Bool}{t i:Nat}(E: ∀k,cU (st (k+1)).tmps t=if jW ops k=some t then vl k else cU (st k).tmps t):
  ∀m,(∀k,k<m->jW ops k=some t->(S k=true↔k<i))->tv st vl ops S m t=cU (st (min m i)).tmps t
 |0,_=>by simp[tv]
 |m+1,h=>by
  have A:=tv_eq E m fun k T=>h k M
  unfold tv;by_cases N:m<i
  ·rw[show min (m+1) i=m+1 by omega];rw[show min m i=m by omega]at A;by_cases hc:jW ops m=some t
   ·rw[if_pos ⟨(h m M hc).2 N,hc⟩,E,if_pos hc]
   rw[if_neg (fun e=>hc e.2),A,E,if_neg hc]
  rw[show min (m+1) i=i by omega];rw[show min m i=i by omega]at A;rw[if_neg (fun e=>N ((h m M e.2).1 e.1)),A]
theorem tv_congr{S S':Nat->Bool}{t:Nat}: ∀m,(∀k,k<m->jW ops k=some t->S k=S' k)->tv st vl ops S m t=tv st vl ops S' m t
 |0,_=>rfl
 |m+1,h=>by
  have A:=tv_congr m fun k E=>h k M
  unfold tv;by_cases hc:jW ops m=some t
  ·rw[h m M hc,A]
  rw[if_neg (fun e=>hc e.2),if_neg (fun e=>hc e.2),A]
end
structure Inv(ops:Array Oper)(st:Nat->St)(vl:Nat->Value)(μ0:Emb)(w0:World)(d0:List Deferred)(S:Nat->Bool)(μ:Emb)(a:Act)(w:World):Prop where
 dc:DC ops S
 dom: ∀b l,μ b=some l->b<(st 0).heap.next\/(∃k,k<ops.size/\S k=true/\(st k).heap.next<=b/\b<(st (k+1)).heap.next)\/(st ops.size).heap.next<=b
 obj: ∀b l o,μ b=some l->kw st S ops.size b=some o->ObjRel μ w l o
 inj: ∀b1 b2 l1 l2 o1 o2,b1≠b2->μ b1=some l1->μ b2=some l2->kw st S ops.size b1=some o1->kw st S ops.size b2=some o2->o1.rw=true->o2.live=true->l1.c≠l2.c
 size:a.tmps.size=(st 0).size
 tm: ∀t,VRel μ (tv st vl ops S ops.size t) (a.tmps.getD t undef)
 defers:a.defers=d0
 ext0: ∀b l,μ0 b=some l->μ b=some l
 dom0: ∀b l,μ b=some l->μ0 b=some l\/((st 0).heap.next<=b/\b<(st ops.size).heap.next)
 grow0:w0.heap.size<=w.heap.size
 os0:w.os=w0.os
 tape0:w.tape=w0.tape
 out0:w.output=w0.output
 keep0: ∀c,c<w0.heap.size->(∀b l o,μ0 b=some l->(st 0).heap.get b=some o->o.rw=true->l.c≠c)->w.heap[c]?=w0.heap[c]?
 img0: ∀b l o,μ b=some l->kw st S ops.size b=some o->o.live=true->
  w0.heap.size<=l.c\/∃b0 l0 o0,μ0 b0=some l0/\(st 0).heap.get b0=some o0/\o0.live=true/\(o.rw=true->o0.rw=true)/\l0.c=l.c
def jR(S:Nat->Bool)(i:Nat):Nat->Bool:=fun k=>Nat.beq k i||S k
theorem gy(S:Nat->Bool)(i:Nat):jR S i i=true:=by simp[jR]
theorem gz(S:Nat->Bool){i k:Nat}(h:k≠i):jR S i k=S k:=by
 have:Nat.beq k i=false:=by
  cases A:Nat.beq k i with
  |false=>rfl
  |true=>exact absurd (a0c A) h
 simp[jR,this]
theorem Inv.next{ops:Array Oper}{st:Nat->St}{vl:Nat->Value}{μ0 μ μ':Emb}{w0 w w':World}{d0:List Deferred}{S:Nat->Bool}{a:Act}{i:Nat}{H Hn:Heap}{o:Oper}{v':Value}
  (I:Inv ops st vl μ0 w0 d0 S μ a w) (hi:i<ops.size) (ho:ops[i]?=some o) (N:Post μ H w μ' Hn w') (hv:VRel μ' (vl i) v') (a1: ∀k,(st k).heap.next<=(st (k+1)).heap.next)
  (ck:(st i).heap.next<=H.next) (co:Hn.next<=(st (i+1)).heap.next)
  (c1: ∀b l x,μ b=some l->H.get b=some x->kw st S ops.size b=some x)
  (c2: ∀b l x,μ' b=some l->Hn.get b=some x->kw st (jR S i) ops.size b=some x)
  (c3: ∀b l x,μ' b=some l->Hn.get b=none->kw st (jR S i) ops.size b=some x->μ b=some l/\H.get b=none/\kw st S ops.size b=some x)
  (b4:DC ops (jR S i)) (b5: ∀d,o.dst=some d->d<(st 0).size)
  (b8: ∀t,o.dst=some t->tv st vl ops (jR S i) ops.size t=vl i) (bk: ∀t,o.dst≠some t->tv st vl ops (jR S i) ops.size t=tv st vl ops S ops.size t):
  Inv ops st vl μ0 w0 d0 (jR S i) μ' (a.put o.dst v') w':=by
 have a8: ∀k,(st 0).heap.next<=(st k).heap.next:=by
  intro k;induction k with
  |zero=>exact a0d _
  |succ k ih=>exact a0e ih (a1 k)
 have monoL: ∀j k,j<=k->(st j).heap.next<=(st k).heap.next:=by
  intro j k h;induction h with
  |refl=>exact a0d _
  |step _ ih=>exact a0e ih (a1 _)
 have b9:=monoL (i+1) ops.size hi
 have bz: ∀b l x,μ b=some l->H.get b=none->kw st S ops.size b=some x->x.live=true->w'.heap[l.c]?=w.heap[l.c]?:=by
  intro b l x A hh hc al;refine N.keep l.c ((I.obj b l x A hc).lt al) fun U l2 o2 Z a6 an=>?_
  exact I.inj U b l2 l o2 x (fun e=>by subst e;rw[hh]at a6;cases a6) Z A (c1 U l2 o2 Z a6) hc an al
 refine⟨b4,fun b l A=>?_,fun b l x A hc=>?_,fun b1 U l1 l2 o1 o2 bb ay Z aq T ao an=>?_,?_,fun t=>?_,?_,fun b l A=>N.ext b l (I.ext0 b l A),fun b l A=>?_,a0e I.grow0 N.grow,
  N.os.trans I.os0,N.tape.trans I.tape0,N.out.trans I.out0,fun c hc a5=>?_,fun b l x A hc al=>?_⟩
 ·rcases N.dom b l A with E|⟨E,h2⟩
  ·rcases I.dom b l E with h2|⟨k,hk,hs,h3,h4⟩|h2
   ·exact .inl h2
   ·refine .inr (.inl ⟨k,hk,?_,h3,h4⟩);unfold jR;rw[hs];simp
   exact .inr (.inr h2)
  exact .inr (.inl ⟨i,hi,gy S i,by omega,by omega⟩)
 ·cases hg:Hn.get b with
  |some y=>
   have:=c2 b l y A hg
   rw[this]at hc;injection hc with hc;subst hc
   exact N.wrel.obj b l y A hg
  |none=>
   obtain⟨E,h2,h3⟩:=c3 b l x A hg hc
   exact(I.obj b l x E h3).keep N.ext N.grow (fun al=>bz b l x E h2 h3 al)
 ·--no two blocks at one place
  cases a0:Hn.get b1 with
  |some y1=>
   have e1:=c2 b1 l1 y1 ay a0
   rw[e1]at aq;injection aq with aq;subst aq
   cases ai:Hn.get U with
   |some y2=>
    have e2:=c2 U l2 y2 Z ai
    rw[e2]at T;injection T with T;subst T
    exact N.wrel.inj b1 U l1 l2 y1 y2 bb ay Z a0 ai ao an
   |none=>
    obtain⟨E,h2,h3⟩:=c3 U l2 o2 Z ai T
    have b6:=(I.obj U l2 o2 E h3).lt an
    rcases N.img b1 l1 y1 ay a0 (gR ao) with hh|⟨b0,l0,o0,g1,g2,g3,g4,g5⟩
    ·omega
    rw[←g5]
    exact I.inj b0 U l0 l2 o0 o2 (fun e=>by subst e;rw[h2]at g2;cases g2) g1 E (c1 b0 l0 o0 g1 g2) h3 (g4 ao) an
  |none=>
   obtain⟨E,h2,h3⟩:=c3 b1 l1 o1 ay a0 aq
   cases ai:Hn.get U with
   |some y2=>
    have e2:=c2 U l2 y2 Z ai
    rw[e2]at T;injection T with T;subst T
    have b6:=(I.obj b1 l1 o1 E h3).lt (gR ao)
    rcases N.img U l2 y2 Z ai an with hh|⟨b0,l0,o0,g1,g2,g3,g4,g5⟩
    ·omega
    rw[←g5]
    exact I.inj b1 b0 l1 l0 o1 o0 (fun e=>by subst e;rw[h2]at g2;cases g2) E g1 h3 (c1 b0 l0 o0 g1 g2) ao g3
   |none=>
    obtain⟨k1,k2,k3⟩:=c3 U l2 o2 Z ai T
    exact I.inj b1 U l1 l2 o1 o2 bb E k1 h3 k3 ao an
 ·cases hd:o.dst with
  |none=>exact I.size
  |some d=>simp only[Act.put,Array.size_setIfInBounds];exact I.size
 ·have a7:=(I.tm t).mono N.ext;cases hd:o.dst with
  |none=>rw[bk t (by rw[hd];simp)];exact a7
  |some d=>
   simp only[Act.put,getD_set]
   by_cases a4:d=t
   ·subst a4;rw[b8 d hd,if_pos ⟨V,by rw[I.size];exact b5 d hd⟩];exact hv
   rw[bk t (by rw[hd];simpa using a4),if_neg (fun e=>a4 e.1)];exact a7
 ·rw[e8];exact I.defers
 ·rcases N.dom b l A with E|⟨E,h2⟩
  ·exact I.dom0 b l E
  exact .inr ⟨by have:=a8 i;omega,by omega⟩
 ·rw[N.keep c (a0U hc I.grow0) ?_,I.keep0 c hc a5];intro b l x A hx hr he;rcases I.img0 b l x A (c1 b l x A hx) (gR hr) with hh|⟨b0,l0,o0,g1,g2,g3,g4,g5⟩
  ·omega
  exact a5 b0 l0 o0 g1 g2 (g4 hr) (g5.trans he)
 cases hg:Hn.get b with
 |some y=>
  have:=c2 b l y A hg
  rw[this]at hc;injection hc with hc;subst hc
  rcases N.img b l y A hg al with hh|⟨b0,l0,o0,g1,g2,g3,g4,g5⟩
  ·exact .inl (a0e I.grow0 hh)
  rcases I.img0 b0 l0 o0 g1 (c1 b0 l0 o0 g1 g2) g3 with hh|⟨b3,l3,o3,e1,e2,e3,e4,e5⟩
  ·exact .inl (g5▸hh)
  exact .inr ⟨b3,l3,o3,e1,e2,e3,fun hx=>e4 (g4 hx),e5.trans g5⟩
 |none=>
  obtain⟨E,h2,h3⟩:=c3 b l x A hg hc
  exact I.img0 b l x E h3 al
section
variable {P:Program} {G:Nat}
def lU(ρ:Operand->Value)(o:Oper)(b:Nat):Prop:=
 (∃t a off,o.op= .load t a/\ρ a= .pointer (some ⟨b,off,none⟩))\/
 (∃t x lo hi A off n k,o.op= .slice t x lo hi A/\ρ x= .slice (some ⟨b,off,none⟩) n k)
def NilCut(ρ:Operand->Value)(o:Oper):Prop:=(∃t x lo hi A n k,o.op= .slice t x lo hi A/\ρ x= .slice none n k)\/
 (∃xs E x,o.op= .call ⟨.builtin .len,xs,E⟩/\dJ ρ xs.toList=[x]/\((∃a n k,x= .slice a n k)\/∃s,x= .string s))
structure OpFact(P:Program)(G:Nat)(cf:cu)(ops:Array Oper)(o:Oper)(s s':St)(v:Value)(f:Inf):Prop where
 size:s'.size=s.size
 tm: ∀t,cU s'.tmps t=if o.dst=some t then v else cU s.tmps t
 dlt: ∀d,o.dst=some d->d<s.size
 next:s.heap.next<=s'.heap.next
 far: ∀b,s'.heap.next<=b->s'.heap.get b=s.heap.get b
 how:(bf ops o s.tmps=false/\v=undef/\f= .v/\s'.heap.next=s.heap.next/\∀b,s'.heap.get b=s.heap.get b)\/
  (bf ops o s.tmps=true/\o.op.operands.toList.all (bo G)=true/\∃H1 H2,(∀b,H1.get b=s.heap.get b)/\H1.next=s.heap.next/\
   dL P cf (cI s.tmps) o H1=some (v,H2)/\(∀b,s'.heap.get b=H2.get b)/\s'.heap.next=H2.next/\
   ((f= .v/\(aY o.op=true\/NilCut (cI s.tmps) o))\/(f= .a s.heap.next/\dN o.op=true)\/
    (∃b,f= .l b/\lU (cI s.tmps) o b)\/
    (∃w,f= .x w/\(∀b,b∈w->b<s.heap.next)/\(∀b,b<s.heap.next->b∉w->s'.heap.get b=s.heap.get b)/\(ia o.op=true->∃t a x b off,o.op= .store t a x/\cI s.tmps a= .pointer (some ⟨b,off,none⟩)/\b∈w))))
theorem mw{ρ:Operand->Value}{o:Oper}{H H':Heap}{r:AN}{t:TypeId}{a x:Operand}(hk:o.op= .store t a x)(h:aop P ρ o H=some (r,H')):
  r= .skip/\∃b off E A,ρ a= .pointer (some ⟨b,off,none⟩)/\H.get b=some E/\H'=H.put b A/\∀K:Heap,K.get b=some E->aop P ρ o K=some (.skip,K.put b A):=by
 have e: ∀K,aop P ρ o K=eY P t (ρ a) (ρ x) K:=fun K=>by unfold aop;rw[hk]
 rw[e]at h
 unfold eY at h
 split at h
 case h_2=>cases h
 rename_i p U
 split at h
 case h_2=>cases h
 rename_i n hn
 cases N:Nat.beq (ρ x).cells.size n with
 |false=>rw[N]at h;cases h
 |true=>
  rw[N]at h
  obtain⟨b,off,sp⟩:=p
  simp only[cond_true]at h
  obtain⟨hs,rfl⟩:=osk_inv h
  unfold Heap.storeL at hs
  cases sp with
  |some _=>cases hs
  |none=>
   simp only at hs
   split at hs
   case h_2=>cases hs
   rename_i cs al hg
   cases T:(Nat.ble (Nat.add off (eA (ρ x).cells.toList)) (eA cs)&&ng Value.oneCell' (ρ x).cells.toList) with
   |false=>rw[T]at hs;cases hs
   |true=>
    rw[T]at hs
    simp only[cond_true,a00]at hs
    refine⟨V,b,off,_,_,U,hg,hs.symm,fun K Z=>?_⟩
    rw[e,U]
    unfold eY
    simp only[hn,N,cond_true]
    unfold Heap.storeL
    simp only[Z,T,cond_true]
    rfl
theorem fe{n b:Nat}: ∀{l:List Nat},b∈dK n l↔b∈l/\b<n
 | []=>by simp[dK]
 |c::l=>by
  unfold dK;cases N:Nat.ble n c with
  |true=>
   have:=a08 N
   simp only[cond_true,a0w]
   rw[fe (l:=l)]
   constructor
   ·rintro⟨A,E⟩;exact⟨.inr A,E⟩
   rintro⟨rfl|A,E⟩
   ·omega
   exact⟨A,E⟩
  |false=>
   have U: ¬n<=c:=fun T=>by rw[a0y T]at N;cases N
   simp only[cond_false,a0w]
   rw[fe (l:=l)]
   constructor
   ·rintro(rfl|⟨A,E⟩)
    ·exact⟨.inl V,by omega⟩
    exact⟨.inr A,E⟩
   rintro⟨rfl|A,E⟩
   ·exact .inl V
   exact .inr ⟨A,E⟩
theorem loadV_spot{P:Program}{H:Heap}{t:TypeId}{p:Addr}{v:Value}(h:H.loadV P t p=some v):p.spot=none:=by
 obtain⟨b,o,A⟩:=p;cases A with
 |none=>rfl
 |some _=>
  unfold Heap.loadV at h
  split at h
  ·split at h
   ·simp[Heap.loadN]at h
   cases h
  ·simp[Heap.cellAt]at h
  cases h
theorem loadV_congr{H H':Heap}{t:TypeId}{b off:Nat}(h:H.get b=H'.get b):H.loadV P t ⟨b,off,none⟩=H'.loadV P t ⟨b,off,none⟩:=by unfold Heap.loadV Heap.loadN Heap.cellAt;simp only[h]
theorem loadV_some{H:Heap}{t:TypeId}{b off:Nat}{v:Value}(h:H.loadV P t ⟨b,off,none⟩=some v): ∃x,H.get b=some x:=by
 cases A:H.get b with
 |some x=>exact⟨x,V⟩
 |none=>
  unfold Heap.loadV Heap.loadN Heap.cellAt at h
  simp only[A]at h
  split at h
  ·split at h<;>cases h
  ·cases h
  cases h
theorem aSlice_spot{P:Program}{H:Heap}{t:TypeId}{p:Addr}{n k:Nat}{lo hi A:Option Value}{v:Value}(h:bA P t (.slice (some p) n k) lo hi A H=some v):p.spot=none:=by
 obtain⟨b,o,E⟩:=p;cases E with
 |none=>rfl
 |some _=>
  unfold bA at h
  split at h
  ·cases h
  split at h<;>simp_all
theorem aSlice_get{P:Program}{H:Heap}{t:TypeId}{b off n k:Nat}{lo hi N:Option Value}{v:Value}(h:bA P t (.slice (some ⟨b,off,none⟩) n k) lo hi N H=some v):
  ∃A,H.get b=some A/\∀E:Heap,E.get b=some A->bA P t (.slice (some ⟨b,off,none⟩) n k) lo hi N E=some v:=by
 cases U:H.get b with
 |some A=>
  refine⟨A,V,fun E T=>?_⟩
  rw[←h]
  unfold bA
  cases N with
  |some _=>rfl
  |none=>
   cases P.underlying t with
   |none=>rfl
   |some d=>cases d<;>first|rfl|simp only[T,U]
 |none=>
  exfalso
  unfold bA at h
  split at h
  ·cases h
  split at h<;>simp_all
theorem ey{P:Program}{ρ:Operand->Value}{o:Oper}{b:Nat}{H H':Heap}{r:AN}(hr:lU ρ o b)(h:aop P ρ o H=some (r,H')):
  ∃v E,r= .val v/\H'=H/\H.get b=some E/\∀T:Heap,T.get b=some E->aop P ρ o T=some (.val v,T):=by
 rcases hr with⟨t,a,off,U,ha⟩|⟨t,x,lo,hi,mx,off,n,k,U,hx⟩
 ·have A: ∀H,aop P ρ o H=d9 P t (ρ a) H:=fun H=>by unfold aop;rw[U]
  rw[A,ha]at h;unfold d9 at h;simp only at h;obtain⟨rfl,v,Z,rfl⟩:=cx h;obtain⟨E,N⟩:=loadV_some Z;refine⟨v,E,V,V,N,fun T h2=>?_⟩;rw[A,ha];unfold d9;simp only;rw[loadV_congr (H':=H') (by rw[h2,N]),Z];rfl
 have A: ∀H,aop P ρ o H=ovl (bA P t (ρ x) (lo.map ρ) (hi.map ρ) (mx.map ρ) H) H:=fun H=>by unfold aop;rw[U]
 rw[A,hx]at h
 obtain⟨rfl,v,Z,rfl⟩:=cx h
 obtain⟨E,N,ad⟩:=aSlice_get Z
 refine⟨v,E,V,V,N,fun T h2=>?_⟩
 rw[A,hx,ad T h2]
 rfl
theorem reads_sound{P:Program}{μ:Emb}{ρ ρ':Operand->Value}{o:Oper}{b:Nat}{H:Heap}{w:World}{v:Value}(hr:lU ρ o b)(hρ: ∀x∈o.op.operands,VRel μ (ρ x) (ρ' x))(hw:WRel μ H w)
  (h:aop P ρ o H=some (.val v,H)): ∃v',(execOp ρ' o).run P w= .ok (.value v') w/\VRel μ v v':=by
 rcases hr with⟨t,a,off,A,ha⟩|⟨t,x,lo,hi,mx,off,n,k,A,hx⟩
 ·have N: ∀H,aop P ρ o H=d9 P t (ρ a) H:=fun H=>by unfold aop;rw[A]
  rw[N,ha]at h;unfold d9 at h;simp only at h;obtain⟨_,v1,hv,E⟩:=cx h;injection E with E;subst E;have ag:VRel μ (ρ a) (ρ' a):=hρ a (by rw[A];simp[Op.operands]);rw[ha]at ag;obtain⟨l,hμ,ao⟩:=ag.ptr_inv;obtain⟨v',T,U⟩:=hN (P:=P) hw hμ hv;refine⟨v',?_,U⟩;obtain⟨al,op,ai,pos,after,ad⟩:=o;simp only at A;subst A;simp only[execOp,ao,Instr.loadAt,Instr.sureAddr,Sem.run_bind,Sem.run_pure,Result.andThen_ok,T]
 have N: ∀H,aop P ρ o H=ovl (bA P t (ρ x) (lo.map ρ) (hi.map ρ) (mx.map ρ) H) H:=fun H=>by unfold aop;rw[A]
 rw[N]at h
 obtain⟨al,op,ai,pos,after,ad⟩:=o
 simp only at A
 subst A
 obtain⟨a1,a2⟩:=fC (μ:=μ) (ρ:=ρ) (ρ':=ρ') (x:=lo) fun y Z=>hρ y (by subst Z;simp[Op.operands])
 obtain⟨b1,b2⟩:=fC (μ:=μ) (ρ:=ρ) (ρ':=ρ') (x:=hi) fun y Z=>hρ y (by subst Z;simp[Op.operands])
 obtain⟨_,c2⟩:=fC (μ:=μ) (ρ:=ρ) (ρ':=ρ') (x:=mx) fun y Z=>hρ y (by subst Z;simp[Op.operands])
 obtain⟨v1,v',E,_,T,U⟩:=kS (P:=P) hw (hρ x (by simp[Op.operands])) a1 a2 b1 b2 c2 h
 injection E with E;subst E
 refine⟨v',?_,U⟩
 simp only[execOp,Sem.run_bind,T,Result.andThen_ok,Sem.run_pure]
theorem reads_loc{μ:Emb}{ρ ρ':Operand->Value}{o:Oper}{b:Nat}(Z:lU ρ o b)(T: ∀x∈o.op.operands,VRel μ (ρ x) (ρ' x)): ∃l,μ b=some l:=by
 rcases Z with⟨t,a,off,E,U⟩|⟨t,x,lo,hi,mx,off,n,k,E,hx⟩
 ·have A:VRel μ (ρ a) (ρ' a):=T a (by rw[E];simp[Op.operands]);rw[U]at A;obtain⟨l,N,_⟩:=A.ptr_inv;exact⟨l,N⟩
 have A:VRel μ (ρ x) (ρ' x):=T x (by rw[E];simp[Op.operands]);rw[hx]at A;obtain⟨l,N,_⟩:=A.slice_inv;exact⟨l,N⟩
theorem stepD_fact{cf:cu}(a1:d6 P G cf){ops:Array Oper}{o:Oper}{s s':St}{f:Inf}(hw:WF s.heap)(h:gP P G cf ops o s=some (s',f)):
  ∃v,OpFact P G cf ops o s s' v f:=by
 unfold gP at h
 split at h
 case h_2=>cases h
 rename_i t A
 simp only[a00,a05]at h
 obtain⟨rfl,rfl⟩:=h
 have aw:WF {s.heap with log:=[]}:=hw
 have ext:=j9 a1 (s:={s with heap:={s.heap with log:=[]}}) aw A
 rw[step_eq]at A
 cases hq:bf ops o s.tmps with
 |false=>
  rw[hq]at A
  simp only[cond_false]at A
  obtain⟨h1,h2,h3⟩:=gW A
  refine⟨undef,h1,?_,?_,by rw[h2];exact a0d _,fun b _=>by rw[h2];rfl,.inl ⟨hq,V,by unfold d8;rw[hq];rfl,by rw[h2],fun b=>by rw[h2];rfl⟩⟩
  ·intro k;rcases h3 with⟨U,h5⟩|⟨d,U,T,h5⟩
   ·simp[U,h5]
   rw[U];simp only[h5,gn,a00]
  intro d T
  rcases h3 with⟨U,_⟩|⟨d',U,aq,_⟩
  ·rw[U]at T;cases T
  rw[U]at T;injection T with T;subst T;exact aq
 |true=>
  rw[hq]at A
  cases av:o.op.operands.toList.all (bo G) with
  |false=>rw[av]at A;cases A
  |true=>
   rw[av]at A
   simp only[cond_true]at A
   split at A
   case h_2=>cases A
   rename_i v H2 N
   obtain⟨h1,h2,h3⟩:=gW A
   simp only at h2
   have an:Ext {s.heap with log:=[]} H2:=mS a1 aw N
   refine⟨v,h1,?_,?_,by simp only[h2];exact an.next,fun b hb=>by simp only[h2]at hb⊢;exact an.far b hb,.inr ⟨hq,av,{s.heap with log:=[]},H2,fun _=>rfl,rfl,N,fun b=>by simp only[h2];rfl,by simp only[h2],?_⟩⟩
   ·intro k;rcases h3 with⟨U,h5⟩|⟨d,U,T,h5⟩
    ·simp[U,h5]
    rw[U];simp only[h5,gn,a00]
   ·intro d T;rcases h3 with⟨U,_⟩|⟨d',U,aq,_⟩
    ·rw[U]at T;cases T
    rw[U]at T;injection T with T;subst T;exact aq
   ·--which kind
    have hx:(∃w,Inf.x (dK s.heap.next t.heap.log)= .x w/\(∀b,b∈w->b<s.heap.next)/\(∀b,b<s.heap.next->b∉w->t.heap.get b=s.heap.get b)/\(ia o.op=true->∃t a x b off,o.op= .store t a x/\cI s.tmps a= .pointer (some ⟨b,off,none⟩)/\b∈w)):=by
     refine⟨_,V,fun b hb=>(fe.1 hb).2,fun b hb hn=>?_,fun A=>?_⟩
     ·obtain⟨d,T,ax⟩:=an.log;rw[h2];refine ax b hb fun hm=>hn (fe.2 ⟨?_,hb⟩)
      rw[h2,T,a0p];exact hm
     cases E:o.op<;>rw[E]at A<;>try (cases A)
     rename_i ty a x;unfold dL at N;cases Z:aop P (cI s.tmps) o {s.heap with log:=[]} with
     |none=>rw[Z]at N;cases N
     |some q=>
      obtain⟨r,H3⟩:=q
      obtain⟨rfl,b,off,b0,bl,hp,hg,rfl,_⟩:=mw E Z
      rw[Z]at N
      simp only[a00,a05]at N
      refine⟨ty,a,x,b,off,V,hp,fe.2 ⟨?_,aw.lt hg⟩⟩
      rw[h2,←N.2];exact a0q
    unfold d8;rw[hq];cases hv:aY o.op with
    |true=>exact .inl ⟨V,.inl V⟩
    |false=>
     simp only[a1E,a1M,cond_false]
     cases bz:dN o.op with
     |true=>exact .inr (.inl ⟨V,V⟩)
     |false=>
      simp only[cond_false]
      split
      ·rename_i ty a E;split
       ·rename_i p hp;have ag:p.spot=none:=by
         unfold dL at N;have Z:aop P (cI s.tmps) o {s.heap with log:=[]}=d9 P ty (cI s.tmps a) {s.heap with log:=[]}:=by unfold aop;rw[E]
         rw[Z,hp]at N;unfold d9 at N;simp only at N;cases hl:Heap.loadV P {s.heap with log:=[]} ty p with
         |none=>rw[hl]at N;simp[ovl]at N
         |some u=>exact loadV_spot hl
        obtain⟨b,off,sp⟩:=p;simp only at ag;subst ag;exact .inr (.inr (.inl ⟨b,V,.inl ⟨ty,a,off,E,hp⟩⟩))
       exact .inr (.inr (.inr hx))
      ·rename_i ty x lo hi mx E;split
       ·rename_i p n k hp;have ag:p.spot=none:=by
         unfold dL at N;have Z:aop P (cI s.tmps) o {s.heap with log:=[]}=ovl (bA P ty (cI s.tmps x) (lo.map (cI s.tmps)) (hi.map (cI s.tmps)) (mx.map (cI s.tmps)) {s.heap with log:=[]}) {s.heap with log:=[]}:=by unfold aop;rw[E]
         rw[Z,hp]at N;cases hl:bA P ty (.slice (some p) n k) (lo.map (cI s.tmps)) (hi.map (cI s.tmps)) (mx.map (cI s.tmps)) {s.heap with log:=[]} with
         |none=>rw[hl]at N;simp[ovl]at N
         |some u=>exact aSlice_spot hl
        obtain⟨b,off,sp⟩:=p;simp only at ag;subst ag;exact .inr (.inr (.inl ⟨b,V,.inr ⟨ty,x,lo,hi,mx,off,n,k,E,hp⟩⟩))
       ·rename_i n k hp;exact .inl ⟨V,.inr (.inl ⟨ty,x,lo,hi,mx,n,k,E,hp⟩)⟩
       exact .inr (.inr (.inr hx))
      ·rename_i xs ts E;split
       ·rename_i a n k hp;exact .inl ⟨V,.inr (.inr ⟨xs,ts,_,E,hp,.inl ⟨a,n,k,V⟩⟩)⟩
       ·rename_i a5 hp;exact .inl ⟨V,.inr (.inr ⟨xs,ts,_,E,hp,.inr ⟨a5,V⟩⟩)⟩
       exact .inr (.inr (.inr hx))
      exact .inr (.inr (.inr hx))
theorem lb{ρ:Operand->Value}{o:Oper}{H H':Heap}{r:AN}(h:bF P ρ o H=some (r,H')):H'=H/\∃v,r= .val v:=by
 unfold bF at h;cases E:o.op.operands.toList.all fun x=>jI (ρ x) with
 |false=>rw[E]at h;cases h
 |true=>
  rw[E]at h
  simp only[cond_true]at h
  split at h
  ·rename_i v N;cases A:noA2 v with
   |false=>rw[A]at h;cases h
   |true=>
    rw[A]at h;simp only[cond_true,a00,a05]at h
    exact⟨h.2.symm,v,h.1.symm⟩
  cases h
theorem lift_val{s:Sem Value}{H H':Heap}{r:AN}(h:lift P s H=some (r,H')):H'=H/\∃v,r= .val v:=by obtain⟨A,v,E,_⟩:=lB h;exact⟨A,v,E⟩
theorem fy{x:Option Value}{H H':Heap}{r:AN}(h:ovl x H=some (r,H')):H'=H/\∃v,r= .val v:=by obtain⟨A,v,_,E⟩:=cx h;exact⟨A,v,E⟩
theorem fv{v:Value}{H H':Heap}{r:AN}(h:some (AN.val v,H)=some (r,H')):H'=H/\∃v,r= .val v:=by simp only[a00,a05]at h;exact⟨h.2.symm,v,h.1.symm⟩
theorem aop_value{ρ:Operand->Value}{o:Oper}{H H':Heap}{r:AN}(hk:aY o.op=true)(h:aop P ρ o H=some (r,H')):H'=H/\∃v,r= .val v:=by
 obtain⟨T,op,N,pos,after,E⟩:=o;cases op<;>simp only[aY,a0M]at hk
 case move x=>exact fv (v:=ρ x) h
 case assign x=>exact fv (v:=ρ x) h
 case pick c a b=>
  have A:gm ρ c a b H=some (r,H'):=h
  unfold gm at A
  split at A
  ·exact fv A
  cases A
 case build t parts=>
  have A:gY P t (parts.map fun p=>(p.1,ρ p.2)) H=some (r,H'):=h
  unfold gY at A
  split at A
  ·exact lift_val A
  cases A
 case nilCheck x=>
  have A:opNil (ρ x) H=some (r,H'):=h
  unfold opNil at A
  split at A
  ·exact fv A
  ·exact fv A
  cases A
 case binOp op t x y yt=>
  have A:aBin P ρ ⟨T,.binOp op t x y yt,N,pos,after,E⟩ op t (ρ x) y H=some (r,H'):=h
  unfold aBin at A
  split at A
  ·unfold binInt at A;split at A
   ·exact fy A
   cases A
  ·unfold binStr at A;split at A
   ·exact fy A
   cases A
  unfold nX at A;split at A
  ·exact lb A
  ·exact lb A
  obtain⟨Z,b,_,hc⟩:=jh A
  rcases hc with⟨_,U⟩|⟨_,U⟩
  ·exact⟨Z,_,U⟩
  exact⟨Z,_,U⟩
 case unOp op t x=>
  have A:aUn P ρ ⟨T,.unOp op t x,N,pos,after,E⟩ op (ρ x) H=some (r,H'):=h
  unfold aUn at A
  split at A
  ·split at A
   ·exact fv A
   cases A
  exact lb A
 case makeFunc fn first captured=>exact fv (v:= .func fn (first.map ρ) (captured.map ρ)) h
 case fieldAddr s x f=>
  have A:ovl (iY P s (ρ x) f) H=some (r,H'):=h
  exact fy A
 case field t x f=>
  have A:ovl (ir P t (ρ x) f) H=some (r,H'):=h
  exact fy A
 case indexAddr t x i=>
  have A:ovl (du P t (ρ x) (ρ i)) H=some (r,H'):=h
  exact fy A
 case index t x i=>
  have A:lT P t (ρ x) (ρ i) H=some (r,H'):=h
  unfold lT at A
  split at A
  ·exact fy A
  exact lift_val A
 case extract x i=>
  have A:ovl (gI (ρ x) i) H=some (r,H'):=h
  exact fy A
theorem ms{ρ:Operand->Value}{o:Oper}{H H':Heap}{r:AN}(A:aY o.op=true)(h:aop P ρ o H=some (r,H')):H'=H:=by have:=aop_value A h;exact this.1
theorem kK{ρ:Operand->Value}{o:Oper}{H H':Heap}{r:AN}(A:aY o.op=true)(h:aop P ρ o H=some (r,H')): ∃v,r= .val v:=(aop_value A h).2
theorem fc{ρ:Operand->Value}{o:Oper}{H H':Heap}{r:AN}(hk:dN o.op=true)(h:aop P ρ o H=some (r,H')):
  ∃v T,r= .val v/\H'=H.push T/\∀E:Heap,E.next=H.next->aop P ρ o E=some (.val v,E.push T):=by
 obtain⟨ai,op,ag,pos,after,aa⟩:=o
 cases op<;>simp only[dN,a0M]at hk
 case alloc e=>
  have A:eG P e H=some (r,H'):=h
  unfold eG at A
  split at A
  ·rename_i z Z;simp only[a00,a05]at A;obtain⟨rfl,rfl⟩:=A;refine⟨_,_,V,V,fun E N=>?_⟩;show eG P e E=_;unfold eG;rw[Z,N];rfl
  cases A
 case box e x=>
  have A:some (AN.val (ptrTo H.next),aR H (ρ x).cells.toList none)=some (r,H'):=h
  simp only[a00,a05]at A
  obtain⟨rfl,rfl⟩:=A
  refine⟨_,_,V,V,fun E N=>?_⟩
  show some (AN.val (ptrTo E.next),aR E (ρ x).cells.toList none)=_
  rw[N];rfl
 case buildSlice t n parts=>
  have A:bN P t n (dJ (fun p=>(p.1,ρ p.2)) parts.toList) H=some (r,H'):=h
  unfold bN at A
  split at A
  ·rename_i sz z Z;cases U:Nat.ble (n *sz) 16777216 with
   |false=>rw[U]at A;cases A
   |true=>
    rw[U]at A
    simp only[cond_true]at A
    split at A
    ·rename_i cells hc;simp only[a00,a05]at A;obtain⟨rfl,rfl⟩:=A;refine⟨_,_,V,V,fun E N=>?_⟩;show bN P t n (dJ (fun p=>(p.1,ρ p.2)) parts.toList) E=_;unfold bN;rw[Z];simp only[U,cond_true,hc,N];rfl
    cases A
  cases A
def kD(n:Nat):Heap:={tr:= .nil,next:=n,log:=[]}
theorem da(n b:Nat):(kD n).get b=none:=rfl
theorem kC(μ:Emb)(n:Nat)(w:World):WRel μ (kD n) w:=
 ⟨(fun b l o _ h=>by rw[da]at h;cases h),(fun A E N T U Z _ _ _ h=>by rw[da]at h;cases h)⟩
theorem aSlice_nil{t:TypeId}{n k:Nat}{lo hi A:Option Value}(H E:Heap):bA P t (.slice none n k) lo hi A H=bA P t (.slice none n k) lo hi A E:=by
 unfold bA;cases A with
 |some _=>rfl
 |none=>
  cases P.underlying t with
  |none=>rfl
  |some d=>cases d<;>first|rfl|(cases n<;>cases k<;>rfl)
theorem eH{ρ:Operand->Value}{o:Oper}{H H':Heap}{r:AN}(N:NilCut ρ o)(h:aop P ρ o H=some (r,H')):H'=H/\∃v,r= .val v:=by
 rcases N with⟨t,x,lo,hi,U,n,k,E,T⟩|⟨xs,Z,x,E,T,_⟩
 ·have A: ∀H,aop P ρ o H=ovl (bA P t (ρ x) (lo.map ρ) (hi.map ρ) (U.map ρ) H) H:=fun H=>by unfold aop;rw[E]
  rw[A]at h;exact fy h
 have A:aop P ρ o H=bLen P Z (dJ ρ xs.toList) H:=by unfold aop;rw[E];rfl
 rw[A]at h;unfold bLen at h;split at h
 ·exact fy h
 cases h
theorem aLen_any{t:TypeId}{x:Value}(E:(∃a n k,x= .slice a n k)\/∃s,x= .string s)(H A:Heap):aLen P t x H=aLen P t x A:=by
 rcases E with⟨a,n,k,rfl⟩|⟨s,rfl⟩<;>(unfold aLen;cases P.underlying t with
  |none=>rfl
  |some d=>cases d<;>rfl)
theorem nilcut_sound{μ:Emb}{ρ ρ':Operand->Value}{o:Oper}{H:Heap}{v:Value}(hr:NilCut ρ o)(hρ: ∀x∈o.op.operands,VRel μ (ρ x) (ρ' x))(h:aop P ρ o H=some (.val v,H))(w:World):
  ∃v',(execOp ρ' o).run P w= .ok (.value v') w/\VRel μ v v':=by
 rcases hr with hr|⟨xs,ts,x,A,hxs,U⟩
 rotate_left
 ·have N:aop P ρ o H=bLen P ts (dJ ρ xs.toList) H:=by unfold aop;rw[A];rfl
  rw[N,hxs]at h;obtain⟨aq,op,ag,pos,after,ai⟩:=o;simp only at A;subst A;unfold bLen at h;split at h
  ·rename_i t x1 ht an;simp only[a2o,and_true]at an;subst an;obtain⟨_,v1,Z,E⟩:=cx h;injection E with E;subst E;rw[aLen_any U H (kD 0)]at Z;have al:LRel μ (dJ ρ xs.toList) (xs.map ρ').toList:=by
    rw[ji];have:=kF (μ:=μ) (ops:=xs) (ρ:=ρ) (ρ':=ρ') fun x U=>hρ x (by simp[Op.operands,Call.operands];exact U)
    simpa using this
   obtain⟨x',aw,ax⟩:=one_of al hxs;obtain⟨T,hn⟩:=len_sound (P:=P) (ty:=ag) (kC μ 0 w) ax Z;have ar:ts= #[t]:=a1j.1 (by rw[ht]);refine⟨v,?_,.atom v hn⟩;simp only[execOp,resolve,Sem.run_bind,Sem.run_pure,Result.andThen_ok,invoke,builtin,aw,ar,T]
  cases h
 obtain⟨t,x,lo,hi,mx,n,k,A,U⟩:=hr
 have N: ∀H,aop P ρ o H=ovl (bA P t (ρ x) (lo.map ρ) (hi.map ρ) (mx.map ρ) H) H:=fun H=>by unfold aop;rw[A]
 rw[N,U]at h
 obtain⟨_,v1,Z,E⟩:=cx h
 rw[aSlice_nil H (kD 0)]at Z
 have h2:ovl (bA P t (ρ x) (lo.map ρ) (hi.map ρ) (mx.map ρ) (kD 0)) (kD 0)=some (.val v,kD 0):=by rw[U,Z,E];rfl
 obtain⟨aq,op,ag,pos,after,ai⟩:=o
 simp only at A
 subst A
 obtain⟨a1,a2⟩:=fC (μ:=μ) (ρ:=ρ) (ρ':=ρ') (x:=lo) fun y hy=>hρ y (by subst hy;simp[Op.operands])
 obtain⟨b1,b2⟩:=fC (μ:=μ) (ρ:=ρ) (ρ':=ρ') (x:=hi) fun y hy=>hρ y (by subst hy;simp[Op.operands])
 obtain⟨_,c2⟩:=fC (μ:=μ) (ρ:=ρ) (ρ':=ρ') (x:=mx) fun y hy=>hρ y (by subst hy;simp[Op.operands])
 obtain⟨v1,v',E,_,T,av⟩:=kS (P:=P) (kC μ 0 w) (hρ x (by simp[Op.operands])) a1 a2 b1 b2 c2 h2
 injection E with E;subst E
 refine⟨v',?_,av⟩
 simp only[execOp,Sem.run_bind,T,Result.andThen_ok,Sem.run_pure]
theorem either_heap{ρ:Operand->Value}{o:Oper}{H H':Heap}{r:AN}(A:aY o.op=true\/NilCut ρ o)(h:aop P ρ o H=some (r,H')):H'=H:=by
 rcases A with A|A
 ·exact ms A h
 exact(eH A h).1
theorem mT{ρ:Operand->Value}{o:Oper}{H H':Heap}{r:AN}(A:aY o.op=true\/NilCut ρ o)(h:aop P ρ o H=some (r,H')): ∃v,r= .val v:=by
 rcases A with A|A
 ·exact kK A h
 exact(eH A h).2
structure Trace(P:Program)(G:Nat)(cf:cu)(ops:Array Oper)(st:Nat->St)(vl:Nat->Value)(nf:Nat->Inf):Prop where
 fact: ∀k o,ops[k]?=some o->OpFact P G cf ops o (st k) (st (k+1)) (vl k) (nf k)
 past: ∀k,ops.size<=k->st (k+1)=st k
 comp: ∀j k,j<k->k<ops.size->bn (cm ops) j k=true\/dq (nf j) (nf k)=true\/stst ops j k (nf j) (nf k)=true
 reg:RegFacts ops
 wf: ∀k,WF (st k).heap
section
variable {cf:cu} {ops:Array Oper} {st:Nat->St} {vl:Nat->Value} {nf:Nat->Inf}
theorem Trace.mono(T:Trace P G cf ops st vl nf)(k:Nat):(st k).heap.next<=(st (k+1)).heap.next:=by
 rcases a0k k ops.size with h|h
 ·exact(T.fact k ops[k] (a0I h)).next
 rw[T.past k h];exact a0d _
theorem Trace.monoL(T:Trace P G cf ops st vl nf){j k:Nat}(h:j<=k):(st j).heap.next<=(st k).heap.next:=by
 induction h with
 |refl=>exact a0d _
 |step _ ih=>exact a0e ih (T.mono _)
theorem Trace.sizeL(T:Trace P G cf ops st vl nf)(k:Nat):(st k).size=(st 0).size:=by
 induction k with
 |zero=>rfl
 |succ k ih=>
  rcases a0k k ops.size with h|h
  ·rw[(T.fact k ops[k] (a0I h)).size,ih]
  rw[T.past k h,ih]
theorem Trace.tm(T:Trace P G cf ops st vl nf)(k t:Nat):cU (st (k+1)).tmps t=if jW ops k=some t then vl k else cU (st k).tmps t:=by
 unfold jW;rcases a0k k ops.size with h|h
 ·have A:=a0I h;rw[(T.fact k ops[k] A).tm t,A];rfl
 rw[T.past k h,Array.getElem?_eq_none h];simp
theorem Trace.chg(T:Trace P G cf ops st vl nf){k b:Nat}(h:chg st k b):
  k<ops.size/\((st k).heap.next<=b/\b<(st (k+1)).heap.next\/∃w,nf k= .x w/\b∈w/\b<(st k).heap.next):=by
 have hk:k<ops.size:=by
  rcases a0k k ops.size with hk|hk
  ·exact hk
  exfalso;unfold R.chg at h;rw[T.past k hk]at h;exact h V
 refine⟨hk,?_⟩
 have F:=T.fact k ops[k] (a0I hk)
 have aq:b<(st (k+1)).heap.next:=by
  rcases a0k b (st (k+1)).heap.next with N|N
  ·exact N
  exact absurd (F.far b N) h
 rcases a0k b (st k).heap.next with hb|hb
 ·right;rcases F.how with⟨_,_,_,_,hs⟩|⟨_,_,H1,H2,ag,av,E,Z,aw,an⟩
  ·exact absurd (hs b) h
  rcases an with⟨hf,hv⟩|⟨hf,hv⟩|⟨b',hf,ai⟩|⟨w,hf,ax,ap,_⟩
  ·--a value operation changes nothing
   exfalso;unfold dL at E;split at E
   ·rename_i u N A;simp only[a00,a05]at E;have:=(either_heap hv A)
    rw[←E.2,this]at Z;exact h (by rw[Z b,ag b])
   ·rename_i N A;have:=(mT hv A)
    obtain⟨_,U⟩:=this;cases U
   ·rename_i f args N A;obtain⟨_,U⟩:=mT hv A;cases U
   cases E
  ·exfalso;unfold dL at E;split at E
   ·rename_i u N A;simp only[a00,a05]at E;obtain⟨_,ay,_,ao,_⟩:=fc hv A;rw[←E.2,ao]at Z;exact h (by rw[Z b,Heap.get_push_ne _ _ M,ag b])
   ·rename_i N A;obtain⟨_,_,U,_⟩:=fc hv A;cases U
   ·rename_i f args N A;obtain⟨_,_,U,_⟩:=fc hv A;cases U
   cases E
  ·exfalso;unfold dL at E;split at E
   ·rename_i u N A;simp only[a00,a05]at E;obtain⟨_,_,_,hH,_,_⟩:=ey ai A;rw[←E.2,hH]at Z;exact h (by rw[Z b,ag b])
   ·rename_i N A;obtain⟨_,_,U,_⟩:=ey ai A;cases U
   ·rename_i f args N A;obtain⟨_,_,U,_⟩:=ey ai A;cases U
   cases E
  rcases Classical.em (b∈w) with hm|hm
  ·exact⟨w,hf,hm,hb⟩
  exact absurd (ap b hb hm) h
 exact .inl ⟨hb,aq⟩
end
end
end Go.R
set_option linter.unusedVariables false
namespace Go.R
section
variable {P:Program} {G:Nat} {cf:cu} {ops:Array Oper} {st:Nat->St} {vl:Nat->Value} {nf:Nat->Inf}
variable {μ0 μ:Emb} {w0 w:World} {d0:List Deferred} {S:Nat->Bool} {a:Act} {i:Nat} {o:Oper}
structure Ready(ops:Array Oper)(S:Nat->Bool)(i:Nat)(o:Oper):Prop where
 at_:ops[i]?=some o
 new:S i=false
 edges: ∀e∈o.after.toList,Region.binds .any e=true->S e.on=true
theorem Ready.lt(R:Ready ops S i o):i<ops.size:=(a0G.1 R.at_).1
theorem Ready.dc(R:Ready ops S i o)(h:DC ops S):DC ops (jR S i):=by
 intro k x A hs e T N;by_cases E:k=i
 ·subst E;rw[R.at_]at A;injection A with A;subst A;have:=R.edges e T N;unfold jR;rw[this];simp
 rw[gz S E]at hs;have:=h k x A hs e T N;unfold jR;rw[this];simp
theorem Ready.ahead(R:Ready ops S i o)(h:DC ops S){k:Nat}(A:k≠i)(E:bn (cm ops) k i=true):S k=true:=by have:=(R.dc h).anc i (gy S i) E;rwa [gz S A]at this
theorem Ready.behind(R:Ready ops S i o)(h:DC ops S){k:Nat}(A:bn (cm ops) i k=true):S k=false:=by
 cases hs:S k with
 |false=>rfl
 |true=>have:=h.anc k hs A;rw[R.new]at this;cases this
theorem Ready.iff_(R:Ready ops S i o)(h:DC ops S){k:Nat}(A:k<i->bn (cm ops) k i=true)(E:i<k->bn (cm ops) i k=true):S k=true↔k<i:=by
 rcases Nat.lt_trichotomy k i with hlt|rfl|hgt
 ·exact⟨fun _=>hlt,fun _=>R.ahead h M (A hlt)⟩
 ·rw[R.new];simp
 rw[R.behind h (E hgt)];simp;omega
theorem Ready.iffAdd(R:Ready ops S i o)(h:DC ops S){k:Nat}(E:k<i->bn (cm ops) k i=true)(N:i<k->bn (cm ops) i k=true):jR S i k=true↔k<i+1:=by
 by_cases A:k=i
 ·subst A;rw[gy];simp
 rw[gz S A,R.iff_ h E N];omega
theorem share(T:Trace P G cf ops st vl nf)(ho:ops[i]?=some o){t:Tmp}(A:t∈o.looksAt ops\/o.dst=some t){k:Nat}(E:jW ops k=some t):
  (k<i->bn (cm ops) k i=true)/\(i<k->bn (cm ops) i k=true):=by
 unfold jW at E
 cases U:ops[k]? with
 |none=>rw[U]at E;simp at E
 |some x=>
  rw[U]at E
  simp only[a0n]at E
  constructor
  ·intro N;rcases T.reg.pair k i x o N U ho with h|h
   ·exact h
   exfalso;obtain⟨p1,Z,p3⟩:=Oper.apart_spec h;rcases A with A|A
   ·exact p1 t E A
   exact Z t E A
  intro N
  rcases T.reg.pair i k o x N ho U with h|h
  ·exact h
  exfalso
  obtain⟨p1,Z,p3⟩:=Oper.apart_spec h
  rcases A with A|A
  ·exact p3 t E A
  exact Z t A E
theorem slot_here(T:Trace P G cf ops st vl nf)(I:Inv ops st vl μ0 w0 d0 S μ a w)(R:Ready ops S i o){t:Tmp}(E:t∈o.looksAt ops):
  VRel μ (cU (st i).tmps t) (a.tmps.getD t undef):=by
 have:=I.tm t
 rw[tv_eq st vl ops (i:=i) (fun k=>T.tm k t) ops.size (fun k _ A=>R.iff_ I.dc (share T R.at_ (.inl E) A).1 (share T R.at_ (.inl E) A).2)]at this
 rwa [a2f (a2c R.lt)]at this
theorem operand_here(T:Trace P G cf ops st vl nf)(I:Inv ops st vl μ0 w0 d0 S μ a w)(R:Ready ops S i o)(N:GRel μ G)(A:o.op.operands.toList.all (bo G)=true):
  ∀x∈o.op.operands,VRel μ (cI (st i).tmps x) (a.eval x):=by
 intro x E
 refine eval_of N (a0t.1 A x (by simpa using E)) fun t U=>?_
 subst U
 refine slot_here T I R ?_
 unfold Oper.looksAt
 rw[a09]
 left
 rw[List.mem_filterMap]
 exact⟨.tmp t,by simpa using E,V⟩
theorem wanted_here(T:Trace P G cf ops st vl nf)(I:Inv ops st vl μ0 w0 d0 S μ a w)(R:Ready ops S i o):bf ops o (st i).tmps=Region.wanted o (yielded ops a.tmps):=by
 refine wanted_eq (μ:=μ) fun j w E d A=>slot_here T I R ?_
 unfold Oper.looksAt;rw[a09];right;rw[E];simp only;rw[A];simp
theorem between(T:Trace P G cf ops st vl nf){j k b:Nat}(A:(st j).heap.next<=b)(E:b<(st (j+1)).heap.next)(N:(st k).heap.next<=b)(U:b<(st (k+1)).heap.next):j=k:=by
 rcases Nat.lt_trichotomy j k with h|h|h
 ·have:=T.monoL (show j+1<=k from h);omega
 ·exact h
 have:=T.monoL (show k+1<=j from h);omega
theorem mL(T:Trace P G cf ops st vl nf)(I:Inv ops st vl μ0 w0 d0 S μ a w)(R:Ready ops S i o)(b:Nat)(A:(st i).heap.next<=b)(E:b<(st (i+1)).heap.next):μ b=none:=by
 cases N:μ b with
 |none=>rfl
 |some l=>
  exfalso
  rcases I.dom b l N with h|⟨k,_,hs,h3,h4⟩|h
  ·have:=T.monoL (a0r i);omega
  ·have:=between T A E h3 h4;subst this;rw[R.new]at hs;cases hs
  have:=T.monoL (show i+1<=ops.size from R.lt);omega
theorem lJ(T:Trace P G cf ops st vl nf)(I:Inv ops st vl μ0 w0 d0 S μ a w)(R:Ready ops S i o){b:Nat}{l:Loc}(hb:μ b=some l)(ad:b<(st i).heap.next)
  (Z: ∀k w',nf k= .x w'->b∈w'->k<ops.size->(k<i->bn (cm ops) k i=true)/\(i<k->bn (cm ops) i k=true)):kw st S ops.size b=(st i).heap.get b:=by
 rw[lK st (i:=i) ops.size,a2f (a2c R.lt)]
 intro k N hc
 obtain⟨_,⟨A,E⟩|⟨w',A,E,h3⟩⟩:=T.chg hc
 ·--made there
  have U:k<i:=by
   rcases a0k k i with h|h
   ·exact h
   have:=T.monoL h;omega
  refine⟨fun _=>U,fun _=>?_⟩;rcases I.dom b l hb with h|⟨k',_,hs,h4,h5⟩|h
  ·have:=T.monoL (a0r k);omega
  ·have:=between T A E h4 h5;subst this;exact hs
  have:=T.monoL (a2c R.lt);omega
 exact R.iff_ I.dc (Z k w' A E N).1 (Z k w' A E N).2
theorem gH(T:Trace P G cf ops st vl nf)(I:Inv ops st vl μ0 w0 d0 S μ a w)(R:Ready ops S i o){b:Nat}(hb:b<(st i).heap.next->∃l,μ b=some l)(al:b<(st (i+1)).heap.next)
  (hw: ∀k w',nf k= .x w'->b∈w'->k<ops.size->(k<i->bn (cm ops) k i=true)/\(i<k->bn (cm ops) i k=true)):kw st (jR S i) ops.size b=(st (i+1)).heap.get b:=by
 rw[lK st (i:=i+1) ops.size,a2f R.lt]
 intro k Z hc
 by_cases N:k=i
 ·subst N;rw[gy];simp
 obtain⟨_,⟨A,E⟩|⟨w',A,E,h3⟩⟩:=T.chg hc
 ·have aa:k<i:=by
   rcases a0k k i with h|h
   ·exact h
   have:=T.monoL (show i+1<=k by omega);omega
  rw[gz S N];refine⟨fun _=>by omega,fun _=>?_⟩;have U:b<(st i).heap.next:=by have:=T.monoL (show k+1<=i from aa);omega
  obtain⟨l,hl⟩:=hb U;rcases I.dom b l hl with h|⟨k',_,hs,h4,h5⟩|h
  ·have:=T.monoL (a0r k);omega
  ·have:=between T A E h4 h5;subst this;exact hs
  have:=T.monoL (a2c R.lt);omega
 exact R.iffAdd I.dc (hw k w' A E Z).1 (hw k w' A E Z).2
theorem iV(T:Trace P G cf ops st vl nf){b:Nat}(h: ¬chg st i b):kw st (jR S i) ops.size b=kw st S ops.size b:=by refine(mV st ops.size fun k _ hc=>?_);exact gz S (fun e=>by subst e;exact h hc)
theorem iM{b:Nat}: ∀{l:List Nat},memB b l=true↔b∈l
 | []=>by simp[memB]
 |c::l=>by
  unfold memB;rw[a0C,iM (l:=l),a0w];constructor
  ·rintro(h|h)
   ·exact .inl (a0c h)
   exact .inr h
  rintro(rfl|h)
  ·exact .inl (a11 b)
  exact .inr h
theorem gB(T:Trace P G cf ops st vl nf)(I:Inv ops st vl μ0 w0 d0 S μ a w)(R:Ready ops S i o):
  (∀t,o.dst=some t->tv st vl ops (jR S i) ops.size t=vl i)/\(∀t,o.dst≠some t->tv st vl ops (jR S i) ops.size t=tv st vl ops S ops.size t):=by
 constructor
 ·intro t E;rw[tv_eq st vl ops (i:=i+1) (fun k=>T.tm k t) ops.size (fun k _ A=>R.iffAdd I.dc (share T R.at_ (.inr E) A).1 (share T R.at_ (.inr E) A).2),a2f R.lt,T.tm];rw[if_pos (by unfold jW;rw[R.at_];exact E)]
 intro t E
 refine tv_congr st vl ops ops.size fun k _ A=>gz S ?_
 intro e
 subst e
 unfold jW at A
 rw[R.at_]at A
 exact E A
theorem gE(T:Trace P G cf ops st vl nf)(I:Inv ops st vl μ0 w0 d0 S μ a w)(R:Ready ops S i o)(A: ∀b,(st (i+1)).heap.get b=(st i).heap.get b){v':Value}(U:VRel μ (vl i) v'):
  Inv ops st vl μ0 w0 d0 (jR S i) μ (a.put o.dst v') w:=by
 obtain⟨Z,t2⟩:=gB T I R
 refine Inv.next (H:=kD (st i).heap.next) (Hn:=kD (st i).heap.next) I R.lt R.at_ (Post.refl (kC μ _ w)) U (fun k=>T.mono k) (a0d _) (T.mono i)
  (fun b l x _ h=>by rw[da]at h;cases h) (fun b l x _ h=>by rw[da]at h;cases h) (fun b l x E _ hc=>⟨E,V,?_⟩) (R.dc I.dc) (fun d N=>?_) Z t2
 ·rw[iV T (fun e=>e (A b))]at hc;exact hc
 have:=(T.fact i o R.at_).dlt d N
 rwa [T.sizeL i]at this
theorem no_st(R:Ready ops S i o)(h:ia o.op=false){k:Nat}{f g:Inf}:stst ops k i g f=false/\stst ops i k g f=false:=by
 have:stAt ops i=false:=by unfold stAt;rw[R.at_];exact h
 unfold stst;rw[this];cases stAt ops k<;>exact⟨V,V⟩
theorem new_nst{p:Op}(h:dN p=true):ia p=false:=by cases p<;>first|rfl|cases h
theorem reads_nst{ρ:Operand->Value}{b:Nat}(h:lU ρ o b):ia o.op=false:=by rcases h with⟨_,_,_,h,_⟩|⟨_,_,_,_,_,_,_,_,h,_⟩<;>rw[h]<;>rfl
theorem nO{b:Nat}: ∀{w u:List Nat},disjL w u=true->b∈w->b∈u->False
 | [],_,_,h,_=>by cases h
 |c::w,u,h,hb,hu=>by
  unfold disjL at h;rw[a0a,a0F]at h;rcases a0w.1 hb with rfl|hb
  ·rw[iM.2 hu]at h;cases h.1
  exact nO h.2 hb hu
theorem inv_step(gb:d6 P G cf)(T:Trace P G cf ops st vl nf)(I:Inv ops st vl μ0 w0 d0 S μ a w)(hG:GRel μ0 G)(R:Ready ops S i o){K:Act->World->Prop}{Q:Exit->Act->World->Prop}
  (hK: ∀μ' a' w',Inv ops st vl μ0 w0 d0 (jR S i) μ' a' w'->K a' w'):wpOp P ops Q i K a w:=by
 have fd:GRel μ G:=hG.mono I.ext0
 have F:=T.fact i o R.at_
 have c5:=wanted_here T I R
 unfold wpOp
 rw[R.at_]
 simp only
 rcases F.how with⟨hq,hv,hf,hn,hs⟩|⟨hq,f1,H1,H2,ai,av,U,aq,c0,e2⟩
 ·rw[c5]at hq;rw[hq];simp only[a0M,if_false];exact hK μ _ w (gE T I R hs (by rw[hv];exact VRel.undef))
 rw[c5]at hq
 rw[hq]
 simp only[if_true]
 left
 have hρ:=operand_here T I R fd f1
 have ci:WF (st i).heap:=T.wf i
 rcases e2 with⟨hf,hk|hk⟩|⟨hf,hk⟩|⟨b,hf,a5⟩|⟨wr,hf,g4,g5,g2⟩
 rotate_left
 ·--a part of the nil slice
  unfold dL at U;split at U
  case h_2=>rename_i Z A;obtain⟨_,_,E⟩:=eH hk A;cases E
  case h_3=>rename_i f args Z A;obtain⟨_,_,E⟩:=eH hk A;cases E
  case h_4=>cases U
  rename_i u Z A;simp only[a00,a05]at U;obtain⟨e1,_⟩:=eH hk A;subst e1;obtain⟨rfl,rfl⟩:=U;obtain⟨v',ap,hr⟩:=nilcut_sound hk hρ A w;unfold Oper.wp;rw[ap,Oper.upon_value];exact hK μ _ w (gE T I R (fun b=>by rw[aq b,ai b]) hr)
 rotate_right
 ·--a value
  have A: ∃u,aop P (cI (st i).tmps) o H1=some (.val u,H1)/\u=vl i/\H2=H1:=by
   unfold dL at U;split at U
   ·rename_i u Z A;simp only[a00,a05]at U;have:=ms hk A;subst this;exact⟨u,A,U.1,U.2.symm⟩
   ·rename_i Z A;obtain⟨_,E⟩:=kK hk A;cases E
   ·rename_i f args Z A;obtain⟨_,E⟩:=kK hk A;cases E
   cases U
  obtain⟨u,A,rfl,rfl⟩:=A;obtain⟨_,v,v',ds,ap,hr⟩:=kL hk hρ A;injection ds with ds;subst ds;unfold Oper.wp;rw[ap w,Oper.upon_value];exact hK μ _ w (gE T I R (fun b=>by rw[aq b,ai b]) hr)
 ·--a new block
  unfold dL at U;split at U
  case h_2=>rename_i Z A;obtain⟨_,_,E,_⟩:=fc hk A;cases E
  case h_3=>rename_i f args Z A;obtain⟨_,_,E,_⟩:=fc hk A;cases E
  case h_4=>cases U
  rename_i u Z A;simp only[a00,a05]at U;obtain⟨rfl,rfl⟩:=U;obtain⟨u,N,hu,e3,f2⟩:=fc hk A;injection hu with hu;subst hu e3;have dd:(st (i+1)).heap.next=(st i).heap.next+1:=by rw[c0,Heap.next_push,av]
  have f9:=f2 (kD (st i).heap.next) (by rw[av];rfl);obtain⟨n,w',μ',ap,hp,hr⟩:=gx hρ (kC μ _ w) (fun b a7 a8=>mL T I R b a7 (by rw[dd];exact a8)) f9;unfold Oper.wp;rw[ap];cases n with
  |value v'=>
   rw[Oper.upon_value]
   obtain⟨t1,t2⟩:=gB T I R
   have hw: ∀k w',nf k= .x w'->(st i).heap.next∈w'->k<ops.size->(k<i->bn (cm ops) k i=true)/\(i<k->bn (cm ops) i k=true):=by
    intro k w' E hm ax;have g1:(st i).heap.next<(st k).heap.next:=by
     have Fk:=T.fact k ops[k] (a0I ax);rcases Fk.how with⟨_,_,aa,_⟩|⟨_,_,_,_,_,_,_,_,_,gs⟩
     ·rw[E]at aa;cases aa
     rcases gs with⟨aa,_⟩|⟨aa,_⟩|⟨_,aa,_⟩|⟨w2,aa,gt,_,_⟩
     ·rw[E]at aa;cases aa
     ·rw[E]at aa;cases aa
     ·rw[E]at aa;cases aa
     rw[E]at aa;injection aa with aa;subst aa;exact gt _ hm
    constructor
    ·intro a3;have:=T.monoL (a2c a3);omega
    intro a2;rcases T.comp i k a2 ax with h|h|h
    ·exact h
    ·rw[hf,E]at h;simp only[dq]at h;rw[iM.2 hm]at h;cases h
    rw[(no_st R (new_nst hk)).2]at h;cases h
   have f4:kw st (jR S i) ops.size (st i).heap.next=some N:=by rw[gH T I R (fun h=>absurd h (Nat.lt_irrefl _)) (by rw[dd];omega) hw,aq,←av,Heap.get_push_same]
   have e0: ∀b x,((kD (st i).heap.next).push N).get b=some x->b=(st i).heap.next/\x=N:=by
    intro b x E;by_cases ck:(kD (st i).heap.next).next=b
    ·subst ck;rw[Heap.get_push_same]at E;injection E with E;exact⟨V,E.symm⟩
    rw[Heap.get_push_ne _ _ ck,da]at E;cases E
   refine hK μ' _ w' (Inv.next (H:=kD (st i).heap.next) (Hn:=(kD (st i).heap.next).push N) I R.lt R.at_ hp hr (fun k=>T.mono k) (a0d _) (by rw[dd];exact a0d _)
    (fun b l x _ h=>by rw[da]at h;cases h) (fun b l x _ h=>?_) (fun b l x hb hg hc=>?_) (R.dc I.dc) (fun d hd=>?_) t1 t2)
   ·obtain⟨rfl,rfl⟩:=e0 b x h;exact f4
   ·have ck:b≠(st i).heap.next:=by rintro rfl;have:((kD (st i).heap.next).push N).get (st i).heap.next=some N:=Heap.get_push_same (kD (st i).heap.next) N;rw[this]at hg;cases hg
    have b7: ¬chg st i b:=by intro b6;apply b6;rw[aq,Heap.get_push_ne _ _ (by rw[av];exact Ne.symm ck),ai]
    rw[iV T b7]at hc;rcases hp.dom b l hb with Z|⟨Z,h2⟩
    ·exact⟨Z,V,hc⟩
    exfalso;have hj:(st i).heap.next<=b:=Z;have ho:b<(st i).heap.next+1:=h2;omega
   have:=F.dlt d hd
   rwa [T.sizeL i]at this
  |_=>exact hr.elim
 ·--a load,or a part of a slice
  unfold dL at U;split at U
  case h_2=>rename_i Z A;obtain⟨_,_,E,_⟩:=ey a5 A;cases E
  case h_3=>rename_i f args Z A;obtain⟨_,_,E,_⟩:=ey a5 A;cases E
  case h_4=>cases U
  rename_i u Z A;simp only[a00,a05]at U;obtain⟨rfl,rfl⟩:=U;obtain⟨u,N,hu,rfl,dj,bk⟩:=ey a5 A;injection hu with hu;subst hu;obtain⟨l,hμ⟩:=reads_loc a5 hρ;have bl:b<(st i).heap.next:=ci.lt (by rw[←ai];exact dj);have a0:=lJ T I R hμ bl (fun k w' an hm ax=>by
   constructor
   ·intro a3;rcases T.comp k i a3 R.lt with h|h|h
    ·exact h
    ·rw[hf,an]at h;simp only[dq]at h;rw[iM.2 hm]at h;cases h
    rw[(no_st R (reads_nst a5)).1]at h;cases h
   intro a2;rcases T.comp i k a2 ax with h|h|h
   ·exact h
   ·rw[hf,an]at h;simp only[dq]at h;rw[iM.2 hm]at h;cases h
   rw[(no_st R (reads_nst a5)).2]at h;cases h)
  have bz:WRel μ ((kD (st i).heap.next).put b N) w:=by
   refine⟨fun b' l' o' a1 ay=>?_,fun b1 b2 l1 l2 o1 o2 al _ _ a9 bb=>?_⟩
   ·by_cases ag:b=b'
    ·subst ag;rw[Heap.get_put_same]at ay;injection ay with ay;subst ay;exact I.obj b l' N a1 (by rw[a0,←ai];exact dj)
    rw[Heap.get_put_ne _ _ ag,da]at ay;cases ay
   exfalso;by_cases Z:b=b1
   ·by_cases h2:b=b2
    ·exact al (Z.symm.trans h2)
    rw[Heap.get_put_ne _ _ h2,da]at bb;cases bb
   rw[Heap.get_put_ne _ _ Z,da]at a9;cases a9
  obtain⟨v',b4,hr⟩:=reads_sound a5 hρ bz (bk _ (Heap.get_put_same _ _ _));unfold Oper.wp;rw[b4,Oper.upon_value];exact hK μ _ w (gE T I R (fun b=>by rw[aq b,ai b]) hr)
 cases dn:ia o.op with
 |true=>
  obtain⟨ty,pa,px,b,off,fz,f0,c7⟩:=g2 dn
  have bz: ∀k w',nf k= .x w'->b∈w'->k<ops.size->(k<i->bn (cm ops) k i=true)/\(i<k->bn (cm ops) i k=true):=by
   intro k w' an hm ax;have al:isNilL w'=false:=by cases w' with
    |nil=>simp at hm
    |cons _ _=>rfl
   constructor
   ·intro a3;rcases T.comp k i a3 R.lt with h|h|h
    ·exact h
    ·rw[hf,an]at h;simp only[dq,al,a1y]at h;cases h
    unfold stst at h;rw[hf,an,a0a,a0a]at h;exact(nO h.2.2 hm c7).elim
   intro a2;rcases T.comp i k a2 ax with h|h|h
   ·exact h
   ·rw[hf,an]at h;simp only[dq,al,a1N]at h;cases h
   unfold stst at h;rw[hf,an,a0a,a0a]at h;exact(nO h.2.2 c7 hm).elim
  unfold dL at U
  cases A:aop P (cI (st i).tmps) o H1 with
  |none=>rw[A]at U;cases U
  |some q=>
   obtain⟨r,H3⟩:=q
   obtain⟨rfl,b2,hh,N,em,dk,hg,rfl,bk⟩:=mw fz A
   rw[f0]at dk
   simp only[Value.pointer.injEq,a00,Addr.mk.injEq,and_true]at dk
   obtain⟨rfl,rfl⟩:=dk
   rw[A]at U
   simp only[a00,a05]at U
   obtain⟨g3,rfl⟩:=U
   have bl:b<(st i).heap.next:=g4 b c7
   have f3: ∃l,μ b=some l:=by have Z:=hρ pa (by rw[fz];simp[Op.operands]);rw[f0]at Z;obtain⟨l,hl,_⟩:=Z.ptr_inv;exact⟨l,hl⟩
   obtain⟨l,hμ⟩:=f3
   have a0:=lJ T I R hμ bl bz
   have fi:((kD (st i).heap.next).put b N).get b=some N:=Heap.get_put_same _ _ _
   have bt: ∀b' x,((kD (st i).heap.next).put b N).get b'=some x->b'=b/\x=N:=by
    intro b' x E;by_cases ag:b=b'
    ·subst ag;rw[fi]at E;injection E with E;exact⟨V,E.symm⟩
    rw[Heap.get_put_ne _ _ ag,da]at E;cases E
   have b3:WRel μ ((kD (st i).heap.next).put b N) w:=by
    refine⟨fun b' l' o' a1 ay=>?_,fun b1 b2 l1 l2 o1 o2 al _ _ a9 bb=>?_⟩
    ·obtain⟨rfl,rfl⟩:=bt b' o' ay;exact I.obj b' l' o' a1 (by rw[a0,←ai];exact hg)
    exact absurd ((bt b1 o1 a9).1.trans (bt b2 o2 bb).1.symm) al
   have ap:=bk _ fi
   have go: ∀b',((kD (st i).heap.next).put b N).next<=b'->b'<(((kD (st i).heap.next).put b N).put b em).next->μ b'=none:=fun b' Z h2=>absurd h2 (Nat.not_lt_of_le Z)
   obtain⟨n,w',μ',b4,hp,hr⟩:=gx hρ b3 go ap
   unfold Oper.wp
   rw[b4]
   cases n with
   |skip=>
    rw[Oper.upon_skip]
    obtain⟨t1,t2⟩:=gB T I R
    refine hK μ' _ w' (Inv.next (H:=(kD (st i).heap.next).put b N) (Hn:=((kD (st i).heap.next).put b N).put b em) I R.lt R.at_ hp (by rw[←g3];exact VRel.undef) (fun k=>T.mono k) (a0d _) (T.mono i)
     (fun b' l' x a1 E=>?_) (fun b' l' x a1 E=>?_) (fun b' l' x a1 E hc=>?_) (R.dc I.dc) (fun d hd=>?_) t1 t2)
    ·obtain⟨rfl,rfl⟩:=bt b' x E;rw[a0,←ai];exact hg
    ·by_cases ag:b=b'
     ·subst ag;rw[Heap.get_put_same]at E;rw[gH T I R (fun _=>⟨l,hμ⟩) (a0U bl (T.mono i)) bz,aq,Heap.get_put_same];exact E
     rw[Heap.get_put_ne _ _ ag,Heap.get_put_ne _ _ ag,da]at E;cases E
    ·have ag:b≠b':=by rintro rfl;rw[Heap.get_put_same]at E;cases E
     have b7: ¬chg st i b':=by intro b6;exact b6 (by rw[aq,Heap.get_put_ne _ _ ag,ai])
     rw[iV T b7]at hc;rcases hp.dom b' l' a1 with Z|⟨Z,h2⟩
     ·exact⟨Z,by rw[Heap.get_put_ne _ _ ag,da],hc⟩
     exact absurd h2 (Nat.not_lt_of_le Z)
    have:=F.dlt d hd
    rwa [T.sizeL i]at this
   |_=>exact hr.elim
 |false=>
 have dv: ∀b k w',nf k= .x w'->b∈w'->k<ops.size->(k<i->bn (cm ops) k i=true)/\(i<k->bn (cm ops) i k=true):=by
  intro b k w' an hm ax;have al:isNilL w'=false:=by cases w' with
   |nil=>simp at hm
   |cons _ _=>rfl
  constructor
  ·intro a3;rcases T.comp k i a3 R.lt with h|h|h
   ·exact h
   ·rw[hf,an]at h;simp only[dq,al,a1y]at h;cases h
   rw[(no_st R dn).1]at h;cases h
  intro a2;rcases T.comp i k a2 ax with h|h|h
  ·exact h
  ·rw[hf,an]at h;simp only[dq,al,a1N]at h;cases h
  rw[(no_st R dn).2]at h;cases h
 have co: ∀b l x,μ b=some l->H1.get b=some x->kw st S ops.size b=some x:=by intro b l x hb E;rw[ai]at E;rw[lJ T I R hb (ci.lt E) (dv b)];exact E
 have dt:WF H1:=fun b hb=>by rw[ai];exact ci b (by rw[←av];exact hb)
 have b3:WRel μ H1 w:=⟨fun b l x hb E=>I.obj b l x hb (co b l x hb E),fun b1 b2 l1 l2 o1 o2 al a7 a8 a9 bb=>I.inj b1 b2 l1 l2 o1 o2 al a7 a8 (co b1 l1 o1 a7 a9) (co b2 l2 o2 a8 bb)⟩
 refine jM gb dt hρ fd b3 (fun b a7 a8=>mL T I R b (by rw[←av];exact a7) (by rw[c0];exact a8)) U ?_
 intro μ' w' v' hp hv
 obtain⟨t1,t2⟩:=gB T I R
 have cv: ∀b l,μ' b=some l->b<(st i).heap.next->∃l,μ b=some l:=by
  intro b l hb g1;rcases hp.dom b l hb with h|⟨h,_⟩
  ·exact⟨l,h⟩
  rw[av]at h;omega
 refine hK μ' _ w' (Inv.next (H:=H1) (Hn:=H2) I R.lt R.at_ hp hv (fun k=>T.mono k) (by rw[av];exact a0d _) (by rw[c0];exact a0d _) co (fun b l x hb E=>?_) (fun b l x hb E hc=>?_) (R.dc I.dc) (fun d hd=>?_) t1 t2)
 ·rw[←aq]at E;rw[gH T I R (cv b l hb) ((T.wf (i+1)).lt E) (dv b)];exact E
 ·rw[←aq]at E;have fj:(st (i+1)).heap.next<=b:=by
   rcases a0k b (st (i+1)).heap.next with h|h
   ·rw[gH T I R (cv b l hb) h (dv b),E]at hc;cases hc
   exact h
  have b7: ¬chg st i b:=fun b6=>b6 (F.far b fj)
  rw[iV T b7]at hc;refine⟨?_,?_,hc⟩
  ·rcases hp.dom b l hb with h|⟨_,h⟩
   ·exact h
   rw[←c0]at h;omega
  exact dt b (by rw[av];exact a0e F.next fj)
 have:=F.dlt d hd
 rwa [T.sizeL i]at this
end
section
variable {P:Program} {G:Nat} {cf:cu} {ops:Array Oper} {st:Nat->St} {vl:Nat->Value} {nf:Nat->Inf}
variable {μ0 μ:Emb} {w0 w:World} {d0:List Deferred} {a:Act}
def cnt(S:Nat->Bool):Nat->Nat
 |0=>0
 |n+1=>cnt S n+if S n=true then 0 else 1
theorem cnt_far{S:Nat->Bool}{i:Nat}: ∀n,n<=i->cnt (jR S i) n=cnt S n
 |0,_=>rfl
 |n+1,h=>by have:=cnt_far (S:=S) (i:=i) n M;simp only[cnt,this,gz S (show n≠i by omega)]
theorem cnt_add{S:Nat->Bool}{i:Nat}(hs:S i=false): ∀n,i<n->cnt (jR S i) n+1=cnt S n
 |0,h=>by omega
 |n+1,h=>by
  by_cases hi:i=n
  ·subst hi;simp only[cnt,cnt_far i (a0d i),gy,hs,if_true,a0M,if_false]
  have:=cnt_add hs n M;simp only[cnt,gz S (show n≠i by omega)];omega
theorem kA{S:Nat->Bool}: ∀n,cnt S n=0->∀k,k<n->S k=true
 |0,_,k,h=>by omega
 |n+1,h,k,hk=>by
  simp only[cnt]at h;by_cases hs:S n=true
  ·by_cases A:k=n
   ·subst A;exact hs
   exact kA n M k M
  rw[if_neg hs]at h;omega
theorem cnt_le{S:Nat->Bool}: ∀n,cnt S n<=n
 |0=>a0d _
 |n+1=>by have:=cnt_le (S:=S) n;simp only[cnt];split<;>omega
def gQ(listed:Array Bool):Nat->Bool:=fun k=>listed.getD k false
theorem setOf_set{listed:Array Bool}{i:Nat}(hi:i<listed.size):gQ (listed.setIfInBounds i true)=jR (gQ listed) i:=by
 funext k;unfold gQ jR;simp only[a0Y,a1h];by_cases A:i=k
 ·subst A;simp[hi]
 have:Nat.beq k i=false:=by
  cases E:Nat.beq k i with
  |false=>rfl
  |true=>exact absurd (a0c E).symm A
 simp[A,this]
theorem kY{listed:Array Bool}(hl:listed.size=ops.size){i:Nat}:i∈Region.ready .any ops listed↔
  ∃o,Ready ops (gQ listed) i o:=by
 unfold Region.ready
 rw[a22,a2b]
 constructor
 ·rintro⟨hi,h⟩;have A:ops[i]?=some ops[i]:=a0I hi;rw[A]at h;simp only[a0a,a0F,a2p,a0O]at h;refine⟨ops[i],A,?_,fun e N E=>?_⟩
  ·unfold gQ;have U:=h.1;simp only[a0Y,a0I (show i<listed.size by omega),a0O]at U⊢;exact U
  have Z:=h.2;rw[Array.all_eq_true']at Z;have:=Z e (by simpa using N);rw[E]at this;simpa[gQ] using this
 rintro⟨o,A,T,N⟩
 have hi:i<ops.size:=(a0G.1 A).1
 refine⟨hi,?_⟩
 rw[A]
 simp only[a0a,a0F,a2p,a0O]
 constructor
 ·unfold gQ at T;simp only[a0Y,a0I (show i<listed.size by omega),a0O]at T⊢;exact T
 rw[Array.all_eq_true']
 intro e aa
 cases E:Region.binds .any e with
 |false=>rfl
 |true=>
  have:=N e (by simpa using aa) E
  simpa[gQ] using this
theorem all_of_none(T:Trace P G cf ops st vl nf){listed:Array Bool}(hl:listed.size=ops.size)(h:Region.ready .any ops listed=[]): ∀k,k<ops.size->gQ listed k=true:=by
 intro k;induction k using Nat.strongRecOn with
 |_ k ih=>
  intro Z
  cases hs:gQ listed k with
  |true=>rfl
  |false=>
   exfalso
   have E:=a0I Z
   have:k∈Region.ready .any ops listed:=(kY hl).2 ⟨ops[k],E,hs,fun e U N=>by
    have A:=T.reg.back k ops[k] E e U N;exact ih e.on A M⟩
   rw[h]at this;simp at this
theorem any_sound(N:d6 P G cf)(T:Trace P G cf ops st vl nf)(Z:GRel μ0 G){Q:Exit->Act->World->Prop}
  (U: ∀S μ a w,(∀k,k<ops.size->S k=true)->Inv ops st vl μ0 w0 d0 S μ a w->Q .normal a w):
  ∀(fuel:Nat) (listed:Array Bool) (μ:Emb) (a:Act) (w:World),listed.size=ops.size->cnt (gQ listed) ops.size<=fuel->Inv ops st vl μ0 w0 d0 (gQ listed) μ a w->
   wpAny P .any ops Q fuel listed a w
 |0,listed,μ,a,w,hl,hc,I=>by
  have A:=kA ops.size (by omega:cnt (gQ listed) ops.size=0);refine⟨?_,U _ μ a w A I⟩;cases hr:Region.ready .any ops listed with
  |nil=>rfl
  |cons i t=>
   exfalso
   have hm:i∈Region.ready .any ops listed:=by rw[hr];simp
   obtain⟨o,R⟩:=(kY hl).1 hm
   have:=A i R.lt
   rw[R.new]at this;cases this
 |fuel+1,listed,μ,a,w,hl,hc,I=>by
  refine⟨fun h=>U _ μ a w (all_of_none T hl h) I,fun i hi=>?_⟩;obtain⟨o,R⟩:=(kY hl).1 hi;refine inv_step N T I Z R fun μ' a' w' I'=>?_
  have E:=setOf_set (listed:=listed) (i:=i) (by rw[hl];exact R.lt);refine any_sound N T Z U fuel (listed.setIfInBounds i true) μ' a' w' (by simp[hl]) ?_ (by rw[E];exact I');rw[E];have:=cnt_add R.new ops.size R.lt;omega
theorem inv_start(T:Trace P G cf ops st vl nf)(ht:TRel μ0 (st 0).tmps (st 0).size a.tmps)(hw:WRel μ0 (st 0).heap w)(N: ∀b l,μ0 b=some l->b<(st 0).heap.next\/(st ops.size).heap.next<=b)(S:Nat->Bool)(E: ∀k,S k=false):
  Inv ops st vl μ0 w a.defers S μ0 a w:=by
 have hc: ∀b,kw st S ops.size b=(st 0).heap.get b:=by intro b;have:=lK st (S:=S) (b:=b) (i:=0) ops.size (fun k _ _=>by rw[E k];simp);rwa [Nat.min_zero]at this
 have ap: ∀t,tv st vl ops S ops.size t=cU (st 0).tmps t:=by intro t;have:=tv_eq st vl ops (S:=S) (t:=t) (i:=0) (fun k=>T.tm k t) ops.size (fun k _ _=>by rw[E k];simp);rwa [Nat.min_zero]at this
 refine⟨(fun k o _ hk=>by rw[E k]at hk;cases hk),fun b l A=>?_,fun b l o A U=>hw.obj b l o A (by rw[←hc];exact U),fun b1 b2 l1 l2 o1 o2 ai Z aa al an=>hw.inj b1 b2 l1 l2 o1 o2 ai Z aa (by rw[←hc];exact al) (by rw[←hc];exact an),
  ht.1,fun t=>by rw[ap];exact ht.2 t,V,fun _ _ h=>h,fun _ _ h=> .inl h,a0d _,V,V,V,fun _ _ _=>rfl,fun b l o A U ag=> .inr ⟨b,l,o,A,by rw[←hc];exact U,ag,id,V⟩⟩
 rcases N b l A with h|h
 ·exact .inl h
 exact .inr (.inr h)
theorem inv_end(T:Trace P G cf ops st vl nf){S:Nat->Bool}(A: ∀k,k<ops.size->S k=true)(I:Inv ops st vl μ0 w0 d0 S μ a w):
  Post μ0 (st 0).heap w0 μ (st ops.size).heap w/\TRel μ (st ops.size).tmps (st ops.size).size a.tmps/\a.defers=d0:=by
 have hc: ∀b,kw st S ops.size b=(st ops.size).heap.get b:=by intro b;have:=lK st (S:=S) (b:=b) (i:=ops.size) ops.size (fun k E _=>by rw[A k E];simp[E]);rwa [Nat.min_self]at this
 have an: ∀t,tv st vl ops S ops.size t=cU (st ops.size).tmps t:=by intro t;have:=tv_eq st vl ops (S:=S) (t:=t) (i:=ops.size) (fun k=>T.tm k t) ops.size (fun k E _=>by rw[A k E];simp[E]);rwa [Nat.min_self]at this
 refine⟨⟨I.ext0,I.dom0,I.grow0,I.os0,I.tape0,I.out0,I.keep0,fun b l o N U ad=>I.img0 b l o N (by rw[hc];exact U) ad,
  ⟨fun b l o N U=>I.obj b l o N (by rw[hc];exact U),fun b1 b2 l1 l2 o1 o2 ag Z aa ai al=>I.inj b1 b2 l1 l2 o1 o2 ag Z aa (by rw[hc];exact ai) (by rw[hc];exact al)⟩⟩,⟨?_,fun t=>?_⟩,I.defers⟩
 ·rw[I.size,T.sizeL ops.size]
 have:=I.tm t
 rwa [an]at this
end
section
variable {P:Program} {G:Nat} {cf:cu} {ops:Array Oper}
theorem iG(aa:d6 P G cf): ∀(l:List Oper) (k:Nat) (fs:List (Nat×Inf)) (s s':St),ops.toList.drop k=l->k+l.length=ops.size->bC P G cf ops k fs l s=some s'->WF s.heap->
  ∃(st:Nat->St) (vl:Nat->Value) (nf:Nat->Inf),st k=s/\st ops.size=s'/\(∀j,ops.size<=j->st (j+1)=st j)/\(∀j,k<=j->WF (st j).heap)/\
   (∀j o,k<=j->ops[j]?=some o->OpFact P G cf ops o (st j) (st (j+1)) (vl j) (nf j))/\
   (∀j,k<=j->j<ops.size->∀q∈fs,bn (cm ops) q.1 j=true\/dq q.2 (nf j)=true\/stst ops q.1 j q.2 (nf j)=true)/\
   (∀i j,k<=i->i<j->j<ops.size->bn (cm ops) i j=true\/dq (nf i) (nf j)=true\/stst ops i j (nf i) (nf j)=true)
 | [],k,fs,s,s',hd,hlen,h,hw=>by simp only[bC,a00]at h;subst h;simp only[a07,a2s]at hlen;refine⟨fun _=>s,fun _=>undef,fun _=> .v,V,V,fun _ _=>rfl,fun _ _=>hw,fun j o N T=>?_,fun j N a5=>by omega,fun i j hi ag N=>by omega⟩;have:=(a0G.1 T).1;omega
 |x::os,k,fs,s,s',hd,hlen,h,hw=>by
  simp only[a04]at hlen;unfold bC at h;split at h
  case h_2=>cases h
  rename_i s1 f h1;cases E:cn ops (cm ops) k f fs with
  |false=>rw[E]at h;cases h
  |true=>
   rw[E]at h
   simp only[cond_true]at h
   obtain⟨v,F⟩:=stepD_fact aa hw h1
   have av:WF s1.heap:=fun b hb=>by rw[F.far b hb];exact hw b (a0e F.next hb)
   have hk:k<ops.toList.length:=by simp;omega
   have ad:=a1d hk
   rw[hd]at ad
   injection ad with e1 e2
   have ar:ops[k]?=some x:=by rw[←Array.getElem?_toList,a06 hk,←e1]
   obtain⟨st,vl,nf,g1,g2,g3,g4,g5,g6,g7⟩:=iG aa os (k+1) ((k,f)::fs) s1 s' e2.symm M h av
   have Z: ∀(l:List (Nat×Inf)),cn ops (cm ops) k f l=true->∀q∈l,bn (cm ops) q.1 k=true\/dq q.2 f=true\/stst ops q.1 k q.2 f=true:=by
    intro l;induction l with
    |nil=>intro _ q E;simp at E
    |cons p l ih=>
     intro hl q E
     obtain⟨pj,pg⟩:=p
     simp only[cn,a0a,a0C]at hl
     rcases a0w.1 E with rfl|E
     ·exact hl.1
     exact ih hl.2 q E
   refine⟨fun j=>if j<=k then s else st j,fun j=>if j<=k then v else vl j,fun j=>if j<=k then f else nf j,by simp,?_,fun j N=>?_,fun j N=>?_,fun j o N T=>?_,fun j N U q ai=>?_,fun i j hi ag U=>?_⟩
   ·simp only[show ¬(ops.size<=k) by omega,if_false];exact g2
   ·simp only[show ¬(j<=k) by omega,show ¬(j+1<=k) by omega,if_false];exact g3 j N
   ·by_cases A:j<=k
    ·simp only[A,if_true];exact hw
    simp only[A,if_false];exact g4 j M
   ·by_cases A:j=k
    ·subst A;rw[ar]at T;injection T with T;subst T;simp only[a0d,if_true,show ¬(j+1<=j) by omega,if_false,g1];exact F
    simp only[show ¬(j<=k) by omega,show ¬(j+1<=k) by omega,if_false];exact g5 j o M T
   ·by_cases A:j=k
    ·subst A;simp only[a0d,if_true];exact Z fs E q ai
    simp only[show ¬(j<=k) by omega,if_false];exact g6 j M U q (a0i _ ai)
   by_cases ap:i=k
   ·subst ap;simp only[a0d,if_true,show ¬(j<=i) by omega,if_false];exact g6 j M U (i,f) (by simp)
   simp only[show ¬(i<=k) by omega,show ¬(j<=k) by omega,if_false]
   exact g7 i j M ag U
theorem region_sound(Z:d6 P G cf){id:Nat}{E:Bool}{s A:St}(h:bX P G cf ops E s=some A){μ:Emb}{a:Act}{w:World}{Q:Exit->Act->World->Prop}
  (an:WF s.heap) (ht:TRel μ s.tmps s.size a.tmps) (hG:GRel μ G) (hw:WRel μ s.heap w) (aa: ∀b l,μ b=some l->b<s.heap.next\/A.heap.next<=b)
  (hQ: ∀μ' w' N,Post μ s.heap w μ' A.heap w'->TRel μ' A.tmps A.size N.tmps->N.defers=a.defers->Q .normal N w'):(Code.region id ops E).wp P Q a w:=by
 have ad: ∀b,s.heap.next<=b->b<A.heap.next->μ b=none:=by
  intro b h1 h2;cases hb:μ b with
  |none=>rfl
  |some l=>rcases aa b l hb with h3|h3<;>omega
 unfold bX at h
 cases E with
 |false=>
  simp only[cond_false]at h
  refine wp_region ?_
  rw[List.range_eq_range']
  have:=jE Z ops.toList 0 s A V h μ a w an ht hG hw ad (Q:=Q) hQ
  simpa using this
 |true=>
  simp only[cond_true]at h
  cases hq:(bg ops&&P.follows .mixedOrders) with
  |false=>rw[hq]at h;cases h
  |true=>
   rw[hq]at h
   simp only[cond_true]at h
   simp only[a0a]at hq
   obtain⟨st,vl,nf,U,g2,g3,g4,g5,_,g7⟩:=iG Z ops.toList 0 [] s A V (by simp) h an
   have T:Trace P G cf ops st vl nf:=⟨fun k o ho=>g5 k o (a0r _) ho,g3,fun j k av hk=>g7 j k (a0r _) av hk,regOK_facts hq.1,fun k=>g4 k (a0r _)⟩
   refine wp_region_any hq.2 ?_
   rw[World.drew_eq]
   have I:=inv_start (a:=a) (w:=w.drew) (μ0:=μ) T (by rw[U];exact ht) (by rw[U];exact hw.drew) (by rw[U,g2];exact aa) (gQ (Array.replicate ops.size false)) (fun k=>by
    unfold gQ;simp[a0Y,Array.getElem?_replicate];split<;>rfl)
   refine any_sound Z T hG (fun S μ' N w' hS I'=>?_) ops.size _ μ a w.drew (by simp) (cnt_le _) I
   obtain⟨hp,al,ar⟩:=inv_end T hS I'
   rw[U,g2]at hp
   rw[g2]at al
   refine hQ μ' w' N ((Post.drew hw).trans hp (a0d _) ?_) al ar
   have:=T.monoL (a0r ops.size)
   rwa [U,g2]at this
end
open Go.RowKit
def Ex.toExit:Ex->Exit
 | .normal=> .normal
 | .exit id=> .exit id
 | .ret=> .ret
def LoopWp(P:Program)(c:Code)(Q:Exit->Act->World->Prop)(a:Act)(w:World):Prop:=
 ∀(b:Frame) (k:List Item) (cs:List Frame),∃e A w',Q e A w'/\Arrives P (lone (b.at a (.code c:: .inLoop c::k)) cs w) b k cs e A w'
theorem LoopWp.wp{P:Program}{c:Code}{Q:Exit->Act->World->Prop}{a:Act}{w:World}(h:LoopWp P c Q a w):(Code.loop c).wp P Q a w:=
 fun b k cs=>let⟨e,a',w',q,r⟩:=h b k cs;⟨e,a',w',q,.of_steps (.one step_loop) r⟩
theorem LoopWp.round{P:Program}{c:Code}{Q:Exit->Act->World->Prop}{a:Act}{w:World}(h:c.wp P (Exit.then (LoopWp P c Q) Q) a w):LoopWp P c Q a w:=by
 intro b k cs;obtain⟨e,N,T,E,A⟩:=h b (.inLoop c::k) cs;cases e with
 |normal=>
  obtain⟨e₂,a₂,w₂,Z,U⟩:=E b k cs
  exact⟨e₂,a₂,w₂,Z,.of_steps (Steps.trans A (.one step_inLoop)) U⟩
 |exit id=>exact⟨_,N,T,E,.pass (x:= .inLoop c) V (fun _ _=> .inl (by simp)) A⟩
 |goto l=>exact⟨_,N,T,E,.pass (x:= .inLoop c) V (fun _ _=> .inl (by simp)) A⟩
 |ret=>exact⟨_,N,T,E,.pass (x:= .inLoop c) V (fun _ _=> .inl (by simp)) A⟩
 |panic ch=>exact⟨_,N,T,E,.pass (x:= .inLoop c) V (fun _ _=> .inl (by simp)) A⟩
 |outgrown=>exact⟨_,N,T,E,.pass (x:= .inLoop c) V (fun _ _=> .inl (by simp)) A⟩
def Wp(P:Program)(c:Code)(Q:Exit->Act->World->Prop)(a:Act)(w:World):Prop:=
 match c with
 | .loop b=>LoopWp P b Q a w
 |c=>c.wp P Q a w
theorem Wp.wp{P:Program}{c:Code}{Q:Exit->Act->World->Prop}{a:Act}{w:World}(h:Wp P c Q a w):c.wp P Q a w:=by cases c<;>first|exact LoopWp.wp h|exact h
def After(μ:Emb)(s:St)(w:World)(e:Ex)(A:St):Exit->Act->World->Prop:=fun N E T=>
 N=e.toExit/\E.defers=[]/\∃μ',Post μ s.heap w μ' A.heap T/\TRel μ' A.tmps A.size E.tmps
def ExOK(P:Program)(G:Nat)(ex:Code->St->Option (Ex×St)):Prop:= ∀c s e A,ex c s=some (e,A)->WF s.heap->Ext s.heap A.heap/\
 ∀μ a w,a.defers=[]->TRel μ s.tmps s.size a.tmps->GRel μ G->WRel μ s.heap w->(∀b,s.heap.next<=b->b<A.heap.next->μ b=none)->Wp P c (After μ s w e A) a w
section
variable {P:Program} {G:Nat}
theorem mK{μ A:Emb}{H H1 E:Heap}{w w1:World}(hp:Post μ H w A H1 w1)(N:H.next<=H1.next)(hf: ∀b,H.next<=b->b<E.next->μ b=none): ∀b,H1.next<=b->b<E.next->A b=none:=by
 intro b T U;cases Z:A b with
 |none=>rfl
 |some l=>
  rcases hp.dom b l Z with h|⟨_,h⟩
  ·rw[hf b (a0e N T) U]at h;cases h
  omega
theorem After.trans{μ μ1:Emb}{s A T:St}{w Z:World}{e:Ex}(hp:Post μ s.heap w μ1 A.heap Z)(h1:s.heap.next<=A.heap.next)(h2:A.heap.next<=T.heap.next):
  ∀N E U,After μ1 A Z e T N E U->After μ s w e T N E U:=by
 rintro N E U ⟨he,hd,μ2,hp2,ht⟩
 exact⟨he,hd,μ2,hp.trans hp2 h1 h2,ht⟩
theorem region_ext{cf:cu}(Z:d6 P G cf){ops:Array Oper}{E:Bool}{s A:St}(U:WF s.heap)(h:bX P G cf ops E s=some A):Ext s.heap A.heap:=by
 unfold bX at h;cases E with
 |false=>exact i9 Z _ _ _ U h
 |true=>
  simp only[cond_true]at h
  cases T:(bg ops&&P.follows .mixedOrders) with
  |false=>rw[T]at h;cases h
  |true=>
   rw[T]at h
   simp only[cond_true]at h
   have al: ∀(l:List Oper) (k:Nat) (fs:List (Nat×Inf)) (s A:St),WF s.heap->bC P G cf ops k fs l s=some A->Ext s.heap A.heap:=by
    intro l;induction l with
    |nil=>intro k fs s A _ h;simp only[bC,a00]at h;subst h;exact Ext.refl _
    |cons o os ih=>
     intro k fs s A U h
     unfold bC at h
     split at h
     case h_2=>cases h
     rename_i s1 f N
     cases T:cn ops (cm ops) k f fs with
     |false=>rw[T]at h;cases h
     |true=>
      rw[T]at h
      simp only[cond_true]at h
      have e1:Ext s.heap s1.heap:=by
       unfold gP at N;split at N
       case h_2=>cases N
       rename_i t ai;simp only[a00,a05]at N;obtain⟨rfl,_⟩:=N;have e0:=j9 Z (s:={s with heap:={s.heap with log:=[]}}) U ai;obtain⟨d,hd,hs⟩:=e0.log;refine⟨e0.next,⟨dK s.heap.next t.heap.log,V,fun b hb hn=>?_⟩,e0.far⟩;refine hs b hb fun hm=>hn (fe.2 ⟨?_,hb⟩)
       rw[hd,a0p];exact hm
      exact e1.trans (ih _ _ _ _ (U.ext e1) h)
   exact al _ _ _ _ _ U h
theorem execC_ok{rec_:Code->St->Option (Ex×St)}{cf:cu}(a0:ExOK P G rec_)(ax:d6 P G cf):ExOK P G (eJ P G rec_ cf):=by
 intro c;induction c with
 |skip=>
  intro s e s' h hw
  rw[mO]at h
  simp only[a00,a05]at h
  obtain⟨rfl,rfl⟩:=h
  exact⟨Ext.refl _,fun μ a w U E N Z _=>wp_skip ⟨V,U,μ,Post.refl Z,E⟩⟩
 |region id ops draw=>
  intro s e s' h hw
  rw[gr]at h
  unfold dW at h
  split at h
  ·rename_i s1 h1;simp only[a00,a05]at h;obtain⟨rfl,rfl⟩:=h;refine⟨region_ext ax hw h1,fun μ a w U E N Z hf=>?_⟩;refine region_sound ax h1 hw E N Z (fun b l hb=>?_) fun μ' w' a' hp a4 a1=>⟨V,a1.trans U,μ',hp,a4⟩
   rcases a0k b s.heap.next with h2|h2
   ·exact .inl h2
   right;rcases a0k b s1.heap.next with h3|h3
   ·rw[hf b h2 h3]at hb;cases hb
   exact h3
  cases h
 |seq x y ihx ihy=>
  intro s e s' h hw
  rw[lF]at h
  cases hx:eJ P G rec_ cf x s with
  |none=>rw[hx]at h;cases h
  |some p=>
   obtain⟨e1,s1⟩:=p
   obtain⟨A,T⟩:=ihx s e1 s1 hx hw
   rw[hx]at h
   cases e1 with
   |normal=>
    simp only[gu]at h
    obtain⟨ai,ar⟩:=ihy s1 e s' h (hw.ext A)
    refine⟨A.trans ai,fun μ a w U E N Z hf=>wp_seq ?_⟩
    refine wp_mono (T μ a w U E N Z (fun b h1 h2=>hf b h1 (a0U h2 ai.next))).wp ?_
    rintro e2 a2 w2 ⟨rfl,hd2,μ2,hp2,ht2⟩
    exact wp_mono (ar μ2 a2 w2 hd2 ht2 (N.mono hp2.ext) hp2.wrel (mK hp2 A.next hf)).wp (After.trans hp2 A.next ai.next)
   |exit i=>
    simp only[gu,a00,a05]at h
    obtain⟨rfl,rfl⟩:=h
    refine⟨A,fun μ a w U E N Z hf=>wp_seq ?_⟩
    refine wp_mono (T μ a w U E N Z hf).wp ?_
    rintro e2 a2 w2 ⟨rfl,hrest⟩
    exact⟨V,hrest⟩
   |ret=>
    simp only[gu,a00,a05]at h
    obtain⟨rfl,rfl⟩:=h
    refine⟨A,fun μ a w U E N Z hf=>wp_seq ?_⟩
    refine wp_mono (T μ a w U E N Z hf).wp ?_
    rintro e2 a2 w2 ⟨rfl,hrest⟩
    exact⟨V,hrest⟩
 |cond c x y ihx ihy=>
  intro s e s' h hw
  rw[jt]at h
  cases hq:bo G c with
  |false=>rw[hq]at h;cases h
  |true=>
   rw[hq]at h
   simp only[cond_true]at h
   unfold mR at h
   split at h
   ·rename_i t hv;have av: ∀(μ:Emb) (a:Act),TRel μ s.tmps s.size a.tmps->GRel μ G->a.eval c= .bool t:=by
     intro μ a E N;have:=eval_of N hq (tm:=s.tmps) (a:=a) fun k _=>E.2 k
     rw[hv]at this;exact this.bool_inv
    cases t with
    |true=>
     obtain⟨A,T⟩:=ihx s e s' h hw
     exact⟨A,fun μ a w U E N Z hf=>wp_cond_true (av μ a E N) (T μ a w U E N Z hf).wp⟩
    |false=>
     obtain⟨A,T⟩:=ihy s e s' h hw
     exact⟨A,fun μ a w U E N Z hf=>wp_cond_false (av μ a E N) (T μ a w U E N Z hf).wp⟩
   cases h
 |block id x ih=>
  intro s e s' h hw
  rw[ie]at h
  cases hx:eJ P G rec_ cf x s with
  |none=>rw[hx]at h;cases h
  |some p=>
   obtain⟨e1,s1⟩:=p
   obtain⟨A,T⟩:=ih s e1 s1 hx hw
   rw[hx]at h
   cases e1 with
   |normal=>
    simp only[dg,a00,a05]at h
    obtain⟨rfl,rfl⟩:=h
    refine⟨A,fun μ a w U E N Z hf=>wp_block ?_⟩
    refine wp_mono (T μ a w U E N Z hf).wp ?_
    rintro e2 a2 w2 ⟨rfl,hrest⟩
    exact⟨V,hrest⟩
   |exit i=>
    simp only[dg]at h
    cases hb:Nat.beq i id with
    |true=>
     rw[hb]at h
     simp only[cond_true,a00,a05]at h
     obtain⟨rfl,rfl⟩:=h
     have hi:i=id:=a0c hb
     subst hi
     refine⟨A,fun μ a w U E N Z hf=>wp_block ?_⟩
     refine wp_mono (T μ a w U E N Z hf).wp ?_
     rintro e2 a2 w2 ⟨rfl,hrest⟩
     simp only[Ex.toExit,Exit.inBlock,if_true]
     exact⟨V,hrest⟩
    |false=>
     rw[hb]at h
     simp only[cond_false,a00,a05]at h
     obtain⟨rfl,rfl⟩:=h
     have hi: ¬i=id:=fun e=>by subst e;rw[a11]at hb;cases hb
     refine⟨A,fun μ a w U E N Z hf=>wp_block ?_⟩
     refine wp_mono (T μ a w U E N Z hf).wp ?_
     rintro e2 a2 w2 ⟨rfl,hrest⟩
     simp only[Ex.toExit,Exit.inBlock,hi,if_false]
     exact⟨V,hrest⟩
   |ret=>
    simp only[dg,a00,a05]at h
    obtain⟨rfl,rfl⟩:=h
    refine⟨A,fun μ a w U E N Z hf=>wp_block ?_⟩
    refine wp_mono (T μ a w U E N Z hf).wp ?_
    rintro e2 a2 w2 ⟨rfl,hrest⟩
    exact⟨V,hrest⟩
 |loop x ih=>
  intro s e s' h hw
  rw[jr]at h
  cases hx:eJ P G rec_ cf x s with
  |none=>rw[hx]at h;cases h
  |some p=>
   obtain⟨e1,s1⟩:=p
   obtain⟨A,T⟩:=ih s e1 s1 hx hw
   rw[hx]at h
   cases e1 with
   |normal=>
    simp only[gu]at h
    obtain⟨ai,ar⟩:=a0 (.loop x) s1 e s' h (hw.ext A)
    refine⟨A.trans ai,fun μ a w U E N Z hf=>LoopWp.round ?_⟩
    refine wp_mono (T μ a w U E N Z (fun b h1 h2=>hf b h1 (a0U h2 ai.next))).wp ?_
    rintro e2 a2 w2 ⟨rfl,hd2,μ2,hp2,ht2⟩
    have hl:LoopWp P x (After μ2 s1 w2 e s') a2 w2:=ar μ2 a2 w2 hd2 ht2 (N.mono hp2.ext) hp2.wrel (mK hp2 A.next hf)
    intro b k cs
    obtain⟨e3,a3,w3,q,r⟩:=hl b k cs
    exact⟨e3,a3,w3,After.trans hp2 A.next ai.next _ _ _ q,r⟩
   |exit i=>
    simp only[gu,a00,a05]at h
    obtain⟨rfl,rfl⟩:=h
    refine⟨A,fun μ a w U E N Z hf=>LoopWp.round ?_⟩
    refine wp_mono (T μ a w U E N Z hf).wp ?_
    rintro e2 a2 w2 ⟨rfl,hrest⟩
    exact⟨V,hrest⟩
   |ret=>
    simp only[gu,a00,a05]at h
    obtain⟨rfl,rfl⟩:=h
    refine⟨A,fun μ a w U E N Z hf=>LoopWp.round ?_⟩
    refine wp_mono (T μ a w U E N Z hf).wp ?_
    rintro e2 a2 w2 ⟨rfl,hrest⟩
    exact⟨V,hrest⟩
 |exit id=>
  intro s e s' h hw
  rw[mP]at h
  simp only[a00,a05]at h
  obtain⟨rfl,rfl⟩:=h
  exact⟨Ext.refl _,fun μ a w U E N Z _=>wp_exit ⟨V,U,μ,Post.refl Z,E⟩⟩
 |ret=>
  intro s e s' h hw
  rw[execC_ret]at h
  simp only[a00,a05]at h
  obtain⟨rfl,rfl⟩:=h
  exact⟨Ext.refl _,fun μ a w U E N Z _=>wp_ret ⟨V,U,μ,Post.refl Z,E⟩⟩
 |rangeFunc f ps x y _ _=>intro s e s' h;cases h
 |scope x _=>intro s e s' h;cases h
 |label l=>intro s e s' h;cases h
 |goto l=>intro s e s' h;cases h
 |refuse m=>intro s e s' h;cases h
theorem ip: ∀(args:List Value) (i:Nat) (t:Tr Value) (k:Nat),cU (fQ i args t) k=if i<=k/\k<i+args.length then args.getD (k-i) undef else cU t k
 | [],i,t,k=>by rw[if_neg (by simp only[a07];omega)];rfl
 |v::l,i,t,k=>by
  simp only[fQ];rw[ip l (i+1) _ k];by_cases A:i+1<=k/\k<i+1+l.length
  ·rw[if_pos A,if_pos (by simp only[a04];omega),show k-i=(k-(i+1))+1 by omega];rfl
  rw[if_neg A,gn];by_cases E:i=k
  ·subst E;rw[if_pos V,if_pos (by simp only[a04];omega)];simp
  rw[if_neg E,if_neg (by simp only[a04];omega)]
theorem args_rel{μ:Emb}{args:List Value}{A:Array Value}(h:LRel μ args A.toList)(n:Nat):
  TRel μ (fQ 0 args .nil) (Nat.max args.length n) (A++Array.replicate (n-A.size) undef):=by
 have T:args.length=A.size:=by rw[h.1];simp
 refine⟨by simp only[Array.size_append,Array.size_replicate];rw[T];show _=max _ _;omega,fun i=>?_⟩
 rw[ip]
 simp only[a0r,true_and,a1c,Nat.sub_zero,lget_nil,a0Y,Array.getElem?_append]
 by_cases hi:i<args.length
 ·rw[if_pos hi,if_pos M];have E:args[i]?=some args[i]:=a06 hi;obtain⟨v',N,U⟩:=h.get E;have:A[i]?=some v':=by simpa using N
  rw[this,a03,E];exact U
 rw[if_neg hi,if_neg M]
 rw[Array.getElem?_replicate]
 split
 ·exact VRel.undef
 exact VRel.undef
theorem gU{μ:Emb}{s:St}{a:Array Value}{w:World}(E:TRel μ s.tmps s.size a)(Z:WRel μ s.heap w): ∀(rs:List ResultVar) (l:List Value),cO P s rs=some l->
  ∃l',(rs.mapM (m:=Sem) fun| .tmp t=>Pure.pure (a.getD t undef)| .cell x t=>do loadVar t (←asAddr (a.getD x undef))).run P w= .ok l' w/\LRel μ l l'
 | [],l,h=>by simp only[cO,a00]at h;subst h;exact⟨[],by simp,.nil⟩
 | .tmp t::rs,l,h=>by
  unfold cO at h;split at h
  ·rename_i l1 T;injection h with h;subst h;obtain⟨l',A,U⟩:=gU E Z rs l1 T;exact⟨a.getD t undef::l',by simp only[a2u,Sem.run_bind,Sem.run_pure,Result.andThen_ok,A],.cons (E.2 t) U⟩
  cases h
 | .cell x t::rs,l,h=>by
  unfold cO at h;split at h
  ·rename_i p hp;split at h
   ·rename_i v l1 hv T;injection h with h;subst h;obtain⟨l',A,U⟩:=gU E Z rs l1 T;have hx:=E.2 x;rw[hp]at hx;obtain⟨b,o,sp⟩:=p;have ai:sp=none:=hx.ptr_some.1;subst ai;obtain⟨N,hμ,an⟩:=hx.ptr_inv;obtain⟨v',ag,al⟩:=hN (P:=P) Z hμ hv;exact⟨v'::l',by simp only[a2u,Sem.run_bind,an,show(asAddr (Value.pointer (some ⟨N.c,N.sh+o,none⟩))).run P w= .ok ⟨N.c,N.sh+o,none⟩ w from V,Sem.run_pure,Result.andThen_ok,ag,A],.cons al U⟩
   cases h
  cases h
theorem result_rel{μ:Emb}{l l':List Value}(h:LRel μ l l'):VRel μ (er l) (if h:l'.toArray.size=1 then l'.toArray[0] else .tuple l'.toArray):=by
 match l,l',h with
 | [],l',h=>
  have:=h.nil_left
  subst this
  exact .tuple _ _ V (fun i v v' h=>by simp at h)
 | [v],l',h=>
  obtain⟨v',t,rfl,E,A⟩:=h.cons_left
  have:=A.nil_left
  subst this
  exact E
 |v::u::r,l',h=>
  obtain⟨v',t,rfl,E,A⟩:=h.cons_left
  obtain⟨Z,U,rfl,T,N⟩:=A.cons_left
  simp only[List.size_toArray,a04,show ¬(U.length+1+1=1) by omega,dite_false]
  have:=LRel.cons E (LRel.cons T N)
  exact .tuple _ _ (by simpa[er] using this.1) (by simpa[er] using this.2)
theorem nC{μ:Emb}{s:St}{fn:Func}{a:Array Value}{w:World}(T:TRel μ s.tmps s.size a)(U:WRel μ s.heap w){l:List Value}(h:cO P s fn.results.toList=some l):
  ∃v',(results fn a).run P w= .ok v' w/\VRel μ (er l) v':=by
 obtain⟨l',E,A⟩:=gU (P:=P) T U _ l h
 refine⟨_,?_,result_rel A⟩
 unfold results
 rw[Array.mapM_eq_mapM_toList]
 simp only[Sem.run_bind,Sem.run_map]
 have e: ∀(r:Result (List Value)),r= .ok l' w->((r.andThen fun a w'=>(.ok a.toArray w':Result (Array Value))).andThen fun N w'=>((Pure.pure (if h:N.size=1 then N[0] else Value.tuple N):Sem Value).run P w'))=
   .ok (if h:l'.toArray.size=1 then l'.toArray[0] else .tuple l'.toArray) w:=by
  intro r A;subst A;rfl
 exact e _ E
theorem callC_ok{ex:Code->St->Option (Ex×St)}(Z:ExOK P G ex):d6 P G (nU P ex):=by
 intro f args H v H' h ag;unfold nU at h;split at h
 case h_2=>cases h
 rename_i fn aa;split at h
 case h_2=>cases h
 rename_i c hc;have U: ∀e s,(e=Ex.normal\/e=Ex.ret)->ex c {tmps:=fQ 0 args .nil,size:=Nat.max args.length fn.ntmps,heap:=H}=some (e,s)->
   (match cO P s fn.results.toList with|some l=>some (er l,s.heap)|none=>none)=some (v,H')->Ext H H'/\
   ∀μ w (A:Array Value),LRel μ args A.toList->GRel μ G->WRel μ H w->(∀b,H.next<=b->b<H'.next->μ b=none)->
    Calls P f A w fun e w'=> ∃μ' v',e= .returned v'/\VRel μ' v v'/\Post μ H w μ' H' w':=by
  intro e s he T E
  split at E
  ·rename_i l hl;simp only[a00,a05]at E;obtain⟨rfl,rfl⟩:=E;obtain⟨ext,ai⟩:=Z c _ e s T ag;refine⟨ext,fun μ w A ha hG hw hf=>?_⟩;refine calls_of_wp aa hc ?_;refine wp_mono (ai μ {tmps:=A++Array.replicate (fn.ntmps-A.size) undef,defers:=[]} w V (args_rel ha fn.ntmps) hG hw hf).wp ?_;rintro e2 a2 w2 ⟨rfl,hd,μ',hp,ht⟩;obtain⟨v',N,hr⟩:=nC (P:=P) (fn:=fn) ht hp.wrel hl;rcases he with rfl|rfl
   ·exact⟨hd,v',N,μ',v',V,hr,hp⟩
   exact⟨hd,v',N,μ',v',V,hr,hp⟩
  cases E
 split at h
 ·rename_i s T;exact U .normal s (.inl V) T h
 ·rename_i s T;exact U .ret s (.inr V) T h
 cases h
def KnownOK(P:Program)(G:Nat)(K:bM):Prop:= ∀f args H v,K f args H=some v->args.all noA2=true/\noA2 v=true/\∀(μ:Emb) (A:Array Value) (w:World),A.toList=args->GRel μ G->WRel μ H w->
 Calls P f A w fun e w'=>e= .returned v/\Below w.heap.size w w'
theorem LRel.eq2{μ:Emb}{l l':List Value}(h:LRel μ l l')(h0:l.all noA2=true):l'=l:=by
 induction l generalizing l' with
 |nil=>exact h.nil_left
 |cons v l ih=>
  obtain⟨v',N,rfl,E,A⟩:=h.cons_left
  simp only[a0E,a0a]at h0
  rw[E.eq2 h0.1,ih A h0.2]
theorem callK_ok{K:bM}{cf:cu}(hK:KnownOK P G K)(U:d6 P G cf):d6 P G (me K cf):=by
 intro f args H v H' h ad;unfold me at h;split at h
 ·rename_i u hu;simp only[a00,a05]at h;obtain⟨rfl,rfl⟩:=h;obtain⟨h1,h2,h3⟩:=hK f args H u hu;refine⟨Ext.refl _,fun μ w A ha hG T hf=>?_⟩;refine(h3 μ A w (ha.eq2 h1) hG T).mono ?_;rintro e w' ⟨rfl,hb⟩;refine⟨μ,u,V,VRel.refl2 h2,⟨fun _ _ h=>h,fun _ _ h=> .inl h,hb.size,hb.os,hb.tape,hb.output,fun c hc _=>hb.block c hc,fun b l o E N h6=> .inr ⟨b,l,o,E,N,h6,id,V⟩,⟨fun b l o E N=>?_,T.inj⟩⟩⟩;have hr:=T.obj b l o E N;exact hr.keep (fun _ _ h=>h) hb.size (fun Z=>hb.block l.c (hr.lt Z))
 exact U f args H v H' h ad
theorem exec_ok{K:bM}(A:KnownOK P G K): ∀n,ExOK P G (mQ P G K n)
 |0=>fun c s e E h=>by cases h
 |n+1=>execC_ok (exec_ok A n) (callK_ok A (callC_ok (exec_ok A n)))
theorem call_ok{K:bM}(A:KnownOK P G K)(n:Nat):d6 P G (call P G K n):=callK_ok A (callC_ok (exec_ok A n))
theorem none_ok:KnownOK P G noneKnown:=fun f args H v h=>by cases h
end
open Go.RowKit
open Go.WideShapes Go.ChangeShapes in
theorem nE{H:Type}{enc:TypeId×Value->H}{P:Program}{f:Func}{s:ChangeSpec}{T aq ag ap:Bool}{W W':World}{args:Array Value}{v:Value}{ds gs:List (DataW H)}{A pa pv:List MemPlace}
  (hW:DataW.Whole enc P f.params.toList s.vars T W args.toList ds gs A)
  (ao: ∀(b:Nat) (N:Nat->Bool) (hd:Bool),DataW.TrodAll enc P W' b N hd f.resultTypes.toList (v.resultList f.resultTypes.size) (s.fn H (ds++gs)).results [])
  (U: ∀N:Nat->Bool,(∀p∈A,N p.block=true)->DataW.TrodAll enc P W' 0 N true f.params.toList args.toList (s.fn H (ds++gs)).args pa)
  (aa: ∀N:Nat->Bool,(∀p∈A,N p.block=true)->DataW.TrodVars enc P W' N s.vars (s.fn H (ds++gs)).vars pv)
  (Z:A=pa++pv) (hb:Below W.heap.size W W')
  (a1: ∀(j:Nat) (t:TypeId) (r:Value),f.resultTypes[j]?=some t->(v.resultList f.resultTypes.size)[j]?=some r->Value.okWide P W' .any 0 t r):
  s.post enc P f T aq ag ap W args v W':=by
 have an: ∀p∈A,(fun b=>decide (b<W.heap.size)) p.block=true:=fun p E=>by simpa using hW.lt p E
 have a0: ∀p∈A,p.block<W.heap.size:=fun p E=>by simpa using hW.lt p E
 refine⟨ds,gs,A,[],pa,pv,hW,ao _ _ _,U _ an,aa _ an,World.keptBut_mono (fun p E=>⟨E,?_⟩) (hb.frame (· ∈A)),fun _=>?_⟩
 ·rw[Z,a09]at E;exact Or.inr E
 obtain⟨_,_,_,_,_,hz,hn⟩:=hW
 refine⟨a1,_,_,([]++pa)++pv,⟨[]++pa,pv,trodAll_append (U _ (fun _ _=>rfl)) (ao _ _ _),aa _ (fun _ _=>rfl),V,?_,?_⟩,?_⟩
 ·intro b off E;have av:MemPlace.cell b off∈A:=by rw[Z];simpa using E
  have h1:=hb.frozen (p:=⟨b,off,none⟩) (a0 _ av);have h2:=hz b off av;first|(rw[h1];exact h2)|(exact h1.trans h2)|(simp_all)
 ·intro ha;have:=hn ha;rw[Z]at this;simpa using this
 intro p E _
 rw[Z]
 simpa using E
end Go.R
noncomputable section
namespace Go.R
open Go.RowKit
section
variable {P:Program} {w:World} {base:Nat} {held:Bool} {enc:TypeId×Value->Unit}
def lit1(P:Program)(t:TypeId)(d:DataW Unit):Option Value:=
 match P.underlying t,d with
 |some .bool,.lit (.bool b)=>some (.bool b)
 |some (.int k),.lit (.int _ n)=>some (.int k n)
 |some .string,.lit (.string l)=>some (.string ⟨⟨l⟩⟩)
 |_,_=>none
theorem cells_lit1{T:Nat->Bool}{fuel:Nat}{t:TypeId}{cs:List Value}{d:DataW Unit}{p:List MemPlace}{v:Value}(h:DataW.trod enc P w base T held fuel t cs=some (d,p))(A:lit1 P t d=some v):cs=[v]:=by
 unfold lit1 at A;split at A
 ·rename_i N;obtain⟨b,rfl,E⟩:=DataW.trod_bool N h;simp only[a05,DataW.lit.injEq,Lit.bool.injEq]at E;injection A with A;subst A;rw[E.1]
 ·rename_i N;obtain⟨n,rfl,E,_⟩:=DataW.trod_int N h;simp only[a05,DataW.lit.injEq,Lit.int.injEq]at E;injection A with A;subst A;rw[E.1.2]
 ·rename_i N;obtain⟨s,rfl,E,_⟩:=DataW.trod_string N h;simp only[a05,DataW.lit.injEq,Lit.string.injEq]at E;injection A with A;subst A;rw[E.1]
 cases A
def flatFs(P:Program):Nat->List Field->Bool
 |_,[]=>true
 |i,f::fs=>Nat.beq f.offset i&&Nat.beq (P.cellsOf f.type) 1&&flatFs P (i+1) fs
theorem flatFs_at: ∀(fs:List Field) (i j:Nat) (f:Field),flatFs P i fs=true->fs[j]?=some f->f.offset=i+j/\P.cellsOf f.type=1
 | [],_,_,_,_,h=>by simp at h
 |g::fs,i,0,f,h,hf=>by simp only[flatFs,a0a]at h;simp only[a0V,a00]at hf;subst hf;exact⟨a0c h.1.1,a0c h.1.2⟩
 |g::fs,i,j+1,f,h,hf=>by simp only[flatFs,a0a]at h;have:=flatFs_at fs (i+1) j f h.2 (by simpa using hf);exact⟨by omega,this.2⟩
def litFs(P:Program):List Field->List (DataW Unit)->Option (List Value)
 | [],[]=>some []
 |f::fs,d::ds=>
  match lit1 P f.type d,litFs P fs ds with
  |some v,some l=>some (v::l)
  |_,_=>none
 |_,_=>none
theorem nG: ∀(fs:List Field) (ds:List (DataW Unit)) (l:List Value),litFs P fs ds=some l->l.length=fs.length/\ds.length=fs.length/\∀(i:Nat) f d,fs[i]?=some f->ds[i]?=some d->∃v,l[i]?=some v/\lit1 P f.type d=some v
 | [],[],l,h=>by simp only[litFs,a00]at h;subst h;exact⟨V,V,fun i f d h=>by simp at h⟩
 | [],_::_,l,h=>by cases h
 |_::_,[],l,h=>by cases h
 |f::fs,d::ds,l,h=>by
  simp only[litFs]at h;split at h
  ·rename_i v l1 hv Z;injection h with h;subst h;obtain⟨N,T,U⟩:=nG fs ds l1 Z;refine⟨by simp[N],by simp[T],fun i g e E A=>?_⟩;cases i with
   |zero=>simp only[a0V,a00]at E A;subst E A;exact⟨v,V,hv⟩
   |succ i=>exact U i g e (by simpa using E) (by simpa using A)
  cases h
theorem cells_struct{A:Nat->Bool}{fuel:Nat}{t:TypeId}{fs:Array Field}{cs:List Value}{T:List (DataW Unit)}{p:List MemPlace}{vs:List Value}(ht:P.underlying t=some (.struct fs))(ao:flatFs P 0 fs.toList=true)(hc:P.cellsOf t=fs.size)
  (h:DataW.trod enc P w base A held fuel t cs=some (.agg T,p)) (hv:litFs P fs.toList T=some vs):cs=vs:=by
 obtain⟨xs,n,_,hx,Z,a3,U⟩:=DataW.trod_struct ht h
 simp only[a05,DataW.agg.injEq]at hx
 obtain⟨h1,h2,h3⟩:=nG _ _ _ hv
 have ay:=h1
 apply a1l
 intro i
 by_cases hi:i<fs.size
 ·have hf:fs[i]?=some fs[i]:=a0I hi;have E:fs.toList[i]?=some fs[i]:=by simp[hf]
  obtain⟨ho,ag⟩:=flatFs_at _ 0 i _ ao E;have hr:=U i _ hf;have N:xs[i]?=some (xs[i]'M):=a06 M;have al:T[i]?=some (xs[i]'M).1:=by rw[hx.1];simp[N]
  obtain⟨v,ar,ap⟩:=h3 i _ _ E al;rw[N]at hr;have ai:=cells_lit1 (p:=(xs[i]'M).2) hr ap;rw[ar];have e1:((cs.drop fs[i].offset).take (P.cellsOf fs[i].type))[0]?=some v:=by rw[ai];rfl
  rw[ag,ho,a0A,if_pos M,a0L]at e1;simpa using e1
 rw[a0J (by rw[Z,hc];omega),a0J (by rw[h1];simpa using hi)]
def litRows(P:Program)(fs:List Field):List (DataW Unit)->Option (List (List Value))
 | []=>some []
 | .agg ds::r=>
  match litFs P fs ds,litRows P fs r with
  |some l,some m=>some (l::m)
  |_,_=>none
 |_::_=>none
theorem mD{fs:List Field}: ∀(ds:List (DataW Unit)) (m:List (List Value)),litRows P fs ds=some m->m.length=ds.length/\∀(i:Nat) l,m[i]?=some l->∃es,ds[i]?=some (.agg es)/\litFs P fs es=some l
 | [],m,h=>by simp only[litRows,a00]at h;subst h;exact⟨V,fun i l h=>by simp at h⟩
 |d::r,m,h=>by
  cases d<;>first|(cases h;done)|skip
  rename_i es;simp only[litRows]at h;split at h
  ·rename_i l m1 T U;injection h with h;subst h;obtain⟨E,N⟩:=mD r m1 U;refine⟨by simp[E],fun i l' A=>?_⟩;cases i with
   |zero=>simp only[a0V,a00]at A;subst A;exact⟨es,V,T⟩
   |succ i=>exact N i l' (by simpa using A)
  cases h
theorem cells?_at{a:Addr}: ∀{n:Nat} {l:List Value},w.cells? base a n=some l->∀i,i<n->l[i]?=w.cell? (a.add i)/\(w.cell? (a.add i)).isSome:=by
 intro n l h i hi;unfold World.cells? at h;split at h
 ·have T: ∀(r:List Nat) (l:List Value),r.mapM (fun i=>w.cell? (a.add i))=some l->∀(j:Nat) k,r[j]?=some k->l[j]?=w.cell? (a.add k)/\(w.cell? (a.add k)).isSome:=by
   intro r;induction r with
   |nil=>intro l _ j k A;simp at A
   |cons x r ih=>
    intro l E j k A
    simp only[a2u,Option.bind_eq_bind,Option.bind_eq_some_iff]at E
    obtain⟨v,N,m,U,E⟩:=E
    cases E
    cases j with
    |zero=>simp only[a0V,a00]at A;subst A;exact⟨by rw[N];rfl,by rw[N];rfl⟩
    |succ j=>exact ih m U j k (by simpa using A)
  exact T _ _ h i i (by rw[List.getElem?_range hi])
 cases h
theorem mM(k:Nat)(A:0<k): ∀(m:List (List Value)),(∀l∈m,l.length=k)->∀(i:Nat) v,m.flatten[i]?=some v->∃l,m[i/k]?=some l/\l[i%k]?=some v
 | [],_,i,v,h=>by simp at h
 |l::m,hm,i,v,h=>by
  have Z:=hm l (a0q ..);rw[a0N]at h;by_cases hi:i<k
  ·rw[a0Q M]at h;exact⟨l,by rw[Nat.div_eq_of_lt hi];rfl,by rw[Nat.mod_eq_of_lt hi];exact h⟩
  rw[a0S M,Z]at h;obtain⟨l',T,U⟩:=mM k A m (fun x hx=>hm x (a0i _ hx)) (i-k) v h;have E:i/k=(i-k)/k+1:=by rw[Nat.div_eq_sub_div A M]
  have N:i%k=(i-k)%k:=by rw[Nat.mod_eq_sub_mod M]
  exact⟨l',by rw[E];exact T,by rw[N];exact U⟩
theorem cells_table{fuel:Nat}{t e:TypeId}{fs:Array Field}{cs:List Value}{E:List (DataW Unit)}{p:List MemPlace}{m:List (List Value)}(ht:P.underlying t=some (.slice e))(he:P.underlying e=some (.struct fs))(bb:flatFs P 0 fs.toList=true)
  (hc:P.cellsOf e=fs.size) (U:0<fs.size) (cc:0<E.length) (h:DataW.trod enc P w base (fun _=>true) held fuel t cs=some (.slice E [],p)) (hv:litRows P fs.toList E=some m):
  ∃c o,cs=[.slice (some ⟨c,o,none⟩) E.length E.length]/\∀i v,m.flatten[i]?=some v->w.cell? ⟨c,o+i,none⟩=some v:=by
 rcases DataW.trod_slice ht h with⟨_,hx⟩|⟨a,len,N,A,ay,n,_,a4,hx,_,hl,_,av,a9,b0,_⟩
 ·simp at hx
 simp only[a05,DataW.slice.injEq]at hx
 obtain⟨⟨hd,hr⟩,_⟩:=hx
 have ci:ay.length=0:=by have:=congrArg List.length hr;simpa using this.symm
 have b4:=(b0 V).1
 have a7:E.length=len:=by rw[hd];simpa using av
 have a3:N=len:=M
 subst a3
 obtain⟨ch,bz⟩:=mD _ _ hv
 obtain⟨c,o,sp⟩:=a
 have cell: ∀j,j<N->∃l,m[j]?=some l/\l.length=fs.size/\∀q,q<fs.size->w.cell? ((Addr.mk c o sp).add (j *fs.size)|>.add q)=l[q]?/\(w.cell? ((Addr.mk c o sp).add (j *fs.size)|>.add q)).isSome:=by
  intro j Z;have ao:m[j]?=some (m[j]'M):=a06 M;obtain⟨es,a8,an⟩:=bz j _ ao;have hE:=a9 j Z;rw[hc]at hE;have hy:A[j]?=some (A[j]'M):=a06 M;rw[hy]at hE;simp only[Option.bind_eq_some_iff]at hE;obtain⟨c1,a2,b2⟩:=hE;have a6:(A[j]'M).1= .agg es:=by
   have e0:E[j]?=some (A[j]'M).1:=by rw[show E[j]?=(List.map (fun x=>x.fst) A)[j]? from by rw[←hd],a18,hy];rfl
   rw[a8]at e0;exact(Option.some.inj e0).symm
  have aw:=cells_struct (p:=(A[j]'M).2) he bb hc (by rw[b2,←a6]) an;subst aw;refine⟨_,ao,(nG _ _ _ an).1.trans (by simp),fun q hq=>?_⟩;have:=cells?_at a2 q hq;exact⟨this.1.symm,this.2⟩
 have ax:sp=none:=by
  obtain⟨l,_,_,h3⟩:=cell 0 M;have:=(h3 0 U).2;cases sp with
  |none=>rfl
  |some z=>
   exfalso
   simp only[Addr.add,World.cell?,if_true]at this
   split at this<;>simp at this
 subst ax
 refine⟨c,o,by rw[a4,a7],fun i v bk=>?_⟩
 have ar: ∀l∈m,l.length=fs.size:=by intro l hl;obtain⟨j,Z,rfl⟩:=a0x.1 hl;obtain⟨l',T,h2,_⟩:=cell j M;rw[a06 Z]at T;rw[Option.some.inj T];exact h2
 obtain⟨l,T,h2⟩:=mM fs.size U m ar i v bk
 have Z:i/fs.size<N:=by have:=(a0u.1 T).1;omega
 obtain⟨l',h3,h4,h5⟩:=cell _ Z
 rw[T]at h3
 obtain rfl:=Option.some.inj h3
 have h6:=(h5 (i%fs.size) (Nat.mod_lt _ U)).1
 rw[h2]at h6
 have e:o+i/fs.size *fs.size+i%fs.size=o+i:=by rw[a1v,Nat.mul_comm,Nat.div_add_mod]
 have ad: ∀x k:Nat,(Addr.mk c x none).add k=⟨c,x+k,none⟩:=by
  intro x k;unfold Addr.add;by_cases hk:k=0
  ·subst hk;rfl
  simp[hk]
 rw[ad,ad,e]at h6
 exact h6
end
theorem cC(n:Nat)(cells:List Value)(b:Nat):(tabHeap n cells).get b=if b=1 then some (.cells cells none true) else if b=0 then some (.cells [.slice (some ⟨1,0,none⟩) n n] none true) else none:=by
 show((Tr.nil.set 0 _).set 1 _).get b=_;by_cases A:b=1
 ·subst A;rw[if_pos V,Tr.get_set_same]
 rw[if_neg A,Tr.get_set_ne _ _ (Ne.symm A)];by_cases h0:b=0
 ·subst h0;rw[if_pos V,Tr.get_set_same]
 rw[if_neg h0,Tr.get_set_ne _ _ (Ne.symm h0)];rfl
theorem ble_pos(n:Nat)(h:Nat.ble 1 n=true):0<n:=a08 h
theorem jU{P:Program}{K:bM}(hK:KnownOK P 1 K){n m:Nat}{f:FuncId}{cells:List Value}(h:saysTrue (call P 1 K n f [] (tabHeap m cells))=true)(aq:cells.all noA0=true){w:World}{c o:Nat}
  (h0:w.cell? ⟨0,0,none⟩=some (.slice (some ⟨c,o,none⟩) m m)) (av:cells≠ []) (h1: ∀i v,cells[i]?=some v->w.cell? ⟨c,o+i,none⟩=some v):
  Calls P f #[] w fun e w'=>e= .returned (.bool true)/\Below w.heap.size w w':=by
 have aa: ∀{a:Addr} {v:Value},w.cell? a=some v->a.block<w.heap.size:=by
  intro a v E;unfold World.cell? at E;split at E
  ·rename_i T;exact(a0G.1 T).1
  cases E
 revert h
 cases ar:call P 1 K n f [] (tabHeap m cells) with
 |none=>intro h;cases h
 |some r=>
  obtain⟨v,H'⟩:=r
  intro h
  have E:v= .bool true:=by
   unfold saysTrue at h;split at h
   ·rename_i T;simp only[a00,a05]at T;exact T.1
   cases h
  subst E
  have aw:WF (tabHeap m cells):=fun b U=>by have N:2<=b:=U;rw[cC,if_neg M,if_neg M]
  obtain⟨_,Z⟩:=call_ok (G:=1) hK n f [] (tabHeap m cells) (.bool true) H' ar aw
  let μ:Emb:=fun b=>if b=1 then some ⟨c,o,none,0⟩ else if b=0 then some ⟨0,0,none,0⟩ else none
  have ad: ∀b x,(tabHeap m cells).get b=some x->x.rw=false:=by
   intro b x A;rw[cC]at A;split at A
   ·injection A with A;subst A;rfl
   split at A
   ·injection A with A;subst A;rfl
   cases A
  have ai:WRel μ (tabHeap m cells) w:=by
   refine⟨fun b l x U A=>?_,fun b1 b2 l1 l2 o1 o2 _ _ _ h3 _ h5 _=>?_⟩
   ·rw[cC]at A;by_cases e1:b=1
    ·subst e1;rw[if_pos rfl]at A;injection A with A;subst A;have N:l=⟨c,o,none,0⟩:=(Option.some.inj U).symm;subst N;refine⟨V,V,?_,fun i v E=>⟨v,h1 i v E,.atom v (a0t.1 aq v (a0m E))⟩⟩;cases cells with
     |nil=>exact absurd V av
     |cons v r=>exact aa (h1 0 v V)
    rw[if_neg e1]at A;by_cases e0:b=0
    ·subst e0;rw[if_pos rfl]at A;injection A with A;subst A;have N:l=⟨0,0,none,0⟩:=(Option.some.inj U).symm;subst N;refine⟨V,V,aa h0,fun i v E=>?_⟩;cases i with
     |zero=>
      simp only[a0V,a00]at E;subst E
      exact⟨_,h0,.sliceC 1 0 m m ⟨c,o,none,0⟩ V V⟩
     |succ i=>simp at E
    rw[if_neg e0]at A;cases A
   rw[ad b1 o1 h3]at h5;cases h5
  refine(Z μ w #[] LRel.nil (fun g hg=>?_) ai (fun b U _=>?_)).mono ?_
  ·have:g=0:=M
   subst this;exact⟨⟨0,0,none,0⟩,V,V,V⟩
  ·have N:2<=b:=U;show(if b=1 then _ else if b=0 then _ else none)=none;rw[if_neg M,if_neg M]
  rintro e w' ⟨μ',v',rfl,hr,hp⟩
  rw[hr.eq2 rfl]
  refine⟨V,hp.os,hp.tape,hp.out,hp.grow,fun k hk=>hp.keep k hk fun b l x _ A ag=>?_⟩
  rw[ad b x A]at ag;cases ag
end Go.R
end
namespace Go.R
def CfLe(cf cf':cu):Prop:= ∀f a H r,cf f a H=some r->cf' f a H=some r
def ExLe(ex A:Code->St->Option (Ex×St)):Prop:= ∀c s r,ex c s=some r->A c s=some r
section
variable {P:Program} {G:Nat} {cf cf':cu} {ops:Array Oper}
theorem step_mono(h:CfLe cf cf'){o:Oper}{s N:St}(hs:step P G cf ops o s=some N):step P G cf' ops o s=some N:=by
 unfold step at hs⊢;cases E:bf ops o s.tmps with
 |false=>rw[E]at hs;exact hs
 |true=>
  rw[E]at hs
  cases A:o.op.operands.toList.all (bo G) with
  |false=>rw[A]at hs;cases hs
  |true=>
   rw[A]at hs
   simp only[cond_true]at hs⊢
   split at hs
   ·exact hs
   ·exact hs
   ·split at hs
    ·rename_i v T hc;rw[h _ _ _ _ hc];exact hs
    cases hs
   cases hs
theorem gS(h:CfLe cf cf'): ∀(l:List Oper) (s A:St),fX P G cf ops l s=some A->fX P G cf' ops l s=some A
 | [],_,_,hs=>hs
 |o::l,s,A,hs=>by
  rw[cj]at hs⊢;split at hs
  ·rename_i t E;rw[step_mono h E];exact gS h l _ _ hs
  cases hs
theorem stepD_mono(h:CfLe cf cf'){o:Oper}{s:St}{r:St×Inf}(hs:gP P G cf ops o s=some r):gP P G cf' ops o s=some r:=by
 unfold gP at hs⊢;split at hs
 ·rename_i t A;rw[step_mono h A];exact hs
 cases hs
theorem eO(h:CfLe cf cf'): ∀(l:List Oper) (i:Nat) (fs:List (Nat×Inf)) (s s':St),bC P G cf ops i fs l s=some s'->bC P G cf' ops i fs l s=some s'
 | [],_,_,_,_,hs=>by unfold bC at hs⊢;exact hs
 |o::l,i,fs,s,s',hs=>by
  unfold bC at hs⊢;split at hs
  ·rename_i t f E;rw[stepD_mono h E];simp only;cases A:cn ops (cm ops) i f fs with
   |false=>rw[A]at hs;cases hs
   |true=>rw[A]at hs;simp only[cond_true]at hs⊢;exact eO h l _ _ _ _ hs
  cases hs
theorem l6(h:CfLe cf cf'){A:Bool}{s N:St}(hs:bX P G cf ops A s=some N):bX P G cf' ops A s=some N:=by
 unfold bX at hs⊢;cases A with
 |false=>exact gS h _ _ _ hs
 |true=>
  simp only[cond_true]at hs⊢
  cases E:bg ops&&P.follows .mixedOrders with
  |false=>rw[E]at hs;cases hs
  |true=>rw[E]at hs;simp only[cond_true]at hs⊢;exact eO h _ _ _ _ _ hs
theorem gG{r N:Option (Ex×St)}{k E:St->Option (Ex×St)}(U: ∀x,r=some x->N=some x)(T: ∀s x,k s=some x->E s=some x){x:Ex×St}(h:gu r k=some x):gu N E=some x:=by
 cases A:r with
 |none=>rw[A]at h;cases h
 |some y=>
  rw[U y A]
  rw[A]at h
  obtain⟨e,s⟩:=y
  cases e with
  |normal=>exact T _ _ h
  |exit i=>exact h
  |ret=>exact h
theorem jL{id:Nat}{r E:Option (Ex×St)}(N: ∀x,r=some x->E=some x){x:Ex×St}(h:dg id r=some x):dg id E=some x:=by
 cases A:r with
 |none=>rw[A]at h;cases h
 |some y=>rw[N y A];rw[A]at h;exact h
theorem execC_mono(h:CfLe cf cf'){ex N:Code->St->Option (Ex×St)}(T:ExLe ex N)(c:Code): ∀(s:St) (x:Ex×St),eJ P G ex cf c s=some x->eJ P G N cf' c s=some x:=by
 induction c with
 |skip=>intro s x A;exact A
 |region id ops draw=>
  intro s x A
  rw[gr]at A⊢
  cases E:bX P G cf ops draw s with
  |none=>rw[E]at A;cases A
  |some t=>rw[l6 h E];rw[E]at A;exact A
 |seq a b iha ihb=>
  intro s x A
  rw[lF]at A⊢
  exact gG (iha s) ihb A
 |cond c t e iht ihe=>
  intro s x A
  rw[jt]at A⊢
  cases E:bo G c with
  |false=>rw[E]at A;cases A
  |true=>
   rw[E]at A
   simp only[cond_true]at A⊢
   unfold mR at A⊢
   split at A
   ·rename_i b U;cases b with
    |true=>exact iht s x A
    |false=>exact ihe s x A
   cases A
 |block id b ih=>
  intro s x A
  rw[ie]at A⊢
  exact jL (ih s) A
 |loop b ih=>
  intro s x A
  rw[jr]at A⊢
  exact gG (ih s) (T _) A
 |exit id=>intro s x A;exact A
 |ret=>intro s x A;exact A
 |_=>intro s x A;cases A
theorem mX{ex A:Code->St->Option (Ex×St)}(E:ExLe ex A):CfLe (nU P ex) (nU P A):=by
 intro f a H r h;unfold nU at h⊢;split at h
 ·split at h
  ·split at h
   ·rename_i s N;rw[E _ _ _ N];exact h
   ·rename_i s N;rw[E _ _ _ N];exact h
   cases h
  cases h
 cases h
theorem mW{K:bM}(h:CfLe cf cf'):CfLe (me K cf) (me K cf'):=by
 intro f a H r A;unfold me at A⊢;split at A
 ·exact A
 exact h _ _ _ _ A
theorem iT{K:bM}: ∀n,ExLe (mQ P G K n) (mQ P G K (n+1))
 |0=>fun c s r h=>by cases h
 |n+1=>fun c s r h=>execC_mono (mW (mX (iT n))) (iT n) c s r h
theorem iU{K:bM}{n m:Nat}(h:n<=m):ExLe (mQ P G K n) (mQ P G K m):=by
 induction h with
 |refl=>exact fun _ _ _ h=>h
 |step _ ih=>exact fun c s r h=>iT _ c s r (ih c s r h)
theorem fl{K:bM}{n m:Nat}(h:n<=m):CfLe (call P G K n) (call P G K m):=mW (mX (iU h))
end
end Go.R
