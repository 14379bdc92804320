/-
The evaluator is sound: regions, code, calls, laws.
-/
import Derived.Test.YtknafdcgpaejlaaDoorZMRA
import Derived.Below
import Derived.ChangeSame
import Derived.ChangeArms
namespace Go.R
structure Ext(H H':Heap):Prop where
 next:H.next<=H'.next
 log: ∃d,H'.log=d++H.log/\∀b,b<H.next->b∉d->H'.get b=H.get b
 far: ∀b,H'.next<=b->H'.get b=H.get b
theorem Ext.refl(H:Heap):Ext H H:=⟨a0a _,⟨[],rfl,fun _ _ _=>rfl⟩,fun _ _=>rfl⟩
theorem Ext.trans{H H1 N:Heap}(h:Ext H H1)(k:Ext H1 N):Ext H N:=by
 obtain⟨T,V,g1⟩:=h.log;obtain⟨U,Z,g2⟩:=k.log;refine⟨a0d h.next k.next,⟨U++T,by rw[Z,V,a0m],fun b A E=>?_⟩,fun b A=>?_⟩
 ·rw[a07,not_or]at E;rw[g2 b (a0V A h.next) E.1,g1 b A E.2]
 rw[k.far b A,h.far b (a0d k.next A)]
theorem Ext.push(H:Heap)(o:AObj):Ext H (H.push o):=by refine⟨by simp,⟨[],rfl,fun b A _=>Heap.get_push_ne H o (by omega)⟩,fun b A=>Heap.get_push_ne H o ?_⟩;simp at A;omega
theorem Ext.put{H:Heap}{b:Nat}(o:AObj)(E:b<H.next):Ext H (H.put b o):=by refine⟨a0a _,⟨[b],rfl,fun k _ A=>Heap.get_put_ne H o (fun e=>A (by simp[e]))⟩,fun k A=>Heap.get_put_ne H o ?_⟩;simp at A;omega
def WF(H:Heap):Prop:= ∀b,H.next<=b->H.get b=none
theorem WF.ext{H H':Heap}(h:WF H)(e:Ext H H'):WF H':=fun b A=>by rw[e.far b A];exact h b (a0d e.next A)
theorem WF.lt{H:Heap}(h:WF H){b:Nat}{o:AObj}(A:H.get b=some o):b<H.next:=by
 rcases a0i b H.next with hl|hl
 ·exact hl
 rw[h b hl]at A;cases A
section ext
variable {P:Program} {H H':Heap}
def ER(H:Heap){α:Type}(r:Option (α×Heap)):Prop:= ∀a H',r=some (a,H')->Ext H H'
theorem ER.none_{α:Type}:ER H (none:Option (α×Heap)):=fun _ _ h=>by cases h
theorem ER.some_{α:Type}{a:α}{H1:Heap}(h:Ext H H1):ER H (some (a,H1)):=fun _ _ e=>by injection e with e;injection e with _ e;subst e;exact h
theorem ER.same{α:Type}{a:α}:ER H (some (a,H)):=ER.some_ (Ext.refl H)
theorem ER.bif_{α:Type}{c:Bool}{x y:Option (α×Heap)}(h:ER H x)(k:ER H y):ER H (bif c then x else y):=by cases c<;>assumption
def EO(H:Heap)(r:Option Heap):Prop:= ∀H',r=some H'->Ext H H'
theorem EO.none_:EO H none:=fun _ h=>by cases h
theorem EO.some_{H1:Heap}(h:Ext H H1):EO H (some H1):=fun _ e=>by injection e with e;subst e;exact h
theorem EO.bif_{c:Bool}{x y:Option Heap}(h:EO H x)(k:EO H y):EO H (bif c then x else y):=by cases c<;>assumption
theorem ER.ovl_(r:Option Value):ER H (ovl r H):=by unfold ovl;split;exact ER.same;exact ER.none_
theorem ER.ovh_{r:Option (Value×Heap)}(h:ER H r):ER H (ovh r):=by
 unfold ovh;split
 ·rename_i v A;exact ER.some_ (h v A rfl)
 exact ER.none_
theorem ER.osk_{r:Option Heap}(h:EO H r):ER H (osk r):=by
 unfold osk;split
 ·rename_i A;exact ER.some_ (h A rfl)
 exact ER.none_
theorem ER.lift_(s:Sem Value):ER H (lift P s H):=by unfold lift;split;exact ER.same;exact ER.none_
theorem ER.plain_(ρ:Operand->Value)(o:Oper):ER H (bD P ρ o H):=by
 unfold bD;refine ER.bif_ ?_ ER.none_;split
 ·exact ER.bif_ ER.same ER.none_
 exact ER.none_
theorem gM(E:WF H)(a:Addr)(N:List Value):EO H (H.storeL a N):=by
 unfold Heap.storeL;split
 ·split
  ·rename_i A;exact EO.bif_ (EO.some_ (Ext.put _ (E.lt A))) EO.none_
  exact EO.none_
 exact EO.none_
theorem append_ext(E:WF H)(types:Array TypeId)(s x:Value):ER H (eT P types s x H):=by
 unfold eT;split
 case h_2=>exact ER.none_
 split
 case h_2=>exact ER.none_
 split
 ·exact ER.none_
 split
 case h_2=>exact ER.none_
 split
 ·exact ER.none_
 split
 ·exact ER.bif_ ER.same (ER.bif_ (ER.some_ (Ext.push _ _)) ER.none_)
 ·split
  ·rename_i T;refine ER.bif_ (ER.bif_ ER.same ?_) (ER.bif_ ?_ ER.none_)
   ·split
    ·rename_i N A;exact ER.some_ (gM E _ _ N A)
    exact ER.none_
   split
   ·exact ER.none_
   split
   ·exact ER.some_ (Ext.push _ _)
   exact ER.bif_ (ER.some_ ((Ext.put .dead (E.lt T)).trans (Ext.push _ _))) ER.none_
  exact ER.none_
 exact ER.none_
theorem copy_ext(N:WF H)(types:Array TypeId)(d s:Value):ER H (lG P types d s H):=by
 unfold lG;split
 case h_2=>exact ER.none_
 split
 case h_2=>exact ER.none_
 split
 case h_2=>exact ER.none_
 refine ER.bif_ ER.same ?_;split
 ·split
  ·rename_i E A;exact ER.some_ (gM N _ _ E A)
  exact ER.none_
 exact ER.none_
theorem aop_er(A:WF H)(ρ:Operand->Value)(o:Oper):ER H (aop P ρ o H):=by
 unfold aop;split
 ·exact ER.same
 ·exact ER.same
 ·unfold fb;split;exact ER.same;exact ER.none_
 ·unfold d8;split;exact ER.some_ (Ext.push _ _);exact ER.none_
 ·exact ER.some_ (Ext.push _ _)
 ·unfold fN;split;exact ER.lift_ _;exact ER.none_
 ·unfold bE;split
  ·refine ER.bif_ ?_ ER.none_;split
   ·exact ER.some_ (Ext.push _ _)
   exact ER.none_
  exact ER.none_
 ·unfold dR;split;exact ER.ovl_ _;exact ER.none_
 ·unfold fM;split
  ·split
   ·exact ER.bif_ (ER.osk_ (gM A _ _)) ER.none_
   exact ER.none_
  exact ER.none_
 ·unfold opNil;split;exact ER.same;exact ER.same;exact ER.none_
 ·unfold aBin;split
  ·unfold binInt;split;exact ER.ovl_ _;exact ER.none_
  ·unfold binStr;split;exact ER.ovl_ _;exact ER.none_
  unfold lp;split
  ·exact ER.plain_ _ _
  ·exact ER.plain_ _ _
  intro a H' h;rw[(gR h).1];exact Ext.refl _
 ·unfold fw;split;exact ER.ovl_ _;exact ER.plain_ _ _
 ·exact ER.same
 ·refine ER.ovh_ ?_;unfold aMake;split
  ·split
   ·exact ER.bif_ (ER.some_ (Ext.push _ _)) ER.none_
   exact ER.none_
  exact ER.none_
 ·exact ER.ovl_ _
 ·exact ER.ovl_ _
 ·exact ER.ovl_ _
 ·exact ER.ovl_ _
 ·unfold jH;split;exact ER.ovl_ _;exact ER.lift_ _
 ·exact ER.ovl_ _
 ·unfold opCall;split
  ·unfold lH;split
   ·unfold bLen;split;exact ER.ovl_ _;exact ER.none_
   ·unfold bAppend;split;exact ER.ovh_ (append_ext A _ _ _);exact ER.none_
   ·unfold bCopy;split;exact ER.ovh_ (copy_ext A _ _ _);exact ER.none_
   ·exact ER.plain_ _ _
   ·exact ER.plain_ _ _
   exact ER.none_
  ·unfold eM;split;exact ER.same;exact ER.none_
  exact ER.none_
 ·unfold aUn;split
  ·split;exact ER.same;exact ER.none_
  exact ER.plain_ _ _
 exact ER.none_
theorem lA(A:WF H){ρ:Operand->Value}{o:Oper}{r:AN}(h:aop P ρ o H=some (r,H')):Ext H H':=aop_er A ρ o r H' h
end ext
section
variable {P:Program} {μ:Emb} {H H':Heap} {w:World}
theorem two_of{l:List Value}{a b:Value}{A:Array Value}(h:LRel μ l A.toList)(he:l=[a,b]): ∃E N,A= #[E,N]/\VRel μ a E/\VRel μ b N:=by subst he;obtain⟨E,t,U,Z,ht⟩:=h.cons_left;obtain⟨N,t2,V,hb,T⟩:=ht.cons_left;have:=T.nil_left;subst this V;exact⟨E,N,a1d.1 (by rw[U]),Z,hb⟩
theorem one_of{l:List Value}{a:Value}{A:Array Value}(h:LRel μ l A.toList)(U:l=[a]): ∃E,A= #[E]/\VRel μ a E:=by subst U;obtain⟨E,t,N,T,V⟩:=h.cons_left;have:=V.nil_left;subst this;exact⟨E,a1d.1 (by rw[N]),T⟩
theorem OpOK.of_value{s:Sem Next}{v v':Value}(h: ∀w,s.run P w= .ok (.value v') w)(E:WRel μ H w)(A:VRel μ v v'):OpOK P μ H w s (.val v) H:=
 ⟨.value v',w,μ,h w,Post.refl E,A⟩
theorem eL{ρ ρ':Operand->Value}{x:Option Operand}(h: ∀y,x=some y->VRel μ (ρ y) (ρ' y)):
  (∀v,x.map ρ=some v->∃v',x.map ρ'=some v'/\VRel μ v v')/\(x.map ρ=none->x.map ρ'=none):=by
 cases x with
 |none=>exact⟨fun v A=>by simp at A,fun _=>rfl⟩
 |some y=>exact⟨fun v A=>by simp at A;subst A;exact⟨_,rfl,h y rfl⟩,fun E=>by simp at E⟩
set_option maxHeartbeats 4000000 in
theorem gG{ρ ρ':Operand->Value}{o:Oper}{r:AN}(U: ∀x∈o.op.operands,VRel μ (ρ x) (ρ' x))(V:WRel μ H w)
  (hf: ∀b,H.next<=b->b<H'.next->μ b=none) (h:aop P ρ o H=some (r,H')):OpOK P μ H w (execOp ρ' o) r H':=by
 cases hk:aX o.op with
 |true=>
  obtain⟨rfl,v,v',rfl,E,hr⟩:=iY hk U h
  exact OpOK.of_value E V hr
 |false=>
  obtain⟨al,op,T,pos,after,Z⟩:=o
  cases op<;>simp only[aX,reduceCtorEq]at hk
  case alloc e=>
   have N:d8 P e H=some (r,H'):=h
   have:=alloc_sound V hf N
   exact this
  case box e x=>
   have N:some (AN.val (ptrTo H.next),aQ H (ρ x).cells.toList none)=some (r,H'):=h
   simp only[a00,a04]at N
   obtain⟨rfl,rfl⟩:=N
   have:=box_sound (P:=P) (e:=e) V (hf H.next (a0a _) (by simp[aQ])) (U x (by simp[Op.operands]))
   exact this
  case buildSlice t n parts=>
   have N:bE P t n (eG (fun p=>(p.1,ρ p.2)) parts.toList) H=some (r,H'):=h
   rw[jm]at N
   have:=iD (ps':=parts.map fun(i,x)=>(i,ρ' x)) V hf (by simp) (fun i x x' h1 h2=>?_) N
   ·exact this
   simp only[Array.toList_map,a1f,a1V]at h1 h2
   obtain⟨y,hy,rfl⟩:=h1
   obtain⟨z,hz,rfl⟩:=h2
   rw[hy]at hz;injection hz with hz;subst hz
   refine⟨rfl,U _ ?_⟩
   have:=a0l hy
   simp only[Op.operands,List.mem_toArray,a0r]
   exact⟨y,this,rfl⟩
  case load t a=>
   have N:dR P t (ρ a) H=some (r,H'):=h
   have:=load_sound V (U a (by simp[Op.operands])) N
   exact this
  case store t a x=>
   have N:fM P t (ρ a) (ρ x) H=some (r,H'):=h
   have:=store_sound V (U a (by simp[Op.operands])) (U x (by simp[Op.operands])) N
   exact this
  case convert s d x=>
   have N:fw P ρ ⟨al,.convert s d x,T,pos,after,Z⟩ s d (ρ x) H=some (r,H'):=h
   exact kW (o:=⟨al,.convert s d x,T,pos,after,Z⟩) V rfl U N
  case makeMap=>cases h
  case makeSlice t l c=>
   have N:ovh (aMake P t (ρ l) (ρ c) H)=some (r,H'):=h
   have:=make_sound V hf (U l (by simp[Op.operands])) (U c (by simp[Op.operands])) N
   exact this
  case slice t x lo hi mx=>
   obtain⟨a1,a2⟩:=eL (μ:=μ) (ρ:=ρ) (ρ':=ρ') (x:=lo) fun y hy=>U y (by subst hy;simp[Op.operands])
   obtain⟨b1,b2⟩:=eL (μ:=μ) (ρ:=ρ) (ρ':=ρ') (x:=hi) fun y hy=>U y (by subst hy;simp[Op.operands])
   obtain⟨_,c2⟩:=eL (μ:=μ) (ρ:=ρ) (ρ':=ρ') (x:=mx) fun y hy=>U y (by subst hy;simp[Op.operands])
   have N:ovl (bj P t (ρ x) (lo.map ρ) (hi.map ρ) (mx.map ρ) H) H=some (r,H'):=h
   have:=slice_sound V (U x (by simp[Op.operands])) a1 a2 b1 b2 c2 N
   exact this
  case lookup=>cases h
  case mapUpdate=>cases h
  case insert=>cases h
  case range=>cases h
  case next=>cases h
  case call c=>
   obtain⟨ag,args,A⟩:=c
   have ad:LRel μ (eG ρ args.toList) (args.map ρ').toList:=by
    rw[jm];have:=iT (μ:=μ) (ops:=args) (ρ:=ρ) (ρ':=ρ') fun x hx=>U x (by simp[Op.operands,Call.operands];exact .inr hx)
    simpa using this
   have h:opCall P ρ ⟨al,.call ⟨ag,args,A⟩,T,pos,after,Z⟩ ⟨ag,args,A⟩ H=some (r,H'):=h
   unfold opCall at h
   cases ag with
   |invoke rv nm=>simp at h
   |value f=>
    simp only at h
    unfold eM at h
    split at h
    ·rename_i n hn;simp only[a00,a04]at h;obtain⟨rfl,rfl⟩:=h;obtain⟨i,b0,rfl,a5,E,hr⟩:=callee_sound (P:=P) (U f (by simp[Op.operands,Call.operands])) ad hn;refine⟨.enter i a5,w,μ,?_,Post.refl V,rfl,hr⟩;have:=E w;simpa only[execOp,resolve] using this
    cases h
   |builtin b=>
    simp only at h
    unfold lH at h
    have an:bD P ρ ⟨al,.call ⟨.builtin b,args,A⟩,T,pos,after,Z⟩ H=some (r,H')->OpOK P μ H w (execOp ρ' ⟨al,.call ⟨.builtin b,args,A⟩,T,pos,after,Z⟩) r H':=by intro hp;obtain⟨rfl,v,v',rfl,E,hr⟩:=dh hp (fun _ _=>by simp) U;exact OpOK.of_value E V hr
    split at h
    ·--len
     unfold bLen at h;split at h
     ·rename_i t x ht hx;obtain⟨x',ao,a4⟩:=one_of ad hx;obtain⟨rfl,v,hv,rfl⟩:=cw h;obtain⟨E,hn⟩:=len_sound (P:=P) (ty:=T) V a4 hv;have aw:A= #[t]:=a1d.1 (by rw[ht]);refine⟨.value v,w,μ,?_,Post.refl V,.atom v hn⟩;simp only[execOp,resolve,Sem.run_bind,Sem.run_pure,Result.andThen_ok,invoke,builtin,ao,aw,E]
     cases h
    ·unfold bAppend at h;split at h
     ·rename_i t1 t2 s x ht hx;obtain⟨s',x',ao,a0,a4⟩:=two_of ad hx;obtain⟨v,hv,rfl⟩:=ovh_inv h;have aw:A= #[t1,t2]:=a1d.1 (by rw[ht]);obtain⟨v',w',μ',E,hp,hr⟩:=append_sound (P:=P) (ty:=T) V hf a0 a4 (by rw[aw];rfl) hv;refine⟨.value v',w',μ',?_,hp,hr⟩;simp only[execOp,resolve,Sem.run_bind,Sem.run_pure,Result.andThen_ok,invoke,builtin,ao,E]
     cases h
    ·unfold bCopy at h;split at h
     ·rename_i d s hx;obtain⟨d',s',ao,bk,a0⟩:=two_of ad hx;obtain⟨v,hv,rfl⟩:=ovh_inv h;obtain⟨v',w',E,hp,hr⟩:=copy_sound (P:=P) (ty:=T) V bk a0 hv;refine⟨.value v',w',μ,?_,hp,hr⟩;simp only[execOp,resolve,Sem.run_bind,Sem.run_pure,Result.andThen_ok,invoke,builtin,ao,E]
     cases h
    ·exact an h
    ·exact an h
    cases h
  all_goals simp[aop]at h
end
end Go.R
namespace Go.R
@[simp] theorem lget_nil(i:Nat):cE .nil i=undef:=rfl
@[simp] theorem lget_lset_same(t:Tr Value)(d:Nat)(v:Value):cE (lset t d v) d=v:=by simp[cE,lset]
theorem lget_lset_ne(t:Tr Value){d k:Nat}(v:Value)(h:d≠k):cE (lset t d v) k=cE t k:=by simp[cE,lset,Tr.get_set_ne _ _ h]
theorem fe(t:Tr Value)(d k:Nat)(v:Value):cE (lset t d v) k=if d=k then v else cE t k:=by
 by_cases h:d=k
 ·subst h;simp
 rw[if_neg h,lget_lset_ne t v h]
def TRel(μ:Emb)(t:Tr Value)(n:Nat)(a:Array Value):Prop:=a.size=n/\∀i,VRel μ (cE t i) (a.getD i undef)
def GRel(μ:Emb)(G:Nat):Prop:= ∀g,g<G->∃l,μ g=some l/\l.c=g/\l.sh=0
section
variable {P:Program} {G:Nat} {μ μ':Emb}
theorem TRel.mono(h: ∀b l,μ b=some l->μ' b=some l){t:Tr Value}{n:Nat}{a:Array Value}(A:TRel μ t n a):TRel μ' t n a:=⟨A.1,fun i=>(A.2 i).mono h⟩
theorem GRel.mono(h: ∀b l,μ b=some l->μ' b=some l)(U:GRel μ G):GRel μ' G:=fun g A=>by obtain⟨l,E,N,T⟩:=U g A;exact⟨l,h _ _ E,N,T⟩
theorem getD_set(a:Array Value)(d i:Nat)(v:Value):(a.setIfInBounds d v).getD i undef=if d=i/\d<a.size then v else a.getD i undef:=by
 simp only[a0T,a1c];by_cases h:d=i
 ·subst h;by_cases A:d<a.size
  ·simp[A]
  simp[A]
 simp[h]
theorem TRel.put{t:Tr Value}{n:Nat}{a:Array Value}(h:TRel μ t n a){d:Nat}(A:d<n){v v':Value}(E:VRel μ v v'):TRel μ (lset t d v) n (a.setIfInBounds d v'):=by
 refine⟨by simp[h.1],fun i=>?_⟩;rw[fe,getD_set];by_cases hi:d=i
 ·rw[if_pos hi,if_pos ⟨hi,by rw[h.1];exact A⟩];exact E
 rw[if_neg hi,if_neg (fun e=>hi e.1)];exact h.2 i
theorem eval_of(U:GRel μ G){tm:Tr Value}{a:Act}{x:Operand}(A:bw G x=true)(h: ∀t,x= .tmp t->VRel μ (cE tm t) (a.tmps.getD t undef)):
  VRel μ (cP tm x) (a.eval x):=by
 cases x with
 |tmp t=>exact h t rfl
 |const v=>exact VRel.refl2 A
 |global g=>
  obtain⟨l,E,N,T⟩:=U g (a03 A)
  have:=VRel.ptr (μ:=μ) g 0 l E
  rw[N,T]at this;exact this
 |func f=>exact .atom _ rfl
theorem yield_eq{ops:Array Oper}{tm:Tr Value}{a:Array Value}{j:Nat}(h: ∀d,(ops[j]?).bind (·.dst)=some d->VRel μ (cE tm d) (a.getD d undef)):
  jN ops tm j=yielded ops a j:=by
 unfold jN yielded
 cases T:(ops[j]?).bind (·.dst) with
 |none=>rfl
 |some d=>
  have A:=h d T
  simp only[a0q]
  simp only[a0T]at A
  cases N:a[d]? with
  |none=>
   rw[N]at A
   simp only[Option.getD_none]at A
   have: ∀b,cE tm d≠ .bool b:=by intro b e;rw[e]at A;have:=A.bool_inv;cases this
   cases E:cE tm d<;>first|rfl|exact absurd E (this _)
  |some x=>
   rw[N]at A
   simp only[a0P]at A
   cases x with
   |bool b=>
    have:cE tm d= .bool b:=by generalize cE tm d=y at A;cases A;rfl
    rw[this]
   |_=>
    have: ∀b,cE tm d≠ .bool b:=by intro b e;rw[e]at A;have:=A.bool_inv;cases this
    cases E:cE tm d<;>first|rfl|exact absurd E (this _)
theorem wanted_eq{ops:Array Oper}{o:Oper}{tm:Tr Value}{a:Array Value}(h: ∀j w,o.guard=some (j,w)->∀d,(ops[j]?).bind (·.dst)=some d->VRel μ (cE tm d) (a.getD d undef)):
  bd ops o tm=Region.wanted o (yielded ops a):=by
 unfold bd Region.wanted
 cases A:o.guard with
 |none=>rfl
 |some p=>
  obtain⟨j,w⟩:=p
  simp only
  rw[yield_eq (h j w A)]
def dI(P:Program)(G:Nat)(cf:cj):Prop:= ∀f args H v H',cf f args H=some (v,H')->WF H->Ext H H'/\
 ∀μ w (cargs:Array Value),LRel μ args cargs.toList->GRel μ G->WRel μ H w->(∀b,H.next<=b->b<H'.next->μ b=none)->
  Calls P f cargs w fun e w'=> ∃μ' v',e= .returned v'/\VRel μ' v v'/\Post μ H w μ' H' w'
noncomputable def dS (P : Program) (cf : cj) (ρ : Operand -> Value) (o : Oper) (H : Heap) : Option (Value × Heap) :=
 match aop P ρ o H with
 |some (.val v,h)=>some (v,h)
 |some (.skip,h)=>some (undef,h)
 |some (.enter f args,h)=>cf f args h
 |none=>none
theorem step_eq(cf:cj)(ops:Array Oper)(o:Oper)(s:St):step P G cf ops o s=
  bif bd ops o s.tmps then
   bif o.op.operands.toList.all (bw G) then
    match dS P cf (cP s.tmps) o s.heap with
    |some (v,h)=>{s with heap:=h}.put o.dst v
    |none=>none
   else none
  else s.put o.dst undef:=by
 unfold step dS
 cases bd ops o s.tmps with
 |false=>rfl
 |true=>
  cases o.op.operands.toList.all (bw G) with
  |false=>rfl
  |true=>
   simp only[cond_true]
   cases aop P (cP s.tmps) o s.heap with
   |none=>rfl
   |some p=>
    obtain⟨r,h⟩:=p
    cases r with
    |val v=>rfl
    |skip=>rfl
    |enter f args=>
     simp only
     cases cf f args h with
     |none=>rfl
     |some q=>rfl
theorem fJ{s E:St}{A:Option Tmp}{v:Value}(h:s.put A v=some E):
  E.size=s.size/\E.heap=s.heap/\((A=none/\E.tmps=s.tmps)\/∃d,A=some d/\d<s.size/\E.tmps=lset s.tmps d v):=by
 unfold St.put at h
 split at h
 ·rename_i d;cases N:Nat.ble (d+1) s.size with
  |false=>rw[N]at h;cases h
  |true=>
   rw[N]at h;simp only[cond_true,a00]at h;subst h
   exact⟨rfl,rfl,.inr ⟨d,rfl,a03 N,rfl⟩⟩
 injection h with h;subst h;exact⟨rfl,rfl,.inl ⟨rfl,rfl⟩⟩
theorem ke{cf:cj}(U:dI P G cf){ρ:Operand->Value}{o:Oper}{H H':Heap}{v:Value}(E:WF H)(h:dS P cf ρ o H=some (v,H')):Ext H H':=by
 unfold dS at h;split at h
 ·rename_i u N A;simp only[a00,a04]at h;rw[←h.2];exact lA E A
 ·rename_i N A;simp only[a00,a04]at h;rw[←h.2];exact lA E A
 ·rename_i f args N A;have T:=lA E A;exact T.trans (U f args N v H' h (E.ext T)).1
 cases h
theorem ij{cf:cj}(a0:dI P G cf){ρ:Operand->Value}{o:Oper}{a:Act}{H H':Heap}{v:Value}{w:World}(an:WF H)(hρ: ∀x∈o.op.operands,VRel μ (ρ x) (a.eval x))
  (hG:GRel μ G) (hw:WRel μ H w) (hf: ∀b,H.next<=b->b<H'.next->μ b=none) (h:dS P cf ρ o H=some (v,H')) {K:Act->World->Prop} {Q:Exit->Act->World->Prop}
  (hK: ∀μ' w' v',Post μ H w μ' H' w'->VRel μ' v v'->K (a.put o.dst v') w'):o.wp P a w K Q:=by
 unfold dS at h
 unfold Oper.wp
 split at h
 ·rename_i u h1 T;simp only[a00,a04]at h;obtain⟨rfl,rfl⟩:=h;obtain⟨n,w1,U,A,E,N⟩:=gG hρ hw hf T;rw[A];cases n<;>first|exact hK U w1 _ E N|exact N.elim
 ·rename_i h1 T;simp only[a00,a04]at h;obtain⟨rfl,rfl⟩:=h;obtain⟨n,w1,U,A,E,N⟩:=gG hρ hw hf T;rw[A];cases n<;>first|exact hK U w1 _ E VRel.undef|exact N.elim
 ·rename_i f args h1 T;have e1:=lA an T;obtain⟨e2,ai⟩:=a0 f args h1 v H' h (an.ext e1);obtain⟨n,w1,U,A,E,N⟩:=gG hρ hw (fun b V Z=>hf b V (a0V Z e2.next)) T;rw[A];cases n with
  |enter f' cargs=>
   obtain⟨rfl,ag⟩:=N
   rw[Oper.upon_enter]
   refine(ai U w1 cargs ag (hG.mono E.ext) E.wrel (fun b V Z=>?_)).mono ?_
   ·cases hb:U b with
    |none=>rfl
    |some l=>
     rcases E.dom b l hb with hb0|⟨_,hb3⟩
     ·rw[hf b (a0d e1.next V) Z]at hb0;cases hb0
     omega
   rintro e w2 ⟨μ2,v',rfl,hv,hp2⟩
   exact hK μ2 w2 v' (E.trans hp2 e1.next e2.next) hv
  |_=>exact N.elim
 cases h
theorem iK{cf:cj}(E:dI P G cf){ops:Array Oper}{o:Oper}{s T:St}(V:WF s.heap)(h:step P G cf ops o s=some T):Ext s.heap T.heap:=by
 rw[step_eq]at h;cases N:bd ops o s.tmps with
 |false=>rw[N]at h;rw[(fJ h).2.1];exact Ext.refl _
 |true=>
  rw[N]at h
  cases A:o.op.operands.toList.all (bw G) with
  |false=>rw[A]at h;cases h
  |true=>
   rw[A]at h
   simp only[cond_true]at h
   split at h
   ·rename_i v Z U;rw[(fJ h).2.1];exact ke E V U
   cases h
theorem eu(a:Act)(A:Option Tmp)(v:Value):(a.put A v).defers=a.defers:=by cases A<;>rfl
theorem put_rel{s N:St}{A:Option Tmp}{v v':Value}{a:Act}(h:s.put A v=some N)(U:TRel μ s.tmps s.size a.tmps)(Z:VRel μ v v'):
  TRel μ N.tmps N.size (a.put A v').tmps:=by
 obtain⟨T,_,⟨rfl,E⟩|⟨d,rfl,V,E⟩⟩:=fJ h
 ·rw[T,E];exact U
 rw[T,E];exact U.put V Z
theorem step_sound{cf:cj}(ag:dI P G cf){ops:Array Oper}{i:Nat}{o:Oper}(ho:ops[i]?=some o){s N:St}{a:Act}{w:World}(ar:WF s.heap)(T:TRel μ s.tmps s.size a.tmps)
  (Z:GRel μ G) (hw:WRel μ s.heap w) (hf: ∀b,s.heap.next<=b->b<N.heap.next->μ b=none) (h:step P G cf ops o s=some N) {K:Act->World->Prop} {Q:Exit->Act->World->Prop}
  (hK: ∀μ' w' V,Post μ s.heap w μ' N.heap w'->TRel μ' N.tmps N.size V.tmps->V.defers=a.defers->K V w'):wpOp P ops Q i K a w:=by
 unfold wpOp
 rw[ho]
 simp only
 have U:bd ops o s.tmps=Region.wanted o (yielded ops a.tmps):=wanted_eq (μ:=μ) fun _ _ _ d _=>T.2 d
 rw[step_eq,U]at h
 cases hq:Region.wanted o (yielded ops a.tmps) with
 |false=>
  rw[hq]at h
  simp only[cond_false]at h
  simp only[a0J,if_false]
  have A:=(fJ h).2.1
  exact hK μ w _ (by rw[A];exact Post.refl hw) (put_rel h T VRel.undef) (eu _ _ _)
 |true=>
  rw[hq]at h
  simp only[if_true]
  left
  cases E:o.op.operands.toList.all (bw G) with
  |false=>rw[E]at h;cases h
  |true=>
   rw[E]at h
   simp only[cond_true]at h
   split at h
   ·rename_i v h1 he;have A:=(fJ h).2.1;simp only at A;refine ij ag ar (fun x hx=>eval_of Z (a0v.1 E x (by simpa using hx)) fun t _=>T.2 t) Z hw (by rw[←A];exact hf) he ?_;intro μ' w' v' hp hv;have an:TRel μ' s.tmps s.size a.tmps:=T.mono hp.ext;exact hK μ' w' _ (by rw[A];exact hp) (put_rel (s:={s with heap:=h1}) h an hv) (eu _ _ _)
   cases h
theorem gP{cf:cj}(E:dI P G cf){ops:Array Oper}: ∀(l:List Oper) (s A:St),WF s.heap->eU P G cf ops l s=some A->Ext s.heap A.heap
 | [],s,A,_,h=>by rw[gO]at h;injection h with h;subst h;exact Ext.refl _
 |o::os,s,A,hw,h=>by
  rw[bU]at h;split at h
  ·rename_i U T;have N:=iK E hw T;exact N.trans (gP E os U A (hw.ext N) h)
  cases h
theorem hZ{cf:cj}(E:dI P G cf){ops:Array Oper}{Q:Exit->Act->World->Prop}: ∀(l:List Oper) (k:Nat) (s A:St),ops.toList.drop k=l->eU P G cf ops l s=some A->
  ∀(μ:Emb) (a:Act) (w:World),WF s.heap->TRel μ s.tmps s.size a.tmps->GRel μ G->WRel μ s.heap w->(∀b,s.heap.next<=b->b<A.heap.next->μ b=none)->
  (∀μ' w' a',Post μ s.heap w μ' A.heap w'->TRel μ' A.tmps A.size a'.tmps->a'.defers=a.defers->Q .normal a' w')->wpOps P ops Q (List.range' k l.length) a w
 | [],k,s,A,_,h,μ,a,w,hwf,ht,hG,hw,hf,hQ=>by rw[gO]at h;injection h with h;subst h;simp only[a0e,List.range'_zero,wpOps];exact hQ μ w a (Post.refl hw) ht rfl
 |o::os,k,s,A,hd,h,μ,a,w,hwf,ht,hG,hw,hf,hQ=>by
  rw[bU]at h;split at h
  ·rename_i s1 h1;have U:=iK E hwf h1;have e2:=gP E os s1 A (hwf.ext U) h;have hk:k<ops.toList.length:=by
    rcases a0i k ops.toList.length with hl|hl
    ·exact hl
    rw[a1U hl]at hd;cases hd
   have Z:=a0R hk;rw[hd]at Z;injection Z with h2 h3;have ho:ops[k]?=some o:=by
    have:ops.toList[k]?=some o:=by rw[a06 hk,←h2]
    simpa using this
   simp only[a09,List.range'_succ];rw[wpOps_cons];refine step_sound E ho hwf ht hG hw (fun b N T=>hf b N (a0V T e2.next)) h1 ?_;intro μ1 w1 a1 V av al;refine hZ E os (k+1) s1 A h3.symm h μ1 a1 w1 (hwf.ext U) av (hG.mono V.ext) V.wrel (fun b N T=>?_) ?_
   ·cases hb:μ1 b with
    |none=>rfl
    |some l=>
     rcases V.dom b l hb with hb0|⟨_,hb3⟩
     ·rw[hf b (a0d U.next N) T]at hb0;cases hb0
     omega
   intro μ2 w2 a2 ar aw an;exact hQ μ2 w2 a2 (V.trans ar U.next e2.next) aw (an.trans al)
  cases h
end
end Go.R
set_option linter.unusedVariables false
set_option linter.unusedSimpArgs false
namespace Go.R
def jL(l:List Nat)(o:Oper):Nat:=o.after.toList.foldl (fun s e=>bif Region.binds .any e then s|||2^e.on|||l.getD e.on 0 else s) 0
theorem ga: ∀(os:List Oper) (A:List Nat),∃t,ancs os A=A++t/\t.length=os.length
 | [],A=>⟨[],by simp[ancs],rfl⟩
 |o::os,A=>by obtain⟨t,h,E⟩:=ga os (A++[jL A o]);refine⟨jL A o::t,?_,by simp[E]⟩;show ancs os (A++[jL A o])=_;rw[h];simp
theorem ancs_at: ∀(os:List Oper) (A:List Nat) (k:Nat) (o:Oper),os[k]?=some o->
  (ancs os A).getD (A.length+k) 0=jL ((ancs os A).take (A.length+k)) o
 | [],A,k,o,h=>by simp at h
 |x::os,A,0,o,h=>by
  simp at h;subst h;obtain⟨t,h,_⟩:=ga os (A++[jL A x]);have e:ancs (x::os) A=A++([jL A x]++t):=by show ancs os (A++[jL A x])=_;rw[h];simp
  rw[e];simp
 |x::os,A,k+1,o,h=>by have E:=ancs_at os (A++[jL A x]) k o (by simpa using h);have e:ancs (x::os) A=ancs os (A++[jL A x]):=rfl;rw[e];simp only[a05,a1Z]at E;rw[show A.length+(k+1)=A.length+1+k by omega];exact E
theorem fold_bit(l:List Nat)(j:Nat): ∀(es:List Edge) (s:Nat),(es.foldl (fun s e=>bif Region.binds .any e then s|||2^e.on|||l.getD e.on 0 else s) s).testBit j=true->
  s.testBit j=true\/∃e∈es,Region.binds .any e=true/\(e.on=j\/(l.getD e.on 0).testBit j=true)
 | [],s,h=> .inl h
 |e::es,s,h=>by
  simp only[List.foldl_cons]at h;rcases fold_bit l j es _ h with h1|⟨e',he,h2⟩
  ·cases A:Region.binds .any e with
   |false=>rw[A]at h1;exact .inl h1
   |true=>
    rw[A]at h1
    simp only[cond_true,Nat.testBit_or,a0M]at h1
    rcases h1 with(h1|h1)|h1
    ·exact .inl h1
    ·rw[Nat.testBit_two_pow]at h1;exact .inr ⟨e,by simp,A,.inl (by simpa using h1)⟩
    exact .inr ⟨e,by simp,A,.inr h1⟩
  exact .inr ⟨e',by simp[he],h2⟩
theorem ordered_edge{ops:Array Oper}{j k:Nat}(h:bo (ce ops) j k=true):
  ∃o,ops[k]?=some o/\∃e∈o.after.toList,Region.binds .any e=true/\(e.on=j\/(e.on<k/\bo (ce ops) j e.on=true)):=by
 unfold bo at h
 have N:k<ops.toList.length:=by
  obtain⟨t,T,U⟩:=ga ops.toList [];rcases a0i k ops.toList.length with hlt|hge
  ·exact hlt
  have:(ce ops).getD k 0=0:=by unfold ce;rw[T,a11,a02,a0C (by omega)];rfl
  rw[this]at h;simp at h
 have E:ops.toList[k]?=some ops.toList[k]:=a06 N
 have A:=ancs_at ops.toList [] k _ E
 simp only[a0e,a1x]at A
 change (ce ops).getD k 0=jL ((ce ops).take k) _ at A
 rw[A]at h
 rcases fold_bit _ j _ 0 h with h1|⟨e,he,hb,h2⟩
 ·simp at h1
 refine⟨ops.toList[k],by rw[←Array.getElem?_toList];exact E,e,he,hb,?_⟩
 rcases h2 with h2|h2
 ·exact .inl h2
 right
 rcases a0i e.on k with hlt|hge
 ·refine⟨hlt,?_⟩;unfold bo;rw[a02,a0x,if_pos hlt,←a02]at h2;exact h2
 rw[a02,a0x,if_neg (by omega)]at h2
 simp at h2
def DC(ops:Array Oper)(S:Nat->Bool):Prop:= ∀(k:Nat) o,ops[k]?=some o->S k=true->∀e∈o.after.toList,Region.binds .any e=true->S e.on=true
theorem DC.anc{ops:Array Oper}{S:Nat->Bool}(h:DC ops S){j:Nat}: ∀(k:Nat),S k=true->bo (ce ops) j k=true->S j=true:=by
 intro k;induction k using Nat.strongRecOn with
 |_ k ih=>
  intro U V
  obtain⟨o,A,e,T,N,E⟩:=ordered_edge V
  have hs:=h k o A U e T N
  rcases E with rfl|⟨hlt,h2⟩
  ·exact hs
  exact ih e.on hlt hs h2
structure RegFacts(ops:Array Oper):Prop where
 back: ∀(j:Nat) o,ops[j]?=some o->∀e∈o.after.toList,Region.binds .any e=true->e.on<j
 pair: ∀(i j:Nat) x o,i<j->ops[i]?=some x->ops[j]?=some o->bo (ce ops) i j=true\/x.apart ops o=true
theorem regOK_facts{ops:Array Oper}(h:aP ops=true):RegFacts ops:=by
 unfold aP at h;simp only[a0v,a1W]at h;refine⟨fun j o E e V U=>?_,fun i j x o T Z E=>?_⟩
 ·have N:j<ops.size:=(a0z.1 E).1;have:=h j N;rw[E]at this;simp only[a0f,a0v]at this;have A:=this.1.1 e V;rw[U]at A;simp only[a1y,Bool.false_or]at A;exact a03 A
 have N:j<ops.size:=(a0z.1 E).1;have:=h j N;rw[E]at this;simp only[a0f,a0v,a1W]at this;have A:=this.2 i T;rw[Z]at A;simpa using A
section
variable (st:Nat->St) (vl:Nat->Value) (ops:Array Oper)
def chg(k b:Nat):Prop:=(st (k+1)).heap.get b≠(st k).heap.get b
open Classical in
noncomputable def iR (S : Nat -> Bool) : Nat -> Nat -> Option AObj
 |0,b=>(st 0).heap.get b
 |k+1,b=>if S k=true/\chg st k b then(st (k+1)).heap.get b else iR S k b
def iC(k:Nat):Option Tmp:=(ops[k]?).bind (·.dst)
open Classical in
noncomputable def tv (S : Nat -> Bool) : Nat -> Nat -> Value
 |0,t=>cE (st 0).tmps t
 |k+1,t=>if S k=true/\iC ops k=some t then vl k else tv S k t
theorem jz{S:Nat->Bool}{b i:Nat}: ∀m,(∀k,k<m->chg st k b->(S k=true↔k<i))->iR st S m b=(st (min m i)).heap.get b
 |0,_=>by simp[iR]
 |m+1,h=>by
  have A:=jz m fun k N=>h k (by omega)
  unfold iR;by_cases E:m<i
  ·rw[show min (m+1) i=m+1 by omega];rw[show min m i=m by omega]at A;by_cases hc:chg st m b
   ·rw[if_pos ⟨(h m (by omega) hc).2 E,hc⟩]
   rw[if_neg (fun e=>hc e.2),A];unfold chg at hc;exact(Classical.not_not.1 hc).symm
  rw[show min (m+1) i=i by omega];rw[show min m i=i by omega]at A;rw[if_neg (fun e=>E ((h m (by omega) e.2).1 e.1)),A]
theorem kj{S S':Nat->Bool}{b:Nat}: ∀m,(∀k,k<m->chg st k b->S k=S' k)->iR st S m b=iR st S' m b
 |0,_=>rfl
 |m+1,h=>by
  have A:=kj m fun k E=>h k (by omega)
  unfold iR;by_cases hc:chg st m b
  ·rw[h m (by omega) hc,A]
  rw[if_neg (fun e=>hc e.2),if_neg (fun e=>hc e.2),A]
theorem tv_eq{S:Nat->Bool}{t i:Nat}(E: ∀k,cE (st (k+1)).tmps t=if iC ops k=some t then vl k else cE (st k).tmps t):
  ∀m,(∀k,k<m->iC ops k=some t->(S k=true↔k<i))->tv st vl ops S m t=cE (st (min m i)).tmps t
 |0,_=>by simp[tv]
 |m+1,h=>by
  have A:=tv_eq E m fun k T=>h k (by omega)
  unfold tv;by_cases N:m<i
  ·rw[show min (m+1) i=m+1 by omega];rw[show min m i=m by omega]at A;by_cases hc:iC ops m=some t
   ·rw[if_pos ⟨(h m (by omega) hc).2 N,hc⟩,E,if_pos hc]
   rw[if_neg (fun e=>hc e.2),A,E,if_neg hc]
  rw[show min (m+1) i=i by omega];rw[show min m i=i by omega]at A;rw[if_neg (fun e=>N ((h m (by omega) e.2).1 e.1)),A]
theorem tv_congr{S S':Nat->Bool}{t:Nat}: ∀m,(∀k,k<m->iC ops k=some t->S k=S' k)->tv st vl ops S m t=tv st vl ops S' m t
 |0,_=>rfl
 |m+1,h=>by
  have A:=tv_congr m fun k E=>h k (by omega)
  unfold tv;by_cases hc:iC ops m=some t
  ·rw[h m (by omega) hc,A]
  rw[if_neg (fun e=>hc e.2),if_neg (fun e=>hc e.2),A]
end
structure Inv(ops:Array Oper)(st:Nat->St)(vl:Nat->Value)(μ0:Emb)(w0:World)(d0:List Deferred)(S:Nat->Bool)(μ:Emb)(a:Act)(w:World):Prop where
 dc:DC ops S
 dom: ∀b l,μ b=some l->b<(st 0).heap.next\/(∃k,k<ops.size/\S k=true/\(st k).heap.next<=b/\b<(st (k+1)).heap.next)\/(st ops.size).heap.next<=b
 obj: ∀b l o,μ b=some l->iR st S ops.size b=some o->ObjRel μ w l o
 inj: ∀b1 b2 l1 l2 o1 o2,b1≠b2->μ b1=some l1->μ b2=some l2->iR st S ops.size b1=some o1->iR st S ops.size b2=some o2->o1.rw=true->o2.live=true->l1.c≠l2.c
 size:a.tmps.size=(st 0).size
 tm: ∀t,VRel μ (tv st vl ops S ops.size t) (a.tmps.getD t undef)
 defers:a.defers=d0
 ext0: ∀b l,μ0 b=some l->μ b=some l
 dom0: ∀b l,μ b=some l->μ0 b=some l\/((st 0).heap.next<=b/\b<(st ops.size).heap.next)
 grow0:w0.heap.size<=w.heap.size
 os0:w.os=w0.os
 tape0:w.tape=w0.tape
 out0:w.output=w0.output
 keep0: ∀c,c<w0.heap.size->(∀b l o,μ0 b=some l->(st 0).heap.get b=some o->o.rw=true->l.c≠c)->w.heap[c]?=w0.heap[c]?
 img0: ∀b l o,μ b=some l->iR st S ops.size b=some o->o.live=true->
  w0.heap.size<=l.c\/∃b0 l0 o0,μ0 b0=some l0/\(st 0).heap.get b0=some o0/\o0.live=true/\(o.rw=true->o0.rw=true)/\l0.c=l.c
def iw(S:Nat->Bool)(i:Nat):Nat->Bool:=fun k=>Nat.beq k i||S k
theorem fj(S:Nat->Bool)(i:Nat):iw S i i=true:=by simp[iw]
theorem fk(S:Nat->Bool){i k:Nat}(h:k≠i):iw S i k=S k:=by
 have:Nat.beq k i=false:=by
  cases A:Nat.beq k i with
  |false=>rfl
  |true=>exact absurd (a08 A) h
 simp[iw,this]
theorem Inv.next{ops:Array Oper}{st:Nat->St}{vl:Nat->Value}{μ0 μ μ':Emb}{w0 w w':World}{d0:List Deferred}{S:Nat->Bool}{a:Act}{i:Nat}{H Hn:Heap}{o:Oper}{v':Value}
  (I:Inv ops st vl μ0 w0 d0 S μ a w) (hi:i<ops.size) (ho:ops[i]?=some o) (N:Post μ H w μ' Hn w') (hv:VRel μ' (vl i) v') (a3: ∀k,(st k).heap.next<=(st (k+1)).heap.next)
  (c6:(st i).heap.next<=H.next) (c7:Hn.next<=(st (i+1)).heap.next)
  (c1: ∀b l x,μ b=some l->H.get b=some x->iR st S ops.size b=some x)
  (c2: ∀b l x,μ' b=some l->Hn.get b=some x->iR st (iw S i) ops.size b=some x)
  (c3: ∀b l x,μ' b=some l->Hn.get b=none->iR st (iw S i) ops.size b=some x->μ b=some l/\H.get b=none/\iR st S ops.size b=some x)
  (b9:DC ops (iw S i)) (cc: ∀d,o.dst=some d->d<(st 0).size)
  (ck: ∀t,o.dst=some t->tv st vl ops (iw S i) ops.size t=vl i) (b4: ∀t,o.dst≠some t->tv st vl ops (iw S i) ops.size t=tv st vl ops S ops.size t):
  Inv ops st vl μ0 w0 d0 (iw S i) μ' (a.put o.dst v') w':=by
 have bk: ∀k,(st 0).heap.next<=(st k).heap.next:=by
  intro k;induction k with
  |zero=>exact a0a _
  |succ k ih=>exact a0d ih (a3 k)
 have monoL: ∀j k,j<=k->(st j).heap.next<=(st k).heap.next:=by
  intro j k h;induction h with
  |refl=>exact a0a _
  |step _ ih=>exact a0d ih (a3 _)
 have co:=monoL (i+1) ops.size hi
 have b7: ∀b l x,μ b=some l->H.get b=none->iR st S ops.size b=some x->x.live=true->w'.heap[l.c]?=w.heap[l.c]?:=by
  intro b l x A hh hc al;refine N.keep l.c ((I.obj b l x A hc).lt al) fun U l2 o2 V a9 an=>?_
  exact I.inj U b l2 l o2 x (fun e=>by subst e;rw[hh]at a9;cases a9) V A (c1 U l2 o2 V a9) hc an al
 refine⟨b9,fun b l A=>?_,fun b l x A hc=>?_,fun b1 U l1 l2 o1 o2 bz a1 V av T ao an=>?_,?_,fun t=>?_,?_,fun b l A=>N.ext b l (I.ext0 b l A),fun b l A=>?_,a0d I.grow0 N.grow,
  N.os.trans I.os0,N.tape.trans I.tape0,N.out.trans I.out0,fun c hc a8=>?_,fun b l x A hc al=>?_⟩
 ·rcases N.dom b l A with E|⟨E,h2⟩
  ·rcases I.dom b l E with h2|⟨k,hk,hs,Z,h4⟩|h2
   ·exact .inl h2
   ·refine .inr (.inl ⟨k,hk,?_,Z,h4⟩);unfold iw;rw[hs];simp
   exact .inr (.inr h2)
  exact .inr (.inl ⟨i,hi,fj S i,by omega,by omega⟩)
 ·cases hg:Hn.get b with
  |some y=>
   have:=c2 b l y A hg
   rw[this]at hc;injection hc with hc;subst hc
   exact N.wrel.obj b l y A hg
  |none=>
   obtain⟨E,h2,Z⟩:=c3 b l x A hg hc
   exact(I.obj b l x E Z).keep N.ext N.grow (fun al=>b7 b l x E h2 Z al)
 ·--no two blocks at one place
  cases a2:Hn.get b1 with
  |some y1=>
   have e1:=c2 b1 l1 y1 a1 a2
   rw[e1]at av;injection av with av;subst av
   cases ai:Hn.get U with
   |some y2=>
    have e2:=c2 U l2 y2 V ai
    rw[e2]at T;injection T with T;subst T
    exact N.wrel.inj b1 U l1 l2 y1 y2 bz a1 V a2 ai ao an
   |none=>
    obtain⟨E,h2,Z⟩:=c3 U l2 o2 V ai T
    have ch:=(I.obj U l2 o2 E Z).lt an
    rcases N.img b1 l1 y1 a1 a2 (fD ao) with hh|⟨b0,l0,o0,g1,g2,g3,g4,g5⟩
    ·omega
    rw[←g5]
    exact I.inj b0 U l0 l2 o0 o2 (fun e=>by subst e;rw[h2]at g2;cases g2) g1 E (c1 b0 l0 o0 g1 g2) Z (g4 ao) an
  |none=>
   obtain⟨E,h2,Z⟩:=c3 b1 l1 o1 a1 a2 av
   cases ai:Hn.get U with
   |some y2=>
    have e2:=c2 U l2 y2 V ai
    rw[e2]at T;injection T with T;subst T
    have ch:=(I.obj b1 l1 o1 E Z).lt (fD ao)
    rcases N.img U l2 y2 V ai an with hh|⟨b0,l0,o0,g1,g2,g3,g4,g5⟩
    ·omega
    rw[←g5]
    exact I.inj b1 b0 l1 l0 o1 o0 (fun e=>by subst e;rw[h2]at g2;cases g2) E g1 Z (c1 b0 l0 o0 g1 g2) ao g3
   |none=>
    obtain⟨k1,k2,k3⟩:=c3 U l2 o2 V ai T
    exact I.inj b1 U l1 l2 o1 o2 bz E k1 Z k3 ao an
 ·cases hd:o.dst with
  |none=>exact I.size
  |some d=>simp only[Act.put,Array.size_setIfInBounds];exact I.size
 ·have bb:=(I.tm t).mono N.ext;cases hd:o.dst with
  |none=>rw[b4 t (by rw[hd];simp)];exact bb
  |some d=>
   simp only[Act.put,getD_set]
   by_cases a7:d=t
   ·subst a7;rw[ck d hd,if_pos ⟨rfl,by rw[I.size];exact cc d hd⟩];exact hv
   rw[b4 t (by rw[hd];simpa using a7),if_neg (fun e=>a7 e.1)];exact bb
 ·rw[eu];exact I.defers
 ·rcases N.dom b l A with E|⟨E,h2⟩
  ·exact I.dom0 b l E
  exact .inr ⟨by have:=bk i;omega,by omega⟩
 ·rw[N.keep c (a0V hc I.grow0) ?_,I.keep0 c hc a8];intro b l x A hx hr he;rcases I.img0 b l x A (c1 b l x A hx) (fD hr) with hh|⟨b0,l0,o0,g1,g2,g3,g4,g5⟩
  ·omega
  exact a8 b0 l0 o0 g1 g2 (g4 hr) (g5.trans he)
 cases hg:Hn.get b with
 |some y=>
  have:=c2 b l y A hg
  rw[this]at hc;injection hc with hc;subst hc
  rcases N.img b l y A hg al with hh|⟨b0,l0,o0,g1,g2,g3,g4,g5⟩
  ·exact .inl (a0d I.grow0 hh)
  rcases I.img0 b0 l0 o0 g1 (c1 b0 l0 o0 g1 g2) g3 with hh|⟨b3,l3,o3,e1,e2,e3,e4,e5⟩
  ·exact .inl (g5▸hh)
  exact .inr ⟨b3,l3,o3,e1,e2,e3,fun hx=>e4 (g4 hx),e5.trans g5⟩
 |none=>
  obtain⟨E,h2,Z⟩:=c3 b l x A hg hc
  exact I.img0 b l x E Z al
end Go.R
namespace Go.R
section
variable {P:Program} {G:Nat}
def lI(ρ:Operand->Value)(o:Oper)(b:Nat):Prop:=
 (∃t a off,o.op= .load t a/\ρ a= .pointer (some ⟨b,off,none⟩))\/
 (∃t x lo hi A off n k,o.op= .slice t x lo hi A/\ρ x= .slice (some ⟨b,off,none⟩) n k)
def NilCut(ρ:Operand->Value)(o:Oper):Prop:=(∃t x lo hi A n k,o.op= .slice t x lo hi A/\ρ x= .slice none n k)\/
 (∃xs E x,o.op= .call ⟨.builtin .len,xs,E⟩/\eG ρ xs.toList=[x]/\((∃a n k,x= .slice a n k)\/∃s,x= .string s))
structure OpFact(P:Program)(G:Nat)(cf:cj)(ops:Array Oper)(o:Oper)(s s':St)(v:Value)(f:Inf):Prop where
 size:s'.size=s.size
 tm: ∀t,cE s'.tmps t=if o.dst=some t then v else cE s.tmps t
 dlt: ∀d,o.dst=some d->d<s.size
 next:s.heap.next<=s'.heap.next
 far: ∀b,s'.heap.next<=b->s'.heap.get b=s.heap.get b
 how:(bd ops o s.tmps=false/\v=undef/\f= .v/\s'.heap.next=s.heap.next/\∀b,s'.heap.get b=s.heap.get b)\/
  (bd ops o s.tmps=true/\o.op.operands.toList.all (bw G)=true/\∃H1 H2,(∀b,H1.get b=s.heap.get b)/\H1.next=s.heap.next/\
   dS P cf (cP s.tmps) o H1=some (v,H2)/\(∀b,s'.heap.get b=H2.get b)/\s'.heap.next=H2.next/\
   ((f= .v/\(aX o.op=true\/NilCut (cP s.tmps) o))\/(f= .a s.heap.next/\dL o.op=true)\/
    (∃b,f= .l b/\lI (cP s.tmps) o b)\/
    (∃w,f= .x w/\(∀b,b∈w->b<s.heap.next)/\∀b,b<s.heap.next->b∉w->s'.heap.get b=s.heap.get b)))
theorem fc{n b:Nat}: ∀{l:List Nat},b∈cV n l↔b∈l/\b<n
 | []=>by simp[cV]
 |c::l=>by
  unfold cV;cases N:Nat.ble n c with
  |true=>
   have:=a03 N
   simp only[cond_true,a0s]
   rw[fc (l:=l)]
   constructor
   ·rintro⟨A,E⟩;exact⟨.inr A,E⟩
   rintro⟨rfl|A,E⟩
   ·omega
   exact⟨A,E⟩
  |false=>
   have U: ¬n<=c:=fun T=>by rw[a0u T]at N;cases N
   simp only[cond_false,a0s]
   rw[fc (l:=l)]
   constructor
   ·rintro(rfl|⟨A,E⟩)
    ·exact⟨.inl rfl,by omega⟩
    exact⟨.inr A,E⟩
   rintro⟨rfl|A,E⟩
   ·exact .inl rfl
   exact .inr ⟨A,E⟩
theorem loadV_spot{P:Program}{H:Heap}{t:TypeId}{p:Addr}{v:Value}(h:H.loadV P t p=some v):p.spot=none:=by
 obtain⟨b,o,A⟩:=p;cases A with
 |none=>rfl
 |some _=>
  unfold Heap.loadV at h
  split at h
  ·split at h
   ·simp[Heap.loadN]at h
   cases h
  ·simp[Heap.cellAt]at h
  cases h
theorem loadV_congr{H H':Heap}{t:TypeId}{b off:Nat}(h:H.get b=H'.get b):H.loadV P t ⟨b,off,none⟩=H'.loadV P t ⟨b,off,none⟩:=by unfold Heap.loadV Heap.loadN Heap.cellAt;simp only[h]
theorem loadV_some{H:Heap}{t:TypeId}{b off:Nat}{v:Value}(h:H.loadV P t ⟨b,off,none⟩=some v): ∃x,H.get b=some x:=by
 cases A:H.get b with
 |some x=>exact⟨x,rfl⟩
 |none=>
  unfold Heap.loadV Heap.loadN Heap.cellAt at h
  simp only[A]at h
  split at h
  ·split at h<;>cases h
  ·cases h
  cases h
theorem aSlice_spot{P:Program}{H:Heap}{t:TypeId}{p:Addr}{n k:Nat}{lo hi A:Option Value}{v:Value}(h:bj P t (.slice (some p) n k) lo hi A H=some v):p.spot=none:=by
 obtain⟨b,o,E⟩:=p;cases E with
 |none=>rfl
 |some _=>
  unfold bj at h
  split at h
  ·cases h
  split at h<;>simp_all
theorem aSlice_get{P:Program}{H:Heap}{t:TypeId}{b off n k:Nat}{lo hi N:Option Value}{v:Value}(h:bj P t (.slice (some ⟨b,off,none⟩) n k) lo hi N H=some v):
  ∃A,H.get b=some A/\∀E:Heap,E.get b=some A->bj P t (.slice (some ⟨b,off,none⟩) n k) lo hi N E=some v:=by
 cases U:H.get b with
 |some A=>
  refine⟨A,rfl,fun E T=>?_⟩
  rw[←h]
  unfold bj
  cases N with
  |some _=>rfl
  |none=>
   cases P.underlying t with
   |none=>rfl
   |some d=>cases d<;>first|rfl|simp only[T,U]
 |none=>
  exfalso
  unfold bj at h
  split at h
  ·cases h
  split at h<;>simp_all
theorem d5{P:Program}{ρ:Operand->Value}{o:Oper}{b:Nat}{H H':Heap}{r:AN}(hr:lI ρ o b)(h:aop P ρ o H=some (r,H')):
  ∃v E,r= .val v/\H'=H/\H.get b=some E/\∀T:Heap,T.get b=some E->aop P ρ o T=some (.val v,T):=by
 rcases hr with⟨t,a,off,U,ha⟩|⟨t,x,lo,hi,mx,off,n,k,U,hx⟩
 ·have A: ∀H,aop P ρ o H=dR P t (ρ a) H:=fun H=>by unfold aop;rw[U]
  rw[A,ha]at h;unfold dR at h;simp only at h;obtain⟨rfl,v,V,rfl⟩:=cw h;obtain⟨E,N⟩:=loadV_some V;refine⟨v,E,rfl,rfl,N,fun T Z=>?_⟩;rw[A,ha];unfold dR;simp only;rw[loadV_congr (H':=H') (by rw[Z,N]),V];rfl
 have A: ∀H,aop P ρ o H=ovl (bj P t (ρ x) (lo.map ρ) (hi.map ρ) (mx.map ρ) H) H:=fun H=>by unfold aop;rw[U]
 rw[A,hx]at h
 obtain⟨rfl,v,V,rfl⟩:=cw h
 obtain⟨E,N,ad⟩:=aSlice_get V
 refine⟨v,E,rfl,rfl,N,fun T Z=>?_⟩
 rw[A,hx,ad T Z]
 rfl
theorem reads_sound{P:Program}{μ:Emb}{ρ ρ':Operand->Value}{o:Oper}{b:Nat}{H:Heap}{w:World}{v:Value}(hr:lI ρ o b)(Z: ∀x∈o.op.operands,VRel μ (ρ x) (ρ' x))(hw:WRel μ H w)
  (h:aop P ρ o H=some (.val v,H)): ∃v',(execOp ρ' o).run P w= .ok (.value v') w/\VRel μ v v':=by
 rcases hr with⟨t,a,off,A,ha⟩|⟨t,x,lo,hi,mx,off,n,k,A,hx⟩
 ·have N: ∀H,aop P ρ o H=dR P t (ρ a) H:=fun H=>by unfold aop;rw[A]
  rw[N,ha]at h;unfold dR at h;simp only at h;obtain⟨_,v1,hv,E⟩:=cw h;injection E with E;subst E;have ag:VRel μ (ρ a) (ρ' a):=Z a (by rw[A];simp[Op.operands]);rw[ha]at ag;obtain⟨l,hμ,ao⟩:=ag.ptr_inv;obtain⟨v',T,U⟩:=fQ (P:=P) hw hμ hv;refine⟨v',?_,U⟩;obtain⟨al,op,ai,pos,after,ad⟩:=o;simp only at A;subst A;simp only[execOp,ao,Instr.loadAt,Instr.sureAddr,Sem.run_bind,Sem.run_pure,Result.andThen_ok,T]
 have N: ∀H,aop P ρ o H=ovl (bj P t (ρ x) (lo.map ρ) (hi.map ρ) (mx.map ρ) H) H:=fun H=>by unfold aop;rw[A]
 rw[N]at h
 obtain⟨al,op,ai,pos,after,ad⟩:=o
 simp only at A
 subst A
 obtain⟨a1,a2⟩:=eL (μ:=μ) (ρ:=ρ) (ρ':=ρ') (x:=lo) fun y V=>Z y (by subst V;simp[Op.operands])
 obtain⟨b1,b2⟩:=eL (μ:=μ) (ρ:=ρ) (ρ':=ρ') (x:=hi) fun y V=>Z y (by subst V;simp[Op.operands])
 obtain⟨_,c2⟩:=eL (μ:=μ) (ρ:=ρ) (ρ':=ρ') (x:=mx) fun y V=>Z y (by subst V;simp[Op.operands])
 obtain⟨v1,v',E,_,T,U⟩:=i7 (P:=P) hw (Z x (by simp[Op.operands])) a1 a2 b1 b2 c2 h
 injection E with E;subst E
 refine⟨v',?_,U⟩
 simp only[execOp,Sem.run_bind,T,Result.andThen_ok,Sem.run_pure]
theorem reads_loc{μ:Emb}{ρ ρ':Operand->Value}{o:Oper}{b:Nat}(V:lI ρ o b)(T: ∀x∈o.op.operands,VRel μ (ρ x) (ρ' x)): ∃l,μ b=some l:=by
 rcases V with⟨t,a,off,E,U⟩|⟨t,x,lo,hi,mx,off,n,k,E,Z⟩
 ·have A:VRel μ (ρ a) (ρ' a):=T a (by rw[E];simp[Op.operands]);rw[U]at A;obtain⟨l,N,_⟩:=A.ptr_inv;exact⟨l,N⟩
 have A:VRel μ (ρ x) (ρ' x):=T x (by rw[E];simp[Op.operands]);rw[Z]at A;obtain⟨l,N,_⟩:=A.slice_inv;exact⟨l,N⟩
theorem stepD_fact{cf:cj}(a2:dI P G cf){ops:Array Oper}{o:Oper}{s s':St}{f:Inf}(hw:WF s.heap)(h:fy P G cf ops o s=some (s',f)):
  ∃v,OpFact P G cf ops o s s' v f:=by
 unfold fy at h
 split at h
 case h_2=>cases h
 rename_i t A
 simp only[a00,a04]at h
 obtain⟨rfl,rfl⟩:=h
 have a3:WF {s.heap with log:=[]}:=hw
 have ext:=iK a2 (s:={s with heap:={s.heap with log:=[]}}) a3 A
 rw[step_eq]at A
 cases hq:bd ops o s.tmps with
 |false=>
  rw[hq]at A
  simp only[cond_false]at A
  obtain⟨h1,U,h3⟩:=fJ A
  refine⟨undef,h1,?_,?_,by rw[U];exact a0a _,fun b _=>by rw[U];rfl,.inl ⟨hq,rfl,by unfold du;rw[hq];rfl,by rw[U],fun b=>by rw[U];rfl⟩⟩
  ·intro k;rcases h3 with⟨N,h5⟩|⟨d,N,E,h5⟩
   ·simp[N,h5]
   rw[N];simp only[h5,fe,a00]
  intro d E
  rcases h3 with⟨N,_⟩|⟨d',N,av,_⟩
  ·rw[N]at E;cases E
  rw[N]at E;injection E with E;subst E;exact av
 |true=>
  rw[hq]at A
  cases ax:o.op.operands.toList.all (bw G) with
  |false=>rw[ax]at A;cases A
  |true=>
   rw[ax]at A
   simp only[cond_true]at A
   split at A
   case h_2=>cases A
   rename_i v H2 V
   obtain⟨h1,U,h3⟩:=fJ A
   simp only at U
   have an:Ext {s.heap with log:=[]} H2:=ke a2 a3 V
   refine⟨v,h1,?_,?_,by simp only[U];exact an.next,fun b hb=>by simp only[U]at hb⊢;exact an.far b hb,.inr ⟨hq,ax,{s.heap with log:=[]},H2,fun _=>rfl,rfl,V,fun b=>by simp only[U];rfl,by simp only[U],?_⟩⟩
   ·intro k;rcases h3 with⟨N,h5⟩|⟨d,N,E,h5⟩
    ·simp[N,h5]
    rw[N];simp only[h5,fe,a00]
   ·intro d E;rcases h3 with⟨N,_⟩|⟨d',N,av,_⟩
    ·rw[N]at E;cases E
    rw[N]at E;injection E with E;subst E;exact av
   ·--which kind
    have hx:(∃w,Inf.x (cV s.heap.next t.heap.log)= .x w/\(∀b,b∈w->b<s.heap.next)/\∀b,b<s.heap.next->b∉w->t.heap.get b=s.heap.get b):=by
     refine⟨_,rfl,fun b hb=>(fc.1 hb).2,fun b hb hn=>?_⟩;obtain⟨d,E,ay⟩:=an.log;rw[U];refine ay b hb fun hm=>hn (fc.2 ⟨?_,hb⟩)
     rw[U,E,a0B];exact hm
    unfold du;rw[hq];cases hv:aX o.op with
    |true=>exact .inl ⟨rfl,.inl rfl⟩
    |false=>
     simp only[a1y,a27,cond_false]
     cases b0:dL o.op with
     |true=>exact .inr (.inl ⟨rfl,rfl⟩)
     |false=>
      simp only[cond_false]
      split
      ·rename_i ty a T;split
       ·rename_i p Z;have ad:p.spot=none:=by
         unfold dS at V;have ai:aop P (cP s.tmps) o {s.heap with log:=[]}=dR P ty (cP s.tmps a) {s.heap with log:=[]}:=by unfold aop;rw[T]
         rw[ai,Z]at V;unfold dR at V;simp only at V;cases hl:Heap.loadV P {s.heap with log:=[]} ty p with
         |none=>rw[hl]at V;simp[ovl]at V
         |some u=>exact loadV_spot hl
        obtain⟨b,off,sp⟩:=p;simp only at ad;subst ad;exact .inr (.inr (.inl ⟨b,rfl,.inl ⟨ty,a,off,T,Z⟩⟩))
       exact .inr (.inr (.inr hx))
      ·rename_i ty x lo hi mx T;split
       ·rename_i p n k Z;have ad:p.spot=none:=by
         unfold dS at V;have ai:aop P (cP s.tmps) o {s.heap with log:=[]}=ovl (bj P ty (cP s.tmps x) (lo.map (cP s.tmps)) (hi.map (cP s.tmps)) (mx.map (cP s.tmps)) {s.heap with log:=[]}) {s.heap with log:=[]}:=by unfold aop;rw[T]
         rw[ai,Z]at V;cases hl:bj P ty (.slice (some p) n k) (lo.map (cP s.tmps)) (hi.map (cP s.tmps)) (mx.map (cP s.tmps)) {s.heap with log:=[]} with
         |none=>rw[hl]at V;simp[ovl]at V
         |some u=>exact aSlice_spot hl
        obtain⟨b,off,sp⟩:=p;simp only at ad;subst ad;exact .inr (.inr (.inl ⟨b,rfl,.inr ⟨ty,x,lo,hi,mx,off,n,k,T,Z⟩⟩))
       ·rename_i n k Z;exact .inl ⟨rfl,.inr (.inl ⟨ty,x,lo,hi,mx,n,k,T,Z⟩)⟩
       exact .inr (.inr (.inr hx))
      ·rename_i xs ts T;split
       ·rename_i a n k Z;exact .inl ⟨rfl,.inr (.inr ⟨xs,ts,_,T,Z,.inl ⟨a,n,k,rfl⟩⟩)⟩
       ·rename_i a7 Z;exact .inl ⟨rfl,.inr (.inr ⟨xs,ts,_,T,Z,.inr ⟨a7,rfl⟩⟩)⟩
       exact .inr (.inr (.inr hx))
      exact .inr (.inr (.inr hx))
theorem jf{ρ:Operand->Value}{o:Oper}{H H':Heap}{r:AN}(h:bD P ρ o H=some (r,H')):H'=H/\∃v,r= .val v:=by
 unfold bD at h;cases E:o.op.operands.toList.all fun x=>iB (ρ x) with
 |false=>rw[E]at h;cases h
 |true=>
  rw[E]at h
  simp only[cond_true]at h
  split at h
  ·rename_i v N;cases A:noA2 v with
   |false=>rw[A]at h;cases h
   |true=>
    rw[A]at h;simp only[cond_true,a00,a04]at h
    exact⟨h.2.symm,v,h.1.symm⟩
  cases h
theorem lift_val{s:Sem Value}{H H':Heap}{r:AN}(h:lift P s H=some (r,H')):H'=H/\∃v,r= .val v:=by obtain⟨A,v,E,_⟩:=jp h;exact⟨A,v,E⟩
theorem eK{x:Option Value}{H H':Heap}{r:AN}(h:ovl x H=some (r,H')):H'=H/\∃v,r= .val v:=by obtain⟨A,v,_,E⟩:=cw h;exact⟨A,v,E⟩
theorem eI{v:Value}{H H':Heap}{r:AN}(h:some (AN.val v,H)=some (r,H')):H'=H/\∃v,r= .val v:=by simp only[a00,a04]at h;exact⟨h.2.symm,v,h.1.symm⟩
theorem aop_value{ρ:Operand->Value}{o:Oper}{H H':Heap}{r:AN}(Z:aX o.op=true)(h:aop P ρ o H=some (r,H')):H'=H/\∃v,r= .val v:=by
 obtain⟨T,op,N,pos,after,E⟩:=o;cases op<;>simp only[aX,a0J]at Z
 case move x=>exact eI (v:=ρ x) h
 case assign x=>exact eI (v:=ρ x) h
 case pick c a b=>
  have A:fb ρ c a b H=some (r,H'):=h
  unfold fb at A
  split at A
  ·exact eI A
  cases A
 case build t parts=>
  have A:fN P t (parts.map fun p=>(p.1,ρ p.2)) H=some (r,H'):=h
  unfold fN at A
  split at A
  ·exact lift_val A
  cases A
 case nilCheck x=>
  have A:opNil (ρ x) H=some (r,H'):=h
  unfold opNil at A
  split at A
  ·exact eI A
  ·exact eI A
  cases A
 case binOp op t x y yt=>
  have A:aBin P ρ ⟨T,.binOp op t x y yt,N,pos,after,E⟩ op t (ρ x) y H=some (r,H'):=h
  unfold aBin at A
  split at A
  ·unfold binInt at A;split at A
   ·exact eK A
   cases A
  ·unfold binStr at A;split at A
   ·exact eK A
   cases A
  unfold lp at A;split at A
  ·exact jf A
  ·exact jf A
  obtain⟨V,b,_,hc⟩:=gR A
  rcases hc with⟨_,U⟩|⟨_,U⟩
  ·exact⟨V,_,U⟩
  exact⟨V,_,U⟩
 case unOp op t x=>
  have A:aUn P ρ ⟨T,.unOp op t x,N,pos,after,E⟩ op (ρ x) H=some (r,H'):=h
  unfold aUn at A
  split at A
  ·split at A
   ·exact eI A
   cases A
  exact jf A
 case makeFunc fn first captured=>exact eI (v:= .func fn (first.map ρ) (captured.map ρ)) h
 case fieldAddr s x f=>
  have A:ovl (gH P s (ρ x) f) H=some (r,H'):=h
  exact eK A
 case field t x f=>
  have A:ovl (gc P t (ρ x) f) H=some (r,H'):=h
  exact eK A
 case indexAddr t x i=>
  have A:ovl (cm P t (ρ x) (ρ i)) H=some (r,H'):=h
  exact eK A
 case index t x i=>
  have A:jH P t (ρ x) (ρ i) H=some (r,H'):=h
  unfold jH at A
  split at A
  ·exact eK A
  exact lift_val A
 case extract x i=>
  have A:ovl (fv (ρ x) i) H=some (r,H'):=h
  exact eK A
theorem jQ{ρ:Operand->Value}{o:Oper}{H H':Heap}{r:AN}(A:aX o.op=true)(h:aop P ρ o H=some (r,H')):H'=H:=by have:=aop_value A h;exact this.1
theorem iX{ρ:Operand->Value}{o:Oper}{H H':Heap}{r:AN}(A:aX o.op=true)(h:aop P ρ o H=some (r,H')): ∃v,r= .val v:=(aop_value A h).2
theorem eA{ρ:Operand->Value}{o:Oper}{H H':Heap}{r:AN}(hk:dL o.op=true)(h:aop P ρ o H=some (r,H')):
  ∃v T,r= .val v/\H'=H.push T/\∀E:Heap,E.next=H.next->aop P ρ o E=some (.val v,E.push T):=by
 obtain⟨ai,op,ag,pos,after,Z⟩:=o
 cases op<;>simp only[dL,a0J]at hk
 case alloc e=>
  have A:d8 P e H=some (r,H'):=h
  unfold d8 at A
  split at A
  ·rename_i z V;simp only[a00,a04]at A;obtain⟨rfl,rfl⟩:=A;refine⟨_,_,rfl,rfl,fun E N=>?_⟩;show d8 P e E=_;unfold d8;rw[V,N];rfl
  cases A
 case box e x=>
  have A:some (AN.val (ptrTo H.next),aQ H (ρ x).cells.toList none)=some (r,H'):=h
  simp only[a00,a04]at A
  obtain⟨rfl,rfl⟩:=A
  refine⟨_,_,rfl,rfl,fun E N=>?_⟩
  show some (AN.val (ptrTo E.next),aQ E (ρ x).cells.toList none)=_
  rw[N];rfl
 case buildSlice t n parts=>
  have A:bE P t n (eG (fun p=>(p.1,ρ p.2)) parts.toList) H=some (r,H'):=h
  unfold bE at A
  split at A
  ·rename_i sz z V;cases U:Nat.ble (n*sz) 16777216 with
   |false=>rw[U]at A;cases A
   |true=>
    rw[U]at A
    simp only[cond_true]at A
    split at A
    ·rename_i cells hc;simp only[a00,a04]at A;obtain⟨rfl,rfl⟩:=A;refine⟨_,_,rfl,rfl,fun E N=>?_⟩;show bE P t n (eG (fun p=>(p.1,ρ p.2)) parts.toList) E=_;unfold bE;rw[V];simp only[U,cond_true,hc,N];rfl
    cases A
  cases A
def bare(n:Nat):Heap:={tr:= .nil,next:=n,log:=[]}
theorem dZ(n b:Nat):(bare n).get b=none:=rfl
theorem iS(μ:Emb)(n:Nat)(w:World):WRel μ (bare n) w:=
 ⟨(fun b l o _ h=>by rw[dZ]at h;cases h),(fun A E N T U V _ _ _ h=>by rw[dZ]at h;cases h)⟩
theorem aSlice_nil{t:TypeId}{n k:Nat}{lo hi A:Option Value}(H E:Heap):bj P t (.slice none n k) lo hi A H=bj P t (.slice none n k) lo hi A E:=by
 unfold bj;cases A with
 |some _=>rfl
 |none=>
  cases P.underlying t with
  |none=>rfl
  |some d=>cases d<;>first|rfl|(cases n<;>cases k<;>rfl)
theorem eb{ρ:Operand->Value}{o:Oper}{H H':Heap}{r:AN}(N:NilCut ρ o)(h:aop P ρ o H=some (r,H')):H'=H/\∃v,r= .val v:=by
 rcases N with⟨t,x,lo,hi,U,n,k,E,T⟩|⟨xs,V,x,E,T,_⟩
 ·have A: ∀H,aop P ρ o H=ovl (bj P t (ρ x) (lo.map ρ) (hi.map ρ) (U.map ρ) H) H:=fun H=>by unfold aop;rw[E]
  rw[A]at h;exact eK h
 have A:aop P ρ o H=bLen P V (eG ρ xs.toList) H:=by unfold aop;rw[E];rfl
 rw[A]at h;unfold bLen at h;split at h
 ·exact eK h
 cases h
theorem aLen_any{t:TypeId}{x:Value}(E:(∃a n k,x= .slice a n k)\/∃s,x= .string s)(H A:Heap):aLen P t x H=aLen P t x A:=by
 rcases E with⟨a,n,k,rfl⟩|⟨s,rfl⟩<;>(unfold aLen;cases P.underlying t with
  |none=>rfl
  |some d=>cases d<;>rfl)
theorem nilcut_sound{μ:Emb}{ρ ρ':Operand->Value}{o:Oper}{H:Heap}{v:Value}(hr:NilCut ρ o)(hρ: ∀x∈o.op.operands,VRel μ (ρ x) (ρ' x))(h:aop P ρ o H=some (.val v,H))(w:World):
  ∃v',(execOp ρ' o).run P w= .ok (.value v') w/\VRel μ v v':=by
 rcases hr with hr|⟨xs,ts,x,A,hxs,U⟩
 rotate_left
 ·have N:aop P ρ o H=bLen P ts (eG ρ xs.toList) H:=by unfold aop;rw[A];rfl
  rw[N,hxs]at h;obtain⟨av,op,ag,pos,after,ai⟩:=o;simp only at A;subst A;unfold bLen at h;split at h
  ·rename_i t x1 ht an;simp only[a2b,and_true]at an;subst an;obtain⟨_,v1,V,E⟩:=cw h;injection E with E;subst E;rw[aLen_any U H (bare 0)]at V;have al:LRel μ (eG ρ xs.toList) (xs.map ρ').toList:=by
    rw[jm];have:=iT (μ:=μ) (ops:=xs) (ρ:=ρ) (ρ':=ρ') fun x U=>hρ x (by simp[Op.operands,Call.operands];exact U)
    simpa using this
   obtain⟨x',ay,a0⟩:=one_of al hxs;obtain⟨T,hn⟩:=len_sound (P:=P) (ty:=ag) (iS μ 0 w) a0 V;have aw:ts= #[t]:=a1d.1 (by rw[ht]);refine⟨v,?_,.atom v hn⟩;simp only[execOp,resolve,Sem.run_bind,Sem.run_pure,Result.andThen_ok,invoke,builtin,ay,aw,T]
  cases h
 obtain⟨t,x,lo,hi,mx,n,k,A,U⟩:=hr
 have N: ∀H,aop P ρ o H=ovl (bj P t (ρ x) (lo.map ρ) (hi.map ρ) (mx.map ρ) H) H:=fun H=>by unfold aop;rw[A]
 rw[N,U]at h
 obtain⟨_,v1,V,E⟩:=cw h
 rw[aSlice_nil H (bare 0)]at V
 have h2:ovl (bj P t (ρ x) (lo.map ρ) (hi.map ρ) (mx.map ρ) (bare 0)) (bare 0)=some (.val v,bare 0):=by rw[U,V,E];rfl
 obtain⟨av,op,ag,pos,after,ai⟩:=o
 simp only at A
 subst A
 obtain⟨a1,a2⟩:=eL (μ:=μ) (ρ:=ρ) (ρ':=ρ') (x:=lo) fun y Z=>hρ y (by subst Z;simp[Op.operands])
 obtain⟨b1,b2⟩:=eL (μ:=μ) (ρ:=ρ) (ρ':=ρ') (x:=hi) fun y Z=>hρ y (by subst Z;simp[Op.operands])
 obtain⟨_,c2⟩:=eL (μ:=μ) (ρ:=ρ) (ρ':=ρ') (x:=mx) fun y Z=>hρ y (by subst Z;simp[Op.operands])
 obtain⟨v1,v',E,_,T,ax⟩:=i7 (P:=P) (iS μ 0 w) (hρ x (by simp[Op.operands])) a1 a2 b1 b2 c2 h2
 injection E with E;subst E
 refine⟨v',?_,ax⟩
 simp only[execOp,Sem.run_bind,T,Result.andThen_ok,Sem.run_pure]
theorem either_heap{ρ:Operand->Value}{o:Oper}{H H':Heap}{r:AN}(A:aX o.op=true\/NilCut ρ o)(h:aop P ρ o H=some (r,H')):H'=H:=by
 rcases A with A|A
 ·exact jQ A h
 exact(eb A h).1
theorem kf{ρ:Operand->Value}{o:Oper}{H H':Heap}{r:AN}(A:aX o.op=true\/NilCut ρ o)(h:aop P ρ o H=some (r,H')): ∃v,r= .val v:=by
 rcases A with A|A
 ·exact iX A h
 exact(eb A h).2
structure Trace(P:Program)(G:Nat)(cf:cj)(ops:Array Oper)(st:Nat->St)(vl:Nat->Value)(nf:Nat->Inf):Prop where
 fact: ∀k o,ops[k]?=some o->OpFact P G cf ops o (st k) (st (k+1)) (vl k) (nf k)
 past: ∀k,ops.size<=k->st (k+1)=st k
 comp: ∀j k,j<k->k<ops.size->bo (ce ops) j k=true\/dT (nf j) (nf k)=true
 reg:RegFacts ops
 wf: ∀k,WF (st k).heap
section
variable {cf:cj} {ops:Array Oper} {st:Nat->St} {vl:Nat->Value} {nf:Nat->Inf}
theorem Trace.mono(T:Trace P G cf ops st vl nf)(k:Nat):(st k).heap.next<=(st (k+1)).heap.next:=by
 rcases a0i k ops.size with h|h
 ·exact(T.fact k ops[k] (a0H h)).next
 rw[T.past k h];exact a0a _
theorem Trace.monoL(T:Trace P G cf ops st vl nf){j k:Nat}(h:j<=k):(st j).heap.next<=(st k).heap.next:=by
 induction h with
 |refl=>exact a0a _
 |step _ ih=>exact a0d ih (T.mono _)
theorem Trace.sizeL(T:Trace P G cf ops st vl nf)(k:Nat):(st k).size=(st 0).size:=by
 induction k with
 |zero=>rfl
 |succ k ih=>
  rcases a0i k ops.size with h|h
  ·rw[(T.fact k ops[k] (a0H h)).size,ih]
  rw[T.past k h,ih]
theorem Trace.tm(T:Trace P G cf ops st vl nf)(k t:Nat):cE (st (k+1)).tmps t=if iC ops k=some t then vl k else cE (st k).tmps t:=by
 unfold iC;rcases a0i k ops.size with h|h
 ·have A:=a0H h;rw[(T.fact k ops[k] A).tm t,A];rfl
 rw[T.past k h,Array.getElem?_eq_none h];simp
theorem Trace.chg(T:Trace P G cf ops st vl nf){k b:Nat}(h:chg st k b):
  k<ops.size/\((st k).heap.next<=b/\b<(st (k+1)).heap.next\/∃w,nf k= .x w/\b∈w/\b<(st k).heap.next):=by
 have hk:k<ops.size:=by
  rcases a0i k ops.size with hk|hk
  ·exact hk
  exfalso;unfold R.chg at h;rw[T.past k hk]at h;exact h rfl
 refine⟨hk,?_⟩
 have F:=T.fact k ops[k] (a0H hk)
 have av:b<(st (k+1)).heap.next:=by
  rcases a0i b (st (k+1)).heap.next with N|N
  ·exact N
  exact absurd (F.far b N) h
 rcases a0i b (st k).heap.next with hb|hb
 ·right;rcases F.how with⟨_,_,_,_,hs⟩|⟨_,_,H1,H2,ag,ax,E,V,ay,an⟩
  ·exact absurd (hs b) h
  rcases an with⟨hf,Z⟩|⟨hf,Z⟩|⟨b',hf,ai⟩|⟨w,hf,a0,ar⟩
  ·--a value operation changes nothing
   exfalso;unfold dS at E;split at E
   ·rename_i u N A;simp only[a00,a04]at E;have:=(either_heap Z A)
    rw[←E.2,this]at V;exact h (by rw[V b,ag b])
   ·rename_i N A;have:=(kf Z A)
    obtain⟨_,U⟩:=this;cases U
   ·rename_i f args N A;obtain⟨_,U⟩:=kf Z A;cases U
   cases E
  ·exfalso;unfold dS at E;split at E
   ·rename_i u N A;simp only[a00,a04]at E;obtain⟨_,a1,_,ao,_⟩:=eA Z A;rw[←E.2,ao]at V;exact h (by rw[V b,Heap.get_push_ne _ _ (by omega),ag b])
   ·rename_i N A;obtain⟨_,_,U,_⟩:=eA Z A;cases U
   ·rename_i f args N A;obtain⟨_,_,U,_⟩:=eA Z A;cases U
   cases E
  ·exfalso;unfold dS at E;split at E
   ·rename_i u N A;simp only[a00,a04]at E;obtain⟨_,_,_,hH,_,_⟩:=d5 ai A;rw[←E.2,hH]at V;exact h (by rw[V b,ag b])
   ·rename_i N A;obtain⟨_,_,U,_⟩:=d5 ai A;cases U
   ·rename_i f args N A;obtain⟨_,_,U,_⟩:=d5 ai A;cases U
   cases E
  rcases Classical.em (b∈w) with hm|hm
  ·exact⟨w,hf,hm,hb⟩
  exact absurd (ar b hb hm) h
 exact .inl ⟨hb,av⟩
end
end
end Go.R
set_option linter.unusedVariables false
namespace Go.R
section
variable {P:Program} {G:Nat} {cf:cj} {ops:Array Oper} {st:Nat->St} {vl:Nat->Value} {nf:Nat->Inf}
variable {μ0 μ:Emb} {w0 w:World} {d0:List Deferred} {S:Nat->Bool} {a:Act} {i:Nat} {o:Oper}
structure Ready(ops:Array Oper)(S:Nat->Bool)(i:Nat)(o:Oper):Prop where
 at_:ops[i]?=some o
 new:S i=false
 edges: ∀e∈o.after.toList,Region.binds .any e=true->S e.on=true
theorem Ready.lt(R:Ready ops S i o):i<ops.size:=(a0z.1 R.at_).1
theorem Ready.dc(R:Ready ops S i o)(h:DC ops S):DC ops (iw S i):=by
 intro k x A hs e T N;by_cases E:k=i
 ·subst E;rw[R.at_]at A;injection A with A;subst A;have:=R.edges e T N;unfold iw;rw[this];simp
 rw[fk S E]at hs;have:=h k x A hs e T N;unfold iw;rw[this];simp
theorem Ready.ahead(R:Ready ops S i o)(h:DC ops S){k:Nat}(A:k≠i)(E:bo (ce ops) k i=true):S k=true:=by have:=(R.dc h).anc i (fj S i) E;rwa [fk S A]at this
theorem Ready.behind(R:Ready ops S i o)(h:DC ops S){k:Nat}(A:bo (ce ops) i k=true):S k=false:=by
 cases hs:S k with
 |false=>rfl
 |true=>have:=h.anc k hs A;rw[R.new]at this;cases this
theorem Ready.iff_(R:Ready ops S i o)(h:DC ops S){k:Nat}(A:k<i->bo (ce ops) k i=true)(E:i<k->bo (ce ops) i k=true):S k=true↔k<i:=by
 rcases a1m k i with hlt|rfl|hgt
 ·exact⟨fun _=>hlt,fun _=>R.ahead h (by omega) (A hlt)⟩
 ·rw[R.new];simp
 rw[R.behind h (E hgt)];simp;omega
theorem Ready.iffAdd(R:Ready ops S i o)(h:DC ops S){k:Nat}(E:k<i->bo (ce ops) k i=true)(N:i<k->bo (ce ops) i k=true):iw S i k=true↔k<i+1:=by
 by_cases A:k=i
 ·subst A;rw[fj];simp
 rw[fk S A,R.iff_ h E N];omega
theorem share(T:Trace P G cf ops st vl nf)(Z:ops[i]?=some o){t:Tmp}(A:t∈o.looksAt ops\/o.dst=some t){k:Nat}(E:iC ops k=some t):
  (k<i->bo (ce ops) k i=true)/\(i<k->bo (ce ops) i k=true):=by
 unfold iC at E
 cases U:ops[k]? with
 |none=>rw[U]at E;simp at E
 |some x=>
  rw[U]at E
  simp only[a0q]at E
  constructor
  ·intro N;rcases T.reg.pair k i x o N U Z with h|h
   ·exact h
   exfalso;obtain⟨p1,V,p3⟩:=Oper.apart_spec h;rcases A with A|A
   ·exact p1 t E A
   exact V t E A
  intro N
  rcases T.reg.pair i k o x N Z U with h|h
  ·exact h
  exfalso
  obtain⟨p1,V,p3⟩:=Oper.apart_spec h
  rcases A with A|A
  ·exact p3 t E A
  exact V t A E
theorem slot_here(T:Trace P G cf ops st vl nf)(I:Inv ops st vl μ0 w0 d0 S μ a w)(R:Ready ops S i o){t:Tmp}(E:t∈o.looksAt ops):
  VRel μ (cE (st i).tmps t) (a.tmps.getD t undef):=by
 have:=I.tm t
 rw[tv_eq st vl ops (i:=i) (fun k=>T.tm k t) ops.size (fun k _ A=>R.iff_ I.dc (share T R.at_ (.inl E) A).1 (share T R.at_ (.inl E) A).2)]at this
 rwa [a21 (a20 R.lt)]at this
theorem operand_here(T:Trace P G cf ops st vl nf)(I:Inv ops st vl μ0 w0 d0 S μ a w)(R:Ready ops S i o)(N:GRel μ G)(A:o.op.operands.toList.all (bw G)=true):
  ∀x∈o.op.operands,VRel μ (cP (st i).tmps x) (a.eval x):=by
 intro x E
 refine eval_of N (a0v.1 A x (by simpa using E)) fun t U=>?_
 subst U
 refine slot_here T I R ?_
 unfold Oper.looksAt
 rw[a07]
 left
 rw[List.mem_filterMap]
 exact⟨.tmp t,by simpa using E,rfl⟩
theorem wanted_here(T:Trace P G cf ops st vl nf)(I:Inv ops st vl μ0 w0 d0 S μ a w)(R:Ready ops S i o):bd ops o (st i).tmps=Region.wanted o (yielded ops a.tmps):=by
 refine wanted_eq (μ:=μ) fun j w E d A=>slot_here T I R ?_
 unfold Oper.looksAt;rw[a07];right;rw[E];simp only;rw[A];simp
theorem between(T:Trace P G cf ops st vl nf){j k b:Nat}(A:(st j).heap.next<=b)(E:b<(st (j+1)).heap.next)(N:(st k).heap.next<=b)(U:b<(st (k+1)).heap.next):j=k:=by
 rcases a1m j k with h|h|h
 ·have:=T.monoL (show j+1<=k from h);omega
 ·exact h
 have:=T.monoL (show k+1<=j from h);omega
theorem j5(T:Trace P G cf ops st vl nf)(I:Inv ops st vl μ0 w0 d0 S μ a w)(R:Ready ops S i o)(b:Nat)(A:(st i).heap.next<=b)(E:b<(st (i+1)).heap.next):μ b=none:=by
 cases N:μ b with
 |none=>rfl
 |some l=>
  exfalso
  rcases I.dom b l N with h|⟨k,_,hs,h3,h4⟩|h
  ·have:=T.monoL (a0p i);omega
  ·have:=between T A E h3 h4;subst this;rw[R.new]at hs;cases hs
  have:=T.monoL (show i+1<=ops.size from R.lt);omega
theorem cont_here(T:Trace P G cf ops st vl nf)(I:Inv ops st vl μ0 w0 d0 S μ a w)(R:Ready ops S i o){b:Nat}{l:Loc}(Z:μ b=some l)(ad:b<(st i).heap.next)
  (V: ∀k w',nf k= .x w'->b∈w'->k<ops.size->(k<i->bo (ce ops) k i=true)/\(i<k->bo (ce ops) i k=true)):iR st S ops.size b=(st i).heap.get b:=by
 rw[jz st (i:=i) ops.size,a21 (a20 R.lt)]
 intro k N hc
 obtain⟨_,⟨A,E⟩|⟨w',A,E,h3⟩⟩:=T.chg hc
 ·--made there
  have U:k<i:=by
   rcases a0i k i with h|h
   ·exact h
   have:=T.monoL h;omega
  refine⟨fun _=>U,fun _=>?_⟩;rcases I.dom b l Z with h|⟨k',_,hs,h4,h5⟩|h
  ·have:=T.monoL (a0p k);omega
  ·have:=between T A E h4 h5;subst this;exact hs
  have:=T.monoL (a20 R.lt);omega
 exact R.iff_ I.dc (V k w' A E N).1 (V k w' A E N).2
theorem hJ(T:Trace P G cf ops st vl nf)(I:Inv ops st vl μ0 w0 d0 S μ a w)(R:Ready ops S i o){b:Nat}(hb:b<(st i).heap.next->∃l,μ b=some l)(al:b<(st (i+1)).heap.next)
  (hw: ∀k w',nf k= .x w'->b∈w'->k<ops.size->(k<i->bo (ce ops) k i=true)/\(i<k->bo (ce ops) i k=true)):iR st (iw S i) ops.size b=(st (i+1)).heap.get b:=by
 rw[jz st (i:=i+1) ops.size,a21 R.lt]
 intro k V hc
 by_cases N:k=i
 ·subst N;rw[fj];simp
 obtain⟨_,⟨A,E⟩|⟨w',A,E,h3⟩⟩:=T.chg hc
 ·have Z:k<i:=by
   rcases a0i k i with h|h
   ·exact h
   have:=T.monoL (show i+1<=k by omega);omega
  rw[fk S N];refine⟨fun _=>by omega,fun _=>?_⟩;have U:b<(st i).heap.next:=by have:=T.monoL (show k+1<=i from Z);omega
  obtain⟨l,hl⟩:=hb U;rcases I.dom b l hl with h|⟨k',_,hs,h4,h5⟩|h
  ·have:=T.monoL (a0p k);omega
  ·have:=between T A E h4 h5;subst this;exact hs
  have:=T.monoL (a20 R.lt);omega
 exact R.iffAdd I.dc (hw k w' A E V).1 (hw k w' A E V).2
theorem jy(T:Trace P G cf ops st vl nf){b:Nat}(h: ¬chg st i b):iR st (iw S i) ops.size b=iR st S ops.size b:=by refine(kj st ops.size fun k _ hc=>?_);exact fk S (fun e=>by subst e;exact h hc)
theorem iO{b:Nat}: ∀{l:List Nat},memB b l=true↔b∈l
 | []=>by simp[memB]
 |c::l=>by
  unfold memB;rw[a0M,iO (l:=l),a0s];constructor
  ·rintro(h|h)
   ·exact .inl (a08 h)
   exact .inr h
  rintro(rfl|h)
  ·exact .inl (a13 b)
  exact .inr h
theorem gN(T:Trace P G cf ops st vl nf)(I:Inv ops st vl μ0 w0 d0 S μ a w)(R:Ready ops S i o):
  (∀t,o.dst=some t->tv st vl ops (iw S i) ops.size t=vl i)/\(∀t,o.dst≠some t->tv st vl ops (iw S i) ops.size t=tv st vl ops S ops.size t):=by
 constructor
 ·intro t E;rw[tv_eq st vl ops (i:=i+1) (fun k=>T.tm k t) ops.size (fun k _ A=>R.iffAdd I.dc (share T R.at_ (.inr E) A).1 (share T R.at_ (.inr E) A).2),a21 R.lt,T.tm];rw[if_pos (by unfold iC;rw[R.at_];exact E)]
 intro t E
 refine tv_congr st vl ops ops.size fun k _ A=>fk S ?_
 intro e
 subst e
 unfold iC at A
 rw[R.at_]at A
 exact E A
theorem fq(T:Trace P G cf ops st vl nf)(I:Inv ops st vl μ0 w0 d0 S μ a w)(R:Ready ops S i o)(A: ∀b,(st (i+1)).heap.get b=(st i).heap.get b){v':Value}(U:VRel μ (vl i) v'):
  Inv ops st vl μ0 w0 d0 (iw S i) μ (a.put o.dst v') w:=by
 obtain⟨V,Z⟩:=gN T I R
 refine Inv.next (H:=bare (st i).heap.next) (Hn:=bare (st i).heap.next) I R.lt R.at_ (Post.refl (iS μ _ w)) U (fun k=>T.mono k) (a0a _) (T.mono i)
  (fun b l x _ h=>by rw[dZ]at h;cases h) (fun b l x _ h=>by rw[dZ]at h;cases h) (fun b l x E _ hc=>⟨E,rfl,?_⟩) (R.dc I.dc) (fun d N=>?_) V Z
 ·rw[jy T (fun e=>e (A b))]at hc;exact hc
 have:=(T.fact i o R.at_).dlt d N
 rwa [T.sizeL i]at this
theorem inv_step(fi:dI P G cf)(T:Trace P G cf ops st vl nf)(I:Inv ops st vl μ0 w0 d0 S μ a w)(hG:GRel μ0 G)(R:Ready ops S i o){K:Act->World->Prop}{Q:Exit->Act->World->Prop}
  (hK: ∀μ' a' w',Inv ops st vl μ0 w0 d0 (iw S i) μ' a' w'->K a' w'):wpOp P ops Q i K a w:=by
 have dn:GRel μ G:=hG.mono I.ext0
 have F:=T.fact i o R.at_
 have b3:=wanted_here T I R
 unfold wpOp
 rw[R.at_]
 simp only
 rcases F.how with⟨hq,hv,hf,hn,hs⟩|⟨hq,dv,H1,H2,al,ag,U,an,bl,c9⟩
 ·rw[b3]at hq;rw[hq];simp only[a0J,if_false];exact hK μ _ w (fq T I R hs (by rw[hv];exact VRel.undef))
 rw[b3]at hq
 rw[hq]
 simp only[if_true]
 left
 have hρ:=operand_here T I R dn dv
 have a8:WF (st i).heap:=T.wf i
 rcases c9 with⟨hf,hk|hk⟩|⟨hf,hk⟩|⟨b,hf,a4⟩|⟨wr,hf,gs,f3⟩
 rotate_left
 ·--a part of the nil slice
  unfold dS at U;split at U
  case h_2=>rename_i V A;obtain⟨_,_,E⟩:=eb hk A;cases E
  case h_3=>rename_i f args V A;obtain⟨_,_,E⟩:=eb hk A;cases E
  case h_4=>cases U
  rename_i u V A;simp only[a00,a04]at U;obtain⟨e1,_⟩:=eb hk A;subst e1;obtain⟨rfl,rfl⟩:=U;obtain⟨v',ao,hr⟩:=nilcut_sound hk hρ A w;unfold Oper.wp;rw[ao,Oper.upon_value];exact hK μ _ w (fq T I R (fun b=>by rw[an b,al b]) hr)
 rotate_right
 ·--a value
  have A: ∃u,aop P (cP (st i).tmps) o H1=some (.val u,H1)/\u=vl i/\H2=H1:=by
   unfold dS at U;split at U
   ·rename_i u V A;simp only[a00,a04]at U;have:=jQ hk A;subst this;exact⟨u,A,U.1,U.2.symm⟩
   ·rename_i V A;obtain⟨_,E⟩:=iX hk A;cases E
   ·rename_i f args V A;obtain⟨_,E⟩:=iX hk A;cases E
   cases U
  obtain⟨u,A,rfl,rfl⟩:=A;obtain⟨_,v,v',ck,ao,hr⟩:=iY hk hρ A;injection ck with ck;subst ck;unfold Oper.wp;rw[ao w,Oper.upon_value];exact hK μ _ w (fq T I R (fun b=>by rw[an b,al b]) hr)
 ·--a new block
  unfold dS at U;split at U
  case h_2=>rename_i V A;obtain⟨_,_,E,_⟩:=eA hk A;cases E
  case h_3=>rename_i f args V A;obtain⟨_,_,E,_⟩:=eA hk A;cases E
  case h_4=>cases U
  rename_i u V A;simp only[a00,a04]at U;obtain⟨rfl,rfl⟩:=U;obtain⟨u,Z,hu,dd,d3⟩:=eA hk A;injection hu with hu;subst hu dd;have cc:(st (i+1)).heap.next=(st i).heap.next+1:=by rw[bl,Heap.next_push,ag]
  have fd:=d3 (bare (st i).heap.next) (by rw[ag];rfl);obtain⟨n,w',μ',ao,hp,hr⟩:=gG hρ (iS μ _ w) (fun b ar av=>j5 T I R b ar (by rw[cc];exact av)) fd;unfold Oper.wp;rw[ao];cases n with
  |value v'=>
   rw[Oper.upon_value]
   obtain⟨t1,t2⟩:=gN T I R
   have hw: ∀k w',nf k= .x w'->(st i).heap.next∈w'->k<ops.size->(k<i->bo (ce ops) k i=true)/\(i<k->bo (ce ops) i k=true):=by
    intro k w' E hm aw;have f2:(st i).heap.next<(st k).heap.next:=by
     have Fk:=T.fact k ops[k] (a0H aw);rcases Fk.how with⟨_,_,N,_⟩|⟨_,_,_,_,_,_,_,_,_,f0⟩
     ·rw[E]at N;cases N
     rcases f0 with⟨N,_⟩|⟨N,_⟩|⟨_,N,_⟩|⟨w2,N,f1,_⟩
     ·rw[E]at N;cases N
     ·rw[E]at N;cases N
     ·rw[E]at N;cases N
     rw[E]at N;injection N with N;subst N;exact f1 _ hm
    constructor
    ·intro a2;have:=T.monoL (a20 a2);omega
    intro a1;rcases T.comp i k a1 aw with h|h
    ·exact h
    rw[hf,E]at h;simp only[dT]at h;rw[iO.2 hm]at h;cases h
   have d4:iR st (iw S i) ops.size (st i).heap.next=some Z:=by rw[hJ T I R (fun h=>absurd h (Nat.lt_irrefl _)) (by rw[cc];omega) hw,an,←ag,Heap.get_push_same]
   have c7: ∀b x,((bare (st i).heap.next).push Z).get b=some x->b=(st i).heap.next/\x=Z:=by
    intro b x E;by_cases a9:(bare (st i).heap.next).next=b
    ·subst a9;rw[Heap.get_push_same]at E;injection E with E;exact⟨rfl,E.symm⟩
    rw[Heap.get_push_ne _ _ a9,dZ]at E;cases E
   refine hK μ' _ w' (Inv.next (H:=bare (st i).heap.next) (Hn:=(bare (st i).heap.next).push Z) I R.lt R.at_ hp hr (fun k=>T.mono k) (a0a _) (by rw[cc];exact a0a _)
    (fun b l x _ h=>by rw[dZ]at h;cases h) (fun b l x _ h=>?_) (fun b l x hb hg hc=>?_) (R.dc I.dc) (fun d hd=>?_) t1 t2)
   ·obtain⟨rfl,rfl⟩:=c7 b x h;exact d4
   ·have a9:b≠(st i).heap.next:=by rintro rfl;have:((bare (st i).heap.next).push Z).get (st i).heap.next=some Z:=Heap.get_push_same (bare (st i).heap.next) Z;rw[this]at hg;cases hg
    have b9: ¬chg st i b:=by intro b7;apply b7;rw[an,Heap.get_push_ne _ _ (by rw[ag];exact Ne.symm a9),al]
    rw[jy T b9]at hc;rcases hp.dom b l hb with V|⟨V,h2⟩
    ·exact⟨V,rfl,hc⟩
    exfalso;have gb:(st i).heap.next<=b:=V;have go:b<(st i).heap.next+1:=h2;omega
   have:=F.dlt d hd
   rwa [T.sizeL i]at this
  |_=>exact hr.elim
 ·--a load,or a part of a slice
  unfold dS at U;split at U
  case h_2=>rename_i V A;obtain⟨_,_,E,_⟩:=d5 a4 A;cases E
  case h_3=>rename_i f args V A;obtain⟨_,_,E,_⟩:=d5 a4 A;cases E
  case h_4=>cases U
  rename_i u V A;simp only[a00,a04]at U;obtain⟨rfl,rfl⟩:=U;obtain⟨u,Z,hu,rfl,ch,c6⟩:=d5 a4 A;injection hu with hu;subst hu;obtain⟨l,hμ⟩:=reads_loc a4 hρ;have d1:b<(st i).heap.next:=a8.lt (by rw[←al];exact ch);have c8:=cont_here T I R hμ d1 (fun k w' a5 hm aw=>by
   constructor
   ·intro a2;rcases T.comp k i a2 R.lt with h|h
    ·exact h
    rw[hf,a5]at h;simp only[dT]at h;rw[iO.2 hm]at h;cases h
   intro a1;rcases T.comp i k a1 aw with h|h
   ·exact h
   rw[hf,a5]at h;simp only[dT]at h;rw[iO.2 hm]at h;cases h)
  have ea:WRel μ ((bare (st i).heap.next).put b Z) w:=by
   refine⟨fun b' l' o' e9 ay=>?_,fun b1 b2 l1 l2 o1 o2 ax _ _ bz b0=>?_⟩
   ·by_cases ds:b=b'
    ·subst ds;rw[Heap.get_put_same]at ay;injection ay with ay;subst ay;exact I.obj b l' Z e9 (by rw[c8,←al];exact ch)
    rw[Heap.get_put_ne _ _ ds,dZ]at ay;cases ay
   exfalso;by_cases V:b=b1
   ·by_cases h2:b=b2
    ·exact ax (V.symm.trans h2)
    rw[Heap.get_put_ne _ _ h2,dZ]at b0;cases b0
   rw[Heap.get_put_ne _ _ V,dZ]at bz;cases bz
  obtain⟨v',dl,hr⟩:=reads_sound a4 hρ ea (c6 _ (Heap.get_put_same _ _ _));unfold Oper.wp;rw[dl,Oper.upon_value];exact hK μ _ w (fq T I R (fun b=>by rw[an b,al b]) hr)
 ·--any other
  have c0: ∀b k w',nf k= .x w'->b∈w'->k<ops.size->(k<i->bo (ce ops) k i=true)/\(i<k->bo (ce ops) i k=true):=by
   intro b k w' a5 hm aw;have ax:isNilL w'=false:=by cases w' with
    |nil=>simp at hm
    |cons _ _=>rfl
   constructor
   ·intro a2;rcases T.comp k i a2 R.lt with h|h
    ·exact h
    rw[hf,a5]at h;simp only[dT,ax,a1X]at h;cases h
   intro a1;rcases T.comp i k a1 aw with h|h
   ·exact h
   rw[hf,a5]at h;simp only[dT,ax,a1A]at h;cases h
  have bb: ∀b l x,μ b=some l->H1.get b=some x->iR st S ops.size b=some x:=by intro b l x hb E;rw[al]at E;rw[cont_here T I R hb (a8.lt E) (c0 b)];exact E
  have co:WF H1:=fun b hb=>by rw[al];exact a8 b (by rw[←ag];exact hb)
  have dk:WRel μ H1 w:=⟨fun b l x hb E=>I.obj b l x hb (bb b l x hb E),fun b1 b2 l1 l2 o1 o2 ax ar av bz b0=>I.inj b1 b2 l1 l2 o1 o2 ax ar av (bb b1 l1 o1 ar bz) (bb b2 l2 o2 av b0)⟩
  refine ij fi co hρ dn dk (fun b ar av=>j5 T I R b (by rw[←ag];exact ar) (by rw[bl];exact av)) U ?_;intro μ' w' v' hp hv;obtain⟨t1,t2⟩:=gN T I R;have bk: ∀b l,μ' b=some l->b<(st i).heap.next->∃l,μ b=some l:=by
   intro b l hb f2;rcases hp.dom b l hb with h|⟨h,_⟩
   ·exact⟨l,h⟩
   rw[ag]at h;omega
  refine hK μ' _ w' (Inv.next (H:=H1) (Hn:=H2) I R.lt R.at_ hp hv (fun k=>T.mono k) (by rw[ag];exact a0a _) (by rw[bl];exact a0a _) bb (fun b l x hb E=>?_) (fun b l x hb E hc=>?_) (R.dc I.dc) (fun d hd=>?_) t1 t2)
  ·rw[←an]at E;rw[hJ T I R (bk b l hb) ((T.wf (i+1)).lt E) (c0 b)];exact E
  ·rw[←an]at E;have dt:(st (i+1)).heap.next<=b:=by
    rcases a0i b (st (i+1)).heap.next with h|h
    ·rw[hJ T I R (bk b l hb) h (c0 b),E]at hc;cases hc
    exact h
   have b9: ¬chg st i b:=fun b7=>b7 (F.far b dt)
   rw[jy T b9]at hc;refine⟨?_,?_,hc⟩
   ·rcases hp.dom b l hb with h|⟨_,h⟩
    ·exact h
    rw[←bl]at h;omega
   exact co b (by rw[ag];exact a0d F.next dt)
  have:=F.dlt d hd;rwa [T.sizeL i]at this
end
end Go.R
namespace Go.R
section
variable {P:Program} {G:Nat} {cf:cj} {ops:Array Oper} {st:Nat->St} {vl:Nat->Value} {nf:Nat->Inf}
variable {μ0 μ:Emb} {w0 w:World} {d0:List Deferred} {a:Act}
def cnt(S:Nat->Bool):Nat->Nat
 |0=>0
 |n+1=>cnt S n+if S n=true then 0 else 1
theorem cnt_far{S:Nat->Bool}{i:Nat}: ∀n,n<=i->cnt (iw S i) n=cnt S n
 |0,_=>rfl
 |n+1,h=>by have:=cnt_far (S:=S) (i:=i) n (by omega);simp only[cnt,this,fk S (show n≠i by omega)]
theorem cnt_add{S:Nat->Bool}{i:Nat}(hs:S i=false): ∀n,i<n->cnt (iw S i) n+1=cnt S n
 |0,h=>by omega
 |n+1,h=>by
  by_cases hi:i=n
  ·subst hi;simp only[cnt,cnt_far i (a0a i),fj,hs,if_true,a0J,if_false]
  have:=cnt_add hs n (by omega);simp only[cnt,fk S (show n≠i by omega)];omega
theorem gD{S:Nat->Bool}: ∀n,cnt S n=0->∀k,k<n->S k=true
 |0,_,k,h=>by omega
 |n+1,h,k,hk=>by
  simp only[cnt]at h;by_cases hs:S n=true
  ·by_cases A:k=n
   ·subst A;exact hs
   exact gD n (by omega) k (by omega)
  rw[if_neg hs]at h;omega
theorem cnt_le{S:Nat->Bool}: ∀n,cnt S n<=n
 |0=>a0a _
 |n+1=>by have:=cnt_le (S:=S) n;simp only[cnt];split<;>omega
def fC(listed:Array Bool):Nat->Bool:=fun k=>listed.getD k false
theorem setOf_set{listed:Array Bool}{i:Nat}(hi:i<listed.size):fC (listed.setIfInBounds i true)=iw (fC listed) i:=by
 funext k;unfold fC iw;simp only[a0T,a1c];by_cases A:i=k
 ·subst A;simp[hi]
 have:Nat.beq k i=false:=by
  cases E:Nat.beq k i with
  |false=>rfl
  |true=>exact absurd (a08 E).symm A
 simp[A,this]
theorem jd{listed:Array Bool}(hl:listed.size=ops.size){i:Nat}:i∈Region.ready .any ops listed↔
  ∃o,Ready ops (fC listed) i o:=by
 unfold Region.ready
 rw[a1E,a1W]
 constructor
 ·rintro⟨hi,h⟩;have A:ops[i]?=some ops[i]:=a0H hi;rw[A]at h;simp only[a0f,a0F,a1R,a0P]at h;refine⟨ops[i],A,?_,fun e N E=>?_⟩
  ·unfold fC;have U:=h.1;simp only[a0T,a0H (show i<listed.size by omega),a0P]at U⊢;exact U
  have V:=h.2;rw[Array.all_eq_true']at V;have:=V e (by simpa using N);rw[E]at this;simpa[fC] using this
 rintro⟨o,A,T,N⟩
 have hi:i<ops.size:=(a0z.1 A).1
 refine⟨hi,?_⟩
 rw[A]
 simp only[a0f,a0F,a1R,a0P]
 constructor
 ·unfold fC at T;simp only[a0T,a0H (show i<listed.size by omega),a0P]at T⊢;exact T
 rw[Array.all_eq_true']
 intro e Z
 cases E:Region.binds .any e with
 |false=>rfl
 |true=>
  have:=N e (by simpa using Z) E
  simpa[fC] using this
theorem all_of_none(T:Trace P G cf ops st vl nf){listed:Array Bool}(Z:listed.size=ops.size)(h:Region.ready .any ops listed=[]): ∀k,k<ops.size->fC listed k=true:=by
 intro k;induction k using Nat.strongRecOn with
 |_ k ih=>
  intro V
  cases hs:fC listed k with
  |true=>rfl
  |false=>
   exfalso
   have E:=a0H V
   have:k∈Region.ready .any ops listed:=(jd Z).2 ⟨ops[k],E,hs,fun e U N=>by
    have A:=T.reg.back k ops[k] E e U N;exact ih e.on A (by omega)⟩
   rw[h]at this;simp at this
theorem any_sound(N:dI P G cf)(T:Trace P G cf ops st vl nf)(V:GRel μ0 G){Q:Exit->Act->World->Prop}
  (U: ∀S μ a w,(∀k,k<ops.size->S k=true)->Inv ops st vl μ0 w0 d0 S μ a w->Q .normal a w):
  ∀(fuel:Nat) (listed:Array Bool) (μ:Emb) (a:Act) (w:World),listed.size=ops.size->cnt (fC listed) ops.size<=fuel->Inv ops st vl μ0 w0 d0 (fC listed) μ a w->
   wpAny P .any ops Q fuel listed a w
 |0,listed,μ,a,w,hl,hc,I=>by
  have A:=gD ops.size (by omega:cnt (fC listed) ops.size=0);refine⟨?_,U _ μ a w A I⟩;cases hr:Region.ready .any ops listed with
  |nil=>rfl
  |cons i t=>
   exfalso
   have hm:i∈Region.ready .any ops listed:=by rw[hr];simp
   obtain⟨o,R⟩:=(jd hl).1 hm
   have:=A i R.lt
   rw[R.new]at this;cases this
 |fuel+1,listed,μ,a,w,hl,hc,I=>by
  refine⟨fun h=>U _ μ a w (all_of_none T hl h) I,fun i hi=>?_⟩;obtain⟨o,R⟩:=(jd hl).1 hi;refine inv_step N T I V R fun μ' a' w' Z=>?_
  have E:=setOf_set (listed:=listed) (i:=i) (by rw[hl];exact R.lt);refine any_sound N T V U fuel (listed.setIfInBounds i true) μ' a' w' (by simp[hl]) ?_ (by rw[E];exact Z);rw[E];have:=cnt_add R.new ops.size R.lt;omega
theorem inv_start(T:Trace P G cf ops st vl nf)(ht:TRel μ0 (st 0).tmps (st 0).size a.tmps)(hw:WRel μ0 (st 0).heap w)(N: ∀b l,μ0 b=some l->b<(st 0).heap.next\/(st ops.size).heap.next<=b)(S:Nat->Bool)(E: ∀k,S k=false):
  Inv ops st vl μ0 w a.defers S μ0 a w:=by
 have hc: ∀b,iR st S ops.size b=(st 0).heap.get b:=by intro b;have:=jz st (S:=S) (b:=b) (i:=0) ops.size (fun k _ _=>by rw[E k];simp);rwa [Nat.min_zero]at this
 have ar: ∀t,tv st vl ops S ops.size t=cE (st 0).tmps t:=by intro t;have:=tv_eq st vl ops (S:=S) (t:=t) (i:=0) (fun k=>T.tm k t) ops.size (fun k _ _=>by rw[E k];simp);rwa [Nat.min_zero]at this
 refine⟨(fun k o _ hk=>by rw[E k]at hk;cases hk),fun b l A=>?_,fun b l o A U=>hw.obj b l o A (by rw[←hc];exact U),fun b1 b2 l1 l2 o1 o2 ai V Z al an=>hw.inj b1 b2 l1 l2 o1 o2 ai V Z (by rw[←hc];exact al) (by rw[←hc];exact an),
  ht.1,fun t=>by rw[ar];exact ht.2 t,rfl,fun _ _ h=>h,fun _ _ h=> .inl h,a0a _,rfl,rfl,rfl,fun _ _ _=>rfl,fun b l o A U ag=> .inr ⟨b,l,o,A,by rw[←hc];exact U,ag,id,rfl⟩⟩
 rcases N b l A with h|h
 ·exact .inl h
 exact .inr (.inr h)
theorem inv_end(T:Trace P G cf ops st vl nf){S:Nat->Bool}(A: ∀k,k<ops.size->S k=true)(I:Inv ops st vl μ0 w0 d0 S μ a w):
  Post μ0 (st 0).heap w0 μ (st ops.size).heap w/\TRel μ (st ops.size).tmps (st ops.size).size a.tmps/\a.defers=d0:=by
 have hc: ∀b,iR st S ops.size b=(st ops.size).heap.get b:=by intro b;have:=jz st (S:=S) (b:=b) (i:=ops.size) ops.size (fun k E _=>by rw[A k E];simp[E]);rwa [Nat.min_self]at this
 have an: ∀t,tv st vl ops S ops.size t=cE (st ops.size).tmps t:=by intro t;have:=tv_eq st vl ops (S:=S) (t:=t) (i:=ops.size) (fun k=>T.tm k t) ops.size (fun k E _=>by rw[A k E];simp[E]);rwa [Nat.min_self]at this
 refine⟨⟨I.ext0,I.dom0,I.grow0,I.os0,I.tape0,I.out0,I.keep0,fun b l o N U ad=>I.img0 b l o N (by rw[hc];exact U) ad,
  ⟨fun b l o N U=>I.obj b l o N (by rw[hc];exact U),fun b1 b2 l1 l2 o1 o2 ag V Z ai al=>I.inj b1 b2 l1 l2 o1 o2 ag V Z (by rw[hc];exact ai) (by rw[hc];exact al)⟩⟩,⟨?_,fun t=>?_⟩,I.defers⟩
 ·rw[I.size,T.sizeL ops.size]
 have:=I.tm t
 rwa [an]at this
end
section
variable {P:Program} {G:Nat} {cf:cj} {ops:Array Oper}
theorem gm(Z:dI P G cf): ∀(l:List Oper) (k:Nat) (fs:List (Nat×Inf)) (s s':St),ops.toList.drop k=l->k+l.length=ops.size->bn P G cf ops k fs l s=some s'->WF s.heap->
  ∃(st:Nat->St) (vl:Nat->Value) (nf:Nat->Inf),st k=s/\st ops.size=s'/\(∀j,ops.size<=j->st (j+1)=st j)/\(∀j,k<=j->WF (st j).heap)/\
   (∀j o,k<=j->ops[j]?=some o->OpFact P G cf ops o (st j) (st (j+1)) (vl j) (nf j))/\
   (∀j,k<=j->j<ops.size->∀q∈fs,bo (ce ops) q.1 j=true\/dT q.2 (nf j)=true)/\
   (∀i j,k<=i->i<j->j<ops.size->bo (ce ops) i j=true\/dT (nf i) (nf j)=true)
 | [],k,fs,s,s',hd,hlen,h,hw=>by simp only[bn,a00]at h;subst h;simp only[a0e,a1Y]at hlen;refine⟨fun _=>s,fun _=>undef,fun _=> .v,rfl,rfl,fun _ _=>rfl,fun _ _=>hw,fun j o N T=>?_,fun j N a7=>by omega,fun i j hi ag N=>by omega⟩;have:=(a0z.1 T).1;omega
 |x::os,k,fs,s,s',hd,hlen,h,hw=>by
  simp only[a09]at hlen;unfold bn at h;split at h
  case h_2=>cases h
  rename_i s1 f h1;cases E:bX (ce ops) k f fs with
  |false=>rw[E]at h;cases h
  |true=>
   rw[E]at h
   simp only[cond_true]at h
   obtain⟨v,F⟩:=stepD_fact Z hw h1
   have ax:WF s1.heap:=fun b hb=>by rw[F.far b hb];exact hw b (a0d F.next hb)
   have hk:k<ops.toList.length:=by simp;omega
   have ad:=a0R hk
   rw[hd]at ad
   injection ad with e1 e2
   have aw:ops[k]?=some x:=by rw[←Array.getElem?_toList,a06 hk,←e1]
   obtain⟨st,vl,nf,g1,g2,g3,g4,g5,g6,g7⟩:=gm Z os (k+1) ((k,f)::fs) s1 s' e2.symm (by omega) h ax
   have V: ∀(l:List (Nat×Inf)),bX (ce ops) k f l=true->∀q∈l,bo (ce ops) q.1 k=true\/dT q.2 f=true:=by
    intro l;induction l with
    |nil=>intro _ q E;simp at E
    |cons p l ih=>
     intro hl q E
     obtain⟨pj,pg⟩:=p
     simp only[bX,a0f,a0M]at hl
     rcases a0s.1 E with rfl|E
     ·exact hl.1
     exact ih hl.2 q E
   refine⟨fun j=>if j<=k then s else st j,fun j=>if j<=k then v else vl j,fun j=>if j<=k then f else nf j,by simp,?_,fun j N=>?_,fun j N=>?_,fun j o N T=>?_,fun j N U q ai=>?_,fun i j hi ag U=>?_⟩
   ·simp only[show ¬(ops.size<=k) by omega,if_false];exact g2
   ·simp only[show ¬(j<=k) by omega,show ¬(j+1<=k) by omega,if_false];exact g3 j N
   ·by_cases A:j<=k
    ·simp only[A,if_true];exact hw
    simp only[A,if_false];exact g4 j (by omega)
   ·by_cases A:j=k
    ·subst A;rw[aw]at T;injection T with T;subst T;simp only[a0a,if_true,show ¬(j+1<=j) by omega,if_false,g1];exact F
    simp only[show ¬(j<=k) by omega,show ¬(j+1<=k) by omega,if_false];exact g5 j o (by omega) T
   ·by_cases A:j=k
    ·subst A;simp only[a0a,if_true];exact V fs E q ai
    simp only[show ¬(j<=k) by omega,if_false];exact g6 j (by omega) U q (a0j _ ai)
   by_cases ar:i=k
   ·subst ar;simp only[a0a,if_true,show ¬(j<=i) by omega,if_false];exact g6 j (by omega) U (i,f) (by simp)
   simp only[show ¬(i<=k) by omega,show ¬(j<=k) by omega,if_false]
   exact g7 i j (by omega) ag U
def Dom(μ:Emb)(H:Heap):Prop:= ∀b l,μ b=some l->b<H.next
theorem region_sound(V:dI P G cf){id:Nat}{E:Bool}{s A:St}(h:bN P G cf ops E s=some A){μ:Emb}{a:Act}{w:World}{Q:Exit->Act->World->Prop}
  (an:WF s.heap) (ht:TRel μ s.tmps s.size a.tmps) (hG:GRel μ G) (hw:WRel μ s.heap w) (Z: ∀b l,μ b=some l->b<s.heap.next\/A.heap.next<=b)
  (hQ: ∀μ' w' N,Post μ s.heap w μ' A.heap w'->TRel μ' A.tmps A.size N.tmps->N.defers=a.defers->Q .normal N w'):(Code.region id ops E).wp P Q a w:=by
 have ad: ∀b,s.heap.next<=b->b<A.heap.next->μ b=none:=by
  intro b h1 h2;cases hb:μ b with
  |none=>rfl
  |some l=>rcases Z b l hb with h3|h3<;>omega
 unfold bN at h
 cases E with
 |false=>
  simp only[cond_false]at h
  refine wp_region ?_
  rw[List.range_eq_range']
  have:=hZ V ops.toList 0 s A rfl h μ a w an ht hG hw ad (Q:=Q) hQ
  simpa using this
 |true=>
  simp only[cond_true]at h
  cases hq:(aP ops&&P.follows .mixedOrders) with
  |false=>rw[hq]at h;cases h
  |true=>
   rw[hq]at h
   simp only[cond_true]at h
   simp only[a0f]at hq
   obtain⟨st,vl,nf,U,g2,g3,g4,g5,_,g7⟩:=gm V ops.toList 0 [] s A rfl (by simp) h an
   have T:Trace P G cf ops st vl nf:=⟨fun k o ho=>g5 k o (a0p _) ho,g3,fun j k ax hk=>g7 j k (a0p _) ax hk,regOK_facts hq.1,fun k=>g4 k (a0p _)⟩
   refine wp_region_any hq.2 ?_
   rw[World.drew_eq]
   have I:=inv_start (a:=a) (w:=w.drew) (μ0:=μ) T (by rw[U];exact ht) (by rw[U];exact hw.drew) (by rw[U,g2];exact Z) (fC (Array.replicate ops.size false)) (fun k=>by
    unfold fC;simp[a0T,Array.getElem?_replicate];split<;>rfl)
   refine any_sound V T hG (fun S μ' N w' hS I'=>?_) ops.size _ μ a w.drew (by simp) (cnt_le _) I
   obtain⟨hp,al,aw⟩:=inv_end T hS I'
   rw[U,g2]at hp
   rw[g2]at al
   refine hQ μ' w' N ((Post.drew hw).trans hp (a0a _) ?_) al aw
   have:=T.monoL (a0p ops.size)
   rwa [U,g2]at this
end
end Go.R
namespace Go.R
open Go.RowKit
def Ex.toExit:Ex->Exit
 | .normal=> .normal
 | .exit id=> .exit id
 | .ret=> .ret
def LoopWp(P:Program)(c:Code)(Q:Exit->Act->World->Prop)(a:Act)(w:World):Prop:=
 ∀(b:Frame) (k:List Item) (cs:List Frame),∃e A w',Q e A w'/\Arrives P (lone (b.at a (.code c:: .inLoop c::k)) cs w) b k cs e A w'
theorem LoopWp.wp{P:Program}{c:Code}{Q:Exit->Act->World->Prop}{a:Act}{w:World}(h:LoopWp P c Q a w):(Code.loop c).wp P Q a w:=
 fun b k cs=>let⟨e,a',w',q,r⟩:=h b k cs;⟨e,a',w',q,.of_steps (.one step_loop) r⟩
theorem LoopWp.round{P:Program}{c:Code}{Q:Exit->Act->World->Prop}{a:Act}{w:World}(h:c.wp P (Exit.then (LoopWp P c Q) Q) a w):LoopWp P c Q a w:=by
 intro b k cs;obtain⟨e,N,T,E,A⟩:=h b (.inLoop c::k) cs;cases e with
 |normal=>
  obtain⟨e₂,Z,w₂,V,U⟩:=E b k cs
  exact⟨e₂,Z,w₂,V,.of_steps (Steps.trans A (.one step_inLoop)) U⟩
 |exit id=>exact⟨_,N,T,E,.pass (x:= .inLoop c) rfl (fun _ _=> .inl (by simp)) A⟩
 |goto l=>exact⟨_,N,T,E,.pass (x:= .inLoop c) rfl (fun _ _=> .inl (by simp)) A⟩
 |ret=>exact⟨_,N,T,E,.pass (x:= .inLoop c) rfl (fun _ _=> .inl (by simp)) A⟩
 |panic ch=>exact⟨_,N,T,E,.pass (x:= .inLoop c) rfl (fun _ _=> .inl (by simp)) A⟩
 |outgrown=>exact⟨_,N,T,E,.pass (x:= .inLoop c) rfl (fun _ _=> .inl (by simp)) A⟩
def Wp(P:Program)(c:Code)(Q:Exit->Act->World->Prop)(a:Act)(w:World):Prop:=
 match c with
 | .loop b=>LoopWp P b Q a w
 |c=>c.wp P Q a w
theorem Wp.wp{P:Program}{c:Code}{Q:Exit->Act->World->Prop}{a:Act}{w:World}(h:Wp P c Q a w):c.wp P Q a w:=by cases c<;>first|exact LoopWp.wp h|exact h
def After(μ:Emb)(s:St)(w:World)(e:Ex)(A:St):Exit->Act->World->Prop:=fun N E T=>
 N=e.toExit/\E.defers=[]/\∃μ',Post μ s.heap w μ' A.heap T/\TRel μ' A.tmps A.size E.tmps
def ExOK(P:Program)(G:Nat)(ex:Code->St->Option (Ex×St)):Prop:= ∀c s e A,ex c s=some (e,A)->WF s.heap->Ext s.heap A.heap/\
 ∀μ a w,a.defers=[]->TRel μ s.tmps s.size a.tmps->GRel μ G->WRel μ s.heap w->(∀b,s.heap.next<=b->b<A.heap.next->μ b=none)->Wp P c (After μ s w e A) a w
section
variable {P:Program} {G:Nat}
theorem j4{μ A:Emb}{H H1 E:Heap}{w w1:World}(hp:Post μ H w A H1 w1)(N:H.next<=H1.next)(Z: ∀b,H.next<=b->b<E.next->μ b=none): ∀b,H1.next<=b->b<E.next->A b=none:=by
 intro b T U;cases V:A b with
 |none=>rfl
 |some l=>
  rcases hp.dom b l V with h|⟨_,h⟩
  ·rw[Z b (a0d N T) U]at h;cases h
  omega
theorem After.trans{μ Z:Emb}{s A T:St}{w V:World}{e:Ex}(hp:Post μ s.heap w Z A.heap V)(h1:s.heap.next<=A.heap.next)(h2:A.heap.next<=T.heap.next):
  ∀N E U,After Z A V e T N E U->After μ s w e T N E U:=by
 rintro N E U ⟨he,hd,μ2,hp2,ht⟩
 exact⟨he,hd,μ2,hp.trans hp2 h1 h2,ht⟩
theorem region_ext{cf:cj}(V:dI P G cf){ops:Array Oper}{E:Bool}{s A:St}(U:WF s.heap)(h:bN P G cf ops E s=some A):Ext s.heap A.heap:=by
 unfold bN at h;cases E with
 |false=>exact gP V _ _ _ U h
 |true=>
  simp only[cond_true]at h
  cases T:(aP ops&&P.follows .mixedOrders) with
  |false=>rw[T]at h;cases h
  |true=>
   rw[T]at h
   simp only[cond_true]at h
   have al: ∀(l:List Oper) (k:Nat) (fs:List (Nat×Inf)) (s A:St),WF s.heap->bn P G cf ops k fs l s=some A->Ext s.heap A.heap:=by
    intro l;induction l with
    |nil=>intro k fs s A _ h;simp only[bn,a00]at h;subst h;exact Ext.refl _
    |cons o os ih=>
     intro k fs s A U h
     unfold bn at h
     split at h
     case h_2=>cases h
     rename_i s1 f N
     cases T:bX (ce ops) k f fs with
     |false=>rw[T]at h;cases h
     |true=>
      rw[T]at h
      simp only[cond_true]at h
      have e1:Ext s.heap s1.heap:=by
       unfold fy at N;split at N
       case h_2=>cases N
       rename_i t ai;simp only[a00,a04]at N;obtain⟨rfl,_⟩:=N;have Z:=iK V (s:={s with heap:={s.heap with log:=[]}}) U ai;obtain⟨d,hd,hs⟩:=Z.log;refine⟨Z.next,⟨cV s.heap.next t.heap.log,rfl,fun b hb hn=>?_⟩,Z.far⟩;refine hs b hb fun hm=>hn (fc.2 ⟨?_,hb⟩)
       rw[hd,a0B];exact hm
      exact e1.trans (ih _ _ _ _ (U.ext e1) h)
   exact al _ _ _ _ _ U h
theorem execC_ok{rec_:Code->St->Option (Ex×St)}{cf:cj}(a4:ExOK P G rec_)(a0:dI P G cf):ExOK P G (ef P G rec_ cf):=by
 intro c;induction c with
 |skip=>
  intro s e s' h hw
  rw[j7]at h
  simp only[a00,a04]at h
  obtain⟨rfl,rfl⟩:=h
  exact⟨Ext.refl _,fun μ a w U E N V _=>wp_skip ⟨rfl,U,μ,Post.refl V,E⟩⟩
 |region id ops draw=>
  intro s e s' h hw
  rw[ff]at h
  unfold dB at h
  split at h
  ·rename_i s1 h1;simp only[a00,a04]at h;obtain⟨rfl,rfl⟩:=h;refine⟨region_ext a0 hw h1,fun μ a w U E N V Z=>?_⟩;refine region_sound a0 h1 hw E N V (fun b l hb=>?_) fun μ' w' a' hp a6 a5=>⟨rfl,a5.trans U,μ',hp,a6⟩
   rcases a0i b s.heap.next with h2|h2
   ·exact .inl h2
   right;rcases a0i b s1.heap.next with h3|h3
   ·rw[Z b h2 h3]at hb;cases hb
   exact h3
  cases h
 |seq x y ihx ihy=>
  intro s e s' h hw
  rw[jv]at h
  cases hx:ef P G rec_ cf x s with
  |none=>rw[hx]at h;cases h
  |some p=>
   obtain⟨e1,s1⟩:=p
   obtain⟨A,T⟩:=ihx s e1 s1 hx hw
   rw[hx]at h
   cases e1 with
   |normal=>
    simp only[fg]at h
    obtain⟨ai,aw⟩:=ihy s1 e s' h (hw.ext A)
    refine⟨A.trans ai,fun μ a w U E N V Z=>wp_seq ?_⟩
    refine wp_mono (T μ a w U E N V (fun b h1 h2=>Z b h1 (a0V h2 ai.next))).wp ?_
    rintro e2 a2 w2 ⟨rfl,hd2,μ2,hp2,ht2⟩
    exact wp_mono (aw μ2 a2 w2 hd2 ht2 (N.mono hp2.ext) hp2.wrel (j4 hp2 A.next Z)).wp (After.trans hp2 A.next ai.next)
   |exit i=>
    simp only[fg,a00,a04]at h
    obtain⟨rfl,rfl⟩:=h
    refine⟨A,fun μ a w U E N V Z=>wp_seq ?_⟩
    refine wp_mono (T μ a w U E N V Z).wp ?_
    rintro e2 a2 w2 ⟨rfl,hrest⟩
    exact⟨rfl,hrest⟩
   |ret=>
    simp only[fg,a00,a04]at h
    obtain⟨rfl,rfl⟩:=h
    refine⟨A,fun μ a w U E N V Z=>wp_seq ?_⟩
    refine wp_mono (T μ a w U E N V Z).wp ?_
    rintro e2 a2 w2 ⟨rfl,hrest⟩
    exact⟨rfl,hrest⟩
 |cond c x y ihx ihy=>
  intro s e s' h hw
  rw[gX]at h
  cases hq:bw G c with
  |false=>rw[hq]at h;cases h
  |true=>
   rw[hq]at h
   simp only[cond_true]at h
   unfold ka at h
   split at h
   ·rename_i t hv;have ax: ∀(μ:Emb) (a:Act),TRel μ s.tmps s.size a.tmps->GRel μ G->a.eval c= .bool t:=by
     intro μ a E N;have:=eval_of N hq (tm:=s.tmps) (a:=a) fun k _=>E.2 k
     rw[hv]at this;exact this.bool_inv
    cases t with
    |true=>
     obtain⟨A,T⟩:=ihx s e s' h hw
     exact⟨A,fun μ a w U E N V Z=>wp_cond_true (ax μ a E N) (T μ a w U E N V Z).wp⟩
    |false=>
     obtain⟨A,T⟩:=ihy s e s' h hw
     exact⟨A,fun μ a w U E N V Z=>wp_cond_false (ax μ a E N) (T μ a w U E N V Z).wp⟩
   cases h
 |block id x ih=>
  intro s e s' h hw
  rw[fS]at h
  cases hx:ef P G rec_ cf x s with
  |none=>rw[hx]at h;cases h
  |some p=>
   obtain⟨e1,s1⟩:=p
   obtain⟨A,T⟩:=ih s e1 s1 hx hw
   rw[hx]at h
   cases e1 with
   |normal=>
    simp only[cN,a00,a04]at h
    obtain⟨rfl,rfl⟩:=h
    refine⟨A,fun μ a w U E N V Z=>wp_block ?_⟩
    refine wp_mono (T μ a w U E N V Z).wp ?_
    rintro e2 a2 w2 ⟨rfl,hrest⟩
    exact⟨rfl,hrest⟩
   |exit i=>
    simp only[cN]at h
    cases hb:Nat.beq i id with
    |true=>
     rw[hb]at h
     simp only[cond_true,a00,a04]at h
     obtain⟨rfl,rfl⟩:=h
     have hi:i=id:=a08 hb
     subst hi
     refine⟨A,fun μ a w U E N V Z=>wp_block ?_⟩
     refine wp_mono (T μ a w U E N V Z).wp ?_
     rintro e2 a2 w2 ⟨rfl,hrest⟩
     simp only[Ex.toExit,Exit.inBlock,if_true]
     exact⟨rfl,hrest⟩
    |false=>
     rw[hb]at h
     simp only[cond_false,a00,a04]at h
     obtain⟨rfl,rfl⟩:=h
     have hi: ¬i=id:=fun e=>by subst e;rw[a13]at hb;cases hb
     refine⟨A,fun μ a w U E N V Z=>wp_block ?_⟩
     refine wp_mono (T μ a w U E N V Z).wp ?_
     rintro e2 a2 w2 ⟨rfl,hrest⟩
     simp only[Ex.toExit,Exit.inBlock,hi,if_false]
     exact⟨rfl,hrest⟩
   |ret=>
    simp only[cN,a00,a04]at h
    obtain⟨rfl,rfl⟩:=h
    refine⟨A,fun μ a w U E N V Z=>wp_block ?_⟩
    refine wp_mono (T μ a w U E N V Z).wp ?_
    rintro e2 a2 w2 ⟨rfl,hrest⟩
    exact⟨rfl,hrest⟩
 |loop x ih=>
  intro s e s' h hw
  rw[gW]at h
  cases hx:ef P G rec_ cf x s with
  |none=>rw[hx]at h;cases h
  |some p=>
   obtain⟨e1,s1⟩:=p
   obtain⟨A,T⟩:=ih s e1 s1 hx hw
   rw[hx]at h
   cases e1 with
   |normal=>
    simp only[fg]at h
    obtain⟨ai,aw⟩:=a4 (.loop x) s1 e s' h (hw.ext A)
    refine⟨A.trans ai,fun μ a w U E N V Z=>LoopWp.round ?_⟩
    refine wp_mono (T μ a w U E N V (fun b h1 h2=>Z b h1 (a0V h2 ai.next))).wp ?_
    rintro e2 a2 w2 ⟨rfl,hd2,μ2,hp2,ht2⟩
    have hl:LoopWp P x (After μ2 s1 w2 e s') a2 w2:=aw μ2 a2 w2 hd2 ht2 (N.mono hp2.ext) hp2.wrel (j4 hp2 A.next Z)
    intro b k cs
    obtain⟨e3,a3,w3,q,r⟩:=hl b k cs
    exact⟨e3,a3,w3,After.trans hp2 A.next ai.next _ _ _ q,r⟩
   |exit i=>
    simp only[fg,a00,a04]at h
    obtain⟨rfl,rfl⟩:=h
    refine⟨A,fun μ a w U E N V Z=>LoopWp.round ?_⟩
    refine wp_mono (T μ a w U E N V Z).wp ?_
    rintro e2 a2 w2 ⟨rfl,hrest⟩
    exact⟨rfl,hrest⟩
   |ret=>
    simp only[fg,a00,a04]at h
    obtain⟨rfl,rfl⟩:=h
    refine⟨A,fun μ a w U E N V Z=>LoopWp.round ?_⟩
    refine wp_mono (T μ a w U E N V Z).wp ?_
    rintro e2 a2 w2 ⟨rfl,hrest⟩
    exact⟨rfl,hrest⟩
 |exit id=>
  intro s e s' h hw
  rw[j8]at h
  simp only[a00,a04]at h
  obtain⟨rfl,rfl⟩:=h
  exact⟨Ext.refl _,fun μ a w U E N V _=>wp_exit ⟨rfl,U,μ,Post.refl V,E⟩⟩
 |ret=>
  intro s e s' h hw
  rw[execC_ret]at h
  simp only[a00,a04]at h
  obtain⟨rfl,rfl⟩:=h
  exact⟨Ext.refl _,fun μ a w U E N V _=>wp_ret ⟨rfl,U,μ,Post.refl V,E⟩⟩
 |rangeFunc f ps x y _ _=>intro s e s' h;cases h
 |scope x _=>intro s e s' h;cases h
 |label l=>intro s e s' h;cases h
 |goto l=>intro s e s' h;cases h
 |refuse m=>intro s e s' h;cases h
theorem fY: ∀(args:List Value) (i:Nat) (t:Tr Value) (k:Nat),cE (ep i args t) k=if i<=k/\k<i+args.length then args.getD (k-i) undef else cE t k
 | [],i,t,k=>by rw[if_neg (by simp only[a0e];omega)];rfl
 |v::l,i,t,k=>by
  simp only[ep];rw[fY l (i+1) _ k];by_cases A:i+1<=k/\k<i+1+l.length
  ·rw[if_pos A,if_pos (by simp only[a09];omega),show k-i=(k-(i+1))+1 by omega];rfl
  rw[if_neg A,fe];by_cases E:i=k
  ·subst E;rw[if_pos rfl,if_pos (by simp only[a09];omega)];simp
  rw[if_neg E,if_neg (by simp only[a09];omega)]
theorem args_rel{μ:Emb}{args:List Value}{A:Array Value}(h:LRel μ args A.toList)(n:Nat):
  TRel μ (ep 0 args .nil) (Nat.max args.length n) (A++Array.replicate (n-A.size) undef):=by
 have T:args.length=A.size:=by rw[h.1];simp
 refine⟨by simp only[Array.size_append,Array.size_replicate];rw[T];show _=max _ _;omega,fun i=>?_⟩
 rw[fY]
 simp only[a0p,true_and,a1x,Nat.sub_zero,lget_nil,a0T,Array.getElem?_append]
 by_cases hi:i<args.length
 ·rw[if_pos hi,if_pos (by omega)];have E:args[i]?=some args[i]:=a06 hi;obtain⟨v',N,U⟩:=h.get E;have:A[i]?=some v':=by simpa using N
  rw[this,a02,E];exact U
 rw[if_neg hi,if_neg (by omega)]
 rw[Array.getElem?_replicate]
 split
 ·exact VRel.undef
 exact VRel.undef
theorem fG{μ:Emb}{s:St}{a:Array Value}{w:World}(E:TRel μ s.tmps s.size a)(V:WRel μ s.heap w): ∀(rs:List ResultVar) (l:List Value),cz P s rs=some l->
  ∃l',(rs.mapM (m:=Sem) fun| .tmp t=>Pure.pure (a.getD t undef)| .cell x t=>do loadVar t (←asAddr (a.getD x undef))).run P w= .ok l' w/\LRel μ l l'
 | [],l,h=>by simp only[cz,a00]at h;subst h;exact⟨[],by simp,.nil⟩
 | .tmp t::rs,l,h=>by
  unfold cz at h;split at h
  ·rename_i l1 T;injection h with h;subst h;obtain⟨l',A,U⟩:=fG E V rs l1 T;exact⟨a.getD t undef::l',by simp only[List.mapM_cons,Sem.run_bind,Sem.run_pure,Result.andThen_ok,A],.cons (E.2 t) U⟩
  cases h
 | .cell x t::rs,l,h=>by
  unfold cz at h;split at h
  ·rename_i p hp;split at h
   ·rename_i v l1 hv T;injection h with h;subst h;obtain⟨l',A,U⟩:=fG E V rs l1 T;have Z:=E.2 x;rw[hp]at Z;obtain⟨b,o,sp⟩:=p;have ai:sp=none:=Z.ptr_some.1;subst ai;obtain⟨N,hμ,an⟩:=Z.ptr_inv;obtain⟨v',ag,al⟩:=fQ (P:=P) V hμ hv;exact⟨v'::l',by simp only[List.mapM_cons,Sem.run_bind,an,show(asAddr (Value.pointer (some ⟨N.c,N.sh+o,none⟩))).run P w= .ok ⟨N.c,N.sh+o,none⟩ w from rfl,Sem.run_pure,Result.andThen_ok,ag,A],.cons al U⟩
   cases h
  cases h
theorem result_rel{μ:Emb}{l l':List Value}(h:LRel μ l l'):VRel μ (dW l) (if h:l'.toArray.size=1 then l'.toArray[0] else .tuple l'.toArray):=by
 match l,l',h with
 | [],l',h=>
  have:=h.nil_left
  subst this
  exact .tuple _ _ rfl (fun i v v' h=>by simp at h)
 | [v],l',h=>
  obtain⟨v',t,rfl,E,A⟩:=h.cons_left
  have:=A.nil_left
  subst this
  exact E
 |v::u::r,l',h=>
  obtain⟨v',t,rfl,E,A⟩:=h.cons_left
  obtain⟨V,U,rfl,T,N⟩:=A.cons_left
  simp only[List.size_toArray,a09,show ¬(U.length+1+1=1) by omega,dite_false]
  have:=LRel.cons E (LRel.cons T N)
  exact .tuple _ _ (by simpa[dW] using this.1) (by simpa[dW] using this.2)
theorem kO{μ:Emb}{s:St}{fn:Func}{a:Array Value}{w:World}(T:TRel μ s.tmps s.size a)(U:WRel μ s.heap w){l:List Value}(h:cz P s fn.results.toList=some l):
  ∃v',(results fn a).run P w= .ok v' w/\VRel μ (dW l) v':=by
 obtain⟨l',E,A⟩:=fG (P:=P) T U _ l h
 refine⟨_,?_,result_rel A⟩
 unfold results
 rw[Array.mapM_eq_mapM_toList]
 simp only[Sem.run_bind,Sem.run_map]
 have e: ∀(r:Result (List Value)),r= .ok l' w->((r.andThen fun a w'=>(.ok a.toArray w':Result (Array Value))).andThen fun N w'=>((Pure.pure (if h:N.size=1 then N[0] else Value.tuple N):Sem Value).run P w'))=
   .ok (if h:l'.toArray.size=1 then l'.toArray[0] else .tuple l'.toArray) w:=by
  intro r A;subst A;rfl
 exact e _ E
theorem callC_ok{ex:Code->St->Option (Ex×St)}(V:ExOK P G ex):dI P G (ld P ex):=by
 intro f args H v H' h ag;unfold ld at h;split at h
 case h_2=>cases h
 rename_i fn Z;split at h
 case h_2=>cases h
 rename_i c hc;have U: ∀e s,(e=Ex.normal\/e=Ex.ret)->ex c {tmps:=ep 0 args .nil,size:=Nat.max args.length fn.ntmps,heap:=H}=some (e,s)->
   (match cz P s fn.results.toList with|some l=>some (dW l,s.heap)|none=>none)=some (v,H')->Ext H H'/\
   ∀μ w (A:Array Value),LRel μ args A.toList->GRel μ G->WRel μ H w->(∀b,H.next<=b->b<H'.next->μ b=none)->
    Calls P f A w fun e w'=> ∃μ' v',e= .returned v'/\VRel μ' v v'/\Post μ H w μ' H' w':=by
  intro e s he T E
  split at E
  ·rename_i l hl;simp only[a00,a04]at E;obtain⟨rfl,rfl⟩:=E;obtain⟨ext,ai⟩:=V c _ e s T ag;refine⟨ext,fun μ w A ha hG hw hf=>?_⟩;refine calls_of_wp Z hc ?_;refine wp_mono (ai μ {tmps:=A++Array.replicate (fn.ntmps-A.size) undef,defers:=[]} w rfl (args_rel ha fn.ntmps) hG hw hf).wp ?_;rintro e2 a2 w2 ⟨rfl,hd,μ',hp,ht⟩;obtain⟨v',N,hr⟩:=kO (P:=P) (fn:=fn) ht hp.wrel hl;rcases he with rfl|rfl
   ·exact⟨hd,v',N,μ',v',rfl,hr,hp⟩
   exact⟨hd,v',N,μ',v',rfl,hr,hp⟩
  cases E
 split at h
 ·rename_i s T;exact U .normal s (.inl rfl) T h
 ·rename_i s T;exact U .ret s (.inr rfl) T h
 cases h
def KnownOK(P:Program)(G:Nat)(K:bL):Prop:= ∀f args H v,K f args H=some v->args.all noA2=true/\noA2 v=true/\∀(μ:Emb) (A:Array Value) (w:World),A.toList=args->GRel μ G->WRel μ H w->
 Calls P f A w fun e w'=>e= .returned v/\Below w.heap.size w w'
theorem LRel.eq2{μ:Emb}{l l':List Value}(h:LRel μ l l')(h0:l.all noA2=true):l'=l:=by
 induction l generalizing l' with
 |nil=>exact h.nil_left
 |cons v l ih=>
  obtain⟨v',N,rfl,E,A⟩:=h.cons_left
  simp only[a1u,a0f]at h0
  rw[E.eq2 h0.1,ih A h0.2]
theorem callK_ok{K:bL}{cf:cj}(hK:KnownOK P G K)(U:dI P G cf):dI P G (jM K cf):=by
 intro f args H v H' h ad;unfold jM at h;split at h
 ·rename_i u hu;simp only[a00,a04]at h;obtain⟨rfl,rfl⟩:=h;obtain⟨h1,h2,h3⟩:=hK f args H u hu;refine⟨Ext.refl _,fun μ w A ha hG T hf=>?_⟩;refine(h3 μ A w (ha.eq2 h1) hG T).mono ?_;rintro e w' ⟨rfl,hb⟩;refine⟨μ,u,rfl,VRel.refl2 h2,⟨fun _ _ h=>h,fun _ _ h=> .inl h,hb.size,hb.os,hb.tape,hb.output,fun c hc _=>hb.block c hc,fun b l o E N h6=> .inr ⟨b,l,o,E,N,h6,id,rfl⟩,⟨fun b l o E N=>?_,T.inj⟩⟩⟩;have Z:=T.obj b l o E N;exact Z.keep (fun _ _ h=>h) hb.size (fun V=>hb.block l.c (Z.lt V))
 exact U f args H v H' h ad
theorem exec_ok{K:bL}(A:KnownOK P G K): ∀n,ExOK P G (j9 P G K n)
 |0=>fun c s e E h=>by cases h
 |n+1=>execC_ok (exec_ok A n) (callK_ok A (callC_ok (exec_ok A n)))
theorem call_ok{K:bL}(A:KnownOK P G K)(n:Nat):dI P G (call P G K n):=callK_ok A (callC_ok (exec_ok A n))
theorem none_ok:KnownOK P G noneKnown:=fun f args H v h=>by cases h
end
end Go.R
namespace Go.R
open Go.RowKit
open Go.WideShapes Go.ChangeShapes in
theorem kP{H:Type}{enc:TypeId×Value->H}{P:Program}{f:Func}{s:ChangeSpec}{T av ag ar:Bool}{W W':World}{args:Array Value}{v:Value}{ds gs:List (DataW H)}{A pa pv:List MemPlace}
  (hW:DataW.Whole enc P f.params.toList s.vars T W args.toList ds gs A)
  (ao: ∀(b:Nat) (N:Nat->Bool) (hd:Bool),DataW.TrodAll enc P W' b N hd f.resultTypes.toList (v.resultList f.resultTypes.size) (s.fn H (ds++gs)).results [])
  (U: ∀N:Nat->Bool,(∀p∈A,N p.block=true)->DataW.TrodAll enc P W' 0 N true f.params.toList args.toList (s.fn H (ds++gs)).args pa)
  (Z: ∀N:Nat->Bool,(∀p∈A,N p.block=true)->DataW.TrodVars enc P W' N s.vars (s.fn H (ds++gs)).vars pv)
  (V:A=pa++pv) (hb:Below W.heap.size W W')
  (a3: ∀(j:Nat) (t:TypeId) (r:Value),f.resultTypes[j]?=some t->(v.resultList f.resultTypes.size)[j]?=some r->Value.okWide P W' .any 0 t r):
  s.post enc P f T av ag ar W args v W':=by
 have an: ∀p∈A,(fun b=>decide (b<W.heap.size)) p.block=true:=fun p E=>by simpa using hW.lt p E
 have a2: ∀p∈A,p.block<W.heap.size:=fun p E=>by simpa using hW.lt p E
 refine⟨ds,gs,A,[],pa,pv,hW,ao _ _ _,U _ an,Z _ an,World.keptBut_mono (fun p E=>⟨E,?_⟩) (hb.frame (· ∈A)),fun _=>?_⟩
 ·rw[V,a07]at E;exact Or.inr E
 obtain⟨_,_,_,_,_,hz,hn⟩:=hW
 refine⟨a3,_,_,([]++pa)++pv,⟨[]++pa,pv,trodAll_append (U _ (fun _ _=>rfl)) (ao _ _ _),Z _ (fun _ _=>rfl),rfl,?_,?_⟩,?_⟩
 ·intro b off E;have ax:MemPlace.cell b off∈A:=by rw[V];simpa using E
  have h1:=hb.frozen (p:=⟨b,off,none⟩) (a2 _ ax);have h2:=hz b off ax;first|(rw[h1];exact h2)|(exact h1.trans h2)|(simp_all)
 ·intro ha;have:=hn ha;rw[V]at this;simpa using this
 intro p E _
 rw[V]
 simpa using E
end Go.R
noncomputable section
namespace Go.R
open Go.RowKit
section
variable {P:Program} {w:World} {base:Nat} {held:Bool} {enc:TypeId×Value->Unit}
def lit1(P:Program)(t:TypeId)(d:DataW Unit):Option Value:=
 match P.underlying t,d with
 |some .bool,.lit (.bool b)=>some (.bool b)
 |some (.int k),.lit (.int _ n)=>some (.int k n)
 |some .string,.lit (.string l)=>some (.string ⟨⟨l⟩⟩)
 |_,_=>none
theorem cells_lit1{T:Nat->Bool}{fuel:Nat}{t:TypeId}{cs:List Value}{d:DataW Unit}{p:List MemPlace}{v:Value}(h:DataW.trod enc P w base T held fuel t cs=some (d,p))(A:lit1 P t d=some v):cs=[v]:=by
 unfold lit1 at A;split at A
 ·rename_i N;obtain⟨b,rfl,E⟩:=DataW.trod_bool N h;simp only[a04,DataW.lit.injEq,Lit.bool.injEq]at E;injection A with A;subst A;rw[E.1]
 ·rename_i N;obtain⟨n,rfl,E,_⟩:=DataW.trod_int N h;simp only[a04,DataW.lit.injEq,Lit.int.injEq]at E;injection A with A;subst A;rw[E.1.2]
 ·rename_i N;obtain⟨s,rfl,E,_⟩:=DataW.trod_string N h;simp only[a04,DataW.lit.injEq,Lit.string.injEq]at E;injection A with A;subst A;rw[E.1]
 cases A
def flatFs(P:Program):Nat->List Field->Bool
 |_,[]=>true
 |i,f::fs=>Nat.beq f.offset i&&Nat.beq (P.cellsOf f.type) 1&&flatFs P (i+1) fs
theorem flatFs_at: ∀(fs:List Field) (i j:Nat) (f:Field),flatFs P i fs=true->fs[j]?=some f->f.offset=i+j/\P.cellsOf f.type=1
 | [],_,_,_,_,h=>by simp at h
 |g::fs,i,0,f,h,hf=>by simp only[flatFs,a0f]at h;simp only[a0Y,a00]at hf;subst hf;exact⟨a08 h.1.1,a08 h.1.2⟩
 |g::fs,i,j+1,f,h,hf=>by simp only[flatFs,a0f]at h;have:=flatFs_at fs (i+1) j f h.2 (by simpa using hf);exact⟨by omega,this.2⟩
def litFs(P:Program):List Field->List (DataW Unit)->Option (List Value)
 | [],[]=>some []
 |f::fs,d::ds=>
  match lit1 P f.type d,litFs P fs ds with
  |some v,some l=>some (v::l)
  |_,_=>none
 |_,_=>none
theorem kS: ∀(fs:List Field) (ds:List (DataW Unit)) (l:List Value),litFs P fs ds=some l->l.length=fs.length/\ds.length=fs.length/\∀(i:Nat) f d,fs[i]?=some f->ds[i]?=some d->∃v,l[i]?=some v/\lit1 P f.type d=some v
 | [],[],l,h=>by simp only[litFs,a00]at h;subst h;exact⟨rfl,rfl,fun i f d h=>by simp at h⟩
 | [],_::_,l,h=>by cases h
 |_::_,[],l,h=>by cases h
 |f::fs,d::ds,l,h=>by
  simp only[litFs]at h;split at h
  ·rename_i v l1 Z V;injection h with h;subst h;obtain⟨N,T,U⟩:=kS fs ds l1 V;refine⟨by simp[N],by simp[T],fun i g e E A=>?_⟩;cases i with
   |zero=>simp only[a0Y,a00]at E A;subst E A;exact⟨v,rfl,Z⟩
   |succ i=>exact U i g e (by simpa using E) (by simpa using A)
  cases h
theorem cells_struct{A:Nat->Bool}{fuel:Nat}{t:TypeId}{fs:Array Field}{cs:List Value}{T:List (DataW Unit)}{p:List MemPlace}{vs:List Value}(ht:P.underlying t=some (.struct fs))(ao:flatFs P 0 fs.toList=true)(hc:P.cellsOf t=fs.size)
  (h:DataW.trod enc P w base A held fuel t cs=some (.agg T,p)) (hv:litFs P fs.toList T=some vs):cs=vs:=by
 obtain⟨xs,n,_,hx,V,a5,U⟩:=DataW.trod_struct ht h
 simp only[a04,DataW.agg.injEq]at hx
 obtain⟨h1,h2,h3⟩:=kS _ _ _ hv
 have a1:=h1
 apply a19
 intro i
 by_cases hi:i<fs.size
 ·have hf:fs[i]?=some fs[i]:=a0H hi;have E:fs.toList[i]?=some fs[i]:=by simp[hf]
  obtain⟨ho,ag⟩:=flatFs_at _ 0 i _ ao E;have hr:=U i _ hf;have N:xs[i]?=some (xs[i]'(by omega)):=a06 (by omega);have al:T[i]?=some (xs[i]'(by omega)).1:=by rw[hx.1];simp[N]
  obtain⟨v,aw,ar⟩:=h3 i _ _ E al;rw[N]at hr;have ai:=cells_lit1 (p:=(xs[i]'(by omega)).2) hr ar;rw[aw];have Z:((cs.drop fs[i].offset).take (P.cellsOf fs[i].type))[0]?=some v:=by rw[ai];rfl
  rw[ag,ho,a0x,if_pos (by omega),a0I]at Z;simpa using Z
 rw[a0C (by rw[V,hc];omega),a0C (by rw[h1];simpa using hi)]
def litRows(P:Program)(fs:List Field):List (DataW Unit)->Option (List (List Value))
 | []=>some []
 | .agg ds::r=>
  match litFs P fs ds,litRows P fs r with
  |some l,some m=>some (l::m)
  |_,_=>none
 |_::_=>none
theorem jX{fs:List Field}: ∀(ds:List (DataW Unit)) (m:List (List Value)),litRows P fs ds=some m->m.length=ds.length/\∀(i:Nat) l,m[i]?=some l->∃es,ds[i]?=some (.agg es)/\litFs P fs es=some l
 | [],m,h=>by simp only[litRows,a00]at h;subst h;exact⟨rfl,fun i l h=>by simp at h⟩
 |d::r,m,h=>by
  cases d<;>first|(cases h;done)|skip
  rename_i es;simp only[litRows]at h;split at h
  ·rename_i l m1 T U;injection h with h;subst h;obtain⟨E,N⟩:=jX r m1 U;refine⟨by simp[E],fun i l' A=>?_⟩;cases i with
   |zero=>simp only[a0Y,a00]at A;subst A;exact⟨es,rfl,T⟩
   |succ i=>exact N i l' (by simpa using A)
  cases h
theorem cells?_at{a:Addr}: ∀{n:Nat} {l:List Value},w.cells? base a n=some l->∀i,i<n->l[i]?=w.cell? (a.add i)/\(w.cell? (a.add i)).isSome:=by
 intro n l h i hi;unfold World.cells? at h;split at h
 ·have T: ∀(r:List Nat) (l:List Value),r.mapM (fun i=>w.cell? (a.add i))=some l->∀(j:Nat) k,r[j]?=some k->l[j]?=w.cell? (a.add k)/\(w.cell? (a.add k)).isSome:=by
   intro r;induction r with
   |nil=>intro l _ j k A;simp at A
   |cons x r ih=>
    intro l E j k A
    simp only[List.mapM_cons,Option.bind_eq_bind,Option.bind_eq_some_iff]at E
    obtain⟨v,N,m,U,E⟩:=E
    cases E
    cases j with
    |zero=>simp only[a0Y,a00]at A;subst A;exact⟨by rw[N];rfl,by rw[N];rfl⟩
    |succ j=>exact ih m U j k (by simpa using A)
  exact T _ _ h i i (by rw[List.getElem?_range hi])
 cases h
theorem j6(k:Nat)(A:0<k): ∀(m:List (List Value)),(∀l∈m,l.length=k)->∀(i:Nat) v,m.flatten[i]?=some v->∃l,m[i/k]?=some l/\l[i%k]?=some v
 | [],_,i,v,h=>by simp at h
 |l::m,hm,i,v,h=>by
  have V:=hm l (a0y ..);rw[a0K]at h;by_cases hi:i<k
  ·rw[a0N (by omega)]at h;exact⟨l,by rw[Nat.div_eq_of_lt hi];rfl,by rw[Nat.mod_eq_of_lt hi];exact h⟩
  rw[a0X (by omega),V]at h;obtain⟨l',T,U⟩:=j6 k A m (fun x Z=>hm x (a0j _ Z)) (i-k) v h;have E:i/k=(i-k)/k+1:=by rw[Nat.div_eq_sub_div A (by omega)]
  have N:i%k=(i-k)%k:=by rw[Nat.mod_eq_sub_mod (by omega)]
  exact⟨l',by rw[E];exact T,by rw[N];exact U⟩
theorem cells_table{fuel:Nat}{t e:TypeId}{fs:Array Field}{cs:List Value}{E:List (DataW Unit)}{p:List MemPlace}{m:List (List Value)}(ht:P.underlying t=some (.slice e))(he:P.underlying e=some (.struct fs))(bl:flatFs P 0 fs.toList=true)
  (hc:P.cellsOf e=fs.size) (U:0<fs.size) (co:0<E.length) (h:DataW.trod enc P w base (fun _=>true) held fuel t cs=some (.slice E [],p)) (hv:litRows P fs.toList E=some m):
  ∃c o,cs=[.slice (some ⟨c,o,none⟩) E.length E.length]/\∀i v,m.flatten[i]?=some v->w.cell? ⟨c,o+i,none⟩=some v:=by
 rcases DataW.trod_slice ht h with⟨_,hx⟩|⟨a,len,N,A,a1,n,_,a6,hx,_,hl,_,ax,bk,b3,_⟩
 ·simp at hx
 simp only[a04,DataW.slice.injEq]at hx
 obtain⟨⟨hd,hr⟩,_⟩:=hx
 have c3:a1.length=0:=by have:=congrArg List.length hr;simpa using this.symm
 have b7:=(b3 rfl).1
 have a9:E.length=len:=by rw[hd];simpa using ax
 have a5:N=len:=by omega
 subst a5
 obtain⟨c0,b2⟩:=jX _ _ hv
 obtain⟨c,o,sp⟩:=a
 have cell: ∀j,j<N->∃l,m[j]?=some l/\l.length=fs.size/\∀q,q<fs.size->w.cell? ((Addr.mk c o sp).add (j*fs.size)|>.add q)=l[q]?/\(w.cell? ((Addr.mk c o sp).add (j*fs.size)|>.add q)).isSome:=by
  intro j V;have ao:m[j]?=some (m[j]'(by omega)):=a06 (by omega);obtain⟨es,bb,an⟩:=b2 j _ ao;have hE:=bk j V;rw[hc]at hE;have hy:A[j]?=some (A[j]'(by omega)):=a06 (by omega);rw[hy]at hE;simp only[Option.bind_eq_some_iff]at hE;obtain⟨c1,a4,b5⟩:=hE;have a8:(A[j]'(by omega)).1= .agg es:=by
   have e0:E[j]?=some (A[j]'(by omega)).1:=by rw[show E[j]?=(List.map (fun x=>x.fst) A)[j]? from by rw[←hd],a1f,hy];rfl
   rw[bb]at e0;exact(Option.some.inj e0).symm
  have ay:=cells_struct (p:=(A[j]'(by omega)).2) he bl hc (by rw[b5,←a8]) an;subst ay;refine⟨_,ao,(kS _ _ _ an).1.trans (by simp),fun q hq=>?_⟩;have:=cells?_at a4 q hq;exact⟨this.1.symm,this.2⟩
 have a0:sp=none:=by
  obtain⟨l,_,_,Z⟩:=cell 0 (by omega);have:=(Z 0 U).2;cases sp with
  |none=>rfl
  |some z=>
   exfalso
   simp only[Addr.add,World.cell?,if_true]at this
   split at this<;>simp at this
 subst a0
 refine⟨c,o,by rw[a6,a9],fun i v bz=>?_⟩
 have aw: ∀l∈m,l.length=fs.size:=by intro l hl;obtain⟨j,V,rfl⟩:=a0E.1 hl;obtain⟨l',T,h2,_⟩:=cell j (by omega);rw[a06 V]at T;rw[Option.some.inj T];exact h2
 obtain⟨l,T,h2⟩:=j6 fs.size U m aw i v bz
 have V:i/fs.size<N:=by have:=(a0n.1 T).1;omega
 obtain⟨l',Z,h4,h5⟩:=cell _ V
 rw[T]at Z
 obtain rfl:=Option.some.inj Z
 have h6:=(h5 (i%fs.size) (Nat.mod_lt _ U)).1
 rw[h2]at h6
 have e:o+i/fs.size*fs.size+i%fs.size=o+i:=by rw[a1l,Nat.mul_comm,Nat.div_add_mod]
 have ad: ∀x k:Nat,(Addr.mk c x none).add k=⟨c,x+k,none⟩:=by
  intro x k;unfold Addr.add;by_cases hk:k=0
  ·subst hk;rfl
  simp[hk]
 rw[ad,ad,e]at h6
 exact h6
end
theorem cu(n:Nat)(cells:List Value)(b:Nat):(tabHeap n cells).get b=if b=1 then some (.cells cells none true) else if b=0 then some (.cells [.slice (some ⟨1,0,none⟩) n n] none true) else none:=by
 show((Tr.nil.set 0 _).set 1 _).get b=_;by_cases A:b=1
 ·subst A;rw[if_pos rfl,Tr.get_set_same]
 rw[if_neg A,Tr.get_set_ne _ _ (Ne.symm A)];by_cases h0:b=0
 ·subst h0;rw[if_pos rfl,Tr.get_set_same]
 rw[if_neg h0,Tr.get_set_ne _ _ (Ne.symm h0)];rfl
theorem ble_pos(n:Nat)(h:Nat.ble 1 n=true):0<n:=a03 h
theorem iA{P:Program}{K:bL}(hK:KnownOK P 1 K){n m:Nat}{f:FuncId}{cells:List Value}(h:saysTrue (call P 1 K n f [] (tabHeap m cells))=true)(av:cells.all noA0=true){w:World}{c o:Nat}
  (h0:w.cell? ⟨0,0,none⟩=some (.slice (some ⟨c,o,none⟩) m m)) (ax:cells≠ []) (h1: ∀i v,cells[i]?=some v->w.cell? ⟨c,o+i,none⟩=some v):
  Calls P f #[] w fun e w'=>e= .returned (.bool true)/\Below w.heap.size w w':=by
 have Z: ∀{a:Addr} {v:Value},w.cell? a=some v->a.block<w.heap.size:=by
  intro a v E;unfold World.cell? at E;split at E
  ·rename_i T;exact(a0z.1 T).1
  cases E
 revert h
 cases aw:call P 1 K n f [] (tabHeap m cells) with
 |none=>intro h;cases h
 |some r=>
  obtain⟨v,H'⟩:=r
  intro h
  have E:v= .bool true:=by
   unfold saysTrue at h;split at h
   ·rename_i T;simp only[a00,a04]at T;exact T.1
   cases h
  subst E
  have ay:WF (tabHeap m cells):=fun b U=>by have N:2<=b:=U;rw[cu,if_neg (by omega),if_neg (by omega)]
  obtain⟨_,V⟩:=call_ok (G:=1) hK n f [] (tabHeap m cells) (.bool true) H' aw ay
  let μ:Emb:=fun b=>if b=1 then some ⟨c,o,none,0⟩ else if b=0 then some ⟨0,0,none,0⟩ else none
  have ad: ∀b x,(tabHeap m cells).get b=some x->x.rw=false:=by
   intro b x A;rw[cu]at A;split at A
   ·injection A with A;subst A;rfl
   split at A
   ·injection A with A;subst A;rfl
   cases A
  have ai:WRel μ (tabHeap m cells) w:=by
   refine⟨fun b l x U A=>?_,fun b1 b2 l1 l2 o1 o2 _ _ _ h3 _ h5 _=>?_⟩
   ·rw[cu]at A;by_cases e1:b=1
    ·subst e1;rw[if_pos rfl]at A;injection A with A;subst A;have N:l=⟨c,o,none,0⟩:=(Option.some.inj U).symm;subst N;refine⟨rfl,rfl,?_,fun i v E=>⟨v,h1 i v E,.atom v (a0v.1 av v (a0l E))⟩⟩;cases cells with
     |nil=>exact absurd rfl ax
     |cons v r=>exact Z (h1 0 v rfl)
    rw[if_neg e1]at A;by_cases e0:b=0
    ·subst e0;rw[if_pos rfl]at A;injection A with A;subst A;have N:l=⟨0,0,none,0⟩:=(Option.some.inj U).symm;subst N;refine⟨rfl,rfl,Z h0,fun i v E=>?_⟩;cases i with
     |zero=>
      simp only[a0Y,a00]at E;subst E
      exact⟨_,h0,.sliceC 1 0 m m ⟨c,o,none,0⟩ rfl rfl⟩
     |succ i=>simp at E
    rw[if_neg e0]at A;cases A
   rw[ad b1 o1 h3]at h5;cases h5
  refine(V μ w #[] LRel.nil (fun g hg=>?_) ai (fun b U _=>?_)).mono ?_
  ·have:g=0:=by omega
   subst this;exact⟨⟨0,0,none,0⟩,rfl,rfl,rfl⟩
  ·have N:2<=b:=U;show(if b=1 then _ else if b=0 then _ else none)=none;rw[if_neg (by omega),if_neg (by omega)]
  rintro e w' ⟨μ',v',rfl,hr,hp⟩
  rw[hr.eq2 rfl]
  refine⟨rfl,hp.os,hp.tape,hp.out,hp.grow,fun k hk=>hp.keep k hk fun b l x _ A ag=>?_⟩
  rw[ad b x A]at ag;cases ag
end Go.R
end
namespace Go.R
def CfLe(cf cf':cj):Prop:= ∀f a H r,cf f a H=some r->cf' f a H=some r
def ExLe(ex A:Code->St->Option (Ex×St)):Prop:= ∀c s r,ex c s=some r->A c s=some r
section
variable {P:Program} {G:Nat} {cf cf':cj} {ops:Array Oper}
theorem step_mono(h:CfLe cf cf'){o:Oper}{s N:St}(hs:step P G cf ops o s=some N):step P G cf' ops o s=some N:=by
 unfold step at hs⊢;cases E:bd ops o s.tmps with
 |false=>rw[E]at hs;exact hs
 |true=>
  rw[E]at hs
  cases A:o.op.operands.toList.all (bw G) with
  |false=>rw[A]at hs;cases hs
  |true=>
   rw[A]at hs
   simp only[cond_true]at hs⊢
   split at hs
   ·exact hs
   ·exact hs
   ·split at hs
    ·rename_i v T hc;rw[h _ _ _ _ hc];exact hs
    cases hs
   cases hs
theorem fE(h:CfLe cf cf'): ∀(l:List Oper) (s A:St),eU P G cf ops l s=some A->eU P G cf' ops l s=some A
 | [],_,_,hs=>hs
 |o::l,s,A,hs=>by
  rw[bU]at hs⊢;split at hs
  ·rename_i t E;rw[step_mono h E];exact fE h l _ _ hs
  cases hs
theorem stepD_mono(h:CfLe cf cf'){o:Oper}{s:St}{r:St×Inf}(hs:fy P G cf ops o s=some r):fy P G cf' ops o s=some r:=by
 unfold fy at hs⊢;split at hs
 ·rename_i t A;rw[step_mono h A];exact hs
 cases hs
theorem dD(h:CfLe cf cf'): ∀(l:List Oper) (i:Nat) (fs:List (Nat×Inf)) (s s':St),bn P G cf ops i fs l s=some s'->bn P G cf' ops i fs l s=some s'
 | [],_,_,_,_,hs=>by unfold bn at hs⊢;exact hs
 |o::l,i,fs,s,s',hs=>by
  unfold bn at hs⊢;split at hs
  ·rename_i t f E;rw[stepD_mono h E];simp only;cases A:bX (ce ops) i f fs with
   |false=>rw[A]at hs;cases hs
   |true=>rw[A]at hs;simp only[cond_true]at hs⊢;exact dD h l _ _ _ _ hs
  cases hs
theorem jK(h:CfLe cf cf'){A:Bool}{s N:St}(hs:bN P G cf ops A s=some N):bN P G cf' ops A s=some N:=by
 unfold bN at hs⊢;cases A with
 |false=>exact fE h _ _ _ hs
 |true=>
  simp only[cond_true]at hs⊢
  cases E:aP ops&&P.follows .mixedOrders with
  |false=>rw[E]at hs;cases hs
  |true=>rw[E]at hs;simp only[cond_true]at hs⊢;exact dD h _ _ _ _ _ hs
theorem ft{r N:Option (Ex×St)}{k E:St->Option (Ex×St)}(U: ∀x,r=some x->N=some x)(T: ∀s x,k s=some x->E s=some x){x:Ex×St}(h:fg r k=some x):fg N E=some x:=by
 cases A:r with
 |none=>rw[A]at h;cases h
 |some y=>
  rw[U y A]
  rw[A]at h
  obtain⟨e,s⟩:=y
  cases e with
  |normal=>exact T _ _ h
  |exit i=>exact h
  |ret=>exact h
theorem ig{id:Nat}{r E:Option (Ex×St)}(N: ∀x,r=some x->E=some x){x:Ex×St}(h:cN id r=some x):cN id E=some x:=by
 cases A:r with
 |none=>rw[A]at h;cases h
 |some y=>rw[N y A];rw[A]at h;exact h
theorem execC_mono(h:CfLe cf cf'){ex N:Code->St->Option (Ex×St)}(T:ExLe ex N)(c:Code): ∀(s:St) (x:Ex×St),ef P G ex cf c s=some x->ef P G N cf' c s=some x:=by
 induction c with
 |skip=>intro s x A;exact A
 |region id ops draw=>
  intro s x A
  rw[ff]at A⊢
  cases E:bN P G cf ops draw s with
  |none=>rw[E]at A;cases A
  |some t=>rw[jK h E];rw[E]at A;exact A
 |seq a b iha ihb=>
  intro s x A
  rw[jv]at A⊢
  exact ft (iha s) ihb A
 |cond c t e iht ihe=>
  intro s x A
  rw[gX]at A⊢
  cases E:bw G c with
  |false=>rw[E]at A;cases A
  |true=>
   rw[E]at A
   simp only[cond_true]at A⊢
   unfold ka at A⊢
   split at A
   ·rename_i b U;cases b with
    |true=>exact iht s x A
    |false=>exact ihe s x A
   cases A
 |block id b ih=>
  intro s x A
  rw[fS]at A⊢
  exact ig (ih s) A
 |loop b ih=>
  intro s x A
  rw[gW]at A⊢
  exact ft (ih s) (T _) A
 |exit id=>intro s x A;exact A
 |ret=>intro s x A;exact A
 |_=>intro s x A;cases A
theorem kt{ex A:Code->St->Option (Ex×St)}(E:ExLe ex A):CfLe (ld P ex) (ld P A):=by
 intro f a H r h;unfold ld at h⊢;split at h
 ·split at h
  ·split at h
   ·rename_i s N;rw[E _ _ _ N];exact h
   ·rename_i s N;rw[E _ _ _ N];exact h
   cases h
  cases h
 cases h
theorem kp{K:bL}(h:CfLe cf cf'):CfLe (jM K cf) (jM K cf'):=by
 intro f a H r A;unfold jM at A⊢;split at A
 ·exact A
 exact h _ _ _ _ A
theorem gz{K:bL}: ∀n,ExLe (j9 P G K n) (j9 P G K (n+1))
 |0=>fun c s r h=>by cases h
 |n+1=>fun c s r h=>execC_mono (kp (kt (gz n))) (gz n) c s r h
theorem gA{K:bL}{n m:Nat}(h:n<=m):ExLe (j9 P G K n) (j9 P G K m):=by
 induction h with
 |refl=>exact fun _ _ _ h=>h
 |step _ ih=>exact fun c s r h=>gz _ c s r (ih c s r h)
theorem dG{K:bL}{n m:Nat}(h:n<=m):CfLe (call P G K n) (call P G K m):=kp (kt (gA h))
end
end Go.R
