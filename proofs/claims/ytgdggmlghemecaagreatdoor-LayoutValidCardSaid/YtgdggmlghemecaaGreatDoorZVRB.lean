/-
The evaluator is sound: regions, code, calls, laws.
-/
import Derived.Test.YtgdggmlghemecaaGreatDoorZVRA
import Derived.Below
import Derived.ChangeSame
import Derived.ChangeArms
namespace Go.R
structure Ext(H H':Heap):Prop where
 next:H.next<=H'.next
 log: ∃d,H'.log=d++H.log/\∀b,b<H.next->b∉d->H'.get b=H.get b
 far: ∀b,H'.next<=b->H'.get b=H.get b
theorem Ext.refl(H:Heap):Ext H H:=⟨a0d _,⟨[],V,fun _ _ _=>rfl⟩,fun _ _=>rfl⟩
theorem Ext.trans{H H1 T:Heap}(h:Ext H H1)(k:Ext H1 T):Ext H T:=by
 obtain⟨U,e1,g1⟩:=h.log;obtain⟨Z,e2,g2⟩:=k.log;refine⟨a0e h.next k.next,⟨Z++U,by rw[e2,e1,a0l],fun b E N=>?_⟩,fun b E=>?_⟩
 ·rw[a07,not_or]at N;rw[g2 b (a0V E h.next) N.1,g1 b E N.2]
 rw[k.far b E,h.far b (a0e k.next E)]
theorem Ext.push(H:Heap)(o:AObj):Ext H (H.push o):=by refine⟨by simp,⟨[],V,fun b E _=>Heap.get_push_ne H o M⟩,fun b E=>Heap.get_push_ne H o ?_⟩;simp at E;omega
theorem Ext.put{H:Heap}{b:Nat}(o:AObj)(N:b<H.next):Ext H (H.put b o):=by refine⟨a0d _,⟨[b],V,fun k _ E=>Heap.get_put_ne H o (fun e=>E (by simp[e]))⟩,fun k E=>Heap.get_put_ne H o ?_⟩;simp at E;omega
def WF(H:Heap):Prop:= ∀b,H.next<=b->H.get b=none
theorem WF.ext{H H':Heap}(h:WF H)(e:Ext H H'):WF H':=fun b E=>by rw[e.far b E];exact h b (a0e e.next E)
theorem WF.lt{H:Heap}(h:WF H){b:Nat}{o:AObj}(E:H.get b=some o):b<H.next:=by
 rcases a0g b H.next with hl|hl
 ·exact hl
 rw[h b hl]at E;cases E
section ext
variable {P:Program} {H H':Heap}
def ER(H:Heap){α:Type}(r:Option (α×Heap)):Prop:= ∀a H',r=some (a,H')->Ext H H'
theorem ER.none_{α:Type}:ER H (none:Option (α×Heap)):=fun _ _ h=>by cases h
theorem ER.some_{α:Type}{a:α}{H1:Heap}(h:Ext H H1):ER H (some (a,H1)):=fun _ _ e=>by injection e with e;injection e with _ e;subst e;exact h
theorem ER.same{α:Type}{a:α}:ER H (some (a,H)):=ER.some_ (Ext.refl H)
theorem ER.bif_{α:Type}{c:Bool}{x y:Option (α×Heap)}(h:ER H x)(k:ER H y):ER H (bif c then x else y):=by cases c<;>assumption
def EO(H:Heap)(r:Option Heap):Prop:= ∀H',r=some H'->Ext H H'
theorem EO.none_:EO H none:=fun _ h=>by cases h
theorem EO.some_{H1:Heap}(h:Ext H H1):EO H (some H1):=fun _ e=>by injection e with e;subst e;exact h
theorem EO.bif_{c:Bool}{x y:Option Heap}(h:EO H x)(k:EO H y):EO H (bif c then x else y):=by cases c<;>assumption
theorem ER.ovl_(r:Option Value):ER H (ovl r H):=by unfold ovl;split;exact ER.same;exact ER.none_
theorem ER.ovh_{r:Option (Value×Heap)}(h:ER H r):ER H (ovh r):=by
 unfold ovh;split
 ·rename_i v E;exact ER.some_ (h v E V)
 exact ER.none_
theorem ER.osk_{r:Option Heap}(h:EO H r):ER H (osk r):=by
 unfold osk;split
 ·rename_i E;exact ER.some_ (h E V)
 exact ER.none_
theorem ER.lift_(s:Sem Value):ER H (lift P s H):=by unfold lift;split;exact ER.same;exact ER.none_
theorem ER.plain_(ρ:Operand->Value)(o:Oper):ER H (bG P ρ o H):=by
 unfold bG;refine ER.bif_ ?_ ER.none_;split
 ·exact ER.bif_ ER.same ER.none_
 exact ER.none_
theorem i0(N:WF H)(a:Addr)(T:List Value):EO H (H.storeL a T):=by
 unfold Heap.storeL;split
 ·split
  ·rename_i E;exact EO.bif_ (EO.some_ (Ext.put _ (N.lt E))) EO.none_
  exact EO.none_
 exact EO.none_
theorem append_ext(N:WF H)(types:Array TypeId)(s x:Value):ER H (fV P types s x H):=by
 unfold fV;split
 case h_2=>exact ER.none_
 split
 case h_2=>exact ER.none_
 split
 ·exact ER.none_
 split
 case h_2=>exact ER.none_
 split
 ·exact ER.none_
 split
 ·exact ER.bif_ ER.same (ER.bif_ (ER.some_ (Ext.push _ _)) ER.none_)
 ·split
  ·rename_i U;refine ER.bif_ (ER.bif_ ER.same ?_) (ER.bif_ ?_ ER.none_)
   ·split
    ·rename_i T E;exact ER.some_ (i0 N _ _ T E)
    exact ER.none_
   split
   ·exact ER.none_
   split
   ·exact ER.some_ (Ext.push _ _)
   exact ER.bif_ (ER.some_ ((Ext.put .dead (N.lt U)).trans (Ext.push _ _))) ER.none_
  exact ER.none_
 exact ER.none_
theorem copy_ext(T:WF H)(types:Array TypeId)(d s:Value):ER H (oj P types d s H):=by
 unfold oj;split
 case h_2=>exact ER.none_
 split
 case h_2=>exact ER.none_
 split
 case h_2=>exact ER.none_
 refine ER.bif_ ER.same ?_;split
 ·split
  ·rename_i N E;exact ER.some_ (i0 T _ _ N E)
  exact ER.none_
 exact ER.none_
theorem aop_er(E:WF H)(ρ:Operand->Value)(o:Oper):ER H (aop P ρ o H):=by
 unfold aop;split
 ·exact ER.same
 ·exact ER.same
 ·unfold gq;split;exact ER.same;exact ER.none_
 ·unfold eI;split;exact ER.some_ (Ext.push _ _);exact ER.none_
 ·exact ER.some_ (Ext.push _ _)
 ·unfold ia;split;exact ER.lift_ _;exact ER.none_
 ·unfold bK;split
  ·refine ER.bif_ ?_ ER.none_;split
   ·exact ER.some_ (Ext.push _ _)
   exact ER.none_
  exact ER.none_
 ·unfold d9;split;exact ER.ovl_ _;exact ER.none_
 ·unfold eW;split
  ·split
   ·exact ER.bif_ (ER.osk_ (i0 E _ _)) ER.none_
   exact ER.none_
  exact ER.none_
 ·unfold opNil;split;exact ER.same;exact ER.same;exact ER.none_
 ·unfold aBin;split
  ·unfold binInt;split;exact ER.ovl_ _;exact ER.none_
  ·unfold binStr;split;exact ER.ovl_ _;exact ER.none_
  unfold nT;split
  ·exact ER.plain_ _ _
  ·exact ER.plain_ _ _
  intro a H' h;rw[(jd h).1];exact Ext.refl _
 ·unfold fQ;split;exact ER.ovl_ _;exact ER.ovl_ _;exact ER.plain_ _ _
 ·exact ER.same
 ·refine ER.ovh_ ?_;unfold aMake;split
  ·split
   ·exact ER.bif_ (ER.some_ (Ext.push _ _)) ER.none_
   exact ER.none_
  exact ER.none_
 ·exact ER.ovl_ _
 ·exact ER.ovl_ _
 ·exact ER.ovl_ _
 ·exact ER.ovl_ _
 ·unfold lI;split;exact ER.ovl_ _;exact ER.lift_ _
 ·exact ER.ovl_ _
 ·unfold opCall;split
  ·unfold om;split
   ·unfold bLen;split;exact ER.ovl_ _;exact ER.none_
   ·unfold bAppend;split;exact ER.ovh_ (append_ext E _ _ _);exact ER.none_
   ·unfold bCopy;split;exact ER.ovh_ (copy_ext E _ _ _);exact ER.none_
   ·exact ER.plain_ _ _
   ·exact ER.plain_ _ _
   exact ER.none_
  ·unfold fF;split;exact ER.same;exact ER.none_
  exact ER.none_
 ·unfold aUn;split
  ·split;exact ER.same;exact ER.none_
  exact ER.plain_ _ _
 exact ER.none_
theorem nZ(E:WF H){ρ:Operand->Value}{o:Oper}{r:AN}(h:aop P ρ o H=some (r,H')):Ext H H':=aop_er E ρ o r H' h
end ext
section
variable {P:Program} {μ:Emb} {H H':Heap} {w:World}
theorem two_of{l:List Value}{a b:Value}{E:Array Value}(h:LRel μ l E.toList)(he:l=[a,b]): ∃N T,E= #[N,T]/\VRel μ a N/\VRel μ b T:=by subst he;obtain⟨N,t,Z,ha,ht⟩:=h.cons_left;obtain⟨T,t2,h2,hb,U⟩:=ht.cons_left;have:=U.nil_left;subst this h2;exact⟨N,T,a1m.1 (by rw[Z]),ha,hb⟩
theorem one_of{l:List Value}{a:Value}{E:Array Value}(h:LRel μ l E.toList)(Z:l=[a]): ∃N,E= #[N]/\VRel μ a N:=by subst Z;obtain⟨N,t,T,U,ht⟩:=h.cons_left;have:=ht.nil_left;subst this;exact⟨N,a1m.1 (by rw[T]),U⟩
theorem OpOK.of_value{s:Sem Next}{v v':Value}(h: ∀w,s.run P w= .ok (.value v') w)(N:WRel μ H w)(E:VRel μ v v'):OpOK P μ H w s (.val v) H:=
 ⟨.value v',w,μ,h w,Post.refl N,E⟩
theorem fD{ρ ρ':Operand->Value}{x:Option Operand}(h: ∀y,x=some y->VRel μ (ρ y) (ρ' y)):
  (∀v,x.map ρ=some v->∃v',x.map ρ'=some v'/\VRel μ v v')/\(x.map ρ=none->x.map ρ'=none):=by
 cases x with
 |none=>exact⟨fun v E=>by simp at E,fun _=>rfl⟩
 |some y=>exact⟨fun v E=>by simp at E;subst E;exact⟨_,V,h y V⟩,fun N=>by simp at N⟩
set_option maxHeartbeats 4000000 in
theorem gC{ρ ρ':Operand->Value}{o:Oper}{r:AN}(Z: ∀x∈o.op.operands,VRel μ (ρ x) (ρ' x))(hw:WRel μ H w)
  (hf: ∀b,H.next<=b->b<H'.next->μ b=none) (h:aop P ρ o H=some (r,H')):OpOK P μ H w (execOp ρ' o) r H':=by
 cases hk:aT o.op with
 |true=>
  obtain⟨rfl,v,v',rfl,N,hr⟩:=kD hk Z h
  exact OpOK.of_value N hw hr
 |false=>
  obtain⟨an,op,U,pos,after,ad⟩:=o
  cases op<;>simp only[aT,reduceCtorEq]at hk
  case alloc e=>
   have T:eI P e H=some (r,H'):=h
   have:=alloc_sound hw hf T
   exact this
  case box e x=>
   have T:some (AN.val (ptrTo H.next),aQ H (ρ x).cells.toList none)=some (r,H'):=h
   simp only[a00,a04]at T
   obtain⟨rfl,rfl⟩:=T
   have:=box_sound (P:=P) (e:=e) hw (hf H.next (a0d _) (by simp[aQ])) (Z x (by simp[Op.operands]))
   exact this
  case buildSlice t n parts=>
   have T:bK P t n (dF (fun p=>(p.1,ρ p.2)) parts.toList) H=some (r,H'):=h
   rw[je]at T
   have:=jW (ps':=parts.map fun(i,x)=>(i,ρ' x)) hw hf (by simp) (fun i x x' h1 h2=>?_) T
   ·exact this
   simp only[a2g,a14,a2c]at h1 h2
   obtain⟨y,hy,rfl⟩:=h1
   obtain⟨z,hz,rfl⟩:=h2
   rw[hy]at hz;injection hz with hz;subst hz
   refine⟨V,Z _ ?_⟩
   have:=a0r hy
   simp only[Op.operands,List.mem_toArray,a0u]
   exact⟨y,this,V⟩
  case load t a=>
   have T:d9 P t (ρ a) H=some (r,H'):=h
   have:=load_sound hw (Z a (by simp[Op.operands])) T
   exact this
  case store t a x=>
   have T:eW P t (ρ a) (ρ x) H=some (r,H'):=h
   have:=store_sound hw (Z a (by simp[Op.operands])) (Z x (by simp[Op.operands])) T
   exact this
  case convert s d x=>
   have T:fQ P ρ ⟨an,.convert s d x,U,pos,after,ad⟩ s d (ρ x) H=some (r,H'):=h
   exact nL (o:=⟨an,.convert s d x,U,pos,after,ad⟩) hw V Z T
  case makeSlice t l c=>
   have T:ovh (aMake P t (ρ l) (ρ c) H)=some (r,H'):=h
   have:=make_sound hw hf (Z l (by simp[Op.operands])) (Z c (by simp[Op.operands])) T
   exact this
  case slice t x lo hi mx=>
   obtain⟨a1,a2⟩:=fD (μ:=μ) (ρ:=ρ) (ρ':=ρ') (x:=lo) fun y hy=>Z y (by subst hy;simp[Op.operands])
   obtain⟨b1,b2⟩:=fD (μ:=μ) (ρ:=ρ) (ρ':=ρ') (x:=hi) fun y hy=>Z y (by subst hy;simp[Op.operands])
   obtain⟨_,c2⟩:=fD (μ:=μ) (ρ:=ρ) (ρ':=ρ') (x:=mx) fun y hy=>Z y (by subst hy;simp[Op.operands])
   have T:ovl (bt P t (ρ x) (lo.map ρ) (hi.map ρ) (mx.map ρ) H) H=some (r,H'):=h
   have:=slice_sound hw (Z x (by simp[Op.operands])) a1 a2 b1 b2 c2 T
   exact this
  case call c=>
   obtain⟨ai,args,E⟩:=c
   have ag:LRel μ (dF ρ args.toList) (args.map ρ').toList:=by
    rw[je];have:=kw (μ:=μ) (ops:=args) (ρ:=ρ) (ρ':=ρ') fun x hx=>Z x (by simp[Op.operands,Call.operands];exact .inr hx)
    simpa using this
   have h:opCall P ρ ⟨an,.call ⟨ai,args,E⟩,U,pos,after,ad⟩ ⟨ai,args,E⟩ H=some (r,H'):=h
   unfold opCall at h
   cases ai with
   |invoke rv nm=>simp at h
   |value f=>
    simp only at h
    unfold fF at h
    split at h
    ·rename_i n hn;simp only[a00,a04]at h;obtain⟨rfl,rfl⟩:=h;obtain⟨i,bl,rfl,a3,N,hr⟩:=callee_sound (P:=P) (Z f (by simp[Op.operands,Call.operands])) ag hn;refine⟨.enter i a3,w,μ,?_,Post.refl hw,V,hr⟩;have:=N w;simpa only[execOp,resolve] using this
    cases h
   |builtin b=>
    simp only at h
    unfold om at h
    have ao:bG P ρ ⟨an,.call ⟨.builtin b,args,E⟩,U,pos,after,ad⟩ H=some (r,H')->OpOK P μ H w (execOp ρ' ⟨an,.call ⟨.builtin b,args,E⟩,U,pos,after,ad⟩) r H':=by intro hp;obtain⟨rfl,v,v',rfl,N,hr⟩:=dx hp (fun _ _=>by simp) Z;exact OpOK.of_value N hw hr
    split at h
    ·--len
     unfold bLen at h;split at h
     ·rename_i t x ht hx;obtain⟨x',ap,a0⟩:=one_of ag hx;obtain⟨rfl,v,hv,rfl⟩:=cx h;obtain⟨N,hn⟩:=len_sound (P:=P) (ty:=U) hw a0 hv;have av:E= #[t]:=a1m.1 (by rw[ht]);refine⟨.value v,w,μ,?_,Post.refl hw,.atom v hn⟩;simp only[execOp,resolve,Sem.run_bind,Sem.run_pure,Result.andThen_ok,invoke,builtin,ap,av,N]
     cases h
    ·unfold bAppend at h;split at h
     ·rename_i t1 t2 s x ht hx;obtain⟨s',x',ap,ay,a0⟩:=two_of ag hx;obtain⟨v,hv,rfl⟩:=ovh_inv h;have av:E= #[t1,t2]:=a1m.1 (by rw[ht]);obtain⟨v',w',μ',N,hp,hr⟩:=append_sound (P:=P) (ty:=U) hw hf ay a0 (by rw[av];rfl) hv;refine⟨.value v',w',μ',?_,hp,hr⟩;simp only[execOp,resolve,Sem.run_bind,Sem.run_pure,Result.andThen_ok,invoke,builtin,ap,N]
     cases h
    ·unfold bCopy at h;split at h
     ·rename_i d s hx;obtain⟨d',s',ap,a9,ay⟩:=two_of ag hx;obtain⟨v,hv,rfl⟩:=ovh_inv h;obtain⟨v',w',N,hp,hr⟩:=copy_sound (P:=P) (ty:=U) hw a9 ay hv;refine⟨.value v',w',μ,?_,hp,hr⟩;simp only[execOp,resolve,Sem.run_bind,Sem.run_pure,Result.andThen_ok,invoke,builtin,ap,N]
     cases h
    ·exact ao h
    ·exact ao h
    cases h
  all_goals simp[aop]at h
end
@[simp] theorem lget_nil(i:Nat):cS .nil i=undef:=rfl
@[simp] theorem lget_lset_same(t:Tr Value)(d:Nat)(v:Value):cS (lset t d v) d=v:=by simp[cS,lset]
theorem lget_lset_ne(t:Tr Value){d k:Nat}(v:Value)(h:d≠k):cS (lset t d v) k=cS t k:=by simp[cS,lset,Tr.get_set_ne _ _ h]
theorem gr(t:Tr Value)(d k:Nat)(v:Value):cS (lset t d v) k=if d=k then v else cS t k:=by
 by_cases h:d=k
 ·subst h;simp
 rw[if_neg h,lget_lset_ne t v h]
def TRel(μ:Emb)(t:Tr Value)(n:Nat)(a:Array Value):Prop:=a.size=n/\∀i,VRel μ (cS t i) (a.getD i undef)
def GRel(μ:Emb)(G:Nat):Prop:= ∀g,g<G->∃l,μ g=some l/\l.c=g/\l.sh=0
section
variable {P:Program} {G:Nat} {μ μ':Emb}
theorem TRel.mono(h: ∀b l,μ b=some l->μ' b=some l){t:Tr Value}{n:Nat}{a:Array Value}(E:TRel μ t n a):TRel μ' t n a:=⟨E.1,fun i=>(E.2 i).mono h⟩
theorem GRel.mono(h: ∀b l,μ b=some l->μ' b=some l)(Z:GRel μ G):GRel μ' G:=fun g E=>by obtain⟨l,N,T,U⟩:=Z g E;exact⟨l,h _ _ N,T,U⟩
theorem getD_set(a:Array Value)(d i:Nat)(v:Value):(a.setIfInBounds d v).getD i undef=if d=i/\d<a.size then v else a.getD i undef:=by
 simp only[a11,a1i];by_cases h:d=i
 ·subst h;by_cases E:d<a.size
  ·simp[E]
  simp[E]
 simp[h]
theorem TRel.put{t:Tr Value}{n:Nat}{a:Array Value}(h:TRel μ t n a){d:Nat}(E:d<n){v v':Value}(N:VRel μ v v'):TRel μ (lset t d v) n (a.setIfInBounds d v'):=by
 refine⟨by simp[h.1],fun i=>?_⟩;rw[gr,getD_set];by_cases hi:d=i
 ·rw[if_pos hi,if_pos ⟨hi,by rw[h.1];exact E⟩];exact N
 rw[if_neg hi,if_neg (fun e=>hi e.1)];exact h.2 i
theorem eval_of(Z:GRel μ G){tm:Tr Value}{a:Act}{x:Operand}(E:bo G x=true)(h: ∀t,x= .tmp t->VRel μ (cS tm t) (a.tmps.getD t undef)):
  VRel μ (cI tm x) (a.eval x):=by
 cases x with
 |tmp t=>exact h t V
 |const v=>exact VRel.refl2 E
 |global g=>
  obtain⟨l,N,T,U⟩:=Z g (a0a E)
  have:=VRel.ptr (μ:=μ) g 0 l N
  rw[T,U]at this;exact this
 |func f=>exact .atom _ V
theorem yield_eq{ops:Array Oper}{tm:Tr Value}{a:Array Value}{j:Nat}(h: ∀d,(ops[j]?).bind (·.dst)=some d->VRel μ (cS tm d) (a.getD d undef)):
  lU ops tm j=yielded ops a j:=by
 unfold lU yielded
 cases U:(ops[j]?).bind (·.dst) with
 |none=>rfl
 |some d=>
  have E:=h d U
  simp only[a0q]
  simp only[a11]at E
  cases T:a[d]? with
  |none=>
   rw[T]at E
   simp only[Option.getD_none]at E
   have: ∀b,cS tm d≠ .bool b:=by intro b e;rw[e]at E;have:=E.bool_inv;cases this
   cases N:cS tm d<;>first|rfl|exact absurd N (this _)
  |some x=>
   rw[T]at E
   simp only[a0I]at E
   cases x with
   |bool b=>
    have:cS tm d= .bool b:=by generalize cS tm d=y at E;cases E;rfl
    rw[this]
   |_=>
    have: ∀b,cS tm d≠ .bool b:=by intro b e;rw[e]at E;have:=E.bool_inv;cases this
    cases N:cS tm d<;>first|rfl|exact absurd N (this _)
theorem wanted_eq{ops:Array Oper}{o:Oper}{tm:Tr Value}{a:Array Value}(h: ∀j w,o.guard=some (j,w)->∀d,(ops[j]?).bind (·.dst)=some d->VRel μ (cS tm d) (a.getD d undef)):
  bf ops o tm=Region.wanted o (yielded ops a):=by
 unfold bf Region.wanted
 cases E:o.guard with
 |none=>rfl
 |some p=>
  obtain⟨j,w⟩:=p
  simp only
  rw[yield_eq (h j w E)]
def d5(P:Program)(G:Nat)(cf:cr):Prop:= ∀f args H v H',cf f args H=some (v,H')->WF H->Ext H H'/\
 ∀μ w (cargs:Array Value),LRel μ args cargs.toList->GRel μ G->WRel μ H w->(∀b,H.next<=b->b<H'.next->μ b=none)->
  Calls P f cargs w fun e w'=> ∃μ' v',e= .returned v'/\VRel μ' v v'/\Post μ H w μ' H' w'
noncomputable def dH (P : Program) (cf : cr) (ρ : Operand -> Value) (o : Oper) (H : Heap) : Option (Value × Heap) :=
 match aop P ρ o H with
 |some (.val v,h)=>some (v,h)
 |some (.skip,h)=>some (undef,h)
 |some (.enter f args,h)=>cf f args h
 |none=>none
theorem step_eq(cf:cr)(ops:Array Oper)(o:Oper)(s:St):step P G cf ops o s=
  bif bf ops o s.tmps then
   bif o.op.operands.toList.all (bo G) then
    match dH P cf (cI s.tmps) o s.heap with
    |some (v,h)=>{s with heap:=h}.put o.dst v
    |none=>none
   else none
  else s.put o.dst undef:=by
 unfold step dH
 cases bf ops o s.tmps with
 |false=>rfl
 |true=>
  cases o.op.operands.toList.all (bo G) with
  |false=>rfl
  |true=>
   simp only[cond_true]
   cases aop P (cI s.tmps) o s.heap with
   |none=>rfl
   |some p=>
    obtain⟨r,h⟩:=p
    cases r with
    |val v=>rfl
    |skip=>rfl
    |enter f args=>
     simp only
     cases cf f args h with
     |none=>rfl
     |some q=>rfl
theorem hU{s N:St}{E:Option Tmp}{v:Value}(h:s.put E v=some N):
  N.size=s.size/\N.heap=s.heap/\((E=none/\N.tmps=s.tmps)\/∃d,E=some d/\d<s.size/\N.tmps=lset s.tmps d v):=by
 unfold St.put at h
 split at h
 ·rename_i d;cases T:Nat.ble (d+1) s.size with
  |false=>rw[T]at h;cases h
  |true=>
   rw[T]at h;simp only[cond_true,a00]at h;subst h
   exact⟨V,V,.inr ⟨d,V,a0a T,V⟩⟩
 injection h with h;subst h;exact⟨V,V,.inl ⟨V,V⟩⟩
theorem mK{cf:cr}(Z:d5 P G cf){ρ:Operand->Value}{o:Oper}{H H':Heap}{v:Value}(N:WF H)(h:dH P cf ρ o H=some (v,H')):Ext H H':=by
 unfold dH at h;split at h
 ·rename_i u T E;simp only[a00,a04]at h;rw[←h.2];exact nZ N E
 ·rename_i T E;simp only[a00,a04]at h;rw[←h.2];exact nZ N E
 ·rename_i f args T E;have U:=nZ N E;exact U.trans (Z f args T v H' h (N.ext U)).1
 cases h
theorem jI{cf:cr}(ay:d5 P G cf){ρ:Operand->Value}{o:Oper}{a:Act}{H H':Heap}{v:Value}{w:World}(ao:WF H)(hρ: ∀x∈o.op.operands,VRel μ (ρ x) (a.eval x))
  (hG:GRel μ G) (hw:WRel μ H w) (hf: ∀b,H.next<=b->b<H'.next->μ b=none) (h:dH P cf ρ o H=some (v,H')) {K:Act->World->Prop} {Q:Exit->Act->World->Prop}
  (hK: ∀μ' w' v',Post μ H w μ' H' w'->VRel μ' v v'->K (a.put o.dst v') w'):o.wp P a w K Q:=by
 unfold dH at h
 unfold Oper.wp
 split at h
 ·rename_i u h1 U;simp only[a00,a04]at h;obtain⟨rfl,rfl⟩:=h;obtain⟨n,w1,Z,E,N,T⟩:=gC hρ hw hf U;rw[E];cases n<;>first|exact hK Z w1 _ N T|exact T.elim
 ·rename_i h1 U;simp only[a00,a04]at h;obtain⟨rfl,rfl⟩:=h;obtain⟨n,w1,Z,E,N,T⟩:=gC hρ hw hf U;rw[E];cases n<;>first|exact hK Z w1 _ N VRel.undef|exact T.elim
 ·rename_i f args h1 U;have e1:=nZ ao U;obtain⟨e2,al⟩:=ay f args h1 v H' h (ao.ext e1);obtain⟨n,w1,Z,E,N,T⟩:=gC hρ hw (fun b aa ad=>hf b aa (a0V ad e2.next)) U;rw[E];cases n with
  |enter f' cargs=>
   obtain⟨rfl,ai⟩:=T
   rw[Oper.upon_enter]
   refine(al Z w1 cargs ai (hG.mono N.ext) N.wrel (fun b aa ad=>?_)).mono ?_
   ·cases hb:Z b with
    |none=>rfl
    |some l=>
     rcases N.dom b l hb with hb0|⟨_,hb3⟩
     ·rw[hf b (a0e e1.next aa) ad]at hb0;cases hb0
     omega
   rintro e w2 ⟨μ2,v',rfl,hv,hp2⟩
   exact hK μ2 w2 v' (N.trans hp2 e1.next e2.next) hv
  |_=>exact T.elim
 cases h
theorem j3{cf:cr}(N:d5 P G cf){ops:Array Oper}{o:Oper}{s U:St}(hw:WF s.heap)(h:step P G cf ops o s=some U):Ext s.heap U.heap:=by
 rw[step_eq]at h;cases T:bf ops o s.tmps with
 |false=>rw[T]at h;rw[(hU h).2.1];exact Ext.refl _
 |true=>
  rw[T]at h
  cases E:o.op.operands.toList.all (bo G) with
  |false=>rw[E]at h;cases h
  |true=>
   rw[E]at h
   simp only[cond_true]at h
   split at h
   ·rename_i v h1 Z;rw[(hU h).2.1];exact mK N hw Z
   cases h
theorem eY(a:Act)(E:Option Tmp)(v:Value):(a.put E v).defers=a.defers:=by cases E<;>rfl
theorem put_rel{s T:St}{E:Option Tmp}{v v':Value}{a:Act}(h:s.put E v=some T)(Z:TRel μ s.tmps s.size a.tmps)(hv:VRel μ v v'):
  TRel μ T.tmps T.size (a.put E v').tmps:=by
 obtain⟨U,_,⟨rfl,N⟩|⟨d,rfl,hd,N⟩⟩:=hU h
 ·rw[U,N];exact Z
 rw[U,N];exact Z.put hd hv
theorem step_sound{cf:cr}(ai:d5 P G cf){ops:Array Oper}{i:Nat}{o:Oper}(ho:ops[i]?=some o){s T:St}{a:Act}{w:World}(aq:WF s.heap)(U:TRel μ s.tmps s.size a.tmps)
  (hG:GRel μ G) (hw:WRel μ s.heap w) (hf: ∀b,s.heap.next<=b->b<T.heap.next->μ b=none) (h:step P G cf ops o s=some T) {K:Act->World->Prop} {Q:Exit->Act->World->Prop}
  (hK: ∀μ' w' a',Post μ s.heap w μ' T.heap w'->TRel μ' T.tmps T.size a'.tmps->a'.defers=a.defers->K a' w'):wpOp P ops Q i K a w:=by
 unfold wpOp
 rw[ho]
 simp only
 have Z:bf ops o s.tmps=Region.wanted o (yielded ops a.tmps):=wanted_eq (μ:=μ) fun _ _ _ d _=>U.2 d
 rw[step_eq,Z]at h
 cases hq:Region.wanted o (yielded ops a.tmps) with
 |false=>
  rw[hq]at h
  simp only[cond_false]at h
  simp only[a0P,if_false]
  have E:=(hU h).2.1
  exact hK μ w _ (by rw[E];exact Post.refl hw) (put_rel h U VRel.undef) (eY _ _ _)
 |true=>
  rw[hq]at h
  simp only[if_true]
  left
  cases N:o.op.operands.toList.all (bo G) with
  |false=>rw[N]at h;cases h
  |true=>
   rw[N]at h
   simp only[cond_true]at h
   split at h
   ·rename_i v h1 he;have E:=(hU h).2.1;simp only at E;refine jI ai aq (fun x hx=>eval_of hG (a0m.1 N x (by simpa using hx)) fun t _=>U.2 t) hG hw (by rw[←E];exact hf) he ?_;intro μ' w' v' hp hv;have ao:TRel μ' s.tmps s.size a.tmps:=U.mono hp.ext;exact hK μ' w' _ (by rw[E];exact hp) (put_rel (s:={s with heap:=h1}) h ao hv) (eY _ _ _)
   cases h
theorem i6{cf:cr}(N:d5 P G cf){ops:Array Oper}: ∀(l:List Oper) (s E:St),WF s.heap->fZ P G cf ops l s=some E->Ext s.heap E.heap
 | [],s,E,_,h=>by rw[i5]at h;injection h with h;subst h;exact Ext.refl _
 |o::os,s,E,hw,h=>by
  rw[bY]at h;split at h
  ·rename_i Z U;have T:=j3 N hw U;exact T.trans (i6 N os Z E (hw.ext T) h)
  cases h
theorem jz{cf:cr}(N:d5 P G cf){ops:Array Oper}{Q:Exit->Act->World->Prop}: ∀(l:List Oper) (k:Nat) (s E:St),ops.toList.drop k=l->fZ P G cf ops l s=some E->
  ∀(μ:Emb) (a:Act) (w:World),WF s.heap->TRel μ s.tmps s.size a.tmps->GRel μ G->WRel μ s.heap w->(∀b,s.heap.next<=b->b<E.heap.next->μ b=none)->
  (∀μ' w' a',Post μ s.heap w μ' E.heap w'->TRel μ' E.tmps E.size a'.tmps->a'.defers=a.defers->Q .normal a' w')->wpOps P ops Q (List.range' k l.length) a w
 | [],k,s,E,_,h,μ,a,w,hwf,ht,hG,hw,hf,hQ=>by rw[i5]at h;injection h with h;subst h;simp only[a0b,List.range'_zero,wpOps];exact hQ μ w a (Post.refl hw) ht V
 |o::os,k,s,E,hd,h,μ,a,w,hwf,ht,hG,hw,hf,hQ=>by
  rw[bY]at h;split at h
  ·rename_i s1 h1;have Z:=j3 N hwf h1;have e2:=i6 N os s1 E (hwf.ext Z) h;have hk:k<ops.toList.length:=by
    rcases a0g k ops.toList.length with hl|hl
    ·exact hl
    rw[a1P hl]at hd;cases hd
   have ad:=a1f hk;rw[hd]at ad;injection ad with h2 h3;have ho:ops[k]?=some o:=by
    have:ops.toList[k]?=some o:=by rw[a06 hk,←h2]
    simpa using this
   simp only[a05,List.range'_succ];rw[wpOps_cons];refine step_sound N ho hwf ht hG hw (fun b T U=>hf b T (a0V U e2.next)) h1 ?_;intro μ1 w1 a1 hp ar an;refine jz N os (k+1) s1 E h3.symm h μ1 a1 w1 (hwf.ext Z) ar (hG.mono hp.ext) hp.wrel (fun b T U=>?_) ?_
   ·cases hb:μ1 b with
    |none=>rfl
    |some l=>
     rcases hp.dom b l hb with hb0|⟨_,hb3⟩
     ·rw[hf b (a0e Z.next T) U]at hb0;cases hb0
     omega
   intro μ2 w2 a2 aq av ao;exact hQ μ2 w2 a2 (hp.trans aq Z.next e2.next) av (ao.trans an)
  cases h
end
end Go.R
set_option linter.unusedVariables false
set_option linter.unusedSimpArgs false
namespace Go.R
def lO(l:List Nat)(o:Oper):Nat:=o.after.toList.foldl (fun s e=>bif Region.binds .any e then s|||2^e.on|||l.getD e.on 0 else s) 0
theorem iu: ∀(os:List Oper) (E:List Nat),∃t,ancs os E=E++t/\t.length=os.length
 | [],E=>⟨[],by simp[ancs],V⟩
 |o::os,E=>by obtain⟨t,h,N⟩:=iu os (E++[lO E o]);refine⟨lO E o::t,?_,by simp[N]⟩;show ancs os (E++[lO E o])=_;rw[h];simp
theorem ancs_at: ∀(os:List Oper) (E:List Nat) (k:Nat) (o:Oper),os[k]?=some o->
  (ancs os E).getD (E.length+k) 0=lO ((ancs os E).take (E.length+k)) o
 | [],E,k,o,h=>by simp at h
 |x::os,E,0,o,h=>by
  simp at h;subst h;obtain⟨t,h,_⟩:=iu os (E++[lO E x]);have e:ancs (x::os) E=E++([lO E x]++t):=by show ancs os (E++[lO E x])=_;rw[h];simp
  rw[e];simp
 |x::os,E,k+1,o,h=>by have N:=ancs_at os (E++[lO E x]) k o (by simpa using h);have e:ancs (x::os) E=ancs os (E++[lO E x]):=rfl;rw[e];simp only[a01,a0j]at N;rw[show E.length+(k+1)=E.length+1+k by omega];exact N
theorem fold_bit(l:List Nat)(j:Nat): ∀(es:List Edge) (s:Nat),(es.foldl (fun s e=>bif Region.binds .any e then s|||2^e.on|||l.getD e.on 0 else s) s).testBit j=true->
  s.testBit j=true\/∃e∈es,Region.binds .any e=true/\(e.on=j\/(l.getD e.on 0).testBit j=true)
 | [],s,h=> .inl h
 |e::es,s,h=>by
  simp only[a2p]at h;rcases fold_bit l j es _ h with h1|⟨e',he,h2⟩
  ·cases E:Region.binds .any e with
   |false=>rw[E]at h1;exact .inl h1
   |true=>
    rw[E]at h1
    simp only[cond_true,Nat.testBit_or,a0A]at h1
    rcases h1 with(h1|h1)|h1
    ·exact .inl h1
    ·rw[Nat.testBit_two_pow]at h1;exact .inr ⟨e,by simp,E,.inl (by simpa using h1)⟩
    exact .inr ⟨e,by simp,E,.inr h1⟩
  exact .inr ⟨e',by simp[he],h2⟩
theorem ordered_edge{ops:Array Oper}{j k:Nat}(h:bn (ce ops) j k=true):
  ∃o,ops[k]?=some o/\∃e∈o.after.toList,Region.binds .any e=true/\(e.on=j\/(e.on<k/\bn (ce ops) j e.on=true)):=by
 unfold bn at h
 have T:k<ops.toList.length:=by
  obtain⟨t,U,Z⟩:=iu ops.toList [];rcases a0g k ops.toList.length with hlt|hge
  ·exact hlt
  have:(ce ops).getD k 0=0:=by unfold ce;rw[U,a18,a02,a0J M];rfl
  rw[this]at h;simp at h
 have N:ops.toList[k]?=some ops.toList[k]:=a06 T
 have E:=ancs_at ops.toList [] k _ N
 simp only[a0b,a1g]at E
 change (ce ops).getD k 0=lO ((ce ops).take k) _ at E
 rw[E]at h
 rcases fold_bit _ j _ 0 h with h1|⟨e,he,hb,h2⟩
 ·simp at h1
 refine⟨ops.toList[k],by rw[←Array.getElem?_toList];exact N,e,he,hb,?_⟩
 rcases h2 with h2|h2
 ·exact .inl h2
 right
 rcases a0g e.on k with hlt|hge
 ·refine⟨hlt,?_⟩;unfold bn;rw[a02,a0z,if_pos hlt,←a02]at h2;exact h2
 rw[a02,a0z,if_neg M]at h2
 simp at h2
def DC(ops:Array Oper)(S:Nat->Bool):Prop:= ∀(k:Nat) o,ops[k]?=some o->S k=true->∀e∈o.after.toList,Region.binds .any e=true->S e.on=true
theorem DC.anc{ops:Array Oper}{S:Nat->Bool}(h:DC ops S){j:Nat}: ∀(k:Nat),S k=true->bn (ce ops) j k=true->S j=true:=by
 intro k;induction k using Nat.strongRecOn with
 |_ k ih=>
  intro Z ho
  obtain⟨o,E,e,U,T,N⟩:=ordered_edge ho
  have hs:=h k o E Z e U T
  rcases N with rfl|⟨hlt,h2⟩
  ·exact hs
  exact ih e.on hlt hs h2
structure RegFacts(ops:Array Oper):Prop where
 back: ∀(j:Nat) o,ops[j]?=some o->∀e∈o.after.toList,Region.binds .any e=true->e.on<j
 pair: ∀(i j:Nat) x o,i<j->ops[i]?=some x->ops[j]?=some o->bn (ce ops) i j=true\/x.apart ops o=true
theorem regOK_facts{ops:Array Oper}(h:bh ops=true):RegFacts ops:=by
 unfold bh at h;simp only[a0m,a2d]at h;refine⟨fun j o N e he Z=>?_,fun i j x o U hx N=>?_⟩
 ·have T:j<ops.size:=(a0K.1 N).1;have:=h j T;rw[N]at this;simp only[a09,a0m]at this;have E:=this.1.1 e he;rw[Z]at E;simp only[a1M,Bool.false_or]at E;exact a0a E
 have T:j<ops.size:=(a0K.1 N).1;have:=h j T;rw[N]at this;simp only[a09,a0m,a2d]at this;have E:=this.2 i U;rw[hx]at E;simpa using E
section
variable (st:Nat->St) (vl:Nat->Value) (ops:Array Oper)
def chg(k b:Nat):Prop:=(st (k+1)).heap.get b≠(st k).heap.get b
open Classical in
noncomputable def kj (S : Nat -> Bool) : Nat -> Nat -> Option AObj
 |0,b=>(st 0).heap.get b
 |k+1,b=>if S k=true/\chg st k b then(st (k+1)).heap.get b else kj S k b
def jV(k:Nat):Option Tmp:=(ops[k]?).bind (·.dst)
open Classical in
noncomputable def tv (S : Nat -> Bool) : Nat -> Nat -> Value
 |0,t=>cS (st 0).tmps t
 |k+1,t=>if S k=true/\jV ops k=some t then vl k else tv S k t
theorem lz{S:Nat->Bool}{b i:Nat}: ∀m,(∀k,k<m->chg st k b->(S k=true↔k<i))->kj st S m b=(st (min m i)).heap.get b
 |0,_=>by simp[kj]
 |m+1,h=>by
  have E:=lz m fun k T=>h k M
  unfold kj;by_cases N:m<i
  ·rw[show min (m+1) i=m+1 by omega];rw[show min m i=m by omega]at E;by_cases hc:chg st m b
   ·rw[if_pos ⟨(h m M hc).2 N,hc⟩]
   rw[if_neg (fun e=>hc e.2),E];unfold chg at hc;exact(Classical.not_not.1 hc).symm
  rw[show min (m+1) i=i by omega];rw[show min m i=i by omega]at E;rw[if_neg (fun e=>N ((h m M e.2).1 e.1)),E]
theorem mO{S S':Nat->Bool}{b:Nat}: ∀m,(∀k,k<m->chg st k b->S k=S' k)->kj st S m b=kj st S' m b
 |0,_=>rfl
 |m+1,h=>by
  have E:=mO m fun k N=>h k M
  unfold kj;by_cases hc:chg st m b
  ·rw[h m M hc,E]
  rw[if_neg (fun e=>hc e.2),if_neg (fun e=>hc e.2),E]
theorem tv_eq{S:Nat->Bool}{t i:Nat}(N: ∀k,cS (st (k+1)).tmps t=if jV ops k=some t then vl k else cS (st k).tmps t):
  ∀m,(∀k,k<m->jV ops k=some t->(S k=true↔k<i))->tv st vl ops S m t=cS (st (min m i)).tmps t
 |0,_=>by simp[tv]
 |m+1,h=>by
  have E:=tv_eq N m fun k U=>h k M
  unfold tv;by_cases T:m<i
  ·rw[show min (m+1) i=m+1 by omega];rw[show min m i=m by omega]at E;by_cases hc:jV ops m=some t
   ·rw[if_pos ⟨(h m M hc).2 T,hc⟩,N,if_pos hc]
   rw[if_neg (fun e=>hc e.2),E,N,if_neg hc]
  rw[show min (m+1) i=i by omega];rw[show min m i=i by omega]at E;rw[if_neg (fun e=>T ((h m M e.2).1 e.1)),E]
theorem tv_congr{S S':Nat->Bool}{t:Nat}: ∀m,(∀k,k<m->jV ops k=some t->S k=S' k)->tv st vl ops S m t=tv st vl ops S' m t
 |0,_=>rfl
 |m+1,h=>by
  have E:=tv_congr m fun k N=>h k M
  unfold tv;by_cases hc:jV ops m=some t
  ·rw[h m M hc,E]
  rw[if_neg (fun e=>hc e.2),if_neg (fun e=>hc e.2),E]
end
structure Inv(ops:Array Oper)(st:Nat->St)(vl:Nat->Value)(μ0:Emb)(w0:World)(d0:List Deferred)(S:Nat->Bool)(μ:Emb)(a:Act)(w:World):Prop where
 dc:DC ops S
 dom: ∀b l,μ b=some l->b<(st 0).heap.next\/(∃k,k<ops.size/\S k=true/\(st k).heap.next<=b/\b<(st (k+1)).heap.next)\/(st ops.size).heap.next<=b
 obj: ∀b l o,μ b=some l->kj st S ops.size b=some o->ObjRel μ w l o
 inj: ∀b1 b2 l1 l2 o1 o2,b1≠b2->μ b1=some l1->μ b2=some l2->kj st S ops.size b1=some o1->kj st S ops.size b2=some o2->o1.rw=true->o2.live=true->l1.c≠l2.c
 size:a.tmps.size=(st 0).size
 tm: ∀t,VRel μ (tv st vl ops S ops.size t) (a.tmps.getD t undef)
 defers:a.defers=d0
 ext0: ∀b l,μ0 b=some l->μ b=some l
 dom0: ∀b l,μ b=some l->μ0 b=some l\/((st 0).heap.next<=b/\b<(st ops.size).heap.next)
 grow0:w0.heap.size<=w.heap.size
 os0:w.os=w0.os
 tape0:w.tape=w0.tape
 out0:w.output=w0.output
 keep0: ∀c,c<w0.heap.size->(∀b l o,μ0 b=some l->(st 0).heap.get b=some o->o.rw=true->l.c≠c)->w.heap[c]?=w0.heap[c]?
 img0: ∀b l o,μ b=some l->kj st S ops.size b=some o->o.live=true->
  w0.heap.size<=l.c\/∃b0 l0 o0,μ0 b0=some l0/\(st 0).heap.get b0=some o0/\o0.live=true/\(o.rw=true->o0.rw=true)/\l0.c=l.c
def jP(S:Nat->Bool)(i:Nat):Nat->Bool:=fun k=>Nat.beq k i||S k
theorem gE(S:Nat->Bool)(i:Nat):jP S i i=true:=by simp[jP]
theorem gF(S:Nat->Bool){i k:Nat}(h:k≠i):jP S i k=S k:=by
 have:Nat.beq k i=false:=by
  cases E:Nat.beq k i with
  |false=>rfl
  |true=>exact absurd (a0c E) h
 simp[jP,this]
theorem Inv.next{ops:Array Oper}{st:Nat->St}{vl:Nat->Value}{μ0 μ μ':Emb}{w0 w w':World}{d0:List Deferred}{S:Nat->Bool}{a:Act}{i:Nat}{H Hn:Heap}{o:Oper}{v':Value}
  (I:Inv ops st vl μ0 w0 d0 S μ a w) (hi:i<ops.size) (ho:ops[i]?=some o) (T:Post μ H w μ' Hn w') (hv:VRel μ' (vl i) v') (a1: ∀k,(st k).heap.next<=(st (k+1)).heap.next)
  (ck:(st i).heap.next<=H.next) (co:Hn.next<=(st (i+1)).heap.next)
  (c1: ∀b l x,μ b=some l->H.get b=some x->kj st S ops.size b=some x)
  (c2: ∀b l x,μ' b=some l->Hn.get b=some x->kj st (jP S i) ops.size b=some x)
  (c3: ∀b l x,μ' b=some l->Hn.get b=none->kj st (jP S i) ops.size b=some x->μ b=some l/\H.get b=none/\kj st S ops.size b=some x)
  (b5:DC ops (jP S i)) (b6: ∀d,o.dst=some d->d<(st 0).size)
  (b9: ∀t,o.dst=some t->tv st vl ops (jP S i) ops.size t=vl i) (bk: ∀t,o.dst≠some t->tv st vl ops (jP S i) ops.size t=tv st vl ops S ops.size t):
  Inv ops st vl μ0 w0 d0 (jP S i) μ' (a.put o.dst v') w':=by
 have a8: ∀k,(st 0).heap.next<=(st k).heap.next:=by
  intro k;induction k with
  |zero=>exact a0d _
  |succ k ih=>exact a0e ih (a1 k)
 have monoL: ∀j k,j<=k->(st j).heap.next<=(st k).heap.next:=by
  intro j k h;induction h with
  |refl=>exact a0d _
  |step _ ih=>exact a0e ih (a1 _)
 have cc:=monoL (i+1) ops.size hi
 have b4: ∀b l x,μ b=some l->H.get b=none->kj st S ops.size b=some x->x.live=true->w'.heap[l.c]?=w.heap[l.c]?:=by
  intro b l x E hh hc an;refine T.keep l.c ((I.obj b l x E hc).lt an) fun Z l2 o2 aa a6 ao=>?_
  exact I.inj Z b l2 l o2 x (fun e=>by subst e;rw[hh]at a6;cases a6) aa E (c1 Z l2 o2 aa a6) hc ao an
 refine⟨b5,fun b l E=>?_,fun b l x E hc=>?_,fun b1 Z l1 l2 o1 o2 bb aA aa ar U ap ao=>?_,?_,fun t=>?_,?_,fun b l E=>T.ext b l (I.ext0 b l E),fun b l E=>?_,a0e I.grow0 T.grow,
  T.os.trans I.os0,T.tape.trans I.tape0,T.out.trans I.out0,fun c hc a5=>?_,fun b l x E hc an=>?_⟩
 ·rcases T.dom b l E with N|⟨N,h2⟩
  ·rcases I.dom b l N with h2|⟨k,hk,hs,h3,h4⟩|h2
   ·exact .inl h2
   ·refine .inr (.inl ⟨k,hk,?_,h3,h4⟩);unfold jP;rw[hs];simp
   exact .inr (.inr h2)
  exact .inr (.inl ⟨i,hi,gE S i,by omega,by omega⟩)
 ·cases hg:Hn.get b with
  |some y=>
   have:=c2 b l y E hg
   rw[this]at hc;injection hc with hc;subst hc
   exact T.wrel.obj b l y E hg
  |none=>
   obtain⟨N,h2,h3⟩:=c3 b l x E hg hc
   exact(I.obj b l x N h3).keep T.ext T.grow (fun an=>b4 b l x N h2 h3 an)
 ·--no two blocks at one place
  cases a0:Hn.get b1 with
  |some y1=>
   have e1:=c2 b1 l1 y1 aA a0
   rw[e1]at ar;injection ar with ar;subst ar
   cases al:Hn.get Z with
   |some y2=>
    have e2:=c2 Z l2 y2 aa al
    rw[e2]at U;injection U with U;subst U
    exact T.wrel.inj b1 Z l1 l2 y1 y2 bb aA aa a0 al ap ao
   |none=>
    obtain⟨N,h2,h3⟩:=c3 Z l2 o2 aa al U
    have b7:=(I.obj Z l2 o2 N h3).lt ao
    rcases T.img b1 l1 y1 aA a0 (gY ap) with hh|⟨b0,l0,o0,g1,g2,g3,g4,g5⟩
    ·omega
    rw[←g5]
    exact I.inj b0 Z l0 l2 o0 o2 (fun e=>by subst e;rw[h2]at g2;cases g2) g1 N (c1 b0 l0 o0 g1 g2) h3 (g4 ap) ao
  |none=>
   obtain⟨N,h2,h3⟩:=c3 b1 l1 o1 aA a0 ar
   cases al:Hn.get Z with
   |some y2=>
    have e2:=c2 Z l2 y2 aa al
    rw[e2]at U;injection U with U;subst U
    have b7:=(I.obj b1 l1 o1 N h3).lt (gY ap)
    rcases T.img Z l2 y2 aa al ao with hh|⟨b0,l0,o0,g1,g2,g3,g4,g5⟩
    ·omega
    rw[←g5]
    exact I.inj b1 b0 l1 l0 o1 o0 (fun e=>by subst e;rw[h2]at g2;cases g2) N g1 h3 (c1 b0 l0 o0 g1 g2) ap g3
   |none=>
    obtain⟨k1,k2,k3⟩:=c3 Z l2 o2 aa al U
    exact I.inj b1 Z l1 l2 o1 o2 bb N k1 h3 k3 ap ao
 ·cases hd:o.dst with
  |none=>exact I.size
  |some d=>simp only[Act.put,Array.size_setIfInBounds];exact I.size
 ·have a7:=(I.tm t).mono T.ext;cases hd:o.dst with
  |none=>rw[bk t (by rw[hd];simp)];exact a7
  |some d=>
   simp only[Act.put,getD_set]
   by_cases a4:d=t
   ·subst a4;rw[b9 d hd,if_pos ⟨V,by rw[I.size];exact b6 d hd⟩];exact hv
   rw[bk t (by rw[hd];simpa using a4),if_neg (fun e=>a4 e.1)];exact a7
 ·rw[eY];exact I.defers
 ·rcases T.dom b l E with N|⟨N,h2⟩
  ·exact I.dom0 b l N
  exact .inr ⟨by have:=a8 i;omega,by omega⟩
 ·rw[T.keep c (a0V hc I.grow0) ?_,I.keep0 c hc a5];intro b l x E hx hr he;rcases I.img0 b l x E (c1 b l x E hx) (gY hr) with hh|⟨b0,l0,o0,g1,g2,g3,g4,g5⟩
  ·omega
  exact a5 b0 l0 o0 g1 g2 (g4 hr) (g5.trans he)
 cases hg:Hn.get b with
 |some y=>
  have:=c2 b l y E hg
  rw[this]at hc;injection hc with hc;subst hc
  rcases T.img b l y E hg an with hh|⟨b0,l0,o0,g1,g2,g3,g4,g5⟩
  ·exact .inl (a0e I.grow0 hh)
  rcases I.img0 b0 l0 o0 g1 (c1 b0 l0 o0 g1 g2) g3 with hh|⟨b3,l3,o3,e1,e2,e3,e4,e5⟩
  ·exact .inl (g5▸hh)
  exact .inr ⟨b3,l3,o3,e1,e2,e3,fun hx=>e4 (g4 hx),e5.trans g5⟩
 |none=>
  obtain⟨N,h2,h3⟩:=c3 b l x E hg hc
  exact I.img0 b l x N h3 an
section
variable {P:Program} {G:Nat}
def lJ(ρ:Operand->Value)(o:Oper)(b:Nat):Prop:=
 (∃t a off,o.op= .load t a/\ρ a= .pointer (some ⟨b,off,none⟩))\/
 (∃t x lo hi E off n k,o.op= .slice t x lo hi E/\ρ x= .slice (some ⟨b,off,none⟩) n k)
def NilCut(ρ:Operand->Value)(o:Oper):Prop:=(∃t x lo hi E n k,o.op= .slice t x lo hi E/\ρ x= .slice none n k)\/
 (∃xs N x,o.op= .call ⟨.builtin .len,xs,N⟩/\dF ρ xs.toList=[x]/\((∃a n k,x= .slice a n k)\/∃s,x= .string s))
structure OpFact(P:Program)(G:Nat)(cf:cr)(ops:Array Oper)(o:Oper)(s s':St)(v:Value)(f:Inf):Prop where
 size:s'.size=s.size
 tm: ∀t,cS s'.tmps t=if o.dst=some t then v else cS s.tmps t
 dlt: ∀d,o.dst=some d->d<s.size
 next:s.heap.next<=s'.heap.next
 far: ∀b,s'.heap.next<=b->s'.heap.get b=s.heap.get b
 how:(bf ops o s.tmps=false/\v=undef/\f= .v/\s'.heap.next=s.heap.next/\∀b,s'.heap.get b=s.heap.get b)\/
  (bf ops o s.tmps=true/\o.op.operands.toList.all (bo G)=true/\∃H1 H2,(∀b,H1.get b=s.heap.get b)/\H1.next=s.heap.next/\
   dH P cf (cI s.tmps) o H1=some (v,H2)/\(∀b,s'.heap.get b=H2.get b)/\s'.heap.next=H2.next/\
   ((f= .v/\(aT o.op=true\/NilCut (cI s.tmps) o))\/(f= .a s.heap.next/\dJ o.op=true)\/
    (∃b,f= .l b/\lJ (cI s.tmps) o b)\/
    (∃w,f= .x w/\(∀b,b∈w->b<s.heap.next)/\(∀b,b<s.heap.next->b∉w->s'.heap.get b=s.heap.get b)/\(ij o.op=true->∃t a x b off,o.op= .store t a x/\cI s.tmps a= .pointer (some ⟨b,off,none⟩)/\b∈w))))
theorem me{ρ:Operand->Value}{o:Oper}{H H':Heap}{r:AN}{t:TypeId}{a x:Operand}(hk:o.op= .store t a x)(h:aop P ρ o H=some (r,H')):
  r= .skip/\∃b off N E,ρ a= .pointer (some ⟨b,off,none⟩)/\H.get b=some N/\H'=H.put b E/\∀K:Heap,K.get b=some N->aop P ρ o K=some (.skip,K.put b E):=by
 have e: ∀K,aop P ρ o K=eW P t (ρ a) (ρ x) K:=fun K=>by unfold aop;rw[hk]
 rw[e]at h
 unfold eW at h
 split at h
 case h_2=>cases h
 rename_i p Z
 split at h
 case h_2=>cases h
 rename_i n hn
 cases T:Nat.beq (ρ x).cells.size n with
 |false=>rw[T]at h;cases h
 |true=>
  rw[T]at h
  obtain⟨b,off,sp⟩:=p
  simp only[cond_true]at h
  obtain⟨hs,rfl⟩:=osk_inv h
  unfold Heap.storeL at hs
  cases sp with
  |some _=>cases hs
  |none=>
   simp only at hs
   split at hs
   case h_2=>cases hs
   rename_i cs al hg
   cases U:(Nat.ble (Nat.add off (eB (ρ x).cells.toList)) (eB cs)&&mU Value.oneCell' (ρ x).cells.toList) with
   |false=>rw[U]at hs;cases hs
   |true=>
    rw[U]at hs
    simp only[cond_true,a00]at hs
    refine⟨V,b,off,_,_,Z,hg,hs.symm,fun K hK=>?_⟩
    rw[e,Z]
    unfold eW
    simp only[hn,T,cond_true]
    unfold Heap.storeL
    simp only[hK,U,cond_true]
    rfl
theorem fg{n b:Nat}: ∀{l:List Nat},b∈dD n l↔b∈l/\b<n
 | []=>by simp[dD]
 |c::l=>by
  unfold dD;cases T:Nat.ble n c with
  |true=>
   have:=a0a T
   simp only[cond_true,a0v]
   rw[fg (l:=l)]
   constructor
   ·rintro⟨E,N⟩;exact⟨.inr E,N⟩
   rintro⟨rfl|E,N⟩
   ·omega
   exact⟨E,N⟩
  |false=>
   have Z: ¬n<=c:=fun U=>by rw[a0x U]at T;cases T
   simp only[cond_false,a0v]
   rw[fg (l:=l)]
   constructor
   ·rintro(rfl|⟨E,N⟩)
    ·exact⟨.inl V,by omega⟩
    exact⟨.inr E,N⟩
   rintro⟨rfl|E,N⟩
   ·exact .inl V
   exact .inr ⟨E,N⟩
theorem loadV_spot{P:Program}{H:Heap}{t:TypeId}{p:Addr}{v:Value}(h:H.loadV P t p=some v):p.spot=none:=by
 obtain⟨b,o,sp⟩:=p;cases sp with
 |none=>rfl
 |some _=>
  unfold Heap.loadV at h
  split at h
  ·split at h
   ·simp[Heap.loadN]at h
   cases h
  ·simp[Heap.cellAt]at h
  cases h
theorem loadV_congr{H H':Heap}{t:TypeId}{b off:Nat}(h:H.get b=H'.get b):H.loadV P t ⟨b,off,none⟩=H'.loadV P t ⟨b,off,none⟩:=by unfold Heap.loadV Heap.loadN Heap.cellAt;simp only[h]
theorem loadV_some{H:Heap}{t:TypeId}{b off:Nat}{v:Value}(h:H.loadV P t ⟨b,off,none⟩=some v): ∃x,H.get b=some x:=by
 cases E:H.get b with
 |some x=>exact⟨x,V⟩
 |none=>
  unfold Heap.loadV Heap.loadN Heap.cellAt at h
  simp only[E]at h
  split at h
  ·split at h<;>cases h
  ·cases h
  cases h
theorem aSlice_spot{P:Program}{H:Heap}{t:TypeId}{p:Addr}{n k:Nat}{lo hi E:Option Value}{v:Value}(h:bt P t (.slice (some p) n k) lo hi E H=some v):p.spot=none:=by
 obtain⟨b,o,sp⟩:=p;cases sp with
 |none=>rfl
 |some _=>
  unfold bt at h
  split at h
  ·cases h
  split at h<;>simp_all
theorem aSlice_get{P:Program}{H:Heap}{t:TypeId}{b off n k:Nat}{lo hi T:Option Value}{v:Value}(h:bt P t (.slice (some ⟨b,off,none⟩) n k) lo hi T H=some v):
  ∃E,H.get b=some E/\∀N:Heap,N.get b=some E->bt P t (.slice (some ⟨b,off,none⟩) n k) lo hi T N=some v:=by
 cases Z:H.get b with
 |some E=>
  refine⟨E,V,fun N U=>?_⟩
  rw[←h]
  unfold bt
  cases T with
  |some _=>rfl
  |none=>
   cases P.underlying t with
   |none=>rfl
   |some d=>cases d<;>first|rfl|simp only[U,Z]
 |none=>
  exfalso
  unfold bt at h
  split at h
  ·cases h
  split at h<;>simp_all
theorem eA{P:Program}{ρ:Operand->Value}{o:Oper}{b:Nat}{H H':Heap}{r:AN}(hr:lJ ρ o b)(h:aop P ρ o H=some (r,H')):
  ∃v N,r= .val v/\H'=H/\H.get b=some N/\∀U:Heap,U.get b=some N->aop P ρ o U=some (.val v,U):=by
 rcases hr with⟨t,a,off,Z,ha⟩|⟨t,x,lo,hi,mx,off,n,k,Z,hx⟩
 ·have E: ∀H,aop P ρ o H=d9 P t (ρ a) H:=fun H=>by unfold aop;rw[Z]
  rw[E,ha]at h;unfold d9 at h;simp only at h;obtain⟨rfl,v,hv,rfl⟩:=cx h;obtain⟨N,T⟩:=loadV_some hv;refine⟨v,N,V,V,T,fun U h2=>?_⟩;rw[E,ha];unfold d9;simp only;rw[loadV_congr (H':=H') (by rw[h2,T]),hv];rfl
 have E: ∀H,aop P ρ o H=ovl (bt P t (ρ x) (lo.map ρ) (hi.map ρ) (mx.map ρ) H) H:=fun H=>by unfold aop;rw[Z]
 rw[E,hx]at h
 obtain⟨rfl,v,hv,rfl⟩:=cx h
 obtain⟨N,T,ag⟩:=aSlice_get hv
 refine⟨v,N,V,V,T,fun U h2=>?_⟩
 rw[E,hx,ag U h2]
 rfl
theorem reads_sound{P:Program}{μ:Emb}{ρ ρ':Operand->Value}{o:Oper}{b:Nat}{H:Heap}{w:World}{v:Value}(hr:lJ ρ o b)(hρ: ∀x∈o.op.operands,VRel μ (ρ x) (ρ' x))(hw:WRel μ H w)
  (h:aop P ρ o H=some (.val v,H)): ∃v',(execOp ρ' o).run P w= .ok (.value v') w/\VRel μ v v':=by
 rcases hr with⟨t,a,off,E,ha⟩|⟨t,x,lo,hi,mx,off,n,k,E,hx⟩
 ·have T: ∀H,aop P ρ o H=d9 P t (ρ a) H:=fun H=>by unfold aop;rw[E]
  rw[T,ha]at h;unfold d9 at h;simp only at h;obtain⟨_,v1,hv,N⟩:=cx h;injection N with N;subst N;have ai:VRel μ (ρ a) (ρ' a):=hρ a (by rw[E];simp[Op.operands]);rw[ha]at ai;obtain⟨l,hμ,ap⟩:=ai.ptr_inv;obtain⟨v',U,Z⟩:=ie (P:=P) hw hμ hv;refine⟨v',?_,Z⟩;obtain⟨an,op,al,pos,after,ag⟩:=o;simp only at E;subst E;simp only[execOp,ap,Instr.loadAt,Instr.sureAddr,Sem.run_bind,Sem.run_pure,Result.andThen_ok,U]
 have T: ∀H,aop P ρ o H=ovl (bt P t (ρ x) (lo.map ρ) (hi.map ρ) (mx.map ρ) H) H:=fun H=>by unfold aop;rw[E]
 rw[T]at h
 obtain⟨an,op,al,pos,after,ag⟩:=o
 simp only at E
 subst E
 obtain⟨a1,a2⟩:=fD (μ:=μ) (ρ:=ρ) (ρ':=ρ') (x:=lo) fun y hy=>hρ y (by subst hy;simp[Op.operands])
 obtain⟨b1,b2⟩:=fD (μ:=μ) (ρ:=ρ) (ρ':=ρ') (x:=hi) fun y hy=>hρ y (by subst hy;simp[Op.operands])
 obtain⟨_,c2⟩:=fD (μ:=μ) (ρ:=ρ) (ρ':=ρ') (x:=mx) fun y hy=>hρ y (by subst hy;simp[Op.operands])
 obtain⟨v1,v',N,_,U,Z⟩:=kK (P:=P) hw (hρ x (by simp[Op.operands])) a1 a2 b1 b2 c2 h
 injection N with N;subst N
 refine⟨v',?_,Z⟩
 simp only[execOp,Sem.run_bind,U,Result.andThen_ok,Sem.run_pure]
theorem reads_loc{μ:Emb}{ρ ρ':Operand->Value}{o:Oper}{b:Nat}(hr:lJ ρ o b)(U: ∀x∈o.op.operands,VRel μ (ρ x) (ρ' x)): ∃l,μ b=some l:=by
 rcases hr with⟨t,a,off,N,Z⟩|⟨t,x,lo,hi,mx,off,n,k,N,hx⟩
 ·have E:VRel μ (ρ a) (ρ' a):=U a (by rw[N];simp[Op.operands]);rw[Z]at E;obtain⟨l,T,_⟩:=E.ptr_inv;exact⟨l,T⟩
 have E:VRel μ (ρ x) (ρ' x):=U x (by rw[N];simp[Op.operands]);rw[hx]at E;obtain⟨l,T,_⟩:=E.slice_inv;exact⟨l,T⟩
theorem stepD_fact{cf:cr}(a1:d5 P G cf){ops:Array Oper}{o:Oper}{s s':St}{f:Inf}(hw:WF s.heap)(h:gW P G cf ops o s=some (s',f)):
  ∃v,OpFact P G cf ops o s s' v f:=by
 unfold gW at h
 split at h
 case h_2=>cases h
 rename_i t E
 simp only[a00,a04]at h
 obtain⟨rfl,rfl⟩:=h
 have ax:WF {s.heap with log:=[]}:=hw
 have ext:=j3 a1 (s:={s with heap:={s.heap with log:=[]}}) ax E
 rw[step_eq]at E
 cases hq:bf ops o s.tmps with
 |false=>
  rw[hq]at E
  simp only[cond_false]at E
  obtain⟨h1,h2,h3⟩:=hU E
  refine⟨undef,h1,?_,?_,by rw[h2];exact a0d _,fun b _=>by rw[h2];rfl,.inl ⟨hq,V,by unfold d8;rw[hq];rfl,by rw[h2],fun b=>by rw[h2];rfl⟩⟩
  ·intro k;rcases h3 with⟨Z,h5⟩|⟨d,Z,U,h5⟩
   ·simp[Z,h5]
   rw[Z];simp only[h5,gr,a00]
  intro d U
  rcases h3 with⟨Z,_⟩|⟨d',Z,ar,_⟩
  ·rw[Z]at U;cases U
  rw[Z]at U;injection U with U;subst U;exact ar
 |true=>
  rw[hq]at E
  cases aw:o.op.operands.toList.all (bo G) with
  |false=>rw[aw]at E;cases E
  |true=>
   rw[aw]at E
   simp only[cond_true]at E
   split at E
   case h_2=>cases E
   rename_i v H2 T
   obtain⟨h1,h2,h3⟩:=hU E
   simp only at h2
   have ao:Ext {s.heap with log:=[]} H2:=mK a1 ax T
   refine⟨v,h1,?_,?_,by simp only[h2];exact ao.next,fun b hb=>by simp only[h2]at hb⊢;exact ao.far b hb,.inr ⟨hq,aw,{s.heap with log:=[]},H2,fun _=>rfl,rfl,T,fun b=>by simp only[h2];rfl,by simp only[h2],?_⟩⟩
   ·intro k;rcases h3 with⟨Z,h5⟩|⟨d,Z,U,h5⟩
    ·simp[Z,h5]
    rw[Z];simp only[h5,gr,a00]
   ·intro d U;rcases h3 with⟨Z,_⟩|⟨d',Z,ar,_⟩
    ·rw[Z]at U;cases U
    rw[Z]at U;injection U with U;subst U;exact ar
   ·--which kind
    have hx:(∃w,Inf.x (dD s.heap.next t.heap.log)= .x w/\(∀b,b∈w->b<s.heap.next)/\(∀b,b<s.heap.next->b∉w->t.heap.get b=s.heap.get b)/\(ij o.op=true->∃t a x b off,o.op= .store t a x/\cI s.tmps a= .pointer (some ⟨b,off,none⟩)/\b∈w)):=by
     refine⟨_,V,fun b hb=>(fg.1 hb).2,fun b hb hn=>?_,fun E=>?_⟩
     ·obtain⟨d,U,ay⟩:=ao.log;rw[h2];refine ay b hb fun hm=>hn (fg.2 ⟨?_,hb⟩)
      rw[h2,U,a0o];exact hm
     cases N:o.op<;>rw[N]at E<;>try (cases E)
     rename_i ty a x;unfold dH at T;cases aa:aop P (cI s.tmps) o {s.heap with log:=[]} with
     |none=>rw[aa]at T;cases T
     |some q=>
      obtain⟨r,H3⟩:=q
      obtain⟨rfl,b,off,b0,bl,hp,hg,rfl,_⟩:=me N aa
      rw[aa]at T
      simp only[a00,a04]at T
      refine⟨ty,a,x,b,off,V,hp,fg.2 ⟨?_,ax.lt hg⟩⟩
      rw[h2,←T.2];exact a0n
    unfold d8;rw[hq];cases hv:aT o.op with
    |true=>exact .inl ⟨V,.inl V⟩
    |false=>
     simp only[a1M,a1U,cond_false]
     cases bz:dJ o.op with
     |true=>exact .inr (.inl ⟨V,V⟩)
     |false=>
      simp only[cond_false]
      split
      ·rename_i ty a N;split
       ·rename_i p hp;have ai:p.spot=none:=by
         unfold dH at T;have aa:aop P (cI s.tmps) o {s.heap with log:=[]}=d9 P ty (cI s.tmps a) {s.heap with log:=[]}:=by unfold aop;rw[N]
         rw[aa,hp]at T;unfold d9 at T;simp only at T;cases hl:Heap.loadV P {s.heap with log:=[]} ty p with
         |none=>rw[hl]at T;simp[ovl]at T
         |some u=>exact loadV_spot hl
        obtain⟨b,off,sp⟩:=p;simp only at ai;subst ai;exact .inr (.inr (.inl ⟨b,V,.inl ⟨ty,a,off,N,hp⟩⟩))
       exact .inr (.inr (.inr hx))
      ·rename_i ty x lo hi mx N;split
       ·rename_i p n k hp;have ai:p.spot=none:=by
         unfold dH at T;have aa:aop P (cI s.tmps) o {s.heap with log:=[]}=ovl (bt P ty (cI s.tmps x) (lo.map (cI s.tmps)) (hi.map (cI s.tmps)) (mx.map (cI s.tmps)) {s.heap with log:=[]}) {s.heap with log:=[]}:=by unfold aop;rw[N]
         rw[aa,hp]at T;cases hl:bt P ty (.slice (some p) n k) (lo.map (cI s.tmps)) (hi.map (cI s.tmps)) (mx.map (cI s.tmps)) {s.heap with log:=[]} with
         |none=>rw[hl]at T;simp[ovl]at T
         |some u=>exact aSlice_spot hl
        obtain⟨b,off,sp⟩:=p;simp only at ai;subst ai;exact .inr (.inr (.inl ⟨b,V,.inr ⟨ty,x,lo,hi,mx,off,n,k,N,hp⟩⟩))
       ·rename_i n k hp;exact .inl ⟨V,.inr (.inl ⟨ty,x,lo,hi,mx,n,k,N,hp⟩)⟩
       exact .inr (.inr (.inr hx))
      ·rename_i xs ts N;split
       ·rename_i a n k hp;exact .inl ⟨V,.inr (.inr ⟨xs,ts,_,N,hp,.inl ⟨a,n,k,V⟩⟩)⟩
       ·rename_i a5 hp;exact .inl ⟨V,.inr (.inr ⟨xs,ts,_,N,hp,.inr ⟨a5,V⟩⟩)⟩
       exact .inr (.inr (.inr hx))
      exact .inr (.inr (.inr hx))
theorem kR{ρ:Operand->Value}{o:Oper}{H H':Heap}{r:AN}(h:bG P ρ o H=some (r,H')):H'=H/\∃v,r= .val v:=by
 unfold bG at h;cases N:o.op.operands.toList.all fun x=>jT (ρ x) with
 |false=>rw[N]at h;cases h
 |true=>
  rw[N]at h
  simp only[cond_true]at h
  split at h
  ·rename_i v T;cases E:noA2 v with
   |false=>rw[E]at h;cases h
   |true=>
    rw[E]at h;simp only[cond_true,a00,a04]at h
    exact⟨h.2.symm,v,h.1.symm⟩
  cases h
theorem lift_val{s:Sem Value}{H H':Heap}{r:AN}(h:lift P s H=some (r,H')):H'=H/\∃v,r= .val v:=by obtain⟨E,v,N,_⟩:=lc h;exact⟨E,v,N⟩
theorem fC{x:Option Value}{H H':Heap}{r:AN}(h:ovl x H=some (r,H')):H'=H/\∃v,r= .val v:=by obtain⟨E,v,_,N⟩:=cx h;exact⟨E,v,N⟩
theorem fw{v:Value}{H H':Heap}{r:AN}(h:some (AN.val v,H)=some (r,H')):H'=H/\∃v,r= .val v:=by simp only[a00,a04]at h;exact⟨h.2.symm,v,h.1.symm⟩
theorem aop_value{ρ:Operand->Value}{o:Oper}{H H':Heap}{r:AN}(hk:aT o.op=true)(h:aop P ρ o H=some (r,H')):H'=H/\∃v,r= .val v:=by
 obtain⟨U,op,T,pos,after,N⟩:=o;cases op<;>simp only[aT,a0P]at hk
 case move x=>exact fw (v:=ρ x) h
 case assign x=>exact fw (v:=ρ x) h
 case pick c a b=>
  have E:gq ρ c a b H=some (r,H'):=h
  unfold gq at E
  split at E
  ·exact fw E
  cases E
 case build t parts=>
  have E:ia P t (parts.map fun p=>(p.1,ρ p.2)) H=some (r,H'):=h
  unfold ia at E
  split at E
  ·exact lift_val E
  cases E
 case nilCheck x=>
  have E:opNil (ρ x) H=some (r,H'):=h
  unfold opNil at E
  split at E
  ·exact fw E
  ·exact fw E
  cases E
 case binOp op t x y yt=>
  have E:aBin P ρ ⟨U,.binOp op t x y yt,T,pos,after,N⟩ op t (ρ x) y H=some (r,H'):=h
  unfold aBin at E
  split at E
  ·unfold binInt at E;split at E
   ·exact fC E
   cases E
  ·unfold binStr at E;split at E
   ·exact fC E
   cases E
  unfold nT at E;split at E
  ·exact kR E
  ·exact kR E
  obtain⟨h1,b,_,hc⟩:=jd E
  rcases hc with⟨_,Z⟩|⟨_,Z⟩
  ·exact⟨h1,_,Z⟩
  exact⟨h1,_,Z⟩
 case unOp op t x=>
  have E:aUn P ρ ⟨U,.unOp op t x,T,pos,after,N⟩ op (ρ x) H=some (r,H'):=h
  unfold aUn at E
  split at E
  ·split at E
   ·exact fw E
   cases E
  exact kR E
 case makeFunc fn first captured=>exact fw (v:= .func fn (first.map ρ) (captured.map ρ)) h
 case fieldAddr s x f=>
  have E:ovl (iW P s (ρ x) f) H=some (r,H'):=h
  exact fC E
 case field t x f=>
  have E:ovl (iw P t (ρ x) f) H=some (r,H'):=h
  exact fC E
 case indexAddr t x i=>
  have E:ovl (di P t (ρ x) (ρ i)) H=some (r,H'):=h
  exact fC E
 case index t x i=>
  have E:lI P t (ρ x) (ρ i) H=some (r,H'):=h
  unfold lI at E
  split at E
  ·exact fC E
  exact lift_val E
 case extract x i=>
  have E:ovl (gO (ρ x) i) H=some (r,H'):=h
  exact fC E
theorem lY{ρ:Operand->Value}{o:Oper}{H H':Heap}{r:AN}(E:aT o.op=true)(h:aop P ρ o H=some (r,H')):H'=H:=by have:=aop_value E h;exact this.1
theorem kC{ρ:Operand->Value}{o:Oper}{H H':Heap}{r:AN}(E:aT o.op=true)(h:aop P ρ o H=some (r,H')): ∃v,r= .val v:=(aop_value E h).2
theorem fe{ρ:Operand->Value}{o:Oper}{H H':Heap}{r:AN}(hk:dJ o.op=true)(h:aop P ρ o H=some (r,H')):
  ∃v U,r= .val v/\H'=H.push U/\∀N:Heap,N.next=H.next->aop P ρ o N=some (.val v,N.push U):=by
 obtain⟨al,op,ai,pos,after,ad⟩:=o
 cases op<;>simp only[dJ,a0P]at hk
 case alloc e=>
  have E:eI P e H=some (r,H'):=h
  unfold eI at E
  split at E
  ·rename_i z hz;simp only[a00,a04]at E;obtain⟨rfl,rfl⟩:=E;refine⟨_,_,V,V,fun N T=>?_⟩;show eI P e N=_;unfold eI;rw[hz,T];rfl
  cases E
 case box e x=>
  have E:some (AN.val (ptrTo H.next),aQ H (ρ x).cells.toList none)=some (r,H'):=h
  simp only[a00,a04]at E
  obtain⟨rfl,rfl⟩:=E
  refine⟨_,_,V,V,fun N T=>?_⟩
  show some (AN.val (ptrTo N.next),aQ N (ρ x).cells.toList none)=_
  rw[T];rfl
 case buildSlice t n parts=>
  have E:bK P t n (dF (fun p=>(p.1,ρ p.2)) parts.toList) H=some (r,H'):=h
  unfold bK at E
  split at E
  ·rename_i sz z hz;cases Z:Nat.ble (n *sz) 16777216 with
   |false=>rw[Z]at E;cases E
   |true=>
    rw[Z]at E
    simp only[cond_true]at E
    split at E
    ·rename_i cells hc;simp only[a00,a04]at E;obtain⟨rfl,rfl⟩:=E;refine⟨_,_,V,V,fun N T=>?_⟩;show bK P t n (dF (fun p=>(p.1,ρ p.2)) parts.toList) N=_;unfold bK;rw[hz];simp only[Z,cond_true,hc,T];rfl
    cases E
  cases E
def kv(n:Nat):Heap:={tr:= .nil,next:=n,log:=[]}
theorem cX(n b:Nat):(kv n).get b=none:=rfl
theorem ku(μ:Emb)(n:Nat)(w:World):WRel μ (kv n) w:=
 ⟨(fun b l o _ h=>by rw[cX]at h;cases h),(fun E N T U Z o2 _ _ _ h=>by rw[cX]at h;cases h)⟩
theorem aSlice_nil{t:TypeId}{n k:Nat}{lo hi E:Option Value}(H N:Heap):bt P t (.slice none n k) lo hi E H=bt P t (.slice none n k) lo hi E N:=by
 unfold bt;cases E with
 |some _=>rfl
 |none=>
  cases P.underlying t with
  |none=>rfl
  |some d=>cases d<;>first|rfl|(cases n<;>cases k<;>rfl)
theorem eJ{ρ:Operand->Value}{o:Oper}{H H':Heap}{r:AN}(T:NilCut ρ o)(h:aop P ρ o H=some (r,H')):H'=H/\∃v,r= .val v:=by
 rcases T with⟨t,x,lo,hi,Z,n,k,N,U⟩|⟨xs,ts,x,N,U,_⟩
 ·have E: ∀H,aop P ρ o H=ovl (bt P t (ρ x) (lo.map ρ) (hi.map ρ) (Z.map ρ) H) H:=fun H=>by unfold aop;rw[N]
  rw[E]at h;exact fC h
 have E:aop P ρ o H=bLen P ts (dF ρ xs.toList) H:=by unfold aop;rw[N];rfl
 rw[E]at h;unfold bLen at h;split at h
 ·exact fC h
 cases h
theorem aLen_any{t:TypeId}{x:Value}(N:(∃a n k,x= .slice a n k)\/∃s,x= .string s)(H E:Heap):aLen P t x H=aLen P t x E:=by
 rcases N with⟨a,n,k,rfl⟩|⟨s,rfl⟩<;>(unfold aLen;cases P.underlying t with
  |none=>rfl
  |some d=>cases d<;>rfl)
theorem nilcut_sound{μ:Emb}{ρ ρ':Operand->Value}{o:Oper}{H:Heap}{v:Value}(hr:NilCut ρ o)(hρ: ∀x∈o.op.operands,VRel μ (ρ x) (ρ' x))(h:aop P ρ o H=some (.val v,H))(w:World):
  ∃v',(execOp ρ' o).run P w= .ok (.value v') w/\VRel μ v v':=by
 rcases hr with hr|⟨xs,ts,x,E,hxs,Z⟩
 rotate_left
 ·have T:aop P ρ o H=bLen P ts (dF ρ xs.toList) H:=by unfold aop;rw[E];rfl
  rw[T,hxs]at h;obtain⟨ar,op,ai,pos,after,al⟩:=o;simp only at E;subst E;unfold bLen at h;split at h
  ·rename_i t x1 ht ao;simp only[a2r,and_true]at ao;subst ao;obtain⟨_,v1,hv,N⟩:=cx h;injection N with N;subst N;rw[aLen_any Z H (kv 0)]at hv;have an:LRel μ (dF ρ xs.toList) (xs.map ρ').toList:=by
    rw[je];have:=kw (μ:=μ) (ops:=xs) (ρ:=ρ) (ρ':=ρ') fun x Z=>hρ x (by simp[Op.operands,Call.operands];exact Z)
    simpa using this
   obtain⟨x',ax,ay⟩:=one_of an hxs;obtain⟨U,hn⟩:=len_sound (P:=P) (ty:=ai) (ku μ 0 w) ay hv;have av:ts= #[t]:=a1m.1 (by rw[ht]);refine⟨v,?_,.atom v hn⟩;simp only[execOp,resolve,Sem.run_bind,Sem.run_pure,Result.andThen_ok,invoke,builtin,ax,av,U]
  cases h
 obtain⟨t,x,lo,hi,mx,n,k,E,Z⟩:=hr
 have T: ∀H,aop P ρ o H=ovl (bt P t (ρ x) (lo.map ρ) (hi.map ρ) (mx.map ρ) H) H:=fun H=>by unfold aop;rw[E]
 rw[T,Z]at h
 obtain⟨_,v1,hv,N⟩:=cx h
 rw[aSlice_nil H (kv 0)]at hv
 have h2:ovl (bt P t (ρ x) (lo.map ρ) (hi.map ρ) (mx.map ρ) (kv 0)) (kv 0)=some (.val v,kv 0):=by rw[Z,hv,N];rfl
 obtain⟨ar,op,ai,pos,after,al⟩:=o
 simp only at E
 subst E
 obtain⟨a1,a2⟩:=fD (μ:=μ) (ρ:=ρ) (ρ':=ρ') (x:=lo) fun y hy=>hρ y (by subst hy;simp[Op.operands])
 obtain⟨b1,b2⟩:=fD (μ:=μ) (ρ:=ρ) (ρ':=ρ') (x:=hi) fun y hy=>hρ y (by subst hy;simp[Op.operands])
 obtain⟨_,c2⟩:=fD (μ:=μ) (ρ:=ρ) (ρ':=ρ') (x:=mx) fun y hy=>hρ y (by subst hy;simp[Op.operands])
 obtain⟨v1,v',N,_,U,aw⟩:=kK (P:=P) (ku μ 0 w) (hρ x (by simp[Op.operands])) a1 a2 b1 b2 c2 h2
 injection N with N;subst N
 refine⟨v',?_,aw⟩
 simp only[execOp,Sem.run_bind,U,Result.andThen_ok,Sem.run_pure]
theorem either_heap{ρ:Operand->Value}{o:Oper}{H H':Heap}{r:AN}(E:aT o.op=true\/NilCut ρ o)(h:aop P ρ o H=some (r,H')):H'=H:=by
 rcases E with E|E
 ·exact lY E h
 exact(eJ E h).1
theorem mM{ρ:Operand->Value}{o:Oper}{H H':Heap}{r:AN}(E:aT o.op=true\/NilCut ρ o)(h:aop P ρ o H=some (r,H')): ∃v,r= .val v:=by
 rcases E with E|E
 ·exact kC E h
 exact(eJ E h).2
structure Trace(P:Program)(G:Nat)(cf:cr)(ops:Array Oper)(st:Nat->St)(vl:Nat->Value)(nf:Nat->Inf):Prop where
 fact: ∀k o,ops[k]?=some o->OpFact P G cf ops o (st k) (st (k+1)) (vl k) (nf k)
 past: ∀k,ops.size<=k->st (k+1)=st k
 comp: ∀j k,j<k->k<ops.size->bn (ce ops) j k=true\/dg (nf j) (nf k)=true\/stst ops j k (nf j) (nf k)=true
 reg:RegFacts ops
 wf: ∀k,WF (st k).heap
section
variable {cf:cr} {ops:Array Oper} {st:Nat->St} {vl:Nat->Value} {nf:Nat->Inf}
theorem Trace.mono(T:Trace P G cf ops st vl nf)(k:Nat):(st k).heap.next<=(st (k+1)).heap.next:=by
 rcases a0g k ops.size with h|h
 ·exact(T.fact k ops[k] (a0N h)).next
 rw[T.past k h];exact a0d _
theorem Trace.monoL(T:Trace P G cf ops st vl nf){j k:Nat}(h:j<=k):(st j).heap.next<=(st k).heap.next:=by
 induction h with
 |refl=>exact a0d _
 |step _ ih=>exact a0e ih (T.mono _)
theorem Trace.sizeL(T:Trace P G cf ops st vl nf)(k:Nat):(st k).size=(st 0).size:=by
 induction k with
 |zero=>rfl
 |succ k ih=>
  rcases a0g k ops.size with h|h
  ·rw[(T.fact k ops[k] (a0N h)).size,ih]
  rw[T.past k h,ih]
theorem Trace.tm(T:Trace P G cf ops st vl nf)(k t:Nat):cS (st (k+1)).tmps t=if jV ops k=some t then vl k else cS (st k).tmps t:=by
 unfold jV;rcases a0g k ops.size with h|h
 ·have E:=a0N h;rw[(T.fact k ops[k] E).tm t,E];rfl
 rw[T.past k h,Array.getElem?_eq_none h];simp
theorem Trace.chg(T:Trace P G cf ops st vl nf){k b:Nat}(h:chg st k b):
  k<ops.size/\((st k).heap.next<=b/\b<(st (k+1)).heap.next\/∃w,nf k= .x w/\b∈w/\b<(st k).heap.next):=by
 have hk:k<ops.size:=by
  rcases a0g k ops.size with hk|hk
  ·exact hk
  exfalso;unfold R.chg at h;rw[T.past k hk]at h;exact h V
 refine⟨hk,?_⟩
 have F:=T.fact k ops[k] (a0N hk)
 have ar:b<(st (k+1)).heap.next:=by
  rcases a0g b (st (k+1)).heap.next with U|U
  ·exact U
  exact absurd (F.far b U) h
 rcases a0g b (st k).heap.next with hb|hb
 ·right;rcases F.how with⟨_,_,_,_,hs⟩|⟨_,_,H1,H2,ai,aw,N,aa,ax,ao⟩
  ·exact absurd (hs b) h
  rcases ao with⟨hf,hv⟩|⟨hf,hv⟩|⟨b',hf,al⟩|⟨w,hf,ay,aq,_⟩
  ·--a value operation changes nothing
   exfalso;unfold dH at N;split at N
   ·rename_i u U E;simp only[a00,a04]at N;have:=(either_heap hv E)
    rw[←N.2,this]at aa;exact h (by rw[aa b,ai b])
   ·rename_i U E;have:=(mM hv E)
    obtain⟨_,Z⟩:=this;cases Z
   ·rename_i f args U E;obtain⟨_,Z⟩:=mM hv E;cases Z
   cases N
  ·exfalso;unfold dH at N;split at N
   ·rename_i u U E;simp only[a00,a04]at N;obtain⟨_,aA,_,ap,_⟩:=fe hv E;rw[←N.2,ap]at aa;exact h (by rw[aa b,Heap.get_push_ne _ _ M,ai b])
   ·rename_i U E;obtain⟨_,_,Z,_⟩:=fe hv E;cases Z
   ·rename_i f args U E;obtain⟨_,_,Z,_⟩:=fe hv E;cases Z
   cases N
  ·exfalso;unfold dH at N;split at N
   ·rename_i u U E;simp only[a00,a04]at N;obtain⟨_,_,_,hH,_,_⟩:=eA al E;rw[←N.2,hH]at aa;exact h (by rw[aa b,ai b])
   ·rename_i U E;obtain⟨_,_,Z,_⟩:=eA al E;cases Z
   ·rename_i f args U E;obtain⟨_,_,Z,_⟩:=eA al E;cases Z
   cases N
  rcases Classical.em (b∈w) with hm|hm
  ·exact⟨w,hf,hm,hb⟩
  exact absurd (aq b hb hm) h
 exact .inl ⟨hb,ar⟩
end
end
end Go.R
set_option linter.unusedVariables false
namespace Go.R
section
variable {P:Program} {G:Nat} {cf:cr} {ops:Array Oper} {st:Nat->St} {vl:Nat->Value} {nf:Nat->Inf}
variable {μ0 μ:Emb} {w0 w:World} {d0:List Deferred} {S:Nat->Bool} {a:Act} {i:Nat} {o:Oper}
structure Ready(ops:Array Oper)(S:Nat->Bool)(i:Nat)(o:Oper):Prop where
 at_:ops[i]?=some o
 new:S i=false
 edges: ∀e∈o.after.toList,Region.binds .any e=true->S e.on=true
theorem Ready.lt(R:Ready ops S i o):i<ops.size:=(a0K.1 R.at_).1
theorem Ready.dc(R:Ready ops S i o)(h:DC ops S):DC ops (jP S i):=by
 intro k x E hs e U T;by_cases N:k=i
 ·subst N;rw[R.at_]at E;injection E with E;subst E;have:=R.edges e U T;unfold jP;rw[this];simp
 rw[gF S N]at hs;have:=h k x E hs e U T;unfold jP;rw[this];simp
theorem Ready.ahead(R:Ready ops S i o)(h:DC ops S){k:Nat}(E:k≠i)(N:bn (ce ops) k i=true):S k=true:=by have:=(R.dc h).anc i (gE S i) N;rwa [gF S E]at this
theorem Ready.behind(R:Ready ops S i o)(h:DC ops S){k:Nat}(E:bn (ce ops) i k=true):S k=false:=by
 cases hs:S k with
 |false=>rfl
 |true=>have:=h.anc k hs E;rw[R.new]at this;cases this
theorem Ready.iff_(R:Ready ops S i o)(h:DC ops S){k:Nat}(E:k<i->bn (ce ops) k i=true)(N:i<k->bn (ce ops) i k=true):S k=true↔k<i:=by
 rcases Nat.lt_trichotomy k i with hlt|rfl|hgt
 ·exact⟨fun _=>hlt,fun _=>R.ahead h M (E hlt)⟩
 ·rw[R.new];simp
 rw[R.behind h (N hgt)];simp;omega
theorem Ready.iffAdd(R:Ready ops S i o)(h:DC ops S){k:Nat}(N:k<i->bn (ce ops) k i=true)(T:i<k->bn (ce ops) i k=true):jP S i k=true↔k<i+1:=by
 by_cases E:k=i
 ·subst E;rw[gE];simp
 rw[gF S E,R.iff_ h N T];omega
theorem share(T:Trace P G cf ops st vl nf)(ho:ops[i]?=some o){t:Tmp}(E:t∈o.looksAt ops\/o.dst=some t){k:Nat}(N:jV ops k=some t):
  (k<i->bn (ce ops) k i=true)/\(i<k->bn (ce ops) i k=true):=by
 unfold jV at N
 cases Z:ops[k]? with
 |none=>rw[Z]at N;simp at N
 |some x=>
  rw[Z]at N
  simp only[a0q]at N
  constructor
  ·intro U;rcases T.reg.pair k i x o U Z ho with h|h
   ·exact h
   exfalso;obtain⟨p1,p2,p3⟩:=Oper.apart_spec h;rcases E with E|E
   ·exact p1 t N E
   exact p2 t N E
  intro U
  rcases T.reg.pair i k o x U ho Z with h|h
  ·exact h
  exfalso
  obtain⟨p1,p2,p3⟩:=Oper.apart_spec h
  rcases E with E|E
  ·exact p3 t N E
  exact p2 t E N
theorem slot_here(T:Trace P G cf ops st vl nf)(I:Inv ops st vl μ0 w0 d0 S μ a w)(R:Ready ops S i o){t:Tmp}(N:t∈o.looksAt ops):
  VRel μ (cS (st i).tmps t) (a.tmps.getD t undef):=by
 have:=I.tm t
 rw[tv_eq st vl ops (i:=i) (fun k=>T.tm k t) ops.size (fun k _ E=>R.iff_ I.dc (share T R.at_ (.inl N) E).1 (share T R.at_ (.inl N) E).2)]at this
 rwa [a2h (a2e R.lt)]at this
theorem operand_here(T:Trace P G cf ops st vl nf)(I:Inv ops st vl μ0 w0 d0 S μ a w)(R:Ready ops S i o)(U:GRel μ G)(E:o.op.operands.toList.all (bo G)=true):
  ∀x∈o.op.operands,VRel μ (cI (st i).tmps x) (a.eval x):=by
 intro x N
 refine eval_of U (a0m.1 E x (by simpa using N)) fun t Z=>?_
 subst Z
 refine slot_here T I R ?_
 unfold Oper.looksAt
 rw[a07]
 left
 rw[List.mem_filterMap]
 exact⟨.tmp t,by simpa using N,V⟩
theorem wanted_here(T:Trace P G cf ops st vl nf)(I:Inv ops st vl μ0 w0 d0 S μ a w)(R:Ready ops S i o):bf ops o (st i).tmps=Region.wanted o (yielded ops a.tmps):=by
 refine wanted_eq (μ:=μ) fun j w N d E=>slot_here T I R ?_
 unfold Oper.looksAt;rw[a07];right;rw[N];simp only;rw[E];simp
theorem between(T:Trace P G cf ops st vl nf){j k b:Nat}(E:(st j).heap.next<=b)(N:b<(st (j+1)).heap.next)(U:(st k).heap.next<=b)(Z:b<(st (k+1)).heap.next):j=k:=by
 rcases Nat.lt_trichotomy j k with h|h|h
 ·have:=T.monoL (show j+1<=k from h);omega
 ·exact h
 have:=T.monoL (show k+1<=j from h);omega
theorem mC(T:Trace P G cf ops st vl nf)(I:Inv ops st vl μ0 w0 d0 S μ a w)(R:Ready ops S i o)(b:Nat)(E:(st i).heap.next<=b)(N:b<(st (i+1)).heap.next):μ b=none:=by
 cases U:μ b with
 |none=>rfl
 |some l=>
  exfalso
  rcases I.dom b l U with h|⟨k,_,hs,h3,h4⟩|h
  ·have:=T.monoL (a0D i);omega
  ·have:=between T E N h3 h4;subst this;rw[R.new]at hs;cases hs
  have:=T.monoL (show i+1<=ops.size from R.lt);omega
theorem lw(T:Trace P G cf ops st vl nf)(I:Inv ops st vl μ0 w0 d0 S μ a w)(R:Ready ops S i o){b:Nat}{l:Loc}(hb:μ b=some l)(ag:b<(st i).heap.next)
  (hw: ∀k w',nf k= .x w'->b∈w'->k<ops.size->(k<i->bn (ce ops) k i=true)/\(i<k->bn (ce ops) i k=true)):kj st S ops.size b=(st i).heap.get b:=by
 rw[lz st (i:=i) ops.size,a2h (a2e R.lt)]
 intro k U hc
 obtain⟨_,⟨E,N⟩|⟨w',E,N,h3⟩⟩:=T.chg hc
 ·--made there
  have Z:k<i:=by
   rcases a0g k i with h|h
   ·exact h
   have:=T.monoL h;omega
  refine⟨fun _=>Z,fun _=>?_⟩;rcases I.dom b l hb with h|⟨k',_,hs,h4,h5⟩|h
  ·have:=T.monoL (a0D k);omega
  ·have:=between T E N h4 h5;subst this;exact hs
  have:=T.monoL (a2e R.lt);omega
 exact R.iff_ I.dc (hw k w' E N U).1 (hw k w' E N U).2
theorem gN(T:Trace P G cf ops st vl nf)(I:Inv ops st vl μ0 w0 d0 S μ a w)(R:Ready ops S i o){b:Nat}(hb:b<(st i).heap.next->∃l,μ b=some l)(an:b<(st (i+1)).heap.next)
  (hw: ∀k w',nf k= .x w'->b∈w'->k<ops.size->(k<i->bn (ce ops) k i=true)/\(i<k->bn (ce ops) i k=true)):kj st (jP S i) ops.size b=(st (i+1)).heap.get b:=by
 rw[lz st (i:=i+1) ops.size,a2h R.lt]
 intro k hk hc
 by_cases U:k=i
 ·subst U;rw[gE];simp
 obtain⟨_,⟨E,N⟩|⟨w',E,N,h3⟩⟩:=T.chg hc
 ·have ad:k<i:=by
   rcases a0g k i with h|h
   ·exact h
   have:=T.monoL (show i+1<=k by omega);omega
  rw[gF S U];refine⟨fun _=>by omega,fun _=>?_⟩;have Z:b<(st i).heap.next:=by have:=T.monoL (show k+1<=i from ad);omega
  obtain⟨l,hl⟩:=hb Z;rcases I.dom b l hl with h|⟨k',_,hs,h4,h5⟩|h
  ·have:=T.monoL (a0D k);omega
  ·have:=between T E N h4 h5;subst this;exact hs
  have:=T.monoL (a2e R.lt);omega
 exact R.iffAdd I.dc (hw k w' E N hk).1 (hw k w' E N hk).2
theorem iU(T:Trace P G cf ops st vl nf){b:Nat}(h: ¬chg st i b):kj st (jP S i) ops.size b=kj st S ops.size b:=by refine(mO st ops.size fun k _ hc=>?_);exact gF S (fun e=>by subst e;exact h hc)
theorem iK{b:Nat}: ∀{l:List Nat},memB b l=true↔b∈l
 | []=>by simp[memB]
 |c::l=>by
  unfold memB;rw[a0A,iK (l:=l),a0v];constructor
  ·rintro(h|h)
   ·exact .inl (a0c h)
   exact .inr h
  rintro(rfl|h)
  ·exact .inl (a15 b)
  exact .inr h
theorem gH(T:Trace P G cf ops st vl nf)(I:Inv ops st vl μ0 w0 d0 S μ a w)(R:Ready ops S i o):
  (∀t,o.dst=some t->tv st vl ops (jP S i) ops.size t=vl i)/\(∀t,o.dst≠some t->tv st vl ops (jP S i) ops.size t=tv st vl ops S ops.size t):=by
 constructor
 ·intro t N;rw[tv_eq st vl ops (i:=i+1) (fun k=>T.tm k t) ops.size (fun k _ E=>R.iffAdd I.dc (share T R.at_ (.inr N) E).1 (share T R.at_ (.inr N) E).2),a2h R.lt,T.tm];rw[if_pos (by unfold jV;rw[R.at_];exact N)]
 intro t N
 refine tv_congr st vl ops ops.size fun k _ E=>gF S ?_
 intro e
 subst e
 unfold jV at E
 rw[R.at_]at E
 exact N E
theorem gK(T:Trace P G cf ops st vl nf)(I:Inv ops st vl μ0 w0 d0 S μ a w)(R:Ready ops S i o)(E: ∀b,(st (i+1)).heap.get b=(st i).heap.get b){v':Value}(Z:VRel μ (vl i) v'):
  Inv ops st vl μ0 w0 d0 (jP S i) μ (a.put o.dst v') w:=by
 obtain⟨t1,t2⟩:=gH T I R
 refine Inv.next (H:=kv (st i).heap.next) (Hn:=kv (st i).heap.next) I R.lt R.at_ (Post.refl (ku μ _ w)) Z (fun k=>T.mono k) (a0d _) (T.mono i)
  (fun b l x _ h=>by rw[cX]at h;cases h) (fun b l x _ h=>by rw[cX]at h;cases h) (fun b l x N _ hc=>⟨N,V,?_⟩) (R.dc I.dc) (fun d U=>?_) t1 t2
 ·rw[iU T (fun e=>e (E b))]at hc;exact hc
 have:=(T.fact i o R.at_).dlt d U
 rwa [T.sizeL i]at this
theorem no_st(R:Ready ops S i o)(h:ij o.op=false){k:Nat}{f g:Inf}:stst ops k i g f=false/\stst ops i k g f=false:=by
 have:stAt ops i=false:=by unfold stAt;rw[R.at_];exact h
 unfold stst;rw[this];cases stAt ops k<;>exact⟨V,V⟩
theorem new_nst{p:Op}(h:dJ p=true):ij p=false:=by cases p<;>first|rfl|cases h
theorem reads_nst{ρ:Operand->Value}{b:Nat}(h:lJ ρ o b):ij o.op=false:=by rcases h with⟨_,_,_,h,_⟩|⟨_,_,_,_,_,_,_,_,h,_⟩<;>rw[h]<;>rfl
theorem nJ{b:Nat}: ∀{w u:List Nat},disjL w u=true->b∈w->b∈u->False
 | [],_,_,h,_=>by cases h
 |c::w,u,h,hb,hu=>by
  unfold disjL at h;rw[a09,a0G]at h;rcases a0v.1 hb with rfl|hb
  ·rw[iK.2 hu]at h;cases h.1
  exact nJ h.2 hb hu
theorem inv_step(f6:d5 P G cf)(T:Trace P G cf ops st vl nf)(I:Inv ops st vl μ0 w0 d0 S μ a w)(hG:GRel μ0 G)(R:Ready ops S i o){K:Act->World->Prop}{Q:Exit->Act->World->Prop}
  (hK: ∀μ' a' w',Inv ops st vl μ0 w0 d0 (jP S i) μ' a' w'->K a' w'):wpOp P ops Q i K a w:=by
 have e4:GRel μ G:=hG.mono I.ext0
 have F:=T.fact i o R.at_
 have c5:=wanted_here T I R
 unfold wpOp
 rw[R.at_]
 simp only
 rcases F.how with⟨hq,hv,hf,hn,hs⟩|⟨hq,fi,H1,H2,al,aw,Z,ar,c0,et⟩
 ·rw[c5]at hq;rw[hq];simp only[a0P,if_false];exact hK μ _ w (gK T I R hs (by rw[hv];exact VRel.undef))
 rw[c5]at hq
 rw[hq]
 simp only[if_true]
 left
 have hρ:=operand_here T I R e4 fi
 have ci:WF (st i).heap:=T.wf i
 rcases et with⟨hf,hk|hk⟩|⟨hf,hk⟩|⟨b,hf,a5⟩|⟨wr,hf,gt,g1,go⟩
 rotate_left
 ·--a part of the nil slice
  unfold dH at Z;split at Z
  case h_2=>rename_i h1 E;obtain⟨_,_,N⟩:=eJ hk E;cases N
  case h_3=>rename_i f args h1 E;obtain⟨_,_,N⟩:=eJ hk E;cases N
  case h_4=>cases Z
  rename_i u h1 E;simp only[a00,a04]at Z;obtain⟨e1,_⟩:=eJ hk E;subst e1;obtain⟨rfl,rfl⟩:=Z;obtain⟨v',aq,hr⟩:=nilcut_sound hk hρ E w;unfold Oper.wp;rw[aq,Oper.upon_value];exact hK μ _ w (gK T I R (fun b=>by rw[ar b,al b]) hr)
 rotate_right
 ·--a value
  have E: ∃u,aop P (cI (st i).tmps) o H1=some (.val u,H1)/\u=vl i/\H2=H1:=by
   unfold dH at Z;split at Z
   ·rename_i u h1 E;simp only[a00,a04]at Z;have:=lY hk E;subst this;exact⟨u,E,Z.1,Z.2.symm⟩
   ·rename_i h1 E;obtain⟨_,N⟩:=kC hk E;cases N
   ·rename_i f args h1 E;obtain⟨_,N⟩:=kC hk E;cases N
   cases Z
  obtain⟨u,E,rfl,rfl⟩:=E;obtain⟨_,v,v',ds,aq,hr⟩:=kD hk hρ E;injection ds with ds;subst ds;unfold Oper.wp;rw[aq w,Oper.upon_value];exact hK μ _ w (gK T I R (fun b=>by rw[ar b,al b]) hr)
 ·--a new block
  unfold dH at Z;split at Z
  case h_2=>rename_i h1 E;obtain⟨_,_,N,_⟩:=fe hk E;cases N
  case h_3=>rename_i f args h1 E;obtain⟨_,_,N,_⟩:=fe hk E;cases N
  case h_4=>cases Z
  rename_i u h1 E;simp only[a00,a04]at Z;obtain⟨rfl,rfl⟩:=Z;obtain⟨u,U,hu,ez,fj⟩:=fe hk E;injection hu with hu;subst hu ez;have dd:(st (i+1)).heap.next=(st i).heap.next+1:=by rw[c0,Heap.next_push,aw]
  have f5:=fj (kv (st i).heap.next) (by rw[aw];rfl);obtain⟨n,w',μ',aq,hp,hr⟩:=gC hρ (ku μ _ w) (fun b a7 a8=>mC T I R b a7 (by rw[dd];exact a8)) f5;unfold Oper.wp;rw[aq];cases n with
  |value v'=>
   rw[Oper.upon_value]
   obtain⟨t1,t2⟩:=gH T I R
   have hw: ∀k w',nf k= .x w'->(st i).heap.next∈w'->k<ops.size->(k<i->bn (ce ops) k i=true)/\(i<k->bn (ce ops) i k=true):=by
    intro k w' N hm ay;have gb:(st i).heap.next<(st k).heap.next:=by
     have Fk:=T.fact k ops[k] (a0N ay);rcases Fk.how with⟨_,_,ad,_⟩|⟨_,_,_,_,_,_,_,_,_,f8⟩
     ·rw[N]at ad;cases ad
     rcases f8 with⟨ad,_⟩|⟨ad,_⟩|⟨_,ad,_⟩|⟨w2,ad,f9,_,_⟩
     ·rw[N]at ad;cases ad
     ·rw[N]at ad;cases ad
     ·rw[N]at ad;cases ad
     rw[N]at ad;injection ad with ad;subst ad;exact f9 _ hm
    constructor
    ·intro a3;have:=T.monoL (a2e a3);omega
    intro a2;rcases T.comp i k a2 ay with h|h|h
    ·exact h
    ·rw[hf,N]at h;simp only[dg]at h;rw[iK.2 hm]at h;cases h
    rw[(no_st R (new_nst hk)).2]at h;cases h
   have f0:kj st (jP S i) ops.size (st i).heap.next=some U:=by rw[gN T I R (fun h=>absurd h (a23 _)) (by rw[dd];omega) hw,ar,←aw,Heap.get_push_same]
   have en: ∀b x,((kv (st i).heap.next).push U).get b=some x->b=(st i).heap.next/\x=U:=by
    intro b x N;by_cases ck:(kv (st i).heap.next).next=b
    ·subst ck;rw[Heap.get_push_same]at N;injection N with N;exact⟨V,N.symm⟩
    rw[Heap.get_push_ne _ _ ck,cX]at N;cases N
   refine hK μ' _ w' (Inv.next (H:=kv (st i).heap.next) (Hn:=(kv (st i).heap.next).push U) I R.lt R.at_ hp hr (fun k=>T.mono k) (a0d _) (by rw[dd];exact a0d _)
    (fun b l x _ h=>by rw[cX]at h;cases h) (fun b l x _ h=>?_) (fun b l x hb hg hc=>?_) (R.dc I.dc) (fun d hd=>?_) t1 t2)
   ·obtain⟨rfl,rfl⟩:=en b x h;exact f0
   ·have ck:b≠(st i).heap.next:=by rintro rfl;have:((kv (st i).heap.next).push U).get (st i).heap.next=some U:=Heap.get_push_same (kv (st i).heap.next) U;rw[this]at hg;cases hg
    have b8: ¬chg st i b:=by intro b7;apply b7;rw[ar,Heap.get_push_ne _ _ (by rw[aw];exact Ne.symm ck),al]
    rw[iU T b8]at hc;rcases hp.dom b l hb with h1|⟨h1,h2⟩
    ·exact⟨h1,V,hc⟩
    exfalso;have g8:(st i).heap.next<=b:=h1;have g9:b<(st i).heap.next+1:=h2;omega
   have:=F.dlt d hd
   rwa [T.sizeL i]at this
  |_=>exact hr.elim
 ·--a load,or a part of a slice
  unfold dH at Z;split at Z
  case h_2=>rename_i h1 E;obtain⟨_,_,N,_⟩:=eA a5 E;cases N
  case h_3=>rename_i f args h1 E;obtain⟨_,_,N,_⟩:=eA a5 E;cases N
  case h_4=>cases Z
  rename_i u h1 E;simp only[a00,a04]at Z;obtain⟨rfl,rfl⟩:=Z;obtain⟨u,U,hu,rfl,dj,bk⟩:=eA a5 E;injection hu with hu;subst hu;obtain⟨l,hμ⟩:=reads_loc a5 hρ;have bl:b<(st i).heap.next:=ci.lt (by rw[←al];exact dj);have a0:=lw T I R hμ bl (fun k w' ao hm ay=>by
   constructor
   ·intro a3;rcases T.comp k i a3 R.lt with h|h|h
    ·exact h
    ·rw[hf,ao]at h;simp only[dg]at h;rw[iK.2 hm]at h;cases h
    rw[(no_st R (reads_nst a5)).1]at h;cases h
   intro a2;rcases T.comp i k a2 ay with h|h|h
   ·exact h
   ·rw[hf,ao]at h;simp only[dg]at h;rw[iK.2 hm]at h;cases h
   rw[(no_st R (reads_nst a5)).2]at h;cases h)
  have b0:WRel μ ((kv (st i).heap.next).put b U) w:=by
   refine⟨fun b' l' o' a1 aA=>?_,fun b1 b2 l1 l2 o1 o2 an _ _ a9 bb=>?_⟩
   ·by_cases ai:b=b'
    ·subst ai;rw[Heap.get_put_same]at aA;injection aA with aA;subst aA;exact I.obj b l' U a1 (by rw[a0,←al];exact dj)
    rw[Heap.get_put_ne _ _ ai,cX]at aA;cases aA
   exfalso;by_cases h1:b=b1
   ·by_cases h2:b=b2
    ·exact an (h1.symm.trans h2)
    rw[Heap.get_put_ne _ _ h2,cX]at bb;cases bb
   rw[Heap.get_put_ne _ _ h1,cX]at a9;cases a9
  obtain⟨v',b5,hr⟩:=reads_sound a5 hρ b0 (bk _ (Heap.get_put_same _ _ _));unfold Oper.wp;rw[b5,Oper.upon_value];exact hK μ _ w (gK T I R (fun b=>by rw[ar b,al b]) hr)
 cases dn:ij o.op with
 |true=>
  obtain⟨ty,pa,px,b,off,e8,fd,c7⟩:=go dn
  have b0: ∀k w',nf k= .x w'->b∈w'->k<ops.size->(k<i->bn (ce ops) k i=true)/\(i<k->bn (ce ops) i k=true):=by
   intro k w' ao hm ay;have an:isNilL w'=false:=by cases w' with
    |nil=>simp at hm
    |cons _ _=>rfl
   constructor
   ·intro a3;rcases T.comp k i a3 R.lt with h|h|h
    ·exact h
    ·rw[hf,ao]at h;simp only[dg,an,a1Y]at h;cases h
    unfold stst at h;rw[hf,ao,a09,a09]at h;exact(nJ h.2.2 hm c7).elim
   intro a2;rcases T.comp i k a2 ay with h|h|h
   ·exact h
   ·rw[hf,ao]at h;simp only[dg,an,a1O]at h;cases h
   unfold stst at h;rw[hf,ao,a09,a09]at h;exact(nJ h.2.2 c7 hm).elim
  unfold dH at Z
  cases E:aop P (cI (st i).tmps) o H1 with
  |none=>rw[E]at Z;cases Z
  |some q=>
   obtain⟨r,H3⟩:=q
   obtain⟨rfl,b2,g7,U,ef,dk,hg,rfl,bk⟩:=me e8 E
   rw[fd]at dk
   simp only[Value.pointer.injEq,a00,Addr.mk.injEq,and_true]at dk
   obtain⟨rfl,rfl⟩:=dk
   rw[E]at Z
   simp only[a00,a04]at Z
   obtain⟨gs,rfl⟩:=Z
   have bl:b<(st i).heap.next:=gt b c7
   have fz: ∃l,μ b=some l:=by have h1:=hρ pa (by rw[e8];simp[Op.operands]);rw[fd]at h1;obtain⟨l,hl,_⟩:=h1.ptr_inv;exact⟨l,hl⟩
   obtain⟨l,hμ⟩:=fz
   have a0:=lw T I R hμ bl b0
   have e5:((kv (st i).heap.next).put b U).get b=some U:=Heap.get_put_same _ _ _
   have bz: ∀b' x,((kv (st i).heap.next).put b U).get b'=some x->b'=b/\x=U:=by
    intro b' x N;by_cases ai:b=b'
    ·subst ai;rw[e5]at N;injection N with N;exact⟨V,N.symm⟩
    rw[Heap.get_put_ne _ _ ai,cX]at N;cases N
   have b4:WRel μ ((kv (st i).heap.next).put b U) w:=by
    refine⟨fun b' l' o' a1 aA=>?_,fun b1 b2 l1 l2 o1 o2 an _ _ a9 bb=>?_⟩
    ·obtain⟨rfl,rfl⟩:=bz b' o' aA;exact I.obj b' l' o' a1 (by rw[a0,←al];exact hg)
    exact absurd ((bz b1 o1 a9).1.trans (bz b2 o2 bb).1.symm) an
   have aq:=bk _ e5
   have f7: ∀b',((kv (st i).heap.next).put b U).next<=b'->b'<(((kv (st i).heap.next).put b U).put b ef).next->μ b'=none:=fun b' h1 h2=>absurd h2 (Nat.not_lt_of_le h1)
   obtain⟨n,w',μ',b5,hp,hr⟩:=gC hρ b4 f7 aq
   unfold Oper.wp
   rw[b5]
   cases n with
   |skip=>
    rw[Oper.upon_skip]
    obtain⟨t1,t2⟩:=gH T I R
    refine hK μ' _ w' (Inv.next (H:=(kv (st i).heap.next).put b U) (Hn:=((kv (st i).heap.next).put b U).put b ef) I R.lt R.at_ hp (by rw[←gs];exact VRel.undef) (fun k=>T.mono k) (a0d _) (T.mono i)
     (fun b' l' x a1 N=>?_) (fun b' l' x a1 N=>?_) (fun b' l' x a1 N hc=>?_) (R.dc I.dc) (fun d hd=>?_) t1 t2)
    ·obtain⟨rfl,rfl⟩:=bz b' x N;rw[a0,←al];exact hg
    ·by_cases ai:b=b'
     ·subst ai;rw[Heap.get_put_same]at N;rw[gN T I R (fun _=>⟨l,hμ⟩) (a0V bl (T.mono i)) b0,ar,Heap.get_put_same];exact N
     rw[Heap.get_put_ne _ _ ai,Heap.get_put_ne _ _ ai,cX]at N;cases N
    ·have ai:b≠b':=by rintro rfl;rw[Heap.get_put_same]at N;cases N
     have b8: ¬chg st i b':=by intro b7;exact b7 (by rw[ar,Heap.get_put_ne _ _ ai,al])
     rw[iU T b8]at hc;rcases hp.dom b' l' a1 with h1|⟨h1,h2⟩
     ·exact⟨h1,by rw[Heap.get_put_ne _ _ ai,cX],hc⟩
     exact absurd h2 (Nat.not_lt_of_le h1)
    have:=F.dlt d hd
    rwa [T.sizeL i]at this
   |_=>exact hr.elim
 |false=>
 have dv: ∀b k w',nf k= .x w'->b∈w'->k<ops.size->(k<i->bn (ce ops) k i=true)/\(i<k->bn (ce ops) i k=true):=by
  intro b k w' ao hm ay;have an:isNilL w'=false:=by cases w' with
   |nil=>simp at hm
   |cons _ _=>rfl
  constructor
  ·intro a3;rcases T.comp k i a3 R.lt with h|h|h
   ·exact h
   ·rw[hf,ao]at h;simp only[dg,an,a1Y]at h;cases h
   rw[(no_st R dn).1]at h;cases h
  intro a2;rcases T.comp i k a2 ay with h|h|h
  ·exact h
  ·rw[hf,ao]at h;simp only[dg,an,a1O]at h;cases h
  rw[(no_st R dn).2]at h;cases h
 have co: ∀b l x,μ b=some l->H1.get b=some x->kj st S ops.size b=some x:=by intro b l x hb N;rw[al]at N;rw[lw T I R hb (ci.lt N) (dv b)];exact N
 have dt:WF H1:=fun b hb=>by rw[al];exact ci b (by rw[←aw];exact hb)
 have b4:WRel μ H1 w:=⟨fun b l x hb N=>I.obj b l x hb (co b l x hb N),fun b1 b2 l1 l2 o1 o2 an a7 a8 a9 bb=>I.inj b1 b2 l1 l2 o1 o2 an a7 a8 (co b1 l1 o1 a7 a9) (co b2 l2 o2 a8 bb)⟩
 refine jI f6 dt hρ e4 b4 (fun b a7 a8=>mC T I R b (by rw[←aw];exact a7) (by rw[c0];exact a8)) Z ?_
 intro μ' w' v' hp hv
 obtain⟨t1,t2⟩:=gH T I R
 have cv: ∀b l,μ' b=some l->b<(st i).heap.next->∃l,μ b=some l:=by
  intro b l hb gb;rcases hp.dom b l hb with h|⟨h,_⟩
  ·exact⟨l,h⟩
  rw[aw]at h;omega
 refine hK μ' _ w' (Inv.next (H:=H1) (Hn:=H2) I R.lt R.at_ hp hv (fun k=>T.mono k) (by rw[aw];exact a0d _) (by rw[c0];exact a0d _) co (fun b l x hb N=>?_) (fun b l x hb N hc=>?_) (R.dc I.dc) (fun d hd=>?_) t1 t2)
 ·rw[←ar]at N;rw[gN T I R (cv b l hb) ((T.wf (i+1)).lt N) (dv b)];exact N
 ·rw[←ar]at N;have e6:(st (i+1)).heap.next<=b:=by
   rcases a0g b (st (i+1)).heap.next with h|h
   ·rw[gN T I R (cv b l hb) h (dv b),N]at hc;cases hc
   exact h
  have b8: ¬chg st i b:=fun b7=>b7 (F.far b e6)
  rw[iU T b8]at hc;refine⟨?_,?_,hc⟩
  ·rcases hp.dom b l hb with h|⟨_,h⟩
   ·exact h
   rw[←c0]at h;omega
  exact dt b (by rw[aw];exact a0e F.next e6)
 have:=F.dlt d hd
 rwa [T.sizeL i]at this
end
section
variable {P:Program} {G:Nat} {cf:cr} {ops:Array Oper} {st:Nat->St} {vl:Nat->Value} {nf:Nat->Inf}
variable {μ0 μ:Emb} {w0 w:World} {d0:List Deferred} {a:Act}
def cnt(S:Nat->Bool):Nat->Nat
 |0=>0
 |n+1=>cnt S n+if S n=true then 0 else 1
theorem cnt_far{S:Nat->Bool}{i:Nat}: ∀n,n<=i->cnt (jP S i) n=cnt S n
 |0,_=>rfl
 |n+1,h=>by have:=cnt_far (S:=S) (i:=i) n M;simp only[cnt,this,gF S (show n≠i by omega)]
theorem cnt_add{S:Nat->Bool}{i:Nat}(hs:S i=false): ∀n,i<n->cnt (jP S i) n+1=cnt S n
 |0,h=>by omega
 |n+1,h=>by
  by_cases hi:i=n
  ·subst hi;simp only[cnt,cnt_far i (a0d i),gE,hs,if_true,a0P,if_false]
  have:=cnt_add hs n M;simp only[cnt,gF S (show n≠i by omega)];omega
theorem km{S:Nat->Bool}: ∀n,cnt S n=0->∀k,k<n->S k=true
 |0,_,k,h=>by omega
 |n+1,h,k,hk=>by
  simp only[cnt]at h;by_cases hs:S n=true
  ·by_cases E:k=n
   ·subst E;exact hs
   exact km n M k M
  rw[if_neg hs]at h;omega
theorem cnt_le{S:Nat->Bool}: ∀n,cnt S n<=n
 |0=>a0d _
 |n+1=>by have:=cnt_le (S:=S) n;simp only[cnt];split<;>omega
def gX(listed:Array Bool):Nat->Bool:=fun k=>listed.getD k false
theorem setOf_set{listed:Array Bool}{i:Nat}(hi:i<listed.size):gX (listed.setIfInBounds i true)=jP (gX listed) i:=by
 funext k;unfold gX jP;simp only[a11,a1i];by_cases E:i=k
 ·subst E;simp[hi]
 have:Nat.beq k i=false:=by
  cases N:Nat.beq k i with
  |false=>rfl
  |true=>exact absurd (a0c N).symm E
 simp[E,this]
theorem kQ{listed:Array Bool}(hl:listed.size=ops.size){i:Nat}:i∈Region.ready .any ops listed↔
  ∃o,Ready ops (gX listed) i o:=by
 unfold Region.ready
 rw[a24,a2d]
 constructor
 ·rintro⟨hi,h⟩;have E:ops[i]?=some ops[i]:=a0N hi;rw[E]at h;simp only[a09,a0G,a2s,a0I]at h;refine⟨ops[i],E,?_,fun e T N=>?_⟩
  ·unfold gX;have Z:=h.1;simp only[a11,a0N (show i<listed.size by omega),a0I]at Z⊢;exact Z
  have h2:=h.2;rw[Array.all_eq_true']at h2;have:=h2 e (by simpa using T);rw[N]at this;simpa[gX] using this
 rintro⟨o,E,U,T⟩
 have hi:i<ops.size:=(a0K.1 E).1
 refine⟨hi,?_⟩
 rw[E]
 simp only[a09,a0G,a2s,a0I]
 constructor
 ·unfold gX at U;simp only[a11,a0N (show i<listed.size by omega),a0I]at U⊢;exact U
 rw[Array.all_eq_true']
 intro e ad
 cases N:Region.binds .any e with
 |false=>rfl
 |true=>
  have:=T e (by simpa using ad) N
  simpa[gX] using this
theorem all_of_none(T:Trace P G cf ops st vl nf){listed:Array Bool}(hl:listed.size=ops.size)(h:Region.ready .any ops listed=[]): ∀k,k<ops.size->gX listed k=true:=by
 intro k;induction k using Nat.strongRecOn with
 |_ k ih=>
  intro hk
  cases hs:gX listed k with
  |true=>rfl
  |false=>
   exfalso
   have N:=a0N hk
   have:k∈Region.ready .any ops listed:=(kQ hl).2 ⟨ops[k],N,hs,fun e Z U=>by
    have E:=T.reg.back k ops[k] N e Z U;exact ih e.on E M⟩
   rw[h]at this;simp at this
theorem any_sound(U:d5 P G cf)(T:Trace P G cf ops st vl nf)(hG:GRel μ0 G){Q:Exit->Act->World->Prop}
  (Z: ∀S μ a w,(∀k,k<ops.size->S k=true)->Inv ops st vl μ0 w0 d0 S μ a w->Q .normal a w):
  ∀(fuel:Nat) (listed:Array Bool) (μ:Emb) (a:Act) (w:World),listed.size=ops.size->cnt (gX listed) ops.size<=fuel->Inv ops st vl μ0 w0 d0 (gX listed) μ a w->
   wpAny P .any ops Q fuel listed a w
 |0,listed,μ,a,w,hl,hc,I=>by
  have E:=km ops.size (by omega:cnt (gX listed) ops.size=0);refine⟨?_,Z _ μ a w E I⟩;cases hr:Region.ready .any ops listed with
  |nil=>rfl
  |cons i t=>
   exfalso
   have hm:i∈Region.ready .any ops listed:=by rw[hr];simp
   obtain⟨o,R⟩:=(kQ hl).1 hm
   have:=E i R.lt
   rw[R.new]at this;cases this
 |fuel+1,listed,μ,a,w,hl,hc,I=>by
  refine⟨fun h=>Z _ μ a w (all_of_none T hl h) I,fun i hi=>?_⟩;obtain⟨o,R⟩:=(kQ hl).1 hi;refine inv_step U T I hG R fun μ' a' w' I'=>?_
  have N:=setOf_set (listed:=listed) (i:=i) (by rw[hl];exact R.lt);refine any_sound U T hG Z fuel (listed.setIfInBounds i true) μ' a' w' (by simp[hl]) ?_ (by rw[N];exact I');rw[N];have:=cnt_add R.new ops.size R.lt;omega
theorem inv_start(T:Trace P G cf ops st vl nf)(ht:TRel μ0 (st 0).tmps (st 0).size a.tmps)(hw:WRel μ0 (st 0).heap w)(U: ∀b l,μ0 b=some l->b<(st 0).heap.next\/(st ops.size).heap.next<=b)(S:Nat->Bool)(N: ∀k,S k=false):
  Inv ops st vl μ0 w a.defers S μ0 a w:=by
 have hc: ∀b,kj st S ops.size b=(st 0).heap.get b:=by intro b;have:=lz st (S:=S) (b:=b) (i:=0) ops.size (fun k _ _=>by rw[N k];simp);rwa [Nat.min_zero]at this
 have aq: ∀t,tv st vl ops S ops.size t=cS (st 0).tmps t:=by intro t;have:=tv_eq st vl ops (S:=S) (t:=t) (i:=0) (fun k=>T.tm k t) ops.size (fun k _ _=>by rw[N k];simp);rwa [Nat.min_zero]at this
 refine⟨(fun k o _ hk=>by rw[N k]at hk;cases hk),fun b l E=>?_,fun b l o E Z=>hw.obj b l o E (by rw[←hc];exact Z),fun b1 b2 l1 l2 o1 o2 al aa ad an ao=>hw.inj b1 b2 l1 l2 o1 o2 al aa ad (by rw[←hc];exact an) (by rw[←hc];exact ao),
  ht.1,fun t=>by rw[aq];exact ht.2 t,V,fun _ _ h=>h,fun _ _ h=> .inl h,a0d _,V,V,V,fun _ _ _=>rfl,fun b l o E Z ai=> .inr ⟨b,l,o,E,by rw[←hc];exact Z,ai,id,V⟩⟩
 rcases U b l E with h|h
 ·exact .inl h
 exact .inr (.inr h)
theorem inv_end(T:Trace P G cf ops st vl nf){S:Nat->Bool}(E: ∀k,k<ops.size->S k=true)(I:Inv ops st vl μ0 w0 d0 S μ a w):
  Post μ0 (st 0).heap w0 μ (st ops.size).heap w/\TRel μ (st ops.size).tmps (st ops.size).size a.tmps/\a.defers=d0:=by
 have hc: ∀b,kj st S ops.size b=(st ops.size).heap.get b:=by intro b;have:=lz st (S:=S) (b:=b) (i:=ops.size) ops.size (fun k N _=>by rw[E k N];simp[N]);rwa [Nat.min_self]at this
 have ao: ∀t,tv st vl ops S ops.size t=cS (st ops.size).tmps t:=by intro t;have:=tv_eq st vl ops (S:=S) (t:=t) (i:=ops.size) (fun k=>T.tm k t) ops.size (fun k N _=>by rw[E k N];simp[N]);rwa [Nat.min_self]at this
 refine⟨⟨I.ext0,I.dom0,I.grow0,I.os0,I.tape0,I.out0,I.keep0,fun b l o U Z ag=>I.img0 b l o U (by rw[hc];exact Z) ag,
  ⟨fun b l o U Z=>I.obj b l o U (by rw[hc];exact Z),fun b1 b2 l1 l2 o1 o2 ai aa ad al an=>I.inj b1 b2 l1 l2 o1 o2 ai aa ad (by rw[hc];exact al) (by rw[hc];exact an)⟩⟩,⟨?_,fun t=>?_⟩,I.defers⟩
 ·rw[I.size,T.sizeL ops.size]
 have:=I.tm t
 rwa [ao]at this
end
section
variable {P:Program} {G:Nat} {cf:cr} {ops:Array Oper}
theorem iF(ad:d5 P G cf): ∀(l:List Oper) (k:Nat) (fs:List (Nat×Inf)) (s s':St),ops.toList.drop k=l->k+l.length=ops.size->bw P G cf ops k fs l s=some s'->WF s.heap->
  ∃(st:Nat->St) (vl:Nat->Value) (nf:Nat->Inf),st k=s/\st ops.size=s'/\(∀j,ops.size<=j->st (j+1)=st j)/\(∀j,k<=j->WF (st j).heap)/\
   (∀j o,k<=j->ops[j]?=some o->OpFact P G cf ops o (st j) (st (j+1)) (vl j) (nf j))/\
   (∀j,k<=j->j<ops.size->∀q∈fs,bn (ce ops) q.1 j=true\/dg q.2 (nf j)=true\/stst ops q.1 j q.2 (nf j)=true)/\
   (∀i j,k<=i->i<j->j<ops.size->bn (ce ops) i j=true\/dg (nf i) (nf j)=true\/stst ops i j (nf i) (nf j)=true)
 | [],k,fs,s,s',hd,hlen,h,hw=>by simp only[bw,a00]at h;subst h;simp only[a0b,a2w]at hlen;refine⟨fun _=>s,fun _=>undef,fun _=> .v,V,V,fun _ _=>rfl,fun _ _=>hw,fun j o T U=>?_,fun j T a5=>by omega,fun i j hi ai T=>by omega⟩;have:=(a0K.1 U).1;omega
 |x::os,k,fs,s,s',hd,hlen,h,hw=>by
  simp only[a05]at hlen;unfold bw at h;split at h
  case h_2=>cases h
  rename_i s1 f h1;cases N:cj ops (ce ops) k f fs with
  |false=>rw[N]at h;cases h
  |true=>
   rw[N]at h
   simp only[cond_true]at h
   obtain⟨v,F⟩:=stepD_fact ad hw h1
   have aw:WF s1.heap:=fun b hb=>by rw[F.far b hb];exact hw b (a0e F.next hb)
   have hk:k<ops.toList.length:=by simp;omega
   have ag:=a1f hk
   rw[hd]at ag
   injection ag with e1 e2
   have av:ops[k]?=some x:=by rw[←Array.getElem?_toList,a06 hk,←e1]
   obtain⟨st,vl,nf,g1,g2,g3,g4,g5,g6,g7⟩:=iF ad os (k+1) ((k,f)::fs) s1 s' e2.symm M h aw
   have aa: ∀(l:List (Nat×Inf)),cj ops (ce ops) k f l=true->∀q∈l,bn (ce ops) q.1 k=true\/dg q.2 f=true\/stst ops q.1 k q.2 f=true:=by
    intro l;induction l with
    |nil=>intro _ q N;simp at N
    |cons p l ih=>
     intro hl q N
     obtain⟨pj,pg⟩:=p
     simp only[cj,a09,a0A]at hl
     rcases a0v.1 N with rfl|N
     ·exact hl.1
     exact ih hl.2 q N
   refine⟨fun j=>if j<=k then s else st j,fun j=>if j<=k then v else vl j,fun j=>if j<=k then f else nf j,by simp,?_,fun j T=>?_,fun j T=>?_,fun j o T U=>?_,fun j T Z q al=>?_,fun i j hi ai Z=>?_⟩
   ·simp only[show ¬(ops.size<=k) by omega,if_false];exact g2
   ·simp only[show ¬(j<=k) by omega,show ¬(j+1<=k) by omega,if_false];exact g3 j T
   ·by_cases E:j<=k
    ·simp only[E,if_true];exact hw
    simp only[E,if_false];exact g4 j M
   ·by_cases E:j=k
    ·subst E;rw[av]at U;injection U with U;subst U;simp only[a0d,if_true,show ¬(j+1<=j) by omega,if_false,g1];exact F
    simp only[show ¬(j<=k) by omega,show ¬(j+1<=k) by omega,if_false];exact g5 j o M U
   ·by_cases E:j=k
    ·subst E;simp only[a0d,if_true];exact aa fs N q al
    simp only[show ¬(j<=k) by omega,if_false];exact g6 j M Z q (a0f _ al)
   by_cases aq:i=k
   ·subst aq;simp only[a0d,if_true,show ¬(j<=i) by omega,if_false];exact g6 j M Z (i,f) (by simp)
   simp only[show ¬(i<=k) by omega,show ¬(j<=k) by omega,if_false]
   exact g7 i j M ai Z
theorem region_sound(aa:d5 P G cf){id:Nat}{N:Bool}{s E:St}(h:bT P G cf ops N s=some E){μ:Emb}{a:Act}{w:World}{Q:Exit->Act->World->Prop}
  (ao:WF s.heap) (ht:TRel μ s.tmps s.size a.tmps) (hG:GRel μ G) (hw:WRel μ s.heap w) (ad: ∀b l,μ b=some l->b<s.heap.next\/E.heap.next<=b)
  (hQ: ∀μ' w' U,Post μ s.heap w μ' E.heap w'->TRel μ' E.tmps E.size U.tmps->U.defers=a.defers->Q .normal U w'):(Code.region id ops N).wp P Q a w:=by
 have ag: ∀b,s.heap.next<=b->b<E.heap.next->μ b=none:=by
  intro b h1 h2;cases hb:μ b with
  |none=>rfl
  |some l=>rcases ad b l hb with h3|h3<;>omega
 unfold bT at h
 cases N with
 |false=>
  simp only[cond_false]at h
  refine wp_region ?_
  rw[List.range_eq_range']
  have:=jz aa ops.toList 0 s E V h μ a w ao ht hG hw ag (Q:=Q) hQ
  simpa using this
 |true=>
  simp only[cond_true]at h
  cases hq:(bh ops&&P.follows .mixedOrders) with
  |false=>rw[hq]at h;cases h
  |true=>
   rw[hq]at h
   simp only[cond_true]at h
   simp only[a09]at hq
   obtain⟨st,vl,nf,Z,g2,g3,g4,g5,_,g7⟩:=iF aa ops.toList 0 [] s E V (by simp) h ao
   have T:Trace P G cf ops st vl nf:=⟨fun k o ho=>g5 k o (a0D _) ho,g3,fun j k aw hk=>g7 j k (a0D _) aw hk,regOK_facts hq.1,fun k=>g4 k (a0D _)⟩
   refine wp_region_any hq.2 ?_
   rw[World.drew_eq]
   have I:=inv_start (a:=a) (w:=w.drew) (μ0:=μ) T (by rw[Z];exact ht) (by rw[Z];exact hw.drew) (by rw[Z,g2];exact ad) (gX (Array.replicate ops.size false)) (fun k=>by
    unfold gX;simp[a11,Array.getElem?_replicate];split<;>rfl)
   refine any_sound aa T hG (fun S μ' U w' hS I'=>?_) ops.size _ μ a w.drew (by simp) (cnt_le _) I
   obtain⟨hp,an,av⟩:=inv_end T hS I'
   rw[Z,g2]at hp
   rw[g2]at an
   refine hQ μ' w' U ((Post.drew hw).trans hp (a0d _) ?_) an av
   have:=T.monoL (a0D ops.size)
   rwa [Z,g2]at this
end
open Go.RowKit
def Ex.toExit:Ex->Exit
 | .normal=> .normal
 | .exit id=> .exit id
 | .ret=> .ret
def LoopWp(P:Program)(c:Code)(Q:Exit->Act->World->Prop)(a:Act)(w:World):Prop:=
 ∀(b:Frame) (k:List Item) (cs:List Frame),∃e E w',Q e E w'/\Arrives P (lone (b.at a (.code c:: .inLoop c::k)) cs w) b k cs e E w'
theorem LoopWp.wp{P:Program}{c:Code}{Q:Exit->Act->World->Prop}{a:Act}{w:World}(h:LoopWp P c Q a w):(Code.loop c).wp P Q a w:=
 fun b k cs=>let⟨e,a',w',q,r⟩:=h b k cs;⟨e,a',w',q,.of_steps (.one step_loop) r⟩
theorem LoopWp.round{P:Program}{c:Code}{Q:Exit->Act->World->Prop}{a:Act}{w:World}(h:c.wp P (Exit.then (LoopWp P c Q) Q) a w):LoopWp P c Q a w:=by
 intro b k cs;obtain⟨e,T,U,N,E⟩:=h b (.inLoop c::k) cs;cases e with
 |normal=>
  obtain⟨e₂,a₂,w₂,aa,Z⟩:=N b k cs
  exact⟨e₂,a₂,w₂,aa,.of_steps (Steps.trans E (.one step_inLoop)) Z⟩
 |exit id=>exact⟨_,T,U,N,.pass (x:= .inLoop c) V (fun _ _=> .inl (by simp)) E⟩
 |goto l=>exact⟨_,T,U,N,.pass (x:= .inLoop c) V (fun _ _=> .inl (by simp)) E⟩
 |ret=>exact⟨_,T,U,N,.pass (x:= .inLoop c) V (fun _ _=> .inl (by simp)) E⟩
 |panic ch=>exact⟨_,T,U,N,.pass (x:= .inLoop c) V (fun _ _=> .inl (by simp)) E⟩
 |outgrown=>exact⟨_,T,U,N,.pass (x:= .inLoop c) V (fun _ _=> .inl (by simp)) E⟩
def Wp(P:Program)(c:Code)(Q:Exit->Act->World->Prop)(a:Act)(w:World):Prop:=
 match c with
 | .loop b=>LoopWp P b Q a w
 |c=>c.wp P Q a w
theorem Wp.wp{P:Program}{c:Code}{Q:Exit->Act->World->Prop}{a:Act}{w:World}(h:Wp P c Q a w):c.wp P Q a w:=by cases c<;>first|exact LoopWp.wp h|exact h
def After(μ:Emb)(s:St)(w:World)(e:Ex)(E:St):Exit->Act->World->Prop:=fun T N U=>
 T=e.toExit/\N.defers=[]/\∃μ',Post μ s.heap w μ' E.heap U/\TRel μ' E.tmps E.size N.tmps
def ExOK(P:Program)(G:Nat)(ex:Code->St->Option (Ex×St)):Prop:= ∀c s e E,ex c s=some (e,E)->WF s.heap->Ext s.heap E.heap/\
 ∀μ a w,a.defers=[]->TRel μ s.tmps s.size a.tmps->GRel μ G->WRel μ s.heap w->(∀b,s.heap.next<=b->b<E.heap.next->μ b=none)->Wp P c (After μ s w e E) a w
section
variable {P:Program} {G:Nat}
theorem mB{μ E:Emb}{H H1 N:Heap}{w w1:World}(hp:Post μ H w E H1 w1)(T:H.next<=H1.next)(hf: ∀b,H.next<=b->b<N.next->μ b=none): ∀b,H1.next<=b->b<N.next->E b=none:=by
 intro b U Z;cases hb:E b with
 |none=>rfl
 |some l=>
  rcases hp.dom b l hb with h|⟨_,h⟩
  ·rw[hf b (a0e T U) Z]at h;cases h
  omega
theorem After.trans{μ μ1:Emb}{s E U:St}{w w1:World}{e:Ex}(hp:Post μ s.heap w μ1 E.heap w1)(h1:s.heap.next<=E.heap.next)(h2:E.heap.next<=U.heap.next):
  ∀T N Z,After μ1 E w1 e U T N Z->After μ s w e U T N Z:=by
 rintro T N Z ⟨he,hd,μ2,hp2,ht⟩
 exact⟨he,hd,μ2,hp.trans hp2 h1 h2,ht⟩
theorem region_ext{cf:cr}(aa:d5 P G cf){ops:Array Oper}{N:Bool}{s E:St}(Z:WF s.heap)(h:bT P G cf ops N s=some E):Ext s.heap E.heap:=by
 unfold bT at h;cases N with
 |false=>exact i6 aa _ _ _ Z h
 |true=>
  simp only[cond_true]at h
  cases U:(bh ops&&P.follows .mixedOrders) with
  |false=>rw[U]at h;cases h
  |true=>
   rw[U]at h
   simp only[cond_true]at h
   have an: ∀(l:List Oper) (k:Nat) (fs:List (Nat×Inf)) (s E:St),WF s.heap->bw P G cf ops k fs l s=some E->Ext s.heap E.heap:=by
    intro l;induction l with
    |nil=>intro k fs s E _ h;simp only[bw,a00]at h;subst h;exact Ext.refl _
    |cons o os ih=>
     intro k fs s E Z h
     unfold bw at h
     split at h
     case h_2=>cases h
     rename_i s1 f T
     cases U:cj ops (ce ops) k f fs with
     |false=>rw[U]at h;cases h
     |true=>
      rw[U]at h
      simp only[cond_true]at h
      have e1:Ext s.heap s1.heap:=by
       unfold gW at T;split at T
       case h_2=>cases T
       rename_i t al;simp only[a00,a04]at T;obtain⟨rfl,_⟩:=T;have e0:=j3 aa (s:={s with heap:={s.heap with log:=[]}}) Z al;obtain⟨d,hd,hs⟩:=e0.log;refine⟨e0.next,⟨dD s.heap.next t.heap.log,V,fun b hb hn=>?_⟩,e0.far⟩;refine hs b hb fun hm=>hn (fg.2 ⟨?_,hb⟩)
       rw[hd,a0o];exact hm
      exact e1.trans (ih _ _ _ _ (Z.ext e1) h)
   exact an _ _ _ _ _ Z h
theorem execC_ok{rec_:Code->St->Option (Ex×St)}{cf:cr}(a0:ExOK P G rec_)(ay:d5 P G cf):ExOK P G (eL P G rec_ cf):=by
 intro c;induction c with
 |skip=>
  intro s e s' h hw
  rw[mF]at h
  simp only[a00,a04]at h
  obtain⟨rfl,rfl⟩:=h
  exact⟨Ext.refl _,fun μ a w Z N T hr _=>wp_skip ⟨V,Z,μ,Post.refl hr,N⟩⟩
 |region id ops draw=>
  intro s e s' h hw
  rw[gw]at h
  unfold dT at h
  split at h
  ·rename_i s1 h1;simp only[a00,a04]at h;obtain⟨rfl,rfl⟩:=h;refine⟨region_ext ay hw h1,fun μ a w Z N T hr hf=>?_⟩;refine region_sound ay h1 hw N T hr (fun b l hb=>?_) fun μ' w' a' hp a4 a1=>⟨V,a1.trans Z,μ',hp,a4⟩
   rcases a0g b s.heap.next with h2|h2
   ·exact .inl h2
   right;rcases a0g b s1.heap.next with h3|h3
   ·rw[hf b h2 h3]at hb;cases hb
   exact h3
  cases h
 |seq x y ihx ihy=>
  intro s e s' h hw
  rw[lu]at h
  cases hx:eL P G rec_ cf x s with
  |none=>rw[hx]at h;cases h
  |some p=>
   obtain⟨e1,s1⟩:=p
   obtain⟨E,U⟩:=ihx s e1 s1 hx hw
   rw[hx]at h
   cases e1 with
   |normal=>
    simp only[gx]at h
    obtain⟨al,av⟩:=ihy s1 e s' h (hw.ext E)
    refine⟨E.trans al,fun μ a w Z N T hr hf=>wp_seq ?_⟩
    refine wp_mono (U μ a w Z N T hr (fun b h1 h2=>hf b h1 (a0V h2 al.next))).wp ?_
    rintro e2 a2 w2 ⟨rfl,hd2,μ2,hp2,ht2⟩
    exact wp_mono (av μ2 a2 w2 hd2 ht2 (T.mono hp2.ext) hp2.wrel (mB hp2 E.next hf)).wp (After.trans hp2 E.next al.next)
   |exit i=>
    simp only[gx,a00,a04]at h
    obtain⟨rfl,rfl⟩:=h
    refine⟨E,fun μ a w Z N T hr hf=>wp_seq ?_⟩
    refine wp_mono (U μ a w Z N T hr hf).wp ?_
    rintro e2 a2 w2 ⟨rfl,hrest⟩
    exact⟨V,hrest⟩
   |ret=>
    simp only[gx,a00,a04]at h
    obtain⟨rfl,rfl⟩:=h
    refine⟨E,fun μ a w Z N T hr hf=>wp_seq ?_⟩
    refine wp_mono (U μ a w Z N T hr hf).wp ?_
    rintro e2 a2 w2 ⟨rfl,hrest⟩
    exact⟨V,hrest⟩
 |cond c x y ihx ihy=>
  intro s e s' h hw
  rw[jh]at h
  cases hq:bo G c with
  |false=>rw[hq]at h;cases h
  |true=>
   rw[hq]at h
   simp only[cond_true]at h
   unfold mJ at h
   split at h
   ·rename_i t hv;have aw: ∀(μ:Emb) (a:Act),TRel μ s.tmps s.size a.tmps->GRel μ G->a.eval c= .bool t:=by
     intro μ a N T;have:=eval_of T hq (tm:=s.tmps) (a:=a) fun k _=>N.2 k
     rw[hv]at this;exact this.bool_inv
    cases t with
    |true=>
     obtain⟨E,U⟩:=ihx s e s' h hw
     exact⟨E,fun μ a w Z N T hr hf=>wp_cond_true (aw μ a N T) (U μ a w Z N T hr hf).wp⟩
    |false=>
     obtain⟨E,U⟩:=ihy s e s' h hw
     exact⟨E,fun μ a w Z N T hr hf=>wp_cond_false (aw μ a N T) (U μ a w Z N T hr hf).wp⟩
   cases h
 |block id x ih=>
  intro s e s' h hw
  rw[io]at h
  cases hx:eL P G rec_ cf x s with
  |none=>rw[hx]at h;cases h
  |some p=>
   obtain⟨e1,s1⟩:=p
   obtain⟨E,U⟩:=ih s e1 s1 hx hw
   rw[hx]at h
   cases e1 with
   |normal=>
    simp only[db,a00,a04]at h
    obtain⟨rfl,rfl⟩:=h
    refine⟨E,fun μ a w Z N T hr hf=>wp_block ?_⟩
    refine wp_mono (U μ a w Z N T hr hf).wp ?_
    rintro e2 a2 w2 ⟨rfl,hrest⟩
    exact⟨V,hrest⟩
   |exit i=>
    simp only[db]at h
    cases hb:Nat.beq i id with
    |true=>
     rw[hb]at h
     simp only[cond_true,a00,a04]at h
     obtain⟨rfl,rfl⟩:=h
     have hi:i=id:=a0c hb
     subst hi
     refine⟨E,fun μ a w Z N T hr hf=>wp_block ?_⟩
     refine wp_mono (U μ a w Z N T hr hf).wp ?_
     rintro e2 a2 w2 ⟨rfl,hrest⟩
     simp only[Ex.toExit,Exit.inBlock,if_true]
     exact⟨V,hrest⟩
    |false=>
     rw[hb]at h
     simp only[cond_false,a00,a04]at h
     obtain⟨rfl,rfl⟩:=h
     have hi: ¬i=id:=fun e=>by subst e;rw[a15]at hb;cases hb
     refine⟨E,fun μ a w Z N T hr hf=>wp_block ?_⟩
     refine wp_mono (U μ a w Z N T hr hf).wp ?_
     rintro e2 a2 w2 ⟨rfl,hrest⟩
     simp only[Ex.toExit,Exit.inBlock,hi,if_false]
     exact⟨V,hrest⟩
   |ret=>
    simp only[db,a00,a04]at h
    obtain⟨rfl,rfl⟩:=h
    refine⟨E,fun μ a w Z N T hr hf=>wp_block ?_⟩
    refine wp_mono (U μ a w Z N T hr hf).wp ?_
    rintro e2 a2 w2 ⟨rfl,hrest⟩
    exact⟨V,hrest⟩
 |loop x ih=>
  intro s e s' h hw
  rw[jg]at h
  cases hx:eL P G rec_ cf x s with
  |none=>rw[hx]at h;cases h
  |some p=>
   obtain⟨e1,s1⟩:=p
   obtain⟨E,U⟩:=ih s e1 s1 hx hw
   rw[hx]at h
   cases e1 with
   |normal=>
    simp only[gx]at h
    obtain⟨al,av⟩:=a0 (.loop x) s1 e s' h (hw.ext E)
    refine⟨E.trans al,fun μ a w Z N T hr hf=>LoopWp.round ?_⟩
    refine wp_mono (U μ a w Z N T hr (fun b h1 h2=>hf b h1 (a0V h2 al.next))).wp ?_
    rintro e2 a2 w2 ⟨rfl,hd2,μ2,hp2,ht2⟩
    have hl:LoopWp P x (After μ2 s1 w2 e s') a2 w2:=av μ2 a2 w2 hd2 ht2 (T.mono hp2.ext) hp2.wrel (mB hp2 E.next hf)
    intro b k cs
    obtain⟨e3,a3,w3,q,r⟩:=hl b k cs
    exact⟨e3,a3,w3,After.trans hp2 E.next al.next _ _ _ q,r⟩
   |exit i=>
    simp only[gx,a00,a04]at h
    obtain⟨rfl,rfl⟩:=h
    refine⟨E,fun μ a w Z N T hr hf=>LoopWp.round ?_⟩
    refine wp_mono (U μ a w Z N T hr hf).wp ?_
    rintro e2 a2 w2 ⟨rfl,hrest⟩
    exact⟨V,hrest⟩
   |ret=>
    simp only[gx,a00,a04]at h
    obtain⟨rfl,rfl⟩:=h
    refine⟨E,fun μ a w Z N T hr hf=>LoopWp.round ?_⟩
    refine wp_mono (U μ a w Z N T hr hf).wp ?_
    rintro e2 a2 w2 ⟨rfl,hrest⟩
    exact⟨V,hrest⟩
 |exit id=>
  intro s e s' h hw
  rw[mG]at h
  simp only[a00,a04]at h
  obtain⟨rfl,rfl⟩:=h
  exact⟨Ext.refl _,fun μ a w Z N T hr _=>wp_exit ⟨V,Z,μ,Post.refl hr,N⟩⟩
 |ret=>
  intro s e s' h hw
  rw[execC_ret]at h
  simp only[a00,a04]at h
  obtain⟨rfl,rfl⟩:=h
  exact⟨Ext.refl _,fun μ a w Z N T hr _=>wp_ret ⟨V,Z,μ,Post.refl hr,N⟩⟩
 |rangeFunc f ps x y _ _=>intro s e s' h;cases h
 |scope x _=>intro s e s' h;cases h
 |label l=>intro s e s' h;cases h
 |goto l=>intro s e s' h;cases h
 |refuse m=>intro s e s' h;cases h
theorem ir: ∀(args:List Value) (i:Nat) (t:Tr Value) (k:Nat),cS (fO i args t) k=if i<=k/\k<i+args.length then args.getD (k-i) undef else cS t k
 | [],i,t,k=>by rw[if_neg (by simp only[a0b];omega)];rfl
 |v::l,i,t,k=>by
  simp only[fO];rw[ir l (i+1) _ k];by_cases E:i+1<=k/\k<i+1+l.length
  ·rw[if_pos E,if_pos (by simp only[a05];omega),show k-i=(k-(i+1))+1 by omega];rfl
  rw[if_neg E,gr];by_cases N:i=k
  ·subst N;rw[if_pos V,if_pos (by simp only[a05];omega)];simp
  rw[if_neg N,if_neg (by simp only[a05];omega)]
theorem args_rel{μ:Emb}{args:List Value}{E:Array Value}(h:LRel μ args E.toList)(n:Nat):
  TRel μ (fO 0 args .nil) (Nat.max args.length n) (E++Array.replicate (n-E.size) undef):=by
 have U:args.length=E.size:=by rw[h.1];simp
 refine⟨by simp only[Array.size_append,Array.size_replicate];rw[U];show _=max _ _;omega,fun i=>?_⟩
 rw[ir]
 simp only[a0D,true_and,a1g,Nat.sub_zero,lget_nil,a11,Array.getElem?_append]
 by_cases hi:i<args.length
 ·rw[if_pos hi,if_pos M];have N:args[i]?=some args[i]:=a06 hi;obtain⟨v',T,Z⟩:=h.get N;have:E[i]?=some v':=by simpa using T
  rw[this,a02,N];exact Z
 rw[if_neg hi,if_neg M]
 rw[Array.getElem?_replicate]
 split
 ·exact VRel.undef
 exact VRel.undef
theorem g0{μ:Emb}{s:St}{a:Array Value}{w:World}(N:TRel μ s.tmps s.size a)(hw:WRel μ s.heap w): ∀(rs:List ResultVar) (l:List Value),cM P s rs=some l->
  ∃l',(rs.mapM (m:=Sem) fun| .tmp t=>Pure.pure (a.getD t undef)| .cell x t=>do loadVar t (←asAddr (a.getD x undef))).run P w= .ok l' w/\LRel μ l l'
 | [],l,h=>by simp only[cM,a00]at h;subst h;exact⟨[],by simp,.nil⟩
 | .tmp t::rs,l,h=>by
  unfold cM at h;split at h
  ·rename_i l1 U;injection h with h;subst h;obtain⟨l',E,Z⟩:=g0 N hw rs l1 U;exact⟨a.getD t undef::l',by simp only[a2y,Sem.run_bind,Sem.run_pure,Result.andThen_ok,E],.cons (N.2 t) Z⟩
  cases h
 | .cell x t::rs,l,h=>by
  unfold cM at h;split at h
  ·rename_i p hp;split at h
   ·rename_i v l1 hv U;injection h with h;subst h;obtain⟨l',E,Z⟩:=g0 N hw rs l1 U;have hx:=N.2 x;rw[hp]at hx;obtain⟨b,o,sp⟩:=p;have al:sp=none:=hx.ptr_some.1;subst al;obtain⟨T,hμ,ao⟩:=hx.ptr_inv;obtain⟨v',ai,an⟩:=ie (P:=P) hw hμ hv;exact⟨v'::l',by simp only[a2y,Sem.run_bind,ao,show(asAddr (Value.pointer (some ⟨T.c,T.sh+o,none⟩))).run P w= .ok ⟨T.c,T.sh+o,none⟩ w from V,Sem.run_pure,Result.andThen_ok,ai,E],.cons an Z⟩
   cases h
  cases h
theorem result_rel{μ:Emb}{l l':List Value}(h:LRel μ l l'):VRel μ (er l) (if h:l'.toArray.size=1 then l'.toArray[0] else .tuple l'.toArray):=by
 match l,l',h with
 | [],l',h=>
  have:=h.nil_left
  subst this
  exact .tuple _ _ V (fun i v v' h=>by simp at h)
 | [v],l',h=>
  obtain⟨v',t,rfl,N,E⟩:=h.cons_left
  have:=E.nil_left
  subst this
  exact N
 |v::u::r,l',h=>
  obtain⟨v',t,rfl,N,E⟩:=h.cons_left
  obtain⟨u',Z,rfl,U,T⟩:=E.cons_left
  simp only[List.size_toArray,a05,show ¬(Z.length+1+1=1) by omega,dite_false]
  have:=LRel.cons N (LRel.cons U T)
  exact .tuple _ _ (by simpa[er] using this.1) (by simpa[er] using this.2)
theorem nu{μ:Emb}{s:St}{fn:Func}{a:Array Value}{w:World}(U:TRel μ s.tmps s.size a)(Z:WRel μ s.heap w){l:List Value}(h:cM P s fn.results.toList=some l):
  ∃v',(results fn a).run P w= .ok v' w/\VRel μ (er l) v':=by
 obtain⟨l',N,E⟩:=g0 (P:=P) U Z _ l h
 refine⟨_,?_,result_rel E⟩
 unfold results
 rw[Array.mapM_eq_mapM_toList]
 simp only[Sem.run_bind,Sem.run_map]
 have e: ∀(r:Result (List Value)),r= .ok l' w->((r.andThen fun a w'=>(.ok a.toArray w':Result (Array Value))).andThen fun T w'=>((Pure.pure (if h:T.size=1 then T[0] else Value.tuple T):Sem Value).run P w'))=
   .ok (if h:l'.toArray.size=1 then l'.toArray[0] else .tuple l'.toArray) w:=by
  intro r E;subst E;rfl
 exact e _ N
theorem callC_ok{ex:Code->St->Option (Ex×St)}(aa:ExOK P G ex):d5 P G (nQ P ex):=by
 intro f args H v H' h ai;unfold nQ at h;split at h
 case h_2=>cases h
 rename_i fn ad;split at h
 case h_2=>cases h
 rename_i c hc;have Z: ∀e s,(e=Ex.normal\/e=Ex.ret)->ex c {tmps:=fO 0 args .nil,size:=Nat.max args.length fn.ntmps,heap:=H}=some (e,s)->
   (match cM P s fn.results.toList with|some l=>some (er l,s.heap)|none=>none)=some (v,H')->Ext H H'/\
   ∀μ w (E:Array Value),LRel μ args E.toList->GRel μ G->WRel μ H w->(∀b,H.next<=b->b<H'.next->μ b=none)->
    Calls P f E w fun e w'=> ∃μ' v',e= .returned v'/\VRel μ' v v'/\Post μ H w μ' H' w':=by
  intro e s he U N
  split at N
  ·rename_i l hl;simp only[a00,a04]at N;obtain⟨rfl,rfl⟩:=N;obtain⟨ext,al⟩:=aa c _ e s U ai;refine⟨ext,fun μ w E ha hG hw hf=>?_⟩;refine calls_of_wp ad hc ?_;refine wp_mono (al μ {tmps:=E++Array.replicate (fn.ntmps-E.size) undef,defers:=[]} w V (args_rel ha fn.ntmps) hG hw hf).wp ?_;rintro e2 a2 w2 ⟨rfl,hd,μ',hp,ht⟩;obtain⟨v',T,hr⟩:=nu (P:=P) (fn:=fn) ht hp.wrel hl;rcases he with rfl|rfl
   ·exact⟨hd,v',T,μ',v',V,hr,hp⟩
   exact⟨hd,v',T,μ',v',V,hr,hp⟩
  cases N
 split at h
 ·rename_i s U;exact Z .normal s (.inl V) U h
 ·rename_i s U;exact Z .ret s (.inr V) U h
 cases h
def KnownOK(P:Program)(G:Nat)(K:bJ):Prop:= ∀f args H v,K f args H=some v->args.all noA2=true/\noA2 v=true/\∀(μ:Emb) (E:Array Value) (w:World),E.toList=args->GRel μ G->WRel μ H w->
 Calls P f E w fun e w'=>e= .returned v/\Below w.heap.size w w'
theorem LRel.eq2{μ:Emb}{l l':List Value}(h:LRel μ l l')(E:l.all noA2=true):l'=l:=by
 induction l generalizing l' with
 |nil=>exact h.nil_left
 |cons v l ih=>
  obtain⟨v',U,rfl,T,N⟩:=h.cons_left
  simp only[a0F,a09]at E
  rw[T.eq2 E.1,ih N E.2]
theorem callK_ok{K:bJ}{cf:cr}(hK:KnownOK P G K)(Z:d5 P G cf):d5 P G (lR K cf):=by
 intro f args H v H' h ag;unfold lR at h;split at h
 ·rename_i u hu;simp only[a00,a04]at h;obtain⟨rfl,rfl⟩:=h;obtain⟨h1,h2,h3⟩:=hK f args H u hu;refine⟨Ext.refl _,fun μ w E ha hG U hf=>?_⟩;refine(h3 μ E w (ha.eq2 h1) hG U).mono ?_;rintro e w' ⟨rfl,hb⟩;refine⟨μ,u,V,VRel.refl2 h2,⟨fun _ _ h=>h,fun _ _ h=> .inl h,hb.size,hb.os,hb.tape,hb.output,fun c hc _=>hb.block c hc,fun b l o N T h6=> .inr ⟨b,l,o,N,T,h6,id,V⟩,⟨fun b l o N T=>?_,U.inj⟩⟩⟩;have hr:=U.obj b l o N T;exact hr.keep (fun _ _ h=>h) hb.size (fun aa=>hb.block l.c (hr.lt aa))
 exact Z f args H v H' h ag
theorem exec_ok{K:bJ}(E:KnownOK P G K): ∀n,ExOK P G (mH P G K n)
 |0=>fun c s e N h=>by cases h
 |n+1=>execC_ok (exec_ok E n) (callK_ok E (callC_ok (exec_ok E n)))
theorem call_ok{K:bJ}(E:KnownOK P G K)(n:Nat):d5 P G (call P G K n):=callK_ok E (callC_ok (exec_ok E n))
theorem none_ok:KnownOK P G noneKnown:=fun f args H v h=>by cases h
end
open Go.RowKit
open Go.WideShapes Go.ChangeShapes in
theorem nw{H:Type}{enc:TypeId×Value->H}{P:Program}{f:Func}{s:ChangeSpec}{T aq ag ap:Bool}{W W':World}{args:Array Value}{v:Value}{ds gs:List (DataW H)}{E pa pv:List MemPlace}
  (hW:DataW.Whole enc P f.params.toList s.vars T W args.toList ds gs E)
  (ao: ∀(b:Nat) (sp:Nat->Bool) (hd:Bool),DataW.TrodAll enc P W' b sp hd f.resultTypes.toList (v.resultList f.resultTypes.size) (s.fn H (ds++gs)).results [])
  (U: ∀sp:Nat->Bool,(∀p∈E,sp p.block=true)->DataW.TrodAll enc P W' 0 sp true f.params.toList args.toList (s.fn H (ds++gs)).args pa)
  (aa: ∀sp:Nat->Bool,(∀p∈E,sp p.block=true)->DataW.TrodVars enc P W' sp s.vars (s.fn H (ds++gs)).vars pv)
  (Z:E=pa++pv) (hb:Below W.heap.size W W')
  (a0: ∀(j:Nat) (t:TypeId) (r:Value),f.resultTypes[j]?=some t->(v.resultList f.resultTypes.size)[j]?=some r->Value.okWide P W' .any 0 t r):
  s.post enc P f T aq ag ap W args v W':=by
 have an: ∀p∈E,(fun b=>decide (b<W.heap.size)) p.block=true:=fun p N=>by simpa using hW.lt p N
 have aA: ∀p∈E,p.block<W.heap.size:=fun p N=>by simpa using hW.lt p N
 refine⟨ds,gs,E,[],pa,pv,hW,ao _ _ _,U _ an,aa _ an,World.keptBut_mono (fun p N=>⟨N,?_⟩) (hb.frame (· ∈E)),fun _=>?_⟩
 ·rw[Z,a07]at N;exact Or.inr N
 obtain⟨_,_,_,_,_,hz,hn⟩:=hW
 refine⟨a0,_,_,([]++pa)++pv,⟨[]++pa,pv,trodAll_append (U _ (fun _ _=>rfl)) (ao _ _ _),aa _ (fun _ _=>rfl),V,?_,?_⟩,?_⟩
 ·intro b off N;have av:MemPlace.cell b off∈E:=by rw[Z];simpa using N
  have h1:=hb.frozen (p:=⟨b,off,none⟩) (aA _ av);have h2:=hz b off av;first|(rw[h1];exact h2)|(exact h1.trans h2)|(simp_all)
 ·intro ha;have:=hn ha;rw[Z]at this;simpa using this
 intro p N _
 rw[Z]
 simpa using N
end Go.R
noncomputable section
namespace Go.R
open Go.RowKit
section
variable {P:Program} {w:World} {base:Nat} {held:Bool} {enc:TypeId×Value->Unit}
def lit1(P:Program)(t:TypeId)(d:DataW Unit):Option Value:=
 match P.underlying t,d with
 |some .bool,.lit (.bool b)=>some (.bool b)
 |some (.int k),.lit (.int _ n)=>some (.int k n)
 |some .string,.lit (.string l)=>some (.string ⟨⟨l⟩⟩)
 |_,_=>none
theorem cells_lit1{U:Nat->Bool}{fuel:Nat}{t:TypeId}{cs:List Value}{d:DataW Unit}{p:List MemPlace}{v:Value}(h:DataW.trod enc P w base U held fuel t cs=some (d,p))(E:lit1 P t d=some v):cs=[v]:=by
 unfold lit1 at E;split at E
 ·rename_i T;obtain⟨b,rfl,N⟩:=DataW.trod_bool T h;simp only[a04,DataW.lit.injEq,Lit.bool.injEq]at N;injection E with E;subst E;rw[N.1]
 ·rename_i T;obtain⟨n,rfl,N,_⟩:=DataW.trod_int T h;simp only[a04,DataW.lit.injEq,Lit.int.injEq]at N;injection E with E;subst E;rw[N.1.2]
 ·rename_i T;obtain⟨s,rfl,N,_⟩:=DataW.trod_string T h;simp only[a04,DataW.lit.injEq,Lit.string.injEq]at N;injection E with E;subst E;rw[N.1]
 cases E
def flatFs(P:Program):Nat->List Field->Bool
 |_,[]=>true
 |i,f::fs=>Nat.beq f.offset i&&Nat.beq (P.cellsOf f.type) 1&&flatFs P (i+1) fs
theorem flatFs_at: ∀(fs:List Field) (i j:Nat) (f:Field),flatFs P i fs=true->fs[j]?=some f->f.offset=i+j/\P.cellsOf f.type=1
 | [],_,_,_,_,h=>by simp at h
 |g::fs,i,0,f,h,hf=>by simp only[flatFs,a09]at h;simp only[a0W,a00]at hf;subst hf;exact⟨a0c h.1.1,a0c h.1.2⟩
 |g::fs,i,j+1,f,h,hf=>by simp only[flatFs,a09]at h;have:=flatFs_at fs (i+1) j f h.2 (by simpa using hf);exact⟨by omega,this.2⟩
def litFs(P:Program):List Field->List (DataW Unit)->Option (List Value)
 | [],[]=>some []
 |f::fs,d::ds=>
  match lit1 P f.type d,litFs P fs ds with
  |some v,some l=>some (v::l)
  |_,_=>none
 |_,_=>none
theorem nB: ∀(fs:List Field) (ds:List (DataW Unit)) (l:List Value),litFs P fs ds=some l->l.length=fs.length/\ds.length=fs.length/\∀(i:Nat) f d,fs[i]?=some f->ds[i]?=some d->∃v,l[i]?=some v/\lit1 P f.type d=some v
 | [],[],l,h=>by simp only[litFs,a00]at h;subst h;exact⟨V,V,fun i f d h=>by simp at h⟩
 | [],_::_,l,h=>by cases h
 |_::_,[],l,h=>by cases h
 |f::fs,d::ds,l,h=>by
  simp only[litFs]at h;split at h
  ·rename_i v l1 hv hl;injection h with h;subst h;obtain⟨T,U,Z⟩:=nB fs ds l1 hl;refine⟨by simp[T],by simp[U],fun i g e N E=>?_⟩;cases i with
   |zero=>simp only[a0W,a00]at N E;subst N E;exact⟨v,V,hv⟩
   |succ i=>exact Z i g e (by simpa using N) (by simpa using E)
  cases h
theorem cells_struct{E:Nat->Bool}{fuel:Nat}{t:TypeId}{fs:Array Field}{cs:List Value}{U:List (DataW Unit)}{p:List MemPlace}{vs:List Value}(ht:P.underlying t=some (.struct fs))(ap:flatFs P 0 fs.toList=true)(hc:P.cellsOf t=fs.size)
  (h:DataW.trod enc P w base E held fuel t cs=some (.agg U,p)) (hv:litFs P fs.toList U=some vs):cs=vs:=by
 obtain⟨xs,n,_,hx,aa,a3,Z⟩:=DataW.trod_struct ht h
 simp only[a04,DataW.agg.injEq]at hx
 obtain⟨h1,h2,h3⟩:=nB _ _ _ hv
 have aA:=h1
 apply a1o
 intro i
 by_cases hi:i<fs.size
 ·have hf:fs[i]?=some fs[i]:=a0N hi;have N:fs.toList[i]?=some fs[i]:=by simp[hf]
  obtain⟨ho,ai⟩:=flatFs_at _ 0 i _ ap N;have hr:=Z i _ hf;have T:xs[i]?=some (xs[i]'M):=a06 M;have an:U[i]?=some (xs[i]'M).1:=by rw[hx.1];simp[T]
  obtain⟨v,av,aq⟩:=h3 i _ _ N an;rw[T]at hr;have al:=cells_lit1 (p:=(xs[i]'M).2) hr aq;rw[av];have e1:((cs.drop fs[i].offset).take (P.cellsOf fs[i].type))[0]?=some v:=by rw[al];rfl
  rw[ai,ho,a0z,if_pos M,a0L]at e1;simpa using e1
 rw[a0J (by rw[aa,hc];omega),a0J (by rw[h1];simpa using hi)]
def litRows(P:Program)(fs:List Field):List (DataW Unit)->Option (List (List Value))
 | []=>some []
 | .agg ds::r=>
  match litFs P fs ds,litRows P fs r with
  |some l,some m=>some (l::m)
  |_,_=>none
 |_::_=>none
theorem mu{fs:List Field}: ∀(ds:List (DataW Unit)) (m:List (List Value)),litRows P fs ds=some m->m.length=ds.length/\∀(i:Nat) l,m[i]?=some l->∃es,ds[i]?=some (.agg es)/\litFs P fs es=some l
 | [],m,h=>by simp only[litRows,a00]at h;subst h;exact⟨V,fun i l h=>by simp at h⟩
 |d::r,m,h=>by
  cases d<;>first|(cases h;done)|skip
  rename_i es;simp only[litRows]at h;split at h
  ·rename_i l m1 U Z;injection h with h;subst h;obtain⟨N,T⟩:=mu r m1 Z;refine⟨by simp[N],fun i l' E=>?_⟩;cases i with
   |zero=>simp only[a0W,a00]at E;subst E;exact⟨es,V,U⟩
   |succ i=>exact T i l' (by simpa using E)
  cases h
theorem cells?_at{a:Addr}: ∀{n:Nat} {l:List Value},w.cells? base a n=some l->∀i,i<n->l[i]?=w.cell? (a.add i)/\(w.cell? (a.add i)).isSome:=by
 intro n l h i hi;unfold World.cells? at h;split at h
 ·have U: ∀(r:List Nat) (l:List Value),r.mapM (fun i=>w.cell? (a.add i))=some l->∀(j:Nat) k,r[j]?=some k->l[j]?=w.cell? (a.add k)/\(w.cell? (a.add k)).isSome:=by
   intro r;induction r with
   |nil=>intro l _ j k E;simp at E
   |cons x r ih=>
    intro l N j k E
    simp only[a2y,Option.bind_eq_bind,Option.bind_eq_some_iff]at N
    obtain⟨v,T,m,Z,N⟩:=N
    cases N
    cases j with
    |zero=>simp only[a0W,a00]at E;subst E;exact⟨by rw[T];rfl,by rw[T];rfl⟩
    |succ j=>exact ih m Z j k (by simpa using E)
  exact U _ _ h i i (by rw[List.getElem?_range hi])
 cases h
theorem mD(k:Nat)(E:0<k): ∀(m:List (List Value)),(∀l∈m,l.length=k)->∀(i:Nat) v,m.flatten[i]?=some v->∃l,m[i/k]?=some l/\l[i%k]?=some v
 | [],_,i,v,h=>by simp at h
 |l::m,hm,i,v,h=>by
  have hl:=hm l (a0n ..);rw[a0Q]at h;by_cases hi:i<k
  ·rw[a0M M]at h;exact⟨l,by rw[Nat.div_eq_of_lt hi];rfl,by rw[Nat.mod_eq_of_lt hi];exact h⟩
  rw[a0U M,hl]at h;obtain⟨l',U,Z⟩:=mD k E m (fun x hx=>hm x (a0f _ hx)) (i-k) v h;have N:i/k=(i-k)/k+1:=by rw[Nat.div_eq_sub_div E M]
  have T:i%k=(i-k)%k:=by rw[Nat.mod_eq_sub_mod M]
  exact⟨l',by rw[N];exact U,by rw[T];exact Z⟩
theorem cells_table{fuel:Nat}{t e:TypeId}{fs:Array Field}{cs:List Value}{N:List (DataW Unit)}{p:List MemPlace}{m:List (List Value)}(ht:P.underlying t=some (.slice e))(he:P.underlying e=some (.struct fs))(a9:flatFs P 0 fs.toList=true)
  (hc:P.cellsOf e=fs.size) (Z:0<fs.size) (cc:0<N.length) (h:DataW.trod enc P w base (fun _=>true) held fuel t cs=some (.slice N [],p)) (hv:litRows P fs.toList N=some m):
  ∃c o,cs=[.slice (some ⟨c,o,none⟩) N.length N.length]/\∀i v,m.flatten[i]?=some v->w.cell? ⟨c,o+i,none⟩=some v:=by
 rcases DataW.trod_slice ht h with⟨_,hx⟩|⟨a,len,T,E,ay,n,_,a3,hx,_,hl,_,av,a8,b0,_⟩
 ·simp at hx
 simp only[a04,DataW.slice.injEq]at hx
 obtain⟨⟨hd,hr⟩,_⟩:=hx
 have ch:ay.length=0:=by have:=congrArg List.length hr;simpa using this.symm
 have b4:=(b0 V).1
 have a6:N.length=len:=by rw[hd];simpa using av
 have a2:T=len:=M
 subst a2
 obtain⟨cg,bz⟩:=mu _ _ hv
 obtain⟨c,o,sp⟩:=a
 have cell: ∀j,j<T->∃l,m[j]?=some l/\l.length=fs.size/\∀q,q<fs.size->w.cell? ((Addr.mk c o sp).add (j *fs.size)|>.add q)=l[q]?/\(w.cell? ((Addr.mk c o sp).add (j *fs.size)|>.add q)).isSome:=by
  intro j hj;have ao:m[j]?=some (m[j]'M):=a06 M;obtain⟨es,a7,an⟩:=bz j _ ao;have hE:=a8 j hj;rw[hc]at hE;have hy:E[j]?=some (E[j]'M):=a06 M;rw[hy]at hE;simp only[Option.bind_eq_some_iff]at hE;obtain⟨c1,a1,b2⟩:=hE;have a5:(E[j]'M).1= .agg es:=by
   have e0:N[j]?=some (E[j]'M).1:=by rw[show N[j]?=(List.map (fun x=>x.fst) E)[j]? from by rw[←hd],a14,hy];rfl
   rw[a7]at e0;exact(Option.some.inj e0).symm
  have aw:=cells_struct (p:=(E[j]'M).2) he a9 hc (by rw[b2,←a5]) an;subst aw;refine⟨_,ao,(nB _ _ _ an).1.trans (by simp),fun q hq=>?_⟩;have:=cells?_at a1 q hq;exact⟨this.1.symm,this.2⟩
 have ax:sp=none:=by
  obtain⟨l,_,_,h3⟩:=cell 0 M;have:=(h3 0 Z).2;cases sp with
  |none=>rfl
  |some z=>
   exfalso
   simp only[Addr.add,World.cell?,if_true]at this
   split at this<;>simp at this
 subst ax
 refine⟨c,o,by rw[a3,a6],fun i v bb=>?_⟩
 have ar: ∀l∈m,l.length=fs.size:=by intro l hl;obtain⟨j,hj,rfl⟩:=a0t.1 hl;obtain⟨l',U,h2,_⟩:=cell j M;rw[a06 hj]at U;rw[Option.some.inj U];exact h2
 obtain⟨l,U,h2⟩:=mD fs.size Z m ar i v bb
 have hj:i/fs.size<T:=by have:=(a0w.1 U).1;omega
 obtain⟨l',h3,h4,h5⟩:=cell _ hj
 rw[U]at h3
 obtain rfl:=Option.some.inj h3
 have h6:=(h5 (i%fs.size) (Nat.mod_lt _ Z)).1
 rw[h2]at h6
 have e:o+i/fs.size *fs.size+i%fs.size=o+i:=by rw[a1x,Nat.mul_comm,Nat.div_add_mod]
 have ad: ∀x k:Nat,(Addr.mk c x none).add k=⟨c,x+k,none⟩:=by
  intro x k;unfold Addr.add;by_cases hk:k=0
  ·subst hk;rfl
  simp[hk]
 rw[ad,ad,e]at h6
 exact h6
end
theorem cC(n:Nat)(cells:List Value)(b:Nat):(tabHeap n cells).get b=if b=1 then some (.cells cells none true) else if b=0 then some (.cells [.slice (some ⟨1,0,none⟩) n n] none true) else none:=by
 show((Tr.nil.set 0 _).set 1 _).get b=_;by_cases N:b=1
 ·subst N;rw[if_pos V,Tr.get_set_same]
 rw[if_neg N,Tr.get_set_ne _ _ (Ne.symm N)];by_cases E:b=0
 ·subst E;rw[if_pos V,Tr.get_set_same]
 rw[if_neg E,Tr.get_set_ne _ _ (Ne.symm E)];rfl
theorem ble_pos(n:Nat)(h:Nat.ble 1 n=true):0<n:=a0a h
theorem jR{P:Program}{K:bJ}(hK:KnownOK P 1 K){n m:Nat}{f:FuncId}{cells:List Value}(h:saysTrue (call P 1 K n f [] (tabHeap m cells))=true)(av:cells.all noA0=true){w:World}{c o:Nat}
  (h0:w.cell? ⟨0,0,none⟩=some (.slice (some ⟨c,o,none⟩) m m)) (ax:cells≠ []) (h1: ∀i v,cells[i]?=some v->w.cell? ⟨c,o+i,none⟩=some v):
  Calls P f #[] w fun e w'=>e= .returned (.bool true)/\Below w.heap.size w w':=by
 have ad: ∀{a:Addr} {v:Value},w.cell? a=some v->a.block<w.heap.size:=by
  intro a v N;unfold World.cell? at N;split at N
  ·rename_i U;exact(a0K.1 U).1
  cases N
 revert h
 cases aw:call P 1 K n f [] (tabHeap m cells) with
 |none=>intro h;cases h
 |some r=>
  obtain⟨v,H'⟩:=r
  intro h
  have N:v= .bool true:=by
   unfold saysTrue at h;split at h
   ·rename_i U;simp only[a00,a04]at U;exact U.1
   cases h
  subst N
  have ay:WF (tabHeap m cells):=fun b Z=>by have T:2<=b:=Z;rw[cC,if_neg M,if_neg M]
  obtain⟨_,aa⟩:=call_ok (G:=1) hK n f [] (tabHeap m cells) (.bool true) H' aw ay
  let μ:Emb:=fun b=>if b=1 then some ⟨c,o,none,0⟩ else if b=0 then some ⟨0,0,none,0⟩ else none
  have ag: ∀b x,(tabHeap m cells).get b=some x->x.rw=false:=by
   intro b x E;rw[cC]at E;split at E
   ·injection E with E;subst E;rfl
   split at E
   ·injection E with E;subst E;rfl
   cases E
  have al:WRel μ (tabHeap m cells) w:=by
   refine⟨fun b l x Z E=>?_,fun b1 b2 l1 l2 o1 o2 _ _ _ h3 _ h5 _=>?_⟩
   ·rw[cC]at E;by_cases e1:b=1
    ·subst e1;rw[if_pos rfl]at E;injection E with E;subst E;have T:l=⟨c,o,none,0⟩:=(Option.some.inj Z).symm;subst T;refine⟨V,V,?_,fun i v N=>⟨v,h1 i v N,.atom v (a0m.1 av v (a0r N))⟩⟩;cases cells with
     |nil=>exact absurd V ax
     |cons v r=>exact ad (h1 0 v V)
    rw[if_neg e1]at E;by_cases e0:b=0
    ·subst e0;rw[if_pos rfl]at E;injection E with E;subst E;have T:l=⟨0,0,none,0⟩:=(Option.some.inj Z).symm;subst T;refine⟨V,V,ad h0,fun i v N=>?_⟩;cases i with
     |zero=>
      simp only[a0W,a00]at N;subst N
      exact⟨_,h0,.sliceC 1 0 m m ⟨c,o,none,0⟩ V V⟩
     |succ i=>simp at N
    rw[if_neg e0]at E;cases E
   rw[ag b1 o1 h3]at h5;cases h5
  refine(aa μ w #[] LRel.nil (fun g hg=>?_) al (fun b Z _=>?_)).mono ?_
  ·have:g=0:=M
   subst this;exact⟨⟨0,0,none,0⟩,V,V,V⟩
  ·have T:2<=b:=Z;show(if b=1 then _ else if b=0 then _ else none)=none;rw[if_neg M,if_neg M]
  rintro e w' ⟨μ',v',rfl,hr,hp⟩
  rw[hr.eq2 rfl]
  refine⟨V,hp.os,hp.tape,hp.out,hp.grow,fun k hk=>hp.keep k hk fun b l x _ E ai=>?_⟩
  rw[ag b x E]at ai;cases ai
end Go.R
end
namespace Go.R
def CfLe(cf cf':cr):Prop:= ∀f a H r,cf f a H=some r->cf' f a H=some r
def ExLe(ex E:Code->St->Option (Ex×St)):Prop:= ∀c s r,ex c s=some r->E c s=some r
section
variable {P:Program} {G:Nat} {cf cf':cr} {ops:Array Oper}
theorem step_mono(h:CfLe cf cf'){o:Oper}{s T:St}(hs:step P G cf ops o s=some T):step P G cf' ops o s=some T:=by
 unfold step at hs⊢;cases N:bf ops o s.tmps with
 |false=>rw[N]at hs;exact hs
 |true=>
  rw[N]at hs
  cases E:o.op.operands.toList.all (bo G) with
  |false=>rw[E]at hs;cases hs
  |true=>
   rw[E]at hs
   simp only[cond_true]at hs⊢
   split at hs
   ·exact hs
   ·exact hs
   ·split at hs
    ·rename_i v U hc;rw[h _ _ _ _ hc];exact hs
    cases hs
   cases hs
theorem gZ(h:CfLe cf cf'): ∀(l:List Oper) (s E:St),fZ P G cf ops l s=some E->fZ P G cf' ops l s=some E
 | [],_,_,hs=>hs
 |o::l,s,E,hs=>by
  rw[bY]at hs⊢;split at hs
  ·rename_i t N;rw[step_mono h N];exact gZ h l _ _ hs
  cases hs
theorem stepD_mono(h:CfLe cf cf'){o:Oper}{s:St}{r:St×Inf}(hs:gW P G cf ops o s=some r):gW P G cf' ops o s=some r:=by
 unfold gW at hs⊢;split at hs
 ·rename_i t E;rw[step_mono h E];exact hs
 cases hs
theorem eR(h:CfLe cf cf'): ∀(l:List Oper) (i:Nat) (fs:List (Nat×Inf)) (s s':St),bw P G cf ops i fs l s=some s'->bw P G cf' ops i fs l s=some s'
 | [],_,_,_,_,hs=>by unfold bw at hs⊢;exact hs
 |o::l,i,fs,s,s',hs=>by
  unfold bw at hs⊢;split at hs
  ·rename_i t f N;rw[stepD_mono h N];simp only;cases E:cj ops (ce ops) i f fs with
   |false=>rw[E]at hs;cases hs
   |true=>rw[E]at hs;simp only[cond_true]at hs⊢;exact eR h l _ _ _ _ hs
  cases hs
theorem lN(h:CfLe cf cf'){E:Bool}{s T:St}(hs:bT P G cf ops E s=some T):bT P G cf' ops E s=some T:=by
 unfold bT at hs⊢;cases E with
 |false=>exact gZ h _ _ _ hs
 |true=>
  simp only[cond_true]at hs⊢
  cases N:bh ops&&P.follows .mixedOrders with
  |false=>rw[N]at hs;cases hs
  |true=>rw[N]at hs;simp only[cond_true]at hs⊢;exact eR h _ _ _ _ _ hs
theorem gM{r T:Option (Ex×St)}{k N:St->Option (Ex×St)}(Z: ∀x,r=some x->T=some x)(U: ∀s x,k s=some x->N s=some x){x:Ex×St}(h:gx r k=some x):gx T N=some x:=by
 cases E:r with
 |none=>rw[E]at h;cases h
 |some y=>
  rw[Z y E]
  rw[E]at h
  obtain⟨e,s⟩:=y
  cases e with
  |normal=>exact U _ _ h
  |exit i=>exact h
  |ret=>exact h
theorem jH{id:Nat}{r N:Option (Ex×St)}(T: ∀x,r=some x->N=some x){x:Ex×St}(h:db id r=some x):db id N=some x:=by
 cases E:r with
 |none=>rw[E]at h;cases h
 |some y=>rw[T y E];rw[E]at h;exact h
theorem execC_mono(h:CfLe cf cf'){ex T:Code->St->Option (Ex×St)}(U:ExLe ex T)(c:Code): ∀(s:St) (x:Ex×St),eL P G ex cf c s=some x->eL P G T cf' c s=some x:=by
 induction c with
 |skip=>intro s x E;exact E
 |region id ops draw=>
  intro s x E
  rw[gw]at E⊢
  cases N:bT P G cf ops draw s with
  |none=>rw[N]at E;cases E
  |some t=>rw[lN h N];rw[N]at E;exact E
 |seq a b iha ihb=>
  intro s x E
  rw[lu]at E⊢
  exact gM (iha s) ihb E
 |cond c t e iht ihe=>
  intro s x E
  rw[jh]at E⊢
  cases N:bo G c with
  |false=>rw[N]at E;cases E
  |true=>
   rw[N]at E
   simp only[cond_true]at E⊢
   unfold mJ at E⊢
   split at E
   ·rename_i b Z;cases b with
    |true=>exact iht s x E
    |false=>exact ihe s x E
   cases E
 |block id b ih=>
  intro s x E
  rw[io]at E⊢
  exact jH (ih s) E
 |loop b ih=>
  intro s x E
  rw[jg]at E⊢
  exact gM (ih s) (U _) E
 |exit id=>intro s x E;exact E
 |ret=>intro s x E;exact E
 |_=>intro s x E;cases E
theorem mQ{ex E:Code->St->Option (Ex×St)}(N:ExLe ex E):CfLe (nQ P ex) (nQ P E):=by
 intro f a H r h;unfold nQ at h⊢;split at h
 ·split at h
  ·split at h
   ·rename_i s T;rw[N _ _ _ T];exact h
   ·rename_i s T;rw[N _ _ _ T];exact h
   cases h
  cases h
 cases h
theorem mP{K:bJ}(h:CfLe cf cf'):CfLe (lR K cf) (lR K cf'):=by
 intro f a H r E;unfold lR at E⊢;split at E
 ·exact E
 exact h _ _ _ _ E
theorem iS{K:bJ}: ∀n,ExLe (mH P G K n) (mH P G K (n+1))
 |0=>fun c s r h=>by cases h
 |n+1=>fun c s r h=>execC_mono (mP (mQ (iS n))) (iS n) c s r h
theorem iT{K:bJ}{n m:Nat}(h:n<=m):ExLe (mH P G K n) (mH P G K m):=by
 induction h with
 |refl=>exact fun _ _ _ h=>h
 |step _ ih=>exact fun c s r h=>iS _ c s r (ih c s r h)
theorem fo{K:bJ}{n m:Nat}(h:n<=m):CfLe (call P G K n) (call P G K m):=mP (mQ (iT h))
end
end Go.R
